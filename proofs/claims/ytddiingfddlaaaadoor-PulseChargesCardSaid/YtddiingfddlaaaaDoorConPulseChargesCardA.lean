/- The tables of the library, as the rows say that they lie: what the layer wants of them. By an AI agent; nothing here is trusted. -/
import Derived.Test.YtddiingfddlaaaaDoorRows
import Derived.Test.YtddiingfddlaaaaDoorLayC
import Derived.Test.YtddiingfddlaaaaDoorKode
import Derived.ProofKit
import Derived.LaidMore
import Derived.OpenShut
import Derived.Stop.Joined
import Derived.Shelf.Slices.Clone
import Derived.Shelf.Spec.BitsCarry
set_option linter.defProp false
set_option linter.unusedSimpArgs false
set_option linter.unusedVariables false
namespace Go.Proofs.YtddiingfddlaaaaDoor
open Go.ChangeShapes Go.WideShapes Go.ChangeAt Go.RowKit
open Go.Av

def laidP : List (String × DataW Unit) := [("math/bits.deBruijn32tab", Rows.laid_math_bits_deBruijn32tab), ("math/bits.deBruijn64tab", Rows.laid_math_bits_deBruijn64tab), ("internal/strconv.uint64pow10", Rows.laid_internal_strconv_uint64pow10)]

theorem ownKn : ownKnob Tryd.prog.godebug = none := by kernel_rfl
set_option maxRecDepth 100000 in
/-- The door's own heap meets the condition. -/
theorem door_met (os : Os) (args : Array Value) : laidMetH Tryd.prog laidP ((World.doorLaid Tryd.prog 2000 os).forCall (fun _ _ => 0) ⟨#[], args, []⟩).memory :=
  laidMetH_of_parts3 (fuel := 8) (laidMet_of_run' 8 (by kernel_rfl) (by kernel_rfl)) (by kernel_rfl) (by kernel_rfl)

/-- A table that reads so holds so. -/
theorem tab_cells {W : World} {g : Nat} {name : String} {t e : TypeId} {n f : Nat} {k : IntKind} {cs : Array Value} {ns : List Int} {p : List MemPlace} {H : Type} {enc : TypeId × Value → H} {sp : Nat → Bool} {held : Bool} (hg : Tryd.prog.globalNamed name = some g)
    (hv : W.var? Tryd.prog name = some cs) (ht : Tryd.prog.underlying t = some (.array n e)) (he : Tryd.prog.underlying e = some (.int k)) (hc : Tryd.prog.cellsOf e = 1) (hn : ns.length = n) (hpos : 0 < n)
    (hd : DataW.trod enc Tryd.prog W 0 sp held f t cs.toList = some (.agg (ns.map fun m => .lit (.int k m)), p)) :
    g < W.heap.size ∧ ∃ cur ty fr, W.heap[g]? = some (.cells cur ty fr) ∧ ∀ (j : Nat) (m : Int), ns[j]? = some m → cur[j]? = some (.int k m) := by
  obtain ⟨xs, m1, rfl, hx1, _, hlen, hel⟩ := DataW.trod_array ht hd
  simp only [Prod.mk.injEq, DataW.agg.injEq] at hx1
  have key : ∀ (j : Nat) (m : Int), ns[j]? = some m → cs[j]? = some (.int k m) := by
    intro j m hj
    have hjn : j < n := by rw [← hn]; exact (List.getElem?_eq_some_iff.1 hj).1
    have h1 := hel j hjn
    rw [hc, Nat.mul_one] at h1
    obtain ⟨x, hx⟩ : ∃ x, xs[j]? = some x := ⟨xs[j]'(by omega), List.getElem?_eq_getElem (by omega)⟩
    rw [hx] at h1
    obtain ⟨q, e1, e2, _⟩ := DataW.trod_int he h1
    have h2 : (xs.map (·.1))[j]? = some (.lit (.int k q)) := by rw [List.getElem?_map, hx, e2]; rfl
    rw [← hx1.1, List.getElem?_map, hj] at h2
    simp only [Option.map_some, Option.some.injEq, DataW.lit.injEq, Lit.int.injEq, true_and] at h2
    subst h2
    have h3 : ((cs.toList.drop j).take 1)[0]? = some (.int k m) := by rw [e1]; rfl
    rw [List.getElem?_take, if_pos (by omega), List.getElem?_drop] at h3
    simpa using h3
  have h0 : ∃ m, ns[0]? = some m := ⟨ns[0]'(by omega), List.getElem?_eq_getElem (by omega)⟩
  obtain ⟨m0, hm0⟩ := h0
  have hcell := World.var?_cell hg hv
  have hb : ∃ cur ty fr, W.heap[g]? = some (.cells cur ty fr) := by
    have := (hcell 0).trans (key 0 m0 hm0)
    unfold World.cell? at this
    split at this
    · rename_i cur ty fr hb; exact ⟨cur, ty, fr, hb⟩
    · cases this
  obtain ⟨cur, ty, fr, hb⟩ := hb
  refine ⟨(Array.getElem?_eq_some_iff.1 hb).1, cur, ty, fr, hb, fun j m hj => ?_⟩
  have := (hcell j).trans (key j m hj)
  unfold World.cell? at this
  rw [hb] at this
  simpa using this

theorem g32 : Tryd.prog.globalNamed "math/bits.deBruijn32tab" = some 0 := by kernel_rfl
theorem g64 : Tryd.prog.globalNamed "math/bits.deBruijn64tab" = some 1 := by kernel_rfl
theorem g10 : Tryd.prog.globalNamed "internal/strconv.uint64pow10" = some 4 := by kernel_rfl

/-- What the condition gives. -/
theorem of_laid {W : World} (h : laidMetH Tryd.prog laidP W) : GOk (fun b => b < W.heap.size) W := by
  rw [MakeChecks.laidMetH_plain _ _ _ (by kernel_rfl)] at h
  obtain ⟨ps, ⟨n0, t0, cs0, f0, p0, q0, hn0, ht0, hv0, hd0, ⟨n1, t1, cs1, f1, p1, q1, hn1, ht1, hv1, hd1, ⟨n2, t2, cs2, f2, p2, q2, hn2, ht2, hv2, hd2, _⟩, _⟩, _⟩, _⟩ := h
  obtain rfl := Option.some.inj (g32.symm.trans hn0)
  obtain rfl := Option.some.inj (g64.symm.trans hn1)
  obtain rfl := Option.some.inj (g10.symm.trans hn2)
  obtain rfl := Option.some.inj ((show (Tryd.prog.globals[0]?).map (·.type) = some 146 by kernel_rfl).symm.trans ht0)
  obtain rfl := Option.some.inj ((show (Tryd.prog.globals[1]?).map (·.type) = some 147 by kernel_rfl).symm.trans ht1)
  obtain rfl := Option.some.inj ((show (Tryd.prog.globals[4]?).map (·.type) = some 161 by kernel_rfl).symm.trans ht2)
  have c0 := tab_cells (ns := [0, 1, 28, 2, 29, 14, 24, 3, 30, 22, 20, 15, 25, 17, 4, 8, 31, 27, 13, 23, 21, 19, 16, 7, 26, 12, 18, 6, 11, 5, 10, 9]) hn0 hv0 Tryd.underlying146 Tryd.underlying5 (by kernel_rfl) rfl (by decide) hd0
  have c1 := tab_cells (ns := [0, 1, 56, 2, 57, 49, 28, 3, 61, 58, 42, 50, 38, 29, 17, 4, 62, 47, 59, 36, 45, 43, 51, 22, 53, 39, 33, 30, 24, 18, 12, 5, 63, 55, 48, 27, 60, 41, 37, 16, 46, 35, 44, 21, 52, 32, 23, 11, 54, 26, 40, 15, 34, 20, 31, 10, 25, 14, 19, 9, 13, 8, 7, 6]) hn1 hv1 Tryd.underlying147 Tryd.underlying5 (by kernel_rfl) rfl (by decide) hd1
  have c2 := tab_cells (ns := [1, 10, 100, 1000, 10000, 100000, 1000000, 10000000, 100000000, 1000000000, 10000000000, 100000000000, 1000000000000, 10000000000000, 100000000000000, 1000000000000000, 10000000000000000, 100000000000000000, 1000000000000000000, 10000000000000000000]) hn2 hv2 Tryd.underlying161 Tryd.underlying114 (by kernel_rfl) rfl (by decide) hd2
  intro p hp
  simp only [gTab, List.nil_append, List.mem_append, List.mem_singleton] at hp
  rcases hp with (rfl | rfl) | rfl
  · exact c1
  · exact c0
  · exact c2
end Go.Proofs.YtddiingfddlaaaaDoor

/- Contracts of small functions. By an AI agent; nothing here is trusted. -/
namespace Go.Proofs.YtddiingfddlaaaaDoor
open Go.Av

abbrev i64 (n : Int) : AV := .int .i64 n
theorem within_s (n lo hi : Int) : Sound Tryd.prog 63 [.int .i64 n, .int .i64 lo, .int .i64 hi] (.bool (decide (lo ≤ n ∧ n ≤ hi))) := by
  refine sound_W f_pulse_within (Nat.le_of_ble_eq_true rfl) ?_
  simp only [c_pulse_within, vcC, Int.reduceEq, Int.reduceNe, Int.reduceLT, Int.reduceLE, Nat.reduceEqDiff, Nat.reduceAdd, reduceIte, reduceCtorEq, Nat.reduceLT, Nat.reduceLeDiff, eq_self, Option.bind_some, Option.map_some, List.map_cons, List.map_nil, List.length_cons, List.length_nil, Option.getD_some, Option.getD_none, List.all_cons, List.all_nil, List.set_cons_zero, List.set_cons_succ, List.replicate_succ, List.replicate_zero, List.getElem?_cons_zero, List.getElem?_cons_succ, List.drop_succ_cons, List.drop_zero, List.take_succ_cons, List.take_zero]
  refine brB_split (fun h => ?_) (fun h => ?_) <;> simp only [h, vcC, Int.reduceEq, Int.reduceNe, Int.reduceLT, Int.reduceLE, Nat.reduceEqDiff, Nat.reduceAdd, reduceIte, reduceCtorEq, Nat.reduceLT, Nat.reduceLeDiff, eq_self, Option.bind_some, Option.map_some, List.map_cons, List.map_nil, List.length_cons, List.length_nil, Option.getD_some, Option.getD_none, List.all_cons, List.all_nil, List.set_cons_zero, List.set_cons_succ, List.replicate_succ, List.replicate_zero, List.getElem?_cons_zero, List.getElem?_cons_succ, List.drop_succ_cons, List.drop_zero, List.take_succ_cons, List.take_zero]
  · exact bool_eq (by simp at h; simp [h])
  · simp at h; simp; omega

theorem unless_s (ok : Bool) (e : Int) : Sound Tryd.prog 59 [.bool ok, .int .i64 e] (.int .i64 (if ok then 0 else e)) := by
  refine sound_W f_pulse_unless (Nat.le_of_ble_eq_true rfl) ?_
  simp only [c_pulse_unless, vcC, Int.reduceEq, Int.reduceNe, Int.reduceLT, Int.reduceLE, Nat.reduceEqDiff, Nat.reduceAdd, reduceIte, reduceCtorEq, Nat.reduceLT, Nat.reduceLeDiff, eq_self, Option.bind_some, Option.map_some, List.map_cons, List.map_nil, List.length_cons, List.length_nil, Option.getD_some, Option.getD_none, List.all_cons, List.all_nil, List.set_cons_zero, List.set_cons_succ, List.replicate_succ, List.replicate_zero, List.getElem?_cons_zero, List.getElem?_cons_succ, List.drop_succ_cons, List.drop_zero, List.take_succ_cons, List.take_zero]
  refine brB_split (fun h => ?_) (fun h => ?_) <;> subst h <;> simp only [vcC, Int.reduceEq, Int.reduceNe, Int.reduceLT, Int.reduceLE, Nat.reduceEqDiff, Nat.reduceAdd, reduceIte, reduceCtorEq, Nat.reduceLT, Nat.reduceLeDiff, eq_self, Option.bind_some, Option.map_some, List.map_cons, List.map_nil, List.length_cons, List.length_nil, Option.getD_some, Option.getD_none, List.all_cons, List.all_nil, List.set_cons_zero, List.set_cons_succ, List.replicate_succ, List.replicate_zero, List.getElem?_cons_zero, List.getElem?_cons_succ, List.drop_succ_cons, List.drop_zero, List.take_succ_cons, List.take_zero]

def firstErr (l : List Int) : Int := (l.find? (· ≠ 0)).getD 0

theorem first_s (l : List Int) (hl : l.length < 4000000000000000000) : Sound Tryd.prog 57 [.sl (ints l)] (.int .i64 (firstErr l)) := by
  refine sound_W f_pulse_first (Nat.le_of_ble_eq_true rfl) ?_
  simp only [c_pulse_first, vcC, Int.reduceEq, Int.reduceNe, Int.reduceLT, Int.reduceLE, Nat.reduceEqDiff, Nat.reduceAdd, reduceIte, reduceCtorEq, Nat.reduceLT, Nat.reduceLeDiff, eq_self, Option.bind_some, Option.map_some, List.map_cons, List.map_nil, List.length_cons, List.length_nil, Option.getD_some, Option.getD_none, List.all_cons, List.all_nil, List.set_cons_zero, List.set_cons_succ, List.replicate_succ, List.replicate_zero, List.getElem?_cons_zero, List.getElem?_cons_succ, List.drop_succ_cons, List.drop_zero, List.take_succ_cons, List.take_zero]
  refine W_loop (α := PSigma fun i : Nat => i ≤ l.length ∧ ∀ x ∈ l.take i, x = 0) (fun i => (envOf [(5, .sl (ints l)), (6, .int .i64 l.length), (7, .int .i64 i.1)], noStore)) (fun i => l.length - i.1) ⟨0, by simp⟩ (weakE _ ?_) (fun ⟨i, hi, hn⟩ => ?_)
  · simp only [vcC, Int.reduceEq, Int.reduceNe, Int.reduceLT, Int.reduceLE, Nat.reduceEqDiff, Nat.reduceAdd, reduceIte, reduceCtorEq, Nat.reduceLT, Nat.reduceLeDiff, eq_self, Option.bind_some, Option.map_some, List.map_cons, List.map_nil, List.length_cons, List.length_nil, Option.getD_some, Option.getD_none, List.all_cons, List.all_nil, List.set_cons_zero, List.set_cons_succ, List.replicate_succ, List.replicate_zero, List.getElem?_cons_zero, List.getElem?_cons_succ, List.drop_succ_cons, List.drop_zero, List.take_succ_cons, List.take_zero]; rfl
  · simp only [vcC, Int.reduceEq, Int.reduceNe, Int.reduceLT, Int.reduceLE, Nat.reduceEqDiff, Nat.reduceAdd, reduceIte, reduceCtorEq, Nat.reduceLT, Nat.reduceLeDiff, eq_self, Option.bind_some, Option.map_some, List.map_cons, List.map_nil, List.length_cons, List.length_nil, Option.getD_some, Option.getD_none, List.all_cons, List.all_nil, List.set_cons_zero, List.set_cons_succ, List.replicate_succ, List.replicate_zero, List.getElem?_cons_zero, List.getElem?_cons_succ, List.drop_succ_cons, List.drop_zero, List.take_succ_cons, List.take_zero]
    refine brB_split (fun h => ?_) (fun h => ?_)
    · have h' : i < l.length := by (simp only [decide_eq_true_eq, decide_eq_false_iff_not, Bool.not_true, I64, Bool.not_eq_true', Bool.not_eq_false', bne_iff_ne, beq_iff_eq, ne_eq] at *; omega)
      simp only [ints_get l i h', vcC, Int.reduceEq, Int.reduceNe, Int.reduceLT, Int.reduceLE, Nat.reduceEqDiff, Nat.reduceAdd, reduceIte, reduceCtorEq, Nat.reduceLT, Nat.reduceLeDiff, eq_self, Option.bind_some, Option.map_some, List.map_cons, List.map_nil, List.length_cons, List.length_nil, Option.getD_some, Option.getD_none, List.all_cons, List.all_nil, List.set_cons_zero, List.set_cons_succ, List.replicate_succ, List.replicate_zero, List.getElem?_cons_zero, List.getElem?_cons_succ, List.drop_succ_cons, List.drop_zero, List.take_succ_cons, List.take_zero]
      refine ⟨by omega, ?_⟩
      refine brB_split (fun h => ?_) (fun h => ?_)
      · simp only [vcC, Int.reduceEq, Int.reduceNe, Int.reduceLT, Int.reduceLE, Nat.reduceEqDiff, Nat.reduceAdd, reduceIte, reduceCtorEq, Nat.reduceLT, Nat.reduceLeDiff, eq_self, Option.bind_some, Option.map_some, List.map_cons, List.map_nil, List.length_cons, List.length_nil, Option.getD_some, Option.getD_none, List.all_cons, List.all_nil, List.set_cons_zero, List.set_cons_succ, List.replicate_succ, List.replicate_zero, List.getElem?_cons_zero, List.getElem?_cons_succ, List.drop_succ_cons, List.drop_zero, List.take_succ_cons, List.take_zero]
        have h0 : l[i] ≠ 0 := by simpa using h
        have hs : l.find? (· ≠ 0) = some l[i] := by
          rw [List.find?_eq_some_iff_getElem]
          exact ⟨by simpa using h0, i, h', rfl, fun j hj => by simp [hn l[j] (by rw [List.mem_take_iff_getElem]; exact ⟨j, by omega, rfl⟩)]⟩
        unfold firstErr
        rw [hs]; rfl
      · simp only [vcC, Int.reduceEq, Int.reduceNe, Int.reduceLT, Int.reduceLE, Nat.reduceEqDiff, Nat.reduceAdd, reduceIte, reduceCtorEq, Nat.reduceLT, Nat.reduceLeDiff, eq_self, Option.bind_some, Option.map_some, List.map_cons, List.map_nil, List.length_cons, List.length_nil, Option.getD_some, Option.getD_none, List.all_cons, List.all_nil, List.set_cons_zero, List.set_cons_succ, List.replicate_succ, List.replicate_zero, List.getElem?_cons_zero, List.getElem?_cons_succ, List.drop_succ_cons, List.drop_zero, List.take_succ_cons, List.take_zero]
        refine ⟨by (simp only [decide_eq_true_eq, decide_eq_false_iff_not, Bool.not_true, I64, Bool.not_eq_true', Bool.not_eq_false', bne_iff_ne, beq_iff_eq, ne_eq] at *; omega), ⟨i + 1, by omega, ?_⟩, by simp only; omega, weakE _ ?_⟩
        · rw [List.take_succ_eq_append_getElem h']
          intro x hx
          rcases List.mem_append.1 hx with hx | hx
          · exact hn x hx
          · simp at hx h; rw [hx, h]
        · simp only [vcC, Int.reduceEq, Int.reduceNe, Int.reduceLT, Int.reduceLE, Nat.reduceEqDiff, Nat.reduceAdd, reduceIte, reduceCtorEq, Nat.reduceLT, Nat.reduceLeDiff, eq_self, Option.bind_some, Option.map_some, List.map_cons, List.map_nil, List.length_cons, List.length_nil, Option.getD_some, Option.getD_none, List.all_cons, List.all_nil, List.set_cons_zero, List.set_cons_succ, List.replicate_succ, List.replicate_zero, List.getElem?_cons_zero, List.getElem?_cons_succ, List.drop_succ_cons, List.drop_zero, List.take_succ_cons, List.take_zero]; simp
    · simp only [vcC, Int.reduceEq, Int.reduceNe, Int.reduceLT, Int.reduceLE, Nat.reduceEqDiff, Nat.reduceAdd, reduceIte, reduceCtorEq, Nat.reduceLT, Nat.reduceLeDiff, eq_self, Option.bind_some, Option.map_some, List.map_cons, List.map_nil, List.length_cons, List.length_nil, Option.getD_some, Option.getD_none, List.all_cons, List.all_nil, List.set_cons_zero, List.set_cons_succ, List.replicate_succ, List.replicate_zero, List.getElem?_cons_zero, List.getElem?_cons_succ, List.drop_succ_cons, List.drop_zero, List.take_succ_cons, List.take_zero]
      have : i = l.length := by (simp only [decide_eq_true_eq, decide_eq_false_iff_not, Bool.not_true, I64, Bool.not_eq_true', Bool.not_eq_false', bne_iff_ne, beq_iff_eq, ne_eq] at *; omega)
      subst this
      unfold firstErr
      rw [List.take_length] at hn
      rw [List.find?_eq_none.2 (fun x hx => by simp [hn x hx])]
      rfl

/-- The first index where it holds, or -1. -/
def idxOf {α : Type} (l : List α) (p : α → Bool) : Int := match l.findIdx? p with
  | some i => i
  | none => -1

theorem map_fx1 {caps : List AV} (h : ∀ c ∈ caps, fx1 c = true) (s : Store) (n : Nat) : caps.map (bor s n) = caps := by
  conv => rhs; rw [← List.map_id caps]
  exact List.map_congr_left fun c hc => (fx1_spec (h c hc)).2 s n

theorem idxFunc_int_s (l : List Int) (f : FuncId) (caps : List AV) (p : Int → Bool) (hl : l.length < 4000000000000000000) (hc : ∀ c ∈ caps, fx1 c = true)
    (hp : ∀ x ∈ l, Sound Tryd.prog f (.int .i64 x :: caps) (.bool (p x))) : Sound Tryd.prog 91 [.sl (ints l), .fn f caps] (.int .i64 (idxOf l p)) := by
  refine sound_W f_slices_IndexFunc_int_int (Nat.le_of_ble_eq_true rfl) ?_
  simp only [c_slices_IndexFunc_int_int, vcC, Int.reduceEq, Int.reduceNe, Int.reduceLT, Int.reduceLE, Nat.reduceEqDiff, Nat.reduceAdd, reduceIte, reduceCtorEq, Nat.reduceLT, Nat.reduceLeDiff, eq_self, Option.bind_some, Option.map_some, List.map_cons, List.map_nil, List.length_cons, List.length_nil, Option.getD_some, Option.getD_none, List.all_cons, List.all_nil, List.set_cons_zero, List.set_cons_succ, List.replicate_succ, List.replicate_zero, List.getElem?_cons_zero, List.getElem?_cons_succ, List.drop_succ_cons, List.drop_zero, List.take_succ_cons, List.take_zero]
  refine W_loop (α := PSigma fun i : Nat => i ≤ l.length ∧ ∀ x ∈ l.take i, p x = false) (fun i => (envOf [(0, .sl (ints l)), (1, .fn f caps), (6, .sl (ints l)), (7, .int .i64 l.length), (8, .int .i64 i.1)], noStore)) (fun i => l.length - i.1) ⟨0, by simp⟩ (weakE _ ?_) (fun ⟨i, hi, hn⟩ => ?_)
  · simp only [vcC, Int.reduceEq, Int.reduceNe, Int.reduceLT, Int.reduceLE, Nat.reduceEqDiff, Nat.reduceAdd, reduceIte, reduceCtorEq, Nat.reduceLT, Nat.reduceLeDiff, eq_self, Option.bind_some, Option.map_some, List.map_cons, List.map_nil, List.length_cons, List.length_nil, Option.getD_some, Option.getD_none, List.all_cons, List.all_nil, List.set_cons_zero, List.set_cons_succ, List.replicate_succ, List.replicate_zero, List.getElem?_cons_zero, List.getElem?_cons_succ, List.drop_succ_cons, List.drop_zero, List.take_succ_cons, List.take_zero]; rfl
  · simp only [vcC, Int.reduceEq, Int.reduceNe, Int.reduceLT, Int.reduceLE, Nat.reduceEqDiff, Nat.reduceAdd, reduceIte, reduceCtorEq, Nat.reduceLT, Nat.reduceLeDiff, eq_self, Option.bind_some, Option.map_some, List.map_cons, List.map_nil, List.length_cons, List.length_nil, Option.getD_some, Option.getD_none, List.all_cons, List.all_nil, List.set_cons_zero, List.set_cons_succ, List.replicate_succ, List.replicate_zero, List.getElem?_cons_zero, List.getElem?_cons_succ, List.drop_succ_cons, List.drop_zero, List.take_succ_cons, List.take_zero]
    refine brB_split (fun h => ?_) (fun h => ?_)
    · have h' : i < l.length := by (simp only [decide_eq_true_eq, decide_eq_false_iff_not, Bool.not_true, I64, Bool.not_eq_true', Bool.not_eq_false', bne_iff_ne, beq_iff_eq, ne_eq] at *; omega)
      simp only [ints_get l i h', vcC, Int.reduceEq, Int.reduceNe, Int.reduceLT, Int.reduceLE, Nat.reduceEqDiff, Nat.reduceAdd, reduceIte, reduceCtorEq, Nat.reduceLT, Nat.reduceLeDiff, eq_self, Option.bind_some, Option.map_some, List.map_cons, List.map_nil, List.length_cons, List.length_nil, Option.getD_some, Option.getD_none, List.all_cons, List.all_nil, List.set_cons_zero, List.set_cons_succ, List.replicate_succ, List.replicate_zero, List.getElem?_cons_zero, List.getElem?_cons_succ, List.drop_succ_cons, List.drop_zero, List.take_succ_cons, List.take_zero]
      refine ⟨by omega, ?_⟩
      simp only [List.map_append, List.cons_append, List.nil_append, map_fx1 hc, vcC, Int.reduceEq, Int.reduceNe, Int.reduceLT, Int.reduceLE, Nat.reduceEqDiff, Nat.reduceAdd, reduceIte, reduceCtorEq, Nat.reduceLT, Nat.reduceLeDiff, eq_self, Option.bind_some, Option.map_some, List.map_cons, List.map_nil, List.length_cons, List.length_nil, Option.getD_some, Option.getD_none, List.all_cons, List.all_nil, List.set_cons_zero, List.set_cons_succ, List.replicate_succ, List.replicate_zero, List.getElem?_cons_zero, List.getElem?_cons_succ, List.drop_succ_cons, List.drop_zero, List.take_succ_cons, List.take_zero]
      refine callS_of (hp _ (List.getElem_mem h')) ?_
      simp only [vcC, Int.reduceEq, Int.reduceNe, Int.reduceLT, Int.reduceLE, Nat.reduceEqDiff, Nat.reduceAdd, reduceIte, reduceCtorEq, Nat.reduceLT, Nat.reduceLeDiff, eq_self, Option.bind_some, Option.map_some, List.map_cons, List.map_nil, List.length_cons, List.length_nil, Option.getD_some, Option.getD_none, List.all_cons, List.all_nil, List.set_cons_zero, List.set_cons_succ, List.replicate_succ, List.replicate_zero, List.getElem?_cons_zero, List.getElem?_cons_succ, List.drop_succ_cons, List.drop_zero, List.take_succ_cons, List.take_zero]
      refine brB_split (fun h => ?_) (fun h => ?_)
      · simp only [vcC, Int.reduceEq, Int.reduceNe, Int.reduceLT, Int.reduceLE, Nat.reduceEqDiff, Nat.reduceAdd, reduceIte, reduceCtorEq, Nat.reduceLT, Nat.reduceLeDiff, eq_self, Option.bind_some, Option.map_some, List.map_cons, List.map_nil, List.length_cons, List.length_nil, Option.getD_some, Option.getD_none, List.all_cons, List.all_nil, List.set_cons_zero, List.set_cons_succ, List.replicate_succ, List.replicate_zero, List.getElem?_cons_zero, List.getElem?_cons_succ, List.drop_succ_cons, List.drop_zero, List.take_succ_cons, List.take_zero]
        have hs : l.findIdx? p = some i := by
          rw [List.findIdx?_eq_some_iff_getElem]
          refine ⟨h', h, fun j hj => ?_⟩
          have := hn l[j] (by rw [List.mem_take_iff_getElem]; exact ⟨j, by omega, rfl⟩)
          simp [this]
        simp [idxOf, hs]
      · simp only [vcC, Int.reduceEq, Int.reduceNe, Int.reduceLT, Int.reduceLE, Nat.reduceEqDiff, Nat.reduceAdd, reduceIte, reduceCtorEq, Nat.reduceLT, Nat.reduceLeDiff, eq_self, Option.bind_some, Option.map_some, List.map_cons, List.map_nil, List.length_cons, List.length_nil, Option.getD_some, Option.getD_none, List.all_cons, List.all_nil, List.set_cons_zero, List.set_cons_succ, List.replicate_succ, List.replicate_zero, List.getElem?_cons_zero, List.getElem?_cons_succ, List.drop_succ_cons, List.drop_zero, List.take_succ_cons, List.take_zero]
        refine ⟨by (simp only [decide_eq_true_eq, decide_eq_false_iff_not, Bool.not_true, I64, Bool.not_eq_true', Bool.not_eq_false', bne_iff_ne, beq_iff_eq, ne_eq] at *; omega), ⟨i + 1, by omega, ?_⟩, by simp only; omega, weakE _ ?_⟩
        · rw [List.take_succ_eq_append_getElem h']
          intro x hx
          rcases List.mem_append.1 hx with hx | hx
          · exact hn x hx
          · simp at hx; rw [hx]; exact h
        · simp only [vcC, Int.reduceEq, Int.reduceNe, Int.reduceLT, Int.reduceLE, Nat.reduceEqDiff, Nat.reduceAdd, reduceIte, reduceCtorEq, Nat.reduceLT, Nat.reduceLeDiff, eq_self, Option.bind_some, Option.map_some, List.map_cons, List.map_nil, List.length_cons, List.length_nil, Option.getD_some, Option.getD_none, List.all_cons, List.all_nil, List.set_cons_zero, List.set_cons_succ, List.replicate_succ, List.replicate_zero, List.getElem?_cons_zero, List.getElem?_cons_succ, List.drop_succ_cons, List.drop_zero, List.take_succ_cons, List.take_zero]; simp
    · simp only [vcC, Int.reduceEq, Int.reduceNe, Int.reduceLT, Int.reduceLE, Nat.reduceEqDiff, Nat.reduceAdd, reduceIte, reduceCtorEq, Nat.reduceLT, Nat.reduceLeDiff, eq_self, Option.bind_some, Option.map_some, List.map_cons, List.map_nil, List.length_cons, List.length_nil, Option.getD_some, Option.getD_none, List.all_cons, List.all_nil, List.set_cons_zero, List.set_cons_succ, List.replicate_succ, List.replicate_zero, List.getElem?_cons_zero, List.getElem?_cons_succ, List.drop_succ_cons, List.drop_zero, List.take_succ_cons, List.take_zero]
      have : i = l.length := by (simp only [decide_eq_true_eq, decide_eq_false_iff_not, Bool.not_true, I64, Bool.not_eq_true', Bool.not_eq_false', bne_iff_ne, beq_iff_eq, ne_eq] at *; omega)
      subst this
      rw [List.take_length] at hn
      have hs : l.findIdx? p = none := List.findIdx?_eq_none_iff.2 hn
      simp [idxOf, hs]

theorem idxOf_any {α : Type} (l : List α) (p : α → Bool) : (decide (0 ≤ idxOf l p)) = l.any p := by
  unfold idxOf
  cases h : l.findIdx? p with
  | none =>
    rw [List.findIdx?_eq_none_iff] at h
    have : l.any p = false := by simpa using h
    rw [this]; rfl
  | some i =>
    rw [List.findIdx?_eq_some_iff_getElem] at h
    obtain ⟨hi, hp, _⟩ := h
    have : l.any p = true := List.any_eq_true.2 ⟨_, List.getElem_mem hi, hp⟩
    rw [this]; simp

theorem contFunc_int_s (l : List Int) (f : FuncId) (caps : List AV) (p : Int → Bool) (hl : l.length < 4000000000000000000) (hc : ∀ c ∈ caps, fx1 c = true)
    (hp : ∀ x ∈ l, Sound Tryd.prog f (.int .i64 x :: caps) (.bool (p x))) : Sound Tryd.prog 61 [.sl (ints l), .fn f caps] (.bool (l.any p)) := by
  refine sound_W f_slices_ContainsFunc_int_int (Nat.le_of_ble_eq_true rfl) ?_
  simp only [c_slices_ContainsFunc_int_int, map_fx1 hc, vcC, Int.reduceEq, Int.reduceNe, Int.reduceLT, Int.reduceLE, Nat.reduceEqDiff, Nat.reduceAdd, reduceIte, reduceCtorEq, Nat.reduceLT, Nat.reduceLeDiff, eq_self, Option.bind_some, Option.map_some, List.map_cons, List.map_nil, List.length_cons, List.length_nil, Option.getD_some, Option.getD_none, List.all_cons, List.all_nil, List.set_cons_zero, List.set_cons_succ, List.replicate_succ, List.replicate_zero, List.getElem?_cons_zero, List.getElem?_cons_succ, List.drop_succ_cons, List.drop_zero, List.take_succ_cons, List.take_zero]
  refine callS_of (idxFunc_int_s l f caps p hl hc hp) ?_
  simp only [vcC, Int.reduceEq, Int.reduceNe, Int.reduceLT, Int.reduceLE, Nat.reduceEqDiff, Nat.reduceAdd, reduceIte, reduceCtorEq, Nat.reduceLT, Nat.reduceLeDiff, eq_self, Option.bind_some, Option.map_some, List.map_cons, List.map_nil, List.length_cons, List.length_nil, Option.getD_some, Option.getD_none, List.all_cons, List.all_nil, List.set_cons_zero, List.set_cons_succ, List.replicate_succ, List.replicate_zero, List.getElem?_cons_zero, List.getElem?_cons_succ, List.drop_succ_cons, List.drop_zero, List.take_succ_cons, List.take_zero]
  rw [idxOf_any]

theorem first2_s (a b : Int) : Sound Tryd.prog 57 [.sl [.int .i64 a, .int .i64 b]] (.int .i64 (if a ≠ 0 then a else b)) := by
  have h := first_s [a, b] (by simp)
  have e : firstErr [a, b] = if a ≠ 0 then a else b := by
    unfold firstErr
    by_cases ha : a = 0 <;> by_cases hb : b = 0 <;> simp [ha, hb]
  rw [e] at h
  exact h
theorem first3_s (a b c : Int) : Sound Tryd.prog 57 [.sl [.int .i64 a, .int .i64 b, .int .i64 c]] (.int .i64 (if a ≠ 0 then a else if b ≠ 0 then b else c)) := by
  have h := first_s [a, b, c] (by simp)
  have e : firstErr [a, b, c] = if a ≠ 0 then a else if b ≠ 0 then b else c := by
    unfold firstErr
    by_cases ha : a = 0 <;> by_cases hb : b = 0 <;> by_cases hc : c = 0 <;> simp [ha, hb, hc]
  rw [e] at h
  exact h
end Go.Proofs.YtddiingfddlaaaaDoor

/- Samples and droops, in plain Lean. By an AI agent; nothing here is trusted. -/
namespace Go.Proofs.YtddiingfddlaaaaDoor
open Go.Av

structure Droop where
  leak : Int
  div : Int
def Droop.av (d : Droop) : AV := .agg [.int .i64 d.leak, .int .i64 d.div]
def Droop.ok (d : Droop) : Prop := (0 ≤ d.leak ∧ d.leak ≤ 1000) ∧ (1 ≤ d.div ∧ d.div ≤ 10000)
instance (d : Droop) : Decidable d.ok := by unfold Droop.ok; exact inferInstance
def Droop.e (d : Droop) : Int := if d.ok then 0 else 2

end Go.Proofs.YtddiingfddlaaaaDoor

/- Dead times and afterpulses, in plain Lean. By an AI agent; nothing here is trusted. -/
namespace Go.Proofs.YtddiingfddlaaaaDoor
open Go.Av

/-- The times that are kept of the first ones. -/
def kp (dead : Int) (l : List Int) : Nat → List Int
  | 0 => []
  | i + 1 => if kp dead l i = [] ∨ dead < l.getD i 0 - (kp dead l i).getLastD 0 then kp dead l i ++ [l.getD i 0] else kp dead l i
def kept (dead : Int) (l : List Int) : List Int := kp dead l l.length
end Go.Proofs.YtddiingfddlaaaaDoor

/- Hits: runs of samples from a threshold on, in plain Lean. By an AI agent; nothing here is trusted. -/
namespace Go.Proofs.YtddiingfddlaaaaDoor
open Go.Av

end Go.Proofs.YtddiingfddlaaaaDoor

/- Contracts of the small functions of the base. By an AI agent; nothing here is trusted. -/
namespace Go.Proofs.YtddiingfddlaaaaDoor
open Go.Av

theorem Within_s (n lo hi : Int) : Sound Tryd.prog 13 [.int .i64 n, .int .i64 lo, .int .i64 hi] (.bool (decide (lo ≤ n ∧ n ≤ hi))) := by
  refine sound_W f_base_Within (Nat.le_of_ble_eq_true rfl) ?_
  simp only [c_base_Within, vcC, Int.reduceEq, Int.reduceNe, Int.reduceLT, Int.reduceLE, Nat.reduceEqDiff, Nat.reduceAdd, reduceIte, reduceCtorEq, Nat.reduceLT, Nat.reduceLeDiff, eq_self, Option.bind_some, Option.map_some, List.map_cons, List.map_nil, List.length_cons, List.length_nil, Option.getD_some, Option.getD_none, List.all_cons, List.all_nil, List.set_cons_zero, List.set_cons_succ, List.replicate_succ, List.replicate_zero, List.getElem?_cons_zero, List.getElem?_cons_succ, List.drop_succ_cons, List.drop_zero, List.take_succ_cons, List.take_zero]
  refine brB_split (fun h => ?_) (fun h => ?_) <;> simp only [h, vcC, Int.reduceEq, Int.reduceNe, Int.reduceLT, Int.reduceLE, Nat.reduceEqDiff, Nat.reduceAdd, reduceIte, reduceCtorEq, Nat.reduceLT, Nat.reduceLeDiff, eq_self, Option.bind_some, Option.map_some, List.map_cons, List.map_nil, List.length_cons, List.length_nil, Option.getD_some, Option.getD_none, List.all_cons, List.all_nil, List.set_cons_zero, List.set_cons_succ, List.replicate_succ, List.replicate_zero, List.getElem?_cons_zero, List.getElem?_cons_succ, List.drop_succ_cons, List.drop_zero, List.take_succ_cons, List.take_zero]
  · exact bool_eq (by simp at h; simp [h])
  · simp at h; simp; omega

theorem tdiv_floor (n by_ : Int) (hb : 0 < by_) : (if n.tmod by_ < 0 then n.tdiv by_ - 1 else n.tdiv by_) = n / by_ := by
  have h1 := Int.mul_tdiv_add_tmod n by_
  have h2 : n.tmod by_ < by_ := Int.tmod_lt_of_pos n hb
  have h3 : -by_ < n.tmod by_ := by
    have := Int.lt_tmod_of_pos n hb
    omega
  split
  · rename_i h
    symm
    rw [Int.ediv_eq_iff_of_pos hb]
    constructor
    · rw [Int.sub_mul]; rw [Int.mul_comm] at h1; omega
    · rw [Int.sub_mul]; rw [Int.mul_comm] at h1; omega
  · symm
    rw [Int.ediv_eq_iff_of_pos hb]
    rw [Int.mul_comm] at h1
    constructor
    · omega
    · omega

theorem tdiv_I64 {n by_ : Int} (hn : I64 n) (hb : 0 < by_) : -9223372036854775808 ≤ n.tdiv by_ ∧ n.tdiv by_ ≤ 9223372036854775807 ∧ (n.tmod by_ < 0 → -9223372036854775807 ≤ n.tdiv by_) := by
  have h1 := Int.mul_tdiv_add_tmod n by_
  have h2 : n.tmod by_ < by_ := Int.tmod_lt_of_pos n hb
  have h3 : -by_ < n.tmod by_ := Int.lt_tmod_of_pos n hb
  have ha : (n.tdiv by_).natAbs ≤ n.natAbs := by
    rw [Int.natAbs_tdiv]; exact Nat.div_le_self _ _
  obtain ⟨q1, q2⟩ := hn
  have hu : n.tdiv by_ ≤ 9223372036854775807 := by
    by_cases hn0 : 0 ≤ n
    · omega
    · have : n.tdiv by_ ≤ 0 := by
        have := Int.tdiv_nonneg (a := -n) (b := by_) (by omega) (by omega)
        rw [Int.neg_tdiv] at this; omega
      omega
  refine ⟨by omega, hu, fun h => ?_⟩
  by_cases hb1 : by_ = 1
  · subst hb1; rw [Int.tmod_one] at h; omega
  · have : (n.tdiv by_).natAbs ≤ n.natAbs / 2 := by
      rw [Int.natAbs_tdiv]
      exact Nat.div_le_div_left (by omega) (by omega)
    omega

theorem Floor_s (n by_ : Int) (hn : I64 n) (hb : 0 < by_) : Sound Tryd.prog 73 [.int .i64 n, .int .i64 by_] (.int .i64 (n / by_)) := by
  refine sound_W f_base_Floor (Nat.le_of_ble_eq_true rfl) ?_
  obtain ⟨h1, h2, h3⟩ := tdiv_I64 hn hb
  have h0 := tdiv_floor n by_ hb
  simp only [c_base_Floor, vcC, Int.reduceEq, Int.reduceNe, Int.reduceLT, Int.reduceLE, Nat.reduceEqDiff, Nat.reduceAdd, reduceIte, reduceCtorEq, Nat.reduceLT, Nat.reduceLeDiff, eq_self, Option.bind_some, Option.map_some, List.map_cons, List.map_nil, List.length_cons, List.length_nil, Option.getD_some, Option.getD_none, List.all_cons, List.all_nil, List.set_cons_zero, List.set_cons_succ, List.replicate_succ, List.replicate_zero, List.getElem?_cons_zero, List.getElem?_cons_succ, List.drop_succ_cons, List.drop_zero, List.take_succ_cons, List.take_zero]
  refine ⟨by omega, by (simp only [decide_eq_true_eq, decide_eq_false_iff_not, Bool.not_true, I64, Bool.not_eq_true', Bool.not_eq_false', bne_iff_ne, beq_iff_eq, ne_eq] at *; omega), by omega, ?_⟩
  refine brB_split (fun h => ?_) (fun h => ?_)
  · have h' : n.tmod by_ < 0 := by simpa using h
    rw [if_pos h'] at h0
    simp only [h, vcC, Int.reduceEq, Int.reduceNe, Int.reduceLT, Int.reduceLE, Nat.reduceEqDiff, Nat.reduceAdd, reduceIte, reduceCtorEq, Nat.reduceLT, Nat.reduceLeDiff, eq_self, Option.bind_some, Option.map_some, List.map_cons, List.map_nil, List.length_cons, List.length_nil, Option.getD_some, Option.getD_none, List.all_cons, List.all_nil, List.set_cons_zero, List.set_cons_succ, List.replicate_succ, List.replicate_zero, List.getElem?_cons_zero, List.getElem?_cons_succ, List.drop_succ_cons, List.drop_zero, List.take_succ_cons, List.take_zero]
    refine ⟨by have := h3 h'; (simp only [decide_eq_true_eq, decide_eq_false_iff_not, Bool.not_true, I64, Bool.not_eq_true', Bool.not_eq_false', bne_iff_ne, beq_iff_eq, ne_eq] at *; omega), ?_⟩
    rw [h0]
  · have h' : ¬ n.tmod by_ < 0 := by simpa using h
    rw [if_neg h'] at h0
    simp only [h, vcC, Int.reduceEq, Int.reduceNe, Int.reduceLT, Int.reduceLE, Nat.reduceEqDiff, Nat.reduceAdd, reduceIte, reduceCtorEq, Nat.reduceLT, Nat.reduceLeDiff, eq_self, Option.bind_some, Option.map_some, List.map_cons, List.map_nil, List.length_cons, List.length_nil, Option.getD_some, Option.getD_none, List.all_cons, List.all_nil, List.set_cons_zero, List.set_cons_succ, List.replicate_succ, List.replicate_zero, List.getElem?_cons_zero, List.getElem?_cons_succ, List.drop_succ_cons, List.drop_zero, List.take_succ_cons, List.take_zero]
    rw [h0]

end Go.Proofs.YtddiingfddlaaaaDoor

/- Contracts of the base: copies, comparisons, fractions. By an AI agent; nothing here is trusted. -/
namespace Go.Proofs.YtddiingfddlaaaaDoor
open Go.Av

theorem newsOk_ints (l : List Int) : newsOk 1 (ints l) := by
  intro x hx
  obtain ⟨n, _, rfl⟩ := List.mem_map.1 hx
  exact ⟨rfl, rfl⟩
theorem maxLen_big : 4000000000000 ≤ maxLen := by decide

theorem CopyInts_s (l : List Int) (hl : l.length ≤ 1000000000) : Sound Tryd.prog 15 [.sl (ints l)] (.sl (ints l)) := by
  refine sound_W f_base_CopyInts (Nat.le_of_ble_eq_true rfl) ?_
  have hm := maxLen_big
  simp only [c_base_CopyInts, vcV, vcD, Int.reduceEq, Int.reduceNe, Int.reduceLT, Int.reduceLE, Nat.reduceEqDiff, Nat.reduceAdd, reduceIte, reduceCtorEq, Nat.reduceLT, Nat.reduceLeDiff, eq_self, Option.bind_some, Option.map_some, List.map_cons, List.map_nil, List.length_cons, List.length_nil, Option.getD_some, Option.getD_none, List.all_cons, List.all_nil, List.set_cons_zero, List.set_cons_succ, List.replicate_succ, List.replicate_zero, List.getElem?_cons_zero, List.getElem?_cons_succ, List.drop_succ_cons, List.drop_zero, List.take_succ_cons, List.take_zero, List.map_append, List.nil_append, List.cons_append, Nat.reduceShiftRight, Nat.reduceMod]
  refine ⟨newsOk_ints l, ⟨by omega, by omega⟩, ?_⟩
  rw [borB_good _ _ _ _ _ (by simp [ints]) (ints_fx _)]

theorem Ints_s (a b : List Int) (ha : a.length ≤ 1000000000) : Sound Tryd.prog 27 [.sl (ints a), .sl (ints b)] (.bool (decide (a = b))) := by
  refine sound_W f_base_Ints (Nat.le_of_ble_eq_true rfl) ?_
  simp only [c_base_Ints, vcV, vcD, Int.reduceEq, Int.reduceNe, Int.reduceLT, Int.reduceLE, Nat.reduceEqDiff, Nat.reduceAdd, reduceIte, reduceCtorEq, Nat.reduceLT, Nat.reduceLeDiff, eq_self, Option.bind_some, Option.map_some, List.map_cons, List.map_nil, List.length_cons, List.length_nil, Option.getD_some, Option.getD_none, List.all_cons, List.all_nil, List.set_cons_zero, List.set_cons_succ, List.replicate_succ, List.replicate_zero, List.getElem?_cons_zero, List.getElem?_cons_succ, List.drop_succ_cons, List.drop_zero, List.take_succ_cons, List.take_zero, List.map_append, List.nil_append, List.cons_append, Nat.reduceShiftRight, Nat.reduceMod]
  refine brB_split (fun h => ?_) (fun h => ?_)
  · simp only [vcV, vcD, Int.reduceEq, Int.reduceNe, Int.reduceLT, Int.reduceLE, Nat.reduceEqDiff, Nat.reduceAdd, reduceIte, reduceCtorEq, Nat.reduceLT, Nat.reduceLeDiff, eq_self, Option.bind_some, Option.map_some, List.map_cons, List.map_nil, List.length_cons, List.length_nil, Option.getD_some, Option.getD_none, List.all_cons, List.all_nil, List.set_cons_zero, List.set_cons_succ, List.replicate_succ, List.replicate_zero, List.getElem?_cons_zero, List.getElem?_cons_succ, List.drop_succ_cons, List.drop_zero, List.take_succ_cons, List.take_zero, List.map_append, List.nil_append, List.cons_append, Nat.reduceShiftRight, Nat.reduceMod]
    have : a ≠ b := fun hab => by subst hab; simp at h
    simp [this]
  · have hlen : a.length = b.length := by (simp only [decide_eq_true_eq, decide_eq_false_iff_not, Bool.not_true, I64, Bool.not_eq_true', Bool.not_eq_false', bne_iff_ne, beq_iff_eq, ne_eq] at *; omega)
    simp only [vcV, vcD, Int.reduceEq, Int.reduceNe, Int.reduceLT, Int.reduceLE, Nat.reduceEqDiff, Nat.reduceAdd, reduceIte, reduceCtorEq, Nat.reduceLT, Nat.reduceLeDiff, eq_self, Option.bind_some, Option.map_some, List.map_cons, List.map_nil, List.length_cons, List.length_nil, Option.getD_some, Option.getD_none, List.all_cons, List.all_nil, List.set_cons_zero, List.set_cons_succ, List.replicate_succ, List.replicate_zero, List.getElem?_cons_zero, List.getElem?_cons_succ, List.drop_succ_cons, List.drop_zero, List.take_succ_cons, List.take_zero, List.map_append, List.nil_append, List.cons_append, Nat.reduceShiftRight, Nat.reduceMod]
    refine W_loop (α := PSigma fun i : Nat => i ≤ a.length ∧ a.take i = b.take i) (fun i => (envOf [(0, .sl (ints a)), (1, .sl (ints b)), (5, .int .i64 i.1)], noStore)) (fun i => a.length - i.1) ⟨0, by simp⟩ (weakE _ ?_) (fun ⟨i, hi, hn⟩ => ?_)
    · simp only [vcV, vcD, Int.reduceEq, Int.reduceNe, Int.reduceLT, Int.reduceLE, Nat.reduceEqDiff, Nat.reduceAdd, reduceIte, reduceCtorEq, Nat.reduceLT, Nat.reduceLeDiff, eq_self, Option.bind_some, Option.map_some, List.map_cons, List.map_nil, List.length_cons, List.length_nil, Option.getD_some, Option.getD_none, List.all_cons, List.all_nil, List.set_cons_zero, List.set_cons_succ, List.replicate_succ, List.replicate_zero, List.getElem?_cons_zero, List.getElem?_cons_succ, List.drop_succ_cons, List.drop_zero, List.take_succ_cons, List.take_zero, List.map_append, List.nil_append, List.cons_append, Nat.reduceShiftRight, Nat.reduceMod]; rfl
    · simp only [vcV, vcD, Int.reduceEq, Int.reduceNe, Int.reduceLT, Int.reduceLE, Nat.reduceEqDiff, Nat.reduceAdd, reduceIte, reduceCtorEq, Nat.reduceLT, Nat.reduceLeDiff, eq_self, Option.bind_some, Option.map_some, List.map_cons, List.map_nil, List.length_cons, List.length_nil, Option.getD_some, Option.getD_none, List.all_cons, List.all_nil, List.set_cons_zero, List.set_cons_succ, List.replicate_succ, List.replicate_zero, List.getElem?_cons_zero, List.getElem?_cons_succ, List.drop_succ_cons, List.drop_zero, List.take_succ_cons, List.take_zero, List.map_append, List.nil_append, List.cons_append, Nat.reduceShiftRight, Nat.reduceMod]
      refine brB_split (fun h => ?_) (fun h => ?_)
      · have h' : i < a.length := by (simp only [decide_eq_true_eq, decide_eq_false_iff_not, Bool.not_true, I64, Bool.not_eq_true', Bool.not_eq_false', bne_iff_ne, beq_iff_eq, ne_eq] at *; omega)
        have h2 : i < b.length := by omega
        simp only [ints_get a i h', ints_get b i h2, vcV, vcD, Int.reduceEq, Int.reduceNe, Int.reduceLT, Int.reduceLE, Nat.reduceEqDiff, Nat.reduceAdd, reduceIte, reduceCtorEq, Nat.reduceLT, Nat.reduceLeDiff, eq_self, Option.bind_some, Option.map_some, List.map_cons, List.map_nil, List.length_cons, List.length_nil, Option.getD_some, Option.getD_none, List.all_cons, List.all_nil, List.set_cons_zero, List.set_cons_succ, List.replicate_succ, List.replicate_zero, List.getElem?_cons_zero, List.getElem?_cons_succ, List.drop_succ_cons, List.drop_zero, List.take_succ_cons, List.take_zero, List.map_append, List.nil_append, List.cons_append, Nat.reduceShiftRight, Nat.reduceMod]
        refine ⟨by omega, by omega, ?_⟩
        refine brB_split (fun h => ?_) (fun h => ?_)
        · simp only [vcV, vcD, Int.reduceEq, Int.reduceNe, Int.reduceLT, Int.reduceLE, Nat.reduceEqDiff, Nat.reduceAdd, reduceIte, reduceCtorEq, Nat.reduceLT, Nat.reduceLeDiff, eq_self, Option.bind_some, Option.map_some, List.map_cons, List.map_nil, List.length_cons, List.length_nil, Option.getD_some, Option.getD_none, List.all_cons, List.all_nil, List.set_cons_zero, List.set_cons_succ, List.replicate_succ, List.replicate_zero, List.getElem?_cons_zero, List.getElem?_cons_succ, List.drop_succ_cons, List.drop_zero, List.take_succ_cons, List.take_zero, List.map_append, List.nil_append, List.cons_append, Nat.reduceShiftRight, Nat.reduceMod]
          have : a ≠ b := fun hab => by subst hab; simp at h
          simp [this]
        · simp only [vcV, vcD, Int.reduceEq, Int.reduceNe, Int.reduceLT, Int.reduceLE, Nat.reduceEqDiff, Nat.reduceAdd, reduceIte, reduceCtorEq, Nat.reduceLT, Nat.reduceLeDiff, eq_self, Option.bind_some, Option.map_some, List.map_cons, List.map_nil, List.length_cons, List.length_nil, Option.getD_some, Option.getD_none, List.all_cons, List.all_nil, List.set_cons_zero, List.set_cons_succ, List.replicate_succ, List.replicate_zero, List.getElem?_cons_zero, List.getElem?_cons_succ, List.drop_succ_cons, List.drop_zero, List.take_succ_cons, List.take_zero, List.map_append, List.nil_append, List.cons_append, Nat.reduceShiftRight, Nat.reduceMod]
          refine ⟨by (simp only [decide_eq_true_eq, decide_eq_false_iff_not, Bool.not_true, I64, Bool.not_eq_true', Bool.not_eq_false', bne_iff_ne, beq_iff_eq, ne_eq] at *; omega), ⟨i + 1, by omega, ?_⟩, by simp only; omega, weakE _ ?_⟩
          · rw [List.take_succ_eq_append_getElem h', List.take_succ_eq_append_getElem h2, hn]
            simp at h; rw [h]
          · simp only [vcV, vcD, Int.reduceEq, Int.reduceNe, Int.reduceLT, Int.reduceLE, Nat.reduceEqDiff, Nat.reduceAdd, reduceIte, reduceCtorEq, Nat.reduceLT, Nat.reduceLeDiff, eq_self, Option.bind_some, Option.map_some, List.map_cons, List.map_nil, List.length_cons, List.length_nil, Option.getD_some, Option.getD_none, List.all_cons, List.all_nil, List.set_cons_zero, List.set_cons_succ, List.replicate_succ, List.replicate_zero, List.getElem?_cons_zero, List.getElem?_cons_succ, List.drop_succ_cons, List.drop_zero, List.take_succ_cons, List.take_zero, List.map_append, List.nil_append, List.cons_append, Nat.reduceShiftRight, Nat.reduceMod]; simp
      · simp only [vcV, vcD, Int.reduceEq, Int.reduceNe, Int.reduceLT, Int.reduceLE, Nat.reduceEqDiff, Nat.reduceAdd, reduceIte, reduceCtorEq, Nat.reduceLT, Nat.reduceLeDiff, eq_self, Option.bind_some, Option.map_some, List.map_cons, List.map_nil, List.length_cons, List.length_nil, Option.getD_some, Option.getD_none, List.all_cons, List.all_nil, List.set_cons_zero, List.set_cons_succ, List.replicate_succ, List.replicate_zero, List.getElem?_cons_zero, List.getElem?_cons_succ, List.drop_succ_cons, List.drop_zero, List.take_succ_cons, List.take_zero, List.map_append, List.nil_append, List.cons_append, Nat.reduceShiftRight, Nat.reduceMod]
        have : i = a.length := by (simp only [decide_eq_true_eq, decide_eq_false_iff_not, Bool.not_true, I64, Bool.not_eq_true', Bool.not_eq_false', bne_iff_ne, beq_iff_eq, ne_eq] at *; omega)
        subst this
        have hb : a = b := by
          have := hn
          rw [List.take_length, hlen, List.take_length] at this
          exact this
        simp [hb]

def S63 (n : Int) : Prop := -9223372036854775807 ≤ n ∧ n ≤ 9223372036854775807
theorem max_neg (n : Int) : max n (-n) = n.natAbs := by omega
theorem Size_s (n : Int) (h : S63 n) : Sound Tryd.prog 93 [.int .i64 n] (.int .i64 n.natAbs) := by
  refine sound_W f_base_Size (Nat.le_of_ble_eq_true rfl) ?_
  unfold S63 at h
  simp only [c_base_Size, max_neg, vcV, vcD, Int.reduceEq, Int.reduceNe, Int.reduceLT, Int.reduceLE, Nat.reduceEqDiff, Nat.reduceAdd, reduceIte, reduceCtorEq, Nat.reduceLT, Nat.reduceLeDiff, eq_self, Option.bind_some, Option.map_some, List.map_cons, List.map_nil, List.length_cons, List.length_nil, Option.getD_some, Option.getD_none, List.all_cons, List.all_nil, List.set_cons_zero, List.set_cons_succ, List.replicate_succ, List.replicate_zero, List.getElem?_cons_zero, List.getElem?_cons_succ, List.drop_succ_cons, List.drop_zero, List.take_succ_cons, List.take_zero, List.map_append, List.nil_append, List.cons_append, Nat.reduceShiftRight, Nat.reduceMod]
  (simp only [decide_eq_true_eq, decide_eq_false_iff_not, Bool.not_true, I64, Bool.not_eq_true', Bool.not_eq_false', bne_iff_ne, beq_iff_eq, ne_eq] at *; omega)

theorem gcd_tmod (a b : Int) : Int.gcd b (a.tmod b) = Int.gcd a b := by
  unfold Int.gcd
  rw [Int.natAbs_tmod, Nat.gcd_comm, ← Nat.gcd_rec, Nat.gcd_comm]
theorem tmod_S {a b : Int} (hb : S63 b) (h0 : b ≠ 0) : S63 (a.tmod b) ∧ (a.tmod b).natAbs < b.natAbs := by
  have h : (a.tmod b).natAbs < b.natAbs := by
    rw [Int.natAbs_tmod]
    exact Nat.mod_lt _ (by omega)
  unfold S63 at hb ⊢
  exact ⟨by omega, h⟩
theorem Gcd_s (a b : Int) (ha : S63 a) (hb : S63 b) : Sound Tryd.prog 67 [.int .i64 a, .int .i64 b] (.int .i64 (Int.gcd a b)) := by
  refine sound_W f_base_Gcd (Nat.le_of_ble_eq_true rfl) ?_
  simp only [c_base_Gcd, vcV, vcD, Int.reduceEq, Int.reduceNe, Int.reduceLT, Int.reduceLE, Nat.reduceEqDiff, Nat.reduceAdd, reduceIte, reduceCtorEq, Nat.reduceLT, Nat.reduceLeDiff, eq_self, Option.bind_some, Option.map_some, List.map_cons, List.map_nil, List.length_cons, List.length_nil, Option.getD_some, Option.getD_none, List.all_cons, List.all_nil, List.set_cons_zero, List.set_cons_succ, List.replicate_succ, List.replicate_zero, List.getElem?_cons_zero, List.getElem?_cons_succ, List.drop_succ_cons, List.drop_zero, List.take_succ_cons, List.take_zero, List.map_append, List.nil_append, List.cons_append, Nat.reduceShiftRight, Nat.reduceMod]
  refine W_loop (α := PSigma fun p : Int × Int => S63 p.1 ∧ S63 p.2 ∧ Int.gcd p.1 p.2 = Int.gcd a b) (fun p => (envOf [(0, .int .i64 p.1.1), (1, .int .i64 p.1.2)], noStore)) (fun p => p.1.2.natAbs) ⟨(a, b), ha, hb, rfl⟩ (weakE _ ?_) (fun ⟨p, h1, h2, h3⟩ => ?_)
  · simp only [vcV, vcD, Int.reduceEq, Int.reduceNe, Int.reduceLT, Int.reduceLE, Nat.reduceEqDiff, Nat.reduceAdd, reduceIte, reduceCtorEq, Nat.reduceLT, Nat.reduceLeDiff, eq_self, Option.bind_some, Option.map_some, List.map_cons, List.map_nil, List.length_cons, List.length_nil, Option.getD_some, Option.getD_none, List.all_cons, List.all_nil, List.set_cons_zero, List.set_cons_succ, List.replicate_succ, List.replicate_zero, List.getElem?_cons_zero, List.getElem?_cons_succ, List.drop_succ_cons, List.drop_zero, List.take_succ_cons, List.take_zero, List.map_append, List.nil_append, List.cons_append, Nat.reduceShiftRight, Nat.reduceMod]
  · obtain ⟨x, y⟩ := p
    simp only at h1 h2 h3
    simp only [vcV, vcD, Int.reduceEq, Int.reduceNe, Int.reduceLT, Int.reduceLE, Nat.reduceEqDiff, Nat.reduceAdd, reduceIte, reduceCtorEq, Nat.reduceLT, Nat.reduceLeDiff, eq_self, Option.bind_some, Option.map_some, List.map_cons, List.map_nil, List.length_cons, List.length_nil, Option.getD_some, Option.getD_none, List.all_cons, List.all_nil, List.set_cons_zero, List.set_cons_succ, List.replicate_succ, List.replicate_zero, List.getElem?_cons_zero, List.getElem?_cons_succ, List.drop_succ_cons, List.drop_zero, List.take_succ_cons, List.take_zero, List.map_append, List.nil_append, List.cons_append, Nat.reduceShiftRight, Nat.reduceMod]
    refine brB_split (fun h => ?_) (fun h => ?_)
    · have hy : y ≠ 0 := by simpa using h
      obtain ⟨t1, t2⟩ := tmod_S (a := x) h2 hy
      simp only [vcV, vcD, Int.reduceEq, Int.reduceNe, Int.reduceLT, Int.reduceLE, Nat.reduceEqDiff, Nat.reduceAdd, reduceIte, reduceCtorEq, Nat.reduceLT, Nat.reduceLeDiff, eq_self, Option.bind_some, Option.map_some, List.map_cons, List.map_nil, List.length_cons, List.length_nil, Option.getD_some, Option.getD_none, List.all_cons, List.all_nil, List.set_cons_zero, List.set_cons_succ, List.replicate_succ, List.replicate_zero, List.getElem?_cons_zero, List.getElem?_cons_succ, List.drop_succ_cons, List.drop_zero, List.take_succ_cons, List.take_zero, List.map_append, List.nil_append, List.cons_append, Nat.reduceShiftRight, Nat.reduceMod]
      refine ⟨hy, ⟨(y, x.tmod y), h2, t1, (gcd_tmod x y).trans h3⟩, t2, weakE _ ?_⟩
      simp only [vcV, vcD, Int.reduceEq, Int.reduceNe, Int.reduceLT, Int.reduceLE, Nat.reduceEqDiff, Nat.reduceAdd, reduceIte, reduceCtorEq, Nat.reduceLT, Nat.reduceLeDiff, eq_self, Option.bind_some, Option.map_some, List.map_cons, List.map_nil, List.length_cons, List.length_nil, Option.getD_some, Option.getD_none, List.all_cons, List.all_nil, List.set_cons_zero, List.set_cons_succ, List.replicate_succ, List.replicate_zero, List.getElem?_cons_zero, List.getElem?_cons_succ, List.drop_succ_cons, List.drop_zero, List.take_succ_cons, List.take_zero, List.map_append, List.nil_append, List.cons_append, Nat.reduceShiftRight, Nat.reduceMod]
    · have hy : y = 0 := by simpa using h
      subst hy
      simp only [vcV, vcD, Int.reduceEq, Int.reduceNe, Int.reduceLT, Int.reduceLE, Nat.reduceEqDiff, Nat.reduceAdd, reduceIte, reduceCtorEq, Nat.reduceLT, Nat.reduceLeDiff, eq_self, Option.bind_some, Option.map_some, List.map_cons, List.map_nil, List.length_cons, List.length_nil, Option.getD_some, Option.getD_none, List.all_cons, List.all_nil, List.set_cons_zero, List.set_cons_succ, List.replicate_succ, List.replicate_zero, List.getElem?_cons_zero, List.getElem?_cons_succ, List.drop_succ_cons, List.drop_zero, List.take_succ_cons, List.take_zero, List.map_append, List.nil_append, List.cons_append, Nat.reduceShiftRight, Nat.reduceMod]
      refine callS_of (Size_s x h1) ?_
      simp only [vcV, vcD, Int.reduceEq, Int.reduceNe, Int.reduceLT, Int.reduceLE, Nat.reduceEqDiff, Nat.reduceAdd, reduceIte, reduceCtorEq, Nat.reduceLT, Nat.reduceLeDiff, eq_self, Option.bind_some, Option.map_some, List.map_cons, List.map_nil, List.length_cons, List.length_nil, Option.getD_some, Option.getD_none, List.all_cons, List.all_nil, List.set_cons_zero, List.set_cons_succ, List.replicate_succ, List.replicate_zero, List.getElem?_cons_zero, List.getElem?_cons_succ, List.drop_succ_cons, List.drop_zero, List.take_succ_cons, List.take_zero, List.map_append, List.nil_append, List.cons_append, Nat.reduceShiftRight, Nat.reduceMod]
      rw [← h3]; simp [Int.gcd]

/-- A fraction in lowest terms. -/
def lowG (num den : Int) : Int := if den < 0 then -(Int.gcd num den) else Int.gcd num den
def lowN (num den : Int) : Int := num.tdiv (lowG num den)
def lowD (num den : Int) : Int := den.tdiv (lowG num den)
def fracA (n d : Int) : AV := .agg [.int .i64 n, .int .i64 d]
theorem tdiv_S {a b : Int} (ha : S63 a) : S63 (a.tdiv b) := by
  have : (a.tdiv b).natAbs ≤ a.natAbs := by rw [Int.natAbs_tdiv]; exact Nat.div_le_self _ _
  unfold S63 at *; omega
theorem lowG_ne {num den : Int} (hd : den ≠ 0) : lowG num den ≠ 0 := by
  have : 0 < Int.gcd num den := Int.gcd_pos_of_ne_zero_right _ hd
  unfold lowG; split <;> omega
theorem gcd_S {a b : Int} (hb : S63 b) (h0 : b ≠ 0) : (Int.gcd a b : Int) ≤ 9223372036854775807 := by
  have h : Int.gcd a b ≤ b.natAbs := Nat.gcd_le_right _ (by omega)
  unfold S63 at hb; omega
theorem Lowest_s (num den : Int) (hn : S63 num) (hd : S63 den) (h0 : den ≠ 0) : Sound Tryd.prog 21 [.int .i64 num, .int .i64 den] (fracA (lowN num den) (lowD num den)) := by
  refine sound_W f_base_Lowest (Nat.le_of_ble_eq_true rfl) ?_
  have hne := lowG_ne (num := num) h0
  have hg := gcd_S (a := num) hd h0
  have t1 := tdiv_S (b := lowG num den) hn
  have t2 := tdiv_S (b := lowG num den) hd
  unfold lowG at t1 t2 hne
  unfold S63 at t1 t2
  simp only [c_base_Lowest, vcV, vcD, Int.reduceEq, Int.reduceNe, Int.reduceLT, Int.reduceLE, Nat.reduceEqDiff, Nat.reduceAdd, reduceIte, reduceCtorEq, Nat.reduceLT, Nat.reduceLeDiff, eq_self, Option.bind_some, Option.map_some, List.map_cons, List.map_nil, List.length_cons, List.length_nil, Option.getD_some, Option.getD_none, List.all_cons, List.all_nil, List.set_cons_zero, List.set_cons_succ, List.replicate_succ, List.replicate_zero, List.getElem?_cons_zero, List.getElem?_cons_succ, List.drop_succ_cons, List.drop_zero, List.take_succ_cons, List.take_zero, List.map_append, List.nil_append, List.cons_append, Nat.reduceShiftRight, Nat.reduceMod]
  refine callS_of (Gcd_s num den hn hd) ?_
  simp only [vcV, vcD, Int.reduceEq, Int.reduceNe, Int.reduceLT, Int.reduceLE, Nat.reduceEqDiff, Nat.reduceAdd, reduceIte, reduceCtorEq, Nat.reduceLT, Nat.reduceLeDiff, eq_self, Option.bind_some, Option.map_some, List.map_cons, List.map_nil, List.length_cons, List.length_nil, Option.getD_some, Option.getD_none, List.all_cons, List.all_nil, List.set_cons_zero, List.set_cons_succ, List.replicate_succ, List.replicate_zero, List.getElem?_cons_zero, List.getElem?_cons_succ, List.drop_succ_cons, List.drop_zero, List.take_succ_cons, List.take_zero, List.map_append, List.nil_append, List.cons_append, Nat.reduceShiftRight, Nat.reduceMod]
  refine brB_split (fun h => ?_) (fun h => ?_)
  · simp only [decide_eq_true_eq] at h
    rw [if_pos h] at t1 t2 hne
    simp only [vcV, vcD, Int.reduceEq, Int.reduceNe, Int.reduceLT, Int.reduceLE, Nat.reduceEqDiff, Nat.reduceAdd, reduceIte, reduceCtorEq, Nat.reduceLT, Nat.reduceLeDiff, eq_self, Option.bind_some, Option.map_some, List.map_cons, List.map_nil, List.length_cons, List.length_nil, Option.getD_some, Option.getD_none, List.all_cons, List.all_nil, List.set_cons_zero, List.set_cons_succ, List.replicate_succ, List.replicate_zero, List.getElem?_cons_zero, List.getElem?_cons_succ, List.drop_succ_cons, List.drop_zero, List.take_succ_cons, List.take_zero, List.map_append, List.nil_append, List.cons_append, Nat.reduceShiftRight, Nat.reduceMod]
    refine ⟨by (simp only [decide_eq_true_eq, decide_eq_false_iff_not, Bool.not_true, I64, Bool.not_eq_true', Bool.not_eq_false', bne_iff_ne, beq_iff_eq, ne_eq] at *; omega), hne, by (simp only [decide_eq_true_eq, decide_eq_false_iff_not, Bool.not_true, I64, Bool.not_eq_true', Bool.not_eq_false', bne_iff_ne, beq_iff_eq, ne_eq] at *; omega), hne, by (simp only [decide_eq_true_eq, decide_eq_false_iff_not, Bool.not_true, I64, Bool.not_eq_true', Bool.not_eq_false', bne_iff_ne, beq_iff_eq, ne_eq] at *; omega), ?_⟩
    unfold fracA lowN lowD lowG
    rw [if_pos h]
  · simp only [Bool.not_true, decide_eq_false_iff_not] at h
    rw [if_neg h] at t1 t2 hne
    simp only [vcV, vcD, Int.reduceEq, Int.reduceNe, Int.reduceLT, Int.reduceLE, Nat.reduceEqDiff, Nat.reduceAdd, reduceIte, reduceCtorEq, Nat.reduceLT, Nat.reduceLeDiff, eq_self, Option.bind_some, Option.map_some, List.map_cons, List.map_nil, List.length_cons, List.length_nil, Option.getD_some, Option.getD_none, List.all_cons, List.all_nil, List.set_cons_zero, List.set_cons_succ, List.replicate_succ, List.replicate_zero, List.getElem?_cons_zero, List.getElem?_cons_succ, List.drop_succ_cons, List.drop_zero, List.take_succ_cons, List.take_zero, List.map_append, List.nil_append, List.cons_append, Nat.reduceShiftRight, Nat.reduceMod]
    refine ⟨hne, by (simp only [decide_eq_true_eq, decide_eq_false_iff_not, Bool.not_true, I64, Bool.not_eq_true', Bool.not_eq_false', bne_iff_ne, beq_iff_eq, ne_eq] at *; omega), hne, by (simp only [decide_eq_true_eq, decide_eq_false_iff_not, Bool.not_true, I64, Bool.not_eq_true', Bool.not_eq_false', bne_iff_ne, beq_iff_eq, ne_eq] at *; omega), ?_⟩
    unfold fracA lowN lowD lowG
    rw [if_neg h]

def smallF (n d : Int) : Bool := decide (-1000000000 ≤ n ∧ n ≤ 1000000000) && decide (1 ≤ d ∧ d ≤ 1000000000)
theorem IsSmall_s (n d : Int) : Sound Tryd.prog 20 [fracA n d] (.bool (smallF n d)) := by
  refine sound_W f_base_IsSmall (Nat.le_of_ble_eq_true rfl) ?_
  unfold smallF
  simp only [c_base_IsSmall, fracA, vcV, vcD, Int.reduceEq, Int.reduceNe, Int.reduceLT, Int.reduceLE, Nat.reduceEqDiff, Nat.reduceAdd, reduceIte, reduceCtorEq, Nat.reduceLT, Nat.reduceLeDiff, eq_self, Option.bind_some, Option.map_some, List.map_cons, List.map_nil, List.length_cons, List.length_nil, Option.getD_some, Option.getD_none, List.all_cons, List.all_nil, List.set_cons_zero, List.set_cons_succ, List.replicate_succ, List.replicate_zero, List.getElem?_cons_zero, List.getElem?_cons_succ, List.drop_succ_cons, List.drop_zero, List.take_succ_cons, List.take_zero, List.map_append, List.nil_append, List.cons_append, Nat.reduceShiftRight, Nat.reduceMod]
  refine callS_of (Within_s _ _ _) ?_
  simp only [vcV, vcD, Int.reduceEq, Int.reduceNe, Int.reduceLT, Int.reduceLE, Nat.reduceEqDiff, Nat.reduceAdd, reduceIte, reduceCtorEq, Nat.reduceLT, Nat.reduceLeDiff, eq_self, Option.bind_some, Option.map_some, List.map_cons, List.map_nil, List.length_cons, List.length_nil, Option.getD_some, Option.getD_none, List.all_cons, List.all_nil, List.set_cons_zero, List.set_cons_succ, List.replicate_succ, List.replicate_zero, List.getElem?_cons_zero, List.getElem?_cons_succ, List.drop_succ_cons, List.drop_zero, List.take_succ_cons, List.take_zero, List.map_append, List.nil_append, List.cons_append, Nat.reduceShiftRight, Nat.reduceMod]
  by_cases h : -1000000000 ≤ n ∧ n ≤ 1000000000
  · simp only [h, vcV, vcD, Int.reduceEq, Int.reduceNe, Int.reduceLT, Int.reduceLE, Nat.reduceEqDiff, Nat.reduceAdd, reduceIte, reduceCtorEq, Nat.reduceLT, Nat.reduceLeDiff, eq_self, Option.bind_some, Option.map_some, List.map_cons, List.map_nil, List.length_cons, List.length_nil, Option.getD_some, Option.getD_none, List.all_cons, List.all_nil, List.set_cons_zero, List.set_cons_succ, List.replicate_succ, List.replicate_zero, List.getElem?_cons_zero, List.getElem?_cons_succ, List.drop_succ_cons, List.drop_zero, List.take_succ_cons, List.take_zero, List.map_append, List.nil_append, List.cons_append, Nat.reduceShiftRight, Nat.reduceMod]
    refine callS_of (Within_s _ _ _) ?_
    simp only [h, vcV, vcD, Int.reduceEq, Int.reduceNe, Int.reduceLT, Int.reduceLE, Nat.reduceEqDiff, Nat.reduceAdd, reduceIte, reduceCtorEq, Nat.reduceLT, Nat.reduceLeDiff, eq_self, Option.bind_some, Option.map_some, List.map_cons, List.map_nil, List.length_cons, List.length_nil, Option.getD_some, Option.getD_none, List.all_cons, List.all_nil, List.set_cons_zero, List.set_cons_succ, List.replicate_succ, List.replicate_zero, List.getElem?_cons_zero, List.getElem?_cons_succ, List.drop_succ_cons, List.drop_zero, List.take_succ_cons, List.take_zero, List.map_append, List.nil_append, List.cons_append, Nat.reduceShiftRight, Nat.reduceMod]
  · simp only [h, vcV, vcD, Int.reduceEq, Int.reduceNe, Int.reduceLT, Int.reduceLE, Nat.reduceEqDiff, Nat.reduceAdd, reduceIte, reduceCtorEq, Nat.reduceLT, Nat.reduceLeDiff, eq_self, Option.bind_some, Option.map_some, List.map_cons, List.map_nil, List.length_cons, List.length_nil, Option.getD_some, Option.getD_none, List.all_cons, List.all_nil, List.set_cons_zero, List.set_cons_succ, List.replicate_succ, List.replicate_zero, List.getElem?_cons_zero, List.getElem?_cons_succ, List.drop_succ_cons, List.drop_zero, List.take_succ_cons, List.take_zero, List.map_append, List.nil_append, List.cons_append, Nat.reduceShiftRight, Nat.reduceMod]
end Go.Proofs.YtddiingfddlaaaaDoor

/- Lowest terms, gains and charges, in plain Lean. By an AI agent; nothing here is trusted. -/
namespace Go.Proofs.YtddiingfddlaaaaDoor
open Go.Av

/-- Lowest terms of a denominator above 0. -/
theorem low_parts {n d : Int} (hd : 0 < d) : ∃ g : Int, 0 < g ∧ n = g * lowN n d ∧ d = g * lowD n d ∧ Int.gcd (lowN n d) (lowD n d) = 1 := by
  have hg : 0 < Int.gcd n d := Int.gcd_pos_of_ne_zero_right _ (by omega)
  have hn : ¬ d < 0 := by omega
  have e1 : lowN n d = n / (Int.gcd n d : Int) := by
    unfold lowN lowG; rw [if_neg hn]
    exact Int.tdiv_eq_ediv_of_dvd (Int.gcd_dvd_left _ _)
  have e2 : lowD n d = d / (Int.gcd n d : Int) := by
    unfold lowD lowG; rw [if_neg hn]
    exact Int.tdiv_eq_ediv_of_dvd (Int.gcd_dvd_right _ _)
  refine ⟨Int.gcd n d, by omega, ?_, ?_, ?_⟩
  · rw [e1, Int.mul_ediv_cancel' (Int.gcd_dvd_left _ _)]
  · rw [e2, Int.mul_ediv_cancel' (Int.gcd_dvd_right _ _)]
  · rw [e1, e2]; exact Int.gcd_ediv_gcd_ediv_gcd hg
theorem low_pos {n d : Int} (hd : 0 < d) : 0 < lowD n d ∧ (0 ≤ n → 0 ≤ lowN n d) := by
  obtain ⟨g, h1, h2, h3, _⟩ := low_parts (n := n) hd
  generalize lowN n d = x at *
  generalize lowD n d = y at *
  constructor
  · by_cases hy : 0 < y
    · exact hy
    · exfalso
      have := Int.mul_nonneg (show 0 ≤ g by omega) (show 0 ≤ -y by omega)
      rw [Int.mul_neg] at this; omega
  · intro hn
    by_cases hx : 0 ≤ x
    · exact hx
    · exfalso
      have := Int.mul_le_mul_of_nonneg_left (show x ≤ -1 by omega) (show 0 ≤ g by omega)
      omega
theorem sum_le {l : List Int} {m : Int} (h : ∀ x ∈ l, 0 ≤ x ∧ x ≤ m) : 0 ≤ l.sum ∧ l.sum ≤ l.length * m := by
  induction l with
  | nil => simp
  | cons x l ih =>
    have h1 := h x List.mem_cons_self
    have h2 := ih fun y hy => h y (List.mem_cons_of_mem _ hy)
    simp only [List.sum_cons, List.length_cons]
    rw [show ((l.length + 1 : Nat) : Int) = (l.length : Int) + 1 by omega, Int.add_mul, Int.one_mul]
    omega
/-- Photons: a quotient rounded half up. -/
theorem photon_eq {n b : Int} (hn : 0 ≤ n) (hb : 0 < b) : (2 * n + b).tdiv (2 * b) = (2 * n + b) / (2 * b) := Int.tdiv_eq_ediv_of_nonneg (by omega)
end Go.Proofs.YtddiingfddlaaaaDoor

/- Contracts: samples, times, dead times. By an AI agent; nothing here is trusted. -/
namespace Go.Proofs.YtddiingfddlaaaaDoor
open Go.Av

end Go.Proofs.YtddiingfddlaaaaDoor

/- Contracts: sums, lowest terms, gains, charges. By an AI agent; nothing here is trusted. -/
namespace Go.Proofs.YtddiingfddlaaaaDoor
open Go.Av

theorem divisor_s (a b : Int) (ha : S63 a) (hb : S63 b) : Sound Tryd.prog 92 [.int .i64 a, .int .i64 b] (.int .i64 (Int.gcd a b)) := by
  refine sound_W f_pulse_divisor (Nat.le_of_ble_eq_true rfl) ?_
  simp only [c_pulse_divisor, vcV, vcD, Int.reduceEq, Int.reduceNe, Int.reduceLT, Int.reduceLE, Nat.reduceEqDiff, Nat.reduceAdd, reduceIte, reduceCtorEq, Nat.reduceLT, Nat.reduceLeDiff, eq_self, Option.bind_some, Option.map_some, List.map_cons, List.map_nil, List.length_cons, List.length_nil, Option.getD_some, Option.getD_none, List.all_cons, List.all_nil, List.set_cons_zero, List.set_cons_succ, List.replicate_succ, List.replicate_zero, List.getElem?_cons_zero, List.getElem?_cons_succ, List.drop_succ_cons, List.drop_zero, List.take_succ_cons, List.take_zero, List.map_append, List.nil_append, List.cons_append, Nat.reduceShiftRight, Nat.reduceMod]
  refine W_loop (α := PSigma fun p : Int × Int => S63 p.1 ∧ S63 p.2 ∧ Int.gcd p.1 p.2 = Int.gcd a b) (fun p => (envOf [(0, .int .i64 p.1.1), (1, .int .i64 p.1.2)], noStore)) (fun p => p.1.2.natAbs) ⟨(a, b), ha, hb, rfl⟩ (weakE _ ?_) (fun ⟨p, h1, h2, h3⟩ => ?_)
  · simp only [vcV, vcD, Int.reduceEq, Int.reduceNe, Int.reduceLT, Int.reduceLE, Nat.reduceEqDiff, Nat.reduceAdd, reduceIte, reduceCtorEq, Nat.reduceLT, Nat.reduceLeDiff, eq_self, Option.bind_some, Option.map_some, List.map_cons, List.map_nil, List.length_cons, List.length_nil, Option.getD_some, Option.getD_none, List.all_cons, List.all_nil, List.set_cons_zero, List.set_cons_succ, List.replicate_succ, List.replicate_zero, List.getElem?_cons_zero, List.getElem?_cons_succ, List.drop_succ_cons, List.drop_zero, List.take_succ_cons, List.take_zero, List.map_append, List.nil_append, List.cons_append, Nat.reduceShiftRight, Nat.reduceMod]
  · obtain ⟨x, y⟩ := p
    simp only at h1 h2 h3
    simp only [vcV, vcD, Int.reduceEq, Int.reduceNe, Int.reduceLT, Int.reduceLE, Nat.reduceEqDiff, Nat.reduceAdd, reduceIte, reduceCtorEq, Nat.reduceLT, Nat.reduceLeDiff, eq_self, Option.bind_some, Option.map_some, List.map_cons, List.map_nil, List.length_cons, List.length_nil, Option.getD_some, Option.getD_none, List.all_cons, List.all_nil, List.set_cons_zero, List.set_cons_succ, List.replicate_succ, List.replicate_zero, List.getElem?_cons_zero, List.getElem?_cons_succ, List.drop_succ_cons, List.drop_zero, List.take_succ_cons, List.take_zero, List.map_append, List.nil_append, List.cons_append, Nat.reduceShiftRight, Nat.reduceMod]
    refine brB_split (fun h => ?_) (fun h => ?_)
    · have hy : y ≠ 0 := by simpa using h
      obtain ⟨t1, t2⟩ := tmod_S (a := x) h2 hy
      simp only [vcV, vcD, Int.reduceEq, Int.reduceNe, Int.reduceLT, Int.reduceLE, Nat.reduceEqDiff, Nat.reduceAdd, reduceIte, reduceCtorEq, Nat.reduceLT, Nat.reduceLeDiff, eq_self, Option.bind_some, Option.map_some, List.map_cons, List.map_nil, List.length_cons, List.length_nil, Option.getD_some, Option.getD_none, List.all_cons, List.all_nil, List.set_cons_zero, List.set_cons_succ, List.replicate_succ, List.replicate_zero, List.getElem?_cons_zero, List.getElem?_cons_succ, List.drop_succ_cons, List.drop_zero, List.take_succ_cons, List.take_zero, List.map_append, List.nil_append, List.cons_append, Nat.reduceShiftRight, Nat.reduceMod]
      refine ⟨hy, ⟨(y, x.tmod y), h2, t1, (gcd_tmod x y).trans h3⟩, t2, weakE _ ?_⟩
      simp only [vcV, vcD, Int.reduceEq, Int.reduceNe, Int.reduceLT, Int.reduceLE, Nat.reduceEqDiff, Nat.reduceAdd, reduceIte, reduceCtorEq, Nat.reduceLT, Nat.reduceLeDiff, eq_self, Option.bind_some, Option.map_some, List.map_cons, List.map_nil, List.length_cons, List.length_nil, Option.getD_some, Option.getD_none, List.all_cons, List.all_nil, List.set_cons_zero, List.set_cons_succ, List.replicate_succ, List.replicate_zero, List.getElem?_cons_zero, List.getElem?_cons_succ, List.drop_succ_cons, List.drop_zero, List.take_succ_cons, List.take_zero, List.map_append, List.nil_append, List.cons_append, Nat.reduceShiftRight, Nat.reduceMod]
    · have hy : y = 0 := by simpa using h
      subst hy
      unfold S63 at h1
      simp only [max_neg, vcV, vcD, Int.reduceEq, Int.reduceNe, Int.reduceLT, Int.reduceLE, Nat.reduceEqDiff, Nat.reduceAdd, reduceIte, reduceCtorEq, Nat.reduceLT, Nat.reduceLeDiff, eq_self, Option.bind_some, Option.map_some, List.map_cons, List.map_nil, List.length_cons, List.length_nil, Option.getD_some, Option.getD_none, List.all_cons, List.all_nil, List.set_cons_zero, List.set_cons_succ, List.replicate_succ, List.replicate_zero, List.getElem?_cons_zero, List.getElem?_cons_succ, List.drop_succ_cons, List.drop_zero, List.take_succ_cons, List.take_zero, List.map_append, List.nil_append, List.cons_append, Nat.reduceShiftRight, Nat.reduceMod]
      refine ⟨by (simp only [decide_eq_true_eq, decide_eq_false_iff_not, Bool.not_true, I64, Bool.not_eq_true', Bool.not_eq_false', bne_iff_ne, beq_iff_eq, ne_eq] at *; omega), ?_⟩
      rw [← h3]; simp [Int.gcd]

theorem pLowest_s (num den : Int) (hn : 0 ≤ num) (hn2 : num ≤ 9223372036854775807) (hd : 0 < den) (hd2 : den ≤ 9223372036854775807) : Sound Tryd.prog 66 [.int .i64 num, .int .i64 den]
    (.tup (if smallF (lowN num den) (lowD num den) then [fracA (lowN num den) (lowD num den), .int .i64 0] else [fracA 0 0, .int .i64 8])) := by
  refine sound_W f_pulse_lowest (Nat.le_of_ble_eq_true rfl) ?_
  have hg : 0 < Int.gcd num den := Int.gcd_pos_of_ne_zero_right _ (by omega)
  have hgl := gcd_S (a := num) (b := den) (by unfold S63; omega) (by omega)
  have t1 := tdiv_S (b := lowG num den) (a := num) (by unfold S63; omega)
  have t2 := tdiv_S (b := lowG num den) (a := den) (by unfold S63; omega)
  have e : lowG num den = (Int.gcd num den : Int) := by unfold lowG; rw [if_neg (by omega)]
  have p1 := (low_pos (n := num) hd).1
  have p2 := (low_pos (n := num) hd).2 hn
  have eN : num.tdiv (Int.gcd num den : Int) = lowN num den := by unfold lowN; rw [e]
  have eD : den.tdiv (Int.gcd num den : Int) = lowD num den := by unfold lowD; rw [e]
  rw [e] at t1 t2
  rw [eN] at t1
  rw [eD] at t2
  unfold S63 at t1 t2
  simp only [c_pulse_lowest, vcV, vcD, Int.reduceEq, Int.reduceNe, Int.reduceLT, Int.reduceLE, Nat.reduceEqDiff, Nat.reduceAdd, reduceIte, reduceCtorEq, Nat.reduceLT, Nat.reduceLeDiff, eq_self, Option.bind_some, Option.map_some, List.map_cons, List.map_nil, List.length_cons, List.length_nil, Option.getD_some, Option.getD_none, List.all_cons, List.all_nil, List.set_cons_zero, List.set_cons_succ, List.replicate_succ, List.replicate_zero, List.getElem?_cons_zero, List.getElem?_cons_succ, List.drop_succ_cons, List.drop_zero, List.take_succ_cons, List.take_zero, List.map_append, List.nil_append, List.cons_append, Nat.reduceShiftRight, Nat.reduceMod]
  refine callS_of (divisor_s num den (by unfold S63; omega) (by unfold S63; omega)) ?_
  simp only [eN, eD, vcV, vcD, Int.reduceEq, Int.reduceNe, Int.reduceLT, Int.reduceLE, Nat.reduceEqDiff, Nat.reduceAdd, reduceIte, reduceCtorEq, Nat.reduceLT, Nat.reduceLeDiff, eq_self, Option.bind_some, Option.map_some, List.map_cons, List.map_nil, List.length_cons, List.length_nil, Option.getD_some, Option.getD_none, List.all_cons, List.all_nil, List.set_cons_zero, List.set_cons_succ, List.replicate_succ, List.replicate_zero, List.getElem?_cons_zero, List.getElem?_cons_succ, List.drop_succ_cons, List.drop_zero, List.take_succ_cons, List.take_zero, List.map_append, List.nil_append, List.cons_append, Nat.reduceShiftRight, Nat.reduceMod]
  generalize lowN num den = n at *
  generalize lowD num den = d at *
  have hne : ((Int.gcd num den : Nat) : Int) ≠ 0 := by omega
  refine ⟨hne, by unfold I64; omega, hne, by unfold I64; omega, ?_⟩
  by_cases h1 : 1000000000 < n
  · have hs : smallF n d = false := by unfold smallF; rw [decide_eq_false (by omega)]; rfl
    simp only [h1, hs, fracA, vcV, vcD, Int.reduceEq, Int.reduceNe, Int.reduceLT, Int.reduceLE, Nat.reduceEqDiff, Nat.reduceAdd, reduceIte, reduceCtorEq, Nat.reduceLT, Nat.reduceLeDiff, eq_self, Option.bind_some, Option.map_some, List.map_cons, List.map_nil, List.length_cons, List.length_nil, Option.getD_some, Option.getD_none, List.all_cons, List.all_nil, List.set_cons_zero, List.set_cons_succ, List.replicate_succ, List.replicate_zero, List.getElem?_cons_zero, List.getElem?_cons_succ, List.drop_succ_cons, List.drop_zero, List.take_succ_cons, List.take_zero, List.map_append, List.nil_append, List.cons_append, Nat.reduceShiftRight, Nat.reduceMod]
  · by_cases h2 : 1000000000 < d
    · have hs : smallF n d = false := by unfold smallF; rw [decide_eq_false (p := 1 ≤ d ∧ d ≤ 1000000000) (by omega)]; simp
      simp only [h1, h2, hs, fracA, vcV, vcD, Int.reduceEq, Int.reduceNe, Int.reduceLT, Int.reduceLE, Nat.reduceEqDiff, Nat.reduceAdd, reduceIte, reduceCtorEq, Nat.reduceLT, Nat.reduceLeDiff, eq_self, Option.bind_some, Option.map_some, List.map_cons, List.map_nil, List.length_cons, List.length_nil, Option.getD_some, Option.getD_none, List.all_cons, List.all_nil, List.set_cons_zero, List.set_cons_succ, List.replicate_succ, List.replicate_zero, List.getElem?_cons_zero, List.getElem?_cons_succ, List.drop_succ_cons, List.drop_zero, List.take_succ_cons, List.take_zero, List.map_append, List.nil_append, List.cons_append, Nat.reduceShiftRight, Nat.reduceMod]
    · have hs : smallF n d = true := by unfold smallF; rw [decide_eq_true (by omega), decide_eq_true (by omega)]; rfl
      simp only [h1, h2, hs, fracA, vcV, vcD, Int.reduceEq, Int.reduceNe, Int.reduceLT, Int.reduceLE, Nat.reduceEqDiff, Nat.reduceAdd, reduceIte, reduceCtorEq, Nat.reduceLT, Nat.reduceLeDiff, eq_self, Option.bind_some, Option.map_some, List.map_cons, List.map_nil, List.length_cons, List.length_nil, Option.getD_some, Option.getD_none, List.all_cons, List.all_nil, List.set_cons_zero, List.set_cons_succ, List.replicate_succ, List.replicate_zero, List.getElem?_cons_zero, List.getElem?_cons_succ, List.drop_succ_cons, List.drop_zero, List.take_succ_cons, List.take_zero, List.map_append, List.nil_append, List.cons_append, Nat.reduceShiftRight, Nat.reduceMod]

/-- Sums that fit. -/
def sumOk (l : List Int) : Prop := ∀ i, I64 ((l.take i).sum)
theorem take_sum_succ (l : List Int) (i : Nat) (h : i < l.length) : (l.take (i + 1)).sum = (l.take i).sum + l[i] := by
  rw [List.take_succ_eq_append_getElem h, List.sum_append]; simp
theorem sum_abs {l : List Int} {m : Int} (hm : 0 ≤ m) (h : ∀ x ∈ l, -m ≤ x ∧ x ≤ m) : -(l.length * m) ≤ l.sum ∧ l.sum ≤ l.length * m := by
  induction l with
  | nil => simp
  | cons x l ih =>
    have h1 := h x List.mem_cons_self
    have h2 := ih fun y hy => h y (List.mem_cons_of_mem _ hy)
    simp only [List.sum_cons, List.length_cons]
    rw [show ((l.length + 1 : Nat) : Int) = (l.length : Int) + 1 by omega, Int.add_mul, Int.one_mul]
    omega
theorem sumOk_of {l : List Int} (hl : l.length ≤ 100) (h : ∀ x ∈ l, -1000000000000 ≤ x ∧ x ≤ 1000000000000) : sumOk l := by
  intro i
  have h1 := sum_abs (l := l.take i) (m := 1000000000000) (by omega) fun x hx => h x (List.mem_of_mem_take hx)
  have h2 : ((l.take i).length : Int) ≤ 100 := by rw [List.length_take]; omega
  unfold I64; omega
theorem sum_s (l : List Int) (hl : l.length ≤ 1000000000) (h : sumOk l) : Sound Tryd.prog 65 [.sl (ints l)] (.int .i64 l.sum) := by
  refine sound_W f_pulse_sum (Nat.le_of_ble_eq_true rfl) ?_
  simp only [c_pulse_sum, vcV, vcD, Int.reduceEq, Int.reduceNe, Int.reduceLT, Int.reduceLE, Nat.reduceEqDiff, Nat.reduceAdd, reduceIte, reduceCtorEq, Nat.reduceLT, Nat.reduceLeDiff, eq_self, Option.bind_some, Option.map_some, List.map_cons, List.map_nil, List.length_cons, List.length_nil, Option.getD_some, Option.getD_none, List.all_cons, List.all_nil, List.set_cons_zero, List.set_cons_succ, List.replicate_succ, List.replicate_zero, List.getElem?_cons_zero, List.getElem?_cons_succ, List.drop_succ_cons, List.drop_zero, List.take_succ_cons, List.take_zero, List.map_append, List.nil_append, List.cons_append, Nat.reduceShiftRight, Nat.reduceMod]
  refine W_loop (t := .mk) (α := PSigma fun i : Nat => i ≤ l.length ∧ (True)) (fun ⟨i, _⟩ => ((envOf [(3, .int .i64 (l.take i).sum), (6, .sl (ints l)), (7, .int .i64 l.length), (8, .int .i64 i)], stOf []))) (fun i => l.length - i.1) ⟨0, Nat.zero_le _, ?_⟩ ?_ (fun ⟨i, hi, hn⟩ => ?_)
  · trivial
  · refine weakX [] (of_decide_eq_true rfl) (of_decide_eq_true rfl) ?_
    (simp only [vcW, vcV, vcD, Int.reduceEq, Int.reduceNe, Int.reduceLT, Int.reduceLE, Nat.reduceEqDiff, Nat.reduceAdd, reduceIte, reduceCtorEq, Nat.reduceLT, Nat.reduceLeDiff, eq_self, Option.bind_some, Option.map_some, List.map_cons, List.map_nil, List.length_cons, List.length_nil, Option.getD_some, Option.getD_none, List.all_cons, List.all_nil, List.set_cons_zero, List.set_cons_succ, List.replicate_succ, List.replicate_zero, List.getElem?_cons_zero, List.getElem?_cons_succ, List.drop_succ_cons, List.drop_zero, List.take_succ_cons, List.take_zero, List.map_append, List.nil_append, List.cons_append, Nat.reduceShiftRight, Nat.reduceMod])
    (repeat' first | exact trivial | (with_reducible exact RnB.fxB (ints_fxB _)) | (with_reducible rfl) | (with_reducible refine And.intro ?_ ?_) | (with_reducible refine RnB.bb ?_; simp only [vcW, vcV, vcD, Int.reduceEq, Int.reduceNe, Int.reduceLT, Int.reduceLE, Nat.reduceEqDiff, Nat.reduceAdd, reduceIte, reduceCtorEq, Nat.reduceLT, Nat.reduceLeDiff, eq_self, Option.bind_some, Option.map_some, List.map_cons, List.map_nil, List.length_cons, List.length_nil, Option.getD_some, Option.getD_none, List.all_cons, List.all_nil, List.set_cons_zero, List.set_cons_succ, List.replicate_succ, List.replicate_zero, List.getElem?_cons_zero, List.getElem?_cons_succ, List.drop_succ_cons, List.drop_zero, List.take_succ_cons, List.take_zero, List.map_append, List.nil_append, List.cons_append, Nat.reduceShiftRight, Nat.reduceMod]) | (with_reducible refine RnB.nb ?_; simp only [vcW, vcV, vcD, Int.reduceEq, Int.reduceNe, Int.reduceLT, Int.reduceLE, Nat.reduceEqDiff, Nat.reduceAdd, reduceIte, reduceCtorEq, Nat.reduceLT, Nat.reduceLeDiff, eq_self, Option.bind_some, Option.map_some, List.map_cons, List.map_nil, List.length_cons, List.length_nil, Option.getD_some, Option.getD_none, List.all_cons, List.all_nil, List.set_cons_zero, List.set_cons_succ, List.replicate_succ, List.replicate_zero, List.getElem?_cons_zero, List.getElem?_cons_succ, List.drop_succ_cons, List.drop_zero, List.take_succ_cons, List.take_zero, List.map_append, List.nil_append, List.cons_append, Nat.reduceShiftRight, Nat.reduceMod]) | (with_reducible refine RnB.ii ?_) | (with_reducible refine RnB.app ?_) | (with_reducible refine RnB.fxB ?_; simp only [vcW, vcV, vcD, Int.reduceEq, Int.reduceNe, Int.reduceLT, Int.reduceLE, Nat.reduceEqDiff, Nat.reduceAdd, reduceIte, reduceCtorEq, Nat.reduceLT, Nat.reduceLeDiff, eq_self, Option.bind_some, Option.map_some, List.map_cons, List.map_nil, List.length_cons, List.length_nil, Option.getD_some, Option.getD_none, List.all_cons, List.all_nil, List.set_cons_zero, List.set_cons_succ, List.replicate_succ, List.replicate_zero, List.getElem?_cons_zero, List.getElem?_cons_succ, List.drop_succ_cons, List.drop_zero, List.take_succ_cons, List.take_zero, List.map_append, List.nil_append, List.cons_append, Nat.reduceShiftRight, Nat.reduceMod]) | omega)
    all_goals rfl
  · by_cases h' : i < l.length
    · have h2 : (i : Int) < l.length := by omega
      have hs := take_sum_succ l i h'
      have hi1 := h (i + 1)
      rw [hs] at hi1
      simp only [h2, ints_get l i h', vcV, vcD, Int.reduceEq, Int.reduceNe, Int.reduceLT, Int.reduceLE, Nat.reduceEqDiff, Nat.reduceAdd, reduceIte, reduceCtorEq, Nat.reduceLT, Nat.reduceLeDiff, eq_self, Option.bind_some, Option.map_some, List.map_cons, List.map_nil, List.length_cons, List.length_nil, Option.getD_some, Option.getD_none, List.all_cons, List.all_nil, List.set_cons_zero, List.set_cons_succ, List.replicate_succ, List.replicate_zero, List.getElem?_cons_zero, List.getElem?_cons_succ, List.drop_succ_cons, List.drop_zero, List.take_succ_cons, List.take_zero, List.map_append, List.nil_append, List.cons_append, Nat.reduceShiftRight, Nat.reduceMod]
      refine ⟨by omega, hi1, by unfold I64; omega, ⟨i + 1, h', trivial⟩, by simp only; omega, ?_⟩
      refine weakX [] (of_decide_eq_true rfl) (of_decide_eq_true rfl) ?_
      (simp only [hs, vcW, vcV, vcD, Int.reduceEq, Int.reduceNe, Int.reduceLT, Int.reduceLE, Nat.reduceEqDiff, Nat.reduceAdd, reduceIte, reduceCtorEq, Nat.reduceLT, Nat.reduceLeDiff, eq_self, Option.bind_some, Option.map_some, List.map_cons, List.map_nil, List.length_cons, List.length_nil, Option.getD_some, Option.getD_none, List.all_cons, List.all_nil, List.set_cons_zero, List.set_cons_succ, List.replicate_succ, List.replicate_zero, List.getElem?_cons_zero, List.getElem?_cons_succ, List.drop_succ_cons, List.drop_zero, List.take_succ_cons, List.take_zero, List.map_append, List.nil_append, List.cons_append, Nat.reduceShiftRight, Nat.reduceMod])
      (repeat' first | exact trivial | (with_reducible exact RnB.fxB (ints_fxB _)) | (with_reducible rfl) | (with_reducible refine And.intro ?_ ?_) | (with_reducible refine RnB.bb ?_; simp only [vcW, vcV, vcD, Int.reduceEq, Int.reduceNe, Int.reduceLT, Int.reduceLE, Nat.reduceEqDiff, Nat.reduceAdd, reduceIte, reduceCtorEq, Nat.reduceLT, Nat.reduceLeDiff, eq_self, Option.bind_some, Option.map_some, List.map_cons, List.map_nil, List.length_cons, List.length_nil, Option.getD_some, Option.getD_none, List.all_cons, List.all_nil, List.set_cons_zero, List.set_cons_succ, List.replicate_succ, List.replicate_zero, List.getElem?_cons_zero, List.getElem?_cons_succ, List.drop_succ_cons, List.drop_zero, List.take_succ_cons, List.take_zero, List.map_append, List.nil_append, List.cons_append, Nat.reduceShiftRight, Nat.reduceMod]) | (with_reducible refine RnB.nb ?_; simp only [vcW, vcV, vcD, Int.reduceEq, Int.reduceNe, Int.reduceLT, Int.reduceLE, Nat.reduceEqDiff, Nat.reduceAdd, reduceIte, reduceCtorEq, Nat.reduceLT, Nat.reduceLeDiff, eq_self, Option.bind_some, Option.map_some, List.map_cons, List.map_nil, List.length_cons, List.length_nil, Option.getD_some, Option.getD_none, List.all_cons, List.all_nil, List.set_cons_zero, List.set_cons_succ, List.replicate_succ, List.replicate_zero, List.getElem?_cons_zero, List.getElem?_cons_succ, List.drop_succ_cons, List.drop_zero, List.take_succ_cons, List.take_zero, List.map_append, List.nil_append, List.cons_append, Nat.reduceShiftRight, Nat.reduceMod]) | (with_reducible refine RnB.ii ?_) | (with_reducible refine RnB.app ?_) | (with_reducible refine RnB.fxB ?_; simp only [vcW, vcV, vcD, Int.reduceEq, Int.reduceNe, Int.reduceLT, Int.reduceLE, Nat.reduceEqDiff, Nat.reduceAdd, reduceIte, reduceCtorEq, Nat.reduceLT, Nat.reduceLeDiff, eq_self, Option.bind_some, Option.map_some, List.map_cons, List.map_nil, List.length_cons, List.length_nil, Option.getD_some, Option.getD_none, List.all_cons, List.all_nil, List.set_cons_zero, List.set_cons_succ, List.replicate_succ, List.replicate_zero, List.getElem?_cons_zero, List.getElem?_cons_succ, List.drop_succ_cons, List.drop_zero, List.take_succ_cons, List.take_zero, List.map_append, List.nil_append, List.cons_append, Nat.reduceShiftRight, Nat.reduceMod]) | omega)
    · have h2 : ¬ (i : Int) < l.length := by omega
      have he : i = l.length := by omega
      subst he
      simp only [h2, List.take_length, vcV, vcD, Int.reduceEq, Int.reduceNe, Int.reduceLT, Int.reduceLE, Nat.reduceEqDiff, Nat.reduceAdd, reduceIte, reduceCtorEq, Nat.reduceLT, Nat.reduceLeDiff, eq_self, Option.bind_some, Option.map_some, List.map_cons, List.map_nil, List.length_cons, List.length_nil, Option.getD_some, Option.getD_none, List.all_cons, List.all_nil, List.set_cons_zero, List.set_cons_succ, List.replicate_succ, List.replicate_zero, List.getElem?_cons_zero, List.getElem?_cons_succ, List.drop_succ_cons, List.drop_zero, List.take_succ_cons, List.take_zero, List.map_append, List.nil_append, List.cons_append, Nat.reduceShiftRight, Nat.reduceMod]
theorem Sum_s (l : List Int) (hl : l.length ≤ 1000000000) (h : sumOk l) : Sound Tryd.prog 44 [.sl (ints l)] (.int .i64 l.sum) := by
  refine sound_W f_ref02_Sum (Nat.le_of_ble_eq_true rfl) ?_
  simp only [c_ref02_Sum, vcV, vcD, Int.reduceEq, Int.reduceNe, Int.reduceLT, Int.reduceLE, Nat.reduceEqDiff, Nat.reduceAdd, reduceIte, reduceCtorEq, Nat.reduceLT, Nat.reduceLeDiff, eq_self, Option.bind_some, Option.map_some, List.map_cons, List.map_nil, List.length_cons, List.length_nil, Option.getD_some, Option.getD_none, List.all_cons, List.all_nil, List.set_cons_zero, List.set_cons_succ, List.replicate_succ, List.replicate_zero, List.getElem?_cons_zero, List.getElem?_cons_succ, List.drop_succ_cons, List.drop_zero, List.take_succ_cons, List.take_zero, List.map_append, List.nil_append, List.cons_append, Nat.reduceShiftRight, Nat.reduceMod]
  refine W_loop (t := .mk) (α := PSigma fun i : Nat => i ≤ l.length ∧ (True)) (fun ⟨i, _⟩ => ((envOf [(0, .sl (ints l)), (3, .int .i64 (l.take i).sum), (4, .int .i64 i)], stOf []))) (fun i => l.length - i.1) ⟨0, Nat.zero_le _, ?_⟩ ?_ (fun ⟨i, hi, hn⟩ => ?_)
  · trivial
  · refine weakX [] (of_decide_eq_true rfl) (of_decide_eq_true rfl) ?_
    (simp only [vcW, vcV, vcD, Int.reduceEq, Int.reduceNe, Int.reduceLT, Int.reduceLE, Nat.reduceEqDiff, Nat.reduceAdd, reduceIte, reduceCtorEq, Nat.reduceLT, Nat.reduceLeDiff, eq_self, Option.bind_some, Option.map_some, List.map_cons, List.map_nil, List.length_cons, List.length_nil, Option.getD_some, Option.getD_none, List.all_cons, List.all_nil, List.set_cons_zero, List.set_cons_succ, List.replicate_succ, List.replicate_zero, List.getElem?_cons_zero, List.getElem?_cons_succ, List.drop_succ_cons, List.drop_zero, List.take_succ_cons, List.take_zero, List.map_append, List.nil_append, List.cons_append, Nat.reduceShiftRight, Nat.reduceMod])
    (repeat' first | exact trivial | (with_reducible exact RnB.fxB (ints_fxB _)) | (with_reducible rfl) | (with_reducible refine And.intro ?_ ?_) | (with_reducible refine RnB.bb ?_; simp only [vcW, vcV, vcD, Int.reduceEq, Int.reduceNe, Int.reduceLT, Int.reduceLE, Nat.reduceEqDiff, Nat.reduceAdd, reduceIte, reduceCtorEq, Nat.reduceLT, Nat.reduceLeDiff, eq_self, Option.bind_some, Option.map_some, List.map_cons, List.map_nil, List.length_cons, List.length_nil, Option.getD_some, Option.getD_none, List.all_cons, List.all_nil, List.set_cons_zero, List.set_cons_succ, List.replicate_succ, List.replicate_zero, List.getElem?_cons_zero, List.getElem?_cons_succ, List.drop_succ_cons, List.drop_zero, List.take_succ_cons, List.take_zero, List.map_append, List.nil_append, List.cons_append, Nat.reduceShiftRight, Nat.reduceMod]) | (with_reducible refine RnB.nb ?_; simp only [vcW, vcV, vcD, Int.reduceEq, Int.reduceNe, Int.reduceLT, Int.reduceLE, Nat.reduceEqDiff, Nat.reduceAdd, reduceIte, reduceCtorEq, Nat.reduceLT, Nat.reduceLeDiff, eq_self, Option.bind_some, Option.map_some, List.map_cons, List.map_nil, List.length_cons, List.length_nil, Option.getD_some, Option.getD_none, List.all_cons, List.all_nil, List.set_cons_zero, List.set_cons_succ, List.replicate_succ, List.replicate_zero, List.getElem?_cons_zero, List.getElem?_cons_succ, List.drop_succ_cons, List.drop_zero, List.take_succ_cons, List.take_zero, List.map_append, List.nil_append, List.cons_append, Nat.reduceShiftRight, Nat.reduceMod]) | (with_reducible refine RnB.ii ?_) | (with_reducible refine RnB.app ?_) | (with_reducible refine RnB.fxB ?_; simp only [vcW, vcV, vcD, Int.reduceEq, Int.reduceNe, Int.reduceLT, Int.reduceLE, Nat.reduceEqDiff, Nat.reduceAdd, reduceIte, reduceCtorEq, Nat.reduceLT, Nat.reduceLeDiff, eq_self, Option.bind_some, Option.map_some, List.map_cons, List.map_nil, List.length_cons, List.length_nil, Option.getD_some, Option.getD_none, List.all_cons, List.all_nil, List.set_cons_zero, List.set_cons_succ, List.replicate_succ, List.replicate_zero, List.getElem?_cons_zero, List.getElem?_cons_succ, List.drop_succ_cons, List.drop_zero, List.take_succ_cons, List.take_zero, List.map_append, List.nil_append, List.cons_append, Nat.reduceShiftRight, Nat.reduceMod]) | omega)
    all_goals rfl
  · by_cases h' : i < l.length
    · have h2 : (i : Int) < l.length := by omega
      have hs := take_sum_succ l i h'
      have hi1 := h (i + 1)
      rw [hs] at hi1
      simp only [h2, ints_get l i h', vcV, vcD, Int.reduceEq, Int.reduceNe, Int.reduceLT, Int.reduceLE, Nat.reduceEqDiff, Nat.reduceAdd, reduceIte, reduceCtorEq, Nat.reduceLT, Nat.reduceLeDiff, eq_self, Option.bind_some, Option.map_some, List.map_cons, List.map_nil, List.length_cons, List.length_nil, Option.getD_some, Option.getD_none, List.all_cons, List.all_nil, List.set_cons_zero, List.set_cons_succ, List.replicate_succ, List.replicate_zero, List.getElem?_cons_zero, List.getElem?_cons_succ, List.drop_succ_cons, List.drop_zero, List.take_succ_cons, List.take_zero, List.map_append, List.nil_append, List.cons_append, Nat.reduceShiftRight, Nat.reduceMod]
      refine ⟨by omega, hi1, by unfold I64; omega, ⟨i + 1, h', trivial⟩, by simp only; omega, ?_⟩
      refine weakX [] (of_decide_eq_true rfl) (of_decide_eq_true rfl) ?_
      (simp only [hs, vcW, vcV, vcD, Int.reduceEq, Int.reduceNe, Int.reduceLT, Int.reduceLE, Nat.reduceEqDiff, Nat.reduceAdd, reduceIte, reduceCtorEq, Nat.reduceLT, Nat.reduceLeDiff, eq_self, Option.bind_some, Option.map_some, List.map_cons, List.map_nil, List.length_cons, List.length_nil, Option.getD_some, Option.getD_none, List.all_cons, List.all_nil, List.set_cons_zero, List.set_cons_succ, List.replicate_succ, List.replicate_zero, List.getElem?_cons_zero, List.getElem?_cons_succ, List.drop_succ_cons, List.drop_zero, List.take_succ_cons, List.take_zero, List.map_append, List.nil_append, List.cons_append, Nat.reduceShiftRight, Nat.reduceMod])
      (repeat' first | exact trivial | (with_reducible exact RnB.fxB (ints_fxB _)) | (with_reducible rfl) | (with_reducible refine And.intro ?_ ?_) | (with_reducible refine RnB.bb ?_; simp only [vcW, vcV, vcD, Int.reduceEq, Int.reduceNe, Int.reduceLT, Int.reduceLE, Nat.reduceEqDiff, Nat.reduceAdd, reduceIte, reduceCtorEq, Nat.reduceLT, Nat.reduceLeDiff, eq_self, Option.bind_some, Option.map_some, List.map_cons, List.map_nil, List.length_cons, List.length_nil, Option.getD_some, Option.getD_none, List.all_cons, List.all_nil, List.set_cons_zero, List.set_cons_succ, List.replicate_succ, List.replicate_zero, List.getElem?_cons_zero, List.getElem?_cons_succ, List.drop_succ_cons, List.drop_zero, List.take_succ_cons, List.take_zero, List.map_append, List.nil_append, List.cons_append, Nat.reduceShiftRight, Nat.reduceMod]) | (with_reducible refine RnB.nb ?_; simp only [vcW, vcV, vcD, Int.reduceEq, Int.reduceNe, Int.reduceLT, Int.reduceLE, Nat.reduceEqDiff, Nat.reduceAdd, reduceIte, reduceCtorEq, Nat.reduceLT, Nat.reduceLeDiff, eq_self, Option.bind_some, Option.map_some, List.map_cons, List.map_nil, List.length_cons, List.length_nil, Option.getD_some, Option.getD_none, List.all_cons, List.all_nil, List.set_cons_zero, List.set_cons_succ, List.replicate_succ, List.replicate_zero, List.getElem?_cons_zero, List.getElem?_cons_succ, List.drop_succ_cons, List.drop_zero, List.take_succ_cons, List.take_zero, List.map_append, List.nil_append, List.cons_append, Nat.reduceShiftRight, Nat.reduceMod]) | (with_reducible refine RnB.ii ?_) | (with_reducible refine RnB.app ?_) | (with_reducible refine RnB.fxB ?_; simp only [vcW, vcV, vcD, Int.reduceEq, Int.reduceNe, Int.reduceLT, Int.reduceLE, Nat.reduceEqDiff, Nat.reduceAdd, reduceIte, reduceCtorEq, Nat.reduceLT, Nat.reduceLeDiff, eq_self, Option.bind_some, Option.map_some, List.map_cons, List.map_nil, List.length_cons, List.length_nil, Option.getD_some, Option.getD_none, List.all_cons, List.all_nil, List.set_cons_zero, List.set_cons_succ, List.replicate_succ, List.replicate_zero, List.getElem?_cons_zero, List.getElem?_cons_succ, List.drop_succ_cons, List.drop_zero, List.take_succ_cons, List.take_zero, List.map_append, List.nil_append, List.cons_append, Nat.reduceShiftRight, Nat.reduceMod]) | omega)
    · have h2 : ¬ (i : Int) < l.length := by omega
      have he : i = l.length := by omega
      subst he
      simp only [h2, List.take_length, vcV, vcD, Int.reduceEq, Int.reduceNe, Int.reduceLT, Int.reduceLE, Nat.reduceEqDiff, Nat.reduceAdd, reduceIte, reduceCtorEq, Nat.reduceLT, Nat.reduceLeDiff, eq_self, Option.bind_some, Option.map_some, List.map_cons, List.map_nil, List.length_cons, List.length_nil, Option.getD_some, Option.getD_none, List.all_cons, List.all_nil, List.set_cons_zero, List.set_cons_succ, List.replicate_succ, List.replicate_zero, List.getElem?_cons_zero, List.getElem?_cons_succ, List.drop_succ_cons, List.drop_zero, List.take_succ_cons, List.take_zero, List.map_append, List.nil_append, List.cons_append, Nat.reduceShiftRight, Nat.reduceMod]

end Go.Proofs.YtddiingfddlaaaaDoor

/- Contracts: fits, charges, photons. By an AI agent; nothing here is trusted. -/
namespace Go.Proofs.YtddiingfddlaaaaDoor
open Go.Av

def fitA (den : Int) (parts : List Int) : AV := .agg [.int .i64 den, .sl (ints parts)]
def fE (den : Int) (parts : List Int) : Int := if 1 ≤ den ∧ den ≤ 1000000000000 then (if 5 < parts.length then 8 else if parts.all (fun n => decide (0 ≤ n ∧ n ≤ 1000000000000)) then 0 else 2) else 2
theorem fE_ok {den : Int} {parts : List Int} (h : fE den parts = 0) : (1 ≤ den ∧ den ≤ 1000000000000) ∧ parts.length ≤ 5 ∧ ∀ x ∈ parts, 0 ≤ x ∧ x ≤ 1000000000000 := by
  unfold fE at h
  split at h
  · split at h
    · cases h
    · split at h
      · rename_i h1 h2 h3
        exact ⟨h1, by omega, fun x hx => by simpa using List.all_eq_true.1 h3 x hx⟩
      · cases h
  · cases h
theorem fitErr_1_s (n : Int) : Sound Tryd.prog 96 [.int .i64 n] (.bool (!decide (0 ≤ n ∧ n ≤ 1000000000000))) := by
  refine sound_W f_pulse_fitErr_1 (Nat.le_of_ble_eq_true rfl) ?_
  simp only [c_pulse_fitErr_1, vcV, vcD, Int.reduceEq, Int.reduceNe, Int.reduceLT, Int.reduceLE, Nat.reduceEqDiff, Nat.reduceAdd, reduceIte, reduceCtorEq, Nat.reduceLT, Nat.reduceLeDiff, eq_self, Option.bind_some, Option.map_some, List.map_cons, List.map_nil, List.length_cons, List.length_nil, Option.getD_some, Option.getD_none, List.all_cons, List.all_nil, List.set_cons_zero, List.set_cons_succ, List.replicate_succ, List.replicate_zero, List.getElem?_cons_zero, List.getElem?_cons_succ, List.drop_succ_cons, List.drop_zero, List.take_succ_cons, List.take_zero, List.map_append, List.nil_append, List.cons_append, Nat.reduceShiftRight, Nat.reduceMod]
  refine callS_of (within_s _ _ _) ?_
  simp only [vcV, vcD, Int.reduceEq, Int.reduceNe, Int.reduceLT, Int.reduceLE, Nat.reduceEqDiff, Nat.reduceAdd, reduceIte, reduceCtorEq, Nat.reduceLT, Nat.reduceLeDiff, eq_self, Option.bind_some, Option.map_some, List.map_cons, List.map_nil, List.length_cons, List.length_nil, Option.getD_some, Option.getD_none, List.all_cons, List.all_nil, List.set_cons_zero, List.set_cons_succ, List.replicate_succ, List.replicate_zero, List.getElem?_cons_zero, List.getElem?_cons_succ, List.drop_succ_cons, List.drop_zero, List.take_succ_cons, List.take_zero, List.map_append, List.nil_append, List.cons_append, Nat.reduceShiftRight, Nat.reduceMod]
theorem fitErr_s (den : Int) (parts : List Int) (hl : parts.length < 4000000000000000000) : Sound Tryd.prog 76 [fitA den parts] (.int .i64 (fE den parts)) := by
  refine sound_W f_pulse_fitErr (Nat.le_of_ble_eq_true rfl) ?_
  simp only [c_pulse_fitErr, fitA, vcV, vcD, Int.reduceEq, Int.reduceNe, Int.reduceLT, Int.reduceLE, Nat.reduceEqDiff, Nat.reduceAdd, reduceIte, reduceCtorEq, Nat.reduceLT, Nat.reduceLeDiff, eq_self, Option.bind_some, Option.map_some, List.map_cons, List.map_nil, List.length_cons, List.length_nil, Option.getD_some, Option.getD_none, List.all_cons, List.all_nil, List.set_cons_zero, List.set_cons_succ, List.replicate_succ, List.replicate_zero, List.getElem?_cons_zero, List.getElem?_cons_succ, List.drop_succ_cons, List.drop_zero, List.take_succ_cons, List.take_zero, List.map_append, List.nil_append, List.cons_append, Nat.reduceShiftRight, Nat.reduceMod]
  refine callS_of (contFunc_int_s parts _ [] (fun n => !decide (0 ≤ n ∧ n ≤ 1000000000000)) hl (by simp) (fun x _ => fitErr_1_s x)) ?_
  simp only [vcV, vcD, Int.reduceEq, Int.reduceNe, Int.reduceLT, Int.reduceLE, Nat.reduceEqDiff, Nat.reduceAdd, reduceIte, reduceCtorEq, Nat.reduceLT, Nat.reduceLeDiff, eq_self, Option.bind_some, Option.map_some, List.map_cons, List.map_nil, List.length_cons, List.length_nil, Option.getD_some, Option.getD_none, List.all_cons, List.all_nil, List.set_cons_zero, List.set_cons_succ, List.replicate_succ, List.replicate_zero, List.getElem?_cons_zero, List.getElem?_cons_succ, List.drop_succ_cons, List.drop_zero, List.take_succ_cons, List.take_zero, List.map_append, List.nil_append, List.cons_append, Nat.reduceShiftRight, Nat.reduceMod]
  refine callS_of (within_s _ _ _) ?_
  simp only [vcV, vcD, Int.reduceEq, Int.reduceNe, Int.reduceLT, Int.reduceLE, Nat.reduceEqDiff, Nat.reduceAdd, reduceIte, reduceCtorEq, Nat.reduceLT, Nat.reduceLeDiff, eq_self, Option.bind_some, Option.map_some, List.map_cons, List.map_nil, List.length_cons, List.length_nil, Option.getD_some, Option.getD_none, List.all_cons, List.all_nil, List.set_cons_zero, List.set_cons_succ, List.replicate_succ, List.replicate_zero, List.getElem?_cons_zero, List.getElem?_cons_succ, List.drop_succ_cons, List.drop_zero, List.take_succ_cons, List.take_zero, List.map_append, List.nil_append, List.cons_append, Nat.reduceShiftRight, Nat.reduceMod]
  refine callS_of (unless_s _ _) ?_
  simp only [vcV, vcD, Int.reduceEq, Int.reduceNe, Int.reduceLT, Int.reduceLE, Nat.reduceEqDiff, Nat.reduceAdd, reduceIte, reduceCtorEq, Nat.reduceLT, Nat.reduceLeDiff, eq_self, Option.bind_some, Option.map_some, List.map_cons, List.map_nil, List.length_cons, List.length_nil, Option.getD_some, Option.getD_none, List.all_cons, List.all_nil, List.set_cons_zero, List.set_cons_succ, List.replicate_succ, List.replicate_zero, List.getElem?_cons_zero, List.getElem?_cons_succ, List.drop_succ_cons, List.drop_zero, List.take_succ_cons, List.take_zero, List.map_append, List.nil_append, List.cons_append, Nat.reduceShiftRight, Nat.reduceMod]
  refine callS_of (unless_s _ _) ?_
  simp only [vcV, vcD, Int.reduceEq, Int.reduceNe, Int.reduceLT, Int.reduceLE, Nat.reduceEqDiff, Nat.reduceAdd, reduceIte, reduceCtorEq, Nat.reduceLT, Nat.reduceLeDiff, eq_self, Option.bind_some, Option.map_some, List.map_cons, List.map_nil, List.length_cons, List.length_nil, Option.getD_some, Option.getD_none, List.all_cons, List.all_nil, List.set_cons_zero, List.set_cons_succ, List.replicate_succ, List.replicate_zero, List.getElem?_cons_zero, List.getElem?_cons_succ, List.drop_succ_cons, List.drop_zero, List.take_succ_cons, List.take_zero, List.map_append, List.nil_append, List.cons_append, Nat.reduceShiftRight, Nat.reduceMod]
  refine callS_of (unless_s _ _) ?_
  simp only [vcV, vcD, Int.reduceEq, Int.reduceNe, Int.reduceLT, Int.reduceLE, Nat.reduceEqDiff, Nat.reduceAdd, reduceIte, reduceCtorEq, Nat.reduceLT, Nat.reduceLeDiff, eq_self, Option.bind_some, Option.map_some, List.map_cons, List.map_nil, List.length_cons, List.length_nil, Option.getD_some, Option.getD_none, List.all_cons, List.all_nil, List.set_cons_zero, List.set_cons_succ, List.replicate_succ, List.replicate_zero, List.getElem?_cons_zero, List.getElem?_cons_succ, List.drop_succ_cons, List.drop_zero, List.take_succ_cons, List.take_zero, List.map_append, List.nil_append, List.cons_append, Nat.reduceShiftRight, Nat.reduceMod]
  refine callS_of (first3_s _ _ _) ?_
  simp only [vcV, vcD, Int.reduceEq, Int.reduceNe, Int.reduceLT, Int.reduceLE, Nat.reduceEqDiff, Nat.reduceAdd, reduceIte, reduceCtorEq, Nat.reduceLT, Nat.reduceLeDiff, eq_self, Option.bind_some, Option.map_some, List.map_cons, List.map_nil, List.length_cons, List.length_nil, Option.getD_some, Option.getD_none, List.all_cons, List.all_nil, List.set_cons_zero, List.set_cons_succ, List.replicate_succ, List.replicate_zero, List.getElem?_cons_zero, List.getElem?_cons_succ, List.drop_succ_cons, List.drop_zero, List.take_succ_cons, List.take_zero, List.map_append, List.nil_append, List.cons_append, Nat.reduceShiftRight, Nat.reduceMod]
  have hall : (!parts.any fun n => !decide (0 ≤ n ∧ n ≤ 1000000000000)) = parts.all fun n => decide (0 ≤ n ∧ n ≤ 1000000000000) := by rw [List.not_any_eq_all_not]; simp only [Bool.not_not]
  rw [hall]
  refine ⟨by intro _ k hk; simp [refsL, refs, upd] at hk; subst hk; simp [upd], ?_⟩
  unfold fE
  congr 1
  by_cases h1 : 1 ≤ den ∧ den ≤ 1000000000000
  · by_cases h2 : 5 < parts.length
    · have h2' : ¬ (parts.length : Int) ≤ 5 := by omega
      simp only [h1, h2, h2', and_self, decide_true, decide_false, if_true, if_false, ne_eq, not_true_eq_false, Bool.false_eq_true, not_false_eq_true, (by decide : ¬ (8 : Int) = 0)]
    · have h2' : (parts.length : Int) ≤ 5 := by omega
      simp only [h1, h2, h2', and_self, decide_true, decide_false, if_true, if_false, ne_eq, not_true_eq_false, Bool.false_eq_true, not_false_eq_true]
  · simp only [h1, decide_true, decide_false, if_true, if_false, ne_eq, not_true_eq_false, Bool.false_eq_true, not_false_eq_true, (by decide : ¬ (2 : Int) = 0)]
theorem FitErr_s (den : Int) (parts : List Int) (hl : parts.length < 4000000000000000000) : Sound Tryd.prog 43 [fitA den parts] (.int .i64 (fE den parts)) := by
  refine sound_W f_ref02_FitErr (Nat.le_of_ble_eq_true rfl) ?_
  simp only [c_ref02_FitErr, fitA, vcV, vcD, Int.reduceEq, Int.reduceNe, Int.reduceLT, Int.reduceLE, Nat.reduceEqDiff, Nat.reduceAdd, reduceIte, reduceCtorEq, Nat.reduceLT, Nat.reduceLeDiff, eq_self, Option.bind_some, Option.map_some, List.map_cons, List.map_nil, List.length_cons, List.length_nil, Option.getD_some, Option.getD_none, List.all_cons, List.all_nil, List.set_cons_zero, List.set_cons_succ, List.replicate_succ, List.replicate_zero, List.getElem?_cons_zero, List.getElem?_cons_succ, List.drop_succ_cons, List.drop_zero, List.take_succ_cons, List.take_zero, List.map_append, List.nil_append, List.cons_append, Nat.reduceShiftRight, Nat.reduceMod]
  refine callS_of (Within_s _ _ _) ?_
  by_cases h1 : 1 ≤ den ∧ den ≤ 1000000000000
  case neg =>
    have he : fE den parts = 2 := by unfold fE; rw [if_neg h1]
    simp only [h1, he, vcV, vcD, Int.reduceEq, Int.reduceNe, Int.reduceLT, Int.reduceLE, Nat.reduceEqDiff, Nat.reduceAdd, reduceIte, reduceCtorEq, Nat.reduceLT, Nat.reduceLeDiff, eq_self, Option.bind_some, Option.map_some, List.map_cons, List.map_nil, List.length_cons, List.length_nil, Option.getD_some, Option.getD_none, List.all_cons, List.all_nil, List.set_cons_zero, List.set_cons_succ, List.replicate_succ, List.replicate_zero, List.getElem?_cons_zero, List.getElem?_cons_succ, List.drop_succ_cons, List.drop_zero, List.take_succ_cons, List.take_zero, List.map_append, List.nil_append, List.cons_append, Nat.reduceShiftRight, Nat.reduceMod]
  simp only [h1, vcV, vcD, Int.reduceEq, Int.reduceNe, Int.reduceLT, Int.reduceLE, Nat.reduceEqDiff, Nat.reduceAdd, reduceIte, reduceCtorEq, Nat.reduceLT, Nat.reduceLeDiff, eq_self, Option.bind_some, Option.map_some, List.map_cons, List.map_nil, List.length_cons, List.length_nil, Option.getD_some, Option.getD_none, List.all_cons, List.all_nil, List.set_cons_zero, List.set_cons_succ, List.replicate_succ, List.replicate_zero, List.getElem?_cons_zero, List.getElem?_cons_succ, List.drop_succ_cons, List.drop_zero, List.take_succ_cons, List.take_zero, List.map_append, List.nil_append, List.cons_append, Nat.reduceShiftRight, Nat.reduceMod]
  by_cases h2 : 5 < parts.length
  · have h2' : (5 : Int) < parts.length := by omega
    have he : fE den parts = 8 := by unfold fE; rw [if_pos h1, if_pos h2]
    simp only [h2', he, vcV, vcD, Int.reduceEq, Int.reduceNe, Int.reduceLT, Int.reduceLE, Nat.reduceEqDiff, Nat.reduceAdd, reduceIte, reduceCtorEq, Nat.reduceLT, Nat.reduceLeDiff, eq_self, Option.bind_some, Option.map_some, List.map_cons, List.map_nil, List.length_cons, List.length_nil, Option.getD_some, Option.getD_none, List.all_cons, List.all_nil, List.set_cons_zero, List.set_cons_succ, List.replicate_succ, List.replicate_zero, List.getElem?_cons_zero, List.getElem?_cons_succ, List.drop_succ_cons, List.drop_zero, List.take_succ_cons, List.take_zero, List.map_append, List.nil_append, List.cons_append, Nat.reduceShiftRight, Nat.reduceMod]
  have h2' : ¬ (5 : Int) < parts.length := by omega
  simp only [h2', vcV, vcD, Int.reduceEq, Int.reduceNe, Int.reduceLT, Int.reduceLE, Nat.reduceEqDiff, Nat.reduceAdd, reduceIte, reduceCtorEq, Nat.reduceLT, Nat.reduceLeDiff, eq_self, Option.bind_some, Option.map_some, List.map_cons, List.map_nil, List.length_cons, List.length_nil, Option.getD_some, Option.getD_none, List.all_cons, List.all_nil, List.set_cons_zero, List.set_cons_succ, List.replicate_succ, List.replicate_zero, List.getElem?_cons_zero, List.getElem?_cons_succ, List.drop_succ_cons, List.drop_zero, List.take_succ_cons, List.take_zero, List.map_append, List.nil_append, List.cons_append, Nat.reduceShiftRight, Nat.reduceMod]
  refine W_loop (t := .mk) (α := PSigma fun i : Nat => i ≤ parts.length ∧ (∀ x ∈ parts.take i, 0 ≤ x ∧ x ≤ 1000000000000)) (fun ⟨i, _⟩ => ((envOf [(1, .ptr 1 0 0), (3, .int .i64 i)], stOf [(1, ⟨70, 2, [.agg [.int .i64 den, .sl (ints parts)]]⟩)]))) (fun i => parts.length - i.1) ⟨0, Nat.zero_le _, ?_⟩ ?_ (fun ⟨i, hi, hn⟩ => ?_)
  · intro x hx; simp at hx
  · refine weakX [] (of_decide_eq_true rfl) (of_decide_eq_true rfl) ?_
    (simp only [vcW, vcV, vcD, Int.reduceEq, Int.reduceNe, Int.reduceLT, Int.reduceLE, Nat.reduceEqDiff, Nat.reduceAdd, reduceIte, reduceCtorEq, Nat.reduceLT, Nat.reduceLeDiff, eq_self, Option.bind_some, Option.map_some, List.map_cons, List.map_nil, List.length_cons, List.length_nil, Option.getD_some, Option.getD_none, List.all_cons, List.all_nil, List.set_cons_zero, List.set_cons_succ, List.replicate_succ, List.replicate_zero, List.getElem?_cons_zero, List.getElem?_cons_succ, List.drop_succ_cons, List.drop_zero, List.take_succ_cons, List.take_zero, List.map_append, List.nil_append, List.cons_append, Nat.reduceShiftRight, Nat.reduceMod])
    (repeat' first | exact trivial | (with_reducible exact RnB.fxB (ints_fxB _)) | (with_reducible rfl) | (with_reducible refine And.intro ?_ ?_) | (with_reducible refine RnB.bb ?_; simp only [vcW, vcV, vcD, Int.reduceEq, Int.reduceNe, Int.reduceLT, Int.reduceLE, Nat.reduceEqDiff, Nat.reduceAdd, reduceIte, reduceCtorEq, Nat.reduceLT, Nat.reduceLeDiff, eq_self, Option.bind_some, Option.map_some, List.map_cons, List.map_nil, List.length_cons, List.length_nil, Option.getD_some, Option.getD_none, List.all_cons, List.all_nil, List.set_cons_zero, List.set_cons_succ, List.replicate_succ, List.replicate_zero, List.getElem?_cons_zero, List.getElem?_cons_succ, List.drop_succ_cons, List.drop_zero, List.take_succ_cons, List.take_zero, List.map_append, List.nil_append, List.cons_append, Nat.reduceShiftRight, Nat.reduceMod]) | (with_reducible refine RnB.nb ?_; simp only [vcW, vcV, vcD, Int.reduceEq, Int.reduceNe, Int.reduceLT, Int.reduceLE, Nat.reduceEqDiff, Nat.reduceAdd, reduceIte, reduceCtorEq, Nat.reduceLT, Nat.reduceLeDiff, eq_self, Option.bind_some, Option.map_some, List.map_cons, List.map_nil, List.length_cons, List.length_nil, Option.getD_some, Option.getD_none, List.all_cons, List.all_nil, List.set_cons_zero, List.set_cons_succ, List.replicate_succ, List.replicate_zero, List.getElem?_cons_zero, List.getElem?_cons_succ, List.drop_succ_cons, List.drop_zero, List.take_succ_cons, List.take_zero, List.map_append, List.nil_append, List.cons_append, Nat.reduceShiftRight, Nat.reduceMod]) | (with_reducible refine RnB.ii ?_) | (with_reducible refine RnB.app ?_) | (with_reducible refine RnB.fxB ?_; simp only [vcW, vcV, vcD, Int.reduceEq, Int.reduceNe, Int.reduceLT, Int.reduceLE, Nat.reduceEqDiff, Nat.reduceAdd, reduceIte, reduceCtorEq, Nat.reduceLT, Nat.reduceLeDiff, eq_self, Option.bind_some, Option.map_some, List.map_cons, List.map_nil, List.length_cons, List.length_nil, Option.getD_some, Option.getD_none, List.all_cons, List.all_nil, List.set_cons_zero, List.set_cons_succ, List.replicate_succ, List.replicate_zero, List.getElem?_cons_zero, List.getElem?_cons_succ, List.drop_succ_cons, List.drop_zero, List.take_succ_cons, List.take_zero, List.map_append, List.nil_append, List.cons_append, Nat.reduceShiftRight, Nat.reduceMod]) | omega)
  · by_cases h' : i < parts.length
    · have h3 : (i : Int) < parts.length := by omega
      simp only [h3, ints_get parts i h', vcV, vcD, Int.reduceEq, Int.reduceNe, Int.reduceLT, Int.reduceLE, Nat.reduceEqDiff, Nat.reduceAdd, reduceIte, reduceCtorEq, Nat.reduceLT, Nat.reduceLeDiff, eq_self, Option.bind_some, Option.map_some, List.map_cons, List.map_nil, List.length_cons, List.length_nil, Option.getD_some, Option.getD_none, List.all_cons, List.all_nil, List.set_cons_zero, List.set_cons_succ, List.replicate_succ, List.replicate_zero, List.getElem?_cons_zero, List.getElem?_cons_succ, List.drop_succ_cons, List.drop_zero, List.take_succ_cons, List.take_zero, List.map_append, List.nil_append, List.cons_append, Nat.reduceShiftRight, Nat.reduceMod]
      refine ⟨by omega, ?_⟩
      refine callS_of (Within_s _ _ _) ?_
      by_cases hw : 0 ≤ parts[i] ∧ parts[i] ≤ 1000000000000
      · simp only [hw, vcV, vcD, Int.reduceEq, Int.reduceNe, Int.reduceLT, Int.reduceLE, Nat.reduceEqDiff, Nat.reduceAdd, reduceIte, reduceCtorEq, Nat.reduceLT, Nat.reduceLeDiff, eq_self, Option.bind_some, Option.map_some, List.map_cons, List.map_nil, List.length_cons, List.length_nil, Option.getD_some, Option.getD_none, List.all_cons, List.all_nil, List.set_cons_zero, List.set_cons_succ, List.replicate_succ, List.replicate_zero, List.getElem?_cons_zero, List.getElem?_cons_succ, List.drop_succ_cons, List.drop_zero, List.take_succ_cons, List.take_zero, List.map_append, List.nil_append, List.cons_append, Nat.reduceShiftRight, Nat.reduceMod]
        refine ⟨by unfold I64; omega, ⟨i + 1, h', ?_⟩, by simp only; omega, ?_⟩
        · rw [List.take_succ_eq_append_getElem h']
          intro x hx
          rcases List.mem_append.1 hx with e | e
          · exact hn x e
          · rw [List.mem_singleton.1 e]; exact hw
        · refine weakX [] (of_decide_eq_true rfl) (of_decide_eq_true rfl) ?_
          (simp only [vcW, vcV, vcD, Int.reduceEq, Int.reduceNe, Int.reduceLT, Int.reduceLE, Nat.reduceEqDiff, Nat.reduceAdd, reduceIte, reduceCtorEq, Nat.reduceLT, Nat.reduceLeDiff, eq_self, Option.bind_some, Option.map_some, List.map_cons, List.map_nil, List.length_cons, List.length_nil, Option.getD_some, Option.getD_none, List.all_cons, List.all_nil, List.set_cons_zero, List.set_cons_succ, List.replicate_succ, List.replicate_zero, List.getElem?_cons_zero, List.getElem?_cons_succ, List.drop_succ_cons, List.drop_zero, List.take_succ_cons, List.take_zero, List.map_append, List.nil_append, List.cons_append, Nat.reduceShiftRight, Nat.reduceMod])
          (repeat' first | exact trivial | (with_reducible exact RnB.fxB (ints_fxB _)) | (with_reducible rfl) | (with_reducible refine And.intro ?_ ?_) | (with_reducible refine RnB.bb ?_; simp only [vcW, vcV, vcD, Int.reduceEq, Int.reduceNe, Int.reduceLT, Int.reduceLE, Nat.reduceEqDiff, Nat.reduceAdd, reduceIte, reduceCtorEq, Nat.reduceLT, Nat.reduceLeDiff, eq_self, Option.bind_some, Option.map_some, List.map_cons, List.map_nil, List.length_cons, List.length_nil, Option.getD_some, Option.getD_none, List.all_cons, List.all_nil, List.set_cons_zero, List.set_cons_succ, List.replicate_succ, List.replicate_zero, List.getElem?_cons_zero, List.getElem?_cons_succ, List.drop_succ_cons, List.drop_zero, List.take_succ_cons, List.take_zero, List.map_append, List.nil_append, List.cons_append, Nat.reduceShiftRight, Nat.reduceMod]) | (with_reducible refine RnB.nb ?_; simp only [vcW, vcV, vcD, Int.reduceEq, Int.reduceNe, Int.reduceLT, Int.reduceLE, Nat.reduceEqDiff, Nat.reduceAdd, reduceIte, reduceCtorEq, Nat.reduceLT, Nat.reduceLeDiff, eq_self, Option.bind_some, Option.map_some, List.map_cons, List.map_nil, List.length_cons, List.length_nil, Option.getD_some, Option.getD_none, List.all_cons, List.all_nil, List.set_cons_zero, List.set_cons_succ, List.replicate_succ, List.replicate_zero, List.getElem?_cons_zero, List.getElem?_cons_succ, List.drop_succ_cons, List.drop_zero, List.take_succ_cons, List.take_zero, List.map_append, List.nil_append, List.cons_append, Nat.reduceShiftRight, Nat.reduceMod]) | (with_reducible refine RnB.ii ?_) | (with_reducible refine RnB.app ?_) | (with_reducible refine RnB.fxB ?_; simp only [vcW, vcV, vcD, Int.reduceEq, Int.reduceNe, Int.reduceLT, Int.reduceLE, Nat.reduceEqDiff, Nat.reduceAdd, reduceIte, reduceCtorEq, Nat.reduceLT, Nat.reduceLeDiff, eq_self, Option.bind_some, Option.map_some, List.map_cons, List.map_nil, List.length_cons, List.length_nil, Option.getD_some, Option.getD_none, List.all_cons, List.all_nil, List.set_cons_zero, List.set_cons_succ, List.replicate_succ, List.replicate_zero, List.getElem?_cons_zero, List.getElem?_cons_succ, List.drop_succ_cons, List.drop_zero, List.take_succ_cons, List.take_zero, List.map_append, List.nil_append, List.cons_append, Nat.reduceShiftRight, Nat.reduceMod]) | omega)
      · have he : fE den parts = 2 := by
          unfold fE
          rw [if_pos h1, if_neg h2, if_neg]
          intro hall
          have := List.all_eq_true.1 hall _ (List.getElem_mem h')
          exact hw (by simpa using this)
        simp only [hw, he, vcV, vcD, Int.reduceEq, Int.reduceNe, Int.reduceLT, Int.reduceLE, Nat.reduceEqDiff, Nat.reduceAdd, reduceIte, reduceCtorEq, Nat.reduceLT, Nat.reduceLeDiff, eq_self, Option.bind_some, Option.map_some, List.map_cons, List.map_nil, List.length_cons, List.length_nil, Option.getD_some, Option.getD_none, List.all_cons, List.all_nil, List.set_cons_zero, List.set_cons_succ, List.replicate_succ, List.replicate_zero, List.getElem?_cons_zero, List.getElem?_cons_succ, List.drop_succ_cons, List.drop_zero, List.take_succ_cons, List.take_zero, List.map_append, List.nil_append, List.cons_append, Nat.reduceShiftRight, Nat.reduceMod]
    · have h3 : ¬ (i : Int) < parts.length := by omega
      have hin : i = parts.length := by omega
      subst hin
      rw [List.take_length] at hn
      have he : fE den parts = 0 := by
        unfold fE
        rw [if_pos h1, if_neg h2, if_pos]
        exact List.all_eq_true.2 fun x hx => decide_eq_true (hn x hx)
      simp only [h3, he, vcV, vcD, Int.reduceEq, Int.reduceNe, Int.reduceLT, Int.reduceLE, Nat.reduceEqDiff, Nat.reduceAdd, reduceIte, reduceCtorEq, Nat.reduceLT, Nat.reduceLeDiff, eq_self, Option.bind_some, Option.map_some, List.map_cons, List.map_nil, List.length_cons, List.length_nil, Option.getD_some, Option.getD_none, List.all_cons, List.all_nil, List.set_cons_zero, List.set_cons_succ, List.replicate_succ, List.replicate_zero, List.getElem?_cons_zero, List.getElem?_cons_succ, List.drop_succ_cons, List.drop_zero, List.take_succ_cons, List.take_zero, List.map_append, List.nil_append, List.cons_append, Nat.reduceShiftRight, Nat.reduceMod]
theorem CopyFit_s (den : Int) (parts : List Int) (hl : parts.length ≤ 1000000000) : Sound Tryd.prog 41 [fitA den parts] (fitA den parts) := by
  refine sound_W f_ref02_CopyFit (Nat.le_of_ble_eq_true rfl) ?_
  simp only [c_ref02_CopyFit, fitA, vcV, vcD, Int.reduceEq, Int.reduceNe, Int.reduceLT, Int.reduceLE, Nat.reduceEqDiff, Nat.reduceAdd, reduceIte, reduceCtorEq, Nat.reduceLT, Nat.reduceLeDiff, eq_self, Option.bind_some, Option.map_some, List.map_cons, List.map_nil, List.length_cons, List.length_nil, Option.getD_some, Option.getD_none, List.all_cons, List.all_nil, List.set_cons_zero, List.set_cons_succ, List.replicate_succ, List.replicate_zero, List.getElem?_cons_zero, List.getElem?_cons_succ, List.drop_succ_cons, List.drop_zero, List.take_succ_cons, List.take_zero, List.map_append, List.nil_append, List.cons_append, Nat.reduceShiftRight, Nat.reduceMod]
  refine callS_of (CopyInts_s parts hl) ?_
  simp only [vcV, vcD, Int.reduceEq, Int.reduceNe, Int.reduceLT, Int.reduceLE, Nat.reduceEqDiff, Nat.reduceAdd, reduceIte, reduceCtorEq, Nat.reduceLT, Nat.reduceLeDiff, eq_self, Option.bind_some, Option.map_some, List.map_cons, List.map_nil, List.length_cons, List.length_nil, Option.getD_some, Option.getD_none, List.all_cons, List.all_nil, List.set_cons_zero, List.set_cons_succ, List.replicate_succ, List.replicate_zero, List.getElem?_cons_zero, List.getElem?_cons_succ, List.drop_succ_cons, List.drop_zero, List.take_succ_cons, List.take_zero, List.map_append, List.nil_append, List.cons_append, Nat.reduceShiftRight, Nat.reduceMod]

def chgA (den : Int) (parts : List Int) : List AV := if fE den parts = 0 then (if smallF (lowN parts.sum den) (lowD parts.sum den) then [fracA (lowN parts.sum den) (lowD parts.sum den), .int .i64 0] else [fracA 0 0, .int .i64 8]) else [fracA 0 0, .int .i64 (fE den parts)]
theorem parts_sum {den : Int} {parts : List Int} (h : fE den parts = 0) : (0 ≤ parts.sum ∧ parts.sum ≤ 5000000000000) ∧ sumOk parts := by
  obtain ⟨h1, h2, h3⟩ := fE_ok h
  have := sum_le h3
  exact ⟨by omega, sumOk_of (by omega) fun x hx => by have := h3 x hx; omega⟩
theorem ChargeOf_s (den : Int) (parts : List Int) (hl : parts.length < 4000000000000000000) : Sound Tryd.prog 40 [fitA den parts] (.tup (chgA den parts)) := by
  refine sound_W f_pulse_ChargeOf (Nat.le_of_ble_eq_true rfl) ?_
  have hF := fitErr_s den parts hl
  unfold fitA at hF
  simp only [c_pulse_ChargeOf, fitA, vcV, vcD, Int.reduceEq, Int.reduceNe, Int.reduceLT, Int.reduceLE, Nat.reduceEqDiff, Nat.reduceAdd, reduceIte, reduceCtorEq, Nat.reduceLT, Nat.reduceLeDiff, eq_self, Option.bind_some, Option.map_some, List.map_cons, List.map_nil, List.length_cons, List.length_nil, Option.getD_some, Option.getD_none, List.all_cons, List.all_nil, List.set_cons_zero, List.set_cons_succ, List.replicate_succ, List.replicate_zero, List.getElem?_cons_zero, List.getElem?_cons_succ, List.drop_succ_cons, List.drop_zero, List.take_succ_cons, List.take_zero, List.map_append, List.nil_append, List.cons_append, Nat.reduceShiftRight, Nat.reduceMod]
  refine callS_of hF ?_
  unfold chgA
  by_cases hE : fE den parts = 0
  · obtain ⟨h1, h2, h3⟩ := fE_ok hE
    obtain ⟨s1, s2⟩ := parts_sum hE
    have hL := pLowest_s parts.sum den s1.1 (by omega) (by omega) (by omega)
    rw [if_pos hE]
    simp only [hE, vcV, vcD, Int.reduceEq, Int.reduceNe, Int.reduceLT, Int.reduceLE, Nat.reduceEqDiff, Nat.reduceAdd, reduceIte, reduceCtorEq, Nat.reduceLT, Nat.reduceLeDiff, eq_self, Option.bind_some, Option.map_some, List.map_cons, List.map_nil, List.length_cons, List.length_nil, Option.getD_some, Option.getD_none, List.all_cons, List.all_nil, List.set_cons_zero, List.set_cons_succ, List.replicate_succ, List.replicate_zero, List.getElem?_cons_zero, List.getElem?_cons_succ, List.drop_succ_cons, List.drop_zero, List.take_succ_cons, List.take_zero, List.map_append, List.nil_append, List.cons_append, Nat.reduceShiftRight, Nat.reduceMod]
    refine callS_of (sum_s parts (by omega) s2) ?_
    simp only [vcV, vcD, Int.reduceEq, Int.reduceNe, Int.reduceLT, Int.reduceLE, Nat.reduceEqDiff, Nat.reduceAdd, reduceIte, reduceCtorEq, Nat.reduceLT, Nat.reduceLeDiff, eq_self, Option.bind_some, Option.map_some, List.map_cons, List.map_nil, List.length_cons, List.length_nil, Option.getD_some, Option.getD_none, List.all_cons, List.all_nil, List.set_cons_zero, List.set_cons_succ, List.replicate_succ, List.replicate_zero, List.getElem?_cons_zero, List.getElem?_cons_succ, List.drop_succ_cons, List.drop_zero, List.take_succ_cons, List.take_zero, List.map_append, List.nil_append, List.cons_append, Nat.reduceShiftRight, Nat.reduceMod]
    refine callS_of hL ?_
    cases hsm : smallF (lowN parts.sum den) (lowD parts.sum den) with
    | true => simp only [fracA, vcV, vcD, Int.reduceEq, Int.reduceNe, Int.reduceLT, Int.reduceLE, Nat.reduceEqDiff, Nat.reduceAdd, reduceIte, reduceCtorEq, Nat.reduceLT, Nat.reduceLeDiff, eq_self, Option.bind_some, Option.map_some, List.map_cons, List.map_nil, List.length_cons, List.length_nil, Option.getD_some, Option.getD_none, List.all_cons, List.all_nil, List.set_cons_zero, List.set_cons_succ, List.replicate_succ, List.replicate_zero, List.getElem?_cons_zero, List.getElem?_cons_succ, List.drop_succ_cons, List.drop_zero, List.take_succ_cons, List.take_zero, List.map_append, List.nil_append, List.cons_append, Nat.reduceShiftRight, Nat.reduceMod]
    | false => simp only [fracA, vcV, vcD, Int.reduceEq, Int.reduceNe, Int.reduceLT, Int.reduceLE, Nat.reduceEqDiff, Nat.reduceAdd, reduceIte, reduceCtorEq, Nat.reduceLT, Nat.reduceLeDiff, eq_self, Option.bind_some, Option.map_some, List.map_cons, List.map_nil, List.length_cons, List.length_nil, Option.getD_some, Option.getD_none, List.all_cons, List.all_nil, List.set_cons_zero, List.set_cons_succ, List.replicate_succ, List.replicate_zero, List.getElem?_cons_zero, List.getElem?_cons_succ, List.drop_succ_cons, List.drop_zero, List.take_succ_cons, List.take_zero, List.map_append, List.nil_append, List.cons_append, Nat.reduceShiftRight, Nat.reduceMod]
  · rw [if_neg hE]
    simp only [hE, fracA, vcV, vcD, Int.reduceEq, Int.reduceNe, Int.reduceLT, Int.reduceLE, Nat.reduceEqDiff, Nat.reduceAdd, reduceIte, reduceCtorEq, Nat.reduceLT, Nat.reduceLeDiff, eq_self, Option.bind_some, Option.map_some, List.map_cons, List.map_nil, List.length_cons, List.length_nil, Option.getD_some, Option.getD_none, List.all_cons, List.all_nil, List.set_cons_zero, List.set_cons_succ, List.replicate_succ, List.replicate_zero, List.getElem?_cons_zero, List.getElem?_cons_succ, List.drop_succ_cons, List.drop_zero, List.take_succ_cons, List.take_zero, List.map_append, List.nil_append, List.cons_append, Nat.reduceShiftRight, Nat.reduceMod]

def photL (den single : Int) (parts : List Int) : List Int := parts.map fun n => (2 * n + den * single) / (2 * (den * single))
def phE (den single : Int) (parts : List Int) : Int := if fE den parts ≠ 0 then fE den parts else if 1 ≤ single ∧ single ≤ 1000 then 0 else 2
def phO (den single : Int) (parts : List Int) : List Int := if phE den single parts = 0 then photL den single parts else []
theorem PhotonsOf_s (den single : Int) (parts : List Int) (hl : parts.length < 4000000000000000000) : Sound Tryd.prog 42 [fitA den parts, .int .i64 single] (.tup [.sl (ints (phO den single parts)), .int .i64 (phE den single parts)]) := by
  refine sound_W f_pulse_PhotonsOf (Nat.le_of_ble_eq_true rfl) ?_
  have hF := fitErr_s den parts hl
  unfold fitA at hF
  have hmax := maxLen_big
  simp only [c_pulse_PhotonsOf, fitA, vcV, vcD, Int.reduceEq, Int.reduceNe, Int.reduceLT, Int.reduceLE, Nat.reduceEqDiff, Nat.reduceAdd, reduceIte, reduceCtorEq, Nat.reduceLT, Nat.reduceLeDiff, eq_self, Option.bind_some, Option.map_some, List.map_cons, List.map_nil, List.length_cons, List.length_nil, Option.getD_some, Option.getD_none, List.all_cons, List.all_nil, List.set_cons_zero, List.set_cons_succ, List.replicate_succ, List.replicate_zero, List.getElem?_cons_zero, List.getElem?_cons_succ, List.drop_succ_cons, List.drop_zero, List.take_succ_cons, List.take_zero, List.map_append, List.nil_append, List.cons_append, Nat.reduceShiftRight, Nat.reduceMod]
  refine callS_of hF ?_
  simp only [vcV, vcD, Int.reduceEq, Int.reduceNe, Int.reduceLT, Int.reduceLE, Nat.reduceEqDiff, Nat.reduceAdd, reduceIte, reduceCtorEq, Nat.reduceLT, Nat.reduceLeDiff, eq_self, Option.bind_some, Option.map_some, List.map_cons, List.map_nil, List.length_cons, List.length_nil, Option.getD_some, Option.getD_none, List.all_cons, List.all_nil, List.set_cons_zero, List.set_cons_succ, List.replicate_succ, List.replicate_zero, List.getElem?_cons_zero, List.getElem?_cons_succ, List.drop_succ_cons, List.drop_zero, List.take_succ_cons, List.take_zero, List.map_append, List.nil_append, List.cons_append, Nat.reduceShiftRight, Nat.reduceMod]
  refine callS_of (within_s _ _ _) ?_
  simp only [vcV, vcD, Int.reduceEq, Int.reduceNe, Int.reduceLT, Int.reduceLE, Nat.reduceEqDiff, Nat.reduceAdd, reduceIte, reduceCtorEq, Nat.reduceLT, Nat.reduceLeDiff, eq_self, Option.bind_some, Option.map_some, List.map_cons, List.map_nil, List.length_cons, List.length_nil, Option.getD_some, Option.getD_none, List.all_cons, List.all_nil, List.set_cons_zero, List.set_cons_succ, List.replicate_succ, List.replicate_zero, List.getElem?_cons_zero, List.getElem?_cons_succ, List.drop_succ_cons, List.drop_zero, List.take_succ_cons, List.take_zero, List.map_append, List.nil_append, List.cons_append, Nat.reduceShiftRight, Nat.reduceMod]
  refine callS_of (unless_s _ _) ?_
  simp only [vcV, vcD, Int.reduceEq, Int.reduceNe, Int.reduceLT, Int.reduceLE, Nat.reduceEqDiff, Nat.reduceAdd, reduceIte, reduceCtorEq, Nat.reduceLT, Nat.reduceLeDiff, eq_self, Option.bind_some, Option.map_some, List.map_cons, List.map_nil, List.length_cons, List.length_nil, Option.getD_some, Option.getD_none, List.all_cons, List.all_nil, List.set_cons_zero, List.set_cons_succ, List.replicate_succ, List.replicate_zero, List.getElem?_cons_zero, List.getElem?_cons_succ, List.drop_succ_cons, List.drop_zero, List.take_succ_cons, List.take_zero, List.map_append, List.nil_append, List.cons_append, Nat.reduceShiftRight, Nat.reduceMod]
  refine callS_of (first2_s _ _) ?_
  have he : (if fE den parts ≠ 0 then fE den parts else if decide (1 ≤ single ∧ single ≤ 1000) = true then 0 else 2) = phE den single parts := by
    unfold phE; simp only [decide_eq_true_eq]
  rw [he]
  by_cases h0 : phE den single parts = 0
  · have hok : fE den parts = 0 ∧ (1 ≤ single ∧ single ≤ 1000) := by
      unfold phE at h0
      split at h0
      · contradiction
      · rename_i hq
        split at h0
        · exact ⟨by simpa using hq, by assumption⟩
        · cases h0
    obtain ⟨h1, h2, h3⟩ := fE_ok hok.1
    have hs := hok.2
    have hO : phO den single parts = photL den single parts := by unfold phO; rw [if_pos h0]
    have hds : 0 < den * single ∧ den * single ≤ 1000000000000 * 1000 := ⟨Int.mul_pos (by omega) (by omega), Int.mul_le_mul h1.2 hs.2 (by omega) (by omega)⟩
    rw [hO, h0]
    simp only [vcV, vcD, Int.reduceEq, Int.reduceNe, Int.reduceLT, Int.reduceLE, Nat.reduceEqDiff, Nat.reduceAdd, reduceIte, reduceCtorEq, Nat.reduceLT, Nat.reduceLeDiff, eq_self, Option.bind_some, Option.map_some, List.map_cons, List.map_nil, List.length_cons, List.length_nil, Option.getD_some, Option.getD_none, List.all_cons, List.all_nil, List.set_cons_zero, List.set_cons_succ, List.replicate_succ, List.replicate_zero, List.getElem?_cons_zero, List.getElem?_cons_succ, List.drop_succ_cons, List.drop_zero, List.take_succ_cons, List.take_zero, List.map_append, List.nil_append, List.cons_append, Nat.reduceShiftRight, Nat.reduceMod]
    refine W_loop (t := .mk) (α := PSigma fun i : Nat => i ≤ parts.length) (fun ⟨i, _⟩ => (envOf [(1, .int .i64 single), (2, .ptr 2 0 0), (7, .buf 100 i), (22, .sl (ints parts)), (23, .int .i64 parts.length), (24, .int .i64 i)], stOf [(2, ⟨70, 2, [.agg [.int .i64 den, .sl (ints parts)]]⟩), (100, ⟨3, 1, ints (photL den single (parts.take i))⟩)])) (fun p => parts.length - p.1) ⟨0, Nat.zero_le _⟩ ?_ (fun ⟨i, hi⟩ => ?_)
    · have z : ints (photL den single []) = [] := rfl
      refine weakX [(100, none)] (of_decide_eq_true rfl) (of_decide_eq_true rfl) ?_
      (simp only [z, vcW, vcV, vcD, Int.reduceEq, Int.reduceNe, Int.reduceLT, Int.reduceLE, Nat.reduceEqDiff, Nat.reduceAdd, reduceIte, reduceCtorEq, Nat.reduceLT, Nat.reduceLeDiff, eq_self, Option.bind_some, Option.map_some, List.map_cons, List.map_nil, List.length_cons, List.length_nil, Option.getD_some, Option.getD_none, List.all_cons, List.all_nil, List.set_cons_zero, List.set_cons_succ, List.replicate_succ, List.replicate_zero, List.getElem?_cons_zero, List.getElem?_cons_succ, List.drop_succ_cons, List.drop_zero, List.take_succ_cons, List.take_zero, List.map_append, List.nil_append, List.cons_append, Nat.reduceShiftRight, Nat.reduceMod])
      (repeat' first | exact trivial | (with_reducible exact RnB.fxB (ints_fxB _)) | (with_reducible rfl) | (with_reducible refine And.intro ?_ ?_) | (with_reducible refine RnB.bb ?_; simp only [vcW, vcV, vcD, Int.reduceEq, Int.reduceNe, Int.reduceLT, Int.reduceLE, Nat.reduceEqDiff, Nat.reduceAdd, reduceIte, reduceCtorEq, Nat.reduceLT, Nat.reduceLeDiff, eq_self, Option.bind_some, Option.map_some, List.map_cons, List.map_nil, List.length_cons, List.length_nil, Option.getD_some, Option.getD_none, List.all_cons, List.all_nil, List.set_cons_zero, List.set_cons_succ, List.replicate_succ, List.replicate_zero, List.getElem?_cons_zero, List.getElem?_cons_succ, List.drop_succ_cons, List.drop_zero, List.take_succ_cons, List.take_zero, List.map_append, List.nil_append, List.cons_append, Nat.reduceShiftRight, Nat.reduceMod]) | (with_reducible refine RnB.nb ?_; simp only [vcW, vcV, vcD, Int.reduceEq, Int.reduceNe, Int.reduceLT, Int.reduceLE, Nat.reduceEqDiff, Nat.reduceAdd, reduceIte, reduceCtorEq, Nat.reduceLT, Nat.reduceLeDiff, eq_self, Option.bind_some, Option.map_some, List.map_cons, List.map_nil, List.length_cons, List.length_nil, Option.getD_some, Option.getD_none, List.all_cons, List.all_nil, List.set_cons_zero, List.set_cons_succ, List.replicate_succ, List.replicate_zero, List.getElem?_cons_zero, List.getElem?_cons_succ, List.drop_succ_cons, List.drop_zero, List.take_succ_cons, List.take_zero, List.map_append, List.nil_append, List.cons_append, Nat.reduceShiftRight, Nat.reduceMod]) | (with_reducible refine RnB.ii ?_) | (with_reducible refine RnB.app ?_) | (with_reducible refine RnB.fxB ?_; simp only [vcW, vcV, vcD, Int.reduceEq, Int.reduceNe, Int.reduceLT, Int.reduceLE, Nat.reduceEqDiff, Nat.reduceAdd, reduceIte, reduceCtorEq, Nat.reduceLT, Nat.reduceLeDiff, eq_self, Option.bind_some, Option.map_some, List.map_cons, List.map_nil, List.length_cons, List.length_nil, Option.getD_some, Option.getD_none, List.all_cons, List.all_nil, List.set_cons_zero, List.set_cons_succ, List.replicate_succ, List.replicate_zero, List.getElem?_cons_zero, List.getElem?_cons_succ, List.drop_succ_cons, List.drop_zero, List.take_succ_cons, List.take_zero, List.map_append, List.nil_append, List.cons_append, Nat.reduceShiftRight, Nat.reduceMod]) | omega)
    · by_cases h' : i < parts.length
      · have h5 : (i : Int) < parts.length := by omega
        have hx := h3 parts[i] (List.getElem_mem h')
        have hia : ints (photL den single (parts.take (i + 1))) = ints (photL den single (parts.take i)) ++ [.int .i64 ((2 * parts[i] + den * single) / (2 * (den * single)))] := by
          unfold photL
          rw [List.take_succ_eq_append_getElem h', List.map_append, ints_append]; rfl
        have hln : (ints (photL den single (parts.take i))).length = i := by unfold photL; rw [ints_length, List.length_map, List.length_take]; omega
        have hq := photon_eq hx.1 hds.1
        have hq1 : 0 ≤ (2 * parts[i] + den * single) / (2 * (den * single)) := Int.ediv_nonneg (by omega) (by omega)
        have hq2 : (2 * parts[i] + den * single) / (2 * (den * single)) ≤ 2 * parts[i] + den * single := Int.ediv_le_self _ (by omega)
        generalize hds2 : den * single = ds at *
        generalize hqq : (2 * parts[i] + ds) / (2 * ds) = q at *
        simp only [h5, ints_get parts i h', hln, hds2, hq, vcV, vcD, Int.reduceEq, Int.reduceNe, Int.reduceLT, Int.reduceLE, Nat.reduceEqDiff, Nat.reduceAdd, reduceIte, reduceCtorEq, Nat.reduceLT, Nat.reduceLeDiff, eq_self, Option.bind_some, Option.map_some, List.map_cons, List.map_nil, List.length_cons, List.length_nil, Option.getD_some, Option.getD_none, List.all_cons, List.all_nil, List.set_cons_zero, List.set_cons_succ, List.replicate_succ, List.replicate_zero, List.getElem?_cons_zero, List.getElem?_cons_succ, List.drop_succ_cons, List.drop_zero, List.take_succ_cons, List.take_zero, List.map_append, List.nil_append, List.cons_append, Nat.reduceShiftRight, Nat.reduceMod]
        (repeat (with_reducible refine And.intro ?_ ?_; focus (first | omega | (unfold I64; omega))))
        refine ⟨⟨i + 1, h'⟩, by simp only; omega, ?_⟩
        refine weakX [(100, some 41)] (of_decide_eq_true rfl) (of_decide_eq_true rfl) ?_
        (simp only [hia, hln, vcW, vcV, vcD, Int.reduceEq, Int.reduceNe, Int.reduceLT, Int.reduceLE, Nat.reduceEqDiff, Nat.reduceAdd, reduceIte, reduceCtorEq, Nat.reduceLT, Nat.reduceLeDiff, eq_self, Option.bind_some, Option.map_some, List.map_cons, List.map_nil, List.length_cons, List.length_nil, Option.getD_some, Option.getD_none, List.all_cons, List.all_nil, List.set_cons_zero, List.set_cons_succ, List.replicate_succ, List.replicate_zero, List.getElem?_cons_zero, List.getElem?_cons_succ, List.drop_succ_cons, List.drop_zero, List.take_succ_cons, List.take_zero, List.map_append, List.nil_append, List.cons_append, Nat.reduceShiftRight, Nat.reduceMod])
        (repeat' first | exact trivial | (with_reducible exact RnB.fxB (ints_fxB _)) | (with_reducible rfl) | (with_reducible refine And.intro ?_ ?_) | (with_reducible refine RnB.bb ?_; simp only [vcW, vcV, vcD, Int.reduceEq, Int.reduceNe, Int.reduceLT, Int.reduceLE, Nat.reduceEqDiff, Nat.reduceAdd, reduceIte, reduceCtorEq, Nat.reduceLT, Nat.reduceLeDiff, eq_self, Option.bind_some, Option.map_some, List.map_cons, List.map_nil, List.length_cons, List.length_nil, Option.getD_some, Option.getD_none, List.all_cons, List.all_nil, List.set_cons_zero, List.set_cons_succ, List.replicate_succ, List.replicate_zero, List.getElem?_cons_zero, List.getElem?_cons_succ, List.drop_succ_cons, List.drop_zero, List.take_succ_cons, List.take_zero, List.map_append, List.nil_append, List.cons_append, Nat.reduceShiftRight, Nat.reduceMod]) | (with_reducible refine RnB.nb ?_; simp only [vcW, vcV, vcD, Int.reduceEq, Int.reduceNe, Int.reduceLT, Int.reduceLE, Nat.reduceEqDiff, Nat.reduceAdd, reduceIte, reduceCtorEq, Nat.reduceLT, Nat.reduceLeDiff, eq_self, Option.bind_some, Option.map_some, List.map_cons, List.map_nil, List.length_cons, List.length_nil, Option.getD_some, Option.getD_none, List.all_cons, List.all_nil, List.set_cons_zero, List.set_cons_succ, List.replicate_succ, List.replicate_zero, List.getElem?_cons_zero, List.getElem?_cons_succ, List.drop_succ_cons, List.drop_zero, List.take_succ_cons, List.take_zero, List.map_append, List.nil_append, List.cons_append, Nat.reduceShiftRight, Nat.reduceMod]) | (with_reducible refine RnB.ii ?_) | (with_reducible refine RnB.app ?_) | (with_reducible refine RnB.fxB ?_; simp only [vcW, vcV, vcD, Int.reduceEq, Int.reduceNe, Int.reduceLT, Int.reduceLE, Nat.reduceEqDiff, Nat.reduceAdd, reduceIte, reduceCtorEq, Nat.reduceLT, Nat.reduceLeDiff, eq_self, Option.bind_some, Option.map_some, List.map_cons, List.map_nil, List.length_cons, List.length_nil, Option.getD_some, Option.getD_none, List.all_cons, List.all_nil, List.set_cons_zero, List.set_cons_succ, List.replicate_succ, List.replicate_zero, List.getElem?_cons_zero, List.getElem?_cons_succ, List.drop_succ_cons, List.drop_zero, List.take_succ_cons, List.take_zero, List.map_append, List.nil_append, List.cons_append, Nat.reduceShiftRight, Nat.reduceMod]) | omega)
        all_goals first | exact hia.symm | exact RnB.fxB (by rw [← hia]; exact ints_fxB _) | (rw [ints_append]; rfl) | skip
      · have h5 : ¬ (i : Int) < parts.length := by omega
        have hin : i = parts.length := by omega
        subst hin
        simp only [h5, List.take_length, vcV, vcD, Int.reduceEq, Int.reduceNe, Int.reduceLT, Int.reduceLE, Nat.reduceEqDiff, Nat.reduceAdd, reduceIte, reduceCtorEq, Nat.reduceLT, Nat.reduceLeDiff, eq_self, Option.bind_some, Option.map_some, List.map_cons, List.map_nil, List.length_cons, List.length_nil, Option.getD_some, Option.getD_none, List.all_cons, List.all_nil, List.set_cons_zero, List.set_cons_succ, List.replicate_succ, List.replicate_zero, List.getElem?_cons_zero, List.getElem?_cons_succ, List.drop_succ_cons, List.drop_zero, List.take_succ_cons, List.take_zero, List.map_append, List.nil_append, List.cons_append, Nat.reduceShiftRight, Nat.reduceMod]
        rw [borB_good _ _ _ _ _ (by unfold photL; rw [ints_length, List.length_map]) (ints_fx _)]
  · have hO : phO den single parts = [] := by unfold phO; rw [if_neg h0]
    simp only [h0, hO, vcV, vcD, Int.reduceEq, Int.reduceNe, Int.reduceLT, Int.reduceLE, Nat.reduceEqDiff, Nat.reduceAdd, reduceIte, reduceCtorEq, Nat.reduceLT, Nat.reduceLeDiff, eq_self, Option.bind_some, Option.map_some, List.map_cons, List.map_nil, List.length_cons, List.length_nil, Option.getD_some, Option.getD_none, List.all_cons, List.all_nil, List.set_cons_zero, List.set_cons_succ, List.replicate_succ, List.replicate_zero, List.getElem?_cons_zero, List.getElem?_cons_succ, List.drop_succ_cons, List.drop_zero, List.take_succ_cons, List.take_zero, List.map_append, List.nil_append, List.cons_append, Nat.reduceShiftRight, Nat.reduceMod]
    rfl
theorem Photons_s (den single : Int) (parts : List Int) (hE : fE den parts = 0) (hs : 1 ≤ single ∧ single ≤ 1000) : Sound Tryd.prog 45 [fitA den parts, .int .i64 single] (.sl (ints (photL den single parts))) := by
  refine sound_W f_ref02_Photons (Nat.le_of_ble_eq_true rfl) ?_
  have hmax := maxLen_big
  obtain ⟨h1, h2, h3⟩ := fE_ok hE
  have hds : 0 < den * single ∧ den * single ≤ 1000000000000 * 1000 := ⟨Int.mul_pos (by omega) (by omega), Int.mul_le_mul h1.2 hs.2 (by omega) (by omega)⟩
  simp only [c_ref02_Photons, fitA, vcV, vcD, Int.reduceEq, Int.reduceNe, Int.reduceLT, Int.reduceLE, Nat.reduceEqDiff, Nat.reduceAdd, reduceIte, reduceCtorEq, Nat.reduceLT, Nat.reduceLeDiff, eq_self, Option.bind_some, Option.map_some, List.map_cons, List.map_nil, List.length_cons, List.length_nil, Option.getD_some, Option.getD_none, List.all_cons, List.all_nil, List.set_cons_zero, List.set_cons_succ, List.replicate_succ, List.replicate_zero, List.getElem?_cons_zero, List.getElem?_cons_succ, List.drop_succ_cons, List.drop_zero, List.take_succ_cons, List.take_zero, List.map_append, List.nil_append, List.cons_append, Nat.reduceShiftRight, Nat.reduceMod]
  refine W_loop (t := .mk) (α := PSigma fun i : Nat => i ≤ parts.length) (fun ⟨i, _⟩ => (envOf [(1, .int .i64 single), (2, .ptr 2 0 0), (5, .buf 100 i), (6, .int .i64 i)], stOf [(2, ⟨70, 2, [.agg [.int .i64 den, .sl (ints parts)]]⟩), (100, ⟨3, 1, ints (photL den single (parts.take i))⟩)])) (fun p => parts.length - p.1) ⟨0, Nat.zero_le _⟩ ?_ (fun ⟨i, hi⟩ => ?_)
  · have z : ints (photL den single []) = [] := rfl
    refine weakX [(100, none)] (of_decide_eq_true rfl) (of_decide_eq_true rfl) ?_
    (simp only [z, vcW, vcV, vcD, Int.reduceEq, Int.reduceNe, Int.reduceLT, Int.reduceLE, Nat.reduceEqDiff, Nat.reduceAdd, reduceIte, reduceCtorEq, Nat.reduceLT, Nat.reduceLeDiff, eq_self, Option.bind_some, Option.map_some, List.map_cons, List.map_nil, List.length_cons, List.length_nil, Option.getD_some, Option.getD_none, List.all_cons, List.all_nil, List.set_cons_zero, List.set_cons_succ, List.replicate_succ, List.replicate_zero, List.getElem?_cons_zero, List.getElem?_cons_succ, List.drop_succ_cons, List.drop_zero, List.take_succ_cons, List.take_zero, List.map_append, List.nil_append, List.cons_append, Nat.reduceShiftRight, Nat.reduceMod])
    (repeat' first | exact trivial | (with_reducible exact RnB.fxB (ints_fxB _)) | (with_reducible rfl) | (with_reducible refine And.intro ?_ ?_) | (with_reducible refine RnB.bb ?_; simp only [vcW, vcV, vcD, Int.reduceEq, Int.reduceNe, Int.reduceLT, Int.reduceLE, Nat.reduceEqDiff, Nat.reduceAdd, reduceIte, reduceCtorEq, Nat.reduceLT, Nat.reduceLeDiff, eq_self, Option.bind_some, Option.map_some, List.map_cons, List.map_nil, List.length_cons, List.length_nil, Option.getD_some, Option.getD_none, List.all_cons, List.all_nil, List.set_cons_zero, List.set_cons_succ, List.replicate_succ, List.replicate_zero, List.getElem?_cons_zero, List.getElem?_cons_succ, List.drop_succ_cons, List.drop_zero, List.take_succ_cons, List.take_zero, List.map_append, List.nil_append, List.cons_append, Nat.reduceShiftRight, Nat.reduceMod]) | (with_reducible refine RnB.nb ?_; simp only [vcW, vcV, vcD, Int.reduceEq, Int.reduceNe, Int.reduceLT, Int.reduceLE, Nat.reduceEqDiff, Nat.reduceAdd, reduceIte, reduceCtorEq, Nat.reduceLT, Nat.reduceLeDiff, eq_self, Option.bind_some, Option.map_some, List.map_cons, List.map_nil, List.length_cons, List.length_nil, Option.getD_some, Option.getD_none, List.all_cons, List.all_nil, List.set_cons_zero, List.set_cons_succ, List.replicate_succ, List.replicate_zero, List.getElem?_cons_zero, List.getElem?_cons_succ, List.drop_succ_cons, List.drop_zero, List.take_succ_cons, List.take_zero, List.map_append, List.nil_append, List.cons_append, Nat.reduceShiftRight, Nat.reduceMod]) | (with_reducible refine RnB.ii ?_) | (with_reducible refine RnB.app ?_) | (with_reducible refine RnB.fxB ?_; simp only [vcW, vcV, vcD, Int.reduceEq, Int.reduceNe, Int.reduceLT, Int.reduceLE, Nat.reduceEqDiff, Nat.reduceAdd, reduceIte, reduceCtorEq, Nat.reduceLT, Nat.reduceLeDiff, eq_self, Option.bind_some, Option.map_some, List.map_cons, List.map_nil, List.length_cons, List.length_nil, Option.getD_some, Option.getD_none, List.all_cons, List.all_nil, List.set_cons_zero, List.set_cons_succ, List.replicate_succ, List.replicate_zero, List.getElem?_cons_zero, List.getElem?_cons_succ, List.drop_succ_cons, List.drop_zero, List.take_succ_cons, List.take_zero, List.map_append, List.nil_append, List.cons_append, Nat.reduceShiftRight, Nat.reduceMod]) | omega)
  · by_cases h' : i < parts.length
    · have h5 : (i : Int) < parts.length := by omega
      have hx := h3 parts[i] (List.getElem_mem h')
      have hia : ints (photL den single (parts.take (i + 1))) = ints (photL den single (parts.take i)) ++ [.int .i64 ((2 * parts[i] + den * single) / (2 * (den * single)))] := by
        unfold photL
        rw [List.take_succ_eq_append_getElem h', List.map_append, ints_append]; rfl
      have hln : (ints (photL den single (parts.take i))).length = i := by unfold photL; rw [ints_length, List.length_map, List.length_take]; omega
      have hq1 : 0 ≤ (2 * parts[i] + den * single) / (2 * (den * single)) := Int.ediv_nonneg (by omega) (by omega)
      have hq2 : (2 * parts[i] + den * single) / (2 * (den * single)) ≤ 2 * parts[i] + den * single := Int.ediv_le_self _ (by omega)
      have hass : 2 * den * single = 2 * (den * single) := Int.mul_assoc _ _ _
      generalize hds2 : den * single = ds at *
      have hFl := Floor_s (2 * parts[i] + ds) (2 * ds) (by unfold I64; omega) (by omega)
      generalize hqq : (2 * parts[i] + ds) / (2 * ds) = q at *
      simp only [h5, ints_get parts i h', hln, hds2, hass, vcV, vcD, Int.reduceEq, Int.reduceNe, Int.reduceLT, Int.reduceLE, Nat.reduceEqDiff, Nat.reduceAdd, reduceIte, reduceCtorEq, Nat.reduceLT, Nat.reduceLeDiff, eq_self, Option.bind_some, Option.map_some, List.map_cons, List.map_nil, List.length_cons, List.length_nil, Option.getD_some, Option.getD_none, List.all_cons, List.all_nil, List.set_cons_zero, List.set_cons_succ, List.replicate_succ, List.replicate_zero, List.getElem?_cons_zero, List.getElem?_cons_succ, List.drop_succ_cons, List.drop_zero, List.take_succ_cons, List.take_zero, List.map_append, List.nil_append, List.cons_append, Nat.reduceShiftRight, Nat.reduceMod]
      (repeat (with_reducible refine And.intro ?_ ?_; focus (first | omega | (unfold I64; omega))))
      refine callS_of hFl ?_
      simp only [hln, vcV, vcD, Int.reduceEq, Int.reduceNe, Int.reduceLT, Int.reduceLE, Nat.reduceEqDiff, Nat.reduceAdd, reduceIte, reduceCtorEq, Nat.reduceLT, Nat.reduceLeDiff, eq_self, Option.bind_some, Option.map_some, List.map_cons, List.map_nil, List.length_cons, List.length_nil, Option.getD_some, Option.getD_none, List.all_cons, List.all_nil, List.set_cons_zero, List.set_cons_succ, List.replicate_succ, List.replicate_zero, List.getElem?_cons_zero, List.getElem?_cons_succ, List.drop_succ_cons, List.drop_zero, List.take_succ_cons, List.take_zero, List.map_append, List.nil_append, List.cons_append, Nat.reduceShiftRight, Nat.reduceMod]
      (repeat (with_reducible refine And.intro ?_ ?_; focus (first | omega | (unfold I64; omega))))
      refine ⟨⟨i + 1, h'⟩, by simp only; omega, ?_⟩
      refine weakX [(100, some 33)] (of_decide_eq_true rfl) (of_decide_eq_true rfl) ?_
      (simp only [hia, hln, vcW, vcV, vcD, Int.reduceEq, Int.reduceNe, Int.reduceLT, Int.reduceLE, Nat.reduceEqDiff, Nat.reduceAdd, reduceIte, reduceCtorEq, Nat.reduceLT, Nat.reduceLeDiff, eq_self, Option.bind_some, Option.map_some, List.map_cons, List.map_nil, List.length_cons, List.length_nil, Option.getD_some, Option.getD_none, List.all_cons, List.all_nil, List.set_cons_zero, List.set_cons_succ, List.replicate_succ, List.replicate_zero, List.getElem?_cons_zero, List.getElem?_cons_succ, List.drop_succ_cons, List.drop_zero, List.take_succ_cons, List.take_zero, List.map_append, List.nil_append, List.cons_append, Nat.reduceShiftRight, Nat.reduceMod])
      (repeat' first | exact trivial | (with_reducible exact RnB.fxB (ints_fxB _)) | (with_reducible rfl) | (with_reducible refine And.intro ?_ ?_) | (with_reducible refine RnB.bb ?_; simp only [vcW, vcV, vcD, Int.reduceEq, Int.reduceNe, Int.reduceLT, Int.reduceLE, Nat.reduceEqDiff, Nat.reduceAdd, reduceIte, reduceCtorEq, Nat.reduceLT, Nat.reduceLeDiff, eq_self, Option.bind_some, Option.map_some, List.map_cons, List.map_nil, List.length_cons, List.length_nil, Option.getD_some, Option.getD_none, List.all_cons, List.all_nil, List.set_cons_zero, List.set_cons_succ, List.replicate_succ, List.replicate_zero, List.getElem?_cons_zero, List.getElem?_cons_succ, List.drop_succ_cons, List.drop_zero, List.take_succ_cons, List.take_zero, List.map_append, List.nil_append, List.cons_append, Nat.reduceShiftRight, Nat.reduceMod]) | (with_reducible refine RnB.nb ?_; simp only [vcW, vcV, vcD, Int.reduceEq, Int.reduceNe, Int.reduceLT, Int.reduceLE, Nat.reduceEqDiff, Nat.reduceAdd, reduceIte, reduceCtorEq, Nat.reduceLT, Nat.reduceLeDiff, eq_self, Option.bind_some, Option.map_some, List.map_cons, List.map_nil, List.length_cons, List.length_nil, Option.getD_some, Option.getD_none, List.all_cons, List.all_nil, List.set_cons_zero, List.set_cons_succ, List.replicate_succ, List.replicate_zero, List.getElem?_cons_zero, List.getElem?_cons_succ, List.drop_succ_cons, List.drop_zero, List.take_succ_cons, List.take_zero, List.map_append, List.nil_append, List.cons_append, Nat.reduceShiftRight, Nat.reduceMod]) | (with_reducible refine RnB.ii ?_) | (with_reducible refine RnB.app ?_) | (with_reducible refine RnB.fxB ?_; simp only [vcW, vcV, vcD, Int.reduceEq, Int.reduceNe, Int.reduceLT, Int.reduceLE, Nat.reduceEqDiff, Nat.reduceAdd, reduceIte, reduceCtorEq, Nat.reduceLT, Nat.reduceLeDiff, eq_self, Option.bind_some, Option.map_some, List.map_cons, List.map_nil, List.length_cons, List.length_nil, Option.getD_some, Option.getD_none, List.all_cons, List.all_nil, List.set_cons_zero, List.set_cons_succ, List.replicate_succ, List.replicate_zero, List.getElem?_cons_zero, List.getElem?_cons_succ, List.drop_succ_cons, List.drop_zero, List.take_succ_cons, List.take_zero, List.map_append, List.nil_append, List.cons_append, Nat.reduceShiftRight, Nat.reduceMod]) | omega)
      all_goals first | exact hia.symm | exact RnB.fxB (by rw [← hia]; exact ints_fxB _) | (rw [ints_append]; rfl) | skip
    · have h5 : ¬ (i : Int) < parts.length := by omega
      have hin : i = parts.length := by omega
      subst hin
      simp only [h5, List.take_length, vcV, vcD, Int.reduceEq, Int.reduceNe, Int.reduceLT, Int.reduceLE, Nat.reduceEqDiff, Nat.reduceAdd, reduceIte, reduceCtorEq, Nat.reduceLT, Nat.reduceLeDiff, eq_self, Option.bind_some, Option.map_some, List.map_cons, List.map_nil, List.length_cons, List.length_nil, Option.getD_some, Option.getD_none, List.all_cons, List.all_nil, List.set_cons_zero, List.set_cons_succ, List.replicate_succ, List.replicate_zero, List.getElem?_cons_zero, List.getElem?_cons_succ, List.drop_succ_cons, List.drop_zero, List.take_succ_cons, List.take_zero, List.map_append, List.nil_append, List.cons_append, Nat.reduceShiftRight, Nat.reduceMod]
      rw [borB_good _ _ _ _ _ (by unfold photL; rw [ints_length, List.length_map]) (ints_fx _)]
end Go.Proofs.YtddiingfddlaaaaDoor

/- Contracts off the library's shelf: slices.Clone. By an AI agent; nothing here is trusted. -/
namespace Go.Proofs.YtddiingfddlaaaaDoor
open Go.Av
open Go.RowKit (Below)

def cloneRen : Go.Shelf.Ren := ⟨fun x => match x with | 15 => 104 | n => n, fun x => match x with | 22 => 22 | 3 => 3 | 4 => 4 | n => n, fun x => x⟩
set_option maxRecDepth 100000 in
theorem cloneFn : Tryd.prog.funcs[cloneRen.f 15]? = some (Go.Proofs.Body2.n15 cloneRen) := by kernel_rfl
theorem cloneLay : Go.Proofs.Lays2.n15 Tryd.prog cloneRen :=
  { mixed := by kernel_rfl, f15 := cloneFn,
    t3 := Tryd.underlying3, a3 := Tryd.isAgg3, z3 := Tryd.sizeOf3, v3 := Tryd.zeroValue3, t4 := Tryd.underlying4,
    a4 := Tryd.isAgg4, z4 := Tryd.sizeOf4, v4 := Tryd.zeroValue4, t22 := Tryd.underlying22, a22 := Tryd.isAgg22,
    z22 := Tryd.sizeOf22, v22 := Tryd.zeroValue22, i3 := by kernel_rfl }

theorem ints_at {l : List Int} {i : Nat} {x : AV} (h : (ints l)[i]? = some x) : ∃ hi : i < l.length, x = .int .i64 l[i] := by
  have hi : i < l.length := by
    have := (List.getElem?_eq_some_iff.1 h).1
    rw [ints_length] at this; exact this
  rw [ints_get l i hi] at h
  exact ⟨hi, by injection h with h; exact h.symm⟩
theorem own_sl {w' : World} {B : Nat} {e : TypeId} {v : Value} {l : List Int} {ok : Nat → Prop} (h : w'.ownsRow B e 1 v l.length (l.map (Value.int .i64))) :
    VR w'.heap (fun b => ok b ∨ (B ≤ b ∧ b < w'.heap.size)) noPlace noStore (.sl (ints l)) v := by
  obtain ⟨_, h⟩ := h
  rcases h with ⟨rfl, hn⟩ | ⟨g, cap, cur, rfl, hg, hb, hn, hcap, hcur, hx⟩
  · have : l = [] := List.eq_nil_of_length_eq_zero hn
    subst this
    exact .sl0 none 0
  · have hlen : (ints l).length = l.length := ints_length l
    rw [← hlen] at hn ⊢
    refine .sl (ints l) g 0 1 cap cur e (0, 0) (fun i _ => .int .i64 (l.getD i 0)) (.inr ⟨hg, (Array.getElem?_eq_some_iff.1 hb).1⟩) hn hb ?_ ?_ ?_
    · intro i x hi
      obtain ⟨_, rfl⟩ := ints_at hi
      exact ⟨rfl, fun c hc => by rw [List.mem_singleton.1 hc]; rfl, rfl⟩
    · intro i x o c hi ho
      obtain ⟨hil, rfl⟩ := ints_at hi
      have h0 : o = 0 := by
        cases o with
        | zero => rfl
        | succ o => simp [cellsOf] at ho
      subst h0
      have h1 : (cur.toList.take (l.length * 1))[i]? = (l.map (Value.int .i64))[i]? := by rw [hx]
      rw [List.getElem?_take, if_pos (by omega), Array.getElem?_toList, List.getElem?_map, List.getElem?_eq_getElem hil] at h1
      show cur[0 + i * 1 + 0]? = some (.int .i64 (l.getD i 0))
      rw [show 0 + i * 1 + 0 = i by omega, h1]
      simp [List.getD, List.getElem?_eq_getElem hil]
    · intro i x o c hi ho
      obtain ⟨hil, rfl⟩ := ints_at hi
      cases o with
      | zero =>
        simp [cellsOf] at ho
        subst ho
        show VR _ _ _ _ _ (.int .i64 (l.getD i 0))
        rw [show l.getD i 0 = l[i] by simp [List.getD, List.getElem?_eq_getElem hil]]
        exact .int _ _
      | succ o => simp [cellsOf] at ho

theorem Clone_s (l : List Int) (hl : l.length ≤ 1000000000) : Sound Tryd.prog 104 [.sl (ints l)] (.sl (ints l)) := by
  intro w ok cargs hok _ hlen hargs
  have h0 := hargs 0 _ rfl
  have hc1 : cargs = #[cargs.getD 0 undef] := by
    apply Array.ext
    · simpa using hlen
    · intro i h1 h2
      simp at h2
      subst h2
      simp [Array.getD, h1]
  rw [hc1]
  generalize cargs.getD 0 undef = v at h0
  have hin : ∀ v, (callFunc 104 #[v]).run Tryd.prog w = .ok (.enter 104 #[v]) w := fun v =>
    Go.Av.callFunc_enter Tryd.func104 (by kernel_rfl) rfl #[v]
  cases l with
  | nil =>
    have h1 : VR w.heap ok noPlace noStore (.sl []) v := h0
    show CallsF _ _ _ _ fun cv w' => Below w.heap.size w w' ∧ VR w'.heap (fun b => ok b ∨ (w.heap.size ≤ b ∧ b < w'.heap.size)) noPlace noStore (.sl (ints [])) cv
    cases h1 with
    | sl0 a cap =>
      cases a with
      | none =>
        refine .inr ⟨hin _, (Any.slices_Clone_int_nil cloneLay 0 cap w).mono fun e w' ⟨he, hw⟩ => ⟨_, he, ?_, ?_⟩⟩
        · rw [hw]; exact Below.refl _ _
        · exact .sl0 none 0
      | some a =>
        refine .inr ⟨hin _, (Any.slices_Clone_int_zero cloneLay a cap w).mono fun e w' ⟨v', he, ho, _, hB⟩ => ⟨v', he, hB, ?_⟩⟩
        exact own_sl (l := []) ho
    | sl _ b off s cap cur ty fr vals hok' hcap hb hs hc hv =>
      refine .inr ⟨hin _, (Any.slices_Clone_int_zero cloneLay ⟨b, off, none⟩ cap w).mono fun e w' ⟨v', he, ho, _, hB⟩ => ⟨v', he, hB, ?_⟩⟩
      exact own_sl (l := []) ho
  | cons x r =>
    have hpos : 0 < (x :: r).length := by simp
    generalize x :: r = l at *
    generalize hes : ints l = es at h0
    cases h0 with
    | sl0 a cap => rw [← ints_length, hes] at hpos; simp at hpos
    | sl _ b off s cap cur ty fr vals hok' hcap hb hs hc hv =>
      subst hes
      have hs1 : s = 1 := (hs 0 _ (ints_get l 0 hpos)).1.symm
      subst hs1
      have hcell : ∀ j, j < l.length → w.cell? ⟨b, off + j, none⟩ = some (.int .i64 (l.getD j 0)) := by
        intro j hj
        have h1 := hc j _ 0 _ (ints_get l j hj) rfl
        have h2 := hv j _ 0 _ (ints_get l j hj) rfl
        generalize vals j 0 = u at h1 h2
        cases h2
        rw [show off + j * 1 + 0 = off + j by omega] at h1
        simp [World.cell?, hb, h1, List.getD, List.getElem?_eq_getElem hj]
      have hlen : (ints l).length = l.length := ints_length l
      rw [hlen]
      refine .inr ⟨hin _, (Any.slices_Clone_int cloneLay b off l.length cap l w (Nat.le_refl _) (by omega) hcell).mono fun e w' ⟨v', he, ho, _, hB⟩ => ⟨v', he, hB, ?_⟩⟩
      rw [List.take_length] at ho
      exact own_sl ho

/-- The clone is the caller's. -/
theorem own_o {w w' : World} {ok : Nat → Prop} {e : Nat} {v : Value} {l : List Int} (h : w'.ownsRow w.heap.size e 1 v l.length (l.map (Value.int .i64))) : OwnR w w' ok e 1 (ints l) v := by
  obtain ⟨_, h⟩ := h
  rcases h with ⟨rfl, hn⟩ | ⟨g, cap, cur, rfl, hg, hb, hn, hcap, hcur, hx⟩
  · have : l = [] := List.eq_nil_of_length_eq_zero hn
    subst this
    exact .inl ⟨rfl, none, rfl⟩
  · have hlen : (ints l).length = l.length := ints_length l
    rw [← hlen] at hn ⊢
    refine .inr ⟨g, cap, cur, rfl, hg, hb, hn, hcap, hcur, fun i x hi => ?_⟩
    obtain ⟨hil, rfl⟩ := ints_at hi
    refine ⟨rfl, fun c hc => by rw [List.mem_singleton.1 hc]; rfl, fun o c ho => ?_⟩
    cases o with
    | zero =>
      simp [cellsOf] at ho
      subst ho
      have h1 : (cur.toList.take (l.length * 1))[i]? = (l.map (Value.int .i64))[i]? := by rw [hx]
      rw [List.getElem?_take, if_pos (by omega), Array.getElem?_toList, List.getElem?_map, List.getElem?_eq_getElem hil] at h1
      exact ⟨_, by rw [show i * 1 + 0 = i by omega]; exact h1, .int _ _⟩
    | succ o => simp [cellsOf] at ho
theorem Clone_o (l : List Int) (hl : l.length ≤ 1000000000) : SoundO Tryd.prog 104 [.sl (ints l)] 3 1 (ints l) := by
  refine ⟨by omega, ?_⟩
  intro w ok cargs hok _ hlen hargs
  have h0 := hargs 0 _ rfl
  have hc1 : cargs = #[cargs.getD 0 undef] := by
    apply Array.ext
    · simpa using hlen
    · intro i h1 h2
      simp at h2
      subst h2
      simp [Array.getD, h1]
  rw [hc1]
  generalize cargs.getD 0 undef = v at h0
  have hin : ∀ v, (callFunc 104 #[v]).run Tryd.prog w = .ok (.enter 104 #[v]) w := fun v =>
    Go.Av.callFunc_enter Tryd.func104 (by kernel_rfl) rfl #[v]
  cases l with
  | nil =>
    have h1 : VR w.heap ok noPlace noStore (.sl []) v := h0
    show CallsF _ _ _ _ fun cv w' => Below w.heap.size w w' ∧ OwnR w w' ok 3 1 (ints []) cv
    cases h1 with
    | sl0 a cap =>
      cases a with
      | none =>
        refine .inr ⟨hin _, (Any.slices_Clone_int_nil cloneLay 0 cap w).mono fun e w' ⟨he, hw⟩ => ⟨_, he, ?_, ?_⟩⟩
        · rw [hw]; exact Below.refl _ _
        · exact .inl ⟨rfl, none, rfl⟩
      | some a =>
        refine .inr ⟨hin _, (Any.slices_Clone_int_zero cloneLay a cap w).mono fun e w' ⟨v', he, ho, _, hB⟩ => ⟨v', he, hB, ?_⟩⟩
        exact own_o (l := []) ho
    | sl _ b off s cap cur ty fr vals hok' hcap hb hs hc hv =>
      refine .inr ⟨hin _, (Any.slices_Clone_int_zero cloneLay ⟨b, off, none⟩ cap w).mono fun e w' ⟨v', he, ho, _, hB⟩ => ⟨v', he, hB, ?_⟩⟩
      exact own_o (l := []) ho
  | cons x r =>
    have hpos : 0 < (x :: r).length := by simp
    generalize x :: r = l at *
    generalize hes : ints l = es at h0
    cases h0 with
    | sl0 a cap => rw [← ints_length, hes] at hpos; simp at hpos
    | sl _ b off s cap cur ty fr vals hok' hcap hb hs hc hv =>
      subst hes
      have hs1 : s = 1 := (hs 0 _ (ints_get l 0 hpos)).1.symm
      subst hs1
      have hcell : ∀ j, j < l.length → w.cell? ⟨b, off + j, none⟩ = some (.int .i64 (l.getD j 0)) := by
        intro j hj
        have h1 := hc j _ 0 _ (ints_get l j hj) rfl
        have h2 := hv j _ 0 _ (ints_get l j hj) rfl
        generalize vals j 0 = u at h1 h2
        cases h2
        rw [show off + j * 1 + 0 = off + j by omega] at h1
        simp [World.cell?, hb, h1, List.getD, List.getElem?_eq_getElem hj]
      have hlen : (ints l).length = l.length := ints_length l
      rw [hlen]
      refine .inr ⟨hin _, (Any.slices_Clone_int cloneLay b off l.length cap l w (Nat.le_refl _) (by omega) hcell).mono fun e w' ⟨v', he, ho, _, hB⟩ => ⟨v', he, hB, ?_⟩⟩
      rw [List.take_length] at ho
      exact own_o ho
end Go.Proofs.YtddiingfddlaaaaDoor

/- Contracts of functions without a body: bits.Add64, bits.Sub64. By an AI agent; nothing here is trusted. -/
namespace Go.Proofs.YtddiingfddlaaaaDoor
open Go.Av
open Go.RowKit (Below)

theorem args3 {h : Array Obj} {ok : Nat → Prop} {cargs : Array Value} {a b c : Int} (hlen : cargs.size = 3) (hargs : ∀ (i : Nat) (x : AV), [AV.int .u64 a, .int .u64 b, .int .u64 c][i]? = some x → VR h ok noPlace noStore x (cargs.getD i undef)) :
    cargs = #[.int .u64 a, .int .u64 b, .int .u64 c] := by
  have h0 := hargs 0 _ rfl
  have h1 := hargs 1 _ rfl
  have h2 := hargs 2 _ rfl
  have e0 : cargs.getD 0 undef = .int .u64 a := by generalize cargs.getD 0 undef = v at *; cases h0; rfl
  have e1 : cargs.getD 1 undef = .int .u64 b := by generalize cargs.getD 1 undef = v at *; cases h1; rfl
  have e2 : cargs.getD 2 undef = .int .u64 c := by generalize cargs.getD 2 undef = v at *; cases h2; rfl
  apply Array.ext
  · simpa using hlen
  · intro i hi1 hi2
    simp at hi2
    have : i = 0 ∨ i = 1 ∨ i = 2 := by omega
    rcases this with rfl | rfl | rfl
    · simpa [Array.getD, hi1] using e0
    · simpa [Array.getD, hi1] using e1
    · simpa [Array.getD, hi1] using e2
theorem tup2 {h : Array Obj} {ok : Nat → Prop} (a b : Int) : VR h ok noPlace noStore (.tup [.int .u64 a, .int .u64 b]) (.tuple #[.int .u64 a, .int .u64 b]) := by
  refine .tup _ _ rfl fun i c hc => ?_
  match i with
  | 0 => simp at hc; subst hc; exact .int _ _
  | 1 => simp at hc; subst hc; exact .int _ _
  | i + 2 => simp at hc
theorem Add64_s (x y c : Int) (hx : 0 ≤ x) (hy : 0 ≤ y) (hc : 0 ≤ c ∧ c ≤ 1) : Sound Tryd.prog 109 [.int .u64 x, .int .u64 y, .int .u64 c]
    (.tup [.int .u64 ((x + y + c) % 18446744073709551616), .int .u64 ((x + y + c) / 18446744073709551616)]) := by
  intro w ok cargs hok _ hlen hargs
  rw [args3 (by simpa using hlen) hargs]
  refine .inl ⟨_, w, ?_, Below.refl _ _, tup2 _ _⟩
  rw [run_callFunc_extern Tryd.func109 (by kernel_rfl) (by kernel_rfl) (by kernel_rfl) (e := add64Entry) (by kernel_rfl), run_add64 x y c hx hy hc.1 hc.2]
  rfl
theorem Sub64_s (x y b : Nat) (hb : b ≤ 1) : Sound Tryd.prog 111 [.int .u64 (x : Int), .int .u64 (y : Int), .int .u64 (b : Int)]
    (.tup [.int .u64 (((x + 18446744073709551616 - y - b) % 18446744073709551616 : Nat) : Int), .int .u64 ((if x < y + b then 1 else 0 : Nat) : Int)]) := by
  intro w ok cargs hok _ hlen hargs
  rw [args3 (by simpa using hlen) hargs]
  refine .inl ⟨_, w, ?_, Below.refl _ _, tup2 _ _⟩
  rw [run_callFunc_extern Tryd.func111 (by kernel_rfl) (by kernel_rfl) (by kernel_rfl) (e := sub64Entry) (by kernel_rfl), run_sub64 x y b hb]
  rfl
end Go.Proofs.YtddiingfddlaaaaDoor

/- The examples of chapter 2, by running the abstract code; an iterator from the end on. By an AI agent; nothing here is trusted. -/
namespace Go.Proofs.YtddiingfddlaaaaDoor
open Go.Av

/-- A number of 128 bits, as the code holds it. -/
def w128 (p : Bool × Int × Int) : AV := .agg [.bool p.1, .int .u64 p.2.1, .int .u64 p.2.2]
def w128s (l : List (Bool × Int × Int)) : List AV := l.map w128
theorem w128s_length (l : List (Bool × Int × Int)) : (w128s l).length = l.length := by simp [w128s]
theorem w128s_get (l : List (Bool × Int × Int)) (i : Nat) (h : i < l.length) : (w128s l)[i]? = some (.agg [.bool l[i].1, .int .u64 l[i].2.1, .int .u64 l[i].2.2]) := by
  simp [w128s, w128, h]
/-- What slices.Backward yields. -/
def backL (l : List (Bool × Int × Int)) : Nat → List (List AV)
  | 0 => []
  | k + 1 => backL l k ++ [[.int .i64 ((l.length : Int) - 1 - k), w128 (l.getD (l.length - 1 - k) default)]]
theorem backL_le (l : List (Bool × Int × Int)) (k n : Nat) (h : k ≤ n) : ∃ r, backL l n = backL l k ++ r := by
  obtain ⟨m, rfl⟩ := Nat.exists_eq_add_of_le h
  induction m with
  | zero => exact ⟨[], by simp⟩
  | succ m ih =>
    obtain ⟨r, hr⟩ := ih (by omega)
    exact ⟨r ++ [[.int .i64 ((l.length : Int) - 1 - (k + m : Nat)), w128 (l.getD (l.length - 1 - (k + m)) default)]], by rw [← Nat.add_assoc, backL, hr, List.append_assoc]⟩
theorem deadAll_no : deadAll noStore = noStore := rfl
theorem backward_s (l : List (Bool × Int × Int)) (hl : l.length ≤ 1000000) : SeqA Tryd.prog 124 [.eptr (.sl (w128s l)) 0] (backL l l.length) := by
  refine seq_W f_slices_Backward_pulse_wide_pulse_wide_1 (Nat.le_of_ble_eq_true rfl) fun y => ?_
  simp only [c_slices_Backward_pulse_wide_pulse_wide_1, w128s_length, vcC, Int.reduceEq, Int.reduceNe, Int.reduceLT, Int.reduceLE, Nat.reduceEqDiff, Nat.reduceAdd, reduceIte, reduceCtorEq, Nat.reduceLT, Nat.reduceLeDiff, eq_self, Option.bind_some, Option.map_some, List.map_cons, List.map_nil, List.length_cons, List.length_nil, Option.getD_some, Option.getD_none, List.all_cons, List.all_nil, List.set_cons_zero, List.set_cons_succ, List.replicate_succ, List.replicate_zero, List.getElem?_cons_zero, List.getElem?_cons_succ, List.drop_succ_cons, List.drop_zero, List.take_succ_cons, List.take_zero, WY_skip, WY_reg, WY_regY, WY_seq, WY_cond, WY_block, WY_exit, WY_ret, VY_nil, VY_yld, VY_yldg, VY_ps, seqY_n, seqY_r, seqY_x, blockY_n, blockY_r, blockY_x, isCallvs, isCallv, isY, List.any_cons, List.any_nil, Bool.or_false, Bool.or_true, Bool.false_or, Bool.and_false, Bool.false_and]
  refine ⟨by unfold I64; omega, ?_⟩
  refine WY_loop (α := PSigma fun k : Nat => k ≤ l.length) (fun k => ((envOf [(0, .yld y), (1, .eptr (.sl (w128s l)) 0), (3, .int .i64 ((l.length : Int) - 1 - k.1))], noStore), some (backL l k.1)))
    (fun k => l.length - k.1) ⟨0, by simp⟩ (weakE _ ?_) ?_ (fun ⟨k, hk⟩ => ?_)
  · simp only [vcC, Int.reduceEq, Int.reduceNe, Int.reduceLT, Int.reduceLE, Nat.reduceEqDiff, Nat.reduceAdd, reduceIte, reduceCtorEq, Nat.reduceLT, Nat.reduceLeDiff, eq_self, Option.bind_some, Option.map_some, List.map_cons, List.map_nil, List.length_cons, List.length_nil, Option.getD_some, Option.getD_none, List.all_cons, List.all_nil, List.set_cons_zero, List.set_cons_succ, List.replicate_succ, List.replicate_zero, List.getElem?_cons_zero, List.getElem?_cons_succ, List.drop_succ_cons, List.drop_zero, List.take_succ_cons, List.take_zero, WY_skip, WY_reg, WY_regY, WY_seq, WY_cond, WY_block, WY_exit, WY_ret, VY_nil, VY_yld, VY_yldg, VY_ps, seqY_n, seqY_r, seqY_x, blockY_n, blockY_r, blockY_x, isCallvs, isCallv, isY, List.any_cons, List.any_nil, Bool.or_false, Bool.or_true, Bool.false_or, Bool.and_false, Bool.false_and]; simp
  · simp [backL]
  · simp only [vcC, Int.reduceEq, Int.reduceNe, Int.reduceLT, Int.reduceLE, Nat.reduceEqDiff, Nat.reduceAdd, reduceIte, reduceCtorEq, Nat.reduceLT, Nat.reduceLeDiff, eq_self, Option.bind_some, Option.map_some, List.map_cons, List.map_nil, List.length_cons, List.length_nil, Option.getD_some, Option.getD_none, List.all_cons, List.all_nil, List.set_cons_zero, List.set_cons_succ, List.replicate_succ, List.replicate_zero, List.getElem?_cons_zero, List.getElem?_cons_succ, List.drop_succ_cons, List.drop_zero, List.take_succ_cons, List.take_zero, WY_skip, WY_reg, WY_regY, WY_seq, WY_cond, WY_block, WY_exit, WY_ret, VY_nil, VY_yld, VY_yldg, VY_ps, seqY_n, seqY_r, seqY_x, blockY_n, blockY_r, blockY_x, isCallvs, isCallv, isY, List.any_cons, List.any_nil, Bool.or_false, Bool.or_true, Bool.false_or, Bool.and_false, Bool.false_and]
    refine brB_split (fun h => ?_) (fun h => ?_)
    · have h' : k < l.length := by simp only [decide_eq_true_eq] at h; omega
      have h2 : ((l.length : Int) - 1 - k).toNat = l.length - 1 - k := by omega
      have hg := w128s_get l (l.length - 1 - k) (by omega)
      simp only [h2, hg, vcC, Int.reduceEq, Int.reduceNe, Int.reduceLT, Int.reduceLE, Nat.reduceEqDiff, Nat.reduceAdd, reduceIte, reduceCtorEq, Nat.reduceLT, Nat.reduceLeDiff, eq_self, Option.bind_some, Option.map_some, List.map_cons, List.map_nil, List.length_cons, List.length_nil, Option.getD_some, Option.getD_none, List.all_cons, List.all_nil, List.set_cons_zero, List.set_cons_succ, List.replicate_succ, List.replicate_zero, List.getElem?_cons_zero, List.getElem?_cons_succ, List.drop_succ_cons, List.drop_zero, List.take_succ_cons, List.take_zero, WY_skip, WY_reg, WY_regY, WY_seq, WY_cond, WY_block, WY_exit, WY_ret, VY_nil, VY_yld, VY_yldg, VY_ps, seqY_n, seqY_r, seqY_x, blockY_n, blockY_r, blockY_x, isCallvs, isCallv, isY, List.any_cons, List.any_nil, Bool.or_false, Bool.or_true, Bool.false_or, Bool.and_false, Bool.false_and]
      refine ⟨by omega, ?_⟩
      obtain ⟨rest, hrest⟩ := backL_le l (k + 1) l.length h'
      rw [backL, w128, show l.getD (l.length - 1 - k) default = l[l.length - 1 - k]'(by omega) by simp [List.getD, List.getElem?_eq_getElem (show l.length - 1 - k < l.length by omega)]] at hrest
      refine yS_of (backL l k) rest rfl ?_ ?_ ?_
      · rw [hrest]; simp
      · simp only [deadAll_no, vcC, Int.reduceEq, Int.reduceNe, Int.reduceLT, Int.reduceLE, Nat.reduceEqDiff, Nat.reduceAdd, reduceIte, reduceCtorEq, Nat.reduceLT, Nat.reduceLeDiff, eq_self, Option.bind_some, Option.map_some, List.map_cons, List.map_nil, List.length_cons, List.length_nil, Option.getD_some, Option.getD_none, List.all_cons, List.all_nil, List.set_cons_zero, List.set_cons_succ, List.replicate_succ, List.replicate_zero, List.getElem?_cons_zero, List.getElem?_cons_succ, List.drop_succ_cons, List.drop_zero, List.take_succ_cons, List.take_zero, WY_skip, WY_reg, WY_regY, WY_seq, WY_cond, WY_block, WY_exit, WY_ret, VY_nil, VY_yld, VY_yldg, VY_ps, seqY_n, seqY_r, seqY_x, blockY_n, blockY_r, blockY_x, isCallvs, isCallv, isY, List.any_cons, List.any_nil, Bool.or_false, Bool.or_true, Bool.false_or, Bool.and_false, Bool.false_and]
        refine ⟨by unfold I64; omega, ⟨k + 1, h'⟩, by simp only; omega, weakE _ ?_, ?_⟩
        · simp only [vcC, Int.reduceEq, Int.reduceNe, Int.reduceLT, Int.reduceLE, Nat.reduceEqDiff, Nat.reduceAdd, reduceIte, reduceCtorEq, Nat.reduceLT, Nat.reduceLeDiff, eq_self, Option.bind_some, Option.map_some, List.map_cons, List.map_nil, List.length_cons, List.length_nil, Option.getD_some, Option.getD_none, List.all_cons, List.all_nil, List.set_cons_zero, List.set_cons_succ, List.replicate_succ, List.replicate_zero, List.getElem?_cons_zero, List.getElem?_cons_succ, List.drop_succ_cons, List.drop_zero, List.take_succ_cons, List.take_zero, WY_skip, WY_reg, WY_regY, WY_seq, WY_cond, WY_block, WY_exit, WY_ret, VY_nil, VY_yld, VY_yldg, VY_ps, seqY_n, seqY_r, seqY_x, blockY_n, blockY_r, blockY_x, isCallvs, isCallv, isY, List.any_cons, List.any_nil, Bool.or_false, Bool.or_true, Bool.false_or, Bool.and_false, Bool.false_and]
          simp only [AV.int.injEq, true_and, and_true]
          omega
        · simp only [backL, w128, show l.getD (l.length - 1 - k) default = l[l.length - 1 - k]'(by omega) by simp [List.getD, List.getElem?_eq_getElem (show l.length - 1 - k < l.length by omega)]]
      · simp only [deadAll_no, vcC, Int.reduceEq, Int.reduceNe, Int.reduceLT, Int.reduceLE, Nat.reduceEqDiff, Nat.reduceAdd, reduceIte, reduceCtorEq, Nat.reduceLT, Nat.reduceLeDiff, eq_self, Option.bind_some, Option.map_some, List.map_cons, List.map_nil, List.length_cons, List.length_nil, Option.getD_some, Option.getD_none, List.all_cons, List.all_nil, List.set_cons_zero, List.set_cons_succ, List.replicate_succ, List.replicate_zero, List.getElem?_cons_zero, List.getElem?_cons_succ, List.drop_succ_cons, List.drop_zero, List.take_succ_cons, List.take_zero, WY_skip, WY_reg, WY_regY, WY_seq, WY_cond, WY_block, WY_exit, WY_ret, VY_nil, VY_yld, VY_yldg, VY_ps, seqY_n, seqY_r, seqY_x, blockY_n, blockY_r, blockY_x, isCallvs, isCallv, isY, List.any_cons, List.any_nil, Bool.or_false, Bool.or_true, Bool.false_or, Bool.and_false, Bool.false_and]; simp
    · simp only [vcC, Int.reduceEq, Int.reduceNe, Int.reduceLT, Int.reduceLE, Nat.reduceEqDiff, Nat.reduceAdd, reduceIte, reduceCtorEq, Nat.reduceLT, Nat.reduceLeDiff, eq_self, Option.bind_some, Option.map_some, List.map_cons, List.map_nil, List.length_cons, List.length_nil, Option.getD_some, Option.getD_none, List.all_cons, List.all_nil, List.set_cons_zero, List.set_cons_succ, List.replicate_succ, List.replicate_zero, List.getElem?_cons_zero, List.getElem?_cons_succ, List.drop_succ_cons, List.drop_zero, List.take_succ_cons, List.take_zero, WY_skip, WY_reg, WY_regY, WY_seq, WY_cond, WY_block, WY_exit, WY_ret, VY_nil, VY_yld, VY_yldg, VY_ps, seqY_n, seqY_r, seqY_x, blockY_n, blockY_r, blockY_x, isCallvs, isCallv, isY, List.any_cons, List.any_nil, Bool.or_false, Bool.or_true, Bool.false_or, Bool.and_false, Bool.false_and]
      have : k = l.length := by simp only [decide_eq_false_iff_not, Bool.not_true] at h; omega
      subst this
      simp

def unw : AV → Option (Bool × Int × Int)
  | .agg [.bool a, .int .u64 b, .int .u64 c] => some (a, b, c)
  | _ => none
def unws : List AV → Option (List (Bool × Int × Int))
  | [] => some []
  | x :: l => match unw x, unws l with
    | some n, some m => some (n :: m)
    | _, _ => none
theorem unws_some : ∀ {l : List AV} {m : List (Bool × Int × Int)}, unws l = some m → l = w128s m
  | [], m, h => by cases h; rfl
  | x :: l, m, h => by
    simp only [unws] at h
    split at h
    · rename_i n k h1 h2
      cases h
      rw [unws_some h2]
      unfold unw at h1
      split at h1
      · cases h1; rfl
      · cases h1
    · cases h
def unint : AV → Option Int
  | .int .i64 n => some n
  | _ => none
def unints : List AV → Option (List Int)
  | [] => some []
  | x :: l => match unint x, unints l with
    | some n, some m => some (n :: m)
    | _, _ => none
theorem unints_some : ∀ {l : List AV} {m : List Int}, unints l = some m → l = ints m
  | [], m, h => by cases h; rfl
  | x :: l, m, h => by
    simp only [unints] at h
    split at h
    · rename_i n k h1 h2
      cases h
      rw [unints_some h2]
      unfold unint at h1
      split at h1
      · cases h1; rfl
      · cases h1
    · cases h

/-- The iterator that the examples come to. -/
def itP : IterT := fun g caps => if g = 124 then (match caps with
  | [.eptr (.sl es) 0] => (match unws es with
    | some l => if l.length ≤ 1000000 then some (backL l l.length) else none
    | none => none)
  | _ => none) else none
theorem itP_ok : ∀ g caps xs, itP g caps = some xs → SeqA Tryd.prog g caps xs := by
  intro g caps xs h
  unfold itP at h
  split at h
  · rename_i hg
    subst hg
    split at h
    · rename_i es
      split at h
      · rename_i l hl
        split at h
        · rename_i hc
          cases h
          rw [unws_some hl]
          exact backward_s l hc
        · cases h
      · cases h
    · cases h
  · cases h
/-- The functions that are known by their contracts alone. -/
def extV : CallT := fun f a =>
  if f = 104 then (match a with
    | [.sl es] => (match unints es with
      | some l => if l.length ≤ 1000000 then some (.sl es) else none
      | none => none)
    | _ => none)
  else if f = 109 then (match a with
    | [.int .u64 x, .int .u64 y, .int .u64 c] => if 0 ≤ x ∧ 0 ≤ y ∧ 0 ≤ c ∧ c ≤ 1 then some (.tup [.int .u64 ((x + y + c) % 18446744073709551616), .int .u64 ((x + y + c) / 18446744073709551616)]) else none
    | _ => none)
  else if f = 111 then (match a with
    | [.int .u64 x, .int .u64 y, .int .u64 c] => if 0 ≤ x ∧ 0 ≤ y ∧ 0 ≤ c ∧ c ≤ 1 then some (.tup [.int .u64 (((x.toNat + 18446744073709551616 - y.toNat - c.toNat) % 18446744073709551616 : Nat) : Int), .int .u64 ((if x.toNat < y.toNat + c.toNat then 1 else 0 : Nat) : Int)]) else none
    | _ => none)
  else none
theorem extV_ok : ∀ f a v, extV f a = some v → Sound Tryd.prog f a v := by
  intro f a v h
  unfold extV at h
  split at h
  · rename_i hf
    subst hf
    split at h
    · rename_i es
      split at h
      · rename_i l hl
        split at h
        · rename_i hc
          cases h
          rw [unints_some hl]
          exact Clone_s l (by omega)
        · cases h
      · cases h
    · cases h
  · split at h
    · rename_i hf
      subst hf
      split at h
      · rename_i x y c
        split at h
        · rename_i hc
          cases h
          exact Add64_s x y c hc.1 hc.2.1 hc.2.2
        · cases h
      · cases h
    · split at h
      · rename_i hf
        subst hf
        split at h
        · rename_i x y c
          split at h
          · rename_i hc
            cases h
            have := Sub64_s x.toNat y.toNat c.toNat (by omega)
            rw [show ((x.toNat : Nat) : Int) = x by omega, show ((y.toNat : Nat) : Int) = y by omega, show ((c.toNat : Nat) : Int) = c by omega] at this
            exact this
          · cases h
        · cases h
      · cases h
/-- The clone is the caller's; a model, too. -/
def extO : OwnT := fun f a => if f = 104 then (match a with
    | [.sl es] => (match unints es with
      | some l => if l.length ≤ 1000000 then some (3, 1, es) else none
      | none => none)
    | _ => none) else none
theorem extO_ok : ∀ f a q, extO f a = some q → SoundO Tryd.prog f a q.1 q.2.1 q.2.2 := by
  intro f a q h
  unfold extO at h
  split at h
  · rename_i hf
    subst hf
    split at h
    · rename_i es
      split at h
      · rename_i l hl
        split at h
        · rename_i hc
          cases h
          rw [unints_some hl]
          exact Clone_o l (by omega)
        · cases h
      · cases h
    · cases h
  · cases h
def extP : CT := ⟨extV, extO⟩
theorem extP_ok : extP.ok Tryd.prog := ⟨extV_ok, extO_ok⟩
/-- Whose results are taken over. -/
def owP : FuncId → Bool := fun f => decide (f = 104) || decide (f = 99)
def tabP : List (Nat × Nat × Nat × MC × List (Nat × Option (Option Nat))) := [(11, 91, 0, c_law02_awake, [(0, none)]), (14, 47, 2, c_pulse_KeptAfter, [(4, none), (5, none)]), (15, 6, 1, c_base_CopyInts, [(2, none)]), (17, 65, 1, c_pulse_GainOf, [(2, (some (some 2))), (3, none)]), (25, 12, 2, c_pulse_Restored, [(4, none), (5, none)]), (26, 6, 1, c_ref02_Wave, [(2, (some (some 1)))]), (27, 26, 2, c_base_Ints, [(4, none)]), (53, 58, 2, c_pulse_FitOf, [(4, (some (some 2))), (5, none)]), (54, 3, 0, c_law02_Template, [(0, (some (some 2)))]), (55, 41, 3, c_pulse_ErrorOf, [(6, (some (some 2))), (7, none)]), (57, 15, 1, c_pulse_first, [(2, none)]), (58, 30, 1, c_pulse_timesErr, [(2, none)]), (59, 7, 2, c_pulse_unless, [(4, none)]), (60, 5, 1, c_pulse_isTick, [(2, none)]), (61, 9, 2, c_slices_ContainsFunc_int_int, [(4, none)]), (62, 6, 1, c_pulse_GainOf_1, [(2, none)]), (63, 15, 3, c_pulse_within, [(6, none)]), (64, 25, 1, c_slices_Max_int_int, [(2, none)]), (65, 17, 1, c_pulse_sum, [(2, none)]), (66, 28, 2, c_pulse_lowest, [(4, (some (some 2))), (5, none)]), (68, 60, 3, c_pulse_droop, [(6, none), (7, none)]), (69, 24, 1, c_pulse_samplesErr, [(2, none), (3, none)]), (70, 11, 1, c_pulse_sampled, [(2, none)]), (71, 16, 2, c_pulse_floor, [(4, none)]), (76, 21, 1, c_pulse_fitErr, [(2, none)]), (77, 5, 1, c_pulse_isSample, [(2, none)]), (79, 22, 2, c_pulse_fittedErr, [(4, none)]), (80, 55, 2, c_pulse_problemOf, [(4, (some (some 2)))]), (81, 8, 1, c_math_bits_TrailingZeros, [(2, none)]), (82, 92, 2, c_pulse_problem_solved, [(4, (some (some 3))), (5, none)]), (83, 56, 3, c_pulse_problem_isBest, [(6, none)]), (84, 62, 2, c_pulse_reduced, [(4, (some (some 2))), (5, none)]), (85, 21, 3, c_pulse_bothErr, [(6, none)]), (86, 35, 3, c_pulse_differences, [(6, none)]), (87, 57, 2, c_pulse_wide_plus, [(4, (some (some 3)))]), (88, 11, 1, c_pulse_wideOf, [(2, (some (some 3)))]), (89, 33, 2, c_pulse_wide_times, [(4, (some (some 3)))]), (90, 39, 1, c_pulse_wide_text, [(2, none)]), (91, 19, 2, c_slices_IndexFunc_int_int, [(4, none)]), (92, 15, 2, c_pulse_divisor, [(4, none)]), (94, 12, 1, c_pulse_droopErr, [(2, none)]), (95, 6, 1, c_pulse_samplesErr_1, [(2, none)]), (96, 6, 1, c_pulse_fitErr_1, [(2, none)]), (97, 10, 2, c_pulse_isSized, [(4, none)]), (98, 32, 1, c_pulse_templateErr, [(2, none)]), (99, 47, 2, c_pulse_model, [(4, none)]), (100, 30, 3, c_pulse_against, [(6, none)]), (101, 14, 1, c_math_bits_TrailingZeros32, [(2, none)]), (102, 14, 1, c_math_bits_TrailingZeros64, [(2, none)]), (103, 57, 1, c_pulse_determinant, [(2, (some (some 3)))]), (105, 11, 1, c_pulse_wide_negated, [(2, (some (some 3)))]), (106, 9, 1, c_pulse_wide_sign, [(2, none)]), (107, 60, 2, c_pulse_common, [(4, (some (some 3)))]), (108, 51, 2, c_pulse_wide_over, [(4, (some (some 3)))]), (110, 24, 2, c_pulse_wide_isLess, [(4, none)]), (112, 51, 2, c_math_bits_Mul64, [(4, none), (5, none)]), (113, 135, 3, c_math_bits_Div64, [(6, none), (7, none)]), (114, 8, 2, c_strconv_FormatUint, [(4, none)]), (115, 6, 1, c_pulse_templateErr_1, [(2, none)]), (116, 5, 1, c_pulse_templateErr_2, [(2, none)]), (117, 11, 1, c_pulse_wide_isZero, [(2, none)]), (118, 8, 1, c_pulse_wide_size, [(2, (some (some 3)))]), (119, 16, 1, c_pulse_wide_half, [(2, (some (some 3)))]), (120, 6, 1, c_pulse_wide_twice, [(2, (some (some 3)))]), (121, 4, 1, c_slices_Backward_pulse_wide_pulse_wide, [(2, none)]), (122, 6, 1, c_math_bits_LeadingZeros64, [(2, none)]), (123, 32, 2, c_internal_strconv_FormatUint, [(4, none)]), (124, 19, 2, c_slices_Backward_pulse_wide_pulse_wide_1, []), (125, 25, 1, c_math_bits_Len64, [(2, none)]), (126, 15, 1, c_internal_strconv_small, [(2, none)]), (127, 15, 1, c_internal_strconv_numDigits, [(2, none)]), (128, 167, 2, c_internal_strconv_formatBase10, []), (129, 102, 5, c_internal_strconv_formatBits, [(10, none), (11, none)]), (130, 6, 1, c_internal_strconv_log10Pow2, [(2, none)]), (131, 4, 1, c_internal_strconv_bool2_int, [(2, none)]), (132, 8, 1, c_internal_strconv_isPowerOfTwo, [(2, none)])]
theorem tabP_ok : ∀ f c, lookC tabP f = some c → cFun Tryd.prog f = some c := by
  refine lookC_ok ?_
  unfold tabP
  simp only [List.forall_mem_cons]
  exact ⟨f_law02_awake, f_pulse_KeptAfter, f_base_CopyInts, f_pulse_GainOf, f_pulse_Restored, f_ref02_Wave, f_base_Ints, f_pulse_FitOf, f_law02_Template, f_pulse_ErrorOf, f_pulse_first, f_pulse_timesErr, f_pulse_unless, f_pulse_isTick, f_slices_ContainsFunc_int_int, f_pulse_GainOf_1, f_pulse_within, f_slices_Max_int_int, f_pulse_sum, f_pulse_lowest, f_pulse_droop, f_pulse_samplesErr, f_pulse_sampled, f_pulse_floor, f_pulse_fitErr, f_pulse_isSample, f_pulse_fittedErr, f_pulse_problemOf, f_math_bits_TrailingZeros, f_pulse_problem_solved, f_pulse_problem_isBest, f_pulse_reduced, f_pulse_bothErr, f_pulse_differences, f_pulse_wide_plus, f_pulse_wideOf, f_pulse_wide_times, f_pulse_wide_text, f_slices_IndexFunc_int_int, f_pulse_divisor, f_pulse_droopErr, f_pulse_samplesErr_1, f_pulse_fitErr_1, f_pulse_isSized, f_pulse_templateErr, f_pulse_model, f_pulse_against, f_math_bits_TrailingZeros32, f_math_bits_TrailingZeros64, f_pulse_determinant, f_pulse_wide_negated, f_pulse_wide_sign, f_pulse_common, f_pulse_wide_over, f_pulse_wide_isLess, f_math_bits_Mul64, f_math_bits_Div64, f_strconv_FormatUint, f_pulse_templateErr_1, f_pulse_templateErr_2, f_pulse_wide_isZero, f_pulse_wide_size, f_pulse_wide_half, f_pulse_wide_twice, f_slices_Backward_pulse_wide_pulse_wide, f_math_bits_LeadingZeros64, f_internal_strconv_FormatUint, f_slices_Backward_pulse_wide_pulse_wide_1, f_math_bits_Len64, f_internal_strconv_small, f_internal_strconv_numDigits, f_internal_strconv_formatBase10, f_internal_strconv_formatBits, f_internal_strconv_log10Pow2, f_internal_strconv_bool2_int, f_internal_strconv_isPowerOfTwo, fun p hp => by cases hp⟩
end Go.Proofs.YtddiingfddlaaaaDoor

/- The examples of chapter 2 hold. By an AI agent; nothing here is trusted. -/
namespace Go.Proofs.YtddiingfddlaaaaDoor
open Go.Av
theorem awake_run : (callX extP owP itP (lookC tabP) 100 40).v 11 [] = some (.bool true) := by kernel_rfl
theorem awake_s : Sound Tryd.prog 11 [] (.bool true) := (callX_sound extP_ok itP_ok tabP_ok 40).1 _ _ _ awake_run
end Go.Proofs.YtddiingfddlaaaaDoor

/- The marked code of law functions; printed by a program. By an AI agent; nothing here is trusted. -/
namespace Go.Proofs.YtddiingfddlaaaaDoor
open Go.Av
def cl_law02_PulseCharges : ML := (.seq (.reg 6 [⟨none, (some 2), (.box 70 2 (.t 0))⟩, ⟨none, (some 4), (.mv (.c (.bool false)))⟩] false []) (.seq (.seq (.reg 4102 [⟨none, (some 11), (.call 11 [])⟩, ⟨none, (some 12), (.un .not (.t 11))⟩] false []) (.cond (.t 12) (.seq (.reg 16 [⟨none, (some 4), (.mv (.c (.bool false)))⟩] false []) .ret) .skip)) (.seq (.seq (.reg 65542 [⟨none, (some 13), (.fieldAddr (.t 2) 1)⟩, ⟨none, (some 14), (.load none (.t 13))⟩, ⟨none, (some 15), (.len false (.t 14))⟩, ⟨none, (some 16), (.bin .gtr (.t 15) (.c (.int .i64 8)))⟩] false []) (.cond (.t 16) (.seq (.reg 16 [⟨none, (some 4), (.mv (.c (.bool true)))⟩] false []) .ret) .skip)) (.seq (.reg 102 [⟨none, (some 18), (.load (some 2) (.t 2))⟩, ⟨none, (some 19), (.call 41 [(.t 18)])⟩, ⟨none, (some 20), (.call 40 [(.t 19)])⟩, ⟨none, (some 17), (.mv (.t 20))⟩, ⟨none, (some 21), (.extract (.t 17) 0)⟩, ⟨none, (some 22), (.extract (.t 17) 1)⟩, ⟨none, (some 5), (.alloc 33 2 (.agg [(.int .i64 0), (.int .i64 0)]))⟩, ⟨none, none, (.store 2 (.t 5) (.t 21))⟩, ⟨none, (some 6), (.mv (.t 22))⟩] false []) (.seq (.reg 486 [⟨none, (some 24), (.load (some 2) (.t 2))⟩, ⟨none, (some 25), (.call 41 [(.t 24)])⟩, ⟨none, (some 26), (.mv (.t 1))⟩, ⟨none, (some 27), (.call 42 [(.t 25), (.t 26)])⟩, ⟨none, (some 23), (.mv (.t 27))⟩, ⟨none, (some 28), (.extract (.t 23) 0)⟩, ⟨none, (some 29), (.extract (.t 23) 1)⟩, ⟨none, (some 7), (.mv (.t 28))⟩, ⟨none, (some 8), (.mv (.t 29))⟩] false []) (.seq (.seq (.reg 998 [⟨none, (some 30), (.load (some 2) (.t 2))⟩, ⟨none, (some 31), (.call 43 [(.t 30)])⟩, ⟨none, (some 9), (.mv (.t 31))⟩] false []) (.seq (.reg 8589935590 [⟨none, (some 32), (.mv (.t 9))⟩, ⟨none, (some 33), (.bin .neq (.t 32) (.c (.int .i64 0)))⟩] false []) (.cond (.t 33) (.seq (.reg 16 [⟨none, (some 34), (.mv (.t 6))⟩, ⟨none, (some 35), (.mv (.t 9))⟩, ⟨none, (some 36), (.bin .eql (.t 34) (.t 35))⟩, ⟨none, (some 37), (.mv (.t 36))⟩, ⟨(some (37, true)), (some 38), (.load (some 2) (.t 5))⟩, ⟨(some (37, true)), (some 39), (.build [(.int .i64 0), (.int .i64 0)] [])⟩, ⟨(some (37, true)), (some 40), (.eqS false [1, 1] (.t 38) (.t 39))⟩, ⟨none, (some 41), (.pick (.t 37) (.t 40) (.c (.bool false)))⟩, ⟨none, (some 42), (.mv (.t 41))⟩, ⟨(some (42, true)), (some 43), (.mv (.t 8))⟩, ⟨(some (42, true)), (some 44), (.mv (.t 9))⟩, ⟨(some (42, true)), (some 45), (.bin .eql (.t 43) (.t 44))⟩, ⟨none, (some 46), (.pick (.t 42) (.t 45) (.c (.bool false)))⟩, ⟨none, (some 47), (.mv (.t 46))⟩, ⟨(some (47, true)), (some 48), (.mv (.t 7))⟩, ⟨(some (47, true)), (some 49), (.len false (.t 48))⟩, ⟨(some (47, true)), (some 50), (.bin .eql (.t 49) (.c (.int .i64 0)))⟩, ⟨none, (some 51), (.pick (.t 47) (.t 50) (.c (.bool false)))⟩, ⟨none, (some 4), (.mv (.t 51))⟩] false []) .ret) .skip))) (.seq (.reg 1510 [⟨none, (some 52), (.fieldAddr (.t 2) 1)⟩, ⟨none, (some 53), (.load none (.t 52))⟩, ⟨none, (some 54), (.call 44 [(.t 53)])⟩, ⟨none, (some 55), (.fieldAddr (.t 2) 0)⟩, ⟨none, (some 56), (.load none (.t 55))⟩, ⟨none, (some 57), (.call 21 [(.t 54), (.t 56)])⟩, ⟨none, (some 10), (.alloc 33 2 (.agg [(.int .i64 0), (.int .i64 0)]))⟩, ⟨none, none, (.store 2 (.t 10) (.t 57))⟩] true [(⟨none, (some 52), (.fieldAddr (.t 2) 1)⟩, ⟨none, (some 10), (.alloc 33 2 (.agg [(.int .i64 0), (.int .i64 0)]))⟩), (⟨none, (some 53), (.load none (.t 52))⟩, ⟨none, (some 10), (.alloc 33 2 (.agg [(.int .i64 0), (.int .i64 0)]))⟩), (⟨none, (some 54), (.call 44 [(.t 53)])⟩, ⟨none, (some 10), (.alloc 33 2 (.agg [(.int .i64 0), (.int .i64 0)]))⟩), (⟨none, (some 55), (.fieldAddr (.t 2) 0)⟩, ⟨none, (some 10), (.alloc 33 2 (.agg [(.int .i64 0), (.int .i64 0)]))⟩), (⟨none, (some 56), (.load none (.t 55))⟩, ⟨none, (some 10), (.alloc 33 2 (.agg [(.int .i64 0), (.int .i64 0)]))⟩), (⟨none, (some 57), (.call 21 [(.t 54), (.t 56)])⟩, ⟨none, (some 10), (.alloc 33 2 (.agg [(.int .i64 0), (.int .i64 0)]))⟩)]) (.seq (.seq (.reg 4835703278458516698825094 [⟨none, (some 58), (.load (some 2) (.t 10))⟩, ⟨none, (some 59), (.call 20 [(.t 58)])⟩, ⟨none, (some 60), (.mv (.t 59))⟩, ⟨(some (60, true)), (some 61), (.mv (.t 6))⟩, ⟨(some (60, true)), (some 62), (.bin .neq (.t 61) (.c (.int .i64 0)))⟩, ⟨(some (60, true)), (some 63), (.mv (.t 62))⟩, ⟨(some (63, false)), (some 64), (.load (some 2) (.t 5))⟩, ⟨(some (63, false)), (some 65), (.load (some 2) (.t 10))⟩, ⟨(some (63, false)), (some 66), (.eqS true [1, 1] (.t 64) (.t 65))⟩, ⟨(some (60, true)), (some 67), (.pick (.t 63) (.c (.bool true)) (.t 66))⟩, ⟨none, (some 68), (.pick (.t 60) (.t 67) (.c (.bool false)))⟩, ⟨none, (some 69), (.mv (.t 68))⟩, ⟨(some (69, false)), (some 70), (.load (some 2) (.t 10))⟩, ⟨(some (69, false)), (some 71), (.call 20 [(.t 70)])⟩, ⟨(some (69, false)), (some 72), (.un .not (.t 71))⟩, ⟨(some (69, false)), (some 73), (.mv (.t 72))⟩, ⟨(some (73, true)), (some 74), (.mv (.t 6))⟩, ⟨(some (73, true)), (some 75), (.bin .neq (.t 74) (.c (.int .i64 8)))⟩, ⟨(some (73, true)), (some 76), (.mv (.t 75))⟩, ⟨(some (76, false)), (some 77), (.load (some 2) (.t 5))⟩, ⟨(some (76, false)), (some 78), (.build [(.int .i64 0), (.int .i64 0)] [])⟩, ⟨(some (76, false)), (some 79), (.eqS true [1, 1] (.t 77) (.t 78))⟩, ⟨(some (73, true)), (some 80), (.pick (.t 76) (.c (.bool true)) (.t 79))⟩, ⟨(some (69, false)), (some 81), (.pick (.t 73) (.t 80) (.c (.bool false)))⟩, ⟨none, (some 82), (.pick (.t 69) (.c (.bool true)) (.t 81))⟩] false []) (.cond (.t 82) (.seq (.reg 16 [⟨none, (some 4), (.mv (.c (.bool false)))⟩] false []) .ret) .skip)) (.seq (.seq (.reg 38685626227668133590598022 [⟨none, (some 83), (.mv (.t 1))⟩, ⟨none, (some 84), (.call 13 [(.t 83), (.c (.int .i64 1)), (.c (.int .i64 1000))])⟩, ⟨none, (some 85), (.un .not (.t 84))⟩] false []) (.cond (.t 85) (.seq (.reg 16 [⟨none, (some 86), (.mv (.t 8))⟩, ⟨none, (some 87), (.bin .eql (.t 86) (.c (.int .i64 2)))⟩, ⟨none, (some 88), (.mv (.t 87))⟩, ⟨(some (88, true)), (some 89), (.mv (.t 7))⟩, ⟨(some (88, true)), (some 90), (.len false (.t 89))⟩, ⟨(some (88, true)), (some 91), (.bin .eql (.t 90) (.c (.int .i64 0)))⟩, ⟨none, (some 92), (.pick (.t 88) (.t 91) (.c (.bool false)))⟩, ⟨none, (some 4), (.mv (.t 92))⟩] false []) .ret) .skip)) (.seq (.reg 16 [⟨none, (some 93), (.mv (.t 8))⟩, ⟨none, (some 94), (.bin .eql (.t 93) (.c (.int .i64 0)))⟩, ⟨none, (some 95), (.mv (.t 94))⟩, ⟨(some (95, true)), (some 96), (.mv (.t 7))⟩, ⟨(some (95, true)), (some 97), (.load (some 2) (.t 2))⟩, ⟨(some (95, true)), (some 98), (.mv (.t 1))⟩, ⟨(some (95, true)), (some 99), (.call 45 [(.t 97), (.t 98)])⟩, ⟨(some (95, true)), (some 100), (.call 27 [(.t 96), (.t 99)])⟩, ⟨none, (some 101), (.pick (.t 95) (.t 100) (.c (.bool false)))⟩, ⟨none, (some 4), (.mv (.t 101))⟩] false []) .ret))))))))))
theorem e_law02_PulseCharges : cl_law02_PulseCharges.er = c_law02_PulseCharges := rfl
end Go.Proofs.YtddiingfddlaaaaDoor

/- The law PulseCharges: it answers true. By an AI agent; nothing here is trusted. -/
namespace Go.Proofs.YtddiingfddlaaaaDoor
open Go.Av

theorem photL_len (den single : Int) (parts : List Int) : (photL den single parts).length = parts.length := by unfold photL; rw [List.length_map]
theorem PulseCharges_s (den single : Int) (parts : List Int) : Sound Tryd.prog 8 [.agg [.int .i64 den, .sl (ints parts)], .int .i64 single] (.bool true) := by
  refine sound_WL f_law02_PulseCharges e_law02_PulseCharges (Nat.le_of_ble_eq_true rfl) ?_
  simp only [cl_law02_PulseCharges, vcV, vcD, Int.reduceEq, Int.reduceNe, Int.reduceLT, Int.reduceLE, Nat.reduceEqDiff, Nat.reduceAdd, reduceIte, reduceCtorEq, Nat.reduceLT, Nat.reduceLeDiff, eq_self, Option.bind_some, Option.map_some, List.map_cons, List.map_nil, List.length_cons, List.length_nil, Option.getD_some, Option.getD_none, List.all_cons, List.all_nil, List.set_cons_zero, List.set_cons_succ, List.replicate_succ, List.replicate_zero, List.getElem?_cons_zero, List.getElem?_cons_succ, List.drop_succ_cons, List.drop_zero, List.take_succ_cons, List.take_zero, List.map_append, List.nil_append, List.cons_append, Nat.reduceShiftRight, Nat.reduceMod]
  refine callS_of awake_s ?_
  simp only [vcV, vcD, Int.reduceEq, Int.reduceNe, Int.reduceLT, Int.reduceLE, Nat.reduceEqDiff, Nat.reduceAdd, reduceIte, reduceCtorEq, Nat.reduceLT, Nat.reduceLeDiff, eq_self, Option.bind_some, Option.map_some, List.map_cons, List.map_nil, List.length_cons, List.length_nil, Option.getD_some, Option.getD_none, List.all_cons, List.all_nil, List.set_cons_zero, List.set_cons_succ, List.replicate_succ, List.replicate_zero, List.getElem?_cons_zero, List.getElem?_cons_succ, List.drop_succ_cons, List.drop_zero, List.take_succ_cons, List.take_zero, List.map_append, List.nil_append, List.cons_append, Nat.reduceShiftRight, Nat.reduceMod]
  by_cases hl : 8 < parts.length
  · have hl' : (8 : Int) < parts.length := by omega
    simp only [hl', vcV, vcD, Int.reduceEq, Int.reduceNe, Int.reduceLT, Int.reduceLE, Nat.reduceEqDiff, Nat.reduceAdd, reduceIte, reduceCtorEq, Nat.reduceLT, Nat.reduceLeDiff, eq_self, Option.bind_some, Option.map_some, List.map_cons, List.map_nil, List.length_cons, List.length_nil, Option.getD_some, Option.getD_none, List.all_cons, List.all_nil, List.set_cons_zero, List.set_cons_succ, List.replicate_succ, List.replicate_zero, List.getElem?_cons_zero, List.getElem?_cons_succ, List.drop_succ_cons, List.drop_zero, List.take_succ_cons, List.take_zero, List.map_append, List.nil_append, List.cons_append, Nat.reduceShiftRight, Nat.reduceMod]
  have hl' : ¬ (8 : Int) < parts.length := by omega
  have hC := CopyFit_s den parts (by omega)
  have hQ := ChargeOf_s den parts (by omega)
  have hP := PhotonsOf_s den single parts (by omega)
  have hF := FitErr_s den parts (by omega)
  unfold fitA at hC hQ hP hF
  simp only [hl', vcV, vcD, Int.reduceEq, Int.reduceNe, Int.reduceLT, Int.reduceLE, Nat.reduceEqDiff, Nat.reduceAdd, reduceIte, reduceCtorEq, Nat.reduceLT, Nat.reduceLeDiff, eq_self, Option.bind_some, Option.map_some, List.map_cons, List.map_nil, List.length_cons, List.length_nil, Option.getD_some, Option.getD_none, List.all_cons, List.all_nil, List.set_cons_zero, List.set_cons_succ, List.replicate_succ, List.replicate_zero, List.getElem?_cons_zero, List.getElem?_cons_succ, List.drop_succ_cons, List.drop_zero, List.take_succ_cons, List.take_zero, List.map_append, List.nil_append, List.cons_append, Nat.reduceShiftRight, Nat.reduceMod]
  refine callS_of hC ?_
  simp only [vcV, vcD, Int.reduceEq, Int.reduceNe, Int.reduceLT, Int.reduceLE, Nat.reduceEqDiff, Nat.reduceAdd, reduceIte, reduceCtorEq, Nat.reduceLT, Nat.reduceLeDiff, eq_self, Option.bind_some, Option.map_some, List.map_cons, List.map_nil, List.length_cons, List.length_nil, Option.getD_some, Option.getD_none, List.all_cons, List.all_nil, List.set_cons_zero, List.set_cons_succ, List.replicate_succ, List.replicate_zero, List.getElem?_cons_zero, List.getElem?_cons_succ, List.drop_succ_cons, List.drop_zero, List.take_succ_cons, List.take_zero, List.map_append, List.nil_append, List.cons_append, Nat.reduceShiftRight, Nat.reduceMod]
  refine callS_of hQ ?_
  unfold chgA
  by_cases hE : fE den parts = 0
  · obtain ⟨h1, h2, h3⟩ := fE_ok hE
    obtain ⟨s1, s2⟩ := parts_sum hE
    have hL := Lowest_s parts.sum den (by unfold S63; omega) (by unfold S63; omega) (by omega)
    have hS := IsSmall_s (lowN parts.sum den) (lowD parts.sum den)
    unfold fracA at hS
    have hW := Within_s single 1 1000
    by_cases hs : 1 ≤ single ∧ single ≤ 1000
    · have hpe : phE den single parts = 0 := by unfold phE; rw [if_neg (by simp [hE]), if_pos hs]
      have hpo : phO den single parts = photL den single parts := by unfold phO; rw [if_pos hpe]
      have hPh := Photons_s den single parts hE hs
      have hI := Ints_s (photL den single parts) (photL den single parts) (by rw [photL_len]; omega)
      unfold fitA at hPh
      rw [hpe, hpo] at hP
      cases hsm : smallF (lowN parts.sum den) (lowD parts.sum den) with
      | true =>
        rw [hsm] at hS
        simp only [hE, hsm, fracA, vcV, vcD, Int.reduceEq, Int.reduceNe, Int.reduceLT, Int.reduceLE, Nat.reduceEqDiff, Nat.reduceAdd, reduceIte, reduceCtorEq, Nat.reduceLT, Nat.reduceLeDiff, eq_self, Option.bind_some, Option.map_some, List.map_cons, List.map_nil, List.length_cons, List.length_nil, Option.getD_some, Option.getD_none, List.all_cons, List.all_nil, List.set_cons_zero, List.set_cons_succ, List.replicate_succ, List.replicate_zero, List.getElem?_cons_zero, List.getElem?_cons_succ, List.drop_succ_cons, List.drop_zero, List.take_succ_cons, List.take_zero, List.map_append, List.nil_append, List.cons_append, Nat.reduceShiftRight, Nat.reduceMod]
        refine callS_of hC ?_
        simp only [vcV, vcD, Int.reduceEq, Int.reduceNe, Int.reduceLT, Int.reduceLE, Nat.reduceEqDiff, Nat.reduceAdd, reduceIte, reduceCtorEq, Nat.reduceLT, Nat.reduceLeDiff, eq_self, Option.bind_some, Option.map_some, List.map_cons, List.map_nil, List.length_cons, List.length_nil, Option.getD_some, Option.getD_none, List.all_cons, List.all_nil, List.set_cons_zero, List.set_cons_succ, List.replicate_succ, List.replicate_zero, List.getElem?_cons_zero, List.getElem?_cons_succ, List.drop_succ_cons, List.drop_zero, List.take_succ_cons, List.take_zero, List.map_append, List.nil_append, List.cons_append, Nat.reduceShiftRight, Nat.reduceMod]
        refine callS_of hP ?_
        simp only [vcV, vcD, Int.reduceEq, Int.reduceNe, Int.reduceLT, Int.reduceLE, Nat.reduceEqDiff, Nat.reduceAdd, reduceIte, reduceCtorEq, Nat.reduceLT, Nat.reduceLeDiff, eq_self, Option.bind_some, Option.map_some, List.map_cons, List.map_nil, List.length_cons, List.length_nil, Option.getD_some, Option.getD_none, List.all_cons, List.all_nil, List.set_cons_zero, List.set_cons_succ, List.replicate_succ, List.replicate_zero, List.getElem?_cons_zero, List.getElem?_cons_succ, List.drop_succ_cons, List.drop_zero, List.take_succ_cons, List.take_zero, List.map_append, List.nil_append, List.cons_append, Nat.reduceShiftRight, Nat.reduceMod]
        refine callS_of hF ?_
        simp only [hE, vcV, vcD, Int.reduceEq, Int.reduceNe, Int.reduceLT, Int.reduceLE, Nat.reduceEqDiff, Nat.reduceAdd, reduceIte, reduceCtorEq, Nat.reduceLT, Nat.reduceLeDiff, eq_self, Option.bind_some, Option.map_some, List.map_cons, List.map_nil, List.length_cons, List.length_nil, Option.getD_some, Option.getD_none, List.all_cons, List.all_nil, List.set_cons_zero, List.set_cons_succ, List.replicate_succ, List.replicate_zero, List.getElem?_cons_zero, List.getElem?_cons_succ, List.drop_succ_cons, List.drop_zero, List.take_succ_cons, List.take_zero, List.map_append, List.nil_append, List.cons_append, Nat.reduceShiftRight, Nat.reduceMod]
        refine callS_of (Sum_s parts (by omega) s2) ?_
        simp only [vcV, vcD, Int.reduceEq, Int.reduceNe, Int.reduceLT, Int.reduceLE, Nat.reduceEqDiff, Nat.reduceAdd, reduceIte, reduceCtorEq, Nat.reduceLT, Nat.reduceLeDiff, eq_self, Option.bind_some, Option.map_some, List.map_cons, List.map_nil, List.length_cons, List.length_nil, Option.getD_some, Option.getD_none, List.all_cons, List.all_nil, List.set_cons_zero, List.set_cons_succ, List.replicate_succ, List.replicate_zero, List.getElem?_cons_zero, List.getElem?_cons_succ, List.drop_succ_cons, List.drop_zero, List.take_succ_cons, List.take_zero, List.map_append, List.nil_append, List.cons_append, Nat.reduceShiftRight, Nat.reduceMod]
        refine callS_of hL ?_
        simp only [fracA, vcV, vcD, Int.reduceEq, Int.reduceNe, Int.reduceLT, Int.reduceLE, Nat.reduceEqDiff, Nat.reduceAdd, reduceIte, reduceCtorEq, Nat.reduceLT, Nat.reduceLeDiff, eq_self, Option.bind_some, Option.map_some, List.map_cons, List.map_nil, List.length_cons, List.length_nil, Option.getD_some, Option.getD_none, List.all_cons, List.all_nil, List.set_cons_zero, List.set_cons_succ, List.replicate_succ, List.replicate_zero, List.getElem?_cons_zero, List.getElem?_cons_succ, List.drop_succ_cons, List.drop_zero, List.take_succ_cons, List.take_zero, List.map_append, List.nil_append, List.cons_append, Nat.reduceShiftRight, Nat.reduceMod]
        refine callS_of hS ?_
        simp only [vcV, vcD, Int.reduceEq, Int.reduceNe, Int.reduceLT, Int.reduceLE, Nat.reduceEqDiff, Nat.reduceAdd, reduceIte, reduceCtorEq, Nat.reduceLT, Nat.reduceLeDiff, eq_self, Option.bind_some, Option.map_some, List.map_cons, List.map_nil, List.length_cons, List.length_nil, Option.getD_some, Option.getD_none, List.all_cons, List.all_nil, List.set_cons_zero, List.set_cons_succ, List.replicate_succ, List.replicate_zero, List.getElem?_cons_zero, List.getElem?_cons_succ, List.drop_succ_cons, List.drop_zero, List.take_succ_cons, List.take_zero, List.map_append, List.nil_append, List.cons_append, Nat.reduceShiftRight, Nat.reduceMod]
        refine callS_of hS ?_
        simp only [vcV, vcD, Int.reduceEq, Int.reduceNe, Int.reduceLT, Int.reduceLE, Nat.reduceEqDiff, Nat.reduceAdd, reduceIte, reduceCtorEq, Nat.reduceLT, Nat.reduceLeDiff, eq_self, Option.bind_some, Option.map_some, List.map_cons, List.map_nil, List.length_cons, List.length_nil, Option.getD_some, Option.getD_none, List.all_cons, List.all_nil, List.set_cons_zero, List.set_cons_succ, List.replicate_succ, List.replicate_zero, List.getElem?_cons_zero, List.getElem?_cons_succ, List.drop_succ_cons, List.drop_zero, List.take_succ_cons, List.take_zero, List.map_append, List.nil_append, List.cons_append, Nat.reduceShiftRight, Nat.reduceMod]
        refine callS_of hW ?_
        simp only [hs, vcV, vcD, Int.reduceEq, Int.reduceNe, Int.reduceLT, Int.reduceLE, Nat.reduceEqDiff, Nat.reduceAdd, reduceIte, reduceCtorEq, Nat.reduceLT, Nat.reduceLeDiff, eq_self, Option.bind_some, Option.map_some, List.map_cons, List.map_nil, List.length_cons, List.length_nil, Option.getD_some, Option.getD_none, List.all_cons, List.all_nil, List.set_cons_zero, List.set_cons_succ, List.replicate_succ, List.replicate_zero, List.getElem?_cons_zero, List.getElem?_cons_succ, List.drop_succ_cons, List.drop_zero, List.take_succ_cons, List.take_zero, List.map_append, List.nil_append, List.cons_append, Nat.reduceShiftRight, Nat.reduceMod]
        refine callS_of hPh ?_
        simp only [vcV, vcD, Int.reduceEq, Int.reduceNe, Int.reduceLT, Int.reduceLE, Nat.reduceEqDiff, Nat.reduceAdd, reduceIte, reduceCtorEq, Nat.reduceLT, Nat.reduceLeDiff, eq_self, Option.bind_some, Option.map_some, List.map_cons, List.map_nil, List.length_cons, List.length_nil, Option.getD_some, Option.getD_none, List.all_cons, List.all_nil, List.set_cons_zero, List.set_cons_succ, List.replicate_succ, List.replicate_zero, List.getElem?_cons_zero, List.getElem?_cons_succ, List.drop_succ_cons, List.drop_zero, List.take_succ_cons, List.take_zero, List.map_append, List.nil_append, List.cons_append, Nat.reduceShiftRight, Nat.reduceMod]
        refine callS_of hI ?_
        simp only [vcV, vcD, Int.reduceEq, Int.reduceNe, Int.reduceLT, Int.reduceLE, Nat.reduceEqDiff, Nat.reduceAdd, reduceIte, reduceCtorEq, Nat.reduceLT, Nat.reduceLeDiff, eq_self, Option.bind_some, Option.map_some, List.map_cons, List.map_nil, List.length_cons, List.length_nil, Option.getD_some, Option.getD_none, List.all_cons, List.all_nil, List.set_cons_zero, List.set_cons_succ, List.replicate_succ, List.replicate_zero, List.getElem?_cons_zero, List.getElem?_cons_succ, List.drop_succ_cons, List.drop_zero, List.take_succ_cons, List.take_zero, List.map_append, List.nil_append, List.cons_append, Nat.reduceShiftRight, Nat.reduceMod]
      | false =>
        rw [hsm] at hS
        simp only [hE, hsm, fracA, vcV, vcD, Int.reduceEq, Int.reduceNe, Int.reduceLT, Int.reduceLE, Nat.reduceEqDiff, Nat.reduceAdd, reduceIte, reduceCtorEq, Nat.reduceLT, Nat.reduceLeDiff, eq_self, Option.bind_some, Option.map_some, List.map_cons, List.map_nil, List.length_cons, List.length_nil, Option.getD_some, Option.getD_none, List.all_cons, List.all_nil, List.set_cons_zero, List.set_cons_succ, List.replicate_succ, List.replicate_zero, List.getElem?_cons_zero, List.getElem?_cons_succ, List.drop_succ_cons, List.drop_zero, List.take_succ_cons, List.take_zero, List.map_append, List.nil_append, List.cons_append, Nat.reduceShiftRight, Nat.reduceMod]
        refine callS_of hC ?_
        simp only [vcV, vcD, Int.reduceEq, Int.reduceNe, Int.reduceLT, Int.reduceLE, Nat.reduceEqDiff, Nat.reduceAdd, reduceIte, reduceCtorEq, Nat.reduceLT, Nat.reduceLeDiff, eq_self, Option.bind_some, Option.map_some, List.map_cons, List.map_nil, List.length_cons, List.length_nil, Option.getD_some, Option.getD_none, List.all_cons, List.all_nil, List.set_cons_zero, List.set_cons_succ, List.replicate_succ, List.replicate_zero, List.getElem?_cons_zero, List.getElem?_cons_succ, List.drop_succ_cons, List.drop_zero, List.take_succ_cons, List.take_zero, List.map_append, List.nil_append, List.cons_append, Nat.reduceShiftRight, Nat.reduceMod]
        refine callS_of hP ?_
        simp only [vcV, vcD, Int.reduceEq, Int.reduceNe, Int.reduceLT, Int.reduceLE, Nat.reduceEqDiff, Nat.reduceAdd, reduceIte, reduceCtorEq, Nat.reduceLT, Nat.reduceLeDiff, eq_self, Option.bind_some, Option.map_some, List.map_cons, List.map_nil, List.length_cons, List.length_nil, Option.getD_some, Option.getD_none, List.all_cons, List.all_nil, List.set_cons_zero, List.set_cons_succ, List.replicate_succ, List.replicate_zero, List.getElem?_cons_zero, List.getElem?_cons_succ, List.drop_succ_cons, List.drop_zero, List.take_succ_cons, List.take_zero, List.map_append, List.nil_append, List.cons_append, Nat.reduceShiftRight, Nat.reduceMod]
        refine callS_of hF ?_
        simp only [hE, vcV, vcD, Int.reduceEq, Int.reduceNe, Int.reduceLT, Int.reduceLE, Nat.reduceEqDiff, Nat.reduceAdd, reduceIte, reduceCtorEq, Nat.reduceLT, Nat.reduceLeDiff, eq_self, Option.bind_some, Option.map_some, List.map_cons, List.map_nil, List.length_cons, List.length_nil, Option.getD_some, Option.getD_none, List.all_cons, List.all_nil, List.set_cons_zero, List.set_cons_succ, List.replicate_succ, List.replicate_zero, List.getElem?_cons_zero, List.getElem?_cons_succ, List.drop_succ_cons, List.drop_zero, List.take_succ_cons, List.take_zero, List.map_append, List.nil_append, List.cons_append, Nat.reduceShiftRight, Nat.reduceMod]
        refine callS_of (Sum_s parts (by omega) s2) ?_
        simp only [vcV, vcD, Int.reduceEq, Int.reduceNe, Int.reduceLT, Int.reduceLE, Nat.reduceEqDiff, Nat.reduceAdd, reduceIte, reduceCtorEq, Nat.reduceLT, Nat.reduceLeDiff, eq_self, Option.bind_some, Option.map_some, List.map_cons, List.map_nil, List.length_cons, List.length_nil, Option.getD_some, Option.getD_none, List.all_cons, List.all_nil, List.set_cons_zero, List.set_cons_succ, List.replicate_succ, List.replicate_zero, List.getElem?_cons_zero, List.getElem?_cons_succ, List.drop_succ_cons, List.drop_zero, List.take_succ_cons, List.take_zero, List.map_append, List.nil_append, List.cons_append, Nat.reduceShiftRight, Nat.reduceMod]
        refine callS_of hL ?_
        simp only [fracA, vcV, vcD, Int.reduceEq, Int.reduceNe, Int.reduceLT, Int.reduceLE, Nat.reduceEqDiff, Nat.reduceAdd, reduceIte, reduceCtorEq, Nat.reduceLT, Nat.reduceLeDiff, eq_self, Option.bind_some, Option.map_some, List.map_cons, List.map_nil, List.length_cons, List.length_nil, Option.getD_some, Option.getD_none, List.all_cons, List.all_nil, List.set_cons_zero, List.set_cons_succ, List.replicate_succ, List.replicate_zero, List.getElem?_cons_zero, List.getElem?_cons_succ, List.drop_succ_cons, List.drop_zero, List.take_succ_cons, List.take_zero, List.map_append, List.nil_append, List.cons_append, Nat.reduceShiftRight, Nat.reduceMod]
        refine callS_of hS ?_
        simp only [vcV, vcD, Int.reduceEq, Int.reduceNe, Int.reduceLT, Int.reduceLE, Nat.reduceEqDiff, Nat.reduceAdd, reduceIte, reduceCtorEq, Nat.reduceLT, Nat.reduceLeDiff, eq_self, Option.bind_some, Option.map_some, List.map_cons, List.map_nil, List.length_cons, List.length_nil, Option.getD_some, Option.getD_none, List.all_cons, List.all_nil, List.set_cons_zero, List.set_cons_succ, List.replicate_succ, List.replicate_zero, List.getElem?_cons_zero, List.getElem?_cons_succ, List.drop_succ_cons, List.drop_zero, List.take_succ_cons, List.take_zero, List.map_append, List.nil_append, List.cons_append, Nat.reduceShiftRight, Nat.reduceMod]
        refine callS_of hS ?_
        simp only [vcV, vcD, Int.reduceEq, Int.reduceNe, Int.reduceLT, Int.reduceLE, Nat.reduceEqDiff, Nat.reduceAdd, reduceIte, reduceCtorEq, Nat.reduceLT, Nat.reduceLeDiff, eq_self, Option.bind_some, Option.map_some, List.map_cons, List.map_nil, List.length_cons, List.length_nil, Option.getD_some, Option.getD_none, List.all_cons, List.all_nil, List.set_cons_zero, List.set_cons_succ, List.replicate_succ, List.replicate_zero, List.getElem?_cons_zero, List.getElem?_cons_succ, List.drop_succ_cons, List.drop_zero, List.take_succ_cons, List.take_zero, List.map_append, List.nil_append, List.cons_append, Nat.reduceShiftRight, Nat.reduceMod]
        refine callS_of hW ?_
        simp only [hs, vcV, vcD, Int.reduceEq, Int.reduceNe, Int.reduceLT, Int.reduceLE, Nat.reduceEqDiff, Nat.reduceAdd, reduceIte, reduceCtorEq, Nat.reduceLT, Nat.reduceLeDiff, eq_self, Option.bind_some, Option.map_some, List.map_cons, List.map_nil, List.length_cons, List.length_nil, Option.getD_some, Option.getD_none, List.all_cons, List.all_nil, List.set_cons_zero, List.set_cons_succ, List.replicate_succ, List.replicate_zero, List.getElem?_cons_zero, List.getElem?_cons_succ, List.drop_succ_cons, List.drop_zero, List.take_succ_cons, List.take_zero, List.map_append, List.nil_append, List.cons_append, Nat.reduceShiftRight, Nat.reduceMod]
        refine callS_of hPh ?_
        simp only [vcV, vcD, Int.reduceEq, Int.reduceNe, Int.reduceLT, Int.reduceLE, Nat.reduceEqDiff, Nat.reduceAdd, reduceIte, reduceCtorEq, Nat.reduceLT, Nat.reduceLeDiff, eq_self, Option.bind_some, Option.map_some, List.map_cons, List.map_nil, List.length_cons, List.length_nil, Option.getD_some, Option.getD_none, List.all_cons, List.all_nil, List.set_cons_zero, List.set_cons_succ, List.replicate_succ, List.replicate_zero, List.getElem?_cons_zero, List.getElem?_cons_succ, List.drop_succ_cons, List.drop_zero, List.take_succ_cons, List.take_zero, List.map_append, List.nil_append, List.cons_append, Nat.reduceShiftRight, Nat.reduceMod]
        refine callS_of hI ?_
        simp only [vcV, vcD, Int.reduceEq, Int.reduceNe, Int.reduceLT, Int.reduceLE, Nat.reduceEqDiff, Nat.reduceAdd, reduceIte, reduceCtorEq, Nat.reduceLT, Nat.reduceLeDiff, eq_self, Option.bind_some, Option.map_some, List.map_cons, List.map_nil, List.length_cons, List.length_nil, Option.getD_some, Option.getD_none, List.all_cons, List.all_nil, List.set_cons_zero, List.set_cons_succ, List.replicate_succ, List.replicate_zero, List.getElem?_cons_zero, List.getElem?_cons_succ, List.drop_succ_cons, List.drop_zero, List.take_succ_cons, List.take_zero, List.map_append, List.nil_append, List.cons_append, Nat.reduceShiftRight, Nat.reduceMod]
    · have hpe : phE den single parts = 2 := by unfold phE; rw [if_neg (by simp [hE]), if_neg hs]
      have hpo : phO den single parts = [] := by unfold phO; rw [if_neg (by rw [hpe]; decide)]
      rw [hpe, hpo] at hP
      have z : ints [] = [] := rfl
      have z0 : ((0 : Nat) : Int) = 0 := rfl
      cases hsm : smallF (lowN parts.sum den) (lowD parts.sum den) with
      | true =>
        rw [hsm] at hS
        simp only [hE, hsm, fracA, vcV, vcD, Int.reduceEq, Int.reduceNe, Int.reduceLT, Int.reduceLE, Nat.reduceEqDiff, Nat.reduceAdd, reduceIte, reduceCtorEq, Nat.reduceLT, Nat.reduceLeDiff, eq_self, Option.bind_some, Option.map_some, List.map_cons, List.map_nil, List.length_cons, List.length_nil, Option.getD_some, Option.getD_none, List.all_cons, List.all_nil, List.set_cons_zero, List.set_cons_succ, List.replicate_succ, List.replicate_zero, List.getElem?_cons_zero, List.getElem?_cons_succ, List.drop_succ_cons, List.drop_zero, List.take_succ_cons, List.take_zero, List.map_append, List.nil_append, List.cons_append, Nat.reduceShiftRight, Nat.reduceMod]
        refine callS_of hC ?_
        simp only [vcV, vcD, Int.reduceEq, Int.reduceNe, Int.reduceLT, Int.reduceLE, Nat.reduceEqDiff, Nat.reduceAdd, reduceIte, reduceCtorEq, Nat.reduceLT, Nat.reduceLeDiff, eq_self, Option.bind_some, Option.map_some, List.map_cons, List.map_nil, List.length_cons, List.length_nil, Option.getD_some, Option.getD_none, List.all_cons, List.all_nil, List.set_cons_zero, List.set_cons_succ, List.replicate_succ, List.replicate_zero, List.getElem?_cons_zero, List.getElem?_cons_succ, List.drop_succ_cons, List.drop_zero, List.take_succ_cons, List.take_zero, List.map_append, List.nil_append, List.cons_append, Nat.reduceShiftRight, Nat.reduceMod]
        refine callS_of hP ?_
        simp only [z, vcV, vcD, Int.reduceEq, Int.reduceNe, Int.reduceLT, Int.reduceLE, Nat.reduceEqDiff, Nat.reduceAdd, reduceIte, reduceCtorEq, Nat.reduceLT, Nat.reduceLeDiff, eq_self, Option.bind_some, Option.map_some, List.map_cons, List.map_nil, List.length_cons, List.length_nil, Option.getD_some, Option.getD_none, List.all_cons, List.all_nil, List.set_cons_zero, List.set_cons_succ, List.replicate_succ, List.replicate_zero, List.getElem?_cons_zero, List.getElem?_cons_succ, List.drop_succ_cons, List.drop_zero, List.take_succ_cons, List.take_zero, List.map_append, List.nil_append, List.cons_append, Nat.reduceShiftRight, Nat.reduceMod]
        refine callS_of hF ?_
        simp only [hE, vcV, vcD, Int.reduceEq, Int.reduceNe, Int.reduceLT, Int.reduceLE, Nat.reduceEqDiff, Nat.reduceAdd, reduceIte, reduceCtorEq, Nat.reduceLT, Nat.reduceLeDiff, eq_self, Option.bind_some, Option.map_some, List.map_cons, List.map_nil, List.length_cons, List.length_nil, Option.getD_some, Option.getD_none, List.all_cons, List.all_nil, List.set_cons_zero, List.set_cons_succ, List.replicate_succ, List.replicate_zero, List.getElem?_cons_zero, List.getElem?_cons_succ, List.drop_succ_cons, List.drop_zero, List.take_succ_cons, List.take_zero, List.map_append, List.nil_append, List.cons_append, Nat.reduceShiftRight, Nat.reduceMod]
        refine callS_of (Sum_s parts (by omega) s2) ?_
        simp only [vcV, vcD, Int.reduceEq, Int.reduceNe, Int.reduceLT, Int.reduceLE, Nat.reduceEqDiff, Nat.reduceAdd, reduceIte, reduceCtorEq, Nat.reduceLT, Nat.reduceLeDiff, eq_self, Option.bind_some, Option.map_some, List.map_cons, List.map_nil, List.length_cons, List.length_nil, Option.getD_some, Option.getD_none, List.all_cons, List.all_nil, List.set_cons_zero, List.set_cons_succ, List.replicate_succ, List.replicate_zero, List.getElem?_cons_zero, List.getElem?_cons_succ, List.drop_succ_cons, List.drop_zero, List.take_succ_cons, List.take_zero, List.map_append, List.nil_append, List.cons_append, Nat.reduceShiftRight, Nat.reduceMod]
        refine callS_of hL ?_
        simp only [fracA, vcV, vcD, Int.reduceEq, Int.reduceNe, Int.reduceLT, Int.reduceLE, Nat.reduceEqDiff, Nat.reduceAdd, reduceIte, reduceCtorEq, Nat.reduceLT, Nat.reduceLeDiff, eq_self, Option.bind_some, Option.map_some, List.map_cons, List.map_nil, List.length_cons, List.length_nil, Option.getD_some, Option.getD_none, List.all_cons, List.all_nil, List.set_cons_zero, List.set_cons_succ, List.replicate_succ, List.replicate_zero, List.getElem?_cons_zero, List.getElem?_cons_succ, List.drop_succ_cons, List.drop_zero, List.take_succ_cons, List.take_zero, List.map_append, List.nil_append, List.cons_append, Nat.reduceShiftRight, Nat.reduceMod]
        refine callS_of hS ?_
        simp only [vcV, vcD, Int.reduceEq, Int.reduceNe, Int.reduceLT, Int.reduceLE, Nat.reduceEqDiff, Nat.reduceAdd, reduceIte, reduceCtorEq, Nat.reduceLT, Nat.reduceLeDiff, eq_self, Option.bind_some, Option.map_some, List.map_cons, List.map_nil, List.length_cons, List.length_nil, Option.getD_some, Option.getD_none, List.all_cons, List.all_nil, List.set_cons_zero, List.set_cons_succ, List.replicate_succ, List.replicate_zero, List.getElem?_cons_zero, List.getElem?_cons_succ, List.drop_succ_cons, List.drop_zero, List.take_succ_cons, List.take_zero, List.map_append, List.nil_append, List.cons_append, Nat.reduceShiftRight, Nat.reduceMod]
        refine callS_of hS ?_
        simp only [vcV, vcD, Int.reduceEq, Int.reduceNe, Int.reduceLT, Int.reduceLE, Nat.reduceEqDiff, Nat.reduceAdd, reduceIte, reduceCtorEq, Nat.reduceLT, Nat.reduceLeDiff, eq_self, Option.bind_some, Option.map_some, List.map_cons, List.map_nil, List.length_cons, List.length_nil, Option.getD_some, Option.getD_none, List.all_cons, List.all_nil, List.set_cons_zero, List.set_cons_succ, List.replicate_succ, List.replicate_zero, List.getElem?_cons_zero, List.getElem?_cons_succ, List.drop_succ_cons, List.drop_zero, List.take_succ_cons, List.take_zero, List.map_append, List.nil_append, List.cons_append, Nat.reduceShiftRight, Nat.reduceMod]
        refine callS_of hW ?_
        simp only [hs, z0, vcV, vcD, Int.reduceEq, Int.reduceNe, Int.reduceLT, Int.reduceLE, Nat.reduceEqDiff, Nat.reduceAdd, reduceIte, reduceCtorEq, Nat.reduceLT, Nat.reduceLeDiff, eq_self, Option.bind_some, Option.map_some, List.map_cons, List.map_nil, List.length_cons, List.length_nil, Option.getD_some, Option.getD_none, List.all_cons, List.all_nil, List.set_cons_zero, List.set_cons_succ, List.replicate_succ, List.replicate_zero, List.getElem?_cons_zero, List.getElem?_cons_succ, List.drop_succ_cons, List.drop_zero, List.take_succ_cons, List.take_zero, List.map_append, List.nil_append, List.cons_append, Nat.reduceShiftRight, Nat.reduceMod]
      | false =>
        rw [hsm] at hS
        simp only [hE, hsm, fracA, vcV, vcD, Int.reduceEq, Int.reduceNe, Int.reduceLT, Int.reduceLE, Nat.reduceEqDiff, Nat.reduceAdd, reduceIte, reduceCtorEq, Nat.reduceLT, Nat.reduceLeDiff, eq_self, Option.bind_some, Option.map_some, List.map_cons, List.map_nil, List.length_cons, List.length_nil, Option.getD_some, Option.getD_none, List.all_cons, List.all_nil, List.set_cons_zero, List.set_cons_succ, List.replicate_succ, List.replicate_zero, List.getElem?_cons_zero, List.getElem?_cons_succ, List.drop_succ_cons, List.drop_zero, List.take_succ_cons, List.take_zero, List.map_append, List.nil_append, List.cons_append, Nat.reduceShiftRight, Nat.reduceMod]
        refine callS_of hC ?_
        simp only [vcV, vcD, Int.reduceEq, Int.reduceNe, Int.reduceLT, Int.reduceLE, Nat.reduceEqDiff, Nat.reduceAdd, reduceIte, reduceCtorEq, Nat.reduceLT, Nat.reduceLeDiff, eq_self, Option.bind_some, Option.map_some, List.map_cons, List.map_nil, List.length_cons, List.length_nil, Option.getD_some, Option.getD_none, List.all_cons, List.all_nil, List.set_cons_zero, List.set_cons_succ, List.replicate_succ, List.replicate_zero, List.getElem?_cons_zero, List.getElem?_cons_succ, List.drop_succ_cons, List.drop_zero, List.take_succ_cons, List.take_zero, List.map_append, List.nil_append, List.cons_append, Nat.reduceShiftRight, Nat.reduceMod]
        refine callS_of hP ?_
        simp only [z, vcV, vcD, Int.reduceEq, Int.reduceNe, Int.reduceLT, Int.reduceLE, Nat.reduceEqDiff, Nat.reduceAdd, reduceIte, reduceCtorEq, Nat.reduceLT, Nat.reduceLeDiff, eq_self, Option.bind_some, Option.map_some, List.map_cons, List.map_nil, List.length_cons, List.length_nil, Option.getD_some, Option.getD_none, List.all_cons, List.all_nil, List.set_cons_zero, List.set_cons_succ, List.replicate_succ, List.replicate_zero, List.getElem?_cons_zero, List.getElem?_cons_succ, List.drop_succ_cons, List.drop_zero, List.take_succ_cons, List.take_zero, List.map_append, List.nil_append, List.cons_append, Nat.reduceShiftRight, Nat.reduceMod]
        refine callS_of hF ?_
        simp only [hE, vcV, vcD, Int.reduceEq, Int.reduceNe, Int.reduceLT, Int.reduceLE, Nat.reduceEqDiff, Nat.reduceAdd, reduceIte, reduceCtorEq, Nat.reduceLT, Nat.reduceLeDiff, eq_self, Option.bind_some, Option.map_some, List.map_cons, List.map_nil, List.length_cons, List.length_nil, Option.getD_some, Option.getD_none, List.all_cons, List.all_nil, List.set_cons_zero, List.set_cons_succ, List.replicate_succ, List.replicate_zero, List.getElem?_cons_zero, List.getElem?_cons_succ, List.drop_succ_cons, List.drop_zero, List.take_succ_cons, List.take_zero, List.map_append, List.nil_append, List.cons_append, Nat.reduceShiftRight, Nat.reduceMod]
        refine callS_of (Sum_s parts (by omega) s2) ?_
        simp only [vcV, vcD, Int.reduceEq, Int.reduceNe, Int.reduceLT, Int.reduceLE, Nat.reduceEqDiff, Nat.reduceAdd, reduceIte, reduceCtorEq, Nat.reduceLT, Nat.reduceLeDiff, eq_self, Option.bind_some, Option.map_some, List.map_cons, List.map_nil, List.length_cons, List.length_nil, Option.getD_some, Option.getD_none, List.all_cons, List.all_nil, List.set_cons_zero, List.set_cons_succ, List.replicate_succ, List.replicate_zero, List.getElem?_cons_zero, List.getElem?_cons_succ, List.drop_succ_cons, List.drop_zero, List.take_succ_cons, List.take_zero, List.map_append, List.nil_append, List.cons_append, Nat.reduceShiftRight, Nat.reduceMod]
        refine callS_of hL ?_
        simp only [fracA, vcV, vcD, Int.reduceEq, Int.reduceNe, Int.reduceLT, Int.reduceLE, Nat.reduceEqDiff, Nat.reduceAdd, reduceIte, reduceCtorEq, Nat.reduceLT, Nat.reduceLeDiff, eq_self, Option.bind_some, Option.map_some, List.map_cons, List.map_nil, List.length_cons, List.length_nil, Option.getD_some, Option.getD_none, List.all_cons, List.all_nil, List.set_cons_zero, List.set_cons_succ, List.replicate_succ, List.replicate_zero, List.getElem?_cons_zero, List.getElem?_cons_succ, List.drop_succ_cons, List.drop_zero, List.take_succ_cons, List.take_zero, List.map_append, List.nil_append, List.cons_append, Nat.reduceShiftRight, Nat.reduceMod]
        refine callS_of hS ?_
        simp only [vcV, vcD, Int.reduceEq, Int.reduceNe, Int.reduceLT, Int.reduceLE, Nat.reduceEqDiff, Nat.reduceAdd, reduceIte, reduceCtorEq, Nat.reduceLT, Nat.reduceLeDiff, eq_self, Option.bind_some, Option.map_some, List.map_cons, List.map_nil, List.length_cons, List.length_nil, Option.getD_some, Option.getD_none, List.all_cons, List.all_nil, List.set_cons_zero, List.set_cons_succ, List.replicate_succ, List.replicate_zero, List.getElem?_cons_zero, List.getElem?_cons_succ, List.drop_succ_cons, List.drop_zero, List.take_succ_cons, List.take_zero, List.map_append, List.nil_append, List.cons_append, Nat.reduceShiftRight, Nat.reduceMod]
        refine callS_of hS ?_
        simp only [vcV, vcD, Int.reduceEq, Int.reduceNe, Int.reduceLT, Int.reduceLE, Nat.reduceEqDiff, Nat.reduceAdd, reduceIte, reduceCtorEq, Nat.reduceLT, Nat.reduceLeDiff, eq_self, Option.bind_some, Option.map_some, List.map_cons, List.map_nil, List.length_cons, List.length_nil, Option.getD_some, Option.getD_none, List.all_cons, List.all_nil, List.set_cons_zero, List.set_cons_succ, List.replicate_succ, List.replicate_zero, List.getElem?_cons_zero, List.getElem?_cons_succ, List.drop_succ_cons, List.drop_zero, List.take_succ_cons, List.take_zero, List.map_append, List.nil_append, List.cons_append, Nat.reduceShiftRight, Nat.reduceMod]
        refine callS_of hW ?_
        simp only [hs, z0, vcV, vcD, Int.reduceEq, Int.reduceNe, Int.reduceLT, Int.reduceLE, Nat.reduceEqDiff, Nat.reduceAdd, reduceIte, reduceCtorEq, Nat.reduceLT, Nat.reduceLeDiff, eq_self, Option.bind_some, Option.map_some, List.map_cons, List.map_nil, List.length_cons, List.length_nil, Option.getD_some, Option.getD_none, List.all_cons, List.all_nil, List.set_cons_zero, List.set_cons_succ, List.replicate_succ, List.replicate_zero, List.getElem?_cons_zero, List.getElem?_cons_succ, List.drop_succ_cons, List.drop_zero, List.take_succ_cons, List.take_zero, List.map_append, List.nil_append, List.cons_append, Nat.reduceShiftRight, Nat.reduceMod]
  · have hpe : phE den single parts = fE den parts := by unfold phE; rw [if_pos hE]
    have hpo : phO den single parts = [] := by unfold phO; rw [if_neg (by rw [hpe]; exact hE)]
    rw [hpe, hpo] at hP
    have z : ints [] = [] := rfl
    have z0 : ((0 : Nat) : Int) = 0 := rfl
    rw [if_neg hE]
    simp only [fracA, vcV, vcD, Int.reduceEq, Int.reduceNe, Int.reduceLT, Int.reduceLE, Nat.reduceEqDiff, Nat.reduceAdd, reduceIte, reduceCtorEq, Nat.reduceLT, Nat.reduceLeDiff, eq_self, Option.bind_some, Option.map_some, List.map_cons, List.map_nil, List.length_cons, List.length_nil, Option.getD_some, Option.getD_none, List.all_cons, List.all_nil, List.set_cons_zero, List.set_cons_succ, List.replicate_succ, List.replicate_zero, List.getElem?_cons_zero, List.getElem?_cons_succ, List.drop_succ_cons, List.drop_zero, List.take_succ_cons, List.take_zero, List.map_append, List.nil_append, List.cons_append, Nat.reduceShiftRight, Nat.reduceMod]
    refine callS_of hC ?_
    simp only [vcV, vcD, Int.reduceEq, Int.reduceNe, Int.reduceLT, Int.reduceLE, Nat.reduceEqDiff, Nat.reduceAdd, reduceIte, reduceCtorEq, Nat.reduceLT, Nat.reduceLeDiff, eq_self, Option.bind_some, Option.map_some, List.map_cons, List.map_nil, List.length_cons, List.length_nil, Option.getD_some, Option.getD_none, List.all_cons, List.all_nil, List.set_cons_zero, List.set_cons_succ, List.replicate_succ, List.replicate_zero, List.getElem?_cons_zero, List.getElem?_cons_succ, List.drop_succ_cons, List.drop_zero, List.take_succ_cons, List.take_zero, List.map_append, List.nil_append, List.cons_append, Nat.reduceShiftRight, Nat.reduceMod]
    refine callS_of hP ?_
    simp only [z, vcV, vcD, Int.reduceEq, Int.reduceNe, Int.reduceLT, Int.reduceLE, Nat.reduceEqDiff, Nat.reduceAdd, reduceIte, reduceCtorEq, Nat.reduceLT, Nat.reduceLeDiff, eq_self, Option.bind_some, Option.map_some, List.map_cons, List.map_nil, List.length_cons, List.length_nil, Option.getD_some, Option.getD_none, List.all_cons, List.all_nil, List.set_cons_zero, List.set_cons_succ, List.replicate_succ, List.replicate_zero, List.getElem?_cons_zero, List.getElem?_cons_succ, List.drop_succ_cons, List.drop_zero, List.take_succ_cons, List.take_zero, List.map_append, List.nil_append, List.cons_append, Nat.reduceShiftRight, Nat.reduceMod]
    refine callS_of hF ?_
    simp only [hE, z0, vcV, vcD, Int.reduceEq, Int.reduceNe, Int.reduceLT, Int.reduceLE, Nat.reduceEqDiff, Nat.reduceAdd, reduceIte, reduceCtorEq, Nat.reduceLT, Nat.reduceLeDiff, eq_self, Option.bind_some, Option.map_some, List.map_cons, List.map_nil, List.length_cons, List.length_nil, Option.getD_some, Option.getD_none, List.all_cons, List.all_nil, List.set_cons_zero, List.set_cons_succ, List.replicate_succ, List.replicate_zero, List.getElem?_cons_zero, List.getElem?_cons_succ, List.drop_succ_cons, List.drop_zero, List.take_succ_cons, List.take_zero, List.map_append, List.nil_append, List.cons_append, Nat.reduceShiftRight, Nat.reduceMod]
end Go.Proofs.YtddiingfddlaaaaDoor

