/- The tables of the library, as the rows say that they lie: what the layer wants of them. By an AI agent; nothing here is trusted. -/
import Derived.Test.YtddiingfddlaaaaDoorRows
import Derived.Test.YtddiingfddlaaaaDoorLayC
import Derived.Test.YtddiingfddlaaaaDoorKode
import Derived.ProofKit
import Derived.LaidMore
import Derived.OpenShut
import Derived.Stop.Joined
import Derived.Shelf.Slices.Clone
import Derived.Shelf.Spec.BitsCarry
set_option linter.defProp false
set_option linter.unusedSimpArgs false
set_option linter.unusedVariables false
namespace Go.Proofs.YtddiingfddlaaaaDoor
open Go.ChangeShapes Go.WideShapes Go.ChangeAt Go.RowKit
open Go.Av

def laidP : List (String × DataW Unit) := [("math/bits.deBruijn32tab", Rows.laid_math_bits_deBruijn32tab), ("math/bits.deBruijn64tab", Rows.laid_math_bits_deBruijn64tab), ("internal/strconv.uint64pow10", Rows.laid_internal_strconv_uint64pow10)]

theorem ownKn : ownKnob Tryd.prog.godebug = none := by kernel_rfl
set_option maxRecDepth 100000 in
/-- The door's own heap meets the condition. -/
theorem door_met (os : Os) (args : Array Value) : laidMetH Tryd.prog laidP ((World.doorLaid Tryd.prog 2000 os).forCall (fun _ _ => 0) ⟨#[], args, []⟩).memory :=
  laidMetH_of_parts3 (fuel := 8) (laidMet_of_run' 8 (by kernel_rfl) (by kernel_rfl)) (by kernel_rfl) (by kernel_rfl)

/-- A table that reads so holds so. -/
theorem tab_cells {W : World} {g : Nat} {name : String} {t e : TypeId} {n f : Nat} {k : IntKind} {cs : Array Value} {ns : List Int} {p : List MemPlace} {H : Type} {enc : TypeId × Value → H} {sp : Nat → Bool} {held : Bool} (hg : Tryd.prog.globalNamed name = some g)
    (hv : W.var? Tryd.prog name = some cs) (ht : Tryd.prog.underlying t = some (.array n e)) (he : Tryd.prog.underlying e = some (.int k)) (hc : Tryd.prog.cellsOf e = 1) (hn : ns.length = n) (hpos : 0 < n)
    (hd : DataW.trod enc Tryd.prog W 0 sp held f t cs.toList = some (.agg (ns.map fun m => .lit (.int k m)), p)) :
    g < W.heap.size ∧ ∃ cur ty fr, W.heap[g]? = some (.cells cur ty fr) ∧ ∀ (j : Nat) (m : Int), ns[j]? = some m → cur[j]? = some (.int k m) := by
  obtain ⟨xs, m1, rfl, hx1, _, hlen, hel⟩ := DataW.trod_array ht hd
  simp only [Prod.mk.injEq, DataW.agg.injEq] at hx1
  have key : ∀ (j : Nat) (m : Int), ns[j]? = some m → cs[j]? = some (.int k m) := by
    intro j m hj
    have hjn : j < n := by rw [← hn]; exact (List.getElem?_eq_some_iff.1 hj).1
    have h1 := hel j hjn
    rw [hc, Nat.mul_one] at h1
    obtain ⟨x, hx⟩ : ∃ x, xs[j]? = some x := ⟨xs[j]'(by omega), List.getElem?_eq_getElem (by omega)⟩
    rw [hx] at h1
    obtain ⟨q, e1, e2, _⟩ := DataW.trod_int he h1
    have h2 : (xs.map (·.1))[j]? = some (.lit (.int k q)) := by rw [List.getElem?_map, hx, e2]; rfl
    rw [← hx1.1, List.getElem?_map, hj] at h2
    simp only [Option.map_some, Option.some.injEq, DataW.lit.injEq, Lit.int.injEq, true_and] at h2
    subst h2
    have h3 : ((cs.toList.drop j).take 1)[0]? = some (.int k m) := by rw [e1]; rfl
    rw [List.getElem?_take, if_pos (by omega), List.getElem?_drop] at h3
    simpa using h3
  have h0 : ∃ m, ns[0]? = some m := ⟨ns[0]'(by omega), List.getElem?_eq_getElem (by omega)⟩
  obtain ⟨m0, hm0⟩ := h0
  have hcell := World.var?_cell hg hv
  have hb : ∃ cur ty fr, W.heap[g]? = some (.cells cur ty fr) := by
    have := (hcell 0).trans (key 0 m0 hm0)
    unfold World.cell? at this
    split at this
    · rename_i cur ty fr hb; exact ⟨cur, ty, fr, hb⟩
    · cases this
  obtain ⟨cur, ty, fr, hb⟩ := hb
  refine ⟨(Array.getElem?_eq_some_iff.1 hb).1, cur, ty, fr, hb, fun j m hj => ?_⟩
  have := (hcell j).trans (key j m hj)
  unfold World.cell? at this
  rw [hb] at this
  simpa using this

theorem g32 : Tryd.prog.globalNamed "math/bits.deBruijn32tab" = some 0 := by kernel_rfl
theorem g64 : Tryd.prog.globalNamed "math/bits.deBruijn64tab" = some 1 := by kernel_rfl
theorem g10 : Tryd.prog.globalNamed "internal/strconv.uint64pow10" = some 4 := by kernel_rfl

/-- What the condition gives. -/
theorem of_laid {W : World} (h : laidMetH Tryd.prog laidP W) : GOk (fun b => b < W.heap.size) W := by
  rw [MakeChecks.laidMetH_plain _ _ _ (by kernel_rfl)] at h
  obtain ⟨ps, ⟨n0, t0, cs0, f0, p0, q0, hn0, ht0, hv0, hd0, ⟨n1, t1, cs1, f1, p1, q1, hn1, ht1, hv1, hd1, ⟨n2, t2, cs2, f2, p2, q2, hn2, ht2, hv2, hd2, _⟩, _⟩, _⟩, _⟩ := h
  obtain rfl := Option.some.inj (g32.symm.trans hn0)
  obtain rfl := Option.some.inj (g64.symm.trans hn1)
  obtain rfl := Option.some.inj (g10.symm.trans hn2)
  obtain rfl := Option.some.inj ((show (Tryd.prog.globals[0]?).map (·.type) = some 146 by kernel_rfl).symm.trans ht0)
  obtain rfl := Option.some.inj ((show (Tryd.prog.globals[1]?).map (·.type) = some 147 by kernel_rfl).symm.trans ht1)
  obtain rfl := Option.some.inj ((show (Tryd.prog.globals[4]?).map (·.type) = some 161 by kernel_rfl).symm.trans ht2)
  have c0 := tab_cells (ns := [0, 1, 28, 2, 29, 14, 24, 3, 30, 22, 20, 15, 25, 17, 4, 8, 31, 27, 13, 23, 21, 19, 16, 7, 26, 12, 18, 6, 11, 5, 10, 9]) hn0 hv0 Tryd.underlying146 Tryd.underlying5 (by kernel_rfl) rfl (by decide) hd0
  have c1 := tab_cells (ns := [0, 1, 56, 2, 57, 49, 28, 3, 61, 58, 42, 50, 38, 29, 17, 4, 62, 47, 59, 36, 45, 43, 51, 22, 53, 39, 33, 30, 24, 18, 12, 5, 63, 55, 48, 27, 60, 41, 37, 16, 46, 35, 44, 21, 52, 32, 23, 11, 54, 26, 40, 15, 34, 20, 31, 10, 25, 14, 19, 9, 13, 8, 7, 6]) hn1 hv1 Tryd.underlying147 Tryd.underlying5 (by kernel_rfl) rfl (by decide) hd1
  have c2 := tab_cells (ns := [1, 10, 100, 1000, 10000, 100000, 1000000, 10000000, 100000000, 1000000000, 10000000000, 100000000000, 1000000000000, 10000000000000, 100000000000000, 1000000000000000, 10000000000000000, 100000000000000000, 1000000000000000000, 10000000000000000000]) hn2 hv2 Tryd.underlying161 Tryd.underlying114 (by kernel_rfl) rfl (by decide) hd2
  intro p hp
  simp only [gTab, List.nil_append, List.mem_append, List.mem_singleton] at hp
  rcases hp with (rfl | rfl) | rfl
  · exact c1
  · exact c0
  · exact c2
end Go.Proofs.YtddiingfddlaaaaDoor

/- Contracts of small functions. By an AI agent; nothing here is trusted. -/
namespace Go.Proofs.YtddiingfddlaaaaDoor
open Go.Av

abbrev i64 (n : Int) : AV := .int .i64 n
theorem within_s (n lo hi : Int) : Sound Tryd.prog 63 [.int .i64 n, .int .i64 lo, .int .i64 hi] (.bool (decide (lo ≤ n ∧ n ≤ hi))) := by
  refine sound_W f_pulse_within (Nat.le_of_ble_eq_true rfl) ?_
  simp only [c_pulse_within, vcC, Int.reduceEq, Int.reduceNe, Int.reduceLT, Int.reduceLE, Nat.reduceEqDiff, Nat.reduceAdd, reduceIte, reduceCtorEq, Nat.reduceLT, Nat.reduceLeDiff, eq_self, Option.bind_some, Option.map_some, List.map_cons, List.map_nil, List.length_cons, List.length_nil, Option.getD_some, Option.getD_none, List.all_cons, List.all_nil, List.set_cons_zero, List.set_cons_succ, List.replicate_succ, List.replicate_zero, List.getElem?_cons_zero, List.getElem?_cons_succ, List.drop_succ_cons, List.drop_zero, List.take_succ_cons, List.take_zero]
  refine brB_split (fun h => ?_) (fun h => ?_) <;> simp only [h, vcC, Int.reduceEq, Int.reduceNe, Int.reduceLT, Int.reduceLE, Nat.reduceEqDiff, Nat.reduceAdd, reduceIte, reduceCtorEq, Nat.reduceLT, Nat.reduceLeDiff, eq_self, Option.bind_some, Option.map_some, List.map_cons, List.map_nil, List.length_cons, List.length_nil, Option.getD_some, Option.getD_none, List.all_cons, List.all_nil, List.set_cons_zero, List.set_cons_succ, List.replicate_succ, List.replicate_zero, List.getElem?_cons_zero, List.getElem?_cons_succ, List.drop_succ_cons, List.drop_zero, List.take_succ_cons, List.take_zero]
  · exact bool_eq (by simp at h; simp [h])
  · simp at h; simp; omega

theorem unless_s (ok : Bool) (e : Int) : Sound Tryd.prog 59 [.bool ok, .int .i64 e] (.int .i64 (if ok then 0 else e)) := by
  refine sound_W f_pulse_unless (Nat.le_of_ble_eq_true rfl) ?_
  simp only [c_pulse_unless, vcC, Int.reduceEq, Int.reduceNe, Int.reduceLT, Int.reduceLE, Nat.reduceEqDiff, Nat.reduceAdd, reduceIte, reduceCtorEq, Nat.reduceLT, Nat.reduceLeDiff, eq_self, Option.bind_some, Option.map_some, List.map_cons, List.map_nil, List.length_cons, List.length_nil, Option.getD_some, Option.getD_none, List.all_cons, List.all_nil, List.set_cons_zero, List.set_cons_succ, List.replicate_succ, List.replicate_zero, List.getElem?_cons_zero, List.getElem?_cons_succ, List.drop_succ_cons, List.drop_zero, List.take_succ_cons, List.take_zero]
  refine brB_split (fun h => ?_) (fun h => ?_) <;> subst h <;> simp only [vcC, Int.reduceEq, Int.reduceNe, Int.reduceLT, Int.reduceLE, Nat.reduceEqDiff, Nat.reduceAdd, reduceIte, reduceCtorEq, Nat.reduceLT, Nat.reduceLeDiff, eq_self, Option.bind_some, Option.map_some, List.map_cons, List.map_nil, List.length_cons, List.length_nil, Option.getD_some, Option.getD_none, List.all_cons, List.all_nil, List.set_cons_zero, List.set_cons_succ, List.replicate_succ, List.replicate_zero, List.getElem?_cons_zero, List.getElem?_cons_succ, List.drop_succ_cons, List.drop_zero, List.take_succ_cons, List.take_zero]

def firstErr (l : List Int) : Int := (l.find? (· ≠ 0)).getD 0

theorem first_s (l : List Int) (hl : l.length < 4000000000000000000) : Sound Tryd.prog 57 [.sl (ints l)] (.int .i64 (firstErr l)) := by
  refine sound_W f_pulse_first (Nat.le_of_ble_eq_true rfl) ?_
  simp only [c_pulse_first, vcC, Int.reduceEq, Int.reduceNe, Int.reduceLT, Int.reduceLE, Nat.reduceEqDiff, Nat.reduceAdd, reduceIte, reduceCtorEq, Nat.reduceLT, Nat.reduceLeDiff, eq_self, Option.bind_some, Option.map_some, List.map_cons, List.map_nil, List.length_cons, List.length_nil, Option.getD_some, Option.getD_none, List.all_cons, List.all_nil, List.set_cons_zero, List.set_cons_succ, List.replicate_succ, List.replicate_zero, List.getElem?_cons_zero, List.getElem?_cons_succ, List.drop_succ_cons, List.drop_zero, List.take_succ_cons, List.take_zero]
  refine W_loop (α := PSigma fun i : Nat => i ≤ l.length ∧ ∀ x ∈ l.take i, x = 0) (fun i => (envOf [(5, .sl (ints l)), (6, .int .i64 l.length), (7, .int .i64 i.1)], noStore)) (fun i => l.length - i.1) ⟨0, by simp⟩ (weakE _ ?_) (fun ⟨i, hi, hn⟩ => ?_)
  · simp only [vcC, Int.reduceEq, Int.reduceNe, Int.reduceLT, Int.reduceLE, Nat.reduceEqDiff, Nat.reduceAdd, reduceIte, reduceCtorEq, Nat.reduceLT, Nat.reduceLeDiff, eq_self, Option.bind_some, Option.map_some, List.map_cons, List.map_nil, List.length_cons, List.length_nil, Option.getD_some, Option.getD_none, List.all_cons, List.all_nil, List.set_cons_zero, List.set_cons_succ, List.replicate_succ, List.replicate_zero, List.getElem?_cons_zero, List.getElem?_cons_succ, List.drop_succ_cons, List.drop_zero, List.take_succ_cons, List.take_zero]; rfl
  · simp only [vcC, Int.reduceEq, Int.reduceNe, Int.reduceLT, Int.reduceLE, Nat.reduceEqDiff, Nat.reduceAdd, reduceIte, reduceCtorEq, Nat.reduceLT, Nat.reduceLeDiff, eq_self, Option.bind_some, Option.map_some, List.map_cons, List.map_nil, List.length_cons, List.length_nil, Option.getD_some, Option.getD_none, List.all_cons, List.all_nil, List.set_cons_zero, List.set_cons_succ, List.replicate_succ, List.replicate_zero, List.getElem?_cons_zero, List.getElem?_cons_succ, List.drop_succ_cons, List.drop_zero, List.take_succ_cons, List.take_zero]
    refine brB_split (fun h => ?_) (fun h => ?_)
    · have h' : i < l.length := by (simp only [decide_eq_true_eq, decide_eq_false_iff_not, Bool.not_true, I64, Bool.not_eq_true', Bool.not_eq_false', bne_iff_ne, beq_iff_eq, ne_eq] at *; omega)
      simp only [ints_get l i h', vcC, Int.reduceEq, Int.reduceNe, Int.reduceLT, Int.reduceLE, Nat.reduceEqDiff, Nat.reduceAdd, reduceIte, reduceCtorEq, Nat.reduceLT, Nat.reduceLeDiff, eq_self, Option.bind_some, Option.map_some, List.map_cons, List.map_nil, List.length_cons, List.length_nil, Option.getD_some, Option.getD_none, List.all_cons, List.all_nil, List.set_cons_zero, List.set_cons_succ, List.replicate_succ, List.replicate_zero, List.getElem?_cons_zero, List.getElem?_cons_succ, List.drop_succ_cons, List.drop_zero, List.take_succ_cons, List.take_zero]
      refine ⟨by omega, ?_⟩
      refine brB_split (fun h => ?_) (fun h => ?_)
      · simp only [vcC, Int.reduceEq, Int.reduceNe, Int.reduceLT, Int.reduceLE, Nat.reduceEqDiff, Nat.reduceAdd, reduceIte, reduceCtorEq, Nat.reduceLT, Nat.reduceLeDiff, eq_self, Option.bind_some, Option.map_some, List.map_cons, List.map_nil, List.length_cons, List.length_nil, Option.getD_some, Option.getD_none, List.all_cons, List.all_nil, List.set_cons_zero, List.set_cons_succ, List.replicate_succ, List.replicate_zero, List.getElem?_cons_zero, List.getElem?_cons_succ, List.drop_succ_cons, List.drop_zero, List.take_succ_cons, List.take_zero]
        have h0 : l[i] ≠ 0 := by simpa using h
        have hs : l.find? (· ≠ 0) = some l[i] := by
          rw [List.find?_eq_some_iff_getElem]
          exact ⟨by simpa using h0, i, h', rfl, fun j hj => by simp [hn l[j] (by rw [List.mem_take_iff_getElem]; exact ⟨j, by omega, rfl⟩)]⟩
        unfold firstErr
        rw [hs]; rfl
      · simp only [vcC, Int.reduceEq, Int.reduceNe, Int.reduceLT, Int.reduceLE, Nat.reduceEqDiff, Nat.reduceAdd, reduceIte, reduceCtorEq, Nat.reduceLT, Nat.reduceLeDiff, eq_self, Option.bind_some, Option.map_some, List.map_cons, List.map_nil, List.length_cons, List.length_nil, Option.getD_some, Option.getD_none, List.all_cons, List.all_nil, List.set_cons_zero, List.set_cons_succ, List.replicate_succ, List.replicate_zero, List.getElem?_cons_zero, List.getElem?_cons_succ, List.drop_succ_cons, List.drop_zero, List.take_succ_cons, List.take_zero]
        refine ⟨by (simp only [decide_eq_true_eq, decide_eq_false_iff_not, Bool.not_true, I64, Bool.not_eq_true', Bool.not_eq_false', bne_iff_ne, beq_iff_eq, ne_eq] at *; omega), ⟨i + 1, by omega, ?_⟩, by simp only; omega, weakE _ ?_⟩
        · rw [List.take_succ_eq_append_getElem h']
          intro x hx
          rcases List.mem_append.1 hx with hx | hx
          · exact hn x hx
          · simp at hx h; rw [hx, h]
        · simp only [vcC, Int.reduceEq, Int.reduceNe, Int.reduceLT, Int.reduceLE, Nat.reduceEqDiff, Nat.reduceAdd, reduceIte, reduceCtorEq, Nat.reduceLT, Nat.reduceLeDiff, eq_self, Option.bind_some, Option.map_some, List.map_cons, List.map_nil, List.length_cons, List.length_nil, Option.getD_some, Option.getD_none, List.all_cons, List.all_nil, List.set_cons_zero, List.set_cons_succ, List.replicate_succ, List.replicate_zero, List.getElem?_cons_zero, List.getElem?_cons_succ, List.drop_succ_cons, List.drop_zero, List.take_succ_cons, List.take_zero]; simp
    · simp only [vcC, Int.reduceEq, Int.reduceNe, Int.reduceLT, Int.reduceLE, Nat.reduceEqDiff, Nat.reduceAdd, reduceIte, reduceCtorEq, Nat.reduceLT, Nat.reduceLeDiff, eq_self, Option.bind_some, Option.map_some, List.map_cons, List.map_nil, List.length_cons, List.length_nil, Option.getD_some, Option.getD_none, List.all_cons, List.all_nil, List.set_cons_zero, List.set_cons_succ, List.replicate_succ, List.replicate_zero, List.getElem?_cons_zero, List.getElem?_cons_succ, List.drop_succ_cons, List.drop_zero, List.take_succ_cons, List.take_zero]
      have : i = l.length := by (simp only [decide_eq_true_eq, decide_eq_false_iff_not, Bool.not_true, I64, Bool.not_eq_true', Bool.not_eq_false', bne_iff_ne, beq_iff_eq, ne_eq] at *; omega)
      subst this
      unfold firstErr
      rw [List.take_length] at hn
      rw [List.find?_eq_none.2 (fun x hx => by simp [hn x hx])]
      rfl

/-- The first index where it holds, or -1. -/
def idxOf {α : Type} (l : List α) (p : α → Bool) : Int := match l.findIdx? p with
  | some i => i
  | none => -1

theorem map_fx1 {caps : List AV} (h : ∀ c ∈ caps, fx1 c = true) (s : Store) (n : Nat) : caps.map (bor s n) = caps := by
  conv => rhs; rw [← List.map_id caps]
  exact List.map_congr_left fun c hc => (fx1_spec (h c hc)).2 s n

theorem idxFunc_int_s (l : List Int) (f : FuncId) (caps : List AV) (p : Int → Bool) (hl : l.length < 4000000000000000000) (hc : ∀ c ∈ caps, fx1 c = true)
    (hp : ∀ x ∈ l, Sound Tryd.prog f (.int .i64 x :: caps) (.bool (p x))) : Sound Tryd.prog 91 [.sl (ints l), .fn f caps] (.int .i64 (idxOf l p)) := by
  refine sound_W f_slices_IndexFunc_int_int (Nat.le_of_ble_eq_true rfl) ?_
  simp only [c_slices_IndexFunc_int_int, vcC, Int.reduceEq, Int.reduceNe, Int.reduceLT, Int.reduceLE, Nat.reduceEqDiff, Nat.reduceAdd, reduceIte, reduceCtorEq, Nat.reduceLT, Nat.reduceLeDiff, eq_self, Option.bind_some, Option.map_some, List.map_cons, List.map_nil, List.length_cons, List.length_nil, Option.getD_some, Option.getD_none, List.all_cons, List.all_nil, List.set_cons_zero, List.set_cons_succ, List.replicate_succ, List.replicate_zero, List.getElem?_cons_zero, List.getElem?_cons_succ, List.drop_succ_cons, List.drop_zero, List.take_succ_cons, List.take_zero]
  refine W_loop (α := PSigma fun i : Nat => i ≤ l.length ∧ ∀ x ∈ l.take i, p x = false) (fun i => (envOf [(0, .sl (ints l)), (1, .fn f caps), (6, .sl (ints l)), (7, .int .i64 l.length), (8, .int .i64 i.1)], noStore)) (fun i => l.length - i.1) ⟨0, by simp⟩ (weakE _ ?_) (fun ⟨i, hi, hn⟩ => ?_)
  · simp only [vcC, Int.reduceEq, Int.reduceNe, Int.reduceLT, Int.reduceLE, Nat.reduceEqDiff, Nat.reduceAdd, reduceIte, reduceCtorEq, Nat.reduceLT, Nat.reduceLeDiff, eq_self, Option.bind_some, Option.map_some, List.map_cons, List.map_nil, List.length_cons, List.length_nil, Option.getD_some, Option.getD_none, List.all_cons, List.all_nil, List.set_cons_zero, List.set_cons_succ, List.replicate_succ, List.replicate_zero, List.getElem?_cons_zero, List.getElem?_cons_succ, List.drop_succ_cons, List.drop_zero, List.take_succ_cons, List.take_zero]; rfl
  · simp only [vcC, Int.reduceEq, Int.reduceNe, Int.reduceLT, Int.reduceLE, Nat.reduceEqDiff, Nat.reduceAdd, reduceIte, reduceCtorEq, Nat.reduceLT, Nat.reduceLeDiff, eq_self, Option.bind_some, Option.map_some, List.map_cons, List.map_nil, List.length_cons, List.length_nil, Option.getD_some, Option.getD_none, List.all_cons, List.all_nil, List.set_cons_zero, List.set_cons_succ, List.replicate_succ, List.replicate_zero, List.getElem?_cons_zero, List.getElem?_cons_succ, List.drop_succ_cons, List.drop_zero, List.take_succ_cons, List.take_zero]
    refine brB_split (fun h => ?_) (fun h => ?_)
    · have h' : i < l.length := by (simp only [decide_eq_true_eq, decide_eq_false_iff_not, Bool.not_true, I64, Bool.not_eq_true', Bool.not_eq_false', bne_iff_ne, beq_iff_eq, ne_eq] at *; omega)
      simp only [ints_get l i h', vcC, Int.reduceEq, Int.reduceNe, Int.reduceLT, Int.reduceLE, Nat.reduceEqDiff, Nat.reduceAdd, reduceIte, reduceCtorEq, Nat.reduceLT, Nat.reduceLeDiff, eq_self, Option.bind_some, Option.map_some, List.map_cons, List.map_nil, List.length_cons, List.length_nil, Option.getD_some, Option.getD_none, List.all_cons, List.all_nil, List.set_cons_zero, List.set_cons_succ, List.replicate_succ, List.replicate_zero, List.getElem?_cons_zero, List.getElem?_cons_succ, List.drop_succ_cons, List.drop_zero, List.take_succ_cons, List.take_zero]
      refine ⟨by omega, ?_⟩
      simp only [List.map_append, List.cons_append, List.nil_append, map_fx1 hc, vcC, Int.reduceEq, Int.reduceNe, Int.reduceLT, Int.reduceLE, Nat.reduceEqDiff, Nat.reduceAdd, reduceIte, reduceCtorEq, Nat.reduceLT, Nat.reduceLeDiff, eq_self, Option.bind_some, Option.map_some, List.map_cons, List.map_nil, List.length_cons, List.length_nil, Option.getD_some, Option.getD_none, List.all_cons, List.all_nil, List.set_cons_zero, List.set_cons_succ, List.replicate_succ, List.replicate_zero, List.getElem?_cons_zero, List.getElem?_cons_succ, List.drop_succ_cons, List.drop_zero, List.take_succ_cons, List.take_zero]
      refine callS_of (hp _ (List.getElem_mem h')) ?_
      simp only [vcC, Int.reduceEq, Int.reduceNe, Int.reduceLT, Int.reduceLE, Nat.reduceEqDiff, Nat.reduceAdd, reduceIte, reduceCtorEq, Nat.reduceLT, Nat.reduceLeDiff, eq_self, Option.bind_some, Option.map_some, List.map_cons, List.map_nil, List.length_cons, List.length_nil, Option.getD_some, Option.getD_none, List.all_cons, List.all_nil, List.set_cons_zero, List.set_cons_succ, List.replicate_succ, List.replicate_zero, List.getElem?_cons_zero, List.getElem?_cons_succ, List.drop_succ_cons, List.drop_zero, List.take_succ_cons, List.take_zero]
      refine brB_split (fun h => ?_) (fun h => ?_)
      · simp only [vcC, Int.reduceEq, Int.reduceNe, Int.reduceLT, Int.reduceLE, Nat.reduceEqDiff, Nat.reduceAdd, reduceIte, reduceCtorEq, Nat.reduceLT, Nat.reduceLeDiff, eq_self, Option.bind_some, Option.map_some, List.map_cons, List.map_nil, List.length_cons, List.length_nil, Option.getD_some, Option.getD_none, List.all_cons, List.all_nil, List.set_cons_zero, List.set_cons_succ, List.replicate_succ, List.replicate_zero, List.getElem?_cons_zero, List.getElem?_cons_succ, List.drop_succ_cons, List.drop_zero, List.take_succ_cons, List.take_zero]
        have hs : l.findIdx? p = some i := by
          rw [List.findIdx?_eq_some_iff_getElem]
          refine ⟨h', h, fun j hj => ?_⟩
          have := hn l[j] (by rw [List.mem_take_iff_getElem]; exact ⟨j, by omega, rfl⟩)
          simp [this]
        simp [idxOf, hs]
      · simp only [vcC, Int.reduceEq, Int.reduceNe, Int.reduceLT, Int.reduceLE, Nat.reduceEqDiff, Nat.reduceAdd, reduceIte, reduceCtorEq, Nat.reduceLT, Nat.reduceLeDiff, eq_self, Option.bind_some, Option.map_some, List.map_cons, List.map_nil, List.length_cons, List.length_nil, Option.getD_some, Option.getD_none, List.all_cons, List.all_nil, List.set_cons_zero, List.set_cons_succ, List.replicate_succ, List.replicate_zero, List.getElem?_cons_zero, List.getElem?_cons_succ, List.drop_succ_cons, List.drop_zero, List.take_succ_cons, List.take_zero]
        refine ⟨by (simp only [decide_eq_true_eq, decide_eq_false_iff_not, Bool.not_true, I64, Bool.not_eq_true', Bool.not_eq_false', bne_iff_ne, beq_iff_eq, ne_eq] at *; omega), ⟨i + 1, by omega, ?_⟩, by simp only; omega, weakE _ ?_⟩
        · rw [List.take_succ_eq_append_getElem h']
          intro x hx
          rcases List.mem_append.1 hx with hx | hx
          · exact hn x hx
          · simp at hx; rw [hx]; exact h
        · simp only [vcC, Int.reduceEq, Int.reduceNe, Int.reduceLT, Int.reduceLE, Nat.reduceEqDiff, Nat.reduceAdd, reduceIte, reduceCtorEq, Nat.reduceLT, Nat.reduceLeDiff, eq_self, Option.bind_some, Option.map_some, List.map_cons, List.map_nil, List.length_cons, List.length_nil, Option.getD_some, Option.getD_none, List.all_cons, List.all_nil, List.set_cons_zero, List.set_cons_succ, List.replicate_succ, List.replicate_zero, List.getElem?_cons_zero, List.getElem?_cons_succ, List.drop_succ_cons, List.drop_zero, List.take_succ_cons, List.take_zero]; simp
    · simp only [vcC, Int.reduceEq, Int.reduceNe, Int.reduceLT, Int.reduceLE, Nat.reduceEqDiff, Nat.reduceAdd, reduceIte, reduceCtorEq, Nat.reduceLT, Nat.reduceLeDiff, eq_self, Option.bind_some, Option.map_some, List.map_cons, List.map_nil, List.length_cons, List.length_nil, Option.getD_some, Option.getD_none, List.all_cons, List.all_nil, List.set_cons_zero, List.set_cons_succ, List.replicate_succ, List.replicate_zero, List.getElem?_cons_zero, List.getElem?_cons_succ, List.drop_succ_cons, List.drop_zero, List.take_succ_cons, List.take_zero]
      have : i = l.length := by (simp only [decide_eq_true_eq, decide_eq_false_iff_not, Bool.not_true, I64, Bool.not_eq_true', Bool.not_eq_false', bne_iff_ne, beq_iff_eq, ne_eq] at *; omega)
      subst this
      rw [List.take_length] at hn
      have hs : l.findIdx? p = none := List.findIdx?_eq_none_iff.2 hn
      simp [idxOf, hs]

theorem idxOf_any {α : Type} (l : List α) (p : α → Bool) : (decide (0 ≤ idxOf l p)) = l.any p := by
  unfold idxOf
  cases h : l.findIdx? p with
  | none =>
    rw [List.findIdx?_eq_none_iff] at h
    have : l.any p = false := by simpa using h
    rw [this]; rfl
  | some i =>
    rw [List.findIdx?_eq_some_iff_getElem] at h
    obtain ⟨hi, hp, _⟩ := h
    have : l.any p = true := List.any_eq_true.2 ⟨_, List.getElem_mem hi, hp⟩
    rw [this]; simp

theorem contFunc_int_s (l : List Int) (f : FuncId) (caps : List AV) (p : Int → Bool) (hl : l.length < 4000000000000000000) (hc : ∀ c ∈ caps, fx1 c = true)
    (hp : ∀ x ∈ l, Sound Tryd.prog f (.int .i64 x :: caps) (.bool (p x))) : Sound Tryd.prog 61 [.sl (ints l), .fn f caps] (.bool (l.any p)) := by
  refine sound_W f_slices_ContainsFunc_int_int (Nat.le_of_ble_eq_true rfl) ?_
  simp only [c_slices_ContainsFunc_int_int, map_fx1 hc, vcC, Int.reduceEq, Int.reduceNe, Int.reduceLT, Int.reduceLE, Nat.reduceEqDiff, Nat.reduceAdd, reduceIte, reduceCtorEq, Nat.reduceLT, Nat.reduceLeDiff, eq_self, Option.bind_some, Option.map_some, List.map_cons, List.map_nil, List.length_cons, List.length_nil, Option.getD_some, Option.getD_none, List.all_cons, List.all_nil, List.set_cons_zero, List.set_cons_succ, List.replicate_succ, List.replicate_zero, List.getElem?_cons_zero, List.getElem?_cons_succ, List.drop_succ_cons, List.drop_zero, List.take_succ_cons, List.take_zero]
  refine callS_of (idxFunc_int_s l f caps p hl hc hp) ?_
  simp only [vcC, Int.reduceEq, Int.reduceNe, Int.reduceLT, Int.reduceLE, Nat.reduceEqDiff, Nat.reduceAdd, reduceIte, reduceCtorEq, Nat.reduceLT, Nat.reduceLeDiff, eq_self, Option.bind_some, Option.map_some, List.map_cons, List.map_nil, List.length_cons, List.length_nil, Option.getD_some, Option.getD_none, List.all_cons, List.all_nil, List.set_cons_zero, List.set_cons_succ, List.replicate_succ, List.replicate_zero, List.getElem?_cons_zero, List.getElem?_cons_succ, List.drop_succ_cons, List.drop_zero, List.take_succ_cons, List.take_zero]
  rw [idxOf_any]

end Go.Proofs.YtddiingfddlaaaaDoor

/- Samples and droops, in plain Lean. By an AI agent; nothing here is trusted. -/
namespace Go.Proofs.YtddiingfddlaaaaDoor
open Go.Av

structure Droop where
  leak : Int
  div : Int
def Droop.av (d : Droop) : AV := .agg [.int .i64 d.leak, .int .i64 d.div]
def Droop.ok (d : Droop) : Prop := (0 ≤ d.leak ∧ d.leak ≤ 1000) ∧ (1 ≤ d.div ∧ d.div ≤ 10000)
instance (d : Droop) : Decidable d.ok := by unfold Droop.ok; exact inferInstance
def Droop.e (d : Droop) : Int := if d.ok then 0 else 2

end Go.Proofs.YtddiingfddlaaaaDoor

/- Dead times and afterpulses, in plain Lean. By an AI agent; nothing here is trusted. -/
namespace Go.Proofs.YtddiingfddlaaaaDoor
open Go.Av

/-- The times that are kept of the first ones. -/
def kp (dead : Int) (l : List Int) : Nat → List Int
  | 0 => []
  | i + 1 => if kp dead l i = [] ∨ dead < l.getD i 0 - (kp dead l i).getLastD 0 then kp dead l i ++ [l.getD i 0] else kp dead l i
def kept (dead : Int) (l : List Int) : List Int := kp dead l l.length
end Go.Proofs.YtddiingfddlaaaaDoor

/- Hits: runs of samples from a threshold on, in plain Lean. By an AI agent; nothing here is trusted. -/
namespace Go.Proofs.YtddiingfddlaaaaDoor
open Go.Av

end Go.Proofs.YtddiingfddlaaaaDoor

/- Contracts of the small functions of the base. By an AI agent; nothing here is trusted. -/
namespace Go.Proofs.YtddiingfddlaaaaDoor
open Go.Av

theorem Within_s (n lo hi : Int) : Sound Tryd.prog 13 [.int .i64 n, .int .i64 lo, .int .i64 hi] (.bool (decide (lo ≤ n ∧ n ≤ hi))) := by
  refine sound_W f_base_Within (Nat.le_of_ble_eq_true rfl) ?_
  simp only [c_base_Within, vcC, Int.reduceEq, Int.reduceNe, Int.reduceLT, Int.reduceLE, Nat.reduceEqDiff, Nat.reduceAdd, reduceIte, reduceCtorEq, Nat.reduceLT, Nat.reduceLeDiff, eq_self, Option.bind_some, Option.map_some, List.map_cons, List.map_nil, List.length_cons, List.length_nil, Option.getD_some, Option.getD_none, List.all_cons, List.all_nil, List.set_cons_zero, List.set_cons_succ, List.replicate_succ, List.replicate_zero, List.getElem?_cons_zero, List.getElem?_cons_succ, List.drop_succ_cons, List.drop_zero, List.take_succ_cons, List.take_zero]
  refine brB_split (fun h => ?_) (fun h => ?_) <;> simp only [h, vcC, Int.reduceEq, Int.reduceNe, Int.reduceLT, Int.reduceLE, Nat.reduceEqDiff, Nat.reduceAdd, reduceIte, reduceCtorEq, Nat.reduceLT, Nat.reduceLeDiff, eq_self, Option.bind_some, Option.map_some, List.map_cons, List.map_nil, List.length_cons, List.length_nil, Option.getD_some, Option.getD_none, List.all_cons, List.all_nil, List.set_cons_zero, List.set_cons_succ, List.replicate_succ, List.replicate_zero, List.getElem?_cons_zero, List.getElem?_cons_succ, List.drop_succ_cons, List.drop_zero, List.take_succ_cons, List.take_zero]
  · exact bool_eq (by simp at h; simp [h])
  · simp at h; simp; omega

end Go.Proofs.YtddiingfddlaaaaDoor

/- Contracts of the base: copies, comparisons, fractions. By an AI agent; nothing here is trusted. -/
namespace Go.Proofs.YtddiingfddlaaaaDoor
open Go.Av

theorem newsOk_ints (l : List Int) : newsOk 1 (ints l) := by
  intro x hx
  obtain ⟨n, _, rfl⟩ := List.mem_map.1 hx
  exact ⟨rfl, rfl⟩
theorem maxLen_big : 4000000000000 ≤ maxLen := by decide

theorem CopyInts_s (l : List Int) (hl : l.length ≤ 1000000000) : Sound Tryd.prog 15 [.sl (ints l)] (.sl (ints l)) := by
  refine sound_W f_base_CopyInts (Nat.le_of_ble_eq_true rfl) ?_
  have hm := maxLen_big
  simp only [c_base_CopyInts, vcV, vcD, Int.reduceEq, Int.reduceNe, Int.reduceLT, Int.reduceLE, Nat.reduceEqDiff, Nat.reduceAdd, reduceIte, reduceCtorEq, Nat.reduceLT, Nat.reduceLeDiff, eq_self, Option.bind_some, Option.map_some, List.map_cons, List.map_nil, List.length_cons, List.length_nil, Option.getD_some, Option.getD_none, List.all_cons, List.all_nil, List.set_cons_zero, List.set_cons_succ, List.replicate_succ, List.replicate_zero, List.getElem?_cons_zero, List.getElem?_cons_succ, List.drop_succ_cons, List.drop_zero, List.take_succ_cons, List.take_zero, List.map_append, List.nil_append, List.cons_append, Nat.reduceShiftRight, Nat.reduceMod]
  refine ⟨newsOk_ints l, ⟨by omega, by omega⟩, ?_⟩
  rw [borB_good _ _ _ _ _ (by simp [ints]) (ints_fx _)]

def S63 (n : Int) : Prop := -9223372036854775807 ≤ n ∧ n ≤ 9223372036854775807
theorem max_neg (n : Int) : max n (-n) = n.natAbs := by omega
theorem Size_s (n : Int) (h : S63 n) : Sound Tryd.prog 93 [.int .i64 n] (.int .i64 n.natAbs) := by
  refine sound_W f_base_Size (Nat.le_of_ble_eq_true rfl) ?_
  unfold S63 at h
  simp only [c_base_Size, max_neg, vcV, vcD, Int.reduceEq, Int.reduceNe, Int.reduceLT, Int.reduceLE, Nat.reduceEqDiff, Nat.reduceAdd, reduceIte, reduceCtorEq, Nat.reduceLT, Nat.reduceLeDiff, eq_self, Option.bind_some, Option.map_some, List.map_cons, List.map_nil, List.length_cons, List.length_nil, Option.getD_some, Option.getD_none, List.all_cons, List.all_nil, List.set_cons_zero, List.set_cons_succ, List.replicate_succ, List.replicate_zero, List.getElem?_cons_zero, List.getElem?_cons_succ, List.drop_succ_cons, List.drop_zero, List.take_succ_cons, List.take_zero, List.map_append, List.nil_append, List.cons_append, Nat.reduceShiftRight, Nat.reduceMod]
  (simp only [decide_eq_true_eq, decide_eq_false_iff_not, Bool.not_true, I64, Bool.not_eq_true', Bool.not_eq_false', bne_iff_ne, beq_iff_eq, ne_eq] at *; omega)

theorem gcd_tmod (a b : Int) : Int.gcd b (a.tmod b) = Int.gcd a b := by
  unfold Int.gcd
  rw [Int.natAbs_tmod, Nat.gcd_comm, ← Nat.gcd_rec, Nat.gcd_comm]
theorem tmod_S {a b : Int} (hb : S63 b) (h0 : b ≠ 0) : S63 (a.tmod b) ∧ (a.tmod b).natAbs < b.natAbs := by
  have h : (a.tmod b).natAbs < b.natAbs := by
    rw [Int.natAbs_tmod]
    exact Nat.mod_lt _ (by omega)
  unfold S63 at hb ⊢
  exact ⟨by omega, h⟩
theorem Gcd_s (a b : Int) (ha : S63 a) (hb : S63 b) : Sound Tryd.prog 67 [.int .i64 a, .int .i64 b] (.int .i64 (Int.gcd a b)) := by
  refine sound_W f_base_Gcd (Nat.le_of_ble_eq_true rfl) ?_
  simp only [c_base_Gcd, vcV, vcD, Int.reduceEq, Int.reduceNe, Int.reduceLT, Int.reduceLE, Nat.reduceEqDiff, Nat.reduceAdd, reduceIte, reduceCtorEq, Nat.reduceLT, Nat.reduceLeDiff, eq_self, Option.bind_some, Option.map_some, List.map_cons, List.map_nil, List.length_cons, List.length_nil, Option.getD_some, Option.getD_none, List.all_cons, List.all_nil, List.set_cons_zero, List.set_cons_succ, List.replicate_succ, List.replicate_zero, List.getElem?_cons_zero, List.getElem?_cons_succ, List.drop_succ_cons, List.drop_zero, List.take_succ_cons, List.take_zero, List.map_append, List.nil_append, List.cons_append, Nat.reduceShiftRight, Nat.reduceMod]
  refine W_loop (α := PSigma fun p : Int × Int => S63 p.1 ∧ S63 p.2 ∧ Int.gcd p.1 p.2 = Int.gcd a b) (fun p => (envOf [(0, .int .i64 p.1.1), (1, .int .i64 p.1.2)], noStore)) (fun p => p.1.2.natAbs) ⟨(a, b), ha, hb, rfl⟩ (weakE _ ?_) (fun ⟨p, h1, h2, h3⟩ => ?_)
  · simp only [vcV, vcD, Int.reduceEq, Int.reduceNe, Int.reduceLT, Int.reduceLE, Nat.reduceEqDiff, Nat.reduceAdd, reduceIte, reduceCtorEq, Nat.reduceLT, Nat.reduceLeDiff, eq_self, Option.bind_some, Option.map_some, List.map_cons, List.map_nil, List.length_cons, List.length_nil, Option.getD_some, Option.getD_none, List.all_cons, List.all_nil, List.set_cons_zero, List.set_cons_succ, List.replicate_succ, List.replicate_zero, List.getElem?_cons_zero, List.getElem?_cons_succ, List.drop_succ_cons, List.drop_zero, List.take_succ_cons, List.take_zero, List.map_append, List.nil_append, List.cons_append, Nat.reduceShiftRight, Nat.reduceMod]
  · obtain ⟨x, y⟩ := p
    simp only at h1 h2 h3
    simp only [vcV, vcD, Int.reduceEq, Int.reduceNe, Int.reduceLT, Int.reduceLE, Nat.reduceEqDiff, Nat.reduceAdd, reduceIte, reduceCtorEq, Nat.reduceLT, Nat.reduceLeDiff, eq_self, Option.bind_some, Option.map_some, List.map_cons, List.map_nil, List.length_cons, List.length_nil, Option.getD_some, Option.getD_none, List.all_cons, List.all_nil, List.set_cons_zero, List.set_cons_succ, List.replicate_succ, List.replicate_zero, List.getElem?_cons_zero, List.getElem?_cons_succ, List.drop_succ_cons, List.drop_zero, List.take_succ_cons, List.take_zero, List.map_append, List.nil_append, List.cons_append, Nat.reduceShiftRight, Nat.reduceMod]
    refine brB_split (fun h => ?_) (fun h => ?_)
    · have hy : y ≠ 0 := by simpa using h
      obtain ⟨t1, t2⟩ := tmod_S (a := x) h2 hy
      simp only [vcV, vcD, Int.reduceEq, Int.reduceNe, Int.reduceLT, Int.reduceLE, Nat.reduceEqDiff, Nat.reduceAdd, reduceIte, reduceCtorEq, Nat.reduceLT, Nat.reduceLeDiff, eq_self, Option.bind_some, Option.map_some, List.map_cons, List.map_nil, List.length_cons, List.length_nil, Option.getD_some, Option.getD_none, List.all_cons, List.all_nil, List.set_cons_zero, List.set_cons_succ, List.replicate_succ, List.replicate_zero, List.getElem?_cons_zero, List.getElem?_cons_succ, List.drop_succ_cons, List.drop_zero, List.take_succ_cons, List.take_zero, List.map_append, List.nil_append, List.cons_append, Nat.reduceShiftRight, Nat.reduceMod]
      refine ⟨hy, ⟨(y, x.tmod y), h2, t1, (gcd_tmod x y).trans h3⟩, t2, weakE _ ?_⟩
      simp only [vcV, vcD, Int.reduceEq, Int.reduceNe, Int.reduceLT, Int.reduceLE, Nat.reduceEqDiff, Nat.reduceAdd, reduceIte, reduceCtorEq, Nat.reduceLT, Nat.reduceLeDiff, eq_self, Option.bind_some, Option.map_some, List.map_cons, List.map_nil, List.length_cons, List.length_nil, Option.getD_some, Option.getD_none, List.all_cons, List.all_nil, List.set_cons_zero, List.set_cons_succ, List.replicate_succ, List.replicate_zero, List.getElem?_cons_zero, List.getElem?_cons_succ, List.drop_succ_cons, List.drop_zero, List.take_succ_cons, List.take_zero, List.map_append, List.nil_append, List.cons_append, Nat.reduceShiftRight, Nat.reduceMod]
    · have hy : y = 0 := by simpa using h
      subst hy
      simp only [vcV, vcD, Int.reduceEq, Int.reduceNe, Int.reduceLT, Int.reduceLE, Nat.reduceEqDiff, Nat.reduceAdd, reduceIte, reduceCtorEq, Nat.reduceLT, Nat.reduceLeDiff, eq_self, Option.bind_some, Option.map_some, List.map_cons, List.map_nil, List.length_cons, List.length_nil, Option.getD_some, Option.getD_none, List.all_cons, List.all_nil, List.set_cons_zero, List.set_cons_succ, List.replicate_succ, List.replicate_zero, List.getElem?_cons_zero, List.getElem?_cons_succ, List.drop_succ_cons, List.drop_zero, List.take_succ_cons, List.take_zero, List.map_append, List.nil_append, List.cons_append, Nat.reduceShiftRight, Nat.reduceMod]
      refine callS_of (Size_s x h1) ?_
      simp only [vcV, vcD, Int.reduceEq, Int.reduceNe, Int.reduceLT, Int.reduceLE, Nat.reduceEqDiff, Nat.reduceAdd, reduceIte, reduceCtorEq, Nat.reduceLT, Nat.reduceLeDiff, eq_self, Option.bind_some, Option.map_some, List.map_cons, List.map_nil, List.length_cons, List.length_nil, Option.getD_some, Option.getD_none, List.all_cons, List.all_nil, List.set_cons_zero, List.set_cons_succ, List.replicate_succ, List.replicate_zero, List.getElem?_cons_zero, List.getElem?_cons_succ, List.drop_succ_cons, List.drop_zero, List.take_succ_cons, List.take_zero, List.map_append, List.nil_append, List.cons_append, Nat.reduceShiftRight, Nat.reduceMod]
      rw [← h3]; simp [Int.gcd]

/-- A fraction in lowest terms. -/
def lowG (num den : Int) : Int := if den < 0 then -(Int.gcd num den) else Int.gcd num den
def lowN (num den : Int) : Int := num.tdiv (lowG num den)
def lowD (num den : Int) : Int := den.tdiv (lowG num den)
def fracA (n d : Int) : AV := .agg [.int .i64 n, .int .i64 d]
theorem tdiv_S {a b : Int} (ha : S63 a) : S63 (a.tdiv b) := by
  have : (a.tdiv b).natAbs ≤ a.natAbs := by rw [Int.natAbs_tdiv]; exact Nat.div_le_self _ _
  unfold S63 at *; omega
theorem lowG_ne {num den : Int} (hd : den ≠ 0) : lowG num den ≠ 0 := by
  have : 0 < Int.gcd num den := Int.gcd_pos_of_ne_zero_right _ hd
  unfold lowG; split <;> omega
theorem gcd_S {a b : Int} (hb : S63 b) (h0 : b ≠ 0) : (Int.gcd a b : Int) ≤ 9223372036854775807 := by
  have h : Int.gcd a b ≤ b.natAbs := Nat.gcd_le_right _ (by omega)
  unfold S63 at hb; omega
theorem Lowest_s (num den : Int) (hn : S63 num) (hd : S63 den) (h0 : den ≠ 0) : Sound Tryd.prog 21 [.int .i64 num, .int .i64 den] (fracA (lowN num den) (lowD num den)) := by
  refine sound_W f_base_Lowest (Nat.le_of_ble_eq_true rfl) ?_
  have hne := lowG_ne (num := num) h0
  have hg := gcd_S (a := num) hd h0
  have t1 := tdiv_S (b := lowG num den) hn
  have t2 := tdiv_S (b := lowG num den) hd
  unfold lowG at t1 t2 hne
  unfold S63 at t1 t2
  simp only [c_base_Lowest, vcV, vcD, Int.reduceEq, Int.reduceNe, Int.reduceLT, Int.reduceLE, Nat.reduceEqDiff, Nat.reduceAdd, reduceIte, reduceCtorEq, Nat.reduceLT, Nat.reduceLeDiff, eq_self, Option.bind_some, Option.map_some, List.map_cons, List.map_nil, List.length_cons, List.length_nil, Option.getD_some, Option.getD_none, List.all_cons, List.all_nil, List.set_cons_zero, List.set_cons_succ, List.replicate_succ, List.replicate_zero, List.getElem?_cons_zero, List.getElem?_cons_succ, List.drop_succ_cons, List.drop_zero, List.take_succ_cons, List.take_zero, List.map_append, List.nil_append, List.cons_append, Nat.reduceShiftRight, Nat.reduceMod]
  refine callS_of (Gcd_s num den hn hd) ?_
  simp only [vcV, vcD, Int.reduceEq, Int.reduceNe, Int.reduceLT, Int.reduceLE, Nat.reduceEqDiff, Nat.reduceAdd, reduceIte, reduceCtorEq, Nat.reduceLT, Nat.reduceLeDiff, eq_self, Option.bind_some, Option.map_some, List.map_cons, List.map_nil, List.length_cons, List.length_nil, Option.getD_some, Option.getD_none, List.all_cons, List.all_nil, List.set_cons_zero, List.set_cons_succ, List.replicate_succ, List.replicate_zero, List.getElem?_cons_zero, List.getElem?_cons_succ, List.drop_succ_cons, List.drop_zero, List.take_succ_cons, List.take_zero, List.map_append, List.nil_append, List.cons_append, Nat.reduceShiftRight, Nat.reduceMod]
  refine brB_split (fun h => ?_) (fun h => ?_)
  · simp only [decide_eq_true_eq] at h
    rw [if_pos h] at t1 t2 hne
    simp only [vcV, vcD, Int.reduceEq, Int.reduceNe, Int.reduceLT, Int.reduceLE, Nat.reduceEqDiff, Nat.reduceAdd, reduceIte, reduceCtorEq, Nat.reduceLT, Nat.reduceLeDiff, eq_self, Option.bind_some, Option.map_some, List.map_cons, List.map_nil, List.length_cons, List.length_nil, Option.getD_some, Option.getD_none, List.all_cons, List.all_nil, List.set_cons_zero, List.set_cons_succ, List.replicate_succ, List.replicate_zero, List.getElem?_cons_zero, List.getElem?_cons_succ, List.drop_succ_cons, List.drop_zero, List.take_succ_cons, List.take_zero, List.map_append, List.nil_append, List.cons_append, Nat.reduceShiftRight, Nat.reduceMod]
    refine ⟨by (simp only [decide_eq_true_eq, decide_eq_false_iff_not, Bool.not_true, I64, Bool.not_eq_true', Bool.not_eq_false', bne_iff_ne, beq_iff_eq, ne_eq] at *; omega), hne, by (simp only [decide_eq_true_eq, decide_eq_false_iff_not, Bool.not_true, I64, Bool.not_eq_true', Bool.not_eq_false', bne_iff_ne, beq_iff_eq, ne_eq] at *; omega), hne, by (simp only [decide_eq_true_eq, decide_eq_false_iff_not, Bool.not_true, I64, Bool.not_eq_true', Bool.not_eq_false', bne_iff_ne, beq_iff_eq, ne_eq] at *; omega), ?_⟩
    unfold fracA lowN lowD lowG
    rw [if_pos h]
  · simp only [Bool.not_true, decide_eq_false_iff_not] at h
    rw [if_neg h] at t1 t2 hne
    simp only [vcV, vcD, Int.reduceEq, Int.reduceNe, Int.reduceLT, Int.reduceLE, Nat.reduceEqDiff, Nat.reduceAdd, reduceIte, reduceCtorEq, Nat.reduceLT, Nat.reduceLeDiff, eq_self, Option.bind_some, Option.map_some, List.map_cons, List.map_nil, List.length_cons, List.length_nil, Option.getD_some, Option.getD_none, List.all_cons, List.all_nil, List.set_cons_zero, List.set_cons_succ, List.replicate_succ, List.replicate_zero, List.getElem?_cons_zero, List.getElem?_cons_succ, List.drop_succ_cons, List.drop_zero, List.take_succ_cons, List.take_zero, List.map_append, List.nil_append, List.cons_append, Nat.reduceShiftRight, Nat.reduceMod]
    refine ⟨hne, by (simp only [decide_eq_true_eq, decide_eq_false_iff_not, Bool.not_true, I64, Bool.not_eq_true', Bool.not_eq_false', bne_iff_ne, beq_iff_eq, ne_eq] at *; omega), hne, by (simp only [decide_eq_true_eq, decide_eq_false_iff_not, Bool.not_true, I64, Bool.not_eq_true', Bool.not_eq_false', bne_iff_ne, beq_iff_eq, ne_eq] at *; omega), ?_⟩
    unfold fracA lowN lowD lowG
    rw [if_neg h]

def smallF (n d : Int) : Bool := decide (-1000000000 ≤ n ∧ n ≤ 1000000000) && decide (1 ≤ d ∧ d ≤ 1000000000)
theorem IsSmall_s (n d : Int) : Sound Tryd.prog 20 [fracA n d] (.bool (smallF n d)) := by
  refine sound_W f_base_IsSmall (Nat.le_of_ble_eq_true rfl) ?_
  unfold smallF
  simp only [c_base_IsSmall, fracA, vcV, vcD, Int.reduceEq, Int.reduceNe, Int.reduceLT, Int.reduceLE, Nat.reduceEqDiff, Nat.reduceAdd, reduceIte, reduceCtorEq, Nat.reduceLT, Nat.reduceLeDiff, eq_self, Option.bind_some, Option.map_some, List.map_cons, List.map_nil, List.length_cons, List.length_nil, Option.getD_some, Option.getD_none, List.all_cons, List.all_nil, List.set_cons_zero, List.set_cons_succ, List.replicate_succ, List.replicate_zero, List.getElem?_cons_zero, List.getElem?_cons_succ, List.drop_succ_cons, List.drop_zero, List.take_succ_cons, List.take_zero, List.map_append, List.nil_append, List.cons_append, Nat.reduceShiftRight, Nat.reduceMod]
  refine callS_of (Within_s _ _ _) ?_
  simp only [vcV, vcD, Int.reduceEq, Int.reduceNe, Int.reduceLT, Int.reduceLE, Nat.reduceEqDiff, Nat.reduceAdd, reduceIte, reduceCtorEq, Nat.reduceLT, Nat.reduceLeDiff, eq_self, Option.bind_some, Option.map_some, List.map_cons, List.map_nil, List.length_cons, List.length_nil, Option.getD_some, Option.getD_none, List.all_cons, List.all_nil, List.set_cons_zero, List.set_cons_succ, List.replicate_succ, List.replicate_zero, List.getElem?_cons_zero, List.getElem?_cons_succ, List.drop_succ_cons, List.drop_zero, List.take_succ_cons, List.take_zero, List.map_append, List.nil_append, List.cons_append, Nat.reduceShiftRight, Nat.reduceMod]
  by_cases h : -1000000000 ≤ n ∧ n ≤ 1000000000
  · simp only [h, vcV, vcD, Int.reduceEq, Int.reduceNe, Int.reduceLT, Int.reduceLE, Nat.reduceEqDiff, Nat.reduceAdd, reduceIte, reduceCtorEq, Nat.reduceLT, Nat.reduceLeDiff, eq_self, Option.bind_some, Option.map_some, List.map_cons, List.map_nil, List.length_cons, List.length_nil, Option.getD_some, Option.getD_none, List.all_cons, List.all_nil, List.set_cons_zero, List.set_cons_succ, List.replicate_succ, List.replicate_zero, List.getElem?_cons_zero, List.getElem?_cons_succ, List.drop_succ_cons, List.drop_zero, List.take_succ_cons, List.take_zero, List.map_append, List.nil_append, List.cons_append, Nat.reduceShiftRight, Nat.reduceMod]
    refine callS_of (Within_s _ _ _) ?_
    simp only [h, vcV, vcD, Int.reduceEq, Int.reduceNe, Int.reduceLT, Int.reduceLE, Nat.reduceEqDiff, Nat.reduceAdd, reduceIte, reduceCtorEq, Nat.reduceLT, Nat.reduceLeDiff, eq_self, Option.bind_some, Option.map_some, List.map_cons, List.map_nil, List.length_cons, List.length_nil, Option.getD_some, Option.getD_none, List.all_cons, List.all_nil, List.set_cons_zero, List.set_cons_succ, List.replicate_succ, List.replicate_zero, List.getElem?_cons_zero, List.getElem?_cons_succ, List.drop_succ_cons, List.drop_zero, List.take_succ_cons, List.take_zero, List.map_append, List.nil_append, List.cons_append, Nat.reduceShiftRight, Nat.reduceMod]
  · simp only [h, vcV, vcD, Int.reduceEq, Int.reduceNe, Int.reduceLT, Int.reduceLE, Nat.reduceEqDiff, Nat.reduceAdd, reduceIte, reduceCtorEq, Nat.reduceLT, Nat.reduceLeDiff, eq_self, Option.bind_some, Option.map_some, List.map_cons, List.map_nil, List.length_cons, List.length_nil, Option.getD_some, Option.getD_none, List.all_cons, List.all_nil, List.set_cons_zero, List.set_cons_succ, List.replicate_succ, List.replicate_zero, List.getElem?_cons_zero, List.getElem?_cons_succ, List.drop_succ_cons, List.drop_zero, List.take_succ_cons, List.take_zero, List.map_append, List.nil_append, List.cons_append, Nat.reduceShiftRight, Nat.reduceMod]
end Go.Proofs.YtddiingfddlaaaaDoor

/- Lowest terms, gains and charges, in plain Lean. By an AI agent; nothing here is trusted. -/
namespace Go.Proofs.YtddiingfddlaaaaDoor
open Go.Av

theorem i4comm (a b c d : Int) : a * b * (c * d) = a * c * (b * d) := by
  rw [Int.mul_assoc, Int.mul_assoc, Int.mul_left_comm b c d]
theorem int_dvd {y v x : Int} (h : y ∣ v * x) (hg : Int.gcd x y = 1) : y ∣ v := by
  rw [← Int.natAbs_dvd_natAbs] at h ⊢
  rw [Int.natAbs_mul] at h
  exact Nat.Coprime.dvd_of_dvd_mul_right (by unfold Nat.Coprime; rw [Nat.gcd_comm]; exact hg) h
/-- Lowest terms of a denominator above 0. -/
theorem low_parts {n d : Int} (hd : 0 < d) : ∃ g : Int, 0 < g ∧ n = g * lowN n d ∧ d = g * lowD n d ∧ Int.gcd (lowN n d) (lowD n d) = 1 := by
  have hg : 0 < Int.gcd n d := Int.gcd_pos_of_ne_zero_right _ (by omega)
  have hn : ¬ d < 0 := by omega
  have e1 : lowN n d = n / (Int.gcd n d : Int) := by
    unfold lowN lowG; rw [if_neg hn]
    exact Int.tdiv_eq_ediv_of_dvd (Int.gcd_dvd_left _ _)
  have e2 : lowD n d = d / (Int.gcd n d : Int) := by
    unfold lowD lowG; rw [if_neg hn]
    exact Int.tdiv_eq_ediv_of_dvd (Int.gcd_dvd_right _ _)
  refine ⟨Int.gcd n d, by omega, ?_, ?_, ?_⟩
  · rw [e1, Int.mul_ediv_cancel' (Int.gcd_dvd_left _ _)]
  · rw [e2, Int.mul_ediv_cancel' (Int.gcd_dvd_right _ _)]
  · rw [e1, e2]; exact Int.gcd_ediv_gcd_ediv_gcd hg
theorem low_pos {n d : Int} (hd : 0 < d) : 0 < lowD n d ∧ (0 ≤ n → 0 ≤ lowN n d) := by
  obtain ⟨g, h1, h2, h3, _⟩ := low_parts (n := n) hd
  generalize lowN n d = x at *
  generalize lowD n d = y at *
  constructor
  · by_cases hy : 0 < y
    · exact hy
    · exfalso
      have := Int.mul_nonneg (show 0 ≤ g by omega) (show 0 ≤ -y by omega)
      rw [Int.mul_neg] at this; omega
  · intro hn
    by_cases hx : 0 ≤ x
    · exact hx
    · exfalso
      have := Int.mul_le_mul_of_nonneg_left (show x ≤ -1 by omega) (show 0 ≤ g by omega)
      omega
theorem low_eq {a b c d : Int} (hb : 0 < b) (hd : 0 < d) (h : a * d = c * b) : lowN a b = lowN c d ∧ lowD a b = lowD c d := by
  obtain ⟨g, g1, g2, g3, g4⟩ := low_parts (n := a) hb
  obtain ⟨k, k1, k2, k3, k4⟩ := low_parts (n := c) hd
  have p1 := (low_pos (n := a) hb).1
  have p2 := (low_pos (n := c) hd).1
  generalize lowN a b = x at *
  generalize lowD a b = y at *
  generalize lowN c d = u at *
  generalize lowD c d = v at *
  have hx : x * v = u * y := by
    rw [g2, g3, k2, k3] at h
    have e1 : g * x * (k * v) = (g * k) * (x * v) := by rw [i4comm]
    have e2 : k * u * (g * y) = (g * k) * (u * y) := by rw [i4comm, Int.mul_comm k g]
    rw [e1, e2] at h
    exact Int.eq_of_mul_eq_mul_left (Int.mul_ne_zero (by omega) (by omega)) h
  have d1 : y ∣ v := by
    have : y ∣ v * x := ⟨u, by rw [Int.mul_comm v x, hx, Int.mul_comm]⟩
    exact int_dvd this g4
  have d2 : v ∣ y := by
    have : v ∣ y * u := ⟨x, by rw [Int.mul_comm y u, ← hx, Int.mul_comm]⟩
    exact int_dvd this k4
  have e : y = v := Int.le_antisymm (Int.le_of_dvd p2 d1) (Int.le_of_dvd p1 d2)
  subst e
  exact ⟨Int.eq_of_mul_eq_mul_right (by omega) hx, rfl⟩

/-- A sum of squares. -/
def sqs (l : List Int) : Int := (l.map fun x => x * x).sum
theorem dev_nonneg (y : Int) : ∀ l : List Int, 0 ≤ sqs l - 2 * (y * l.sum) + l.length * (y * y)
  | [] => by simp [sqs]
  | x :: l => by
    have ih := dev_nonneg y l
    have h : 0 ≤ (x - y) * (x - y) := by
      rcases Int.le_total 0 (x - y) with q | q
      · exact Int.mul_nonneg q q
      · have := Int.mul_nonneg (show 0 ≤ -(x - y) by omega) (show 0 ≤ -(x - y) by omega)
        rwa [Int.neg_mul_neg] at this
    have e1 : (x - y) * (x - y) = x * x - 2 * (y * x) + y * y := by
      rw [Int.sub_mul, Int.mul_sub, Int.mul_sub, Int.mul_comm x y]; omega
    unfold sqs at *
    simp only [List.map_cons, List.sum_cons, List.length_cons]
    rw [Int.mul_add]
    have e2 : ((l.length + 1 : Nat) : Int) * (y * y) = (l.length : Int) * (y * y) + y * y := by
      rw [show ((l.length + 1 : Nat) : Int) = (l.length : Int) + 1 by omega, Int.add_mul, Int.one_mul]
    omega
/-- The square of a sum is at most the number of its parts times the sum of their squares. -/
theorem sum_sq : ∀ l : List Int, l.sum * l.sum ≤ l.length * sqs l
  | [] => by simp [sqs]
  | x :: l => by
    have ih := sum_sq l
    have h := dev_nonneg x l
    unfold sqs at *
    simp only [List.map_cons, List.sum_cons, List.length_cons]
    generalize (l.map fun x => x * x).sum = q at *
    generalize l.sum = s at *
    rw [show ((l.length + 1 : Nat) : Int) = (l.length : Int) + 1 by omega]
    generalize (l.length : Int) = n at *
    have e1 : (x + s) * (x + s) = x * x + 2 * (x * s) + s * s := by rw [Int.add_mul, Int.mul_add, Int.mul_add, Int.mul_comm s x]; omega
    have e2 : (n + 1) * (x * x + q) = n * (x * x) + n * q + x * x + q := by rw [Int.add_mul, Int.mul_add, Int.one_mul]; omega
    rw [e1, e2]; omega
def chE (l : List Int) : Int := if l.length = 0 then 10 else if 40 < l.length then 8 else if l.all (fun n => decide (0 ≤ n ∧ n ≤ 10000)) then (if l.sum = 0 then 11 else 0) else 2
def gainN (l : List Int) : Int := l.length * sqs l - l.sum * l.sum
def gainD (l : List Int) : Int := l.length * l.sum
theorem chE_ok {l : List Int} (h : chE l = 0) : 1 ≤ l.length ∧ l.length ≤ 40 ∧ (∀ x ∈ l, 0 ≤ x ∧ x ≤ 10000) ∧ l.sum ≠ 0 := by
  unfold chE at h
  split at h
  · cases h
  · split at h
    · cases h
    · split at h
      · rename_i h1 h2 h3
        split at h
        · cases h
        · exact ⟨by omega, by omega, fun x hx => by simpa using List.all_eq_true.1 h3 x hx, by assumption⟩
      · cases h
theorem sum_le {l : List Int} {m : Int} (h : ∀ x ∈ l, 0 ≤ x ∧ x ≤ m) : 0 ≤ l.sum ∧ l.sum ≤ l.length * m := by
  induction l with
  | nil => simp
  | cons x l ih =>
    have h1 := h x List.mem_cons_self
    have h2 := ih fun y hy => h y (List.mem_cons_of_mem _ hy)
    simp only [List.sum_cons, List.length_cons]
    rw [show ((l.length + 1 : Nat) : Int) = (l.length : Int) + 1 by omega, Int.add_mul, Int.one_mul]
    omega
theorem sqs_le {l : List Int} {m : Int} (h : ∀ x ∈ l, 0 ≤ x ∧ x ≤ m) : 0 ≤ sqs l ∧ sqs l ≤ l.length * (m * m) := by
  unfold sqs
  have := sum_le (l := l.map fun x => x * x) (m := m * m) fun y hy => by
    obtain ⟨x, hx, rfl⟩ := List.mem_map.1 hy
    have := h x hx
    exact ⟨Int.mul_nonneg this.1 this.1, Int.mul_le_mul this.2 this.2 this.1 (by omega)⟩
  rw [List.length_map] at this
  exact this
theorem gain_bounds {l : List Int} (h : chE l = 0) : 0 ≤ gainN l ∧ gainN l ≤ 160000000000 ∧ 0 < gainD l ∧ gainD l ≤ 16000000 ∧ (0 < l.sum ∧ l.sum ≤ 400000) ∧ (0 ≤ sqs l ∧ sqs l ≤ 4000000000) ∧ (0 ≤ l.length * sqs l ∧ l.length * sqs l ≤ 160000000000) ∧ (0 ≤ l.sum * l.sum ∧ l.sum * l.sum ≤ 160000000000) := by
  obtain ⟨h1, h2, h3, h4⟩ := chE_ok h
  have s1 := sum_le h3
  have s2 := sqs_le h3
  have s3 := sum_sq l
  have n1 : (1 : Int) ≤ (l.length : Int) ∧ (l.length : Int) ≤ 40 := by omega
  unfold gainN gainD
  generalize (l.length : Int) = n at *
  generalize sqs l = q at *
  generalize l.sum = s at *
  have q1 : q ≤ 4000000000 := by omega
  have q2 : s ≤ 400000 := by omega
  have m1 : n * q ≤ 40 * 4000000000 := Int.mul_le_mul n1.2 q1 s2.1 (by omega)
  have m2 : s * s ≤ 400000 * 400000 := Int.mul_le_mul q2 q2 s1.1 (by omega)
  have m3 : n * s ≤ 40 * 400000 := Int.mul_le_mul n1.2 q2 s1.1 (by omega)
  have m4 : 0 < n * s := Int.mul_pos (by omega) (by omega)
  have m5 : 0 ≤ n * q := Int.mul_nonneg (by omega) s2.1
  have m6 : 0 ≤ s * s := Int.mul_nonneg s1.1 s1.1
  omega
theorem sum_map_mul (by_ : Int) : ∀ l : List Int, (l.map (· * by_)).sum = l.sum * by_
  | [] => by simp
  | x :: l => by simp only [List.map_cons, List.sum_cons]; rw [sum_map_mul by_ l, Int.add_mul]
theorem sqs_map_mul (by_ : Int) : ∀ l : List Int, sqs (l.map (· * by_)) = sqs l * (by_ * by_)
  | [] => by simp [sqs]
  | x :: l => by
    have ih := sqs_map_mul by_ l
    unfold sqs at *
    simp only [List.map_cons, List.sum_cons]
    rw [ih, Int.add_mul, i4comm]
/-- CHARGES TIMES A NUMBER HAVE THE GAIN TIMES IT. -/
theorem gain_scale {l : List Int} {by_ : Int} (h : chE l = 0) (hb : 1 ≤ by_) :
    lowN (gainN (l.map (· * by_))) (gainD (l.map (· * by_))) = lowN (lowN (gainN l) (gainD l) * by_) (lowD (gainN l) (gainD l)) ∧
    lowD (gainN (l.map (· * by_))) (gainD (l.map (· * by_))) = lowD (lowN (gainN l) (gainD l) * by_) (lowD (gainN l) (gainD l)) := by
  obtain ⟨_, _, b3, _⟩ := gain_bounds h
  have e1 : gainN (l.map (· * by_)) = gainN l * (by_ * by_) := by
    unfold gainN
    rw [List.length_map, sqs_map_mul, sum_map_mul, Int.sub_mul, i4comm, Int.mul_assoc (l.length : Int)]
  have e2 : gainD (l.map (· * by_)) = gainD l * by_ := by
    unfold gainD
    rw [List.length_map, sum_map_mul, Int.mul_assoc]
  obtain ⟨g, g1, g2, g3, _⟩ := low_parts (n := gainN l) b3
  have p := (low_pos (n := gainN l) b3).1
  rw [e1, e2]
  generalize hx : lowN (gainN l) (gainD l) = x at *
  generalize hy : lowD (gainN l) (gainD l) = y at *
  refine low_eq (Int.mul_pos b3 (by omega)) p ?_
  have q : gainN l * y = x * gainD l := by
    rw [g2]
    conv => rhs; rw [g3]
    rw [Int.mul_comm g x, Int.mul_assoc]
  have q1 : gainN l * (by_ * by_) * y = gainN l * y * (by_ * by_) := by rw [Int.mul_assoc, Int.mul_comm (by_ * by_) y, Int.mul_assoc]
  have q2 : x * by_ * (gainD l * by_) = x * gainD l * (by_ * by_) := by rw [i4comm]
  rw [q1, q2, q]

end Go.Proofs.YtddiingfddlaaaaDoor

/- Contracts: samples, times, dead times. By an AI agent; nothing here is trusted. -/
namespace Go.Proofs.YtddiingfddlaaaaDoor
open Go.Av

end Go.Proofs.YtddiingfddlaaaaDoor

/- Contracts: sums, lowest terms, gains, charges. By an AI agent; nothing here is trusted. -/
namespace Go.Proofs.YtddiingfddlaaaaDoor
open Go.Av

def mxTo (l : List Int) (n : Nat) : Int := (l.take n).foldl max (l.headD 0)
theorem mxTo_succ (l : List Int) (n : Nat) (h : n < l.length) : mxTo l (n + 1) = max (mxTo l n) l[n] := by
  unfold mxTo; rw [List.take_succ_eq_append_getElem h, List.foldl_append]; rfl
theorem mxTo_one (l : List Int) (h : 0 < l.length) : mxTo l 1 = l[0] := by
  cases l with
  | nil => simp at h
  | cons a l => simp [mxTo]
def mxL (l : List Int) : Int := mxTo l l.length

theorem Max_s (l : List Int) (h0 : 0 < l.length) (hl : l.length < 4000000000000000000) : Sound Tryd.prog 64 [.sl (ints l)] (.int .i64 (mxL l)) := by
  refine sound_W f_slices_Max_int_int (Nat.le_of_ble_eq_true rfl) ?_
  have h1 : ¬ (l.length : Int) < 1 := by omega
  simp only [c_slices_Max_int_int, h1, show Int.toNat 0 = 0 from rfl, ints_get l 0 h0, vcV, vcD, Int.reduceEq, Int.reduceNe, Int.reduceLT, Int.reduceLE, Nat.reduceEqDiff, Nat.reduceAdd, reduceIte, reduceCtorEq, Nat.reduceLT, Nat.reduceLeDiff, eq_self, Option.bind_some, Option.map_some, List.map_cons, List.map_nil, List.length_cons, List.length_nil, Option.getD_some, Option.getD_none, List.all_cons, List.all_nil, List.set_cons_zero, List.set_cons_succ, List.replicate_succ, List.replicate_zero, List.getElem?_cons_zero, List.getElem?_cons_succ, List.drop_succ_cons, List.drop_zero, List.take_succ_cons, List.take_zero, List.map_append, List.nil_append, List.cons_append, Nat.reduceShiftRight, Nat.reduceMod]
  rw [← mxTo_one l h0]
  refine W_loop (t := .mk) (α := PSigma fun i : Nat => i ≤ (l.length - 1) ∧ (True)) (fun ⟨i, _⟩ => ((envOf [(0, .sl (ints l)), (3, .int .i64 (mxTo l (1 + i))), (4, .int .i64 ((1 + i : Nat) : Int))], stOf []))) (fun i => (l.length - 1) - i.1) ⟨0, Nat.zero_le _, ?_⟩ ?_ (fun ⟨i, hi, hn⟩ => ?_)
  · trivial
  · refine weakX [] (of_decide_eq_true rfl) (of_decide_eq_true rfl) ?_
    (simp only [vcW, vcV, vcD, Int.reduceEq, Int.reduceNe, Int.reduceLT, Int.reduceLE, Nat.reduceEqDiff, Nat.reduceAdd, reduceIte, reduceCtorEq, Nat.reduceLT, Nat.reduceLeDiff, eq_self, Option.bind_some, Option.map_some, List.map_cons, List.map_nil, List.length_cons, List.length_nil, Option.getD_some, Option.getD_none, List.all_cons, List.all_nil, List.set_cons_zero, List.set_cons_succ, List.replicate_succ, List.replicate_zero, List.getElem?_cons_zero, List.getElem?_cons_succ, List.drop_succ_cons, List.drop_zero, List.take_succ_cons, List.take_zero, List.map_append, List.nil_append, List.cons_append, Nat.reduceShiftRight, Nat.reduceMod])
    (repeat' first | exact trivial | (with_reducible exact RnB.fxB (ints_fxB _)) | (with_reducible rfl) | (with_reducible refine And.intro ?_ ?_) | (with_reducible refine RnB.bb ?_; simp only [vcW, vcV, vcD, Int.reduceEq, Int.reduceNe, Int.reduceLT, Int.reduceLE, Nat.reduceEqDiff, Nat.reduceAdd, reduceIte, reduceCtorEq, Nat.reduceLT, Nat.reduceLeDiff, eq_self, Option.bind_some, Option.map_some, List.map_cons, List.map_nil, List.length_cons, List.length_nil, Option.getD_some, Option.getD_none, List.all_cons, List.all_nil, List.set_cons_zero, List.set_cons_succ, List.replicate_succ, List.replicate_zero, List.getElem?_cons_zero, List.getElem?_cons_succ, List.drop_succ_cons, List.drop_zero, List.take_succ_cons, List.take_zero, List.map_append, List.nil_append, List.cons_append, Nat.reduceShiftRight, Nat.reduceMod]) | (with_reducible refine RnB.nb ?_; simp only [vcW, vcV, vcD, Int.reduceEq, Int.reduceNe, Int.reduceLT, Int.reduceLE, Nat.reduceEqDiff, Nat.reduceAdd, reduceIte, reduceCtorEq, Nat.reduceLT, Nat.reduceLeDiff, eq_self, Option.bind_some, Option.map_some, List.map_cons, List.map_nil, List.length_cons, List.length_nil, Option.getD_some, Option.getD_none, List.all_cons, List.all_nil, List.set_cons_zero, List.set_cons_succ, List.replicate_succ, List.replicate_zero, List.getElem?_cons_zero, List.getElem?_cons_succ, List.drop_succ_cons, List.drop_zero, List.take_succ_cons, List.take_zero, List.map_append, List.nil_append, List.cons_append, Nat.reduceShiftRight, Nat.reduceMod]) | (with_reducible refine RnB.ii ?_) | (with_reducible refine RnB.app ?_) | (with_reducible refine RnB.fxB ?_; simp only [vcW, vcV, vcD, Int.reduceEq, Int.reduceNe, Int.reduceLT, Int.reduceLE, Nat.reduceEqDiff, Nat.reduceAdd, reduceIte, reduceCtorEq, Nat.reduceLT, Nat.reduceLeDiff, eq_self, Option.bind_some, Option.map_some, List.map_cons, List.map_nil, List.length_cons, List.length_nil, Option.getD_some, Option.getD_none, List.all_cons, List.all_nil, List.set_cons_zero, List.set_cons_succ, List.replicate_succ, List.replicate_zero, List.getElem?_cons_zero, List.getElem?_cons_succ, List.drop_succ_cons, List.drop_zero, List.take_succ_cons, List.take_zero, List.map_append, List.nil_append, List.cons_append, Nat.reduceShiftRight, Nat.reduceMod]) | omega)
    all_goals rfl
  · simp only [vcV, vcD, Int.reduceEq, Int.reduceNe, Int.reduceLT, Int.reduceLE, Nat.reduceEqDiff, Nat.reduceAdd, reduceIte, reduceCtorEq, Nat.reduceLT, Nat.reduceLeDiff, eq_self, Option.bind_some, Option.map_some, List.map_cons, List.map_nil, List.length_cons, List.length_nil, Option.getD_some, Option.getD_none, List.all_cons, List.all_nil, List.set_cons_zero, List.set_cons_succ, List.replicate_succ, List.replicate_zero, List.getElem?_cons_zero, List.getElem?_cons_succ, List.drop_succ_cons, List.drop_zero, List.take_succ_cons, List.take_zero, List.map_append, List.nil_append, List.cons_append, Nat.reduceShiftRight, Nat.reduceMod]
    refine brB_split (fun h => ?_) (fun h => ?_)
    · have h' : 1 + i < l.length := by (simp only [decide_eq_true_eq, decide_eq_false_iff_not, Bool.not_true, I64, Bool.not_eq_true', Bool.not_eq_false', bne_iff_ne, beq_iff_eq, ne_eq] at *; omega)
      have hs := mxTo_succ l (1 + i) h'
      simp only [ints_get l (1 + i) h', vcV, vcD, Int.reduceEq, Int.reduceNe, Int.reduceLT, Int.reduceLE, Nat.reduceEqDiff, Nat.reduceAdd, reduceIte, reduceCtorEq, Nat.reduceLT, Nat.reduceLeDiff, eq_self, Option.bind_some, Option.map_some, List.map_cons, List.map_nil, List.length_cons, List.length_nil, Option.getD_some, Option.getD_none, List.all_cons, List.all_nil, List.set_cons_zero, List.set_cons_succ, List.replicate_succ, List.replicate_zero, List.getElem?_cons_zero, List.getElem?_cons_succ, List.drop_succ_cons, List.drop_zero, List.take_succ_cons, List.take_zero, List.map_append, List.nil_append, List.cons_append, Nat.reduceShiftRight, Nat.reduceMod]
      refine ⟨by (simp only [decide_eq_true_eq, decide_eq_false_iff_not, Bool.not_true, I64, Bool.not_eq_true', Bool.not_eq_false', bne_iff_ne, beq_iff_eq, ne_eq] at *; omega), by (simp only [decide_eq_true_eq, decide_eq_false_iff_not, Bool.not_true, I64, Bool.not_eq_true', Bool.not_eq_false', bne_iff_ne, beq_iff_eq, ne_eq] at *; omega), ⟨⟨i + 1, by (simp only [decide_eq_true_eq, decide_eq_false_iff_not, Bool.not_true, I64, Bool.not_eq_true', Bool.not_eq_false', bne_iff_ne, beq_iff_eq, ne_eq] at *; omega), ?_⟩, by simp only; (try simp only [decide_eq_true_eq] at *); omega, ?_⟩⟩
      · trivial
      · refine weakX [] (of_decide_eq_true rfl) (of_decide_eq_true rfl) ?_
        (simp only [← Nat.add_assoc, hs, vcW, vcV, vcD, Int.reduceEq, Int.reduceNe, Int.reduceLT, Int.reduceLE, Nat.reduceEqDiff, Nat.reduceAdd, reduceIte, reduceCtorEq, Nat.reduceLT, Nat.reduceLeDiff, eq_self, Option.bind_some, Option.map_some, List.map_cons, List.map_nil, List.length_cons, List.length_nil, Option.getD_some, Option.getD_none, List.all_cons, List.all_nil, List.set_cons_zero, List.set_cons_succ, List.replicate_succ, List.replicate_zero, List.getElem?_cons_zero, List.getElem?_cons_succ, List.drop_succ_cons, List.drop_zero, List.take_succ_cons, List.take_zero, List.map_append, List.nil_append, List.cons_append, Nat.reduceShiftRight, Nat.reduceMod])
        (repeat' first | exact trivial | (with_reducible exact RnB.fxB (ints_fxB _)) | (with_reducible rfl) | (with_reducible refine And.intro ?_ ?_) | (with_reducible refine RnB.bb ?_; simp only [vcW, vcV, vcD, Int.reduceEq, Int.reduceNe, Int.reduceLT, Int.reduceLE, Nat.reduceEqDiff, Nat.reduceAdd, reduceIte, reduceCtorEq, Nat.reduceLT, Nat.reduceLeDiff, eq_self, Option.bind_some, Option.map_some, List.map_cons, List.map_nil, List.length_cons, List.length_nil, Option.getD_some, Option.getD_none, List.all_cons, List.all_nil, List.set_cons_zero, List.set_cons_succ, List.replicate_succ, List.replicate_zero, List.getElem?_cons_zero, List.getElem?_cons_succ, List.drop_succ_cons, List.drop_zero, List.take_succ_cons, List.take_zero, List.map_append, List.nil_append, List.cons_append, Nat.reduceShiftRight, Nat.reduceMod]) | (with_reducible refine RnB.nb ?_; simp only [vcW, vcV, vcD, Int.reduceEq, Int.reduceNe, Int.reduceLT, Int.reduceLE, Nat.reduceEqDiff, Nat.reduceAdd, reduceIte, reduceCtorEq, Nat.reduceLT, Nat.reduceLeDiff, eq_self, Option.bind_some, Option.map_some, List.map_cons, List.map_nil, List.length_cons, List.length_nil, Option.getD_some, Option.getD_none, List.all_cons, List.all_nil, List.set_cons_zero, List.set_cons_succ, List.replicate_succ, List.replicate_zero, List.getElem?_cons_zero, List.getElem?_cons_succ, List.drop_succ_cons, List.drop_zero, List.take_succ_cons, List.take_zero, List.map_append, List.nil_append, List.cons_append, Nat.reduceShiftRight, Nat.reduceMod]) | (with_reducible refine RnB.ii ?_) | (with_reducible refine RnB.app ?_) | (with_reducible refine RnB.fxB ?_; simp only [vcW, vcV, vcD, Int.reduceEq, Int.reduceNe, Int.reduceLT, Int.reduceLE, Nat.reduceEqDiff, Nat.reduceAdd, reduceIte, reduceCtorEq, Nat.reduceLT, Nat.reduceLeDiff, eq_self, Option.bind_some, Option.map_some, List.map_cons, List.map_nil, List.length_cons, List.length_nil, Option.getD_some, Option.getD_none, List.all_cons, List.all_nil, List.set_cons_zero, List.set_cons_succ, List.replicate_succ, List.replicate_zero, List.getElem?_cons_zero, List.getElem?_cons_succ, List.drop_succ_cons, List.drop_zero, List.take_succ_cons, List.take_zero, List.map_append, List.nil_append, List.cons_append, Nat.reduceShiftRight, Nat.reduceMod]) | omega)
    · simp only [vcV, vcD, Int.reduceEq, Int.reduceNe, Int.reduceLT, Int.reduceLE, Nat.reduceEqDiff, Nat.reduceAdd, reduceIte, reduceCtorEq, Nat.reduceLT, Nat.reduceLeDiff, eq_self, Option.bind_some, Option.map_some, List.map_cons, List.map_nil, List.length_cons, List.length_nil, Option.getD_some, Option.getD_none, List.all_cons, List.all_nil, List.set_cons_zero, List.set_cons_succ, List.replicate_succ, List.replicate_zero, List.getElem?_cons_zero, List.getElem?_cons_succ, List.drop_succ_cons, List.drop_zero, List.take_succ_cons, List.take_zero, List.map_append, List.nil_append, List.cons_append, Nat.reduceShiftRight, Nat.reduceMod]
      have he : l.length = 1 + i := by (simp only [decide_eq_true_eq, decide_eq_false_iff_not, Bool.not_true, I64, Bool.not_eq_true', Bool.not_eq_false', bne_iff_ne, beq_iff_eq, ne_eq] at *; omega)
      unfold mxL
      rw [he]

theorem divisor_s (a b : Int) (ha : S63 a) (hb : S63 b) : Sound Tryd.prog 92 [.int .i64 a, .int .i64 b] (.int .i64 (Int.gcd a b)) := by
  refine sound_W f_pulse_divisor (Nat.le_of_ble_eq_true rfl) ?_
  simp only [c_pulse_divisor, vcV, vcD, Int.reduceEq, Int.reduceNe, Int.reduceLT, Int.reduceLE, Nat.reduceEqDiff, Nat.reduceAdd, reduceIte, reduceCtorEq, Nat.reduceLT, Nat.reduceLeDiff, eq_self, Option.bind_some, Option.map_some, List.map_cons, List.map_nil, List.length_cons, List.length_nil, Option.getD_some, Option.getD_none, List.all_cons, List.all_nil, List.set_cons_zero, List.set_cons_succ, List.replicate_succ, List.replicate_zero, List.getElem?_cons_zero, List.getElem?_cons_succ, List.drop_succ_cons, List.drop_zero, List.take_succ_cons, List.take_zero, List.map_append, List.nil_append, List.cons_append, Nat.reduceShiftRight, Nat.reduceMod]
  refine W_loop (α := PSigma fun p : Int × Int => S63 p.1 ∧ S63 p.2 ∧ Int.gcd p.1 p.2 = Int.gcd a b) (fun p => (envOf [(0, .int .i64 p.1.1), (1, .int .i64 p.1.2)], noStore)) (fun p => p.1.2.natAbs) ⟨(a, b), ha, hb, rfl⟩ (weakE _ ?_) (fun ⟨p, h1, h2, h3⟩ => ?_)
  · simp only [vcV, vcD, Int.reduceEq, Int.reduceNe, Int.reduceLT, Int.reduceLE, Nat.reduceEqDiff, Nat.reduceAdd, reduceIte, reduceCtorEq, Nat.reduceLT, Nat.reduceLeDiff, eq_self, Option.bind_some, Option.map_some, List.map_cons, List.map_nil, List.length_cons, List.length_nil, Option.getD_some, Option.getD_none, List.all_cons, List.all_nil, List.set_cons_zero, List.set_cons_succ, List.replicate_succ, List.replicate_zero, List.getElem?_cons_zero, List.getElem?_cons_succ, List.drop_succ_cons, List.drop_zero, List.take_succ_cons, List.take_zero, List.map_append, List.nil_append, List.cons_append, Nat.reduceShiftRight, Nat.reduceMod]
  · obtain ⟨x, y⟩ := p
    simp only at h1 h2 h3
    simp only [vcV, vcD, Int.reduceEq, Int.reduceNe, Int.reduceLT, Int.reduceLE, Nat.reduceEqDiff, Nat.reduceAdd, reduceIte, reduceCtorEq, Nat.reduceLT, Nat.reduceLeDiff, eq_self, Option.bind_some, Option.map_some, List.map_cons, List.map_nil, List.length_cons, List.length_nil, Option.getD_some, Option.getD_none, List.all_cons, List.all_nil, List.set_cons_zero, List.set_cons_succ, List.replicate_succ, List.replicate_zero, List.getElem?_cons_zero, List.getElem?_cons_succ, List.drop_succ_cons, List.drop_zero, List.take_succ_cons, List.take_zero, List.map_append, List.nil_append, List.cons_append, Nat.reduceShiftRight, Nat.reduceMod]
    refine brB_split (fun h => ?_) (fun h => ?_)
    · have hy : y ≠ 0 := by simpa using h
      obtain ⟨t1, t2⟩ := tmod_S (a := x) h2 hy
      simp only [vcV, vcD, Int.reduceEq, Int.reduceNe, Int.reduceLT, Int.reduceLE, Nat.reduceEqDiff, Nat.reduceAdd, reduceIte, reduceCtorEq, Nat.reduceLT, Nat.reduceLeDiff, eq_self, Option.bind_some, Option.map_some, List.map_cons, List.map_nil, List.length_cons, List.length_nil, Option.getD_some, Option.getD_none, List.all_cons, List.all_nil, List.set_cons_zero, List.set_cons_succ, List.replicate_succ, List.replicate_zero, List.getElem?_cons_zero, List.getElem?_cons_succ, List.drop_succ_cons, List.drop_zero, List.take_succ_cons, List.take_zero, List.map_append, List.nil_append, List.cons_append, Nat.reduceShiftRight, Nat.reduceMod]
      refine ⟨hy, ⟨(y, x.tmod y), h2, t1, (gcd_tmod x y).trans h3⟩, t2, weakE _ ?_⟩
      simp only [vcV, vcD, Int.reduceEq, Int.reduceNe, Int.reduceLT, Int.reduceLE, Nat.reduceEqDiff, Nat.reduceAdd, reduceIte, reduceCtorEq, Nat.reduceLT, Nat.reduceLeDiff, eq_self, Option.bind_some, Option.map_some, List.map_cons, List.map_nil, List.length_cons, List.length_nil, Option.getD_some, Option.getD_none, List.all_cons, List.all_nil, List.set_cons_zero, List.set_cons_succ, List.replicate_succ, List.replicate_zero, List.getElem?_cons_zero, List.getElem?_cons_succ, List.drop_succ_cons, List.drop_zero, List.take_succ_cons, List.take_zero, List.map_append, List.nil_append, List.cons_append, Nat.reduceShiftRight, Nat.reduceMod]
    · have hy : y = 0 := by simpa using h
      subst hy
      unfold S63 at h1
      simp only [max_neg, vcV, vcD, Int.reduceEq, Int.reduceNe, Int.reduceLT, Int.reduceLE, Nat.reduceEqDiff, Nat.reduceAdd, reduceIte, reduceCtorEq, Nat.reduceLT, Nat.reduceLeDiff, eq_self, Option.bind_some, Option.map_some, List.map_cons, List.map_nil, List.length_cons, List.length_nil, Option.getD_some, Option.getD_none, List.all_cons, List.all_nil, List.set_cons_zero, List.set_cons_succ, List.replicate_succ, List.replicate_zero, List.getElem?_cons_zero, List.getElem?_cons_succ, List.drop_succ_cons, List.drop_zero, List.take_succ_cons, List.take_zero, List.map_append, List.nil_append, List.cons_append, Nat.reduceShiftRight, Nat.reduceMod]
      refine ⟨by (simp only [decide_eq_true_eq, decide_eq_false_iff_not, Bool.not_true, I64, Bool.not_eq_true', Bool.not_eq_false', bne_iff_ne, beq_iff_eq, ne_eq] at *; omega), ?_⟩
      rw [← h3]; simp [Int.gcd]

theorem pLowest_s (num den : Int) (hn : 0 ≤ num) (hn2 : num ≤ 9223372036854775807) (hd : 0 < den) (hd2 : den ≤ 9223372036854775807) : Sound Tryd.prog 66 [.int .i64 num, .int .i64 den]
    (.tup (if smallF (lowN num den) (lowD num den) then [fracA (lowN num den) (lowD num den), .int .i64 0] else [fracA 0 0, .int .i64 8])) := by
  refine sound_W f_pulse_lowest (Nat.le_of_ble_eq_true rfl) ?_
  have hg : 0 < Int.gcd num den := Int.gcd_pos_of_ne_zero_right _ (by omega)
  have hgl := gcd_S (a := num) (b := den) (by unfold S63; omega) (by omega)
  have t1 := tdiv_S (b := lowG num den) (a := num) (by unfold S63; omega)
  have t2 := tdiv_S (b := lowG num den) (a := den) (by unfold S63; omega)
  have e : lowG num den = (Int.gcd num den : Int) := by unfold lowG; rw [if_neg (by omega)]
  have p1 := (low_pos (n := num) hd).1
  have p2 := (low_pos (n := num) hd).2 hn
  have eN : num.tdiv (Int.gcd num den : Int) = lowN num den := by unfold lowN; rw [e]
  have eD : den.tdiv (Int.gcd num den : Int) = lowD num den := by unfold lowD; rw [e]
  rw [e] at t1 t2
  rw [eN] at t1
  rw [eD] at t2
  unfold S63 at t1 t2
  simp only [c_pulse_lowest, vcV, vcD, Int.reduceEq, Int.reduceNe, Int.reduceLT, Int.reduceLE, Nat.reduceEqDiff, Nat.reduceAdd, reduceIte, reduceCtorEq, Nat.reduceLT, Nat.reduceLeDiff, eq_self, Option.bind_some, Option.map_some, List.map_cons, List.map_nil, List.length_cons, List.length_nil, Option.getD_some, Option.getD_none, List.all_cons, List.all_nil, List.set_cons_zero, List.set_cons_succ, List.replicate_succ, List.replicate_zero, List.getElem?_cons_zero, List.getElem?_cons_succ, List.drop_succ_cons, List.drop_zero, List.take_succ_cons, List.take_zero, List.map_append, List.nil_append, List.cons_append, Nat.reduceShiftRight, Nat.reduceMod]
  refine callS_of (divisor_s num den (by unfold S63; omega) (by unfold S63; omega)) ?_
  simp only [eN, eD, vcV, vcD, Int.reduceEq, Int.reduceNe, Int.reduceLT, Int.reduceLE, Nat.reduceEqDiff, Nat.reduceAdd, reduceIte, reduceCtorEq, Nat.reduceLT, Nat.reduceLeDiff, eq_self, Option.bind_some, Option.map_some, List.map_cons, List.map_nil, List.length_cons, List.length_nil, Option.getD_some, Option.getD_none, List.all_cons, List.all_nil, List.set_cons_zero, List.set_cons_succ, List.replicate_succ, List.replicate_zero, List.getElem?_cons_zero, List.getElem?_cons_succ, List.drop_succ_cons, List.drop_zero, List.take_succ_cons, List.take_zero, List.map_append, List.nil_append, List.cons_append, Nat.reduceShiftRight, Nat.reduceMod]
  generalize lowN num den = n at *
  generalize lowD num den = d at *
  have hne : ((Int.gcd num den : Nat) : Int) ≠ 0 := by omega
  refine ⟨hne, by unfold I64; omega, hne, by unfold I64; omega, ?_⟩
  by_cases h1 : 1000000000 < n
  · have hs : smallF n d = false := by unfold smallF; rw [decide_eq_false (by omega)]; rfl
    simp only [h1, hs, fracA, vcV, vcD, Int.reduceEq, Int.reduceNe, Int.reduceLT, Int.reduceLE, Nat.reduceEqDiff, Nat.reduceAdd, reduceIte, reduceCtorEq, Nat.reduceLT, Nat.reduceLeDiff, eq_self, Option.bind_some, Option.map_some, List.map_cons, List.map_nil, List.length_cons, List.length_nil, Option.getD_some, Option.getD_none, List.all_cons, List.all_nil, List.set_cons_zero, List.set_cons_succ, List.replicate_succ, List.replicate_zero, List.getElem?_cons_zero, List.getElem?_cons_succ, List.drop_succ_cons, List.drop_zero, List.take_succ_cons, List.take_zero, List.map_append, List.nil_append, List.cons_append, Nat.reduceShiftRight, Nat.reduceMod]
  · by_cases h2 : 1000000000 < d
    · have hs : smallF n d = false := by unfold smallF; rw [decide_eq_false (p := 1 ≤ d ∧ d ≤ 1000000000) (by omega)]; simp
      simp only [h1, h2, hs, fracA, vcV, vcD, Int.reduceEq, Int.reduceNe, Int.reduceLT, Int.reduceLE, Nat.reduceEqDiff, Nat.reduceAdd, reduceIte, reduceCtorEq, Nat.reduceLT, Nat.reduceLeDiff, eq_self, Option.bind_some, Option.map_some, List.map_cons, List.map_nil, List.length_cons, List.length_nil, Option.getD_some, Option.getD_none, List.all_cons, List.all_nil, List.set_cons_zero, List.set_cons_succ, List.replicate_succ, List.replicate_zero, List.getElem?_cons_zero, List.getElem?_cons_succ, List.drop_succ_cons, List.drop_zero, List.take_succ_cons, List.take_zero, List.map_append, List.nil_append, List.cons_append, Nat.reduceShiftRight, Nat.reduceMod]
    · have hs : smallF n d = true := by unfold smallF; rw [decide_eq_true (by omega), decide_eq_true (by omega)]; rfl
      simp only [h1, h2, hs, fracA, vcV, vcD, Int.reduceEq, Int.reduceNe, Int.reduceLT, Int.reduceLE, Nat.reduceEqDiff, Nat.reduceAdd, reduceIte, reduceCtorEq, Nat.reduceLT, Nat.reduceLeDiff, eq_self, Option.bind_some, Option.map_some, List.map_cons, List.map_nil, List.length_cons, List.length_nil, Option.getD_some, Option.getD_none, List.all_cons, List.all_nil, List.set_cons_zero, List.set_cons_succ, List.replicate_succ, List.replicate_zero, List.getElem?_cons_zero, List.getElem?_cons_succ, List.drop_succ_cons, List.drop_zero, List.take_succ_cons, List.take_zero, List.map_append, List.nil_append, List.cons_append, Nat.reduceShiftRight, Nat.reduceMod]

/-- Sums that fit. -/
def sumOk (l : List Int) : Prop := ∀ i, I64 ((l.take i).sum)
theorem take_sum_succ (l : List Int) (i : Nat) (h : i < l.length) : (l.take (i + 1)).sum = (l.take i).sum + l[i] := by
  rw [List.take_succ_eq_append_getElem h, List.sum_append]; simp
theorem sum_abs {l : List Int} {m : Int} (hm : 0 ≤ m) (h : ∀ x ∈ l, -m ≤ x ∧ x ≤ m) : -(l.length * m) ≤ l.sum ∧ l.sum ≤ l.length * m := by
  induction l with
  | nil => simp
  | cons x l ih =>
    have h1 := h x List.mem_cons_self
    have h2 := ih fun y hy => h y (List.mem_cons_of_mem _ hy)
    simp only [List.sum_cons, List.length_cons]
    rw [show ((l.length + 1 : Nat) : Int) = (l.length : Int) + 1 by omega, Int.add_mul, Int.one_mul]
    omega
theorem sumOk_of {l : List Int} (hl : l.length ≤ 100) (h : ∀ x ∈ l, -1000000000000 ≤ x ∧ x ≤ 1000000000000) : sumOk l := by
  intro i
  have h1 := sum_abs (l := l.take i) (m := 1000000000000) (by omega) fun x hx => h x (List.mem_of_mem_take hx)
  have h2 : ((l.take i).length : Int) ≤ 100 := by rw [List.length_take]; omega
  unfold I64; omega
theorem sum_s (l : List Int) (hl : l.length ≤ 1000000000) (h : sumOk l) : Sound Tryd.prog 65 [.sl (ints l)] (.int .i64 l.sum) := by
  refine sound_W f_pulse_sum (Nat.le_of_ble_eq_true rfl) ?_
  simp only [c_pulse_sum, vcV, vcD, Int.reduceEq, Int.reduceNe, Int.reduceLT, Int.reduceLE, Nat.reduceEqDiff, Nat.reduceAdd, reduceIte, reduceCtorEq, Nat.reduceLT, Nat.reduceLeDiff, eq_self, Option.bind_some, Option.map_some, List.map_cons, List.map_nil, List.length_cons, List.length_nil, Option.getD_some, Option.getD_none, List.all_cons, List.all_nil, List.set_cons_zero, List.set_cons_succ, List.replicate_succ, List.replicate_zero, List.getElem?_cons_zero, List.getElem?_cons_succ, List.drop_succ_cons, List.drop_zero, List.take_succ_cons, List.take_zero, List.map_append, List.nil_append, List.cons_append, Nat.reduceShiftRight, Nat.reduceMod]
  refine W_loop (t := .mk) (α := PSigma fun i : Nat => i ≤ l.length ∧ (True)) (fun ⟨i, _⟩ => ((envOf [(3, .int .i64 (l.take i).sum), (6, .sl (ints l)), (7, .int .i64 l.length), (8, .int .i64 i)], stOf []))) (fun i => l.length - i.1) ⟨0, Nat.zero_le _, ?_⟩ ?_ (fun ⟨i, hi, hn⟩ => ?_)
  · trivial
  · refine weakX [] (of_decide_eq_true rfl) (of_decide_eq_true rfl) ?_
    (simp only [vcW, vcV, vcD, Int.reduceEq, Int.reduceNe, Int.reduceLT, Int.reduceLE, Nat.reduceEqDiff, Nat.reduceAdd, reduceIte, reduceCtorEq, Nat.reduceLT, Nat.reduceLeDiff, eq_self, Option.bind_some, Option.map_some, List.map_cons, List.map_nil, List.length_cons, List.length_nil, Option.getD_some, Option.getD_none, List.all_cons, List.all_nil, List.set_cons_zero, List.set_cons_succ, List.replicate_succ, List.replicate_zero, List.getElem?_cons_zero, List.getElem?_cons_succ, List.drop_succ_cons, List.drop_zero, List.take_succ_cons, List.take_zero, List.map_append, List.nil_append, List.cons_append, Nat.reduceShiftRight, Nat.reduceMod])
    (repeat' first | exact trivial | (with_reducible exact RnB.fxB (ints_fxB _)) | (with_reducible rfl) | (with_reducible refine And.intro ?_ ?_) | (with_reducible refine RnB.bb ?_; simp only [vcW, vcV, vcD, Int.reduceEq, Int.reduceNe, Int.reduceLT, Int.reduceLE, Nat.reduceEqDiff, Nat.reduceAdd, reduceIte, reduceCtorEq, Nat.reduceLT, Nat.reduceLeDiff, eq_self, Option.bind_some, Option.map_some, List.map_cons, List.map_nil, List.length_cons, List.length_nil, Option.getD_some, Option.getD_none, List.all_cons, List.all_nil, List.set_cons_zero, List.set_cons_succ, List.replicate_succ, List.replicate_zero, List.getElem?_cons_zero, List.getElem?_cons_succ, List.drop_succ_cons, List.drop_zero, List.take_succ_cons, List.take_zero, List.map_append, List.nil_append, List.cons_append, Nat.reduceShiftRight, Nat.reduceMod]) | (with_reducible refine RnB.nb ?_; simp only [vcW, vcV, vcD, Int.reduceEq, Int.reduceNe, Int.reduceLT, Int.reduceLE, Nat.reduceEqDiff, Nat.reduceAdd, reduceIte, reduceCtorEq, Nat.reduceLT, Nat.reduceLeDiff, eq_self, Option.bind_some, Option.map_some, List.map_cons, List.map_nil, List.length_cons, List.length_nil, Option.getD_some, Option.getD_none, List.all_cons, List.all_nil, List.set_cons_zero, List.set_cons_succ, List.replicate_succ, List.replicate_zero, List.getElem?_cons_zero, List.getElem?_cons_succ, List.drop_succ_cons, List.drop_zero, List.take_succ_cons, List.take_zero, List.map_append, List.nil_append, List.cons_append, Nat.reduceShiftRight, Nat.reduceMod]) | (with_reducible refine RnB.ii ?_) | (with_reducible refine RnB.app ?_) | (with_reducible refine RnB.fxB ?_; simp only [vcW, vcV, vcD, Int.reduceEq, Int.reduceNe, Int.reduceLT, Int.reduceLE, Nat.reduceEqDiff, Nat.reduceAdd, reduceIte, reduceCtorEq, Nat.reduceLT, Nat.reduceLeDiff, eq_self, Option.bind_some, Option.map_some, List.map_cons, List.map_nil, List.length_cons, List.length_nil, Option.getD_some, Option.getD_none, List.all_cons, List.all_nil, List.set_cons_zero, List.set_cons_succ, List.replicate_succ, List.replicate_zero, List.getElem?_cons_zero, List.getElem?_cons_succ, List.drop_succ_cons, List.drop_zero, List.take_succ_cons, List.take_zero, List.map_append, List.nil_append, List.cons_append, Nat.reduceShiftRight, Nat.reduceMod]) | omega)
    all_goals rfl
  · by_cases h' : i < l.length
    · have h2 : (i : Int) < l.length := by omega
      have hs := take_sum_succ l i h'
      have hi1 := h (i + 1)
      rw [hs] at hi1
      simp only [h2, ints_get l i h', vcV, vcD, Int.reduceEq, Int.reduceNe, Int.reduceLT, Int.reduceLE, Nat.reduceEqDiff, Nat.reduceAdd, reduceIte, reduceCtorEq, Nat.reduceLT, Nat.reduceLeDiff, eq_self, Option.bind_some, Option.map_some, List.map_cons, List.map_nil, List.length_cons, List.length_nil, Option.getD_some, Option.getD_none, List.all_cons, List.all_nil, List.set_cons_zero, List.set_cons_succ, List.replicate_succ, List.replicate_zero, List.getElem?_cons_zero, List.getElem?_cons_succ, List.drop_succ_cons, List.drop_zero, List.take_succ_cons, List.take_zero, List.map_append, List.nil_append, List.cons_append, Nat.reduceShiftRight, Nat.reduceMod]
      refine ⟨by omega, hi1, by unfold I64; omega, ⟨i + 1, h', trivial⟩, by simp only; omega, ?_⟩
      refine weakX [] (of_decide_eq_true rfl) (of_decide_eq_true rfl) ?_
      (simp only [hs, vcW, vcV, vcD, Int.reduceEq, Int.reduceNe, Int.reduceLT, Int.reduceLE, Nat.reduceEqDiff, Nat.reduceAdd, reduceIte, reduceCtorEq, Nat.reduceLT, Nat.reduceLeDiff, eq_self, Option.bind_some, Option.map_some, List.map_cons, List.map_nil, List.length_cons, List.length_nil, Option.getD_some, Option.getD_none, List.all_cons, List.all_nil, List.set_cons_zero, List.set_cons_succ, List.replicate_succ, List.replicate_zero, List.getElem?_cons_zero, List.getElem?_cons_succ, List.drop_succ_cons, List.drop_zero, List.take_succ_cons, List.take_zero, List.map_append, List.nil_append, List.cons_append, Nat.reduceShiftRight, Nat.reduceMod])
      (repeat' first | exact trivial | (with_reducible exact RnB.fxB (ints_fxB _)) | (with_reducible rfl) | (with_reducible refine And.intro ?_ ?_) | (with_reducible refine RnB.bb ?_; simp only [vcW, vcV, vcD, Int.reduceEq, Int.reduceNe, Int.reduceLT, Int.reduceLE, Nat.reduceEqDiff, Nat.reduceAdd, reduceIte, reduceCtorEq, Nat.reduceLT, Nat.reduceLeDiff, eq_self, Option.bind_some, Option.map_some, List.map_cons, List.map_nil, List.length_cons, List.length_nil, Option.getD_some, Option.getD_none, List.all_cons, List.all_nil, List.set_cons_zero, List.set_cons_succ, List.replicate_succ, List.replicate_zero, List.getElem?_cons_zero, List.getElem?_cons_succ, List.drop_succ_cons, List.drop_zero, List.take_succ_cons, List.take_zero, List.map_append, List.nil_append, List.cons_append, Nat.reduceShiftRight, Nat.reduceMod]) | (with_reducible refine RnB.nb ?_; simp only [vcW, vcV, vcD, Int.reduceEq, Int.reduceNe, Int.reduceLT, Int.reduceLE, Nat.reduceEqDiff, Nat.reduceAdd, reduceIte, reduceCtorEq, Nat.reduceLT, Nat.reduceLeDiff, eq_self, Option.bind_some, Option.map_some, List.map_cons, List.map_nil, List.length_cons, List.length_nil, Option.getD_some, Option.getD_none, List.all_cons, List.all_nil, List.set_cons_zero, List.set_cons_succ, List.replicate_succ, List.replicate_zero, List.getElem?_cons_zero, List.getElem?_cons_succ, List.drop_succ_cons, List.drop_zero, List.take_succ_cons, List.take_zero, List.map_append, List.nil_append, List.cons_append, Nat.reduceShiftRight, Nat.reduceMod]) | (with_reducible refine RnB.ii ?_) | (with_reducible refine RnB.app ?_) | (with_reducible refine RnB.fxB ?_; simp only [vcW, vcV, vcD, Int.reduceEq, Int.reduceNe, Int.reduceLT, Int.reduceLE, Nat.reduceEqDiff, Nat.reduceAdd, reduceIte, reduceCtorEq, Nat.reduceLT, Nat.reduceLeDiff, eq_self, Option.bind_some, Option.map_some, List.map_cons, List.map_nil, List.length_cons, List.length_nil, Option.getD_some, Option.getD_none, List.all_cons, List.all_nil, List.set_cons_zero, List.set_cons_succ, List.replicate_succ, List.replicate_zero, List.getElem?_cons_zero, List.getElem?_cons_succ, List.drop_succ_cons, List.drop_zero, List.take_succ_cons, List.take_zero, List.map_append, List.nil_append, List.cons_append, Nat.reduceShiftRight, Nat.reduceMod]) | omega)
    · have h2 : ¬ (i : Int) < l.length := by omega
      have he : i = l.length := by omega
      subst he
      simp only [h2, List.take_length, vcV, vcD, Int.reduceEq, Int.reduceNe, Int.reduceLT, Int.reduceLE, Nat.reduceEqDiff, Nat.reduceAdd, reduceIte, reduceCtorEq, Nat.reduceLT, Nat.reduceLeDiff, eq_self, Option.bind_some, Option.map_some, List.map_cons, List.map_nil, List.length_cons, List.length_nil, Option.getD_some, Option.getD_none, List.all_cons, List.all_nil, List.set_cons_zero, List.set_cons_succ, List.replicate_succ, List.replicate_zero, List.getElem?_cons_zero, List.getElem?_cons_succ, List.drop_succ_cons, List.drop_zero, List.take_succ_cons, List.take_zero, List.map_append, List.nil_append, List.cons_append, Nat.reduceShiftRight, Nat.reduceMod]
theorem Sum_s (l : List Int) (hl : l.length ≤ 1000000000) (h : sumOk l) : Sound Tryd.prog 44 [.sl (ints l)] (.int .i64 l.sum) := by
  refine sound_W f_ref02_Sum (Nat.le_of_ble_eq_true rfl) ?_
  simp only [c_ref02_Sum, vcV, vcD, Int.reduceEq, Int.reduceNe, Int.reduceLT, Int.reduceLE, Nat.reduceEqDiff, Nat.reduceAdd, reduceIte, reduceCtorEq, Nat.reduceLT, Nat.reduceLeDiff, eq_self, Option.bind_some, Option.map_some, List.map_cons, List.map_nil, List.length_cons, List.length_nil, Option.getD_some, Option.getD_none, List.all_cons, List.all_nil, List.set_cons_zero, List.set_cons_succ, List.replicate_succ, List.replicate_zero, List.getElem?_cons_zero, List.getElem?_cons_succ, List.drop_succ_cons, List.drop_zero, List.take_succ_cons, List.take_zero, List.map_append, List.nil_append, List.cons_append, Nat.reduceShiftRight, Nat.reduceMod]
  refine W_loop (t := .mk) (α := PSigma fun i : Nat => i ≤ l.length ∧ (True)) (fun ⟨i, _⟩ => ((envOf [(0, .sl (ints l)), (3, .int .i64 (l.take i).sum), (4, .int .i64 i)], stOf []))) (fun i => l.length - i.1) ⟨0, Nat.zero_le _, ?_⟩ ?_ (fun ⟨i, hi, hn⟩ => ?_)
  · trivial
  · refine weakX [] (of_decide_eq_true rfl) (of_decide_eq_true rfl) ?_
    (simp only [vcW, vcV, vcD, Int.reduceEq, Int.reduceNe, Int.reduceLT, Int.reduceLE, Nat.reduceEqDiff, Nat.reduceAdd, reduceIte, reduceCtorEq, Nat.reduceLT, Nat.reduceLeDiff, eq_self, Option.bind_some, Option.map_some, List.map_cons, List.map_nil, List.length_cons, List.length_nil, Option.getD_some, Option.getD_none, List.all_cons, List.all_nil, List.set_cons_zero, List.set_cons_succ, List.replicate_succ, List.replicate_zero, List.getElem?_cons_zero, List.getElem?_cons_succ, List.drop_succ_cons, List.drop_zero, List.take_succ_cons, List.take_zero, List.map_append, List.nil_append, List.cons_append, Nat.reduceShiftRight, Nat.reduceMod])
    (repeat' first | exact trivial | (with_reducible exact RnB.fxB (ints_fxB _)) | (with_reducible rfl) | (with_reducible refine And.intro ?_ ?_) | (with_reducible refine RnB.bb ?_; simp only [vcW, vcV, vcD, Int.reduceEq, Int.reduceNe, Int.reduceLT, Int.reduceLE, Nat.reduceEqDiff, Nat.reduceAdd, reduceIte, reduceCtorEq, Nat.reduceLT, Nat.reduceLeDiff, eq_self, Option.bind_some, Option.map_some, List.map_cons, List.map_nil, List.length_cons, List.length_nil, Option.getD_some, Option.getD_none, List.all_cons, List.all_nil, List.set_cons_zero, List.set_cons_succ, List.replicate_succ, List.replicate_zero, List.getElem?_cons_zero, List.getElem?_cons_succ, List.drop_succ_cons, List.drop_zero, List.take_succ_cons, List.take_zero, List.map_append, List.nil_append, List.cons_append, Nat.reduceShiftRight, Nat.reduceMod]) | (with_reducible refine RnB.nb ?_; simp only [vcW, vcV, vcD, Int.reduceEq, Int.reduceNe, Int.reduceLT, Int.reduceLE, Nat.reduceEqDiff, Nat.reduceAdd, reduceIte, reduceCtorEq, Nat.reduceLT, Nat.reduceLeDiff, eq_self, Option.bind_some, Option.map_some, List.map_cons, List.map_nil, List.length_cons, List.length_nil, Option.getD_some, Option.getD_none, List.all_cons, List.all_nil, List.set_cons_zero, List.set_cons_succ, List.replicate_succ, List.replicate_zero, List.getElem?_cons_zero, List.getElem?_cons_succ, List.drop_succ_cons, List.drop_zero, List.take_succ_cons, List.take_zero, List.map_append, List.nil_append, List.cons_append, Nat.reduceShiftRight, Nat.reduceMod]) | (with_reducible refine RnB.ii ?_) | (with_reducible refine RnB.app ?_) | (with_reducible refine RnB.fxB ?_; simp only [vcW, vcV, vcD, Int.reduceEq, Int.reduceNe, Int.reduceLT, Int.reduceLE, Nat.reduceEqDiff, Nat.reduceAdd, reduceIte, reduceCtorEq, Nat.reduceLT, Nat.reduceLeDiff, eq_self, Option.bind_some, Option.map_some, List.map_cons, List.map_nil, List.length_cons, List.length_nil, Option.getD_some, Option.getD_none, List.all_cons, List.all_nil, List.set_cons_zero, List.set_cons_succ, List.replicate_succ, List.replicate_zero, List.getElem?_cons_zero, List.getElem?_cons_succ, List.drop_succ_cons, List.drop_zero, List.take_succ_cons, List.take_zero, List.map_append, List.nil_append, List.cons_append, Nat.reduceShiftRight, Nat.reduceMod]) | omega)
    all_goals rfl
  · by_cases h' : i < l.length
    · have h2 : (i : Int) < l.length := by omega
      have hs := take_sum_succ l i h'
      have hi1 := h (i + 1)
      rw [hs] at hi1
      simp only [h2, ints_get l i h', vcV, vcD, Int.reduceEq, Int.reduceNe, Int.reduceLT, Int.reduceLE, Nat.reduceEqDiff, Nat.reduceAdd, reduceIte, reduceCtorEq, Nat.reduceLT, Nat.reduceLeDiff, eq_self, Option.bind_some, Option.map_some, List.map_cons, List.map_nil, List.length_cons, List.length_nil, Option.getD_some, Option.getD_none, List.all_cons, List.all_nil, List.set_cons_zero, List.set_cons_succ, List.replicate_succ, List.replicate_zero, List.getElem?_cons_zero, List.getElem?_cons_succ, List.drop_succ_cons, List.drop_zero, List.take_succ_cons, List.take_zero, List.map_append, List.nil_append, List.cons_append, Nat.reduceShiftRight, Nat.reduceMod]
      refine ⟨by omega, hi1, by unfold I64; omega, ⟨i + 1, h', trivial⟩, by simp only; omega, ?_⟩
      refine weakX [] (of_decide_eq_true rfl) (of_decide_eq_true rfl) ?_
      (simp only [hs, vcW, vcV, vcD, Int.reduceEq, Int.reduceNe, Int.reduceLT, Int.reduceLE, Nat.reduceEqDiff, Nat.reduceAdd, reduceIte, reduceCtorEq, Nat.reduceLT, Nat.reduceLeDiff, eq_self, Option.bind_some, Option.map_some, List.map_cons, List.map_nil, List.length_cons, List.length_nil, Option.getD_some, Option.getD_none, List.all_cons, List.all_nil, List.set_cons_zero, List.set_cons_succ, List.replicate_succ, List.replicate_zero, List.getElem?_cons_zero, List.getElem?_cons_succ, List.drop_succ_cons, List.drop_zero, List.take_succ_cons, List.take_zero, List.map_append, List.nil_append, List.cons_append, Nat.reduceShiftRight, Nat.reduceMod])
      (repeat' first | exact trivial | (with_reducible exact RnB.fxB (ints_fxB _)) | (with_reducible rfl) | (with_reducible refine And.intro ?_ ?_) | (with_reducible refine RnB.bb ?_; simp only [vcW, vcV, vcD, Int.reduceEq, Int.reduceNe, Int.reduceLT, Int.reduceLE, Nat.reduceEqDiff, Nat.reduceAdd, reduceIte, reduceCtorEq, Nat.reduceLT, Nat.reduceLeDiff, eq_self, Option.bind_some, Option.map_some, List.map_cons, List.map_nil, List.length_cons, List.length_nil, Option.getD_some, Option.getD_none, List.all_cons, List.all_nil, List.set_cons_zero, List.set_cons_succ, List.replicate_succ, List.replicate_zero, List.getElem?_cons_zero, List.getElem?_cons_succ, List.drop_succ_cons, List.drop_zero, List.take_succ_cons, List.take_zero, List.map_append, List.nil_append, List.cons_append, Nat.reduceShiftRight, Nat.reduceMod]) | (with_reducible refine RnB.nb ?_; simp only [vcW, vcV, vcD, Int.reduceEq, Int.reduceNe, Int.reduceLT, Int.reduceLE, Nat.reduceEqDiff, Nat.reduceAdd, reduceIte, reduceCtorEq, Nat.reduceLT, Nat.reduceLeDiff, eq_self, Option.bind_some, Option.map_some, List.map_cons, List.map_nil, List.length_cons, List.length_nil, Option.getD_some, Option.getD_none, List.all_cons, List.all_nil, List.set_cons_zero, List.set_cons_succ, List.replicate_succ, List.replicate_zero, List.getElem?_cons_zero, List.getElem?_cons_succ, List.drop_succ_cons, List.drop_zero, List.take_succ_cons, List.take_zero, List.map_append, List.nil_append, List.cons_append, Nat.reduceShiftRight, Nat.reduceMod]) | (with_reducible refine RnB.ii ?_) | (with_reducible refine RnB.app ?_) | (with_reducible refine RnB.fxB ?_; simp only [vcW, vcV, vcD, Int.reduceEq, Int.reduceNe, Int.reduceLT, Int.reduceLE, Nat.reduceEqDiff, Nat.reduceAdd, reduceIte, reduceCtorEq, Nat.reduceLT, Nat.reduceLeDiff, eq_self, Option.bind_some, Option.map_some, List.map_cons, List.map_nil, List.length_cons, List.length_nil, Option.getD_some, Option.getD_none, List.all_cons, List.all_nil, List.set_cons_zero, List.set_cons_succ, List.replicate_succ, List.replicate_zero, List.getElem?_cons_zero, List.getElem?_cons_succ, List.drop_succ_cons, List.drop_zero, List.take_succ_cons, List.take_zero, List.map_append, List.nil_append, List.cons_append, Nat.reduceShiftRight, Nat.reduceMod]) | omega)
    · have h2 : ¬ (i : Int) < l.length := by omega
      have he : i = l.length := by omega
      subst he
      simp only [h2, List.take_length, vcV, vcD, Int.reduceEq, Int.reduceNe, Int.reduceLT, Int.reduceLE, Nat.reduceEqDiff, Nat.reduceAdd, reduceIte, reduceCtorEq, Nat.reduceLT, Nat.reduceLeDiff, eq_self, Option.bind_some, Option.map_some, List.map_cons, List.map_nil, List.length_cons, List.length_nil, Option.getD_some, Option.getD_none, List.all_cons, List.all_nil, List.set_cons_zero, List.set_cons_succ, List.replicate_succ, List.replicate_zero, List.getElem?_cons_zero, List.getElem?_cons_succ, List.drop_succ_cons, List.drop_zero, List.take_succ_cons, List.take_zero, List.map_append, List.nil_append, List.cons_append, Nat.reduceShiftRight, Nat.reduceMod]

theorem GainOf_1_s (n : Int) : Sound Tryd.prog 62 [.int .i64 n] (.bool (!decide (0 ≤ n ∧ n ≤ 10000))) := by
  refine sound_W f_pulse_GainOf_1 (Nat.le_of_ble_eq_true rfl) ?_
  simp only [c_pulse_GainOf_1, vcV, vcD, Int.reduceEq, Int.reduceNe, Int.reduceLT, Int.reduceLE, Nat.reduceEqDiff, Nat.reduceAdd, reduceIte, reduceCtorEq, Nat.reduceLT, Nat.reduceLeDiff, eq_self, Option.bind_some, Option.map_some, List.map_cons, List.map_nil, List.length_cons, List.length_nil, Option.getD_some, Option.getD_none, List.all_cons, List.all_nil, List.set_cons_zero, List.set_cons_succ, List.replicate_succ, List.replicate_zero, List.getElem?_cons_zero, List.getElem?_cons_succ, List.drop_succ_cons, List.drop_zero, List.take_succ_cons, List.take_zero, List.map_append, List.nil_append, List.cons_append, Nat.reduceShiftRight, Nat.reduceMod]
  refine callS_of (within_s _ _ _) ?_
  simp only [vcV, vcD, Int.reduceEq, Int.reduceNe, Int.reduceLT, Int.reduceLE, Nat.reduceEqDiff, Nat.reduceAdd, reduceIte, reduceCtorEq, Nat.reduceLT, Nat.reduceLeDiff, eq_self, Option.bind_some, Option.map_some, List.map_cons, List.map_nil, List.length_cons, List.length_nil, Option.getD_some, Option.getD_none, List.all_cons, List.all_nil, List.set_cons_zero, List.set_cons_succ, List.replicate_succ, List.replicate_zero, List.getElem?_cons_zero, List.getElem?_cons_succ, List.drop_succ_cons, List.drop_zero, List.take_succ_cons, List.take_zero, List.map_append, List.nil_append, List.cons_append, Nat.reduceShiftRight, Nat.reduceMod]
theorem fold_max : ∀ (l : List Int) (a : Int), a ≤ l.foldl max a ∧ ∀ x ∈ l, x ≤ l.foldl max a
  | [], a => ⟨Int.le_refl _, fun x hx => by cases hx⟩
  | y :: l, a => by
    obtain ⟨h1, h2⟩ := fold_max l (max a y)
    simp only [List.foldl_cons]
    refine ⟨by omega, fun x hx => ?_⟩
    rcases List.mem_cons.1 hx with e | e
    · rw [e]; omega
    · exact h2 x e
theorem fold_max_le : ∀ (l : List Int) (a m : Int), a ≤ m → (∀ x ∈ l, x ≤ m) → l.foldl max a ≤ m
  | [], a, m, h, _ => h
  | y :: l, a, m, h, h2 => by
    simp only [List.foldl_cons]
    exact fold_max_le l _ m (by have := h2 y List.mem_cons_self; omega) fun x hx => h2 x (List.mem_cons_of_mem _ hx)
theorem sum_zero : ∀ {l : List Int}, (∀ x ∈ l, 0 ≤ x) → l.sum = 0 → ∀ x ∈ l, x = 0
  | [], _, _, x, hx => by cases hx
  | y :: l, h, hs, x, hx => by
    simp only [List.sum_cons] at hs
    have h1 := h y List.mem_cons_self
    have h2 : 0 ≤ l.sum := by
      have : ∀ (m : List Int), (∀ x ∈ m, 0 ≤ x) → 0 ≤ m.sum := by
        intro m
        induction m with
        | nil => intro _; simp
        | cons z m ih => intro hm; simp only [List.sum_cons]; have := ih fun x hx => hm x (List.mem_cons_of_mem _ hx); have := hm z List.mem_cons_self; omega
      exact this l fun x hx => h x (List.mem_cons_of_mem _ hx)
    rcases List.mem_cons.1 hx with e | e
    · omega
    · exact sum_zero (fun z hz => h z (List.mem_cons_of_mem _ hz)) (by omega) x e
theorem max_sum {l : List Int} (h : ∀ x ∈ l, 0 ≤ x ∧ x ≤ 10000) : 0 < mxL (0 :: l) ↔ l.sum ≠ 0 := by
  have e : mxL (0 :: l) = l.foldl max 0 := by unfold mxL mxTo; rw [List.take_length]; simp
  rw [e]
  obtain ⟨h1, h2⟩ := fold_max l 0
  constructor
  · intro hp hs
    have := sum_zero (fun x hx => (h x hx).1) hs
    have := fold_max_le l 0 0 (Int.le_refl _) fun x hx => by rw [this x hx]; exact Int.le_refl _
    omega
  · intro hs
    by_cases hp : 0 < l.foldl max 0
    · exact hp
    · exfalso
      apply hs
      have hz : ∀ x ∈ l, x = 0 := fun x hx => by have := h2 x hx; have := (h x hx).1; omega
      have := sum_le (l := l) (m := 0) fun x hx => by rw [hz x hx]; omega
      omega
theorem sqs_succ (l : List Int) (i : Nat) (h : i < l.length) : sqs (l.take (i + 1)) = sqs (l.take i) + l[i] * l[i] := by
  unfold sqs; rw [List.take_succ_eq_append_getElem h, List.map_append, List.sum_append]; simp
theorem errs4 (a b c d : Int) : firstErr [a, b, c, d] = if a ≠ 0 then a else if b ≠ 0 then b else if c ≠ 0 then c else d := by
  unfold firstErr
  by_cases ha : a = 0 <;> by_cases hb : b = 0 <;> by_cases hc : c = 0 <;> by_cases hd : d = 0 <;> simp [ha, hb, hc, hd]
theorem first4_s (a b c d : Int) : Sound Tryd.prog 57 [.sl [.int .i64 a, .int .i64 b, .int .i64 c, .int .i64 d]] (.int .i64 (if a ≠ 0 then a else if b ≠ 0 then b else if c ≠ 0 then c else d)) := by
  have h := first_s [a, b, c, d] (by simp)
  rw [errs4] at h
  exact h

def gainA (l : List Int) : List AV := if chE l = 0 then (if smallF (lowN (gainN l) (gainD l)) (lowD (gainN l) (gainD l)) then [fracA (lowN (gainN l) (gainD l)) (lowD (gainN l) (gainD l)), .int .i64 0] else [fracA 0 0, .int .i64 8]) else [fracA 0 0, .int .i64 (chE l)]
theorem GainOf_s (l : List Int) (hl : l.length ≤ 1000) : Sound Tryd.prog 17 [.sl (ints l)] (.tup (gainA l)) := by
  refine sound_W f_pulse_GainOf (Nat.le_of_ble_eq_true rfl) ?_
  have hmax := maxLen_big
  simp only [c_pulse_GainOf, vcV, vcD, Int.reduceEq, Int.reduceNe, Int.reduceLT, Int.reduceLE, Nat.reduceEqDiff, Nat.reduceAdd, reduceIte, reduceCtorEq, Nat.reduceLT, Nat.reduceLeDiff, eq_self, Option.bind_some, Option.map_some, List.map_cons, List.map_nil, List.length_cons, List.length_nil, Option.getD_some, Option.getD_none, List.all_cons, List.all_nil, List.set_cons_zero, List.set_cons_succ, List.replicate_succ, List.replicate_zero, List.getElem?_cons_zero, List.getElem?_cons_succ, List.drop_succ_cons, List.drop_zero, List.take_succ_cons, List.take_zero, List.map_append, List.nil_append, List.cons_append, Nat.reduceShiftRight, Nat.reduceMod]
  refine callS_of (contFunc_int_s l _ [] (fun n => !decide (0 ≤ n ∧ n ≤ 10000)) (by omega) (by simp) (fun x _ => GainOf_1_s x)) ?_
  simp only [vcV, vcD, Int.reduceEq, Int.reduceNe, Int.reduceLT, Int.reduceLE, Nat.reduceEqDiff, Nat.reduceAdd, reduceIte, reduceCtorEq, Nat.reduceLT, Nat.reduceLeDiff, eq_self, Option.bind_some, Option.map_some, List.map_cons, List.map_nil, List.length_cons, List.length_nil, Option.getD_some, Option.getD_none, List.all_cons, List.all_nil, List.set_cons_zero, List.set_cons_succ, List.replicate_succ, List.replicate_zero, List.getElem?_cons_zero, List.getElem?_cons_succ, List.drop_succ_cons, List.drop_zero, List.take_succ_cons, List.take_zero, List.map_append, List.nil_append, List.cons_append, Nat.reduceShiftRight, Nat.reduceMod]
  refine callS_of (unless_s _ _) ?_
  simp only [vcV, vcD, Int.reduceEq, Int.reduceNe, Int.reduceLT, Int.reduceLE, Nat.reduceEqDiff, Nat.reduceAdd, reduceIte, reduceCtorEq, Nat.reduceLT, Nat.reduceLeDiff, eq_self, Option.bind_some, Option.map_some, List.map_cons, List.map_nil, List.length_cons, List.length_nil, Option.getD_some, Option.getD_none, List.all_cons, List.all_nil, List.set_cons_zero, List.set_cons_succ, List.replicate_succ, List.replicate_zero, List.getElem?_cons_zero, List.getElem?_cons_succ, List.drop_succ_cons, List.drop_zero, List.take_succ_cons, List.take_zero, List.map_append, List.nil_append, List.cons_append, Nat.reduceShiftRight, Nat.reduceMod]
  refine callS_of (unless_s _ _) ?_
  simp only [vcV, vcD, Int.reduceEq, Int.reduceNe, Int.reduceLT, Int.reduceLE, Nat.reduceEqDiff, Nat.reduceAdd, reduceIte, reduceCtorEq, Nat.reduceLT, Nat.reduceLeDiff, eq_self, Option.bind_some, Option.map_some, List.map_cons, List.map_nil, List.length_cons, List.length_nil, Option.getD_some, Option.getD_none, List.all_cons, List.all_nil, List.set_cons_zero, List.set_cons_succ, List.replicate_succ, List.replicate_zero, List.getElem?_cons_zero, List.getElem?_cons_succ, List.drop_succ_cons, List.drop_zero, List.take_succ_cons, List.take_zero, List.map_append, List.nil_append, List.cons_append, Nat.reduceShiftRight, Nat.reduceMod]
  refine callS_of (unless_s _ _) ?_
  simp only [vcV, vcD, Int.reduceEq, Int.reduceNe, Int.reduceLT, Int.reduceLE, Nat.reduceEqDiff, Nat.reduceAdd, reduceIte, reduceCtorEq, Nat.reduceLT, Nat.reduceLeDiff, eq_self, Option.bind_some, Option.map_some, List.map_cons, List.map_nil, List.length_cons, List.length_nil, Option.getD_some, Option.getD_none, List.all_cons, List.all_nil, List.set_cons_zero, List.set_cons_succ, List.replicate_succ, List.replicate_zero, List.getElem?_cons_zero, List.getElem?_cons_succ, List.drop_succ_cons, List.drop_zero, List.take_succ_cons, List.take_zero, List.map_append, List.nil_append, List.cons_append, Nat.reduceShiftRight, Nat.reduceMod]
  refine ⟨newsOk_ints l, ⟨by omega, by omega⟩, ?_⟩
  have hc0 : AV.int .i64 0 :: ints l = ints (0 :: l) := rfl
  rw [hc0, borB_good _ _ _ _ _ (by rw [ints_length, List.length_cons]; omega) (ints_fx (0 :: l))]
  refine callS_of (Max_s (0 :: l) (by simp) (by simp only [List.length_cons]; omega)) ?_
  simp only [vcV, vcD, Int.reduceEq, Int.reduceNe, Int.reduceLT, Int.reduceLE, Nat.reduceEqDiff, Nat.reduceAdd, reduceIte, reduceCtorEq, Nat.reduceLT, Nat.reduceLeDiff, eq_self, Option.bind_some, Option.map_some, List.map_cons, List.map_nil, List.length_cons, List.length_nil, Option.getD_some, Option.getD_none, List.all_cons, List.all_nil, List.set_cons_zero, List.set_cons_succ, List.replicate_succ, List.replicate_zero, List.getElem?_cons_zero, List.getElem?_cons_succ, List.drop_succ_cons, List.drop_zero, List.take_succ_cons, List.take_zero, List.map_append, List.nil_append, List.cons_append, Nat.reduceShiftRight, Nat.reduceMod]
  refine callS_of (unless_s _ _) ?_
  simp only [vcV, vcD, Int.reduceEq, Int.reduceNe, Int.reduceLT, Int.reduceLE, Nat.reduceEqDiff, Nat.reduceAdd, reduceIte, reduceCtorEq, Nat.reduceLT, Nat.reduceLeDiff, eq_self, Option.bind_some, Option.map_some, List.map_cons, List.map_nil, List.length_cons, List.length_nil, Option.getD_some, Option.getD_none, List.all_cons, List.all_nil, List.set_cons_zero, List.set_cons_succ, List.replicate_succ, List.replicate_zero, List.getElem?_cons_zero, List.getElem?_cons_succ, List.drop_succ_cons, List.drop_zero, List.take_succ_cons, List.take_zero, List.map_append, List.nil_append, List.cons_append, Nat.reduceShiftRight, Nat.reduceMod]
  refine callS_of (first4_s _ _ _ _) ?_
  simp only [vcV, vcD, Int.reduceEq, Int.reduceNe, Int.reduceLT, Int.reduceLE, Nat.reduceEqDiff, Nat.reduceAdd, reduceIte, reduceCtorEq, Nat.reduceLT, Nat.reduceLeDiff, eq_self, Option.bind_some, Option.map_some, List.map_cons, List.map_nil, List.length_cons, List.length_nil, Option.getD_some, Option.getD_none, List.all_cons, List.all_nil, List.set_cons_zero, List.set_cons_succ, List.replicate_succ, List.replicate_zero, List.getElem?_cons_zero, List.getElem?_cons_succ, List.drop_succ_cons, List.drop_zero, List.take_succ_cons, List.take_zero, List.map_append, List.nil_append, List.cons_append, Nat.reduceShiftRight, Nat.reduceMod]
  have he : (if (if decide ((0 : Int) < l.length) = true then (0 : Int) else 10) ≠ 0 then (if decide ((0 : Int) < l.length) = true then (0 : Int) else 10) else if (if decide ((l.length : Int) ≤ 40) = true then (0 : Int) else 8) ≠ 0 then (if decide ((l.length : Int) ≤ 40) = true then (0 : Int) else 8)
      else if (if (!l.any fun n => !decide (0 ≤ n ∧ n ≤ 10000)) = true then (0 : Int) else 2) ≠ 0 then (if (!l.any fun n => !decide (0 ≤ n ∧ n ≤ 10000)) = true then (0 : Int) else 2) else if decide (0 < mxL (0 :: l)) = true then (0 : Int) else 11) = chE l := by
    have hall : (!l.any fun n => !decide (0 ≤ n ∧ n ≤ 10000)) = l.all fun n => decide (0 ≤ n ∧ n ≤ 10000) := by rw [List.not_any_eq_all_not]; simp
    rw [hall]
    unfold chE
    by_cases h0 : l.length = 0
    · have : ¬ (0 : Int) < l.length := by omega
      simp [h0]
    · have h0' : (0 : Int) < l.length := by omega
      by_cases h1 : 40 < l.length
      · have h1' : ¬ (l.length : Int) ≤ 40 := by omega
        simp [h0, h0', h1, h1']
      · have h1' : (l.length : Int) ≤ 40 := by omega
        by_cases h2 : (l.all fun n => decide (0 ≤ n ∧ n ≤ 10000)) = true
        · have h2' : ∀ x ∈ l, 0 ≤ x ∧ x ≤ 10000 := fun x hx => by simpa using List.all_eq_true.1 h2 x hx
          have hms := max_sum h2'
          by_cases h3 : l.sum = 0
          · have h3' : ¬ 0 < mxL (0 :: l) := fun q => hms.1 q h3
            simp only [h0, h0', h1, h1', h2, h3, h3', decide_true, decide_false, if_true, if_false, ne_eq, not_true_eq_false, Bool.false_eq_true, not_false_eq_true]
          · have h3' : 0 < mxL (0 :: l) := hms.2 h3
            simp only [h0, h0', h1, h1', h2, h3, h3', decide_true, decide_false, if_true, if_false, ne_eq, not_true_eq_false, Bool.false_eq_true, not_false_eq_true]
        · have h2f : (l.all fun n => decide (0 ≤ n ∧ n ≤ 10000)) = false := Bool.eq_false_iff.2 h2
          simp only [h0, h0', h1, h1', h2f, decide_true, decide_false, if_true, if_false, ne_eq, not_true_eq_false, Bool.false_eq_true, not_false_eq_true, (by decide : ¬ (2 : Int) = 0)]
  rw [he]
  by_cases hE : chE l = 0
  · obtain ⟨b1, b2, b3, b4, b5, b6, b7, b8⟩ := gain_bounds hE
    obtain ⟨q1, q2, q3, q4⟩ := chE_ok hE
    have hsum : sumOk l := sumOk_of (by omega) fun x hx => by have := q3 x hx; omega
    have hsq : ∀ i, 0 ≤ sqs (l.take i) ∧ sqs (l.take i) ≤ 4000000000 := fun i => by
      have := sqs_le (l := l.take i) (m := 10000) fun x hx => q3 x (List.mem_of_mem_take hx)
      have h2 : ((l.take i).length : Int) ≤ 40 := by rw [List.length_take]; omega
      omega
    have hL := pLowest_s (gainN l) (gainD l) b1 (by omega) b3 (by omega)
    unfold gainA
    rw [if_pos hE]
    simp only [hE, vcV, vcD, Int.reduceEq, Int.reduceNe, Int.reduceLT, Int.reduceLE, Nat.reduceEqDiff, Nat.reduceAdd, reduceIte, reduceCtorEq, Nat.reduceLT, Nat.reduceLeDiff, eq_self, Option.bind_some, Option.map_some, List.map_cons, List.map_nil, List.length_cons, List.length_nil, Option.getD_some, Option.getD_none, List.all_cons, List.all_nil, List.set_cons_zero, List.set_cons_succ, List.replicate_succ, List.replicate_zero, List.getElem?_cons_zero, List.getElem?_cons_succ, List.drop_succ_cons, List.drop_zero, List.take_succ_cons, List.take_zero, List.map_append, List.nil_append, List.cons_append, Nat.reduceShiftRight, Nat.reduceMod]
    refine callS_of (sum_s l (by omega) hsum) ?_
    simp only [vcV, vcD, Int.reduceEq, Int.reduceNe, Int.reduceLT, Int.reduceLE, Nat.reduceEqDiff, Nat.reduceAdd, reduceIte, reduceCtorEq, Nat.reduceLT, Nat.reduceLeDiff, eq_self, Option.bind_some, Option.map_some, List.map_cons, List.map_nil, List.length_cons, List.length_nil, Option.getD_some, Option.getD_none, List.all_cons, List.all_nil, List.set_cons_zero, List.set_cons_succ, List.replicate_succ, List.replicate_zero, List.getElem?_cons_zero, List.getElem?_cons_succ, List.drop_succ_cons, List.drop_zero, List.take_succ_cons, List.take_zero, List.map_append, List.nil_append, List.cons_append, Nat.reduceShiftRight, Nat.reduceMod]
    refine W_loop (t := .mk) (α := PSigma fun i : Nat => i ≤ l.length) (fun ⟨i, _⟩ => (envOf [(2, .ptr 2 0 0), (6, .int .i64 l.length), (7, .int .i64 l.sum), (8, .int .i64 (sqs (l.take i))), (40, .sl (ints l)), (41, .int .i64 l.length), (42, .int .i64 i)], stOf [(2, ⟨33, 2, [.agg [.int .i64 0, .int .i64 0]]⟩)])) (fun p => l.length - p.1) ⟨0, Nat.zero_le _⟩ ?_ (fun ⟨i, hi⟩ => ?_)
    · have z : sqs [] = 0 := rfl
      refine weakX [] (of_decide_eq_true rfl) (of_decide_eq_true rfl) ?_
      (simp only [z, vcW, vcV, vcD, Int.reduceEq, Int.reduceNe, Int.reduceLT, Int.reduceLE, Nat.reduceEqDiff, Nat.reduceAdd, reduceIte, reduceCtorEq, Nat.reduceLT, Nat.reduceLeDiff, eq_self, Option.bind_some, Option.map_some, List.map_cons, List.map_nil, List.length_cons, List.length_nil, Option.getD_some, Option.getD_none, List.all_cons, List.all_nil, List.set_cons_zero, List.set_cons_succ, List.replicate_succ, List.replicate_zero, List.getElem?_cons_zero, List.getElem?_cons_succ, List.drop_succ_cons, List.drop_zero, List.take_succ_cons, List.take_zero, List.map_append, List.nil_append, List.cons_append, Nat.reduceShiftRight, Nat.reduceMod])
      (repeat' first | exact trivial | (with_reducible exact RnB.fxB (ints_fxB _)) | (with_reducible rfl) | (with_reducible refine And.intro ?_ ?_) | (with_reducible refine RnB.bb ?_; simp only [vcW, vcV, vcD, Int.reduceEq, Int.reduceNe, Int.reduceLT, Int.reduceLE, Nat.reduceEqDiff, Nat.reduceAdd, reduceIte, reduceCtorEq, Nat.reduceLT, Nat.reduceLeDiff, eq_self, Option.bind_some, Option.map_some, List.map_cons, List.map_nil, List.length_cons, List.length_nil, Option.getD_some, Option.getD_none, List.all_cons, List.all_nil, List.set_cons_zero, List.set_cons_succ, List.replicate_succ, List.replicate_zero, List.getElem?_cons_zero, List.getElem?_cons_succ, List.drop_succ_cons, List.drop_zero, List.take_succ_cons, List.take_zero, List.map_append, List.nil_append, List.cons_append, Nat.reduceShiftRight, Nat.reduceMod]) | (with_reducible refine RnB.nb ?_; simp only [vcW, vcV, vcD, Int.reduceEq, Int.reduceNe, Int.reduceLT, Int.reduceLE, Nat.reduceEqDiff, Nat.reduceAdd, reduceIte, reduceCtorEq, Nat.reduceLT, Nat.reduceLeDiff, eq_self, Option.bind_some, Option.map_some, List.map_cons, List.map_nil, List.length_cons, List.length_nil, Option.getD_some, Option.getD_none, List.all_cons, List.all_nil, List.set_cons_zero, List.set_cons_succ, List.replicate_succ, List.replicate_zero, List.getElem?_cons_zero, List.getElem?_cons_succ, List.drop_succ_cons, List.drop_zero, List.take_succ_cons, List.take_zero, List.map_append, List.nil_append, List.cons_append, Nat.reduceShiftRight, Nat.reduceMod]) | (with_reducible refine RnB.ii ?_) | (with_reducible refine RnB.app ?_) | (with_reducible refine RnB.fxB ?_; simp only [vcW, vcV, vcD, Int.reduceEq, Int.reduceNe, Int.reduceLT, Int.reduceLE, Nat.reduceEqDiff, Nat.reduceAdd, reduceIte, reduceCtorEq, Nat.reduceLT, Nat.reduceLeDiff, eq_self, Option.bind_some, Option.map_some, List.map_cons, List.map_nil, List.length_cons, List.length_nil, Option.getD_some, Option.getD_none, List.all_cons, List.all_nil, List.set_cons_zero, List.set_cons_succ, List.replicate_succ, List.replicate_zero, List.getElem?_cons_zero, List.getElem?_cons_succ, List.drop_succ_cons, List.drop_zero, List.take_succ_cons, List.take_zero, List.map_append, List.nil_append, List.cons_append, Nat.reduceShiftRight, Nat.reduceMod]) | omega)
    · by_cases h' : i < l.length
      · have h2 : (i : Int) < l.length := by omega
        have hs := sqs_succ l i h'
        have hi1 := hsq (i + 1)
        have hi0 := hsq i
        rw [hs] at hi1
        have hx := q3 l[i] (List.getElem_mem h')
        have hxx : 0 ≤ l[i] * l[i] := Int.mul_nonneg hx.1 hx.1
        simp only [h2, ints_get l i h', vcV, vcD, Int.reduceEq, Int.reduceNe, Int.reduceLT, Int.reduceLE, Nat.reduceEqDiff, Nat.reduceAdd, reduceIte, reduceCtorEq, Nat.reduceLT, Nat.reduceLeDiff, eq_self, Option.bind_some, Option.map_some, List.map_cons, List.map_nil, List.length_cons, List.length_nil, Option.getD_some, Option.getD_none, List.all_cons, List.all_nil, List.set_cons_zero, List.set_cons_succ, List.replicate_succ, List.replicate_zero, List.getElem?_cons_zero, List.getElem?_cons_succ, List.drop_succ_cons, List.drop_zero, List.take_succ_cons, List.take_zero, List.map_append, List.nil_append, List.cons_append, Nat.reduceShiftRight, Nat.reduceMod]
        refine ⟨by omega, by unfold I64; omega, by unfold I64; omega, by unfold I64; omega, ⟨i + 1, h'⟩, by simp only; omega, ?_⟩
        refine weakX [] (of_decide_eq_true rfl) (of_decide_eq_true rfl) ?_
        (simp only [hs, vcW, vcV, vcD, Int.reduceEq, Int.reduceNe, Int.reduceLT, Int.reduceLE, Nat.reduceEqDiff, Nat.reduceAdd, reduceIte, reduceCtorEq, Nat.reduceLT, Nat.reduceLeDiff, eq_self, Option.bind_some, Option.map_some, List.map_cons, List.map_nil, List.length_cons, List.length_nil, Option.getD_some, Option.getD_none, List.all_cons, List.all_nil, List.set_cons_zero, List.set_cons_succ, List.replicate_succ, List.replicate_zero, List.getElem?_cons_zero, List.getElem?_cons_succ, List.drop_succ_cons, List.drop_zero, List.take_succ_cons, List.take_zero, List.map_append, List.nil_append, List.cons_append, Nat.reduceShiftRight, Nat.reduceMod])
        (repeat' first | exact trivial | (with_reducible exact RnB.fxB (ints_fxB _)) | (with_reducible rfl) | (with_reducible refine And.intro ?_ ?_) | (with_reducible refine RnB.bb ?_; simp only [vcW, vcV, vcD, Int.reduceEq, Int.reduceNe, Int.reduceLT, Int.reduceLE, Nat.reduceEqDiff, Nat.reduceAdd, reduceIte, reduceCtorEq, Nat.reduceLT, Nat.reduceLeDiff, eq_self, Option.bind_some, Option.map_some, List.map_cons, List.map_nil, List.length_cons, List.length_nil, Option.getD_some, Option.getD_none, List.all_cons, List.all_nil, List.set_cons_zero, List.set_cons_succ, List.replicate_succ, List.replicate_zero, List.getElem?_cons_zero, List.getElem?_cons_succ, List.drop_succ_cons, List.drop_zero, List.take_succ_cons, List.take_zero, List.map_append, List.nil_append, List.cons_append, Nat.reduceShiftRight, Nat.reduceMod]) | (with_reducible refine RnB.nb ?_; simp only [vcW, vcV, vcD, Int.reduceEq, Int.reduceNe, Int.reduceLT, Int.reduceLE, Nat.reduceEqDiff, Nat.reduceAdd, reduceIte, reduceCtorEq, Nat.reduceLT, Nat.reduceLeDiff, eq_self, Option.bind_some, Option.map_some, List.map_cons, List.map_nil, List.length_cons, List.length_nil, Option.getD_some, Option.getD_none, List.all_cons, List.all_nil, List.set_cons_zero, List.set_cons_succ, List.replicate_succ, List.replicate_zero, List.getElem?_cons_zero, List.getElem?_cons_succ, List.drop_succ_cons, List.drop_zero, List.take_succ_cons, List.take_zero, List.map_append, List.nil_append, List.cons_append, Nat.reduceShiftRight, Nat.reduceMod]) | (with_reducible refine RnB.ii ?_) | (with_reducible refine RnB.app ?_) | (with_reducible refine RnB.fxB ?_; simp only [vcW, vcV, vcD, Int.reduceEq, Int.reduceNe, Int.reduceLT, Int.reduceLE, Nat.reduceEqDiff, Nat.reduceAdd, reduceIte, reduceCtorEq, Nat.reduceLT, Nat.reduceLeDiff, eq_self, Option.bind_some, Option.map_some, List.map_cons, List.map_nil, List.length_cons, List.length_nil, Option.getD_some, Option.getD_none, List.all_cons, List.all_nil, List.set_cons_zero, List.set_cons_succ, List.replicate_succ, List.replicate_zero, List.getElem?_cons_zero, List.getElem?_cons_succ, List.drop_succ_cons, List.drop_zero, List.take_succ_cons, List.take_zero, List.map_append, List.nil_append, List.cons_append, Nat.reduceShiftRight, Nat.reduceMod]) | omega)
      · have h2 : ¬ (i : Int) < l.length := by omega
        have hin : i = l.length := by omega
        subst hin
        unfold gainN gainD at *
        simp only [h2, List.take_length, vcV, vcD, Int.reduceEq, Int.reduceNe, Int.reduceLT, Int.reduceLE, Nat.reduceEqDiff, Nat.reduceAdd, reduceIte, reduceCtorEq, Nat.reduceLT, Nat.reduceLeDiff, eq_self, Option.bind_some, Option.map_some, List.map_cons, List.map_nil, List.length_cons, List.length_nil, Option.getD_some, Option.getD_none, List.all_cons, List.all_nil, List.set_cons_zero, List.set_cons_succ, List.replicate_succ, List.replicate_zero, List.getElem?_cons_zero, List.getElem?_cons_succ, List.drop_succ_cons, List.drop_zero, List.take_succ_cons, List.take_zero, List.map_append, List.nil_append, List.cons_append, Nat.reduceShiftRight, Nat.reduceMod]
        (repeat (with_reducible refine And.intro ?_ ?_; focus (first | omega | (unfold I64; omega))))
        refine callS_of hL ?_
        cases hsm : smallF (lowN (↑l.length * sqs l - l.sum * l.sum) (↑l.length * l.sum)) (lowD (↑l.length * sqs l - l.sum * l.sum) (↑l.length * l.sum)) with
        | true => simp only [fracA, vcV, vcD, Int.reduceEq, Int.reduceNe, Int.reduceLT, Int.reduceLE, Nat.reduceEqDiff, Nat.reduceAdd, reduceIte, reduceCtorEq, Nat.reduceLT, Nat.reduceLeDiff, eq_self, Option.bind_some, Option.map_some, List.map_cons, List.map_nil, List.length_cons, List.length_nil, Option.getD_some, Option.getD_none, List.all_cons, List.all_nil, List.set_cons_zero, List.set_cons_succ, List.replicate_succ, List.replicate_zero, List.getElem?_cons_zero, List.getElem?_cons_succ, List.drop_succ_cons, List.drop_zero, List.take_succ_cons, List.take_zero, List.map_append, List.nil_append, List.cons_append, Nat.reduceShiftRight, Nat.reduceMod]
        | false => simp only [fracA, vcV, vcD, Int.reduceEq, Int.reduceNe, Int.reduceLT, Int.reduceLE, Nat.reduceEqDiff, Nat.reduceAdd, reduceIte, reduceCtorEq, Nat.reduceLT, Nat.reduceLeDiff, eq_self, Option.bind_some, Option.map_some, List.map_cons, List.map_nil, List.length_cons, List.length_nil, Option.getD_some, Option.getD_none, List.all_cons, List.all_nil, List.set_cons_zero, List.set_cons_succ, List.replicate_succ, List.replicate_zero, List.getElem?_cons_zero, List.getElem?_cons_succ, List.drop_succ_cons, List.drop_zero, List.take_succ_cons, List.take_zero, List.map_append, List.nil_append, List.cons_append, Nat.reduceShiftRight, Nat.reduceMod]
  · unfold gainA
    rw [if_neg hE]
    simp only [hE, fracA, vcV, vcD, Int.reduceEq, Int.reduceNe, Int.reduceLT, Int.reduceLE, Nat.reduceEqDiff, Nat.reduceAdd, reduceIte, reduceCtorEq, Nat.reduceLT, Nat.reduceLeDiff, eq_self, Option.bind_some, Option.map_some, List.map_cons, List.map_nil, List.length_cons, List.length_nil, Option.getD_some, Option.getD_none, List.all_cons, List.all_nil, List.set_cons_zero, List.set_cons_succ, List.replicate_succ, List.replicate_zero, List.getElem?_cons_zero, List.getElem?_cons_succ, List.drop_succ_cons, List.drop_zero, List.take_succ_cons, List.take_zero, List.map_append, List.nil_append, List.cons_append, Nat.reduceShiftRight, Nat.reduceMod]
theorem ChargedErr_s (l : List Int) (hl : l.length ≤ 1000000000) : Sound Tryd.prog 18 [.sl (ints l)] (.int .i64 (chE l)) := by
  refine sound_W f_ref02_ChargedErr (Nat.le_of_ble_eq_true rfl) ?_
  simp only [c_ref02_ChargedErr, vcV, vcD, Int.reduceEq, Int.reduceNe, Int.reduceLT, Int.reduceLE, Nat.reduceEqDiff, Nat.reduceAdd, reduceIte, reduceCtorEq, Nat.reduceLT, Nat.reduceLeDiff, eq_self, Option.bind_some, Option.map_some, List.map_cons, List.map_nil, List.length_cons, List.length_nil, Option.getD_some, Option.getD_none, List.all_cons, List.all_nil, List.set_cons_zero, List.set_cons_succ, List.replicate_succ, List.replicate_zero, List.getElem?_cons_zero, List.getElem?_cons_succ, List.drop_succ_cons, List.drop_zero, List.take_succ_cons, List.take_zero, List.map_append, List.nil_append, List.cons_append, Nat.reduceShiftRight, Nat.reduceMod]
  by_cases h0 : l.length = 0
  · have h0' : (l.length : Int) = 0 := by omega
    have he : chE l = 10 := by unfold chE; rw [if_pos h0]
    simp only [h0', he, vcV, vcD, Int.reduceEq, Int.reduceNe, Int.reduceLT, Int.reduceLE, Nat.reduceEqDiff, Nat.reduceAdd, reduceIte, reduceCtorEq, Nat.reduceLT, Nat.reduceLeDiff, eq_self, Option.bind_some, Option.map_some, List.map_cons, List.map_nil, List.length_cons, List.length_nil, Option.getD_some, Option.getD_none, List.all_cons, List.all_nil, List.set_cons_zero, List.set_cons_succ, List.replicate_succ, List.replicate_zero, List.getElem?_cons_zero, List.getElem?_cons_succ, List.drop_succ_cons, List.drop_zero, List.take_succ_cons, List.take_zero, List.map_append, List.nil_append, List.cons_append, Nat.reduceShiftRight, Nat.reduceMod]
  have h0' : ¬ (l.length : Int) = 0 := by omega
  simp only [h0', vcV, vcD, Int.reduceEq, Int.reduceNe, Int.reduceLT, Int.reduceLE, Nat.reduceEqDiff, Nat.reduceAdd, reduceIte, reduceCtorEq, Nat.reduceLT, Nat.reduceLeDiff, eq_self, Option.bind_some, Option.map_some, List.map_cons, List.map_nil, List.length_cons, List.length_nil, Option.getD_some, Option.getD_none, List.all_cons, List.all_nil, List.set_cons_zero, List.set_cons_succ, List.replicate_succ, List.replicate_zero, List.getElem?_cons_zero, List.getElem?_cons_succ, List.drop_succ_cons, List.drop_zero, List.take_succ_cons, List.take_zero, List.map_append, List.nil_append, List.cons_append, Nat.reduceShiftRight, Nat.reduceMod]
  by_cases h1 : 40 < l.length
  · have h1' : (40 : Int) < l.length := by omega
    have he : chE l = 8 := by unfold chE; rw [if_neg h0, if_pos h1]
    simp only [h1', he, vcV, vcD, Int.reduceEq, Int.reduceNe, Int.reduceLT, Int.reduceLE, Nat.reduceEqDiff, Nat.reduceAdd, reduceIte, reduceCtorEq, Nat.reduceLT, Nat.reduceLeDiff, eq_self, Option.bind_some, Option.map_some, List.map_cons, List.map_nil, List.length_cons, List.length_nil, Option.getD_some, Option.getD_none, List.all_cons, List.all_nil, List.set_cons_zero, List.set_cons_succ, List.replicate_succ, List.replicate_zero, List.getElem?_cons_zero, List.getElem?_cons_succ, List.drop_succ_cons, List.drop_zero, List.take_succ_cons, List.take_zero, List.map_append, List.nil_append, List.cons_append, Nat.reduceShiftRight, Nat.reduceMod]
  have h1' : ¬ (40 : Int) < l.length := by omega
  simp only [h1', vcV, vcD, Int.reduceEq, Int.reduceNe, Int.reduceLT, Int.reduceLE, Nat.reduceEqDiff, Nat.reduceAdd, reduceIte, reduceCtorEq, Nat.reduceLT, Nat.reduceLeDiff, eq_self, Option.bind_some, Option.map_some, List.map_cons, List.map_nil, List.length_cons, List.length_nil, Option.getD_some, Option.getD_none, List.all_cons, List.all_nil, List.set_cons_zero, List.set_cons_succ, List.replicate_succ, List.replicate_zero, List.getElem?_cons_zero, List.getElem?_cons_succ, List.drop_succ_cons, List.drop_zero, List.take_succ_cons, List.take_zero, List.map_append, List.nil_append, List.cons_append, Nat.reduceShiftRight, Nat.reduceMod]
  refine W_loop (t := .mk) (α := PSigma fun i : Nat => i ≤ l.length ∧ (∀ x ∈ l.take i, 0 ≤ x ∧ x ≤ 10000)) (fun ⟨i, _⟩ => ((envOf [(0, .sl (ints l)), (3, .int .i64 i)], stOf []))) (fun i => l.length - i.1) ⟨0, Nat.zero_le _, ?_⟩ ?_ (fun ⟨i, hi, hn⟩ => ?_)
  · intro x hx; simp at hx
  · refine weakX [] (of_decide_eq_true rfl) (of_decide_eq_true rfl) ?_
    (simp only [vcW, vcV, vcD, Int.reduceEq, Int.reduceNe, Int.reduceLT, Int.reduceLE, Nat.reduceEqDiff, Nat.reduceAdd, reduceIte, reduceCtorEq, Nat.reduceLT, Nat.reduceLeDiff, eq_self, Option.bind_some, Option.map_some, List.map_cons, List.map_nil, List.length_cons, List.length_nil, Option.getD_some, Option.getD_none, List.all_cons, List.all_nil, List.set_cons_zero, List.set_cons_succ, List.replicate_succ, List.replicate_zero, List.getElem?_cons_zero, List.getElem?_cons_succ, List.drop_succ_cons, List.drop_zero, List.take_succ_cons, List.take_zero, List.map_append, List.nil_append, List.cons_append, Nat.reduceShiftRight, Nat.reduceMod])
    (repeat' first | exact trivial | (with_reducible exact RnB.fxB (ints_fxB _)) | (with_reducible rfl) | (with_reducible refine And.intro ?_ ?_) | (with_reducible refine RnB.bb ?_; simp only [vcW, vcV, vcD, Int.reduceEq, Int.reduceNe, Int.reduceLT, Int.reduceLE, Nat.reduceEqDiff, Nat.reduceAdd, reduceIte, reduceCtorEq, Nat.reduceLT, Nat.reduceLeDiff, eq_self, Option.bind_some, Option.map_some, List.map_cons, List.map_nil, List.length_cons, List.length_nil, Option.getD_some, Option.getD_none, List.all_cons, List.all_nil, List.set_cons_zero, List.set_cons_succ, List.replicate_succ, List.replicate_zero, List.getElem?_cons_zero, List.getElem?_cons_succ, List.drop_succ_cons, List.drop_zero, List.take_succ_cons, List.take_zero, List.map_append, List.nil_append, List.cons_append, Nat.reduceShiftRight, Nat.reduceMod]) | (with_reducible refine RnB.nb ?_; simp only [vcW, vcV, vcD, Int.reduceEq, Int.reduceNe, Int.reduceLT, Int.reduceLE, Nat.reduceEqDiff, Nat.reduceAdd, reduceIte, reduceCtorEq, Nat.reduceLT, Nat.reduceLeDiff, eq_self, Option.bind_some, Option.map_some, List.map_cons, List.map_nil, List.length_cons, List.length_nil, Option.getD_some, Option.getD_none, List.all_cons, List.all_nil, List.set_cons_zero, List.set_cons_succ, List.replicate_succ, List.replicate_zero, List.getElem?_cons_zero, List.getElem?_cons_succ, List.drop_succ_cons, List.drop_zero, List.take_succ_cons, List.take_zero, List.map_append, List.nil_append, List.cons_append, Nat.reduceShiftRight, Nat.reduceMod]) | (with_reducible refine RnB.ii ?_) | (with_reducible refine RnB.app ?_) | (with_reducible refine RnB.fxB ?_; simp only [vcW, vcV, vcD, Int.reduceEq, Int.reduceNe, Int.reduceLT, Int.reduceLE, Nat.reduceEqDiff, Nat.reduceAdd, reduceIte, reduceCtorEq, Nat.reduceLT, Nat.reduceLeDiff, eq_self, Option.bind_some, Option.map_some, List.map_cons, List.map_nil, List.length_cons, List.length_nil, Option.getD_some, Option.getD_none, List.all_cons, List.all_nil, List.set_cons_zero, List.set_cons_succ, List.replicate_succ, List.replicate_zero, List.getElem?_cons_zero, List.getElem?_cons_succ, List.drop_succ_cons, List.drop_zero, List.take_succ_cons, List.take_zero, List.map_append, List.nil_append, List.cons_append, Nat.reduceShiftRight, Nat.reduceMod]) | omega)
  · by_cases h' : i < l.length
    · have h2 : (i : Int) < l.length := by omega
      simp only [h2, ints_get l i h', vcV, vcD, Int.reduceEq, Int.reduceNe, Int.reduceLT, Int.reduceLE, Nat.reduceEqDiff, Nat.reduceAdd, reduceIte, reduceCtorEq, Nat.reduceLT, Nat.reduceLeDiff, eq_self, Option.bind_some, Option.map_some, List.map_cons, List.map_nil, List.length_cons, List.length_nil, Option.getD_some, Option.getD_none, List.all_cons, List.all_nil, List.set_cons_zero, List.set_cons_succ, List.replicate_succ, List.replicate_zero, List.getElem?_cons_zero, List.getElem?_cons_succ, List.drop_succ_cons, List.drop_zero, List.take_succ_cons, List.take_zero, List.map_append, List.nil_append, List.cons_append, Nat.reduceShiftRight, Nat.reduceMod]
      refine ⟨by omega, ?_⟩
      refine callS_of (Within_s _ _ _) ?_
      by_cases hw : 0 ≤ l[i] ∧ l[i] ≤ 10000
      · simp only [hw, vcV, vcD, Int.reduceEq, Int.reduceNe, Int.reduceLT, Int.reduceLE, Nat.reduceEqDiff, Nat.reduceAdd, reduceIte, reduceCtorEq, Nat.reduceLT, Nat.reduceLeDiff, eq_self, Option.bind_some, Option.map_some, List.map_cons, List.map_nil, List.length_cons, List.length_nil, Option.getD_some, Option.getD_none, List.all_cons, List.all_nil, List.set_cons_zero, List.set_cons_succ, List.replicate_succ, List.replicate_zero, List.getElem?_cons_zero, List.getElem?_cons_succ, List.drop_succ_cons, List.drop_zero, List.take_succ_cons, List.take_zero, List.map_append, List.nil_append, List.cons_append, Nat.reduceShiftRight, Nat.reduceMod]
        refine ⟨by unfold I64; omega, ⟨i + 1, h', ?_⟩, by simp only; omega, ?_⟩
        · rw [List.take_succ_eq_append_getElem h']
          intro x hx
          rcases List.mem_append.1 hx with e | e
          · exact hn x e
          · rw [List.mem_singleton.1 e]; exact hw
        · refine weakX [] (of_decide_eq_true rfl) (of_decide_eq_true rfl) ?_
          (simp only [vcW, vcV, vcD, Int.reduceEq, Int.reduceNe, Int.reduceLT, Int.reduceLE, Nat.reduceEqDiff, Nat.reduceAdd, reduceIte, reduceCtorEq, Nat.reduceLT, Nat.reduceLeDiff, eq_self, Option.bind_some, Option.map_some, List.map_cons, List.map_nil, List.length_cons, List.length_nil, Option.getD_some, Option.getD_none, List.all_cons, List.all_nil, List.set_cons_zero, List.set_cons_succ, List.replicate_succ, List.replicate_zero, List.getElem?_cons_zero, List.getElem?_cons_succ, List.drop_succ_cons, List.drop_zero, List.take_succ_cons, List.take_zero, List.map_append, List.nil_append, List.cons_append, Nat.reduceShiftRight, Nat.reduceMod])
          (repeat' first | exact trivial | (with_reducible exact RnB.fxB (ints_fxB _)) | (with_reducible rfl) | (with_reducible refine And.intro ?_ ?_) | (with_reducible refine RnB.bb ?_; simp only [vcW, vcV, vcD, Int.reduceEq, Int.reduceNe, Int.reduceLT, Int.reduceLE, Nat.reduceEqDiff, Nat.reduceAdd, reduceIte, reduceCtorEq, Nat.reduceLT, Nat.reduceLeDiff, eq_self, Option.bind_some, Option.map_some, List.map_cons, List.map_nil, List.length_cons, List.length_nil, Option.getD_some, Option.getD_none, List.all_cons, List.all_nil, List.set_cons_zero, List.set_cons_succ, List.replicate_succ, List.replicate_zero, List.getElem?_cons_zero, List.getElem?_cons_succ, List.drop_succ_cons, List.drop_zero, List.take_succ_cons, List.take_zero, List.map_append, List.nil_append, List.cons_append, Nat.reduceShiftRight, Nat.reduceMod]) | (with_reducible refine RnB.nb ?_; simp only [vcW, vcV, vcD, Int.reduceEq, Int.reduceNe, Int.reduceLT, Int.reduceLE, Nat.reduceEqDiff, Nat.reduceAdd, reduceIte, reduceCtorEq, Nat.reduceLT, Nat.reduceLeDiff, eq_self, Option.bind_some, Option.map_some, List.map_cons, List.map_nil, List.length_cons, List.length_nil, Option.getD_some, Option.getD_none, List.all_cons, List.all_nil, List.set_cons_zero, List.set_cons_succ, List.replicate_succ, List.replicate_zero, List.getElem?_cons_zero, List.getElem?_cons_succ, List.drop_succ_cons, List.drop_zero, List.take_succ_cons, List.take_zero, List.map_append, List.nil_append, List.cons_append, Nat.reduceShiftRight, Nat.reduceMod]) | (with_reducible refine RnB.ii ?_) | (with_reducible refine RnB.app ?_) | (with_reducible refine RnB.fxB ?_; simp only [vcW, vcV, vcD, Int.reduceEq, Int.reduceNe, Int.reduceLT, Int.reduceLE, Nat.reduceEqDiff, Nat.reduceAdd, reduceIte, reduceCtorEq, Nat.reduceLT, Nat.reduceLeDiff, eq_self, Option.bind_some, Option.map_some, List.map_cons, List.map_nil, List.length_cons, List.length_nil, Option.getD_some, Option.getD_none, List.all_cons, List.all_nil, List.set_cons_zero, List.set_cons_succ, List.replicate_succ, List.replicate_zero, List.getElem?_cons_zero, List.getElem?_cons_succ, List.drop_succ_cons, List.drop_zero, List.take_succ_cons, List.take_zero, List.map_append, List.nil_append, List.cons_append, Nat.reduceShiftRight, Nat.reduceMod]) | omega)
      · have he : chE l = 2 := by
          unfold chE
          rw [if_neg h0, if_neg h1, if_neg]
          intro hall
          have := List.all_eq_true.1 hall _ (List.getElem_mem h')
          exact hw (by simpa using this)
        simp only [hw, he, vcV, vcD, Int.reduceEq, Int.reduceNe, Int.reduceLT, Int.reduceLE, Nat.reduceEqDiff, Nat.reduceAdd, reduceIte, reduceCtorEq, Nat.reduceLT, Nat.reduceLeDiff, eq_self, Option.bind_some, Option.map_some, List.map_cons, List.map_nil, List.length_cons, List.length_nil, Option.getD_some, Option.getD_none, List.all_cons, List.all_nil, List.set_cons_zero, List.set_cons_succ, List.replicate_succ, List.replicate_zero, List.getElem?_cons_zero, List.getElem?_cons_succ, List.drop_succ_cons, List.drop_zero, List.take_succ_cons, List.take_zero, List.map_append, List.nil_append, List.cons_append, Nat.reduceShiftRight, Nat.reduceMod]
    · have h2 : ¬ (i : Int) < l.length := by omega
      have hin : i = l.length := by omega
      subst hin
      rw [List.take_length] at hn
      have hall : (l.all fun n => decide (0 ≤ n ∧ n ≤ 10000)) = true := List.all_eq_true.2 fun x hx => decide_eq_true (hn x hx)
      simp only [h2, vcV, vcD, Int.reduceEq, Int.reduceNe, Int.reduceLT, Int.reduceLE, Nat.reduceEqDiff, Nat.reduceAdd, reduceIte, reduceCtorEq, Nat.reduceLT, Nat.reduceLeDiff, eq_self, Option.bind_some, Option.map_some, List.map_cons, List.map_nil, List.length_cons, List.length_nil, Option.getD_some, Option.getD_none, List.all_cons, List.all_nil, List.set_cons_zero, List.set_cons_succ, List.replicate_succ, List.replicate_zero, List.getElem?_cons_zero, List.getElem?_cons_succ, List.drop_succ_cons, List.drop_zero, List.take_succ_cons, List.take_zero, List.map_append, List.nil_append, List.cons_append, Nat.reduceShiftRight, Nat.reduceMod]
      refine callS_of (Sum_s l hl (sumOk_of (by omega) fun x hx => by have := hn x hx; omega)) ?_
      by_cases hs : l.sum = 0
      · have he : chE l = 11 := by unfold chE; rw [if_neg h0, if_neg h1, if_pos hall, if_pos hs]
        simp only [hs, he, vcV, vcD, Int.reduceEq, Int.reduceNe, Int.reduceLT, Int.reduceLE, Nat.reduceEqDiff, Nat.reduceAdd, reduceIte, reduceCtorEq, Nat.reduceLT, Nat.reduceLeDiff, eq_self, Option.bind_some, Option.map_some, List.map_cons, List.map_nil, List.length_cons, List.length_nil, Option.getD_some, Option.getD_none, List.all_cons, List.all_nil, List.set_cons_zero, List.set_cons_succ, List.replicate_succ, List.replicate_zero, List.getElem?_cons_zero, List.getElem?_cons_succ, List.drop_succ_cons, List.drop_zero, List.take_succ_cons, List.take_zero, List.map_append, List.nil_append, List.cons_append, Nat.reduceShiftRight, Nat.reduceMod]
      · have he : chE l = 0 := by unfold chE; rw [if_neg h0, if_neg h1, if_pos hall, if_neg hs]
        simp only [hs, he, vcV, vcD, Int.reduceEq, Int.reduceNe, Int.reduceLT, Int.reduceLE, Nat.reduceEqDiff, Nat.reduceAdd, reduceIte, reduceCtorEq, Nat.reduceLT, Nat.reduceLeDiff, eq_self, Option.bind_some, Option.map_some, List.map_cons, List.map_nil, List.length_cons, List.length_nil, Option.getD_some, Option.getD_none, List.all_cons, List.all_nil, List.set_cons_zero, List.set_cons_succ, List.replicate_succ, List.replicate_zero, List.getElem?_cons_zero, List.getElem?_cons_succ, List.drop_succ_cons, List.drop_zero, List.take_succ_cons, List.take_zero, List.map_append, List.nil_append, List.cons_append, Nat.reduceShiftRight, Nat.reduceMod]
theorem Gain_s (l : List Int) (hE : chE l = 0) : Sound Tryd.prog 19 [.sl (ints l)] (fracA (lowN (gainN l) (gainD l)) (lowD (gainN l) (gainD l))) := by
  refine sound_W f_ref02_Gain (Nat.le_of_ble_eq_true rfl) ?_
  obtain ⟨b1, b2, b3, b4, b5, b6, b7, b8⟩ := gain_bounds hE
  obtain ⟨q1, q2, q3, q4⟩ := chE_ok hE
  have hsum : sumOk l := sumOk_of (by omega) fun x hx => by have := q3 x hx; omega
  have hsq : ∀ i, 0 ≤ sqs (l.take i) ∧ sqs (l.take i) ≤ 4000000000 := fun i => by
    have := sqs_le (l := l.take i) (m := 10000) fun x hx => q3 x (List.mem_of_mem_take hx)
    have h2 : ((l.take i).length : Int) ≤ 40 := by rw [List.length_take]; omega
    omega
  have hL := Lowest_s (gainN l) (gainD l) (by unfold S63; omega) (by unfold S63; omega) (by omega)
  simp only [c_ref02_Gain, vcV, vcD, Int.reduceEq, Int.reduceNe, Int.reduceLT, Int.reduceLE, Nat.reduceEqDiff, Nat.reduceAdd, reduceIte, reduceCtorEq, Nat.reduceLT, Nat.reduceLeDiff, eq_self, Option.bind_some, Option.map_some, List.map_cons, List.map_nil, List.length_cons, List.length_nil, Option.getD_some, Option.getD_none, List.all_cons, List.all_nil, List.set_cons_zero, List.set_cons_succ, List.replicate_succ, List.replicate_zero, List.getElem?_cons_zero, List.getElem?_cons_succ, List.drop_succ_cons, List.drop_zero, List.take_succ_cons, List.take_zero, List.map_append, List.nil_append, List.cons_append, Nat.reduceShiftRight, Nat.reduceMod]
  refine callS_of (Sum_s l (by omega) hsum) ?_
  simp only [vcV, vcD, Int.reduceEq, Int.reduceNe, Int.reduceLT, Int.reduceLE, Nat.reduceEqDiff, Nat.reduceAdd, reduceIte, reduceCtorEq, Nat.reduceLT, Nat.reduceLeDiff, eq_self, Option.bind_some, Option.map_some, List.map_cons, List.map_nil, List.length_cons, List.length_nil, Option.getD_some, Option.getD_none, List.all_cons, List.all_nil, List.set_cons_zero, List.set_cons_succ, List.replicate_succ, List.replicate_zero, List.getElem?_cons_zero, List.getElem?_cons_succ, List.drop_succ_cons, List.drop_zero, List.take_succ_cons, List.take_zero, List.map_append, List.nil_append, List.cons_append, Nat.reduceShiftRight, Nat.reduceMod]
  refine W_loop (t := .mk) (α := PSigma fun i : Nat => i ≤ l.length) (fun ⟨i, _⟩ => (envOf [(0, .sl (ints l)), (2, .ptr 2 0 0), (3, .int .i64 l.length), (4, .int .i64 l.sum), (5, .int .i64 (sqs (l.take i))), (6, .int .i64 i)], stOf [(2, ⟨33, 2, [.agg [.int .i64 0, .int .i64 0]]⟩)])) (fun p => l.length - p.1) ⟨0, Nat.zero_le _⟩ ?_ (fun ⟨i, hi⟩ => ?_)
  · have z : sqs [] = 0 := rfl
    refine weakX [] (of_decide_eq_true rfl) (of_decide_eq_true rfl) ?_
    (simp only [z, vcW, vcV, vcD, Int.reduceEq, Int.reduceNe, Int.reduceLT, Int.reduceLE, Nat.reduceEqDiff, Nat.reduceAdd, reduceIte, reduceCtorEq, Nat.reduceLT, Nat.reduceLeDiff, eq_self, Option.bind_some, Option.map_some, List.map_cons, List.map_nil, List.length_cons, List.length_nil, Option.getD_some, Option.getD_none, List.all_cons, List.all_nil, List.set_cons_zero, List.set_cons_succ, List.replicate_succ, List.replicate_zero, List.getElem?_cons_zero, List.getElem?_cons_succ, List.drop_succ_cons, List.drop_zero, List.take_succ_cons, List.take_zero, List.map_append, List.nil_append, List.cons_append, Nat.reduceShiftRight, Nat.reduceMod])
    (repeat' first | exact trivial | (with_reducible exact RnB.fxB (ints_fxB _)) | (with_reducible rfl) | (with_reducible refine And.intro ?_ ?_) | (with_reducible refine RnB.bb ?_; simp only [vcW, vcV, vcD, Int.reduceEq, Int.reduceNe, Int.reduceLT, Int.reduceLE, Nat.reduceEqDiff, Nat.reduceAdd, reduceIte, reduceCtorEq, Nat.reduceLT, Nat.reduceLeDiff, eq_self, Option.bind_some, Option.map_some, List.map_cons, List.map_nil, List.length_cons, List.length_nil, Option.getD_some, Option.getD_none, List.all_cons, List.all_nil, List.set_cons_zero, List.set_cons_succ, List.replicate_succ, List.replicate_zero, List.getElem?_cons_zero, List.getElem?_cons_succ, List.drop_succ_cons, List.drop_zero, List.take_succ_cons, List.take_zero, List.map_append, List.nil_append, List.cons_append, Nat.reduceShiftRight, Nat.reduceMod]) | (with_reducible refine RnB.nb ?_; simp only [vcW, vcV, vcD, Int.reduceEq, Int.reduceNe, Int.reduceLT, Int.reduceLE, Nat.reduceEqDiff, Nat.reduceAdd, reduceIte, reduceCtorEq, Nat.reduceLT, Nat.reduceLeDiff, eq_self, Option.bind_some, Option.map_some, List.map_cons, List.map_nil, List.length_cons, List.length_nil, Option.getD_some, Option.getD_none, List.all_cons, List.all_nil, List.set_cons_zero, List.set_cons_succ, List.replicate_succ, List.replicate_zero, List.getElem?_cons_zero, List.getElem?_cons_succ, List.drop_succ_cons, List.drop_zero, List.take_succ_cons, List.take_zero, List.map_append, List.nil_append, List.cons_append, Nat.reduceShiftRight, Nat.reduceMod]) | (with_reducible refine RnB.ii ?_) | (with_reducible refine RnB.app ?_) | (with_reducible refine RnB.fxB ?_; simp only [vcW, vcV, vcD, Int.reduceEq, Int.reduceNe, Int.reduceLT, Int.reduceLE, Nat.reduceEqDiff, Nat.reduceAdd, reduceIte, reduceCtorEq, Nat.reduceLT, Nat.reduceLeDiff, eq_self, Option.bind_some, Option.map_some, List.map_cons, List.map_nil, List.length_cons, List.length_nil, Option.getD_some, Option.getD_none, List.all_cons, List.all_nil, List.set_cons_zero, List.set_cons_succ, List.replicate_succ, List.replicate_zero, List.getElem?_cons_zero, List.getElem?_cons_succ, List.drop_succ_cons, List.drop_zero, List.take_succ_cons, List.take_zero, List.map_append, List.nil_append, List.cons_append, Nat.reduceShiftRight, Nat.reduceMod]) | omega)
  · by_cases h' : i < l.length
    · have h2 : (i : Int) < l.length := by omega
      have hs := sqs_succ l i h'
      have hi1 := hsq (i + 1)
      have hi0 := hsq i
      rw [hs] at hi1
      have hx := q3 l[i] (List.getElem_mem h')
      have hxx : 0 ≤ l[i] * l[i] := Int.mul_nonneg hx.1 hx.1
      simp only [h2, ints_get l i h', vcV, vcD, Int.reduceEq, Int.reduceNe, Int.reduceLT, Int.reduceLE, Nat.reduceEqDiff, Nat.reduceAdd, reduceIte, reduceCtorEq, Nat.reduceLT, Nat.reduceLeDiff, eq_self, Option.bind_some, Option.map_some, List.map_cons, List.map_nil, List.length_cons, List.length_nil, Option.getD_some, Option.getD_none, List.all_cons, List.all_nil, List.set_cons_zero, List.set_cons_succ, List.replicate_succ, List.replicate_zero, List.getElem?_cons_zero, List.getElem?_cons_succ, List.drop_succ_cons, List.drop_zero, List.take_succ_cons, List.take_zero, List.map_append, List.nil_append, List.cons_append, Nat.reduceShiftRight, Nat.reduceMod]
      (repeat (with_reducible refine And.intro ?_ ?_; focus (first | omega | (unfold I64; omega))))
      refine ⟨⟨i + 1, h'⟩, by simp only; omega, ?_⟩
      refine weakX [] (of_decide_eq_true rfl) (of_decide_eq_true rfl) ?_
      (simp only [hs, vcW, vcV, vcD, Int.reduceEq, Int.reduceNe, Int.reduceLT, Int.reduceLE, Nat.reduceEqDiff, Nat.reduceAdd, reduceIte, reduceCtorEq, Nat.reduceLT, Nat.reduceLeDiff, eq_self, Option.bind_some, Option.map_some, List.map_cons, List.map_nil, List.length_cons, List.length_nil, Option.getD_some, Option.getD_none, List.all_cons, List.all_nil, List.set_cons_zero, List.set_cons_succ, List.replicate_succ, List.replicate_zero, List.getElem?_cons_zero, List.getElem?_cons_succ, List.drop_succ_cons, List.drop_zero, List.take_succ_cons, List.take_zero, List.map_append, List.nil_append, List.cons_append, Nat.reduceShiftRight, Nat.reduceMod])
      (repeat' first | exact trivial | (with_reducible exact RnB.fxB (ints_fxB _)) | (with_reducible rfl) | (with_reducible refine And.intro ?_ ?_) | (with_reducible refine RnB.bb ?_; simp only [vcW, vcV, vcD, Int.reduceEq, Int.reduceNe, Int.reduceLT, Int.reduceLE, Nat.reduceEqDiff, Nat.reduceAdd, reduceIte, reduceCtorEq, Nat.reduceLT, Nat.reduceLeDiff, eq_self, Option.bind_some, Option.map_some, List.map_cons, List.map_nil, List.length_cons, List.length_nil, Option.getD_some, Option.getD_none, List.all_cons, List.all_nil, List.set_cons_zero, List.set_cons_succ, List.replicate_succ, List.replicate_zero, List.getElem?_cons_zero, List.getElem?_cons_succ, List.drop_succ_cons, List.drop_zero, List.take_succ_cons, List.take_zero, List.map_append, List.nil_append, List.cons_append, Nat.reduceShiftRight, Nat.reduceMod]) | (with_reducible refine RnB.nb ?_; simp only [vcW, vcV, vcD, Int.reduceEq, Int.reduceNe, Int.reduceLT, Int.reduceLE, Nat.reduceEqDiff, Nat.reduceAdd, reduceIte, reduceCtorEq, Nat.reduceLT, Nat.reduceLeDiff, eq_self, Option.bind_some, Option.map_some, List.map_cons, List.map_nil, List.length_cons, List.length_nil, Option.getD_some, Option.getD_none, List.all_cons, List.all_nil, List.set_cons_zero, List.set_cons_succ, List.replicate_succ, List.replicate_zero, List.getElem?_cons_zero, List.getElem?_cons_succ, List.drop_succ_cons, List.drop_zero, List.take_succ_cons, List.take_zero, List.map_append, List.nil_append, List.cons_append, Nat.reduceShiftRight, Nat.reduceMod]) | (with_reducible refine RnB.ii ?_) | (with_reducible refine RnB.app ?_) | (with_reducible refine RnB.fxB ?_; simp only [vcW, vcV, vcD, Int.reduceEq, Int.reduceNe, Int.reduceLT, Int.reduceLE, Nat.reduceEqDiff, Nat.reduceAdd, reduceIte, reduceCtorEq, Nat.reduceLT, Nat.reduceLeDiff, eq_self, Option.bind_some, Option.map_some, List.map_cons, List.map_nil, List.length_cons, List.length_nil, Option.getD_some, Option.getD_none, List.all_cons, List.all_nil, List.set_cons_zero, List.set_cons_succ, List.replicate_succ, List.replicate_zero, List.getElem?_cons_zero, List.getElem?_cons_succ, List.drop_succ_cons, List.drop_zero, List.take_succ_cons, List.take_zero, List.map_append, List.nil_append, List.cons_append, Nat.reduceShiftRight, Nat.reduceMod]) | omega)
    · have h2 : ¬ (i : Int) < l.length := by omega
      have hin : i = l.length := by omega
      subst hin
      unfold gainN gainD at *
      simp only [h2, List.take_length, vcV, vcD, Int.reduceEq, Int.reduceNe, Int.reduceLT, Int.reduceLE, Nat.reduceEqDiff, Nat.reduceAdd, reduceIte, reduceCtorEq, Nat.reduceLT, Nat.reduceLeDiff, eq_self, Option.bind_some, Option.map_some, List.map_cons, List.map_nil, List.length_cons, List.length_nil, Option.getD_some, Option.getD_none, List.all_cons, List.all_nil, List.set_cons_zero, List.set_cons_succ, List.replicate_succ, List.replicate_zero, List.getElem?_cons_zero, List.getElem?_cons_succ, List.drop_succ_cons, List.drop_zero, List.take_succ_cons, List.take_zero, List.map_append, List.nil_append, List.cons_append, Nat.reduceShiftRight, Nat.reduceMod]
      (repeat (with_reducible refine And.intro ?_ ?_; focus (first | omega | (unfold I64; omega))))
      refine callS_of hL ?_
      simp only [fracA, vcV, vcD, Int.reduceEq, Int.reduceNe, Int.reduceLT, Int.reduceLE, Nat.reduceEqDiff, Nat.reduceAdd, reduceIte, reduceCtorEq, Nat.reduceLT, Nat.reduceLeDiff, eq_self, Option.bind_some, Option.map_some, List.map_cons, List.map_nil, List.length_cons, List.length_nil, Option.getD_some, Option.getD_none, List.all_cons, List.all_nil, List.set_cons_zero, List.set_cons_succ, List.replicate_succ, List.replicate_zero, List.getElem?_cons_zero, List.getElem?_cons_succ, List.drop_succ_cons, List.drop_zero, List.take_succ_cons, List.take_zero, List.map_append, List.nil_append, List.cons_append, Nat.reduceShiftRight, Nat.reduceMod]
end Go.Proofs.YtddiingfddlaaaaDoor

/- Contracts off the library's shelf: slices.Clone. By an AI agent; nothing here is trusted. -/
namespace Go.Proofs.YtddiingfddlaaaaDoor
open Go.Av
open Go.RowKit (Below)

def cloneRen : Go.Shelf.Ren := ⟨fun x => match x with | 15 => 104 | n => n, fun x => match x with | 22 => 22 | 3 => 3 | 4 => 4 | n => n, fun x => x⟩
set_option maxRecDepth 100000 in
theorem cloneFn : Tryd.prog.funcs[cloneRen.f 15]? = some (Go.Proofs.Body2.n15 cloneRen) := by kernel_rfl
theorem cloneLay : Go.Proofs.Lays2.n15 Tryd.prog cloneRen :=
  { mixed := by kernel_rfl, f15 := cloneFn,
    t3 := Tryd.underlying3, a3 := Tryd.isAgg3, z3 := Tryd.sizeOf3, v3 := Tryd.zeroValue3, t4 := Tryd.underlying4,
    a4 := Tryd.isAgg4, z4 := Tryd.sizeOf4, v4 := Tryd.zeroValue4, t22 := Tryd.underlying22, a22 := Tryd.isAgg22,
    z22 := Tryd.sizeOf22, v22 := Tryd.zeroValue22, i3 := by kernel_rfl }

theorem ints_at {l : List Int} {i : Nat} {x : AV} (h : (ints l)[i]? = some x) : ∃ hi : i < l.length, x = .int .i64 l[i] := by
  have hi : i < l.length := by
    have := (List.getElem?_eq_some_iff.1 h).1
    rw [ints_length] at this; exact this
  rw [ints_get l i hi] at h
  exact ⟨hi, by injection h with h; exact h.symm⟩
theorem own_sl {w' : World} {B : Nat} {e : TypeId} {v : Value} {l : List Int} {ok : Nat → Prop} (h : w'.ownsRow B e 1 v l.length (l.map (Value.int .i64))) :
    VR w'.heap (fun b => ok b ∨ (B ≤ b ∧ b < w'.heap.size)) noPlace noStore (.sl (ints l)) v := by
  obtain ⟨_, h⟩ := h
  rcases h with ⟨rfl, hn⟩ | ⟨g, cap, cur, rfl, hg, hb, hn, hcap, hcur, hx⟩
  · have : l = [] := List.eq_nil_of_length_eq_zero hn
    subst this
    exact .sl0 none 0
  · have hlen : (ints l).length = l.length := ints_length l
    rw [← hlen] at hn ⊢
    refine .sl (ints l) g 0 1 cap cur e (0, 0) (fun i _ => .int .i64 (l.getD i 0)) (.inr ⟨hg, (Array.getElem?_eq_some_iff.1 hb).1⟩) hn hb ?_ ?_ ?_
    · intro i x hi
      obtain ⟨_, rfl⟩ := ints_at hi
      exact ⟨rfl, fun c hc => by rw [List.mem_singleton.1 hc]; rfl, rfl⟩
    · intro i x o c hi ho
      obtain ⟨hil, rfl⟩ := ints_at hi
      have h0 : o = 0 := by
        cases o with
        | zero => rfl
        | succ o => simp [cellsOf] at ho
      subst h0
      have h1 : (cur.toList.take (l.length * 1))[i]? = (l.map (Value.int .i64))[i]? := by rw [hx]
      rw [List.getElem?_take, if_pos (by omega), Array.getElem?_toList, List.getElem?_map, List.getElem?_eq_getElem hil] at h1
      show cur[0 + i * 1 + 0]? = some (.int .i64 (l.getD i 0))
      rw [show 0 + i * 1 + 0 = i by omega, h1]
      simp [List.getD, List.getElem?_eq_getElem hil]
    · intro i x o c hi ho
      obtain ⟨hil, rfl⟩ := ints_at hi
      cases o with
      | zero =>
        simp [cellsOf] at ho
        subst ho
        show VR _ _ _ _ _ (.int .i64 (l.getD i 0))
        rw [show l.getD i 0 = l[i] by simp [List.getD, List.getElem?_eq_getElem hil]]
        exact .int _ _
      | succ o => simp [cellsOf] at ho

theorem Clone_s (l : List Int) (hl : l.length ≤ 1000000000) : Sound Tryd.prog 104 [.sl (ints l)] (.sl (ints l)) := by
  intro w ok cargs hok _ hlen hargs
  have h0 := hargs 0 _ rfl
  have hc1 : cargs = #[cargs.getD 0 undef] := by
    apply Array.ext
    · simpa using hlen
    · intro i h1 h2
      simp at h2
      subst h2
      simp [Array.getD, h1]
  rw [hc1]
  generalize cargs.getD 0 undef = v at h0
  have hin : ∀ v, (callFunc 104 #[v]).run Tryd.prog w = .ok (.enter 104 #[v]) w := fun v =>
    Go.Av.callFunc_enter Tryd.func104 (by kernel_rfl) rfl #[v]
  cases l with
  | nil =>
    have h1 : VR w.heap ok noPlace noStore (.sl []) v := h0
    show CallsF _ _ _ _ fun cv w' => Below w.heap.size w w' ∧ VR w'.heap (fun b => ok b ∨ (w.heap.size ≤ b ∧ b < w'.heap.size)) noPlace noStore (.sl (ints [])) cv
    cases h1 with
    | sl0 a cap =>
      cases a with
      | none =>
        refine .inr ⟨hin _, (Any.slices_Clone_int_nil cloneLay 0 cap w).mono fun e w' ⟨he, hw⟩ => ⟨_, he, ?_, ?_⟩⟩
        · rw [hw]; exact Below.refl _ _
        · exact .sl0 none 0
      | some a =>
        refine .inr ⟨hin _, (Any.slices_Clone_int_zero cloneLay a cap w).mono fun e w' ⟨v', he, ho, _, hB⟩ => ⟨v', he, hB, ?_⟩⟩
        exact own_sl (l := []) ho
    | sl _ b off s cap cur ty fr vals hok' hcap hb hs hc hv =>
      refine .inr ⟨hin _, (Any.slices_Clone_int_zero cloneLay ⟨b, off, none⟩ cap w).mono fun e w' ⟨v', he, ho, _, hB⟩ => ⟨v', he, hB, ?_⟩⟩
      exact own_sl (l := []) ho
  | cons x r =>
    have hpos : 0 < (x :: r).length := by simp
    generalize x :: r = l at *
    generalize hes : ints l = es at h0
    cases h0 with
    | sl0 a cap => rw [← ints_length, hes] at hpos; simp at hpos
    | sl _ b off s cap cur ty fr vals hok' hcap hb hs hc hv =>
      subst hes
      have hs1 : s = 1 := (hs 0 _ (ints_get l 0 hpos)).1.symm
      subst hs1
      have hcell : ∀ j, j < l.length → w.cell? ⟨b, off + j, none⟩ = some (.int .i64 (l.getD j 0)) := by
        intro j hj
        have h1 := hc j _ 0 _ (ints_get l j hj) rfl
        have h2 := hv j _ 0 _ (ints_get l j hj) rfl
        generalize vals j 0 = u at h1 h2
        cases h2
        rw [show off + j * 1 + 0 = off + j by omega] at h1
        simp [World.cell?, hb, h1, List.getD, List.getElem?_eq_getElem hj]
      have hlen : (ints l).length = l.length := ints_length l
      rw [hlen]
      refine .inr ⟨hin _, (Any.slices_Clone_int cloneLay b off l.length cap l w (Nat.le_refl _) (by omega) hcell).mono fun e w' ⟨v', he, ho, _, hB⟩ => ⟨v', he, hB, ?_⟩⟩
      rw [List.take_length] at ho
      exact own_sl ho

/-- The clone is the caller's. -/
theorem own_o {w w' : World} {ok : Nat → Prop} {e : Nat} {v : Value} {l : List Int} (h : w'.ownsRow w.heap.size e 1 v l.length (l.map (Value.int .i64))) : OwnR w w' ok e 1 (ints l) v := by
  obtain ⟨_, h⟩ := h
  rcases h with ⟨rfl, hn⟩ | ⟨g, cap, cur, rfl, hg, hb, hn, hcap, hcur, hx⟩
  · have : l = [] := List.eq_nil_of_length_eq_zero hn
    subst this
    exact .inl ⟨rfl, none, rfl⟩
  · have hlen : (ints l).length = l.length := ints_length l
    rw [← hlen] at hn ⊢
    refine .inr ⟨g, cap, cur, rfl, hg, hb, hn, hcap, hcur, fun i x hi => ?_⟩
    obtain ⟨hil, rfl⟩ := ints_at hi
    refine ⟨rfl, fun c hc => by rw [List.mem_singleton.1 hc]; rfl, fun o c ho => ?_⟩
    cases o with
    | zero =>
      simp [cellsOf] at ho
      subst ho
      have h1 : (cur.toList.take (l.length * 1))[i]? = (l.map (Value.int .i64))[i]? := by rw [hx]
      rw [List.getElem?_take, if_pos (by omega), Array.getElem?_toList, List.getElem?_map, List.getElem?_eq_getElem hil] at h1
      exact ⟨_, by rw [show i * 1 + 0 = i by omega]; exact h1, .int _ _⟩
    | succ o => simp [cellsOf] at ho
theorem Clone_o (l : List Int) (hl : l.length ≤ 1000000000) : SoundO Tryd.prog 104 [.sl (ints l)] 3 1 (ints l) := by
  refine ⟨by omega, ?_⟩
  intro w ok cargs hok _ hlen hargs
  have h0 := hargs 0 _ rfl
  have hc1 : cargs = #[cargs.getD 0 undef] := by
    apply Array.ext
    · simpa using hlen
    · intro i h1 h2
      simp at h2
      subst h2
      simp [Array.getD, h1]
  rw [hc1]
  generalize cargs.getD 0 undef = v at h0
  have hin : ∀ v, (callFunc 104 #[v]).run Tryd.prog w = .ok (.enter 104 #[v]) w := fun v =>
    Go.Av.callFunc_enter Tryd.func104 (by kernel_rfl) rfl #[v]
  cases l with
  | nil =>
    have h1 : VR w.heap ok noPlace noStore (.sl []) v := h0
    show CallsF _ _ _ _ fun cv w' => Below w.heap.size w w' ∧ OwnR w w' ok 3 1 (ints []) cv
    cases h1 with
    | sl0 a cap =>
      cases a with
      | none =>
        refine .inr ⟨hin _, (Any.slices_Clone_int_nil cloneLay 0 cap w).mono fun e w' ⟨he, hw⟩ => ⟨_, he, ?_, ?_⟩⟩
        · rw [hw]; exact Below.refl _ _
        · exact .inl ⟨rfl, none, rfl⟩
      | some a =>
        refine .inr ⟨hin _, (Any.slices_Clone_int_zero cloneLay a cap w).mono fun e w' ⟨v', he, ho, _, hB⟩ => ⟨v', he, hB, ?_⟩⟩
        exact own_o (l := []) ho
    | sl _ b off s cap cur ty fr vals hok' hcap hb hs hc hv =>
      refine .inr ⟨hin _, (Any.slices_Clone_int_zero cloneLay ⟨b, off, none⟩ cap w).mono fun e w' ⟨v', he, ho, _, hB⟩ => ⟨v', he, hB, ?_⟩⟩
      exact own_o (l := []) ho
  | cons x r =>
    have hpos : 0 < (x :: r).length := by simp
    generalize x :: r = l at *
    generalize hes : ints l = es at h0
    cases h0 with
    | sl0 a cap => rw [← ints_length, hes] at hpos; simp at hpos
    | sl _ b off s cap cur ty fr vals hok' hcap hb hs hc hv =>
      subst hes
      have hs1 : s = 1 := (hs 0 _ (ints_get l 0 hpos)).1.symm
      subst hs1
      have hcell : ∀ j, j < l.length → w.cell? ⟨b, off + j, none⟩ = some (.int .i64 (l.getD j 0)) := by
        intro j hj
        have h1 := hc j _ 0 _ (ints_get l j hj) rfl
        have h2 := hv j _ 0 _ (ints_get l j hj) rfl
        generalize vals j 0 = u at h1 h2
        cases h2
        rw [show off + j * 1 + 0 = off + j by omega] at h1
        simp [World.cell?, hb, h1, List.getD, List.getElem?_eq_getElem hj]
      have hlen : (ints l).length = l.length := ints_length l
      rw [hlen]
      refine .inr ⟨hin _, (Any.slices_Clone_int cloneLay b off l.length cap l w (Nat.le_refl _) (by omega) hcell).mono fun e w' ⟨v', he, ho, _, hB⟩ => ⟨v', he, hB, ?_⟩⟩
      rw [List.take_length] at ho
      exact own_o ho
end Go.Proofs.YtddiingfddlaaaaDoor

/- Contracts of functions without a body: bits.Add64, bits.Sub64. By an AI agent; nothing here is trusted. -/
namespace Go.Proofs.YtddiingfddlaaaaDoor
open Go.Av
open Go.RowKit (Below)

theorem args3 {h : Array Obj} {ok : Nat → Prop} {cargs : Array Value} {a b c : Int} (hlen : cargs.size = 3) (hargs : ∀ (i : Nat) (x : AV), [AV.int .u64 a, .int .u64 b, .int .u64 c][i]? = some x → VR h ok noPlace noStore x (cargs.getD i undef)) :
    cargs = #[.int .u64 a, .int .u64 b, .int .u64 c] := by
  have h0 := hargs 0 _ rfl
  have h1 := hargs 1 _ rfl
  have h2 := hargs 2 _ rfl
  have e0 : cargs.getD 0 undef = .int .u64 a := by generalize cargs.getD 0 undef = v at *; cases h0; rfl
  have e1 : cargs.getD 1 undef = .int .u64 b := by generalize cargs.getD 1 undef = v at *; cases h1; rfl
  have e2 : cargs.getD 2 undef = .int .u64 c := by generalize cargs.getD 2 undef = v at *; cases h2; rfl
  apply Array.ext
  · simpa using hlen
  · intro i hi1 hi2
    simp at hi2
    have : i = 0 ∨ i = 1 ∨ i = 2 := by omega
    rcases this with rfl | rfl | rfl
    · simpa [Array.getD, hi1] using e0
    · simpa [Array.getD, hi1] using e1
    · simpa [Array.getD, hi1] using e2
theorem tup2 {h : Array Obj} {ok : Nat → Prop} (a b : Int) : VR h ok noPlace noStore (.tup [.int .u64 a, .int .u64 b]) (.tuple #[.int .u64 a, .int .u64 b]) := by
  refine .tup _ _ rfl fun i c hc => ?_
  match i with
  | 0 => simp at hc; subst hc; exact .int _ _
  | 1 => simp at hc; subst hc; exact .int _ _
  | i + 2 => simp at hc
theorem Add64_s (x y c : Int) (hx : 0 ≤ x) (hy : 0 ≤ y) (hc : 0 ≤ c ∧ c ≤ 1) : Sound Tryd.prog 109 [.int .u64 x, .int .u64 y, .int .u64 c]
    (.tup [.int .u64 ((x + y + c) % 18446744073709551616), .int .u64 ((x + y + c) / 18446744073709551616)]) := by
  intro w ok cargs hok _ hlen hargs
  rw [args3 (by simpa using hlen) hargs]
  refine .inl ⟨_, w, ?_, Below.refl _ _, tup2 _ _⟩
  rw [run_callFunc_extern Tryd.func109 (by kernel_rfl) (by kernel_rfl) (by kernel_rfl) (e := add64Entry) (by kernel_rfl), run_add64 x y c hx hy hc.1 hc.2]
  rfl
theorem Sub64_s (x y b : Nat) (hb : b ≤ 1) : Sound Tryd.prog 111 [.int .u64 (x : Int), .int .u64 (y : Int), .int .u64 (b : Int)]
    (.tup [.int .u64 (((x + 18446744073709551616 - y - b) % 18446744073709551616 : Nat) : Int), .int .u64 ((if x < y + b then 1 else 0 : Nat) : Int)]) := by
  intro w ok cargs hok _ hlen hargs
  rw [args3 (by simpa using hlen) hargs]
  refine .inl ⟨_, w, ?_, Below.refl _ _, tup2 _ _⟩
  rw [run_callFunc_extern Tryd.func111 (by kernel_rfl) (by kernel_rfl) (by kernel_rfl) (e := sub64Entry) (by kernel_rfl), run_sub64 x y b hb]
  rfl
end Go.Proofs.YtddiingfddlaaaaDoor

/- The examples of chapter 2, by running the abstract code; an iterator from the end on. By an AI agent; nothing here is trusted. -/
namespace Go.Proofs.YtddiingfddlaaaaDoor
open Go.Av

/-- A number of 128 bits, as the code holds it. -/
def w128 (p : Bool × Int × Int) : AV := .agg [.bool p.1, .int .u64 p.2.1, .int .u64 p.2.2]
def w128s (l : List (Bool × Int × Int)) : List AV := l.map w128
theorem w128s_length (l : List (Bool × Int × Int)) : (w128s l).length = l.length := by simp [w128s]
theorem w128s_get (l : List (Bool × Int × Int)) (i : Nat) (h : i < l.length) : (w128s l)[i]? = some (.agg [.bool l[i].1, .int .u64 l[i].2.1, .int .u64 l[i].2.2]) := by
  simp [w128s, w128, h]
/-- What slices.Backward yields. -/
def backL (l : List (Bool × Int × Int)) : Nat → List (List AV)
  | 0 => []
  | k + 1 => backL l k ++ [[.int .i64 ((l.length : Int) - 1 - k), w128 (l.getD (l.length - 1 - k) default)]]
theorem backL_le (l : List (Bool × Int × Int)) (k n : Nat) (h : k ≤ n) : ∃ r, backL l n = backL l k ++ r := by
  obtain ⟨m, rfl⟩ := Nat.exists_eq_add_of_le h
  induction m with
  | zero => exact ⟨[], by simp⟩
  | succ m ih =>
    obtain ⟨r, hr⟩ := ih (by omega)
    exact ⟨r ++ [[.int .i64 ((l.length : Int) - 1 - (k + m : Nat)), w128 (l.getD (l.length - 1 - (k + m)) default)]], by rw [← Nat.add_assoc, backL, hr, List.append_assoc]⟩
theorem deadAll_no : deadAll noStore = noStore := rfl
theorem backward_s (l : List (Bool × Int × Int)) (hl : l.length ≤ 1000000) : SeqA Tryd.prog 124 [.eptr (.sl (w128s l)) 0] (backL l l.length) := by
  refine seq_W f_slices_Backward_pulse_wide_pulse_wide_1 (Nat.le_of_ble_eq_true rfl) fun y => ?_
  simp only [c_slices_Backward_pulse_wide_pulse_wide_1, w128s_length, vcC, Int.reduceEq, Int.reduceNe, Int.reduceLT, Int.reduceLE, Nat.reduceEqDiff, Nat.reduceAdd, reduceIte, reduceCtorEq, Nat.reduceLT, Nat.reduceLeDiff, eq_self, Option.bind_some, Option.map_some, List.map_cons, List.map_nil, List.length_cons, List.length_nil, Option.getD_some, Option.getD_none, List.all_cons, List.all_nil, List.set_cons_zero, List.set_cons_succ, List.replicate_succ, List.replicate_zero, List.getElem?_cons_zero, List.getElem?_cons_succ, List.drop_succ_cons, List.drop_zero, List.take_succ_cons, List.take_zero, WY_skip, WY_reg, WY_regY, WY_seq, WY_cond, WY_block, WY_exit, WY_ret, VY_nil, VY_yld, VY_yldg, VY_ps, seqY_n, seqY_r, seqY_x, blockY_n, blockY_r, blockY_x, isCallvs, isCallv, isY, List.any_cons, List.any_nil, Bool.or_false, Bool.or_true, Bool.false_or, Bool.and_false, Bool.false_and]
  refine ⟨by unfold I64; omega, ?_⟩
  refine WY_loop (α := PSigma fun k : Nat => k ≤ l.length) (fun k => ((envOf [(0, .yld y), (1, .eptr (.sl (w128s l)) 0), (3, .int .i64 ((l.length : Int) - 1 - k.1))], noStore), some (backL l k.1)))
    (fun k => l.length - k.1) ⟨0, by simp⟩ (weakE _ ?_) ?_ (fun ⟨k, hk⟩ => ?_)
  · simp only [vcC, Int.reduceEq, Int.reduceNe, Int.reduceLT, Int.reduceLE, Nat.reduceEqDiff, Nat.reduceAdd, reduceIte, reduceCtorEq, Nat.reduceLT, Nat.reduceLeDiff, eq_self, Option.bind_some, Option.map_some, List.map_cons, List.map_nil, List.length_cons, List.length_nil, Option.getD_some, Option.getD_none, List.all_cons, List.all_nil, List.set_cons_zero, List.set_cons_succ, List.replicate_succ, List.replicate_zero, List.getElem?_cons_zero, List.getElem?_cons_succ, List.drop_succ_cons, List.drop_zero, List.take_succ_cons, List.take_zero, WY_skip, WY_reg, WY_regY, WY_seq, WY_cond, WY_block, WY_exit, WY_ret, VY_nil, VY_yld, VY_yldg, VY_ps, seqY_n, seqY_r, seqY_x, blockY_n, blockY_r, blockY_x, isCallvs, isCallv, isY, List.any_cons, List.any_nil, Bool.or_false, Bool.or_true, Bool.false_or, Bool.and_false, Bool.false_and]; simp
  · simp [backL]
  · simp only [vcC, Int.reduceEq, Int.reduceNe, Int.reduceLT, Int.reduceLE, Nat.reduceEqDiff, Nat.reduceAdd, reduceIte, reduceCtorEq, Nat.reduceLT, Nat.reduceLeDiff, eq_self, Option.bind_some, Option.map_some, List.map_cons, List.map_nil, List.length_cons, List.length_nil, Option.getD_some, Option.getD_none, List.all_cons, List.all_nil, List.set_cons_zero, List.set_cons_succ, List.replicate_succ, List.replicate_zero, List.getElem?_cons_zero, List.getElem?_cons_succ, List.drop_succ_cons, List.drop_zero, List.take_succ_cons, List.take_zero, WY_skip, WY_reg, WY_regY, WY_seq, WY_cond, WY_block, WY_exit, WY_ret, VY_nil, VY_yld, VY_yldg, VY_ps, seqY_n, seqY_r, seqY_x, blockY_n, blockY_r, blockY_x, isCallvs, isCallv, isY, List.any_cons, List.any_nil, Bool.or_false, Bool.or_true, Bool.false_or, Bool.and_false, Bool.false_and]
    refine brB_split (fun h => ?_) (fun h => ?_)
    · have h' : k < l.length := by simp only [decide_eq_true_eq] at h; omega
      have h2 : ((l.length : Int) - 1 - k).toNat = l.length - 1 - k := by omega
      have hg := w128s_get l (l.length - 1 - k) (by omega)
      simp only [h2, hg, vcC, Int.reduceEq, Int.reduceNe, Int.reduceLT, Int.reduceLE, Nat.reduceEqDiff, Nat.reduceAdd, reduceIte, reduceCtorEq, Nat.reduceLT, Nat.reduceLeDiff, eq_self, Option.bind_some, Option.map_some, List.map_cons, List.map_nil, List.length_cons, List.length_nil, Option.getD_some, Option.getD_none, List.all_cons, List.all_nil, List.set_cons_zero, List.set_cons_succ, List.replicate_succ, List.replicate_zero, List.getElem?_cons_zero, List.getElem?_cons_succ, List.drop_succ_cons, List.drop_zero, List.take_succ_cons, List.take_zero, WY_skip, WY_reg, WY_regY, WY_seq, WY_cond, WY_block, WY_exit, WY_ret, VY_nil, VY_yld, VY_yldg, VY_ps, seqY_n, seqY_r, seqY_x, blockY_n, blockY_r, blockY_x, isCallvs, isCallv, isY, List.any_cons, List.any_nil, Bool.or_false, Bool.or_true, Bool.false_or, Bool.and_false, Bool.false_and]
      refine ⟨by omega, ?_⟩
      obtain ⟨rest, hrest⟩ := backL_le l (k + 1) l.length h'
      rw [backL, w128, show l.getD (l.length - 1 - k) default = l[l.length - 1 - k]'(by omega) by simp [List.getD, List.getElem?_eq_getElem (show l.length - 1 - k < l.length by omega)]] at hrest
      refine yS_of (backL l k) rest rfl ?_ ?_ ?_
      · rw [hrest]; simp
      · simp only [deadAll_no, vcC, Int.reduceEq, Int.reduceNe, Int.reduceLT, Int.reduceLE, Nat.reduceEqDiff, Nat.reduceAdd, reduceIte, reduceCtorEq, Nat.reduceLT, Nat.reduceLeDiff, eq_self, Option.bind_some, Option.map_some, List.map_cons, List.map_nil, List.length_cons, List.length_nil, Option.getD_some, Option.getD_none, List.all_cons, List.all_nil, List.set_cons_zero, List.set_cons_succ, List.replicate_succ, List.replicate_zero, List.getElem?_cons_zero, List.getElem?_cons_succ, List.drop_succ_cons, List.drop_zero, List.take_succ_cons, List.take_zero, WY_skip, WY_reg, WY_regY, WY_seq, WY_cond, WY_block, WY_exit, WY_ret, VY_nil, VY_yld, VY_yldg, VY_ps, seqY_n, seqY_r, seqY_x, blockY_n, blockY_r, blockY_x, isCallvs, isCallv, isY, List.any_cons, List.any_nil, Bool.or_false, Bool.or_true, Bool.false_or, Bool.and_false, Bool.false_and]
        refine ⟨by unfold I64; omega, ⟨k + 1, h'⟩, by simp only; omega, weakE _ ?_, ?_⟩
        · simp only [vcC, Int.reduceEq, Int.reduceNe, Int.reduceLT, Int.reduceLE, Nat.reduceEqDiff, Nat.reduceAdd, reduceIte, reduceCtorEq, Nat.reduceLT, Nat.reduceLeDiff, eq_self, Option.bind_some, Option.map_some, List.map_cons, List.map_nil, List.length_cons, List.length_nil, Option.getD_some, Option.getD_none, List.all_cons, List.all_nil, List.set_cons_zero, List.set_cons_succ, List.replicate_succ, List.replicate_zero, List.getElem?_cons_zero, List.getElem?_cons_succ, List.drop_succ_cons, List.drop_zero, List.take_succ_cons, List.take_zero, WY_skip, WY_reg, WY_regY, WY_seq, WY_cond, WY_block, WY_exit, WY_ret, VY_nil, VY_yld, VY_yldg, VY_ps, seqY_n, seqY_r, seqY_x, blockY_n, blockY_r, blockY_x, isCallvs, isCallv, isY, List.any_cons, List.any_nil, Bool.or_false, Bool.or_true, Bool.false_or, Bool.and_false, Bool.false_and]
          simp only [AV.int.injEq, true_and, and_true]
          omega
        · simp only [backL, w128, show l.getD (l.length - 1 - k) default = l[l.length - 1 - k]'(by omega) by simp [List.getD, List.getElem?_eq_getElem (show l.length - 1 - k < l.length by omega)]]
      · simp only [deadAll_no, vcC, Int.reduceEq, Int.reduceNe, Int.reduceLT, Int.reduceLE, Nat.reduceEqDiff, Nat.reduceAdd, reduceIte, reduceCtorEq, Nat.reduceLT, Nat.reduceLeDiff, eq_self, Option.bind_some, Option.map_some, List.map_cons, List.map_nil, List.length_cons, List.length_nil, Option.getD_some, Option.getD_none, List.all_cons, List.all_nil, List.set_cons_zero, List.set_cons_succ, List.replicate_succ, List.replicate_zero, List.getElem?_cons_zero, List.getElem?_cons_succ, List.drop_succ_cons, List.drop_zero, List.take_succ_cons, List.take_zero, WY_skip, WY_reg, WY_regY, WY_seq, WY_cond, WY_block, WY_exit, WY_ret, VY_nil, VY_yld, VY_yldg, VY_ps, seqY_n, seqY_r, seqY_x, blockY_n, blockY_r, blockY_x, isCallvs, isCallv, isY, List.any_cons, List.any_nil, Bool.or_false, Bool.or_true, Bool.false_or, Bool.and_false, Bool.false_and]; simp
    · simp only [vcC, Int.reduceEq, Int.reduceNe, Int.reduceLT, Int.reduceLE, Nat.reduceEqDiff, Nat.reduceAdd, reduceIte, reduceCtorEq, Nat.reduceLT, Nat.reduceLeDiff, eq_self, Option.bind_some, Option.map_some, List.map_cons, List.map_nil, List.length_cons, List.length_nil, Option.getD_some, Option.getD_none, List.all_cons, List.all_nil, List.set_cons_zero, List.set_cons_succ, List.replicate_succ, List.replicate_zero, List.getElem?_cons_zero, List.getElem?_cons_succ, List.drop_succ_cons, List.drop_zero, List.take_succ_cons, List.take_zero, WY_skip, WY_reg, WY_regY, WY_seq, WY_cond, WY_block, WY_exit, WY_ret, VY_nil, VY_yld, VY_yldg, VY_ps, seqY_n, seqY_r, seqY_x, blockY_n, blockY_r, blockY_x, isCallvs, isCallv, isY, List.any_cons, List.any_nil, Bool.or_false, Bool.or_true, Bool.false_or, Bool.and_false, Bool.false_and]
      have : k = l.length := by simp only [decide_eq_false_iff_not, Bool.not_true] at h; omega
      subst this
      simp

def unw : AV → Option (Bool × Int × Int)
  | .agg [.bool a, .int .u64 b, .int .u64 c] => some (a, b, c)
  | _ => none
def unws : List AV → Option (List (Bool × Int × Int))
  | [] => some []
  | x :: l => match unw x, unws l with
    | some n, some m => some (n :: m)
    | _, _ => none
theorem unws_some : ∀ {l : List AV} {m : List (Bool × Int × Int)}, unws l = some m → l = w128s m
  | [], m, h => by cases h; rfl
  | x :: l, m, h => by
    simp only [unws] at h
    split at h
    · rename_i n k h1 h2
      cases h
      rw [unws_some h2]
      unfold unw at h1
      split at h1
      · cases h1; rfl
      · cases h1
    · cases h
def unint : AV → Option Int
  | .int .i64 n => some n
  | _ => none
def unints : List AV → Option (List Int)
  | [] => some []
  | x :: l => match unint x, unints l with
    | some n, some m => some (n :: m)
    | _, _ => none
theorem unints_some : ∀ {l : List AV} {m : List Int}, unints l = some m → l = ints m
  | [], m, h => by cases h; rfl
  | x :: l, m, h => by
    simp only [unints] at h
    split at h
    · rename_i n k h1 h2
      cases h
      rw [unints_some h2]
      unfold unint at h1
      split at h1
      · cases h1; rfl
      · cases h1
    · cases h

/-- The iterator that the examples come to. -/
def itP : IterT := fun g caps => if g = 124 then (match caps with
  | [.eptr (.sl es) 0] => (match unws es with
    | some l => if l.length ≤ 1000000 then some (backL l l.length) else none
    | none => none)
  | _ => none) else none
theorem itP_ok : ∀ g caps xs, itP g caps = some xs → SeqA Tryd.prog g caps xs := by
  intro g caps xs h
  unfold itP at h
  split at h
  · rename_i hg
    subst hg
    split at h
    · rename_i es
      split at h
      · rename_i l hl
        split at h
        · rename_i hc
          cases h
          rw [unws_some hl]
          exact backward_s l hc
        · cases h
      · cases h
    · cases h
  · cases h
/-- The functions that are known by their contracts alone. -/
def extV : CallT := fun f a =>
  if f = 104 then (match a with
    | [.sl es] => (match unints es with
      | some l => if l.length ≤ 1000000 then some (.sl es) else none
      | none => none)
    | _ => none)
  else if f = 109 then (match a with
    | [.int .u64 x, .int .u64 y, .int .u64 c] => if 0 ≤ x ∧ 0 ≤ y ∧ 0 ≤ c ∧ c ≤ 1 then some (.tup [.int .u64 ((x + y + c) % 18446744073709551616), .int .u64 ((x + y + c) / 18446744073709551616)]) else none
    | _ => none)
  else if f = 111 then (match a with
    | [.int .u64 x, .int .u64 y, .int .u64 c] => if 0 ≤ x ∧ 0 ≤ y ∧ 0 ≤ c ∧ c ≤ 1 then some (.tup [.int .u64 (((x.toNat + 18446744073709551616 - y.toNat - c.toNat) % 18446744073709551616 : Nat) : Int), .int .u64 ((if x.toNat < y.toNat + c.toNat then 1 else 0 : Nat) : Int)]) else none
    | _ => none)
  else none
theorem extV_ok : ∀ f a v, extV f a = some v → Sound Tryd.prog f a v := by
  intro f a v h
  unfold extV at h
  split at h
  · rename_i hf
    subst hf
    split at h
    · rename_i es
      split at h
      · rename_i l hl
        split at h
        · rename_i hc
          cases h
          rw [unints_some hl]
          exact Clone_s l (by omega)
        · cases h
      · cases h
    · cases h
  · split at h
    · rename_i hf
      subst hf
      split at h
      · rename_i x y c
        split at h
        · rename_i hc
          cases h
          exact Add64_s x y c hc.1 hc.2.1 hc.2.2
        · cases h
      · cases h
    · split at h
      · rename_i hf
        subst hf
        split at h
        · rename_i x y c
          split at h
          · rename_i hc
            cases h
            have := Sub64_s x.toNat y.toNat c.toNat (by omega)
            rw [show ((x.toNat : Nat) : Int) = x by omega, show ((y.toNat : Nat) : Int) = y by omega, show ((c.toNat : Nat) : Int) = c by omega] at this
            exact this
          · cases h
        · cases h
      · cases h
/-- The clone is the caller's; a model, too. -/
def extO : OwnT := fun f a => if f = 104 then (match a with
    | [.sl es] => (match unints es with
      | some l => if l.length ≤ 1000000 then some (3, 1, es) else none
      | none => none)
    | _ => none) else none
theorem extO_ok : ∀ f a q, extO f a = some q → SoundO Tryd.prog f a q.1 q.2.1 q.2.2 := by
  intro f a q h
  unfold extO at h
  split at h
  · rename_i hf
    subst hf
    split at h
    · rename_i es
      split at h
      · rename_i l hl
        split at h
        · rename_i hc
          cases h
          rw [unints_some hl]
          exact Clone_o l (by omega)
        · cases h
      · cases h
    · cases h
  · cases h
def extP : CT := ⟨extV, extO⟩
theorem extP_ok : extP.ok Tryd.prog := ⟨extV_ok, extO_ok⟩
/-- Whose results are taken over. -/
def owP : FuncId → Bool := fun f => decide (f = 104) || decide (f = 99)
def tabP : List (Nat × Nat × Nat × MC × List (Nat × Option (Option Nat))) := [(11, 91, 0, c_law02_awake, [(0, none)]), (14, 47, 2, c_pulse_KeptAfter, [(4, none), (5, none)]), (15, 6, 1, c_base_CopyInts, [(2, none)]), (17, 65, 1, c_pulse_GainOf, [(2, (some (some 2))), (3, none)]), (25, 12, 2, c_pulse_Restored, [(4, none), (5, none)]), (26, 6, 1, c_ref02_Wave, [(2, (some (some 1)))]), (27, 26, 2, c_base_Ints, [(4, none)]), (53, 58, 2, c_pulse_FitOf, [(4, (some (some 2))), (5, none)]), (54, 3, 0, c_law02_Template, [(0, (some (some 2)))]), (55, 41, 3, c_pulse_ErrorOf, [(6, (some (some 2))), (7, none)]), (57, 15, 1, c_pulse_first, [(2, none)]), (58, 30, 1, c_pulse_timesErr, [(2, none)]), (59, 7, 2, c_pulse_unless, [(4, none)]), (60, 5, 1, c_pulse_isTick, [(2, none)]), (61, 9, 2, c_slices_ContainsFunc_int_int, [(4, none)]), (62, 6, 1, c_pulse_GainOf_1, [(2, none)]), (63, 15, 3, c_pulse_within, [(6, none)]), (64, 25, 1, c_slices_Max_int_int, [(2, none)]), (65, 17, 1, c_pulse_sum, [(2, none)]), (66, 28, 2, c_pulse_lowest, [(4, (some (some 2))), (5, none)]), (68, 60, 3, c_pulse_droop, [(6, none), (7, none)]), (69, 24, 1, c_pulse_samplesErr, [(2, none), (3, none)]), (70, 11, 1, c_pulse_sampled, [(2, none)]), (71, 16, 2, c_pulse_floor, [(4, none)]), (76, 21, 1, c_pulse_fitErr, [(2, none)]), (77, 5, 1, c_pulse_isSample, [(2, none)]), (79, 22, 2, c_pulse_fittedErr, [(4, none)]), (80, 55, 2, c_pulse_problemOf, [(4, (some (some 2)))]), (81, 8, 1, c_math_bits_TrailingZeros, [(2, none)]), (82, 92, 2, c_pulse_problem_solved, [(4, (some (some 3))), (5, none)]), (83, 56, 3, c_pulse_problem_isBest, [(6, none)]), (84, 62, 2, c_pulse_reduced, [(4, (some (some 2))), (5, none)]), (85, 21, 3, c_pulse_bothErr, [(6, none)]), (86, 35, 3, c_pulse_differences, [(6, none)]), (87, 57, 2, c_pulse_wide_plus, [(4, (some (some 3)))]), (88, 11, 1, c_pulse_wideOf, [(2, (some (some 3)))]), (89, 33, 2, c_pulse_wide_times, [(4, (some (some 3)))]), (90, 39, 1, c_pulse_wide_text, [(2, none)]), (91, 19, 2, c_slices_IndexFunc_int_int, [(4, none)]), (92, 15, 2, c_pulse_divisor, [(4, none)]), (94, 12, 1, c_pulse_droopErr, [(2, none)]), (95, 6, 1, c_pulse_samplesErr_1, [(2, none)]), (96, 6, 1, c_pulse_fitErr_1, [(2, none)]), (97, 10, 2, c_pulse_isSized, [(4, none)]), (98, 32, 1, c_pulse_templateErr, [(2, none)]), (99, 47, 2, c_pulse_model, [(4, none)]), (100, 30, 3, c_pulse_against, [(6, none)]), (101, 14, 1, c_math_bits_TrailingZeros32, [(2, none)]), (102, 14, 1, c_math_bits_TrailingZeros64, [(2, none)]), (103, 57, 1, c_pulse_determinant, [(2, (some (some 3)))]), (105, 11, 1, c_pulse_wide_negated, [(2, (some (some 3)))]), (106, 9, 1, c_pulse_wide_sign, [(2, none)]), (107, 60, 2, c_pulse_common, [(4, (some (some 3)))]), (108, 51, 2, c_pulse_wide_over, [(4, (some (some 3)))]), (110, 24, 2, c_pulse_wide_isLess, [(4, none)]), (112, 51, 2, c_math_bits_Mul64, [(4, none), (5, none)]), (113, 135, 3, c_math_bits_Div64, [(6, none), (7, none)]), (114, 8, 2, c_strconv_FormatUint, [(4, none)]), (115, 6, 1, c_pulse_templateErr_1, [(2, none)]), (116, 5, 1, c_pulse_templateErr_2, [(2, none)]), (117, 11, 1, c_pulse_wide_isZero, [(2, none)]), (118, 8, 1, c_pulse_wide_size, [(2, (some (some 3)))]), (119, 16, 1, c_pulse_wide_half, [(2, (some (some 3)))]), (120, 6, 1, c_pulse_wide_twice, [(2, (some (some 3)))]), (121, 4, 1, c_slices_Backward_pulse_wide_pulse_wide, [(2, none)]), (122, 6, 1, c_math_bits_LeadingZeros64, [(2, none)]), (123, 32, 2, c_internal_strconv_FormatUint, [(4, none)]), (124, 19, 2, c_slices_Backward_pulse_wide_pulse_wide_1, []), (125, 25, 1, c_math_bits_Len64, [(2, none)]), (126, 15, 1, c_internal_strconv_small, [(2, none)]), (127, 15, 1, c_internal_strconv_numDigits, [(2, none)]), (128, 167, 2, c_internal_strconv_formatBase10, []), (129, 102, 5, c_internal_strconv_formatBits, [(10, none), (11, none)]), (130, 6, 1, c_internal_strconv_log10Pow2, [(2, none)]), (131, 4, 1, c_internal_strconv_bool2_int, [(2, none)]), (132, 8, 1, c_internal_strconv_isPowerOfTwo, [(2, none)])]
theorem tabP_ok : ∀ f c, lookC tabP f = some c → cFun Tryd.prog f = some c := by
  refine lookC_ok ?_
  unfold tabP
  simp only [List.forall_mem_cons]
  exact ⟨f_law02_awake, f_pulse_KeptAfter, f_base_CopyInts, f_pulse_GainOf, f_pulse_Restored, f_ref02_Wave, f_base_Ints, f_pulse_FitOf, f_law02_Template, f_pulse_ErrorOf, f_pulse_first, f_pulse_timesErr, f_pulse_unless, f_pulse_isTick, f_slices_ContainsFunc_int_int, f_pulse_GainOf_1, f_pulse_within, f_slices_Max_int_int, f_pulse_sum, f_pulse_lowest, f_pulse_droop, f_pulse_samplesErr, f_pulse_sampled, f_pulse_floor, f_pulse_fitErr, f_pulse_isSample, f_pulse_fittedErr, f_pulse_problemOf, f_math_bits_TrailingZeros, f_pulse_problem_solved, f_pulse_problem_isBest, f_pulse_reduced, f_pulse_bothErr, f_pulse_differences, f_pulse_wide_plus, f_pulse_wideOf, f_pulse_wide_times, f_pulse_wide_text, f_slices_IndexFunc_int_int, f_pulse_divisor, f_pulse_droopErr, f_pulse_samplesErr_1, f_pulse_fitErr_1, f_pulse_isSized, f_pulse_templateErr, f_pulse_model, f_pulse_against, f_math_bits_TrailingZeros32, f_math_bits_TrailingZeros64, f_pulse_determinant, f_pulse_wide_negated, f_pulse_wide_sign, f_pulse_common, f_pulse_wide_over, f_pulse_wide_isLess, f_math_bits_Mul64, f_math_bits_Div64, f_strconv_FormatUint, f_pulse_templateErr_1, f_pulse_templateErr_2, f_pulse_wide_isZero, f_pulse_wide_size, f_pulse_wide_half, f_pulse_wide_twice, f_slices_Backward_pulse_wide_pulse_wide, f_math_bits_LeadingZeros64, f_internal_strconv_FormatUint, f_slices_Backward_pulse_wide_pulse_wide_1, f_math_bits_Len64, f_internal_strconv_small, f_internal_strconv_numDigits, f_internal_strconv_formatBase10, f_internal_strconv_formatBits, f_internal_strconv_log10Pow2, f_internal_strconv_bool2_int, f_internal_strconv_isPowerOfTwo, fun p hp => by cases hp⟩
end Go.Proofs.YtddiingfddlaaaaDoor

/- The examples of chapter 2 hold. By an AI agent; nothing here is trusted. -/
namespace Go.Proofs.YtddiingfddlaaaaDoor
open Go.Av
theorem awake_run : (callX extP owP itP (lookC tabP) 100 40).v 11 [] = some (.bool true) := by kernel_rfl
theorem awake_s : Sound Tryd.prog 11 [] (.bool true) := (callX_sound extP_ok itP_ok tabP_ok 40).1 _ _ _ awake_run
end Go.Proofs.YtddiingfddlaaaaDoor

/- The marked code of law functions; printed by a program. By an AI agent; nothing here is trusted. -/
namespace Go.Proofs.YtddiingfddlaaaaDoor
open Go.Av
def cl_law02_PulseGains_10 : ML := (.seq (.seq (.reg 154742504910672534362391074 [⟨none, (some 85), (.mv (.t 9))⟩, ⟨none, (some 86), (.call 18 [(.t 85)])⟩, ⟨none, (some 87), (.bin .neq (.t 86) (.c (.int .i64 0)))⟩] false []) (.cond (.t 87) (.seq (.reg 16 [⟨none, (some 4), (.mv (.c (.bool true)))⟩] false []) .ret) .skip)) (.seq (.reg 6178 [⟨none, (some 89), (.mv (.t 9))⟩, ⟨none, (some 90), (.call 17 [(.t 89)])⟩, ⟨none, (some 88), (.mv (.t 90))⟩, ⟨none, (some 91), (.extract (.t 88) 0)⟩, ⟨none, (some 92), (.extract (.t 88) 1)⟩, ⟨none, (some 11), (.alloc 33 2 (.agg [(.int .i64 0), (.int .i64 0)]))⟩, ⟨none, none, (.store 2 (.t 11) (.t 91))⟩, ⟨none, (some 12), (.mv (.t 92))⟩] false []) (.seq (.seq (.reg 19807040628566084398385993762 [⟨none, (some 93), (.mv (.t 12))⟩, ⟨none, (some 94), (.bin .neq (.t 93) (.c (.int .i64 0)))⟩] false []) (.cond (.t 94) (.seq (.reg 16 [⟨none, (some 95), (.mv (.t 12))⟩, ⟨none, (some 96), (.bin .eql (.t 95) (.c (.int .i64 8)))⟩, ⟨none, (some 4), (.mv (.t 96))⟩] false []) .ret) .skip)) (.seq (.reg 16 [⟨none, (some 97), (.load (some 2) (.t 11))⟩, ⟨none, (some 98), (.fieldAddr (.t 5) 0)⟩, ⟨none, (some 99), (.load none (.t 98))⟩, ⟨none, (some 100), (.mv (.t 1))⟩, ⟨none, (some 101), (.bin .mul (.t 99) (.t 100))⟩, ⟨none, (some 102), (.fieldAddr (.t 5) 1)⟩, ⟨none, (some 103), (.load none (.t 102))⟩, ⟨none, (some 104), (.call 21 [(.t 101), (.t 103)])⟩, ⟨none, (some 105), (.eqS false [1, 1] (.t 97) (.t 104))⟩, ⟨none, (some 4), (.mv (.t 105))⟩] true []) .ret))))
def cl_law02_PulseGains_9 : ML := (.seq (.seq (.reg 1571 [⟨none, (some 10), (.mv (.c (.int .i64 0)))⟩] false []) (.block 0 (.loop (.seq (.seq (.reg 9444732965739290428963 [⟨none, (some 70), (.mv (.t 10))⟩, ⟨none, (some 71), (.mv (.t 0))⟩, ⟨none, (some 72), (.len false (.t 71))⟩, ⟨none, (some 73), (.bin .lss (.t 70) (.t 72))⟩] false []) (.cond (.t 73) .skip (.exit 0))) (.seq (.block 1 (.reg 1571 [⟨none, (some 76), (.mv (.t 9))⟩, ⟨none, (some 77), (.mv (.t 0))⟩, ⟨none, (some 78), (.mv (.t 10))⟩, ⟨none, (some 79), (.indexAddr (.t 77) (.t 78) 1)⟩, ⟨none, (some 80), (.load none (.t 79))⟩, ⟨none, (some 81), (.mv (.t 1))⟩, ⟨none, (some 82), (.bin .mul (.t 80) (.t 81))⟩, ⟨none, (some 83), (.buildSlice 3 1 1 (.int .i64 0) [(0, (.t 82))])⟩, ⟨none, (some 84), (.append 3 1 8 (.int .i64 0) (.t 76) (.t 83))⟩, ⟨none, (some 9), (.mv (.t 84))⟩] false [])) (.reg 1571 [⟨none, (some 74), (.mv (.t 10))⟩, ⟨none, (some 75), (.bin .add (.t 74) (.c (.int .i64 1)))⟩, ⟨none, (some 10), (.mv (.t 75))⟩] false [])))))) (.cut cl_law02_PulseGains_10))
def cl_law02_PulseGains : ML := (.seq (.reg 3 [⟨none, (some 4), (.mv (.c (.bool false)))⟩] false []) (.seq (.seq (.reg 16387 [⟨none, (some 13), (.call 11 [])⟩, ⟨none, (some 14), (.un .not (.t 13))⟩] false []) (.cond (.t 14) (.seq (.reg 16 [⟨none, (some 4), (.mv (.c (.bool false)))⟩] false []) .ret) .skip)) (.seq (.seq (.reg 131075 [⟨none, (some 15), (.mv (.t 0))⟩, ⟨none, (some 16), (.len false (.t 15))⟩, ⟨none, (some 17), (.bin .gtr (.t 16) (.c (.int .i64 42)))⟩] false []) (.cond (.t 17) (.seq (.reg 16 [⟨none, (some 4), (.mv (.c (.bool true)))⟩] false []) .ret) .skip)) (.seq (.reg 99 [⟨none, (some 19), (.mv (.t 0))⟩, ⟨none, (some 20), (.call 15 [(.t 19)])⟩, ⟨none, (some 21), (.call 17 [(.t 20)])⟩, ⟨none, (some 18), (.mv (.t 21))⟩, ⟨none, (some 22), (.extract (.t 18) 0)⟩, ⟨none, (some 23), (.extract (.t 18) 1)⟩, ⟨none, (some 5), (.alloc 33 2 (.agg [(.int .i64 0), (.int .i64 0)]))⟩, ⟨none, none, (.store 2 (.t 5) (.t 22))⟩, ⟨none, (some 6), (.mv (.t 23))⟩] false []) (.seq (.seq (.reg 227 [⟨none, (some 24), (.mv (.t 0))⟩, ⟨none, (some 25), (.call 18 [(.t 24)])⟩, ⟨none, (some 7), (.mv (.t 25))⟩] false []) (.seq (.reg 134217955 [⟨none, (some 26), (.mv (.t 7))⟩, ⟨none, (some 27), (.bin .neq (.t 26) (.c (.int .i64 0)))⟩] false []) (.cond (.t 27) (.seq (.reg 16 [⟨none, (some 28), (.mv (.t 6))⟩, ⟨none, (some 29), (.mv (.t 7))⟩, ⟨none, (some 30), (.bin .eql (.t 28) (.t 29))⟩, ⟨none, (some 31), (.mv (.t 30))⟩, ⟨(some (31, true)), (some 32), (.load (some 2) (.t 5))⟩, ⟨(some (31, true)), (some 33), (.build [(.int .i64 0), (.int .i64 0)] [])⟩, ⟨(some (31, true)), (some 34), (.eqS false [1, 1] (.t 32) (.t 33))⟩, ⟨none, (some 35), (.pick (.t 31) (.t 34) (.c (.bool false)))⟩, ⟨none, (some 4), (.mv (.t 35))⟩] false []) .ret) .skip))) (.seq (.reg 355 [⟨none, (some 36), (.mv (.t 0))⟩, ⟨none, (some 37), (.call 19 [(.t 36)])⟩, ⟨none, (some 8), (.alloc 33 2 (.agg [(.int .i64 0), (.int .i64 0)]))⟩, ⟨none, none, (.store 2 (.t 8) (.t 37))⟩] false []) (.seq (.seq (.reg 4611686018427388003 [⟨none, (some 38), (.load (some 2) (.t 8))⟩, ⟨none, (some 39), (.call 20 [(.t 38)])⟩, ⟨none, (some 40), (.mv (.t 39))⟩, ⟨(some (40, true)), (some 41), (.mv (.t 6))⟩, ⟨(some (40, true)), (some 42), (.bin .neq (.t 41) (.c (.int .i64 0)))⟩, ⟨(some (40, true)), (some 43), (.mv (.t 42))⟩, ⟨(some (43, false)), (some 44), (.load (some 2) (.t 5))⟩, ⟨(some (43, false)), (some 45), (.load (some 2) (.t 8))⟩, ⟨(some (43, false)), (some 46), (.eqS true [1, 1] (.t 44) (.t 45))⟩, ⟨(some (40, true)), (some 47), (.pick (.t 43) (.c (.bool true)) (.t 46))⟩, ⟨none, (some 48), (.pick (.t 40) (.t 47) (.c (.bool false)))⟩, ⟨none, (some 49), (.mv (.t 48))⟩, ⟨(some (49, false)), (some 50), (.load (some 2) (.t 8))⟩, ⟨(some (49, false)), (some 51), (.call 20 [(.t 50)])⟩, ⟨(some (49, false)), (some 52), (.un .not (.t 51))⟩, ⟨(some (49, false)), (some 53), (.mv (.t 52))⟩, ⟨(some (53, true)), (some 54), (.mv (.t 6))⟩, ⟨(some (53, true)), (some 55), (.bin .neq (.t 54) (.c (.int .i64 8)))⟩, ⟨(some (53, true)), (some 56), (.mv (.t 55))⟩, ⟨(some (56, false)), (some 57), (.load (some 2) (.t 5))⟩, ⟨(some (56, false)), (some 58), (.build [(.int .i64 0), (.int .i64 0)] [])⟩, ⟨(some (56, false)), (some 59), (.eqS true [1, 1] (.t 57) (.t 58))⟩, ⟨(some (53, true)), (some 60), (.pick (.t 56) (.c (.bool true)) (.t 59))⟩, ⟨(some (49, false)), (some 61), (.pick (.t 53) (.t 60) (.c (.bool false)))⟩, ⟨none, (some 62), (.pick (.t 49) (.c (.bool true)) (.t 61))⟩] false []) (.cond (.t 62) (.seq (.reg 16 [⟨none, (some 4), (.mv (.c (.bool false)))⟩] false []) .ret) .skip)) (.seq (.seq (.reg 590295810358705651747 [⟨none, (some 63), (.mv (.t 6))⟩, ⟨none, (some 64), (.bin .neq (.t 63) (.c (.int .i64 0)))⟩, ⟨none, (some 65), (.mv (.t 64))⟩, ⟨(some (65, false)), (some 66), (.mv (.t 1))⟩, ⟨(some (65, false)), (some 67), (.call 13 [(.t 66), (.c (.int .i64 1)), (.c (.int .i64 20))])⟩, ⟨(some (65, false)), (some 68), (.un .not (.t 67))⟩, ⟨none, (some 69), (.pick (.t 65) (.c (.bool true)) (.t 68))⟩] false []) (.cond (.t 69) (.seq (.reg 16 [⟨none, (some 4), (.mv (.c (.bool true)))⟩] false []) .ret) .skip)) (.seq (.reg 547 [⟨none, (some 9), (.mv (.c .nils))⟩] false []) (.cut cl_law02_PulseGains_9))))))))))
theorem e_law02_PulseGains : cl_law02_PulseGains.er = c_law02_PulseGains := rfl
end Go.Proofs.YtddiingfddlaaaaDoor

/- The law PulseGains: it answers true. By an AI agent; nothing here is trusted. -/
namespace Go.Proofs.YtddiingfddlaaaaDoor
open Go.Av

theorem low_small {n d : Int} (h : smallF n d = true) : (-1000000000 ≤ n ∧ n ≤ 1000000000) ∧ (1 ≤ d ∧ d ≤ 1000000000) := by
  unfold smallF at h
  simp only [Bool.and_eq_true, decide_eq_true_eq] at h
  exact h
theorem PG_9 (l : List Int) (b : Int) (hE : chE l = 0) (hs : smallF (lowN (gainN l) (gainD l)) (lowD (gainN l) (gainD l)) = true) (hb : 1 ≤ b ∧ b ≤ 20) :
    WL Tryd.prog 106 cl_law02_PulseGains_9 (endQ [(4, none)] (.bool true)) (envOf [(0, .sl (ints l)), (1, .int .i64 b), (5, .ptr 5 0 0), (9, .nils)])
      (stOf [(5, ⟨33, 2, [.agg [.int .i64 (lowN (gainN l) (gainD l)), .int .i64 (lowD (gainN l) (gainD l))]]⟩)]) .mk := by
  obtain ⟨q1, q2, q3, q4⟩ := chE_ok hE
  have hmax := maxLen_big
  simp only [cl_law02_PulseGains_9, vcV, vcD, Int.reduceEq, Int.reduceNe, Int.reduceLT, Int.reduceLE, Nat.reduceEqDiff, Nat.reduceAdd, reduceIte, reduceCtorEq, Nat.reduceLT, Nat.reduceLeDiff, eq_self, Option.bind_some, Option.map_some, List.map_cons, List.map_nil, List.length_cons, List.length_nil, Option.getD_some, Option.getD_none, List.all_cons, List.all_nil, List.set_cons_zero, List.set_cons_succ, List.replicate_succ, List.replicate_zero, List.getElem?_cons_zero, List.getElem?_cons_succ, List.drop_succ_cons, List.drop_zero, List.take_succ_cons, List.take_zero, List.map_append, List.nil_append, List.cons_append, Nat.reduceShiftRight, Nat.reduceMod]
  refine WL_loop (t := .mk) (α := PSigma fun i : Nat => i ≤ l.length) (fun ⟨i, _⟩ => (envOf [(0, .sl (ints l)), (1, .int .i64 b), (5, .ptr 5 0 0), (9, .buf 100 i), (10, .int .i64 i)],
      stOf [(5, ⟨33, 2, [.agg [.int .i64 (lowN (gainN l) (gainD l)), .int .i64 (lowD (gainN l) (gainD l))]]⟩), (100, ⟨3, 1, ints ((l.take i).map (· * b))⟩)])) (fun p => l.length - p.1) ⟨0, Nat.zero_le _⟩ ?_ (fun ⟨i, hi⟩ => ?_)
  · have z : ints (([] : List Int).map (· * b)) = [] := rfl
    refine weakX [(100, none)] (of_decide_eq_true rfl) (of_decide_eq_true rfl) ?_
    (simp only [z, vcW, vcV, vcD, Int.reduceEq, Int.reduceNe, Int.reduceLT, Int.reduceLE, Nat.reduceEqDiff, Nat.reduceAdd, reduceIte, reduceCtorEq, Nat.reduceLT, Nat.reduceLeDiff, eq_self, Option.bind_some, Option.map_some, List.map_cons, List.map_nil, List.length_cons, List.length_nil, Option.getD_some, Option.getD_none, List.all_cons, List.all_nil, List.set_cons_zero, List.set_cons_succ, List.replicate_succ, List.replicate_zero, List.getElem?_cons_zero, List.getElem?_cons_succ, List.drop_succ_cons, List.drop_zero, List.take_succ_cons, List.take_zero, List.map_append, List.nil_append, List.cons_append, Nat.reduceShiftRight, Nat.reduceMod])
    (repeat' first | exact trivial | (with_reducible exact RnB.fxB (ints_fxB _)) | (with_reducible rfl) | (with_reducible refine And.intro ?_ ?_) | (with_reducible refine RnB.bb ?_; simp only [vcW, vcV, vcD, Int.reduceEq, Int.reduceNe, Int.reduceLT, Int.reduceLE, Nat.reduceEqDiff, Nat.reduceAdd, reduceIte, reduceCtorEq, Nat.reduceLT, Nat.reduceLeDiff, eq_self, Option.bind_some, Option.map_some, List.map_cons, List.map_nil, List.length_cons, List.length_nil, Option.getD_some, Option.getD_none, List.all_cons, List.all_nil, List.set_cons_zero, List.set_cons_succ, List.replicate_succ, List.replicate_zero, List.getElem?_cons_zero, List.getElem?_cons_succ, List.drop_succ_cons, List.drop_zero, List.take_succ_cons, List.take_zero, List.map_append, List.nil_append, List.cons_append, Nat.reduceShiftRight, Nat.reduceMod]) | (with_reducible refine RnB.nb ?_; simp only [vcW, vcV, vcD, Int.reduceEq, Int.reduceNe, Int.reduceLT, Int.reduceLE, Nat.reduceEqDiff, Nat.reduceAdd, reduceIte, reduceCtorEq, Nat.reduceLT, Nat.reduceLeDiff, eq_self, Option.bind_some, Option.map_some, List.map_cons, List.map_nil, List.length_cons, List.length_nil, Option.getD_some, Option.getD_none, List.all_cons, List.all_nil, List.set_cons_zero, List.set_cons_succ, List.replicate_succ, List.replicate_zero, List.getElem?_cons_zero, List.getElem?_cons_succ, List.drop_succ_cons, List.drop_zero, List.take_succ_cons, List.take_zero, List.map_append, List.nil_append, List.cons_append, Nat.reduceShiftRight, Nat.reduceMod]) | (with_reducible refine RnB.ii ?_) | (with_reducible refine RnB.app ?_) | (with_reducible refine RnB.fxB ?_; simp only [vcW, vcV, vcD, Int.reduceEq, Int.reduceNe, Int.reduceLT, Int.reduceLE, Nat.reduceEqDiff, Nat.reduceAdd, reduceIte, reduceCtorEq, Nat.reduceLT, Nat.reduceLeDiff, eq_self, Option.bind_some, Option.map_some, List.map_cons, List.map_nil, List.length_cons, List.length_nil, Option.getD_some, Option.getD_none, List.all_cons, List.all_nil, List.set_cons_zero, List.set_cons_succ, List.replicate_succ, List.replicate_zero, List.getElem?_cons_zero, List.getElem?_cons_succ, List.drop_succ_cons, List.drop_zero, List.take_succ_cons, List.take_zero, List.map_append, List.nil_append, List.cons_append, Nat.reduceShiftRight, Nat.reduceMod]) | omega)
  · by_cases h' : i < l.length
    · have h2 : (i : Int) < l.length := by omega
      have hx := q3 l[i] (List.getElem_mem h')
      have hia : ints ((l.take (i + 1)).map (· * b)) = ints ((l.take i).map (· * b)) ++ [.int .i64 (l[i] * b)] := by
        rw [List.take_succ_eq_append_getElem h', List.map_append, ints_append]; rfl
      have hln : (ints ((l.take i).map (· * b))).length = i := by rw [ints_length, List.length_map, List.length_take]; omega
      have hm : 0 ≤ l[i] * b ∧ l[i] * b ≤ 10000 * 20 := ⟨Int.mul_nonneg hx.1 (by omega), Int.mul_le_mul hx.2 hb.2 (by omega) (by omega)⟩
      simp only [h2, ints_get l i h', hln, vcV, vcD, Int.reduceEq, Int.reduceNe, Int.reduceLT, Int.reduceLE, Nat.reduceEqDiff, Nat.reduceAdd, reduceIte, reduceCtorEq, Nat.reduceLT, Nat.reduceLeDiff, eq_self, Option.bind_some, Option.map_some, List.map_cons, List.map_nil, List.length_cons, List.length_nil, Option.getD_some, Option.getD_none, List.all_cons, List.all_nil, List.set_cons_zero, List.set_cons_succ, List.replicate_succ, List.replicate_zero, List.getElem?_cons_zero, List.getElem?_cons_succ, List.drop_succ_cons, List.drop_zero, List.take_succ_cons, List.take_zero, List.map_append, List.nil_append, List.cons_append, Nat.reduceShiftRight, Nat.reduceMod]
      (repeat (with_reducible refine And.intro ?_ ?_; focus (first | omega | (unfold I64; omega))))
      refine ⟨⟨i + 1, h'⟩, by simp only; omega, ?_⟩
      refine weakX [(100, some 84)] (of_decide_eq_true rfl) (of_decide_eq_true rfl) ?_
      (simp only [hia, hln, vcW, vcV, vcD, Int.reduceEq, Int.reduceNe, Int.reduceLT, Int.reduceLE, Nat.reduceEqDiff, Nat.reduceAdd, reduceIte, reduceCtorEq, Nat.reduceLT, Nat.reduceLeDiff, eq_self, Option.bind_some, Option.map_some, List.map_cons, List.map_nil, List.length_cons, List.length_nil, Option.getD_some, Option.getD_none, List.all_cons, List.all_nil, List.set_cons_zero, List.set_cons_succ, List.replicate_succ, List.replicate_zero, List.getElem?_cons_zero, List.getElem?_cons_succ, List.drop_succ_cons, List.drop_zero, List.take_succ_cons, List.take_zero, List.map_append, List.nil_append, List.cons_append, Nat.reduceShiftRight, Nat.reduceMod])
      (repeat' first | exact trivial | (with_reducible exact RnB.fxB (ints_fxB _)) | (with_reducible rfl) | (with_reducible refine And.intro ?_ ?_) | (with_reducible refine RnB.bb ?_; simp only [vcW, vcV, vcD, Int.reduceEq, Int.reduceNe, Int.reduceLT, Int.reduceLE, Nat.reduceEqDiff, Nat.reduceAdd, reduceIte, reduceCtorEq, Nat.reduceLT, Nat.reduceLeDiff, eq_self, Option.bind_some, Option.map_some, List.map_cons, List.map_nil, List.length_cons, List.length_nil, Option.getD_some, Option.getD_none, List.all_cons, List.all_nil, List.set_cons_zero, List.set_cons_succ, List.replicate_succ, List.replicate_zero, List.getElem?_cons_zero, List.getElem?_cons_succ, List.drop_succ_cons, List.drop_zero, List.take_succ_cons, List.take_zero, List.map_append, List.nil_append, List.cons_append, Nat.reduceShiftRight, Nat.reduceMod]) | (with_reducible refine RnB.nb ?_; simp only [vcW, vcV, vcD, Int.reduceEq, Int.reduceNe, Int.reduceLT, Int.reduceLE, Nat.reduceEqDiff, Nat.reduceAdd, reduceIte, reduceCtorEq, Nat.reduceLT, Nat.reduceLeDiff, eq_self, Option.bind_some, Option.map_some, List.map_cons, List.map_nil, List.length_cons, List.length_nil, Option.getD_some, Option.getD_none, List.all_cons, List.all_nil, List.set_cons_zero, List.set_cons_succ, List.replicate_succ, List.replicate_zero, List.getElem?_cons_zero, List.getElem?_cons_succ, List.drop_succ_cons, List.drop_zero, List.take_succ_cons, List.take_zero, List.map_append, List.nil_append, List.cons_append, Nat.reduceShiftRight, Nat.reduceMod]) | (with_reducible refine RnB.ii ?_) | (with_reducible refine RnB.app ?_) | (with_reducible refine RnB.fxB ?_; simp only [vcW, vcV, vcD, Int.reduceEq, Int.reduceNe, Int.reduceLT, Int.reduceLE, Nat.reduceEqDiff, Nat.reduceAdd, reduceIte, reduceCtorEq, Nat.reduceLT, Nat.reduceLeDiff, eq_self, Option.bind_some, Option.map_some, List.map_cons, List.map_nil, List.length_cons, List.length_nil, Option.getD_some, Option.getD_none, List.all_cons, List.all_nil, List.set_cons_zero, List.set_cons_succ, List.replicate_succ, List.replicate_zero, List.getElem?_cons_zero, List.getElem?_cons_succ, List.drop_succ_cons, List.drop_zero, List.take_succ_cons, List.take_zero, List.map_append, List.nil_append, List.cons_append, Nat.reduceShiftRight, Nat.reduceMod]) | omega)
      all_goals first | exact hia.symm | exact RnB.fxB (by rw [← hia]; exact ints_fxB _) | (rw [ints_append]; rfl) | skip
    · have h2 : ¬ (i : Int) < l.length := by omega
      have hin : i = l.length := by omega
      subst hin
      simp only [h2, vcV, vcD, Int.reduceEq, Int.reduceNe, Int.reduceLT, Int.reduceLE, Nat.reduceEqDiff, Nat.reduceAdd, reduceIte, reduceCtorEq, Nat.reduceLT, Nat.reduceLeDiff, eq_self, Option.bind_some, Option.map_some, List.map_cons, List.map_nil, List.length_cons, List.length_nil, Option.getD_some, Option.getD_none, List.all_cons, List.all_nil, List.set_cons_zero, List.set_cons_succ, List.replicate_succ, List.replicate_zero, List.getElem?_cons_zero, List.getElem?_cons_succ, List.drop_succ_cons, List.drop_zero, List.take_succ_cons, List.take_zero, List.map_append, List.nil_append, List.cons_append, Nat.reduceShiftRight, Nat.reduceMod]
      refine WL_cut ?_
      obtain ⟨s1, s2⟩ := gain_scale hE hb.1
      obtain ⟨r1, r2⟩ := low_small hs
      have hlen : (ints (l.map (· * b))).length = l.length := by rw [ints_length, List.length_map]
      have hbor : ∀ (s : Store) (n ty : Nat), borB s (n + 1) l.length (some (some ⟨ty, 1, ints (l.map (· * b))⟩)) = .sl (ints (l.map (· * b))) := fun s n ty => borB_good _ _ _ _ _ (by rw [hlen]) (ints_fx _)
      simp only [cl_law02_PulseGains_10, List.take_length, hbor, vcV, vcD, Int.reduceEq, Int.reduceNe, Int.reduceLT, Int.reduceLE, Nat.reduceEqDiff, Nat.reduceAdd, reduceIte, reduceCtorEq, Nat.reduceLT, Nat.reduceLeDiff, eq_self, Option.bind_some, Option.map_some, List.map_cons, List.map_nil, List.length_cons, List.length_nil, Option.getD_some, Option.getD_none, List.all_cons, List.all_nil, List.set_cons_zero, List.set_cons_succ, List.replicate_succ, List.replicate_zero, List.getElem?_cons_zero, List.getElem?_cons_succ, List.drop_succ_cons, List.drop_zero, List.take_succ_cons, List.take_zero, List.map_append, List.nil_append, List.cons_append, Nat.reduceShiftRight, Nat.reduceMod]
      refine callS_of (ChargedErr_s (l.map (· * b)) (by rw [List.length_map]; omega)) ?_
      by_cases hE2 : chE (l.map (· * b)) = 0
      · simp only [hE2, List.take_length, hbor, vcV, vcD, Int.reduceEq, Int.reduceNe, Int.reduceLT, Int.reduceLE, Nat.reduceEqDiff, Nat.reduceAdd, reduceIte, reduceCtorEq, Nat.reduceLT, Nat.reduceLeDiff, eq_self, Option.bind_some, Option.map_some, List.map_cons, List.map_nil, List.length_cons, List.length_nil, Option.getD_some, Option.getD_none, List.all_cons, List.all_nil, List.set_cons_zero, List.set_cons_succ, List.replicate_succ, List.replicate_zero, List.getElem?_cons_zero, List.getElem?_cons_succ, List.drop_succ_cons, List.drop_zero, List.take_succ_cons, List.take_zero, List.map_append, List.nil_append, List.cons_append, Nat.reduceShiftRight, Nat.reduceMod]
        refine callS_of (GainOf_s (l.map (· * b)) (by rw [List.length_map]; omega)) ?_
        unfold gainA
        rw [if_pos hE2, s1, s2]
        cases hsm : smallF (lowN (lowN (gainN l) (gainD l) * b) (lowD (gainN l) (gainD l))) (lowD (lowN (gainN l) (gainD l) * b) (lowD (gainN l) (gainD l))) with
        | true =>
          have hm : -20000000000 ≤ lowN (gainN l) (gainD l) * b ∧ lowN (gainN l) (gainD l) * b ≤ 20000000000 := by
            have h1 : lowN (gainN l) (gainD l) * b ≤ 1000000000 * b := Int.mul_le_mul_of_nonneg_right r1.2 (by omega)
            have h2 : -1000000000 * b ≤ lowN (gainN l) (gainD l) * b := Int.mul_le_mul_of_nonneg_right r1.1 (by omega)
            omega
          have hL := Lowest_s (lowN (gainN l) (gainD l) * b) (lowD (gainN l) (gainD l)) (by unfold S63; omega) (by unfold S63; omega) (by omega)
          simp only [fracA, vcV, vcD, Int.reduceEq, Int.reduceNe, Int.reduceLT, Int.reduceLE, Nat.reduceEqDiff, Nat.reduceAdd, reduceIte, reduceCtorEq, Nat.reduceLT, Nat.reduceLeDiff, eq_self, Option.bind_some, Option.map_some, List.map_cons, List.map_nil, List.length_cons, List.length_nil, Option.getD_some, Option.getD_none, List.all_cons, List.all_nil, List.set_cons_zero, List.set_cons_succ, List.replicate_succ, List.replicate_zero, List.getElem?_cons_zero, List.getElem?_cons_succ, List.drop_succ_cons, List.drop_zero, List.take_succ_cons, List.take_zero, List.map_append, List.nil_append, List.cons_append, Nat.reduceShiftRight, Nat.reduceMod]
          refine ⟨by unfold I64; omega, ?_⟩
          refine callS_of hL ?_
          simp only [fracA, vcV, vcD, Int.reduceEq, Int.reduceNe, Int.reduceLT, Int.reduceLE, Nat.reduceEqDiff, Nat.reduceAdd, reduceIte, reduceCtorEq, Nat.reduceLT, Nat.reduceLeDiff, eq_self, Option.bind_some, Option.map_some, List.map_cons, List.map_nil, List.length_cons, List.length_nil, Option.getD_some, Option.getD_none, List.all_cons, List.all_nil, List.set_cons_zero, List.set_cons_succ, List.replicate_succ, List.replicate_zero, List.getElem?_cons_zero, List.getElem?_cons_succ, List.drop_succ_cons, List.drop_zero, List.take_succ_cons, List.take_zero, List.map_append, List.nil_append, List.cons_append, Nat.reduceShiftRight, Nat.reduceMod]
        | false => simp only [fracA, vcV, vcD, Int.reduceEq, Int.reduceNe, Int.reduceLT, Int.reduceLE, Nat.reduceEqDiff, Nat.reduceAdd, reduceIte, reduceCtorEq, Nat.reduceLT, Nat.reduceLeDiff, eq_self, Option.bind_some, Option.map_some, List.map_cons, List.map_nil, List.length_cons, List.length_nil, Option.getD_some, Option.getD_none, List.all_cons, List.all_nil, List.set_cons_zero, List.set_cons_succ, List.replicate_succ, List.replicate_zero, List.getElem?_cons_zero, List.getElem?_cons_succ, List.drop_succ_cons, List.drop_zero, List.take_succ_cons, List.take_zero, List.map_append, List.nil_append, List.cons_append, Nat.reduceShiftRight, Nat.reduceMod]
      · simp only [hE2, vcV, vcD, Int.reduceEq, Int.reduceNe, Int.reduceLT, Int.reduceLE, Nat.reduceEqDiff, Nat.reduceAdd, reduceIte, reduceCtorEq, Nat.reduceLT, Nat.reduceLeDiff, eq_self, Option.bind_some, Option.map_some, List.map_cons, List.map_nil, List.length_cons, List.length_nil, Option.getD_some, Option.getD_none, List.all_cons, List.all_nil, List.set_cons_zero, List.set_cons_succ, List.replicate_succ, List.replicate_zero, List.getElem?_cons_zero, List.getElem?_cons_succ, List.drop_succ_cons, List.drop_zero, List.take_succ_cons, List.take_zero, List.map_append, List.nil_append, List.cons_append, Nat.reduceShiftRight, Nat.reduceMod]
theorem PulseGains_s (l : List Int) (b : Int) : Sound Tryd.prog 4 [.sl (ints l), .int .i64 b] (.bool true) := by
  refine sound_WL f_law02_PulseGains e_law02_PulseGains (Nat.le_of_ble_eq_true rfl) ?_
  simp only [cl_law02_PulseGains, vcV, vcD, Int.reduceEq, Int.reduceNe, Int.reduceLT, Int.reduceLE, Nat.reduceEqDiff, Nat.reduceAdd, reduceIte, reduceCtorEq, Nat.reduceLT, Nat.reduceLeDiff, eq_self, Option.bind_some, Option.map_some, List.map_cons, List.map_nil, List.length_cons, List.length_nil, Option.getD_some, Option.getD_none, List.all_cons, List.all_nil, List.set_cons_zero, List.set_cons_succ, List.replicate_succ, List.replicate_zero, List.getElem?_cons_zero, List.getElem?_cons_succ, List.drop_succ_cons, List.drop_zero, List.take_succ_cons, List.take_zero, List.map_append, List.nil_append, List.cons_append, Nat.reduceShiftRight, Nat.reduceMod]
  refine callS_of awake_s ?_
  simp only [vcV, vcD, Int.reduceEq, Int.reduceNe, Int.reduceLT, Int.reduceLE, Nat.reduceEqDiff, Nat.reduceAdd, reduceIte, reduceCtorEq, Nat.reduceLT, Nat.reduceLeDiff, eq_self, Option.bind_some, Option.map_some, List.map_cons, List.map_nil, List.length_cons, List.length_nil, Option.getD_some, Option.getD_none, List.all_cons, List.all_nil, List.set_cons_zero, List.set_cons_succ, List.replicate_succ, List.replicate_zero, List.getElem?_cons_zero, List.getElem?_cons_succ, List.drop_succ_cons, List.drop_zero, List.take_succ_cons, List.take_zero, List.map_append, List.nil_append, List.cons_append, Nat.reduceShiftRight, Nat.reduceMod]
  by_cases hl : 42 < l.length
  · have hl' : (42 : Int) < l.length := by omega
    simp only [hl', vcV, vcD, Int.reduceEq, Int.reduceNe, Int.reduceLT, Int.reduceLE, Nat.reduceEqDiff, Nat.reduceAdd, reduceIte, reduceCtorEq, Nat.reduceLT, Nat.reduceLeDiff, eq_self, Option.bind_some, Option.map_some, List.map_cons, List.map_nil, List.length_cons, List.length_nil, Option.getD_some, Option.getD_none, List.all_cons, List.all_nil, List.set_cons_zero, List.set_cons_succ, List.replicate_succ, List.replicate_zero, List.getElem?_cons_zero, List.getElem?_cons_succ, List.drop_succ_cons, List.drop_zero, List.take_succ_cons, List.take_zero, List.map_append, List.nil_append, List.cons_append, Nat.reduceShiftRight, Nat.reduceMod]
  have hl' : ¬ (42 : Int) < l.length := by omega
  simp only [hl', vcV, vcD, Int.reduceEq, Int.reduceNe, Int.reduceLT, Int.reduceLE, Nat.reduceEqDiff, Nat.reduceAdd, reduceIte, reduceCtorEq, Nat.reduceLT, Nat.reduceLeDiff, eq_self, Option.bind_some, Option.map_some, List.map_cons, List.map_nil, List.length_cons, List.length_nil, Option.getD_some, Option.getD_none, List.all_cons, List.all_nil, List.set_cons_zero, List.set_cons_succ, List.replicate_succ, List.replicate_zero, List.getElem?_cons_zero, List.getElem?_cons_succ, List.drop_succ_cons, List.drop_zero, List.take_succ_cons, List.take_zero, List.map_append, List.nil_append, List.cons_append, Nat.reduceShiftRight, Nat.reduceMod]
  refine callS_of (CopyInts_s l (by omega)) ?_
  simp only [vcV, vcD, Int.reduceEq, Int.reduceNe, Int.reduceLT, Int.reduceLE, Nat.reduceEqDiff, Nat.reduceAdd, reduceIte, reduceCtorEq, Nat.reduceLT, Nat.reduceLeDiff, eq_self, Option.bind_some, Option.map_some, List.map_cons, List.map_nil, List.length_cons, List.length_nil, Option.getD_some, Option.getD_none, List.all_cons, List.all_nil, List.set_cons_zero, List.set_cons_succ, List.replicate_succ, List.replicate_zero, List.getElem?_cons_zero, List.getElem?_cons_succ, List.drop_succ_cons, List.drop_zero, List.take_succ_cons, List.take_zero, List.map_append, List.nil_append, List.cons_append, Nat.reduceShiftRight, Nat.reduceMod]
  refine callS_of (GainOf_s l (by omega)) ?_
  unfold gainA
  by_cases hE : chE l = 0
  · rw [if_pos hE]
    cases hsm : smallF (lowN (gainN l) (gainD l)) (lowD (gainN l) (gainD l)) with
    | true =>
      simp only [fracA, vcV, vcD, Int.reduceEq, Int.reduceNe, Int.reduceLT, Int.reduceLE, Nat.reduceEqDiff, Nat.reduceAdd, reduceIte, reduceCtorEq, Nat.reduceLT, Nat.reduceLeDiff, eq_self, Option.bind_some, Option.map_some, List.map_cons, List.map_nil, List.length_cons, List.length_nil, Option.getD_some, Option.getD_none, List.all_cons, List.all_nil, List.set_cons_zero, List.set_cons_succ, List.replicate_succ, List.replicate_zero, List.getElem?_cons_zero, List.getElem?_cons_succ, List.drop_succ_cons, List.drop_zero, List.take_succ_cons, List.take_zero, List.map_append, List.nil_append, List.cons_append, Nat.reduceShiftRight, Nat.reduceMod]
      refine callS_of (ChargedErr_s l (by omega)) ?_
      simp only [hE, vcV, vcD, Int.reduceEq, Int.reduceNe, Int.reduceLT, Int.reduceLE, Nat.reduceEqDiff, Nat.reduceAdd, reduceIte, reduceCtorEq, Nat.reduceLT, Nat.reduceLeDiff, eq_self, Option.bind_some, Option.map_some, List.map_cons, List.map_nil, List.length_cons, List.length_nil, Option.getD_some, Option.getD_none, List.all_cons, List.all_nil, List.set_cons_zero, List.set_cons_succ, List.replicate_succ, List.replicate_zero, List.getElem?_cons_zero, List.getElem?_cons_succ, List.drop_succ_cons, List.drop_zero, List.take_succ_cons, List.take_zero, List.map_append, List.nil_append, List.cons_append, Nat.reduceShiftRight, Nat.reduceMod]
      refine callS_of (Gain_s l hE) ?_
      simp only [fracA, vcV, vcD, Int.reduceEq, Int.reduceNe, Int.reduceLT, Int.reduceLE, Nat.reduceEqDiff, Nat.reduceAdd, reduceIte, reduceCtorEq, Nat.reduceLT, Nat.reduceLeDiff, eq_self, Option.bind_some, Option.map_some, List.map_cons, List.map_nil, List.length_cons, List.length_nil, Option.getD_some, Option.getD_none, List.all_cons, List.all_nil, List.set_cons_zero, List.set_cons_succ, List.replicate_succ, List.replicate_zero, List.getElem?_cons_zero, List.getElem?_cons_succ, List.drop_succ_cons, List.drop_zero, List.take_succ_cons, List.take_zero, List.map_append, List.nil_append, List.cons_append, Nat.reduceShiftRight, Nat.reduceMod]
      have hS := IsSmall_s (lowN (gainN l) (gainD l)) (lowD (gainN l) (gainD l))
      rw [hsm] at hS
      unfold fracA at hS
      refine callS_of hS ?_
      simp only [vcV, vcD, Int.reduceEq, Int.reduceNe, Int.reduceLT, Int.reduceLE, Nat.reduceEqDiff, Nat.reduceAdd, reduceIte, reduceCtorEq, Nat.reduceLT, Nat.reduceLeDiff, eq_self, Option.bind_some, Option.map_some, List.map_cons, List.map_nil, List.length_cons, List.length_nil, Option.getD_some, Option.getD_none, List.all_cons, List.all_nil, List.set_cons_zero, List.set_cons_succ, List.replicate_succ, List.replicate_zero, List.getElem?_cons_zero, List.getElem?_cons_succ, List.drop_succ_cons, List.drop_zero, List.take_succ_cons, List.take_zero, List.map_append, List.nil_append, List.cons_append, Nat.reduceShiftRight, Nat.reduceMod]
      refine callS_of hS ?_
      simp only [vcV, vcD, Int.reduceEq, Int.reduceNe, Int.reduceLT, Int.reduceLE, Nat.reduceEqDiff, Nat.reduceAdd, reduceIte, reduceCtorEq, Nat.reduceLT, Nat.reduceLeDiff, eq_self, Option.bind_some, Option.map_some, List.map_cons, List.map_nil, List.length_cons, List.length_nil, Option.getD_some, Option.getD_none, List.all_cons, List.all_nil, List.set_cons_zero, List.set_cons_succ, List.replicate_succ, List.replicate_zero, List.getElem?_cons_zero, List.getElem?_cons_succ, List.drop_succ_cons, List.drop_zero, List.take_succ_cons, List.take_zero, List.map_append, List.nil_append, List.cons_append, Nat.reduceShiftRight, Nat.reduceMod]
      refine callS_of (Within_s _ _ _) ?_
      by_cases hb : 1 ≤ b ∧ b ≤ 20
      · simp only [hb, vcV, vcD, Int.reduceEq, Int.reduceNe, Int.reduceLT, Int.reduceLE, Nat.reduceEqDiff, Nat.reduceAdd, reduceIte, reduceCtorEq, Nat.reduceLT, Nat.reduceLeDiff, eq_self, Option.bind_some, Option.map_some, List.map_cons, List.map_nil, List.length_cons, List.length_nil, Option.getD_some, Option.getD_none, List.all_cons, List.all_nil, List.set_cons_zero, List.set_cons_succ, List.replicate_succ, List.replicate_zero, List.getElem?_cons_zero, List.getElem?_cons_succ, List.drop_succ_cons, List.drop_zero, List.take_succ_cons, List.take_zero, List.map_append, List.nil_append, List.cons_append, Nat.reduceShiftRight, Nat.reduceMod]
        refine WL_cutW (envOf [(0, .sl (ints l)), (1, .int .i64 b), (5, .ptr 5 0 0), (9, .nils)],
          stOf [(5, ⟨33, 2, [.agg [.int .i64 (lowN (gainN l) (gainD l)), .int .i64 (lowD (gainN l) (gainD l))]]⟩)]) rfl ?_ (PG_9 l b hE hsm hb)
        refine weakX [] (of_decide_eq_true rfl) (of_decide_eq_true rfl) ?_
        (simp only [vcW, vcV, vcD, Int.reduceEq, Int.reduceNe, Int.reduceLT, Int.reduceLE, Nat.reduceEqDiff, Nat.reduceAdd, reduceIte, reduceCtorEq, Nat.reduceLT, Nat.reduceLeDiff, eq_self, Option.bind_some, Option.map_some, List.map_cons, List.map_nil, List.length_cons, List.length_nil, Option.getD_some, Option.getD_none, List.all_cons, List.all_nil, List.set_cons_zero, List.set_cons_succ, List.replicate_succ, List.replicate_zero, List.getElem?_cons_zero, List.getElem?_cons_succ, List.drop_succ_cons, List.drop_zero, List.take_succ_cons, List.take_zero, List.map_append, List.nil_append, List.cons_append, Nat.reduceShiftRight, Nat.reduceMod])
        (repeat' first | exact trivial | (with_reducible exact RnB.fxB (ints_fxB _)) | (with_reducible rfl) | (with_reducible refine And.intro ?_ ?_) | (with_reducible refine RnB.bb ?_; simp only [vcW, vcV, vcD, Int.reduceEq, Int.reduceNe, Int.reduceLT, Int.reduceLE, Nat.reduceEqDiff, Nat.reduceAdd, reduceIte, reduceCtorEq, Nat.reduceLT, Nat.reduceLeDiff, eq_self, Option.bind_some, Option.map_some, List.map_cons, List.map_nil, List.length_cons, List.length_nil, Option.getD_some, Option.getD_none, List.all_cons, List.all_nil, List.set_cons_zero, List.set_cons_succ, List.replicate_succ, List.replicate_zero, List.getElem?_cons_zero, List.getElem?_cons_succ, List.drop_succ_cons, List.drop_zero, List.take_succ_cons, List.take_zero, List.map_append, List.nil_append, List.cons_append, Nat.reduceShiftRight, Nat.reduceMod]) | (with_reducible refine RnB.nb ?_; simp only [vcW, vcV, vcD, Int.reduceEq, Int.reduceNe, Int.reduceLT, Int.reduceLE, Nat.reduceEqDiff, Nat.reduceAdd, reduceIte, reduceCtorEq, Nat.reduceLT, Nat.reduceLeDiff, eq_self, Option.bind_some, Option.map_some, List.map_cons, List.map_nil, List.length_cons, List.length_nil, Option.getD_some, Option.getD_none, List.all_cons, List.all_nil, List.set_cons_zero, List.set_cons_succ, List.replicate_succ, List.replicate_zero, List.getElem?_cons_zero, List.getElem?_cons_succ, List.drop_succ_cons, List.drop_zero, List.take_succ_cons, List.take_zero, List.map_append, List.nil_append, List.cons_append, Nat.reduceShiftRight, Nat.reduceMod]) | (with_reducible refine RnB.ii ?_) | (with_reducible refine RnB.app ?_) | (with_reducible refine RnB.fxB ?_; simp only [vcW, vcV, vcD, Int.reduceEq, Int.reduceNe, Int.reduceLT, Int.reduceLE, Nat.reduceEqDiff, Nat.reduceAdd, reduceIte, reduceCtorEq, Nat.reduceLT, Nat.reduceLeDiff, eq_self, Option.bind_some, Option.map_some, List.map_cons, List.map_nil, List.length_cons, List.length_nil, Option.getD_some, Option.getD_none, List.all_cons, List.all_nil, List.set_cons_zero, List.set_cons_succ, List.replicate_succ, List.replicate_zero, List.getElem?_cons_zero, List.getElem?_cons_succ, List.drop_succ_cons, List.drop_zero, List.take_succ_cons, List.take_zero, List.map_append, List.nil_append, List.cons_append, Nat.reduceShiftRight, Nat.reduceMod]) | omega)
      · simp only [hb, vcV, vcD, Int.reduceEq, Int.reduceNe, Int.reduceLT, Int.reduceLE, Nat.reduceEqDiff, Nat.reduceAdd, reduceIte, reduceCtorEq, Nat.reduceLT, Nat.reduceLeDiff, eq_self, Option.bind_some, Option.map_some, List.map_cons, List.map_nil, List.length_cons, List.length_nil, Option.getD_some, Option.getD_none, List.all_cons, List.all_nil, List.set_cons_zero, List.set_cons_succ, List.replicate_succ, List.replicate_zero, List.getElem?_cons_zero, List.getElem?_cons_succ, List.drop_succ_cons, List.drop_zero, List.take_succ_cons, List.take_zero, List.map_append, List.nil_append, List.cons_append, Nat.reduceShiftRight, Nat.reduceMod]
    | false =>
      simp only [fracA, vcV, vcD, Int.reduceEq, Int.reduceNe, Int.reduceLT, Int.reduceLE, Nat.reduceEqDiff, Nat.reduceAdd, reduceIte, reduceCtorEq, Nat.reduceLT, Nat.reduceLeDiff, eq_self, Option.bind_some, Option.map_some, List.map_cons, List.map_nil, List.length_cons, List.length_nil, Option.getD_some, Option.getD_none, List.all_cons, List.all_nil, List.set_cons_zero, List.set_cons_succ, List.replicate_succ, List.replicate_zero, List.getElem?_cons_zero, List.getElem?_cons_succ, List.drop_succ_cons, List.drop_zero, List.take_succ_cons, List.take_zero, List.map_append, List.nil_append, List.cons_append, Nat.reduceShiftRight, Nat.reduceMod]
      refine callS_of (ChargedErr_s l (by omega)) ?_
      simp only [hE, vcV, vcD, Int.reduceEq, Int.reduceNe, Int.reduceLT, Int.reduceLE, Nat.reduceEqDiff, Nat.reduceAdd, reduceIte, reduceCtorEq, Nat.reduceLT, Nat.reduceLeDiff, eq_self, Option.bind_some, Option.map_some, List.map_cons, List.map_nil, List.length_cons, List.length_nil, Option.getD_some, Option.getD_none, List.all_cons, List.all_nil, List.set_cons_zero, List.set_cons_succ, List.replicate_succ, List.replicate_zero, List.getElem?_cons_zero, List.getElem?_cons_succ, List.drop_succ_cons, List.drop_zero, List.take_succ_cons, List.take_zero, List.map_append, List.nil_append, List.cons_append, Nat.reduceShiftRight, Nat.reduceMod]
      refine callS_of (Gain_s l hE) ?_
      simp only [fracA, vcV, vcD, Int.reduceEq, Int.reduceNe, Int.reduceLT, Int.reduceLE, Nat.reduceEqDiff, Nat.reduceAdd, reduceIte, reduceCtorEq, Nat.reduceLT, Nat.reduceLeDiff, eq_self, Option.bind_some, Option.map_some, List.map_cons, List.map_nil, List.length_cons, List.length_nil, Option.getD_some, Option.getD_none, List.all_cons, List.all_nil, List.set_cons_zero, List.set_cons_succ, List.replicate_succ, List.replicate_zero, List.getElem?_cons_zero, List.getElem?_cons_succ, List.drop_succ_cons, List.drop_zero, List.take_succ_cons, List.take_zero, List.map_append, List.nil_append, List.cons_append, Nat.reduceShiftRight, Nat.reduceMod]
      have hS := IsSmall_s (lowN (gainN l) (gainD l)) (lowD (gainN l) (gainD l))
      rw [hsm] at hS
      unfold fracA at hS
      refine callS_of hS ?_
      simp only [vcV, vcD, Int.reduceEq, Int.reduceNe, Int.reduceLT, Int.reduceLE, Nat.reduceEqDiff, Nat.reduceAdd, reduceIte, reduceCtorEq, Nat.reduceLT, Nat.reduceLeDiff, eq_self, Option.bind_some, Option.map_some, List.map_cons, List.map_nil, List.length_cons, List.length_nil, Option.getD_some, Option.getD_none, List.all_cons, List.all_nil, List.set_cons_zero, List.set_cons_succ, List.replicate_succ, List.replicate_zero, List.getElem?_cons_zero, List.getElem?_cons_succ, List.drop_succ_cons, List.drop_zero, List.take_succ_cons, List.take_zero, List.map_append, List.nil_append, List.cons_append, Nat.reduceShiftRight, Nat.reduceMod]
      refine callS_of hS ?_
      simp only [vcV, vcD, Int.reduceEq, Int.reduceNe, Int.reduceLT, Int.reduceLE, Nat.reduceEqDiff, Nat.reduceAdd, reduceIte, reduceCtorEq, Nat.reduceLT, Nat.reduceLeDiff, eq_self, Option.bind_some, Option.map_some, List.map_cons, List.map_nil, List.length_cons, List.length_nil, Option.getD_some, Option.getD_none, List.all_cons, List.all_nil, List.set_cons_zero, List.set_cons_succ, List.replicate_succ, List.replicate_zero, List.getElem?_cons_zero, List.getElem?_cons_succ, List.drop_succ_cons, List.drop_zero, List.take_succ_cons, List.take_zero, List.map_append, List.nil_append, List.cons_append, Nat.reduceShiftRight, Nat.reduceMod]
  · rw [if_neg hE]
    simp only [fracA, vcV, vcD, Int.reduceEq, Int.reduceNe, Int.reduceLT, Int.reduceLE, Nat.reduceEqDiff, Nat.reduceAdd, reduceIte, reduceCtorEq, Nat.reduceLT, Nat.reduceLeDiff, eq_self, Option.bind_some, Option.map_some, List.map_cons, List.map_nil, List.length_cons, List.length_nil, Option.getD_some, Option.getD_none, List.all_cons, List.all_nil, List.set_cons_zero, List.set_cons_succ, List.replicate_succ, List.replicate_zero, List.getElem?_cons_zero, List.getElem?_cons_succ, List.drop_succ_cons, List.drop_zero, List.take_succ_cons, List.take_zero, List.map_append, List.nil_append, List.cons_append, Nat.reduceShiftRight, Nat.reduceMod]
    refine callS_of (ChargedErr_s l (by omega)) ?_
    simp only [hE, vcV, vcD, Int.reduceEq, Int.reduceNe, Int.reduceLT, Int.reduceLE, Nat.reduceEqDiff, Nat.reduceAdd, reduceIte, reduceCtorEq, Nat.reduceLT, Nat.reduceLeDiff, eq_self, Option.bind_some, Option.map_some, List.map_cons, List.map_nil, List.length_cons, List.length_nil, Option.getD_some, Option.getD_none, List.all_cons, List.all_nil, List.set_cons_zero, List.set_cons_succ, List.replicate_succ, List.replicate_zero, List.getElem?_cons_zero, List.getElem?_cons_succ, List.drop_succ_cons, List.drop_zero, List.take_succ_cons, List.take_zero, List.map_append, List.nil_append, List.cons_append, Nat.reduceShiftRight, Nat.reduceMod]
end Go.Proofs.YtddiingfddlaaaaDoor

