/- The tables of the library, as the rows say that they lie: what the layer wants of them. By an AI agent; nothing here is trusted. -/
import Derived.Test.YtgmpcbpmnimkoaaGreatDoorRows
import Derived.Test.YtgmpcbpmnimkoaaGreatDoorLayC
import Derived.Test.YtgmpcbpmnimkoaaGreatDoorKode
import Derived.Test.YtgmpcbpmnimkoaaGreatDoorLayA
import Derived.Test.YtgmpcbpmnimkoaaGreatDoorProg
import Derived.ProofKit
import Derived.LaidMore
import Derived.OpenShut
import Derived.Stop.Joined
import Derived.Shelf.Spec.BitsCarry
import Derived.Lib.Mul64
import Derived.Shelf.LaysM
import Derived.Shelf.LaysC
import Derived.Shelf.Strconv.Itoa3
import Derived.Lib.LaidTab
set_option linter.defProp false
set_option linter.unusedSimpArgs false
set_option linter.unusedVariables false
namespace Go.Proofs.YtgmpcbpmnimkoaaGreatDoor
open Go.ChangeShapes Go.WideShapes Go.ChangeAt Go.RowKit
open Go.Av

def laidP : List (String × DataW Unit) := [("math/bits.deBruijn32tab", Rows.laid_math_bits_deBruijn32tab), ("math/bits.deBruijn64tab", Rows.laid_math_bits_deBruijn64tab), ("internal/strconv.uint64pow10", Rows.laid_internal_strconv_uint64pow10)]

theorem ownKn : ownKnob Tryz.prog.godebug = none := by kernel_rfl
set_option maxRecDepth 100000 in
theorem door_met (os : Os) (args : Array Value) : laidMetH Tryz.prog laidP ((World.doorLaid Tryz.prog 2000 os).forCall (fun _ _ => 0) ⟨#[], args, []⟩).memory :=
  laidMetH_of_parts3 (fuel := 8) (laidMet_of_run' 8 (by kernel_rfl) (by kernel_rfl)) (by kernel_rfl) (by kernel_rfl)

theorem tab_cells {W : World} {g : Nat} {name : String} {t e : TypeId} {n f : Nat} {k : IntKind} {cs : Array Value} {ns : List Int} {p : List MemPlace} {H : Type} {enc : TypeId × Value → H} {sp : Nat → Bool} {held : Bool} (hg : Tryz.prog.globalNamed name = some g)
    (hv : W.var? Tryz.prog name = some cs) (ht : Tryz.prog.underlying t = some (.array n e)) (he : Tryz.prog.underlying e = some (.int k)) (hc : Tryz.prog.cellsOf e = 1) (hct : Tryz.prog.cellsOf t = n) (hn : ns.length = n) (hpos : 0 < n)
    (hd : DataW.trod enc Tryz.prog W 0 sp held f t cs.toList = some (.agg (ns.map fun m => .lit (.int k m)), p)) :
    g < W.heap.size ∧ ∃ cur ty fr, W.heap[g]? = some (.cells cur ty fr) ∧ cur.size = ns.length ∧ ∀ (j : Nat) (m : Int), ns[j]? = some m → cur[j]? = some (.int k m) := by
  obtain ⟨xs, m1, rfl, hx1, hcl, hlen, hel⟩ := DataW.trod_array ht hd
  simp only [Prod.mk.injEq, DataW.agg.injEq] at hx1
  have key : ∀ (j : Nat) (m : Int), ns[j]? = some m → cs[j]? = some (.int k m) := by
    intro j m hj
    have hjn : j < n := by rw [← hn]; exact (List.getElem?_eq_some_iff.1 hj).1
    have h1 := hel j hjn
    rw [hc, Nat.mul_one] at h1
    obtain ⟨x, hx⟩ : ∃ x, xs[j]? = some x := ⟨xs[j]'(by omega), List.getElem?_eq_getElem (by omega)⟩
    rw [hx] at h1
    obtain ⟨q, e1, e2, _⟩ := DataW.trod_int he h1
    have h2 : (xs.map (·.1))[j]? = some (.lit (.int k q)) := by rw [List.getElem?_map, hx, e2]; rfl
    rw [← hx1.1, List.getElem?_map, hj] at h2
    simp only [Option.map_some, Option.some.injEq, DataW.lit.injEq, Lit.int.injEq, true_and] at h2
    subst h2
    have h3 : ((cs.toList.drop j).take 1)[0]? = some (.int k m) := by rw [e1]; rfl
    rw [List.getElem?_take, if_pos (by omega), List.getElem?_drop] at h3
    simpa using h3
  have h0 : ∃ m, ns[0]? = some m := ⟨ns[0]'(by omega), List.getElem?_eq_getElem (by omega)⟩
  obtain ⟨m0, hm0⟩ := h0
  have hcell := World.var?_cell hg hv
  have hb : ∃ cur ty fr, W.heap[g]? = some (.cells cur ty fr) := by
    have := (hcell 0).trans (key 0 m0 hm0)
    unfold World.cell? at this
    split at this
    · rename_i cur ty fr hb; exact ⟨cur, ty, fr, hb⟩
    · cases this
  obtain ⟨cur, ty, fr, hb⟩ := hb
  refine ⟨(Array.getElem?_eq_some_iff.1 hb).1, cur, ty, fr, hb, ?_, fun j m hj => ?_⟩
  · have h1 : cs.size = n := by rw [← Array.length_toList, hcl, hct]
    have hce : ∀ i, cur[i]? = cs[i]? := fun i => by
      have := hcell i
      unfold World.cell? at this
      rw [hb] at this
      simpa using this
    have h2 : cs.size = cur.size := by
      have e1 := hce cs.size
      have e2 := hce cur.size
      rw [Array.getElem?_eq_none (Nat.le_refl _)] at e2
      rw [Array.getElem?_eq_none (xs := cs) (Nat.le_refl _), Array.getElem?_eq_none_iff] at e1
      have := Array.getElem?_eq_none_iff.1 e2.symm
      omega
    omega
  have := (hcell j).trans (key j m hj)
  unfold World.cell? at this
  rw [hb] at this
  simpa using this

theorem g32 : Tryz.prog.globalNamed "math/bits.deBruijn32tab" = some 0 := by kernel_rfl
theorem g64 : Tryz.prog.globalNamed "math/bits.deBruijn64tab" = some 1 := by kernel_rfl
theorem g10 : Tryz.prog.globalNamed "internal/strconv.uint64pow10" = some 4 := by kernel_rfl

theorem of_laid {W : World} (h : laidMetH Tryz.prog laidP W) : GOk (fun b => b < W.heap.size) W := by
  rw [MakeChecks.laidMetH_plain _ _ _ (by kernel_rfl)] at h
  obtain ⟨ps, ⟨n0, t0, cs0, f0, p0, q0, hn0, ht0, hv0, hd0, ⟨n1, t1, cs1, f1, p1, q1, hn1, ht1, hv1, hd1, ⟨n2, t2, cs2, f2, p2, q2, hn2, ht2, hv2, hd2, _⟩, _⟩, _⟩, _⟩ := h
  obtain rfl := Option.some.inj (g32.symm.trans hn0)
  obtain rfl := Option.some.inj (g64.symm.trans hn1)
  obtain rfl := Option.some.inj (g10.symm.trans hn2)
  obtain rfl := Option.some.inj ((show (Tryz.prog.globals[0]?).map (·.type) = some 275 by kernel_rfl).symm.trans ht0)
  obtain rfl := Option.some.inj ((show (Tryz.prog.globals[1]?).map (·.type) = some 276 by kernel_rfl).symm.trans ht1)
  obtain rfl := Option.some.inj ((show (Tryz.prog.globals[4]?).map (·.type) = some 307 by kernel_rfl).symm.trans ht2)
  have c0 := tab_cells (ns := [0, 1, 28, 2, 29, 14, 24, 3, 30, 22, 20, 15, 25, 17, 4, 8, 31, 27, 13, 23, 21, 19, 16, 7, 26, 12, 18, 6, 11, 5, 10, 9]) hn0 hv0 Tryz.underlying275 Tryz.underlying5 (by kernel_rfl) (by kernel_rfl) rfl (by decide) hd0
  have c1 := tab_cells (ns := [0, 1, 56, 2, 57, 49, 28, 3, 61, 58, 42, 50, 38, 29, 17, 4, 62, 47, 59, 36, 45, 43, 51, 22, 53, 39, 33, 30, 24, 18, 12, 5, 63, 55, 48, 27, 60, 41, 37, 16, 46, 35, 44, 21, 52, 32, 23, 11, 54, 26, 40, 15, 34, 20, 31, 10, 25, 14, 19, 9, 13, 8, 7, 6]) hn1 hv1 Tryz.underlying276 Tryz.underlying5 (by kernel_rfl) (by kernel_rfl) rfl (by decide) hd1
  have c2 := tab_cells (ns := [1, 10, 100, 1000, 10000, 100000, 1000000, 10000000, 100000000, 1000000000, 10000000000, 100000000000, 1000000000000, 10000000000000, 100000000000000, 1000000000000000, 10000000000000000, 100000000000000000, 1000000000000000000, 10000000000000000000]) hn2 hv2 Tryz.underlying307 Tryz.underlying155 (by kernel_rfl) (by kernel_rfl) rfl (by decide) hd2
  refine ⟨fun p hp => ?_, fun g hg => by simp [gErr] at hg⟩
  simp only [gTab, List.nil_append, List.mem_append, List.mem_singleton] at hp
  rcases hp with (rfl | rfl) | rfl
  · exact c1
  · exact c0
  · exact c2
end Go.Proofs.YtgmpcbpmnimkoaaGreatDoor

/- Contracts of small functions. By an AI agent; nothing here is trusted. -/
namespace Go.Proofs.YtgmpcbpmnimkoaaGreatDoor
open Go.Av

abbrev i64 (n : Int) : AV := .int .i64 n
theorem within_s (n lo hi : Int) : Sound Tryz.prog 116 [.int .i64 n, .int .i64 lo, .int .i64 hi] (.bool (decide (lo ≤ n ∧ n ≤ hi))) := by
  refine sound_W f_pulse_within (Nat.le_of_ble_eq_true rfl) ?_
  simp only [c_pulse_within, vcC, Int.reduceEq, Int.reduceNe, Int.reduceLT, Int.reduceLE, Nat.reduceEqDiff, Nat.reduceAdd, reduceIte, reduceCtorEq, Nat.reduceLT, Nat.reduceLeDiff, eq_self, vcP]
  refine brB_split (fun h => ?_) (fun h => ?_) <;> simp only [h, vcC, Int.reduceEq, Int.reduceNe, Int.reduceLT, Int.reduceLE, Nat.reduceEqDiff, Nat.reduceAdd, reduceIte, reduceCtorEq, Nat.reduceLT, Nat.reduceLeDiff, eq_self, vcP]
  · exact bool_eq (by simp at h; simp [h])
  · simp at h; simp; omega

theorem unless_s (ok : Bool) (e : Int) : Sound Tryz.prog 119 [.bool ok, .int .i64 e] (.int .i64 (if ok then 0 else e)) := by
  refine sound_W f_pulse_unless (Nat.le_of_ble_eq_true rfl) ?_
  simp only [c_pulse_unless, vcC, Int.reduceEq, Int.reduceNe, Int.reduceLT, Int.reduceLE, Nat.reduceEqDiff, Nat.reduceAdd, reduceIte, reduceCtorEq, Nat.reduceLT, Nat.reduceLeDiff, eq_self, vcP]
  refine brB_split (fun h => ?_) (fun h => ?_) <;> subst h <;> simp only [vcC, Int.reduceEq, Int.reduceNe, Int.reduceLT, Int.reduceLE, Nat.reduceEqDiff, Nat.reduceAdd, reduceIte, reduceCtorEq, Nat.reduceLT, Nat.reduceLeDiff, eq_self, vcP]

def firstErr (l : List Int) : Int := (l.find? (· ≠ 0)).getD 0

theorem first_s (l : List Int) (hl : l.length < 4000000000000000000) : Sound Tryz.prog 117 [.sl (ints l)] (.int .i64 (firstErr l)) := by
  refine sound_W f_pulse_first (Nat.le_of_ble_eq_true rfl) ?_
  simp only [c_pulse_first, vcC, Int.reduceEq, Int.reduceNe, Int.reduceLT, Int.reduceLE, Nat.reduceEqDiff, Nat.reduceAdd, reduceIte, reduceCtorEq, Nat.reduceLT, Nat.reduceLeDiff, eq_self, vcP]
  refine W_loop (α := PSigma fun i : Nat => i ≤ l.length ∧ ∀ x ∈ l.take i, x = 0) (fun i => (envOf [(5, .sl (ints l)), (6, .int .i64 l.length), (7, .int .i64 i.1)], noStore)) (fun i => l.length - i.1) ⟨0, by simp⟩ (weakE _ ?_) (fun ⟨i, hi, hn⟩ => ?_)
  · simp only [vcC, Int.reduceEq, Int.reduceNe, Int.reduceLT, Int.reduceLE, Nat.reduceEqDiff, Nat.reduceAdd, reduceIte, reduceCtorEq, Nat.reduceLT, Nat.reduceLeDiff, eq_self, vcP]; rfl
  · simp only [vcC, Int.reduceEq, Int.reduceNe, Int.reduceLT, Int.reduceLE, Nat.reduceEqDiff, Nat.reduceAdd, reduceIte, reduceCtorEq, Nat.reduceLT, Nat.reduceLeDiff, eq_self, vcP]
    refine brB_split (fun h => ?_) (fun h => ?_)
    · have h' : i < l.length := by (simp only [decide_eq_true_eq, decide_eq_false_iff_not, Bool.not_true, I64, Bool.not_eq_true', Bool.not_eq_false', bne_iff_ne, beq_iff_eq, ne_eq] at *; omega)
      simp only [ints_get l i h', vcC, Int.reduceEq, Int.reduceNe, Int.reduceLT, Int.reduceLE, Nat.reduceEqDiff, Nat.reduceAdd, reduceIte, reduceCtorEq, Nat.reduceLT, Nat.reduceLeDiff, eq_self, vcP]
      refine ⟨by omega, ?_⟩
      refine brB_split (fun h => ?_) (fun h => ?_)
      · simp only [vcC, Int.reduceEq, Int.reduceNe, Int.reduceLT, Int.reduceLE, Nat.reduceEqDiff, Nat.reduceAdd, reduceIte, reduceCtorEq, Nat.reduceLT, Nat.reduceLeDiff, eq_self, vcP]
        have h0 : l[i] ≠ 0 := by simpa using h
        have hs : l.find? (· ≠ 0) = some l[i] := by
          rw [List.find?_eq_some_iff_getElem]
          exact ⟨by simpa using h0, i, h', rfl, fun j hj => by simp [hn l[j] (by rw [List.mem_take_iff_getElem]; exact ⟨j, by omega, rfl⟩)]⟩
        unfold firstErr
        rw [hs]; rfl
      · simp only [vcC, Int.reduceEq, Int.reduceNe, Int.reduceLT, Int.reduceLE, Nat.reduceEqDiff, Nat.reduceAdd, reduceIte, reduceCtorEq, Nat.reduceLT, Nat.reduceLeDiff, eq_self, vcP]
        refine ⟨by (simp only [decide_eq_true_eq, decide_eq_false_iff_not, Bool.not_true, I64, Bool.not_eq_true', Bool.not_eq_false', bne_iff_ne, beq_iff_eq, ne_eq] at *; omega), ⟨i + 1, by omega, ?_⟩, by simp only; omega, weakE _ ?_⟩
        · rw [List.take_succ_eq_append_getElem h']
          intro x hx
          rcases List.mem_append.1 hx with hx | hx
          · exact hn x hx
          · simp at hx h; rw [hx, h]
        · simp only [vcC, Int.reduceEq, Int.reduceNe, Int.reduceLT, Int.reduceLE, Nat.reduceEqDiff, Nat.reduceAdd, reduceIte, reduceCtorEq, Nat.reduceLT, Nat.reduceLeDiff, eq_self, vcP]; simp
    · simp only [vcC, Int.reduceEq, Int.reduceNe, Int.reduceLT, Int.reduceLE, Nat.reduceEqDiff, Nat.reduceAdd, reduceIte, reduceCtorEq, Nat.reduceLT, Nat.reduceLeDiff, eq_self, vcP]
      have : i = l.length := by (simp only [decide_eq_true_eq, decide_eq_false_iff_not, Bool.not_true, I64, Bool.not_eq_true', Bool.not_eq_false', bne_iff_ne, beq_iff_eq, ne_eq] at *; omega)
      subst this
      unfold firstErr
      rw [List.take_length] at hn
      rw [List.find?_eq_none.2 (fun x hx => by simp [hn x hx])]
      rfl

def idxOf {α : Type} (l : List α) (p : α → Bool) : Int := match l.findIdx? p with
  | some i => i
  | none => -1

theorem map_fx1 {caps : List AV} (h : ∀ c ∈ caps, fx1 c = true) (s : Store) (n : Nat) : caps.map (bor s n) = caps := by
  conv => rhs; rw [← List.map_id caps]
  exact List.map_congr_left fun c hc => (fx1_spec (h c hc)).2 s n

theorem idxFunc_int_s (l : List Int) (f : FuncId) (caps : List AV) (p : Int → Bool) (hl : l.length < 4000000000000000000) (hc : ∀ c ∈ caps, fx1 c = true)
    (hp : ∀ x ∈ l, Sound Tryz.prog f (.int .i64 x :: caps) (.bool (p x))) : Sound Tryz.prog 197 [.sl (ints l), .fn f caps] (.int .i64 (idxOf l p)) := by
  refine sound_W f_slices_IndexFunc_int_int (Nat.le_of_ble_eq_true rfl) ?_
  simp only [c_slices_IndexFunc_int_int, vcC, Int.reduceEq, Int.reduceNe, Int.reduceLT, Int.reduceLE, Nat.reduceEqDiff, Nat.reduceAdd, reduceIte, reduceCtorEq, Nat.reduceLT, Nat.reduceLeDiff, eq_self, vcP]
  refine W_loop (α := PSigma fun i : Nat => i ≤ l.length ∧ ∀ x ∈ l.take i, p x = false) (fun i => (envOf [(0, .sl (ints l)), (1, .fn f caps), (6, .sl (ints l)), (7, .int .i64 l.length), (8, .int .i64 i.1)], noStore)) (fun i => l.length - i.1) ⟨0, by simp⟩ (weakE _ ?_) (fun ⟨i, hi, hn⟩ => ?_)
  · simp only [vcC, Int.reduceEq, Int.reduceNe, Int.reduceLT, Int.reduceLE, Nat.reduceEqDiff, Nat.reduceAdd, reduceIte, reduceCtorEq, Nat.reduceLT, Nat.reduceLeDiff, eq_self, vcP]; rfl
  · simp only [vcC, Int.reduceEq, Int.reduceNe, Int.reduceLT, Int.reduceLE, Nat.reduceEqDiff, Nat.reduceAdd, reduceIte, reduceCtorEq, Nat.reduceLT, Nat.reduceLeDiff, eq_self, vcP]
    refine brB_split (fun h => ?_) (fun h => ?_)
    · have h' : i < l.length := by (simp only [decide_eq_true_eq, decide_eq_false_iff_not, Bool.not_true, I64, Bool.not_eq_true', Bool.not_eq_false', bne_iff_ne, beq_iff_eq, ne_eq] at *; omega)
      simp only [ints_get l i h', vcC, Int.reduceEq, Int.reduceNe, Int.reduceLT, Int.reduceLE, Nat.reduceEqDiff, Nat.reduceAdd, reduceIte, reduceCtorEq, Nat.reduceLT, Nat.reduceLeDiff, eq_self, vcP]
      refine ⟨by omega, ?_⟩
      simp only [List.map_append, List.cons_append, List.nil_append, map_fx1 hc, vcC, Int.reduceEq, Int.reduceNe, Int.reduceLT, Int.reduceLE, Nat.reduceEqDiff, Nat.reduceAdd, reduceIte, reduceCtorEq, Nat.reduceLT, Nat.reduceLeDiff, eq_self, vcP]
      refine callS_of (hp _ (List.getElem_mem h')) ?_
      simp only [vcC, Int.reduceEq, Int.reduceNe, Int.reduceLT, Int.reduceLE, Nat.reduceEqDiff, Nat.reduceAdd, reduceIte, reduceCtorEq, Nat.reduceLT, Nat.reduceLeDiff, eq_self, vcP]
      refine brB_split (fun h => ?_) (fun h => ?_)
      · simp only [vcC, Int.reduceEq, Int.reduceNe, Int.reduceLT, Int.reduceLE, Nat.reduceEqDiff, Nat.reduceAdd, reduceIte, reduceCtorEq, Nat.reduceLT, Nat.reduceLeDiff, eq_self, vcP]
        have hs : l.findIdx? p = some i := by
          rw [List.findIdx?_eq_some_iff_getElem]
          refine ⟨h', h, fun j hj => ?_⟩
          have := hn l[j] (by rw [List.mem_take_iff_getElem]; exact ⟨j, by omega, rfl⟩)
          simp [this]
        simp [idxOf, hs]
      · simp only [vcC, Int.reduceEq, Int.reduceNe, Int.reduceLT, Int.reduceLE, Nat.reduceEqDiff, Nat.reduceAdd, reduceIte, reduceCtorEq, Nat.reduceLT, Nat.reduceLeDiff, eq_self, vcP]
        refine ⟨by (simp only [decide_eq_true_eq, decide_eq_false_iff_not, Bool.not_true, I64, Bool.not_eq_true', Bool.not_eq_false', bne_iff_ne, beq_iff_eq, ne_eq] at *; omega), ⟨i + 1, by omega, ?_⟩, by simp only; omega, weakE _ ?_⟩
        · rw [List.take_succ_eq_append_getElem h']
          intro x hx
          rcases List.mem_append.1 hx with hx | hx
          · exact hn x hx
          · simp at hx; rw [hx]; exact h
        · simp only [vcC, Int.reduceEq, Int.reduceNe, Int.reduceLT, Int.reduceLE, Nat.reduceEqDiff, Nat.reduceAdd, reduceIte, reduceCtorEq, Nat.reduceLT, Nat.reduceLeDiff, eq_self, vcP]; simp
    · simp only [vcC, Int.reduceEq, Int.reduceNe, Int.reduceLT, Int.reduceLE, Nat.reduceEqDiff, Nat.reduceAdd, reduceIte, reduceCtorEq, Nat.reduceLT, Nat.reduceLeDiff, eq_self, vcP]
      have : i = l.length := by (simp only [decide_eq_true_eq, decide_eq_false_iff_not, Bool.not_true, I64, Bool.not_eq_true', Bool.not_eq_false', bne_iff_ne, beq_iff_eq, ne_eq] at *; omega)
      subst this
      rw [List.take_length] at hn
      have hs : l.findIdx? p = none := List.findIdx?_eq_none_iff.2 hn
      simp [idxOf, hs]

theorem idxOf_any {α : Type} (l : List α) (p : α → Bool) : (decide (0 ≤ idxOf l p)) = l.any p := by
  unfold idxOf
  cases h : l.findIdx? p with
  | none =>
    rw [List.findIdx?_eq_none_iff] at h
    have : l.any p = false := by simpa using h
    rw [this]; rfl
  | some i =>
    rw [List.findIdx?_eq_some_iff_getElem] at h
    obtain ⟨hi, hp, _⟩ := h
    have : l.any p = true := List.any_eq_true.2 ⟨_, List.getElem_mem hi, hp⟩
    rw [this]; simp

theorem contFunc_int_s (l : List Int) (f : FuncId) (caps : List AV) (p : Int → Bool) (hl : l.length < 4000000000000000000) (hc : ∀ c ∈ caps, fx1 c = true)
    (hp : ∀ x ∈ l, Sound Tryz.prog f (.int .i64 x :: caps) (.bool (p x))) : Sound Tryz.prog 114 [.sl (ints l), .fn f caps] (.bool (l.any p)) := by
  refine sound_W f_slices_ContainsFunc_int_int (Nat.le_of_ble_eq_true rfl) ?_
  simp only [c_slices_ContainsFunc_int_int, map_fx1 hc, vcC, Int.reduceEq, Int.reduceNe, Int.reduceLT, Int.reduceLE, Nat.reduceEqDiff, Nat.reduceAdd, reduceIte, reduceCtorEq, Nat.reduceLT, Nat.reduceLeDiff, eq_self, vcP]
  refine callS_of (idxFunc_int_s l f caps p hl hc hp) ?_
  simp only [vcC, Int.reduceEq, Int.reduceNe, Int.reduceLT, Int.reduceLE, Nat.reduceEqDiff, Nat.reduceAdd, reduceIte, reduceCtorEq, Nat.reduceLT, Nat.reduceLeDiff, eq_self, vcP]
  rw [idxOf_any]

theorem first2_s (a b : Int) : Sound Tryz.prog 117 [.sl [.int .i64 a, .int .i64 b]] (.int .i64 (if a ≠ 0 then a else b)) := by
  have h := first_s [a, b] (by simp)
  have e : firstErr [a, b] = if a ≠ 0 then a else b := by
    unfold firstErr
    by_cases ha : a = 0 <;> by_cases hb : b = 0 <;> simp [ha, hb]
  rw [e] at h
  exact h
theorem first3_s (a b c : Int) : Sound Tryz.prog 117 [.sl [.int .i64 a, .int .i64 b, .int .i64 c]] (.int .i64 (if a ≠ 0 then a else if b ≠ 0 then b else c)) := by
  have h := first_s [a, b, c] (by simp)
  have e : firstErr [a, b, c] = if a ≠ 0 then a else if b ≠ 0 then b else c := by
    unfold firstErr
    by_cases ha : a = 0 <;> by_cases hb : b = 0 <;> by_cases hc : c = 0 <;> simp [ha, hb, hc]
  rw [e] at h
  exact h
end Go.Proofs.YtgmpcbpmnimkoaaGreatDoor

/- Samples and droops, in plain Lean. By an AI agent; nothing here is trusted. -/
namespace Go.Proofs.YtgmpcbpmnimkoaaGreatDoor
open Go.Av

def smp (n : Int) : Bool := decide (-10000 ≤ n ∧ n ≤ 10000)
def smE (l : List Int) : Int := if l.length = 0 then 10 else if 24 < l.length then 8 else if l.all smp then 0 else 2
def smI (l : List Int) : Int := if smE l = 2 then idxOf l (fun n => !smp n) else 0
theorem smE_ok {l : List Int} (h : smE l = 0) : 1 ≤ l.length ∧ l.length ≤ 24 ∧ ∀ x ∈ l, -10000 ≤ x ∧ x ≤ 10000 := by
  unfold smE at h
  split at h
  · cases h
  · split at h
    · cases h
    · split at h
      · rename_i h1 h2 h3
        exact ⟨by omega, by omega, fun x hx => by have := List.all_eq_true.1 h3 x hx; simpa [smp] using this⟩
      · cases h
structure Droop where
  leak : Int
  div : Int
def Droop.av (d : Droop) : AV := .agg [.int .i64 d.leak, .int .i64 d.div]
def Droop.ok (d : Droop) : Prop := (0 ≤ d.leak ∧ d.leak ≤ 1000) ∧ (1 ≤ d.div ∧ d.div ≤ 10000)
instance (d : Droop) : Decidable d.ok := by unfold Droop.ok; exact inferInstance
def Droop.e (d : Droop) : Int := if d.ok then 0 else 2

end Go.Proofs.YtgmpcbpmnimkoaaGreatDoor

/- Dead times and afterpulses, in plain Lean. By an AI agent; nothing here is trusted. -/
namespace Go.Proofs.YtgmpcbpmnimkoaaGreatDoor
open Go.Av

def kp (dead : Int) (l : List Int) : Nat → List Int
  | 0 => []
  | i + 1 => if kp dead l i = [] ∨ dead < l.getD i 0 - (kp dead l i).getLastD 0 then kp dead l i ++ [l.getD i 0] else kp dead l i
def kept (dead : Int) (l : List Int) : List Int := kp dead l l.length
theorem getD_at {l : List Int} {i : Nat} (h : i < l.length) : l.getD i 0 = l[i] := by simp [List.getD, List.getElem?_eq_getElem h]
end Go.Proofs.YtgmpcbpmnimkoaaGreatDoor

/- Hits: runs of samples from a threshold on, in plain Lean. By an AI agent; nothing here is trusted. -/
namespace Go.Proofs.YtgmpcbpmnimkoaaGreatDoor
open Go.Av

end Go.Proofs.YtgmpcbpmnimkoaaGreatDoor

/- Contracts of the small functions of the base. By an AI agent; nothing here is trusted. -/
namespace Go.Proofs.YtgmpcbpmnimkoaaGreatDoor
open Go.Av

theorem Within_s (n lo hi : Int) : Sound Tryz.prog 13 [.int .i64 n, .int .i64 lo, .int .i64 hi] (.bool (decide (lo ≤ n ∧ n ≤ hi))) := by
  refine sound_W f_base_Within (Nat.le_of_ble_eq_true rfl) ?_
  simp only [c_base_Within, vcC, Int.reduceEq, Int.reduceNe, Int.reduceLT, Int.reduceLE, Nat.reduceEqDiff, Nat.reduceAdd, reduceIte, reduceCtorEq, Nat.reduceLT, Nat.reduceLeDiff, eq_self, vcP]
  refine brB_split (fun h => ?_) (fun h => ?_) <;> simp only [h, vcC, Int.reduceEq, Int.reduceNe, Int.reduceLT, Int.reduceLE, Nat.reduceEqDiff, Nat.reduceAdd, reduceIte, reduceCtorEq, Nat.reduceLT, Nat.reduceLeDiff, eq_self, vcP]
  · exact bool_eq (by simp at h; simp [h])
  · simp at h; simp; omega

end Go.Proofs.YtgmpcbpmnimkoaaGreatDoor

/- Contracts of the base: copies, comparisons, fractions. By an AI agent; nothing here is trusted. -/
namespace Go.Proofs.YtgmpcbpmnimkoaaGreatDoor
open Go.Av

theorem newsOk_ints (l : List Int) : newsOk 1 (ints l) := by
  intro x hx
  obtain ⟨n, _, rfl⟩ := List.mem_map.1 hx
  exact ⟨rfl, rfl⟩
theorem maxLen_big : 4000000000000 ≤ maxLen := by decide

theorem CopyInts_s (l : List Int) (hl : l.length ≤ 1000000000) : Sound Tryz.prog 16 [.sl (ints l)] (.sl (ints l)) := by
  refine sound_W f_base_CopyInts (Nat.le_of_ble_eq_true rfl) ?_
  have hm := maxLen_big
  simp only [c_base_CopyInts, vcV, vcD, Int.reduceEq, Int.reduceNe, Int.reduceLT, Int.reduceLE, Nat.reduceEqDiff, Nat.reduceAdd, reduceIte, reduceCtorEq, Nat.reduceLT, Nat.reduceLeDiff, eq_self, vcP2, Nat.reduceShiftRight, Nat.reduceMod]
  refine ⟨newsOk_ints l, ⟨by omega, by omega⟩, ?_⟩
  rw [borB_good _ _ _ _ _ (by simp [ints]) (ints_fx _)]

def S63 (n : Int) : Prop := -9223372036854775807 ≤ n ∧ n ≤ 9223372036854775807
theorem max_neg (n : Int) : max n (-n) = n.natAbs := by omega
theorem Size_s (n : Int) (h : S63 n) : Sound Tryz.prog 98 [.int .i64 n] (.int .i64 n.natAbs) := by
  refine sound_W f_base_Size (Nat.le_of_ble_eq_true rfl) ?_
  unfold S63 at h
  simp only [c_base_Size, max_neg, vcV, vcD, Int.reduceEq, Int.reduceNe, Int.reduceLT, Int.reduceLE, Nat.reduceEqDiff, Nat.reduceAdd, reduceIte, reduceCtorEq, Nat.reduceLT, Nat.reduceLeDiff, eq_self, vcP2, Nat.reduceShiftRight, Nat.reduceMod]
  (simp only [decide_eq_true_eq, decide_eq_false_iff_not, Bool.not_true, I64, Bool.not_eq_true', Bool.not_eq_false', bne_iff_ne, beq_iff_eq, ne_eq] at *; omega)

theorem gcd_tmod (a b : Int) : Int.gcd b (a.tmod b) = Int.gcd a b := by
  unfold Int.gcd
  rw [Int.natAbs_tmod, Nat.gcd_comm, ← Nat.gcd_rec, Nat.gcd_comm]
theorem tmod_S {a b : Int} (hb : S63 b) (h0 : b ≠ 0) : S63 (a.tmod b) ∧ (a.tmod b).natAbs < b.natAbs := by
  have h : (a.tmod b).natAbs < b.natAbs := by
    rw [Int.natAbs_tmod]
    exact Nat.mod_lt _ (by omega)
  unfold S63 at hb ⊢
  exact ⟨by omega, h⟩
theorem Gcd_s (a b : Int) (ha : S63 a) (hb : S63 b) : Sound Tryz.prog 132 [.int .i64 a, .int .i64 b] (.int .i64 (Int.gcd a b)) := by
  refine sound_W f_base_Gcd (Nat.le_of_ble_eq_true rfl) ?_
  simp only [c_base_Gcd, vcV, vcD, Int.reduceEq, Int.reduceNe, Int.reduceLT, Int.reduceLE, Nat.reduceEqDiff, Nat.reduceAdd, reduceIte, reduceCtorEq, Nat.reduceLT, Nat.reduceLeDiff, eq_self, vcP2, Nat.reduceShiftRight, Nat.reduceMod]
  refine W_loop (α := PSigma fun p : Int × Int => S63 p.1 ∧ S63 p.2 ∧ Int.gcd p.1 p.2 = Int.gcd a b) (fun p => (envOf [(0, .int .i64 p.1.1), (1, .int .i64 p.1.2)], noStore)) (fun p => p.1.2.natAbs) ⟨(a, b), ha, hb, rfl⟩ (weakE _ ?_) (fun ⟨p, h1, h2, h3⟩ => ?_)
  · simp only [vcV, vcD, Int.reduceEq, Int.reduceNe, Int.reduceLT, Int.reduceLE, Nat.reduceEqDiff, Nat.reduceAdd, reduceIte, reduceCtorEq, Nat.reduceLT, Nat.reduceLeDiff, eq_self, vcP2, Nat.reduceShiftRight, Nat.reduceMod]
  · obtain ⟨x, y⟩ := p
    simp only at h1 h2 h3
    simp only [vcV, vcD, Int.reduceEq, Int.reduceNe, Int.reduceLT, Int.reduceLE, Nat.reduceEqDiff, Nat.reduceAdd, reduceIte, reduceCtorEq, Nat.reduceLT, Nat.reduceLeDiff, eq_self, vcP2, Nat.reduceShiftRight, Nat.reduceMod]
    refine brB_split (fun h => ?_) (fun h => ?_)
    · have hy : y ≠ 0 := by simpa using h
      obtain ⟨t1, t2⟩ := tmod_S (a := x) h2 hy
      simp only [vcV, vcD, Int.reduceEq, Int.reduceNe, Int.reduceLT, Int.reduceLE, Nat.reduceEqDiff, Nat.reduceAdd, reduceIte, reduceCtorEq, Nat.reduceLT, Nat.reduceLeDiff, eq_self, vcP2, Nat.reduceShiftRight, Nat.reduceMod]
      refine ⟨hy, ⟨(y, x.tmod y), h2, t1, (gcd_tmod x y).trans h3⟩, t2, weakE _ ?_⟩
      simp only [vcV, vcD, Int.reduceEq, Int.reduceNe, Int.reduceLT, Int.reduceLE, Nat.reduceEqDiff, Nat.reduceAdd, reduceIte, reduceCtorEq, Nat.reduceLT, Nat.reduceLeDiff, eq_self, vcP2, Nat.reduceShiftRight, Nat.reduceMod]
    · have hy : y = 0 := by simpa using h
      subst hy
      simp only [vcV, vcD, Int.reduceEq, Int.reduceNe, Int.reduceLT, Int.reduceLE, Nat.reduceEqDiff, Nat.reduceAdd, reduceIte, reduceCtorEq, Nat.reduceLT, Nat.reduceLeDiff, eq_self, vcP2, Nat.reduceShiftRight, Nat.reduceMod]
      refine callS_of (Size_s x h1) ?_
      simp only [vcV, vcD, Int.reduceEq, Int.reduceNe, Int.reduceLT, Int.reduceLE, Nat.reduceEqDiff, Nat.reduceAdd, reduceIte, reduceCtorEq, Nat.reduceLT, Nat.reduceLeDiff, eq_self, vcP2, Nat.reduceShiftRight, Nat.reduceMod]
      rw [← h3]; simp [Int.gcd]

end Go.Proofs.YtgmpcbpmnimkoaaGreatDoor

/- Lowest terms, gains and charges, in plain Lean. By an AI agent; nothing here is trusted. -/
namespace Go.Proofs.YtgmpcbpmnimkoaaGreatDoor
open Go.Av

end Go.Proofs.YtgmpcbpmnimkoaaGreatDoor

/- Contracts: samples, times, dead times. By an AI agent; nothing here is trusted. -/
namespace Go.Proofs.YtgmpcbpmnimkoaaGreatDoor
open Go.Av

theorem isSized_s (n most : Int) (hm : S63 most) : Sound Tryz.prog 199 [.int .i64 n, .int .i64 most] (.bool (decide (-most ≤ n ∧ n ≤ most))) := by
  refine sound_W f_pulse_isSized (Nat.le_of_ble_eq_true rfl) ?_
  unfold S63 at hm
  simp only [c_pulse_isSized, vcV, vcD, Int.reduceEq, Int.reduceNe, Int.reduceLT, Int.reduceLE, Nat.reduceEqDiff, Nat.reduceAdd, reduceIte, reduceCtorEq, Nat.reduceLT, Nat.reduceLeDiff, eq_self, vcP2, Nat.reduceShiftRight, Nat.reduceMod]
  refine ⟨by unfold I64; omega, ?_⟩
  refine callS_of (within_s _ _ _) ?_
  simp only [vcV, vcD, Int.reduceEq, Int.reduceNe, Int.reduceLT, Int.reduceLE, Nat.reduceEqDiff, Nat.reduceAdd, reduceIte, reduceCtorEq, Nat.reduceLT, Nat.reduceLeDiff, eq_self, vcP2, Nat.reduceShiftRight, Nat.reduceMod]
theorem isSample_s (n : Int) : Sound Tryz.prog 176 [.int .i64 n] (.bool (smp n)) := by
  refine sound_W f_pulse_isSample (Nat.le_of_ble_eq_true rfl) ?_
  simp only [c_pulse_isSample, vcV, vcD, Int.reduceEq, Int.reduceNe, Int.reduceLT, Int.reduceLE, Nat.reduceEqDiff, Nat.reduceAdd, reduceIte, reduceCtorEq, Nat.reduceLT, Nat.reduceLeDiff, eq_self, vcP2, Nat.reduceShiftRight, Nat.reduceMod]
  refine callS_of (isSized_s _ _ (by unfold S63; omega)) ?_
  simp only [vcV, vcD, Int.reduceEq, Int.reduceNe, Int.reduceLT, Int.reduceLE, Nat.reduceEqDiff, Nat.reduceAdd, reduceIte, reduceCtorEq, Nat.reduceLT, Nat.reduceLeDiff, eq_self, vcP2, Nat.reduceShiftRight, Nat.reduceMod]
  unfold smp
  exact bool_eq Iff.rfl
theorem IsSample_s (n : Int) : Sound Tryz.prog 196 [.int .i64 n] (.bool (smp n)) := by
  refine sound_W f_ref02_IsSample (Nat.le_of_ble_eq_true rfl) ?_
  simp only [c_ref02_IsSample, vcV, vcD, Int.reduceEq, Int.reduceNe, Int.reduceLT, Int.reduceLE, Nat.reduceEqDiff, Nat.reduceAdd, reduceIte, reduceCtorEq, Nat.reduceLT, Nat.reduceLeDiff, eq_self, vcP2, Nat.reduceShiftRight, Nat.reduceMod]
  refine callS_of (Within_s _ _ _) ?_
  simp only [vcV, vcD, Int.reduceEq, Int.reduceNe, Int.reduceLT, Int.reduceLE, Nat.reduceEqDiff, Nat.reduceAdd, reduceIte, reduceCtorEq, Nat.reduceLT, Nat.reduceLeDiff, eq_self, vcP2, Nat.reduceShiftRight, Nat.reduceMod]
  unfold smp
  exact bool_eq Iff.rfl
end Go.Proofs.YtgmpcbpmnimkoaaGreatDoor

/- Contracts: sums, lowest terms, gains, charges. By an AI agent; nothing here is trusted. -/
namespace Go.Proofs.YtgmpcbpmnimkoaaGreatDoor
open Go.Av

theorem divisor_s (a b : Int) (ha : S63 a) (hb : S63 b) : Sound Tryz.prog 127 [.int .i64 a, .int .i64 b] (.int .i64 (Int.gcd a b)) := by
  refine sound_W f_pulse_divisor (Nat.le_of_ble_eq_true rfl) ?_
  simp only [c_pulse_divisor, vcV, vcD, Int.reduceEq, Int.reduceNe, Int.reduceLT, Int.reduceLE, Nat.reduceEqDiff, Nat.reduceAdd, reduceIte, reduceCtorEq, Nat.reduceLT, Nat.reduceLeDiff, eq_self, vcP2, Nat.reduceShiftRight, Nat.reduceMod]
  refine W_loop (α := PSigma fun p : Int × Int => S63 p.1 ∧ S63 p.2 ∧ Int.gcd p.1 p.2 = Int.gcd a b) (fun p => (envOf [(0, .int .i64 p.1.1), (1, .int .i64 p.1.2)], noStore)) (fun p => p.1.2.natAbs) ⟨(a, b), ha, hb, rfl⟩ (weakE _ ?_) (fun ⟨p, h1, h2, h3⟩ => ?_)
  · simp only [vcV, vcD, Int.reduceEq, Int.reduceNe, Int.reduceLT, Int.reduceLE, Nat.reduceEqDiff, Nat.reduceAdd, reduceIte, reduceCtorEq, Nat.reduceLT, Nat.reduceLeDiff, eq_self, vcP2, Nat.reduceShiftRight, Nat.reduceMod]
  · obtain ⟨x, y⟩ := p
    simp only at h1 h2 h3
    simp only [vcV, vcD, Int.reduceEq, Int.reduceNe, Int.reduceLT, Int.reduceLE, Nat.reduceEqDiff, Nat.reduceAdd, reduceIte, reduceCtorEq, Nat.reduceLT, Nat.reduceLeDiff, eq_self, vcP2, Nat.reduceShiftRight, Nat.reduceMod]
    refine brB_split (fun h => ?_) (fun h => ?_)
    · have hy : y ≠ 0 := by simpa using h
      obtain ⟨t1, t2⟩ := tmod_S (a := x) h2 hy
      simp only [vcV, vcD, Int.reduceEq, Int.reduceNe, Int.reduceLT, Int.reduceLE, Nat.reduceEqDiff, Nat.reduceAdd, reduceIte, reduceCtorEq, Nat.reduceLT, Nat.reduceLeDiff, eq_self, vcP2, Nat.reduceShiftRight, Nat.reduceMod]
      refine ⟨hy, ⟨(y, x.tmod y), h2, t1, (gcd_tmod x y).trans h3⟩, t2, weakE _ ?_⟩
      simp only [vcV, vcD, Int.reduceEq, Int.reduceNe, Int.reduceLT, Int.reduceLE, Nat.reduceEqDiff, Nat.reduceAdd, reduceIte, reduceCtorEq, Nat.reduceLT, Nat.reduceLeDiff, eq_self, vcP2, Nat.reduceShiftRight, Nat.reduceMod]
    · have hy : y = 0 := by simpa using h
      subst hy
      unfold S63 at h1
      simp only [max_neg, vcV, vcD, Int.reduceEq, Int.reduceNe, Int.reduceLT, Int.reduceLE, Nat.reduceEqDiff, Nat.reduceAdd, reduceIte, reduceCtorEq, Nat.reduceLT, Nat.reduceLeDiff, eq_self, vcP2, Nat.reduceShiftRight, Nat.reduceMod]
      refine ⟨by (simp only [decide_eq_true_eq, decide_eq_false_iff_not, Bool.not_true, I64, Bool.not_eq_true', Bool.not_eq_false', bne_iff_ne, beq_iff_eq, ne_eq] at *; omega), ?_⟩
      rw [← h3]; simp [Int.gcd]

def sumOk (l : List Int) : Prop := ∀ i, I64 ((l.take i).sum)
theorem take_sum_succ (l : List Int) (i : Nat) (h : i < l.length) : (l.take (i + 1)).sum = (l.take i).sum + l[i] := by
  rw [List.take_succ_eq_append_getElem h, List.sum_append]; simp
theorem sum_abs {l : List Int} {m : Int} (hm : 0 ≤ m) (h : ∀ x ∈ l, -m ≤ x ∧ x ≤ m) : -(l.length * m) ≤ l.sum ∧ l.sum ≤ l.length * m := by
  induction l with
  | nil => simp
  | cons x l ih =>
    have h1 := h x List.mem_cons_self
    have h2 := ih fun y hy => h y (List.mem_cons_of_mem _ hy)
    simp only [List.sum_cons, List.length_cons]
    rw [show ((l.length + 1 : Nat) : Int) = (l.length : Int) + 1 by omega, Int.add_mul, Int.one_mul]
    omega
theorem sumOk_of {l : List Int} (hl : l.length ≤ 100) (h : ∀ x ∈ l, -1000000000000 ≤ x ∧ x ≤ 1000000000000) : sumOk l := by
  intro i
  have h1 := sum_abs (l := l.take i) (m := 1000000000000) (by omega) fun x hx => h x (List.mem_of_mem_take hx)
  have h2 : ((l.take i).length : Int) ≤ 100 := by rw [List.length_take]; omega
  unfold I64; omega
theorem sum_s (l : List Int) (hl : l.length ≤ 1000000000) (h : sumOk l) : Sound Tryz.prog 130 [.sl (ints l)] (.int .i64 l.sum) := by
  refine sound_W f_pulse_sum (Nat.le_of_ble_eq_true rfl) ?_
  simp only [c_pulse_sum, vcV, vcD, Int.reduceEq, Int.reduceNe, Int.reduceLT, Int.reduceLE, Nat.reduceEqDiff, Nat.reduceAdd, reduceIte, reduceCtorEq, Nat.reduceLT, Nat.reduceLeDiff, eq_self, vcP2, Nat.reduceShiftRight, Nat.reduceMod]
  refine W_loop (t := .mk) (α := PSigma fun i : Nat => i ≤ l.length ∧ (True)) (fun ⟨i, _⟩ => ((envOf [(3, .int .i64 (l.take i).sum), (6, .sl (ints l)), (7, .int .i64 l.length), (8, .int .i64 i)], stOf []))) (fun i => l.length - i.1) ⟨0, Nat.zero_le _, ?_⟩ ?_ (fun ⟨i, hi, hn⟩ => ?_)
  · trivial
  · refine weakX [] (of_decide_eq_true rfl) (of_decide_eq_true rfl) ?_
    (simp only [vcW, vcV, vcD, Int.reduceEq, Int.reduceNe, Int.reduceLT, Int.reduceLE, Nat.reduceEqDiff, Nat.reduceAdd, reduceIte, reduceCtorEq, Nat.reduceLT, Nat.reduceLeDiff, eq_self, vcP2, Nat.reduceShiftRight, Nat.reduceMod])
    (repeat' first | exact trivial | (with_reducible exact RnB.fxB (ints_fxB _)) | (with_reducible rfl) | (with_reducible refine And.intro ?_ ?_) | (with_reducible refine RnB.bb ?_; simp only [vcW, vcV, vcD, Int.reduceEq, Int.reduceNe, Int.reduceLT, Int.reduceLE, Nat.reduceEqDiff, Nat.reduceAdd, reduceIte, reduceCtorEq, Nat.reduceLT, Nat.reduceLeDiff, eq_self, vcP2, Nat.reduceShiftRight, Nat.reduceMod]) | (with_reducible refine RnB.nb ?_; simp only [vcW, vcV, vcD, Int.reduceEq, Int.reduceNe, Int.reduceLT, Int.reduceLE, Nat.reduceEqDiff, Nat.reduceAdd, reduceIte, reduceCtorEq, Nat.reduceLT, Nat.reduceLeDiff, eq_self, vcP2, Nat.reduceShiftRight, Nat.reduceMod]) | (with_reducible refine RnB.ii ?_) | (with_reducible refine RnB.app ?_) | (with_reducible refine RnB.fxB ?_; simp only [vcW, vcV, vcD, Int.reduceEq, Int.reduceNe, Int.reduceLT, Int.reduceLE, Nat.reduceEqDiff, Nat.reduceAdd, reduceIte, reduceCtorEq, Nat.reduceLT, Nat.reduceLeDiff, eq_self, vcP2, Nat.reduceShiftRight, Nat.reduceMod]) | omega)
    all_goals rfl
  · by_cases h' : i < l.length
    · have h2 : (i : Int) < l.length := by omega
      have hs := take_sum_succ l i h'
      have hi1 := h (i + 1)
      rw [hs] at hi1
      simp only [h2, ints_get l i h', vcV, vcD, Int.reduceEq, Int.reduceNe, Int.reduceLT, Int.reduceLE, Nat.reduceEqDiff, Nat.reduceAdd, reduceIte, reduceCtorEq, Nat.reduceLT, Nat.reduceLeDiff, eq_self, vcP2, Nat.reduceShiftRight, Nat.reduceMod]
      refine ⟨by omega, hi1, by unfold I64; omega, ⟨i + 1, h', trivial⟩, by simp only; omega, ?_⟩
      refine weakX [] (of_decide_eq_true rfl) (of_decide_eq_true rfl) ?_
      (simp only [hs, vcW, vcV, vcD, Int.reduceEq, Int.reduceNe, Int.reduceLT, Int.reduceLE, Nat.reduceEqDiff, Nat.reduceAdd, reduceIte, reduceCtorEq, Nat.reduceLT, Nat.reduceLeDiff, eq_self, vcP2, Nat.reduceShiftRight, Nat.reduceMod])
      (repeat' first | exact trivial | (with_reducible exact RnB.fxB (ints_fxB _)) | (with_reducible rfl) | (with_reducible refine And.intro ?_ ?_) | (with_reducible refine RnB.bb ?_; simp only [vcW, vcV, vcD, Int.reduceEq, Int.reduceNe, Int.reduceLT, Int.reduceLE, Nat.reduceEqDiff, Nat.reduceAdd, reduceIte, reduceCtorEq, Nat.reduceLT, Nat.reduceLeDiff, eq_self, vcP2, Nat.reduceShiftRight, Nat.reduceMod]) | (with_reducible refine RnB.nb ?_; simp only [vcW, vcV, vcD, Int.reduceEq, Int.reduceNe, Int.reduceLT, Int.reduceLE, Nat.reduceEqDiff, Nat.reduceAdd, reduceIte, reduceCtorEq, Nat.reduceLT, Nat.reduceLeDiff, eq_self, vcP2, Nat.reduceShiftRight, Nat.reduceMod]) | (with_reducible refine RnB.ii ?_) | (with_reducible refine RnB.app ?_) | (with_reducible refine RnB.fxB ?_; simp only [vcW, vcV, vcD, Int.reduceEq, Int.reduceNe, Int.reduceLT, Int.reduceLE, Nat.reduceEqDiff, Nat.reduceAdd, reduceIte, reduceCtorEq, Nat.reduceLT, Nat.reduceLeDiff, eq_self, vcP2, Nat.reduceShiftRight, Nat.reduceMod]) | omega)
    · have h2 : ¬ (i : Int) < l.length := by omega
      have he : i = l.length := by omega
      subst he
      simp only [h2, List.take_length, vcV, vcD, Int.reduceEq, Int.reduceNe, Int.reduceLT, Int.reduceLE, Nat.reduceEqDiff, Nat.reduceAdd, reduceIte, reduceCtorEq, Nat.reduceLT, Nat.reduceLeDiff, eq_self, vcP2, Nat.reduceShiftRight, Nat.reduceMod]
theorem Sum_s (l : List Int) (hl : l.length ≤ 1000000000) (h : sumOk l) : Sound Tryz.prog 86 [.sl (ints l)] (.int .i64 l.sum) := by
  refine sound_W f_ref02_Sum (Nat.le_of_ble_eq_true rfl) ?_
  simp only [c_ref02_Sum, vcV, vcD, Int.reduceEq, Int.reduceNe, Int.reduceLT, Int.reduceLE, Nat.reduceEqDiff, Nat.reduceAdd, reduceIte, reduceCtorEq, Nat.reduceLT, Nat.reduceLeDiff, eq_self, vcP2, Nat.reduceShiftRight, Nat.reduceMod]
  refine W_loop (t := .mk) (α := PSigma fun i : Nat => i ≤ l.length ∧ (True)) (fun ⟨i, _⟩ => ((envOf [(0, .sl (ints l)), (3, .int .i64 (l.take i).sum), (4, .int .i64 i)], stOf []))) (fun i => l.length - i.1) ⟨0, Nat.zero_le _, ?_⟩ ?_ (fun ⟨i, hi, hn⟩ => ?_)
  · trivial
  · refine weakX [] (of_decide_eq_true rfl) (of_decide_eq_true rfl) ?_
    (simp only [vcW, vcV, vcD, Int.reduceEq, Int.reduceNe, Int.reduceLT, Int.reduceLE, Nat.reduceEqDiff, Nat.reduceAdd, reduceIte, reduceCtorEq, Nat.reduceLT, Nat.reduceLeDiff, eq_self, vcP2, Nat.reduceShiftRight, Nat.reduceMod])
    (repeat' first | exact trivial | (with_reducible exact RnB.fxB (ints_fxB _)) | (with_reducible rfl) | (with_reducible refine And.intro ?_ ?_) | (with_reducible refine RnB.bb ?_; simp only [vcW, vcV, vcD, Int.reduceEq, Int.reduceNe, Int.reduceLT, Int.reduceLE, Nat.reduceEqDiff, Nat.reduceAdd, reduceIte, reduceCtorEq, Nat.reduceLT, Nat.reduceLeDiff, eq_self, vcP2, Nat.reduceShiftRight, Nat.reduceMod]) | (with_reducible refine RnB.nb ?_; simp only [vcW, vcV, vcD, Int.reduceEq, Int.reduceNe, Int.reduceLT, Int.reduceLE, Nat.reduceEqDiff, Nat.reduceAdd, reduceIte, reduceCtorEq, Nat.reduceLT, Nat.reduceLeDiff, eq_self, vcP2, Nat.reduceShiftRight, Nat.reduceMod]) | (with_reducible refine RnB.ii ?_) | (with_reducible refine RnB.app ?_) | (with_reducible refine RnB.fxB ?_; simp only [vcW, vcV, vcD, Int.reduceEq, Int.reduceNe, Int.reduceLT, Int.reduceLE, Nat.reduceEqDiff, Nat.reduceAdd, reduceIte, reduceCtorEq, Nat.reduceLT, Nat.reduceLeDiff, eq_self, vcP2, Nat.reduceShiftRight, Nat.reduceMod]) | omega)
    all_goals rfl
  · by_cases h' : i < l.length
    · have h2 : (i : Int) < l.length := by omega
      have hs := take_sum_succ l i h'
      have hi1 := h (i + 1)
      rw [hs] at hi1
      simp only [h2, ints_get l i h', vcV, vcD, Int.reduceEq, Int.reduceNe, Int.reduceLT, Int.reduceLE, Nat.reduceEqDiff, Nat.reduceAdd, reduceIte, reduceCtorEq, Nat.reduceLT, Nat.reduceLeDiff, eq_self, vcP2, Nat.reduceShiftRight, Nat.reduceMod]
      refine ⟨by omega, hi1, by unfold I64; omega, ⟨i + 1, h', trivial⟩, by simp only; omega, ?_⟩
      refine weakX [] (of_decide_eq_true rfl) (of_decide_eq_true rfl) ?_
      (simp only [hs, vcW, vcV, vcD, Int.reduceEq, Int.reduceNe, Int.reduceLT, Int.reduceLE, Nat.reduceEqDiff, Nat.reduceAdd, reduceIte, reduceCtorEq, Nat.reduceLT, Nat.reduceLeDiff, eq_self, vcP2, Nat.reduceShiftRight, Nat.reduceMod])
      (repeat' first | exact trivial | (with_reducible exact RnB.fxB (ints_fxB _)) | (with_reducible rfl) | (with_reducible refine And.intro ?_ ?_) | (with_reducible refine RnB.bb ?_; simp only [vcW, vcV, vcD, Int.reduceEq, Int.reduceNe, Int.reduceLT, Int.reduceLE, Nat.reduceEqDiff, Nat.reduceAdd, reduceIte, reduceCtorEq, Nat.reduceLT, Nat.reduceLeDiff, eq_self, vcP2, Nat.reduceShiftRight, Nat.reduceMod]) | (with_reducible refine RnB.nb ?_; simp only [vcW, vcV, vcD, Int.reduceEq, Int.reduceNe, Int.reduceLT, Int.reduceLE, Nat.reduceEqDiff, Nat.reduceAdd, reduceIte, reduceCtorEq, Nat.reduceLT, Nat.reduceLeDiff, eq_self, vcP2, Nat.reduceShiftRight, Nat.reduceMod]) | (with_reducible refine RnB.ii ?_) | (with_reducible refine RnB.app ?_) | (with_reducible refine RnB.fxB ?_; simp only [vcW, vcV, vcD, Int.reduceEq, Int.reduceNe, Int.reduceLT, Int.reduceLE, Nat.reduceEqDiff, Nat.reduceAdd, reduceIte, reduceCtorEq, Nat.reduceLT, Nat.reduceLeDiff, eq_self, vcP2, Nat.reduceShiftRight, Nat.reduceMod]) | omega)
    · have h2 : ¬ (i : Int) < l.length := by omega
      have he : i = l.length := by omega
      subst he
      simp only [h2, List.take_length, vcV, vcD, Int.reduceEq, Int.reduceNe, Int.reduceLT, Int.reduceLE, Nat.reduceEqDiff, Nat.reduceAdd, reduceIte, reduceCtorEq, Nat.reduceLT, Nat.reduceLeDiff, eq_self, vcP2, Nat.reduceShiftRight, Nat.reduceMod]

end Go.Proofs.YtgmpcbpmnimkoaaGreatDoor

/- Contracts: fits, charges, photons. By an AI agent; nothing here is trusted. -/
namespace Go.Proofs.YtgmpcbpmnimkoaaGreatDoor
open Go.Av

def fitA (den : Int) (parts : List Int) : AV := .agg [.int .i64 den, .sl (ints parts)]
def fE (den : Int) (parts : List Int) : Int := if 1 ≤ den ∧ den ≤ 1000000000000 then (if 5 < parts.length then 8 else if parts.all (fun n => decide (0 ≤ n ∧ n ≤ 1000000000000)) then 0 else 2) else 2
theorem fE_ok {den : Int} {parts : List Int} (h : fE den parts = 0) : (1 ≤ den ∧ den ≤ 1000000000000) ∧ parts.length ≤ 5 ∧ ∀ x ∈ parts, 0 ≤ x ∧ x ≤ 1000000000000 := by
  unfold fE at h
  split at h
  · split at h
    · cases h
    · split at h
      · rename_i h1 h2 h3
        exact ⟨h1, by omega, fun x hx => by simpa using List.all_eq_true.1 h3 x hx⟩
      · cases h
  · cases h
theorem fitErr_1_s (n : Int) : Sound Tryz.prog 218 [.int .i64 n] (.bool (!decide (0 ≤ n ∧ n ≤ 1000000000000))) := by
  refine sound_W f_pulse_fitErr_1 (Nat.le_of_ble_eq_true rfl) ?_
  simp only [c_pulse_fitErr_1, vcV, vcD, Int.reduceEq, Int.reduceNe, Int.reduceLT, Int.reduceLE, Nat.reduceEqDiff, Nat.reduceAdd, reduceIte, reduceCtorEq, Nat.reduceLT, Nat.reduceLeDiff, eq_self, vcP2, Nat.reduceShiftRight, Nat.reduceMod]
  refine callS_of (within_s _ _ _) ?_
  simp only [vcV, vcD, Int.reduceEq, Int.reduceNe, Int.reduceLT, Int.reduceLE, Nat.reduceEqDiff, Nat.reduceAdd, reduceIte, reduceCtorEq, Nat.reduceLT, Nat.reduceLeDiff, eq_self, vcP2, Nat.reduceShiftRight, Nat.reduceMod]
theorem fitErr_s (den : Int) (parts : List Int) (hl : parts.length < 4000000000000000000) : Sound Tryz.prog 152 [fitA den parts] (.int .i64 (fE den parts)) := by
  refine sound_W f_pulse_fitErr (Nat.le_of_ble_eq_true rfl) ?_
  simp only [c_pulse_fitErr, fitA, vcV, vcD, Int.reduceEq, Int.reduceNe, Int.reduceLT, Int.reduceLE, Nat.reduceEqDiff, Nat.reduceAdd, reduceIte, reduceCtorEq, Nat.reduceLT, Nat.reduceLeDiff, eq_self, vcP2, Nat.reduceShiftRight, Nat.reduceMod]
  refine callS_of (contFunc_int_s parts _ [] (fun n => !decide (0 ≤ n ∧ n ≤ 1000000000000)) hl (by simp) (fun x _ => fitErr_1_s x)) ?_
  simp only [vcV, vcD, Int.reduceEq, Int.reduceNe, Int.reduceLT, Int.reduceLE, Nat.reduceEqDiff, Nat.reduceAdd, reduceIte, reduceCtorEq, Nat.reduceLT, Nat.reduceLeDiff, eq_self, vcP2, Nat.reduceShiftRight, Nat.reduceMod]
  refine callS_of (within_s _ _ _) ?_
  simp only [vcV, vcD, Int.reduceEq, Int.reduceNe, Int.reduceLT, Int.reduceLE, Nat.reduceEqDiff, Nat.reduceAdd, reduceIte, reduceCtorEq, Nat.reduceLT, Nat.reduceLeDiff, eq_self, vcP2, Nat.reduceShiftRight, Nat.reduceMod]
  refine callS_of (unless_s _ _) ?_
  simp only [vcV, vcD, Int.reduceEq, Int.reduceNe, Int.reduceLT, Int.reduceLE, Nat.reduceEqDiff, Nat.reduceAdd, reduceIte, reduceCtorEq, Nat.reduceLT, Nat.reduceLeDiff, eq_self, vcP2, Nat.reduceShiftRight, Nat.reduceMod]
  refine callS_of (unless_s _ _) ?_
  simp only [vcV, vcD, Int.reduceEq, Int.reduceNe, Int.reduceLT, Int.reduceLE, Nat.reduceEqDiff, Nat.reduceAdd, reduceIte, reduceCtorEq, Nat.reduceLT, Nat.reduceLeDiff, eq_self, vcP2, Nat.reduceShiftRight, Nat.reduceMod]
  refine callS_of (unless_s _ _) ?_
  simp only [vcV, vcD, Int.reduceEq, Int.reduceNe, Int.reduceLT, Int.reduceLE, Nat.reduceEqDiff, Nat.reduceAdd, reduceIte, reduceCtorEq, Nat.reduceLT, Nat.reduceLeDiff, eq_self, vcP2, Nat.reduceShiftRight, Nat.reduceMod]
  refine callS_of (first3_s _ _ _) ?_
  simp only [vcV, vcD, Int.reduceEq, Int.reduceNe, Int.reduceLT, Int.reduceLE, Nat.reduceEqDiff, Nat.reduceAdd, reduceIte, reduceCtorEq, Nat.reduceLT, Nat.reduceLeDiff, eq_self, vcP2, Nat.reduceShiftRight, Nat.reduceMod]
  have hall : (!parts.any fun n => !decide (0 ≤ n ∧ n ≤ 1000000000000)) = parts.all fun n => decide (0 ≤ n ∧ n ≤ 1000000000000) := by rw [List.not_any_eq_all_not]; simp only [Bool.not_not]
  rw [hall]
  refine ⟨by intro _ k hk; simp [refsL, refs, upd] at hk; subst hk; simp [upd], ?_⟩
  unfold fE
  congr 1
  by_cases h1 : 1 ≤ den ∧ den ≤ 1000000000000
  · by_cases h2 : 5 < parts.length
    · have h2' : ¬ (parts.length : Int) ≤ 5 := by omega
      simp only [h1, h2, h2', and_self, decide_true, decide_false, if_true, if_false, ne_eq, not_true_eq_false, Bool.false_eq_true, not_false_eq_true, (by decide : ¬ (8 : Int) = 0)]
    · have h2' : (parts.length : Int) ≤ 5 := by omega
      simp only [h1, h2, h2', and_self, decide_true, decide_false, if_true, if_false, ne_eq, not_true_eq_false, Bool.false_eq_true, not_false_eq_true]
  · simp only [h1, decide_true, decide_false, if_true, if_false, ne_eq, not_true_eq_false, Bool.false_eq_true, not_false_eq_true, (by decide : ¬ (2 : Int) = 0)]
theorem FitErr_s (den : Int) (parts : List Int) (hl : parts.length < 4000000000000000000) : Sound Tryz.prog 17 [fitA den parts] (.int .i64 (fE den parts)) := by
  refine sound_W f_ref02_FitErr (Nat.le_of_ble_eq_true rfl) ?_
  simp only [c_ref02_FitErr, fitA, vcV, vcD, Int.reduceEq, Int.reduceNe, Int.reduceLT, Int.reduceLE, Nat.reduceEqDiff, Nat.reduceAdd, reduceIte, reduceCtorEq, Nat.reduceLT, Nat.reduceLeDiff, eq_self, vcP2, Nat.reduceShiftRight, Nat.reduceMod]
  refine callS_of (Within_s _ _ _) ?_
  by_cases h1 : 1 ≤ den ∧ den ≤ 1000000000000
  case neg =>
    have he : fE den parts = 2 := by unfold fE; rw [if_neg h1]
    simp only [h1, he, vcV, vcD, Int.reduceEq, Int.reduceNe, Int.reduceLT, Int.reduceLE, Nat.reduceEqDiff, Nat.reduceAdd, reduceIte, reduceCtorEq, Nat.reduceLT, Nat.reduceLeDiff, eq_self, vcP2, Nat.reduceShiftRight, Nat.reduceMod]
  simp only [h1, vcV, vcD, Int.reduceEq, Int.reduceNe, Int.reduceLT, Int.reduceLE, Nat.reduceEqDiff, Nat.reduceAdd, reduceIte, reduceCtorEq, Nat.reduceLT, Nat.reduceLeDiff, eq_self, vcP2, Nat.reduceShiftRight, Nat.reduceMod]
  by_cases h2 : 5 < parts.length
  · have h2' : (5 : Int) < parts.length := by omega
    have he : fE den parts = 8 := by unfold fE; rw [if_pos h1, if_pos h2]
    simp only [h2', he, vcV, vcD, Int.reduceEq, Int.reduceNe, Int.reduceLT, Int.reduceLE, Nat.reduceEqDiff, Nat.reduceAdd, reduceIte, reduceCtorEq, Nat.reduceLT, Nat.reduceLeDiff, eq_self, vcP2, Nat.reduceShiftRight, Nat.reduceMod]
  have h2' : ¬ (5 : Int) < parts.length := by omega
  simp only [h2', vcV, vcD, Int.reduceEq, Int.reduceNe, Int.reduceLT, Int.reduceLE, Nat.reduceEqDiff, Nat.reduceAdd, reduceIte, reduceCtorEq, Nat.reduceLT, Nat.reduceLeDiff, eq_self, vcP2, Nat.reduceShiftRight, Nat.reduceMod]
  refine W_loop (t := .mk) (α := PSigma fun i : Nat => i ≤ parts.length ∧ (∀ x ∈ parts.take i, 0 ≤ x ∧ x ≤ 1000000000000)) (fun ⟨i, _⟩ => ((envOf [(1, .ptr 1 0 0), (3, .int .i64 i)], stOf [(1, ⟨29, 2, [.agg [.int .i64 den, .sl (ints parts)]]⟩)]))) (fun i => parts.length - i.1) ⟨0, Nat.zero_le _, ?_⟩ ?_ (fun ⟨i, hi, hn⟩ => ?_)
  · intro x hx; simp at hx
  · refine weakX [] (of_decide_eq_true rfl) (of_decide_eq_true rfl) ?_
    (simp only [vcW, vcV, vcD, Int.reduceEq, Int.reduceNe, Int.reduceLT, Int.reduceLE, Nat.reduceEqDiff, Nat.reduceAdd, reduceIte, reduceCtorEq, Nat.reduceLT, Nat.reduceLeDiff, eq_self, vcP2, Nat.reduceShiftRight, Nat.reduceMod])
    (repeat' first | exact trivial | (with_reducible exact RnB.fxB (ints_fxB _)) | (with_reducible rfl) | (with_reducible refine And.intro ?_ ?_) | (with_reducible refine RnB.bb ?_; simp only [vcW, vcV, vcD, Int.reduceEq, Int.reduceNe, Int.reduceLT, Int.reduceLE, Nat.reduceEqDiff, Nat.reduceAdd, reduceIte, reduceCtorEq, Nat.reduceLT, Nat.reduceLeDiff, eq_self, vcP2, Nat.reduceShiftRight, Nat.reduceMod]) | (with_reducible refine RnB.nb ?_; simp only [vcW, vcV, vcD, Int.reduceEq, Int.reduceNe, Int.reduceLT, Int.reduceLE, Nat.reduceEqDiff, Nat.reduceAdd, reduceIte, reduceCtorEq, Nat.reduceLT, Nat.reduceLeDiff, eq_self, vcP2, Nat.reduceShiftRight, Nat.reduceMod]) | (with_reducible refine RnB.ii ?_) | (with_reducible refine RnB.app ?_) | (with_reducible refine RnB.fxB ?_; simp only [vcW, vcV, vcD, Int.reduceEq, Int.reduceNe, Int.reduceLT, Int.reduceLE, Nat.reduceEqDiff, Nat.reduceAdd, reduceIte, reduceCtorEq, Nat.reduceLT, Nat.reduceLeDiff, eq_self, vcP2, Nat.reduceShiftRight, Nat.reduceMod]) | omega)
  · by_cases h' : i < parts.length
    · have h3 : (i : Int) < parts.length := by omega
      simp only [h3, ints_get parts i h', vcV, vcD, Int.reduceEq, Int.reduceNe, Int.reduceLT, Int.reduceLE, Nat.reduceEqDiff, Nat.reduceAdd, reduceIte, reduceCtorEq, Nat.reduceLT, Nat.reduceLeDiff, eq_self, vcP2, Nat.reduceShiftRight, Nat.reduceMod]
      refine ⟨by omega, ?_⟩
      refine callS_of (Within_s _ _ _) ?_
      by_cases hw : 0 ≤ parts[i] ∧ parts[i] ≤ 1000000000000
      · simp only [hw, vcV, vcD, Int.reduceEq, Int.reduceNe, Int.reduceLT, Int.reduceLE, Nat.reduceEqDiff, Nat.reduceAdd, reduceIte, reduceCtorEq, Nat.reduceLT, Nat.reduceLeDiff, eq_self, vcP2, Nat.reduceShiftRight, Nat.reduceMod]
        refine ⟨by unfold I64; omega, ⟨i + 1, h', ?_⟩, by simp only; omega, ?_⟩
        · rw [List.take_succ_eq_append_getElem h']
          intro x hx
          rcases List.mem_append.1 hx with e | e
          · exact hn x e
          · rw [List.mem_singleton.1 e]; exact hw
        · refine weakX [] (of_decide_eq_true rfl) (of_decide_eq_true rfl) ?_
          (simp only [vcW, vcV, vcD, Int.reduceEq, Int.reduceNe, Int.reduceLT, Int.reduceLE, Nat.reduceEqDiff, Nat.reduceAdd, reduceIte, reduceCtorEq, Nat.reduceLT, Nat.reduceLeDiff, eq_self, vcP2, Nat.reduceShiftRight, Nat.reduceMod])
          (repeat' first | exact trivial | (with_reducible exact RnB.fxB (ints_fxB _)) | (with_reducible rfl) | (with_reducible refine And.intro ?_ ?_) | (with_reducible refine RnB.bb ?_; simp only [vcW, vcV, vcD, Int.reduceEq, Int.reduceNe, Int.reduceLT, Int.reduceLE, Nat.reduceEqDiff, Nat.reduceAdd, reduceIte, reduceCtorEq, Nat.reduceLT, Nat.reduceLeDiff, eq_self, vcP2, Nat.reduceShiftRight, Nat.reduceMod]) | (with_reducible refine RnB.nb ?_; simp only [vcW, vcV, vcD, Int.reduceEq, Int.reduceNe, Int.reduceLT, Int.reduceLE, Nat.reduceEqDiff, Nat.reduceAdd, reduceIte, reduceCtorEq, Nat.reduceLT, Nat.reduceLeDiff, eq_self, vcP2, Nat.reduceShiftRight, Nat.reduceMod]) | (with_reducible refine RnB.ii ?_) | (with_reducible refine RnB.app ?_) | (with_reducible refine RnB.fxB ?_; simp only [vcW, vcV, vcD, Int.reduceEq, Int.reduceNe, Int.reduceLT, Int.reduceLE, Nat.reduceEqDiff, Nat.reduceAdd, reduceIte, reduceCtorEq, Nat.reduceLT, Nat.reduceLeDiff, eq_self, vcP2, Nat.reduceShiftRight, Nat.reduceMod]) | omega)
      · have he : fE den parts = 2 := by
          unfold fE
          rw [if_pos h1, if_neg h2, if_neg]
          intro hall
          have := List.all_eq_true.1 hall _ (List.getElem_mem h')
          exact hw (by simpa using this)
        simp only [hw, he, vcV, vcD, Int.reduceEq, Int.reduceNe, Int.reduceLT, Int.reduceLE, Nat.reduceEqDiff, Nat.reduceAdd, reduceIte, reduceCtorEq, Nat.reduceLT, Nat.reduceLeDiff, eq_self, vcP2, Nat.reduceShiftRight, Nat.reduceMod]
    · have h3 : ¬ (i : Int) < parts.length := by omega
      have hin : i = parts.length := by omega
      subst hin
      rw [List.take_length] at hn
      have he : fE den parts = 0 := by
        unfold fE
        rw [if_pos h1, if_neg h2, if_pos]
        exact List.all_eq_true.2 fun x hx => decide_eq_true (hn x hx)
      simp only [h3, he, vcV, vcD, Int.reduceEq, Int.reduceNe, Int.reduceLT, Int.reduceLE, Nat.reduceEqDiff, Nat.reduceAdd, reduceIte, reduceCtorEq, Nat.reduceLT, Nat.reduceLeDiff, eq_self, vcP2, Nat.reduceShiftRight, Nat.reduceMod]
theorem CopyFit_s (den : Int) (parts : List Int) (hl : parts.length ≤ 1000000000) : Sound Tryz.prog 24 [fitA den parts] (fitA den parts) := by
  refine sound_W f_ref02_CopyFit (Nat.le_of_ble_eq_true rfl) ?_
  simp only [c_ref02_CopyFit, fitA, vcV, vcD, Int.reduceEq, Int.reduceNe, Int.reduceLT, Int.reduceLE, Nat.reduceEqDiff, Nat.reduceAdd, reduceIte, reduceCtorEq, Nat.reduceLT, Nat.reduceLeDiff, eq_self, vcP2, Nat.reduceShiftRight, Nat.reduceMod]
  refine callS_of (CopyInts_s parts hl) ?_
  simp only [vcV, vcD, Int.reduceEq, Int.reduceNe, Int.reduceLT, Int.reduceLE, Nat.reduceEqDiff, Nat.reduceAdd, reduceIte, reduceCtorEq, Nat.reduceLT, Nat.reduceLeDiff, eq_self, vcP2, Nat.reduceShiftRight, Nat.reduceMod]

end Go.Proofs.YtgmpcbpmnimkoaaGreatDoor

/- Contracts: samples, droops, pedestals. By an AI agent; nothing here is trusted. -/
namespace Go.Proofs.YtgmpcbpmnimkoaaGreatDoor
open Go.Av

theorem mul_abs {s k M K : Int} (hk : 0 ≤ k ∧ k ≤ K) (hM : 0 ≤ M) (h : -M ≤ s ∧ s ≤ M) : -(M * K) ≤ s * k ∧ s * k ≤ M * K := by
  have h1 : s * k ≤ M * k := Int.mul_le_mul_of_nonneg_right h.2 hk.1
  have h2 : -M * k ≤ s * k := Int.mul_le_mul_of_nonneg_right h.1 hk.1
  have h3 : M * k ≤ M * K := Int.mul_le_mul_of_nonneg_left hk.2 hM
  rw [Int.neg_mul] at h2
  omega
theorem samplesErr_1_s (n : Int) : Sound Tryz.prog 250 [.int .i64 n] (.bool (!smp n)) := by
  refine sound_W f_pulse_samplesErr_1 (Nat.le_of_ble_eq_true rfl) ?_
  simp only [c_pulse_samplesErr_1, vcV, vcD, Int.reduceEq, Int.reduceNe, Int.reduceLT, Int.reduceLE, Nat.reduceEqDiff, Nat.reduceAdd, reduceIte, reduceCtorEq, Nat.reduceLT, Nat.reduceLeDiff, eq_self, vcP2, Nat.reduceShiftRight, Nat.reduceMod]
  refine callS_of (isSample_s _) ?_
  simp only [vcV, vcD, Int.reduceEq, Int.reduceNe, Int.reduceLT, Int.reduceLE, Nat.reduceEqDiff, Nat.reduceAdd, reduceIte, reduceCtorEq, Nat.reduceLT, Nat.reduceLeDiff, eq_self, vcP2, Nat.reduceShiftRight, Nat.reduceMod]
theorem not_all (l : List Int) : (l.any fun n => !smp n) = !l.all smp := by rw [← List.not_all_eq_any_not]
theorem samplesErr_s (l : List Int) (hl : l.length < 4000000000000000000) : Sound Tryz.prog 217 [.sl (ints l)] (.tup [.int .i64 (smI l), .int .i64 (smE l)]) := by
  refine sound_W f_pulse_samplesErr (Nat.le_of_ble_eq_true rfl) ?_
  have hU := unless_s
  simp only [c_pulse_samplesErr, vcV, vcD, Int.reduceEq, Int.reduceNe, Int.reduceLT, Int.reduceLE, Nat.reduceEqDiff, Nat.reduceAdd, reduceIte, reduceCtorEq, Nat.reduceLT, Nat.reduceLeDiff, eq_self, vcP2, Nat.reduceShiftRight, Nat.reduceMod]
  refine callS_of (unless_s _ _) ?_
  simp only [vcV, vcD, Int.reduceEq, Int.reduceNe, Int.reduceLT, Int.reduceLE, Nat.reduceEqDiff, Nat.reduceAdd, reduceIte, reduceCtorEq, Nat.reduceLT, Nat.reduceLeDiff, eq_self, vcP2, Nat.reduceShiftRight, Nat.reduceMod]
  refine callS_of (unless_s _ _) ?_
  simp only [vcV, vcD, Int.reduceEq, Int.reduceNe, Int.reduceLT, Int.reduceLE, Nat.reduceEqDiff, Nat.reduceAdd, reduceIte, reduceCtorEq, Nat.reduceLT, Nat.reduceLeDiff, eq_self, vcP2, Nat.reduceShiftRight, Nat.reduceMod]
  refine callS_of (first2_s _ _) ?_
  by_cases h0 : l.length = 0
  · have h0' : ¬ (0 : Int) < l.length := by omega
    have he : smE l = 10 := by unfold smE; rw [if_pos h0]
    have hi : smI l = 0 := by unfold smI; rw [if_neg (by rw [he]; decide)]
    simp only [h0', he, hi, vcV, vcD, Int.reduceEq, Int.reduceNe, Int.reduceLT, Int.reduceLE, Nat.reduceEqDiff, Nat.reduceAdd, reduceIte, reduceCtorEq, Nat.reduceLT, Nat.reduceLeDiff, eq_self, vcP2, Nat.reduceShiftRight, Nat.reduceMod]
  have h0' : (0 : Int) < l.length := by omega
  by_cases h1 : 24 < l.length
  · have h1' : ¬ (l.length : Int) ≤ 24 := by omega
    have he : smE l = 8 := by unfold smE; rw [if_neg h0, if_pos h1]
    have hi : smI l = 0 := by unfold smI; rw [if_neg (by rw [he]; decide)]
    simp only [h0', h1', he, hi, vcV, vcD, Int.reduceEq, Int.reduceNe, Int.reduceLT, Int.reduceLE, Nat.reduceEqDiff, Nat.reduceAdd, reduceIte, reduceCtorEq, Nat.reduceLT, Nat.reduceLeDiff, eq_self, vcP2, Nat.reduceShiftRight, Nat.reduceMod]
  have h1' : (l.length : Int) ≤ 24 := by omega
  have hx := idxOf_any l (fun n => !smp n)
  rw [not_all] at hx
  simp only [h0', h1', vcV, vcD, Int.reduceEq, Int.reduceNe, Int.reduceLT, Int.reduceLE, Nat.reduceEqDiff, Nat.reduceAdd, reduceIte, reduceCtorEq, Nat.reduceLT, Nat.reduceLeDiff, eq_self, vcP2, Nat.reduceShiftRight, Nat.reduceMod]
  refine callS_of (idxFunc_int_s l _ [] (fun n => !smp n) hl (by simp) (fun x _ => samplesErr_1_s x)) ?_
  cases hall : l.all smp with
  | true =>
    rw [hall] at hx
    have hx' : ¬ 0 ≤ idxOf l (fun n => !smp n) := of_decide_eq_false hx
    have he : smE l = 0 := by unfold smE; rw [if_neg h0, if_neg h1, if_pos hall]
    have hi : smI l = 0 := by unfold smI; rw [if_neg (by rw [he]; decide)]
    simp only [hx', he, hi, vcV, vcD, Int.reduceEq, Int.reduceNe, Int.reduceLT, Int.reduceLE, Nat.reduceEqDiff, Nat.reduceAdd, reduceIte, reduceCtorEq, Nat.reduceLT, Nat.reduceLeDiff, eq_self, vcP2, Nat.reduceShiftRight, Nat.reduceMod]
  | false =>
    rw [hall] at hx
    have hx' : 0 ≤ idxOf l (fun n => !smp n) := of_decide_eq_true hx
    have he : smE l = 2 := by unfold smE; rw [if_neg h0, if_neg h1, if_neg (by rw [hall]; decide)]
    have hi : smI l = idxOf l (fun n => !smp n) := by unfold smI; rw [if_pos he]
    simp only [hx', he, hi, vcV, vcD, Int.reduceEq, Int.reduceNe, Int.reduceLT, Int.reduceLE, Nat.reduceEqDiff, Nat.reduceAdd, reduceIte, reduceCtorEq, Nat.reduceLT, Nat.reduceLeDiff, eq_self, vcP2, Nat.reduceShiftRight, Nat.reduceMod]
theorem sampled_s (l : List Int) (hl : l.length < 4000000000000000000) : Sound Tryz.prog 151 [.sl (ints l)] (.int .i64 (smE l)) := by
  refine sound_W f_pulse_sampled (Nat.le_of_ble_eq_true rfl) ?_
  simp only [c_pulse_sampled, vcV, vcD, Int.reduceEq, Int.reduceNe, Int.reduceLT, Int.reduceLE, Nat.reduceEqDiff, Nat.reduceAdd, reduceIte, reduceCtorEq, Nat.reduceLT, Nat.reduceLeDiff, eq_self, vcP2, Nat.reduceShiftRight, Nat.reduceMod]
  refine callS_of (samplesErr_s l hl) ?_
  simp only [vcV, vcD, Int.reduceEq, Int.reduceNe, Int.reduceLT, Int.reduceLE, Nat.reduceEqDiff, Nat.reduceAdd, reduceIte, reduceCtorEq, Nat.reduceLT, Nat.reduceLeDiff, eq_self, vcP2, Nat.reduceShiftRight, Nat.reduceMod]
theorem CheckSamples_s (l : List Int) : Sound Tryz.prog 113 [.sl (ints l)] (.tup [.int .i64 (smI l), .int .i64 (smE l)]) := by
  refine sound_W f_ref02_CheckSamples (Nat.le_of_ble_eq_true rfl) ?_
  simp only [c_ref02_CheckSamples, vcV, vcD, Int.reduceEq, Int.reduceNe, Int.reduceLT, Int.reduceLE, Nat.reduceEqDiff, Nat.reduceAdd, reduceIte, reduceCtorEq, Nat.reduceLT, Nat.reduceLeDiff, eq_self, vcP2, Nat.reduceShiftRight, Nat.reduceMod]
  by_cases h0 : l.length = 0
  · have h0' : (l.length : Int) = 0 := by omega
    have he : smE l = 10 := by unfold smE; rw [if_pos h0]
    have hi : smI l = 0 := by unfold smI; rw [if_neg (by rw [he]; decide)]
    simp only [h0', he, hi, vcV, vcD, Int.reduceEq, Int.reduceNe, Int.reduceLT, Int.reduceLE, Nat.reduceEqDiff, Nat.reduceAdd, reduceIte, reduceCtorEq, Nat.reduceLT, Nat.reduceLeDiff, eq_self, vcP2, Nat.reduceShiftRight, Nat.reduceMod]
  have h0' : ¬ (l.length : Int) = 0 := by omega
  simp only [h0', vcV, vcD, Int.reduceEq, Int.reduceNe, Int.reduceLT, Int.reduceLE, Nat.reduceEqDiff, Nat.reduceAdd, reduceIte, reduceCtorEq, Nat.reduceLT, Nat.reduceLeDiff, eq_self, vcP2, Nat.reduceShiftRight, Nat.reduceMod]
  by_cases h1 : 24 < l.length
  · have h1' : (24 : Int) < l.length := by omega
    have he : smE l = 8 := by unfold smE; rw [if_neg h0, if_pos h1]
    have hi : smI l = 0 := by unfold smI; rw [if_neg (by rw [he]; decide)]
    simp only [h1', he, hi, vcV, vcD, Int.reduceEq, Int.reduceNe, Int.reduceLT, Int.reduceLE, Nat.reduceEqDiff, Nat.reduceAdd, reduceIte, reduceCtorEq, Nat.reduceLT, Nat.reduceLeDiff, eq_self, vcP2, Nat.reduceShiftRight, Nat.reduceMod]
  have h1' : ¬ (24 : Int) < l.length := by omega
  simp only [h1', vcV, vcD, Int.reduceEq, Int.reduceNe, Int.reduceLT, Int.reduceLE, Nat.reduceEqDiff, Nat.reduceAdd, reduceIte, reduceCtorEq, Nat.reduceLT, Nat.reduceLeDiff, eq_self, vcP2, Nat.reduceShiftRight, Nat.reduceMod]
  refine W_loop (t := .mk) (α := PSigma fun i : Nat => i ≤ l.length ∧ (∀ x ∈ l.take i, smp x = true)) (fun ⟨i, _⟩ => ((envOf [(0, .sl (ints l)), (4, .int .i64 i)], stOf []))) (fun i => l.length - i.1) ⟨0, Nat.zero_le _, ?_⟩ ?_ (fun ⟨i, hi, hn⟩ => ?_)
  · intro x hx; simp at hx
  · refine weakX [] (of_decide_eq_true rfl) (of_decide_eq_true rfl) ?_
    (simp only [vcW, vcV, vcD, Int.reduceEq, Int.reduceNe, Int.reduceLT, Int.reduceLE, Nat.reduceEqDiff, Nat.reduceAdd, reduceIte, reduceCtorEq, Nat.reduceLT, Nat.reduceLeDiff, eq_self, vcP2, Nat.reduceShiftRight, Nat.reduceMod])
    (repeat' first | exact trivial | (with_reducible exact RnB.fxB (ints_fxB _)) | (with_reducible rfl) | (with_reducible refine And.intro ?_ ?_) | (with_reducible refine RnB.bb ?_; simp only [vcW, vcV, vcD, Int.reduceEq, Int.reduceNe, Int.reduceLT, Int.reduceLE, Nat.reduceEqDiff, Nat.reduceAdd, reduceIte, reduceCtorEq, Nat.reduceLT, Nat.reduceLeDiff, eq_self, vcP2, Nat.reduceShiftRight, Nat.reduceMod]) | (with_reducible refine RnB.nb ?_; simp only [vcW, vcV, vcD, Int.reduceEq, Int.reduceNe, Int.reduceLT, Int.reduceLE, Nat.reduceEqDiff, Nat.reduceAdd, reduceIte, reduceCtorEq, Nat.reduceLT, Nat.reduceLeDiff, eq_self, vcP2, Nat.reduceShiftRight, Nat.reduceMod]) | (with_reducible refine RnB.ii ?_) | (with_reducible refine RnB.app ?_) | (with_reducible refine RnB.fxB ?_; simp only [vcW, vcV, vcD, Int.reduceEq, Int.reduceNe, Int.reduceLT, Int.reduceLE, Nat.reduceEqDiff, Nat.reduceAdd, reduceIte, reduceCtorEq, Nat.reduceLT, Nat.reduceLeDiff, eq_self, vcP2, Nat.reduceShiftRight, Nat.reduceMod]) | omega)
  · by_cases h' : i < l.length
    · have h2 : (i : Int) < l.length := by omega
      simp only [h2, ints_get l i h', vcV, vcD, Int.reduceEq, Int.reduceNe, Int.reduceLT, Int.reduceLE, Nat.reduceEqDiff, Nat.reduceAdd, reduceIte, reduceCtorEq, Nat.reduceLT, Nat.reduceLeDiff, eq_self, vcP2, Nat.reduceShiftRight, Nat.reduceMod]
      refine ⟨by omega, ?_⟩
      refine callS_of (IsSample_s _) ?_
      cases hw : smp l[i] with
      | true =>
        simp only [vcV, vcD, Int.reduceEq, Int.reduceNe, Int.reduceLT, Int.reduceLE, Nat.reduceEqDiff, Nat.reduceAdd, reduceIte, reduceCtorEq, Nat.reduceLT, Nat.reduceLeDiff, eq_self, vcP2, Nat.reduceShiftRight, Nat.reduceMod]
        refine ⟨by unfold I64; omega, ⟨i + 1, h', ?_⟩, by simp only; omega, ?_⟩
        · rw [List.take_succ_eq_append_getElem h']
          intro x hx
          rcases List.mem_append.1 hx with e | e
          · exact hn x e
          · rw [List.mem_singleton.1 e]; exact hw
        · refine weakX [] (of_decide_eq_true rfl) (of_decide_eq_true rfl) ?_
          (simp only [vcW, vcV, vcD, Int.reduceEq, Int.reduceNe, Int.reduceLT, Int.reduceLE, Nat.reduceEqDiff, Nat.reduceAdd, reduceIte, reduceCtorEq, Nat.reduceLT, Nat.reduceLeDiff, eq_self, vcP2, Nat.reduceShiftRight, Nat.reduceMod])
          (repeat' first | exact trivial | (with_reducible exact RnB.fxB (ints_fxB _)) | (with_reducible rfl) | (with_reducible refine And.intro ?_ ?_) | (with_reducible refine RnB.bb ?_; simp only [vcW, vcV, vcD, Int.reduceEq, Int.reduceNe, Int.reduceLT, Int.reduceLE, Nat.reduceEqDiff, Nat.reduceAdd, reduceIte, reduceCtorEq, Nat.reduceLT, Nat.reduceLeDiff, eq_self, vcP2, Nat.reduceShiftRight, Nat.reduceMod]) | (with_reducible refine RnB.nb ?_; simp only [vcW, vcV, vcD, Int.reduceEq, Int.reduceNe, Int.reduceLT, Int.reduceLE, Nat.reduceEqDiff, Nat.reduceAdd, reduceIte, reduceCtorEq, Nat.reduceLT, Nat.reduceLeDiff, eq_self, vcP2, Nat.reduceShiftRight, Nat.reduceMod]) | (with_reducible refine RnB.ii ?_) | (with_reducible refine RnB.app ?_) | (with_reducible refine RnB.fxB ?_; simp only [vcW, vcV, vcD, Int.reduceEq, Int.reduceNe, Int.reduceLT, Int.reduceLE, Nat.reduceEqDiff, Nat.reduceAdd, reduceIte, reduceCtorEq, Nat.reduceLT, Nat.reduceLeDiff, eq_self, vcP2, Nat.reduceShiftRight, Nat.reduceMod]) | omega)
      | false =>
        have he : smE l = 2 := by
          unfold smE
          rw [if_neg h0, if_neg h1, if_neg]
          intro hall
          have := List.all_eq_true.1 hall _ (List.getElem_mem h')
          rw [hw] at this; cases this
        have hs : l.findIdx? (fun n => !smp n) = some i := by
          rw [List.findIdx?_eq_some_iff_getElem]
          refine ⟨h', by rw [hw]; rfl, fun j hj => ?_⟩
          have := hn l[j] (by rw [List.mem_take_iff_getElem]; exact ⟨j, by omega, rfl⟩)
          simp [this]
        have hi : smI l = i := by unfold smI idxOf; rw [if_pos he, hs]
        simp only [he, hi, vcV, vcD, Int.reduceEq, Int.reduceNe, Int.reduceLT, Int.reduceLE, Nat.reduceEqDiff, Nat.reduceAdd, reduceIte, reduceCtorEq, Nat.reduceLT, Nat.reduceLeDiff, eq_self, vcP2, Nat.reduceShiftRight, Nat.reduceMod]
    · have h2 : ¬ (i : Int) < l.length := by omega
      have hin : i = l.length := by omega
      subst hin
      rw [List.take_length] at hn
      have he : smE l = 0 := by unfold smE; rw [if_neg h0, if_neg h1, if_pos (List.all_eq_true.2 hn)]
      have hi : smI l = 0 := by unfold smI; rw [if_neg (by rw [he]; decide)]
      simp only [h2, he, hi, vcV, vcD, Int.reduceEq, Int.reduceNe, Int.reduceLT, Int.reduceLE, Nat.reduceEqDiff, Nat.reduceAdd, reduceIte, reduceCtorEq, Nat.reduceLT, Nat.reduceLeDiff, eq_self, vcP2, Nat.reduceShiftRight, Nat.reduceMod]
theorem SamplesErr_s (l : List Int) : Sound Tryz.prog 27 [.sl (ints l)] (.int .i64 (smE l)) := by
  refine sound_W f_ref02_SamplesErr (Nat.le_of_ble_eq_true rfl) ?_
  simp only [c_ref02_SamplesErr, vcV, vcD, Int.reduceEq, Int.reduceNe, Int.reduceLT, Int.reduceLE, Nat.reduceEqDiff, Nat.reduceAdd, reduceIte, reduceCtorEq, Nat.reduceLT, Nat.reduceLeDiff, eq_self, vcP2, Nat.reduceShiftRight, Nat.reduceMod]
  refine callS_of (CheckSamples_s l) ?_
  simp only [vcV, vcD, Int.reduceEq, Int.reduceNe, Int.reduceLT, Int.reduceLE, Nat.reduceEqDiff, Nat.reduceAdd, reduceIte, reduceCtorEq, Nat.reduceLT, Nat.reduceLeDiff, eq_self, vcP2, Nat.reduceShiftRight, Nat.reduceMod]
end Go.Proofs.YtgmpcbpmnimkoaaGreatDoor

/- Contracts: dead times and afterpulses. By an AI agent; nothing here is trusted. -/
namespace Go.Proofs.YtgmpcbpmnimkoaaGreatDoor
open Go.Av

theorem ints_imm (l : List Int) (n : Nat) : ((ints l).take n).all imm = true := List.all_eq_true.2 fun x hx => by
  obtain ⟨y, _, rfl⟩ := List.mem_map.1 (List.mem_of_mem_take hx)
  rfl
end Go.Proofs.YtgmpcbpmnimkoaaGreatDoor

/- Contracts: hits, joined ranges. By an AI agent; nothing here is trusted. -/
namespace Go.Proofs.YtgmpcbpmnimkoaaGreatDoor
open Go.Av

theorem RnB.an {s s' : Store} {f : Nat → Option Nat} {ty sz : Nat} : RnB s s' f ⟨ty, sz, [.agg [.nils]]⟩ ⟨ty, sz, [.agg [.sl []]]⟩ := by
  refine ⟨rfl, rfl, rfl, fun i y y' h1 h2 => ?_⟩
  cases i with
  | zero =>
    simp at h1 h2
    subst h1; subst h2
    refine ⟨rfl, fun c hcc => ?_, fun o c c' h3 h4 => ?_⟩
    · simp [cellsOf] at hcc; subst hcc; rfl
    · cases o with
      | zero => simp [cellsOf] at h3 h4; subst h3; subst h4; exact .nil0
      | succ o => simp [cellsOf] at h3
  | succ i => simp at h1
end Go.Proofs.YtgmpcbpmnimkoaaGreatDoor

/- Contracts of functions without a body: bits.Add64, bits.Sub64. By an AI agent; nothing here is trusted. -/
namespace Go.Proofs.YtgmpcbpmnimkoaaGreatDoor
open Go.Av
open Go.RowKit (Below)

theorem args3 {h : Array Obj} {ok : Nat → Prop} {cargs : Array Value} {a b c : Int} (hlen : cargs.size = 3) (hargs : ∀ (i : Nat) (x : AV), [AV.int .u64 a, .int .u64 b, .int .u64 c][i]? = some x → VR h ok noPlace noStore x (cargs.getD i undef)) :
    cargs = #[.int .u64 a, .int .u64 b, .int .u64 c] := by
  have h0 := hargs 0 _ rfl
  have h1 := hargs 1 _ rfl
  have h2 := hargs 2 _ rfl
  have e0 : cargs.getD 0 undef = .int .u64 a := by generalize cargs.getD 0 undef = v at *; cases h0; rfl
  have e1 : cargs.getD 1 undef = .int .u64 b := by generalize cargs.getD 1 undef = v at *; cases h1; rfl
  have e2 : cargs.getD 2 undef = .int .u64 c := by generalize cargs.getD 2 undef = v at *; cases h2; rfl
  apply Array.ext
  · simpa using hlen
  · intro i hi1 hi2
    simp at hi2
    have : i = 0 ∨ i = 1 ∨ i = 2 := by omega
    rcases this with rfl | rfl | rfl
    · simpa [Array.getD, hi1] using e0
    · simpa [Array.getD, hi1] using e1
    · simpa [Array.getD, hi1] using e2
theorem tup2 {h : Array Obj} {ok : Nat → Prop} (a b : Int) : VR h ok noPlace noStore (.tup [.int .u64 a, .int .u64 b]) (.tuple #[.int .u64 a, .int .u64 b]) := by
  refine .tup _ _ rfl fun i c hc => ?_
  match i with
  | 0 => simp at hc; subst hc; exact .int _ _
  | 1 => simp at hc; subst hc; exact .int _ _
  | i + 2 => simp at hc
theorem Add64_s (x y c : Int) (hx : 0 ≤ x) (hy : 0 ≤ y) (hc : 0 ≤ c ∧ c ≤ 1) : Sound Tryz.prog 191 [.int .u64 x, .int .u64 y, .int .u64 c]
    (.tup [.int .u64 ((x + y + c) % 18446744073709551616), .int .u64 ((x + y + c) / 18446744073709551616)]) := by
  intro w ok cargs hok _ hlen hargs
  rw [args3 (by simpa using hlen) hargs]
  refine .inl ⟨_, w, ?_, Below.refl _ _, tup2 _ _⟩
  rw [run_callFunc_extern Tryz.func191 (by kernel_rfl) (by kernel_rfl) (by kernel_rfl) (e := add64Entry) (by kernel_rfl), run_add64 x y c hx hy hc.1 hc.2]
  rfl
theorem Sub64_s (x y b : Nat) (hb : b ≤ 1) : Sound Tryz.prog 192 [.int .u64 (x : Int), .int .u64 (y : Int), .int .u64 (b : Int)]
    (.tup [.int .u64 (((x + 18446744073709551616 - y - b) % 18446744073709551616 : Nat) : Int), .int .u64 ((if x < y + b then 1 else 0 : Nat) : Int)]) := by
  intro w ok cargs hok _ hlen hargs
  rw [args3 (by simpa using hlen) hargs]
  refine .inl ⟨_, w, ?_, Below.refl _ _, tup2 _ _⟩
  rw [run_callFunc_extern Tryz.func192 (by kernel_rfl) (by kernel_rfl) (by kernel_rfl) (e := sub64Entry) (by kernel_rfl), run_sub64 x y b hb]
  rfl
end Go.Proofs.YtgmpcbpmnimkoaaGreatDoor

/- Numbers of a sign and 128 bits. By an AI agent; nothing here is trusted. -/
namespace Go.Proofs.YtgmpcbpmnimkoaaGreatDoor
open Go.Av

def wdA (b : Bool) (n : Nat) : AV := .agg [.bool b, .int .u64 ((n / 18446744073709551616 : Nat) : Int), .int .u64 ((n % 18446744073709551616 : Nat) : Int)]
def W128 (n : Nat) : Prop := n < 340282366920938463463374607431768211456
theorem u64_mod (n : Int) : IntKind.u64.wrap n = n % 18446744073709551616 := by simp [IntKind.wrap, IntKind.bits, IntKind.signed]
theorem u64_wrap {n : Int} (h : 0 ≤ n ∧ n < 18446744073709551616) : IntKind.u64.wrap n = n := by
  rw [u64_mod]; omega
theorem pwideOf_s (n : Int) (hn : S63 n) : Sound Tryz.prog 107 [.int .i64 n] (wdA (decide (n < 0)) n.natAbs) := by
  refine sound_W f_pulse_wideOf (Nat.le_of_ble_eq_true rfl) ?_
  unfold S63 at hn
  have h1 : max n (-n) = (n.natAbs : Int) := by omega
  have h2 : IntKind.u64.wrap (n.natAbs : Int) = (n.natAbs : Int) := u64_wrap (by omega)
  have h3 : n.natAbs / 18446744073709551616 = 0 := Nat.div_eq_of_lt (by omega)
  have h4 : n.natAbs % 18446744073709551616 = n.natAbs := Nat.mod_eq_of_lt (by omega)
  unfold wdA
  rw [h3, h4]
  simp only [c_pulse_wideOf, max_neg, vcV, vcD, Int.reduceEq, Int.reduceNe, Int.reduceLT, Int.reduceLE, Nat.reduceEqDiff, Nat.reduceAdd, reduceIte, reduceCtorEq, Nat.reduceLT, Nat.reduceLeDiff, eq_self, vcP2, Nat.reduceShiftRight, Nat.reduceMod]
  refine ⟨by unfold I64; omega, ?_⟩
  rw [h2]
  rfl
theorem isLess_s (a b : Bool) (m n : Nat) : Sound Tryz.prog 131 [wdA a m, wdA b n] (.bool (decide (m < n))) := by
  refine sound_W f_pulse_wide_isLess (Nat.le_of_ble_eq_true rfl) ?_
  unfold wdA
  have em := Nat.div_add_mod m 18446744073709551616
  have en := Nat.div_add_mod n 18446744073709551616
  have lm := Nat.mod_lt m (show 18446744073709551616 > 0 by omega)
  have ln := Nat.mod_lt n (show 18446744073709551616 > 0 by omega)
  generalize m / 18446744073709551616 = mh at *
  generalize m % 18446744073709551616 = ml at *
  generalize n / 18446744073709551616 = nh at *
  generalize n % 18446744073709551616 = nl at *
  by_cases h1 : (mh : Int) < nh
  · have h : m < n := by omega
    simp only [c_pulse_wide_isLess, h1, h, vcV, vcD, Int.reduceEq, Int.reduceNe, Int.reduceLT, Int.reduceLE, Nat.reduceEqDiff, Nat.reduceAdd, reduceIte, reduceCtorEq, Nat.reduceLT, Nat.reduceLeDiff, eq_self, vcP2, Nat.reduceShiftRight, Nat.reduceMod]
  · by_cases h2 : (mh : Int) = nh
    · have h1' : ¬ (nh : Int) < nh := by omega
      by_cases h3 : (ml : Int) < nl
      · have h : m < n := by omega
        simp only [c_pulse_wide_isLess, h2, h1', h3, h, vcV, vcD, Int.reduceEq, Int.reduceNe, Int.reduceLT, Int.reduceLE, Nat.reduceEqDiff, Nat.reduceAdd, reduceIte, reduceCtorEq, Nat.reduceLT, Nat.reduceLeDiff, eq_self, vcP2, Nat.reduceShiftRight, Nat.reduceMod]
      · have h : ¬ m < n := by omega
        simp only [c_pulse_wide_isLess, h2, h1', h3, h, vcV, vcD, Int.reduceEq, Int.reduceNe, Int.reduceLT, Int.reduceLE, Nat.reduceEqDiff, Nat.reduceAdd, reduceIte, reduceCtorEq, Nat.reduceLT, Nat.reduceLeDiff, eq_self, vcP2, Nat.reduceShiftRight, Nat.reduceMod]
    · have h : ¬ m < n := by omega
      simp only [c_pulse_wide_isLess, h1, h2, h, vcV, vcD, Int.reduceEq, Int.reduceNe, Int.reduceLT, Int.reduceLE, Nat.reduceEqDiff, Nat.reduceAdd, reduceIte, reduceCtorEq, Nat.reduceLT, Nat.reduceLeDiff, eq_self, vcP2, Nat.reduceShiftRight, Nat.reduceMod]
end Go.Proofs.YtgmpcbpmnimkoaaGreatDoor

/- Products and sums of numbers of 128 bits. By an AI agent; nothing here is trusted. -/
namespace Go.Proofs.YtgmpcbpmnimkoaaGreatDoor
open Go.Av

theorem and32 (x : Nat) (h : x < 18446744073709551616) : IntKind.u64.wrap ((((BitVec.ofInt IntKind.u64.bits (x : Int)) &&& (BitVec.ofInt IntKind.u64.bits 4294967295)).toNat : Nat) : Int) = ((x % 4294967296 : Nat) : Int) := by
  have h1 : ((BitVec.ofInt IntKind.u64.bits (x : Int)) &&& (BitVec.ofInt IntKind.u64.bits 4294967295)).toNat = x % 4294967296 := by
    rw [BitVec.toNat_and]
    have e1 : (BitVec.ofInt IntKind.u64.bits (x : Int)).toNat = x := by
      rw [BitVec.toNat_ofInt]
      show ((x : Int) % ((2 ^ 64 : Nat) : Int)).toNat = x
      omega
    have e2 : (BitVec.ofInt IntKind.u64.bits 4294967295).toNat = 2 ^ 32 - 1 := by decide
    rw [e1, e2, Nat.and_two_pow_sub_one_eq_mod]
  rw [h1, u64_mod]
  omega
theorem shr32 (x : Nat) : (x : Int).fdiv (2 ^ min (Int.toNat 32) IntKind.u64.bits) = ((x / 4294967296 : Nat) : Int) := by
  show (x : Int).fdiv 4294967296 = _
  rw [Int.fdiv_eq_ediv_of_nonneg _ (by omega)]
  omega
theorem Mul64_s (x y : Nat) (hx : x < 18446744073709551616) (hy : y < 18446744073709551616) : Sound Tryz.prog 193 [.int .u64 x, .int .u64 y] (.tup [.int .u64 ((x * y / 18446744073709551616 : Nat) : Int), .int .u64 ((x * y % 18446744073709551616 : Nat) : Int)]) := by
  refine sound_W f_math_bits_Mul64 (Nat.le_of_ble_eq_true rfl) ?_
  obtain ⟨m1, m2, m3, m4⟩ := Go.Lib.mul64_hi x y hx hy
  have ha := Go.Lib.half_mul_le (a := x / 4294967296) (b := y / 4294967296) (by omega) (by omega)
  have hb := Go.Lib.half_mul_le (a := x / 4294967296) (b := y % 4294967296) (by omega) (by omega)
  have hc := Go.Lib.half_mul_le (a := x % 4294967296) (b := y / 4294967296) (by omega) (by omega)
  have hq : x * y / 18446744073709551616 < 18446744073709551616 := Nat.div_lt_of_lt_mul (Nat.mul_lt_mul'' hx hy)
  have wm : ∀ a b : Nat, a * b < 18446744073709551616 → IntKind.u64.wrap ((a : Int) * b) = ((a * b : Nat) : Int) := fun a b h => by rw [← Int.natCast_mul]; exact u64_wrap (by omega)
  have wa : ∀ a b : Nat, a + b < 18446744073709551616 → IntKind.u64.wrap ((a : Int) + b) = ((a + b : Nat) : Int) := fun a b h => by rw [← Int.natCast_add]; exact u64_wrap (by omega)
  have w9 : IntKind.u64.wrap ((x : Int) * y) = ((x * y % 18446744073709551616 : Nat) : Int) := by rw [u64_mod, ← Int.natCast_mul]; omega
  have a1 := and32 x hx
  have a2 := and32 y hy
  have s1 := shr32 x
  have s2 := shr32 y
  rw [← m4] at hq ⊢
  generalize x % 4294967296 = x0 at *
  generalize x / 4294967296 = x1 at *
  generalize y % 4294967296 = y0 at *
  generalize y / 4294967296 = y1 at *
  have w1 := wm x0 y0 m1
  have w2 := wm x1 y0 (by omega)
  have s3 := shr32 (x0 * y0)
  have w3 := wa (x1 * y0) (x0 * y0 / 4294967296) m2
  have a3 := and32 _ m2
  have s4 := shr32 (x1 * y0 + x0 * y0 / 4294967296)
  generalize x1 * y0 + x0 * y0 / 4294967296 = u at *
  have w4 := wm x0 y1 (by omega)
  have w5 := wa (u % 4294967296) (x0 * y1) m3
  have s5 := shr32 (u % 4294967296 + x0 * y1)
  generalize u % 4294967296 + x0 * y1 = v at *
  have w6 := wm x1 y1 (by omega)
  have w7 := wa (x1 * y1) (u / 4294967296) (by omega)
  have w8 := wa (x1 * y1 + u / 4294967296) (v / 4294967296) (by omega)
  simp only [c_math_bits_Mul64, a1, a2, s1, s2, w1, w2, s3, w3, a3, s4, w4, w5, s5, w6, w7, w8, w9, vcV, vcD, Int.reduceEq, Int.reduceNe, Int.reduceLT, Int.reduceLE, Nat.reduceEqDiff, Nat.reduceAdd, reduceIte, reduceCtorEq, Nat.reduceLT, Nat.reduceLeDiff, eq_self, vcP2, Nat.reduceShiftRight, Nat.reduceMod]
theorem times_s (b : Bool) (m : Nat) (k : Int) (hk : S63 k) (hb : W128 (m * k.natAbs)) (hm : W128 m) : Sound Tryz.prog 108 [wdA b m, .int .i64 k] (wdA (b != decide (k < 0)) (m * k.natAbs)) := by
  refine sound_W f_pulse_wide_times (Nat.le_of_ble_eq_true rfl) ?_
  unfold S63 at hk
  unfold W128 at hb hm
  have h1 : max k (-k) = (k.natAbs : Int) := by omega
  have h2 : IntKind.u64.wrap (k.natAbs : Int) = (k.natAbs : Int) := u64_wrap (by omega)
  have hM := Mul64_s (m % 18446744073709551616) k.natAbs (Nat.mod_lt _ (by omega)) (by omega)
  have em := Nat.div_add_mod m 18446744073709551616
  have hlt := Nat.mod_lt m (show 18446744073709551616 > 0 by omega)
  unfold wdA
  generalize m / 18446744073709551616 = mh at *
  generalize m % 18446744073709551616 = ml at *
  generalize hs : k.natAbs = s at *
  have e1 : m * s = 18446744073709551616 * (mh * s) + ml * s := by rw [← em, Nat.add_mul, Nat.mul_assoc]
  have q1 : m * s / 18446744073709551616 = ml * s / 18446744073709551616 + mh * s := by rw [e1]; omega
  have q2 : m * s % 18446744073709551616 = ml * s % 18446744073709551616 := by rw [e1]; omega
  rw [q1, q2]
  have w1 : IntKind.u64.wrap ((mh : Int) * s) = ((mh * s : Nat) : Int) := by rw [← Int.natCast_mul]; exact u64_wrap (by omega)
  have w2 : IntKind.u64.wrap (((ml * s / 18446744073709551616 : Nat) : Int) + ((mh * s : Nat) : Int)) = ((ml * s / 18446744073709551616 + mh * s : Nat) : Int) := by rw [← Int.natCast_add]; exact u64_wrap (by omega)
  simp only [c_pulse_wide_times, max_neg, vcV, vcD, Int.reduceEq, Int.reduceNe, Int.reduceLT, Int.reduceLE, Nat.reduceEqDiff, Nat.reduceAdd, reduceIte, reduceCtorEq, Nat.reduceLT, Nat.reduceLeDiff, eq_self, vcP2, Nat.reduceShiftRight, Nat.reduceMod]
  refine ⟨by unfold I64; omega, ?_⟩
  simp only [hs, h2]
  refine callS_of hM ?_
  simp only [hs, h2, w1, w2, vcV, vcD, Int.reduceEq, Int.reduceNe, Int.reduceLT, Int.reduceLE, Nat.reduceEqDiff, Nat.reduceAdd, reduceIte, reduceCtorEq, Nat.reduceLT, Nat.reduceLeDiff, eq_self, vcP2, Nat.reduceShiftRight, Nat.reduceMod]
  cases b <;> cases decide (k < 0) <;> rfl
theorem plus_same_s (b : Bool) (m n : Nat) (h : W128 (m + n)) : Sound Tryz.prog 106 [wdA b m, wdA b n] (wdA b (m + n)) := by
  refine sound_W f_pulse_wide_plus (Nat.le_of_ble_eq_true rfl) ?_
  unfold W128 at h
  have em := Nat.div_add_mod m 18446744073709551616
  have en := Nat.div_add_mod n 18446744073709551616
  have lm := Nat.mod_lt m (show 18446744073709551616 > 0 by omega)
  have ln := Nat.mod_lt n (show 18446744073709551616 > 0 by omega)
  have hA := Add64_s ((m % 18446744073709551616 : Nat) : Int) ((n % 18446744073709551616 : Nat) : Int) 0 (by omega) (by omega) (by omega)
  unfold wdA
  have q1 : (m + n) / 18446744073709551616 = m / 18446744073709551616 + n / 18446744073709551616 + (m % 18446744073709551616 + n % 18446744073709551616) / 18446744073709551616 := by omega
  have q2 : (m + n) % 18446744073709551616 = (m % 18446744073709551616 + n % 18446744073709551616) % 18446744073709551616 := by omega
  rw [q1, q2]
  generalize m / 18446744073709551616 = mh at *
  generalize m % 18446744073709551616 = ml at *
  generalize n / 18446744073709551616 = nh at *
  generalize n % 18446744073709551616 = nl at *
  have e1 : ((ml : Int) + nl + 0) / 18446744073709551616 = (((ml + nl) / 18446744073709551616 : Nat) : Int) := by omega
  have e2 : ((ml : Int) + nl + 0) % 18446744073709551616 = (((ml + nl) % 18446744073709551616 : Nat) : Int) := by omega
  rw [e1, e2] at hA
  have w1 : IntKind.u64.wrap ((mh : Int) + nh) = ((mh + nh : Nat) : Int) := by rw [← Int.natCast_add]; exact u64_wrap (by omega)
  have w2 : IntKind.u64.wrap (((mh + nh : Nat) : Int) + (((ml + nl) / 18446744073709551616 : Nat) : Int)) = ((mh + nh + (ml + nl) / 18446744073709551616 : Nat) : Int) := by rw [← Int.natCast_add]; exact u64_wrap (by omega)
  simp only [c_pulse_wide_plus, vcV, vcD, Int.reduceEq, Int.reduceNe, Int.reduceLT, Int.reduceLE, Nat.reduceEqDiff, Nat.reduceAdd, reduceIte, reduceCtorEq, Nat.reduceLT, Nat.reduceLeDiff, eq_self, vcP2, Nat.reduceShiftRight, Nat.reduceMod]
  refine callS_of hA ?_
  simp only [w1, w2, vcV, vcD, Int.reduceEq, Int.reduceNe, Int.reduceLT, Int.reduceLE, Nat.reduceEqDiff, Nat.reduceAdd, reduceIte, reduceCtorEq, Nat.reduceLT, Nat.reduceLeDiff, eq_self, vcP2, Nat.reduceShiftRight, Nat.reduceMod]
end Go.Proofs.YtgmpcbpmnimkoaaGreatDoor

/- The marked code of law functions; printed by a program. By an AI agent; nothing here is trusted. -/
namespace Go.Proofs.YtgmpcbpmnimkoaaGreatDoor
open Go.Av
def cl_pulse_fittedErr : ML := (.seq (.reg 6 [⟨none, (some 2), (.box 24 2 (.t 0))⟩, ⟨none, (some 4), (.mv (.c (.int .i64 0)))⟩] false []) (.seq (.regW 16 [⟨none, (some 5), (.load (some 2) (.t 2))⟩, ⟨none, (some 6), (.call 118 [(.t 5)])⟩, ⟨none, (some 7), (.mv (.t 1))⟩, ⟨none, (some 8), (.call 151 [(.t 7)])⟩, ⟨none, (some 9), (.mv (.t 1))⟩, ⟨none, (some 10), (.len false (.t 9))⟩, ⟨none, (some 11), (.fieldAddr (.t 2) 1)⟩, ⟨none, (some 12), (.load none (.t 11))⟩, ⟨none, (some 13), (.fieldAddr (.t 2) 0)⟩, ⟨none, (some 14), (.load none (.t 13))⟩, ⟨none, (some 15), (.len false (.t 14))⟩, ⟨none, (some 16), (.bin .add (.t 12) (.t 15))⟩, ⟨none, (some 17), (.bin .sub (.t 16) (.c (.int .i64 1)))⟩, ⟨none, (some 18), (.bin .eql (.t 10) (.t 17))⟩, ⟨none, (some 19), (.call 119 [(.t 18), (.c (.int .i64 13))])⟩, ⟨none, (some 20), (.buildSlice 30 1 3 (.int .i64 0) [(0, (.t 6)), (1, (.t 8)), (2, (.t 19))])⟩, ⟨none, (some 21), (.call 117 [(.t 20)])⟩, ⟨none, (some 4), (.mv (.t 21))⟩] true []) .ret))
theorem e_pulse_fittedErr : cl_pulse_fittedErr.er = c_pulse_fittedErr := rfl
end Go.Proofs.YtgmpcbpmnimkoaaGreatDoor

/- Templates: their errors, and those of samples for them. By an AI agent; nothing here is trusted. -/
namespace Go.Proofs.YtgmpcbpmnimkoaaGreatDoor
open Go.Av

def tplA (items : List Int) (shifts : Int) : AV := .agg [.sl (ints items), .int .i64 shifts]
def itm (n : Int) : Bool := decide (-100 ≤ n ∧ n ≤ 100)
def teE (items : List Int) (shifts : Int) : Int := if items.length = 0 then 10 else if 6 < items.length then 8 else if items.all itm = false then 2 else if items.all (fun n => decide (n = 0)) then 11 else if 1 ≤ shifts ∧ shifts ≤ 5 then 0 else 2
theorem teE_ok {items : List Int} {shifts : Int} (h : teE items shifts = 0) : (1 ≤ items.length ∧ items.length ≤ 6) ∧ (∀ x ∈ items, -100 ≤ x ∧ x ≤ 100) ∧ (∃ x ∈ items, x ≠ 0) ∧ (1 ≤ shifts ∧ shifts ≤ 5) := by
  unfold teE at h
  split at h
  · cases h
  · split at h
    · cases h
    · split at h
      · cases h
      · split at h
        · cases h
        · split at h
          · rename_i h1 h2 h3 h4 h5
            refine ⟨by omega, fun x hx => ?_, ?_, h5⟩
            · have := List.all_eq_true.1 (by simpa using h3) x hx
              simpa [itm] using this
            · have h4' : (items.all fun n => decide (n = 0)) = false := by simpa using h4
              rw [List.all_eq_false] at h4'
              obtain ⟨x, hx, hx2⟩ := h4'
              exact ⟨x, hx, by simpa using hx2⟩
          · cases h
theorem first5_s (a b c d e : Int) : Sound Tryz.prog 117 [.sl [.int .i64 a, .int .i64 b, .int .i64 c, .int .i64 d, .int .i64 e]] (.int .i64 (if a ≠ 0 then a else if b ≠ 0 then b else if c ≠ 0 then c else if d ≠ 0 then d else e)) := by
  have h := first_s [a, b, c, d, e] (by simp)
  have hv : firstErr [a, b, c, d, e] = if a ≠ 0 then a else if b ≠ 0 then b else if c ≠ 0 then c else if d ≠ 0 then d else e := by
    unfold firstErr
    simp only [List.find?_cons, List.find?_nil]
    by_cases h1 : a = 0 <;> by_cases h2 : b = 0 <;> by_cases h3 : c = 0 <;> by_cases h4 : d = 0 <;> by_cases h5 : e = 0 <;> simp [h1, h2, h3, h4, h5]
  rw [hv] at h
  exact h
theorem templateErr_1_s (n : Int) : Sound Tryz.prog 198 [.int .i64 n] (.bool (!itm n)) := by
  refine sound_W f_pulse_templateErr_1 (Nat.le_of_ble_eq_true rfl) ?_
  simp only [c_pulse_templateErr_1, vcV, vcD, Int.reduceEq, Int.reduceNe, Int.reduceLT, Int.reduceLE, Nat.reduceEqDiff, Nat.reduceAdd, reduceIte, reduceCtorEq, Nat.reduceLT, Nat.reduceLeDiff, eq_self, vcP2, Nat.reduceShiftRight, Nat.reduceMod]
  refine callS_of (isSized_s _ _ (by unfold S63; omega)) ?_
  simp only [vcV, vcD, Int.reduceEq, Int.reduceNe, Int.reduceLT, Int.reduceLE, Nat.reduceEqDiff, Nat.reduceAdd, reduceIte, reduceCtorEq, Nat.reduceLT, Nat.reduceLeDiff, eq_self, vcP2, Nat.reduceShiftRight, Nat.reduceMod]
  rfl
theorem templateErr_2_s (n : Int) : Sound Tryz.prog 200 [.int .i64 n] (.bool (!decide (n = 0))) := by
  refine sound_W f_pulse_templateErr_2 (Nat.le_of_ble_eq_true rfl) ?_
  simp only [c_pulse_templateErr_2, vcV, vcD, Int.reduceEq, Int.reduceNe, Int.reduceLT, Int.reduceLE, Nat.reduceEqDiff, Nat.reduceAdd, reduceIte, reduceCtorEq, Nat.reduceLT, Nat.reduceLeDiff, eq_self, vcP2, Nat.reduceShiftRight, Nat.reduceMod]
theorem templateErr_s (items : List Int) (shifts : Int) (hl : items.length < 4000000000000000000) : Sound Tryz.prog 118 [tplA items shifts] (.int .i64 (teE items shifts)) := by
  refine sound_W f_pulse_templateErr (Nat.le_of_ble_eq_true rfl) ?_
  have h1 := contFunc_int_s items 198 [] (fun n => !itm n) hl (by simp) (fun x _ => templateErr_1_s x)
  have h2 := contFunc_int_s items 200 [] (fun n => !decide (n = 0)) hl (by simp) (fun x _ => templateErr_2_s x)
  rw [← List.not_all_eq_any_not] at h1 h2
  simp only [c_pulse_templateErr, tplA, vcV, vcD, Int.reduceEq, Int.reduceNe, Int.reduceLT, Int.reduceLE, Nat.reduceEqDiff, Nat.reduceAdd, reduceIte, reduceCtorEq, Nat.reduceLT, Nat.reduceLeDiff, eq_self, vcP2, Nat.reduceShiftRight, Nat.reduceMod]
  refine callS_of h1 ?_
  simp only [vcV, vcD, Int.reduceEq, Int.reduceNe, Int.reduceLT, Int.reduceLE, Nat.reduceEqDiff, Nat.reduceAdd, reduceIte, reduceCtorEq, Nat.reduceLT, Nat.reduceLeDiff, eq_self, vcP2, Nat.reduceShiftRight, Nat.reduceMod]
  refine callS_of h2 ?_
  simp only [vcV, vcD, Int.reduceEq, Int.reduceNe, Int.reduceLT, Int.reduceLE, Nat.reduceEqDiff, Nat.reduceAdd, reduceIte, reduceCtorEq, Nat.reduceLT, Nat.reduceLeDiff, eq_self, vcP2, Nat.reduceShiftRight, Nat.reduceMod]
  refine callS_of (unless_s _ _) ?_
  simp only [vcV, vcD, Int.reduceEq, Int.reduceNe, Int.reduceLT, Int.reduceLE, Nat.reduceEqDiff, Nat.reduceAdd, reduceIte, reduceCtorEq, Nat.reduceLT, Nat.reduceLeDiff, eq_self, vcP2, Nat.reduceShiftRight, Nat.reduceMod]
  refine callS_of (unless_s _ _) ?_
  simp only [vcV, vcD, Int.reduceEq, Int.reduceNe, Int.reduceLT, Int.reduceLE, Nat.reduceEqDiff, Nat.reduceAdd, reduceIte, reduceCtorEq, Nat.reduceLT, Nat.reduceLeDiff, eq_self, vcP2, Nat.reduceShiftRight, Nat.reduceMod]
  refine callS_of (unless_s _ _) ?_
  simp only [vcV, vcD, Int.reduceEq, Int.reduceNe, Int.reduceLT, Int.reduceLE, Nat.reduceEqDiff, Nat.reduceAdd, reduceIte, reduceCtorEq, Nat.reduceLT, Nat.reduceLeDiff, eq_self, vcP2, Nat.reduceShiftRight, Nat.reduceMod]
  refine callS_of (unless_s _ _) ?_
  simp only [vcV, vcD, Int.reduceEq, Int.reduceNe, Int.reduceLT, Int.reduceLE, Nat.reduceEqDiff, Nat.reduceAdd, reduceIte, reduceCtorEq, Nat.reduceLT, Nat.reduceLeDiff, eq_self, vcP2, Nat.reduceShiftRight, Nat.reduceMod]
  refine callS_of (within_s _ _ _) ?_
  simp only [vcV, vcD, Int.reduceEq, Int.reduceNe, Int.reduceLT, Int.reduceLE, Nat.reduceEqDiff, Nat.reduceAdd, reduceIte, reduceCtorEq, Nat.reduceLT, Nat.reduceLeDiff, eq_self, vcP2, Nat.reduceShiftRight, Nat.reduceMod]
  refine callS_of (unless_s _ _) ?_
  simp only [vcV, vcD, Int.reduceEq, Int.reduceNe, Int.reduceLT, Int.reduceLE, Nat.reduceEqDiff, Nat.reduceAdd, reduceIte, reduceCtorEq, Nat.reduceLT, Nat.reduceLeDiff, eq_self, vcP2, Nat.reduceShiftRight, Nat.reduceMod]
  refine callS_of (first5_s _ _ _ _ _) ?_
  simp only [vcV, vcD, Int.reduceEq, Int.reduceNe, Int.reduceLT, Int.reduceLE, Nat.reduceEqDiff, Nat.reduceAdd, reduceIte, reduceCtorEq, Nat.reduceLT, Nat.reduceLeDiff, eq_self, vcP2, Nat.reduceShiftRight, Nat.reduceMod]
  refine ⟨by intro _ k hk; simp [refsL, refs, upd] at hk; subst hk; simp [upd], ?_⟩
  congr 1
  unfold teE
  by_cases e1 : items.length = 0
  · have e1' : ¬ (0 : Int) < items.length := by omega
    simp [e1, e1']
  · have e1' : (0 : Int) < items.length := by omega
    by_cases e2 : 6 < items.length
    · have e2' : ¬ (items.length : Int) ≤ 6 := by omega
      simp [e1, e1', e2, e2']
    · have e2' : (items.length : Int) ≤ 6 := by omega
      cases e3 : items.all itm <;> cases e4 : (items.all fun n => decide (n = 0)) <;> by_cases e5 : 1 ≤ shifts ∧ shifts ≤ 5 <;> simp [e1, e1', e2, e2', e3, e4, e5]
end Go.Proofs.YtgmpcbpmnimkoaaGreatDoor

/- Samples for a template: their error, with a sum that may wrap. By an AI agent; nothing here is trusted. -/
namespace Go.Proofs.YtgmpcbpmnimkoaaGreatDoor
open Go.Av

def fdE (items : List Int) (shifts : Int) (l : List Int) : Int := if teE items shifts ≠ 0 then teE items shifts else if smE l ≠ 0 then smE l else if (l.length : Int) = shifts + items.length - 1 then 0 else 13
theorem i64_wrap {n : Int} (h : -9223372036854775808 ≤ n ∧ n ≤ 9223372036854775807) : IntKind.i64.wrap n = n := wrap_i64 (by unfold I64; omega)
theorem fittedErr_s (items : List Int) (shifts : Int) (l : List Int) (h1 : items.length < 4000000000000000000) (h2 : l.length < 4000000000000000000) : Sound Tryz.prog 91 [tplA items shifts, .sl (ints l)] (.int .i64 (fdE items shifts l)) := by
  refine sound_WL f_pulse_fittedErr e_pulse_fittedErr (Nat.le_of_ble_eq_true rfl) ?_
  have hT := templateErr_s items shifts h1
  unfold tplA at hT
  simp only [cl_pulse_fittedErr, tplA, vcV, vcD, Int.reduceEq, Int.reduceNe, Int.reduceLT, Int.reduceLE, Nat.reduceEqDiff, Nat.reduceAdd, reduceIte, reduceCtorEq, Nat.reduceLT, Nat.reduceLeDiff, eq_self, vcP2, Nat.reduceShiftRight, Nat.reduceMod]
  refine callS_of hT ?_
  simp only [vcV, vcD, Int.reduceEq, Int.reduceNe, Int.reduceLT, Int.reduceLE, Nat.reduceEqDiff, Nat.reduceAdd, reduceIte, reduceCtorEq, Nat.reduceLT, Nat.reduceLeDiff, eq_self, vcP2, Nat.reduceShiftRight, Nat.reduceMod]
  refine callS_of (sampled_s l h2) ?_
  simp only [vcV, vcD, Int.reduceEq, Int.reduceNe, Int.reduceLT, Int.reduceLE, Nat.reduceEqDiff, Nat.reduceAdd, reduceIte, reduceCtorEq, Nat.reduceLT, Nat.reduceLeDiff, eq_self, vcP2, Nat.reduceShiftRight, Nat.reduceMod]
  refine callS_of (unless_s _ _) ?_
  simp only [vcV, vcD, Int.reduceEq, Int.reduceNe, Int.reduceLT, Int.reduceLE, Nat.reduceEqDiff, Nat.reduceAdd, reduceIte, reduceCtorEq, Nat.reduceLT, Nat.reduceLeDiff, eq_self, vcP2, Nat.reduceShiftRight, Nat.reduceMod]
  refine callS_of (first3_s _ _ _) ?_
  simp only [vcV, vcD, Int.reduceEq, Int.reduceNe, Int.reduceLT, Int.reduceLE, Nat.reduceEqDiff, Nat.reduceAdd, reduceIte, reduceCtorEq, Nat.reduceLT, Nat.reduceLeDiff, eq_self, vcP2, Nat.reduceShiftRight, Nat.reduceMod]
  refine ⟨by intro _ k hk; simp [refsL, refs, upd] at hk; subst hk; simp [upd], ?_⟩
  congr 1
  unfold fdE
  by_cases hE : teE items shifts = 0
  · obtain ⟨⟨a1, a2⟩, _, _, a3⟩ := teE_ok hE
    have w1 : IntKind.i64.wrap (shifts + items.length) = shifts + items.length := i64_wrap (by omega)
    have w2 : IntKind.i64.wrap (shifts + items.length - 1) = shifts + items.length - 1 := i64_wrap (by omega)
    simp only [w1, w2, hE, ne_eq, not_true_eq_false, if_false, decide_eq_true_eq]
  · simp only [hE, ne_eq, not_false_eq_true, if_true]
end Go.Proofs.YtgmpcbpmnimkoaaGreatDoor

/- The model of charges, and what stands against a template. By an AI agent; nothing here is trusted. -/
namespace Go.Proofs.YtgmpcbpmnimkoaaGreatDoor
open Go.Av

def agT (items l : List Int) (k : Nat) : Nat → Int
  | 0 => 0
  | j + 1 => agT items l k j + items.getD j 0 * l.getD (k + j) 0
theorem prod_bd {a b M : Int} (hM : 0 ≤ M) (h1 : -100 ≤ a ∧ a ≤ 100) (h2 : -M ≤ b ∧ b ≤ M) : -(100 * M) ≤ a * b ∧ a * b ≤ 100 * M := by
  by_cases ha : 0 ≤ a
  · have := mul_abs (s := b) (k := a) (K := 100) ⟨ha, h1.2⟩ hM h2
    rw [Int.mul_comm b a, Int.mul_comm M 100] at this; exact this
  · have := mul_abs (s := b) (k := -a) (K := 100) ⟨by omega, by omega⟩ hM h2
    rw [Int.mul_neg, Int.mul_comm b a, Int.mul_comm M 100] at this; omega
theorem agT_bd {items l : List Int} {M : Int} (hM : 0 ≤ M) (hi : ∀ x ∈ items, -100 ≤ x ∧ x ≤ 100) (hl : ∀ x ∈ l, -M ≤ x ∧ x ≤ M) (k : Nat) : ∀ j, -(100 * M * j) ≤ agT items l k j ∧ agT items l k j ≤ 100 * M * j
  | 0 => by simp [agT]
  | j + 1 => by
    have ih := agT_bd hM hi hl k j
    have h1 : -100 ≤ items.getD j 0 ∧ items.getD j 0 ≤ 100 := by
      by_cases h : j < items.length
      · rw [getD_at h]; exact hi _ (List.getElem_mem h)
      · simp [List.getD, List.getElem?_eq_none (Nat.le_of_not_lt h)]
    have h2 : -M ≤ l.getD (k + j) 0 ∧ l.getD (k + j) 0 ≤ M := by
      by_cases h : k + j < l.length
      · rw [getD_at h]; exact hl _ (List.getElem_mem h)
      · simp [List.getD, List.getElem?_eq_none (Nat.le_of_not_lt h)]; omega
    have h3 := prod_bd hM h1 h2
    have h4 : 100 * M * ((j + 1 : Nat) : Int) = 100 * M * j + 100 * M := by rw [show ((j + 1 : Nat) : Int) = (j : Int) + 1 by omega, Int.mul_add, Int.mul_one]
    rw [agT, h4]
    omega
theorem against_s {items l : List Int} (shifts : Int) {k : Nat} {M : Int} (h6 : items.length ≤ 6) (hM : 0 ≤ M ∧ M ≤ 12000000000000000) (hi : ∀ x ∈ items, -100 ≤ x ∧ x ≤ 100) (hl : ∀ x ∈ l, -M ≤ x ∧ x ≤ M) (hk : k + items.length ≤ l.length) (hk5 : k ≤ 5) :
    Sound Tryz.prog 128 [tplA items shifts, .sl (ints l), .int .i64 k] (.int .i64 (agT items l k items.length)) := by
  refine sound_W f_pulse_against (Nat.le_of_ble_eq_true rfl) ?_
  have hb := agT_bd hM.1 hi hl k
  have hbb : ∀ j : Nat, j ≤ 6 → -7200000000000000000 ≤ agT items l k j ∧ agT items l k j ≤ 7200000000000000000 := fun j hj => by
    have h1 := hb j
    have h2 : 100 * M * (j : Int) ≤ 1200000000000000000 * 6 := Int.mul_le_mul (by omega) (by omega) (by omega) (by omega)
    omega
  simp only [c_pulse_against, tplA, vcV, vcD, Int.reduceEq, Int.reduceNe, Int.reduceLT, Int.reduceLE, Nat.reduceEqDiff, Nat.reduceAdd, reduceIte, reduceCtorEq, Nat.reduceLT, Nat.reduceLeDiff, eq_self, vcP2, Nat.reduceShiftRight, Nat.reduceMod]
  refine W_loop (t := .mk) (α := PSigma fun j : Nat => j ≤ items.length) (fun ⟨j, _⟩ => (envOf [(1, .sl (ints l)), (2, .int .i64 k), (7, .int .i64 (agT items l k j)), (11, .sl (ints items)), (12, .int .i64 items.length), (13, .int .i64 j)], stOf [])) (fun p => items.length - p.1) ⟨0, Nat.zero_le _⟩ ?_ (fun ⟨j, hj⟩ => ?_)
  · have z : agT items l k 0 = 0 := rfl
    refine weakX [] (of_decide_eq_true rfl) (of_decide_eq_true rfl) ?_
    (simp only [z, vcW, vcV, vcD, Int.reduceEq, Int.reduceNe, Int.reduceLT, Int.reduceLE, Nat.reduceEqDiff, Nat.reduceAdd, reduceIte, reduceCtorEq, Nat.reduceLT, Nat.reduceLeDiff, eq_self, vcP2, Nat.reduceShiftRight, Nat.reduceMod])
    (repeat' first | exact trivial | (with_reducible exact RnB.fxB (ints_fxB _)) | (with_reducible rfl) | (with_reducible refine And.intro ?_ ?_) | (with_reducible refine RnB.bb ?_; simp only [vcW, vcV, vcD, Int.reduceEq, Int.reduceNe, Int.reduceLT, Int.reduceLE, Nat.reduceEqDiff, Nat.reduceAdd, reduceIte, reduceCtorEq, Nat.reduceLT, Nat.reduceLeDiff, eq_self, vcP2, Nat.reduceShiftRight, Nat.reduceMod]) | (with_reducible refine RnB.nb ?_; simp only [vcW, vcV, vcD, Int.reduceEq, Int.reduceNe, Int.reduceLT, Int.reduceLE, Nat.reduceEqDiff, Nat.reduceAdd, reduceIte, reduceCtorEq, Nat.reduceLT, Nat.reduceLeDiff, eq_self, vcP2, Nat.reduceShiftRight, Nat.reduceMod]) | (with_reducible refine RnB.ii ?_) | (with_reducible refine RnB.app ?_) | (with_reducible refine RnB.fxB ?_; simp only [vcW, vcV, vcD, Int.reduceEq, Int.reduceNe, Int.reduceLT, Int.reduceLE, Nat.reduceEqDiff, Nat.reduceAdd, reduceIte, reduceCtorEq, Nat.reduceLT, Nat.reduceLeDiff, eq_self, vcP2, Nat.reduceShiftRight, Nat.reduceMod]) | omega)
  · dsimp only at hj ⊢
    by_cases h' : j < items.length
    · have h5 : (j : Int) < items.length := by omega
      have hs : agT items l k (j + 1) = agT items l k j + items[j] * l[k + j] := by rw [agT, getD_at h', getD_at (show k + j < l.length by omega)]
      have b1 := hbb j (by omega)
      have b2 := hbb (j + 1) (by omega)
      rw [hs] at b2
      have hp := prod_bd hM.1 (hi items[j] (List.getElem_mem h')) (hl (l[k + j]'(by omega)) (List.getElem_mem _))
      have hkj : (k : Int) + j = ((k + j : Nat) : Int) := by omega
      have hkl : ((k + j : Nat) : Int) < l.length := by omega
      simp only [h5, ints_get items j h', hkj, ints_get l (k + j) (by omega), hkl, vcV, vcD, Int.reduceEq, Int.reduceNe, Int.reduceLT, Int.reduceLE, Nat.reduceEqDiff, Nat.reduceAdd, reduceIte, reduceCtorEq, Nat.reduceLT, Nat.reduceLeDiff, eq_self, vcP2, Nat.reduceShiftRight, Nat.reduceMod]
      (repeat (with_reducible refine And.intro ?_ ?_; focus (first | omega | (unfold I64; omega))))
      refine ⟨⟨j + 1, h'⟩, by simp only; omega, ?_⟩
      refine weakX [] (of_decide_eq_true rfl) (of_decide_eq_true rfl) ?_
      (simp only [hs, vcW, vcV, vcD, Int.reduceEq, Int.reduceNe, Int.reduceLT, Int.reduceLE, Nat.reduceEqDiff, Nat.reduceAdd, reduceIte, reduceCtorEq, Nat.reduceLT, Nat.reduceLeDiff, eq_self, vcP2, Nat.reduceShiftRight, Nat.reduceMod])
      (repeat' first | exact trivial | (with_reducible exact RnB.fxB (ints_fxB _)) | (with_reducible rfl) | (with_reducible refine And.intro ?_ ?_) | (with_reducible refine RnB.bb ?_; simp only [vcW, vcV, vcD, Int.reduceEq, Int.reduceNe, Int.reduceLT, Int.reduceLE, Nat.reduceEqDiff, Nat.reduceAdd, reduceIte, reduceCtorEq, Nat.reduceLT, Nat.reduceLeDiff, eq_self, vcP2, Nat.reduceShiftRight, Nat.reduceMod]) | (with_reducible refine RnB.nb ?_; simp only [vcW, vcV, vcD, Int.reduceEq, Int.reduceNe, Int.reduceLT, Int.reduceLE, Nat.reduceEqDiff, Nat.reduceAdd, reduceIte, reduceCtorEq, Nat.reduceLT, Nat.reduceLeDiff, eq_self, vcP2, Nat.reduceShiftRight, Nat.reduceMod]) | (with_reducible refine RnB.ii ?_) | (with_reducible refine RnB.app ?_) | (with_reducible refine RnB.fxB ?_; simp only [vcW, vcV, vcD, Int.reduceEq, Int.reduceNe, Int.reduceLT, Int.reduceLE, Nat.reduceEqDiff, Nat.reduceAdd, reduceIte, reduceCtorEq, Nat.reduceLT, Nat.reduceLeDiff, eq_self, vcP2, Nat.reduceShiftRight, Nat.reduceMod]) | omega)
    · have h5 : ¬ (j : Int) < items.length := by omega
      have hin : j = items.length := by omega
      subst hin
      simp only [h5, vcV, vcD, Int.reduceEq, Int.reduceNe, Int.reduceLT, Int.reduceLE, Nat.reduceEqDiff, Nat.reduceAdd, reduceIte, reduceCtorEq, Nat.reduceLT, Nat.reduceLeDiff, eq_self, vcP2, Nat.reduceShiftRight, Nat.reduceMod]
end Go.Proofs.YtgmpcbpmnimkoaaGreatDoor

/- The model of charges, and differences. By an AI agent; nothing here is trusted. -/
namespace Go.Proofs.YtgmpcbpmnimkoaaGreatDoor
open Go.Av

def mdT (items ch : List Int) (n : Nat) : Nat → Int
  | 0 => 0
  | k + 1 => mdT items ch n k + (if k ≤ n ∧ n - k < items.length then ch.getD k 0 * items.getD (n - k) 0 else 0)
def mdP (items ch : List Int) (n k j : Nat) : Int := mdT items ch n k + (if k ≤ n ∧ n - k < j then ch.getD k 0 * items.getD (n - k) 0 else 0)
def mdL (items ch : List Int) (k j : Nat) : List Int := (List.range (ch.length + items.length - 1)).map fun n => mdP items ch n k j
theorem mdL_len (items ch : List Int) (k j : Nat) : (mdL items ch k j).length = ch.length + items.length - 1 := by simp [mdL]
theorem mdL_get (items ch : List Int) (k j : Nat) {n : Nat} (h : n < (mdL items ch k j).length) : (mdL items ch k j)[n] = mdP items ch n k j := by simp [mdL]
theorem mdP_0 (items ch : List Int) (n k : Nat) : mdP items ch n k 0 = mdT items ch n k := by unfold mdP; rw [if_neg (by omega), Int.add_zero]
theorem mdP_next (items ch : List Int) (n k : Nat) : mdP items ch n k items.length = mdT items ch n (k + 1) := rfl
theorem mdP_succ (items ch : List Int) (n k j : Nat) : mdP items ch n k (j + 1) = mdP items ch n k j + (if n = k + j then ch.getD k 0 * items.getD j 0 else 0) := by
  unfold mdP
  by_cases e : n = k + j
  · subst e
    rw [if_pos (by omega), if_neg (by omega), if_pos rfl, Nat.add_sub_cancel_left, Int.add_zero]
  · rw [if_neg e, Int.add_zero]
    congr 1
    by_cases h : k ≤ n ∧ n - k < j
    · rw [if_pos h, if_pos (by omega)]
    · rw [if_neg h, if_neg (by omega)]
theorem mdL_set (items ch : List Int) {k j : Nat} (h : k + j < ch.length + items.length - 1) : mdL items ch k (j + 1) = (mdL items ch k j).set (k + j) (mdP items ch (k + j) k j + ch.getD k 0 * items.getD j 0) := by
  apply List.ext_getElem
  · rw [List.length_set, mdL_len, mdL_len]
  · intro n h1 h2
    rw [mdL_get, List.getElem_set, mdP_succ]
    by_cases e : k + j = n
    · subst e; rw [if_pos rfl, if_pos rfl]
    · rw [if_neg e, if_neg (fun q => e q.symm), mdL_get, Int.add_zero]
end Go.Proofs.YtgmpcbpmnimkoaaGreatDoor

/- Digits to the base 10^9, in plain Lean. By an AI agent; nothing here is trusted. -/
namespace Go.Proofs.YtgmpcbpmnimkoaaGreatDoor
open Go.Av

def dVal : List Int → Int
  | [] => 0
  | d :: l => d + 1000000000 * dVal l
def okD (l : List Int) : Prop := ∀ d ∈ l, 0 ≤ d ∧ d < 1000000000
def trimL : List Int → List Int
  | [] => []
  | d :: l => if trimL l = [] ∧ d = 0 then [] else d :: trimL l
def dg (n : Nat) : List Int := if h : n = 0 then [] else ((n % 1000000000 : Nat) : Int) :: dg (n / 1000000000)
termination_by n
decreasing_by exact Nat.div_lt_self (by omega) (by omega)
theorem dg_zero : dg 0 = [] := by rw [dg]; rfl
theorem dg_pos {n : Nat} (h : n ≠ 0) : dg n = ((n % 1000000000 : Nat) : Int) :: dg (n / 1000000000) := by rw [dg, dif_neg h]
theorem dVal_nonneg : ∀ {l : List Int}, okD l → 0 ≤ dVal l
  | [], _ => Int.le_refl _
  | d :: l, h => by
    have := dVal_nonneg (l := l) fun x hx => h x (List.mem_cons_of_mem _ hx)
    have := h d List.mem_cons_self
    rw [dVal]; omega
theorem okD_dg (n : Nat) : okD (dg n) := by
  induction n using Nat.strongRecOn with
  | _ n ih =>
    by_cases h : n = 0
    · rw [h, dg_zero]; intro d hd; cases hd
    · rw [dg_pos h]
      intro d hd
      rcases List.mem_cons.1 hd with e | e
      · rw [e]; omega
      · exact ih _ (Nat.div_lt_self (by omega) (by omega)) d e
theorem dVal_dg (n : Nat) : dVal (dg n) = n := by
  induction n using Nat.strongRecOn with
  | _ n ih =>
    by_cases h : n = 0
    · rw [h, dg_zero]; rfl
    · rw [dg_pos h, dVal, ih _ (Nat.div_lt_self (by omega) (by omega))]; omega
theorem dg_cons {d : Int} {v : Nat} (hd : 0 ≤ d ∧ d < 1000000000) (h : d ≠ 0 ∨ v ≠ 0) : dg (d + 1000000000 * (v : Int)).toNat = d :: dg v := by
  rw [dg_pos (by omega)]
  have e1 : (((d + 1000000000 * (v : Int)).toNat % 1000000000 : Nat) : Int) = d := by omega
  have e2 : (d + 1000000000 * (v : Int)).toNat / 1000000000 = v := by omega
  rw [e1, e2]
theorem dg_nil {n : Nat} : dg n = [] ↔ n = 0 := by
  constructor
  · intro h
    by_cases e : n = 0
    · exact e
    · rw [dg_pos e] at h; cases h
  · intro h; rw [h]; exact dg_zero
theorem trim_dg : ∀ {l : List Int}, okD l → trimL l = dg (dVal l).toNat
  | [], _ => dg_zero.symm
  | d :: l, h => by
    have hl : okD l := fun x hx => h x (List.mem_cons_of_mem _ hx)
    have ih := trim_dg hl
    have hd := h d List.mem_cons_self
    have hv := dVal_nonneg hl
    obtain ⟨v, hv2⟩ : ∃ v : Nat, dVal l = (v : Int) := ⟨(dVal l).toNat, by omega⟩
    rw [trimL, ih, dVal, hv2, show ((v : Int)).toNat = v from rfl]
    by_cases hc : dg v = [] ∧ d = 0
    · rw [if_pos hc, dg_nil.1 hc.1, hc.2]; exact dg_zero.symm
    · rw [if_neg hc, dg_cons hd]
      by_cases e : d = 0
      · exact .inr fun q => hc ⟨dg_nil.2 q, e⟩
      · exact .inl e
theorem trimL_zero : ∀ (l : List Int), trimL (l ++ [0]) = trimL l
  | [] => by simp [trimL]
  | d :: l => by rw [List.cons_append, trimL, trimL_zero l, trimL]
theorem trimL_ne {x : Int} (hx : x ≠ 0) : ∀ (l : List Int), trimL (l ++ [x]) = l ++ [x]
  | [] => by simp [trimL, hx]
  | d :: l => by rw [List.cons_append, trimL, trimL_ne hx l, if_neg (by simp)]
theorem trimL_le : ∀ (l : List Int), (trimL l).length ≤ l.length
  | [] => Nat.le_refl _
  | d :: l => by
    have := trimL_le l
    rw [trimL]; split <;> simp <;> omega
theorem dVal_append : ∀ (a b : List Int), dVal (a ++ b) = dVal a + 1000000000 ^ a.length * dVal b
  | [], b => by simp [dVal]
  | d :: a, b => by
    rw [List.cons_append, dVal, dVal_append a b, dVal, List.length_cons, Int.pow_succ, Int.mul_add, ← Int.mul_assoc, Int.mul_comm 1000000000 ((1000000000 : Int) ^ a.length)]; omega
theorem dVal_lt : ∀ {l : List Int}, okD l → dVal l < 1000000000 ^ l.length
  | [], _ => by simp [dVal]
  | d :: l, h => by
    have ih := dVal_lt (l := l) fun x hx => h x (List.mem_cons_of_mem _ hx)
    have := h d List.mem_cons_self
    rw [dVal, List.length_cons, Int.pow_succ]; omega
theorem dg_len {n k : Nat} (h : n < 1000000000 ^ k) : (dg n).length ≤ k := by
  induction k generalizing n with
  | zero => simp at h; rw [h, dg_zero]; simp
  | succ k ih =>
    by_cases e : n = 0
    · rw [e, dg_zero]; simp
    · rw [dg_pos e, List.length_cons]
      have := ih (n := n / 1000000000) (by rw [Nat.pow_succ] at h; exact Nat.div_lt_of_lt_mul (by rw [Nat.mul_comm]; exact h))
      omega

def wideA (v : Int) : AV := .agg [.int .i64 v.sign, .sl (ints (dg v.natAbs))]
theorem trimmed_s (l : List Int) (hl : l.length ≤ 1000000000) : Sound Tryz.prog 189 [.sl (ints l)] (.sl (ints (trimL l))) := by
  refine sound_W f_base_trimmed (Nat.le_of_ble_eq_true rfl) ?_
  simp only [c_base_trimmed, vcV, vcD, Int.reduceEq, Int.reduceNe, Int.reduceLT, Int.reduceLE, Nat.reduceEqDiff, Nat.reduceAdd, reduceIte, reduceCtorEq, Nat.reduceLT, Nat.reduceLeDiff, eq_self, vcP2, Nat.reduceShiftRight, Nat.reduceMod]
  refine W_loop (t := .mk) (α := PSigma fun n : Nat => n ≤ l.length ∧ trimL l = trimL (l.take n)) (fun ⟨n, _⟩ => (envOf [(0, .sl (ints l)), (3, .int .i64 n)], stOf [])) (fun n => n.1) ⟨l.length, Nat.le_refl _, by rw [List.take_length]⟩ ?_ (fun ⟨n, hn, ht⟩ => ?_)
  · refine weakX [] (of_decide_eq_true rfl) (of_decide_eq_true rfl) ?_
    (simp only [vcW, vcV, vcD, Int.reduceEq, Int.reduceNe, Int.reduceLT, Int.reduceLE, Nat.reduceEqDiff, Nat.reduceAdd, reduceIte, reduceCtorEq, Nat.reduceLT, Nat.reduceLeDiff, eq_self, vcP2, Nat.reduceShiftRight, Nat.reduceMod])
    (repeat' first | exact trivial | (with_reducible exact RnB.fxB (ints_fxB _)) | (with_reducible rfl) | (with_reducible refine And.intro ?_ ?_) | (with_reducible refine RnB.bb ?_; simp only [vcW, vcV, vcD, Int.reduceEq, Int.reduceNe, Int.reduceLT, Int.reduceLE, Nat.reduceEqDiff, Nat.reduceAdd, reduceIte, reduceCtorEq, Nat.reduceLT, Nat.reduceLeDiff, eq_self, vcP2, Nat.reduceShiftRight, Nat.reduceMod]) | (with_reducible refine RnB.nb ?_; simp only [vcW, vcV, vcD, Int.reduceEq, Int.reduceNe, Int.reduceLT, Int.reduceLE, Nat.reduceEqDiff, Nat.reduceAdd, reduceIte, reduceCtorEq, Nat.reduceLT, Nat.reduceLeDiff, eq_self, vcP2, Nat.reduceShiftRight, Nat.reduceMod]) | (with_reducible refine RnB.ii ?_) | (with_reducible refine RnB.app ?_) | (with_reducible refine RnB.fxB ?_; simp only [vcW, vcV, vcD, Int.reduceEq, Int.reduceNe, Int.reduceLT, Int.reduceLE, Nat.reduceEqDiff, Nat.reduceAdd, reduceIte, reduceCtorEq, Nat.reduceLT, Nat.reduceLeDiff, eq_self, vcP2, Nat.reduceShiftRight, Nat.reduceMod]) | omega)
  · have htk : ∀ m : Nat, (ints l).take m = ints (l.take m) := fun m => by simp [ints, List.map_take]
    cases n with
    | zero =>
      have z0 : ¬ (0 : Int) < ((0 : Nat) : Int) := by omega
      simp only [z0, vcV, vcD, Int.reduceEq, Int.reduceNe, Int.reduceLT, Int.reduceLE, Nat.reduceEqDiff, Nat.reduceAdd, reduceIte, reduceCtorEq, Nat.reduceLT, Nat.reduceLeDiff, eq_self, vcP2, Nat.reduceShiftRight, Nat.reduceMod]
      refine ⟨⟨by omega, by omega, fun x hx => by obtain ⟨y, _, rfl⟩ := List.mem_map.1 hx; rfl⟩, ?_⟩
      rw [ht]; rfl
    | succ n =>
      have z0 : (0 : Int) < ((n + 1 : Nat) : Int) := by omega
      have z1 : ((n + 1 : Nat) : Int) - 1 = (n : Int) := by omega
      have h' : n < l.length := by omega
      have hsn := List.take_succ_eq_append_getElem h'
      rw [hsn] at ht
      have hg := ints_get l n h'
      by_cases hc : l[n] = 0
      · rw [hc, trimL_zero] at ht
        simp only [z0, z1, hg, hc, vcV, vcD, Int.reduceEq, Int.reduceNe, Int.reduceLT, Int.reduceLE, Nat.reduceEqDiff, Nat.reduceAdd, reduceIte, reduceCtorEq, Nat.reduceLT, Nat.reduceLeDiff, eq_self, vcP2, Nat.reduceShiftRight, Nat.reduceMod]
        (repeat (with_reducible refine And.intro ?_ ?_; focus (first | omega | (unfold I64; omega))))
        refine ⟨⟨n, by omega, ht⟩, by simp only; omega, ?_⟩
        refine weakX [] (of_decide_eq_true rfl) (of_decide_eq_true rfl) ?_
        (simp only [vcW, vcV, vcD, Int.reduceEq, Int.reduceNe, Int.reduceLT, Int.reduceLE, Nat.reduceEqDiff, Nat.reduceAdd, reduceIte, reduceCtorEq, Nat.reduceLT, Nat.reduceLeDiff, eq_self, vcP2, Nat.reduceShiftRight, Nat.reduceMod])
        (repeat' first | exact trivial | (with_reducible exact RnB.fxB (ints_fxB _)) | (with_reducible rfl) | (with_reducible refine And.intro ?_ ?_) | (with_reducible refine RnB.bb ?_; simp only [vcW, vcV, vcD, Int.reduceEq, Int.reduceNe, Int.reduceLT, Int.reduceLE, Nat.reduceEqDiff, Nat.reduceAdd, reduceIte, reduceCtorEq, Nat.reduceLT, Nat.reduceLeDiff, eq_self, vcP2, Nat.reduceShiftRight, Nat.reduceMod]) | (with_reducible refine RnB.nb ?_; simp only [vcW, vcV, vcD, Int.reduceEq, Int.reduceNe, Int.reduceLT, Int.reduceLE, Nat.reduceEqDiff, Nat.reduceAdd, reduceIte, reduceCtorEq, Nat.reduceLT, Nat.reduceLeDiff, eq_self, vcP2, Nat.reduceShiftRight, Nat.reduceMod]) | (with_reducible refine RnB.ii ?_) | (with_reducible refine RnB.app ?_) | (with_reducible refine RnB.fxB ?_; simp only [vcW, vcV, vcD, Int.reduceEq, Int.reduceNe, Int.reduceLT, Int.reduceLE, Nat.reduceEqDiff, Nat.reduceAdd, reduceIte, reduceCtorEq, Nat.reduceLT, Nat.reduceLeDiff, eq_self, vcP2, Nat.reduceShiftRight, Nat.reduceMod]) | omega)
      · rw [trimL_ne hc, ← hsn] at ht
        simp only [z0, z1, hg, hc, vcV, vcD, Int.reduceEq, Int.reduceNe, Int.reduceLT, Int.reduceLE, Nat.reduceEqDiff, Nat.reduceAdd, reduceIte, reduceCtorEq, Nat.reduceLT, Nat.reduceLeDiff, eq_self, vcP2, Nat.reduceShiftRight, Nat.reduceMod]
        (repeat (with_reducible refine And.intro ?_ ?_; focus (first | omega | (unfold I64; omega))))
        refine ⟨⟨by omega, by omega, fun x hx => by obtain ⟨y, _, rfl⟩ := List.mem_map.1 hx; rfl⟩, ?_⟩
        rw [ht, htk]; rfl
theorem wideOf_s (g : Int) (l : List Int) (hl : l.length ≤ 1000000000) (hd : okD l) (hg : g = 1 ∨ g = -1 ∨ (g = 0 ∧ dVal l = 0)) : Sound Tryz.prog 99 [.int .i64 g, .sl (ints l)] (wideA (g * dVal l)) := by
  refine sound_W f_base_wideOf (Nat.le_of_ble_eq_true rfl) ?_
  have hv := dVal_nonneg hd
  have ht := trim_dg hd
  have hna : (g * dVal l).natAbs = (dVal l).toNat := by rcases hg with rfl | rfl | ⟨rfl, h⟩ <;> omega
  have hw : wideA (g * dVal l) = .agg [.int .i64 (g * dVal l).sign, .sl (ints (trimL l))] := by unfold wideA; rw [hna, ht]
  rw [hw]
  simp only [c_base_wideOf, vcV, vcD, Int.reduceEq, Int.reduceNe, Int.reduceLT, Int.reduceLE, Nat.reduceEqDiff, Nat.reduceAdd, reduceIte, reduceCtorEq, Nat.reduceLT, Nat.reduceLeDiff, eq_self, vcP2, Nat.reduceShiftRight, Nat.reduceMod]
  refine callS_of (trimmed_s l hl) ?_
  simp only [vcV, vcD, Int.reduceEq, Int.reduceNe, Int.reduceLT, Int.reduceLE, Nat.reduceEqDiff, Nat.reduceAdd, reduceIte, reduceCtorEq, Nat.reduceLT, Nat.reduceLeDiff, eq_self, vcP2, Nat.reduceShiftRight, Nat.reduceMod]
  by_cases h0 : (trimL l).length = 0
  · have hz : dVal l = 0 := by
      rw [List.length_eq_zero_iff, ht, dg_nil] at h0; omega
    have h0' : ((trimL l).length : Int) = 0 := by omega
    have hs : (g * dVal l).sign = 0 := by rw [hz]; simp
    simp only [ints_length, h0', hs, vcV, vcD, Int.reduceEq, Int.reduceNe, Int.reduceLT, Int.reduceLE, Nat.reduceEqDiff, Nat.reduceAdd, reduceIte, reduceCtorEq, Nat.reduceLT, Nat.reduceLeDiff, eq_self, vcP2, Nat.reduceShiftRight, Nat.reduceMod]
  · have hz : 0 < dVal l := by
      have : (dVal l).toNat ≠ 0 := fun e => h0 (by rw [ht, e, dg_zero]; rfl)
      omega
    have h0' : ¬ ((trimL l).length : Int) = 0 := by omega
    have hs : (g * dVal l).sign = g := by
      rcases hg with rfl | rfl | ⟨rfl, h⟩
      · rw [Int.one_mul]; exact Int.sign_eq_one_of_pos hz
      · rw [Int.neg_one_mul, Int.sign_neg, Int.sign_eq_one_of_pos hz]
      · omega
    simp only [ints_length, h0', hs, vcV, vcD, Int.reduceEq, Int.reduceNe, Int.reduceLT, Int.reduceLE, Nat.reduceEqDiff, Nat.reduceAdd, reduceIte, reduceCtorEq, Nat.reduceLT, Nat.reduceLeDiff, eq_self, vcP2, Nat.reduceShiftRight, Nat.reduceMod]
end Go.Proofs.YtgmpcbpmnimkoaaGreatDoor

/- Contracts: digits added, subtracted, compared. By an AI agent; nothing here is trusted. -/
namespace Go.Proofs.YtgmpcbpmnimkoaaGreatDoor
open Go.Av

theorem WideSign_s (v : Int) : Sound Tryz.prog 25 [wideA v] (.int .i64 v.sign) := by
  refine sound_W f_base_WideSign (Nat.le_of_ble_eq_true rfl) ?_
  simp only [c_base_WideSign, wideA, vcV, vcD, Int.reduceEq, Int.reduceNe, Int.reduceLT, Int.reduceLE, Nat.reduceEqDiff, Nat.reduceAdd, reduceIte, reduceCtorEq, Nat.reduceLT, Nat.reduceLeDiff, eq_self, vcP2, Nat.reduceShiftRight, Nat.reduceMod]
theorem WideNeg_s (v : Int) : Sound Tryz.prog 103 [wideA v] (wideA (-v)) := by
  refine sound_W f_base_WideNeg (Nat.le_of_ble_eq_true rfl) ?_
  have h1 : (-v).sign = -v.sign := Int.sign_neg v
  have h2 : (-v).natAbs = v.natAbs := Int.natAbs_neg v
  have h3 : -1 ≤ v.sign ∧ v.sign ≤ 1 := by rcases Int.lt_trichotomy v 0 with h | h | h <;> simp [Int.sign_eq_neg_one_of_neg, Int.sign_eq_one_of_pos, h]
  unfold wideA
  rw [h1, h2]
  simp only [c_base_WideNeg, vcV, vcD, Int.reduceEq, Int.reduceNe, Int.reduceLT, Int.reduceLE, Nat.reduceEqDiff, Nat.reduceAdd, reduceIte, reduceCtorEq, Nat.reduceLT, Nat.reduceLeDiff, eq_self, vcP2, Nat.reduceShiftRight, Nat.reduceMod]
  unfold I64
  omega

def dAt (l : List Int) (i : Nat) : Int := l.getD i 0
theorem dAt_lt {l : List Int} {i : Nat} (h : i < l.length) : dAt l i = l[i] := by simp [dAt, List.getD, List.getElem?_eq_getElem h]
theorem dAt_ge {l : List Int} {i : Nat} (h : l.length ≤ i) : dAt l i = 0 := by simp [dAt, List.getD, List.getElem?_eq_none h]
theorem dAt_ok {l : List Int} (h : okD l) (i : Nat) : 0 ≤ dAt l i ∧ dAt l i < 1000000000 := by
  by_cases hi : i < l.length
  · rw [dAt_lt hi]; exact h _ (List.getElem_mem hi)
  · rw [dAt_ge (by omega)]; omega
theorem digit_s (l : List Int) (i : Nat) (hi : i ≤ 1000000000) : Sound Tryz.prog 190 [.sl (ints l), .int .i64 i] (.int .i64 (dAt l i)) := by
  refine sound_W f_base_digit (Nat.le_of_ble_eq_true rfl) ?_
  by_cases h : i < l.length
  · have h' : (i : Int) < l.length := by omega
    simp only [c_base_digit, h', ints_get l i h, dAt_lt h, vcV, vcD, Int.reduceEq, Int.reduceNe, Int.reduceLT, Int.reduceLE, Nat.reduceEqDiff, Nat.reduceAdd, reduceIte, reduceCtorEq, Nat.reduceLT, Nat.reduceLeDiff, eq_self, vcP2, Nat.reduceShiftRight, Nat.reduceMod]
    omega
  · have h' : ¬ (i : Int) < l.length := by omega
    simp only [c_base_digit, h', dAt_ge (show l.length ≤ i by omega), vcV, vcD, Int.reduceEq, Int.reduceNe, Int.reduceLT, Int.reduceLE, Nat.reduceEqDiff, Nat.reduceAdd, reduceIte, reduceCtorEq, Nat.reduceLT, Nat.reduceLeDiff, eq_self, vcP2, Nat.reduceShiftRight, Nat.reduceMod]

def dPre (l : List Int) (i : Nat) : Int := dVal (l.take i)
theorem dPre_succ (l : List Int) (i : Nat) : dPre l (i + 1) = dPre l i + 1000000000 ^ i * dAt l i := by
  unfold dPre
  by_cases h : i < l.length
  · rw [List.take_succ_eq_append_getElem h, dVal_append, dAt_lt h, List.length_take, Nat.min_eq_left (by omega)]; simp [dVal]
  · rw [List.take_of_length_le (by omega), List.take_of_length_le (by omega), dAt_ge (by omega)]; simp
theorem dPre_all {l : List Int} {i : Nat} (h : l.length ≤ i) : dPre l i = dVal l := by unfold dPre; rw [List.take_of_length_le h]

def addS (a b : List Int) : Nat → List Int × Int
  | 0 => ([], 0)
  | i + 1 => ((addS a b i).1 ++ [(dAt a i + dAt b i + (addS a b i).2) % 1000000000], (dAt a i + dAt b i + (addS a b i).2) / 1000000000)
theorem addS_ok {a b : List Int} (ha : okD a) (hb : okD b) : ∀ i, (addS a b i).1.length = i ∧ okD (addS a b i).1 ∧ (0 ≤ (addS a b i).2 ∧ (addS a b i).2 ≤ 1) ∧ dVal (addS a b i).1 + 1000000000 ^ i * (addS a b i).2 = dPre a i + dPre b i
  | 0 => ⟨rfl, (fun d hd => by cases hd), by simp [addS], by simp [addS, dVal, dPre]⟩
  | i + 1 => by
    obtain ⟨h1, h2, h3, h4⟩ := addS_ok ha hb i
    have qa := dAt_ok ha i
    have qb := dAt_ok hb i
    rw [dPre_succ, dPre_succ]
    simp only [addS]
    generalize addS a b i = p at *
    obtain ⟨l, c⟩ := p
    simp only at h1 h2 h3 h4 ⊢
    generalize hs : dAt a i + dAt b i + c = s at *
    refine ⟨by simp [h1], ?_, by omega, ?_⟩
    · intro d hd
      rcases List.mem_append.1 hd with e | e
      · exact h2 d e
      · rw [List.mem_singleton.1 e]; omega
    · rw [dVal_append, h1, Int.pow_succ]
      have e : s = s % 1000000000 + 1000000000 * (s / 1000000000) := by omega
      have e1 : (1000000000 : Int) ^ i * s = 1000000000 ^ i * (s % 1000000000) + 1000000000 ^ i * (1000000000 * (s / 1000000000)) := by rw [← Int.mul_add, ← e]
      have e2 : (1000000000 : Int) ^ i * s = 1000000000 ^ i * dAt a i + 1000000000 ^ i * dAt b i + 1000000000 ^ i * c := by rw [← hs, Int.mul_add, Int.mul_add]
      simp only [dVal, Int.mul_zero, Int.add_zero]
      rw [Int.mul_assoc]
      omega

theorem dVal_snoc (l : List Int) (x : Int) : dVal (l ++ [x]) = dVal l + 1000000000 ^ l.length * x := by rw [dVal_append]; simp [dVal]
set_option maxHeartbeats 4000000 in
theorem addDigits_s (a b : List Int) (ha : okD a) (hb : okD b) (hla : a.length ≤ 1000000) (hlb : b.length ≤ 1000000) :
    ∃ l : List Int, okD l ∧ l.length ≤ a.length + b.length + 1 ∧ dVal l = dVal a + dVal b ∧ Sound Tryz.prog 100 [.sl (ints a), .sl (ints b)] (.sl (ints l)) := by
  obtain ⟨m, hm⟩ : ∃ m, m = max a.length b.length := ⟨_, rfl⟩
  obtain ⟨n, hn⟩ : ∃ n, n = if (addS a b m).2 = 0 then m else m + 1 := ⟨_, rfl⟩
  have hok := addS_ok ha hb
  have hn0 : n ≤ m + 1 := by rw [hn]; split <;> omega
  have hmn : m ≤ n := by rw [hn]; split <;> omega
  have hc1 : (addS a b (m + 1)).2 = 0 := by
    have h := (hok m).2.2.1
    simp only [addS]
    rw [dAt_ge (show a.length ≤ m by omega), dAt_ge (show b.length ≤ m by omega)]
    omega
  have hc : (addS a b n).2 = 0 := by
    by_cases e : (addS a b m).2 = 0
    · rw [if_pos e] at hn; rw [hn]; exact e
    · rw [if_neg e] at hn; rw [hn]; exact hc1
  have hgo : ∀ i, i < n → (i < a.length ∨ i < b.length ∨ 0 < (addS a b i).2) := by
    intro i hi
    by_cases e : i < m
    · omega
    · have e2 : i = m := by omega
      subst e2
      right; right
      by_cases e3 : (addS a b i).2 = 0
      · rw [if_pos e3] at hn; omega
      · have := (hok i).2.2.1; omega
  refine ⟨(addS a b n).1, (hok n).2.1, by rw [(hok n).1]; omega, ?_, ?_⟩
  · have h := (hok n).2.2.2
    rw [hc, Int.mul_zero, Int.add_zero, dPre_all (by omega), dPre_all (by omega)] at h
    exact h
  refine sound_W f_base_addDigits (Nat.le_of_ble_eq_true rfl) ?_
  have hmax := maxLen_big
  simp only [c_base_addDigits, vcV, vcD, Int.reduceEq, Int.reduceNe, Int.reduceLT, Int.reduceLE, Nat.reduceEqDiff, Nat.reduceAdd, reduceIte, reduceCtorEq, Nat.reduceLT, Nat.reduceLeDiff, eq_self, vcP2, Nat.reduceShiftRight, Nat.reduceMod]
  refine W_loop (t := .mk) (α := PSigma fun i : Nat => i ≤ n ∧ (True)) (fun ⟨i, _⟩ => ((envOf [(0, .sl (ints a)), (1, .sl (ints b)), (5, .buf 100 i), (6, .int .i64 (addS a b i).2), (7, .int .i64 i)], stOf [(100, ⟨3, 1, ints (addS a b i).1⟩)]))) (fun i => n - i.1) ⟨0, Nat.zero_le _, ?_⟩ ?_ (fun ⟨i, hi, hn⟩ => ?_)
  · trivial
  · have z1 : ints (addS a b 0).1 = [] := rfl
    have z2 : (addS a b 0).2 = 0 := rfl
    refine weakX [(100, none)] (of_decide_eq_true rfl) (of_decide_eq_true rfl) ?_
    (simp only [z1, z2, vcW, vcV, vcD, Int.reduceEq, Int.reduceNe, Int.reduceLT, Int.reduceLE, Nat.reduceEqDiff, Nat.reduceAdd, reduceIte, reduceCtorEq, Nat.reduceLT, Nat.reduceLeDiff, eq_self, vcP2, Nat.reduceShiftRight, Nat.reduceMod])
    (repeat' first | exact trivial | (with_reducible exact RnB.fxB (ints_fxB _)) | (with_reducible rfl) | (with_reducible refine And.intro ?_ ?_) | (with_reducible refine RnB.bb ?_; simp only [vcW, vcV, vcD, Int.reduceEq, Int.reduceNe, Int.reduceLT, Int.reduceLE, Nat.reduceEqDiff, Nat.reduceAdd, reduceIte, reduceCtorEq, Nat.reduceLT, Nat.reduceLeDiff, eq_self, vcP2, Nat.reduceShiftRight, Nat.reduceMod]) | (with_reducible refine RnB.nb ?_; simp only [vcW, vcV, vcD, Int.reduceEq, Int.reduceNe, Int.reduceLT, Int.reduceLE, Nat.reduceEqDiff, Nat.reduceAdd, reduceIte, reduceCtorEq, Nat.reduceLT, Nat.reduceLeDiff, eq_self, vcP2, Nat.reduceShiftRight, Nat.reduceMod]) | (with_reducible refine RnB.ii ?_) | (with_reducible refine RnB.app ?_) | (with_reducible refine RnB.fxB ?_; simp only [vcW, vcV, vcD, Int.reduceEq, Int.reduceNe, Int.reduceLT, Int.reduceLE, Nat.reduceEqDiff, Nat.reduceAdd, reduceIte, reduceCtorEq, Nat.reduceLT, Nat.reduceLeDiff, eq_self, vcP2, Nat.reduceShiftRight, Nat.reduceMod]) | omega)
  · by_cases h' : i < n
    · obtain ⟨o1, o2, o3, o4⟩ := hok i
      have hg := hgo i h'
      have s1 : (addS a b (i + 1)).1 = (addS a b i).1 ++ [(dAt a i + dAt b i + (addS a b i).2) % 1000000000] := rfl
      have s2 : (addS a b (i + 1)).2 = (dAt a i + dAt b i + (addS a b i).2) / 1000000000 := rfl
      have qa := dAt_ok ha i
      have qb := dAt_ok hb i
      have t1 : (dAt a i + dAt b i + (addS a b i).2).tmod 1000000000 = (dAt a i + dAt b i + (addS a b i).2) % 1000000000 := Int.tmod_eq_emod_of_nonneg (by omega)
      have t2 : (dAt a i + dAt b i + (addS a b i).2).tdiv 1000000000 = (dAt a i + dAt b i + (addS a b i).2) / 1000000000 := Int.tdiv_eq_ediv_of_nonneg (by omega)
      have hda := digit_s a i (by omega)
      have hdb := digit_s b i (by omega)
      obtain ⟨l, hl⟩ : ∃ l, l = (addS a b i).1 := ⟨_, rfl⟩
      obtain ⟨c, hcc⟩ : ∃ c, c = (addS a b i).2 := ⟨_, rfl⟩
      dsimp only
      rw [← hl, ← hcc]
      simp only [← hl, ← hcc] at o1 o2 o3 o4 s1 s2 t1 t2 hg
      generalize hs : dAt a i + dAt b i + c = s at *
      have hia : ints (l ++ [s % 1000000000]) = ints l ++ [.int .i64 (s % 1000000000)] := ints_append _ _
      rcases Decidable.em ((i : Int) < a.length) with hA | hA
      all_goals rcases Decidable.em ((i : Int) < b.length) with hB | hB
      all_goals first
        | (have hcp : (0 : Int) < c := by omega
           simp only [hA, hB, hcp, vcV, vcD, Int.reduceEq, Int.reduceNe, Int.reduceLT, Int.reduceLE, Nat.reduceEqDiff, Nat.reduceAdd, reduceIte, reduceCtorEq, Nat.reduceLT, Nat.reduceLeDiff, eq_self, vcP2, Nat.reduceShiftRight, Nat.reduceMod])
        | simp only [hA, hB, vcV, vcD, Int.reduceEq, Int.reduceNe, Int.reduceLT, Int.reduceLE, Nat.reduceEqDiff, Nat.reduceAdd, reduceIte, reduceCtorEq, Nat.reduceLT, Nat.reduceLeDiff, eq_self, vcP2, Nat.reduceShiftRight, Nat.reduceMod]
      all_goals
        refine callS_of hda ?_
        simp only [vcV, vcD, Int.reduceEq, Int.reduceNe, Int.reduceLT, Int.reduceLE, Nat.reduceEqDiff, Nat.reduceAdd, reduceIte, reduceCtorEq, Nat.reduceLT, Nat.reduceLeDiff, eq_self, vcP2, Nat.reduceShiftRight, Nat.reduceMod]
        refine callS_of hdb ?_
        simp only [hs, t1, t2, ints_length, o1, vcV, vcD, Int.reduceEq, Int.reduceNe, Int.reduceLT, Int.reduceLE, Nat.reduceEqDiff, Nat.reduceAdd, reduceIte, reduceCtorEq, Nat.reduceLT, Nat.reduceLeDiff, eq_self, vcP2, Nat.reduceShiftRight, Nat.reduceMod]
        (repeat (with_reducible refine And.intro ?_ ?_; focus (first | omega | (unfold I64; omega))))
        refine ⟨⟨i + 1, h', trivial⟩, by simp only; omega, ?_⟩
        refine weakX [(100, some 38)] (of_decide_eq_true rfl) (of_decide_eq_true rfl) ?_
        (simp only [s1, s2, hia, vcW, vcV, vcD, Int.reduceEq, Int.reduceNe, Int.reduceLT, Int.reduceLE, Nat.reduceEqDiff, Nat.reduceAdd, reduceIte, reduceCtorEq, Nat.reduceLT, Nat.reduceLeDiff, eq_self, vcP2, Nat.reduceShiftRight, Nat.reduceMod])
        (repeat' first | exact trivial | (with_reducible exact RnB.fxB (ints_fxB _)) | (with_reducible rfl) | (with_reducible refine And.intro ?_ ?_) | (with_reducible refine RnB.bb ?_; simp only [vcW, vcV, vcD, Int.reduceEq, Int.reduceNe, Int.reduceLT, Int.reduceLE, Nat.reduceEqDiff, Nat.reduceAdd, reduceIte, reduceCtorEq, Nat.reduceLT, Nat.reduceLeDiff, eq_self, vcP2, Nat.reduceShiftRight, Nat.reduceMod]) | (with_reducible refine RnB.nb ?_; simp only [vcW, vcV, vcD, Int.reduceEq, Int.reduceNe, Int.reduceLT, Int.reduceLE, Nat.reduceEqDiff, Nat.reduceAdd, reduceIte, reduceCtorEq, Nat.reduceLT, Nat.reduceLeDiff, eq_self, vcP2, Nat.reduceShiftRight, Nat.reduceMod]) | (with_reducible refine RnB.ii ?_) | (with_reducible refine RnB.app ?_) | (with_reducible refine RnB.fxB ?_; simp only [vcW, vcV, vcD, Int.reduceEq, Int.reduceNe, Int.reduceLT, Int.reduceLE, Nat.reduceEqDiff, Nat.reduceAdd, reduceIte, reduceCtorEq, Nat.reduceLT, Nat.reduceLeDiff, eq_self, vcP2, Nat.reduceShiftRight, Nat.reduceMod]) | omega)
        all_goals first | exact hia.symm | exact RnB.fxB (by rw [← hia]; exact ints_fxB _) | skip
    · have hin : i = n := by omega
      cases hin
      have hA : ¬ (n : Int) < a.length := by omega
      have hB : ¬ (n : Int) < b.length := by omega
      have hC : ¬ (0 : Int) < (addS a b n).2 := by omega
      have hl := (hok n).1
      simp only [hA, hB, hC, vcV, vcD, Int.reduceEq, Int.reduceNe, Int.reduceLT, Int.reduceLE, Nat.reduceEqDiff, Nat.reduceAdd, reduceIte, reduceCtorEq, Nat.reduceLT, Nat.reduceLeDiff, eq_self, vcP2, Nat.reduceShiftRight, Nat.reduceMod]
      rw [borB_good _ _ _ _ _ (by rw [ints_length, hl]) (ints_fx _)]
end Go.Proofs.YtgmpcbpmnimkoaaGreatDoor

/- Contracts: digits subtracted and compared. By an AI agent; nothing here is trusted. -/
namespace Go.Proofs.YtgmpcbpmnimkoaaGreatDoor
open Go.Av

def subS (a b : List Int) : Nat → List Int × Int
  | 0 => ([], 0)
  | i + 1 => if dAt a i - dAt b i - (subS a b i).2 < 0 then ((subS a b i).1 ++ [dAt a i - dAt b i - (subS a b i).2 + 1000000000], 1) else ((subS a b i).1 ++ [dAt a i - dAt b i - (subS a b i).2], 0)
theorem subS_ok {a b : List Int} (ha : okD a) (hb : okD b) : ∀ i, (subS a b i).1.length = i ∧ okD (subS a b i).1 ∧ (0 ≤ (subS a b i).2 ∧ (subS a b i).2 ≤ 1) ∧ dVal (subS a b i).1 = dPre a i - dPre b i + 1000000000 ^ i * (subS a b i).2
  | 0 => ⟨rfl, (fun d hd => by cases hd), by simp [subS], by simp [subS, dVal, dPre]⟩
  | i + 1 => by
    obtain ⟨h1, h2, h3, h4⟩ := subS_ok ha hb i
    have qa := dAt_ok ha i
    have qb := dAt_ok hb i
    rw [dPre_succ, dPre_succ]
    simp only [subS]
    generalize subS a b i = p at *
    obtain ⟨l, c⟩ := p
    simp only at h1 h2 h3 h4 ⊢
    obtain ⟨s, hs⟩ : ∃ s, s = dAt a i - dAt b i - c := ⟨_, rfl⟩
    rw [← hs]
    have e2 : (1000000000 : Int) ^ i * s = 1000000000 ^ i * dAt a i - 1000000000 ^ i * dAt b i - 1000000000 ^ i * c := by rw [hs, Int.mul_sub, Int.mul_sub]
    by_cases hc : s < 0
    · rw [if_pos hc]
      simp only
      refine ⟨by simp [h1], ?_, by omega, ?_⟩
      · intro d hd
        rcases List.mem_append.1 hd with e | e
        · exact h2 d e
        · rw [List.mem_singleton.1 e]; omega
      · rw [dVal_snoc, h1, h4, Int.pow_succ, Int.mul_add, Int.mul_one]; omega
    · rw [if_neg hc]
      simp only
      refine ⟨by simp [h1], ?_, by omega, ?_⟩
      · intro d hd
        rcases List.mem_append.1 hd with e | e
        · exact h2 d e
        · rw [List.mem_singleton.1 e]; omega
      · rw [dVal_snoc, h1, h4, Int.mul_zero]; omega
theorem subS_val {a b : List Int} (ha : okD a) (hb : okD b) (hl : b.length ≤ a.length) (hv : dVal b ≤ dVal a) : dVal (subS a b a.length).1 = dVal a - dVal b := by
  obtain ⟨h1, h2, h3, h4⟩ := subS_ok ha hb a.length
  rw [dPre_all (Nat.le_refl _), dPre_all hl] at h4
  have hlt := dVal_lt h2
  rw [h1] at hlt
  by_cases hc : (subS a b a.length).2 = 0
  · rw [hc, Int.mul_zero] at h4; omega
  · rw [show (subS a b a.length).2 = 1 by omega, Int.mul_one] at h4; omega

set_option maxHeartbeats 4000000 in
theorem subDigits_s (a b : List Int) (ha : okD a) (hb : okD b) (hl : b.length ≤ a.length) (hla : a.length ≤ 1000000) (hv : dVal b ≤ dVal a) :
    Sound Tryz.prog 102 [.sl (ints a), .sl (ints b)] (.sl (ints (dg (dVal a - dVal b).toNat))) := by
  refine sound_W f_base_subDigits (Nat.le_of_ble_eq_true rfl) ?_
  have hok := subS_ok ha hb
  have hval := subS_val ha hb hl hv
  have hmax := maxLen_big
  simp only [c_base_subDigits, vcV, vcD, Int.reduceEq, Int.reduceNe, Int.reduceLT, Int.reduceLE, Nat.reduceEqDiff, Nat.reduceAdd, reduceIte, reduceCtorEq, Nat.reduceLT, Nat.reduceLeDiff, eq_self, vcP2, Nat.reduceShiftRight, Nat.reduceMod]
  refine W_loop (t := .mk) (α := PSigma fun i : Nat => i ≤ a.length ∧ (True)) (fun ⟨i, _⟩ => ((envOf [(0, .sl (ints a)), (1, .sl (ints b)), (5, .buf 100 i), (6, .int .i64 (subS a b i).2), (7, .int .i64 i)], stOf [(100, ⟨3, 1, ints (subS a b i).1⟩)]))) (fun i => a.length - i.1) ⟨0, Nat.zero_le _, ?_⟩ ?_ (fun ⟨i, hi, hn⟩ => ?_)
  · trivial
  · have z1 : ints (subS a b 0).1 = [] := rfl
    have z2 : (subS a b 0).2 = 0 := rfl
    refine weakX [(100, none)] (of_decide_eq_true rfl) (of_decide_eq_true rfl) ?_
    (simp only [z1, z2, vcW, vcV, vcD, Int.reduceEq, Int.reduceNe, Int.reduceLT, Int.reduceLE, Nat.reduceEqDiff, Nat.reduceAdd, reduceIte, reduceCtorEq, Nat.reduceLT, Nat.reduceLeDiff, eq_self, vcP2, Nat.reduceShiftRight, Nat.reduceMod])
    (repeat' first | exact trivial | (with_reducible exact RnB.fxB (ints_fxB _)) | (with_reducible rfl) | (with_reducible refine And.intro ?_ ?_) | (with_reducible refine RnB.bb ?_; simp only [vcW, vcV, vcD, Int.reduceEq, Int.reduceNe, Int.reduceLT, Int.reduceLE, Nat.reduceEqDiff, Nat.reduceAdd, reduceIte, reduceCtorEq, Nat.reduceLT, Nat.reduceLeDiff, eq_self, vcP2, Nat.reduceShiftRight, Nat.reduceMod]) | (with_reducible refine RnB.nb ?_; simp only [vcW, vcV, vcD, Int.reduceEq, Int.reduceNe, Int.reduceLT, Int.reduceLE, Nat.reduceEqDiff, Nat.reduceAdd, reduceIte, reduceCtorEq, Nat.reduceLT, Nat.reduceLeDiff, eq_self, vcP2, Nat.reduceShiftRight, Nat.reduceMod]) | (with_reducible refine RnB.ii ?_) | (with_reducible refine RnB.app ?_) | (with_reducible refine RnB.fxB ?_; simp only [vcW, vcV, vcD, Int.reduceEq, Int.reduceNe, Int.reduceLT, Int.reduceLE, Nat.reduceEqDiff, Nat.reduceAdd, reduceIte, reduceCtorEq, Nat.reduceLT, Nat.reduceLeDiff, eq_self, vcP2, Nat.reduceShiftRight, Nat.reduceMod]) | omega)
  · by_cases h' : i < a.length
    · obtain ⟨o1, o2, o3, o4⟩ := hok i
      have qa := dAt_ok ha i
      have qb := dAt_ok hb i
      have s1 : (subS a b (i + 1)) = if dAt a i - dAt b i - (subS a b i).2 < 0 then ((subS a b i).1 ++ [dAt a i - dAt b i - (subS a b i).2 + 1000000000], 1) else ((subS a b i).1 ++ [dAt a i - dAt b i - (subS a b i).2], 0) := rfl
      have hga := ints_get a i h'
      rw [← dAt_lt h'] at hga
      have hdb := digit_s b i (by omega)
      obtain ⟨l, hl⟩ : ∃ l, l = (subS a b i).1 := ⟨_, rfl⟩
      obtain ⟨c, hcc⟩ : ∃ c, c = (subS a b i).2 := ⟨_, rfl⟩
      dsimp only
      rw [← hl, ← hcc]
      simp only [← hl, ← hcc] at o1 o2 o3 o4 s1
      have hc1 : (i : Int) < a.length := by omega
      generalize dAt a i = x at *
      generalize dAt b i = y at *
      have hI : I64 (x - y) := by unfold I64; omega
      have hI2 : I64 (x - y - c) := by unfold I64; omega
      simp only [hc1, hga, vcV, vcD, Int.reduceEq, Int.reduceNe, Int.reduceLT, Int.reduceLE, Nat.reduceEqDiff, Nat.reduceAdd, reduceIte, reduceCtorEq, Nat.reduceLT, Nat.reduceLeDiff, eq_self, vcP2, Nat.reduceShiftRight, Nat.reduceMod]
      (repeat (with_reducible refine And.intro ?_ ?_; focus (first | omega | (unfold I64; omega))))
      refine callS_of hdb ?_
      by_cases hneg : x - y - c < 0
      · rw [if_pos hneg] at s1
        have s2 : (subS a b (i + 1)).1 = l ++ [x - y - c + 1000000000] := by rw [s1]
        have s3 : (subS a b (i + 1)).2 = 1 := by rw [s1]
        have hia : ints (l ++ [x - y - c + 1000000000]) = ints l ++ [.int .i64 (x - y - c + 1000000000)] := ints_append _ _
        simp only [hneg, ints_length, o1, vcV, vcD, Int.reduceEq, Int.reduceNe, Int.reduceLT, Int.reduceLE, Nat.reduceEqDiff, Nat.reduceAdd, reduceIte, reduceCtorEq, Nat.reduceLT, Nat.reduceLeDiff, eq_self, vcP2, Nat.reduceShiftRight, Nat.reduceMod]
        (repeat (with_reducible refine And.intro ?_ ?_; focus (first | omega | (unfold I64; omega))))
        refine ⟨⟨i + 1, h', trivial⟩, by simp only; omega, ?_⟩
        refine weakX [(100, some 32)] (of_decide_eq_true rfl) (of_decide_eq_true rfl) ?_
        (simp only [s2, s3, hia, vcW, vcV, vcD, Int.reduceEq, Int.reduceNe, Int.reduceLT, Int.reduceLE, Nat.reduceEqDiff, Nat.reduceAdd, reduceIte, reduceCtorEq, Nat.reduceLT, Nat.reduceLeDiff, eq_self, vcP2, Nat.reduceShiftRight, Nat.reduceMod])
        (repeat' first | exact trivial | (with_reducible exact RnB.fxB (ints_fxB _)) | (with_reducible rfl) | (with_reducible refine And.intro ?_ ?_) | (with_reducible refine RnB.bb ?_; simp only [vcW, vcV, vcD, Int.reduceEq, Int.reduceNe, Int.reduceLT, Int.reduceLE, Nat.reduceEqDiff, Nat.reduceAdd, reduceIte, reduceCtorEq, Nat.reduceLT, Nat.reduceLeDiff, eq_self, vcP2, Nat.reduceShiftRight, Nat.reduceMod]) | (with_reducible refine RnB.nb ?_; simp only [vcW, vcV, vcD, Int.reduceEq, Int.reduceNe, Int.reduceLT, Int.reduceLE, Nat.reduceEqDiff, Nat.reduceAdd, reduceIte, reduceCtorEq, Nat.reduceLT, Nat.reduceLeDiff, eq_self, vcP2, Nat.reduceShiftRight, Nat.reduceMod]) | (with_reducible refine RnB.ii ?_) | (with_reducible refine RnB.app ?_) | (with_reducible refine RnB.fxB ?_; simp only [vcW, vcV, vcD, Int.reduceEq, Int.reduceNe, Int.reduceLT, Int.reduceLE, Nat.reduceEqDiff, Nat.reduceAdd, reduceIte, reduceCtorEq, Nat.reduceLT, Nat.reduceLeDiff, eq_self, vcP2, Nat.reduceShiftRight, Nat.reduceMod]) | omega)
        all_goals first | exact hia.symm | exact RnB.fxB (by rw [← hia]; exact ints_fxB _)
      · rw [if_neg hneg] at s1
        have s2 : (subS a b (i + 1)).1 = l ++ [x - y - c] := by rw [s1]
        have s3 : (subS a b (i + 1)).2 = 0 := by rw [s1]
        have hia : ints (l ++ [x - y - c]) = ints l ++ [.int .i64 (x - y - c)] := ints_append _ _
        simp only [hneg, ints_length, o1, vcV, vcD, Int.reduceEq, Int.reduceNe, Int.reduceLT, Int.reduceLE, Nat.reduceEqDiff, Nat.reduceAdd, reduceIte, reduceCtorEq, Nat.reduceLT, Nat.reduceLeDiff, eq_self, vcP2, Nat.reduceShiftRight, Nat.reduceMod]
        (repeat (with_reducible refine And.intro ?_ ?_; focus (first | omega | (unfold I64; omega))))
        refine ⟨⟨i + 1, h', trivial⟩, by simp only; omega, ?_⟩
        refine weakX [(100, some 32)] (of_decide_eq_true rfl) (of_decide_eq_true rfl) ?_
        (simp only [s2, s3, hia, vcW, vcV, vcD, Int.reduceEq, Int.reduceNe, Int.reduceLT, Int.reduceLE, Nat.reduceEqDiff, Nat.reduceAdd, reduceIte, reduceCtorEq, Nat.reduceLT, Nat.reduceLeDiff, eq_self, vcP2, Nat.reduceShiftRight, Nat.reduceMod])
        (repeat' first | exact trivial | (with_reducible exact RnB.fxB (ints_fxB _)) | (with_reducible rfl) | (with_reducible refine And.intro ?_ ?_) | (with_reducible refine RnB.bb ?_; simp only [vcW, vcV, vcD, Int.reduceEq, Int.reduceNe, Int.reduceLT, Int.reduceLE, Nat.reduceEqDiff, Nat.reduceAdd, reduceIte, reduceCtorEq, Nat.reduceLT, Nat.reduceLeDiff, eq_self, vcP2, Nat.reduceShiftRight, Nat.reduceMod]) | (with_reducible refine RnB.nb ?_; simp only [vcW, vcV, vcD, Int.reduceEq, Int.reduceNe, Int.reduceLT, Int.reduceLE, Nat.reduceEqDiff, Nat.reduceAdd, reduceIte, reduceCtorEq, Nat.reduceLT, Nat.reduceLeDiff, eq_self, vcP2, Nat.reduceShiftRight, Nat.reduceMod]) | (with_reducible refine RnB.ii ?_) | (with_reducible refine RnB.app ?_) | (with_reducible refine RnB.fxB ?_; simp only [vcW, vcV, vcD, Int.reduceEq, Int.reduceNe, Int.reduceLT, Int.reduceLE, Nat.reduceEqDiff, Nat.reduceAdd, reduceIte, reduceCtorEq, Nat.reduceLT, Nat.reduceLeDiff, eq_self, vcP2, Nat.reduceShiftRight, Nat.reduceMod]) | omega)
        all_goals first | exact hia.symm | exact RnB.fxB (by rw [← hia]; exact ints_fxB _)
    · have hin : i = a.length := by omega
      cases hin
      obtain ⟨o1, o2, o3, o4⟩ := hok a.length
      have hc1 : ¬ (a.length : Int) < a.length := by omega
      have htr := trim_dg o2
      rw [hval] at htr
      have hts := trimmed_s (subS a b a.length).1 (by omega)
      rw [htr] at hts
      have hbg := borB_good (s := stOf [(100, ⟨3, 1, ints (subS a b a.length).1⟩)]) 4 a.length 3 1 (ints (subS a b a.length).1) (by rw [ints_length, o1]) (ints_fx _)
      simp only [hc1, vcV, vcD, Int.reduceEq, Int.reduceNe, Int.reduceLT, Int.reduceLE, Nat.reduceEqDiff, Nat.reduceAdd, reduceIte, reduceCtorEq, Nat.reduceLT, Nat.reduceLeDiff, eq_self, vcP2, Nat.reduceShiftRight, Nat.reduceMod]
      rw [hbg]
      refine callS_of hts ?_
      simp only [vcV, vcD, Int.reduceEq, Int.reduceNe, Int.reduceLT, Int.reduceLE, Nat.reduceEqDiff, Nat.reduceAdd, reduceIte, reduceCtorEq, Nat.reduceLT, Nat.reduceLeDiff, eq_self, vcP2, Nat.reduceShiftRight, Nat.reduceMod]

theorem dg_mono : ∀ (y x : Nat), y ≤ x → (dg y).length ≤ (dg x).length := by
  intro y
  induction y using Nat.strongRecOn with
  | _ y ih =>
    intro x h
    by_cases e : y = 0
    · rw [e, dg_zero]; exact Nat.zero_le _
    · rw [dg_pos e, dg_pos (show x ≠ 0 by omega), List.length_cons, List.length_cons]
      have := ih (y / 1000000000) (Nat.div_lt_self (by omega) (by omega)) (x / 1000000000) (Nat.div_le_div_right h)
      omega
theorem dVal_split (l : List Int) (i : Nat) (h : i < l.length) : dVal l = dPre l i + 1000000000 ^ i * (l[i] + 1000000000 * dVal (l.drop (i + 1))) := by
  have e : l = l.take i ++ (l[i] :: l.drop (i + 1)) := by rw [← List.drop_eq_getElem_cons h, List.take_append_drop]
  have : dVal l = dVal (l.take i ++ (l[i] :: l.drop (i + 1))) := by rw [← e]
  rw [this, dVal_append, List.length_take, Nat.min_eq_left (by omega)]; rfl
theorem okD_take {l : List Int} (h : okD l) (i : Nat) : okD (l.take i) := fun d hd => h d (List.mem_of_mem_take hd)
theorem dVal_cmp {a b : List Int} (ha : okD a) (hb : okD b) {i : Nat} (h1 : i < a.length) (h2 : i < b.length) (hd : a.drop (i + 1) = b.drop (i + 1)) (hlt : a[i] < b[i]) : dVal a < dVal b := by
  rw [dVal_split a i h1, dVal_split b i h2, hd]
  have q1 := dVal_lt (okD_take ha i)
  have q2 := dVal_nonneg (okD_take hb i)
  rw [List.length_take, Nat.min_eq_left (by omega)] at q1
  unfold dPre
  have hp : (0 : Int) < 1000000000 ^ i := Int.pow_pos (by omega)
  have : (1000000000 : Int) ^ i * (a[i] + 1000000000 * dVal (b.drop (i + 1)) + 1) ≤ 1000000000 ^ i * (b[i] + 1000000000 * dVal (b.drop (i + 1))) := Int.mul_le_mul_of_nonneg_left (by omega) (by omega)
  rw [Int.mul_add _ _ 1, Int.mul_one] at this
  omega
theorem cmpDigits_s (x y : Nat) (hx : (dg x).length ≤ 1000000) (hy : (dg y).length ≤ 1000000) :
    Sound Tryz.prog 101 [.sl (ints (dg x)), .sl (ints (dg y))] (.int .i64 ((x : Int) - y).sign) := by
  refine sound_W f_base_cmpDigits (Nat.le_of_ble_eq_true rfl) ?_
  have ha := okD_dg x
  have hb := okD_dg y
  have va := dVal_dg x
  have vb := dVal_dg y
  have m1 := dg_mono y x
  have m2 := dg_mono x y
  generalize dg x = a at *
  generalize dg y = b at *
  have slt : dVal a < dVal b → ((x : Int) - y).sign = -1 := fun h => Int.sign_eq_neg_one_of_neg (by omega)
  have sgt : dVal b < dVal a → ((x : Int) - y).sign = 1 := fun h => Int.sign_eq_one_of_pos (by omega)
  by_cases hlen : a.length = b.length
  case neg =>
    have hne : ¬ (a.length : Int) = b.length := by omega
    by_cases hlt : (a.length : Int) < b.length
    · have hs := slt (by rw [va, vb]; by_cases q : y ≤ x; have := m1 q; omega; omega)
      simp only [c_base_cmpDigits, hne, hlt, hs, vcV, vcD, Int.reduceEq, Int.reduceNe, Int.reduceLT, Int.reduceLE, Nat.reduceEqDiff, Nat.reduceAdd, reduceIte, reduceCtorEq, Nat.reduceLT, Nat.reduceLeDiff, eq_self, vcP2, Nat.reduceShiftRight, Nat.reduceMod]
    · have hs := sgt (by rw [va, vb]; by_cases q : x ≤ y; have := m2 q; omega; omega)
      simp only [c_base_cmpDigits, hne, hlt, hs, vcV, vcD, Int.reduceEq, Int.reduceNe, Int.reduceLT, Int.reduceLE, Nat.reduceEqDiff, Nat.reduceAdd, reduceIte, reduceCtorEq, Nat.reduceLT, Nat.reduceLeDiff, eq_self, vcP2, Nat.reduceShiftRight, Nat.reduceMod]
  have hle : (a.length : Int) = b.length := by omega
  simp only [c_base_cmpDigits, hle, vcV, vcD, Int.reduceEq, Int.reduceNe, Int.reduceLT, Int.reduceLE, Nat.reduceEqDiff, Nat.reduceAdd, reduceIte, reduceCtorEq, Nat.reduceLT, Nat.reduceLeDiff, eq_self, vcP2, Nat.reduceShiftRight, Nat.reduceMod]
  (repeat (with_reducible refine And.intro ?_ ?_; focus (first | omega | (unfold I64; omega))))
  refine W_loop (t := .mk) (α := PSigma fun k : Nat => k ≤ a.length ∧ a.drop k = b.drop k) (fun ⟨k, _⟩ => (envOf [(0, .sl (ints a)), (1, .sl (ints b)), (5, .int .i64 ((k : Int) - 1))], stOf [])) (fun k => k.1) ⟨a.length, Nat.le_refl _, by rw [List.drop_length, hlen, List.drop_length]⟩ ?_ (fun ⟨k, hk, hd⟩ => ?_)
  · refine weakX [] (of_decide_eq_true rfl) (of_decide_eq_true rfl) ?_
    (simp only [hle, vcW, vcV, vcD, Int.reduceEq, Int.reduceNe, Int.reduceLT, Int.reduceLE, Nat.reduceEqDiff, Nat.reduceAdd, reduceIte, reduceCtorEq, Nat.reduceLT, Nat.reduceLeDiff, eq_self, vcP2, Nat.reduceShiftRight, Nat.reduceMod])
    (repeat' first | exact trivial | (with_reducible exact RnB.fxB (ints_fxB _)) | (with_reducible rfl) | (with_reducible refine And.intro ?_ ?_) | (with_reducible refine RnB.bb ?_; simp only [vcW, vcV, vcD, Int.reduceEq, Int.reduceNe, Int.reduceLT, Int.reduceLE, Nat.reduceEqDiff, Nat.reduceAdd, reduceIte, reduceCtorEq, Nat.reduceLT, Nat.reduceLeDiff, eq_self, vcP2, Nat.reduceShiftRight, Nat.reduceMod]) | (with_reducible refine RnB.nb ?_; simp only [vcW, vcV, vcD, Int.reduceEq, Int.reduceNe, Int.reduceLT, Int.reduceLE, Nat.reduceEqDiff, Nat.reduceAdd, reduceIte, reduceCtorEq, Nat.reduceLT, Nat.reduceLeDiff, eq_self, vcP2, Nat.reduceShiftRight, Nat.reduceMod]) | (with_reducible refine RnB.ii ?_) | (with_reducible refine RnB.app ?_) | (with_reducible refine RnB.fxB ?_; simp only [vcW, vcV, vcD, Int.reduceEq, Int.reduceNe, Int.reduceLT, Int.reduceLE, Nat.reduceEqDiff, Nat.reduceAdd, reduceIte, reduceCtorEq, Nat.reduceLT, Nat.reduceLeDiff, eq_self, vcP2, Nat.reduceShiftRight, Nat.reduceMod]) | omega)
  · cases k with
    | zero =>
      have z0 : ¬ (0 : Int) ≤ ((0 : Nat) : Int) - 1 := by omega
      simp only [List.drop_zero] at hd
      have hs : ((x : Int) - y).sign = 0 := by rw [← va, ← vb, hd]; simp
      simp only [z0, hs, vcV, vcD, Int.reduceEq, Int.reduceNe, Int.reduceLT, Int.reduceLE, Nat.reduceEqDiff, Nat.reduceAdd, reduceIte, reduceCtorEq, Nat.reduceLT, Nat.reduceLeDiff, eq_self, vcP2, Nat.reduceShiftRight, Nat.reduceMod]
    | succ k =>
      have z0 : (0 : Int) ≤ (k : Int) := by omega
      have z1 : ((k + 1 : Nat) : Int) - 1 = (k : Int) := by omega
      have k1 : k < a.length := by omega
      have k2 : k < b.length := by omega
      have g1 := ints_get a k k1
      have g2 := ints_get b k k2
      by_cases c1 : a[k] < b[k]
      · have hs := slt (dVal_cmp ha hb k1 k2 hd c1)
        simp only [z1, z0, g1, g2, c1, hs, vcV, vcD, Int.reduceEq, Int.reduceNe, Int.reduceLT, Int.reduceLE, Nat.reduceEqDiff, Nat.reduceAdd, reduceIte, reduceCtorEq, Nat.reduceLT, Nat.reduceLeDiff, eq_self, vcP2, Nat.reduceShiftRight, Nat.reduceMod]
      · by_cases c2 : b[k] < a[k]
        · have hs := sgt (dVal_cmp hb ha k2 k1 hd.symm c2)
          simp only [z1, z0, g1, g2, c1, c2, hs, vcV, vcD, Int.reduceEq, Int.reduceNe, Int.reduceLT, Int.reduceLE, Nat.reduceEqDiff, Nat.reduceAdd, reduceIte, reduceCtorEq, Nat.reduceLT, Nat.reduceLeDiff, eq_self, vcP2, Nat.reduceShiftRight, Nat.reduceMod]
        · have hdk : a.drop k = b.drop k := by rw [List.drop_eq_getElem_cons k1, List.drop_eq_getElem_cons k2, hd, show a[k] = b[k] by omega]
          simp only [z1, z0, g1, g2, c1, c2, vcV, vcD, Int.reduceEq, Int.reduceNe, Int.reduceLT, Int.reduceLE, Nat.reduceEqDiff, Nat.reduceAdd, reduceIte, reduceCtorEq, Nat.reduceLT, Nat.reduceLeDiff, eq_self, vcP2, Nat.reduceShiftRight, Nat.reduceMod]
          (repeat (with_reducible refine And.intro ?_ ?_; focus (first | omega | (unfold I64; omega))))
          refine ⟨⟨k, by omega, hdk⟩, by simp only; omega, ?_⟩
          refine weakX [] (of_decide_eq_true rfl) (of_decide_eq_true rfl) ?_
          (simp only [vcW, vcV, vcD, Int.reduceEq, Int.reduceNe, Int.reduceLT, Int.reduceLE, Nat.reduceEqDiff, Nat.reduceAdd, reduceIte, reduceCtorEq, Nat.reduceLT, Nat.reduceLeDiff, eq_self, vcP2, Nat.reduceShiftRight, Nat.reduceMod])
          (repeat' first | exact trivial | (with_reducible exact RnB.fxB (ints_fxB _)) | (with_reducible rfl) | (with_reducible refine And.intro ?_ ?_) | (with_reducible refine RnB.bb ?_; simp only [vcW, vcV, vcD, Int.reduceEq, Int.reduceNe, Int.reduceLT, Int.reduceLE, Nat.reduceEqDiff, Nat.reduceAdd, reduceIte, reduceCtorEq, Nat.reduceLT, Nat.reduceLeDiff, eq_self, vcP2, Nat.reduceShiftRight, Nat.reduceMod]) | (with_reducible refine RnB.nb ?_; simp only [vcW, vcV, vcD, Int.reduceEq, Int.reduceNe, Int.reduceLT, Int.reduceLE, Nat.reduceEqDiff, Nat.reduceAdd, reduceIte, reduceCtorEq, Nat.reduceLT, Nat.reduceLeDiff, eq_self, vcP2, Nat.reduceShiftRight, Nat.reduceMod]) | (with_reducible refine RnB.ii ?_) | (with_reducible refine RnB.app ?_) | (with_reducible refine RnB.fxB ?_; simp only [vcW, vcV, vcD, Int.reduceEq, Int.reduceNe, Int.reduceLT, Int.reduceLE, Nat.reduceEqDiff, Nat.reduceAdd, reduceIte, reduceCtorEq, Nat.reduceLT, Nat.reduceLeDiff, eq_self, vcP2, Nat.reduceShiftRight, Nat.reduceMod]) | omega)
end Go.Proofs.YtgmpcbpmnimkoaaGreatDoor

/- Contracts: wide numbers added, subtracted, compared. By an AI agent; nothing here is trusted. -/
namespace Go.Proofs.YtgmpcbpmnimkoaaGreatDoor
open Go.Av

def wOk (k : Nat) (v : Int) : Prop := (dg v.natAbs).length ≤ k
theorem wOk_of {k : Nat} {v : Int} (h : v.natAbs < 1000000000 ^ k) : wOk k v := dg_len h
theorem wOk_neg {k : Nat} {v : Int} (h : wOk k v) : wOk k (-v) := by unfold wOk at *; rwa [Int.natAbs_neg]
theorem sign_cases {x : Int} (h : x ≠ 0) : (0 < x ∧ x.sign = 1) ∨ (x < 0 ∧ x.sign = -1) := by
  rcases Int.lt_trichotomy x 0 with q | q | q
  · exact .inr ⟨q, Int.sign_eq_neg_one_of_neg q⟩
  · exact absurd q h
  · exact .inl ⟨q, Int.sign_eq_one_of_pos q⟩
set_option maxHeartbeats 4000000 in
theorem WideAdd_s (x y : Int) (hx : wOk 100000 x) (hy : wOk 100000 y) : Sound Tryz.prog 21 [wideA x, wideA y] (wideA (x + y)) := by
  refine sound_W f_base_WideAdd (Nat.le_of_ble_eq_true rfl) ?_
  unfold wOk at hx hy
  have e1 : ∀ v : Int, dVal (dg v.natAbs) = v.natAbs := fun v => dVal_dg _
  by_cases h1 : x = 0
  · subst h1
    have s1 : (0 : Int).sign = 0 := rfl
    rw [Int.zero_add]
    simp only [c_base_WideAdd, wideA, s1, vcV, vcD, Int.reduceEq, Int.reduceNe, Int.reduceLT, Int.reduceLE, Nat.reduceEqDiff, Nat.reduceAdd, reduceIte, reduceCtorEq, Nat.reduceLT, Nat.reduceLeDiff, eq_self, vcP2, Nat.reduceShiftRight, Nat.reduceMod]
  by_cases h2 : y = 0
  · subst h2
    have s1 : (0 : Int).sign = 0 := rfl
    have s2 : ¬ x.sign = 0 := by rw [Int.sign_eq_zero_iff_zero]; exact h1
    rw [Int.add_zero]
    simp only [c_base_WideAdd, wideA, s1, s2, vcV, vcD, Int.reduceEq, Int.reduceNe, Int.reduceLT, Int.reduceLE, Nat.reduceEqDiff, Nat.reduceAdd, reduceIte, reduceCtorEq, Nat.reduceLT, Nat.reduceLeDiff, eq_self, vcP2, Nat.reduceShiftRight, Nat.reduceMod]
  have s1 : ¬ x.sign = 0 := by rw [Int.sign_eq_zero_iff_zero]; exact h1
  have s2 : ¬ y.sign = 0 := by rw [Int.sign_eq_zero_iff_zero]; exact h2
  have sx := sign_cases h1
  have sy := sign_cases h2
  by_cases h3 : x.sign = y.sign
  · obtain ⟨l, l1, l2, l3, l4⟩ := addDigits_s _ _ (okD_dg x.natAbs) (okD_dg y.natAbs) (by omega) (by omega)
    rw [e1, e1] at l3
    have hw := wideOf_s y.sign l (by omega) l1 (by omega)
    have hv : y.sign * dVal l = x + y := by
      rw [l3]
      rcases sx with ⟨q1, q2⟩ | ⟨q1, q2⟩ <;> rcases sy with ⟨q3, q4⟩ | ⟨q3, q4⟩ <;> rw [q4] <;> omega
    rw [hv] at hw
    have hr : wideA (x + y) = .agg [.int .i64 (x + y).sign, .sl (ints (dg (x + y).natAbs))] := rfl
    rw [hr] at hw ⊢
    simp only [c_base_WideAdd, wideA, s1, s2, h3, vcV, vcD, Int.reduceEq, Int.reduceNe, Int.reduceLT, Int.reduceLE, Nat.reduceEqDiff, Nat.reduceAdd, reduceIte, reduceCtorEq, Nat.reduceLT, Nat.reduceLeDiff, eq_self, vcP2, Nat.reduceShiftRight, Nat.reduceMod]
    refine callS_of l4 ?_
    simp only [vcV, vcD, Int.reduceEq, Int.reduceNe, Int.reduceLT, Int.reduceLE, Nat.reduceEqDiff, Nat.reduceAdd, reduceIte, reduceCtorEq, Nat.reduceLT, Nat.reduceLeDiff, eq_self, vcP2, Nat.reduceShiftRight, Nat.reduceMod]
    refine callS_of hw ?_
    simp only [vcV, vcD, Int.reduceEq, Int.reduceNe, Int.reduceLT, Int.reduceLE, Nat.reduceEqDiff, Nat.reduceAdd, reduceIte, reduceCtorEq, Nat.reduceLT, Nat.reduceLeDiff, eq_self, vcP2, Nat.reduceShiftRight, Nat.reduceMod]
  · have hc := cmpDigits_s x.natAbs y.natAbs (by omega) (by omega)
    have hr : wideA (x + y) = .agg [.int .i64 (x + y).sign, .sl (ints (dg (x + y).natAbs))] := rfl
    rw [hr]
    rcases Nat.lt_trichotomy x.natAbs y.natAbs with hlt | heq | hgt
    · have hs : ((x.natAbs : Int) - y.natAbs).sign = -1 := Int.sign_eq_neg_one_of_neg (by omega)
      have hsd := subDigits_s (dg y.natAbs) (dg x.natAbs) (okD_dg _) (okD_dg _) (dg_mono _ _ (by omega)) (by omega) (by rw [e1, e1]; omega)
      rw [e1, e1] at hsd
      have hok := okD_dg ((y.natAbs : Int) - x.natAbs).toNat
      have hvd := dVal_dg ((y.natAbs : Int) - x.natAbs).toNat
      have hle : (dg ((y.natAbs : Int) - x.natAbs).toNat).length ≤ 1000000000 := by
        have := dg_mono ((y.natAbs : Int) - x.natAbs).toNat y.natAbs (by omega); omega
      have hw := wideOf_s y.sign _ hle hok (by omega)
      have hv : y.sign * dVal (dg ((y.natAbs : Int) - x.natAbs).toNat) = x + y := by
        rw [hvd]
        rcases sx with ⟨q1, q2⟩ | ⟨q1, q2⟩ <;> rcases sy with ⟨q3, q4⟩ | ⟨q3, q4⟩ <;> rw [q4] <;> omega
      rw [hv, hr] at hw
      rw [hs] at hc
      simp only [c_base_WideAdd, wideA, s1, s2, h3, vcV, vcD, Int.reduceEq, Int.reduceNe, Int.reduceLT, Int.reduceLE, Nat.reduceEqDiff, Nat.reduceAdd, reduceIte, reduceCtorEq, Nat.reduceLT, Nat.reduceLeDiff, eq_self, vcP2, Nat.reduceShiftRight, Nat.reduceMod]
      refine callS_of hc ?_
      simp only [vcV, vcD, Int.reduceEq, Int.reduceNe, Int.reduceLT, Int.reduceLE, Nat.reduceEqDiff, Nat.reduceAdd, reduceIte, reduceCtorEq, Nat.reduceLT, Nat.reduceLeDiff, eq_self, vcP2, Nat.reduceShiftRight, Nat.reduceMod]
      refine callS_of hsd ?_
      simp only [vcV, vcD, Int.reduceEq, Int.reduceNe, Int.reduceLT, Int.reduceLE, Nat.reduceEqDiff, Nat.reduceAdd, reduceIte, reduceCtorEq, Nat.reduceLT, Nat.reduceLeDiff, eq_self, vcP2, Nat.reduceShiftRight, Nat.reduceMod]
      refine callS_of hw ?_
      simp only [vcV, vcD, Int.reduceEq, Int.reduceNe, Int.reduceLT, Int.reduceLE, Nat.reduceEqDiff, Nat.reduceAdd, reduceIte, reduceCtorEq, Nat.reduceLT, Nat.reduceLeDiff, eq_self, vcP2, Nat.reduceShiftRight, Nat.reduceMod]
    · have hs : ((x.natAbs : Int) - y.natAbs).sign = 0 := by rw [heq]; simp
      have hz : x + y = 0 := by
        rcases sx with ⟨q1, q2⟩ | ⟨q1, q2⟩ <;> rcases sy with ⟨q3, q4⟩ | ⟨q3, q4⟩ <;> omega
      have hz1 : (0 : Int).sign = 0 := rfl
      have hz2 : dg (0 : Int).natAbs = [] := dg_zero
      have hz3 : ints [] = [] := rfl
      rw [hs] at hc
      rw [hz, hz1, hz2, hz3]
      simp only [c_base_WideAdd, wideA, s1, s2, h3, vcV, vcD, Int.reduceEq, Int.reduceNe, Int.reduceLT, Int.reduceLE, Nat.reduceEqDiff, Nat.reduceAdd, reduceIte, reduceCtorEq, Nat.reduceLT, Nat.reduceLeDiff, eq_self, vcP2, Nat.reduceShiftRight, Nat.reduceMod]
      refine callS_of hc ?_
      simp only [vcV, vcD, Int.reduceEq, Int.reduceNe, Int.reduceLT, Int.reduceLE, Nat.reduceEqDiff, Nat.reduceAdd, reduceIte, reduceCtorEq, Nat.reduceLT, Nat.reduceLeDiff, eq_self, vcP2, Nat.reduceShiftRight, Nat.reduceMod]
    · have hs : ((x.natAbs : Int) - y.natAbs).sign = 1 := Int.sign_eq_one_of_pos (by omega)
      have hsd := subDigits_s (dg x.natAbs) (dg y.natAbs) (okD_dg _) (okD_dg _) (dg_mono _ _ (by omega)) (by omega) (by rw [e1, e1]; omega)
      rw [e1, e1] at hsd
      have hok := okD_dg ((x.natAbs : Int) - y.natAbs).toNat
      have hvd := dVal_dg ((x.natAbs : Int) - y.natAbs).toNat
      have hle : (dg ((x.natAbs : Int) - y.natAbs).toNat).length ≤ 1000000000 := by
        have := dg_mono ((x.natAbs : Int) - y.natAbs).toNat x.natAbs (by omega); omega
      have hw := wideOf_s x.sign _ hle hok (by omega)
      have hv : x.sign * dVal (dg ((x.natAbs : Int) - y.natAbs).toNat) = x + y := by
        rw [hvd]
        rcases sx with ⟨q1, q2⟩ | ⟨q1, q2⟩ <;> rcases sy with ⟨q3, q4⟩ | ⟨q3, q4⟩ <;> rw [q2] <;> omega
      rw [hv, hr] at hw
      rw [hs] at hc
      simp only [c_base_WideAdd, wideA, s1, s2, h3, vcV, vcD, Int.reduceEq, Int.reduceNe, Int.reduceLT, Int.reduceLE, Nat.reduceEqDiff, Nat.reduceAdd, reduceIte, reduceCtorEq, Nat.reduceLT, Nat.reduceLeDiff, eq_self, vcP2, Nat.reduceShiftRight, Nat.reduceMod]
      refine callS_of hc ?_
      simp only [vcV, vcD, Int.reduceEq, Int.reduceNe, Int.reduceLT, Int.reduceLE, Nat.reduceEqDiff, Nat.reduceAdd, reduceIte, reduceCtorEq, Nat.reduceLT, Nat.reduceLeDiff, eq_self, vcP2, Nat.reduceShiftRight, Nat.reduceMod]
      refine callS_of hsd ?_
      simp only [vcV, vcD, Int.reduceEq, Int.reduceNe, Int.reduceLT, Int.reduceLE, Nat.reduceEqDiff, Nat.reduceAdd, reduceIte, reduceCtorEq, Nat.reduceLT, Nat.reduceLeDiff, eq_self, vcP2, Nat.reduceShiftRight, Nat.reduceMod]
      refine callS_of hw ?_
      simp only [vcV, vcD, Int.reduceEq, Int.reduceNe, Int.reduceLT, Int.reduceLE, Nat.reduceEqDiff, Nat.reduceAdd, reduceIte, reduceCtorEq, Nat.reduceLT, Nat.reduceLeDiff, eq_self, vcP2, Nat.reduceShiftRight, Nat.reduceMod]
theorem WideSub_s (x y : Int) (hx : wOk 100000 x) (hy : wOk 100000 y) : Sound Tryz.prog 22 [wideA x, wideA y] (wideA (x - y)) := by
  refine sound_W f_base_WideSub (Nat.le_of_ble_eq_true rfl) ?_
  have hn := WideNeg_s y
  have ha := WideAdd_s x (-y) hx (wOk_neg hy)
  rw [show x + -y = x - y by omega] at ha
  have hr : ∀ v, wideA v = .agg [.int .i64 v.sign, .sl (ints (dg v.natAbs))] := fun _ => rfl
  rw [hr y, hr (-y)] at hn
  rw [hr x, hr (-y), hr (x - y)] at ha
  rw [hr x, hr y, hr (x - y)]
  simp only [c_base_WideSub, vcV, vcD, Int.reduceEq, Int.reduceNe, Int.reduceLT, Int.reduceLE, Nat.reduceEqDiff, Nat.reduceAdd, reduceIte, reduceCtorEq, Nat.reduceLT, Nat.reduceLeDiff, eq_self, vcP2, Nat.reduceShiftRight, Nat.reduceMod]
  refine callS_of hn ?_
  simp only [vcV, vcD, Int.reduceEq, Int.reduceNe, Int.reduceLT, Int.reduceLE, Nat.reduceEqDiff, Nat.reduceAdd, reduceIte, reduceCtorEq, Nat.reduceLT, Nat.reduceLeDiff, eq_self, vcP2, Nat.reduceShiftRight, Nat.reduceMod]
  refine callS_of ha ?_
  simp only [vcV, vcD, Int.reduceEq, Int.reduceNe, Int.reduceLT, Int.reduceLE, Nat.reduceEqDiff, Nat.reduceAdd, reduceIte, reduceCtorEq, Nat.reduceLT, Nat.reduceLeDiff, eq_self, vcP2, Nat.reduceShiftRight, Nat.reduceMod]
theorem WideCmp_s (x y : Int) (hx : wOk 100000 x) (hy : wOk 100000 y) : Sound Tryz.prog 28 [wideA x, wideA y] (.int .i64 (x - y).sign) := by
  refine sound_W f_base_WideCmp (Nat.le_of_ble_eq_true rfl) ?_
  have ha := WideSub_s x y hx hy
  have hr : ∀ v, wideA v = .agg [.int .i64 v.sign, .sl (ints (dg v.natAbs))] := fun _ => rfl
  rw [hr x, hr y, hr (x - y)] at ha
  rw [hr x, hr y]
  simp only [c_base_WideCmp, vcV, vcD, Int.reduceEq, Int.reduceNe, Int.reduceLT, Int.reduceLE, Nat.reduceEqDiff, Nat.reduceAdd, reduceIte, reduceCtorEq, Nat.reduceLT, Nat.reduceLeDiff, eq_self, vcP2, Nat.reduceShiftRight, Nat.reduceMod]
  refine callS_of ha ?_
  simp only [vcV, vcD, Int.reduceEq, Int.reduceNe, Int.reduceLT, Int.reduceLE, Nat.reduceEqDiff, Nat.reduceAdd, reduceIte, reduceCtorEq, Nat.reduceLT, Nat.reduceLeDiff, eq_self, vcP2, Nat.reduceShiftRight, Nat.reduceMod]
end Go.Proofs.YtgmpcbpmnimkoaaGreatDoor

/- Contracts: wide numbers of ints, and multiplied. By an AI agent; nothing here is trusted. -/
namespace Go.Proofs.YtgmpcbpmnimkoaaGreatDoor
open Go.Av

theorem pow_three {k : Nat} (h : (1000000000 : Int) ^ k ≤ 9223372036854775808) : k ≤ 2 := by
  by_cases hk : k ≤ 2
  · exact hk
  · have h2 : (1000000000 : Nat) ^ 3 ≤ 1000000000 ^ k := Nat.pow_le_pow_right (by omega) (by omega)
    have h3 : ((1000000000 ^ k : Nat) : Int) = (1000000000 : Int) ^ k := by simp
    omega
theorem nilsGood : ∀ x ∈ [AV.agg [.int .i64 0, .nils]], good x = true := fun x hx => by rw [List.mem_singleton.1 hx]; rfl
theorem RnB.wide {s s' : Store} {f : Nat → Option Nat} {ty sz : Nat} : RnB s s' f ⟨ty, sz, [AV.agg [.int .i64 0, .nils]]⟩ ⟨ty, sz, [AV.agg [.int .i64 0, .nils]]⟩ := RnB.same (B := ⟨ty, sz, [AV.agg [.int .i64 0, .nils]]⟩) nilsGood
set_option maxHeartbeats 4000000 in
theorem WideOf_s (n : Int) (hn : I64 n) : Sound Tryz.prog 19 [.int .i64 n] (wideA n) := by
  refine sound_W f_base_WideOf (Nat.le_of_ble_eq_true rfl) ?_
  unfold I64 at hn
  have hmax := maxLen_big
  obtain ⟨g, hg⟩ : ∃ g : Int, g = if n < 0 then -1 else 1 := ⟨_, rfl⟩
  have hgn : g * n.natAbs = n := by rw [hg]; split <;> omega
  have hg1 : g = 1 ∨ g = -1 := by rw [hg]; split <;> simp
  have hr : wideA n = .agg [.int .i64 n.sign, .sl (ints (dg n.natAbs))] := rfl
  rw [hr]
  by_cases hneg : n < 0
  all_goals
    first
      | (have hgg : g = -1 := by rw [hg, if_pos hneg]
         simp only [c_base_WideOf, hneg, vcV, vcD, Int.reduceEq, Int.reduceNe, Int.reduceLT, Int.reduceLE, Nat.reduceEqDiff, Nat.reduceAdd, reduceIte, reduceCtorEq, Nat.reduceLT, Nat.reduceLeDiff, eq_self, vcP2, Nat.reduceShiftRight, Nat.reduceMod])
      | (have hgg : g = 1 := by rw [hg, if_neg hneg]
         simp only [c_base_WideOf, hneg, vcV, vcD, Int.reduceEq, Int.reduceNe, Int.reduceLT, Int.reduceLE, Nat.reduceEqDiff, Nat.reduceAdd, reduceIte, reduceCtorEq, Nat.reduceLT, Nat.reduceLeDiff, eq_self, vcP2, Nat.reduceShiftRight, Nat.reduceMod])
    rw [← hgg]
    refine W_loop (t := .mk) (α := PSigma fun p : Int × List Int => okD p.2 ∧ (n.natAbs : Int) = dVal p.2 + 1000000000 ^ p.2.length * p.1.natAbs ∧ p.2.length ≤ 3) (fun x => (envOf [(0, .int .i64 x.1.1), (2, .ptr 2 0 0), (3, .int .i64 g), (4, .buf 100 x.1.2.length)], stOf [(2, ⟨38, 2, [.agg [.int .i64 0, .nils]]⟩), (100, ⟨3, 1, ints x.1.2⟩)])) (fun x => x.1.1.natAbs) ⟨(n, []), (fun d hd => by cases hd), by simp [dVal], by simp⟩ ?_ (fun ⟨⟨q, l⟩, h1, h2, h3⟩ => ?_)
    · have hz : ints [] = [] := rfl
      refine weakX [(100, none)] (of_decide_eq_true rfl) (of_decide_eq_true rfl) ?_
      (simp only [hz, vcW, vcV, vcD, Int.reduceEq, Int.reduceNe, Int.reduceLT, Int.reduceLE, Nat.reduceEqDiff, Nat.reduceAdd, reduceIte, reduceCtorEq, Nat.reduceLT, Nat.reduceLeDiff, eq_self, vcP2, Nat.reduceShiftRight, Nat.reduceMod])
      repeat' (with_reducible refine And.intro ?_ ?_)
      any_goals (with_reducible exact RnB.wide)
      (repeat' first | exact trivial | (with_reducible exact RnB.fxB (ints_fxB _)) | (with_reducible rfl) | (with_reducible refine And.intro ?_ ?_) | (with_reducible refine RnB.bb ?_; simp only [vcW, vcV, vcD, Int.reduceEq, Int.reduceNe, Int.reduceLT, Int.reduceLE, Nat.reduceEqDiff, Nat.reduceAdd, reduceIte, reduceCtorEq, Nat.reduceLT, Nat.reduceLeDiff, eq_self, vcP2, Nat.reduceShiftRight, Nat.reduceMod]) | (with_reducible refine RnB.nb ?_; simp only [vcW, vcV, vcD, Int.reduceEq, Int.reduceNe, Int.reduceLT, Int.reduceLE, Nat.reduceEqDiff, Nat.reduceAdd, reduceIte, reduceCtorEq, Nat.reduceLT, Nat.reduceLeDiff, eq_self, vcP2, Nat.reduceShiftRight, Nat.reduceMod]) | (with_reducible refine RnB.ii ?_) | (with_reducible refine RnB.app ?_) | (with_reducible refine RnB.fxB ?_; simp only [vcW, vcV, vcD, Int.reduceEq, Int.reduceNe, Int.reduceLT, Int.reduceLE, Nat.reduceEqDiff, Nat.reduceAdd, reduceIte, reduceCtorEq, Nat.reduceLT, Nat.reduceLeDiff, eq_self, vcP2, Nat.reduceShiftRight, Nat.reduceMod]) | omega)
    · simp only at h1 h2 h3
      have hv := dVal_nonneg h1
      have hpp : (0 : Int) < 1000000000 ^ l.length := Int.pow_pos (by omega)
      by_cases hq : q = 0
      · subst hq
        have hval : dVal l = n.natAbs := by rw [h2]; simp
        have hw := wideOf_s g l (by omega) h1 (by omega)
        rw [hval, hgn, hr] at hw
        have hbg := borB_good (s := stOf [(2, ⟨38, 2, [.agg [.int .i64 0, .nils]]⟩), (100, ⟨3, 1, ints l⟩)]) 4 l.length 3 1 (ints l) (by rw [ints_length]) (ints_fx _)
        simp only [vcV, vcD, Int.reduceEq, Int.reduceNe, Int.reduceLT, Int.reduceLE, Nat.reduceEqDiff, Nat.reduceAdd, reduceIte, reduceCtorEq, Nat.reduceLT, Nat.reduceLeDiff, eq_self, vcP2, Nat.reduceShiftRight, Nat.reduceMod]
        rw [hbg]
        refine callS_of hw ?_
        simp only [vcX, vcV, vcD, Int.reduceEq, Int.reduceNe, Int.reduceLT, Int.reduceLE, Nat.reduceEqDiff, Nat.reduceAdd, reduceIte, reduceCtorEq, Nat.reduceLT, Nat.reduceLeDiff, eq_self, vcP2, Nat.reduceShiftRight, Nat.reduceMod]
      · have hq1 : (1 : Int) ≤ q.natAbs := by omega
        have hmul : (1000000000 : Int) ^ l.length * 1 ≤ 1000000000 ^ l.length * q.natAbs := Int.mul_le_mul_of_nonneg_left hq1 (by omega)
        have hl2 : l.length ≤ 2 := pow_three (by omega)
        have hqb : q.natAbs ≤ n.natAbs := by
          have : (1 : Int) * q.natAbs ≤ 1000000000 ^ l.length * q.natAbs := Int.mul_le_mul_of_nonneg_right (by omega) (by omega)
          omega
        have t1 : (q.tmod 1000000000).natAbs = q.natAbs % 1000000000 := by rw [Int.natAbs_tmod]; rfl
        have t2 : (q.tdiv 1000000000).natAbs = q.natAbs / 1000000000 := by rw [Int.natAbs_tdiv]; rfl
        have hsz := Size_s (q.tmod 1000000000) (by unfold S63; omega)
        rw [t1] at hsz
        have hia : ints (l ++ [((q.natAbs % 1000000000 : Nat) : Int)]) = ints l ++ [.int .i64 ((q.natAbs % 1000000000 : Nat) : Int)] := ints_append _ _
        have ho : okD (l ++ [((q.natAbs % 1000000000 : Nat) : Int)]) := by
          intro d hd
          rcases List.mem_append.1 hd with e | e
          · exact h1 d e
          · rw [List.mem_singleton.1 e]; omega
        have hvn : (n.natAbs : Int) = dVal (l ++ [((q.natAbs % 1000000000 : Nat) : Int)]) + 1000000000 ^ (l ++ [((q.natAbs % 1000000000 : Nat) : Int)]).length * ((q.tdiv 1000000000).natAbs : Int) := by
          rw [dVal_snoc, t2, List.length_append, List.length_singleton, Int.pow_succ, h2, Int.mul_assoc, Int.add_assoc, ← Int.mul_add]
          congr 2
          omega
        have hne : (q ≠ 0) = True := eq_true hq
        simp only [hq, vcV, vcD, Int.reduceEq, Int.reduceNe, Int.reduceLT, Int.reduceLE, Nat.reduceEqDiff, Nat.reduceAdd, reduceIte, reduceCtorEq, Nat.reduceLT, Nat.reduceLeDiff, eq_self, vcP2, Nat.reduceShiftRight, Nat.reduceMod]
        (repeat (with_reducible refine And.intro ?_ ?_; focus (first | omega | (unfold I64; omega))))
        refine callS_of hsz ?_
        simp only [ints_length, vcV, vcD, Int.reduceEq, Int.reduceNe, Int.reduceLT, Int.reduceLE, Nat.reduceEqDiff, Nat.reduceAdd, reduceIte, reduceCtorEq, Nat.reduceLT, Nat.reduceLeDiff, eq_self, vcP2, Nat.reduceShiftRight, Nat.reduceMod]
        (repeat (with_reducible refine And.intro ?_ ?_; focus (first | omega | (unfold I64; omega))))
        refine ⟨⟨(q.tdiv 1000000000, l ++ [((q.natAbs % 1000000000 : Nat) : Int)]), ho, hvn, by simp; omega⟩, by simp only; rw [t2]; omega, ?_⟩
        refine weakX [(100, some 14)] (of_decide_eq_true rfl) (of_decide_eq_true rfl) ?_
        (simp only [hia, vcW, vcV, vcD, Int.reduceEq, Int.reduceNe, Int.reduceLT, Int.reduceLE, Nat.reduceEqDiff, Nat.reduceAdd, reduceIte, reduceCtorEq, Nat.reduceLT, Nat.reduceLeDiff, eq_self, vcP2, Nat.reduceShiftRight, Nat.reduceMod])
        repeat' (with_reducible refine And.intro ?_ ?_)
        any_goals (with_reducible exact RnB.wide)
        (repeat' first | exact trivial | (with_reducible exact RnB.fxB (ints_fxB _)) | (with_reducible rfl) | (with_reducible refine And.intro ?_ ?_) | (with_reducible refine RnB.bb ?_; simp only [vcW, vcV, vcD, Int.reduceEq, Int.reduceNe, Int.reduceLT, Int.reduceLE, Nat.reduceEqDiff, Nat.reduceAdd, reduceIte, reduceCtorEq, Nat.reduceLT, Nat.reduceLeDiff, eq_self, vcP2, Nat.reduceShiftRight, Nat.reduceMod]) | (with_reducible refine RnB.nb ?_; simp only [vcW, vcV, vcD, Int.reduceEq, Int.reduceNe, Int.reduceLT, Int.reduceLE, Nat.reduceEqDiff, Nat.reduceAdd, reduceIte, reduceCtorEq, Nat.reduceLT, Nat.reduceLeDiff, eq_self, vcP2, Nat.reduceShiftRight, Nat.reduceMod]) | (with_reducible refine RnB.ii ?_) | (with_reducible refine RnB.app ?_) | (with_reducible refine RnB.fxB ?_; simp only [vcW, vcV, vcD, Int.reduceEq, Int.reduceNe, Int.reduceLT, Int.reduceLE, Nat.reduceEqDiff, Nat.reduceAdd, reduceIte, reduceCtorEq, Nat.reduceLT, Nat.reduceLeDiff, eq_self, vcP2, Nat.reduceShiftRight, Nat.reduceMod]) | omega)
        all_goals first | exact hia.symm | exact RnB.fxB (by rw [← hia]; exact ints_fxB _) | exact RnB.wide | simp
end Go.Proofs.YtgmpcbpmnimkoaaGreatDoor

/- Contracts: wide numbers multiplied. By an AI agent; nothing here is trusted. -/
namespace Go.Proofs.YtgmpcbpmnimkoaaGreatDoor
open Go.Av

theorem mkOk_z (N : Nat) : mkOk 1 (List.replicate N (AV.int .i64 0)) := by
  intro x hx
  rw [List.eq_of_mem_replicate hx]
  exact ⟨rfl, rfl, by decide⟩
theorem ints_z (n : Nat) : List.replicate n (AV.int .i64 0) = ints (List.replicate n 0) := by simp [ints]
theorem ints_st (l : List Int) (k : Nat) (n : Int) : (ints l).set k (.int .i64 n) = ints (l.set k n) := by simp [ints, List.map_set]
theorem dVal_set : ∀ (l : List Int) (j : Nat) (x : Int) (h : j < l.length), dVal (l.set j x) = dVal l + 1000000000 ^ j * (x - l[j])
  | d :: l, 0, x, h => by simp [dVal]; omega
  | d :: l, j + 1, x, h => by
    rw [List.set_cons_succ, dVal, dVal_set l j x (by simpa using h), dVal, List.getElem_cons_succ, Int.pow_succ, Int.mul_add, ← Int.mul_assoc, Int.mul_comm 1000000000 ((1000000000 : Int) ^ j)]; omega
theorem okD_set {l : List Int} (h : okD l) (j : Nat) {x : Int} (hx : 0 ≤ x ∧ x < 1000000000) : okD (l.set j x) := by
  intro d hd
  rcases List.mem_or_eq_of_mem_set hd with e | e
  · exact h d e
  · rw [e]; exact hx
theorem dAt_set_ne {l : List Int} {i j : Nat} {x : Int} (h : i ≠ j) : dAt (l.set i x) j = dAt l j := by
  unfold dAt List.getD
  rw [List.getElem?_set_ne h]
theorem dVal_zeros (n : Nat) : dVal (List.replicate n 0) = 0 := by
  induction n with
  | zero => rfl
  | succ n ih => rw [List.replicate_succ, dVal, ih]; rfl
theorem dAt_zeros (n j : Nat) : dAt (List.replicate n 0) j = 0 := by
  unfold dAt List.getD
  rw [List.getElem?_replicate]; split <;> rfl
theorem mul_step {V P o m c s r q : Int} (hs : s = o + m + c) (hr : r + 1000000000 * q = s) : V + P * (r - o) + P * 1000000000 * q = V + P * c + P * m := by
  have h1 : P * (r - o) + P * 1000000000 * q = P * (r - o + 1000000000 * q) := by rw [Int.mul_add, Int.mul_assoc]
  have h2 : r - o + 1000000000 * q = c + m := by omega
  rw [h2, Int.mul_add] at h1
  omega
theorem dd_bound {a b : Int} (ha : 0 ≤ a ∧ a < 1000000000) (hb : 0 ≤ b ∧ b < 1000000000) : 0 ≤ a * b ∧ a * b ≤ 999999999 * 999999999 :=
  ⟨Int.mul_nonneg ha.1 hb.1, Int.mul_le_mul (by omega) (by omega) hb.1 (by omega)⟩

set_option maxHeartbeats 8000000 in
theorem WideMul_s (x y : Int) (hx : wOk 100000 x) (hy : wOk 100000 y) : Sound Tryz.prog 20 [wideA x, wideA y] (wideA (x * y)) := by
  refine sound_W f_base_WideMul (Nat.le_of_ble_eq_true rfl) ?_
  unfold wOk at hx hy
  have hmax := maxLen_big
  have hr : ∀ v, wideA v = .agg [.int .i64 v.sign, .sl (ints (dg v.natAbs))] := fun _ => rfl
  have hsg : ∀ v : Int, -1 ≤ v.sign ∧ v.sign ≤ 1 := fun v => by
    rcases Int.lt_trichotomy v 0 with h | h | h
    · rw [Int.sign_eq_neg_one_of_neg h]; omega
    · rw [h]; decide
    · rw [Int.sign_eq_one_of_pos h]; omega
  have hs1 := hsg x
  have hs2 := hsg y
  have hsp : -1 ≤ x.sign * y.sign ∧ x.sign * y.sign ≤ 1 := by rw [← Int.sign_mul]; exact hsg _
  have hfin : ∀ l : List Int, okD l → l.length ≤ 1000000000 → dVal l = (x.natAbs : Int) * y.natAbs → Sound Tryz.prog 99 [.int .i64 (x.sign * y.sign), .sl (ints l)] (wideA (x * y)) := by
    intro l h1 h2 h3
    have hsgn : x.sign * y.sign * dVal l = x * y := by
      rw [h3, Int.mul_assoc, ← Int.mul_assoc y.sign, Int.mul_comm y.sign, Int.mul_assoc, Int.sign_mul_natAbs, ← Int.mul_assoc, Int.sign_mul_natAbs]
    have := wideOf_s (x.sign * y.sign) l h2 h1 (by
      by_cases q : x.sign * y.sign = 0
      · refine .inr (.inr ⟨q, ?_⟩)
        rcases Int.mul_eq_zero.1 q with e | e
        · rw [Int.sign_eq_zero_iff_zero] at e; rw [h3, e]; simp
        · rw [Int.sign_eq_zero_iff_zero] at e; rw [h3, e]; simp
      · omega)
    rw [hsgn] at this
    exact this
  have va := dVal_dg x.natAbs
  have vb := dVal_dg y.natAbs
  have oa := okD_dg x.natAbs
  have ob := okD_dg y.natAbs
  rw [← va, ← vb] at hfin
  rw [hr x, hr y]
  generalize dg x.natAbs = a at *
  generalize dg y.natAbs = b at *
  generalize x.sign = sx at *
  generalize y.sign = sy at *
  obtain ⟨M, hM⟩ : ∃ M, M = a.length + b.length + 1 := ⟨_, rfl⟩
  have hMi : (a.length : Int) + b.length + 1 = (M : Int) := by omega
  rw [hr (x * y)] at hfin ⊢
  simp only [c_base_WideMul, hMi, vcV, vcD, Int.reduceEq, Int.reduceNe, Int.reduceLT, Int.reduceLE, Nat.reduceEqDiff, Nat.reduceAdd, reduceIte, reduceCtorEq, Nat.reduceLT, Nat.reduceLeDiff, eq_self, vcP2, Nat.reduceShiftRight, Nat.reduceMod]
  (repeat (with_reducible refine And.intro ?_ ?_; focus (first | omega | (unfold I64; omega))))
  refine ⟨mkOk_z _, ?_⟩
  rw [ints_z]
  refine W_loop (t := .mk) (α := PSigma fun p : Nat × List Int => p.1 ≤ a.length ∧ okD p.2 ∧ p.2.length = M ∧ dVal p.2 = dPre a p.1 * dVal b ∧ (∀ j, p.1 + b.length ≤ j → dAt p.2 j = 0)) (fun x => (envOf [(2, .ptr 2 0 0), (3, .ptr 3 0 0), (4, .ptr 4 0 0), (5, .buf 100 M), (6, .int .i64 x.1.1)], stOf [(2, ⟨38, 2, [.agg [.int .i64 sx, .sl (ints a)]]⟩), (3, ⟨38, 2, [.agg [.int .i64 sy, .sl (ints b)]]⟩), (4, ⟨38, 2, [.agg [.int .i64 0, .nils]]⟩), (100, ⟨3, 1, ints x.1.2⟩)])) (fun x => a.length - x.1.1) ⟨(0, List.replicate M 0), Nat.zero_le _, (fun d hd => by rw [List.eq_of_mem_replicate hd]; omega), by simp, by rw [dVal_zeros]; simp [dPre, dVal], fun j _ => dAt_zeros M j⟩ ?_ (fun ⟨⟨i, out⟩, hi, p1, p2, p3, p4⟩ => ?_)
  · refine weakX [(100, some 18)] (of_decide_eq_true rfl) (of_decide_eq_true rfl) ?_
    (simp only [vcW, vcV, vcD, Int.reduceEq, Int.reduceNe, Int.reduceLT, Int.reduceLE, Nat.reduceEqDiff, Nat.reduceAdd, reduceIte, reduceCtorEq, Nat.reduceLT, Nat.reduceLeDiff, eq_self, vcP2, Nat.reduceShiftRight, Nat.reduceMod])
    repeat' (with_reducible refine And.intro ?_ ?_)
    any_goals (with_reducible exact RnB.wide)
    (repeat' first | exact trivial | (with_reducible exact RnB.fxB (ints_fxB _)) | (with_reducible rfl) | (with_reducible refine And.intro ?_ ?_) | (with_reducible refine RnB.bb ?_; simp only [vcW, vcV, vcD, Int.reduceEq, Int.reduceNe, Int.reduceLT, Int.reduceLE, Nat.reduceEqDiff, Nat.reduceAdd, reduceIte, reduceCtorEq, Nat.reduceLT, Nat.reduceLeDiff, eq_self, vcP2, Nat.reduceShiftRight, Nat.reduceMod]) | (with_reducible refine RnB.nb ?_; simp only [vcW, vcV, vcD, Int.reduceEq, Int.reduceNe, Int.reduceLT, Int.reduceLE, Nat.reduceEqDiff, Nat.reduceAdd, reduceIte, reduceCtorEq, Nat.reduceLT, Nat.reduceLeDiff, eq_self, vcP2, Nat.reduceShiftRight, Nat.reduceMod]) | (with_reducible refine RnB.ii ?_) | (with_reducible refine RnB.app ?_) | (with_reducible refine RnB.fxB ?_; simp only [vcW, vcV, vcD, Int.reduceEq, Int.reduceNe, Int.reduceLT, Int.reduceLE, Nat.reduceEqDiff, Nat.reduceAdd, reduceIte, reduceCtorEq, Nat.reduceLT, Nat.reduceLeDiff, eq_self, vcP2, Nat.reduceShiftRight, Nat.reduceMod]) | omega)
  · simp only at hi p1 p2 p3 p4
    by_cases h' : i < a.length
    · have hc1 : (i : Int) < a.length := by omega
      have qa := oa _ (List.getElem_mem h')
      have ga := ints_get a i h'
      have hpa : dPre a (i + 1) = dPre a i + 1000000000 ^ i * a[i] := by rw [dPre_succ, dAt_lt h']
      generalize a[i] = ai at *
      simp only [hc1, vcV, vcD, Int.reduceEq, Int.reduceNe, Int.reduceLT, Int.reduceLE, Nat.reduceEqDiff, Nat.reduceAdd, reduceIte, reduceCtorEq, Nat.reduceLT, Nat.reduceLeDiff, eq_self, vcP2, Nat.reduceShiftRight, Nat.reduceMod]
      refine W_loop (t := .mk) (α := PSigma fun p : Nat × List Int × Int => p.1 ≤ b.length ∧ okD p.2.1 ∧ p.2.1.length = M ∧ (0 ≤ p.2.2 ∧ p.2.2 < 1000000000) ∧ dVal p.2.1 + 1000000000 ^ (i + p.1) * p.2.2 = dPre a i * dVal b + 1000000000 ^ i * (ai * dPre b p.1) ∧ (∀ j, i + b.length ≤ j → dAt p.2.1 j = 0)) (fun x => (envOf [(2, .ptr 2 0 0), (3, .ptr 3 0 0), (4, .ptr 4 0 0), (5, .buf 100 M), (6, .int .i64 i), (7, .int .i64 x.1.2.2), (8, .int .i64 x.1.1)], stOf [(2, ⟨38, 2, [.agg [.int .i64 sx, .sl (ints a)]]⟩), (3, ⟨38, 2, [.agg [.int .i64 sy, .sl (ints b)]]⟩), (4, ⟨38, 2, [.agg [.int .i64 0, .nils]]⟩), (100, ⟨3, 1, ints x.1.2.1⟩)])) (fun x => b.length - x.1.1) ⟨(0, out, 0), Nat.zero_le _, p1, p2, ⟨by simp only; omega, by simp only; omega⟩, by simp only; rw [p3]; simp [dPre, dVal], p4⟩ ?_ (fun ⟨⟨k, w, c⟩, hk, r1, r2, r3, r4, r5⟩ => ?_)
      · refine weakX [(100, some 100)] (of_decide_eq_true rfl) (of_decide_eq_true rfl) ?_
        (simp only [vcW, vcV, vcD, Int.reduceEq, Int.reduceNe, Int.reduceLT, Int.reduceLE, Nat.reduceEqDiff, Nat.reduceAdd, reduceIte, reduceCtorEq, Nat.reduceLT, Nat.reduceLeDiff, eq_self, vcP2, Nat.reduceShiftRight, Nat.reduceMod])
        repeat' (with_reducible refine And.intro ?_ ?_)
        any_goals (with_reducible exact RnB.wide)
        (repeat' first | exact trivial | (with_reducible exact RnB.fxB (ints_fxB _)) | (with_reducible rfl) | (with_reducible refine And.intro ?_ ?_) | (with_reducible refine RnB.bb ?_; simp only [vcW, vcV, vcD, Int.reduceEq, Int.reduceNe, Int.reduceLT, Int.reduceLE, Nat.reduceEqDiff, Nat.reduceAdd, reduceIte, reduceCtorEq, Nat.reduceLT, Nat.reduceLeDiff, eq_self, vcP2, Nat.reduceShiftRight, Nat.reduceMod]) | (with_reducible refine RnB.nb ?_; simp only [vcW, vcV, vcD, Int.reduceEq, Int.reduceNe, Int.reduceLT, Int.reduceLE, Nat.reduceEqDiff, Nat.reduceAdd, reduceIte, reduceCtorEq, Nat.reduceLT, Nat.reduceLeDiff, eq_self, vcP2, Nat.reduceShiftRight, Nat.reduceMod]) | (with_reducible refine RnB.ii ?_) | (with_reducible refine RnB.app ?_) | (with_reducible refine RnB.fxB ?_; simp only [vcW, vcV, vcD, Int.reduceEq, Int.reduceNe, Int.reduceLT, Int.reduceLE, Nat.reduceEqDiff, Nat.reduceAdd, reduceIte, reduceCtorEq, Nat.reduceLT, Nat.reduceLeDiff, eq_self, vcP2, Nat.reduceShiftRight, Nat.reduceMod]) | omega)
      · simp only at hk r1 r2 r3 r4 r5
        by_cases hk' : k < b.length
        · have hc2 : (k : Int) < b.length := by omega
          have qb := ob _ (List.getElem_mem hk')
          have gb := ints_get b k hk'
          have hpb : dPre b (k + 1) = dPre b k + 1000000000 ^ k * b[k] := by rw [dPre_succ, dAt_lt hk']
          generalize b[k] = bk at *
          have hik : i + k < w.length := by omega
          have hik2 : (i : Int) + k = ((i + k : Nat) : Int) := by omega
          have qw := r1 _ (List.getElem_mem hik)
          have gw := ints_get w (i + k) hik
          have hset := dVal_set w (i + k)
          have hdd := dd_bound qa qb
          obtain ⟨S, hS⟩ : ∃ S, S = w[i + k] + ai * bk + c := ⟨_, rfl⟩
          have t1 : S.tmod 1000000000 = S % 1000000000 := Int.tmod_eq_emod_of_nonneg (by omega)
          have t2 : S.tdiv 1000000000 = S / 1000000000 := Int.tdiv_eq_ediv_of_nonneg (by omega)
          have n1 := okD_set r1 (i + k) (x := S % 1000000000) ⟨by omega, by omega⟩
          have n2 : (w.set (i + k) (S % 1000000000)).length = M := by simp [r2]
          have n3 : 0 ≤ S / 1000000000 ∧ S / 1000000000 < 1000000000 := by omega
          have n4 : dVal (w.set (i + k) (S % 1000000000)) + 1000000000 ^ (i + (k + 1)) * (S / 1000000000) = dPre a i * dVal b + 1000000000 ^ i * (ai * dPre b (k + 1)) := by
            rw [hset _ hik, ← Nat.add_assoc, Int.pow_succ, mul_step hS (by omega), r4, hpb, Int.mul_add ai, Int.mul_add (1000000000 ^ i), Int.pow_add]
            have : (1000000000 : Int) ^ i * 1000000000 ^ k * (ai * bk) = 1000000000 ^ i * (ai * (1000000000 ^ k * bk)) := by
              rw [Int.mul_assoc, ← Int.mul_assoc (1000000000 ^ k), Int.mul_comm (1000000000 ^ k) ai, Int.mul_assoc]
            omega
          have n5 : ∀ j, i + b.length ≤ j → dAt (w.set (i + k) (S % 1000000000)) j = 0 := fun j hj => by rw [dAt_set_ne (by omega)]; exact r5 j hj
          have hst : (ints w).set (i + k) (.int .i64 (S % 1000000000)) = ints (w.set (i + k) (S % 1000000000)) := ints_st _ _ _
          generalize w[i + k] = wv at *
          simp only [hc2, hik2, ga, gb, gw, ← hS, t1, t2, vcV, vcD, Int.reduceEq, Int.reduceNe, Int.reduceLT, Int.reduceLE, Nat.reduceEqDiff, Nat.reduceAdd, reduceIte, reduceCtorEq, Nat.reduceLT, Nat.reduceLeDiff, eq_self, vcP2, Nat.reduceShiftRight, Nat.reduceMod]
          (repeat (with_reducible refine And.intro ?_ ?_; focus (first | omega | (unfold I64; omega))))
          refine ⟨⟨(k + 1, w.set (i + k) (S % 1000000000), S / 1000000000), hk', n1, n2, n3, n4, n5⟩, by simp only; omega, ?_⟩
          refine weakX [(100, some 100)] (of_decide_eq_true rfl) (of_decide_eq_true rfl) ?_
          (simp only [vcW, vcV, vcD, Int.reduceEq, Int.reduceNe, Int.reduceLT, Int.reduceLE, Nat.reduceEqDiff, Nat.reduceAdd, reduceIte, reduceCtorEq, Nat.reduceLT, Nat.reduceLeDiff, eq_self, vcP2, Nat.reduceShiftRight, Nat.reduceMod])
          repeat' (with_reducible refine And.intro ?_ ?_)
          any_goals (with_reducible exact RnB.wide)
          (repeat' first | exact trivial | (with_reducible exact RnB.fxB (ints_fxB _)) | (with_reducible rfl) | (with_reducible refine And.intro ?_ ?_) | (with_reducible refine RnB.bb ?_; simp only [vcW, vcV, vcD, Int.reduceEq, Int.reduceNe, Int.reduceLT, Int.reduceLE, Nat.reduceEqDiff, Nat.reduceAdd, reduceIte, reduceCtorEq, Nat.reduceLT, Nat.reduceLeDiff, eq_self, vcP2, Nat.reduceShiftRight, Nat.reduceMod]) | (with_reducible refine RnB.nb ?_; simp only [vcW, vcV, vcD, Int.reduceEq, Int.reduceNe, Int.reduceLT, Int.reduceLE, Nat.reduceEqDiff, Nat.reduceAdd, reduceIte, reduceCtorEq, Nat.reduceLT, Nat.reduceLeDiff, eq_self, vcP2, Nat.reduceShiftRight, Nat.reduceMod]) | (with_reducible refine RnB.ii ?_) | (with_reducible refine RnB.app ?_) | (with_reducible refine RnB.fxB ?_; simp only [vcW, vcV, vcD, Int.reduceEq, Int.reduceNe, Int.reduceLT, Int.reduceLE, Nat.reduceEqDiff, Nat.reduceAdd, reduceIte, reduceCtorEq, Nat.reduceLT, Nat.reduceLeDiff, eq_self, vcP2, Nat.reduceShiftRight, Nat.reduceMod]) | omega)
          all_goals exact RnB.eq hst (by rw [hst]; exact ints_fxB _)
        · have hkl : k = b.length := by omega
          have hc2 : ¬ (k : Int) < b.length := by omega
          have hik : i + b.length < w.length := by omega
          have hik2 : (i : Int) + b.length = ((i + b.length : Nat) : Int) := by omega
          have w0 : w[i + b.length] = 0 := by rw [← dAt_lt hik]; exact r5 _ (Nat.le_refl _)
          have gw := ints_get w (i + b.length) hik
          rw [w0] at gw
          have hset := dVal_set w (i + b.length) c hik
          rw [w0] at hset
          have n1 := okD_set r1 (i + b.length) r3
          have n2 : (w.set (i + b.length) c).length = M := by simp [r2]
          have n3 : dVal (w.set (i + b.length) c) = dPre a (i + 1) * dVal b := by
            rw [hset, Int.sub_zero, ← hkl, r4, hkl, dPre_all (Nat.le_refl b.length), hpa, Int.add_mul, Int.mul_assoc]
          have n4 : ∀ j, i + 1 + b.length ≤ j → dAt (w.set (i + b.length) c) j = 0 := fun j hj => by rw [dAt_set_ne (by omega)]; exact r5 j (by omega)
          have hst : (ints w).set (i + b.length) (.int .i64 c) = ints (w.set (i + b.length) c) := ints_st _ _ _
          simp only [hc2, hik2, gw, Int.zero_add, vcV, vcD, Int.reduceEq, Int.reduceNe, Int.reduceLT, Int.reduceLE, Nat.reduceEqDiff, Nat.reduceAdd, reduceIte, reduceCtorEq, Nat.reduceLT, Nat.reduceLeDiff, eq_self, vcP2, Nat.reduceShiftRight, Nat.reduceMod]
          (repeat (with_reducible refine And.intro ?_ ?_; focus (first | omega | (unfold I64; omega))))
          refine ⟨⟨(i + 1, w.set (i + b.length) c), h', n1, n2, n3, n4⟩, by simp only; omega, ?_⟩
          refine weakX [(100, some 100)] (of_decide_eq_true rfl) (of_decide_eq_true rfl) ?_
          (simp only [vcW, vcV, vcD, Int.reduceEq, Int.reduceNe, Int.reduceLT, Int.reduceLE, Nat.reduceEqDiff, Nat.reduceAdd, reduceIte, reduceCtorEq, Nat.reduceLT, Nat.reduceLeDiff, eq_self, vcP2, Nat.reduceShiftRight, Nat.reduceMod])
          repeat' (with_reducible refine And.intro ?_ ?_)
          any_goals (with_reducible exact RnB.wide)
          (repeat' first | exact trivial | (with_reducible exact RnB.fxB (ints_fxB _)) | (with_reducible rfl) | (with_reducible refine And.intro ?_ ?_) | (with_reducible refine RnB.bb ?_; simp only [vcW, vcV, vcD, Int.reduceEq, Int.reduceNe, Int.reduceLT, Int.reduceLE, Nat.reduceEqDiff, Nat.reduceAdd, reduceIte, reduceCtorEq, Nat.reduceLT, Nat.reduceLeDiff, eq_self, vcP2, Nat.reduceShiftRight, Nat.reduceMod]) | (with_reducible refine RnB.nb ?_; simp only [vcW, vcV, vcD, Int.reduceEq, Int.reduceNe, Int.reduceLT, Int.reduceLE, Nat.reduceEqDiff, Nat.reduceAdd, reduceIte, reduceCtorEq, Nat.reduceLT, Nat.reduceLeDiff, eq_self, vcP2, Nat.reduceShiftRight, Nat.reduceMod]) | (with_reducible refine RnB.ii ?_) | (with_reducible refine RnB.app ?_) | (with_reducible refine RnB.fxB ?_; simp only [vcW, vcV, vcD, Int.reduceEq, Int.reduceNe, Int.reduceLT, Int.reduceLE, Nat.reduceEqDiff, Nat.reduceAdd, reduceIte, reduceCtorEq, Nat.reduceLT, Nat.reduceLeDiff, eq_self, vcP2, Nat.reduceShiftRight, Nat.reduceMod]) | omega)
          all_goals exact RnB.eq hst (by rw [hst]; exact ints_fxB _)
    · have hil : i = a.length := by omega
      have hc1 : ¬ (i : Int) < a.length := by omega
      rw [hil, dPre_all (Nat.le_refl _)] at p3
      have hw := hfin out p1 (by omega) p3
      have hbg := borB_good (s := stOf [(2, ⟨38, 2, [.agg [.int .i64 sx, .sl (ints a)]]⟩), (3, ⟨38, 2, [.agg [.int .i64 sy, .sl (ints b)]]⟩), (4, ⟨38, 2, [.agg [.int .i64 0, .nils]]⟩), (100, ⟨3, 1, ints out⟩)]) 4 M 3 1 (ints out) (by rw [ints_length, p2]) (ints_fx _)
      have hsI : I64 (sx * sy) := by unfold I64; omega
      simp only [hc1, vcV, vcD, Int.reduceEq, Int.reduceNe, Int.reduceLT, Int.reduceLE, Nat.reduceEqDiff, Nat.reduceAdd, reduceIte, reduceCtorEq, Nat.reduceLT, Nat.reduceLeDiff, eq_self, vcP2, Nat.reduceShiftRight, Nat.reduceMod]
      (repeat (with_reducible refine And.intro ?_ ?_; focus (first | omega | (unfold I64; omega))))
      rw [hbg]
      refine callS_of hw ?_
      simp only [vcX, vcV, vcD, Int.reduceEq, Int.reduceNe, Int.reduceLT, Int.reduceLE, Nat.reduceEqDiff, Nat.reduceAdd, reduceIte, reduceCtorEq, Nat.reduceLT, Nat.reduceLeDiff, eq_self, vcP2, Nat.reduceShiftRight, Nat.reduceMod]
end Go.Proofs.YtgmpcbpmnimkoaaGreatDoor

/- Contracts: the model of charges, differences, both errors. By an AI agent; nothing here is trusted. -/
namespace Go.Proofs.YtgmpcbpmnimkoaaGreatDoor
open Go.Av

def oEnd (t ty sz : Nat) (es : List AV) : Exit → Env → Store → Prop := fun x e s => (x = .normal ∨ x = .ret) ∧ ownV e s t ty sz es
theorem oEnd_n (t ty sz : Nat) (es : List AV) (e : Env) (s : Store) : oEnd t ty sz es .normal e s = ownV e s t ty sz es := propext ⟨fun h => h.2, fun h => ⟨.inl rfl, h⟩⟩
theorem oEnd_r (t ty sz : Nat) (es : List AV) (e : Env) (s : Store) : oEnd t ty sz es .ret e s = ownV e s t ty sz es := propext ⟨fun h => h.2, fun h => ⟨.inr rfl, h⟩⟩
theorem soundO_W {P : Program} {f : FuncId} {nt np t : Nat} {m : MC} (hF : cFun P f = some (nt, np, m, [(t, none)])) {args : List AV} (hla : args.length ≤ nt) {ty sz : Nat} {es : List AV} (hsz : 0 < sz)
    (h : W P nt m (oEnd t ty sz es) (argE args) noStore .mk) : SoundO P f args ty sz es := soundO_of hF hla hsz (W_sound h)
theorem ownV_i {e : Env} {s : Store} {t ty sz : Nat} {es : List AV} (k : Nat) (n : Nat) (h1 : e t = .buf k n) (h2 : n = es.length) (h3 : s k = some (some ⟨ty, sz, es⟩)) (h4 : es.all imm = true) : ownV e s t ty sz es := ⟨k, by rw [← h2]; exact h1, h3, h4⟩
theorem it_bd {items : List Int} (hi : ∀ x ∈ items, -100 ≤ x ∧ x ≤ 100) (j : Nat) : -100 ≤ items.getD j 0 ∧ items.getD j 0 ≤ 100 := by
  by_cases h : j < items.length
  · rw [getD_at h]; exact hi _ (List.getElem_mem h)
  · simp [List.getD, List.getElem?_eq_none (Nat.le_of_not_lt h)]
theorem ch_bd {ch : List Int} {C : Int} (hC : 0 ≤ C) (hc : ∀ x ∈ ch, -C ≤ x ∧ x ≤ C) (k : Nat) : -C ≤ ch.getD k 0 ∧ ch.getD k 0 ≤ C := by
  by_cases h : k < ch.length
  · rw [getD_at h]; exact hc _ (List.getElem_mem h)
  · simp [List.getD, List.getElem?_eq_none (Nat.le_of_not_lt h)]; omega
theorem mdT_bd {items ch : List Int} {C : Int} (hC : 0 ≤ C) (hi : ∀ x ∈ items, -100 ≤ x ∧ x ≤ 100) (hc : ∀ x ∈ ch, -C ≤ x ∧ x ≤ C) (n : Nat) : ∀ k, -(100 * C * k) ≤ mdT items ch n k ∧ mdT items ch n k ≤ 100 * C * k
  | 0 => by simp [mdT]
  | k + 1 => by
    have ih := mdT_bd hC hi hc n k
    have h4 : 100 * C * ((k + 1 : Nat) : Int) = 100 * C * k + 100 * C := by rw [show ((k + 1 : Nat) : Int) = (k : Int) + 1 by omega, Int.mul_add, Int.mul_one]
    rw [mdT, h4]
    split
    · have := prod_bd hC (it_bd hi (n - k)) (ch_bd hC hc k)
      rw [Int.mul_comm (items.getD (n - k) 0)] at this; omega
    · have : 0 ≤ 100 * C := by omega
      omega
theorem mdP_bd {items ch : List Int} {C : Int} (hC : 0 ≤ C) (hi : ∀ x ∈ items, -100 ≤ x ∧ x ≤ 100) (hc : ∀ x ∈ ch, -C ≤ x ∧ x ≤ C) (n k j : Nat) : -(100 * C * (k + 1 : Nat)) ≤ mdP items ch n k j ∧ mdP items ch n k j ≤ 100 * C * (k + 1 : Nat) := by
  have ih := mdT_bd hC hi hc n k
  have h4 : 100 * C * ((k + 1 : Nat) : Int) = 100 * C * k + 100 * C := by rw [show ((k + 1 : Nat) : Int) = (k : Int) + 1 by omega, Int.mul_add, Int.mul_one]
  rw [mdP, h4]
  split
  · have := prod_bd hC (it_bd hi (n - k)) (ch_bd hC hc k)
    rw [Int.mul_comm (items.getD (n - k) 0)] at this; omega
  · have : 0 ≤ 100 * C := by omega
    omega
theorem mdL_0 (items ch : List Int) : mdL items ch 0 0 = List.replicate (ch.length + items.length - 1) 0 := by
  apply List.ext_getElem
  · simp [mdL]
  · intro n h1 h2
    rw [mdL_get, mdP_0]; simp [mdT]
theorem mdL_next (items ch : List Int) (k : Nat) : mdL items ch k items.length = mdL items ch (k + 1) 0 := by
  unfold mdL
  refine List.map_congr_left fun n _ => ?_
  rw [mdP_next, mdP_0]
def mdA (items ch : List Int) : List Int := mdL items ch ch.length 0
theorem mdA_len (items ch : List Int) : (mdA items ch).length = ch.length + items.length - 1 := mdL_len _ _ _ _
theorem mdA_get (items ch : List Int) {n : Nat} (h : n < (mdA items ch).length) : (mdA items ch)[n] = mdT items ch n ch.length :=
  (mdL_get items ch ch.length 0 h).trans (mdP_0 _ _ _ _)
set_option maxHeartbeats 4000000 in
theorem model_s {items ch : List Int} (shifts : Int) {C : Int} (h1 : 1 ≤ items.length) (h6 : items.length ≤ 6) (h8 : ch.length ≤ 8) (hC : 0 ≤ C ∧ C ≤ 1000000000000) (hi : ∀ x ∈ items, -100 ≤ x ∧ x ≤ 100) (hc : ∀ x ∈ ch, -C ≤ x ∧ x ≤ C) :
    SoundO Tryz.prog 120 [tplA items shifts, .sl (ints ch)] 3 1 (ints (mdA items ch)) := by
  refine soundO_W f_pulse_model (Nat.le_of_ble_eq_true rfl) (by decide) ?_
  have hmax := maxLen_big
  have hb : ∀ n k j : Nat, k ≤ 8 → -900000000000000 ≤ mdP items ch n k j ∧ mdP items ch n k j ≤ 900000000000000 := fun n k j hk => by
    have h := mdP_bd hC.1 hi hc n k j
    have h2 : 100 * C * ((k + 1 : Nat) : Int) ≤ 100000000000000 * 9 := Int.mul_le_mul (by omega) (by omega) (by omega) (by omega)
    omega
  obtain ⟨M, hM⟩ : ∃ M, M = ch.length + items.length - 1 := ⟨_, rfl⟩
  have hMi : (ch.length : Int) + items.length - 1 = (M : Int) := by omega
  simp only [c_pulse_model, tplA, hMi, vcV, vcD, Int.reduceEq, Int.reduceNe, Int.reduceLT, Int.reduceLE, Nat.reduceEqDiff, Nat.reduceAdd, reduceIte, reduceCtorEq, Nat.reduceLT, Nat.reduceLeDiff, eq_self, vcP2, Nat.reduceShiftRight, Nat.reduceMod]
  (repeat (with_reducible refine And.intro ?_ ?_; focus (first | omega | (unfold I64; omega))))
  refine ⟨mkOk_z _, ?_⟩
  have hl0 : mdL items ch 0 0 = List.replicate M 0 := by rw [hM]; exact mdL_0 _ _
  rw [ints_z, ← hl0]
  refine W_loop (t := .mk) (α := PSigma fun i : Nat => i ≤ ch.length) (fun ⟨i, _⟩ => (envOf [(2, .ptr 2 0 0), (5, .buf 100 M), (18, .sl (ints ch)), (19, .int .i64 ch.length), (20, .int .i64 i)], stOf [(2, ⟨24, 2, [.agg [.sl (ints items), .int .i64 shifts]]⟩), (100, ⟨3, 1, ints (mdL items ch i 0)⟩)])) (fun x => ch.length - x.1) ⟨0, Nat.zero_le _⟩ ?_ (fun ⟨i, hin⟩ => ?_)
  · refine weakX [(100, some 17)] (of_decide_eq_true rfl) (of_decide_eq_true rfl) ?_
    (simp only [vcW, vcV, vcD, Int.reduceEq, Int.reduceNe, Int.reduceLT, Int.reduceLE, Nat.reduceEqDiff, Nat.reduceAdd, reduceIte, reduceCtorEq, Nat.reduceLT, Nat.reduceLeDiff, eq_self, vcP2, Nat.reduceShiftRight, Nat.reduceMod])
    (repeat' first | exact trivial | (with_reducible exact RnB.fxB (ints_fxB _)) | (with_reducible rfl) | (with_reducible refine And.intro ?_ ?_) | (with_reducible refine RnB.bb ?_; simp only [vcW, vcV, vcD, Int.reduceEq, Int.reduceNe, Int.reduceLT, Int.reduceLE, Nat.reduceEqDiff, Nat.reduceAdd, reduceIte, reduceCtorEq, Nat.reduceLT, Nat.reduceLeDiff, eq_self, vcP2, Nat.reduceShiftRight, Nat.reduceMod]) | (with_reducible refine RnB.nb ?_; simp only [vcW, vcV, vcD, Int.reduceEq, Int.reduceNe, Int.reduceLT, Int.reduceLE, Nat.reduceEqDiff, Nat.reduceAdd, reduceIte, reduceCtorEq, Nat.reduceLT, Nat.reduceLeDiff, eq_self, vcP2, Nat.reduceShiftRight, Nat.reduceMod]) | (with_reducible refine RnB.ii ?_) | (with_reducible refine RnB.app ?_) | (with_reducible refine RnB.fxB ?_; simp only [vcW, vcV, vcD, Int.reduceEq, Int.reduceNe, Int.reduceLT, Int.reduceLE, Nat.reduceEqDiff, Nat.reduceAdd, reduceIte, reduceCtorEq, Nat.reduceLT, Nat.reduceLeDiff, eq_self, vcP2, Nat.reduceShiftRight, Nat.reduceMod]) | omega)
  · dsimp only at hin ⊢
    by_cases h' : i < ch.length
    · have hc1 : (i : Int) < ch.length := by omega
      simp only [hc1, ints_get ch i h', vcV, vcD, Int.reduceEq, Int.reduceNe, Int.reduceLT, Int.reduceLE, Nat.reduceEqDiff, Nat.reduceAdd, reduceIte, reduceCtorEq, Nat.reduceLT, Nat.reduceLeDiff, eq_self, vcP2, Nat.reduceShiftRight, Nat.reduceMod]
      (repeat (with_reducible refine And.intro ?_ ?_; focus (first | omega | (unfold I64; omega))))
      refine W_loop (t := .mk) (α := PSigma fun j : Nat => j ≤ items.length) (fun ⟨j, _⟩ => (envOf [(2, .ptr 2 0 0), (5, .buf 100 M), (6, .int .i64 i), (7, .int .i64 ch[i]), (18, .sl (ints ch)), (19, .int .i64 ch.length), (20, .int .i64 i), (26, .sl (ints items)), (27, .int .i64 items.length), (28, .int .i64 j)], stOf [(2, ⟨24, 2, [.agg [.sl (ints items), .int .i64 shifts]]⟩), (100, ⟨3, 1, ints (mdL items ch i j)⟩)])) (fun x => items.length - x.1) ⟨0, Nat.zero_le _⟩ ?_ (fun ⟨j, hjn⟩ => ?_)
      · refine weakX [(100, some 100)] (of_decide_eq_true rfl) (of_decide_eq_true rfl) ?_
        (simp only [vcW, vcV, vcD, Int.reduceEq, Int.reduceNe, Int.reduceLT, Int.reduceLE, Nat.reduceEqDiff, Nat.reduceAdd, reduceIte, reduceCtorEq, Nat.reduceLT, Nat.reduceLeDiff, eq_self, vcP2, Nat.reduceShiftRight, Nat.reduceMod])
        (repeat' first | exact trivial | (with_reducible exact RnB.fxB (ints_fxB _)) | (with_reducible rfl) | (with_reducible refine And.intro ?_ ?_) | (with_reducible refine RnB.bb ?_; simp only [vcW, vcV, vcD, Int.reduceEq, Int.reduceNe, Int.reduceLT, Int.reduceLE, Nat.reduceEqDiff, Nat.reduceAdd, reduceIte, reduceCtorEq, Nat.reduceLT, Nat.reduceLeDiff, eq_self, vcP2, Nat.reduceShiftRight, Nat.reduceMod]) | (with_reducible refine RnB.nb ?_; simp only [vcW, vcV, vcD, Int.reduceEq, Int.reduceNe, Int.reduceLT, Int.reduceLE, Nat.reduceEqDiff, Nat.reduceAdd, reduceIte, reduceCtorEq, Nat.reduceLT, Nat.reduceLeDiff, eq_self, vcP2, Nat.reduceShiftRight, Nat.reduceMod]) | (with_reducible refine RnB.ii ?_) | (with_reducible refine RnB.app ?_) | (with_reducible refine RnB.fxB ?_; simp only [vcW, vcV, vcD, Int.reduceEq, Int.reduceNe, Int.reduceLT, Int.reduceLE, Nat.reduceEqDiff, Nat.reduceAdd, reduceIte, reduceCtorEq, Nat.reduceLT, Nat.reduceLeDiff, eq_self, vcP2, Nat.reduceShiftRight, Nat.reduceMod]) | omega)
      · dsimp only at hjn ⊢
        by_cases h2 : j < items.length
        · have hc2 : (j : Int) < items.length := by omega
          have hlen := mdL_len items ch i j
          have hij : i + j < (mdL items ch i j).length := by omega
          have hij2 : (i : Int) + j = ((i + j : Nat) : Int) := by omega
          have b1 := hb (i + j) i j (by omega)
          have b2 := hb (i + j) i (j + 1) (by omega)
          have hgl := mdL_get items ch i j hij
          have hset := mdL_set items ch (k := i) (j := j) (by omega)
          have hP := mdP_succ items ch (i + j) i j
          rw [if_pos rfl] at hP
          rw [getD_at h', getD_at h2] at hset hP
          have hp := prod_bd hC.1 (hi items[j] (List.getElem_mem h2)) (hc ch[i] (List.getElem_mem h'))
          rw [Int.mul_comm items[j]] at hp
          have gw := ints_get (mdL items ch i j) (i + j) hij
          rw [hgl] at gw
          have hst : (ints (mdL items ch i j)).set (i + j) (.int .i64 (mdP items ch (i + j) i j + ch[i] * items[j])) = ints (mdL items ch i (j + 1)) := by rw [ints_st, hset]
          have hlM : (i + j : Nat) < M := by omega
          have hlM' : ((i + j : Nat) : Int) < M := by omega
          simp only [hc2, ints_get items j h2, hij2, gw, ints_length, hlen, vcV, vcD, Int.reduceEq, Int.reduceNe, Int.reduceLT, Int.reduceLE, Nat.reduceEqDiff, Nat.reduceAdd, reduceIte, reduceCtorEq, Nat.reduceLT, Nat.reduceLeDiff, eq_self, vcP2, Nat.reduceShiftRight, Nat.reduceMod]
          (repeat (with_reducible refine And.intro ?_ ?_; focus (first | omega | (unfold I64; omega))))
          refine ⟨⟨j + 1, h2⟩, by simp only; omega, ?_⟩
          refine weakX [(100, some 100)] (of_decide_eq_true rfl) (of_decide_eq_true rfl) ?_
          (simp only [vcW, vcV, vcD, Int.reduceEq, Int.reduceNe, Int.reduceLT, Int.reduceLE, Nat.reduceEqDiff, Nat.reduceAdd, reduceIte, reduceCtorEq, Nat.reduceLT, Nat.reduceLeDiff, eq_self, vcP2, Nat.reduceShiftRight, Nat.reduceMod])
          (repeat' first | exact trivial | (with_reducible exact RnB.fxB (ints_fxB _)) | (with_reducible rfl) | (with_reducible refine And.intro ?_ ?_) | (with_reducible refine RnB.bb ?_; simp only [vcW, vcV, vcD, Int.reduceEq, Int.reduceNe, Int.reduceLT, Int.reduceLE, Nat.reduceEqDiff, Nat.reduceAdd, reduceIte, reduceCtorEq, Nat.reduceLT, Nat.reduceLeDiff, eq_self, vcP2, Nat.reduceShiftRight, Nat.reduceMod]) | (with_reducible refine RnB.nb ?_; simp only [vcW, vcV, vcD, Int.reduceEq, Int.reduceNe, Int.reduceLT, Int.reduceLE, Nat.reduceEqDiff, Nat.reduceAdd, reduceIte, reduceCtorEq, Nat.reduceLT, Nat.reduceLeDiff, eq_self, vcP2, Nat.reduceShiftRight, Nat.reduceMod]) | (with_reducible refine RnB.ii ?_) | (with_reducible refine RnB.app ?_) | (with_reducible refine RnB.fxB ?_; simp only [vcW, vcV, vcD, Int.reduceEq, Int.reduceNe, Int.reduceLT, Int.reduceLE, Nat.reduceEqDiff, Nat.reduceAdd, reduceIte, reduceCtorEq, Nat.reduceLT, Nat.reduceLeDiff, eq_self, vcP2, Nat.reduceShiftRight, Nat.reduceMod]) | omega)
          all_goals exact RnB.eq hst (by rw [hst]; exact ints_fxB _)
        · have hjl : j = items.length := by omega
          subst hjl
          have hc2 : ¬ (items.length : Int) < items.length := by omega
          have hn := mdL_next items ch i
          simp only [hc2, vcV, vcD, Int.reduceEq, Int.reduceNe, Int.reduceLT, Int.reduceLE, Nat.reduceEqDiff, Nat.reduceAdd, reduceIte, reduceCtorEq, Nat.reduceLT, Nat.reduceLeDiff, eq_self, vcP2, Nat.reduceShiftRight, Nat.reduceMod]
          (repeat (with_reducible refine And.intro ?_ ?_; focus (first | omega | (unfold I64; omega))))
          refine ⟨⟨i + 1, h'⟩, by simp only; omega, ?_⟩
          refine weakX [(100, some 100)] (of_decide_eq_true rfl) (of_decide_eq_true rfl) ?_
          (simp only [vcW, vcV, vcD, Int.reduceEq, Int.reduceNe, Int.reduceLT, Int.reduceLE, Nat.reduceEqDiff, Nat.reduceAdd, reduceIte, reduceCtorEq, Nat.reduceLT, Nat.reduceLeDiff, eq_self, vcP2, Nat.reduceShiftRight, Nat.reduceMod])
          (repeat' first | exact trivial | (with_reducible exact RnB.fxB (ints_fxB _)) | (with_reducible rfl) | (with_reducible refine And.intro ?_ ?_) | (with_reducible refine RnB.bb ?_; simp only [vcW, vcV, vcD, Int.reduceEq, Int.reduceNe, Int.reduceLT, Int.reduceLE, Nat.reduceEqDiff, Nat.reduceAdd, reduceIte, reduceCtorEq, Nat.reduceLT, Nat.reduceLeDiff, eq_self, vcP2, Nat.reduceShiftRight, Nat.reduceMod]) | (with_reducible refine RnB.nb ?_; simp only [vcW, vcV, vcD, Int.reduceEq, Int.reduceNe, Int.reduceLT, Int.reduceLE, Nat.reduceEqDiff, Nat.reduceAdd, reduceIte, reduceCtorEq, Nat.reduceLT, Nat.reduceLeDiff, eq_self, vcP2, Nat.reduceShiftRight, Nat.reduceMod]) | (with_reducible refine RnB.ii ?_) | (with_reducible refine RnB.app ?_) | (with_reducible refine RnB.fxB ?_; simp only [vcW, vcV, vcD, Int.reduceEq, Int.reduceNe, Int.reduceLT, Int.reduceLE, Nat.reduceEqDiff, Nat.reduceAdd, reduceIte, reduceCtorEq, Nat.reduceLT, Nat.reduceLeDiff, eq_self, vcP2, Nat.reduceShiftRight, Nat.reduceMod]) | omega)
          all_goals exact RnB.eq (congrArg ints hn) (by rw [hn]; exact ints_fxB _)
    · have hil : i = ch.length := by omega
      subst hil
      have hc1 : ¬ (ch.length : Int) < ch.length := by omega
      have hlM : M = (ints (mdA items ch)).length := by rw [ints_length, mdA_len]; exact hM
      simp only [hc1, oEnd_r, vcV, vcD, Int.reduceEq, Int.reduceNe, Int.reduceLT, Int.reduceLE, Nat.reduceEqDiff, Nat.reduceAdd, reduceIte, reduceCtorEq, Nat.reduceLT, Nat.reduceLeDiff, eq_self, vcP2, Nat.reduceShiftRight, Nat.reduceMod]
      exact ownV_i 100 M rfl hlM rfl (Go.Av.ints_imm _)
end Go.Proofs.YtgmpcbpmnimkoaaGreatDoor

/- Determinants in plain Lean. By an AI agent; nothing here is trusted. -/
namespace Go.Lin

def sm (n : Nat) (f : Nat → Rat) : Rat := match n with
  | 0 => 0
  | n + 1 => sm n f + f n
def sg (i : Nat) : Rat := if i % 2 = 0 then 1 else -1
def skip (i r : Nat) : Nat := if r < i then r else r + 1

end Go.Lin

/- Equations solved by elimination, in plain Lean. By an AI agent; nothing here is trusted. -/
namespace Go.Lin

end Go.Lin

/- Shifted templates and their products, in plain Lean. By an AI agent; nothing here is trusted. -/
namespace Go.Lin

def itm (items : List Int) (n k : Nat) : Int := if k ≤ n ∧ n - k < items.length then items.getD (n - k) 0 else 0
def smI (n : Nat) (f : Nat → Int) : Int := match n with
  | 0 => 0
  | n + 1 => smI n f + f n
def gr (items : List Int) (N k m : Nat) : Int := smI N fun n => itm items n k * itm items n m
theorem smI_bd {n : Nat} {f : Nat → Int} {M : Int} (h : ∀ i, i < n → -M ≤ f i ∧ f i ≤ M) : -(n * M) ≤ smI n f ∧ smI n f ≤ n * M := by
  induction n with
  | zero => simp [smI]
  | succ n ih =>
    have := ih (fun i hi => h i (by omega))
    have := h n (by omega)
    rw [smI, show ((n + 1 : Nat) : Int) * M = n * M + M by grind]
    omega
end Go.Lin

/- The best charges, in plain Lean. By an AI agent; nothing here is trusted. -/
namespace Go.Lin

section
variable (items : List Int) (S N : Nat) (s : Nat → Rat)
variable {items S N s}

end
end Go.Lin

/- Divisors, multiples, digits of quotients, in plain Lean. By an AI agent; nothing here is trusted. -/
namespace Go.Lin

def gcds (d : Nat) (l : List Nat) : Nat := l.foldl Nat.gcd d
theorem gcds_dvd (l : List Nat) : ∀ d, gcds d l ∣ d := by
  induction l with
  | nil => exact fun d => Nat.dvd_refl _
  | cons p l ih => exact fun d => Nat.dvd_trans (ih (Nat.gcd d p)) (Nat.gcd_dvd_left _ _)
theorem guess {B yn1 yn0 u d q r : Nat} (hu : q * yn1 + r = u) : (r * B + d < q * yn0) ↔ (u * B + d < q * (yn1 * B + yn0)) := by
  subst hu
  rw [Nat.add_mul, Nat.mul_add, ← Nat.mul_assoc]
  omega
theorem guess_top {B yn1 yn0 u d : Nat} (hB : 0 < B) (hy1 : 0 < yn1) (hd : d < B) : (u * B + d) / (yn1 * B + yn0) ≤ u / yn1 := by
  have h1 : (u * B + d) / (yn1 * B + yn0) ≤ (u * B + d) / (yn1 * B) := Nat.div_le_div_left (by omega) (Nat.mul_pos hy1 hB)
  have h2 : (u * B + d) / (yn1 * B) = u / yn1 := by
    rw [Nat.mul_comm yn1 B, ← Nat.div_div_eq_div_mul]
    congr 1
    rw [Nat.mul_comm u B, Nat.mul_add_div hB, Nat.div_eq_of_lt hd, Nat.add_zero]
  omega
theorem digit_ok {B yn1 yn0 u d q r : Nat} (hy0 : yn0 < B) (hy1 : 0 < yn1) (hu : q * yn1 + r = u) (hlo : (u * B + d) / (yn1 * B + yn0) ≤ q) (h : q * yn0 ≤ r * B + d) : q = (u * B + d) / (yn1 * B + yn0) := by
  refine Nat.le_antisymm ?_ hlo
  have hB : 0 < B := by omega
  have h1 : ¬ (r * B + d < q * yn0) := by omega
  rw [guess hu] at h1
  rw [Nat.le_div_iff_mul_le (by have := Nat.mul_pos hy1 hB; omega)]
  omega
theorem digit_more {B yn1 yn0 u d q r : Nat} (hy0 : yn0 < B) (hy1 : 0 < yn1) (hd : d < B) (hyu : u < yn1 * B + yn0) (hu : q * yn1 + r = u) (h : B ≤ q ∨ r * B + d < q * yn0) : (u * B + d) / (yn1 * B + yn0) < q := by
  have hB : 0 < B := by omega
  have hpos : 0 < yn1 * B + yn0 := by have := Nat.mul_pos hy1 hB; omega
  rw [Nat.div_lt_iff_lt_mul hpos]
  rcases h with h | h
  · have h1 : (u + 1) * B ≤ (yn1 * B + yn0) * B := Nat.mul_le_mul_right _ hyu
    have h2 : (yn1 * B + yn0) * B ≤ (yn1 * B + yn0) * q := Nat.mul_le_mul_left _ h
    rw [Nat.add_mul] at h1
    rw [Nat.mul_comm q]
    omega
  · rw [guess hu] at h; exact h
theorem digit_brk {B yn1 yn0 u d q r : Nat} (hy0 : yn0 < B) (hy1 : 0 < yn1) (hyu : u < yn1 * B + yn0) (hu : q * yn1 + r = u) (hr : B ≤ r) : q * yn0 ≤ r * B + d := by
  have hq : q < B := by
    refine Classical.byContradiction fun hn => ?_
    have : B * yn1 ≤ q * yn1 := Nat.mul_le_mul_right _ (by omega)
    rw [Nat.mul_comm B] at this
    omega
  have h1 : q * yn0 ≤ B * B := Nat.mul_le_mul (by omega) (by omega)
  have h2 : B * B ≤ r * B := Nat.mul_le_mul_right _ hr
  omega
theorem knuth {N y s U un1 un0 Y Q1 R1 Q0 R2 B : Nat} (hy : 0 < y) (hY : Y = y * 2 ^ s) (hN : N * 2 ^ s = (U * B + un1) * B + un0) (h1 : U * B + un1 = Q1 * Y + R1) (h2 : R1 * B + un0 = Q0 * Y + R2) (hr : R2 < Y) :
    N / y = Q1 * B + Q0 ∧ N % y = R2 / 2 ^ s := by
  have hp : 0 < 2 ^ s := Nat.pow_pos (by decide)
  have e : N * 2 ^ s = (Q1 * B + Q0) * Y + R2 := by
    rw [hN, h1, Nat.add_mul, Nat.add_mul, Nat.mul_right_comm]; omega
  have e1 : N * 2 ^ s / Y = Q1 * B + Q0 := by
    rw [e, Nat.mul_comm _ Y, Nat.mul_add_div (by rw [hY]; exact Nat.mul_pos hy hp), Nat.div_eq_of_lt hr, Nat.add_zero]
  have e2 : N * 2 ^ s % Y = R2 := by
    rw [e, Nat.mul_comm _ Y, Nat.mul_add_mod, Nat.mod_eq_of_lt hr]
  rw [hY] at e1 e2
  rw [Nat.mul_div_mul_right _ _ hp] at e1
  rw [Nat.mul_mod_mul_right] at e2
  exact ⟨e1, by rw [← e2, Nat.mul_div_cancel _ hp]⟩
theorem shift_hi (hi lo s : Nat) (hs : s ≤ 64) : (hi * 18446744073709551616 + lo) * 2 ^ s = (hi * 2 ^ s + lo / 2 ^ (64 - s)) * 18446744073709551616 + lo * 2 ^ s % 18446744073709551616 := by
  have hp : 0 < 2 ^ s := Nat.pow_pos (by decide)
  have e : lo * 2 ^ s / 18446744073709551616 = lo / 2 ^ (64 - s) := by
    have : (18446744073709551616 : Nat) = 2 ^ (64 - s) * 2 ^ s := by rw [← Nat.pow_add, show 64 - s + s = 64 by omega]
    rw [this, Nat.mul_div_mul_right _ _ hp]
  have := Nat.div_add_mod (lo * 2 ^ s) 18446744073709551616
  rw [e] at this
  rw [Nat.add_mul, Nat.add_mul, Nat.mul_right_comm]
  omega
end Go.Lin

/- The equations of ticks, in plain Lean. By an AI agent; nothing here is trusted. -/
namespace Go.Lin

section
variable (items : List Int) (S : Nat) (s : Nat → Rat)
def rhs (k : Nat) : Rat := sm (S + items.length - 1) fun n => s n * ((itm items n k : Int) : Rat)
variable {items S s}

end
end Go.Lin

/- Contracts: differences, both errors, the fit that is accepted. By an AI agent; nothing here is trusted. -/
namespace Go.Proofs.YtgmpcbpmnimkoaaGreatDoor
open Go.Av

theorem CallsF.mono {P : Program} {f : FuncId} {args : Array Value} {w : World} {R R' : Value → World → Prop} (h : CallsF P f args w R) (hr : ∀ v w', R v w' → R' v w') : CallsF P f args w R' := by
  rcases h with ⟨v, w', h1, h2⟩ | ⟨h1, h2⟩
  · exact .inl ⟨v, w', h1, hr v w' h2⟩
  · exact .inr ⟨h1, h2.mono fun e w' ⟨v, he, hv⟩ => ⟨v, he, hr v w' hv⟩⟩
theorem SoundO.sl {P : Program} {f : FuncId} {args : List AV} {ty sz : Nat} {es : List AV} (h : SoundO P f args ty sz es) (hi : ∀ x ∈ es, imm x = true) : Sound P f args (.sl es) := by
  intro w ok cargs hok hG hl ha
  refine CallsF.mono (h.2 w ok cargs hok hG hl ha) fun cv w' ⟨hb, ho⟩ => ⟨hb, ?_⟩
  rcases ho with ⟨rfl, a, rfl⟩ | ⟨b, cap, cur, rfl, h1, h2, h3, h4, h5, h6⟩
  · exact .sl0 _ _
  · refine .sl es b 0 sz cap cur ty (0, 0) (fun i o => cur.getD (i * sz + o) undef) (.inr ⟨h1, (Array.getElem?_eq_some_iff.1 h2).1⟩) h3 h2 (fun i x hx => ⟨(h6 i x hx).1, (h6 i x hx).2.1, hi x (List.mem_of_getElem? hx)⟩) (fun i x o c hx hc => ?_) (fun i x o c hx hc => ?_)
    · obtain ⟨cv, p, q⟩ := (h6 i x hx).2.2 o c hc
      rw [Nat.zero_add, p]
      simp [Array.getD_eq_getD_getElem?, p]
    · obtain ⟨cv, p, q⟩ := (h6 i x hx).2.2 o c hc
      have : cur.getD (i * sz + o) undef = cv := by simp [Array.getD_eq_getD_getElem?, p]
      rw [this]
      exact q.mono (fun _ h => h.1) (fun _ _ => rfl) (Goes.empty _ _ _ _ _)
theorem ints_immM (l : List Int) : ∀ x ∈ ints l, imm x = true := fun x hx => by
  obtain ⟨n, _, rfl⟩ := List.mem_map.1 hx; rfl

theorem ownS_ints (l : List Int) (ks : List Nat) (s : Store) : ownS (ints l) ks s = s := by
  have : scalE (ints l) = true := List.all_eq_true.2 fun x hx => by
    obtain ⟨n, _, rfl⟩ := List.mem_map.1 hx; rfl
  unfold ownS; rw [if_pos this]
def dfL (items l ch : List Int) (den : Int) : List Int := (List.range (mdA items ch).length).map fun n => l.getD n 0 * den - mdT items ch n ch.length
def dfK (items l ch : List Int) (den : Int) (i : Nat) : List Int := (List.range (mdA items ch).length).map fun n => if n < i then l.getD n 0 * den - mdT items ch n ch.length else mdT items ch n ch.length
theorem dfL_len (items l ch : List Int) (den : Int) : (dfL items l ch den).length = (mdA items ch).length := by simp [dfL]
theorem dfK_len (items l ch : List Int) (den : Int) (i : Nat) : (dfK items l ch den i).length = (mdA items ch).length := by simp [dfK]
theorem dfK_0 (items l ch : List Int) (den : Int) : dfK items l ch den 0 = mdA items ch := by
  apply List.ext_getElem
  · exact dfK_len _ _ _ _ _
  · intro n h1 h2; rw [mdA_get]; simp [dfK]
theorem dfK_set (items l ch : List Int) (den : Int) {i : Nat} (h : i < (mdA items ch).length) : (dfK items l ch den i).set i (l.getD i 0 * den - mdT items ch i ch.length) = dfK items l ch den (i + 1) := by
  apply List.ext_getElem
  · rw [List.length_set, dfK_len, dfK_len]
  · intro n h1 h2
    rw [List.getElem_set]
    simp only [dfK, List.getElem_map, List.getElem_range]
    by_cases e : i = n
    · subst e; rw [if_pos rfl, if_pos (by omega)]
    · rw [if_neg e]
      by_cases e2 : n < i
      · rw [if_pos e2, if_pos (by omega)]
      · rw [if_neg e2, if_neg (by omega)]
theorem dfK_all (items l ch : List Int) (den : Int) {i : Nat} (h : (mdA items ch).length ≤ i) : dfK items l ch den i = dfL items l ch den := by
  unfold dfK dfL
  refine List.map_congr_left fun n hn => ?_
  rw [List.mem_range] at hn
  rw [if_pos (by omega)]
theorem dfK_at (items l ch : List Int) (den : Int) {i : Nat} (h : i < (dfK items l ch den i).length) : (dfK items l ch den i)[i] = mdT items ch i ch.length := by simp [dfK]

structure FitIn (items l : List Int) (shifts : Int) (ch : List Int) (den : Int) : Prop where
  i1 : 1 ≤ items.length
  i6 : items.length ≤ 6
  ib : ∀ x ∈ items, -100 ≤ x ∧ x ≤ 100
  ne : ∃ x ∈ items, x ≠ 0
  s5 : 1 ≤ shifts ∧ shifts ≤ 5
  lb : ∀ x ∈ l, -10000 ≤ x ∧ x ≤ 10000
  ll : (l.length : Int) = shifts + items.length - 1
  cl : (ch.length : Int) = shifts
  cb : ∀ x ∈ ch, 0 ≤ x ∧ x ≤ 1000000000000
  db : 1 ≤ den ∧ den ≤ 1000000000000

theorem FitIn.cb2 {items l : List Int} {shifts : Int} {ch : List Int} {den : Int} (h : FitIn items l shifts ch den) : ∀ x ∈ ch, -1000000000000 ≤ x ∧ x ≤ 1000000000000 := fun x hx => ⟨by have := (h.cb x hx).1; omega, (h.cb x hx).2⟩
theorem FitIn.mlen {items l : List Int} {shifts : Int} {ch : List Int} {den : Int} (h : FitIn items l shifts ch den) : (mdA items ch).length = l.length := by
  have := h.ll; have := h.cl; have := h.i1; rw [mdA_len]; omega
theorem FitIn.l10 {items l : List Int} {shifts : Int} {ch : List Int} {den : Int} (h : FitIn items l shifts ch den) : l.length ≤ 10 := by
  have := h.ll; have := h.i6; have := h.s5; omega
theorem FitIn.mb {items l : List Int} {shifts : Int} {ch : List Int} {den : Int} (h : FitIn items l shifts ch den) (n : Nat) : -500000000000000 ≤ mdT items ch n ch.length ∧ mdT items ch n ch.length ≤ 500000000000000 := by
  have h1 := mdT_bd (C := 1000000000000) (by omega) h.ib h.cb2 n ch.length
  have h2 := h.cl; have h3 := h.s5
  omega
theorem FitIn.lb2 {items l : List Int} {shifts : Int} {ch : List Int} {den : Int} (h : FitIn items l shifts ch den) (n : Nat) : -10000 ≤ l.getD n 0 ∧ l.getD n 0 ≤ 10000 := by
  by_cases hn : n < l.length
  · rw [getD_at hn]; exact h.lb _ (List.getElem_mem hn)
  · simp [List.getD, List.getElem?_eq_none (Nat.le_of_not_lt hn)]
theorem FitIn.pb {items l : List Int} {shifts : Int} {ch : List Int} {den : Int} (h : FitIn items l shifts ch den) (n : Nat) : -10000000000000000 ≤ l.getD n 0 * den ∧ l.getD n 0 * den ≤ 10000000000000000 := by
  have h1 := h.lb2 n
  have h2 := h.db
  have := mul_abs (s := l.getD n 0) (k := den) (M := 10000) (K := 1000000000000) ⟨by omega, h2.2⟩ (by omega) h1
  omega
theorem FitIn.dfb {items l : List Int} {shifts : Int} {ch : List Int} {den : Int} (h : FitIn items l shifts ch den) : ∀ x ∈ dfL items l ch den, -10500000000000000 ≤ x ∧ x ≤ 10500000000000000 := by
  intro x hx
  unfold dfL at hx
  obtain ⟨n, _, rfl⟩ := List.mem_map.1 hx
  have h1 := h.pb n
  have h2 := h.mb n
  omega

theorem differences_o {items l : List Int} {shifts : Int} {ch : List Int} {den : Int} (h : FitIn items l shifts ch den) :
    SoundO Tryz.prog 105 [tplA items shifts, .sl (ints l), fitA den ch] 3 1 (ints (dfL items l ch den)) := by
  refine soundO_W f_pulse_differences (Nat.le_of_ble_eq_true rfl) (by decide) ?_
  have hm := model_s shifts h.i1 h.i6 (by have := h.cl; have := h.s5; omega) (C := 1000000000000) (by omega) h.ib h.cb2
  have hml := h.mlen
  have hl10 := h.l10
  unfold tplA at hm
  have hmax := maxLen_big
  simp only [c_pulse_differences, tplA, fitA, vcV, vcD, Int.reduceEq, Int.reduceNe, Int.reduceLT, Int.reduceLE, Nat.reduceEqDiff, Nat.reduceAdd, reduceIte, reduceCtorEq, Nat.reduceLT, Nat.reduceLeDiff, eq_self, vcP2, Nat.reduceShiftRight, Nat.reduceMod]
  refine callS_own hm rfl ?_
  simp only [ownS_ints, ints_length, hml, vcV, vcD, Int.reduceEq, Int.reduceNe, Int.reduceLT, Int.reduceLE, Nat.reduceEqDiff, Nat.reduceAdd, reduceIte, reduceCtorEq, Nat.reduceLT, Nat.reduceLeDiff, eq_self, vcP2, Nat.reduceShiftRight, Nat.reduceMod]
  rw [← dfK_0 items l ch den]
  refine W_loop (t := .mk) (α := PSigma fun i : Nat => i ≤ l.length) (fun ⟨i, _⟩ => (envOf [(5, .ptr 5 0 0), (7, .buf 100 l.length), (14, .sl (ints l)), (15, .int .i64 l.length), (16, .int .i64 i)], stOf [(5, ⟨29, 2, [.agg [.int .i64 den, .sl (ints ch)]]⟩), (100, ⟨3, 1, ints (dfK items l ch den i)⟩)])) (fun x => l.length - x.1) ⟨0, Nat.zero_le _⟩ ?_ (fun ⟨i, hin⟩ => ?_)
  · refine weakX [(100, some 13)] (of_decide_eq_true rfl) (of_decide_eq_true rfl) ?_
    (simp only [vcW, vcV, vcD, Int.reduceEq, Int.reduceNe, Int.reduceLT, Int.reduceLE, Nat.reduceEqDiff, Nat.reduceAdd, reduceIte, reduceCtorEq, Nat.reduceLT, Nat.reduceLeDiff, eq_self, vcP2, Nat.reduceShiftRight, Nat.reduceMod])
    (repeat' first | exact trivial | (with_reducible exact RnB.fxB (ints_fxB _)) | (with_reducible rfl) | (with_reducible refine And.intro ?_ ?_) | (with_reducible refine RnB.bb ?_; simp only [vcW, vcV, vcD, Int.reduceEq, Int.reduceNe, Int.reduceLT, Int.reduceLE, Nat.reduceEqDiff, Nat.reduceAdd, reduceIte, reduceCtorEq, Nat.reduceLT, Nat.reduceLeDiff, eq_self, vcP2, Nat.reduceShiftRight, Nat.reduceMod]) | (with_reducible refine RnB.nb ?_; simp only [vcW, vcV, vcD, Int.reduceEq, Int.reduceNe, Int.reduceLT, Int.reduceLE, Nat.reduceEqDiff, Nat.reduceAdd, reduceIte, reduceCtorEq, Nat.reduceLT, Nat.reduceLeDiff, eq_self, vcP2, Nat.reduceShiftRight, Nat.reduceMod]) | (with_reducible refine RnB.ii ?_) | (with_reducible refine RnB.app ?_) | (with_reducible refine RnB.fxB ?_; simp only [vcW, vcV, vcD, Int.reduceEq, Int.reduceNe, Int.reduceLT, Int.reduceLE, Nat.reduceEqDiff, Nat.reduceAdd, reduceIte, reduceCtorEq, Nat.reduceLT, Nat.reduceLeDiff, eq_self, vcP2, Nat.reduceShiftRight, Nat.reduceMod]) | omega)
  · dsimp only at hin ⊢
    have hlen := dfK_len items l ch den i
    by_cases h' : i < l.length
    · have hc1 : (i : Int) < l.length := by omega
      have hi2 : i < (dfK items l ch den i).length := by omega
      have gw := ints_get (dfK items l ch den i) i hi2
      rw [dfK_at] at gw
      have b1 := h.pb i
      have b2 := h.mb i
      have hst : (ints (dfK items l ch den i)).set i (.int .i64 (l[i] * den - mdT items ch i ch.length)) = ints (dfK items l ch den (i + 1)) := by
        rw [ints_st, ← dfK_set items l ch den (by omega), getD_at h']
      rw [getD_at h'] at b1
      simp only [hc1, ints_get l i h', gw, ints_length, hlen, hml, vcV, vcD, Int.reduceEq, Int.reduceNe, Int.reduceLT, Int.reduceLE, Nat.reduceEqDiff, Nat.reduceAdd, reduceIte, reduceCtorEq, Nat.reduceLT, Nat.reduceLeDiff, eq_self, vcP2, Nat.reduceShiftRight, Nat.reduceMod]
      (repeat (with_reducible refine And.intro ?_ ?_; focus (first | omega | (unfold I64; omega))))
      refine ⟨⟨i + 1, h'⟩, by simp only; omega, ?_⟩
      refine weakX [(100, some 100)] (of_decide_eq_true rfl) (of_decide_eq_true rfl) ?_
      (simp only [vcW, vcV, vcD, Int.reduceEq, Int.reduceNe, Int.reduceLT, Int.reduceLE, Nat.reduceEqDiff, Nat.reduceAdd, reduceIte, reduceCtorEq, Nat.reduceLT, Nat.reduceLeDiff, eq_self, vcP2, Nat.reduceShiftRight, Nat.reduceMod])
      (repeat' first | exact trivial | (with_reducible exact RnB.fxB (ints_fxB _)) | (with_reducible rfl) | (with_reducible refine And.intro ?_ ?_) | (with_reducible refine RnB.bb ?_; simp only [vcW, vcV, vcD, Int.reduceEq, Int.reduceNe, Int.reduceLT, Int.reduceLE, Nat.reduceEqDiff, Nat.reduceAdd, reduceIte, reduceCtorEq, Nat.reduceLT, Nat.reduceLeDiff, eq_self, vcP2, Nat.reduceShiftRight, Nat.reduceMod]) | (with_reducible refine RnB.nb ?_; simp only [vcW, vcV, vcD, Int.reduceEq, Int.reduceNe, Int.reduceLT, Int.reduceLE, Nat.reduceEqDiff, Nat.reduceAdd, reduceIte, reduceCtorEq, Nat.reduceLT, Nat.reduceLeDiff, eq_self, vcP2, Nat.reduceShiftRight, Nat.reduceMod]) | (with_reducible refine RnB.ii ?_) | (with_reducible refine RnB.app ?_) | (with_reducible refine RnB.fxB ?_; simp only [vcW, vcV, vcD, Int.reduceEq, Int.reduceNe, Int.reduceLT, Int.reduceLE, Nat.reduceEqDiff, Nat.reduceAdd, reduceIte, reduceCtorEq, Nat.reduceLT, Nat.reduceLeDiff, eq_self, vcP2, Nat.reduceShiftRight, Nat.reduceMod]) | omega)
      all_goals exact RnB.eq hst (by rw [hst]; exact ints_fxB _)
    · have hil : i = l.length := by omega
      subst hil
      have hc1 : ¬ (l.length : Int) < l.length := by omega
      have hall := dfK_all items l ch den (i := l.length) (by omega)
      have hE : l.length = (ints (dfL items l ch den)).length := by rw [ints_length, dfL_len, hml]
      simp only [hc1, oEnd_n, oEnd_r, hall, vcV, vcD, Int.reduceEq, Int.reduceNe, Int.reduceLT, Int.reduceLE, Nat.reduceEqDiff, Nat.reduceAdd, reduceIte, reduceCtorEq, Nat.reduceLT, Nat.reduceLeDiff, eq_self, vcP2, Nat.reduceShiftRight, Nat.reduceMod]
      exact ownV_i 100 l.length rfl hE rfl (Go.Av.ints_imm _)
theorem differences_s {items l : List Int} {shifts : Int} {ch : List Int} {den : Int} (h : FitIn items l shifts ch den) :
    Sound Tryz.prog 105 [tplA items shifts, .sl (ints l), fitA den ch] (.sl (ints (dfL items l ch den))) := SoundO.sl (differences_o h) (ints_immM _)

def beE (items : List Int) (shifts : Int) (l : List Int) (den : Int) (ch : List Int) : Int := if fdE items shifts l ≠ 0 then fdE items shifts l else if fE den ch ≠ 0 then fE den ch else if (ch.length : Int) = shifts then 0 else 10
theorem beE_ok {items : List Int} {shifts : Int} {l : List Int} {den : Int} {ch : List Int} (h : beE items shifts l den ch = 0) : FitIn items l shifts ch den := by
  unfold beE at h
  split at h
  · rename_i h1; exact absurd h h1
  · rename_i h1
    split at h
    · rename_i h2; exact absurd h h2
    · rename_i h2
      split at h
      · rename_i h3
        have h1' : fdE items shifts l = 0 := by omega
        have h2' : fE den ch = 0 := by omega
        unfold fdE at h1'
        split at h1'
        · rename_i g; exact absurd h1' g
        · rename_i g
          split at h1'
          · rename_i g2; exact absurd h1' g2
          · rename_i g2
            split at h1'
            · rename_i g3
              obtain ⟨⟨a1, a2⟩, a3, a4, a5⟩ := teE_ok (items := items) (shifts := shifts) (by omega)
              obtain ⟨b1, b2, b3⟩ := fE_ok h2'
              have hs : smE l = 0 := by omega
              exact ⟨a1, a2, a3, a4, a5, (smE_ok hs).2.2, g3, h3, b3, b1⟩
            · cases h1'
      · cases h
theorem bothErr_s (items : List Int) (shifts : Int) (l : List Int) (den : Int) (ch : List Int) (h1 : items.length < 4000000000000000000) (h2 : l.length < 4000000000000000000) (h3 : ch.length < 4000000000000000000) :
    Sound Tryz.prog 104 [tplA items shifts, .sl (ints l), fitA den ch] (.int .i64 (beE items shifts l den ch)) := by
  refine sound_W f_pulse_bothErr (Nat.le_of_ble_eq_true rfl) ?_
  have hF := fittedErr_s items shifts l h1 h2
  have hG := fitErr_s den ch h3
  unfold tplA at hF
  unfold fitA at hG
  simp only [c_pulse_bothErr, tplA, fitA, vcV, vcD, Int.reduceEq, Int.reduceNe, Int.reduceLT, Int.reduceLE, Nat.reduceEqDiff, Nat.reduceAdd, reduceIte, reduceCtorEq, Nat.reduceLT, Nat.reduceLeDiff, eq_self, vcP2, Nat.reduceShiftRight, Nat.reduceMod]
  refine callS_of hF ?_
  simp only [vcV, vcD, Int.reduceEq, Int.reduceNe, Int.reduceLT, Int.reduceLE, Nat.reduceEqDiff, Nat.reduceAdd, reduceIte, reduceCtorEq, Nat.reduceLT, Nat.reduceLeDiff, eq_self, vcP2, Nat.reduceShiftRight, Nat.reduceMod]
  refine callS_of hG ?_
  simp only [vcV, vcD, Int.reduceEq, Int.reduceNe, Int.reduceLT, Int.reduceLE, Nat.reduceEqDiff, Nat.reduceAdd, reduceIte, reduceCtorEq, Nat.reduceLT, Nat.reduceLeDiff, eq_self, vcP2, Nat.reduceShiftRight, Nat.reduceMod]
  refine callS_of (unless_s _ _) ?_
  simp only [vcV, vcD, Int.reduceEq, Int.reduceNe, Int.reduceLT, Int.reduceLE, Nat.reduceEqDiff, Nat.reduceAdd, reduceIte, reduceCtorEq, Nat.reduceLT, Nat.reduceLeDiff, eq_self, vcP2, Nat.reduceShiftRight, Nat.reduceMod]
  refine callS_of (first3_s _ _ _) ?_
  simp only [vcV, vcD, Int.reduceEq, Int.reduceNe, Int.reduceLT, Int.reduceLE, Nat.reduceEqDiff, Nat.reduceAdd, reduceIte, reduceCtorEq, Nat.reduceLT, Nat.reduceLeDiff, eq_self, vcP2, Nat.reduceShiftRight, Nat.reduceMod]
  refine ⟨by intro _ k hk; simp [refsL, refs, upd] at hk; subst hk; simp [upd], ?_⟩
  unfold beE
  by_cases e : (ch.length : Int) = shifts <;> simp [e]
end Go.Proofs.YtgmpcbpmnimkoaaGreatDoor

/- Contracts: which fit is accepted. By an AI agent; nothing here is trusted. -/
namespace Go.Proofs.YtgmpcbpmnimkoaaGreatDoor
open Go.Av

def gcF (den : Int) (ch : List Int) : Nat := Lin.gcds den.natAbs (ch.map Int.natAbs)
theorem gcds_app (d : Nat) (a : List Nat) (x : Nat) : Lin.gcds d (a ++ [x]) = Nat.gcd (Lin.gcds d a) x := by simp [Lin.gcds, List.foldl_append]
theorem gcF_next (den : Int) {ch : List Int} {i : Nat} (h : i < ch.length) : gcF den (ch.take (i + 1)) = Nat.gcd (gcF den (ch.take i)) ch[i].natAbs := by
  unfold gcF
  rw [List.take_succ_eq_append_getElem h, List.map_append]
  exact gcds_app _ _ _
theorem gcF_le (den : Int) (ch : List Int) (h : 0 < den) : gcF den ch ≤ den.natAbs := Nat.le_of_dvd (by omega) (Lin.gcds_dvd _ _)
def grI (items l ch : List Int) (den : Int) (k : Nat) : Int := agT items (dfL items l ch den) k items.length
def ckP (items l ch : List Int) (den : Int) (k : Nat) : Bool := decide (0 < grI items l ch den k) || (!decide (grI items l ch den k = 0) && decide (0 < ch.getD k 0))
def ckA (items l ch : List Int) (den : Int) : Int × Int := match (List.range ch.length).find? (ckP items l ch den) with
  | some k => ((k : Int), 19)
  | none => (0, 0)
theorem ckA_some {items l ch : List Int} {den : Int} {i : Nat} (h : i < ch.length) (hp : ckP items l ch den i = true) (hn : ∀ k, k < i → ckP items l ch den k = false) : ckA items l ch den = ((i : Int), 19) := by
  unfold ckA
  have : (List.range ch.length).find? (ckP items l ch den) = some i := by
    rw [List.find?_range_eq_some]
    exact ⟨hp, List.mem_range.2 h, fun j hj => by rw [hn j hj]; rfl⟩
  rw [this]
theorem ckA_none {items l ch : List Int} {den : Int} (hn : ∀ k, k < ch.length → ckP items l ch den k = false) : ckA items l ch den = (0, 0) := by
  unfold ckA
  have : (List.range ch.length).find? (ckP items l ch den) = none := by
    rw [List.find?_eq_none]
    intro x hx
    rw [hn x (List.mem_range.1 hx)]; decide
  rw [this]
def cfA (items : List Int) (shifts : Int) (l : List Int) (den : Int) (ch : List Int) : Int × Int := if beE items shifts l den ch ≠ 0 then (0, beE items shifts l den ch) else if gcF den ch ≠ 1 then (0, 3) else ckA items l ch den
theorem CheckFit_s (items : List Int) (shifts : Int) (l : List Int) (den : Int) (ch : List Int) (h1 : items.length < 4000000000000000000) (h2 : l.length < 4000000000000000000) (h3 : ch.length < 4000000000000000000) :
    Sound Tryz.prog 37 [tplA items shifts, .sl (ints l), fitA den ch] (.tup [.int .i64 (cfA items shifts l den ch).1, .int .i64 (cfA items shifts l den ch).2]) := by
  refine sound_W f_pulse_CheckFit (Nat.le_of_ble_eq_true rfl) ?_
  have hB := bothErr_s items shifts l den ch h1 h2 h3
  unfold tplA fitA at hB
  simp only [c_pulse_CheckFit, tplA, fitA, vcV, vcD, Int.reduceEq, Int.reduceNe, Int.reduceLT, Int.reduceLE, Nat.reduceEqDiff, Nat.reduceAdd, reduceIte, reduceCtorEq, Nat.reduceLT, Nat.reduceLeDiff, eq_self, vcP2, Nat.reduceShiftRight, Nat.reduceMod]
  refine callS_of hB ?_
  by_cases hE : beE items shifts l den ch = 0
  case neg =>
    have hr : cfA items shifts l den ch = (0, beE items shifts l den ch) := by unfold cfA; rw [if_pos hE]
    simp only [hE, hr, vcV, vcD, Int.reduceEq, Int.reduceNe, Int.reduceLT, Int.reduceLE, Nat.reduceEqDiff, Nat.reduceAdd, reduceIte, reduceCtorEq, Nat.reduceLT, Nat.reduceLeDiff, eq_self, vcP2, Nat.reduceShiftRight, Nat.reduceMod]
  have F := beE_ok hE
  have hch5 : ch.length ≤ 5 := by have := F.cl; have := F.s5; omega
  have hdn : den = ((gcF den [] : Nat) : Int) := by
    have : gcF den [] = den.natAbs := rfl
    rw [this]; have := F.db; omega
  simp only [hE, vcV, vcD, Int.reduceEq, Int.reduceNe, Int.reduceLT, Int.reduceLE, Nat.reduceEqDiff, Nat.reduceAdd, reduceIte, reduceCtorEq, Nat.reduceLT, Nat.reduceLeDiff, eq_self, vcP2, Nat.reduceShiftRight, Nat.reduceMod]
  refine W_loop (t := .mk) (α := PSigma fun i : Nat => i ≤ ch.length) (fun ⟨i, _⟩ => (envOf [(1, .sl (ints l)), (3, .ptr 3 0 0), (5, .ptr 5 0 0), (9, .int .i64 ((gcF den (ch.take i) : Nat) : Int)), (26, .sl (ints ch)), (27, .int .i64 ch.length), (28, .int .i64 i)], stOf [(3, ⟨24, 2, [.agg [.sl (ints items), .int .i64 shifts]]⟩), (5, ⟨29, 2, [.agg [.int .i64 den, .sl (ints ch)]]⟩)])) (fun x => ch.length - x.1) ⟨0, Nat.zero_le _⟩ ?_ (fun ⟨i, hin⟩ => ?_)
  · refine weakX [] (of_decide_eq_true rfl) (of_decide_eq_true rfl) ?_
    (simp only [← hdn, vcW, vcV, vcD, Int.reduceEq, Int.reduceNe, Int.reduceLT, Int.reduceLE, Nat.reduceEqDiff, Nat.reduceAdd, reduceIte, reduceCtorEq, Nat.reduceLT, Nat.reduceLeDiff, eq_self, vcP2, Nat.reduceShiftRight, Nat.reduceMod])
    (repeat' first | exact trivial | (with_reducible exact RnB.fxB (ints_fxB _)) | (with_reducible rfl) | (with_reducible refine And.intro ?_ ?_) | (with_reducible refine RnB.bb ?_; simp only [vcW, vcV, vcD, Int.reduceEq, Int.reduceNe, Int.reduceLT, Int.reduceLE, Nat.reduceEqDiff, Nat.reduceAdd, reduceIte, reduceCtorEq, Nat.reduceLT, Nat.reduceLeDiff, eq_self, vcP2, Nat.reduceShiftRight, Nat.reduceMod]) | (with_reducible refine RnB.nb ?_; simp only [vcW, vcV, vcD, Int.reduceEq, Int.reduceNe, Int.reduceLT, Int.reduceLE, Nat.reduceEqDiff, Nat.reduceAdd, reduceIte, reduceCtorEq, Nat.reduceLT, Nat.reduceLeDiff, eq_self, vcP2, Nat.reduceShiftRight, Nat.reduceMod]) | (with_reducible refine RnB.ii ?_) | (with_reducible refine RnB.app ?_) | (with_reducible refine RnB.fxB ?_; simp only [vcW, vcV, vcD, Int.reduceEq, Int.reduceNe, Int.reduceLT, Int.reduceLE, Nat.reduceEqDiff, Nat.reduceAdd, reduceIte, reduceCtorEq, Nat.reduceLT, Nat.reduceLeDiff, eq_self, vcP2, Nat.reduceShiftRight, Nat.reduceMod]) | omega)
  · dsimp only at hin ⊢
    have hdb := F.db
    have hle := gcF_le den (ch.take i) (by omega)
    by_cases h' : i < ch.length
    · have hc1 : (i : Int) < ch.length := by omega
      have hcb := F.cb _ (List.getElem_mem h')
      have hd := divisor_s ((gcF den (ch.take i) : Nat) : Int) ch[i] (by unfold S63; omega) (by unfold S63; omega)
      have hg : ((Int.gcd ((gcF den (ch.take i) : Nat) : Int) ch[i] : Nat) : Int) = ((gcF den (ch.take (i + 1)) : Nat) : Int) := by
        rw [gcF_next den h']; rfl
      rw [hg] at hd
      simp only [hc1, ints_get ch i h', vcV, vcD, Int.reduceEq, Int.reduceNe, Int.reduceLT, Int.reduceLE, Nat.reduceEqDiff, Nat.reduceAdd, reduceIte, reduceCtorEq, Nat.reduceLT, Nat.reduceLeDiff, eq_self, vcP2, Nat.reduceShiftRight, Nat.reduceMod]
      (repeat (with_reducible refine And.intro ?_ ?_; focus (first | omega | (unfold I64; omega))))
      refine callS_of hd ?_
      simp only [vcV, vcD, Int.reduceEq, Int.reduceNe, Int.reduceLT, Int.reduceLE, Nat.reduceEqDiff, Nat.reduceAdd, reduceIte, reduceCtorEq, Nat.reduceLT, Nat.reduceLeDiff, eq_self, vcP2, Nat.reduceShiftRight, Nat.reduceMod]
      (repeat (with_reducible refine And.intro ?_ ?_; focus (first | omega | (unfold I64; omega))))
      refine ⟨⟨i + 1, h'⟩, by simp only; omega, ?_⟩
      refine weakX [] (of_decide_eq_true rfl) (of_decide_eq_true rfl) ?_
      (simp only [vcW, vcV, vcD, Int.reduceEq, Int.reduceNe, Int.reduceLT, Int.reduceLE, Nat.reduceEqDiff, Nat.reduceAdd, reduceIte, reduceCtorEq, Nat.reduceLT, Nat.reduceLeDiff, eq_self, vcP2, Nat.reduceShiftRight, Nat.reduceMod])
      (repeat' first | exact trivial | (with_reducible exact RnB.fxB (ints_fxB _)) | (with_reducible rfl) | (with_reducible refine And.intro ?_ ?_) | (with_reducible refine RnB.bb ?_; simp only [vcW, vcV, vcD, Int.reduceEq, Int.reduceNe, Int.reduceLT, Int.reduceLE, Nat.reduceEqDiff, Nat.reduceAdd, reduceIte, reduceCtorEq, Nat.reduceLT, Nat.reduceLeDiff, eq_self, vcP2, Nat.reduceShiftRight, Nat.reduceMod]) | (with_reducible refine RnB.nb ?_; simp only [vcW, vcV, vcD, Int.reduceEq, Int.reduceNe, Int.reduceLT, Int.reduceLE, Nat.reduceEqDiff, Nat.reduceAdd, reduceIte, reduceCtorEq, Nat.reduceLT, Nat.reduceLeDiff, eq_self, vcP2, Nat.reduceShiftRight, Nat.reduceMod]) | (with_reducible refine RnB.ii ?_) | (with_reducible refine RnB.app ?_) | (with_reducible refine RnB.fxB ?_; simp only [vcW, vcV, vcD, Int.reduceEq, Int.reduceNe, Int.reduceLT, Int.reduceLE, Nat.reduceEqDiff, Nat.reduceAdd, reduceIte, reduceCtorEq, Nat.reduceLT, Nat.reduceLeDiff, eq_self, vcP2, Nat.reduceShiftRight, Nat.reduceMod]) | omega)
    · have hil : i = ch.length := by omega
      subst hil
      have hc1 : ¬ (ch.length : Int) < ch.length := by omega
      rw [List.take_length] at *
      by_cases hG : gcF den ch = 1
      case neg =>
        have hG' : ¬ ((gcF den ch : Nat) : Int) = 1 := by omega
        have hr : cfA items shifts l den ch = (0, 3) := by unfold cfA; rw [if_neg (by omega), if_pos hG]
        simp only [hc1, hG', hr, vcV, vcD, Int.reduceEq, Int.reduceNe, Int.reduceLT, Int.reduceLE, Nat.reduceEqDiff, Nat.reduceAdd, reduceIte, reduceCtorEq, Nat.reduceLT, Nat.reduceLeDiff, eq_self, vcP2, Nat.reduceShiftRight, Nat.reduceMod]
      have hG' : ((gcF den ch : Nat) : Int) = 1 := by omega
      have hr : cfA items shifts l den ch = ckA items l ch den := by unfold cfA; rw [if_neg (by omega), if_neg (by omega)]
      rw [hr]
      have hD := differences_s F
      unfold tplA fitA at hD
      simp only [hc1, hG', vcV, vcD, Int.reduceEq, Int.reduceNe, Int.reduceLT, Int.reduceLE, Nat.reduceEqDiff, Nat.reduceAdd, reduceIte, reduceCtorEq, Nat.reduceLT, Nat.reduceLeDiff, eq_self, vcP2, Nat.reduceShiftRight, Nat.reduceMod]
      refine callS_of hD ?_
      simp only [vcV, vcD, Int.reduceEq, Int.reduceNe, Int.reduceLT, Int.reduceLE, Nat.reduceEqDiff, Nat.reduceAdd, reduceIte, reduceCtorEq, Nat.reduceLT, Nat.reduceLeDiff, eq_self, vcP2, Nat.reduceShiftRight, Nat.reduceMod]
      refine W_loop (t := .mk) (α := PSigma fun i : Nat => i ≤ ch.length ∧ ∀ k, k < i → ckP items l ch den k = false) (fun ⟨i, _⟩ => (envOf [(3, .ptr 3 0 0), (12, .sl (ints (dfL items l ch den))), (43, .sl (ints ch)), (44, .int .i64 ch.length), (45, .int .i64 i)], stOf [(3, ⟨24, 2, [.agg [.sl (ints items), .int .i64 shifts]]⟩)])) (fun x => ch.length - x.1) ⟨0, Nat.zero_le _, fun k hk => absurd hk (Nat.not_lt_zero _)⟩ ?_ (fun ⟨i, hin, hno⟩ => ?_)
      · refine weakX [] (of_decide_eq_true rfl) (of_decide_eq_true rfl) ?_
        (simp only [vcW, vcV, vcD, Int.reduceEq, Int.reduceNe, Int.reduceLT, Int.reduceLE, Nat.reduceEqDiff, Nat.reduceAdd, reduceIte, reduceCtorEq, Nat.reduceLT, Nat.reduceLeDiff, eq_self, vcP2, Nat.reduceShiftRight, Nat.reduceMod])
        (repeat' first | exact trivial | (with_reducible exact RnB.fxB (ints_fxB _)) | (with_reducible rfl) | (with_reducible refine And.intro ?_ ?_) | (with_reducible refine RnB.bb ?_; simp only [vcW, vcV, vcD, Int.reduceEq, Int.reduceNe, Int.reduceLT, Int.reduceLE, Nat.reduceEqDiff, Nat.reduceAdd, reduceIte, reduceCtorEq, Nat.reduceLT, Nat.reduceLeDiff, eq_self, vcP2, Nat.reduceShiftRight, Nat.reduceMod]) | (with_reducible refine RnB.nb ?_; simp only [vcW, vcV, vcD, Int.reduceEq, Int.reduceNe, Int.reduceLT, Int.reduceLE, Nat.reduceEqDiff, Nat.reduceAdd, reduceIte, reduceCtorEq, Nat.reduceLT, Nat.reduceLeDiff, eq_self, vcP2, Nat.reduceShiftRight, Nat.reduceMod]) | (with_reducible refine RnB.ii ?_) | (with_reducible refine RnB.app ?_) | (with_reducible refine RnB.fxB ?_; simp only [vcW, vcV, vcD, Int.reduceEq, Int.reduceNe, Int.reduceLT, Int.reduceLE, Nat.reduceEqDiff, Nat.reduceAdd, reduceIte, reduceCtorEq, Nat.reduceLT, Nat.reduceLeDiff, eq_self, vcP2, Nat.reduceShiftRight, Nat.reduceMod]) | omega)
      · dsimp only at hin ⊢
        by_cases h' : i < ch.length
        · have hc2 : (i : Int) < ch.length := by omega
          have hag := against_s (items := items) (l := dfL items l ch den) shifts (k := i) (M := 10500000000000000) F.i6 (by omega) F.ib F.dfb (by have := F.mlen; have := F.ll; have := F.cl; have := F.i1; rw [dfL_len]; omega) (by omega)
          have hgd : ch.getD i 0 = ch[i] := getD_at h'
          unfold tplA at hag
          simp only [hc2, ints_get ch i h', vcV, vcD, Int.reduceEq, Int.reduceNe, Int.reduceLT, Int.reduceLE, Nat.reduceEqDiff, Nat.reduceAdd, reduceIte, reduceCtorEq, Nat.reduceLT, Nat.reduceLeDiff, eq_self, vcP2, Nat.reduceShiftRight, Nat.reduceMod]
          (repeat (with_reducible refine And.intro ?_ ?_; focus (first | omega | (unfold I64; omega))))
          refine callS_of hag ?_
          have hgi : agT items (dfL items l ch den) i items.length = grI items l ch den i := rfl
          rw [hgi]
          by_cases q1 : 0 < grI items l ch den i
          · have hp : ckP items l ch den i = true := by unfold ckP; simp [q1]
            have ha := ckA_some h' hp hno
            simp only [q1, ha, vcV, vcD, Int.reduceEq, Int.reduceNe, Int.reduceLT, Int.reduceLE, Nat.reduceEqDiff, Nat.reduceAdd, reduceIte, reduceCtorEq, Nat.reduceLT, Nat.reduceLeDiff, eq_self, vcP2, Nat.reduceShiftRight, Nat.reduceMod]
          · by_cases q2 : grI items l ch den i = 0
            · have hp : ckP items l ch den i = false := by unfold ckP; simp [q1, q2]
              simp only [q1, q2, vcV, vcD, Int.reduceEq, Int.reduceNe, Int.reduceLT, Int.reduceLE, Nat.reduceEqDiff, Nat.reduceAdd, reduceIte, reduceCtorEq, Nat.reduceLT, Nat.reduceLeDiff, eq_self, vcP2, Nat.reduceShiftRight, Nat.reduceMod]
              (repeat (with_reducible refine And.intro ?_ ?_; focus (first | omega | (unfold I64; omega))))
              refine ⟨⟨i + 1, h', fun k hk => ?_⟩, by simp only; omega, ?_⟩
              · by_cases e : k = i
                · rw [e]; exact hp
                · exact hno k (by omega)
              · refine weakX [] (of_decide_eq_true rfl) (of_decide_eq_true rfl) ?_
                (simp only [vcW, vcV, vcD, Int.reduceEq, Int.reduceNe, Int.reduceLT, Int.reduceLE, Nat.reduceEqDiff, Nat.reduceAdd, reduceIte, reduceCtorEq, Nat.reduceLT, Nat.reduceLeDiff, eq_self, vcP2, Nat.reduceShiftRight, Nat.reduceMod])
                (repeat' first | exact trivial | (with_reducible exact RnB.fxB (ints_fxB _)) | (with_reducible rfl) | (with_reducible refine And.intro ?_ ?_) | (with_reducible refine RnB.bb ?_; simp only [vcW, vcV, vcD, Int.reduceEq, Int.reduceNe, Int.reduceLT, Int.reduceLE, Nat.reduceEqDiff, Nat.reduceAdd, reduceIte, reduceCtorEq, Nat.reduceLT, Nat.reduceLeDiff, eq_self, vcP2, Nat.reduceShiftRight, Nat.reduceMod]) | (with_reducible refine RnB.nb ?_; simp only [vcW, vcV, vcD, Int.reduceEq, Int.reduceNe, Int.reduceLT, Int.reduceLE, Nat.reduceEqDiff, Nat.reduceAdd, reduceIte, reduceCtorEq, Nat.reduceLT, Nat.reduceLeDiff, eq_self, vcP2, Nat.reduceShiftRight, Nat.reduceMod]) | (with_reducible refine RnB.ii ?_) | (with_reducible refine RnB.app ?_) | (with_reducible refine RnB.fxB ?_; simp only [vcW, vcV, vcD, Int.reduceEq, Int.reduceNe, Int.reduceLT, Int.reduceLE, Nat.reduceEqDiff, Nat.reduceAdd, reduceIte, reduceCtorEq, Nat.reduceLT, Nat.reduceLeDiff, eq_self, vcP2, Nat.reduceShiftRight, Nat.reduceMod]) | omega)
            · by_cases q3 : 0 < ch[i]
              · have hp : ckP items l ch den i = true := by unfold ckP; rw [hgd]; simp [q2, q3]
                have ha := ckA_some h' hp hno
                simp only [q1, q2, q3, ha, vcV, vcD, Int.reduceEq, Int.reduceNe, Int.reduceLT, Int.reduceLE, Nat.reduceEqDiff, Nat.reduceAdd, reduceIte, reduceCtorEq, Nat.reduceLT, Nat.reduceLeDiff, eq_self, vcP2, Nat.reduceShiftRight, Nat.reduceMod]
              · have hp : ckP items l ch den i = false := by unfold ckP; rw [hgd]; simp [q1, q3]
                simp only [q1, q2, q3, vcV, vcD, Int.reduceEq, Int.reduceNe, Int.reduceLT, Int.reduceLE, Nat.reduceEqDiff, Nat.reduceAdd, reduceIte, reduceCtorEq, Nat.reduceLT, Nat.reduceLeDiff, eq_self, vcP2, Nat.reduceShiftRight, Nat.reduceMod]
                (repeat (with_reducible refine And.intro ?_ ?_; focus (first | omega | (unfold I64; omega))))
                refine ⟨⟨i + 1, h', fun k hk => ?_⟩, by simp only; omega, ?_⟩
                · by_cases e : k = i
                  · rw [e]; exact hp
                  · exact hno k (by omega)
                · refine weakX [] (of_decide_eq_true rfl) (of_decide_eq_true rfl) ?_
                  (simp only [vcW, vcV, vcD, Int.reduceEq, Int.reduceNe, Int.reduceLT, Int.reduceLE, Nat.reduceEqDiff, Nat.reduceAdd, reduceIte, reduceCtorEq, Nat.reduceLT, Nat.reduceLeDiff, eq_self, vcP2, Nat.reduceShiftRight, Nat.reduceMod])
                  (repeat' first | exact trivial | (with_reducible exact RnB.fxB (ints_fxB _)) | (with_reducible rfl) | (with_reducible refine And.intro ?_ ?_) | (with_reducible refine RnB.bb ?_; simp only [vcW, vcV, vcD, Int.reduceEq, Int.reduceNe, Int.reduceLT, Int.reduceLE, Nat.reduceEqDiff, Nat.reduceAdd, reduceIte, reduceCtorEq, Nat.reduceLT, Nat.reduceLeDiff, eq_self, vcP2, Nat.reduceShiftRight, Nat.reduceMod]) | (with_reducible refine RnB.nb ?_; simp only [vcW, vcV, vcD, Int.reduceEq, Int.reduceNe, Int.reduceLT, Int.reduceLE, Nat.reduceEqDiff, Nat.reduceAdd, reduceIte, reduceCtorEq, Nat.reduceLT, Nat.reduceLeDiff, eq_self, vcP2, Nat.reduceShiftRight, Nat.reduceMod]) | (with_reducible refine RnB.ii ?_) | (with_reducible refine RnB.app ?_) | (with_reducible refine RnB.fxB ?_; simp only [vcW, vcV, vcD, Int.reduceEq, Int.reduceNe, Int.reduceLT, Int.reduceLE, Nat.reduceEqDiff, Nat.reduceAdd, reduceIte, reduceCtorEq, Nat.reduceLT, Nat.reduceLeDiff, eq_self, vcP2, Nat.reduceShiftRight, Nat.reduceMod]) | omega)
        · have hil : i = ch.length := by omega
          subst hil
          have hc2 : ¬ (ch.length : Int) < ch.length := by omega
          have ha := ckA_none hno
          simp only [hc2, ha, vcV, vcD, Int.reduceEq, Int.reduceNe, Int.reduceLT, Int.reduceLE, Nat.reduceEqDiff, Nat.reduceAdd, reduceIte, reduceCtorEq, Nat.reduceLT, Nat.reduceLeDiff, eq_self, vcP2, Nat.reduceShiftRight, Nat.reduceMod]
end Go.Proofs.YtgmpcbpmnimkoaaGreatDoor

/- The library's functions as the shelf knows them: this program has them. Printed by a program. By an AI agent; nothing here is trusted. -/
namespace Go.Proofs.YtgmpcbpmnimkoaaGreatDoor
def shRen : Go.Shelf.Ren := ⟨fun x => match x with | 129 => 253 | 171 => 208 | 172 => 212 | 205 => 275 | 243 => 240 | 244 => 243 | 245 => 244 | 246 => 259 | 247 => 262 | 279 => 263 | 280 => 264 | 281 => 265 | 282 => 266 | 283 => 254 | 284 => 255 | 285 => 256 | 286 => 257 | 287 => 273 | 316 => 274 | 317 => 270 | 318 => 271 | 319 => 272 | 320 => 93 | 321 => 280 | 322 => 281 | 337 => 182 | 338 => 183 | n => n, fun x => match x with | 0 => 0 | 2 => 2 | 3 => 3 | 4 => 4 | 5 => 5 | 9 => 9 | 20 => 20 | 21 => 21 | 37 => 246 | 46 => 153 | 51 => 236 | 53 => 155 | 75 => 263 | 76 => 264 | 80 => 172 | 85 => 300 | 127 => 283 | 143 => 321 | 145 => 323 | 167 => 299 | 168 => 302 | 171 => 290 | 173 => 292 | 175 => 309 | 210 => 313 | 212 => 307 | 213 => 308 | 232 => 275 | 233 => 276 | n => n, fun x => match x with | 15 => 6 | 16 => 7 | 17 => 4 | 18 => 0 | 19 => 1 | n => n⟩
set_option maxRecDepth 100000 in
theorem sh_f129 : Tryz.prog.funcs[shRen.f 129]? = some (Go.Proofs.Body.n129 shRen) := by kernel_rfl
set_option maxRecDepth 100000 in
theorem sh_f283 : Tryz.prog.funcs[shRen.f 283]? = some (Go.Proofs.Body.n283 shRen) := by kernel_rfl
set_option maxRecDepth 100000 in
theorem sh_f284 : Tryz.prog.funcs[shRen.f 284]? = some (Go.Proofs.Body.n284 shRen) := by kernel_rfl
set_option maxRecDepth 100000 in
theorem sh_f285 : Tryz.prog.funcs[shRen.f 285]? = some (Go.Proofs.Body.n285 shRen) := by kernel_rfl
set_option maxRecDepth 100000 in
theorem sh_f317 : Tryz.prog.funcs[shRen.f 317]? = some (Go.Proofs.Body.n317 shRen) := by kernel_rfl
set_option maxRecDepth 100000 in
theorem sh_f318 : Tryz.prog.funcs[shRen.f 318]? = some (Go.Proofs.Body.n318 shRen) := by kernel_rfl
theorem sh_n283 : Go.Proofs.LaysM.n283 Tryz.prog shRen :=
  { mixed := by kernel_rfl,
    f283 := sh_f283,
    t3 := Tryz.underlying3,
    a3 := Tryz.isAgg3,
    z3 := Tryz.sizeOf3,
    v3 := Tryz.zeroValue3,
    t4 := Tryz.underlying4,
    a4 := Tryz.isAgg4,
    z4 := Tryz.sizeOf4,
    v4 := Tryz.zeroValue4,
    t9 := Tryz.underlying9,
    a9 := Tryz.isAgg9,
    z9 := Tryz.sizeOf9,
    v9 := Tryz.zeroValue9,
    i3 := by kernel_rfl,
    i4 := by kernel_rfl,
    i9 := by kernel_rfl }
theorem sh_n284 : Go.Proofs.LaysM.n284 Tryz.prog shRen :=
  { mixed := by kernel_rfl,
    f129 := sh_f129,
    f284 := sh_f284,
    f317 := sh_f317,
    f318 := sh_f318,
    t0 := Tryz.underlying0,
    a0 := Tryz.isAgg0,
    z0 := Tryz.sizeOf0,
    v0 := Tryz.zeroValue0,
    t3 := Tryz.underlying3,
    a3 := Tryz.isAgg3,
    z3 := Tryz.sizeOf3,
    v3 := Tryz.zeroValue3,
    t4 := Tryz.underlying4,
    a4 := Tryz.isAgg4,
    z4 := Tryz.sizeOf4,
    v4 := Tryz.zeroValue4,
    t5 := Tryz.underlying5,
    a5 := Tryz.isAgg5,
    z5 := Tryz.sizeOf5,
    v5 := Tryz.zeroValue5,
    t9 := Tryz.underlying9,
    a9 := Tryz.isAgg9,
    z9 := Tryz.sizeOf9,
    v9 := Tryz.zeroValue9,
    t46 := Tryz.underlying153,
    a46 := Tryz.isAgg153,
    z46 := Tryz.sizeOf153,
    v46 := Tryz.zeroValue153,
    t53 := Tryz.underlying155,
    a53 := Tryz.isAgg155,
    z53 := Tryz.sizeOf155,
    v53 := Tryz.zeroValue155,
    t212 := Tryz.underlying307,
    a212 := Tryz.isAgg307,
    z212 := Tryz.sizeOf307,
    v212 := Tryz.zeroValue307,
    g17 := by kernel_rfl,
    i0 := by kernel_rfl,
    i3 := by kernel_rfl,
    i4 := by kernel_rfl,
    i5 := by kernel_rfl,
    i9 := by kernel_rfl,
    i46 := by kernel_rfl,
    i53 := by kernel_rfl,
    i212 := by kernel_rfl,
    m17 := by kernel_rfl }
theorem sh_n285 : Go.Proofs.LaysM.n285 Tryz.prog shRen :=
  { mixed := by kernel_rfl,
    f285 := sh_f285,
    t0 := Tryz.underlying0,
    a0 := Tryz.isAgg0,
    z0 := Tryz.sizeOf0,
    v0 := Tryz.zeroValue0,
    t3 := Tryz.underlying3,
    a3 := Tryz.isAgg3,
    z3 := Tryz.sizeOf3,
    v3 := Tryz.zeroValue3,
    t4 := Tryz.underlying4,
    a4 := Tryz.isAgg4,
    z4 := Tryz.sizeOf4,
    v4 := Tryz.zeroValue4,
    t5 := Tryz.underlying5,
    a5 := Tryz.isAgg5,
    z5 := Tryz.sizeOf5,
    v5 := Tryz.zeroValue5,
    t9 := Tryz.underlying9,
    a9 := Tryz.isAgg9,
    z9 := Tryz.sizeOf9,
    v9 := Tryz.zeroValue9,
    t37 := Tryz.underlying246,
    a37 := Tryz.isAgg246,
    z37 := Tryz.sizeOf246,
    v37 := Tryz.zeroValue246,
    t51 := Tryz.underlying236,
    a51 := Tryz.isAgg236,
    z51 := Tryz.sizeOf236,
    v51 := Tryz.zeroValue236,
    t53 := Tryz.underlying155,
    a53 := Tryz.isAgg155,
    z53 := Tryz.sizeOf155,
    v53 := Tryz.zeroValue155,
    i0 := by kernel_rfl,
    i3 := by kernel_rfl,
    i4 := by kernel_rfl,
    i5 := by kernel_rfl,
    i9 := by kernel_rfl,
    i37 := by kernel_rfl,
    i51 := by kernel_rfl,
    i53 := by kernel_rfl }
theorem sh_n129 : Go.Proofs.Lays.n129 Tryz.prog shRen :=
  { mixed := by kernel_rfl,
    f129 := sh_f129,
    t3 := Tryz.underlying3,
    a3 := Tryz.isAgg3,
    z3 := Tryz.sizeOf3,
    v3 := Tryz.zeroValue3,
    t4 := Tryz.underlying4,
    a4 := Tryz.isAgg4,
    z4 := Tryz.sizeOf4,
    v4 := Tryz.zeroValue4,
    t5 := Tryz.underlying5,
    a5 := Tryz.isAgg5,
    z5 := Tryz.sizeOf5,
    v5 := Tryz.zeroValue5,
    t9 := Tryz.underlying9,
    a9 := Tryz.isAgg9,
    z9 := Tryz.sizeOf9,
    v9 := Tryz.zeroValue9,
    t46 := Tryz.underlying153,
    a46 := Tryz.isAgg153,
    z46 := Tryz.sizeOf153,
    v46 := Tryz.zeroValue153,
    t53 := Tryz.underlying155,
    a53 := Tryz.isAgg155,
    z53 := Tryz.sizeOf155,
    v53 := Tryz.zeroValue155 }
end Go.Proofs.YtgmpcbpmnimkoaaGreatDoor

/- Contracts off the library's shelf: lengths in bits, numerals. By an AI agent; nothing here is trusted. -/
namespace Go.Proofs.YtgmpcbpmnimkoaaGreatDoor
open Go.Av
open Go.RowKit (Below)

theorem vr_int {h : Array Obj} {ok : Nat → Prop} {ρ : Nat → Option Nat} {σ : Store} {k : IntKind} {n : Int} {v : Value} (hv : VR h ok ρ σ (.int k n) v) : v = .int k n := by cases hv; rfl
theorem args_1 {cargs : Array Value} {v : Value} (hlen : cargs.size = 1) (h0 : cargs.getD 0 undef = v) : cargs = #[v] := by
  apply Array.ext
  · simpa using hlen
  · intro i hi1 hi2
    simp at hi2
    subst hi2
    simpa [Array.getD, hi1] using h0
theorem args_2 {cargs : Array Value} {v u : Value} (hlen : cargs.size = 2) (h0 : cargs.getD 0 undef = v) (h1 : cargs.getD 1 undef = u) : cargs = #[v, u] := by
  apply Array.ext
  · simpa using hlen
  · intro i hi1 hi2
    simp at hi2
    have : i = 0 ∨ i = 1 := by omega
    rcases this with rfl | rfl
    · simpa [Array.getD, hi1] using h0
    · simpa [Array.getD, hi1] using h1
theorem below_drewN (w : World) (n : Nat) : Below w.heap.size w (w.drewN n) := ⟨rfl, rfl, rfl, Nat.le_refl _, fun _ _ => rfl⟩
theorem below_grow (w : World) (os : Array Obj) : Below w.heap.size w (Go.Sort.grow w os) :=
  ⟨rfl, rfl, rfl, by simp [Go.Sort.grow], fun k hk => by simp [Go.Sort.grow, Array.getElem?_append_left hk]⟩
theorem below_dg (w : World) (n : Nat) (os : Array Obj) : Below w.heap.size w (Go.Sort.grow (w.drewN n) os) := (below_drewN w n).trans (below_grow (w.drewN n) os)

theorem tab_of {ok : Nat → Prop} {w : World} (hG : GOk ok w) : Lib.TabIs Tryz.prog w "internal/strconv.uint64pow10" .u64 Lib.pow10Tab := by
  have hm : (4, IntKind.u64, Lib.pow10Tab) ∈ gTab := by
    have : Lib.pow10Tab = [1, 10, 100, 1000, 10000, 100000, 1000000, 10000000, 100000000, 1000000000, 10000000000, 100000000000, 1000000000000, 10000000000000, 100000000000000, 1000000000000000, 10000000000000000, 100000000000000000, 1000000000000000000, 10000000000000000000] := by decide +kernel
    rw [this]; simp [gTab]
  obtain ⟨_, cur, ty, fr, h2, h3, h4⟩ := hG.1 _ hm
  have hg : Tryz.prog.globalNamed "internal/strconv.uint64pow10" = some 4 := by kernel_rfl
  unfold Lib.TabIs World.var?
  rw [hg]
  simp only [Option.bind_some, h2]
  congr 1
  apply Array.ext
  · simpa using h3
  · intro i h5 h6
    have hi : i < Lib.pow10Tab.length := by simpa using h6
    have := h4 i _ (List.getElem?_eq_getElem hi)
    rw [Array.getElem?_eq_getElem h5] at this
    simpa using this
theorem Len64_s (x : Nat) (hx : x < 18446744073709551616) : Sound Tryz.prog 253 [.int .u64 x] (.int .i64 (Lib.bitLen x)) := by
  intro w ok cargs hok _ hlen hargs
  rw [args_1 (by simpa using hlen) (vr_int (hargs 0 _ rfl))]
  refine .inr ⟨callFunc_enter Tryz.func253 (by kernel_rfl) rfl _, (Any.bits_Len64 sh_n129 (x : Int) w (by omega) (by omega)).mono fun e w' ⟨he, hw⟩ => ⟨_, he, ?_, ?_⟩⟩
  · rw [hw]; exact Below.refl _ _
  · simp only [Int.toNat_natCast]; exact .int _ _
theorem small_s (u : Nat) (hu : u < 100) : Sound Tryz.prog 254 [.int .i64 u] (.str (Lib.decDigits u)) := by
  intro w ok cargs hok hG hlen hargs
  rw [args_1 (by simpa using hlen) (vr_int (hargs 0 _ rfl))]
  refine .inr ⟨callFunc_enter Tryz.func254 (by kernel_rfl) rfl _, (Any.internal_strconv_small { sh_n283 with } u hu w).mono fun e w' ⟨he, hw⟩ => ⟨_, he, ?_, ?_⟩⟩
  · rw [hw]; exact Below.refl _ _
  · exact .str _ _ (by simp)
end Go.Proofs.YtgmpcbpmnimkoaaGreatDoor

