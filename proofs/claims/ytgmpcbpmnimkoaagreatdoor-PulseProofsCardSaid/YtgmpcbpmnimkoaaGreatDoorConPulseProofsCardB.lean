/- The contract of strconv.FormatUint at base 10. By an AI agent; nothing here is trusted. -/
import Derived.Test.YtgmpcbpmnimkoaaGreatDoorConPulseProofsCardA
import Derived.Test.YtgmpcbpmnimkoaaGreatDoorChecked
import Derived.Test.YtgmpcbpmnimkoaaGreatDoorKode
import Derived.Test.YtgmpcbpmnimkoaaGreatDoorLayC
import Derived.Test.YtgmpcbpmnimkoaaGreatDoorLayA
import Derived.Shelf.Strconv.Itoa2
import Derived.Lib.Walk
import Derived.Lib.ItoaMem
import Derived.WalkKit
import Derived.BigCall
import Derived.BigGuard
import Derived.Lib.ItoaNum
import Derived.Lib.AtoiAll
import Derived.Shelf.Slices.Clone
set_option linter.defProp false
set_option linter.unusedSimpArgs false
set_option linter.unusedVariables false
namespace Go.Proofs.YtgmpcbpmnimkoaaGreatDoor
open Go.Shelf Go.RowKit Go.Sort Go.Lib

theorem holds_zero0 (w : World) (T : TypeId) (nd : Nat) (hs : nd ≤ 24) : Holds (fun (b : UInt8) => Value.int .u8 (b.toNat : Int)) (w.alloc (.cells zeros24 T)) w.heap.size 0 (Array.replicate nd (0 : UInt8)) := fun j hj => by
  have hj' : j < nd := by simpa using hj
  refine ⟨?_, World.frozen?_alloc_new _ _ _ _⟩
  rw [World.cell?_alloc_new, zeros24_at _ (by omega), getElem!_pos _ j hj]
  simp
theorem fin_pos0 (w : World) (o : Obj) (dk : Array UInt8) (k : Nat) : ∃ os, (putRow (fun (b : UInt8) => Value.int .u8 (b.toNat : Int)) (w.alloc o) w.heap.size 0 dk).drewN k = grow (w.drewN k) os := by
  rw [alloc_eq_grow]
  obtain ⟨os', _, e⟩ := putRow_grow_new (fun (b : UInt8) => Value.int .u8 (b.toNat : Int)) w #[o] w.heap.size 0 dk (Nat.le_refl _)
  exact ⟨os', by rw [e]; rfl⟩
set_option maxHeartbeats 6400000 in
set_option maxRecDepth 100000 in
theorem FormatUint_big (u : Nat) (h1 : 100 ≤ u) (hu64 : u < 18446744073709551616) (w : World) (htab : Lib.TabIs Tryz.prog w "internal/strconv.uint64pow10" .u64 Lib.pow10Tab) :
    Calls Tryz.prog 234 #[.int .u64 u, .int .i64 10] w fun e w' => e = .returned (.string ⟨(Lib.decDigits u).toArray⟩) ∧ ∃ k os, w' = grow (w.drewN k) os := by
  have hu1 : 1 ≤ u := by omega
  have hnd20 : Lib.nDigits u ≤ 20 := by have := Lib.numDigits_eq u hu1 hu64; split at this <;> omega
  have hb4 : Lib.nDigits u ≤ 24 := by omega
  have ht : Tryz.prog.underlying 290 = some (.array 24 5) := Tryz.underlying290
  have hal : Tryz.prog.arrayLen 290 = 24 := by simp [Program.arrayLen, ht]
  have hsl1 : ∀ W, (Instr.sliceAt 290 (.pointer (some ⟨w.heap.size, 0, none⟩)) none (some (.int .i64 (Lib.nDigits u : Int))) none).run Tryz.prog W = .ok (.slice (some ⟨w.heap.size, 0, none⟩) (Lib.nDigits u) 24) W := fun W => by
    rw [run_sliceAt_array_h W 290 ⟨w.heap.size, 0, none⟩ (by simp [Program.arrayLen, Program.elem, ht]) .i64 (Lib.nDigits u : Int) (by omega) (by rw [hal]; omega)]
    go_simp
  have hH0 := holds_zero0 w 290 (Lib.nDigits u) (by omega)
  have hfmt := Any.internal_strconv_formatBase10 { sh_n285 with } w.heap.size 0 24 u (Array.replicate (Lib.nDigits u) 0) (w.alloc (.cells Lib.zeros24 290)) hH0 (by rw [Array.size_replicate]; exact Lib.lt_pow_nDigits u) hu64 (by rw [Array.size_replicate]; omega)
  rw [Array.size_replicate] at hfmt
  have HH0 := Lib.hid hH0
  clear hH0 hal
  go_enter Tryz.func234, Tryz.ntmps234
  go_wp2_with (first
    | (go_at_call 255; refine (Any.internal_strconv_numDigits { sh_n284 with } u hu1 hu64 _ (Lib.tabIs_alloc htab _)).mono ?_; rintro e w' ⟨rfl, rfl⟩))
  go_at_call 256
  refine hfmt.mono ?_
  rintro e w' ⟨rfl, k, v', dk, rfl, hF⟩
  have hcv : (convert 246 9 (.slice (some ⟨w.heap.size, 0, none⟩) (Lib.nDigits u) 24)).run Tryz.prog ((putRow (fun (b : UInt8) => Value.int .u8 (b.toNat : Int)) (w.alloc (.cells Lib.zeros24 290)) w.heap.size 0 dk).drewN k) = .ok (.string ⟨(Lib.decDigits u).toArray⟩) ((putRow (fun (b : UInt8) => Value.int .u8 (b.toNat : Int)) (w.alloc (.cells Lib.zeros24 290)) w.heap.size 0 dk).drewN k) := by
    have h := run_convert_bytes_back (P := Tryz.prog) ((putRow (fun (b : UInt8) => Value.int .u8 (b.toNat : Int)) (w.alloc (.cells Lib.zeros24 290)) w.heap.size 0 dk).drewN k) 246 9 5 ⟨w.heap.size, 0, none⟩ 24 (Lib.decDigits u) Tryz.underlying246 Tryz.underlying5 Tryz.underlying9 (fun j hj => by
      rw [Lib.row_is_numeral hF j hj, Lib.add_plain, World.cell?_drewN]
      exact cell?_putRow (fun (b : UInt8) => Value.int .u8 (b.toNat : Int)) _ w.heap.size 0 _ dk HH0.out (by rw [hF.size, Array.size_replicate]) j (by rw [hF.size]; rw [Lib.decDigits_length] at hj; exact hj))
    rw [Lib.decDigits_length] at h
    exact h
  go_wp2
  go_ret
  obtain ⟨os, eo⟩ := fin_pos0 w (.cells Lib.zeros24 290) dk k
  exact ⟨rfl, k, os, eo⟩
open Go.Av in
theorem iFormatUint_s (u : Nat) (hu : u < 18446744073709551616) : Sound Tryz.prog 234 [.int .u64 u, .int .i64 10] (.str (Lib.decDigits u)) := by
  by_cases h : u < 100
  · refine sound_W f_internal_strconv_FormatUint (Nat.le_of_ble_eq_true rfl) ?_
    have h' : (u : Int) < 100 := by omega
    simp only [c_internal_strconv_FormatUint, h', vcV, vcD, Int.reduceEq, Int.reduceNe, Int.reduceLT, Int.reduceLE, Nat.reduceEqDiff, Nat.reduceAdd, reduceIte, reduceCtorEq, Nat.reduceLT, Nat.reduceLeDiff, eq_self, vcP2, Nat.reduceShiftRight, Nat.reduceMod]
    (repeat (with_reducible refine And.intro ?_ ?_; focus (first | omega | (unfold I64; omega))))
    refine callS_of (small_s u h) ?_
    simp only [vcV, vcD, Int.reduceEq, Int.reduceNe, Int.reduceLT, Int.reduceLE, Nat.reduceEqDiff, Nat.reduceAdd, reduceIte, reduceCtorEq, Nat.reduceLT, Nat.reduceLeDiff, eq_self, vcP2, Nat.reduceShiftRight, Nat.reduceMod]
  · intro w ok cargs hok hG hlen hargs
    rw [args_2 (by simpa using hlen) (vr_int (hargs 0 _ rfl)) (vr_int (hargs 1 _ rfl))]
    refine .inr ⟨callFunc_enter Tryz.func234 (by kernel_rfl) rfl _, (FormatUint_big u (by omega) hu w (tab_of hG)).mono fun e w' ⟨he, k, os, hw⟩ => ⟨_, he, ?_, ?_⟩⟩
    · rw [hw]; exact below_dg _ _ _
    · exact .str _ _ (by simp)
open Go.Av in
theorem FormatUint_s (u : Nat) (hu : u < 18446744073709551616) : Sound Tryz.prog 195 [.int .u64 u, .int .i64 10] (.str (Lib.decDigits u)) := by
  refine sound_W f_strconv_FormatUint (Nat.le_of_ble_eq_true rfl) ?_
  simp only [c_strconv_FormatUint, vcV, vcD, Int.reduceEq, Int.reduceNe, Int.reduceLT, Int.reduceLE, Nat.reduceEqDiff, Nat.reduceAdd, reduceIte, reduceCtorEq, Nat.reduceLT, Nat.reduceLeDiff, eq_self, vcP2, Nat.reduceShiftRight, Nat.reduceMod]
  refine callS_of (iFormatUint_s u hu) ?_
  simp only [vcV, vcD, Int.reduceEq, Int.reduceNe, Int.reduceLT, Int.reduceLE, Nat.reduceEqDiff, Nat.reduceAdd, reduceIte, reduceCtorEq, Nat.reduceLT, Nat.reduceLeDiff, eq_self, vcP2, Nat.reduceShiftRight, Nat.reduceMod]
end Go.Proofs.YtgmpcbpmnimkoaaGreatDoor

/- The marked code of law functions; printed by a program. By an AI agent; nothing here is trusted. -/
namespace Go.Proofs.YtgmpcbpmnimkoaaGreatDoor
open Go.Av
def cl_math_bits_Div64_19 : ML := (.seq (.reg 192 [⟨none, (some 121), (.mv (.t 15))⟩, ⟨none, (some 122), (.bin .mul (.t 121) (.c (.int .u64 4294967296)))⟩, ⟨none, (some 123), (.mv (.t 18))⟩, ⟨none, (some 124), (.bin .add (.t 122) (.t 123))⟩, ⟨none, (some 125), (.mv (.t 17))⟩, ⟨none, (some 126), (.bin .mul (.t 125) (.c (.int .u64 4294967296)))⟩, ⟨none, (some 127), (.mv (.t 14))⟩, ⟨none, (some 128), (.bin .add (.t 126) (.t 127))⟩, ⟨none, (some 129), (.mv (.t 18))⟩, ⟨none, (some 130), (.mv (.t 2))⟩, ⟨none, (some 131), (.bin .mul (.t 129) (.t 130))⟩, ⟨none, (some 132), (.bin .sub (.t 128) (.t 131))⟩, ⟨none, (some 133), (.mv (.t 8))⟩, ⟨none, (some 134), (.bin .shr (.t 132) (.t 133))⟩, ⟨none, (some 6), (.mv (.t 124))⟩, ⟨none, (some 7), (.mv (.t 134))⟩] false []) .ret)
def cl_math_bits_Div64_18 : ML := (.seq (.block 2 (.loop (.seq (.seq (.reg 10384593717069655257060992658949892 [⟨none, (some 102), (.mv (.t 18))⟩, ⟨none, (some 103), (.bin .geq (.t 102) (.c (.int .u64 4294967296)))⟩, ⟨none, (some 104), (.mv (.t 103))⟩, ⟨(some (104, false)), (some 105), (.mv (.t 18))⟩, ⟨(some (104, false)), (some 106), (.mv (.t 10))⟩, ⟨(some (104, false)), (some 107), (.bin .mul (.t 105) (.t 106))⟩, ⟨(some (104, false)), (some 108), (.mv (.t 16))⟩, ⟨(some (104, false)), (some 109), (.bin .mul (.c (.int .u64 4294967296)) (.t 108))⟩, ⟨(some (104, false)), (some 110), (.mv (.t 14))⟩, ⟨(some (104, false)), (some 111), (.bin .add (.t 109) (.t 110))⟩, ⟨(some (104, false)), (some 112), (.bin .gtr (.t 107) (.t 111))⟩, ⟨none, (some 113), (.pick (.t 104) (.c (.bool true)) (.t 112))⟩] false []) (.cond (.t 113) .skip (.exit 2))) (.block 3 (.seq (.reg 509700 [⟨none, (some 114), (.mv (.t 18))⟩, ⟨none, (some 115), (.bin .sub (.t 114) (.c (.int .u64 1)))⟩, ⟨none, (some 18), (.mv (.t 115))⟩] false []) (.seq (.reg 509700 [⟨none, (some 116), (.mv (.t 16))⟩, ⟨none, (some 117), (.mv (.t 9))⟩, ⟨none, (some 118), (.bin .add (.t 116) (.t 117))⟩, ⟨none, (some 16), (.mv (.t 118))⟩] false []) (.seq (.reg 1329227995784915872903807060280854276 [⟨none, (some 119), (.mv (.t 16))⟩, ⟨none, (some 120), (.bin .geq (.t 119) (.c (.int .u64 4294967296)))⟩] false []) (.cond (.t 120) (.exit 2) .skip)))))))) (.cut cl_math_bits_Div64_19))
def cl_math_bits_Div64_15 : ML := (.seq (.reg 182020 [⟨none, (some 86), (.mv (.t 11))⟩, ⟨none, (some 87), (.bin .mul (.t 86) (.c (.int .u64 4294967296)))⟩, ⟨none, (some 88), (.mv (.t 13))⟩, ⟨none, (some 89), (.bin .add (.t 87) (.t 88))⟩, ⟨none, (some 90), (.mv (.t 15))⟩, ⟨none, (some 91), (.mv (.t 2))⟩, ⟨none, (some 92), (.bin .mul (.t 90) (.t 91))⟩, ⟨none, (some 93), (.bin .sub (.t 89) (.t 92))⟩, ⟨none, (some 17), (.mv (.t 93))⟩] false []) (.seq (.reg 444164 [⟨none, (some 94), (.mv (.t 17))⟩, ⟨none, (some 95), (.mv (.t 9))⟩, ⟨none, (some 96), (.bin .quo (.t 94) (.t 95))⟩, ⟨none, (some 18), (.mv (.t 96))⟩] false []) (.seq (.reg 509700 [⟨none, (some 97), (.mv (.t 17))⟩, ⟨none, (some 98), (.mv (.t 18))⟩, ⟨none, (some 99), (.mv (.t 9))⟩, ⟨none, (some 100), (.bin .mul (.t 98) (.t 99))⟩, ⟨none, (some 101), (.bin .sub (.t 97) (.t 100))⟩, ⟨none, (some 16), (.mv (.t 101))⟩] false []) (.cut cl_math_bits_Div64_18))))
def cl_math_bits_Div64_14 : ML := (.seq (.block 0 (.loop (.seq (.seq (.reg 302231454903657293803268 [⟨none, (some 67), (.mv (.t 15))⟩, ⟨none, (some 68), (.bin .geq (.t 67) (.c (.int .u64 4294967296)))⟩, ⟨none, (some 69), (.mv (.t 68))⟩, ⟨(some (69, false)), (some 70), (.mv (.t 15))⟩, ⟨(some (69, false)), (some 71), (.mv (.t 10))⟩, ⟨(some (69, false)), (some 72), (.bin .mul (.t 70) (.t 71))⟩, ⟨(some (69, false)), (some 73), (.mv (.t 16))⟩, ⟨(some (69, false)), (some 74), (.bin .mul (.c (.int .u64 4294967296)) (.t 73))⟩, ⟨(some (69, false)), (some 75), (.mv (.t 13))⟩, ⟨(some (69, false)), (some 76), (.bin .add (.t 74) (.t 75))⟩, ⟨(some (69, false)), (some 77), (.bin .gtr (.t 72) (.t 76))⟩, ⟨none, (some 78), (.pick (.t 69) (.c (.bool true)) (.t 77))⟩] false []) (.cond (.t 78) .skip (.exit 0))) (.block 1 (.seq (.reg 126724 [⟨none, (some 79), (.mv (.t 15))⟩, ⟨none, (some 80), (.bin .sub (.t 79) (.c (.int .u64 1)))⟩, ⟨none, (some 15), (.mv (.t 80))⟩] false []) (.seq (.reg 126724 [⟨none, (some 81), (.mv (.t 16))⟩, ⟨none, (some 82), (.mv (.t 9))⟩, ⟨none, (some 83), (.bin .add (.t 81) (.t 82))⟩, ⟨none, (some 16), (.mv (.t 83))⟩] false []) (.seq (.reg 38685626227668133590724356 [⟨none, (some 84), (.mv (.t 16))⟩, ⟨none, (some 85), (.bin .geq (.t 84) (.c (.int .u64 4294967296)))⟩] false []) (.cond (.t 85) (.exit 0) .skip)))))))) (.cut cl_math_bits_Div64_15))
def cl_math_bits_Div64 : ML := (.seq (.reg 7 [⟨none, (some 6), (.mv (.c (.int .u64 0)))⟩, ⟨none, (some 7), (.mv (.c (.int .u64 0)))⟩] false []) (.seq (.seq (.reg 1048583 [⟨none, (some 19), (.mv (.t 2))⟩, ⟨none, (some 20), (.bin .eql (.t 19) (.c (.int .u64 0)))⟩] false []) (.cond (.t 20) (.reg 7 [⟨none, (some 21), (.load none (.c .undef))⟩, ⟨none, none, (.copy 0 (.c .undef) (.c .undef))⟩] false []) .skip)) (.seq (.seq (.reg 16777223 [⟨none, (some 22), (.mv (.t 2))⟩, ⟨none, (some 23), (.mv (.t 0))⟩, ⟨none, (some 24), (.bin .leq (.t 22) (.t 23))⟩] false []) (.cond (.t 24) (.reg 7 [⟨none, (some 25), (.load none (.c .undef))⟩, ⟨none, none, (.copy 0 (.c .undef) (.c .undef))⟩] false []) .skip)) (.seq (.seq (.reg 134217735 [⟨none, (some 26), (.mv (.t 0))⟩, ⟨none, (some 27), (.bin .eql (.t 26) (.c (.int .u64 0)))⟩] false []) (.cond (.t 27) (.seq (.reg 192 [⟨none, (some 28), (.mv (.t 1))⟩, ⟨none, (some 29), (.mv (.t 2))⟩, ⟨none, (some 30), (.bin .quo (.t 28) (.t 29))⟩, ⟨none, (some 31), (.mv (.t 1))⟩, ⟨none, (some 32), (.mv (.t 2))⟩, ⟨none, (some 33), (.bin .rem (.t 31) (.t 32))⟩, ⟨none, (some 6), (.mv (.t 30))⟩, ⟨none, (some 7), (.mv (.t 33))⟩] true []) .ret) .skip)) (.seq (.reg 263 [⟨none, (some 34), (.mv (.t 2))⟩, ⟨none, (some 35), (.call 233 [(.t 34)])⟩, ⟨none, (some 36), (.convI .u64 (.t 35))⟩, ⟨none, (some 8), (.mv (.t 36))⟩] false []) (.seq (.reg 263 [⟨none, (some 37), (.mv (.t 2))⟩, ⟨none, (some 38), (.mv (.t 8))⟩, ⟨none, (some 39), (.bin .shl (.t 37) (.t 38))⟩, ⟨none, (some 2), (.mv (.t 39))⟩] false []) (.seq (.reg 775 [⟨none, (some 40), (.mv (.t 2))⟩, ⟨none, (some 41), (.bin .shr (.t 40) (.c (.int .u64 32)))⟩, ⟨none, (some 9), (.mv (.t 41))⟩] false []) (.seq (.reg 1799 [⟨none, (some 42), (.mv (.t 2))⟩, ⟨none, (some 43), (.bin .and (.t 42) (.c (.int .u64 4294967295)))⟩, ⟨none, (some 10), (.mv (.t 43))⟩] false []) (.seq (.reg 3846 [⟨none, (some 44), (.mv (.t 0))⟩, ⟨none, (some 45), (.mv (.t 8))⟩, ⟨none, (some 46), (.bin .shl (.t 44) (.t 45))⟩, ⟨none, (some 47), (.mv (.t 1))⟩, ⟨none, (some 48), (.mv (.t 8))⟩, ⟨none, (some 49), (.bin .sub (.c (.int .u64 64)) (.t 48))⟩, ⟨none, (some 50), (.bin .shr (.t 47) (.t 49))⟩, ⟨none, (some 51), (.bin .or (.t 46) (.t 50))⟩, ⟨none, (some 11), (.mv (.t 51))⟩] false []) (.seq (.reg 7940 [⟨none, (some 52), (.mv (.t 1))⟩, ⟨none, (some 53), (.mv (.t 8))⟩, ⟨none, (some 54), (.bin .shl (.t 52) (.t 53))⟩, ⟨none, (some 12), (.mv (.t 54))⟩] false []) (.seq (.reg 16132 [⟨none, (some 55), (.mv (.t 12))⟩, ⟨none, (some 56), (.bin .shr (.t 55) (.c (.int .u64 32)))⟩, ⟨none, (some 13), (.mv (.t 56))⟩] false []) (.seq (.reg 28420 [⟨none, (some 57), (.mv (.t 12))⟩, ⟨none, (some 58), (.bin .and (.t 57) (.c (.int .u64 4294967295)))⟩, ⟨none, (some 14), (.mv (.t 58))⟩] false []) (.seq (.reg 61188 [⟨none, (some 59), (.mv (.t 11))⟩, ⟨none, (some 60), (.mv (.t 9))⟩, ⟨none, (some 61), (.bin .quo (.t 59) (.t 60))⟩, ⟨none, (some 15), (.mv (.t 61))⟩] false []) (.seq (.reg 126724 [⟨none, (some 62), (.mv (.t 11))⟩, ⟨none, (some 63), (.mv (.t 15))⟩, ⟨none, (some 64), (.mv (.t 9))⟩, ⟨none, (some 65), (.bin .mul (.t 63) (.t 64))⟩, ⟨none, (some 66), (.bin .sub (.t 62) (.t 65))⟩, ⟨none, (some 16), (.mv (.t 66))⟩] false []) (.cut cl_math_bits_Div64_14)))))))))))))))
theorem e_math_bits_Div64 : cl_math_bits_Div64.er = c_math_bits_Div64 := rfl
end Go.Proofs.YtgmpcbpmnimkoaaGreatDoor

/- The contract of bits.Div64. By an AI agent; nothing here is trusted. -/
namespace Go.Proofs.YtgmpcbpmnimkoaaGreatDoor
open Go.Av

theorem LeadingZeros64_s (x : Nat) (hx : x < 18446744073709551616) (hb : Lib.bitLen x ≤ 64) : Sound Tryz.prog 233 [.int .u64 x] (.int .i64 ((64 - Lib.bitLen x : Nat) : Int)) := by
  refine sound_W f_math_bits_LeadingZeros64 (Nat.le_of_ble_eq_true rfl) ?_
  have e : (64 : Int) - (Lib.bitLen x : Int) = ((64 - Lib.bitLen x : Nat) : Int) := by omega
  simp only [c_math_bits_LeadingZeros64, vcV, vcD, Int.reduceEq, Int.reduceNe, Int.reduceLT, Int.reduceLE, Nat.reduceEqDiff, Nat.reduceAdd, reduceIte, reduceCtorEq, Nat.reduceLT, Nat.reduceLeDiff, eq_self, vcP2, Nat.reduceShiftRight, Nat.reduceMod]
  refine callS_of (Len64_s x hx) ?_
  simp only [e, vcV, vcD, Int.reduceEq, Int.reduceNe, Int.reduceLT, Int.reduceLE, Nat.reduceEqDiff, Nat.reduceAdd, reduceIte, reduceCtorEq, Nat.reduceLT, Nat.reduceLeDiff, eq_self, vcP2, Nat.reduceShiftRight, Nat.reduceMod]
  unfold I64; omega
theorem shl_u (a s : Nat) (hs : s ≤ 64) : IntKind.u64.wrap ((a : Int) * 2 ^ min s IntKind.u64.bits) = ((a * 2 ^ s % 18446744073709551616 : Nat) : Int) := by
  have : min s IntKind.u64.bits = s := Nat.min_eq_left hs
  rw [this, u64_mod]
  have : (a : Int) * 2 ^ s = ((a * 2 ^ s : Nat) : Int) := by simp
  rw [this]; omega
theorem shr_u (a s : Nat) (hs : s ≤ 64) : (a : Int).fdiv (2 ^ min s IntKind.u64.bits) = ((a / 2 ^ s : Nat) : Int) := by
  have : min s IntKind.u64.bits = s := Nat.min_eq_left hs
  rw [this]
  have : (2 : Int) ^ s = ((2 ^ s : Nat) : Int) := by simp
  rw [this, Int.fdiv_eq_ediv_of_nonneg _ (Int.natCast_nonneg _)]; rfl
theorem or_u (a b k : Nat) (hk : k ≤ 64) (ha : 2 ^ k ∣ a) (hb : b < 2 ^ k) (h : a + b < 18446744073709551616) :
    IntKind.u64.wrap ((((BitVec.ofInt IntKind.u64.bits (a : Int)) ||| (BitVec.ofInt IntKind.u64.bits (b : Int))).toNat : Nat) : Int) = ((a + b : Nat) : Int) := by
  have e1 : ∀ x : Nat, x < 18446744073709551616 → (BitVec.ofInt IntKind.u64.bits (x : Int)).toNat = x := fun x hx => by
    rw [BitVec.toNat_ofInt]
    show ((x : Int) % ((2 ^ 64 : Nat) : Int)).toNat = x
    omega
  obtain ⟨c, rfl⟩ := ha
  have e2 : 2 ^ k * c ||| b = 2 ^ k * c + b := by
    rw [Nat.mul_comm, ← Nat.shiftLeft_eq, Nat.shiftLeft_add_eq_or_of_lt hb]
  rw [BitVec.toNat_or, e1 _ (by omega), e1 _ (by omega), e2]
  exact u64_wrap (by omega)
theorem tdiv_u (a b : Nat) (h : a / b < 18446744073709551616) : IntKind.u64.wrap ((a : Int).tdiv b) = ((a / b : Nat) : Int) := by
  rw [show (a : Int).tdiv b = ((a / b : Nat) : Int) from rfl]; generalize a / b = q at *; exact u64_wrap (by omega)
theorem tmod_u (a b : Nat) : (a : Int).tmod b = ((a % b : Nat) : Int) := rfl
theorem mul_u (a b : Nat) (h : a * b < 18446744073709551616) : IntKind.u64.wrap ((a : Int) * b) = ((a * b : Nat) : Int) := by rw [← Int.natCast_mul]; exact u64_wrap (by omega)
theorem add_u (a b : Nat) (h : a + b < 18446744073709551616) : IntKind.u64.wrap ((a : Int) + b) = ((a + b : Nat) : Int) := by rw [← Int.natCast_add]; exact u64_wrap (by omega)
theorem sub_u (a b : Nat) (h : b ≤ a) (ha : a < 18446744073709551616) : IntKind.u64.wrap ((a : Int) - b) = ((a - b : Nat) : Int) := by
  have : (a : Int) - b = ((a - b : Nat) : Int) := by omega
  rw [this]; exact u64_wrap (by omega)
theorem wrap3 (a b c r : Nat) (h : a + b = c + r) (hr : r < 18446744073709551616) : IntKind.u64.wrap (IntKind.u64.wrap (IntKind.u64.wrap (a : Int) + b) - IntKind.u64.wrap (c : Int)) = (r : Int) := by
  simp only [u64_mod]; omega

theorem div_tail {e : Env} {s : Store} {Y k un0 q1 u21 q0 Q R2 R : Nat} (h2 : e 2 = .int .u64 Y) (h8 : e 8 = .int .u64 k) (h14 : e 14 = .int .u64 un0) (h15 : e 15 = .int .u64 q1) (h17 : e 17 = .int .u64 u21) (h18 : e 18 = .int .u64 q0)
    (hk : k ≤ 64) (hQ : q1 * 4294967296 + q0 = Q) (hQ64 : Q < 18446744073709551616) (hR : u21 * 4294967296 + un0 = q0 * Y + R2) (hR2 : R2 < 18446744073709551616) (hRR : R2 / 2 ^ k = R) :
    WL Tryz.prog 135 cl_math_bits_Div64_19 (endQ [(6, none), (7, none)] (.tup [.int .u64 Q, .int .u64 R])) e s .mk := by
  have w1 : IntKind.u64.wrap ((q1 : Int) * 4294967296) = ((q1 * 4294967296 : Nat) : Int) := by rw [show (4294967296 : Int) = ((4294967296 : Nat) : Int) by rfl]; exact mul_u _ _ (by omega)
  have w2 : IntKind.u64.wrap (((q1 * 4294967296 : Nat) : Int) + (q0 : Int)) = (Q : Int) := by rw [add_u _ _ (by omega), hQ]
  have w3 : IntKind.u64.wrap (IntKind.u64.wrap (IntKind.u64.wrap ((u21 : Int) * 4294967296) + (un0 : Int)) - IntKind.u64.wrap ((q0 : Int) * (Y : Int))) = (R2 : Int) := by
    have := wrap3 (u21 * 4294967296) un0 (q0 * Y) R2 hR hR2
    rw [Int.natCast_mul, Int.natCast_mul] at this
    exact this
  have w4 := shr_u R2 k hk
  rw [hRR] at w4
  simp only [cl_math_bits_Div64_19, h2, h8, h14, h15, h17, h18, w1, w2, w3, w4, vcV, vcD, Int.reduceEq, Int.reduceNe, Int.reduceLT, Int.reduceLE, Nat.reduceEqDiff, Nat.reduceAdd, reduceIte, reduceCtorEq, Nat.reduceLT, Nat.reduceLeDiff, eq_self, vcP2, Nat.reduceShiftRight, Nat.reduceMod]
  exact Int.natCast_nonneg _
theorem dig_facts {yn1 yn0 u d q r : Nat} (hn0 : yn0 < 4294967296) (hd : d < 4294967296) (hr : r < 4294967296) (hq : q < 4294967296) :
    IntKind.u64.wrap ((q : Int) * yn0) = ((q * yn0 : Nat) : Int) ∧ IntKind.u64.wrap (4294967296 * (r : Int)) = ((4294967296 * r : Nat) : Int) ∧ IntKind.u64.wrap (((4294967296 * r : Nat) : Int) + (d : Int)) = ((4294967296 * r + d : Nat) : Int) := by
  have h1 : q * yn0 ≤ 4294967295 * 4294967295 := Nat.mul_le_mul (by omega) (by omega)
  exact ⟨mul_u _ _ (by omega), by rw [show (4294967296 : Int) = ((4294967296 : Nat) : Int) by rfl]; exact mul_u _ _ (by omega), add_u _ _ (by omega)⟩
theorem div_two {Y k yn1 yn0 un0 q1 u21 : Nat} {v : AV} (hY : Y = yn1 * 4294967296 + yn0) (hY64 : Y < 18446744073709551616) (hn0 : yn0 < 4294967296) (hn1 : 2147483648 ≤ yn1) (hu : u21 < Y) (h0 : un0 < 4294967296) (hk : k ≤ 64)
    (htail : ∀ (e : Env) (s : Store) (q0 R2 : Nat), e 2 = .int .u64 Y → e 8 = .int .u64 k → e 14 = .int .u64 un0 → e 15 = .int .u64 q1 → e 17 = .int .u64 u21 → e 18 = .int .u64 q0 → u21 * 4294967296 + un0 = q0 * Y + R2 → R2 < Y → q0 < 4294967296 →
      WL Tryz.prog 135 cl_math_bits_Div64_19 (endQ [(6, none), (7, none)] v) e s .mk) (q r : Nat) (hqr : q * yn1 + r = u21) (hr : r < 4294967296) (hlo : (u21 * 4294967296 + un0) / (yn1 * 4294967296 + yn0) ≤ q) :
    WL Tryz.prog 135 cl_math_bits_Div64_18 (endQ [(6, none), (7, none)] v) (envOf [(2, .int .u64 Y), (8, .int .u64 k), (9, .int .u64 yn1), (10, .int .u64 yn0), (14, .int .u64 un0), (15, .int .u64 q1), (16, .int .u64 r), (17, .int .u64 u21), (18, .int .u64 q)]) (stOf []) .mk := by
  have hfin : ∀ q : Nat, q = (u21 * 4294967296 + un0) / (yn1 * 4294967296 + yn0) → ∃ R2, u21 * 4294967296 + un0 = q * Y + R2 ∧ R2 < Y ∧ q < 4294967296 := by
    intro q hq
    rw [← hY] at hq
    have e1 := Nat.div_add_mod (u21 * 4294967296 + un0) Y
    have e2 := Nat.mod_lt (u21 * 4294967296 + un0) (show 0 < Y by omega)
    rw [← hq, Nat.mul_comm Y q] at e1
    refine ⟨_, e1.symm, e2, ?_⟩
    rw [hq, Nat.div_lt_iff_lt_mul (by omega)]
    have : (u21 + 1) * 4294967296 ≤ Y * 4294967296 := Nat.mul_le_mul_right _ hu
    omega
  have hq33 : q * yn1 ≤ u21 := by omega
  simp only [cl_math_bits_Div64_18, vcV, vcD, Int.reduceEq, Int.reduceNe, Int.reduceLT, Int.reduceLE, Nat.reduceEqDiff, Nat.reduceAdd, reduceIte, reduceCtorEq, Nat.reduceLT, Nat.reduceLeDiff, eq_self, vcP2, Nat.reduceShiftRight, Nat.reduceMod]
  refine WL_loop (t := .mk) (α := PSigma fun p : Nat × Nat => p.1 * yn1 + p.2 = u21 ∧ p.2 < 4294967296 ∧ (u21 * 4294967296 + un0) / (yn1 * 4294967296 + yn0) ≤ p.1) (fun ⟨p, _⟩ => (envOf [(2, .int .u64 Y), (8, .int .u64 k), (9, .int .u64 yn1), (10, .int .u64 yn0), (14, .int .u64 un0), (15, .int .u64 q1), (16, .int .u64 p.2), (17, .int .u64 u21), (18, .int .u64 p.1)], stOf [])) (fun x => x.1.1) ⟨(q, r), hqr, hr, hlo⟩ ?_ (fun ⟨⟨q, r⟩, hqr, hr, hlo⟩ => ?_)
  · refine weakX [] (of_decide_eq_true rfl) (of_decide_eq_true rfl) ?_
    (simp only [vcW, vcV, vcD, Int.reduceEq, Int.reduceNe, Int.reduceLT, Int.reduceLE, Nat.reduceEqDiff, Nat.reduceAdd, reduceIte, reduceCtorEq, Nat.reduceLT, Nat.reduceLeDiff, eq_self, vcP2, Nat.reduceShiftRight, Nat.reduceMod])
    (repeat' first | exact trivial | (with_reducible exact RnB.fxB (ints_fxB _)) | (with_reducible rfl) | (with_reducible refine And.intro ?_ ?_) | (with_reducible refine RnB.bb ?_; simp only [vcW, vcV, vcD, Int.reduceEq, Int.reduceNe, Int.reduceLT, Int.reduceLE, Nat.reduceEqDiff, Nat.reduceAdd, reduceIte, reduceCtorEq, Nat.reduceLT, Nat.reduceLeDiff, eq_self, vcP2, Nat.reduceShiftRight, Nat.reduceMod]) | (with_reducible refine RnB.nb ?_; simp only [vcW, vcV, vcD, Int.reduceEq, Int.reduceNe, Int.reduceLT, Int.reduceLE, Nat.reduceEqDiff, Nat.reduceAdd, reduceIte, reduceCtorEq, Nat.reduceLT, Nat.reduceLeDiff, eq_self, vcP2, Nat.reduceShiftRight, Nat.reduceMod]) | (with_reducible refine RnB.ii ?_) | (with_reducible refine RnB.app ?_) | (with_reducible refine RnB.fxB ?_; simp only [vcW, vcV, vcD, Int.reduceEq, Int.reduceNe, Int.reduceLT, Int.reduceLE, Nat.reduceEqDiff, Nat.reduceAdd, reduceIte, reduceCtorEq, Nat.reduceLT, Nat.reduceLeDiff, eq_self, vcP2, Nat.reduceShiftRight, Nat.reduceMod]) | omega)
  · dsimp only at hqr hr hlo ⊢
    have hqu : q ≤ u21 := Nat.le_trans (Nat.le_mul_of_pos_right q (by omega)) (show q * yn1 ≤ u21 by omega)
    have go : (4294967296 ≤ q ∨ r * 4294967296 + un0 < q * yn0) → q ≠ 0 ∧ (q - 1) * yn1 + (r + yn1) = u21 ∧ (u21 * 4294967296 + un0) / (yn1 * 4294967296 + yn0) ≤ q - 1 := by
      intro h
      have h1 := Lin.digit_more hn0 (by omega) h0 (by omega) hqr h
      have hq0 : q ≠ 0 := fun e => by rw [e] at h1; exact Nat.not_lt_zero _ h1
      refine ⟨hq0, ?_, Nat.le_sub_one_of_lt h1⟩
      have : (q - 1 + 1) * yn1 = (q - 1) * yn1 + yn1 := Nat.succ_mul _ _
      rw [show q - 1 + 1 = q from Nat.succ_pred_eq_of_ne_zero hq0] at this
      omega
    have w5 : q ≠ 0 → IntKind.u64.wrap ((q : Int) - 1) = ((q - 1 : Nat) : Int) := fun h => by rw [show (1 : Int) = ((1 : Nat) : Int) by rfl]; exact sub_u _ _ (by omega) (by omega)
    have w6 : IntKind.u64.wrap ((r : Int) + (yn1 : Int)) = ((r + yn1 : Nat) : Int) := add_u _ _ (by omega)
    have next : (4294967296 ≤ q ∨ r * 4294967296 + un0 < q * yn0) → ¬ 4294967296 ≤ r + yn1 → (q - 1) * yn1 + (r + yn1) = u21 ∧ r + yn1 < 4294967296 ∧ (u21 * 4294967296 + un0) / (yn1 * 4294967296 + yn0) ≤ q - 1 := fun h h' => ⟨(go h).2.1, by omega, (go h).2.2⟩
    have brk : (4294967296 ≤ q ∨ r * 4294967296 + un0 < q * yn0) → 4294967296 ≤ r + yn1 → q - 1 = (u21 * 4294967296 + un0) / (yn1 * 4294967296 + yn0) := fun h h' => Lin.digit_ok hn0 (by omega) (go h).2.1 (go h).2.2 (Lin.digit_brk hn0 (by omega) (by omega) (go h).2.1 h')
    by_cases g1 : 4294967296 ≤ q
    · have g1' : (4294967296 : Int) ≤ q := by omega
      have hq0 := (go (.inl g1)).1
      by_cases g2 : 4294967296 ≤ r + yn1
      · have g2' : (4294967296 : Int) ≤ ((r + yn1 : Nat) : Int) := by omega
        obtain ⟨R2, f1, f2, f3⟩ := hfin _ (brk (.inl g1) g2)
        simp only [g1', w5 hq0, w6, g2', vcV, vcD, Int.reduceEq, Int.reduceNe, Int.reduceLT, Int.reduceLE, Nat.reduceEqDiff, Nat.reduceAdd, reduceIte, reduceCtorEq, Nat.reduceLT, Nat.reduceLeDiff, eq_self, vcP2, Nat.reduceShiftRight, Nat.reduceMod]
        exact WL_cut (htail _ _ (q - 1) R2 rfl rfl rfl rfl rfl rfl f1 f2 f3)
      · have g2' : ¬ (4294967296 : Int) ≤ ((r + yn1 : Nat) : Int) := by omega
        simp only [g1', w5 hq0, w6, g2', vcV, vcD, Int.reduceEq, Int.reduceNe, Int.reduceLT, Int.reduceLE, Nat.reduceEqDiff, Nat.reduceAdd, reduceIte, reduceCtorEq, Nat.reduceLT, Nat.reduceLeDiff, eq_self, vcP2, Nat.reduceShiftRight, Nat.reduceMod]
        refine ⟨⟨(q - 1, r + yn1), next (.inl g1) g2⟩, by simp only; omega, ?_⟩
        refine weakX [] (of_decide_eq_true rfl) (of_decide_eq_true rfl) ?_
        (simp only [vcW, vcV, vcD, Int.reduceEq, Int.reduceNe, Int.reduceLT, Int.reduceLE, Nat.reduceEqDiff, Nat.reduceAdd, reduceIte, reduceCtorEq, Nat.reduceLT, Nat.reduceLeDiff, eq_self, vcP2, Nat.reduceShiftRight, Nat.reduceMod])
        (repeat' first | exact trivial | (with_reducible exact RnB.fxB (ints_fxB _)) | (with_reducible rfl) | (with_reducible refine And.intro ?_ ?_) | (with_reducible refine RnB.bb ?_; simp only [vcW, vcV, vcD, Int.reduceEq, Int.reduceNe, Int.reduceLT, Int.reduceLE, Nat.reduceEqDiff, Nat.reduceAdd, reduceIte, reduceCtorEq, Nat.reduceLT, Nat.reduceLeDiff, eq_self, vcP2, Nat.reduceShiftRight, Nat.reduceMod]) | (with_reducible refine RnB.nb ?_; simp only [vcW, vcV, vcD, Int.reduceEq, Int.reduceNe, Int.reduceLT, Int.reduceLE, Nat.reduceEqDiff, Nat.reduceAdd, reduceIte, reduceCtorEq, Nat.reduceLT, Nat.reduceLeDiff, eq_self, vcP2, Nat.reduceShiftRight, Nat.reduceMod]) | (with_reducible refine RnB.ii ?_) | (with_reducible refine RnB.app ?_) | (with_reducible refine RnB.fxB ?_; simp only [vcW, vcV, vcD, Int.reduceEq, Int.reduceNe, Int.reduceLT, Int.reduceLE, Nat.reduceEqDiff, Nat.reduceAdd, reduceIte, reduceCtorEq, Nat.reduceLT, Nat.reduceLeDiff, eq_self, vcP2, Nat.reduceShiftRight, Nat.reduceMod]) | omega)
    · have g1' : ¬ (4294967296 : Int) ≤ q := by omega
      obtain ⟨v1, v2, v3⟩ := dig_facts (yn1 := yn1) (u := u21) hn0 h0 hr (show q < 4294967296 by omega)
      by_cases g3 : r * 4294967296 + un0 < q * yn0
      · have g3' : ((4294967296 * r + un0 : Nat) : Int) < ((q * yn0 : Nat) : Int) := by omega
        have hq0 := (go (.inr g3)).1
        by_cases g2 : 4294967296 ≤ r + yn1
        · have g2' : (4294967296 : Int) ≤ ((r + yn1 : Nat) : Int) := by omega
          obtain ⟨R2, f1, f2, f3⟩ := hfin _ (brk (.inr g3) g2)
          simp only [g1', v1, v2, v3, g3', w5 hq0, w6, g2', vcV, vcD, Int.reduceEq, Int.reduceNe, Int.reduceLT, Int.reduceLE, Nat.reduceEqDiff, Nat.reduceAdd, reduceIte, reduceCtorEq, Nat.reduceLT, Nat.reduceLeDiff, eq_self, vcP2, Nat.reduceShiftRight, Nat.reduceMod]
          exact WL_cut (htail _ _ (q - 1) R2 rfl rfl rfl rfl rfl rfl f1 f2 f3)
        · have g2' : ¬ (4294967296 : Int) ≤ ((r + yn1 : Nat) : Int) := by omega
          simp only [g1', v1, v2, v3, g3', w5 hq0, w6, g2', vcV, vcD, Int.reduceEq, Int.reduceNe, Int.reduceLT, Int.reduceLE, Nat.reduceEqDiff, Nat.reduceAdd, reduceIte, reduceCtorEq, Nat.reduceLT, Nat.reduceLeDiff, eq_self, vcP2, Nat.reduceShiftRight, Nat.reduceMod]
          refine ⟨⟨(q - 1, r + yn1), next (.inr g3) g2⟩, by simp only; omega, ?_⟩
          refine weakX [] (of_decide_eq_true rfl) (of_decide_eq_true rfl) ?_
          (simp only [vcW, vcV, vcD, Int.reduceEq, Int.reduceNe, Int.reduceLT, Int.reduceLE, Nat.reduceEqDiff, Nat.reduceAdd, reduceIte, reduceCtorEq, Nat.reduceLT, Nat.reduceLeDiff, eq_self, vcP2, Nat.reduceShiftRight, Nat.reduceMod])
          (repeat' first | exact trivial | (with_reducible exact RnB.fxB (ints_fxB _)) | (with_reducible rfl) | (with_reducible refine And.intro ?_ ?_) | (with_reducible refine RnB.bb ?_; simp only [vcW, vcV, vcD, Int.reduceEq, Int.reduceNe, Int.reduceLT, Int.reduceLE, Nat.reduceEqDiff, Nat.reduceAdd, reduceIte, reduceCtorEq, Nat.reduceLT, Nat.reduceLeDiff, eq_self, vcP2, Nat.reduceShiftRight, Nat.reduceMod]) | (with_reducible refine RnB.nb ?_; simp only [vcW, vcV, vcD, Int.reduceEq, Int.reduceNe, Int.reduceLT, Int.reduceLE, Nat.reduceEqDiff, Nat.reduceAdd, reduceIte, reduceCtorEq, Nat.reduceLT, Nat.reduceLeDiff, eq_self, vcP2, Nat.reduceShiftRight, Nat.reduceMod]) | (with_reducible refine RnB.ii ?_) | (with_reducible refine RnB.app ?_) | (with_reducible refine RnB.fxB ?_; simp only [vcW, vcV, vcD, Int.reduceEq, Int.reduceNe, Int.reduceLT, Int.reduceLE, Nat.reduceEqDiff, Nat.reduceAdd, reduceIte, reduceCtorEq, Nat.reduceLT, Nat.reduceLeDiff, eq_self, vcP2, Nat.reduceShiftRight, Nat.reduceMod]) | omega)
      · have g3' : ¬ ((4294967296 * r + un0 : Nat) : Int) < ((q * yn0 : Nat) : Int) := by omega
        obtain ⟨R2, f1, f2, f3⟩ := hfin q (Lin.digit_ok hn0 (by omega) hqr hlo (by omega))
        simp only [g1', v1, v2, v3, g3', vcV, vcD, Int.reduceEq, Int.reduceNe, Int.reduceLT, Int.reduceLE, Nat.reduceEqDiff, Nat.reduceAdd, reduceIte, reduceCtorEq, Nat.reduceLT, Nat.reduceLeDiff, eq_self, vcP2, Nat.reduceShiftRight, Nat.reduceMod]
        exact WL_cut (htail _ _ q R2 rfl rfl rfl rfl rfl rfl f1 f2 f3)
end Go.Proofs.YtgmpcbpmnimkoaaGreatDoor

/- The contract of bits.Div64, the first digit and the whole. By an AI agent; nothing here is trusted. -/
namespace Go.Proofs.YtgmpcbpmnimkoaaGreatDoor
open Go.Av

theorem div_mid {e : Env} {s : Store} {Y k yn1 yn0 U un1 un0 q1 u21 : Nat} {v : AV} (h2 : e 2 = .int .u64 Y) (h8 : e 8 = .int .u64 k) (h9 : e 9 = .int .u64 yn1) (h10 : e 10 = .int .u64 yn0) (h11 : e 11 = .int .u64 U) (h13 : e 13 = .int .u64 un1) (h14 : e 14 = .int .u64 un0) (h15 : e 15 = .int .u64 q1)
    (hs : s = stOf []) (hY : Y = yn1 * 4294967296 + yn0) (hY64 : Y < 18446744073709551616) (hn0 : yn0 < 4294967296) (hn1 : 2147483648 ≤ yn1) (h0 : un0 < 4294967296) (hk : k ≤ 64) (hu : U * 4294967296 + un1 = q1 * Y + u21) (hu21 : u21 < Y)
    (htail : ∀ (e : Env) (s : Store) (q0 R2 : Nat), e 2 = .int .u64 Y → e 8 = .int .u64 k → e 14 = .int .u64 un0 → e 15 = .int .u64 q1 → e 17 = .int .u64 u21 → e 18 = .int .u64 q0 → u21 * 4294967296 + un0 = q0 * Y + R2 → R2 < Y → q0 < 4294967296 →
      WL Tryz.prog 135 cl_math_bits_Div64_19 (endQ [(6, none), (7, none)] v) e s .mk) :
    WL Tryz.prog 135 cl_math_bits_Div64_15 (endQ [(6, none), (7, none)] v) e s .mk := by
  subst hs
  have w3 : IntKind.u64.wrap (IntKind.u64.wrap (IntKind.u64.wrap ((U : Int) * 4294967296) + (un1 : Int)) - IntKind.u64.wrap ((q1 : Int) * (Y : Int))) = (u21 : Int) := by
    have := wrap3 (U * 4294967296) un1 (q1 * Y) u21 hu (by omega)
    rw [Int.natCast_mul, Int.natCast_mul] at this
    exact this
  have hq : u21 / yn1 ≤ u21 := Nat.div_le_self _ _
  have w4 : IntKind.u64.wrap ((u21 : Int).tdiv yn1) = ((u21 / yn1 : Nat) : Int) := tdiv_u _ _ (Nat.lt_of_le_of_lt hq (by omega))
  have hdm := Nat.div_add_mod u21 yn1
  have hml := Nat.mod_lt u21 (show yn1 > 0 by omega)
  have hlo : (u21 * 4294967296 + un0) / (yn1 * 4294967296 + yn0) ≤ u21 / yn1 := Lin.guess_top (by omega) (by omega) h0
  rw [Nat.mul_comm] at hdm
  have hy32 : yn1 < 4294967296 := by omega
  generalize u21 / yn1 = q at *
  generalize u21 % yn1 = r at *
  have w5 : IntKind.u64.wrap ((q : Int) * yn1) = ((q * yn1 : Nat) : Int) := mul_u _ _ (by omega)
  have w6 : IntKind.u64.wrap ((u21 : Int) - ((q * yn1 : Nat) : Int)) = (r : Int) := by
    rw [sub_u _ _ (by omega) (by omega)]; congr 1; omega
  have hyn : ¬ (yn1 : Int) = 0 := by omega
  simp only [cl_math_bits_Div64_15, h2, h8, h9, h10, h11, h13, h14, h15, w3, w4, w5, w6, hyn, ne_eq, not_false_eq_true, vcV, vcD, Int.reduceEq, Int.reduceNe, Int.reduceLT, Int.reduceLE, Nat.reduceEqDiff, Nat.reduceAdd, reduceIte, reduceCtorEq, Nat.reduceLT, Nat.reduceLeDiff, eq_self, vcP2, Nat.reduceShiftRight, Nat.reduceMod]
  refine WL_cutW (envOf [(2, .int .u64 Y), (8, .int .u64 k), (9, .int .u64 yn1), (10, .int .u64 yn0), (14, .int .u64 un0), (15, .int .u64 q1), (16, .int .u64 r), (17, .int .u64 u21), (18, .int .u64 q)], stOf []) rfl ?_ (div_two hY hY64 hn0 hn1 hu21 h0 hk htail q r hdm (by omega) hlo)
  refine weakX [] (of_decide_eq_true rfl) (of_decide_eq_true rfl) ?_
  (simp only [h2, h8, h9, h10, h11, h13, h14, h15, vcW, vcV, vcD, Int.reduceEq, Int.reduceNe, Int.reduceLT, Int.reduceLE, Nat.reduceEqDiff, Nat.reduceAdd, reduceIte, reduceCtorEq, Nat.reduceLT, Nat.reduceLeDiff, eq_self, vcP2, Nat.reduceShiftRight, Nat.reduceMod])
  (repeat' first | exact trivial | (with_reducible exact RnB.fxB (ints_fxB _)) | (with_reducible rfl) | (with_reducible refine And.intro ?_ ?_) | (with_reducible refine RnB.bb ?_; simp only [vcW, vcV, vcD, Int.reduceEq, Int.reduceNe, Int.reduceLT, Int.reduceLE, Nat.reduceEqDiff, Nat.reduceAdd, reduceIte, reduceCtorEq, Nat.reduceLT, Nat.reduceLeDiff, eq_self, vcP2, Nat.reduceShiftRight, Nat.reduceMod]) | (with_reducible refine RnB.nb ?_; simp only [vcW, vcV, vcD, Int.reduceEq, Int.reduceNe, Int.reduceLT, Int.reduceLE, Nat.reduceEqDiff, Nat.reduceAdd, reduceIte, reduceCtorEq, Nat.reduceLT, Nat.reduceLeDiff, eq_self, vcP2, Nat.reduceShiftRight, Nat.reduceMod]) | (with_reducible refine RnB.ii ?_) | (with_reducible refine RnB.app ?_) | (with_reducible refine RnB.fxB ?_; simp only [vcW, vcV, vcD, Int.reduceEq, Int.reduceNe, Int.reduceLT, Int.reduceLE, Nat.reduceEqDiff, Nat.reduceAdd, reduceIte, reduceCtorEq, Nat.reduceLT, Nat.reduceLeDiff, eq_self, vcP2, Nat.reduceShiftRight, Nat.reduceMod]) | omega)
theorem div_one {Y k yn1 yn0 U un1 un0 : Nat} {v : AV} (hY : Y = yn1 * 4294967296 + yn0) (hY64 : Y < 18446744073709551616) (hn0 : yn0 < 4294967296) (hn1 : 2147483648 ≤ yn1) (hU : U < Y) (h1 : un1 < 4294967296) (h0 : un0 < 4294967296) (hk : k ≤ 64)
    (htail : ∀ (e : Env) (s : Store) (q1 u21 q0 R2 : Nat), e 2 = .int .u64 Y → e 8 = .int .u64 k → e 14 = .int .u64 un0 → e 15 = .int .u64 q1 → e 17 = .int .u64 u21 → e 18 = .int .u64 q0 → U * 4294967296 + un1 = q1 * Y + u21 → q1 < 4294967296 → u21 * 4294967296 + un0 = q0 * Y + R2 → R2 < Y → q0 < 4294967296 →
      WL Tryz.prog 135 cl_math_bits_Div64_19 (endQ [(6, none), (7, none)] v) e s .mk) (q r : Nat) (hqr : q * yn1 + r = U) (hr : r < 4294967296) (hlo : (U * 4294967296 + un1) / (yn1 * 4294967296 + yn0) ≤ q) :
    WL Tryz.prog 135 cl_math_bits_Div64_14 (endQ [(6, none), (7, none)] v) (envOf [(2, .int .u64 Y), (8, .int .u64 k), (9, .int .u64 yn1), (10, .int .u64 yn0), (11, .int .u64 U), (13, .int .u64 un1), (14, .int .u64 un0), (15, .int .u64 q), (16, .int .u64 r)]) (stOf []) .mk := by
  have hfin : ∀ q : Nat, q = (U * 4294967296 + un1) / (yn1 * 4294967296 + yn0) → ∃ R2, U * 4294967296 + un1 = q * Y + R2 ∧ R2 < Y ∧ q < 4294967296 := by
    intro q hq
    rw [← hY] at hq
    have e1 := Nat.div_add_mod (U * 4294967296 + un1) Y
    have e2 := Nat.mod_lt (U * 4294967296 + un1) (show 0 < Y by omega)
    rw [← hq, Nat.mul_comm Y q] at e1
    refine ⟨_, e1.symm, e2, ?_⟩
    rw [hq, Nat.div_lt_iff_lt_mul (by omega)]
    have : (U + 1) * 4294967296 ≤ Y * 4294967296 := Nat.mul_le_mul_right _ hU
    omega
  have hend : ∀ (e : Env) (s : Store) (q : Nat), q = (U * 4294967296 + un1) / (yn1 * 4294967296 + yn0) → e 2 = .int .u64 Y → e 8 = .int .u64 k → e 9 = .int .u64 yn1 → e 10 = .int .u64 yn0 → e 11 = .int .u64 U → e 13 = .int .u64 un1 → e 14 = .int .u64 un0 → e 15 = .int .u64 q → s = stOf [] →
      WL Tryz.prog 135 cl_math_bits_Div64_15 (endQ [(6, none), (7, none)] v) e s .mk := by
    intro e s q hq g2 g8 g9 g10 g11 g13 g14 g15 gs
    obtain ⟨R, f1, f2, f3⟩ := hfin q hq
    exact div_mid g2 g8 g9 g10 g11 g13 g14 g15 gs hY hY64 hn0 hn1 h0 hk f1 f2 fun e s q0 R2 a2 a8 a14 a15 a17 a18 b1 b2 b3 => htail e s q R q0 R2 a2 a8 a14 a15 a17 a18 f1 f3 b1 b2 b3
  have hq33 : q * yn1 ≤ U := by omega
  simp only [cl_math_bits_Div64_14, vcV, vcD, Int.reduceEq, Int.reduceNe, Int.reduceLT, Int.reduceLE, Nat.reduceEqDiff, Nat.reduceAdd, reduceIte, reduceCtorEq, Nat.reduceLT, Nat.reduceLeDiff, eq_self, vcP2, Nat.reduceShiftRight, Nat.reduceMod]
  refine WL_loop (t := .mk) (α := PSigma fun p : Nat × Nat => p.1 * yn1 + p.2 = U ∧ p.2 < 4294967296 ∧ (U * 4294967296 + un1) / (yn1 * 4294967296 + yn0) ≤ p.1) (fun ⟨p, _⟩ => (envOf [(2, .int .u64 Y), (8, .int .u64 k), (9, .int .u64 yn1), (10, .int .u64 yn0), (11, .int .u64 U), (13, .int .u64 un1), (14, .int .u64 un0), (15, .int .u64 p.1), (16, .int .u64 p.2)], stOf [])) (fun x => x.1.1) ⟨(q, r), hqr, hr, hlo⟩ ?_ (fun ⟨⟨q, r⟩, hqr, hr, hlo⟩ => ?_)
  · refine weakX [] (of_decide_eq_true rfl) (of_decide_eq_true rfl) ?_
    (simp only [vcW, vcV, vcD, Int.reduceEq, Int.reduceNe, Int.reduceLT, Int.reduceLE, Nat.reduceEqDiff, Nat.reduceAdd, reduceIte, reduceCtorEq, Nat.reduceLT, Nat.reduceLeDiff, eq_self, vcP2, Nat.reduceShiftRight, Nat.reduceMod])
    (repeat' first | exact trivial | (with_reducible exact RnB.fxB (ints_fxB _)) | (with_reducible rfl) | (with_reducible refine And.intro ?_ ?_) | (with_reducible refine RnB.bb ?_; simp only [vcW, vcV, vcD, Int.reduceEq, Int.reduceNe, Int.reduceLT, Int.reduceLE, Nat.reduceEqDiff, Nat.reduceAdd, reduceIte, reduceCtorEq, Nat.reduceLT, Nat.reduceLeDiff, eq_self, vcP2, Nat.reduceShiftRight, Nat.reduceMod]) | (with_reducible refine RnB.nb ?_; simp only [vcW, vcV, vcD, Int.reduceEq, Int.reduceNe, Int.reduceLT, Int.reduceLE, Nat.reduceEqDiff, Nat.reduceAdd, reduceIte, reduceCtorEq, Nat.reduceLT, Nat.reduceLeDiff, eq_self, vcP2, Nat.reduceShiftRight, Nat.reduceMod]) | (with_reducible refine RnB.ii ?_) | (with_reducible refine RnB.app ?_) | (with_reducible refine RnB.fxB ?_; simp only [vcW, vcV, vcD, Int.reduceEq, Int.reduceNe, Int.reduceLT, Int.reduceLE, Nat.reduceEqDiff, Nat.reduceAdd, reduceIte, reduceCtorEq, Nat.reduceLT, Nat.reduceLeDiff, eq_self, vcP2, Nat.reduceShiftRight, Nat.reduceMod]) | omega)
  · dsimp only at hqr hr hlo ⊢
    have hqu : q ≤ U := Nat.le_trans (Nat.le_mul_of_pos_right q (by omega)) (show q * yn1 ≤ U by omega)
    have go : (4294967296 ≤ q ∨ r * 4294967296 + un1 < q * yn0) → q ≠ 0 ∧ (q - 1) * yn1 + (r + yn1) = U ∧ (U * 4294967296 + un1) / (yn1 * 4294967296 + yn0) ≤ q - 1 := by
      intro h
      have h1 := Lin.digit_more hn0 (by omega) h1 (by omega) hqr h
      have hq0 : q ≠ 0 := fun e => by rw [e] at h1; exact Nat.not_lt_zero _ h1
      refine ⟨hq0, ?_, Nat.le_sub_one_of_lt h1⟩
      have : (q - 1 + 1) * yn1 = (q - 1) * yn1 + yn1 := Nat.succ_mul _ _
      rw [show q - 1 + 1 = q from Nat.succ_pred_eq_of_ne_zero hq0] at this
      omega
    have w5 : q ≠ 0 → IntKind.u64.wrap ((q : Int) - 1) = ((q - 1 : Nat) : Int) := fun h => by rw [show (1 : Int) = ((1 : Nat) : Int) by rfl]; exact sub_u _ _ (by omega) (by omega)
    have w6 : IntKind.u64.wrap ((r : Int) + (yn1 : Int)) = ((r + yn1 : Nat) : Int) := add_u _ _ (by omega)
    have next : (4294967296 ≤ q ∨ r * 4294967296 + un1 < q * yn0) → ¬ 4294967296 ≤ r + yn1 → (q - 1) * yn1 + (r + yn1) = U ∧ r + yn1 < 4294967296 ∧ (U * 4294967296 + un1) / (yn1 * 4294967296 + yn0) ≤ q - 1 := fun h h' => ⟨(go h).2.1, by omega, (go h).2.2⟩
    have brk : (4294967296 ≤ q ∨ r * 4294967296 + un1 < q * yn0) → 4294967296 ≤ r + yn1 → q - 1 = (U * 4294967296 + un1) / (yn1 * 4294967296 + yn0) := fun h h' => Lin.digit_ok hn0 (by omega) (go h).2.1 (go h).2.2 (Lin.digit_brk hn0 (by omega) (by omega) (go h).2.1 h')
    by_cases g1 : 4294967296 ≤ q
    · have g1' : (4294967296 : Int) ≤ q := by omega
      have hq0 := (go (.inl g1)).1
      by_cases g2 : 4294967296 ≤ r + yn1
      · have g2' : (4294967296 : Int) ≤ ((r + yn1 : Nat) : Int) := by omega
        have hb := brk (.inl g1) g2
        simp only [g1', w5 hq0, w6, g2', vcV, vcD, Int.reduceEq, Int.reduceNe, Int.reduceLT, Int.reduceLE, Nat.reduceEqDiff, Nat.reduceAdd, reduceIte, reduceCtorEq, Nat.reduceLT, Nat.reduceLeDiff, eq_self, vcP2, Nat.reduceShiftRight, Nat.reduceMod]
        exact WL_cut (hend _ _ (q - 1) hb rfl rfl rfl rfl rfl rfl rfl rfl rfl)
      · have g2' : ¬ (4294967296 : Int) ≤ ((r + yn1 : Nat) : Int) := by omega
        simp only [g1', w5 hq0, w6, g2', vcV, vcD, Int.reduceEq, Int.reduceNe, Int.reduceLT, Int.reduceLE, Nat.reduceEqDiff, Nat.reduceAdd, reduceIte, reduceCtorEq, Nat.reduceLT, Nat.reduceLeDiff, eq_self, vcP2, Nat.reduceShiftRight, Nat.reduceMod]
        refine ⟨⟨(q - 1, r + yn1), next (.inl g1) g2⟩, by simp only; omega, ?_⟩
        refine weakX [] (of_decide_eq_true rfl) (of_decide_eq_true rfl) ?_
        (simp only [vcW, vcV, vcD, Int.reduceEq, Int.reduceNe, Int.reduceLT, Int.reduceLE, Nat.reduceEqDiff, Nat.reduceAdd, reduceIte, reduceCtorEq, Nat.reduceLT, Nat.reduceLeDiff, eq_self, vcP2, Nat.reduceShiftRight, Nat.reduceMod])
        (repeat' first | exact trivial | (with_reducible exact RnB.fxB (ints_fxB _)) | (with_reducible rfl) | (with_reducible refine And.intro ?_ ?_) | (with_reducible refine RnB.bb ?_; simp only [vcW, vcV, vcD, Int.reduceEq, Int.reduceNe, Int.reduceLT, Int.reduceLE, Nat.reduceEqDiff, Nat.reduceAdd, reduceIte, reduceCtorEq, Nat.reduceLT, Nat.reduceLeDiff, eq_self, vcP2, Nat.reduceShiftRight, Nat.reduceMod]) | (with_reducible refine RnB.nb ?_; simp only [vcW, vcV, vcD, Int.reduceEq, Int.reduceNe, Int.reduceLT, Int.reduceLE, Nat.reduceEqDiff, Nat.reduceAdd, reduceIte, reduceCtorEq, Nat.reduceLT, Nat.reduceLeDiff, eq_self, vcP2, Nat.reduceShiftRight, Nat.reduceMod]) | (with_reducible refine RnB.ii ?_) | (with_reducible refine RnB.app ?_) | (with_reducible refine RnB.fxB ?_; simp only [vcW, vcV, vcD, Int.reduceEq, Int.reduceNe, Int.reduceLT, Int.reduceLE, Nat.reduceEqDiff, Nat.reduceAdd, reduceIte, reduceCtorEq, Nat.reduceLT, Nat.reduceLeDiff, eq_self, vcP2, Nat.reduceShiftRight, Nat.reduceMod]) | omega)
    · have g1' : ¬ (4294967296 : Int) ≤ q := by omega
      obtain ⟨v1, v2, v3⟩ := dig_facts (yn1 := yn1) (u := U) hn0 h1 hr (show q < 4294967296 by omega)
      by_cases g3 : r * 4294967296 + un1 < q * yn0
      · have g3' : ((4294967296 * r + un1 : Nat) : Int) < ((q * yn0 : Nat) : Int) := by omega
        have hq0 := (go (.inr g3)).1
        by_cases g2 : 4294967296 ≤ r + yn1
        · have g2' : (4294967296 : Int) ≤ ((r + yn1 : Nat) : Int) := by omega
          have hb := brk (.inr g3) g2
          simp only [g1', v1, v2, v3, g3', w5 hq0, w6, g2', vcV, vcD, Int.reduceEq, Int.reduceNe, Int.reduceLT, Int.reduceLE, Nat.reduceEqDiff, Nat.reduceAdd, reduceIte, reduceCtorEq, Nat.reduceLT, Nat.reduceLeDiff, eq_self, vcP2, Nat.reduceShiftRight, Nat.reduceMod]
          exact WL_cut (hend _ _ (q - 1) hb rfl rfl rfl rfl rfl rfl rfl rfl rfl)
        · have g2' : ¬ (4294967296 : Int) ≤ ((r + yn1 : Nat) : Int) := by omega
          simp only [g1', v1, v2, v3, g3', w5 hq0, w6, g2', vcV, vcD, Int.reduceEq, Int.reduceNe, Int.reduceLT, Int.reduceLE, Nat.reduceEqDiff, Nat.reduceAdd, reduceIte, reduceCtorEq, Nat.reduceLT, Nat.reduceLeDiff, eq_self, vcP2, Nat.reduceShiftRight, Nat.reduceMod]
          refine ⟨⟨(q - 1, r + yn1), next (.inr g3) g2⟩, by simp only; omega, ?_⟩
          refine weakX [] (of_decide_eq_true rfl) (of_decide_eq_true rfl) ?_
          (simp only [vcW, vcV, vcD, Int.reduceEq, Int.reduceNe, Int.reduceLT, Int.reduceLE, Nat.reduceEqDiff, Nat.reduceAdd, reduceIte, reduceCtorEq, Nat.reduceLT, Nat.reduceLeDiff, eq_self, vcP2, Nat.reduceShiftRight, Nat.reduceMod])
          (repeat' first | exact trivial | (with_reducible exact RnB.fxB (ints_fxB _)) | (with_reducible rfl) | (with_reducible refine And.intro ?_ ?_) | (with_reducible refine RnB.bb ?_; simp only [vcW, vcV, vcD, Int.reduceEq, Int.reduceNe, Int.reduceLT, Int.reduceLE, Nat.reduceEqDiff, Nat.reduceAdd, reduceIte, reduceCtorEq, Nat.reduceLT, Nat.reduceLeDiff, eq_self, vcP2, Nat.reduceShiftRight, Nat.reduceMod]) | (with_reducible refine RnB.nb ?_; simp only [vcW, vcV, vcD, Int.reduceEq, Int.reduceNe, Int.reduceLT, Int.reduceLE, Nat.reduceEqDiff, Nat.reduceAdd, reduceIte, reduceCtorEq, Nat.reduceLT, Nat.reduceLeDiff, eq_self, vcP2, Nat.reduceShiftRight, Nat.reduceMod]) | (with_reducible refine RnB.ii ?_) | (with_reducible refine RnB.app ?_) | (with_reducible refine RnB.fxB ?_; simp only [vcW, vcV, vcD, Int.reduceEq, Int.reduceNe, Int.reduceLT, Int.reduceLE, Nat.reduceEqDiff, Nat.reduceAdd, reduceIte, reduceCtorEq, Nat.reduceLT, Nat.reduceLeDiff, eq_self, vcP2, Nat.reduceShiftRight, Nat.reduceMod]) | omega)
      · have g3' : ¬ ((4294967296 * r + un1 : Nat) : Int) < ((q * yn0 : Nat) : Int) := by omega
        have hb := Lin.digit_ok hn0 (by omega) hqr hlo (show q * yn0 ≤ r * 4294967296 + un1 by omega)
        simp only [g1', v1, v2, v3, g3', vcV, vcD, Int.reduceEq, Int.reduceNe, Int.reduceLT, Int.reduceLE, Nat.reduceEqDiff, Nat.reduceAdd, reduceIte, reduceCtorEq, Nat.reduceLT, Nat.reduceLeDiff, eq_self, vcP2, Nat.reduceShiftRight, Nat.reduceMod]
        exact WL_cut (hend _ _ q hb rfl rfl rfl rfl rfl rfl rfl rfl rfl)
theorem bitLen_ok {y : Nat} (h0 : y ≠ 0) (hy : y < 18446744073709551616) : Lib.bitLen y ≤ 64 ∧ 2 ^ 63 ≤ y * 2 ^ (64 - Lib.bitLen y) ∧ y * 2 ^ (64 - Lib.bitLen y) < 2 ^ 64 := by
  obtain ⟨h1, h2, h3⟩ := Lib.bitLenAux_bounds 64 y (by omega) h0
  have e : Lib.bitLenAux 64 y = Lib.bitLen y := rfl
  rw [e] at h1 h2 h3
  have h4 : Lib.bitLen y ≤ 64 := by
    refine Classical.byContradiction fun hn => ?_
    have : 2 ^ 64 ≤ 2 ^ (Lib.bitLen y - 1) := Nat.pow_le_pow_right (by omega) (by omega)
    omega
  have hp : 0 < 2 ^ (64 - Lib.bitLen y) := Nat.pow_pos (by decide)
  refine ⟨h4, ?_, ?_⟩
  · have : 2 ^ (Lib.bitLen y - 1) * 2 ^ (64 - Lib.bitLen y) ≤ y * 2 ^ (64 - Lib.bitLen y) := Nat.mul_le_mul_right _ h2
    rw [← Nat.pow_add, show Lib.bitLen y - 1 + (64 - Lib.bitLen y) = 63 by omega] at this
    exact this
  · have : y * 2 ^ (64 - Lib.bitLen y) < 2 ^ Lib.bitLen y * 2 ^ (64 - Lib.bitLen y) := (Nat.mul_lt_mul_right hp).2 h3
    rw [← Nat.pow_add, show Lib.bitLen y + (64 - Lib.bitLen y) = 64 by omega] at this
    exact this
theorem two_limbs {U un1 un0 L : Nat} (h : 4294967296 * un1 + un0 = L) : U * 18446744073709551616 + L = (U * 4294967296 + un1) * 4294967296 + un0 := by omega
theorem Div64_s (hi lo y : Nat) (hlo : lo < 18446744073709551616) (hy : y < 18446744073709551616) (h : hi < y) : Sound Tryz.prog 194 [.int .u64 hi, .int .u64 lo, .int .u64 y]
    (.tup [.int .u64 (((hi * 18446744073709551616 + lo) / y : Nat) : Int), .int .u64 (((hi * 18446744073709551616 + lo) % y : Nat) : Int)]) := by
  refine sound_WL f_math_bits_Div64 e_math_bits_Div64 (Nat.le_of_ble_eq_true rfl) ?_
  have g1 : ¬ (y : Int) = 0 := by omega
  have g2 : ¬ (y : Int) ≤ hi := by omega
  by_cases h0 : hi = 0
  · subst h0
    have w1 : IntKind.u64.wrap ((lo : Int).tdiv y) = ((lo / y : Nat) : Int) := tdiv_u _ _ (Nat.lt_of_le_of_lt (Nat.div_le_self _ _) hlo)
    have w2 := tmod_u lo y
    rw [Nat.zero_mul, Nat.zero_add]
    have g2' : ¬ (y : Int) ≤ 0 := by omega
    simp only [cl_math_bits_Div64, g1, g2', w1, w2, ne_eq, not_false_eq_true, Int.natCast_zero, vcV, vcD, Int.reduceEq, Int.reduceNe, Int.reduceLT, Int.reduceLE, Nat.reduceEqDiff, Nat.reduceAdd, reduceIte, reduceCtorEq, Nat.reduceLT, Nat.reduceLeDiff, eq_self, vcP2, Nat.reduceShiftRight, Nat.reduceMod]
  · have g3 : ¬ (hi : Int) = 0 := by omega
    obtain ⟨b1, b2, b3⟩ := bitLen_ok (show y ≠ 0 by omega) hy
    have hLZ := LeadingZeros64_s y hy b1
    have hs63 : 64 - Lib.bitLen y ≤ 64 := by omega
    generalize 64 - Lib.bitLen y = k at *
    have hp : 0 < 2 ^ k := Nat.pow_pos (by decide)
    have hsh := Lin.shift_hi hi lo k hs63
    have hkk : 2 ^ k * 2 ^ (64 - k) = 18446744073709551616 := by rw [← Nat.pow_add, show k + (64 - k) = 64 by omega]
    have hb4 : lo / 2 ^ (64 - k) < 2 ^ k := by
      rw [Nat.div_lt_iff_lt_mul (Nat.pow_pos (by decide)), hkk]; exact hlo
    have hHy : (hi + 1) * 2 ^ k ≤ y * 2 ^ k := Nat.mul_le_mul_right _ h
    rw [Nat.add_mul, Nat.one_mul] at hHy
    have hdv : 2 ^ k ∣ hi * 2 ^ k := Nat.dvd_mul_left _ _
    have ws : IntKind.u64.wrap (k : Int) = (k : Int) := u64_wrap (by omega)
    have wY := shl_u y k hs63
    have wA := shl_u hi k hs63
    have wr : IntKind.u64.wrap (64 - (k : Int)) = ((64 - k : Nat) : Int) := by rw [show (64 : Int) = ((64 : Nat) : Int) by rfl]; exact sub_u _ _ hs63 (by omega)
    have wB := shr_u lo (64 - k) (by omega)
    have wL := shl_u lo k hs63
    have hLlt := Nat.mod_lt (lo * 2 ^ k) (show 18446744073709551616 > 0 by omega)
    rw [Nat.mod_eq_of_lt (show y * 2 ^ k < 18446744073709551616 by omega)] at wY
    rw [Nat.mod_eq_of_lt (show hi * 2 ^ k < 18446744073709551616 by omega)] at wA
    have wU := or_u (hi * 2 ^ k) (lo / 2 ^ (64 - k)) k hs63 hdv hb4 (by omega)
    obtain ⟨Y, hYd⟩ : ∃ Y, Y = y * 2 ^ k := ⟨_, rfl⟩
    obtain ⟨U, hUd⟩ : ∃ U, U = hi * 2 ^ k + lo / 2 ^ (64 - k) := ⟨_, rfl⟩
    obtain ⟨L, hLd⟩ : ∃ L, L = lo * 2 ^ k % 18446744073709551616 := ⟨_, rfl⟩
    rw [← hUd, ← hLd] at hsh
    rw [← hYd] at wY b2 b3 hHy
    rw [← hUd] at wU
    rw [← hLd] at wL hLlt
    have hUY : U < Y := by omega
    have s1 := shr32 Y
    have a1 := and32 Y (by omega)
    have s2 := shr32 L
    have a2 := and32 L (by omega)
    have eY := Nat.div_add_mod Y 4294967296
    have eL := Nat.div_add_mod L 4294967296
    have lY := Nat.mod_lt Y (show 4294967296 > 0 by omega)
    have lL := Nat.mod_lt L (show 4294967296 > 0 by omega)
    obtain ⟨yn1, hyn1⟩ : ∃ a, a = Y / 4294967296 := ⟨_, rfl⟩
    obtain ⟨yn0, hyn0⟩ : ∃ a, a = Y % 4294967296 := ⟨_, rfl⟩
    obtain ⟨un1, hun1⟩ : ∃ a, a = L / 4294967296 := ⟨_, rfl⟩
    obtain ⟨un0, hun0⟩ : ∃ a, a = L % 4294967296 := ⟨_, rfl⟩
    rw [← hyn1] at s1 eY
    rw [← hyn0] at a1 eY lY
    rw [← hun1] at s2 eL
    rw [← hun0] at a2 eL lL
    have hn1 : 2147483648 ≤ yn1 := by omega
    have hq := Nat.div_le_self U yn1
    have w7 : IntKind.u64.wrap ((U : Int).tdiv yn1) = ((U / yn1 : Nat) : Int) := tdiv_u _ _ (Nat.lt_of_le_of_lt hq (by omega))
    have hdm := Nat.div_add_mod U yn1
    have hml := Nat.mod_lt U (show yn1 > 0 by omega)
    have hgt : (U * 4294967296 + un1) / (yn1 * 4294967296 + yn0) ≤ U / yn1 := Lin.guess_top (by omega) (by omega) (by omega)
    rw [Nat.mul_comm] at hdm
    generalize U / yn1 = q at *
    generalize U % yn1 = r at *
    have w8 : IntKind.u64.wrap ((q : Int) * yn1) = ((q * yn1 : Nat) : Int) := mul_u _ _ (by omega)
    have w9 : IntKind.u64.wrap ((U : Int) - ((q * yn1 : Nat) : Int)) = (r : Int) := by
      rw [sub_u _ _ (by omega) (by omega)]; congr 1; omega
    have hyn : ¬ (yn1 : Int) = 0 := by omega
    have hk0 : (0 : Int) ≤ (k : Int) := by omega
    have hk1 : (0 : Int) ≤ ((64 - k : Nat) : Int) := by omega
    simp only [cl_math_bits_Div64, g1, g2, g3, vcV, vcD, Int.reduceEq, Int.reduceNe, Int.reduceLT, Int.reduceLE, Nat.reduceEqDiff, Nat.reduceAdd, reduceIte, reduceCtorEq, Nat.reduceLT, Nat.reduceLeDiff, eq_self, vcP2, Nat.reduceShiftRight, Nat.reduceMod]
    refine callS_of hLZ ?_
    simp only [ws, wY, s1, a1, wA, wr, wB, wU, wL, s2, a2, w7, w8, w9, hyn, hk0, hk1, ne_eq, not_false_eq_true, vcV, vcD, Int.reduceEq, Int.reduceNe, Int.reduceLT, Int.reduceLE, Nat.reduceEqDiff, Nat.reduceAdd, reduceIte, reduceCtorEq, Nat.reduceLT, Nat.reduceLeDiff, eq_self, vcP2, Nat.reduceShiftRight, Nat.reduceMod]
    refine WL_cutW (envOf [(2, .int .u64 Y), (8, .int .u64 k), (9, .int .u64 yn1), (10, .int .u64 yn0), (11, .int .u64 U), (13, .int .u64 un1), (14, .int .u64 un0), (15, .int .u64 q), (16, .int .u64 r)], stOf []) rfl ?_
      (div_one (Y := Y) (k := k) (by omega) (by omega) (by omega) hn1 hUY (by omega) (by omega) hs63 ?_ q r hdm (by omega) hgt)
    · refine weakX [] (of_decide_eq_true rfl) (of_decide_eq_true rfl) ?_
      (simp only [vcW, vcV, vcD, Int.reduceEq, Int.reduceNe, Int.reduceLT, Int.reduceLE, Nat.reduceEqDiff, Nat.reduceAdd, reduceIte, reduceCtorEq, Nat.reduceLT, Nat.reduceLeDiff, eq_self, vcP2, Nat.reduceShiftRight, Nat.reduceMod])
      (repeat' first | exact trivial | (with_reducible exact RnB.fxB (ints_fxB _)) | (with_reducible rfl) | (with_reducible refine And.intro ?_ ?_) | (with_reducible refine RnB.bb ?_; simp only [vcW, vcV, vcD, Int.reduceEq, Int.reduceNe, Int.reduceLT, Int.reduceLE, Nat.reduceEqDiff, Nat.reduceAdd, reduceIte, reduceCtorEq, Nat.reduceLT, Nat.reduceLeDiff, eq_self, vcP2, Nat.reduceShiftRight, Nat.reduceMod]) | (with_reducible refine RnB.nb ?_; simp only [vcW, vcV, vcD, Int.reduceEq, Int.reduceNe, Int.reduceLT, Int.reduceLE, Nat.reduceEqDiff, Nat.reduceAdd, reduceIte, reduceCtorEq, Nat.reduceLT, Nat.reduceLeDiff, eq_self, vcP2, Nat.reduceShiftRight, Nat.reduceMod]) | (with_reducible refine RnB.ii ?_) | (with_reducible refine RnB.app ?_) | (with_reducible refine RnB.fxB ?_; simp only [vcW, vcV, vcD, Int.reduceEq, Int.reduceNe, Int.reduceLT, Int.reduceLE, Nat.reduceEqDiff, Nat.reduceAdd, reduceIte, reduceCtorEq, Nat.reduceLT, Nat.reduceLeDiff, eq_self, vcP2, Nat.reduceShiftRight, Nat.reduceMod]) | omega)
    · intro e s q1 u21 q0 R2 a2 a8 a14 a15 a17 a18 f1 f2 f3 f4 f5
      have hN : (hi * 18446744073709551616 + lo) * 2 ^ k = (U * 4294967296 + un1) * 4294967296 + un0 := by
        rw [hsh]
        exact two_limbs eL
      obtain ⟨k1, k2⟩ := Lin.knuth (N := hi * 18446744073709551616 + lo) (y := y) (s := k) (by omega) hYd hN f1 f3 f4
      have hQ64 : q1 * 4294967296 + q0 < 18446744073709551616 := by omega
      exact div_tail a2 a8 a14 a15 a17 a18 hs63 k1.symm (by rw [k1]; exact hQ64) f3 (by omega) k2.symm
end Go.Proofs.YtgmpcbpmnimkoaaGreatDoor

/- Numerals, in plain Lean. By an AI agent; nothing here is trusted. -/
namespace Go.Lin
open Go.Lib

def pad : Nat → Nat → List UInt8
  | 0, _ => []
  | k + 1, r => pad k (r / 10) ++ [UInt8.ofNat (48 + r % 10)]
theorem pad_len : ∀ k r, (pad k r).length = k
  | 0, _ => rfl
  | k + 1, r => by rw [pad, List.length_append, pad_len]; rfl
theorem dec_pad : ∀ (k q r : Nat), 0 < q → r < 10 ^ k → decDigits (q * 10 ^ k + r) = decDigits q ++ pad k r
  | 0, q, r, _, hr => by
    have : r = 0 := by simpa using hr
    subst this; simp [pad]
  | k + 1, q, r, hq, hr => by
    have hp : 1 ≤ 10 ^ k := Nat.one_le_pow _ _ (by decide)
    have hb : ¬ q * 10 ^ (k + 1) + r < 10 := by
      have : 1 * 10 ^ (k + 1) ≤ q * 10 ^ (k + 1) := Nat.mul_le_mul_right _ hq
      rw [Nat.pow_succ] at this ⊢
      omega
    have e1 : (q * 10 ^ (k + 1) + r) / 10 = q * 10 ^ k + r / 10 := by rw [Nat.pow_succ, ← Nat.mul_assoc]; omega
    have e2 : (q * 10 ^ (k + 1) + r) % 10 = r % 10 := by rw [Nat.pow_succ, ← Nat.mul_assoc]; omega
    rw [decDigits, dif_neg hb, e1, e2, dec_pad k q (r / 10) hq (by rw [Nat.pow_succ] at hr; omega), pad, List.append_assoc]
theorem pad_zero : ∀ k, pad k 0 = List.replicate k 48
  | 0 => rfl
  | k + 1 => by rw [pad, Nat.zero_div, pad_zero k, List.replicate_succ']; rfl
theorem pad_small : ∀ {k r : Nat}, r < 10 ^ (k + 1) → pad (k + 1) r = List.replicate (k + 1 - (decDigits r).length) 48 ++ decDigits r
  | 0, r, h => by
    have h : r < 10 := by simpa using h
    rw [decDigits, dif_pos h]
    simp [pad, Nat.mod_eq_of_lt h]
  | k + 1, r, h => by
    by_cases h10 : r < 10
    · rw [pad, Nat.div_eq_of_lt h10, pad_zero, decDigits, dif_pos h10, Nat.mod_eq_of_lt h10]
      simp
    · have ih := pad_small (k := k) (r := r / 10) (by rw [Nat.pow_succ] at h; omega)
      have e : decDigits r = decDigits (r / 10) ++ [UInt8.ofNat (48 + r % 10)] := by
        conv => lhs; rw [decDigits, dif_neg h10]
      rw [pad, ih, e, ← List.append_assoc]
      congr 3
      rw [List.length_append, List.length_singleton]
      omega
theorem dec_split (k n : Nat) (h : 10 ^ k ≤ n) : decDigits n = decDigits (n / 10 ^ k) ++ pad k (n % 10 ^ k) := by
  have hp : 0 < 10 ^ k := Nat.pow_pos (by decide)
  have := dec_pad k (n / 10 ^ k) (n % 10 ^ k) (Nat.div_pos h hp) (Nat.mod_lt _ hp)
  rwa [Nat.div_add_mod'] at this
theorem dec_one : decDigits 1 = [49] := by rw [decDigits]; rfl
theorem dec_drop (k r : Nat) (h : r < 10 ^ k) : (decDigits (10 ^ k + r)).drop 1 = pad k r := by
  have := dec_pad k 1 r (by decide) h
  rw [Nat.one_mul] at this
  rw [this, dec_one]; rfl
end Go.Lin

/- Numerals and what they spell, in plain Lean. By an AI agent; nothing here is trusted. -/
namespace Go.Lin
open Go.Lib

def val (l : List UInt8) : Nat := l.foldl (fun a c => a * 10 + (c.toNat - 48)) 0
theorem dec_ne (u : Nat) : decDigits u ≠ [] := by
  rw [decDigits]; split <;> simp
end Go.Lin

/- Contracts: digits of a number of 128 bits, the error of a fit, what is kept. By an AI agent; nothing here is trusted. -/
namespace Go.Proofs.YtgmpcbpmnimkoaaGreatDoor
open Go.Av

theorem dec_len {n : Nat} (h : n < 10 ^ 50) : (Lib.decDigits n).length ≤ 50 := by
  rw [Lib.decDigits_length]
  refine Classical.byContradiction fun hn => ?_
  have key : ∀ k u : Nat, k < Lib.nDigits u → 10 ^ k ≤ u ∨ k = 0 := by
    intro k
    induction k with
    | zero => exact fun _ _ => .inr rfl
    | succ k ih =>
      intro u hu
      by_cases h10 : u < 10
      · rw [Lib.nDigits_small h10] at hu; omega
      · rw [Lib.nDigits_big h10] at hu
        left
        rcases ih (u / 10) (by omega) with g | g
        · rw [Nat.pow_succ]; omega
        · subst g; omega
  rcases key 50 n (by omega) with g | g
  · omega
  · cases g
set_option maxHeartbeats 2000000 in
theorem text_s : ∀ (n : Nat) (b : Bool), W128 n → Sound Tryz.prog 109 [wdA b n] (.str (Lib.decDigits n)) := by
  intro n
  induction n using Nat.strongRecOn with
  | ind n ih =>
    intro b hn
    refine sound_W f_pulse_wide_text (Nat.le_of_ble_eq_true rfl) ?_
    have hn' := hn
    unfold W128 at hn
    have eN := Nat.div_add_mod n 18446744073709551616
    have lL := Nat.mod_lt n (show 18446744073709551616 > 0 by omega)
    have hD1 : Sound Tryz.prog 194 [.int .u64 0, .int .u64 ((n / 18446744073709551616 : Nat) : Int), .int .u64 1000000000000000000] _ := Div64_s 0 (n / 18446744073709551616) 1000000000000000000 (by omega) (by omega) (by omega)
    rw [Nat.zero_mul, Nat.zero_add] at hD1
    have hD2 : Sound Tryz.prog 194 [.int .u64 ((n / 18446744073709551616 % 1000000000000000000 : Nat) : Int), .int .u64 ((n % 18446744073709551616 : Nat) : Int), .int .u64 1000000000000000000] _ := Div64_s (n / 18446744073709551616 % 1000000000000000000) (n % 18446744073709551616) 1000000000000000000 lL (by omega) (Nat.mod_lt _ (by omega))
    have eM := Nat.div_add_mod (n / 18446744073709551616) 1000000000000000000
    have lM := Nat.mod_lt (n / 18446744073709551616) (show 1000000000000000000 > 0 by omega)
    have eR := Nat.div_add_mod (n / 18446744073709551616 % 1000000000000000000 * 18446744073709551616 + n % 18446744073709551616) 1000000000000000000
    have lR := Nat.mod_lt (n / 18446744073709551616 % 1000000000000000000 * 18446744073709551616 + n % 18446744073709551616) (show 1000000000000000000 > 0 by omega)
    unfold wdA
    generalize n / 18446744073709551616 = H at *
    generalize n % 18446744073709551616 = L at *
    generalize H / 1000000000000000000 = qh at *
    generalize H % 1000000000000000000 = rh at *
    have hql : (rh * 18446744073709551616 + L) / 1000000000000000000 < 18446744073709551616 := by omega
    generalize (rh * 18446744073709551616 + L) / 1000000000000000000 = ql at *
    generalize (rh * 18446744073709551616 + L) % 1000000000000000000 = low at *
    have en : n = (qh * 18446744073709551616 + ql) * 1000000000000000000 + low := by omega
    have hq : n / 1000000000000000000 = qh * 18446744073709551616 + ql := by omega
    have hr : n % 1000000000000000000 = low := by omega
    by_cases hz : qh = 0 ∧ ql = 0
    · obtain ⟨rfl, rfl⟩ := hz
      have hlow : low = n := by omega
      simp only [c_pulse_wide_text, vcV, vcD, Int.reduceEq, Int.reduceNe, Int.reduceLT, Int.reduceLE, Nat.reduceEqDiff, Nat.reduceAdd, reduceIte, reduceCtorEq, Nat.reduceLT, Nat.reduceLeDiff, eq_self, vcP2, Nat.reduceShiftRight, Nat.reduceMod]
      refine callS_of hD1 ?_
      simp only [vcV, vcD, Int.reduceEq, Int.reduceNe, Int.reduceLT, Int.reduceLE, Nat.reduceEqDiff, Nat.reduceAdd, reduceIte, reduceCtorEq, Nat.reduceLT, Nat.reduceLeDiff, eq_self, vcP2, Nat.reduceShiftRight, Nat.reduceMod]
      refine callS_of hD2 ?_
      simp only [Int.natCast_zero, vcV, vcD, Int.reduceEq, Int.reduceNe, Int.reduceLT, Int.reduceLE, Nat.reduceEqDiff, Nat.reduceAdd, reduceIte, reduceCtorEq, Nat.reduceLT, Nat.reduceLeDiff, eq_self, vcP2, Nat.reduceShiftRight, Nat.reduceMod]
      refine callS_of (FormatUint_s low (by omega)) ?_
      simp only [hlow, vcV, vcD, Int.reduceEq, Int.reduceNe, Int.reduceLT, Int.reduceLE, Nat.reduceEqDiff, Nat.reduceAdd, reduceIte, reduceCtorEq, Nat.reduceLT, Nat.reduceLeDiff, eq_self, vcP2, Nat.reduceShiftRight, Nat.reduceMod]
    · have hz' : ¬ ((qh : Int) = 0 ∧ (ql : Int) = 0) := by omega
      have hpos : 0 < n / 1000000000000000000 := by omega
      have hsp := Lin.dec_split 18 n (by have : (10 : Nat) ^ 18 = 1000000000000000000 := by decide
                                         omega)
      have e18 : (10 : Nat) ^ 18 = 1000000000000000000 := by decide
      rw [e18] at hsp
      have hdr := Lin.dec_drop 18 low (by rw [e18]; omega)
      rw [e18] at hdr
      have hT := ih (n / 1000000000000000000) (by omega) false (by unfold W128; omega)
      have d1 : (n / 1000000000000000000) / 18446744073709551616 = qh := by omega
      have d2 : (n / 1000000000000000000) % 18446744073709551616 = ql := by omega
      unfold wdA at hT
      rw [d1, d2] at hT
      obtain ⟨F, hFd⟩ : ∃ F, F = 1000000000000000000 + low := ⟨_, rfl⟩
      rw [← hFd] at hdr
      obtain ⟨m, hmd⟩ : ∃ m, m = n / 1000000000000000000 := ⟨_, rfl⟩
      rw [← hmd] at hsp hT hpos
      have hF := FormatUint_s F (by omega)
      have wF : IntKind.u64.wrap (1000000000000000000 + (low : Int)) = (F : Int) := by rw [u64_wrap (by omega)]; omega
      have hl1 : 1 ≤ (Lib.decDigits F).length := by
        have := Lin.dec_ne F
        cases h : Lib.decDigits F with
        | nil => exact absurd h this
        | cons a r => simp
      have hl2 : (Lib.decDigits m).length ≤ 50 := dec_len (by have : (340282366920938463463374607431768211456 : Nat) < 10 ^ 50 := by decide
                                                              omega)
      have hl3 : (Lin.pad 18 low).length = 18 := Lin.pad_len 18 low
      have htk : ((Lib.decDigits F).take (Lib.decDigits F).length).drop 1 = Lin.pad 18 low := by rw [List.take_length, hdr]
      rw [hr] at hsp
      rw [hsp]
      clear hsp hmd hFd eN eM eR lR hq hr d1 d2 en ih
      by_cases g1 : qh = 0
      · have g2 : ¬ ql = 0 := fun h => hz ⟨g1, h⟩
        have g2' : ¬ (ql : Int) = 0 := by omega
        subst g1
        simp only [c_pulse_wide_text, vcV, vcD, Int.reduceEq, Int.reduceNe, Int.reduceLT, Int.reduceLE, Nat.reduceEqDiff, Nat.reduceAdd, reduceIte, reduceCtorEq, Nat.reduceLT, Nat.reduceLeDiff, eq_self, vcP2, Nat.reduceShiftRight, Nat.reduceMod]
        refine callS_of hD1 ?_
        simp only [vcV, vcD, Int.reduceEq, Int.reduceNe, Int.reduceLT, Int.reduceLE, Nat.reduceEqDiff, Nat.reduceAdd, reduceIte, reduceCtorEq, Nat.reduceLT, Nat.reduceLeDiff, eq_self, vcP2, Nat.reduceShiftRight, Nat.reduceMod]
        refine callS_of hD2 ?_
        simp only [Int.natCast_zero, g2', wF, vcV, vcD, Int.reduceEq, Int.reduceNe, Int.reduceLT, Int.reduceLE, Nat.reduceEqDiff, Nat.reduceAdd, reduceIte, reduceCtorEq, Nat.reduceLT, Nat.reduceLeDiff, eq_self, vcP2, Nat.reduceShiftRight, Nat.reduceMod]
        refine callS_of hF ?_
        simp only [htk, List.take_length, hdr, vcV, vcD, Int.reduceEq, Int.reduceNe, Int.reduceLT, Int.reduceLE, Nat.reduceEqDiff, Nat.reduceAdd, reduceIte, reduceCtorEq, Nat.reduceLT, Nat.reduceLeDiff, eq_self, vcP2, Nat.reduceShiftRight, Nat.reduceMod]
        (repeat (with_reducible refine And.intro ?_ ?_; focus (first | omega | (unfold I64; omega))))
        refine callS_of hT ?_
        simp only [show Int.toNat 1 = 1 from rfl, hdr, hl3, vcV, vcD, Int.reduceEq, Int.reduceNe, Int.reduceLT, Int.reduceLE, Nat.reduceEqDiff, Nat.reduceAdd, reduceIte, reduceCtorEq, Nat.reduceLT, Nat.reduceLeDiff, eq_self, vcP2, Nat.reduceShiftRight, Nat.reduceMod]
        omega
      · have g1' : ¬ (qh : Int) = 0 := by omega
        simp only [c_pulse_wide_text, vcV, vcD, Int.reduceEq, Int.reduceNe, Int.reduceLT, Int.reduceLE, Nat.reduceEqDiff, Nat.reduceAdd, reduceIte, reduceCtorEq, Nat.reduceLT, Nat.reduceLeDiff, eq_self, vcP2, Nat.reduceShiftRight, Nat.reduceMod]
        refine callS_of hD1 ?_
        simp only [vcV, vcD, Int.reduceEq, Int.reduceNe, Int.reduceLT, Int.reduceLE, Nat.reduceEqDiff, Nat.reduceAdd, reduceIte, reduceCtorEq, Nat.reduceLT, Nat.reduceLeDiff, eq_self, vcP2, Nat.reduceShiftRight, Nat.reduceMod]
        refine callS_of hD2 ?_
        simp only [g1', wF, vcV, vcD, Int.reduceEq, Int.reduceNe, Int.reduceLT, Int.reduceLE, Nat.reduceEqDiff, Nat.reduceAdd, reduceIte, reduceCtorEq, Nat.reduceLT, Nat.reduceLeDiff, eq_self, vcP2, Nat.reduceShiftRight, Nat.reduceMod]
        refine callS_of hF ?_
        simp only [htk, List.take_length, hdr, vcV, vcD, Int.reduceEq, Int.reduceNe, Int.reduceLT, Int.reduceLE, Nat.reduceEqDiff, Nat.reduceAdd, reduceIte, reduceCtorEq, Nat.reduceLT, Nat.reduceLeDiff, eq_self, vcP2, Nat.reduceShiftRight, Nat.reduceMod]
        (repeat (with_reducible refine And.intro ?_ ?_; focus (first | omega | (unfold I64; omega))))
        refine callS_of hT ?_
        simp only [show Int.toNat 1 = 1 from rfl, hdr, hl3, vcV, vcD, Int.reduceEq, Int.reduceNe, Int.reduceLT, Int.reduceLE, Nat.reduceEqDiff, Nat.reduceAdd, reduceIte, reduceCtorEq, Nat.reduceLT, Nat.reduceLeDiff, eq_self, vcP2, Nat.reduceShiftRight, Nat.reduceMod]
        omega
end Go.Proofs.YtgmpcbpmnimkoaaGreatDoor

/- Contracts: the error of a fit, what is kept. By an AI agent; nothing here is trusted. -/
namespace Go.Proofs.YtgmpcbpmnimkoaaGreatDoor
open Go.Av

def sqN : List Int → Nat
  | [] => 0
  | x :: l => x.natAbs * x.natAbs + sqN l
theorem sqN_app : ∀ (l m : List Int), sqN (l ++ m) = sqN l + sqN m
  | [], m => by simp [sqN]
  | x :: l, m => by rw [List.cons_append, sqN, sqN, sqN_app l m]; omega
theorem sqN_next (l : List Int) {i : Nat} (h : i < l.length) : sqN (l.take (i + 1)) = sqN (l.take i) + l[i].natAbs * l[i].natAbs := by
  rw [List.take_succ_eq_append_getElem h, sqN_app]; simp [sqN]
theorem sqN_bd : ∀ {l : List Int}, (∀ x ∈ l, -10500000000000000 ≤ x ∧ x ≤ 10500000000000000) → sqN l ≤ l.length * 110250000000000000000000000000000
  | [], _ => by simp [sqN]
  | x :: l, h => by
    have h1 := sqN_bd (l := l) fun y hy => h y (by simp [hy])
    have h2 := h x (by simp)
    have h3 : x.natAbs * x.natAbs ≤ 10500000000000000 * 10500000000000000 := Nat.mul_le_mul (by omega) (by omega)
    rw [sqN, List.length_cons, Nat.add_mul]
    omega
def erA (items : List Int) (shifts : Int) (l : List Int) (den : Int) (ch : List Int) : List AV := if beE items shifts l den ch ≠ 0 then [.agg [.str [], .int .i64 0], .int .i64 (beE items shifts l den ch)] else [.agg [.str (Lib.decDigits (sqN (dfL items l ch den))), .int .i64 den], .int .i64 0]
theorem ErrorOf_s (items : List Int) (shifts : Int) (l : List Int) (den : Int) (ch : List Int) (h1 : items.length < 4000000000000000000) (h2 : l.length < 4000000000000000000) (h3 : ch.length < 4000000000000000000) :
    Sound Tryz.prog 23 [tplA items shifts, .sl (ints l), fitA den ch] (.tup (erA items shifts l den ch)) := by
  refine sound_W f_pulse_ErrorOf (Nat.le_of_ble_eq_true rfl) ?_
  have hB := bothErr_s items shifts l den ch h1 h2 h3
  unfold tplA fitA at hB
  simp only [c_pulse_ErrorOf, tplA, fitA, vcV, vcD, Int.reduceEq, Int.reduceNe, Int.reduceLT, Int.reduceLE, Nat.reduceEqDiff, Nat.reduceAdd, reduceIte, reduceCtorEq, Nat.reduceLT, Nat.reduceLeDiff, eq_self, vcP2, Nat.reduceShiftRight, Nat.reduceMod]
  refine callS_of hB ?_
  by_cases hE : beE items shifts l den ch = 0
  case neg =>
    have hr : erA items shifts l den ch = [.agg [.str [], .int .i64 0], .int .i64 (beE items shifts l den ch)] := by unfold erA; rw [if_pos hE]
    rw [hr]
    simp only [hE, vcV, vcD, Int.reduceEq, Int.reduceNe, Int.reduceLT, Int.reduceLE, Nat.reduceEqDiff, Nat.reduceAdd, reduceIte, reduceCtorEq, Nat.reduceLT, Nat.reduceLeDiff, eq_self, vcP2, Nat.reduceShiftRight, Nat.reduceMod]
  have F := beE_ok hE
  have hr : erA items shifts l den ch = [.agg [.str (Lib.decDigits (sqN (dfL items l ch den))), .int .i64 den], .int .i64 0] := by unfold erA; rw [if_neg (by omega)]
  rw [hr]
  have hD := differences_s F
  unfold tplA fitA at hD
  simp only [hE, vcV, vcD, Int.reduceEq, Int.reduceNe, Int.reduceLT, Int.reduceLE, Nat.reduceEqDiff, Nat.reduceAdd, reduceIte, reduceCtorEq, Nat.reduceLT, Nat.reduceLeDiff, eq_self, vcP2, Nat.reduceShiftRight, Nat.reduceMod]
  refine callS_of hD ?_
  have hb := F.dfb
  have hlen : (dfL items l ch den).length ≤ 10 := by rw [dfL_len, F.mlen]; exact F.l10
  generalize dfL items l ch den = L at *
  have hle : ∀ i : Nat, sqN (L.take i) ≤ 1102500000000000000000000000000000 := fun i => by
    have := sqN_bd (l := L.take i) fun x hx => hb x (List.mem_of_mem_take hx)
    have h2 : (L.take i).length ≤ 10 := by simp; omega
    omega
  simp only [vcV, vcD, Int.reduceEq, Int.reduceNe, Int.reduceLT, Int.reduceLE, Nat.reduceEqDiff, Nat.reduceAdd, reduceIte, reduceCtorEq, Nat.reduceLT, Nat.reduceLeDiff, eq_self, vcP2, Nat.reduceShiftRight, Nat.reduceMod]
  refine W_loop (t := .mk) (α := PSigma fun i : Nat => i ≤ L.length) (fun ⟨i, _⟩ => (envOf [(5, .ptr 5 0 0), (6, .ptr 6 0 0), (7, .int .i64 0), (9, .ptr 9 0 0), (23, .sl (ints L)), (24, .int .i64 L.length), (25, .int .i64 i)], stOf [(5, ⟨29, 2, [.agg [.int .i64 den, .sl (ints ch)]]⟩), (6, ⟨42, 2, [.agg [.str [], .int .i64 0]]⟩), (9, ⟨157, 3, [wdA false (sqN (L.take i))]⟩)])) (fun x => L.length - x.1) ⟨0, Nat.zero_le _⟩ ?_ (fun ⟨i, hin⟩ => ?_)
  · have e0 : wdA false (sqN []) = .agg [.bool false, .int .u64 0, .int .u64 0] := rfl
    refine weakX [] (of_decide_eq_true rfl) (of_decide_eq_true rfl) ?_
    (simp only [e0, vcW, vcV, vcD, Int.reduceEq, Int.reduceNe, Int.reduceLT, Int.reduceLE, Nat.reduceEqDiff, Nat.reduceAdd, reduceIte, reduceCtorEq, Nat.reduceLT, Nat.reduceLeDiff, eq_self, vcP2, Nat.reduceShiftRight, Nat.reduceMod])
    (repeat' first | exact trivial | (with_reducible exact RnB.fxB (ints_fxB _)) | (with_reducible rfl) | (with_reducible refine And.intro ?_ ?_) | (with_reducible refine RnB.bb ?_; simp only [vcW, vcV, vcD, Int.reduceEq, Int.reduceNe, Int.reduceLT, Int.reduceLE, Nat.reduceEqDiff, Nat.reduceAdd, reduceIte, reduceCtorEq, Nat.reduceLT, Nat.reduceLeDiff, eq_self, vcP2, Nat.reduceShiftRight, Nat.reduceMod]) | (with_reducible refine RnB.nb ?_; simp only [vcW, vcV, vcD, Int.reduceEq, Int.reduceNe, Int.reduceLT, Int.reduceLE, Nat.reduceEqDiff, Nat.reduceAdd, reduceIte, reduceCtorEq, Nat.reduceLT, Nat.reduceLeDiff, eq_self, vcP2, Nat.reduceShiftRight, Nat.reduceMod]) | (with_reducible refine RnB.ii ?_) | (with_reducible refine RnB.app ?_) | (with_reducible refine RnB.fxB ?_; simp only [vcW, vcV, vcD, Int.reduceEq, Int.reduceNe, Int.reduceLT, Int.reduceLE, Nat.reduceEqDiff, Nat.reduceAdd, reduceIte, reduceCtorEq, Nat.reduceLT, Nat.reduceLeDiff, eq_self, vcP2, Nat.reduceShiftRight, Nat.reduceMod]) | omega)
  · dsimp only at hin ⊢
    by_cases h' : i < L.length
    · have hc1 : (i : Int) < L.length := by omega
      have hxb := hb _ (List.getElem_mem h')
      have hx63 : S63 L[i] := by unfold S63; omega
      have hW := pwideOf_s L[i] hx63
      have hsq : L[i].natAbs * L[i].natAbs ≤ 10500000000000000 * 10500000000000000 := Nat.mul_le_mul (by omega) (by omega)
      have hT := times_s (decide (L[i] < 0)) L[i].natAbs L[i] hx63 (by unfold W128; omega) (by unfold W128; omega)
      have hbb : (decide (L[i] < 0) != decide (L[i] < 0)) = false := by cases decide (L[i] < 0) <;> rfl
      rw [hbb] at hT
      have hn := sqN_next L h'
      have hle1 := hle i
      have hle2 := hle (i + 1)
      have hP := plus_same_s false (sqN (L.take i)) (L[i].natAbs * L[i].natAbs) (by unfold W128; omega)
      rw [← hn] at hP
      unfold wdA at hW hT hP ⊢
      simp only [hc1, ints_get L i h', vcV, vcD, Int.reduceEq, Int.reduceNe, Int.reduceLT, Int.reduceLE, Nat.reduceEqDiff, Nat.reduceAdd, reduceIte, reduceCtorEq, Nat.reduceLT, Nat.reduceLeDiff, eq_self, vcP2, Nat.reduceShiftRight, Nat.reduceMod]
      (repeat (with_reducible refine And.intro ?_ ?_; focus (first | omega | (unfold I64; omega))))
      refine callS_of hW ?_
      simp only [vcV, vcD, Int.reduceEq, Int.reduceNe, Int.reduceLT, Int.reduceLE, Nat.reduceEqDiff, Nat.reduceAdd, reduceIte, reduceCtorEq, Nat.reduceLT, Nat.reduceLeDiff, eq_self, vcP2, Nat.reduceShiftRight, Nat.reduceMod]
      refine callS_of hT ?_
      simp only [vcV, vcD, Int.reduceEq, Int.reduceNe, Int.reduceLT, Int.reduceLE, Nat.reduceEqDiff, Nat.reduceAdd, reduceIte, reduceCtorEq, Nat.reduceLT, Nat.reduceLeDiff, eq_self, vcP2, Nat.reduceShiftRight, Nat.reduceMod]
      refine callS_of hP ?_
      simp only [vcV, vcD, Int.reduceEq, Int.reduceNe, Int.reduceLT, Int.reduceLE, Nat.reduceEqDiff, Nat.reduceAdd, reduceIte, reduceCtorEq, Nat.reduceLT, Nat.reduceLeDiff, eq_self, vcP2, Nat.reduceShiftRight, Nat.reduceMod]
      (repeat (with_reducible refine And.intro ?_ ?_; focus (first | omega | (unfold I64; omega))))
      refine ⟨⟨i + 1, h'⟩, by simp only; omega, ?_⟩
      refine weakX [] (of_decide_eq_true rfl) (of_decide_eq_true rfl) ?_
      (simp only [vcW, vcV, vcD, Int.reduceEq, Int.reduceNe, Int.reduceLT, Int.reduceLE, Nat.reduceEqDiff, Nat.reduceAdd, reduceIte, reduceCtorEq, Nat.reduceLT, Nat.reduceLeDiff, eq_self, vcP2, Nat.reduceShiftRight, Nat.reduceMod])
      (repeat' first | exact trivial | (with_reducible exact RnB.fxB (ints_fxB _)) | (with_reducible rfl) | (with_reducible refine And.intro ?_ ?_) | (with_reducible refine RnB.bb ?_; simp only [vcW, vcV, vcD, Int.reduceEq, Int.reduceNe, Int.reduceLT, Int.reduceLE, Nat.reduceEqDiff, Nat.reduceAdd, reduceIte, reduceCtorEq, Nat.reduceLT, Nat.reduceLeDiff, eq_self, vcP2, Nat.reduceShiftRight, Nat.reduceMod]) | (with_reducible refine RnB.nb ?_; simp only [vcW, vcV, vcD, Int.reduceEq, Int.reduceNe, Int.reduceLT, Int.reduceLE, Nat.reduceEqDiff, Nat.reduceAdd, reduceIte, reduceCtorEq, Nat.reduceLT, Nat.reduceLeDiff, eq_self, vcP2, Nat.reduceShiftRight, Nat.reduceMod]) | (with_reducible refine RnB.ii ?_) | (with_reducible refine RnB.app ?_) | (with_reducible refine RnB.fxB ?_; simp only [vcW, vcV, vcD, Int.reduceEq, Int.reduceNe, Int.reduceLT, Int.reduceLE, Nat.reduceEqDiff, Nat.reduceAdd, reduceIte, reduceCtorEq, Nat.reduceLT, Nat.reduceLeDiff, eq_self, vcP2, Nat.reduceShiftRight, Nat.reduceMod]) | omega)
    · have hil : i = L.length := by omega
      subst hil
      have hc1 : ¬ (L.length : Int) < L.length := by omega
      rw [List.take_length]
      have hle1 := hle L.length
      rw [List.take_length] at hle1
      have hX := text_s (sqN L) false (by unfold W128; omega)
      unfold wdA at hX ⊢
      simp only [hc1, vcV, vcD, Int.reduceEq, Int.reduceNe, Int.reduceLT, Int.reduceLE, Nat.reduceEqDiff, Nat.reduceAdd, reduceIte, reduceCtorEq, Nat.reduceLT, Nat.reduceLeDiff, eq_self, vcP2, Nat.reduceShiftRight, Nat.reduceMod]
      refine callS_of hX ?_
      simp only [vcV, vcD, Int.reduceEq, Int.reduceNe, Int.reduceLT, Int.reduceLE, Nat.reduceEqDiff, Nat.reduceAdd, reduceIte, reduceCtorEq, Nat.reduceLT, Nat.reduceLeDiff, eq_self, vcP2, Nat.reduceShiftRight, Nat.reduceMod]

def keptB (items l : List Int) (den : Int) (ch : List Int) (pc : Int) : Bool := decide ((l.sum * den - ch.sum * items.sum).natAbs * 100 ≤ (l.sum * den).natAbs * pc.natAbs)
def ikE (items : List Int) (shifts : Int) (l : List Int) (den : Int) (ch : List Int) (pc : Int) : Int := if beE items shifts l den ch ≠ 0 then beE items shifts l den ch else if 0 ≤ pc ∧ pc ≤ 100 then 0 else 2
theorem FitIn.sums {items l : List Int} {shifts : Int} {ch : List Int} {den : Int} (F : FitIn items l shifts ch den) : (sumOk l ∧ sumOk ch ∧ sumOk items) ∧ (-100000 ≤ l.sum ∧ l.sum ≤ 100000) ∧ (0 ≤ ch.sum ∧ ch.sum ≤ 5000000000000) ∧ (-600 ≤ items.sum ∧ items.sum ≤ 600) ∧
    (-100000000000000000 ≤ l.sum * den ∧ l.sum * den ≤ 100000000000000000) ∧ (-3000000000000000 ≤ ch.sum * items.sum ∧ ch.sum * items.sum ≤ 3000000000000000) := by
  have hl10 := F.l10
  have hi6 := F.i6
  have hc5 : ch.length ≤ 5 := by have := F.cl; have := F.s5; omega
  have a1 := sum_abs (m := 10000) (by omega) F.lb
  have a2 := sum_abs (m := 1000000000000) (by omega) F.cb2
  have a3 := sum_abs (m := 100) (by omega) F.ib
  have a4 : 0 ≤ ch.sum := by
    have : ∀ {l : List Int}, (∀ x ∈ l, 0 ≤ x) → 0 ≤ l.sum := by
      intro l
      induction l with
      | nil => intro _; decide
      | cons x l ih => intro h; rw [List.sum_cons]; have := h x (by simp); have := ih fun y hy => h y (by simp [hy]); omega
    exact this fun x hx => (F.cb x hx).1
  have hd := F.db
  have b1 := mul_abs (s := l.sum) (k := den) (M := 100000) (K := 1000000000000) ⟨by omega, hd.2⟩ (by omega) (by omega)
  have b2 := mul_abs (s := items.sum) (k := ch.sum) (M := 600) (K := 5000000000000) ⟨a4, by omega⟩ (by omega) (by omega)
  rw [Int.mul_comm items.sum ch.sum] at b2
  exact ⟨⟨sumOk_of (by omega) (fun x hx => by have := F.lb x hx; omega), sumOk_of (by omega) F.cb2, sumOk_of (by omega) (fun x hx => by have := F.ib x hx; omega)⟩, by omega, by omega, by omega, by omega, by omega⟩
theorem IsKept_s (items : List Int) (shifts : Int) (l : List Int) (den : Int) (ch : List Int) (pc : Int) (h1 : items.length < 4000000000000000000) (h2 : l.length < 4000000000000000000) (h3 : ch.length < 4000000000000000000) :
    Sound Tryz.prog 39 [tplA items shifts, .sl (ints l), .agg [.int .i64 den, .sl (ints ch), .int .i64 pc]] (.tup [.bool (decide (ikE items shifts l den ch pc = 0) && keptB items l den ch pc), .int .i64 (ikE items shifts l den ch pc)]) := by
  refine sound_W f_pulse_IsKept (Nat.le_of_ble_eq_true rfl) ?_
  have hB := bothErr_s items shifts l den ch h1 h2 h3
  unfold tplA fitA at hB
  have hF := first2_s (beE items shifts l den ch) (if 0 ≤ pc ∧ pc ≤ 100 then 0 else 2)
  have hv : (if beE items shifts l den ch ≠ 0 then beE items shifts l den ch else if 0 ≤ pc ∧ pc ≤ 100 then 0 else 2) = ikE items shifts l den ch pc := rfl
  rw [hv] at hF
  have hU := unless_s (decide (0 ≤ pc ∧ pc ≤ 100)) 2
  simp only [decide_eq_true_eq] at hU
  simp only [c_pulse_IsKept, tplA, vcV, vcD, Int.reduceEq, Int.reduceNe, Int.reduceLT, Int.reduceLE, Nat.reduceEqDiff, Nat.reduceAdd, reduceIte, reduceCtorEq, Nat.reduceLT, Nat.reduceLeDiff, eq_self, vcP2, Nat.reduceShiftRight, Nat.reduceMod]
  refine callS_of hB ?_
  simp only [vcV, vcD, Int.reduceEq, Int.reduceNe, Int.reduceLT, Int.reduceLE, Nat.reduceEqDiff, Nat.reduceAdd, reduceIte, reduceCtorEq, Nat.reduceLT, Nat.reduceLeDiff, eq_self, vcP2, Nat.reduceShiftRight, Nat.reduceMod]
  refine callS_of (within_s _ _ _) ?_
  simp only [vcV, vcD, Int.reduceEq, Int.reduceNe, Int.reduceLT, Int.reduceLE, Nat.reduceEqDiff, Nat.reduceAdd, reduceIte, reduceCtorEq, Nat.reduceLT, Nat.reduceLeDiff, eq_self, vcP2, Nat.reduceShiftRight, Nat.reduceMod]
  refine callS_of hU ?_
  simp only [vcV, vcD, Int.reduceEq, Int.reduceNe, Int.reduceLT, Int.reduceLE, Nat.reduceEqDiff, Nat.reduceAdd, reduceIte, reduceCtorEq, Nat.reduceLT, Nat.reduceLeDiff, eq_self, vcP2, Nat.reduceShiftRight, Nat.reduceMod]
  refine callS_of hF ?_
  by_cases hE : ikE items shifts l den ch pc = 0
  case neg =>
    simp only [hE, vcV, vcD, Int.reduceEq, Int.reduceNe, Int.reduceLT, Int.reduceLE, Nat.reduceEqDiff, Nat.reduceAdd, reduceIte, reduceCtorEq, Nat.reduceLT, Nat.reduceLeDiff, eq_self, vcP2, Nat.reduceShiftRight, Nat.reduceMod]
    intro _ k hk; simp [refsL, refs, upd] at hk; subst hk; simp [upd]
  have hb0 : beE items shifts l den ch = 0 := by
    unfold ikE at hE
    split at hE
    · rename_i h; exact absurd hE h
    · omega
  have hpc : 0 ≤ pc ∧ pc ≤ 100 := by
    unfold ikE at hE
    rw [if_neg (by omega)] at hE
    split at hE
    · assumption
    · cases hE
  have F := beE_ok hb0
  obtain ⟨⟨s1, s2, s3⟩, r1, r2, r3, r4, r5⟩ := F.sums
  have hl10 := F.l10
  have hi6 := F.i6
  have hc5 : ch.length ≤ 5 := by have := F.cl; have := F.s5; omega
  have hS1 := sum_s l (by omega) s1
  have hS2 := sum_s ch (by omega) s2
  have hS3 := sum_s items (by omega) s3
  have hdb := F.db
  have hk : keptB items l den ch pc = !decide ((l.sum * den).natAbs * pc.natAbs < (l.sum * den - ch.sum * items.sum).natAbs * 100) := by
    unfold keptB; rw [← decide_not]; congr 1; exact propext ⟨fun h => by omega, fun h => by omega⟩
  have hW1 := pwideOf_s (l.sum * den - ch.sum * items.sum) (by unfold S63; omega)
  have hW2 := pwideOf_s (l.sum * den) (by unfold S63; omega)
  have hT1 := times_s (decide (l.sum * den - ch.sum * items.sum < 0)) (l.sum * den - ch.sum * items.sum).natAbs 100 (by unfold S63; omega) (by unfold W128; have : (100 : Int).natAbs = 100 := rfl; rw [this]; omega) (by unfold W128; omega)
  have hpn : pc.natAbs ≤ 100 := by omega
  have hml : (l.sum * den).natAbs * pc.natAbs ≤ 100000000000000000 * 100 := Nat.mul_le_mul (by omega) hpn
  have hT2 := times_s (decide (l.sum * den < 0)) (l.sum * den).natAbs pc (by unfold S63; omega) (by unfold W128; omega) (by unfold W128; omega)
  have hL := isLess_s (decide (l.sum * den < 0) != decide (pc < 0)) (decide (l.sum * den - ch.sum * items.sum < 0)) ((l.sum * den).natAbs * pc.natAbs) ((l.sum * den - ch.sum * items.sum).natAbs * (100 : Int).natAbs)
  have e100 : (100 : Int).natAbs = 100 := rfl
  rw [e100] at hL hT1
  unfold wdA at hW1 hW2 hT1 hT2 hL
  simp only [hE, vcV, vcD, Int.reduceEq, Int.reduceNe, Int.reduceLT, Int.reduceLE, Nat.reduceEqDiff, Nat.reduceAdd, reduceIte, reduceCtorEq, Nat.reduceLT, Nat.reduceLeDiff, eq_self, vcP2, Nat.reduceShiftRight, Nat.reduceMod]
  refine ⟨by intro _ k hk; simp [refsL, refs, upd] at hk; subst hk; simp [upd], ?_⟩
  refine callS_of hS1 ?_
  simp only [vcV, vcD, Int.reduceEq, Int.reduceNe, Int.reduceLT, Int.reduceLE, Nat.reduceEqDiff, Nat.reduceAdd, reduceIte, reduceCtorEq, Nat.reduceLT, Nat.reduceLeDiff, eq_self, vcP2, Nat.reduceShiftRight, Nat.reduceMod]
  (repeat (with_reducible refine And.intro ?_ ?_; focus (first | omega | (unfold I64; omega))))
  refine callS_of hS2 ?_
  simp only [vcV, vcD, Int.reduceEq, Int.reduceNe, Int.reduceLT, Int.reduceLE, Nat.reduceEqDiff, Nat.reduceAdd, reduceIte, reduceCtorEq, Nat.reduceLT, Nat.reduceLeDiff, eq_self, vcP2, Nat.reduceShiftRight, Nat.reduceMod]
  refine callS_of hS3 ?_
  simp only [vcV, vcD, Int.reduceEq, Int.reduceNe, Int.reduceLT, Int.reduceLE, Nat.reduceEqDiff, Nat.reduceAdd, reduceIte, reduceCtorEq, Nat.reduceLT, Nat.reduceLeDiff, eq_self, vcP2, Nat.reduceShiftRight, Nat.reduceMod]
  (repeat (with_reducible refine And.intro ?_ ?_; focus (first | omega | (unfold I64; omega))))
  refine callS_of hW1 ?_
  simp only [vcV, vcD, Int.reduceEq, Int.reduceNe, Int.reduceLT, Int.reduceLE, Nat.reduceEqDiff, Nat.reduceAdd, reduceIte, reduceCtorEq, Nat.reduceLT, Nat.reduceLeDiff, eq_self, vcP2, Nat.reduceShiftRight, Nat.reduceMod]
  refine callS_of hT1 ?_
  simp only [vcV, vcD, Int.reduceEq, Int.reduceNe, Int.reduceLT, Int.reduceLE, Nat.reduceEqDiff, Nat.reduceAdd, reduceIte, reduceCtorEq, Nat.reduceLT, Nat.reduceLeDiff, eq_self, vcP2, Nat.reduceShiftRight, Nat.reduceMod]
  (repeat (with_reducible refine And.intro ?_ ?_; focus (first | omega | (unfold I64; omega))))
  refine callS_of hW2 ?_
  simp only [vcV, vcD, Int.reduceEq, Int.reduceNe, Int.reduceLT, Int.reduceLE, Nat.reduceEqDiff, Nat.reduceAdd, reduceIte, reduceCtorEq, Nat.reduceLT, Nat.reduceLeDiff, eq_self, vcP2, Nat.reduceShiftRight, Nat.reduceMod]
  refine callS_of hT2 ?_
  simp only [vcV, vcD, Int.reduceEq, Int.reduceNe, Int.reduceLT, Int.reduceLE, Nat.reduceEqDiff, Nat.reduceAdd, reduceIte, reduceCtorEq, Nat.reduceLT, Nat.reduceLeDiff, eq_self, vcP2, Nat.reduceShiftRight, Nat.reduceMod]
  refine callS_of hL ?_
  simp only [hk, hE, vcV, vcD, Int.reduceEq, Int.reduceNe, Int.reduceLT, Int.reduceLE, Nat.reduceEqDiff, Nat.reduceAdd, reduceIte, reduceCtorEq, Nat.reduceLT, Nat.reduceLeDiff, eq_self, vcP2, Nat.reduceShiftRight, Nat.reduceMod]
end Go.Proofs.YtgmpcbpmnimkoaaGreatDoor

/- Contracts of the reference: templates, items, the model, differences. By an AI agent; nothing here is trusted. -/
namespace Go.Proofs.YtgmpcbpmnimkoaaGreatDoor
open Go.Av

theorem few_s (l : List Int) : Sound Tryz.prog 29 [.sl (ints l)] (.bool (decide (l.length ≤ 26))) := by
  refine sound_W f_law02_few (Nat.le_of_ble_eq_true rfl) ?_
  simp only [c_law02_few, vcV, vcD, Int.reduceEq, Int.reduceNe, Int.reduceLT, Int.reduceLE, Nat.reduceEqDiff, Nat.reduceAdd, reduceIte, reduceCtorEq, Nat.reduceLT, Nat.reduceLeDiff, eq_self, vcP2, Nat.reduceShiftRight, Nat.reduceMod]
  exact bool_eq (by omega)
theorem fewItems_s (items : List Int) (shifts : Int) : Sound Tryz.prog 30 [tplA items shifts] (.bool (decide (items.length ≤ 8))) := by
  refine sound_W f_law02_fewItems (Nat.le_of_ble_eq_true rfl) ?_
  simp only [c_law02_fewItems, tplA, vcV, vcD, Int.reduceEq, Int.reduceNe, Int.reduceLT, Int.reduceLE, Nat.reduceEqDiff, Nat.reduceAdd, reduceIte, reduceCtorEq, Nat.reduceLT, Nat.reduceLeDiff, eq_self, vcP2, Nat.reduceShiftRight, Nat.reduceMod]
  exact bool_eq (by omega)
theorem CopyTemplate_s (items : List Int) (shifts : Int) (hl : items.length ≤ 1000000000) : Sound Tryz.prog 15 [tplA items shifts] (tplA items shifts) := by
  refine sound_W f_ref02_CopyTemplate (Nat.le_of_ble_eq_true rfl) ?_
  simp only [c_ref02_CopyTemplate, tplA, vcV, vcD, Int.reduceEq, Int.reduceNe, Int.reduceLT, Int.reduceLE, Nat.reduceEqDiff, Nat.reduceAdd, reduceIte, reduceCtorEq, Nat.reduceLT, Nat.reduceLeDiff, eq_self, vcP2, Nat.reduceShiftRight, Nat.reduceMod]
  refine callS_of (CopyInts_s items hl) ?_
  simp only [vcV, vcD, Int.reduceEq, Int.reduceNe, Int.reduceLT, Int.reduceLE, Nat.reduceEqDiff, Nat.reduceAdd, reduceIte, reduceCtorEq, Nat.reduceLT, Nat.reduceLeDiff, eq_self, vcP2, Nat.reduceShiftRight, Nat.reduceMod]
theorem TemplateErr_s (items : List Int) (shifts : Int) : Sound Tryz.prog 32 [tplA items shifts] (.int .i64 (teE items shifts)) := by
  refine sound_W f_ref02_TemplateErr (Nat.le_of_ble_eq_true rfl) ?_
  by_cases h0 : items.length = 0
  · have he : teE items shifts = 10 := by unfold teE; rw [if_pos h0]
    have h0' : (items.length : Int) = 0 := by omega
    rw [he]
    simp only [c_ref02_TemplateErr, tplA, h0', vcV, vcD, Int.reduceEq, Int.reduceNe, Int.reduceLT, Int.reduceLE, Nat.reduceEqDiff, Nat.reduceAdd, reduceIte, reduceCtorEq, Nat.reduceLT, Nat.reduceLeDiff, eq_self, vcP2, Nat.reduceShiftRight, Nat.reduceMod]
  have h0' : ¬ (items.length : Int) = 0 := by omega
  by_cases h6 : 6 < items.length
  · have he : teE items shifts = 8 := by unfold teE; rw [if_neg h0, if_pos h6]
    have h6' : (6 : Int) < items.length := by omega
    rw [he]
    simp only [c_ref02_TemplateErr, tplA, h0', h6', vcV, vcD, Int.reduceEq, Int.reduceNe, Int.reduceLT, Int.reduceLE, Nat.reduceEqDiff, Nat.reduceAdd, reduceIte, reduceCtorEq, Nat.reduceLT, Nat.reduceLeDiff, eq_self, vcP2, Nat.reduceShiftRight, Nat.reduceMod]
  have h6' : ¬ (6 : Int) < items.length := by omega
  simp only [c_ref02_TemplateErr, tplA, h0', h6', vcV, vcD, Int.reduceEq, Int.reduceNe, Int.reduceLT, Int.reduceLE, Nat.reduceEqDiff, Nat.reduceAdd, reduceIte, reduceCtorEq, Nat.reduceLT, Nat.reduceLeDiff, eq_self, vcP2, Nat.reduceShiftRight, Nat.reduceMod]
  refine W_loop (t := .mk) (α := PSigma fun i : Nat => i ≤ items.length ∧ (items.take i).all itm = true) (fun ⟨i, _⟩ => (envOf [(1, .ptr 1 0 0), (3, .bool ((items.take i).all fun n => decide (n = 0))), (4, .int .i64 i)], stOf [(1, ⟨24, 2, [.agg [.sl (ints items), .int .i64 shifts]]⟩)])) (fun p => items.length - p.1) ⟨0, Nat.zero_le _, rfl⟩ ?_ (fun ⟨i, hi, hn⟩ => ?_)
  · refine weakX [] (of_decide_eq_true rfl) (of_decide_eq_true rfl) ?_
    (simp only [vcW, vcV, vcD, Int.reduceEq, Int.reduceNe, Int.reduceLT, Int.reduceLE, Nat.reduceEqDiff, Nat.reduceAdd, reduceIte, reduceCtorEq, Nat.reduceLT, Nat.reduceLeDiff, eq_self, vcP2, Nat.reduceShiftRight, Nat.reduceMod])
    (repeat' first | exact trivial | (with_reducible exact RnB.fxB (ints_fxB _)) | (with_reducible rfl) | (with_reducible refine And.intro ?_ ?_) | (with_reducible refine RnB.bb ?_; simp only [vcW, vcV, vcD, Int.reduceEq, Int.reduceNe, Int.reduceLT, Int.reduceLE, Nat.reduceEqDiff, Nat.reduceAdd, reduceIte, reduceCtorEq, Nat.reduceLT, Nat.reduceLeDiff, eq_self, vcP2, Nat.reduceShiftRight, Nat.reduceMod]) | (with_reducible refine RnB.nb ?_; simp only [vcW, vcV, vcD, Int.reduceEq, Int.reduceNe, Int.reduceLT, Int.reduceLE, Nat.reduceEqDiff, Nat.reduceAdd, reduceIte, reduceCtorEq, Nat.reduceLT, Nat.reduceLeDiff, eq_self, vcP2, Nat.reduceShiftRight, Nat.reduceMod]) | (with_reducible refine RnB.ii ?_) | (with_reducible refine RnB.app ?_) | (with_reducible refine RnB.fxB ?_; simp only [vcW, vcV, vcD, Int.reduceEq, Int.reduceNe, Int.reduceLT, Int.reduceLE, Nat.reduceEqDiff, Nat.reduceAdd, reduceIte, reduceCtorEq, Nat.reduceLT, Nat.reduceLeDiff, eq_self, vcP2, Nat.reduceShiftRight, Nat.reduceMod]) | omega)
  · dsimp only at hi hn ⊢
    by_cases h' : i < items.length
    · have h3 : (i : Int) < items.length := by omega
      have ht : ∀ p : Int → Bool, (items.take (i + 1)).all p = ((items.take i).all p && p items[i]) := fun p => by rw [List.take_succ_eq_append_getElem h', List.all_append]; simp
      by_cases hw : -100 ≤ items[i] ∧ items[i] ≤ 100
      · have hitm : itm items[i] = true := by unfold itm; simpa using hw
        cases hz : (items.take i).all fun n => decide (n = 0)
        all_goals
          have hz1 := ht fun n => decide (n = 0)
          rw [hz] at hz1
          try rw [Bool.true_and] at hz1
          try rw [Bool.false_and] at hz1
          simp only [h3, ints_get items i h', vcV, vcD, Int.reduceEq, Int.reduceNe, Int.reduceLT, Int.reduceLE, Nat.reduceEqDiff, Nat.reduceAdd, reduceIte, reduceCtorEq, Nat.reduceLT, Nat.reduceLeDiff, eq_self, vcP2, Nat.reduceShiftRight, Nat.reduceMod]
          (repeat (with_reducible refine And.intro ?_ ?_; focus (first | omega | (unfold I64; omega))))
          refine callS_of (Within_s _ _ _) ?_
          simp only [hw, ints_get items i h', vcV, vcD, Int.reduceEq, Int.reduceNe, Int.reduceLT, Int.reduceLE, Nat.reduceEqDiff, Nat.reduceAdd, reduceIte, reduceCtorEq, Nat.reduceLT, Nat.reduceLeDiff, eq_self, vcP2, Nat.reduceShiftRight, Nat.reduceMod]
          (repeat (with_reducible refine And.intro ?_ ?_; focus (first | omega | (unfold I64; omega))))
          refine ⟨⟨i + 1, h', by rw [ht, hn, hitm]; rfl⟩, by simp only; omega, ?_⟩
          refine weakX [] (of_decide_eq_true rfl) (of_decide_eq_true rfl) ?_
          (simp only [hz1, vcW, vcV, vcD, Int.reduceEq, Int.reduceNe, Int.reduceLT, Int.reduceLE, Nat.reduceEqDiff, Nat.reduceAdd, reduceIte, reduceCtorEq, Nat.reduceLT, Nat.reduceLeDiff, eq_self, vcP2, Nat.reduceShiftRight, Nat.reduceMod])
          (repeat' first | exact trivial | (with_reducible exact RnB.fxB (ints_fxB _)) | (with_reducible rfl) | (with_reducible refine And.intro ?_ ?_) | (with_reducible refine RnB.bb ?_; simp only [vcW, vcV, vcD, Int.reduceEq, Int.reduceNe, Int.reduceLT, Int.reduceLE, Nat.reduceEqDiff, Nat.reduceAdd, reduceIte, reduceCtorEq, Nat.reduceLT, Nat.reduceLeDiff, eq_self, vcP2, Nat.reduceShiftRight, Nat.reduceMod]) | (with_reducible refine RnB.nb ?_; simp only [vcW, vcV, vcD, Int.reduceEq, Int.reduceNe, Int.reduceLT, Int.reduceLE, Nat.reduceEqDiff, Nat.reduceAdd, reduceIte, reduceCtorEq, Nat.reduceLT, Nat.reduceLeDiff, eq_self, vcP2, Nat.reduceShiftRight, Nat.reduceMod]) | (with_reducible refine RnB.ii ?_) | (with_reducible refine RnB.app ?_) | (with_reducible refine RnB.fxB ?_; simp only [vcW, vcV, vcD, Int.reduceEq, Int.reduceNe, Int.reduceLT, Int.reduceLE, Nat.reduceEqDiff, Nat.reduceAdd, reduceIte, reduceCtorEq, Nat.reduceLT, Nat.reduceLeDiff, eq_self, vcP2, Nat.reduceShiftRight, Nat.reduceMod]) | omega)
      · have hitm : itm items[i] = false := by unfold itm; simpa using hw
        have he : teE items shifts = 2 := by
          unfold teE
          rw [if_neg h0, if_neg h6, if_pos]
          rw [List.all_eq_false]
          exact ⟨items[i], List.getElem_mem h', by rw [hitm]; decide⟩
        simp only [h3, ints_get items i h', vcV, vcD, Int.reduceEq, Int.reduceNe, Int.reduceLT, Int.reduceLE, Nat.reduceEqDiff, Nat.reduceAdd, reduceIte, reduceCtorEq, Nat.reduceLT, Nat.reduceLeDiff, eq_self, vcP2, Nat.reduceShiftRight, Nat.reduceMod]
        (repeat (with_reducible refine And.intro ?_ ?_; focus (first | omega | (unfold I64; omega))))
        refine callS_of (Within_s _ _ _) ?_
        simp only [hw, he, vcV, vcD, Int.reduceEq, Int.reduceNe, Int.reduceLT, Int.reduceLE, Nat.reduceEqDiff, Nat.reduceAdd, reduceIte, reduceCtorEq, Nat.reduceLT, Nat.reduceLeDiff, eq_self, vcP2, Nat.reduceShiftRight, Nat.reduceMod]
    · have h3 : ¬ (i : Int) < items.length := by omega
      have hil : i = items.length := by omega
      subst hil
      rw [List.take_length] at *
      cases hz : items.all fun n => decide (n = 0)
      · simp only [h3, vcV, vcD, Int.reduceEq, Int.reduceNe, Int.reduceLT, Int.reduceLE, Nat.reduceEqDiff, Nat.reduceAdd, reduceIte, reduceCtorEq, Nat.reduceLT, Nat.reduceLeDiff, eq_self, vcP2, Nat.reduceShiftRight, Nat.reduceMod]
        refine callS_of (Within_s _ _ _) ?_
        by_cases hs : 1 ≤ shifts ∧ shifts ≤ 5
        · have he : teE items shifts = 0 := by unfold teE; rw [if_neg h0, if_neg h6, if_neg (by rw [hn]; decide), if_neg (by rw [hz]; decide), if_pos hs]
          simp only [hs, he, vcV, vcD, Int.reduceEq, Int.reduceNe, Int.reduceLT, Int.reduceLE, Nat.reduceEqDiff, Nat.reduceAdd, reduceIte, reduceCtorEq, Nat.reduceLT, Nat.reduceLeDiff, eq_self, vcP2, Nat.reduceShiftRight, Nat.reduceMod]
        · have he : teE items shifts = 2 := by unfold teE; rw [if_neg h0, if_neg h6, if_neg (by rw [hn]; decide), if_neg (by rw [hz]; decide), if_neg hs]
          simp only [hs, he, vcV, vcD, Int.reduceEq, Int.reduceNe, Int.reduceLT, Int.reduceLE, Nat.reduceEqDiff, Nat.reduceAdd, reduceIte, reduceCtorEq, Nat.reduceLT, Nat.reduceLeDiff, eq_self, vcP2, Nat.reduceShiftRight, Nat.reduceMod]
      · have he : teE items shifts = 11 := by unfold teE; rw [if_neg h0, if_neg h6, if_neg (by rw [hn]; decide), if_pos hz]
        simp only [h3, he, vcV, vcD, Int.reduceEq, Int.reduceNe, Int.reduceLT, Int.reduceLE, Nat.reduceEqDiff, Nat.reduceAdd, reduceIte, reduceCtorEq, Nat.reduceLT, Nat.reduceLeDiff, eq_self, vcP2, Nat.reduceShiftRight, Nat.reduceMod]
theorem FittedErr_s (items : List Int) (shifts : Int) (l : List Int) : Sound Tryz.prog 12 [tplA items shifts, .sl (ints l)] (.int .i64 (fdE items shifts l)) := by
  refine sound_W f_ref02_FittedErr (Nat.le_of_ble_eq_true rfl) ?_
  have hT := TemplateErr_s items shifts
  unfold tplA at hT
  simp only [c_ref02_FittedErr, tplA, vcV, vcD, Int.reduceEq, Int.reduceNe, Int.reduceLT, Int.reduceLE, Nat.reduceEqDiff, Nat.reduceAdd, reduceIte, reduceCtorEq, Nat.reduceLT, Nat.reduceLeDiff, eq_self, vcP2, Nat.reduceShiftRight, Nat.reduceMod]
  refine callS_of hT ?_
  by_cases h1 : teE items shifts = 0
  case neg =>
    have he : fdE items shifts l = teE items shifts := by unfold fdE; rw [if_pos h1]
    simp only [h1, he, vcV, vcD, Int.reduceEq, Int.reduceNe, Int.reduceLT, Int.reduceLE, Nat.reduceEqDiff, Nat.reduceAdd, reduceIte, reduceCtorEq, Nat.reduceLT, Nat.reduceLeDiff, eq_self, vcP2, Nat.reduceShiftRight, Nat.reduceMod]
  simp only [h1, vcV, vcD, Int.reduceEq, Int.reduceNe, Int.reduceLT, Int.reduceLE, Nat.reduceEqDiff, Nat.reduceAdd, reduceIte, reduceCtorEq, Nat.reduceLT, Nat.reduceLeDiff, eq_self, vcP2, Nat.reduceShiftRight, Nat.reduceMod]
  refine callS_of (SamplesErr_s l) ?_
  by_cases h2 : smE l = 0
  case neg =>
    have he : fdE items shifts l = smE l := by unfold fdE; rw [if_neg (by omega), if_pos h2]
    simp only [h2, he, vcV, vcD, Int.reduceEq, Int.reduceNe, Int.reduceLT, Int.reduceLE, Nat.reduceEqDiff, Nat.reduceAdd, reduceIte, reduceCtorEq, Nat.reduceLT, Nat.reduceLeDiff, eq_self, vcP2, Nat.reduceShiftRight, Nat.reduceMod]
  obtain ⟨⟨a1, a2⟩, _, _, a3⟩ := teE_ok h1
  by_cases h3 : (l.length : Int) = shifts + items.length - 1
  · have he : fdE items shifts l = 0 := by unfold fdE; rw [if_neg (by omega), if_neg (by omega), if_pos h3]
    simp only [h2, ← h3, he, vcV, vcD, Int.reduceEq, Int.reduceNe, Int.reduceLT, Int.reduceLE, Nat.reduceEqDiff, Nat.reduceAdd, reduceIte, reduceCtorEq, Nat.reduceLT, Nat.reduceLeDiff, eq_self, vcP2, Nat.reduceShiftRight, Nat.reduceMod]
    (repeat (with_reducible refine And.intro ?_ ?_; focus (first | omega | (unfold I64; omega))))
    all_goals (unfold I64; omega)
  · have he : fdE items shifts l = 13 := by unfold fdE; rw [if_neg (by omega), if_neg (by omega), if_neg h3]
    simp only [h2, h3, he, vcV, vcD, Int.reduceEq, Int.reduceNe, Int.reduceLT, Int.reduceLE, Nat.reduceEqDiff, Nat.reduceAdd, reduceIte, reduceCtorEq, Nat.reduceLT, Nat.reduceLeDiff, eq_self, vcP2, Nat.reduceShiftRight, Nat.reduceMod]
    (repeat (with_reducible refine And.intro ?_ ?_; focus (first | omega | (unfold I64; omega))))
    all_goals (unfold I64; omega)

def itI (items : List Int) (z : Int) : Int := if 0 ≤ z ∧ z ≤ (items.length : Int) - 1 then items.getD z.toNat 0 else 0
theorem itI_nat (items : List Int) (n k : Nat) : itI items ((n : Int) - k) = Lin.itm items n k := by
  unfold itI Lin.itm
  by_cases h : k ≤ n ∧ n - k < items.length
  · rw [if_pos h, if_pos (by omega)]; congr 1; omega
  · rw [if_neg h, if_neg (by omega)]
theorem item_s (items : List Int) (shifts z : Int) (hl : items.length < 1000000) : Sound Tryz.prog 97 [tplA items shifts, .int .i64 z] (.int .i64 (itI items z)) := by
  refine sound_W f_ref02_item (Nat.le_of_ble_eq_true rfl) ?_
  simp only [c_ref02_item, tplA, vcV, vcD, Int.reduceEq, Int.reduceNe, Int.reduceLT, Int.reduceLE, Nat.reduceEqDiff, Nat.reduceAdd, reduceIte, reduceCtorEq, Nat.reduceLT, Nat.reduceLeDiff, eq_self, vcP2, Nat.reduceShiftRight, Nat.reduceMod]
  (repeat (with_reducible refine And.intro ?_ ?_; focus (first | omega | (unfold I64; omega))))
  refine callS_of (Within_s _ _ _) ?_
  by_cases h : 0 ≤ z ∧ z ≤ (items.length : Int) - 1
  · have hz : z.toNat < items.length := by omega
    have he : itI items z = items[z.toNat] := by unfold itI; rw [if_pos h, getD_at hz]
    simp only [h, ints_get items z.toNat hz, he, vcV, vcD, Int.reduceEq, Int.reduceNe, Int.reduceLT, Int.reduceLE, Nat.reduceEqDiff, Nat.reduceAdd, reduceIte, reduceCtorEq, Nat.reduceLT, Nat.reduceLeDiff, eq_self, vcP2, Nat.reduceShiftRight, Nat.reduceMod]
  · have he : itI items z = 0 := by unfold itI; rw [if_neg h]
    simp only [h, he, vcV, vcD, Int.reduceEq, Int.reduceNe, Int.reduceLT, Int.reduceLE, Nat.reduceEqDiff, Nat.reduceAdd, reduceIte, reduceCtorEq, Nat.reduceLT, Nat.reduceLeDiff, eq_self, vcP2, Nat.reduceShiftRight, Nat.reduceMod]
end Go.Proofs.YtgmpcbpmnimkoaaGreatDoor

/- Contracts of the reference: the model, differences, the accepted fit, squares. By an AI agent; nothing here is trusted. -/
namespace Go.Proofs.YtgmpcbpmnimkoaaGreatDoor
open Go.Av

theorem mdT_itm (items ch : List Int) (n k : Nat) : mdT items ch n (k + 1) = mdT items ch n k + ch.getD k 0 * Lin.itm items n k := by
  rw [mdT]
  unfold Lin.itm
  split
  · rfl
  · rw [Int.mul_zero]
theorem itm_bd {items : List Int} (hi : ∀ x ∈ items, -100 ≤ x ∧ x ≤ 100) (n k : Nat) : -100 ≤ Lin.itm items n k ∧ Lin.itm items n k ≤ 100 := by
  unfold Lin.itm
  split
  · exact it_bd hi _
  · omega
theorem itm_lo {items : List Int} {n k : Nat} (h : n < k) : Lin.itm items n k = 0 := by unfold Lin.itm; rw [if_neg (by omega)]
theorem itm_hi {items : List Int} {n k : Nat} (h : k + items.length ≤ n) : Lin.itm items n k = 0 := by unfold Lin.itm; rw [if_neg (by omega)]
theorem ag_sum (items l : List Int) (k : Nat) : ∀ N, Lin.smI N (fun n => l.getD n 0 * Lin.itm items n k) = if N ≤ k then 0 else if N ≤ k + items.length then agT items l k (N - k) else agT items l k items.length
  | 0 => by rw [if_pos (by omega)]; rfl
  | N + 1 => by
    rw [Lin.smI, ag_sum items l k N]
    by_cases h1 : N < k
    · rw [if_pos (by omega), if_pos (by omega), itm_lo h1]; omega
    · by_cases h2 : N < k + items.length
      · rw [if_neg (show ¬ N + 1 ≤ k by omega), if_pos (show N + 1 ≤ k + items.length by omega), show N + 1 - k = (N - k) + 1 by omega, agT]
        have e : l.getD N 0 * Lin.itm items N k = items.getD (N - k) 0 * l.getD (k + (N - k)) 0 := by
          unfold Lin.itm; rw [if_pos ⟨by omega, by omega⟩, Int.mul_comm, show k + (N - k) = N by omega]
        rw [e]
        congr 1
        by_cases h3 : N ≤ k
        · rw [if_pos h3, show N - k = 0 by omega]; rfl
        · rw [if_neg h3, if_pos (by omega)]
      · rw [if_neg (show ¬ N + 1 ≤ k by omega), if_neg (show ¬ N + 1 ≤ k + items.length by omega), itm_hi (by omega), Int.mul_zero, Int.add_zero]
        by_cases h3 : N ≤ k
        · have : items.length = 0 := by omega
          rw [if_pos h3, this]; rfl
        · rw [if_neg h3]
          by_cases h4 : N ≤ k + items.length
          · rw [if_pos h4]; congr 1; omega
          · rw [if_neg h4]
theorem mdA_eq (items ch : List Int) : mdA items ch = (List.range (mdA items ch).length).map fun n => mdT items ch n ch.length := by
  apply List.ext_getElem
  · simp
  · intro n h1 h2; rw [mdA_get]; simp
def mdU (items ch : List Int) (n : Nat) : List Int := (List.range n).map fun n => mdT items ch n ch.length
theorem mdU_succ (items ch : List Int) (n : Nat) : mdU items ch (n + 1) = mdU items ch n ++ [mdT items ch n ch.length] := by unfold mdU; rw [List.range_succ, List.map_append]; rfl
theorem mdU_len (items ch : List Int) (n : Nat) : (mdU items ch n).length = n := by simp [mdU]
set_option maxHeartbeats 2000000 in
theorem Model_o {items ch : List Int} {shifts : Int} {C : Int} (h1 : 1 ≤ items.length) (h6 : items.length ≤ 6) (hs : (ch.length : Int) = shifts) (h8 : 1 ≤ ch.length ∧ ch.length ≤ 8) (hC : 0 ≤ C ∧ C ≤ 1000000000000) (hi : ∀ x ∈ items, -100 ≤ x ∧ x ≤ 100) (hc : ∀ x ∈ ch, -C ≤ x ∧ x ≤ C) :
    SoundO Tryz.prog 18 [tplA items shifts, .sl (ints ch)] 3 1 (ints (mdA items ch)) := by
  refine soundO_W f_ref02_Model (Nat.le_of_ble_eq_true rfl) (by decide) ?_
  subst hs
  have hmax := maxLen_big
  have hb : ∀ n k : Nat, k ≤ 8 → -900000000000000 ≤ mdT items ch n k ∧ mdT items ch n k ≤ 900000000000000 := fun n k hk => by
    have h := mdT_bd hC.1 hi hc n k
    have h2 : 100 * C * (k : Int) ≤ 100000000000000 * 8 := Int.mul_le_mul (by omega) (by omega) (by omega) (by omega)
    omega
  obtain ⟨M, hM⟩ : ∃ M, M = ch.length + items.length - 1 := ⟨_, rfl⟩
  have hMi : (ch.length : Int) + items.length - 1 = (M : Int) := by omega
  simp only [c_ref02_Model, tplA, vcV, vcD, Int.reduceEq, Int.reduceNe, Int.reduceLT, Int.reduceLE, Nat.reduceEqDiff, Nat.reduceAdd, reduceIte, reduceCtorEq, Nat.reduceLT, Nat.reduceLeDiff, eq_self, vcP2, Nat.reduceShiftRight, Nat.reduceMod]
  refine W_loop (t := .mk) (α := PSigma fun i : Nat => i ≤ M) (fun ⟨i, _⟩ => (envOf [(1, .sl (ints ch)), (2, .ptr 2 0 0), (5, .buf 100 i), (6, .int .i64 i)], stOf [(2, ⟨24, 2, [.agg [.sl (ints items), .int .i64 ch.length]]⟩), (100, ⟨3, 1, ints (mdU items ch i)⟩)])) (fun x => M - x.1) ⟨0, Nat.zero_le _⟩ ?_ (fun ⟨i, hin⟩ => ?_)
  · have z : ints (mdU items ch 0) = [] := rfl
    refine weakX [(100, none)] (of_decide_eq_true rfl) (of_decide_eq_true rfl) ?_
    (simp only [z, vcW, vcV, vcD, Int.reduceEq, Int.reduceNe, Int.reduceLT, Int.reduceLE, Nat.reduceEqDiff, Nat.reduceAdd, reduceIte, reduceCtorEq, Nat.reduceLT, Nat.reduceLeDiff, eq_self, vcP2, Nat.reduceShiftRight, Nat.reduceMod])
    (repeat' first | exact trivial | (with_reducible exact RnB.fxB (ints_fxB _)) | (with_reducible rfl) | (with_reducible refine And.intro ?_ ?_) | (with_reducible refine RnB.bb ?_; simp only [vcW, vcV, vcD, Int.reduceEq, Int.reduceNe, Int.reduceLT, Int.reduceLE, Nat.reduceEqDiff, Nat.reduceAdd, reduceIte, reduceCtorEq, Nat.reduceLT, Nat.reduceLeDiff, eq_self, vcP2, Nat.reduceShiftRight, Nat.reduceMod]) | (with_reducible refine RnB.nb ?_; simp only [vcW, vcV, vcD, Int.reduceEq, Int.reduceNe, Int.reduceLT, Int.reduceLE, Nat.reduceEqDiff, Nat.reduceAdd, reduceIte, reduceCtorEq, Nat.reduceLT, Nat.reduceLeDiff, eq_self, vcP2, Nat.reduceShiftRight, Nat.reduceMod]) | (with_reducible refine RnB.ii ?_) | (with_reducible refine RnB.app ?_) | (with_reducible refine RnB.fxB ?_; simp only [vcW, vcV, vcD, Int.reduceEq, Int.reduceNe, Int.reduceLT, Int.reduceLE, Nat.reduceEqDiff, Nat.reduceAdd, reduceIte, reduceCtorEq, Nat.reduceLT, Nat.reduceLeDiff, eq_self, vcP2, Nat.reduceShiftRight, Nat.reduceMod]) | omega)
  · dsimp only at hin ⊢
    have hlU := mdU_len items ch i
    by_cases h' : i < M
    · have hc1 : (i : Int) < M := by omega
      simp only [hMi, hc1, vcV, vcD, Int.reduceEq, Int.reduceNe, Int.reduceLT, Int.reduceLE, Nat.reduceEqDiff, Nat.reduceAdd, reduceIte, reduceCtorEq, Nat.reduceLT, Nat.reduceLeDiff, eq_self, vcP2, Nat.reduceShiftRight, Nat.reduceMod]
      (repeat (with_reducible refine And.intro ?_ ?_; focus (first | omega | (unfold I64; omega))))
      refine W_loop (t := .mk) (α := PSigma fun k : Nat => k ≤ ch.length) (fun ⟨k, _⟩ => (envOf [(1, .sl (ints ch)), (2, .ptr 2 0 0), (5, .buf 100 i), (6, .int .i64 i), (7, .int .i64 (mdT items ch i k)), (8, .int .i64 k)], stOf [(2, ⟨24, 2, [.agg [.sl (ints items), .int .i64 ch.length]]⟩), (100, ⟨3, 1, ints (mdU items ch i)⟩)])) (fun x => ch.length - x.1) ⟨0, Nat.zero_le _⟩ ?_ (fun ⟨k, hk⟩ => ?_)
      · have z : mdT items ch i 0 = 0 := rfl
        refine weakX [(100, some 100)] (of_decide_eq_true rfl) (of_decide_eq_true rfl) ?_
        (simp only [z, vcW, vcV, vcD, Int.reduceEq, Int.reduceNe, Int.reduceLT, Int.reduceLE, Nat.reduceEqDiff, Nat.reduceAdd, reduceIte, reduceCtorEq, Nat.reduceLT, Nat.reduceLeDiff, eq_self, vcP2, Nat.reduceShiftRight, Nat.reduceMod])
        (repeat' first | exact trivial | (with_reducible exact RnB.fxB (ints_fxB _)) | (with_reducible rfl) | (with_reducible refine And.intro ?_ ?_) | (with_reducible refine RnB.bb ?_; simp only [vcW, vcV, vcD, Int.reduceEq, Int.reduceNe, Int.reduceLT, Int.reduceLE, Nat.reduceEqDiff, Nat.reduceAdd, reduceIte, reduceCtorEq, Nat.reduceLT, Nat.reduceLeDiff, eq_self, vcP2, Nat.reduceShiftRight, Nat.reduceMod]) | (with_reducible refine RnB.nb ?_; simp only [vcW, vcV, vcD, Int.reduceEq, Int.reduceNe, Int.reduceLT, Int.reduceLE, Nat.reduceEqDiff, Nat.reduceAdd, reduceIte, reduceCtorEq, Nat.reduceLT, Nat.reduceLeDiff, eq_self, vcP2, Nat.reduceShiftRight, Nat.reduceMod]) | (with_reducible refine RnB.ii ?_) | (with_reducible refine RnB.app ?_) | (with_reducible refine RnB.fxB ?_; simp only [vcW, vcV, vcD, Int.reduceEq, Int.reduceNe, Int.reduceLT, Int.reduceLE, Nat.reduceEqDiff, Nat.reduceAdd, reduceIte, reduceCtorEq, Nat.reduceLT, Nat.reduceLeDiff, eq_self, vcP2, Nat.reduceShiftRight, Nat.reduceMod]) | omega)
      · dsimp only at hk ⊢
        by_cases h2 : k < ch.length
        · have hc2 : (k : Int) < ch.length := by omega
          have hI := item_s items (ch.length : Int) ((i : Int) - k) (by omega)
          rw [itI_nat] at hI
          unfold tplA at hI
          have hn := mdT_itm items ch i k
          rw [getD_at h2] at hn
          have b1 := hb i k (by omega)
          have b2 := hb i (k + 1) (by omega)
          have b3 := itm_bd hi i k
          have b4 := hc ch[k] (List.getElem_mem h2)
          have b5 := prod_bd hC.1 b3 b4
          rw [Int.mul_comm (Lin.itm items i k)] at b5
          simp only [hc2, ints_get ch k h2, vcV, vcD, Int.reduceEq, Int.reduceNe, Int.reduceLT, Int.reduceLE, Nat.reduceEqDiff, Nat.reduceAdd, reduceIte, reduceCtorEq, Nat.reduceLT, Nat.reduceLeDiff, eq_self, vcP2, Nat.reduceShiftRight, Nat.reduceMod]
          (repeat (with_reducible refine And.intro ?_ ?_; focus (first | omega | (unfold I64; omega))))
          refine callS_of hI ?_
          simp only [vcV, vcD, Int.reduceEq, Int.reduceNe, Int.reduceLT, Int.reduceLE, Nat.reduceEqDiff, Nat.reduceAdd, reduceIte, reduceCtorEq, Nat.reduceLT, Nat.reduceLeDiff, eq_self, vcP2, Nat.reduceShiftRight, Nat.reduceMod]
          (repeat (with_reducible refine And.intro ?_ ?_; focus (first | omega | (unfold I64; omega))))
          refine ⟨⟨k + 1, h2⟩, by simp only; omega, ?_⟩
          refine weakX [(100, some 100)] (of_decide_eq_true rfl) (of_decide_eq_true rfl) ?_
          (simp only [hn, vcW, vcV, vcD, Int.reduceEq, Int.reduceNe, Int.reduceLT, Int.reduceLE, Nat.reduceEqDiff, Nat.reduceAdd, reduceIte, reduceCtorEq, Nat.reduceLT, Nat.reduceLeDiff, eq_self, vcP2, Nat.reduceShiftRight, Nat.reduceMod])
          (repeat' first | exact trivial | (with_reducible exact RnB.fxB (ints_fxB _)) | (with_reducible rfl) | (with_reducible refine And.intro ?_ ?_) | (with_reducible refine RnB.bb ?_; simp only [vcW, vcV, vcD, Int.reduceEq, Int.reduceNe, Int.reduceLT, Int.reduceLE, Nat.reduceEqDiff, Nat.reduceAdd, reduceIte, reduceCtorEq, Nat.reduceLT, Nat.reduceLeDiff, eq_self, vcP2, Nat.reduceShiftRight, Nat.reduceMod]) | (with_reducible refine RnB.nb ?_; simp only [vcW, vcV, vcD, Int.reduceEq, Int.reduceNe, Int.reduceLT, Int.reduceLE, Nat.reduceEqDiff, Nat.reduceAdd, reduceIte, reduceCtorEq, Nat.reduceLT, Nat.reduceLeDiff, eq_self, vcP2, Nat.reduceShiftRight, Nat.reduceMod]) | (with_reducible refine RnB.ii ?_) | (with_reducible refine RnB.app ?_) | (with_reducible refine RnB.fxB ?_; simp only [vcW, vcV, vcD, Int.reduceEq, Int.reduceNe, Int.reduceLT, Int.reduceLE, Nat.reduceEqDiff, Nat.reduceAdd, reduceIte, reduceCtorEq, Nat.reduceLT, Nat.reduceLeDiff, eq_self, vcP2, Nat.reduceShiftRight, Nat.reduceMod]) | omega)
        · have hkl : k = ch.length := by omega
          subst hkl
          have hc2 : ¬ (ch.length : Int) < ch.length := by omega
          have hia : ints (mdU items ch (i + 1)) = ints (mdU items ch i) ++ [.int .i64 (mdT items ch i ch.length)] := by rw [mdU_succ, ints_append]; rfl
          simp only [hc2, ints_length, hlU, vcV, vcD, Int.reduceEq, Int.reduceNe, Int.reduceLT, Int.reduceLE, Nat.reduceEqDiff, Nat.reduceAdd, reduceIte, reduceCtorEq, Nat.reduceLT, Nat.reduceLeDiff, eq_self, vcP2, Nat.reduceShiftRight, Nat.reduceMod]
          (repeat (with_reducible refine And.intro ?_ ?_; focus (first | omega | (unfold I64; omega))))
          refine ⟨⟨i + 1, h'⟩, by simp only; omega, ?_⟩
          refine weakX [(100, some 41)] (of_decide_eq_true rfl) (of_decide_eq_true rfl) ?_
          (simp only [hia, ints_length, hlU, vcW, vcV, vcD, Int.reduceEq, Int.reduceNe, Int.reduceLT, Int.reduceLE, Nat.reduceEqDiff, Nat.reduceAdd, reduceIte, reduceCtorEq, Nat.reduceLT, Nat.reduceLeDiff, eq_self, vcP2, Nat.reduceShiftRight, Nat.reduceMod])
          (repeat' first | exact trivial | (with_reducible exact RnB.fxB (ints_fxB _)) | (with_reducible rfl) | (with_reducible refine And.intro ?_ ?_) | (with_reducible refine RnB.bb ?_; simp only [vcW, vcV, vcD, Int.reduceEq, Int.reduceNe, Int.reduceLT, Int.reduceLE, Nat.reduceEqDiff, Nat.reduceAdd, reduceIte, reduceCtorEq, Nat.reduceLT, Nat.reduceLeDiff, eq_self, vcP2, Nat.reduceShiftRight, Nat.reduceMod]) | (with_reducible refine RnB.nb ?_; simp only [vcW, vcV, vcD, Int.reduceEq, Int.reduceNe, Int.reduceLT, Int.reduceLE, Nat.reduceEqDiff, Nat.reduceAdd, reduceIte, reduceCtorEq, Nat.reduceLT, Nat.reduceLeDiff, eq_self, vcP2, Nat.reduceShiftRight, Nat.reduceMod]) | (with_reducible refine RnB.ii ?_) | (with_reducible refine RnB.app ?_) | (with_reducible refine RnB.fxB ?_; simp only [vcW, vcV, vcD, Int.reduceEq, Int.reduceNe, Int.reduceLT, Int.reduceLE, Nat.reduceEqDiff, Nat.reduceAdd, reduceIte, reduceCtorEq, Nat.reduceLT, Nat.reduceLeDiff, eq_self, vcP2, Nat.reduceShiftRight, Nat.reduceMod]) | omega)
          all_goals first | exact hia.symm | exact RnB.fxB (by rw [← hia]; exact ints_fxB _) | (rw [ints_append]; rfl)
    · have hil : i = M := by omega
      subst hil
      have hc1 : ¬ (i : Int) < i := by omega
      have hE : mdU items ch i = mdA items ch := by
        have hl : (mdA items ch).length = i := by rw [mdA_len]; exact hM.symm
        rw [mdA_eq, hl]; rfl
      have hE2 : i = (ints (mdA items ch)).length := by rw [ints_length, ← hE, mdU_len]
      simp only [hMi, hc1, oEnd_n, oEnd_r, hE, vcV, vcD, Int.reduceEq, Int.reduceNe, Int.reduceLT, Int.reduceLE, Nat.reduceEqDiff, Nat.reduceAdd, reduceIte, reduceCtorEq, Nat.reduceLT, Nat.reduceLeDiff, eq_self, vcP2, Nat.reduceShiftRight, Nat.reduceMod]
      refine ⟨by unfold I64; omega, by unfold I64; omega, ?_⟩
      exact ownV_i 100 i rfl hE2 rfl (Go.Av.ints_imm _)
theorem Off_s {items l : List Int} {shifts : Int} {ch : List Int} {den : Int} (h : FitIn items l shifts ch den) :
    Sound Tryz.prog 129 [tplA items shifts, .sl (ints l), fitA den ch] (.sl (ints (dfL items l ch den))) := by
  refine SoundO.sl (ty := 3) (sz := 1) ?_ (ints_immM _)
  refine soundO_W f_ref02_Off (Nat.le_of_ble_eq_true rfl) (by decide) ?_
  have hm := Model_o h.i1 h.i6 h.cl (by have := h.cl; have := h.s5; omega) (C := 1000000000000) (by omega) h.ib h.cb2
  have hml := h.mlen
  have hl10 := h.l10
  unfold tplA at hm
  have hmax := maxLen_big
  simp only [c_ref02_Off, tplA, fitA, vcV, vcD, Int.reduceEq, Int.reduceNe, Int.reduceLT, Int.reduceLE, Nat.reduceEqDiff, Nat.reduceAdd, reduceIte, reduceCtorEq, Nat.reduceLT, Nat.reduceLeDiff, eq_self, vcP2, Nat.reduceShiftRight, Nat.reduceMod]
  refine callS_own hm rfl ?_
  simp only [ownS_ints, ints_length, hml, vcV, vcD, Int.reduceEq, Int.reduceNe, Int.reduceLT, Int.reduceLE, Nat.reduceEqDiff, Nat.reduceAdd, reduceIte, reduceCtorEq, Nat.reduceLT, Nat.reduceLeDiff, eq_self, vcP2, Nat.reduceShiftRight, Nat.reduceMod]
  rw [← dfK_0 items l ch den]
  refine W_loop (t := .mk) (α := PSigma fun i : Nat => i ≤ l.length) (fun ⟨i, _⟩ => (envOf [(1, .sl (ints l)), (5, .ptr 5 0 0), (7, .buf 100 l.length), (8, .int .i64 i)], stOf [(5, ⟨29, 2, [.agg [.int .i64 den, .sl (ints ch)]]⟩), (100, ⟨3, 1, ints (dfK items l ch den i)⟩)])) (fun x => l.length - x.1) ⟨0, Nat.zero_le _⟩ ?_ (fun ⟨i, hin⟩ => ?_)
  · refine weakX [(100, some 12)] (of_decide_eq_true rfl) (of_decide_eq_true rfl) ?_
    (simp only [vcW, vcV, vcD, Int.reduceEq, Int.reduceNe, Int.reduceLT, Int.reduceLE, Nat.reduceEqDiff, Nat.reduceAdd, reduceIte, reduceCtorEq, Nat.reduceLT, Nat.reduceLeDiff, eq_self, vcP2, Nat.reduceShiftRight, Nat.reduceMod])
    (repeat' first | exact trivial | (with_reducible exact RnB.fxB (ints_fxB _)) | (with_reducible rfl) | (with_reducible refine And.intro ?_ ?_) | (with_reducible refine RnB.bb ?_; simp only [vcW, vcV, vcD, Int.reduceEq, Int.reduceNe, Int.reduceLT, Int.reduceLE, Nat.reduceEqDiff, Nat.reduceAdd, reduceIte, reduceCtorEq, Nat.reduceLT, Nat.reduceLeDiff, eq_self, vcP2, Nat.reduceShiftRight, Nat.reduceMod]) | (with_reducible refine RnB.nb ?_; simp only [vcW, vcV, vcD, Int.reduceEq, Int.reduceNe, Int.reduceLT, Int.reduceLE, Nat.reduceEqDiff, Nat.reduceAdd, reduceIte, reduceCtorEq, Nat.reduceLT, Nat.reduceLeDiff, eq_self, vcP2, Nat.reduceShiftRight, Nat.reduceMod]) | (with_reducible refine RnB.ii ?_) | (with_reducible refine RnB.app ?_) | (with_reducible refine RnB.fxB ?_; simp only [vcW, vcV, vcD, Int.reduceEq, Int.reduceNe, Int.reduceLT, Int.reduceLE, Nat.reduceEqDiff, Nat.reduceAdd, reduceIte, reduceCtorEq, Nat.reduceLT, Nat.reduceLeDiff, eq_self, vcP2, Nat.reduceShiftRight, Nat.reduceMod]) | omega)
  · dsimp only at hin ⊢
    have hlen := dfK_len items l ch den i
    by_cases h' : i < l.length
    · have hc1 : (i : Int) < l.length := by omega
      have hi2 : i < (dfK items l ch den i).length := by omega
      have gw := ints_get (dfK items l ch den i) i hi2
      rw [dfK_at] at gw
      have b1 := h.pb i
      have b2 := h.mb i
      have hst : (ints (dfK items l ch den i)).set i (.int .i64 (l[i] * den - mdT items ch i ch.length)) = ints (dfK items l ch den (i + 1)) := by
        rw [ints_st, ← dfK_set items l ch den (by omega), getD_at h']
      rw [getD_at h'] at b1
      simp only [hc1, ints_get l i h', gw, ints_length, hlen, hml, vcV, vcD, Int.reduceEq, Int.reduceNe, Int.reduceLT, Int.reduceLE, Nat.reduceEqDiff, Nat.reduceAdd, reduceIte, reduceCtorEq, Nat.reduceLT, Nat.reduceLeDiff, eq_self, vcP2, Nat.reduceShiftRight, Nat.reduceMod]
      (repeat (with_reducible refine And.intro ?_ ?_; focus (first | omega | (unfold I64; omega))))
      refine ⟨⟨i + 1, h'⟩, by simp only; omega, ?_⟩
      refine weakX [(100, some 100)] (of_decide_eq_true rfl) (of_decide_eq_true rfl) ?_
      (simp only [vcW, vcV, vcD, Int.reduceEq, Int.reduceNe, Int.reduceLT, Int.reduceLE, Nat.reduceEqDiff, Nat.reduceAdd, reduceIte, reduceCtorEq, Nat.reduceLT, Nat.reduceLeDiff, eq_self, vcP2, Nat.reduceShiftRight, Nat.reduceMod])
      (repeat' first | exact trivial | (with_reducible exact RnB.fxB (ints_fxB _)) | (with_reducible rfl) | (with_reducible refine And.intro ?_ ?_) | (with_reducible refine RnB.bb ?_; simp only [vcW, vcV, vcD, Int.reduceEq, Int.reduceNe, Int.reduceLT, Int.reduceLE, Nat.reduceEqDiff, Nat.reduceAdd, reduceIte, reduceCtorEq, Nat.reduceLT, Nat.reduceLeDiff, eq_self, vcP2, Nat.reduceShiftRight, Nat.reduceMod]) | (with_reducible refine RnB.nb ?_; simp only [vcW, vcV, vcD, Int.reduceEq, Int.reduceNe, Int.reduceLT, Int.reduceLE, Nat.reduceEqDiff, Nat.reduceAdd, reduceIte, reduceCtorEq, Nat.reduceLT, Nat.reduceLeDiff, eq_self, vcP2, Nat.reduceShiftRight, Nat.reduceMod]) | (with_reducible refine RnB.ii ?_) | (with_reducible refine RnB.app ?_) | (with_reducible refine RnB.fxB ?_; simp only [vcW, vcV, vcD, Int.reduceEq, Int.reduceNe, Int.reduceLT, Int.reduceLE, Nat.reduceEqDiff, Nat.reduceAdd, reduceIte, reduceCtorEq, Nat.reduceLT, Nat.reduceLeDiff, eq_self, vcP2, Nat.reduceShiftRight, Nat.reduceMod]) | omega)
      all_goals exact RnB.eq hst (by rw [hst]; exact ints_fxB _)
    · have hil : i = l.length := by omega
      subst hil
      have hc1 : ¬ (l.length : Int) < l.length := by omega
      have hall := dfK_all items l ch den (i := l.length) (by omega)
      have hE : l.length = (ints (dfL items l ch den)).length := by rw [ints_length, dfL_len, hml]
      simp only [hc1, oEnd_n, oEnd_r, hall, vcV, vcD, Int.reduceEq, Int.reduceNe, Int.reduceLT, Int.reduceLE, Nat.reduceEqDiff, Nat.reduceAdd, reduceIte, reduceCtorEq, Nat.reduceLT, Nat.reduceLeDiff, eq_self, vcP2, Nat.reduceShiftRight, Nat.reduceMod]
      exact ownV_i 100 l.length rfl hE rfl (Go.Av.ints_imm _)
end Go.Proofs.YtgmpcbpmnimkoaaGreatDoor

/- Contracts: wide numbers divided, rounded down. By an AI agent; nothing here is trusted. -/
namespace Go.Proofs.YtgmpcbpmnimkoaaGreatDoor
open Go.Av

theorem trim_cons {d : Int} {L : Nat} (hd : 0 ≤ d ∧ d < 1000000000) : trimL (d :: dg L) = dg (d.toNat + 1000000000 * L) := by
  have hok : okD (d :: dg L) := fun x hx => by
    rcases List.mem_cons.1 hx with e | e
    · rw [e]; exact hd
    · exact okD_dg L x e
  rw [trim_dg hok, dVal, dVal_dg]
  congr 1; omega
theorem drop_set_eq {l : List Int} {k : Nat} {x : Int} (h : k < l.length) : (l.set k x).drop k = x :: l.drop (k + 1) := by
  rw [List.drop_eq_getElem_cons (by simpa using h), List.drop_set_of_lt (by omega)]
  simp
theorem floor_step {ai A Q m y L : Int} (h : A = Q * y + L) : ai + 1000000000 * A = (m + 1000000000 * Q) * y + (ai + 1000000000 * L - y * m) := by
  rw [h, Int.mul_add, Int.add_mul, Int.mul_comm m y, Int.mul_assoc]; omega

theorem dg_len_le {a : List Int} {v k : Nat} (va : dVal a = v) (oa : okD a) (h : a.length ≤ k) : (dg v).length ≤ k := by
  have h1 := trim_dg oa
  rw [va] at h1
  have h2 := trimL_le a
  rw [h1] at h2
  exact Nat.le_trans h2 h
set_option maxHeartbeats 8000000 in
theorem WideFloor_s (x : Int) (y : Nat) (hy0 : 0 < y) (hx : wOk 10000 x) (hy : wOk 10000 (y : Int)) : Sound Tryz.prog 112 [wideA x, wideA (y : Int)] (wideA (x / (y : Int))) := by
  refine sound_W f_base_WideFloor (Nat.le_of_ble_eq_true rfl) ?_
  have hr : ∀ v, wideA v = .agg [.int .i64 v.sign, .sl (ints (dg v.natAbs))] := fun _ => rfl
  have hmax := maxLen_big
  by_cases h0 : x = 0
  · subst h0
    have e0 : (0 : Int) / (y : Int) = 0 := Int.zero_ediv _
    have s1 : (0 : Int).sign = 0 := rfl
    have d0 : dg (0 : Int).natAbs = [] := dg_zero
    have i0 : ints [] = [] := rfl
    rw [e0, hr (0 : Int), hr (y : Int), d0, s1, i0]
    simp only [c_base_WideFloor, vcV, vcD, Int.reduceEq, Int.reduceNe, Int.reduceLT, Int.reduceLE, Nat.reduceEqDiff, Nat.reduceAdd, reduceIte, reduceCtorEq, Nat.reduceLT, Nat.reduceLeDiff, eq_self, vcP2, Nat.reduceShiftRight, Nat.reduceMod]
  have s1 : ¬ x.sign = 0 := by rw [Int.sign_eq_zero_iff_zero]; exact h0
  have hsx := sign_cases h0
  have hyn : ((y : Int)).natAbs = y := rfl
  unfold wOk at hx hy
  have hyw := wideOf_s 1 (dg y) (by rw [hyn] at hy; omega) (okD_dg y) (.inl rfl)
  rw [dVal_dg, Int.one_mul] at hyw
  have hmul : ∀ m : Nat, m < 1000000000 → Sound Tryz.prog 20 [wideA (y : Int), wideA (m : Int)] (wideA ((y * m : Nat) : Int)) := fun m hm => by
    have := WideMul_s (y : Int) (m : Int) (by unfold wOk; omega) (by
      unfold wOk
      have : (dg ((m : Int)).natAbs).length ≤ 1 := dg_len (by simp; omega)
      omega)
    rw [show ((y * m : Nat) : Int) = (y : Int) * m by simp]
    exact this
  have hsX : x.sign = 1 ∨ x.sign = -1 := by rcases hsx with ⟨_, q⟩ | ⟨_, q⟩ <;> simp [q]
  have va := dVal_dg x.natAbs
  have oa := okD_dg x.natAbs
  rw [hr x, hr (y : Int), hyn]
  rw [hr (y : Int), hyn] at hyw
  simp only [hr (y : Int), hyn] at hmul
  generalize dg x.natAbs = a at *
  generalize ((y : Int)).sign = sy at *
  simp only [c_base_WideFloor, s1, vcV, vcD, Int.reduceEq, Int.reduceNe, Int.reduceLT, Int.reduceLE, Nat.reduceEqDiff, Nat.reduceAdd, reduceIte, reduceCtorEq, Nat.reduceLT, Nat.reduceLeDiff, eq_self, vcP2, Nat.reduceShiftRight, Nat.reduceMod]
  (repeat (with_reducible refine And.intro ?_ ?_; focus (first | omega | (unfold I64; omega))))
  refine ⟨mkOk_z _, ?_⟩
  rw [ints_z]
  (repeat (with_reducible refine And.intro ?_ ?_; focus (first | omega | (unfold I64; omega))))
  refine W_loop (t := .mk) (α := PSigma fun p : Nat × List Int × Nat => p.1 ≤ a.length ∧ okD p.2.1 ∧ p.2.1.length = a.length ∧ p.2.2 < y ∧ dVal (a.drop p.1) = dVal (p.2.1.drop p.1) * y + p.2.2) (fun z => (envOf [(2, .ptr 2 0 0), (3, .ptr 3 0 0), (4, .ptr 4 0 0), (5, .buf 100 a.length), (6, .sl (ints (dg z.1.2.2))), (7, .int .i64 ((z.1.1 : Int) - 1))], stOf [(2, ⟨38, 2, [.agg [.int .i64 x.sign, .sl (ints a)]]⟩), (3, ⟨38, 2, [.agg [.int .i64 sy, .sl (ints (dg y))]]⟩), (4, ⟨38, 2, [.agg [.int .i64 0, .nils]]⟩), (100, ⟨3, 1, ints z.1.2.1⟩)])) (fun z => z.1.1) ⟨(a.length, List.replicate a.length 0, 0), Nat.le_refl _, (fun d hd => by rw [List.eq_of_mem_replicate hd]; omega), by simp, hy0, by simp [dVal]⟩ ?_ (fun ⟨⟨k, qs, L⟩, hk, p1, p2, p3, p4⟩ => ?_)
  · have d0 : dg 0 = [] := dg_zero
    have i0 : ints [] = [] := rfl
    refine weakX [(100, some 19)] (of_decide_eq_true rfl) (of_decide_eq_true rfl) ?_
    (simp only [d0, i0, vcW, vcV, vcD, Int.reduceEq, Int.reduceNe, Int.reduceLT, Int.reduceLE, Nat.reduceEqDiff, Nat.reduceAdd, reduceIte, reduceCtorEq, Nat.reduceLT, Nat.reduceLeDiff, eq_self, vcP2, Nat.reduceShiftRight, Nat.reduceMod])
    repeat' (with_reducible refine And.intro ?_ ?_)
    any_goals (with_reducible exact RnB.wide)
    (repeat' first | exact trivial | (with_reducible exact RnB.fxB (ints_fxB _)) | (with_reducible rfl) | (with_reducible refine And.intro ?_ ?_) | (with_reducible refine RnB.bb ?_; simp only [vcW, vcV, vcD, Int.reduceEq, Int.reduceNe, Int.reduceLT, Int.reduceLE, Nat.reduceEqDiff, Nat.reduceAdd, reduceIte, reduceCtorEq, Nat.reduceLT, Nat.reduceLeDiff, eq_self, vcP2, Nat.reduceShiftRight, Nat.reduceMod]) | (with_reducible refine RnB.nb ?_; simp only [vcW, vcV, vcD, Int.reduceEq, Int.reduceNe, Int.reduceLT, Int.reduceLE, Nat.reduceEqDiff, Nat.reduceAdd, reduceIte, reduceCtorEq, Nat.reduceLT, Nat.reduceLeDiff, eq_self, vcP2, Nat.reduceShiftRight, Nat.reduceMod]) | (with_reducible refine RnB.ii ?_) | (with_reducible refine RnB.app ?_) | (with_reducible refine RnB.fxB ?_; simp only [vcW, vcV, vcD, Int.reduceEq, Int.reduceNe, Int.reduceLT, Int.reduceLE, Nat.reduceEqDiff, Nat.reduceAdd, reduceIte, reduceCtorEq, Nat.reduceLT, Nat.reduceLeDiff, eq_self, vcP2, Nat.reduceShiftRight, Nat.reduceMod]) | omega)
  · simp only at hk p1 p2 p3 p4
    cases k with
    | zero =>
      have z0 : ¬ (0 : Int) ≤ ((0 : Nat) : Int) - 1 := by omega
      simp only [List.drop_zero] at p4
      have z1 : ((0 : Nat) : Int) - 1 = -1 := rfl
      have z2 : ¬ (0 : Int) ≤ -1 := by omega
      have hQ := dVal_nonneg p1
      obtain ⟨Q, hQe⟩ : ∃ Q, Q = dVal qs := ⟨_, rfl⟩
      rw [va, ← hQe] at p4
      rw [← hQe] at hQ
      have hw := wideOf_s x.sign qs (by omega) p1 (by omega)
      rw [← hQe, hr] at hw
      have hbg := borB_good (s := stOf [(2, ⟨38, 2, [.agg [.int .i64 x.sign, .sl (ints a)]]⟩), (3, ⟨38, 2, [.agg [.int .i64 sy, .sl (ints (dg y))]]⟩), (4, ⟨38, 2, [.agg [.int .i64 0, .nils]]⟩), (100, ⟨3, 1, ints qs⟩)]) 4 a.length 3 1 (ints qs) (by rw [ints_length, p2]) (ints_fx _)
      have hyp : (0 : Int) < (y : Int) := by omega
      have hdv : ∀ (q r : Int), 0 ≤ r → r < y → (r + q * (y : Int)) / (y : Int) = q := fun q r h1 h2 => by
        rw [Int.add_mul_ediv_right _ _ (by omega), Int.ediv_eq_zero_of_lt h1 h2, Int.zero_add]
      have hQb : (dg Q.natAbs).length ≤ 10000 := by
        have h1 := dg_mono Q.natAbs x.natAbs (by
          have : Q * 1 ≤ Q * (y : Int) := Int.mul_le_mul_of_nonneg_left (by omega) hQ
          omega)
        have h2 := dg_len_le va oa hx
        omega
      rcases hsx with ⟨g1, g2⟩ | ⟨g1, g2⟩
      · have hres : x / (y : Int) = x.sign * Q := by
          rw [g2, Int.one_mul]
          have := hdv Q L (by omega) (by omega)
          rw [show (L : Int) + Q * (y : Int) = x by omega] at this
          exact this
        have hn : ¬ x.sign < 0 := by omega
        rw [hres, hr (x.sign * Q)]
        simp only [z1, z2, vcV, vcD, Int.reduceEq, Int.reduceNe, Int.reduceLT, Int.reduceLE, Nat.reduceEqDiff, Nat.reduceAdd, reduceIte, reduceCtorEq, Nat.reduceLT, Nat.reduceLeDiff, eq_self, vcP2, Nat.reduceShiftRight, Nat.reduceMod]
        rw [hbg]
        refine callS_of hw ?_
        simp only [vcX, hn, vcV, vcD, Int.reduceEq, Int.reduceNe, Int.reduceLT, Int.reduceLE, Nat.reduceEqDiff, Nat.reduceAdd, reduceIte, reduceCtorEq, Nat.reduceLT, Nat.reduceLeDiff, eq_self, vcP2, Nat.reduceShiftRight, Nat.reduceMod]
      · have hn : x.sign < 0 := by omega
        by_cases hL : L = 0
        · have hres : x / (y : Int) = x.sign * Q := by
            rw [g2]
            have := hdv (-1 * Q) 0 (by omega) (by omega)
            rw [show (0 : Int) + -1 * Q * (y : Int) = x by rw [Int.neg_one_mul, Int.neg_mul]; omega] at this
            exact this
          have hl0 : dg L = [] := by rw [hL]; exact dg_zero
          have hl1 : ints [] = [] := rfl
          rw [hres, hr (x.sign * Q)]
          simp only [z1, z2, hl0, hl1, vcV, vcD, Int.reduceEq, Int.reduceNe, Int.reduceLT, Int.reduceLE, Nat.reduceEqDiff, Nat.reduceAdd, reduceIte, reduceCtorEq, Nat.reduceLT, Nat.reduceLeDiff, eq_self, vcP2, Nat.reduceShiftRight, Nat.reduceMod]
          rw [hbg]
          refine callS_of hw ?_
          have hz0 : ¬ (0 : Int) < ((0 : Nat) : Int) := by omega
          simp only [vcX, hn, hl0, hl1, hz0, vcV, vcD, Int.reduceEq, Int.reduceNe, Int.reduceLT, Int.reduceLE, Nat.reduceEqDiff, Nat.reduceAdd, reduceIte, reduceCtorEq, Nat.reduceLT, Nat.reduceLeDiff, eq_self, vcP2, Nat.reduceShiftRight, Nat.reduceMod]
        · have hres : x / (y : Int) = x.sign * Q - 1 := by
            rw [g2]
            have := hdv (-1 * Q - 1) (y - L) (by omega) (by omega)
            rw [show ((y : Int) - L) + (-1 * Q - 1) * (y : Int) = x by rw [Int.sub_mul, Int.neg_one_mul, Int.neg_mul]; omega] at this
            exact this
          have hlp : 0 < (dg L).length := by
            rcases Nat.eq_zero_or_pos (dg L).length with e | e
            · rw [List.length_eq_zero_iff, dg_nil] at e; omega
            · exact e
          have hlp' : (0 : Int) < ((dg L).length : Int) := by omega
          have h1 := WideOf_s 1 (by unfold I64; omega)
          have h2 := WideSub_s (x.sign * Q) 1 (by
            unfold wOk
            rw [g2, Int.neg_one_mul, Int.natAbs_neg]; omega) (by
            unfold wOk
            have : (dg ((1 : Int)).natAbs).length ≤ 1 := dg_len (by decide)
            omega)
          rw [hr (1 : Int)] at h1 h2
          rw [hr (x.sign * Q), hr (x.sign * Q - 1)] at h2
          rw [hres, hr (x.sign * Q - 1)]
          simp only [z1, z2, vcV, vcD, Int.reduceEq, Int.reduceNe, Int.reduceLT, Int.reduceLE, Nat.reduceEqDiff, Nat.reduceAdd, reduceIte, reduceCtorEq, Nat.reduceLT, Nat.reduceLeDiff, eq_self, vcP2, Nat.reduceShiftRight, Nat.reduceMod]
          rw [hbg]
          refine callS_of hw ?_
          simp only [vcX, hn, ints_length, hlp', vcV, vcD, Int.reduceEq, Int.reduceNe, Int.reduceLT, Int.reduceLE, Nat.reduceEqDiff, Nat.reduceAdd, reduceIte, reduceCtorEq, Nat.reduceLT, Nat.reduceLeDiff, eq_self, vcP2, Nat.reduceShiftRight, Nat.reduceMod]
          refine callS_of h1 ?_
          simp only [vcX, vcV, vcD, Int.reduceEq, Int.reduceNe, Int.reduceLT, Int.reduceLE, Nat.reduceEqDiff, Nat.reduceAdd, reduceIte, reduceCtorEq, Nat.reduceLT, Nat.reduceLeDiff, eq_self, vcP2, Nat.reduceShiftRight, Nat.reduceMod]
          refine callS_of h2 ?_
          simp only [vcX, vcV, vcD, Int.reduceEq, Int.reduceNe, Int.reduceLT, Int.reduceLE, Nat.reduceEqDiff, Nat.reduceAdd, reduceIte, reduceCtorEq, Nat.reduceLT, Nat.reduceLeDiff, eq_self, vcP2, Nat.reduceShiftRight, Nat.reduceMod]
    | succ k =>
      have z0 : (0 : Int) ≤ (k : Int) := by omega
      have z1 : ((k + 1 : Nat) : Int) - 1 = (k : Int) := by omega
      have k1 : k < a.length := by omega
      have ga := ints_get a k k1
      have qa := oa _ (List.getElem_mem k1)
      have hdk : dVal (a.drop k) = a[k] + 1000000000 * dVal (a.drop (k + 1)) := by rw [List.drop_eq_getElem_cons k1]; rfl
      generalize a[k] = ai at *
      obtain ⟨L1, hL1⟩ : ∃ L1 : Nat, L1 = ai.toNat + 1000000000 * L := ⟨_, rfl⟩
      have hL1i : (L1 : Int) = ai + 1000000000 * L := by omega
      have hL1b : L1 < 1000000000 * y := by omega
      have hdgL : (dg L).length ≤ 10000 := Nat.le_trans (dg_mono L y (by omega)) (by rw [hyn] at hy; exact hy)
      have htr := trimmed_s (ai :: dg L) (by simp; omega)
      rw [trim_cons qa, ← hL1] at htr
      have hcons : ints (ai :: dg L) = .int .i64 ai :: ints (dg L) := rfl
      have hlenL : (ints (ai :: dg L)).length = (dg L).length + 1 := by rw [ints_length]; rfl
      have hdgL1 : (dg L1).length ≤ 10001 := by
        rw [hL1, ← trim_cons qa]
        have := trimL_le (ai :: dg L)
        simp at this; omega
      rw [hcons] at htr
      have hdgy : (dg y).length ≤ 10000 := by rw [hyn] at hy; exact hy
      have hym : ∀ m : Nat, m < 1000000000 → (dg (y * m)).length ≤ 10001 := fun m hm => by
        have h1 := dg_mono (y * m) (0 + 1000000000 * (y : Int)).toNat (by
          have : y * m ≤ y * 1000000000 := Nat.mul_le_mul_left _ (by omega)
          omega)
        rw [dg_cons (by omega) (.inr (by omega))] at h1
        simp at h1; omega
      have hfxa : ∀ z ∈ (AV.int .i64 ai :: ints (dg L)), fx z = true := by rw [← hcons]; exact ints_fx _
      have hlna : 1 + (dg L).length = (AV.int .i64 ai :: ints (dg L)).length := by rw [← hcons, ints_length]; simp; omega
      simp only [z1, z0, ga, vcV, vcD, Int.reduceEq, Int.reduceNe, Int.reduceLT, Int.reduceLE, Nat.reduceEqDiff, Nat.reduceAdd, reduceIte, reduceCtorEq, Nat.reduceLT, Nat.reduceLeDiff, eq_self, vcP2, Nat.reduceShiftRight, Nat.reduceMod]
      (repeat (with_reducible refine And.intro ?_ ?_; focus (first | omega | (unfold I64; omega))))
      refine ⟨newsOk_ints _, ?_⟩
      (repeat (with_reducible refine And.intro ?_ ?_; focus (first | omega | (unfold I64; omega))))
      rw [borB_good _ _ _ _ (AV.int .i64 ai :: ints (dg L)) hlna hfxa]
      refine callS_of htr ?_
      simp only [vcX, vcV, vcD, Int.reduceEq, Int.reduceNe, Int.reduceLT, Int.reduceLE, Nat.reduceEqDiff, Nat.reduceAdd, reduceIte, reduceCtorEq, Nat.reduceLT, Nat.reduceLeDiff, eq_self, vcP2, Nat.reduceShiftRight, Nat.reduceMod]
      refine W_loop (t := .mk) (α := PSigma fun p : Nat × Nat => p.1 ≤ p.2 ∧ p.2 ≤ 999999999 ∧ y * p.1 ≤ L1 ∧ L1 < y * (p.2 + 1)) (fun z => (envOf [(2, .ptr 2 0 0), (3, .ptr 3 0 0), (4, .ptr 4 0 0), (5, .buf 100 a.length), (6, .sl (ints (dg L1))), (7, .int .i64 k), (8, .int .i64 z.1.1), (9, .int .i64 z.1.2)], stOf [(2, ⟨38, 2, [.agg [.int .i64 x.sign, .sl (ints a)]]⟩), (3, ⟨38, 2, [.agg [.int .i64 sy, .sl (ints (dg y))]]⟩), (4, ⟨38, 2, [.agg [.int .i64 0, .nils]]⟩), (100, ⟨3, 1, ints qs⟩)])) (fun z => z.1.2 - z.1.1) ⟨(0, 999999999), by simp, by simp, by simp, by simp only; omega⟩ ?_ (fun ⟨⟨lo, hi⟩, q1, q2, q3, q4⟩ => ?_)
      · refine weakX [(100, some 100)] (of_decide_eq_true rfl) (of_decide_eq_true rfl) ?_
        (simp only [vcX, vcW, vcV, vcD, Int.reduceEq, Int.reduceNe, Int.reduceLT, Int.reduceLE, Nat.reduceEqDiff, Nat.reduceAdd, reduceIte, reduceCtorEq, Nat.reduceLT, Nat.reduceLeDiff, eq_self, vcP2, Nat.reduceShiftRight, Nat.reduceMod])
        repeat' (with_reducible refine And.intro ?_ ?_)
        any_goals (with_reducible exact RnB.wide)
        (repeat' first | exact trivial | (with_reducible exact RnB.fxB (ints_fxB _)) | (with_reducible rfl) | (with_reducible refine And.intro ?_ ?_) | (with_reducible refine RnB.bb ?_; simp only [vcW, vcV, vcD, Int.reduceEq, Int.reduceNe, Int.reduceLT, Int.reduceLE, Nat.reduceEqDiff, Nat.reduceAdd, reduceIte, reduceCtorEq, Nat.reduceLT, Nat.reduceLeDiff, eq_self, vcP2, Nat.reduceShiftRight, Nat.reduceMod]) | (with_reducible refine RnB.nb ?_; simp only [vcW, vcV, vcD, Int.reduceEq, Int.reduceNe, Int.reduceLT, Int.reduceLE, Nat.reduceEqDiff, Nat.reduceAdd, reduceIte, reduceCtorEq, Nat.reduceLT, Nat.reduceLeDiff, eq_self, vcP2, Nat.reduceShiftRight, Nat.reduceMod]) | (with_reducible refine RnB.ii ?_) | (with_reducible refine RnB.app ?_) | (with_reducible refine RnB.fxB ?_; simp only [vcW, vcV, vcD, Int.reduceEq, Int.reduceNe, Int.reduceLT, Int.reduceLE, Nat.reduceEqDiff, Nat.reduceAdd, reduceIte, reduceCtorEq, Nat.reduceLT, Nat.reduceLeDiff, eq_self, vcP2, Nat.reduceShiftRight, Nat.reduceMod]) | omega)
      · simp only at q1 q2 q3 q4
        by_cases hlh : lo < hi
        · have hlh' : (lo : Int) < hi := by omega
          obtain ⟨m, hm⟩ : ∃ m, m = (lo + hi + 1) / 2 := ⟨_, rfl⟩
          have ht : ((lo : Int) + hi + 1).tdiv 2 = (m : Int) := by
            rw [show (lo : Int) + hi + 1 = ((lo + hi + 1 : Nat) : Int) by omega, hm]; rfl
          have hm9 : m < 1000000000 := by omega
          have hmu := hmul m hm9
          rw [hr ((y * m : Nat) : Int), show (((y * m : Nat) : Int)).natAbs = y * m from rfl] at hmu
          have hwo := WideOf_s (m : Int) (by unfold I64; omega)
          rw [hr (m : Int)] at hmu hwo
          have hcm := cmpDigits_s (y * m) L1 (by have := hym m hm9; omega) (by omega)
          by_cases hc : y * m ≤ L1
          · have hsn : (((y * m : Nat) : Int) - L1).sign ≤ 0 := by
              rcases Nat.lt_or_ge (y * m) L1 with e | e
              · rw [Int.sign_eq_neg_one_of_neg (by omega)]; omega
              · rw [show ((y * m : Nat) : Int) - L1 = 0 by omega]; decide
            generalize (((y * m : Nat) : Int) - L1).sign = sg at *
            simp only [hlh', ht, vcV, vcD, Int.reduceEq, Int.reduceNe, Int.reduceLT, Int.reduceLE, Nat.reduceEqDiff, Nat.reduceAdd, reduceIte, reduceCtorEq, Nat.reduceLT, Nat.reduceLeDiff, eq_self, vcP2, Nat.reduceShiftRight, Nat.reduceMod]
            (repeat (with_reducible refine And.intro ?_ ?_; focus (first | omega | (unfold I64; omega))))
            refine callS_of hyw ?_
            simp only [vcV, vcD, Int.reduceEq, Int.reduceNe, Int.reduceLT, Int.reduceLE, Nat.reduceEqDiff, Nat.reduceAdd, reduceIte, reduceCtorEq, Nat.reduceLT, Nat.reduceLeDiff, eq_self, vcP2, Nat.reduceShiftRight, Nat.reduceMod]
            refine callS_of hwo ?_
            simp only [vcV, vcD, Int.reduceEq, Int.reduceNe, Int.reduceLT, Int.reduceLE, Nat.reduceEqDiff, Nat.reduceAdd, reduceIte, reduceCtorEq, Nat.reduceLT, Nat.reduceLeDiff, eq_self, vcP2, Nat.reduceShiftRight, Nat.reduceMod]
            refine callS_of hmu ?_
            simp only [vcV, vcD, Int.reduceEq, Int.reduceNe, Int.reduceLT, Int.reduceLE, Nat.reduceEqDiff, Nat.reduceAdd, reduceIte, reduceCtorEq, Nat.reduceLT, Nat.reduceLeDiff, eq_self, vcP2, Nat.reduceShiftRight, Nat.reduceMod]
            refine callS_of hcm ?_
            simp only [hsn, vcV, vcD, Int.reduceEq, Int.reduceNe, Int.reduceLT, Int.reduceLE, Nat.reduceEqDiff, Nat.reduceAdd, reduceIte, reduceCtorEq, Nat.reduceLT, Nat.reduceLeDiff, eq_self, vcP2, Nat.reduceShiftRight, Nat.reduceMod]
            refine ⟨⟨(m, hi), by simp only; omega, q2, hc, q4⟩, by simp only; omega, ?_⟩
            refine weakX [(100, some 100)] (of_decide_eq_true rfl) (of_decide_eq_true rfl) ?_
            (simp only [vcW, vcV, vcD, Int.reduceEq, Int.reduceNe, Int.reduceLT, Int.reduceLE, Nat.reduceEqDiff, Nat.reduceAdd, reduceIte, reduceCtorEq, Nat.reduceLT, Nat.reduceLeDiff, eq_self, vcP2, Nat.reduceShiftRight, Nat.reduceMod])
            repeat' (with_reducible refine And.intro ?_ ?_)
            any_goals (with_reducible exact RnB.wide)
            (repeat' first | exact trivial | (with_reducible exact RnB.fxB (ints_fxB _)) | (with_reducible rfl) | (with_reducible refine And.intro ?_ ?_) | (with_reducible refine RnB.bb ?_; simp only [vcW, vcV, vcD, Int.reduceEq, Int.reduceNe, Int.reduceLT, Int.reduceLE, Nat.reduceEqDiff, Nat.reduceAdd, reduceIte, reduceCtorEq, Nat.reduceLT, Nat.reduceLeDiff, eq_self, vcP2, Nat.reduceShiftRight, Nat.reduceMod]) | (with_reducible refine RnB.nb ?_; simp only [vcW, vcV, vcD, Int.reduceEq, Int.reduceNe, Int.reduceLT, Int.reduceLE, Nat.reduceEqDiff, Nat.reduceAdd, reduceIte, reduceCtorEq, Nat.reduceLT, Nat.reduceLeDiff, eq_self, vcP2, Nat.reduceShiftRight, Nat.reduceMod]) | (with_reducible refine RnB.ii ?_) | (with_reducible refine RnB.app ?_) | (with_reducible refine RnB.fxB ?_; simp only [vcW, vcV, vcD, Int.reduceEq, Int.reduceNe, Int.reduceLT, Int.reduceLE, Nat.reduceEqDiff, Nat.reduceAdd, reduceIte, reduceCtorEq, Nat.reduceLT, Nat.reduceLeDiff, eq_self, vcP2, Nat.reduceShiftRight, Nat.reduceMod]) | omega)
          · have hsn : ¬ (((y * m : Nat) : Int) - L1).sign ≤ 0 := by rw [Int.sign_eq_one_of_pos (by omega)]; omega
            generalize (((y * m : Nat) : Int) - L1).sign = sg at *
            have hm1 : (m : Int) - 1 = ((m - 1 : Nat) : Int) := by omega
            simp only [hlh', ht, vcV, vcD, Int.reduceEq, Int.reduceNe, Int.reduceLT, Int.reduceLE, Nat.reduceEqDiff, Nat.reduceAdd, reduceIte, reduceCtorEq, Nat.reduceLT, Nat.reduceLeDiff, eq_self, vcP2, Nat.reduceShiftRight, Nat.reduceMod]
            (repeat (with_reducible refine And.intro ?_ ?_; focus (first | omega | (unfold I64; omega))))
            refine callS_of hyw ?_
            simp only [vcV, vcD, Int.reduceEq, Int.reduceNe, Int.reduceLT, Int.reduceLE, Nat.reduceEqDiff, Nat.reduceAdd, reduceIte, reduceCtorEq, Nat.reduceLT, Nat.reduceLeDiff, eq_self, vcP2, Nat.reduceShiftRight, Nat.reduceMod]
            refine callS_of hwo ?_
            simp only [vcV, vcD, Int.reduceEq, Int.reduceNe, Int.reduceLT, Int.reduceLE, Nat.reduceEqDiff, Nat.reduceAdd, reduceIte, reduceCtorEq, Nat.reduceLT, Nat.reduceLeDiff, eq_self, vcP2, Nat.reduceShiftRight, Nat.reduceMod]
            refine callS_of hmu ?_
            simp only [vcV, vcD, Int.reduceEq, Int.reduceNe, Int.reduceLT, Int.reduceLE, Nat.reduceEqDiff, Nat.reduceAdd, reduceIte, reduceCtorEq, Nat.reduceLT, Nat.reduceLeDiff, eq_self, vcP2, Nat.reduceShiftRight, Nat.reduceMod]
            refine callS_of hcm ?_
            simp only [hsn, hm1, vcV, vcD, Int.reduceEq, Int.reduceNe, Int.reduceLT, Int.reduceLE, Nat.reduceEqDiff, Nat.reduceAdd, reduceIte, reduceCtorEq, Nat.reduceLT, Nat.reduceLeDiff, eq_self, vcP2, Nat.reduceShiftRight, Nat.reduceMod]
            (repeat (with_reducible refine And.intro ?_ ?_; focus (first | omega | (unfold I64; omega))))
            refine ⟨⟨(lo, m - 1), by simp only; omega, by simp only; omega, q3, by simp only; rw [show m - 1 + 1 = m by omega]; omega⟩, by simp only; omega, ?_⟩
            refine weakX [(100, some 100)] (of_decide_eq_true rfl) (of_decide_eq_true rfl) ?_
            (simp only [vcW, vcV, vcD, Int.reduceEq, Int.reduceNe, Int.reduceLT, Int.reduceLE, Nat.reduceEqDiff, Nat.reduceAdd, reduceIte, reduceCtorEq, Nat.reduceLT, Nat.reduceLeDiff, eq_self, vcP2, Nat.reduceShiftRight, Nat.reduceMod])
            repeat' (with_reducible refine And.intro ?_ ?_)
            any_goals (with_reducible exact RnB.wide)
            (repeat' first | exact trivial | (with_reducible exact RnB.fxB (ints_fxB _)) | (with_reducible rfl) | (with_reducible refine And.intro ?_ ?_) | (with_reducible refine RnB.bb ?_; simp only [vcW, vcV, vcD, Int.reduceEq, Int.reduceNe, Int.reduceLT, Int.reduceLE, Nat.reduceEqDiff, Nat.reduceAdd, reduceIte, reduceCtorEq, Nat.reduceLT, Nat.reduceLeDiff, eq_self, vcP2, Nat.reduceShiftRight, Nat.reduceMod]) | (with_reducible refine RnB.nb ?_; simp only [vcW, vcV, vcD, Int.reduceEq, Int.reduceNe, Int.reduceLT, Int.reduceLE, Nat.reduceEqDiff, Nat.reduceAdd, reduceIte, reduceCtorEq, Nat.reduceLT, Nat.reduceLeDiff, eq_self, vcP2, Nat.reduceShiftRight, Nat.reduceMod]) | (with_reducible refine RnB.ii ?_) | (with_reducible refine RnB.app ?_) | (with_reducible refine RnB.fxB ?_; simp only [vcW, vcV, vcD, Int.reduceEq, Int.reduceNe, Int.reduceLT, Int.reduceLE, Nat.reduceEqDiff, Nat.reduceAdd, reduceIte, reduceCtorEq, Nat.reduceLT, Nat.reduceLeDiff, eq_self, vcP2, Nat.reduceShiftRight, Nat.reduceMod]) | omega)
        · have hlh' : ¬ (lo : Int) < hi := by omega
          obtain rfl : lo = hi := by omega
          have hm9 : lo < 1000000000 := by omega
          have hmu := hmul lo hm9
          rw [hr ((y * lo : Nat) : Int), show (((y * lo : Nat) : Int)).natAbs = y * lo from rfl] at hmu
          have hwo := WideOf_s (lo : Int) (by unfold I64; omega)
          rw [hr (lo : Int)] at hmu hwo
          have hsd := subDigits_s (dg L1) (dg (y * lo)) (okD_dg _) (okD_dg _) (dg_mono _ _ q3) (by omega) (by rw [dVal_dg, dVal_dg]; omega)
          rw [dVal_dg, dVal_dg, show ((L1 : Int) - ((y * lo : Nat) : Int)).toNat = L1 - y * lo by omega] at hsd
          have n1 := okD_set p1 k (x := (lo : Int)) ⟨by omega, by omega⟩
          have n2 : (qs.set k (lo : Int)).length = a.length := by simp [p2]
          have q5 : y * (lo + 1) = y * lo + y := by rw [Nat.mul_add, Nat.mul_one]
          have n3 : L1 - y * lo < y := by omega
          have n4 : dVal (a.drop k) = dVal ((qs.set k (lo : Int)).drop k) * y + ((L1 - y * lo : Nat) : Int) := by
            rw [hdk, drop_set_eq (by omega), dVal, floor_step (m := (lo : Int)) p4]
            have : ((L1 - y * lo : Nat) : Int) = ai + 1000000000 * L - (y : Int) * lo := by
              have e : ((y * lo : Nat) : Int) = (y : Int) * lo := by simp
              omega
            rw [this]
          have hst : (ints qs).set k (.int .i64 lo) = ints (qs.set k (lo : Int)) := ints_st _ _ _
          have gq := ints_get qs k (by omega)
          simp only [hlh', gq, ints_length, vcV, vcD, Int.reduceEq, Int.reduceNe, Int.reduceLT, Int.reduceLE, Nat.reduceEqDiff, Nat.reduceAdd, reduceIte, reduceCtorEq, Nat.reduceLT, Nat.reduceLeDiff, eq_self, vcP2, Nat.reduceShiftRight, Nat.reduceMod]
          (repeat (with_reducible refine And.intro ?_ ?_; focus (first | omega | (unfold I64; omega))))
          refine callS_of hyw ?_
          simp only [vcV, vcD, Int.reduceEq, Int.reduceNe, Int.reduceLT, Int.reduceLE, Nat.reduceEqDiff, Nat.reduceAdd, reduceIte, reduceCtorEq, Nat.reduceLT, Nat.reduceLeDiff, eq_self, vcP2, Nat.reduceShiftRight, Nat.reduceMod]
          refine callS_of hwo ?_
          simp only [vcV, vcD, Int.reduceEq, Int.reduceNe, Int.reduceLT, Int.reduceLE, Nat.reduceEqDiff, Nat.reduceAdd, reduceIte, reduceCtorEq, Nat.reduceLT, Nat.reduceLeDiff, eq_self, vcP2, Nat.reduceShiftRight, Nat.reduceMod]
          refine callS_of hmu ?_
          simp only [vcV, vcD, Int.reduceEq, Int.reduceNe, Int.reduceLT, Int.reduceLE, Nat.reduceEqDiff, Nat.reduceAdd, reduceIte, reduceCtorEq, Nat.reduceLT, Nat.reduceLeDiff, eq_self, vcP2, Nat.reduceShiftRight, Nat.reduceMod]
          refine callS_of hsd ?_
          simp only [vcV, vcD, Int.reduceEq, Int.reduceNe, Int.reduceLT, Int.reduceLE, Nat.reduceEqDiff, Nat.reduceAdd, reduceIte, reduceCtorEq, Nat.reduceLT, Nat.reduceLeDiff, eq_self, vcP2, Nat.reduceShiftRight, Nat.reduceMod]
          (repeat (with_reducible refine And.intro ?_ ?_; focus (first | omega | (unfold I64; omega))))
          refine ⟨⟨(k, qs.set k (lo : Int), L1 - y * lo), by simp only; omega, n1, n2, n3, n4⟩, by simp only; omega, ?_⟩
          refine weakX [(100, some 100)] (of_decide_eq_true rfl) (of_decide_eq_true rfl) ?_
          (simp only [vcW, vcV, vcD, Int.reduceEq, Int.reduceNe, Int.reduceLT, Int.reduceLE, Nat.reduceEqDiff, Nat.reduceAdd, reduceIte, reduceCtorEq, Nat.reduceLT, Nat.reduceLeDiff, eq_self, vcP2, Nat.reduceShiftRight, Nat.reduceMod])
          repeat' (with_reducible refine And.intro ?_ ?_)
          any_goals (with_reducible exact RnB.wide)
          (repeat' first | exact trivial | (with_reducible exact RnB.fxB (ints_fxB _)) | (with_reducible rfl) | (with_reducible refine And.intro ?_ ?_) | (with_reducible refine RnB.bb ?_; simp only [vcW, vcV, vcD, Int.reduceEq, Int.reduceNe, Int.reduceLT, Int.reduceLE, Nat.reduceEqDiff, Nat.reduceAdd, reduceIte, reduceCtorEq, Nat.reduceLT, Nat.reduceLeDiff, eq_self, vcP2, Nat.reduceShiftRight, Nat.reduceMod]) | (with_reducible refine RnB.nb ?_; simp only [vcW, vcV, vcD, Int.reduceEq, Int.reduceNe, Int.reduceLT, Int.reduceLE, Nat.reduceEqDiff, Nat.reduceAdd, reduceIte, reduceCtorEq, Nat.reduceLT, Nat.reduceLeDiff, eq_self, vcP2, Nat.reduceShiftRight, Nat.reduceMod]) | (with_reducible refine RnB.ii ?_) | (with_reducible refine RnB.app ?_) | (with_reducible refine RnB.fxB ?_; simp only [vcW, vcV, vcD, Int.reduceEq, Int.reduceNe, Int.reduceLT, Int.reduceLE, Nat.reduceEqDiff, Nat.reduceAdd, reduceIte, reduceCtorEq, Nat.reduceLT, Nat.reduceLeDiff, eq_self, vcP2, Nat.reduceShiftRight, Nat.reduceMod]) | omega)
          all_goals first | exact RnB.eq hst (by rw [hst]; exact ints_fxB _) | omega
end Go.Proofs.YtgmpcbpmnimkoaaGreatDoor

/- Contracts: sizes and divisors of wide numbers. By an AI agent; nothing here is trusted. -/
namespace Go.Proofs.YtgmpcbpmnimkoaaGreatDoor
open Go.Av

theorem wide_hr (v : Int) : wideA v = .agg [.int .i64 v.sign, .sl (ints (dg v.natAbs))] := rfl
theorem wOk_more {k k' : Nat} {v : Int} (h : wOk k v) (hk : k ≤ k') : wOk k' v := Nat.le_trans h hk
end Go.Proofs.YtgmpcbpmnimkoaaGreatDoor

/- Contracts: ratios in lowest terms. By an AI agent; nothing here is trusted. -/
namespace Go.Proofs.YtgmpcbpmnimkoaaGreatDoor
open Go.Av

end Go.Proofs.YtgmpcbpmnimkoaaGreatDoor

/- Contracts: ratios added, multiplied, compared. By an AI agent; nothing here is trusted. -/
namespace Go.Proofs.YtgmpcbpmnimkoaaGreatDoor
open Go.Av

end Go.Proofs.YtgmpcbpmnimkoaaGreatDoor

/- Ratios of fractions; lowest terms, in plain Lean. By an AI agent; nothing here is trusted. -/
namespace Go.Proofs.YtgmpcbpmnimkoaaGreatDoor
open Go.Av

end Go.Proofs.YtgmpcbpmnimkoaaGreatDoor

/- Contracts: ratios as rational numbers. By an AI agent; nothing here is trusted. -/
namespace Go.Proofs.YtgmpcbpmnimkoaaGreatDoor
open Go.Av

theorem WideSign_w (v : Int) : Sound Tryz.prog 25 [wideA v] (.int .i64 v.sign) := WideSign_s v
end Go.Proofs.YtgmpcbpmnimkoaaGreatDoor

/- Contracts of the reference: the accepted fit, squares, digits, what is kept. By an AI agent; nothing here is trusted. -/
namespace Go.Proofs.YtgmpcbpmnimkoaaGreatDoor
open Go.Av

theorem wOk_35 {v : Int} (h : v.natAbs ≤ 100000000000000000000000000000000000) : wOk 100000 v :=
  wOk_more (k := 4) (wOk_of (Nat.lt_of_le_of_lt h (by decide))) (by omega)
theorem smI_ag {items l : List Int} {k N : Nat} (h : k + items.length ≤ N) (h1 : 1 ≤ items.length) : Lin.smI N (fun n => l.getD n 0 * Lin.itm items n k) = agT items l k items.length := by
  rw [ag_sum, if_neg (by omega)]
  by_cases e : N ≤ k + items.length
  · rw [if_pos e, show N - k = items.length by omega]
  · rw [if_neg e]
def gsum (D items : List Int) (i n : Nat) : Int := Lin.smI n fun n => D.getD n 0 * Lin.itm items n i
theorem gsum_succ (D items : List Int) (i : Nat) {n : Nat} (h : n < D.length) : gsum D items i (n + 1) = gsum D items i n + D[n] * Lin.itm items n i := by
  unfold gsum; rw [Lin.smI, getD_at h]
theorem refCheckFit_s {items : List Int} {shifts : Int} {l : List Int} {den : Int} {ch : List Int} (F : FitIn items l shifts ch den) :
    Sound Tryz.prog 40 [tplA items shifts, .sl (ints l), fitA den ch] (.tup [.int .i64 (if gcF den ch = 1 then ckA items l ch den else (0, 3)).1, .int .i64 (if gcF den ch = 1 then ckA items l ch den else (0, 3)).2]) := by
  refine sound_W f_ref02_CheckFit (Nat.le_of_ble_eq_true rfl) ?_
  have hch5 : ch.length ≤ 5 := by have := F.cl; have := F.s5; omega
  have hcl := F.cl
  have hdn : den = ((gcF den [] : Nat) : Int) := by
    have : gcF den [] = den.natAbs := rfl
    rw [this]; have := F.db; omega
  simp only [c_ref02_CheckFit, tplA, fitA, vcV, vcD, Int.reduceEq, Int.reduceNe, Int.reduceLT, Int.reduceLE, Nat.reduceEqDiff, Nat.reduceAdd, reduceIte, reduceCtorEq, Nat.reduceLT, Nat.reduceLeDiff, eq_self, vcP2, Nat.reduceShiftRight, Nat.reduceMod]
  refine W_loop (t := .mk) (α := PSigma fun i : Nat => i ≤ ch.length) (fun ⟨i, _⟩ => (envOf [(1, .sl (ints l)), (3, .ptr 3 0 0), (5, .ptr 5 0 0), (8, .int .i64 ((gcF den (ch.take i) : Nat) : Int)), (9, .int .i64 i)], stOf [(3, ⟨24, 2, [.agg [.sl (ints items), .int .i64 shifts]]⟩), (5, ⟨29, 2, [.agg [.int .i64 den, .sl (ints ch)]]⟩)])) (fun x => ch.length - x.1) ⟨0, Nat.zero_le _⟩ ?_ (fun ⟨i, hin⟩ => ?_)
  · refine weakX [] (of_decide_eq_true rfl) (of_decide_eq_true rfl) ?_
    (simp only [← hdn, vcW, vcV, vcD, Int.reduceEq, Int.reduceNe, Int.reduceLT, Int.reduceLE, Nat.reduceEqDiff, Nat.reduceAdd, reduceIte, reduceCtorEq, Nat.reduceLT, Nat.reduceLeDiff, eq_self, vcP2, Nat.reduceShiftRight, Nat.reduceMod])
    (repeat' first | exact trivial | (with_reducible exact RnB.fxB (ints_fxB _)) | (with_reducible rfl) | (with_reducible refine And.intro ?_ ?_) | (with_reducible refine RnB.bb ?_; simp only [vcW, vcV, vcD, Int.reduceEq, Int.reduceNe, Int.reduceLT, Int.reduceLE, Nat.reduceEqDiff, Nat.reduceAdd, reduceIte, reduceCtorEq, Nat.reduceLT, Nat.reduceLeDiff, eq_self, vcP2, Nat.reduceShiftRight, Nat.reduceMod]) | (with_reducible refine RnB.nb ?_; simp only [vcW, vcV, vcD, Int.reduceEq, Int.reduceNe, Int.reduceLT, Int.reduceLE, Nat.reduceEqDiff, Nat.reduceAdd, reduceIte, reduceCtorEq, Nat.reduceLT, Nat.reduceLeDiff, eq_self, vcP2, Nat.reduceShiftRight, Nat.reduceMod]) | (with_reducible refine RnB.ii ?_) | (with_reducible refine RnB.app ?_) | (with_reducible refine RnB.fxB ?_; simp only [vcW, vcV, vcD, Int.reduceEq, Int.reduceNe, Int.reduceLT, Int.reduceLE, Nat.reduceEqDiff, Nat.reduceAdd, reduceIte, reduceCtorEq, Nat.reduceLT, Nat.reduceLeDiff, eq_self, vcP2, Nat.reduceShiftRight, Nat.reduceMod]) | omega)
  · dsimp only at hin ⊢
    have hdb := F.db
    have hle := gcF_le den (ch.take i) (by omega)
    by_cases h' : i < ch.length
    · have hc1 : (i : Int) < ch.length := by omega
      have hcb := F.cb _ (List.getElem_mem h')
      have hd := Gcd_s ((gcF den (ch.take i) : Nat) : Int) ch[i] (by unfold S63; omega) (by unfold S63; omega)
      have hg : ((Int.gcd ((gcF den (ch.take i) : Nat) : Int) ch[i] : Nat) : Int) = ((gcF den (ch.take (i + 1)) : Nat) : Int) := by
        rw [gcF_next den h']; rfl
      rw [hg] at hd
      simp only [hc1, ints_get ch i h', vcV, vcD, Int.reduceEq, Int.reduceNe, Int.reduceLT, Int.reduceLE, Nat.reduceEqDiff, Nat.reduceAdd, reduceIte, reduceCtorEq, Nat.reduceLT, Nat.reduceLeDiff, eq_self, vcP2, Nat.reduceShiftRight, Nat.reduceMod]
      (repeat (with_reducible refine And.intro ?_ ?_; focus (first | omega | (unfold I64; omega))))
      refine callS_of hd ?_
      simp only [vcV, vcD, Int.reduceEq, Int.reduceNe, Int.reduceLT, Int.reduceLE, Nat.reduceEqDiff, Nat.reduceAdd, reduceIte, reduceCtorEq, Nat.reduceLT, Nat.reduceLeDiff, eq_self, vcP2, Nat.reduceShiftRight, Nat.reduceMod]
      (repeat (with_reducible refine And.intro ?_ ?_; focus (first | omega | (unfold I64; omega))))
      refine ⟨⟨i + 1, h'⟩, by simp only; omega, ?_⟩
      refine weakX [] (of_decide_eq_true rfl) (of_decide_eq_true rfl) ?_
      (simp only [vcW, vcV, vcD, Int.reduceEq, Int.reduceNe, Int.reduceLT, Int.reduceLE, Nat.reduceEqDiff, Nat.reduceAdd, reduceIte, reduceCtorEq, Nat.reduceLT, Nat.reduceLeDiff, eq_self, vcP2, Nat.reduceShiftRight, Nat.reduceMod])
      (repeat' first | exact trivial | (with_reducible exact RnB.fxB (ints_fxB _)) | (with_reducible rfl) | (with_reducible refine And.intro ?_ ?_) | (with_reducible refine RnB.bb ?_; simp only [vcW, vcV, vcD, Int.reduceEq, Int.reduceNe, Int.reduceLT, Int.reduceLE, Nat.reduceEqDiff, Nat.reduceAdd, reduceIte, reduceCtorEq, Nat.reduceLT, Nat.reduceLeDiff, eq_self, vcP2, Nat.reduceShiftRight, Nat.reduceMod]) | (with_reducible refine RnB.nb ?_; simp only [vcW, vcV, vcD, Int.reduceEq, Int.reduceNe, Int.reduceLT, Int.reduceLE, Nat.reduceEqDiff, Nat.reduceAdd, reduceIte, reduceCtorEq, Nat.reduceLT, Nat.reduceLeDiff, eq_self, vcP2, Nat.reduceShiftRight, Nat.reduceMod]) | (with_reducible refine RnB.ii ?_) | (with_reducible refine RnB.app ?_) | (with_reducible refine RnB.fxB ?_; simp only [vcW, vcV, vcD, Int.reduceEq, Int.reduceNe, Int.reduceLT, Int.reduceLE, Nat.reduceEqDiff, Nat.reduceAdd, reduceIte, reduceCtorEq, Nat.reduceLT, Nat.reduceLeDiff, eq_self, vcP2, Nat.reduceShiftRight, Nat.reduceMod]) | omega)
    · have hil : i = ch.length := by omega
      subst hil
      have hc1 : ¬ (ch.length : Int) < ch.length := by omega
      rw [List.take_length] at *
      by_cases hG : gcF den ch = 1
      case neg =>
        have hG' : ¬ ((gcF den ch : Nat) : Int) = 1 := by omega
        rw [if_neg hG]
        simp only [hc1, hG', vcV, vcD, Int.reduceEq, Int.reduceNe, Int.reduceLT, Int.reduceLE, Nat.reduceEqDiff, Nat.reduceAdd, reduceIte, reduceCtorEq, Nat.reduceLT, Nat.reduceLeDiff, eq_self, vcP2, Nat.reduceShiftRight, Nat.reduceMod]
      have hG' : ((gcF den ch : Nat) : Int) = 1 := by omega
      rw [if_pos hG]
      have hD := Off_s F
      unfold tplA fitA at hD
      simp only [hc1, hG', vcV, vcD, Int.reduceEq, Int.reduceNe, Int.reduceLT, Int.reduceLE, Nat.reduceEqDiff, Nat.reduceAdd, reduceIte, reduceCtorEq, Nat.reduceLT, Nat.reduceLeDiff, eq_self, vcP2, Nat.reduceShiftRight, Nat.reduceMod]
      refine callS_of hD ?_
      have hdfl := dfL_len items l ch den
      have hml := F.mlen
      have hl10 := F.l10
      have hll := F.ll
      have hi1 := F.i1
      have hi6 := F.i6
      have hdb2 := F.dfb
      have hgr : ∀ k, grI items l ch den k = agT items (dfL items l ch den) k items.length := fun k => rfl
      obtain ⟨D, hDd⟩ : ∃ D, D = dfL items l ch den := ⟨_, rfl⟩
      rw [← hDd] at hdfl hdb2
      rw [← hDd]
      have hDl : D.length = l.length := by omega
      simp only [vcV, vcD, Int.reduceEq, Int.reduceNe, Int.reduceLT, Int.reduceLE, Nat.reduceEqDiff, Nat.reduceAdd, reduceIte, reduceCtorEq, Nat.reduceLT, Nat.reduceLeDiff, eq_self, vcP2, Nat.reduceShiftRight, Nat.reduceMod]
      refine W_loop (t := .mk) (α := PSigma fun i : Nat => i ≤ ch.length ∧ ∀ k, k < i → ckP items l ch den k = false) (fun ⟨i, _⟩ => (envOf [(3, .ptr 3 0 0), (5, .ptr 5 0 0), (10, .sl (ints D)), (11, .int .i64 i)], stOf [(3, ⟨24, 2, [.agg [.sl (ints items), .int .i64 shifts]]⟩), (5, ⟨29, 2, [.agg [.int .i64 den, .sl (ints ch)]]⟩)])) (fun x => ch.length - x.1) ⟨0, Nat.zero_le _, fun k hk => absurd hk (Nat.not_lt_zero _)⟩ ?_ (fun ⟨i, hin, hno⟩ => ?_)
      · refine weakX [] (of_decide_eq_true rfl) (of_decide_eq_true rfl) ?_
        (simp only [vcW, vcV, vcD, Int.reduceEq, Int.reduceNe, Int.reduceLT, Int.reduceLE, Nat.reduceEqDiff, Nat.reduceAdd, reduceIte, reduceCtorEq, Nat.reduceLT, Nat.reduceLeDiff, eq_self, vcP2, Nat.reduceShiftRight, Nat.reduceMod])
        (repeat' first | exact trivial | (with_reducible exact RnB.fxB (ints_fxB _)) | (with_reducible rfl) | (with_reducible refine And.intro ?_ ?_) | (with_reducible refine RnB.bb ?_; simp only [vcW, vcV, vcD, Int.reduceEq, Int.reduceNe, Int.reduceLT, Int.reduceLE, Nat.reduceEqDiff, Nat.reduceAdd, reduceIte, reduceCtorEq, Nat.reduceLT, Nat.reduceLeDiff, eq_self, vcP2, Nat.reduceShiftRight, Nat.reduceMod]) | (with_reducible refine RnB.nb ?_; simp only [vcW, vcV, vcD, Int.reduceEq, Int.reduceNe, Int.reduceLT, Int.reduceLE, Nat.reduceEqDiff, Nat.reduceAdd, reduceIte, reduceCtorEq, Nat.reduceLT, Nat.reduceLeDiff, eq_self, vcP2, Nat.reduceShiftRight, Nat.reduceMod]) | (with_reducible refine RnB.ii ?_) | (with_reducible refine RnB.app ?_) | (with_reducible refine RnB.fxB ?_; simp only [vcW, vcV, vcD, Int.reduceEq, Int.reduceNe, Int.reduceLT, Int.reduceLE, Nat.reduceEqDiff, Nat.reduceAdd, reduceIte, reduceCtorEq, Nat.reduceLT, Nat.reduceLeDiff, eq_self, vcP2, Nat.reduceShiftRight, Nat.reduceMod]) | omega)
      · dsimp only at hin ⊢
        by_cases h' : i < ch.length
        · have hc2 : (i : Int) < shifts := by omega
          have hgd : ch.getD i 0 = ch[i] := getD_at h'
          have hW0 := WideOf_s 0 (by unfold I64; omega)
          simp only [hc2, vcV, vcD, Int.reduceEq, Int.reduceNe, Int.reduceLT, Int.reduceLE, Nat.reduceEqDiff, Nat.reduceAdd, reduceIte, reduceCtorEq, Nat.reduceLT, Nat.reduceLeDiff, eq_self, vcP2, Nat.reduceShiftRight, Nat.reduceMod]
          refine callS_of hW0 ?_
          rw [wide_hr]
          simp only [vcV, vcD, Int.reduceEq, Int.reduceNe, Int.reduceLT, Int.reduceLE, Nat.reduceEqDiff, Nat.reduceAdd, reduceIte, reduceCtorEq, Nat.reduceLT, Nat.reduceLeDiff, eq_self, vcP2, Nat.reduceShiftRight, Nat.reduceMod]
          refine W_loop (t := .mk) (α := PSigma fun n : Nat => n ≤ D.length) (fun ⟨n, _⟩ => (envOf [(3, .ptr 3 0 0), (5, .ptr 5 0 0), (10, .sl (ints D)), (11, .int .i64 i), (12, .ptr 12 0 0), (13, .int .i64 n)], stOf [(3, ⟨24, 2, [.agg [.sl (ints items), .int .i64 shifts]]⟩), (5, ⟨29, 2, [.agg [.int .i64 den, .sl (ints ch)]]⟩), (12, ⟨38, 2, [wideA (gsum D items i n)]⟩)])) (fun x => D.length - x.1) ⟨0, Nat.zero_le _⟩ ?_ (fun ⟨n, hn⟩ => ?_)
          · have z : wideA (gsum D items i 0) = .agg [.int .i64 (Int.sign 0), .sl (ints (dg (Int.natAbs 0)))] := rfl
            refine weakX [] (of_decide_eq_true rfl) (of_decide_eq_true rfl) ?_
            (simp only [z, vcW, vcV, vcD, Int.reduceEq, Int.reduceNe, Int.reduceLT, Int.reduceLE, Nat.reduceEqDiff, Nat.reduceAdd, reduceIte, reduceCtorEq, Nat.reduceLT, Nat.reduceLeDiff, eq_self, vcP2, Nat.reduceShiftRight, Nat.reduceMod])
            repeat' (with_reducible refine And.intro ?_ ?_)
            try any_goals (with_reducible exact RnB.wide)
            (repeat' first | exact trivial | (with_reducible exact RnB.fxB (ints_fxB _)) | (with_reducible rfl) | (with_reducible refine And.intro ?_ ?_) | (with_reducible refine RnB.bb ?_; simp only [vcW, vcV, vcD, Int.reduceEq, Int.reduceNe, Int.reduceLT, Int.reduceLE, Nat.reduceEqDiff, Nat.reduceAdd, reduceIte, reduceCtorEq, Nat.reduceLT, Nat.reduceLeDiff, eq_self, vcP2, Nat.reduceShiftRight, Nat.reduceMod]) | (with_reducible refine RnB.nb ?_; simp only [vcW, vcV, vcD, Int.reduceEq, Int.reduceNe, Int.reduceLT, Int.reduceLE, Nat.reduceEqDiff, Nat.reduceAdd, reduceIte, reduceCtorEq, Nat.reduceLT, Nat.reduceLeDiff, eq_self, vcP2, Nat.reduceShiftRight, Nat.reduceMod]) | (with_reducible refine RnB.ii ?_) | (with_reducible refine RnB.app ?_) | (with_reducible refine RnB.fxB ?_; simp only [vcW, vcV, vcD, Int.reduceEq, Int.reduceNe, Int.reduceLT, Int.reduceLE, Nat.reduceEqDiff, Nat.reduceAdd, reduceIte, reduceCtorEq, Nat.reduceLT, Nat.reduceLeDiff, eq_self, vcP2, Nat.reduceShiftRight, Nat.reduceMod]) | omega)
          · dsimp only at hn ⊢
            by_cases h2 : n < D.length
            · have hc3 : (n : Int) < D.length := by omega
              have hxb := hdb2 _ (List.getElem_mem h2)
              have hib := itm_bd F.ib n i
              have hI := item_s items shifts ((n : Int) - i) (by omega)
              rw [itI_nat] at hI
              unfold tplA at hI
              have hpb := prod_bd (a := Lin.itm items n i) (b := D[n]) (M := 10500000000000000) (by omega) hib hxb
              rw [Int.mul_comm (Lin.itm items n i)] at hpb
              have hsb : ∀ m : Nat, m ≤ D.length → -(m * (100 * 10500000000000000 : Int)) ≤ gsum D items i m ∧ gsum D items i m ≤ m * (100 * 10500000000000000 : Int) := fun m hm => by
                refine Lin.smI_bd fun q hq => ?_
                rw [getD_at (show q < D.length by omega)]
                have := prod_bd (a := Lin.itm items q i) (b := D[q]'(by omega)) (M := 10500000000000000) (by omega) (itm_bd F.ib q i) (hdb2 _ (List.getElem_mem _))
                rw [Int.mul_comm (Lin.itm items q i)] at this
                exact this
              have hs1 := hsb n (by omega)
              have hsum := gsum_succ D items i h2
              obtain ⟨G, hGd⟩ : ∃ G, G = gsum D items i n := ⟨_, rfl⟩
              rw [← hGd] at hs1 hsum ⊢
              have hA := WideOf_s D[n] (by unfold I64; omega)
              have hB := WideOf_s (Lin.itm items n i) (by unfold I64; omega)
              have hM := WideMul_s D[n] (Lin.itm items n i) (wOk_35 (by omega)) (wOk_35 (by omega))
              have hS := WideAdd_s G (D[n] * Lin.itm items n i) (wOk_35 (by omega)) (wOk_35 (by omega))
              rw [wide_hr] at hA hB
              rw [wide_hr, wide_hr, wide_hr] at hM
              rw [wide_hr, wide_hr, wide_hr] at hS
              rw [wide_hr G]
              have hWn : wideA (gsum D items i (n + 1)) = .agg [.int .i64 (G + D[n] * Lin.itm items n i).sign, .sl (ints (dg (G + D[n] * Lin.itm items n i).natAbs))] := by rw [hsum, wide_hr]
              simp only [hc3, ints_get D n h2, vcV, vcD, Int.reduceEq, Int.reduceNe, Int.reduceLT, Int.reduceLE, Nat.reduceEqDiff, Nat.reduceAdd, reduceIte, reduceCtorEq, Nat.reduceLT, Nat.reduceLeDiff, eq_self, vcP2, Nat.reduceShiftRight, Nat.reduceMod]
              (repeat (with_reducible refine And.intro ?_ ?_; focus (first | omega | (unfold I64; omega))))
              refine callS_of hA ?_
              simp only [vcV, vcD, Int.reduceEq, Int.reduceNe, Int.reduceLT, Int.reduceLE, Nat.reduceEqDiff, Nat.reduceAdd, reduceIte, reduceCtorEq, Nat.reduceLT, Nat.reduceLeDiff, eq_self, vcP2, Nat.reduceShiftRight, Nat.reduceMod]
              (repeat (with_reducible refine And.intro ?_ ?_; focus (first | omega | (unfold I64; omega))))
              refine callS_of hI ?_
              simp only [vcV, vcD, Int.reduceEq, Int.reduceNe, Int.reduceLT, Int.reduceLE, Nat.reduceEqDiff, Nat.reduceAdd, reduceIte, reduceCtorEq, Nat.reduceLT, Nat.reduceLeDiff, eq_self, vcP2, Nat.reduceShiftRight, Nat.reduceMod]
              refine callS_of hB ?_
              simp only [vcV, vcD, Int.reduceEq, Int.reduceNe, Int.reduceLT, Int.reduceLE, Nat.reduceEqDiff, Nat.reduceAdd, reduceIte, reduceCtorEq, Nat.reduceLT, Nat.reduceLeDiff, eq_self, vcP2, Nat.reduceShiftRight, Nat.reduceMod]
              refine callS_of hM ?_
              simp only [vcV, vcD, Int.reduceEq, Int.reduceNe, Int.reduceLT, Int.reduceLE, Nat.reduceEqDiff, Nat.reduceAdd, reduceIte, reduceCtorEq, Nat.reduceLT, Nat.reduceLeDiff, eq_self, vcP2, Nat.reduceShiftRight, Nat.reduceMod]
              refine callS_of hS ?_
              simp only [vcV, vcD, Int.reduceEq, Int.reduceNe, Int.reduceLT, Int.reduceLE, Nat.reduceEqDiff, Nat.reduceAdd, reduceIte, reduceCtorEq, Nat.reduceLT, Nat.reduceLeDiff, eq_self, vcP2, Nat.reduceShiftRight, Nat.reduceMod]
              (repeat (with_reducible refine And.intro ?_ ?_; focus (first | omega | (unfold I64; omega))))
              refine ⟨⟨n + 1, h2⟩, by simp only; omega, ?_⟩
              refine weakX [] (of_decide_eq_true rfl) (of_decide_eq_true rfl) ?_
              (simp only [hWn, vcW, vcV, vcD, Int.reduceEq, Int.reduceNe, Int.reduceLT, Int.reduceLE, Nat.reduceEqDiff, Nat.reduceAdd, reduceIte, reduceCtorEq, Nat.reduceLT, Nat.reduceLeDiff, eq_self, vcP2, Nat.reduceShiftRight, Nat.reduceMod])
              repeat' (with_reducible refine And.intro ?_ ?_)
              try any_goals (with_reducible exact RnB.wide)
              (repeat' first | exact trivial | (with_reducible exact RnB.fxB (ints_fxB _)) | (with_reducible rfl) | (with_reducible refine And.intro ?_ ?_) | (with_reducible refine RnB.bb ?_; simp only [vcW, vcV, vcD, Int.reduceEq, Int.reduceNe, Int.reduceLT, Int.reduceLE, Nat.reduceEqDiff, Nat.reduceAdd, reduceIte, reduceCtorEq, Nat.reduceLT, Nat.reduceLeDiff, eq_self, vcP2, Nat.reduceShiftRight, Nat.reduceMod]) | (with_reducible refine RnB.nb ?_; simp only [vcW, vcV, vcD, Int.reduceEq, Int.reduceNe, Int.reduceLT, Int.reduceLE, Nat.reduceEqDiff, Nat.reduceAdd, reduceIte, reduceCtorEq, Nat.reduceLT, Nat.reduceLeDiff, eq_self, vcP2, Nat.reduceShiftRight, Nat.reduceMod]) | (with_reducible refine RnB.ii ?_) | (with_reducible refine RnB.app ?_) | (with_reducible refine RnB.fxB ?_; simp only [vcW, vcV, vcD, Int.reduceEq, Int.reduceNe, Int.reduceLT, Int.reduceLE, Nat.reduceEqDiff, Nat.reduceAdd, reduceIte, reduceCtorEq, Nat.reduceLT, Nat.reduceLeDiff, eq_self, vcP2, Nat.reduceShiftRight, Nat.reduceMod]) | omega)
            · have hnl : n = D.length := by omega
              subst hnl
              have hc3 : ¬ (D.length : Int) < D.length := by omega
              have hag : gsum D items i D.length = grI items l ch den i := by
                rw [hgr, ← hDd]
                exact smI_ag (by omega) hi1
              rw [hag]
              have hsg := WideSign_w (grI items l ch den i)
              rw [wide_hr] at hsg ⊢
              have hsn : (0 < (grI items l ch den i).sign ↔ 0 < grI items l ch den i) ∧ ((grI items l ch den i).sign = 0 ↔ grI items l ch den i = 0) := by
                rcases Int.lt_trichotomy (grI items l ch den i) 0 with g | g | g
                · rw [Int.sign_eq_neg_one_of_neg g]; omega
                · rw [g]; decide
                · rw [Int.sign_eq_one_of_pos g]; omega
              simp only [hc3, vcV, vcD, Int.reduceEq, Int.reduceNe, Int.reduceLT, Int.reduceLE, Nat.reduceEqDiff, Nat.reduceAdd, reduceIte, reduceCtorEq, Nat.reduceLT, Nat.reduceLeDiff, eq_self, vcP2, Nat.reduceShiftRight, Nat.reduceMod]
              refine callS_of hsg ?_
              by_cases q1 : 0 < grI items l ch den i
              · have hp : ckP items l ch den i = true := by unfold ckP; simp [q1]
                have ha := ckA_some h' hp hno
                have q1' := hsn.1.2 q1
                simp only [q1', ha, vcV, vcD, Int.reduceEq, Int.reduceNe, Int.reduceLT, Int.reduceLE, Nat.reduceEqDiff, Nat.reduceAdd, reduceIte, reduceCtorEq, Nat.reduceLT, Nat.reduceLeDiff, eq_self, vcP2, Nat.reduceShiftRight, Nat.reduceMod]
              · have q1' : ¬ 0 < (grI items l ch den i).sign := fun h => q1 (hsn.1.1 h)
                simp only [q1', vcV, vcD, Int.reduceEq, Int.reduceNe, Int.reduceLT, Int.reduceLE, Nat.reduceEqDiff, Nat.reduceAdd, reduceIte, reduceCtorEq, Nat.reduceLT, Nat.reduceLeDiff, eq_self, vcP2, Nat.reduceShiftRight, Nat.reduceMod]
                refine callS_of hsg ?_
                by_cases q2 : grI items l ch den i = 0
                · have hp : ckP items l ch den i = false := by unfold ckP; simp [q1, q2]
                  have q2' := hsn.2.2 q2
                  simp only [q2', vcV, vcD, Int.reduceEq, Int.reduceNe, Int.reduceLT, Int.reduceLE, Nat.reduceEqDiff, Nat.reduceAdd, reduceIte, reduceCtorEq, Nat.reduceLT, Nat.reduceLeDiff, eq_self, vcP2, Nat.reduceShiftRight, Nat.reduceMod]
                  (repeat (with_reducible refine And.intro ?_ ?_; focus (first | omega | (unfold I64; omega))))
                  refine ⟨⟨i + 1, h', fun k hk => ?_⟩, by simp only; omega, ?_⟩
                  · by_cases e : k = i
                    · rw [e]; exact hp
                    · exact hno k (by omega)
                  · refine weakX [] (of_decide_eq_true rfl) (of_decide_eq_true rfl) ?_
                    (simp only [vcW, vcV, vcD, Int.reduceEq, Int.reduceNe, Int.reduceLT, Int.reduceLE, Nat.reduceEqDiff, Nat.reduceAdd, reduceIte, reduceCtorEq, Nat.reduceLT, Nat.reduceLeDiff, eq_self, vcP2, Nat.reduceShiftRight, Nat.reduceMod])
                    (repeat' first | exact trivial | (with_reducible exact RnB.fxB (ints_fxB _)) | (with_reducible rfl) | (with_reducible refine And.intro ?_ ?_) | (with_reducible refine RnB.bb ?_; simp only [vcW, vcV, vcD, Int.reduceEq, Int.reduceNe, Int.reduceLT, Int.reduceLE, Nat.reduceEqDiff, Nat.reduceAdd, reduceIte, reduceCtorEq, Nat.reduceLT, Nat.reduceLeDiff, eq_self, vcP2, Nat.reduceShiftRight, Nat.reduceMod]) | (with_reducible refine RnB.nb ?_; simp only [vcW, vcV, vcD, Int.reduceEq, Int.reduceNe, Int.reduceLT, Int.reduceLE, Nat.reduceEqDiff, Nat.reduceAdd, reduceIte, reduceCtorEq, Nat.reduceLT, Nat.reduceLeDiff, eq_self, vcP2, Nat.reduceShiftRight, Nat.reduceMod]) | (with_reducible refine RnB.ii ?_) | (with_reducible refine RnB.app ?_) | (with_reducible refine RnB.fxB ?_; simp only [vcW, vcV, vcD, Int.reduceEq, Int.reduceNe, Int.reduceLT, Int.reduceLE, Nat.reduceEqDiff, Nat.reduceAdd, reduceIte, reduceCtorEq, Nat.reduceLT, Nat.reduceLeDiff, eq_self, vcP2, Nat.reduceShiftRight, Nat.reduceMod]) | omega)
                · have q2' : ¬ (grI items l ch den i).sign = 0 := fun h => q2 (hsn.2.1 h)
                  by_cases q3 : 0 < ch[i]
                  · have hp : ckP items l ch den i = true := by unfold ckP; rw [hgd]; simp [q2, q3]
                    have ha := ckA_some h' hp hno
                    simp only [q2', ints_get ch i h', q3, ha, vcV, vcD, Int.reduceEq, Int.reduceNe, Int.reduceLT, Int.reduceLE, Nat.reduceEqDiff, Nat.reduceAdd, reduceIte, reduceCtorEq, Nat.reduceLT, Nat.reduceLeDiff, eq_self, vcP2, Nat.reduceShiftRight, Nat.reduceMod]
                    try omega
                  · have hp : ckP items l ch den i = false := by unfold ckP; rw [hgd]; simp [q1, q3]
                    simp only [q2', ints_get ch i h', q3, vcV, vcD, Int.reduceEq, Int.reduceNe, Int.reduceLT, Int.reduceLE, Nat.reduceEqDiff, Nat.reduceAdd, reduceIte, reduceCtorEq, Nat.reduceLT, Nat.reduceLeDiff, eq_self, vcP2, Nat.reduceShiftRight, Nat.reduceMod]
                    (repeat (with_reducible refine And.intro ?_ ?_; focus (first | omega | (unfold I64; omega))))
                    refine ⟨⟨i + 1, h', fun k hk => ?_⟩, by simp only; omega, ?_⟩
                    · by_cases e : k = i
                      · rw [e]; exact hp
                      · exact hno k (by omega)
                    · refine weakX [] (of_decide_eq_true rfl) (of_decide_eq_true rfl) ?_
                      (simp only [vcW, vcV, vcD, Int.reduceEq, Int.reduceNe, Int.reduceLT, Int.reduceLE, Nat.reduceEqDiff, Nat.reduceAdd, reduceIte, reduceCtorEq, Nat.reduceLT, Nat.reduceLeDiff, eq_self, vcP2, Nat.reduceShiftRight, Nat.reduceMod])
                      (repeat' first | exact trivial | (with_reducible exact RnB.fxB (ints_fxB _)) | (with_reducible rfl) | (with_reducible refine And.intro ?_ ?_) | (with_reducible refine RnB.bb ?_; simp only [vcW, vcV, vcD, Int.reduceEq, Int.reduceNe, Int.reduceLT, Int.reduceLE, Nat.reduceEqDiff, Nat.reduceAdd, reduceIte, reduceCtorEq, Nat.reduceLT, Nat.reduceLeDiff, eq_self, vcP2, Nat.reduceShiftRight, Nat.reduceMod]) | (with_reducible refine RnB.nb ?_; simp only [vcW, vcV, vcD, Int.reduceEq, Int.reduceNe, Int.reduceLT, Int.reduceLE, Nat.reduceEqDiff, Nat.reduceAdd, reduceIte, reduceCtorEq, Nat.reduceLT, Nat.reduceLeDiff, eq_self, vcP2, Nat.reduceShiftRight, Nat.reduceMod]) | (with_reducible refine RnB.ii ?_) | (with_reducible refine RnB.app ?_) | (with_reducible refine RnB.fxB ?_; simp only [vcW, vcV, vcD, Int.reduceEq, Int.reduceNe, Int.reduceLT, Int.reduceLE, Nat.reduceEqDiff, Nat.reduceAdd, reduceIte, reduceCtorEq, Nat.reduceLT, Nat.reduceLeDiff, eq_self, vcP2, Nat.reduceShiftRight, Nat.reduceMod]) | omega)
        · have hil : i = ch.length := by omega
          subst hil
          have hc2 : ¬ (ch.length : Int) < shifts := by omega
          have ha := ckA_none hno
          simp only [hc2, ha, vcV, vcD, Int.reduceEq, Int.reduceNe, Int.reduceLT, Int.reduceLE, Nat.reduceEqDiff, Nat.reduceAdd, reduceIte, reduceCtorEq, Nat.reduceLT, Nat.reduceLeDiff, eq_self, vcP2, Nat.reduceShiftRight, Nat.reduceMod]
end Go.Proofs.YtgmpcbpmnimkoaaGreatDoor

/- Contracts of the reference: squares, numerals of wide numbers, what is kept. By an AI agent; nothing here is trusted. -/
namespace Go.Proofs.YtgmpcbpmnimkoaaGreatDoor
open Go.Av

theorem Squares_s {items : List Int} {shifts : Int} {l : List Int} {den : Int} {ch : List Int} (F : FitIn items l shifts ch den) :
    Sound Tryz.prog 38 [tplA items shifts, .sl (ints l), fitA den ch] (wideA ((sqN (dfL items l ch den) : Nat) : Int)) := by
  refine sound_W f_ref02_Squares (Nat.le_of_ble_eq_true rfl) ?_
  have hD := Off_s F
  have hb := F.dfb
  have hlen : (dfL items l ch den).length ≤ 10 := by rw [dfL_len, F.mlen]; exact F.l10
  generalize dfL items l ch den = D at *
  have hle : ∀ i : Nat, sqN (D.take i) ≤ 1102500000000000000000000000000000 := fun i => by
    have := sqN_bd (l := D.take i) fun x hx => hb x (List.mem_of_mem_take hx)
    have h2 : (D.take i).length ≤ 10 := by simp; omega
    omega
  unfold tplA fitA at hD
  have hW0 := WideOf_s 0 (by unfold I64; omega)
  simp only [c_ref02_Squares, tplA, fitA, vcV, vcD, Int.reduceEq, Int.reduceNe, Int.reduceLT, Int.reduceLE, Nat.reduceEqDiff, Nat.reduceAdd, reduceIte, reduceCtorEq, Nat.reduceLT, Nat.reduceLeDiff, eq_self, vcP2, Nat.reduceShiftRight, Nat.reduceMod]
  refine callS_of hW0 ?_
  rw [wide_hr 0]
  simp only [vcV, vcD, Int.reduceEq, Int.reduceNe, Int.reduceLT, Int.reduceLE, Nat.reduceEqDiff, Nat.reduceAdd, reduceIte, reduceCtorEq, Nat.reduceLT, Nat.reduceLeDiff, eq_self, vcP2, Nat.reduceShiftRight, Nat.reduceMod]
  refine callS_of hD ?_
  simp only [vcV, vcD, Int.reduceEq, Int.reduceNe, Int.reduceLT, Int.reduceLE, Nat.reduceEqDiff, Nat.reduceAdd, reduceIte, reduceCtorEq, Nat.reduceLT, Nat.reduceLeDiff, eq_self, vcP2, Nat.reduceShiftRight, Nat.reduceMod]
  refine W_loop (t := .mk) (α := PSigma fun i : Nat => i ≤ D.length) (fun ⟨i, _⟩ => (envOf [(6, .ptr 6 0 0), (7, .ptr 7 0 0), (8, .sl (ints D)), (9, .int .i64 i)], stOf [(6, ⟨38, 2, [.agg [.int .i64 0, .nils]]⟩), (7, ⟨38, 2, [wideA ((sqN (D.take i) : Nat) : Int)]⟩)])) (fun x => D.length - x.1) ⟨0, Nat.zero_le _⟩ ?_ (fun ⟨i, hin⟩ => ?_)
  · have z : wideA ((sqN [] : Nat) : Int) = .agg [.int .i64 (Int.sign 0), .sl (ints (dg (Int.natAbs 0)))] := rfl
    refine weakX [] (of_decide_eq_true rfl) (of_decide_eq_true rfl) ?_
    (simp only [z, vcW, vcV, vcD, Int.reduceEq, Int.reduceNe, Int.reduceLT, Int.reduceLE, Nat.reduceEqDiff, Nat.reduceAdd, reduceIte, reduceCtorEq, Nat.reduceLT, Nat.reduceLeDiff, eq_self, vcP2, Nat.reduceShiftRight, Nat.reduceMod])
    repeat' (with_reducible refine And.intro ?_ ?_)
    try any_goals (with_reducible exact RnB.wide)
    (repeat' first | exact trivial | (with_reducible exact RnB.fxB (ints_fxB _)) | (with_reducible rfl) | (with_reducible refine And.intro ?_ ?_) | (with_reducible refine RnB.bb ?_; simp only [vcW, vcV, vcD, Int.reduceEq, Int.reduceNe, Int.reduceLT, Int.reduceLE, Nat.reduceEqDiff, Nat.reduceAdd, reduceIte, reduceCtorEq, Nat.reduceLT, Nat.reduceLeDiff, eq_self, vcP2, Nat.reduceShiftRight, Nat.reduceMod]) | (with_reducible refine RnB.nb ?_; simp only [vcW, vcV, vcD, Int.reduceEq, Int.reduceNe, Int.reduceLT, Int.reduceLE, Nat.reduceEqDiff, Nat.reduceAdd, reduceIte, reduceCtorEq, Nat.reduceLT, Nat.reduceLeDiff, eq_self, vcP2, Nat.reduceShiftRight, Nat.reduceMod]) | (with_reducible refine RnB.ii ?_) | (with_reducible refine RnB.app ?_) | (with_reducible refine RnB.fxB ?_; simp only [vcW, vcV, vcD, Int.reduceEq, Int.reduceNe, Int.reduceLT, Int.reduceLE, Nat.reduceEqDiff, Nat.reduceAdd, reduceIte, reduceCtorEq, Nat.reduceLT, Nat.reduceLeDiff, eq_self, vcP2, Nat.reduceShiftRight, Nat.reduceMod]) | omega)
    all_goals first | exact RnB.an (by decide) | skip
  · dsimp only at hin ⊢
    by_cases h' : i < D.length
    · have hc1 : (i : Int) < D.length := by omega
      have hxb := hb _ (List.getElem_mem h')
      have hA := WideOf_s D[i] (by unfold I64; omega)
      have hsq : D[i].natAbs * D[i].natAbs ≤ 10500000000000000 * 10500000000000000 := Nat.mul_le_mul (by omega) (by omega)
      have hxx : D[i] * D[i] = ((D[i].natAbs * D[i].natAbs : Nat) : Int) := Int.natAbs_mul_self.symm
      have hM := WideMul_s D[i] D[i] (wOk_35 (by omega)) (wOk_35 (by omega))
      have hle1 := hle i
      have hn := sqN_next D h'
      have hS := WideAdd_s ((sqN (D.take i) : Nat) : Int) (D[i] * D[i]) (wOk_35 (by omega)) (wOk_35 (by omega))
      have hsum : ((sqN (D.take i) : Nat) : Int) + D[i] * D[i] = ((sqN (D.take (i + 1)) : Nat) : Int) := by rw [hxx, hn]; omega
      rw [hsum] at hS
      have hWn := wide_hr ((sqN (D.take (i + 1)) : Nat) : Int)
      rw [wide_hr] at hA
      rw [wide_hr, wide_hr] at hM
      rw [wide_hr, wide_hr, wide_hr] at hS
      rw [wide_hr ((sqN (D.take i) : Nat) : Int)]
      simp only [hc1, ints_get D i h', vcV, vcD, Int.reduceEq, Int.reduceNe, Int.reduceLT, Int.reduceLE, Nat.reduceEqDiff, Nat.reduceAdd, reduceIte, reduceCtorEq, Nat.reduceLT, Nat.reduceLeDiff, eq_self, vcP2, Nat.reduceShiftRight, Nat.reduceMod]
      (repeat (with_reducible refine And.intro ?_ ?_; focus (first | omega | (unfold I64; omega))))
      refine callS_of hA ?_
      simp only [ints_get D i h', vcV, vcD, Int.reduceEq, Int.reduceNe, Int.reduceLT, Int.reduceLE, Nat.reduceEqDiff, Nat.reduceAdd, reduceIte, reduceCtorEq, Nat.reduceLT, Nat.reduceLeDiff, eq_self, vcP2, Nat.reduceShiftRight, Nat.reduceMod]
      (repeat (with_reducible refine And.intro ?_ ?_; focus (first | omega | (unfold I64; omega))))
      refine callS_of hA ?_
      simp only [vcV, vcD, Int.reduceEq, Int.reduceNe, Int.reduceLT, Int.reduceLE, Nat.reduceEqDiff, Nat.reduceAdd, reduceIte, reduceCtorEq, Nat.reduceLT, Nat.reduceLeDiff, eq_self, vcP2, Nat.reduceShiftRight, Nat.reduceMod]
      refine callS_of hM ?_
      simp only [vcV, vcD, Int.reduceEq, Int.reduceNe, Int.reduceLT, Int.reduceLE, Nat.reduceEqDiff, Nat.reduceAdd, reduceIte, reduceCtorEq, Nat.reduceLT, Nat.reduceLeDiff, eq_self, vcP2, Nat.reduceShiftRight, Nat.reduceMod]
      refine callS_of hS ?_
      simp only [vcV, vcD, Int.reduceEq, Int.reduceNe, Int.reduceLT, Int.reduceLE, Nat.reduceEqDiff, Nat.reduceAdd, reduceIte, reduceCtorEq, Nat.reduceLT, Nat.reduceLeDiff, eq_self, vcP2, Nat.reduceShiftRight, Nat.reduceMod]
      (repeat (with_reducible refine And.intro ?_ ?_; focus (first | omega | (unfold I64; omega))))
      refine ⟨⟨i + 1, h'⟩, by simp only; omega, ?_⟩
      refine weakX [] (of_decide_eq_true rfl) (of_decide_eq_true rfl) ?_
      (simp only [hWn, vcW, vcV, vcD, Int.reduceEq, Int.reduceNe, Int.reduceLT, Int.reduceLE, Nat.reduceEqDiff, Nat.reduceAdd, reduceIte, reduceCtorEq, Nat.reduceLT, Nat.reduceLeDiff, eq_self, vcP2, Nat.reduceShiftRight, Nat.reduceMod])
      repeat' (with_reducible refine And.intro ?_ ?_)
      try any_goals (with_reducible exact RnB.wide)
      (repeat' first | exact trivial | (with_reducible exact RnB.fxB (ints_fxB _)) | (with_reducible rfl) | (with_reducible refine And.intro ?_ ?_) | (with_reducible refine RnB.bb ?_; simp only [vcW, vcV, vcD, Int.reduceEq, Int.reduceNe, Int.reduceLT, Int.reduceLE, Nat.reduceEqDiff, Nat.reduceAdd, reduceIte, reduceCtorEq, Nat.reduceLT, Nat.reduceLeDiff, eq_self, vcP2, Nat.reduceShiftRight, Nat.reduceMod]) | (with_reducible refine RnB.nb ?_; simp only [vcW, vcV, vcD, Int.reduceEq, Int.reduceNe, Int.reduceLT, Int.reduceLE, Nat.reduceEqDiff, Nat.reduceAdd, reduceIte, reduceCtorEq, Nat.reduceLT, Nat.reduceLeDiff, eq_self, vcP2, Nat.reduceShiftRight, Nat.reduceMod]) | (with_reducible refine RnB.ii ?_) | (with_reducible refine RnB.app ?_) | (with_reducible refine RnB.fxB ?_; simp only [vcW, vcV, vcD, Int.reduceEq, Int.reduceNe, Int.reduceLT, Int.reduceLE, Nat.reduceEqDiff, Nat.reduceAdd, reduceIte, reduceCtorEq, Nat.reduceLT, Nat.reduceLeDiff, eq_self, vcP2, Nat.reduceShiftRight, Nat.reduceMod]) | omega)
      all_goals first | exact RnB.an (by decide) | skip
    · have hil : i = D.length := by omega
      subst hil
      have hc1 : ¬ (D.length : Int) < D.length := by omega
      rw [List.take_length]
      have hWn := wide_hr ((sqN D : Nat) : Int)
      rw [hWn]
      simp only [hc1, vcV, vcD, Int.reduceEq, Int.reduceNe, Int.reduceLT, Int.reduceLE, Nat.reduceEqDiff, Nat.reduceAdd, reduceIte, reduceCtorEq, Nat.reduceLT, Nat.reduceLeDiff, eq_self, vcP2, Nat.reduceShiftRight, Nat.reduceMod]
theorem e92 : (1000000000 : Nat) ^ 2 = 1000000000000000000 := by decide
theorem pow9 {k : Nat} (h : k ≤ 2) : (1000000000 : Int) ^ k ≤ 1000000000000000000 := by
  have h1 : (1000000000 : Nat) ^ k ≤ 1000000000 ^ 2 := Nat.pow_le_pow_right (by omega) h
  rw [e92] at h1
  have h2 : (1000000000 : Int) ^ k = ((1000000000 ^ k : Nat) : Int) := by simp
  rw [h2]; omega
theorem dg_two {n : Nat} (h : n < 1000000000000000000) : (dg n).length ≤ 2 := dg_len (k := 2) (by rw [e92]; exact h)
theorem dg_three {n : Nat} (h : ¬ n < 1000000000000000000) : 2 < (dg n).length := by
  refine Classical.byContradiction fun hn => h ?_
  have h1 := dVal_lt (okD_dg n)
  rw [dVal_dg] at h1
  have h2 := pow9 (k := (dg n).length) (by omega)
  omega
theorem WideInt_s (v : Int) : Sound Tryz.prog 110 [wideA v] (.tup [.int .i64 (if v.natAbs < 1000000000000000000 then v else 0), .bool (decide (v.natAbs < 1000000000000000000))]) := by
  refine sound_W f_base_WideInt (Nat.le_of_ble_eq_true rfl) ?_
  rw [wide_hr]
  by_cases h : v.natAbs < 1000000000000000000
  case neg =>
    have h3 : (2 : Int) < (dg v.natAbs).length := by have := dg_three h; omega
    rw [if_neg h]
    simp only [c_base_WideInt, h3, h, vcV, vcD, Int.reduceEq, Int.reduceNe, Int.reduceLT, Int.reduceLE, Nat.reduceEqDiff, Nat.reduceAdd, reduceIte, reduceCtorEq, Nat.reduceLT, Nat.reduceLeDiff, eq_self, vcP2, Nat.reduceShiftRight, Nat.reduceMod]
  have h2 := dg_two h
  have h3 : ¬ (2 : Int) < (dg v.natAbs).length := by omega
  have hv := dVal_dg v.natAbs
  have ho := okD_dg v.natAbs
  have hsv : v.sign * (v.natAbs : Int) = v := Int.sign_mul_natAbs v
  rw [if_pos h]
  generalize dg v.natAbs = l at *
  have hbd : ∀ k, 0 ≤ dVal (l.drop k) ∧ dVal (l.drop k) < 1000000000000000000 := fun k => by
    have ok : okD (l.drop k) := fun d hd => ho d (List.mem_of_mem_drop hd)
    refine ⟨dVal_nonneg ok, ?_⟩
    have h1 := dVal_lt ok
    have h2 := pow9 (k := (l.drop k).length) (by rw [List.length_drop]; omega)
    omega
  simp only [c_base_WideInt, h3, h, vcV, vcD, Int.reduceEq, Int.reduceNe, Int.reduceLT, Int.reduceLE, Nat.reduceEqDiff, Nat.reduceAdd, reduceIte, reduceCtorEq, Nat.reduceLT, Nat.reduceLeDiff, eq_self, vcP2, Nat.reduceShiftRight, Nat.reduceMod]
  (repeat (with_reducible refine And.intro ?_ ?_; focus (first | omega | (unfold I64; omega))))
  refine W_loop (t := .mk) (α := PSigma fun i : Nat => i ≤ l.length) (fun ⟨i, _⟩ => (envOf [(1, .ptr 1 0 0), (4, .int .i64 (dVal (l.drop (l.length - i)))), (5, .int .i64 ((l.length : Int) - 1 - i))], stOf [(1, ⟨38, 2, [.agg [.int .i64 v.sign, .sl (ints l)]]⟩)])) (fun x => l.length - x.1) ⟨0, Nat.zero_le _⟩ ?_ (fun ⟨i, hin⟩ => ?_)
  · have e0 : dVal (l.drop (l.length - 0)) = 0 := by rw [Nat.sub_zero, List.drop_length]; rfl
    have e1 : (l.length : Int) - 1 - (0 : Nat) = (l.length : Int) - 1 := by omega
    refine weakX [] (of_decide_eq_true rfl) (of_decide_eq_true rfl) ?_
    (simp only [e0, e1, vcW, vcV, vcD, Int.reduceEq, Int.reduceNe, Int.reduceLT, Int.reduceLE, Nat.reduceEqDiff, Nat.reduceAdd, reduceIte, reduceCtorEq, Nat.reduceLT, Nat.reduceLeDiff, eq_self, vcP2, Nat.reduceShiftRight, Nat.reduceMod])
    (repeat' first | exact trivial | (with_reducible exact RnB.fxB (ints_fxB _)) | (with_reducible rfl) | (with_reducible refine And.intro ?_ ?_) | (with_reducible refine RnB.bb ?_; simp only [vcW, vcV, vcD, Int.reduceEq, Int.reduceNe, Int.reduceLT, Int.reduceLE, Nat.reduceEqDiff, Nat.reduceAdd, reduceIte, reduceCtorEq, Nat.reduceLT, Nat.reduceLeDiff, eq_self, vcP2, Nat.reduceShiftRight, Nat.reduceMod]) | (with_reducible refine RnB.nb ?_; simp only [vcW, vcV, vcD, Int.reduceEq, Int.reduceNe, Int.reduceLT, Int.reduceLE, Nat.reduceEqDiff, Nat.reduceAdd, reduceIte, reduceCtorEq, Nat.reduceLT, Nat.reduceLeDiff, eq_self, vcP2, Nat.reduceShiftRight, Nat.reduceMod]) | (with_reducible refine RnB.ii ?_) | (with_reducible refine RnB.app ?_) | (with_reducible refine RnB.fxB ?_; simp only [vcW, vcV, vcD, Int.reduceEq, Int.reduceNe, Int.reduceLT, Int.reduceLE, Nat.reduceEqDiff, Nat.reduceAdd, reduceIte, reduceCtorEq, Nat.reduceLT, Nat.reduceLeDiff, eq_self, vcP2, Nat.reduceShiftRight, Nat.reduceMod]) | omega)
  · dsimp only at hin ⊢
    by_cases h' : i < l.length
    · have hc1 : (0 : Int) ≤ (l.length : Int) - 1 - i := by omega
      have hj : l.length - 1 - i < l.length := by omega
      have hji : (l.length : Int) - 1 - i = ((l.length - 1 - i : Nat) : Int) := by omega
      have hg := ints_get l (l.length - 1 - i) hj
      have hdr : l.drop (l.length - (i + 1)) = l[l.length - 1 - i] :: l.drop (l.length - i) := by
        rw [show l.length - (i + 1) = l.length - 1 - i by omega, List.drop_eq_getElem_cons hj]
        congr 2; omega
      have hb1 := hbd (l.length - i)
      have hb2 := hbd (l.length - (i + 1))
      have hoj := ho _ (List.getElem_mem hj)
      have hnx : dVal (l.drop (l.length - i)) * 1000000000 + l[l.length - 1 - i] = dVal (l.drop (l.length - (i + 1))) := by rw [hdr, dVal]; omega
      have e2 : ((l.length - 1 - i : Nat) : Int) - 1 = (l.length : Int) - 1 - ((i + 1 : Nat) : Int) := by omega
      rw [hji] at hc1 ⊢
      generalize l[l.length - 1 - i] = dd at *
      simp only [hc1, hg, hnx, e2, vcV, vcD, Int.reduceEq, Int.reduceNe, Int.reduceLT, Int.reduceLE, Nat.reduceEqDiff, Nat.reduceAdd, reduceIte, reduceCtorEq, Nat.reduceLT, Nat.reduceLeDiff, eq_self, vcP2, Nat.reduceShiftRight, Nat.reduceMod]
      (repeat (with_reducible refine And.intro ?_ ?_; focus (first | omega | (unfold I64; omega))))
      refine ⟨⟨i + 1, h'⟩, by simp only; omega, ?_⟩
      refine weakX [] (of_decide_eq_true rfl) (of_decide_eq_true rfl) ?_
      (simp only [vcW, vcV, vcD, Int.reduceEq, Int.reduceNe, Int.reduceLT, Int.reduceLE, Nat.reduceEqDiff, Nat.reduceAdd, reduceIte, reduceCtorEq, Nat.reduceLT, Nat.reduceLeDiff, eq_self, vcP2, Nat.reduceShiftRight, Nat.reduceMod])
      (repeat' first | exact trivial | (with_reducible exact RnB.fxB (ints_fxB _)) | (with_reducible rfl) | (with_reducible refine And.intro ?_ ?_) | (with_reducible refine RnB.bb ?_; simp only [vcW, vcV, vcD, Int.reduceEq, Int.reduceNe, Int.reduceLT, Int.reduceLE, Nat.reduceEqDiff, Nat.reduceAdd, reduceIte, reduceCtorEq, Nat.reduceLT, Nat.reduceLeDiff, eq_self, vcP2, Nat.reduceShiftRight, Nat.reduceMod]) | (with_reducible refine RnB.nb ?_; simp only [vcW, vcV, vcD, Int.reduceEq, Int.reduceNe, Int.reduceLT, Int.reduceLE, Nat.reduceEqDiff, Nat.reduceAdd, reduceIte, reduceCtorEq, Nat.reduceLT, Nat.reduceLeDiff, eq_self, vcP2, Nat.reduceShiftRight, Nat.reduceMod]) | (with_reducible refine RnB.ii ?_) | (with_reducible refine RnB.app ?_) | (with_reducible refine RnB.fxB ?_; simp only [vcW, vcV, vcD, Int.reduceEq, Int.reduceNe, Int.reduceLT, Int.reduceLE, Nat.reduceEqDiff, Nat.reduceAdd, reduceIte, reduceCtorEq, Nat.reduceLT, Nat.reduceLeDiff, eq_self, vcP2, Nat.reduceShiftRight, Nat.reduceMod]) | omega)
    · have hil : i = l.length := by omega
      subst hil
      have hc1 : ¬ (0 : Int) ≤ (l.length : Int) - 1 - l.length := by omega
      have hb1 := hbd 0
      rw [List.drop_zero, hv] at hb1
      rw [Nat.sub_self, List.drop_zero, hv]
      simp only [hc1, hsv, h, vcV, vcD, Int.reduceEq, Int.reduceNe, Int.reduceLT, Int.reduceLE, Nat.reduceEqDiff, Nat.reduceAdd, reduceIte, reduceCtorEq, Nat.reduceLT, Nat.reduceLeDiff, eq_self, vcP2, Nat.reduceShiftRight, Nat.reduceMod]
      unfold I64; omega
theorem bytesOf_1 (n : Int) (h : 0 ≤ n ∧ n < 256) : bytesOf [.int .u8 n] = some [UInt8.ofNat n.toNat] := by
  simp only [bytesOf, h, and_self, if_true, Option.map_some]
theorem u8_wrap {n : Int} (h : 0 ≤ n ∧ n < 256) : IntKind.u8.wrap n = n := by
  have : IntKind.u8.wrap n = n % 256 := by simp [IntKind.wrap, IntKind.bits, IntKind.signed]
  rw [this]; omega
theorem itoa_zero : Lib.itoa 0 = [48] := by
  unfold Lib.itoa; rw [if_neg (by omega)]
  show Lib.decDigits 0 = [48]
  rw [Lib.decDigits]; rfl
theorem dec_snoc {u : Nat} (h : 10 ≤ u) : Lib.decDigits u = Lib.decDigits (u / 10) ++ [UInt8.ofNat (48 + u % 10)] := by
  conv => lhs; rw [Lib.decDigits, dif_neg (by omega)]
def decM (u : Nat) : List UInt8 := if u = 0 then [] else Lib.decDigits u
theorem decM_step {u : Nat} (h : u ≠ 0) : decM u = decM (u / 10) ++ [UInt8.ofNat (48 + u % 10)] := by
  unfold decM
  rw [if_neg h]
  by_cases h10 : u < 10
  · rw [if_pos (by omega), Lib.decDigits, dif_pos h10, Nat.mod_eq_of_lt h10]; rfl
  · rw [if_neg (by omega), dec_snoc (by omega)]
theorem decM_len : ∀ {u k : Nat}, u < 10 ^ k → (decM u).length ≤ k
  | u, 0, h => by
    have : u = 0 := by simpa using h
    subst this; simp [decM]
  | u, k + 1, h => by
    by_cases h0 : u = 0
    · subst h0; simp [decM]
    · rw [decM_step h0, List.length_append, List.length_singleton]
      have := decM_len (u := u / 10) (k := k) (by rw [Nat.pow_succ] at h; omega)
      omega
theorem Decimal_s (n : Int) (hn : S63 n) : Sound Tryz.prog 111 [.int .i64 n] (.str (Lib.itoa n)) := by
  refine sound_W f_base_Decimal (Nat.le_of_ble_eq_true rfl) ?_
  by_cases h0 : n = 0
  · subst h0
    rw [itoa_zero]
    simp only [c_base_Decimal, vcV, vcD, Int.reduceEq, Int.reduceNe, Int.reduceLT, Int.reduceLE, Nat.reduceEqDiff, Nat.reduceAdd, reduceIte, reduceCtorEq, Nat.reduceLT, Nat.reduceLeDiff, eq_self, vcP2, Nat.reduceShiftRight, Nat.reduceMod]
  have hn' := hn
  unfold S63 at hn
  have hbig : ∀ u : Nat, u ≤ n.natAbs → (decM u).length ≤ 20 := fun u hu => decM_len (by have : (10 : Nat) ^ 20 = 100000000000000000000 := by decide
                                                                                         omega)
  have key : ∃ (f : Nat → Int) (sg : List UInt8), f n.natAbs = n ∧ sg ++ decM n.natAbs = Lib.itoa n ∧ sg = (if n < 0 then [45] else []) ∧
      ∀ u : Nat, (u ≠ 0 → ¬ f u = 0) ∧ f 0 = 0 ∧ (f u).tdiv 10 = f (u / 10) ∧ (f u).tmod 10 = f (u % 10) ∧ (f u).natAbs = u := by
    have hd : decM n.natAbs = Lib.decDigits n.natAbs := by unfold decM; rw [if_neg (by omega)]
    by_cases h : n < 0
    · refine ⟨fun u => -(u : Int), [45], by simp only; omega, ?_, by rw [if_pos h], fun u => ⟨fun hu => by simp only; omega, rfl, by simp only; rw [Int.neg_tdiv]; rfl, by simp only; rw [Int.neg_tmod]; rfl, by simp only; omega⟩⟩
      unfold Lib.itoa; rw [if_pos h, hd]; rfl
    · refine ⟨fun u => (u : Int), [], by simp only; omega, ?_, by rw [if_neg h], fun u => ⟨fun hu => by simp only; omega, rfl, rfl, rfl, by simp only; omega⟩⟩
      unfold Lib.itoa; rw [if_neg h, show n.toNat = n.natAbs by omega, hd]; rfl
  obtain ⟨f, sg, hfn, hres, hsg, hf⟩ := key
  by_cases hneg : n < 0
  all_goals
    first | rw [if_pos hneg] at hsg | rw [if_neg hneg] at hsg
    simp only [c_base_Decimal, h0, hneg, vcV, vcD, Int.reduceEq, Int.reduceNe, Int.reduceLT, Int.reduceLE, Nat.reduceEqDiff, Nat.reduceAdd, reduceIte, reduceCtorEq, Nat.reduceLT, Nat.reduceLeDiff, eq_self, vcP2, Nat.reduceShiftRight, Nat.reduceMod]
    refine W_loop (t := .mk) (α := PSigma fun p : Nat × List UInt8 => p.1 ≤ n.natAbs ∧ decM p.1 ++ p.2 = decM n.natAbs) (fun ⟨p, _⟩ => (envOf [(0, .int .i64 (f p.1)), (3, .str p.2), (4, .str sg)], stOf [])) (fun x => x.1.1) ⟨(n.natAbs, []), Nat.le_refl _, List.append_nil _⟩ ?_ (fun ⟨⟨u, sfx⟩, hu, hs⟩ => ?_)
    · refine weakX [] (of_decide_eq_true rfl) (of_decide_eq_true rfl) ?_
      (simp only [hfn, hsg, vcW, vcV, vcD, Int.reduceEq, Int.reduceNe, Int.reduceLT, Int.reduceLE, Nat.reduceEqDiff, Nat.reduceAdd, reduceIte, reduceCtorEq, Nat.reduceLT, Nat.reduceLeDiff, eq_self, vcP2, Nat.reduceShiftRight, Nat.reduceMod])
      (repeat' first | exact trivial | (with_reducible exact RnB.fxB (ints_fxB _)) | (with_reducible rfl) | (with_reducible refine And.intro ?_ ?_) | (with_reducible refine RnB.bb ?_; simp only [vcW, vcV, vcD, Int.reduceEq, Int.reduceNe, Int.reduceLT, Int.reduceLE, Nat.reduceEqDiff, Nat.reduceAdd, reduceIte, reduceCtorEq, Nat.reduceLT, Nat.reduceLeDiff, eq_self, vcP2, Nat.reduceShiftRight, Nat.reduceMod]) | (with_reducible refine RnB.nb ?_; simp only [vcW, vcV, vcD, Int.reduceEq, Int.reduceNe, Int.reduceLT, Int.reduceLE, Nat.reduceEqDiff, Nat.reduceAdd, reduceIte, reduceCtorEq, Nat.reduceLT, Nat.reduceLeDiff, eq_self, vcP2, Nat.reduceShiftRight, Nat.reduceMod]) | (with_reducible refine RnB.ii ?_) | (with_reducible refine RnB.app ?_) | (with_reducible refine RnB.fxB ?_; simp only [vcW, vcV, vcD, Int.reduceEq, Int.reduceNe, Int.reduceLT, Int.reduceLE, Nat.reduceEqDiff, Nat.reduceAdd, reduceIte, reduceCtorEq, Nat.reduceLT, Nat.reduceLeDiff, eq_self, vcP2, Nat.reduceShiftRight, Nat.reduceMod]) | omega)
    · dsimp only at hu hs ⊢
      obtain ⟨f1, f2, f3, f4, f5⟩ := hf u
      by_cases hz : u = 0
      · subst hz
        have hsl : sfx = decM n.natAbs := by rw [← hs]; rfl
        have hl := hbig n.natAbs (Nat.le_refl _)
        rw [← hsl] at hl hres
        have hsgl : sg.length ≤ 1 := by rw [hsg]; decide
        rw [f2]
        simp only [hres, vcV, vcD, Int.reduceEq, Int.reduceNe, Int.reduceLT, Int.reduceLE, Nat.reduceEqDiff, Nat.reduceAdd, reduceIte, reduceCtorEq, Nat.reduceLT, Nat.reduceLeDiff, eq_self, vcP2, Nat.reduceShiftRight, Nat.reduceMod]
        omega
      · have hst := decM_step hz
        have hv := f1 hz
        have f5' := (hf (u % 10)).2.2.2.2
        have hSz := Size_s (f (u % 10)) (by unfold S63; omega)
        rw [f5'] at hSz
        have hw : IntKind.u8.wrap (48 + ((u % 10 : Nat) : Int)) = 48 + ((u % 10 : Nat) : Int) := u8_wrap (by omega)
        have hby := bytesOf_1 (48 + ((u % 10 : Nat) : Int)) (by omega)
        have htn : (48 + ((u % 10 : Nat) : Int)).toNat = 48 + u % 10 := by omega
        rw [htn] at hby
        have hl2 := hbig n.natAbs (Nat.le_refl _)
        have hl3 : sfx.length ≤ 20 := by rw [← hs, List.length_append] at hl2; omega
        have f6 := (hf (u / 10)).2.2.2.2
        have hI : I64 (f (u / 10)) := by unfold I64; omega
        simp only [hv, f4, f3, vcV, vcD, Int.reduceEq, Int.reduceNe, Int.reduceLT, Int.reduceLE, Nat.reduceEqDiff, Nat.reduceAdd, reduceIte, reduceCtorEq, Nat.reduceLT, Nat.reduceLeDiff, eq_self, vcP2, Nat.reduceShiftRight, Nat.reduceMod]
        refine callS_of hSz ?_
        simp only [hw, hby, f3, vcV, vcD, Int.reduceEq, Int.reduceNe, Int.reduceLT, Int.reduceLE, Nat.reduceEqDiff, Nat.reduceAdd, reduceIte, reduceCtorEq, Nat.reduceLT, Nat.reduceLeDiff, eq_self, vcP2, Nat.reduceShiftRight, Nat.reduceMod]
        refine ⟨by unfold I64; omega, by omega, hI, ⟨(u / 10, UInt8.ofNat (48 + u % 10) :: sfx), by simp only; omega, by simp only; rw [← hs, hst, List.append_assoc]; rfl⟩, by simp only; omega, ?_⟩
        refine weakX [] (of_decide_eq_true rfl) (of_decide_eq_true rfl) ?_
        (simp only [vcW, vcV, vcD, Int.reduceEq, Int.reduceNe, Int.reduceLT, Int.reduceLE, Nat.reduceEqDiff, Nat.reduceAdd, reduceIte, reduceCtorEq, Nat.reduceLT, Nat.reduceLeDiff, eq_self, vcP2, Nat.reduceShiftRight, Nat.reduceMod])
        (repeat' first | exact trivial | (with_reducible exact RnB.fxB (ints_fxB _)) | (with_reducible rfl) | (with_reducible refine And.intro ?_ ?_) | (with_reducible refine RnB.bb ?_; simp only [vcW, vcV, vcD, Int.reduceEq, Int.reduceNe, Int.reduceLT, Int.reduceLE, Nat.reduceEqDiff, Nat.reduceAdd, reduceIte, reduceCtorEq, Nat.reduceLT, Nat.reduceLeDiff, eq_self, vcP2, Nat.reduceShiftRight, Nat.reduceMod]) | (with_reducible refine RnB.nb ?_; simp only [vcW, vcV, vcD, Int.reduceEq, Int.reduceNe, Int.reduceLT, Int.reduceLE, Nat.reduceEqDiff, Nat.reduceAdd, reduceIte, reduceCtorEq, Nat.reduceLT, Nat.reduceLeDiff, eq_self, vcP2, Nat.reduceShiftRight, Nat.reduceMod]) | (with_reducible refine RnB.ii ?_) | (with_reducible refine RnB.app ?_) | (with_reducible refine RnB.fxB ?_; simp only [vcW, vcV, vcD, Int.reduceEq, Int.reduceNe, Int.reduceLT, Int.reduceLE, Nat.reduceEqDiff, Nat.reduceAdd, reduceIte, reduceCtorEq, Nat.reduceLT, Nat.reduceLeDiff, eq_self, vcP2, Nat.reduceShiftRight, Nat.reduceMod]) | omega)
theorem refKept_s {items : List Int} {shifts : Int} {l : List Int} {den : Int} {ch : List Int} {pc : Int} (F : FitIn items l shifts ch den) (hpc : 0 ≤ pc ∧ pc ≤ 100) :
    Sound Tryz.prog 41 [tplA items shifts, .sl (ints l), fitA den ch, .int .i64 pc] (.bool (keptB items l den ch pc)) := by
  refine sound_W f_ref02_Kept (Nat.le_of_ble_eq_true rfl) ?_
  obtain ⟨⟨s1, s2, s3⟩, r1, r2, r3, r4, r5⟩ := F.sums
  have hl10 := F.l10
  have hi6 := F.i6
  have hc5 : ch.length ≤ 5 := by have := F.cl; have := F.s5; omega
  have hS1 := Sum_s l (by omega) s1
  have hS2 := Sum_s ch (by omega) s2
  have hS3 := Sum_s items (by omega) s3
  have hk : keptB items l den ch pc = decide ((((l.sum * den - ch.sum * items.sum).natAbs : Nat) : Int) * 100 - (((l.sum * den).natAbs : Nat) : Int) * pc ≤ 0) := by
    unfold keptB
    have : (((l.sum * den).natAbs * pc.natAbs : Nat) : Int) = (((l.sum * den).natAbs : Nat) : Int) * pc := by
      rw [Int.natCast_mul]; congr 1; omega
    congr 1; exact propext ⟨fun h => by omega, fun h => by omega⟩
  rw [hk]
  have hZ1 := Size_s (l.sum * den - ch.sum * items.sum) (by unfold S63; omega)
  have hZ2 := Size_s (l.sum * den) (by unfold S63; omega)
  obtain ⟨a, ha⟩ : ∃ a, a = (l.sum * den - ch.sum * items.sum).natAbs := ⟨_, rfl⟩
  obtain ⟨b, hb⟩ : ∃ b, b = (l.sum * den).natAbs := ⟨_, rfl⟩
  rw [← ha] at hZ1 ⊢
  rw [← hb] at hZ2 ⊢
  have hab : a ≤ 110000000000000000 ∧ b ≤ 100000000000000000 := by omega
  have hW1 := WideOf_s (a : Int) (by unfold I64; omega)
  have hW2 := WideOf_s 100 (by unfold I64; omega)
  have hW3 := WideOf_s (b : Int) (by unfold I64; omega)
  have hW4 := WideOf_s pc (by unfold I64; omega)
  have hM1 := WideMul_s (a : Int) 100 (wOk_35 (by omega)) (wOk_35 (by omega))
  have hM2 := WideMul_s (b : Int) pc (wOk_35 (by omega)) (wOk_35 (by omega))
  have hbp : (b : Int) * pc ≤ 100000000000000000 * 100 ∧ 0 ≤ (b : Int) * pc := ⟨Int.mul_le_mul (by omega) hpc.2 hpc.1 (by omega), Int.mul_nonneg (by omega) hpc.1⟩
  have hC := WideCmp_s ((a : Int) * 100) ((b : Int) * pc) (wOk_35 (by omega)) (wOk_35 (by omega))
  rw [wide_hr] at hW1 hW2 hW3 hW4
  rw [wide_hr, wide_hr, wide_hr] at hM1 hM2
  rw [wide_hr, wide_hr] at hC
  have hsg : ((a : Int) * 100 - (b : Int) * pc).sign ≤ 0 ↔ (a : Int) * 100 - (b : Int) * pc ≤ 0 := by
    rcases Int.lt_trichotomy ((a : Int) * 100 - (b : Int) * pc) 0 with g | g | g
    · rw [Int.sign_eq_neg_one_of_neg g]; omega
    · rw [g]; decide
    · rw [Int.sign_eq_one_of_pos g]; omega
  simp only [c_ref02_Kept, tplA, fitA, vcV, vcD, Int.reduceEq, Int.reduceNe, Int.reduceLT, Int.reduceLE, Nat.reduceEqDiff, Nat.reduceAdd, reduceIte, reduceCtorEq, Nat.reduceLT, Nat.reduceLeDiff, eq_self, vcP2, Nat.reduceShiftRight, Nat.reduceMod]
  refine callS_of hS1 ?_
  simp only [vcV, vcD, Int.reduceEq, Int.reduceNe, Int.reduceLT, Int.reduceLE, Nat.reduceEqDiff, Nat.reduceAdd, reduceIte, reduceCtorEq, Nat.reduceLT, Nat.reduceLeDiff, eq_self, vcP2, Nat.reduceShiftRight, Nat.reduceMod]
  (repeat (with_reducible refine And.intro ?_ ?_; focus (first | omega | (unfold I64; omega))))
  refine callS_of hS2 ?_
  simp only [vcV, vcD, Int.reduceEq, Int.reduceNe, Int.reduceLT, Int.reduceLE, Nat.reduceEqDiff, Nat.reduceAdd, reduceIte, reduceCtorEq, Nat.reduceLT, Nat.reduceLeDiff, eq_self, vcP2, Nat.reduceShiftRight, Nat.reduceMod]
  refine callS_of hS3 ?_
  simp only [vcV, vcD, Int.reduceEq, Int.reduceNe, Int.reduceLT, Int.reduceLE, Nat.reduceEqDiff, Nat.reduceAdd, reduceIte, reduceCtorEq, Nat.reduceLT, Nat.reduceLeDiff, eq_self, vcP2, Nat.reduceShiftRight, Nat.reduceMod]
  (repeat (with_reducible refine And.intro ?_ ?_; focus (first | omega | (unfold I64; omega))))
  refine callS_of hZ1 ?_
  simp only [vcV, vcD, Int.reduceEq, Int.reduceNe, Int.reduceLT, Int.reduceLE, Nat.reduceEqDiff, Nat.reduceAdd, reduceIte, reduceCtorEq, Nat.reduceLT, Nat.reduceLeDiff, eq_self, vcP2, Nat.reduceShiftRight, Nat.reduceMod]
  refine callS_of hW1 ?_
  simp only [vcV, vcD, Int.reduceEq, Int.reduceNe, Int.reduceLT, Int.reduceLE, Nat.reduceEqDiff, Nat.reduceAdd, reduceIte, reduceCtorEq, Nat.reduceLT, Nat.reduceLeDiff, eq_self, vcP2, Nat.reduceShiftRight, Nat.reduceMod]
  refine callS_of hW2 ?_
  simp only [vcV, vcD, Int.reduceEq, Int.reduceNe, Int.reduceLT, Int.reduceLE, Nat.reduceEqDiff, Nat.reduceAdd, reduceIte, reduceCtorEq, Nat.reduceLT, Nat.reduceLeDiff, eq_self, vcP2, Nat.reduceShiftRight, Nat.reduceMod]
  refine callS_of hM1 ?_
  simp only [vcV, vcD, Int.reduceEq, Int.reduceNe, Int.reduceLT, Int.reduceLE, Nat.reduceEqDiff, Nat.reduceAdd, reduceIte, reduceCtorEq, Nat.reduceLT, Nat.reduceLeDiff, eq_self, vcP2, Nat.reduceShiftRight, Nat.reduceMod]
  refine callS_of hZ2 ?_
  simp only [vcV, vcD, Int.reduceEq, Int.reduceNe, Int.reduceLT, Int.reduceLE, Nat.reduceEqDiff, Nat.reduceAdd, reduceIte, reduceCtorEq, Nat.reduceLT, Nat.reduceLeDiff, eq_self, vcP2, Nat.reduceShiftRight, Nat.reduceMod]
  refine callS_of hW3 ?_
  simp only [vcV, vcD, Int.reduceEq, Int.reduceNe, Int.reduceLT, Int.reduceLE, Nat.reduceEqDiff, Nat.reduceAdd, reduceIte, reduceCtorEq, Nat.reduceLT, Nat.reduceLeDiff, eq_self, vcP2, Nat.reduceShiftRight, Nat.reduceMod]
  refine callS_of hW4 ?_
  simp only [vcV, vcD, Int.reduceEq, Int.reduceNe, Int.reduceLT, Int.reduceLE, Nat.reduceEqDiff, Nat.reduceAdd, reduceIte, reduceCtorEq, Nat.reduceLT, Nat.reduceLeDiff, eq_self, vcP2, Nat.reduceShiftRight, Nat.reduceMod]
  refine callS_of hM2 ?_
  simp only [vcV, vcD, Int.reduceEq, Int.reduceNe, Int.reduceLT, Int.reduceLE, Nat.reduceEqDiff, Nat.reduceAdd, reduceIte, reduceCtorEq, Nat.reduceLT, Nat.reduceLeDiff, eq_self, vcP2, Nat.reduceShiftRight, Nat.reduceMod]
  refine callS_of hC ?_
  simp only [vcV, vcD, Int.reduceEq, Int.reduceNe, Int.reduceLT, Int.reduceLE, Nat.reduceEqDiff, Nat.reduceAdd, reduceIte, reduceCtorEq, Nat.reduceLT, Nat.reduceLeDiff, eq_self, vcP2, Nat.reduceShiftRight, Nat.reduceMod]
  exact bool_eq hsg
end Go.Proofs.YtgmpcbpmnimkoaaGreatDoor

/- Contracts of the reference: digits of wide numbers. By an AI agent; nothing here is trusted. -/
namespace Go.Proofs.YtgmpcbpmnimkoaaGreatDoor
open Go.Av

theorem wOk_10k {v : Int} (h : v.natAbs ≤ 100000000000000000000000000000000000) : wOk 10000 v :=
  wOk_more (k := 4) (wOk_of (Nat.lt_of_le_of_lt h (by decide))) (by omega)
theorem Digits_s : ∀ n : Nat, n ≤ 100000000000000000000000000000000000 → Sound Tryz.prog 26 [wideA (n : Int)] (.str (Lib.decDigits n)) := by
  intro n
  induction n using Nat.strongRecOn with
  | ind n ih =>
    intro hn
    refine sound_W f_ref02_Digits (Nat.le_of_ble_eq_true rfl) ?_
    have hWI := WideInt_s (n : Int)
    have hna : (n : Int).natAbs = n := by omega
    rw [hna] at hWI
    have hwn := wide_hr (n : Int)
    by_cases h18 : n < 1000000000000000000
    · rw [if_pos h18, decide_eq_true h18] at hWI
      have hD := Decimal_s (n : Int) (by unfold S63; omega)
      rw [Lib.itoa_nonneg] at hD
      rw [hwn] at hWI ⊢
      simp only [c_ref02_Digits, vcV, vcD, Int.reduceEq, Int.reduceNe, Int.reduceLT, Int.reduceLE, Nat.reduceEqDiff, Nat.reduceAdd, reduceIte, reduceCtorEq, Nat.reduceLT, Nat.reduceLeDiff, eq_self, vcP2, Nat.reduceShiftRight, Nat.reduceMod]
      refine callS_of hWI ?_
      simp only [vcV, vcD, Int.reduceEq, Int.reduceNe, Int.reduceLT, Int.reduceLE, Nat.reduceEqDiff, Nat.reduceAdd, reduceIte, reduceCtorEq, Nat.reduceLT, Nat.reduceLeDiff, eq_self, vcP2, Nat.reduceShiftRight, Nat.reduceMod]
      refine callS_of hD ?_
      simp only [vcV, vcD, Int.reduceEq, Int.reduceNe, Int.reduceLT, Int.reduceLE, Nat.reduceEqDiff, Nat.reduceAdd, reduceIte, reduceCtorEq, Nat.reduceLT, Nat.reduceLeDiff, eq_self, vcP2, Nat.reduceShiftRight, Nat.reduceMod]
    · rw [if_neg h18, decide_eq_false h18] at hWI
      obtain ⟨q, hq⟩ : ∃ q, q = n / 1000000000 := ⟨_, rfl⟩
      obtain ⟨r, hr⟩ : ∃ r, r = n % 1000000000 := ⟨_, rfl⟩
      have hqr : n = q * 1000000000 + r ∧ r < 1000000000 := by omega
      have hB := WideOf_s 1000000000 (by unfold I64; omega)
      have hF : Sound Tryz.prog 112 [wideA (n : Int), wideA 1000000000] (wideA ((n : Int) / 1000000000)) := WideFloor_s (n : Int) 1000000000 (by omega) (wOk_10k (by omega)) (wOk_10k (by omega))
      have eF : (n : Int) / 1000000000 = (q : Int) := by omega
      rw [eF] at hF
      have hM := WideMul_s (q : Int) 1000000000 (wOk_35 (by omega)) (wOk_35 (by omega))
      have hS := WideSub_s (n : Int) ((q : Int) * 1000000000) (wOk_35 (by omega)) (wOk_35 (by omega))
      have eS : (n : Int) - (q : Int) * 1000000000 = (r : Int) := by omega
      rw [eS] at hS
      have hWL := WideInt_s (r : Int)
      have hra : (r : Int).natAbs = r := by omega
      rw [hra, if_pos (show r < 1000000000000000000 by omega), decide_eq_true (show r < 1000000000000000000 by omega)] at hWL
      have hD := Decimal_s (r : Int) (by unfold S63; omega)
      rw [Lib.itoa_nonneg] at hD
      have hR := ih q (by omega) (by omega)
      have e9 : (10 : Nat) ^ 9 = 1000000000 := by decide
      have hsp := Lin.dec_split 9 n (by rw [e9]; omega)
      rw [e9, ← hq, ← hr] at hsp
      have hpad := Lin.pad_small (k := 8) (r := r) (by rw [e9]; exact hqr.2)
      have hdl : (Lib.decDigits r).length ≤ 9 := by
        have h1 := Lin.pad_len 9 r
        rw [hpad, List.length_append, List.length_replicate] at h1
        omega
      have hd1 : 1 ≤ (Lib.decDigits r).length := by
        have := Lin.dec_ne r
        cases h : Lib.decDigits r with
        | nil => exact absurd h this
        | cons a b => simp
      have hql : (Lib.decDigits q).length ≤ 50 := dec_len (by have : (100000000000000000000000000000000000 : Nat) < 10 ^ 50 := by decide
                                                              omega)
      rw [hsp]
      clear hsp
      rw [wide_hr] at hB hR
      rw [wide_hr, wide_hr, wide_hr] at hF hM hS
      rw [wide_hr] at hWL
      rw [hwn] at hWI ⊢
      simp only [c_ref02_Digits, vcV, vcD, Int.reduceEq, Int.reduceNe, Int.reduceLT, Int.reduceLE, Nat.reduceEqDiff, Nat.reduceAdd, reduceIte, reduceCtorEq, Nat.reduceLT, Nat.reduceLeDiff, eq_self, vcP2, Nat.reduceShiftRight, Nat.reduceMod]
      refine callS_of hWI ?_
      simp only [vcV, vcD, Int.reduceEq, Int.reduceNe, Int.reduceLT, Int.reduceLE, Nat.reduceEqDiff, Nat.reduceAdd, reduceIte, reduceCtorEq, Nat.reduceLT, Nat.reduceLeDiff, eq_self, vcP2, Nat.reduceShiftRight, Nat.reduceMod]
      refine callS_of hB ?_
      simp only [vcV, vcD, Int.reduceEq, Int.reduceNe, Int.reduceLT, Int.reduceLE, Nat.reduceEqDiff, Nat.reduceAdd, reduceIte, reduceCtorEq, Nat.reduceLT, Nat.reduceLeDiff, eq_self, vcP2, Nat.reduceShiftRight, Nat.reduceMod]
      refine callS_of hF ?_
      simp only [vcV, vcD, Int.reduceEq, Int.reduceNe, Int.reduceLT, Int.reduceLE, Nat.reduceEqDiff, Nat.reduceAdd, reduceIte, reduceCtorEq, Nat.reduceLT, Nat.reduceLeDiff, eq_self, vcP2, Nat.reduceShiftRight, Nat.reduceMod]
      refine callS_of hB ?_
      simp only [vcV, vcD, Int.reduceEq, Int.reduceNe, Int.reduceLT, Int.reduceLE, Nat.reduceEqDiff, Nat.reduceAdd, reduceIte, reduceCtorEq, Nat.reduceLT, Nat.reduceLeDiff, eq_self, vcP2, Nat.reduceShiftRight, Nat.reduceMod]
      refine callS_of hM ?_
      simp only [vcV, vcD, Int.reduceEq, Int.reduceNe, Int.reduceLT, Int.reduceLE, Nat.reduceEqDiff, Nat.reduceAdd, reduceIte, reduceCtorEq, Nat.reduceLT, Nat.reduceLeDiff, eq_self, vcP2, Nat.reduceShiftRight, Nat.reduceMod]
      refine callS_of hS ?_
      simp only [vcV, vcD, Int.reduceEq, Int.reduceNe, Int.reduceLT, Int.reduceLE, Nat.reduceEqDiff, Nat.reduceAdd, reduceIte, reduceCtorEq, Nat.reduceLT, Nat.reduceLeDiff, eq_self, vcP2, Nat.reduceShiftRight, Nat.reduceMod]
      refine callS_of hWL ?_
      simp only [vcV, vcD, Int.reduceEq, Int.reduceNe, Int.reduceLT, Int.reduceLE, Nat.reduceEqDiff, Nat.reduceAdd, reduceIte, reduceCtorEq, Nat.reduceLT, Nat.reduceLeDiff, eq_self, vcP2, Nat.reduceShiftRight, Nat.reduceMod]
      refine callS_of hD ?_
      simp only [vcV, vcD, Int.reduceEq, Int.reduceNe, Int.reduceLT, Int.reduceLE, Nat.reduceEqDiff, Nat.reduceAdd, reduceIte, reduceCtorEq, Nat.reduceLT, Nat.reduceLeDiff, eq_self, vcP2, Nat.reduceShiftRight, Nat.reduceMod]
      refine W_loop (t := .mk) (α := PSigma fun i : Nat => i + (Lib.decDigits r).length ≤ 9) (fun ⟨i, _⟩ => (envOf [(6, .ptr 6 0 0), (9, .str (List.replicate i 48 ++ Lib.decDigits r))], stOf [(6, ⟨38, 2, [.agg [.int .i64 (q : Int).sign, .sl (ints (dg (q : Int).natAbs))]]⟩)])) (fun x => 9 - x.1) ⟨0, by omega⟩ ?_ (fun ⟨i, hi⟩ => ?_)
      · have z : List.replicate 0 (48 : UInt8) ++ Lib.decDigits r = Lib.decDigits r := rfl
        refine weakX [] (of_decide_eq_true rfl) (of_decide_eq_true rfl) ?_
        (simp only [z, vcW, vcV, vcD, Int.reduceEq, Int.reduceNe, Int.reduceLT, Int.reduceLE, Nat.reduceEqDiff, Nat.reduceAdd, reduceIte, reduceCtorEq, Nat.reduceLT, Nat.reduceLeDiff, eq_self, vcP2, Nat.reduceShiftRight, Nat.reduceMod])
        (repeat' first | exact trivial | (with_reducible exact RnB.fxB (ints_fxB _)) | (with_reducible rfl) | (with_reducible refine And.intro ?_ ?_) | (with_reducible refine RnB.bb ?_; simp only [vcW, vcV, vcD, Int.reduceEq, Int.reduceNe, Int.reduceLT, Int.reduceLE, Nat.reduceEqDiff, Nat.reduceAdd, reduceIte, reduceCtorEq, Nat.reduceLT, Nat.reduceLeDiff, eq_self, vcP2, Nat.reduceShiftRight, Nat.reduceMod]) | (with_reducible refine RnB.nb ?_; simp only [vcW, vcV, vcD, Int.reduceEq, Int.reduceNe, Int.reduceLT, Int.reduceLE, Nat.reduceEqDiff, Nat.reduceAdd, reduceIte, reduceCtorEq, Nat.reduceLT, Nat.reduceLeDiff, eq_self, vcP2, Nat.reduceShiftRight, Nat.reduceMod]) | (with_reducible refine RnB.ii ?_) | (with_reducible refine RnB.app ?_) | (with_reducible refine RnB.fxB ?_; simp only [vcW, vcV, vcD, Int.reduceEq, Int.reduceNe, Int.reduceLT, Int.reduceLE, Nat.reduceEqDiff, Nat.reduceAdd, reduceIte, reduceCtorEq, Nat.reduceLT, Nat.reduceLeDiff, eq_self, vcP2, Nat.reduceShiftRight, Nat.reduceMod]) | omega)
      · dsimp only at hi ⊢
        have hlen : (List.replicate i (48 : UInt8) ++ Lib.decDigits r).length = i + (Lib.decDigits r).length := by rw [List.length_append, List.length_replicate]
        by_cases h9 : i + (Lib.decDigits r).length < 9
        · have h9' : ((i + (Lib.decDigits r).length : Nat) : Int) < 9 := by omega
          have hcat : [(48 : UInt8)] ++ (List.replicate i 48 ++ Lib.decDigits r) = List.replicate (i + 1) 48 ++ Lib.decDigits r := rfl
          simp only [hlen, h9', hcat, vcV, vcD, Int.reduceEq, Int.reduceNe, Int.reduceLT, Int.reduceLE, Nat.reduceEqDiff, Nat.reduceAdd, reduceIte, reduceCtorEq, Nat.reduceLT, Nat.reduceLeDiff, eq_self, vcP2, Nat.reduceShiftRight, Nat.reduceMod]
          refine ⟨by omega, ⟨i + 1, by omega⟩, by simp only; omega, ?_⟩
          refine weakX [] (of_decide_eq_true rfl) (of_decide_eq_true rfl) ?_
          (simp only [vcW, vcV, vcD, Int.reduceEq, Int.reduceNe, Int.reduceLT, Int.reduceLE, Nat.reduceEqDiff, Nat.reduceAdd, reduceIte, reduceCtorEq, Nat.reduceLT, Nat.reduceLeDiff, eq_self, vcP2, Nat.reduceShiftRight, Nat.reduceMod])
          (repeat' first | exact trivial | (with_reducible exact RnB.fxB (ints_fxB _)) | (with_reducible rfl) | (with_reducible refine And.intro ?_ ?_) | (with_reducible refine RnB.bb ?_; simp only [vcW, vcV, vcD, Int.reduceEq, Int.reduceNe, Int.reduceLT, Int.reduceLE, Nat.reduceEqDiff, Nat.reduceAdd, reduceIte, reduceCtorEq, Nat.reduceLT, Nat.reduceLeDiff, eq_self, vcP2, Nat.reduceShiftRight, Nat.reduceMod]) | (with_reducible refine RnB.nb ?_; simp only [vcW, vcV, vcD, Int.reduceEq, Int.reduceNe, Int.reduceLT, Int.reduceLE, Nat.reduceEqDiff, Nat.reduceAdd, reduceIte, reduceCtorEq, Nat.reduceLT, Nat.reduceLeDiff, eq_self, vcP2, Nat.reduceShiftRight, Nat.reduceMod]) | (with_reducible refine RnB.ii ?_) | (with_reducible refine RnB.app ?_) | (with_reducible refine RnB.fxB ?_; simp only [vcW, vcV, vcD, Int.reduceEq, Int.reduceNe, Int.reduceLT, Int.reduceLE, Nat.reduceEqDiff, Nat.reduceAdd, reduceIte, reduceCtorEq, Nat.reduceLT, Nat.reduceLeDiff, eq_self, vcP2, Nat.reduceShiftRight, Nat.reduceMod]) | omega)
        · have h9' : ¬ ((i + (Lib.decDigits r).length : Nat) : Int) < 9 := by omega
          have hip : List.replicate i 48 ++ Lib.decDigits r = Lin.pad 9 r := by rw [hpad]; congr 2; omega
          rw [hip] at hlen ⊢
          simp only [hlen, h9', vcV, vcD, Int.reduceEq, Int.reduceNe, Int.reduceLT, Int.reduceLE, Nat.reduceEqDiff, Nat.reduceAdd, reduceIte, reduceCtorEq, Nat.reduceLT, Nat.reduceLeDiff, eq_self, vcP2, Nat.reduceShiftRight, Nat.reduceMod]
          refine callS_of hR ?_
          simp only [hlen, vcV, vcD, Int.reduceEq, Int.reduceNe, Int.reduceLT, Int.reduceLE, Nat.reduceEqDiff, Nat.reduceAdd, reduceIte, reduceCtorEq, Nat.reduceLT, Nat.reduceLeDiff, eq_self, vcP2, Nat.reduceShiftRight, Nat.reduceMod]
          omega
end Go.Proofs.YtgmpcbpmnimkoaaGreatDoor

/- Contracts off the library's shelf: slices.Clone. By an AI agent; nothing here is trusted. -/
namespace Go.Proofs.YtgmpcbpmnimkoaaGreatDoor
open Go.Av
open Go.RowKit (Below)

def cloneRen : Go.Shelf.Ren := ⟨fun x => match x with | 15 => 170 | n => n, fun x => match x with | 22 => 22 | 3 => 3 | 4 => 4 | n => n, fun x => x⟩
set_option maxRecDepth 100000 in
theorem cloneFn : Tryz.prog.funcs[cloneRen.f 15]? = some (Go.Proofs.Body2.n15 cloneRen) := by kernel_rfl
theorem cloneLay : Go.Proofs.Lays2.n15 Tryz.prog cloneRen :=
  { mixed := by kernel_rfl, f15 := cloneFn,
    t3 := Tryz.underlying3, a3 := Tryz.isAgg3, z3 := Tryz.sizeOf3, v3 := Tryz.zeroValue3, t4 := Tryz.underlying4,
    a4 := Tryz.isAgg4, z4 := Tryz.sizeOf4, v4 := Tryz.zeroValue4, t22 := Tryz.underlying22, a22 := Tryz.isAgg22,
    z22 := Tryz.sizeOf22, v22 := Tryz.zeroValue22, i3 := by kernel_rfl }

theorem ints_at {l : List Int} {i : Nat} {x : AV} (h : (ints l)[i]? = some x) : ∃ hi : i < l.length, x = .int .i64 l[i] := by
  have hi : i < l.length := by
    have := (List.getElem?_eq_some_iff.1 h).1
    rw [ints_length] at this; exact this
  rw [ints_get l i hi] at h
  exact ⟨hi, by injection h with h; exact h.symm⟩
theorem own_sl {w' : World} {B : Nat} {e : TypeId} {v : Value} {l : List Int} {ok : Nat → Prop} (h : w'.ownsRow B e 1 v l.length (l.map (Value.int .i64))) :
    VR w'.heap (fun b => ok b ∨ (B ≤ b ∧ b < w'.heap.size)) noPlace noStore (.sl (ints l)) v := by
  obtain ⟨_, h⟩ := h
  rcases h with ⟨rfl, hn⟩ | ⟨g, cap, cur, rfl, hg, hb, hn, hcap, hcur, hx⟩
  · have : l = [] := List.eq_nil_of_length_eq_zero hn
    subst this
    exact .sl0 none 0
  · have hlen : (ints l).length = l.length := ints_length l
    rw [← hlen] at hn ⊢
    refine .sl (ints l) g 0 1 cap cur e (0, 0) (fun i _ => .int .i64 (l.getD i 0)) (.inr ⟨hg, (Array.getElem?_eq_some_iff.1 hb).1⟩) hn hb ?_ ?_ ?_
    · intro i x hi
      obtain ⟨_, rfl⟩ := ints_at hi
      exact ⟨rfl, fun c hc => by rw [List.mem_singleton.1 hc]; rfl, rfl⟩
    · intro i x o c hi ho
      obtain ⟨hil, rfl⟩ := ints_at hi
      have h0 : o = 0 := by
        cases o with
        | zero => rfl
        | succ o => simp [cellsOf] at ho
      subst h0
      have h1 : (cur.toList.take (l.length * 1))[i]? = (l.map (Value.int .i64))[i]? := by rw [hx]
      rw [List.getElem?_take, if_pos (by omega), Array.getElem?_toList, List.getElem?_map, List.getElem?_eq_getElem hil] at h1
      show cur[0 + i * 1 + 0]? = some (.int .i64 (l.getD i 0))
      rw [show 0 + i * 1 + 0 = i by omega, h1]
      simp [List.getD, List.getElem?_eq_getElem hil]
    · intro i x o c hi ho
      obtain ⟨hil, rfl⟩ := ints_at hi
      cases o with
      | zero =>
        simp [cellsOf] at ho
        subst ho
        show VR _ _ _ _ _ (.int .i64 (l.getD i 0))
        rw [show l.getD i 0 = l[i] by simp [List.getD, List.getElem?_eq_getElem hil]]
        exact .int _ _
      | succ o => simp [cellsOf] at ho

theorem Clone_s (l : List Int) (hl : l.length ≤ 1000000000) : Sound Tryz.prog 170 [.sl (ints l)] (.sl (ints l)) := by
  intro w ok cargs hok _ hlen hargs
  have h0 := hargs 0 _ rfl
  have hc1 : cargs = #[cargs.getD 0 undef] := by
    apply Array.ext
    · simpa using hlen
    · intro i h1 h2
      simp at h2
      subst h2
      simp [Array.getD, h1]
  rw [hc1]
  generalize cargs.getD 0 undef = v at h0
  have hin : ∀ v, (callFunc 170 #[v]).run Tryz.prog w = .ok (.enter 170 #[v]) w := fun v =>
    Go.Av.callFunc_enter Tryz.func170 (by kernel_rfl) rfl #[v]
  cases l with
  | nil =>
    have h1 : VR w.heap ok noPlace noStore (.sl []) v := h0
    show CallsF _ _ _ _ fun cv w' => Below w.heap.size w w' ∧ VR w'.heap (fun b => ok b ∨ (w.heap.size ≤ b ∧ b < w'.heap.size)) noPlace noStore (.sl (ints [])) cv
    cases h1 with
    | sl0 a cap =>
      cases a with
      | none =>
        refine .inr ⟨hin _, (Any.slices_Clone_int_nil cloneLay 0 cap w).mono fun e w' ⟨he, hw⟩ => ⟨_, he, ?_, ?_⟩⟩
        · rw [hw]; exact Below.refl _ _
        · exact .sl0 none 0
      | some a =>
        refine .inr ⟨hin _, (Any.slices_Clone_int_zero cloneLay a cap w).mono fun e w' ⟨v', he, ho, _, hB⟩ => ⟨v', he, hB, ?_⟩⟩
        exact own_sl (l := []) ho
    | sl _ b off s cap cur ty fr vals hok' hcap hb hs hc hv =>
      refine .inr ⟨hin _, (Any.slices_Clone_int_zero cloneLay ⟨b, off, none⟩ cap w).mono fun e w' ⟨v', he, ho, _, hB⟩ => ⟨v', he, hB, ?_⟩⟩
      exact own_sl (l := []) ho
  | cons x r =>
    have hpos : 0 < (x :: r).length := by simp
    generalize x :: r = l at *
    generalize hes : ints l = es at h0
    cases h0 with
    | sl0 a cap => rw [← ints_length, hes] at hpos; simp at hpos
    | sl _ b off s cap cur ty fr vals hok' hcap hb hs hc hv =>
      subst hes
      have hs1 : s = 1 := (hs 0 _ (ints_get l 0 hpos)).1.symm
      subst hs1
      have hcell : ∀ j, j < l.length → w.cell? ⟨b, off + j, none⟩ = some (.int .i64 (l.getD j 0)) := by
        intro j hj
        have h1 := hc j _ 0 _ (ints_get l j hj) rfl
        have h2 := hv j _ 0 _ (ints_get l j hj) rfl
        generalize vals j 0 = u at h1 h2
        cases h2
        rw [show off + j * 1 + 0 = off + j by omega] at h1
        simp [World.cell?, hb, h1, List.getD, List.getElem?_eq_getElem hj]
      have hlen : (ints l).length = l.length := ints_length l
      rw [hlen]
      refine .inr ⟨hin _, (Any.slices_Clone_int cloneLay b off l.length cap l w (Nat.le_refl _) (by omega) hcell).mono fun e w' ⟨v', he, ho, _, hB⟩ => ⟨v', he, hB, ?_⟩⟩
      rw [List.take_length] at ho
      exact own_sl ho

theorem own_o {w w' : World} {ok : Nat → Prop} {e : Nat} {v : Value} {l : List Int} (h : w'.ownsRow w.heap.size e 1 v l.length (l.map (Value.int .i64))) : OwnR w w' ok e 1 (ints l) v := by
  obtain ⟨_, h⟩ := h
  rcases h with ⟨rfl, hn⟩ | ⟨g, cap, cur, rfl, hg, hb, hn, hcap, hcur, hx⟩
  · have : l = [] := List.eq_nil_of_length_eq_zero hn
    subst this
    exact .inl ⟨rfl, none, rfl⟩
  · have hlen : (ints l).length = l.length := ints_length l
    rw [← hlen] at hn ⊢
    refine .inr ⟨g, cap, cur, rfl, hg, hb, hn, hcap, hcur, fun i x hi => ?_⟩
    obtain ⟨hil, rfl⟩ := ints_at hi
    refine ⟨rfl, fun c hc => by rw [List.mem_singleton.1 hc]; rfl, fun o c ho => ?_⟩
    cases o with
    | zero =>
      simp [cellsOf] at ho
      subst ho
      have h1 : (cur.toList.take (l.length * 1))[i]? = (l.map (Value.int .i64))[i]? := by rw [hx]
      rw [List.getElem?_take, if_pos (by omega), Array.getElem?_toList, List.getElem?_map, List.getElem?_eq_getElem hil] at h1
      exact ⟨_, by rw [show i * 1 + 0 = i by omega]; exact h1, .int _ _⟩
    | succ o => simp [cellsOf] at ho
theorem Clone_o (l : List Int) (hl : l.length ≤ 1000000000) : SoundO Tryz.prog 170 [.sl (ints l)] 3 1 (ints l) := by
  refine ⟨by omega, ?_⟩
  intro w ok cargs hok _ hlen hargs
  have h0 := hargs 0 _ rfl
  have hc1 : cargs = #[cargs.getD 0 undef] := by
    apply Array.ext
    · simpa using hlen
    · intro i h1 h2
      simp at h2
      subst h2
      simp [Array.getD, h1]
  rw [hc1]
  generalize cargs.getD 0 undef = v at h0
  have hin : ∀ v, (callFunc 170 #[v]).run Tryz.prog w = .ok (.enter 170 #[v]) w := fun v =>
    Go.Av.callFunc_enter Tryz.func170 (by kernel_rfl) rfl #[v]
  cases l with
  | nil =>
    have h1 : VR w.heap ok noPlace noStore (.sl []) v := h0
    show CallsF _ _ _ _ fun cv w' => Below w.heap.size w w' ∧ OwnR w w' ok 3 1 (ints []) cv
    cases h1 with
    | sl0 a cap =>
      cases a with
      | none =>
        refine .inr ⟨hin _, (Any.slices_Clone_int_nil cloneLay 0 cap w).mono fun e w' ⟨he, hw⟩ => ⟨_, he, ?_, ?_⟩⟩
        · rw [hw]; exact Below.refl _ _
        · exact .inl ⟨rfl, none, rfl⟩
      | some a =>
        refine .inr ⟨hin _, (Any.slices_Clone_int_zero cloneLay a cap w).mono fun e w' ⟨v', he, ho, _, hB⟩ => ⟨v', he, hB, ?_⟩⟩
        exact own_o (l := []) ho
    | sl _ b off s cap cur ty fr vals hok' hcap hb hs hc hv =>
      refine .inr ⟨hin _, (Any.slices_Clone_int_zero cloneLay ⟨b, off, none⟩ cap w).mono fun e w' ⟨v', he, ho, _, hB⟩ => ⟨v', he, hB, ?_⟩⟩
      exact own_o (l := []) ho
  | cons x r =>
    have hpos : 0 < (x :: r).length := by simp
    generalize x :: r = l at *
    generalize hes : ints l = es at h0
    cases h0 with
    | sl0 a cap => rw [← ints_length, hes] at hpos; simp at hpos
    | sl _ b off s cap cur ty fr vals hok' hcap hb hs hc hv =>
      subst hes
      have hs1 : s = 1 := (hs 0 _ (ints_get l 0 hpos)).1.symm
      subst hs1
      have hcell : ∀ j, j < l.length → w.cell? ⟨b, off + j, none⟩ = some (.int .i64 (l.getD j 0)) := by
        intro j hj
        have h1 := hc j _ 0 _ (ints_get l j hj) rfl
        have h2 := hv j _ 0 _ (ints_get l j hj) rfl
        generalize vals j 0 = u at h1 h2
        cases h2
        rw [show off + j * 1 + 0 = off + j by omega] at h1
        simp [World.cell?, hb, h1, List.getD, List.getElem?_eq_getElem hj]
      have hlen : (ints l).length = l.length := ints_length l
      rw [hlen]
      refine .inr ⟨hin _, (Any.slices_Clone_int cloneLay b off l.length cap l w (Nat.le_refl _) (by omega) hcell).mono fun e w' ⟨v', he, ho, _, hB⟩ => ⟨v', he, hB, ?_⟩⟩
      rw [List.take_length] at ho
      exact own_o ho
end Go.Proofs.YtgmpcbpmnimkoaaGreatDoor

/- The examples of chapter 2, by running the abstract code; an iterator from the end on. By an AI agent; nothing here is trusted. -/
namespace Go.Proofs.YtgmpcbpmnimkoaaGreatDoor
open Go.Av

def w128 (p : Bool × Int × Int) : AV := .agg [.bool p.1, .int .u64 p.2.1, .int .u64 p.2.2]
def w128s (l : List (Bool × Int × Int)) : List AV := l.map w128
theorem w128s_length (l : List (Bool × Int × Int)) : (w128s l).length = l.length := by simp [w128s]
theorem w128s_get (l : List (Bool × Int × Int)) (i : Nat) (h : i < l.length) : (w128s l)[i]? = some (.agg [.bool l[i].1, .int .u64 l[i].2.1, .int .u64 l[i].2.2]) := by
  simp [w128s, w128, h]
def backL (l : List (Bool × Int × Int)) : Nat → List (List AV)
  | 0 => []
  | k + 1 => backL l k ++ [[.int .i64 ((l.length : Int) - 1 - k), w128 (l.getD (l.length - 1 - k) default)]]
theorem backL_le (l : List (Bool × Int × Int)) (k n : Nat) (h : k ≤ n) : ∃ r, backL l n = backL l k ++ r := by
  obtain ⟨m, rfl⟩ := Nat.exists_eq_add_of_le h
  induction m with
  | zero => exact ⟨[], by simp⟩
  | succ m ih =>
    obtain ⟨r, hr⟩ := ih (by omega)
    exact ⟨r ++ [[.int .i64 ((l.length : Int) - 1 - (k + m : Nat)), w128 (l.getD (l.length - 1 - (k + m)) default)]], by rw [← Nat.add_assoc, backL, hr, List.append_assoc]⟩
theorem deadAll_no : deadAll noStore = noStore := rfl
theorem backward_s (l : List (Bool × Int × Int)) (hl : l.length ≤ 1000000) : SeqA Tryz.prog 252 [.eptr (.sl (w128s l)) 0] (backL l l.length) := by
  refine seq_W f_slices_Backward_pulse_wide_pulse_wide_1 (Nat.le_of_ble_eq_true rfl) fun y => ?_
  simp only [c_slices_Backward_pulse_wide_pulse_wide_1, w128s_length, vcC, Int.reduceEq, Int.reduceNe, Int.reduceLT, Int.reduceLE, Nat.reduceEqDiff, Nat.reduceAdd, reduceIte, reduceCtorEq, Nat.reduceLT, Nat.reduceLeDiff, eq_self, vcP, WY_skip, WY_reg, WY_regY, WY_seq, WY_cond, WY_block, WY_exit, WY_ret, VY_nil, VY_yld, VY_yldg, VY_ps, seqY_n, seqY_r, seqY_x, blockY_n, blockY_r, blockY_x, isCallvs, isCallv, isY, List.any_cons, List.any_nil, Bool.or_false, Bool.or_true, Bool.false_or, Bool.and_false, Bool.false_and]
  refine ⟨by unfold I64; omega, ?_⟩
  refine WY_loop (α := PSigma fun k : Nat => k ≤ l.length) (fun k => ((envOf [(0, .yld y), (1, .eptr (.sl (w128s l)) 0), (3, .int .i64 ((l.length : Int) - 1 - k.1))], noStore), some (backL l k.1)))
    (fun k => l.length - k.1) ⟨0, by simp⟩ (weakE _ ?_) ?_ (fun ⟨k, hk⟩ => ?_)
  · simp only [vcC, Int.reduceEq, Int.reduceNe, Int.reduceLT, Int.reduceLE, Nat.reduceEqDiff, Nat.reduceAdd, reduceIte, reduceCtorEq, Nat.reduceLT, Nat.reduceLeDiff, eq_self, vcP, WY_skip, WY_reg, WY_regY, WY_seq, WY_cond, WY_block, WY_exit, WY_ret, VY_nil, VY_yld, VY_yldg, VY_ps, seqY_n, seqY_r, seqY_x, blockY_n, blockY_r, blockY_x, isCallvs, isCallv, isY, List.any_cons, List.any_nil, Bool.or_false, Bool.or_true, Bool.false_or, Bool.and_false, Bool.false_and]; simp
  · simp [backL]
  · simp only [vcC, Int.reduceEq, Int.reduceNe, Int.reduceLT, Int.reduceLE, Nat.reduceEqDiff, Nat.reduceAdd, reduceIte, reduceCtorEq, Nat.reduceLT, Nat.reduceLeDiff, eq_self, vcP, WY_skip, WY_reg, WY_regY, WY_seq, WY_cond, WY_block, WY_exit, WY_ret, VY_nil, VY_yld, VY_yldg, VY_ps, seqY_n, seqY_r, seqY_x, blockY_n, blockY_r, blockY_x, isCallvs, isCallv, isY, List.any_cons, List.any_nil, Bool.or_false, Bool.or_true, Bool.false_or, Bool.and_false, Bool.false_and]
    refine brB_split (fun h => ?_) (fun h => ?_)
    · have h' : k < l.length := by simp only [decide_eq_true_eq] at h; omega
      have h2 : ((l.length : Int) - 1 - k).toNat = l.length - 1 - k := by omega
      have hg := w128s_get l (l.length - 1 - k) (by omega)
      simp only [h2, hg, vcC, Int.reduceEq, Int.reduceNe, Int.reduceLT, Int.reduceLE, Nat.reduceEqDiff, Nat.reduceAdd, reduceIte, reduceCtorEq, Nat.reduceLT, Nat.reduceLeDiff, eq_self, vcP, WY_skip, WY_reg, WY_regY, WY_seq, WY_cond, WY_block, WY_exit, WY_ret, VY_nil, VY_yld, VY_yldg, VY_ps, seqY_n, seqY_r, seqY_x, blockY_n, blockY_r, blockY_x, isCallvs, isCallv, isY, List.any_cons, List.any_nil, Bool.or_false, Bool.or_true, Bool.false_or, Bool.and_false, Bool.false_and]
      refine ⟨by omega, ?_⟩
      obtain ⟨rest, hrest⟩ := backL_le l (k + 1) l.length h'
      rw [backL, w128, show l.getD (l.length - 1 - k) default = l[l.length - 1 - k]'(by omega) by simp [List.getD, List.getElem?_eq_getElem (show l.length - 1 - k < l.length by omega)]] at hrest
      refine yS_of (backL l k) rest rfl ?_ ?_ ?_
      · rw [hrest]; simp
      · simp only [deadAll_no, vcC, Int.reduceEq, Int.reduceNe, Int.reduceLT, Int.reduceLE, Nat.reduceEqDiff, Nat.reduceAdd, reduceIte, reduceCtorEq, Nat.reduceLT, Nat.reduceLeDiff, eq_self, vcP, WY_skip, WY_reg, WY_regY, WY_seq, WY_cond, WY_block, WY_exit, WY_ret, VY_nil, VY_yld, VY_yldg, VY_ps, seqY_n, seqY_r, seqY_x, blockY_n, blockY_r, blockY_x, isCallvs, isCallv, isY, List.any_cons, List.any_nil, Bool.or_false, Bool.or_true, Bool.false_or, Bool.and_false, Bool.false_and]
        refine ⟨by unfold I64; omega, ⟨k + 1, h'⟩, by simp only; omega, weakE _ ?_, ?_⟩
        · simp only [vcC, Int.reduceEq, Int.reduceNe, Int.reduceLT, Int.reduceLE, Nat.reduceEqDiff, Nat.reduceAdd, reduceIte, reduceCtorEq, Nat.reduceLT, Nat.reduceLeDiff, eq_self, vcP, WY_skip, WY_reg, WY_regY, WY_seq, WY_cond, WY_block, WY_exit, WY_ret, VY_nil, VY_yld, VY_yldg, VY_ps, seqY_n, seqY_r, seqY_x, blockY_n, blockY_r, blockY_x, isCallvs, isCallv, isY, List.any_cons, List.any_nil, Bool.or_false, Bool.or_true, Bool.false_or, Bool.and_false, Bool.false_and]
          simp only [AV.int.injEq, true_and, and_true]
          omega
        · simp only [backL, w128, show l.getD (l.length - 1 - k) default = l[l.length - 1 - k]'(by omega) by simp [List.getD, List.getElem?_eq_getElem (show l.length - 1 - k < l.length by omega)]]
      · simp only [deadAll_no, vcC, Int.reduceEq, Int.reduceNe, Int.reduceLT, Int.reduceLE, Nat.reduceEqDiff, Nat.reduceAdd, reduceIte, reduceCtorEq, Nat.reduceLT, Nat.reduceLeDiff, eq_self, vcP, WY_skip, WY_reg, WY_regY, WY_seq, WY_cond, WY_block, WY_exit, WY_ret, VY_nil, VY_yld, VY_yldg, VY_ps, seqY_n, seqY_r, seqY_x, blockY_n, blockY_r, blockY_x, isCallvs, isCallv, isY, List.any_cons, List.any_nil, Bool.or_false, Bool.or_true, Bool.false_or, Bool.and_false, Bool.false_and]; simp
    · simp only [vcC, Int.reduceEq, Int.reduceNe, Int.reduceLT, Int.reduceLE, Nat.reduceEqDiff, Nat.reduceAdd, reduceIte, reduceCtorEq, Nat.reduceLT, Nat.reduceLeDiff, eq_self, vcP, WY_skip, WY_reg, WY_regY, WY_seq, WY_cond, WY_block, WY_exit, WY_ret, VY_nil, VY_yld, VY_yldg, VY_ps, seqY_n, seqY_r, seqY_x, blockY_n, blockY_r, blockY_x, isCallvs, isCallv, isY, List.any_cons, List.any_nil, Bool.or_false, Bool.or_true, Bool.false_or, Bool.and_false, Bool.false_and]
      have : k = l.length := by simp only [decide_eq_false_iff_not, Bool.not_true] at h; omega
      subst this
      simp

def unw : AV → Option (Bool × Int × Int)
  | .agg [.bool a, .int .u64 b, .int .u64 c] => some (a, b, c)
  | _ => none
def unws : List AV → Option (List (Bool × Int × Int))
  | [] => some []
  | x :: l => match unw x, unws l with
    | some n, some m => some (n :: m)
    | _, _ => none
theorem unws_some : ∀ {l : List AV} {m : List (Bool × Int × Int)}, unws l = some m → l = w128s m
  | [], m, h => by cases h; rfl
  | x :: l, m, h => by
    simp only [unws] at h
    split at h
    · rename_i n k h1 h2
      cases h
      rw [unws_some h2]
      unfold unw at h1
      split at h1
      · cases h1; rfl
      · cases h1
    · cases h
def unint : AV → Option Int
  | .int .i64 n => some n
  | _ => none
def unints : List AV → Option (List Int)
  | [] => some []
  | x :: l => match unint x, unints l with
    | some n, some m => some (n :: m)
    | _, _ => none
theorem unints_some : ∀ {l : List AV} {m : List Int}, unints l = some m → l = ints m
  | [], m, h => by cases h; rfl
  | x :: l, m, h => by
    simp only [unints] at h
    split at h
    · rename_i n k h1 h2
      cases h
      rw [unints_some h2]
      unfold unint at h1
      split at h1
      · cases h1; rfl
      · cases h1
    · cases h

def itP : IterT := fun g caps => if g = 252 then (match caps with
  | [.eptr (.sl es) 0] => (match unws es with
    | some l => if l.length ≤ 1000000 then some (backL l l.length) else none
    | none => none)
  | _ => none) else none
theorem itP_ok : ∀ g caps xs, itP g caps = some xs → SeqA Tryz.prog g caps xs := by
  intro g caps xs h
  unfold itP at h
  split at h
  · rename_i hg
    subst hg
    split at h
    · rename_i es
      split at h
      · rename_i l hl
        split at h
        · rename_i hc
          cases h
          rw [unws_some hl]
          exact backward_s l hc
        · cases h
      · cases h
    · cases h
  · cases h
def extV : CallT := fun f a =>
  if f = 170 then (match a with
    | [.sl es] => (match unints es with
      | some l => if l.length ≤ 1000000 then some (.sl es) else none
      | none => none)
    | _ => none)
  else if f = 191 then (match a with
    | [.int .u64 x, .int .u64 y, .int .u64 c] => if 0 ≤ x ∧ 0 ≤ y ∧ 0 ≤ c ∧ c ≤ 1 then some (.tup [.int .u64 ((x + y + c) % 18446744073709551616), .int .u64 ((x + y + c) / 18446744073709551616)]) else none
    | _ => none)
  else if f = 192 then (match a with
    | [.int .u64 x, .int .u64 y, .int .u64 c] => if 0 ≤ x ∧ 0 ≤ y ∧ 0 ≤ c ∧ c ≤ 1 then some (.tup [.int .u64 (((x.toNat + 18446744073709551616 - y.toNat - c.toNat) % 18446744073709551616 : Nat) : Int), .int .u64 ((if x.toNat < y.toNat + c.toNat then 1 else 0 : Nat) : Int)]) else none
    | _ => none)
  else none
theorem extV_ok : ∀ f a v, extV f a = some v → Sound Tryz.prog f a v := by
  intro f a v h
  unfold extV at h
  split at h
  · rename_i hf
    subst hf
    split at h
    · rename_i es
      split at h
      · rename_i l hl
        split at h
        · rename_i hc
          cases h
          rw [unints_some hl]
          exact Clone_s l (by omega)
        · cases h
      · cases h
    · cases h
  · split at h
    · rename_i hf
      subst hf
      split at h
      · rename_i x y c
        split at h
        · rename_i hc
          cases h
          exact Add64_s x y c hc.1 hc.2.1 hc.2.2
        · cases h
      · cases h
    · split at h
      · rename_i hf
        subst hf
        split at h
        · rename_i x y c
          split at h
          · rename_i hc
            cases h
            have := Sub64_s x.toNat y.toNat c.toNat (by omega)
            rw [show ((x.toNat : Nat) : Int) = x by omega, show ((y.toNat : Nat) : Int) = y by omega, show ((c.toNat : Nat) : Int) = c by omega] at this
            exact this
          · cases h
        · cases h
      · cases h
def extO : OwnT := fun f a => if f = 170 then (match a with
    | [.sl es] => (match unints es with
      | some l => if l.length ≤ 1000000 then some (3, 1, es) else none
      | none => none)
    | _ => none) else none
theorem extO_ok : ∀ f a q, extO f a = some q → SoundO Tryz.prog f a q.1 q.2.1 q.2.2 := by
  intro f a q h
  unfold extO at h
  split at h
  · rename_i hf
    subst hf
    split at h
    · rename_i es
      split at h
      · rename_i l hl
        split at h
        · rename_i hc
          cases h
          rw [unints_some hl]
          exact Clone_o l (by omega)
        · cases h
      · cases h
    · cases h
  · cases h
def extP : CT := ⟨extV, extO⟩
theorem extP_ok : extP.ok Tryz.prog := ⟨extV_ok, extO_ok⟩
def owP : FuncId → Bool := fun f => decide (f = 170) || decide (f = 120)
def tabP : List (Nat × Nat × Nat × MC × List (Nat × Option (Option Nat))) := [(11, 91, 0, c_law02_awake, [(0, none)]), (89, 47, 2, c_pulse_KeptAfter, [(4, none), (5, none)]), (16, 6, 1, c_base_CopyInts, [(2, none)]), (90, 65, 1, c_pulse_GainOf, [(2, (some (some 2))), (3, none)]), (82, 12, 2, c_pulse_Restored, [(4, none), (5, none)]), (57, 6, 1, c_ref02_Wave, [(2, (some (some 1)))]), (34, 26, 2, c_base_Ints, [(4, none)]), (14, 58, 2, c_pulse_FitOf, [(4, (some (some 2))), (5, none)]), (88, 3, 0, c_law02_Template, [(0, (some (some 2)))]), (23, 41, 3, c_pulse_ErrorOf, [(6, (some (some 2))), (7, none)]), (117, 15, 1, c_pulse_first, [(2, none)]), (178, 30, 1, c_pulse_timesErr, [(2, none)]), (119, 7, 2, c_pulse_unless, [(4, none)]), (179, 5, 1, c_pulse_isTick, [(2, none)]), (114, 9, 2, c_slices_ContainsFunc_int_int, [(4, none)]), (180, 6, 1, c_pulse_GainOf_1, [(2, none)]), (116, 15, 3, c_pulse_within, [(6, none)]), (181, 25, 1, c_slices_Max_int_int, [(2, none)]), (130, 17, 1, c_pulse_sum, [(2, none)]), (175, 28, 2, c_pulse_lowest, [(4, (some (some 2))), (5, none)]), (174, 60, 3, c_pulse_droop, [(6, none), (7, none)]), (217, 24, 1, c_pulse_samplesErr, [(2, none), (3, none)]), (151, 11, 1, c_pulse_sampled, [(2, none)]), (227, 16, 2, c_pulse_floor, [(4, none)]), (152, 21, 1, c_pulse_fitErr, [(2, none)]), (176, 5, 1, c_pulse_isSample, [(2, none)]), (91, 22, 2, c_pulse_fittedErr, [(4, none)]), (92, 55, 2, c_pulse_problemOf, [(4, (some (some 2)))]), (93, 8, 1, c_math_bits_TrailingZeros, [(2, none)]), (94, 92, 2, c_pulse_problem_solved, [(4, (some (some 3))), (5, none)]), (95, 56, 3, c_pulse_problem_isBest, [(6, none)]), (96, 62, 2, c_pulse_reduced, [(4, (some (some 2))), (5, none)]), (104, 21, 3, c_pulse_bothErr, [(6, none)]), (105, 35, 3, c_pulse_differences, [(6, none)]), (106, 57, 2, c_pulse_wide_plus, [(4, (some (some 3)))]), (107, 11, 1, c_pulse_wideOf, [(2, (some (some 3)))]), (108, 33, 2, c_pulse_wide_times, [(4, (some (some 3)))]), (109, 39, 1, c_pulse_wide_text, [(2, none)]), (197, 19, 2, c_slices_IndexFunc_int_int, [(4, none)]), (127, 15, 2, c_pulse_divisor, [(4, none)]), (226, 12, 1, c_pulse_droopErr, [(2, none)]), (250, 6, 1, c_pulse_samplesErr_1, [(2, none)]), (218, 6, 1, c_pulse_fitErr_1, [(2, none)]), (199, 10, 2, c_pulse_isSized, [(4, none)]), (118, 32, 1, c_pulse_templateErr, [(2, none)]), (120, 47, 2, c_pulse_model, [(4, none)]), (128, 30, 3, c_pulse_against, [(6, none)]), (182, 14, 1, c_math_bits_TrailingZeros32, [(2, none)]), (183, 14, 1, c_math_bits_TrailingZeros64, [(2, none)]), (184, 57, 1, c_pulse_determinant, [(2, (some (some 3)))]), (185, 11, 1, c_pulse_wide_negated, [(2, (some (some 3)))]), (186, 9, 1, c_pulse_wide_sign, [(2, none)]), (187, 60, 2, c_pulse_common, [(4, (some (some 3)))]), (188, 51, 2, c_pulse_wide_over, [(4, (some (some 3)))]), (131, 24, 2, c_pulse_wide_isLess, [(4, none)]), (193, 51, 2, c_math_bits_Mul64, [(4, none), (5, none)]), (194, 135, 3, c_math_bits_Div64, [(6, none), (7, none)]), (195, 8, 2, c_strconv_FormatUint, [(4, none)]), (198, 6, 1, c_pulse_templateErr_1, [(2, none)]), (200, 5, 1, c_pulse_templateErr_2, [(2, none)]), (228, 11, 1, c_pulse_wide_isZero, [(2, none)]), (229, 8, 1, c_pulse_wide_size, [(2, (some (some 3)))]), (230, 16, 1, c_pulse_wide_half, [(2, (some (some 3)))]), (231, 6, 1, c_pulse_wide_twice, [(2, (some (some 3)))]), (232, 4, 1, c_slices_Backward_pulse_wide_pulse_wide, [(2, none)]), (233, 6, 1, c_math_bits_LeadingZeros64, [(2, none)]), (234, 32, 2, c_internal_strconv_FormatUint, [(4, none)]), (252, 19, 2, c_slices_Backward_pulse_wide_pulse_wide_1, []), (253, 25, 1, c_math_bits_Len64, [(2, none)]), (254, 15, 1, c_internal_strconv_small, [(2, none)]), (255, 15, 1, c_internal_strconv_numDigits, [(2, none)]), (256, 167, 2, c_internal_strconv_formatBase10, []), (257, 102, 5, c_internal_strconv_formatBits, [(10, none), (11, none)]), (270, 6, 1, c_internal_strconv_log10Pow2, [(2, none)]), (271, 4, 1, c_internal_strconv_bool2_int, [(2, none)]), (272, 8, 1, c_internal_strconv_isPowerOfTwo, [(2, none)])]
theorem tabP_ok : ∀ f c, lookC tabP f = some c → cFun Tryz.prog f = some c := by
  refine lookC_ok ?_
  unfold tabP
  simp only [List.forall_mem_cons]
  exact ⟨f_law02_awake, f_pulse_KeptAfter, f_base_CopyInts, f_pulse_GainOf, f_pulse_Restored, f_ref02_Wave, f_base_Ints, f_pulse_FitOf, f_law02_Template, f_pulse_ErrorOf, f_pulse_first, f_pulse_timesErr, f_pulse_unless, f_pulse_isTick, f_slices_ContainsFunc_int_int, f_pulse_GainOf_1, f_pulse_within, f_slices_Max_int_int, f_pulse_sum, f_pulse_lowest, f_pulse_droop, f_pulse_samplesErr, f_pulse_sampled, f_pulse_floor, f_pulse_fitErr, f_pulse_isSample, f_pulse_fittedErr, f_pulse_problemOf, f_math_bits_TrailingZeros, f_pulse_problem_solved, f_pulse_problem_isBest, f_pulse_reduced, f_pulse_bothErr, f_pulse_differences, f_pulse_wide_plus, f_pulse_wideOf, f_pulse_wide_times, f_pulse_wide_text, f_slices_IndexFunc_int_int, f_pulse_divisor, f_pulse_droopErr, f_pulse_samplesErr_1, f_pulse_fitErr_1, f_pulse_isSized, f_pulse_templateErr, f_pulse_model, f_pulse_against, f_math_bits_TrailingZeros32, f_math_bits_TrailingZeros64, f_pulse_determinant, f_pulse_wide_negated, f_pulse_wide_sign, f_pulse_common, f_pulse_wide_over, f_pulse_wide_isLess, f_math_bits_Mul64, f_math_bits_Div64, f_strconv_FormatUint, f_pulse_templateErr_1, f_pulse_templateErr_2, f_pulse_wide_isZero, f_pulse_wide_size, f_pulse_wide_half, f_pulse_wide_twice, f_slices_Backward_pulse_wide_pulse_wide, f_math_bits_LeadingZeros64, f_internal_strconv_FormatUint, f_slices_Backward_pulse_wide_pulse_wide_1, f_math_bits_Len64, f_internal_strconv_small, f_internal_strconv_numDigits, f_internal_strconv_formatBase10, f_internal_strconv_formatBits, f_internal_strconv_log10Pow2, f_internal_strconv_bool2_int, f_internal_strconv_isPowerOfTwo, fun p hp => by cases hp⟩
end Go.Proofs.YtgmpcbpmnimkoaaGreatDoor

/- The examples of chapter 2 hold. By an AI agent; nothing here is trusted. -/
namespace Go.Proofs.YtgmpcbpmnimkoaaGreatDoor
open Go.Av
theorem awake_run : (callX extP owP itP (lookC tabP) 100 40).v 11 [] = some (.bool true) := by kernel_rfl
theorem awake_s : Sound Tryz.prog 11 [] (.bool true) := (callX_sound extP_ok itP_ok tabP_ok 40).1 _ _ _ awake_run
end Go.Proofs.YtgmpcbpmnimkoaaGreatDoor

