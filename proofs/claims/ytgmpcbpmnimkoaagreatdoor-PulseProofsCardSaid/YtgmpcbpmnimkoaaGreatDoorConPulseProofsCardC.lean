/- The marked code of law functions; printed by a program. By an AI agent; nothing here is trusted. -/
import Derived.Test.YtgmpcbpmnimkoaaGreatDoorLayC
import Derived.Test.YtgmpcbpmnimkoaaGreatDoorKode
import Derived.Test.YtgmpcbpmnimkoaaGreatDoorConPulseProofsCardB
set_option linter.defProp false
set_option linter.unusedSimpArgs false
set_option linter.unusedVariables false
namespace Go.Proofs.YtgmpcbpmnimkoaaGreatDoor
open Go.Av
def cl_law02_PulseProofs : ML := (.seq (.reg 42 [⟨none, (some 3), (.box 24 2 (.t 0))⟩, ⟨none, (some 5), (.box 65 3 (.t 2))⟩, ⟨none, (some 6), (.mv (.c (.bool false)))⟩] false []) (.seq (.seq (.reg 131114 [⟨none, (some 16), (.call 11 [])⟩, ⟨none, (some 17), (.un .not (.t 16))⟩] false []) (.cond (.t 17) (.seq (.reg 64 [⟨none, (some 6), (.mv (.c (.bool false)))⟩] false []) .ret) .skip)) (.seq (.seq (.reg 4294967338 [⟨none, (some 18), (.mv (.t 1))⟩, ⟨none, (some 19), (.call 29 [(.t 18)])⟩, ⟨none, (some 20), (.un .not (.t 19))⟩, ⟨none, (some 21), (.mv (.t 20))⟩, ⟨(some (21, false)), (some 22), (.load (some 2) (.t 3))⟩, ⟨(some (21, false)), (some 23), (.call 30 [(.t 22)])⟩, ⟨(some (21, false)), (some 24), (.un .not (.t 23))⟩, ⟨none, (some 25), (.pick (.t 21) (.c (.bool true)) (.t 24))⟩, ⟨none, (some 26), (.mv (.t 25))⟩, ⟨(some (26, false)), (some 27), (.fieldAddr (.t 5) 0)⟩, ⟨(some (26, false)), (some 28), (.fieldAddr (.t 27) 1)⟩, ⟨(some (26, false)), (some 29), (.load none (.t 28))⟩, ⟨(some (26, false)), (some 30), (.len false (.t 29))⟩, ⟨(some (26, false)), (some 31), (.bin .gtr (.t 30) (.c (.int .i64 8)))⟩, ⟨none, (some 32), (.pick (.t 26) (.c (.bool true)) (.t 31))⟩] false []) (.cond (.t 32) (.seq (.reg 64 [⟨none, (some 6), (.mv (.c (.bool true)))⟩] false []) .ret) .skip)) (.seq (.reg 426 [⟨none, (some 34), (.load (some 2) (.t 3))⟩, ⟨none, (some 35), (.call 15 [(.t 34)])⟩, ⟨none, (some 36), (.mv (.t 1))⟩, ⟨none, (some 37), (.call 16 [(.t 36)])⟩, ⟨none, (some 38), (.fieldAddr (.t 5) 0)⟩, ⟨none, (some 39), (.load (some 2) (.t 38))⟩, ⟨none, (some 40), (.call 24 [(.t 39)])⟩, ⟨none, (some 41), (.call 37 [(.t 35), (.t 37), (.t 40)])⟩, ⟨none, (some 33), (.mv (.t 41))⟩, ⟨none, (some 42), (.extract (.t 33) 0)⟩, ⟨none, (some 43), (.extract (.t 33) 1)⟩, ⟨none, (some 7), (.mv (.t 42))⟩, ⟨none, (some 8), (.mv (.t 43))⟩] true []) (.seq (.reg 1962 [⟨none, (some 45), (.load (some 2) (.t 3))⟩, ⟨none, (some 46), (.call 15 [(.t 45)])⟩, ⟨none, (some 47), (.mv (.t 1))⟩, ⟨none, (some 48), (.call 16 [(.t 47)])⟩, ⟨none, (some 49), (.fieldAddr (.t 5) 0)⟩, ⟨none, (some 50), (.load (some 2) (.t 49))⟩, ⟨none, (some 51), (.call 24 [(.t 50)])⟩, ⟨none, (some 52), (.call 23 [(.t 46), (.t 48), (.t 51)])⟩, ⟨none, (some 44), (.mv (.t 52))⟩, ⟨none, (some 53), (.extract (.t 44) 0)⟩, ⟨none, (some 54), (.extract (.t 44) 1)⟩, ⟨none, (some 9), (.alloc 42 2 (.agg [(.str []), (.int .i64 0)]))⟩, ⟨none, none, (.store 2 (.t 9) (.t 53))⟩, ⟨none, (some 10), (.mv (.t 54))⟩] true [(⟨none, (some 45), (.load (some 2) (.t 3))⟩, ⟨none, (some 9), (.alloc 42 2 (.agg [(.str []), (.int .i64 0)]))⟩), (⟨none, (some 46), (.call 15 [(.t 45)])⟩, ⟨none, (some 9), (.alloc 42 2 (.agg [(.str []), (.int .i64 0)]))⟩), (⟨none, (some 48), (.call 16 [(.t 47)])⟩, ⟨none, (some 9), (.alloc 42 2 (.agg [(.str []), (.int .i64 0)]))⟩), (⟨none, (some 49), (.fieldAddr (.t 5) 0)⟩, ⟨none, (some 9), (.alloc 42 2 (.agg [(.str []), (.int .i64 0)]))⟩), (⟨none, (some 50), (.load (some 2) (.t 49))⟩, ⟨none, (some 9), (.alloc 42 2 (.agg [(.str []), (.int .i64 0)]))⟩), (⟨none, (some 51), (.call 24 [(.t 50)])⟩, ⟨none, (some 9), (.alloc 42 2 (.agg [(.str []), (.int .i64 0)]))⟩), (⟨none, (some 52), (.call 23 [(.t 46), (.t 48), (.t 51)])⟩, ⟨none, (some 9), (.alloc 42 2 (.agg [(.str []), (.int .i64 0)]))⟩)]) (.seq (.reg 8106 [⟨none, (some 56), (.load (some 2) (.t 3))⟩, ⟨none, (some 57), (.call 15 [(.t 56)])⟩, ⟨none, (some 58), (.mv (.t 1))⟩, ⟨none, (some 59), (.call 16 [(.t 58)])⟩, ⟨none, (some 60), (.fieldAddr (.t 5) 0)⟩, ⟨none, (some 61), (.load (some 2) (.t 60))⟩, ⟨none, (some 62), (.call 24 [(.t 61)])⟩, ⟨none, (some 63), (.fieldAddr (.t 5) 2)⟩, ⟨none, (some 64), (.load none (.t 63))⟩, ⟨none, (some 65), (.build [(.int .i64 0), .nils, (.int .i64 0)] [(0, (2, (.t 62))), (2, (1, (.t 64)))])⟩, ⟨none, (some 66), (.call 39 [(.t 57), (.t 59), (.t 65)])⟩, ⟨none, (some 55), (.mv (.t 66))⟩, ⟨none, (some 67), (.extract (.t 55) 0)⟩, ⟨none, (some 68), (.extract (.t 55) 1)⟩, ⟨none, (some 11), (.mv (.t 67))⟩, ⟨none, (some 12), (.mv (.t 68))⟩] true []) (.seq (.reg 16298 [⟨none, (some 69), (.load (some 2) (.t 3))⟩, ⟨none, (some 70), (.mv (.t 1))⟩, ⟨none, (some 71), (.call 12 [(.t 69), (.t 70)])⟩, ⟨none, (some 13), (.mv (.t 71))⟩] false []) (.seq (.seq (.reg 9444732965739290443690 [⟨none, (some 72), (.mv (.t 13))⟩, ⟨none, (some 73), (.bin .eql (.t 72) (.c (.int .i64 0)))⟩] false []) (.cond (.t 73) (.reg 16298 [⟨none, (some 74), (.fieldAddr (.t 5) 0)⟩, ⟨none, (some 75), (.load (some 2) (.t 74))⟩, ⟨none, (some 76), (.call 17 [(.t 75)])⟩, ⟨none, (some 13), (.mv (.t 76))⟩] false []) .skip)) (.seq (.seq (.reg 154742504910672534362406826 [⟨none, (some 77), (.mv (.t 13))⟩, ⟨none, (some 78), (.bin .eql (.t 77) (.c (.int .i64 0)))⟩, ⟨none, (some 79), (.mv (.t 78))⟩, ⟨(some (79, true)), (some 80), (.fieldAddr (.t 5) 0)⟩, ⟨(some (79, true)), (some 81), (.fieldAddr (.t 80) 1)⟩, ⟨(some (79, true)), (some 82), (.load none (.t 81))⟩, ⟨(some (79, true)), (some 83), (.len false (.t 82))⟩, ⟨(some (79, true)), (some 84), (.fieldAddr (.t 3) 1)⟩, ⟨(some (79, true)), (some 85), (.load none (.t 84))⟩, ⟨(some (79, true)), (some 86), (.bin .neq (.t 83) (.t 85))⟩, ⟨none, (some 87), (.pick (.t 79) (.t 86) (.c (.bool false)))⟩] false []) (.cond (.t 87) (.reg 16298 [⟨none, (some 13), (.mv (.c (.int .i64 10)))⟩] false []) .skip)) (.seq (.seq (.reg 618970019642690137449578410 [⟨none, (some 88), (.mv (.t 13))⟩, ⟨none, (some 89), (.bin .neq (.t 88) (.c (.int .i64 0)))⟩] false []) (.cond (.t 89) (.seq (.reg 64 [⟨none, (some 90), (.mv (.t 8))⟩, ⟨none, (some 91), (.mv (.t 13))⟩, ⟨none, (some 92), (.bin .eql (.t 90) (.t 91))⟩, ⟨none, (some 93), (.mv (.t 92))⟩, ⟨(some (93, true)), (some 94), (.mv (.t 7))⟩, ⟨(some (93, true)), (some 95), (.bin .eql (.t 94) (.c (.int .i64 0)))⟩, ⟨none, (some 96), (.pick (.t 93) (.t 95) (.c (.bool false)))⟩, ⟨none, (some 97), (.mv (.t 96))⟩, ⟨(some (97, true)), (some 98), (.mv (.t 10))⟩, ⟨(some (97, true)), (some 99), (.mv (.t 13))⟩, ⟨(some (97, true)), (some 100), (.bin .eql (.t 98) (.t 99))⟩, ⟨none, (some 101), (.pick (.t 97) (.t 100) (.c (.bool false)))⟩, ⟨none, (some 102), (.mv (.t 101))⟩, ⟨(some (102, true)), (some 103), (.load (some 2) (.t 9))⟩, ⟨(some (102, true)), (some 104), (.build [(.str []), (.int .i64 0)] [])⟩, ⟨(some (102, true)), (some 105), (.eqS false [2, 1] (.t 103) (.t 104))⟩, ⟨none, (some 106), (.pick (.t 102) (.t 105) (.c (.bool false)))⟩, ⟨none, (some 107), (.mv (.t 106))⟩, ⟨(some (107, true)), (some 108), (.mv (.t 12))⟩, ⟨(some (107, true)), (some 109), (.mv (.t 13))⟩, ⟨(some (107, true)), (some 110), (.bin .eql (.t 108) (.t 109))⟩, ⟨none, (some 111), (.pick (.t 107) (.t 110) (.c (.bool false)))⟩, ⟨none, (some 112), (.mv (.t 111))⟩, ⟨(some (112, true)), (some 113), (.mv (.t 11))⟩, ⟨(some (112, true)), (some 114), (.un .not (.t 113))⟩, ⟨none, (some 115), (.pick (.t 112) (.t 114) (.c (.bool false)))⟩, ⟨none, (some 6), (.mv (.t 115))⟩] false []) .ret) .skip)) (.seq (.reg 57258 [⟨none, (some 117), (.load (some 2) (.t 3))⟩, ⟨none, (some 118), (.mv (.t 1))⟩, ⟨none, (some 119), (.fieldAddr (.t 5) 0)⟩, ⟨none, (some 120), (.load (some 2) (.t 119))⟩, ⟨none, (some 121), (.call 40 [(.t 117), (.t 118), (.t 120)])⟩, ⟨none, (some 116), (.mv (.t 121))⟩, ⟨none, (some 122), (.extract (.t 116) 0)⟩, ⟨none, (some 123), (.extract (.t 116) 1)⟩, ⟨none, (some 14), (.mv (.t 122))⟩, ⟨none, (some 15), (.mv (.t 123))⟩] false []) (.seq (.seq (.reg 713623846352979940529142984724747568191379498 [⟨none, (some 124), (.mv (.t 8))⟩, ⟨none, (some 125), (.mv (.t 15))⟩, ⟨none, (some 126), (.bin .neq (.t 124) (.t 125))⟩, ⟨none, (some 127), (.mv (.t 126))⟩, ⟨(some (127, false)), (some 128), (.mv (.t 7))⟩, ⟨(some (127, false)), (some 129), (.mv (.t 14))⟩, ⟨(some (127, false)), (some 130), (.bin .neq (.t 128) (.t 129))⟩, ⟨none, (some 131), (.pick (.t 127) (.c (.bool true)) (.t 130))⟩, ⟨none, (some 132), (.mv (.t 131))⟩, ⟨(some (132, false)), (some 133), (.mv (.t 10))⟩, ⟨(some (132, false)), (some 134), (.bin .neq (.t 133) (.c (.int .i64 0)))⟩, ⟨none, (some 135), (.pick (.t 132) (.c (.bool true)) (.t 134))⟩, ⟨none, (some 136), (.mv (.t 135))⟩, ⟨(some (136, false)), (some 137), (.load (some 2) (.t 9))⟩, ⟨(some (136, false)), (some 138), (.load (some 2) (.t 3))⟩, ⟨(some (136, false)), (some 139), (.mv (.t 1))⟩, ⟨(some (136, false)), (some 140), (.fieldAddr (.t 5) 0)⟩, ⟨(some (136, false)), (some 141), (.load (some 2) (.t 140))⟩, ⟨(some (136, false)), (some 142), (.call 38 [(.t 138), (.t 139), (.t 141)])⟩, ⟨(some (136, false)), (some 143), (.call 26 [(.t 142)])⟩, ⟨(some (136, false)), (some 144), (.fieldAddr (.t 5) 0)⟩, ⟨(some (136, false)), (some 145), (.fieldAddr (.t 144) 0)⟩, ⟨(some (136, false)), (some 146), (.load none (.t 145))⟩, ⟨(some (136, false)), (some 147), (.build [(.str []), (.int .i64 0)] [(0, (1, (.t 143))), (1, (1, (.t 146)))])⟩, ⟨(some (136, false)), (some 148), (.eqS true [2, 1] (.t 137) (.t 147))⟩, ⟨none, (some 149), (.pick (.t 136) (.c (.bool true)) (.t 148))⟩] true []) (.cond (.t 149) (.seq (.reg 64 [⟨none, (some 6), (.mv (.c (.bool false)))⟩] false []) .ret) .skip)) (.seq (.seq (.reg 11417981541647679048466287755595961091061979178 [⟨none, (some 150), (.fieldAddr (.t 5) 2)⟩, ⟨none, (some 151), (.load none (.t 150))⟩, ⟨none, (some 152), (.call 13 [(.t 151), (.c (.int .i64 0)), (.c (.int .i64 100))])⟩, ⟨none, (some 153), (.un .not (.t 152))⟩] false []) (.cond (.t 153) (.seq (.reg 64 [⟨none, (some 154), (.mv (.t 12))⟩, ⟨none, (some 155), (.bin .eql (.t 154) (.c (.int .i64 2)))⟩, ⟨none, (some 156), (.mv (.t 155))⟩, ⟨(some (156, true)), (some 157), (.mv (.t 11))⟩, ⟨(some (156, true)), (some 158), (.un .not (.t 157))⟩, ⟨none, (some 159), (.pick (.t 156) (.t 158) (.c (.bool false)))⟩, ⟨none, (some 6), (.mv (.t 159))⟩] false []) .ret) .skip)) (.seq (.reg 64 [⟨none, (some 160), (.mv (.t 12))⟩, ⟨none, (some 161), (.bin .eql (.t 160) (.c (.int .i64 0)))⟩, ⟨none, (some 162), (.mv (.t 161))⟩, ⟨(some (162, true)), (some 163), (.mv (.t 11))⟩, ⟨(some (162, true)), (some 164), (.load (some 2) (.t 3))⟩, ⟨(some (162, true)), (some 165), (.mv (.t 1))⟩, ⟨(some (162, true)), (some 166), (.fieldAddr (.t 5) 0)⟩, ⟨(some (162, true)), (some 167), (.load (some 2) (.t 166))⟩, ⟨(some (162, true)), (some 168), (.fieldAddr (.t 5) 2)⟩, ⟨(some (162, true)), (some 169), (.load none (.t 168))⟩, ⟨(some (162, true)), (some 170), (.call 41 [(.t 164), (.t 165), (.t 167), (.t 169)])⟩, ⟨(some (162, true)), (some 171), (.eqB false (.t 163) (.t 170))⟩, ⟨none, (some 172), (.pick (.t 162) (.t 171) (.c (.bool false)))⟩, ⟨none, (some 6), (.mv (.t 172))⟩] false []) .ret))))))))))))))
theorem e_law02_PulseProofs : cl_law02_PulseProofs.er = c_law02_PulseProofs := rfl
end Go.Proofs.YtgmpcbpmnimkoaaGreatDoor

/- The law PulseProofs: it answers true. By an AI agent; nothing here is trusted. -/
namespace Go.Proofs.YtgmpcbpmnimkoaaGreatDoor
open Go.Av

set_option maxHeartbeats 2000000 in
theorem PulseProofs_s (items : List Int) (shifts : Int) (l : List Int) (den : Int) (ch : List Int) (pc : Int) : Sound Tryz.prog 6 [tplA items shifts, .sl (ints l), .agg [.int .i64 den, .sl (ints ch), .int .i64 pc]] (.bool true) := by
  refine sound_WL f_law02_PulseProofs e_law02_PulseProofs (Nat.le_of_ble_eq_true rfl) ?_
  simp only [cl_law02_PulseProofs, tplA, fitA, vcV, vcD, Int.reduceEq, Int.reduceNe, Int.reduceLT, Int.reduceLE, Nat.reduceEqDiff, Nat.reduceAdd, reduceIte, reduceCtorEq, Nat.reduceLT, Nat.reduceLeDiff, eq_self, vcP2, Nat.reduceShiftRight, Nat.reduceMod]
  refine callS_of awake_s ?_
  simp only [vcV, vcD, Int.reduceEq, Int.reduceNe, Int.reduceLT, Int.reduceLE, Nat.reduceEqDiff, Nat.reduceAdd, reduceIte, reduceCtorEq, Nat.reduceLT, Nat.reduceLeDiff, eq_self, vcP2, Nat.reduceShiftRight, Nat.reduceMod]
  refine callS_of (few_s l) ?_
  by_cases hl : l.length ≤ 26
  case neg => simp only [hl, vcV, vcD, Int.reduceEq, Int.reduceNe, Int.reduceLT, Int.reduceLE, Nat.reduceEqDiff, Nat.reduceAdd, reduceIte, reduceCtorEq, Nat.reduceLT, Nat.reduceLeDiff, eq_self, vcP2, Nat.reduceShiftRight, Nat.reduceMod]
  have hfi := fewItems_s items shifts
  unfold tplA at hfi
  simp only [hl, vcV, vcD, Int.reduceEq, Int.reduceNe, Int.reduceLT, Int.reduceLE, Nat.reduceEqDiff, Nat.reduceAdd, reduceIte, reduceCtorEq, Nat.reduceLT, Nat.reduceLeDiff, eq_self, vcP2, Nat.reduceShiftRight, Nat.reduceMod]
  refine callS_of hfi ?_
  by_cases hi : items.length ≤ 8
  case neg => simp only [hi, vcV, vcD, Int.reduceEq, Int.reduceNe, Int.reduceLT, Int.reduceLE, Nat.reduceEqDiff, Nat.reduceAdd, reduceIte, reduceCtorEq, Nat.reduceLT, Nat.reduceLeDiff, eq_self, vcP2, Nat.reduceShiftRight, Nat.reduceMod]
  by_cases hc : 8 < ch.length
  · have hc' : (8 : Int) < ch.length := by omega
    simp only [hi, hc', vcV, vcD, Int.reduceEq, Int.reduceNe, Int.reduceLT, Int.reduceLE, Nat.reduceEqDiff, Nat.reduceAdd, reduceIte, reduceCtorEq, Nat.reduceLT, Nat.reduceLeDiff, eq_self, vcP2, Nat.reduceShiftRight, Nat.reduceMod]
  have hc' : ¬ (8 : Int) < ch.length := by omega
  have hCT := CopyTemplate_s items shifts (by omega)
  have hCI := CopyInts_s l (by omega)
  have hCF := CopyFit_s den ch (by omega)
  have hCk := CheckFit_s items shifts l den ch (by omega) (by omega) (by omega)
  have hEr := ErrorOf_s items shifts l den ch (by omega) (by omega) (by omega)
  have hIK := IsKept_s items shifts l den ch pc (by omega) (by omega) (by omega)
  have hFE := FittedErr_s items shifts l
  have hFi := FitErr_s den ch (by omega)
  unfold tplA fitA at hCk hEr
  unfold tplA at hCT hIK hFE
  unfold fitA at hCF hFi
  by_cases hE : beE items shifts l den ch = 0
  case neg =>
    have ck : cfA items shifts l den ch = (0, beE items shifts l den ch) := by unfold cfA; rw [if_pos hE]
    have er : erA items shifts l den ch = [.agg [.str [], .int .i64 0], .int .i64 (beE items shifts l den ch)] := by unfold erA; rw [if_pos hE]
    have ik : ikE items shifts l den ch pc = beE items shifts l den ch := by unfold ikE; rw [if_pos hE]
    rw [ck] at hCk
    rw [er] at hEr
    rw [ik, decide_eq_false hE, Bool.false_and] at hIK
    simp only [hi, hc', vcV, vcD, Int.reduceEq, Int.reduceNe, Int.reduceLT, Int.reduceLE, Nat.reduceEqDiff, Nat.reduceAdd, reduceIte, reduceCtorEq, Nat.reduceLT, Nat.reduceLeDiff, eq_self, vcP2, Nat.reduceShiftRight, Nat.reduceMod]
    refine callS_of hCT ?_
    simp only [vcV, vcD, Int.reduceEq, Int.reduceNe, Int.reduceLT, Int.reduceLE, Nat.reduceEqDiff, Nat.reduceAdd, reduceIte, reduceCtorEq, Nat.reduceLT, Nat.reduceLeDiff, eq_self, vcP2, Nat.reduceShiftRight, Nat.reduceMod]
    refine callS_of hCI ?_
    simp only [vcV, vcD, Int.reduceEq, Int.reduceNe, Int.reduceLT, Int.reduceLE, Nat.reduceEqDiff, Nat.reduceAdd, reduceIte, reduceCtorEq, Nat.reduceLT, Nat.reduceLeDiff, eq_self, vcP2, Nat.reduceShiftRight, Nat.reduceMod]
    refine callS_of hCF ?_
    simp only [vcV, vcD, Int.reduceEq, Int.reduceNe, Int.reduceLT, Int.reduceLE, Nat.reduceEqDiff, Nat.reduceAdd, reduceIte, reduceCtorEq, Nat.reduceLT, Nat.reduceLeDiff, eq_self, vcP2, Nat.reduceShiftRight, Nat.reduceMod]
    refine callS_of hCk ?_
    simp only [vcV, vcD, Int.reduceEq, Int.reduceNe, Int.reduceLT, Int.reduceLE, Nat.reduceEqDiff, Nat.reduceAdd, reduceIte, reduceCtorEq, Nat.reduceLT, Nat.reduceLeDiff, eq_self, vcP2, Nat.reduceShiftRight, Nat.reduceMod]
    refine callS_of hCT ?_
    simp only [vcV, vcD, Int.reduceEq, Int.reduceNe, Int.reduceLT, Int.reduceLE, Nat.reduceEqDiff, Nat.reduceAdd, reduceIte, reduceCtorEq, Nat.reduceLT, Nat.reduceLeDiff, eq_self, vcP2, Nat.reduceShiftRight, Nat.reduceMod]
    refine callS_of hCI ?_
    simp only [vcV, vcD, Int.reduceEq, Int.reduceNe, Int.reduceLT, Int.reduceLE, Nat.reduceEqDiff, Nat.reduceAdd, reduceIte, reduceCtorEq, Nat.reduceLT, Nat.reduceLeDiff, eq_self, vcP2, Nat.reduceShiftRight, Nat.reduceMod]
    refine callS_of hCF ?_
    simp only [vcV, vcD, Int.reduceEq, Int.reduceNe, Int.reduceLT, Int.reduceLE, Nat.reduceEqDiff, Nat.reduceAdd, reduceIte, reduceCtorEq, Nat.reduceLT, Nat.reduceLeDiff, eq_self, vcP2, Nat.reduceShiftRight, Nat.reduceMod]
    refine callS_of hEr ?_
    simp only [vcV, vcD, Int.reduceEq, Int.reduceNe, Int.reduceLT, Int.reduceLE, Nat.reduceEqDiff, Nat.reduceAdd, reduceIte, reduceCtorEq, Nat.reduceLT, Nat.reduceLeDiff, eq_self, vcP2, Nat.reduceShiftRight, Nat.reduceMod]
    refine callS_of hCT ?_
    simp only [vcV, vcD, Int.reduceEq, Int.reduceNe, Int.reduceLT, Int.reduceLE, Nat.reduceEqDiff, Nat.reduceAdd, reduceIte, reduceCtorEq, Nat.reduceLT, Nat.reduceLeDiff, eq_self, vcP2, Nat.reduceShiftRight, Nat.reduceMod]
    refine callS_of hCI ?_
    simp only [vcV, vcD, Int.reduceEq, Int.reduceNe, Int.reduceLT, Int.reduceLE, Nat.reduceEqDiff, Nat.reduceAdd, reduceIte, reduceCtorEq, Nat.reduceLT, Nat.reduceLeDiff, eq_self, vcP2, Nat.reduceShiftRight, Nat.reduceMod]
    refine callS_of hCF ?_
    simp only [vcV, vcD, Int.reduceEq, Int.reduceNe, Int.reduceLT, Int.reduceLE, Nat.reduceEqDiff, Nat.reduceAdd, reduceIte, reduceCtorEq, Nat.reduceLT, Nat.reduceLeDiff, eq_self, vcP2, Nat.reduceShiftRight, Nat.reduceMod]
    refine callS_of hIK ?_
    simp only [vcV, vcD, Int.reduceEq, Int.reduceNe, Int.reduceLT, Int.reduceLE, Nat.reduceEqDiff, Nat.reduceAdd, reduceIte, reduceCtorEq, Nat.reduceLT, Nat.reduceLeDiff, eq_self, vcP2, Nat.reduceShiftRight, Nat.reduceMod]
    refine callS_of hFE ?_
    by_cases e1 : fdE items shifts l = 0
    case neg =>
      have hv : beE items shifts l den ch = fdE items shifts l := by unfold beE; rw [if_pos e1]
      rw [hv] at hE ⊢
      simp only [e1, vcV, vcD, Int.reduceEq, Int.reduceNe, Int.reduceLT, Int.reduceLE, Nat.reduceEqDiff, Nat.reduceAdd, reduceIte, reduceCtorEq, Nat.reduceLT, Nat.reduceLeDiff, eq_self, vcP2, Nat.reduceShiftRight, Nat.reduceMod]
    simp only [e1, vcV, vcD, Int.reduceEq, Int.reduceNe, Int.reduceLT, Int.reduceLE, Nat.reduceEqDiff, Nat.reduceAdd, reduceIte, reduceCtorEq, Nat.reduceLT, Nat.reduceLeDiff, eq_self, vcP2, Nat.reduceShiftRight, Nat.reduceMod]
    refine callS_of hFi ?_
    by_cases e2 : fE den ch = 0
    case neg =>
      have hv : beE items shifts l den ch = fE den ch := by unfold beE; rw [if_neg (by omega), if_pos e2]
      rw [hv] at hE ⊢
      simp only [e2, vcV, vcD, Int.reduceEq, Int.reduceNe, Int.reduceLT, Int.reduceLE, Nat.reduceEqDiff, Nat.reduceAdd, reduceIte, reduceCtorEq, Nat.reduceLT, Nat.reduceLeDiff, eq_self, vcP2, Nat.reduceShiftRight, Nat.reduceMod]
    have hv : beE items shifts l den ch = if (ch.length : Int) = shifts then 0 else 10 := by unfold beE; rw [if_neg (by omega), if_neg (by omega)]
    by_cases e3 : (ch.length : Int) = shifts
    · rw [hv, if_pos e3] at hE; exact absurd rfl hE
    · rw [if_neg e3] at hv
      rw [hv]
      simp only [e2, e3, vcV, vcD, Int.reduceEq, Int.reduceNe, Int.reduceLT, Int.reduceLE, Nat.reduceEqDiff, Nat.reduceAdd, reduceIte, reduceCtorEq, Nat.reduceLT, Nat.reduceLeDiff, eq_self, vcP2, Nat.reduceShiftRight, Nat.reduceMod]
  have F := beE_ok hE
  have hb := F.dfb
  have hlen : (dfL items l ch den).length ≤ 10 := by rw [dfL_len, F.mlen]; exact F.l10
  have hsq := sqN_bd hb
  have e0 : fdE items shifts l = 0 ∧ fE den ch = 0 ∧ (ch.length : Int) = shifts := by
    unfold beE at hE
    split at hE
    · rename_i h; exact absurd hE h
    · split at hE
      · rename_i h; exact absurd hE h
      · split at hE
        · refine ⟨by omega, by omega, by assumption⟩
        · cases hE
  obtain ⟨e1, e2, e3⟩ := e0
  have hRC := refCheckFit_s F
  have ck : cfA items shifts l den ch = (if gcF den ch = 1 then ckA items l ch den else (0, 3)) := by
    unfold cfA; rw [if_neg (by omega)]
    by_cases g : gcF den ch = 1
    · rw [if_pos g, if_neg (by omega)]
    · rw [if_neg g, if_pos g]
  rw [ck] at hCk
  obtain ⟨p, q, hpq⟩ : ∃ p q, (if gcF den ch = 1 then ckA items l ch den else ((0 : Int), (3 : Int))) = (p, q) := ⟨_, _, rfl⟩
  rw [hpq] at hRC hCk
  have er : erA items shifts l den ch = [.agg [.str (Lib.decDigits (sqN (dfL items l ch den))), .int .i64 den], .int .i64 0] := by unfold erA; rw [if_neg (by omega)]
  rw [er] at hEr
  have hSq := Squares_s F
  have hDi := Digits_s (sqN (dfL items l ch den)) (by omega)
  have hKe := fun h => refKept_s (pc := pc) F h
  have hWi := Within_s pc 0 100
  have hwn := wide_hr ((sqN (dfL items l ch den) : Nat) : Int)
  rw [hwn] at hSq hDi
  unfold tplA fitA at hRC hSq hKe
  have e50 : (10 : Nat) ^ 50 = 100000000000000000000000000000000000000000000000000 := by decide
  have hdc := dec_len (n := sqN (dfL items l ch den)) (by rw [e50]; omega)
  generalize Lib.decDigits (sqN (dfL items l ch den)) = dd at *
  simp only [hi, hc', vcV, vcD, Int.reduceEq, Int.reduceNe, Int.reduceLT, Int.reduceLE, Nat.reduceEqDiff, Nat.reduceAdd, reduceIte, reduceCtorEq, Nat.reduceLT, Nat.reduceLeDiff, eq_self, vcP2, Nat.reduceShiftRight, Nat.reduceMod]
  refine callS_of hCT ?_
  simp only [vcV, vcD, Int.reduceEq, Int.reduceNe, Int.reduceLT, Int.reduceLE, Nat.reduceEqDiff, Nat.reduceAdd, reduceIte, reduceCtorEq, Nat.reduceLT, Nat.reduceLeDiff, eq_self, vcP2, Nat.reduceShiftRight, Nat.reduceMod]
  refine callS_of hCI ?_
  simp only [vcV, vcD, Int.reduceEq, Int.reduceNe, Int.reduceLT, Int.reduceLE, Nat.reduceEqDiff, Nat.reduceAdd, reduceIte, reduceCtorEq, Nat.reduceLT, Nat.reduceLeDiff, eq_self, vcP2, Nat.reduceShiftRight, Nat.reduceMod]
  refine callS_of hCF ?_
  simp only [vcV, vcD, Int.reduceEq, Int.reduceNe, Int.reduceLT, Int.reduceLE, Nat.reduceEqDiff, Nat.reduceAdd, reduceIte, reduceCtorEq, Nat.reduceLT, Nat.reduceLeDiff, eq_self, vcP2, Nat.reduceShiftRight, Nat.reduceMod]
  refine callS_of hCk ?_
  simp only [vcV, vcD, Int.reduceEq, Int.reduceNe, Int.reduceLT, Int.reduceLE, Nat.reduceEqDiff, Nat.reduceAdd, reduceIte, reduceCtorEq, Nat.reduceLT, Nat.reduceLeDiff, eq_self, vcP2, Nat.reduceShiftRight, Nat.reduceMod]
  refine callS_of hCT ?_
  simp only [vcV, vcD, Int.reduceEq, Int.reduceNe, Int.reduceLT, Int.reduceLE, Nat.reduceEqDiff, Nat.reduceAdd, reduceIte, reduceCtorEq, Nat.reduceLT, Nat.reduceLeDiff, eq_self, vcP2, Nat.reduceShiftRight, Nat.reduceMod]
  refine callS_of hCI ?_
  simp only [vcV, vcD, Int.reduceEq, Int.reduceNe, Int.reduceLT, Int.reduceLE, Nat.reduceEqDiff, Nat.reduceAdd, reduceIte, reduceCtorEq, Nat.reduceLT, Nat.reduceLeDiff, eq_self, vcP2, Nat.reduceShiftRight, Nat.reduceMod]
  refine callS_of hCF ?_
  simp only [vcV, vcD, Int.reduceEq, Int.reduceNe, Int.reduceLT, Int.reduceLE, Nat.reduceEqDiff, Nat.reduceAdd, reduceIte, reduceCtorEq, Nat.reduceLT, Nat.reduceLeDiff, eq_self, vcP2, Nat.reduceShiftRight, Nat.reduceMod]
  refine callS_of hEr ?_
  simp only [vcV, vcD, Int.reduceEq, Int.reduceNe, Int.reduceLT, Int.reduceLE, Nat.reduceEqDiff, Nat.reduceAdd, reduceIte, reduceCtorEq, Nat.reduceLT, Nat.reduceLeDiff, eq_self, vcP2, Nat.reduceShiftRight, Nat.reduceMod]
  refine callS_of hCT ?_
  simp only [vcV, vcD, Int.reduceEq, Int.reduceNe, Int.reduceLT, Int.reduceLE, Nat.reduceEqDiff, Nat.reduceAdd, reduceIte, reduceCtorEq, Nat.reduceLT, Nat.reduceLeDiff, eq_self, vcP2, Nat.reduceShiftRight, Nat.reduceMod]
  refine callS_of hCI ?_
  simp only [vcV, vcD, Int.reduceEq, Int.reduceNe, Int.reduceLT, Int.reduceLE, Nat.reduceEqDiff, Nat.reduceAdd, reduceIte, reduceCtorEq, Nat.reduceLT, Nat.reduceLeDiff, eq_self, vcP2, Nat.reduceShiftRight, Nat.reduceMod]
  refine callS_of hCF ?_
  simp only [vcV, vcD, Int.reduceEq, Int.reduceNe, Int.reduceLT, Int.reduceLE, Nat.reduceEqDiff, Nat.reduceAdd, reduceIte, reduceCtorEq, Nat.reduceLT, Nat.reduceLeDiff, eq_self, vcP2, Nat.reduceShiftRight, Nat.reduceMod]
  refine callS_of hIK ?_
  simp only [vcV, vcD, Int.reduceEq, Int.reduceNe, Int.reduceLT, Int.reduceLE, Nat.reduceEqDiff, Nat.reduceAdd, reduceIte, reduceCtorEq, Nat.reduceLT, Nat.reduceLeDiff, eq_self, vcP2, Nat.reduceShiftRight, Nat.reduceMod]
  refine callS_of hFE ?_
  simp only [e1, vcV, vcD, Int.reduceEq, Int.reduceNe, Int.reduceLT, Int.reduceLE, Nat.reduceEqDiff, Nat.reduceAdd, reduceIte, reduceCtorEq, Nat.reduceLT, Nat.reduceLeDiff, eq_self, vcP2, Nat.reduceShiftRight, Nat.reduceMod]
  refine callS_of hFi ?_
  simp only [e2, e3, vcV, vcD, Int.reduceEq, Int.reduceNe, Int.reduceLT, Int.reduceLE, Nat.reduceEqDiff, Nat.reduceAdd, reduceIte, reduceCtorEq, Nat.reduceLT, Nat.reduceLeDiff, eq_self, vcP2, Nat.reduceShiftRight, Nat.reduceMod]
  refine callS_of hRC ?_
  simp only [vcV, vcD, Int.reduceEq, Int.reduceNe, Int.reduceLT, Int.reduceLE, Nat.reduceEqDiff, Nat.reduceAdd, reduceIte, reduceCtorEq, Nat.reduceLT, Nat.reduceLeDiff, eq_self, vcP2, Nat.reduceShiftRight, Nat.reduceMod]
  refine callS_of hSq ?_
  simp only [vcV, vcD, Int.reduceEq, Int.reduceNe, Int.reduceLT, Int.reduceLE, Nat.reduceEqDiff, Nat.reduceAdd, reduceIte, reduceCtorEq, Nat.reduceLT, Nat.reduceLeDiff, eq_self, vcP2, Nat.reduceShiftRight, Nat.reduceMod]
  refine callS_of hDi ?_
  simp only [vcV, vcD, Int.reduceEq, Int.reduceNe, Int.reduceLT, Int.reduceLE, Nat.reduceEqDiff, Nat.reduceAdd, reduceIte, reduceCtorEq, Nat.reduceLT, Nat.reduceLeDiff, eq_self, vcP2, Nat.reduceShiftRight, Nat.reduceMod]
  refine callS_of hWi ?_
  by_cases hp : 0 ≤ pc ∧ pc ≤ 100
  · have ik : ikE items shifts l den ch pc = 0 := by unfold ikE; rw [if_neg (by omega), if_pos hp]
    rw [ik]
    simp only [hp, vcV, vcD, Int.reduceEq, Int.reduceNe, Int.reduceLT, Int.reduceLE, Nat.reduceEqDiff, Nat.reduceAdd, reduceIte, reduceCtorEq, Nat.reduceLT, Nat.reduceLeDiff, eq_self, vcP2, Nat.reduceShiftRight, Nat.reduceMod]
    refine callS_of (hKe hp) ?_
    simp only [vcV, vcD, Int.reduceEq, Int.reduceNe, Int.reduceLT, Int.reduceLE, Nat.reduceEqDiff, Nat.reduceAdd, reduceIte, reduceCtorEq, Nat.reduceLT, Nat.reduceLeDiff, eq_self, vcP2, Nat.reduceShiftRight, Nat.reduceMod]
  · have ik : ikE items shifts l den ch pc = 2 := by unfold ikE; rw [if_neg (by omega), if_neg hp]
    rw [ik]
    simp only [hp, vcV, vcD, Int.reduceEq, Int.reduceNe, Int.reduceLT, Int.reduceLE, Nat.reduceEqDiff, Nat.reduceAdd, reduceIte, reduceCtorEq, Nat.reduceLT, Nat.reduceLeDiff, eq_self, vcP2, Nat.reduceShiftRight, Nat.reduceMod]
end Go.Proofs.YtgmpcbpmnimkoaaGreatDoor

