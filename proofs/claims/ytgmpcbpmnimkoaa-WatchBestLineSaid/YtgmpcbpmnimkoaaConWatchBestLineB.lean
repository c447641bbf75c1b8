/- The marked code of law functions; printed by a program. By an AI agent; nothing here is trusted. -/
import Derived.Test.YtgmpcbpmnimkoaaLayD
import Derived.Test.YtgmpcbpmnimkoaaKode
import Derived.Test.YtgmpcbpmnimkoaaLayA
import Derived.Test.YtgmpcbpmnimkoaaConWatchBestLineA
import Derived.WalkKit
set_option linter.defProp false
set_option linter.unusedSimpArgs false
set_option linter.unusedVariables false
namespace Go.Proofs.Ytgmpcbpmnimkoaa
open Go.Av
def cl_math_bits_Div64_19:ML:=(.seq (.reg 192 [mV 121 15,mO 122 (.bin .mul (.t 121) (.c (.int .u64 4294967296))),mV 123 18,mO 124 (.bin .add (.t 122) (.t 123)),mV 125 17,mO 126 (.bin .mul (.t 125) (.c (.int .u64 4294967296))),mV 127 14,mO 128 (.bin .add (.t 126) (.t 127)),mV 129 18,mV 130 2,mO 131 (.bin .mul (.t 129) (.t 130)),mO 132 (.bin .sub (.t 128) (.t 131)),mV 133 8,mO 134 (.bin .shr (.t 132) (.t 133)),mV 6 124,mV 7 134] false []) .ret)
def cl_math_bits_Div64_18:ML:=(.seq (.block 2 (.loop (.seq (.seq (.reg 10384593717069655257060992658949892 [mV 102 18,mO 103 (.bin .geq (.t 102) (.c (.int .u64 4294967296))),mV 104 103,mG 104 false 105 (.mv (.t 18)),mG 104 false 106 (.mv (.t 10)),mG 104 false 107 (.bin .mul (.t 105) (.t 106)),mG 104 false 108 (.mv (.t 16)),mG 104 false 109 (.bin .mul (.c (.int .u64 4294967296)) (.t 108)),mG 104 false 110 (.mv (.t 14)),mG 104 false 111 (.bin .add (.t 109) (.t 110)),mG 104 false 112 (.bin .gtr (.t 107) (.t 111)),mO 113 (.pick (.t 104) (.c (.bool true)) (.t 112))] false []) (.cond (.t 113) .skip (.exit 2))) (.block 3 (.seq (.reg 509700 [mV 114 18,mO 115 (.bin .sub (.t 114) (.c (.int .u64 1))),mV 18 115] false []) (.seq (.reg 509700 [mV 116 16,mV 117 9,mO 118 (.bin .add (.t 116) (.t 117)),mV 16 118] false []) (.seq (.reg 1329227995784915872903807060280854276 [mV 119 16,mO 120 (.bin .geq (.t 119) (.c (.int .u64 4294967296)))] false []) (.cond (.t 120) (.exit 2) .skip)))))))) (.cut cl_math_bits_Div64_19))
def cl_math_bits_Div64_15:ML:=(.seq (.reg 182020 [mV 86 11,mO 87 (.bin .mul (.t 86) (.c (.int .u64 4294967296))),mV 88 13,mO 89 (.bin .add (.t 87) (.t 88)),mV 90 15,mV 91 2,mO 92 (.bin .mul (.t 90) (.t 91)),mO 93 (.bin .sub (.t 89) (.t 92)),mV 17 93] false []) (.seq (.reg 444164 [mV 94 17,mV 95 9,mO 96 (.bin .quo (.t 94) (.t 95)),mV 18 96] false []) (.seq (.reg 509700 [mV 97 17,mV 98 18,mV 99 9,mO 100 (.bin .mul (.t 98) (.t 99)),mO 101 (.bin .sub (.t 97) (.t 100)),mV 16 101] false []) (.cut cl_math_bits_Div64_18))))
def cl_math_bits_Div64_14:ML:=(.seq (.block 0 (.loop (.seq (.seq (.reg 302231454903657293803268 [mV 67 15,mO 68 (.bin .geq (.t 67) (.c (.int .u64 4294967296))),mV 69 68,mG 69 false 70 (.mv (.t 15)),mG 69 false 71 (.mv (.t 10)),mG 69 false 72 (.bin .mul (.t 70) (.t 71)),mG 69 false 73 (.mv (.t 16)),mG 69 false 74 (.bin .mul (.c (.int .u64 4294967296)) (.t 73)),mG 69 false 75 (.mv (.t 13)),mG 69 false 76 (.bin .add (.t 74) (.t 75)),mG 69 false 77 (.bin .gtr (.t 72) (.t 76)),mO 78 (.pick (.t 69) (.c (.bool true)) (.t 77))] false []) (.cond (.t 78) .skip (.exit 0))) (.block 1 (.seq (.reg 126724 [mV 79 15,mO 80 (.bin .sub (.t 79) (.c (.int .u64 1))),mV 15 80] false []) (.seq (.reg 126724 [mV 81 16,mV 82 9,mO 83 (.bin .add (.t 81) (.t 82)),mV 16 83] false []) (.seq (.reg 38685626227668133590724356 [mV 84 16,mO 85 (.bin .geq (.t 84) (.c (.int .u64 4294967296)))] false []) (.cond (.t 85) (.exit 0) .skip)))))))) (.cut cl_math_bits_Div64_15))
def cl_math_bits_Div64:ML:=(.seq (.reg 7 [mO 6 (.mv (.c (.int .u64 0))),mO 7 (.mv (.c (.int .u64 0)))] false []) (.seq (.seq (.reg 1048583 [mV 19 2,mO 20 (.bin .eql (.t 19) (.c (.int .u64 0)))] false []) (.cond (.t 20) (.reg 7 [mO 21 (.load none (.c .undef)),⟨none,none,.copy 0 (.c .undef) (.c .undef)⟩] false []) .skip)) (.seq (.seq (.reg 16777223 [mV 22 2,mV 23 0,mO 24 (.bin .leq (.t 22) (.t 23))] false []) (.cond (.t 24) (.reg 7 [mO 25 (.load none (.c .undef)),⟨none,none,.copy 0 (.c .undef) (.c .undef)⟩] false []) .skip)) (.seq (.seq (.reg 134217735 [mV 26 0,mO 27 (.bin .eql (.t 26) (.c (.int .u64 0)))] false []) (.cond (.t 27) (.seq (.reg 192 [mV 28 1,mV 29 2,mO 30 (.bin .quo (.t 28) (.t 29)),mV 31 1,mV 32 2,mO 33 (.bin .rem (.t 31) (.t 32)),mV 6 30,mV 7 33] true []) .ret) .skip)) (.seq (.reg 263 [mV 34 2,mO 35 (.call 154 [(.t 34)]),mO 36 (.convI .u64 (.t 35)),mV 8 36] false []) (.seq (.reg 263 [mV 37 2,mV 38 8,mO 39 (.bin .shl (.t 37) (.t 38)),mV 2 39] false []) (.seq (.reg 775 [mV 40 2,mO 41 (.bin .shr (.t 40) (.c (.int .u64 32))),mV 9 41] false []) (.seq (.reg 1799 [mV 42 2,mO 43 (.bin .and (.t 42) (.c (.int .u64 4294967295))),mV 10 43] false []) (.seq (.reg 3846 [mV 44 0,mV 45 8,mO 46 (.bin .shl (.t 44) (.t 45)),mV 47 1,mV 48 8,mO 49 (.bin .sub (.c (.int .u64 64)) (.t 48)),mO 50 (.bin .shr (.t 47) (.t 49)),mO 51 (.bin .or (.t 46) (.t 50)),mV 11 51] false []) (.seq (.reg 7940 [mV 52 1,mV 53 8,mO 54 (.bin .shl (.t 52) (.t 53)),mV 12 54] false []) (.seq (.reg 16132 [mV 55 12,mO 56 (.bin .shr (.t 55) (.c (.int .u64 32))),mV 13 56] false []) (.seq (.reg 28420 [mV 57 12,mO 58 (.bin .and (.t 57) (.c (.int .u64 4294967295))),mV 14 58] false []) (.seq (.reg 61188 [mV 59 11,mV 60 9,mO 61 (.bin .quo (.t 59) (.t 60)),mV 15 61] false []) (.seq (.reg 126724 [mV 62 11,mV 63 15,mV 64 9,mO 65 (.bin .mul (.t 63) (.t 64)),mO 66 (.bin .sub (.t 62) (.t 65)),mV 16 66] false []) (.cut cl_math_bits_Div64_14)))))))))))))))
def c_math_bits_Div64:MC:=cl_math_bits_Div64.er
theorem f_math_bits_Div64:cFun Try.prog 121=some (135,3,c_math_bits_Div64,[(6,none),(7,none)]):=by kernel_rfl
theorem e_math_bits_Div64:cl_math_bits_Div64.er=c_math_bits_Div64:=rfl
end Go.Proofs.Ytgmpcbpmnimkoaa

/- Determinants in plain Lean. By an AI agent;nothing here is trusted. -/
namespace Go.Lin

def sg (i:Nat):Rat:=if i % 2=0 then 1 else -1
def skip (i r:Nat):Nat:=if r<i then r else r+1

end Go.Lin

/- Equations solved by elimination,in plain Lean. By an AI agent;nothing here is trusted. -/
namespace Go.Lin

end Go.Lin

/- Shifted templates and their products,in plain Lean. By an AI agent;nothing here is trusted. -/
namespace Go.Lin

def itm (items:List Int) (n k:Nat):Int:=if k≤n∧n - k<items.length then items.getD (n - k) 0 else 0
def smI (n:Nat) (f:Nat→Int):Int:=match n with
 | 0=>0
 | n+1=>smI n f+f n
def gr (items:List Int) (N k m:Nat):Int:=smI N fun n=>itm items n k * itm items n m
theorem sq_nn (a:Rat):0≤a * a:=by
 by_cases h:0≤a
 ·exact Rat.mul_nonneg h h
 ·have:0 ≤ -a:=by grind
  have:=Rat.mul_nonneg this this
  grind
theorem abs_mul {a b A B:Int} (ha : -A≤a∧a≤A) (hb : -B≤b∧b≤B) : -(A * B)≤a * b∧a * b≤A * B:=by
 have h1:(a.natAbs:Int)≤A:=by omega
 have h2:(b.natAbs:Int)≤B:=by omega
 have h3:(a.natAbs:Int) * b.natAbs≤A * B:=Int.mul_le_mul h1 h2 (by omega) (by omega)
 rw [← Int.natCast_mul,← Int.natAbs_mul] at h3
 omega
end Go.Lin

/- The best charges,in plain Lean. By an AI agent;nothing here is trusted. -/
namespace Go.Lin

section
variable (items:List Int) (S N:Nat) (s:Nat→Rat)
variable {items S N s}

end
end Go.Lin

/- Divisors,multiples,digits of quotients,in plain Lean. By an AI agent;nothing here is trusted. -/
namespace Go.Lin

theorem guess {B yn1 yn0 u d q r:Nat} (hu:q * yn1+r=u):(r * B+d<q * yn0) ↔ (u * B+d<q * (yn1 * B+yn0)):=by
 subst hu
 rw [Nat.add_mul,Nat.mul_add,← Nat.mul_assoc]
 omega
theorem guess_top {B yn1 yn0 u d:Nat} (hB:0<B) (hy1:0<yn1) (hd:d<B):(u * B+d) / (yn1 * B+yn0)≤u / yn1:=by
 have h1:(u * B+d) / (yn1 * B+yn0)≤(u * B+d) / (yn1 * B):=Nat.div_le_div_left (by omega) (Nat.mul_pos hy1 hB)
 have h2:(u * B+d) / (yn1 * B)=u / yn1:=by
  rw [Nat.mul_comm yn1 B,← Nat.div_div_eq_div_mul]
  congr 1
  rw [Nat.mul_comm u B,Nat.mul_add_div hB,Nat.div_eq_of_lt hd,Nat.add_zero]
 omega
theorem digit_ok {B yn1 yn0 u d q r:Nat} (hy0:yn0<B) (hy1:0<yn1) (hu:q * yn1+r=u) (hlo:(u * B+d) / (yn1 * B+yn0)≤q) (h:q * yn0≤r * B+d):q=(u * B+d) / (yn1 * B+yn0):=by
 refine Nat.le_antisymm ?_ hlo
 have hB:0<B:=by omega
 have h1:¬ (r * B+d<q * yn0):=by omega
 rw [guess hu] at h1
 rw [Nat.le_div_iff_mul_le (by have:=Nat.mul_pos hy1 hB;omega)]
 omega
theorem digit_more {B yn1 yn0 u d q r:Nat} (hy0:yn0<B) (hy1:0<yn1) (hd:d<B) (hyu:u<yn1 * B+yn0) (hu:q * yn1+r=u) (h:B≤q∨r * B+d<q * yn0):(u * B+d) / (yn1 * B+yn0)<q:=by
 have hB:0<B:=by omega
 have hpos:0<yn1 * B+yn0:=by have:=Nat.mul_pos hy1 hB;omega
 rw [Nat.div_lt_iff_lt_mul hpos]
 rcases h with h | h
 ·have h1:(u+1) * B≤(yn1 * B+yn0) * B:=Nat.mul_le_mul_right _ hyu
  have h2:(yn1 * B+yn0) * B≤(yn1 * B+yn0) * q:=Nat.mul_le_mul_left _ h
  rw [Nat.add_mul] at h1
  rw [Nat.mul_comm q]
  omega
 ·rw [guess hu] at h;exact h
theorem digit_brk {B yn1 yn0 u d q r:Nat} (hy0:yn0<B) (hy1:0<yn1) (hyu:u<yn1 * B+yn0) (hu:q * yn1+r=u) (hr:B≤r):q * yn0≤r * B+d:=by
 have hq:q<B:=by
  refine Classical.byContradiction fun hn=>?_
  have:B * yn1≤q * yn1:=Nat.mul_le_mul_right _ (by omega)
  rw [Nat.mul_comm B] at this
  omega
 have h1:q * yn0≤B * B:=Nat.mul_le_mul (by omega) (by omega)
 have h2:B * B≤r * B:=Nat.mul_le_mul_right _ hr
 omega
theorem knuth {N y s U un1 un0 Y Q1 R1 Q0 R2 B:Nat} (hy:0<y) (hY:Y=y * 2 ^ s) (hN:N * 2 ^ s=(U * B+un1) * B+un0) (h1:U * B+un1=Q1 * Y+R1) (h2:R1 * B+un0=Q0 * Y+R2) (hr:R2<Y) :
  N / y=Q1 * B+Q0∧N % y=R2 / 2 ^ s:=by
 have hp:0<2 ^ s:=Nat.pow_pos (by decide)
 have e:N * 2 ^ s=(Q1 * B+Q0) * Y+R2:=by
  rw [hN,h1,Nat.add_mul,Nat.add_mul,Nat.mul_right_comm];omega
 have e1:N * 2 ^ s / Y=Q1 * B+Q0:=by
  rw [e,Nat.mul_comm _ Y,Nat.mul_add_div (by rw [hY];exact Nat.mul_pos hy hp),Nat.div_eq_of_lt hr,Nat.add_zero]
 have e2:N * 2 ^ s % Y=R2:=by
  rw [e,Nat.mul_comm _ Y,Nat.mul_add_mod,Nat.mod_eq_of_lt hr]
 rw [hY] at e1 e2
 rw [Nat.mul_div_mul_right _ _ hp] at e1
 rw [Nat.mul_mod_mul_right] at e2
 exact ⟨e1,by rw [← e2,Nat.mul_div_cancel _ hp]⟩
theorem shift_hi (hi lo s:Nat) (hs:s≤64):(hi * 18446744073709551616+lo) * 2 ^ s=(hi * 2 ^ s+lo / 2 ^ (64 - s)) * 18446744073709551616+lo * 2 ^ s % 18446744073709551616:=by
 have hp:0<2 ^ s:=Nat.pow_pos (by decide)
 have e:lo * 2 ^ s / 18446744073709551616=lo / 2 ^ (64 - s):=by
  have:(18446744073709551616:Nat)=2 ^ (64 - s) * 2 ^ s:=by rw [← Nat.pow_add,show 64 - s+s=64 by omega]
  rw [this,Nat.mul_div_mul_right _ _ hp]
 have:=Nat.div_add_mod (lo * 2 ^ s) 18446744073709551616
 rw [e] at this
 rw [Nat.add_mul,Nat.add_mul,Nat.mul_right_comm]
 omega
end Go.Lin

/- The contract of bits.Div64. By an AI agent;nothing here is trusted. -/
namespace Go.Proofs.Ytgmpcbpmnimkoaa
open Go.Av

theorem LeadingZeros64_s (x:Nat) (hx:x<18446744073709551616) (hb:Lib.bitLen x≤64):Sound Try.prog 154 [.int .u64 x] (.int .i64 ((64 - Lib.bitLen x:Nat):Int)):=by
 refine sound_W f_math_bits_LeadingZeros64 (Nat.le_of_ble_eq_true rfl) ?_
 have e:(64:Int) - (Lib.bitLen x:Int)=((64 - Lib.bitLen x:Nat):Int):=by omega
 simp only [c_math_bits_LeadingZeros64,vZ,Int.reduceEq,Int.reduceNe,Int.reduceLT,Int.reduceLE,Nat.reduceEqDiff,Nat.reduceAdd,reduceIte,reduceCtorEq,Nat.reduceLT,Nat.reduceLeDiff,Nat.reduceShiftRight,Nat.reduceMod]
 refine callS_of (Len64_s x hx) ?_
 simp only [e,vZ,Int.reduceEq,Int.reduceNe,Int.reduceLT,Int.reduceLE,Nat.reduceEqDiff,Nat.reduceAdd,reduceIte,reduceCtorEq,Nat.reduceLT,Nat.reduceLeDiff,Nat.reduceShiftRight,Nat.reduceMod]
 unfold I64;omega
theorem shl_u (a s:Nat) (hs:s≤64):IntKind.u64.wrap ((a:Int) * 2 ^ min s IntKind.u64.bits)=((a * 2 ^ s % 18446744073709551616:Nat):Int):=by
 have:min s IntKind.u64.bits=s:=Nat.min_eq_left hs
 rw [this,u64_mod]
 have:(a:Int) * 2 ^ s=((a * 2 ^ s:Nat):Int):=by simp
 rw [this];omega
theorem shr_u (a s:Nat) (hs:s≤64):(a:Int).fdiv (2 ^ min s IntKind.u64.bits)=((a / 2 ^ s:Nat):Int):=by
 have:min s IntKind.u64.bits=s:=Nat.min_eq_left hs
 rw [this]
 have:(2:Int) ^ s=((2 ^ s:Nat):Int):=by simp
 rw [this,Int.fdiv_eq_ediv_of_nonneg _ (Int.natCast_nonneg _)];rfl
theorem or_u (a b k:Nat) (hk:k≤64) (ha:2 ^ k ∣ a) (hb:b<2 ^ k) (h:a+b<18446744073709551616) :
  IntKind.u64.wrap ((((BitVec.ofInt IntKind.u64.bits (a:Int)) ||| (BitVec.ofInt IntKind.u64.bits (b:Int))).toNat:Nat):Int)=((a+b:Nat):Int):=by
 have e1:∀ x:Nat,x<18446744073709551616→(BitVec.ofInt IntKind.u64.bits (x:Int)).toNat=x:=fun x hx=>by
  rw [BitVec.toNat_ofInt]
  show ((x:Int) % ((2 ^ 64:Nat):Int)).toNat=x
  omega
 obtain ⟨c,rfl⟩:=ha
 have e2:2 ^ k * c ||| b=2 ^ k * c+b:=by
  rw [Nat.mul_comm,← Nat.shiftLeft_eq,Nat.shiftLeft_add_eq_or_of_lt hb]
 rw [BitVec.toNat_or,e1 _ (by omega),e1 _ (by omega),e2]
 exact u64_wrap (by omega)
theorem tdiv_u (a b:Nat) (h:a / b<18446744073709551616):IntKind.u64.wrap ((a:Int).tdiv b)=((a / b:Nat):Int):=by
 rw [show (a:Int).tdiv b=((a / b:Nat):Int) from rfl];generalize a / b=q at *;exact u64_wrap (by omega)
theorem tmod_u (a b:Nat):(a:Int).tmod b=((a % b:Nat):Int):=rfl
theorem mul_u (a b:Nat) (h:a * b<18446744073709551616):IntKind.u64.wrap ((a:Int) * b)=((a * b:Nat):Int):=by rw [← Int.natCast_mul];exact u64_wrap (by omega)
theorem add_u (a b:Nat) (h:a+b<18446744073709551616):IntKind.u64.wrap ((a:Int)+b)=((a+b:Nat):Int):=by rw [← Int.natCast_add];exact u64_wrap (by omega)
theorem sub_u (a b:Nat) (h:b≤a) (ha:a<18446744073709551616):IntKind.u64.wrap ((a:Int) - b)=((a - b:Nat):Int):=by
 have:(a:Int) - b=((a - b:Nat):Int):=by omega
 rw [this];exact u64_wrap (by omega)
theorem wrap3 (a b c r:Nat) (h:a+b=c+r) (hr:r<18446744073709551616):IntKind.u64.wrap (IntKind.u64.wrap (IntKind.u64.wrap (a:Int)+b) - IntKind.u64.wrap (c:Int))=(r:Int):=by
 simp only [u64_mod];omega

theorem div_tail {e:Env} {s:Store} {Y k un0 q1 u21 q0 Q R2 R:Nat} (h2:e 2=.int .u64 Y) (h8:e 8=.int .u64 k) (h14:e 14=.int .u64 un0) (h15:e 15=.int .u64 q1) (h17:e 17=.int .u64 u21) (h18:e 18=.int .u64 q0)
  (hk:k≤64) (hQ:q1 * 4294967296+q0=Q) (hQ64:Q<18446744073709551616) (hR:u21 * 4294967296+un0=q0 * Y+R2) (hR2:R2<18446744073709551616) (hRR:R2 / 2 ^ k=R) :
  WL Try.prog 135 cl_math_bits_Div64_19 (endQ [(6,none),(7,none)] (.tup [.int .u64 Q,.int .u64 R])) e s .mk:=by
 have w1:IntKind.u64.wrap ((q1:Int) * 4294967296)=((q1 * 4294967296:Nat):Int):=by rw [show (4294967296:Int)=((4294967296:Nat):Int) by rfl];exact mul_u _ _ (by omega)
 have w2:IntKind.u64.wrap (((q1 * 4294967296:Nat):Int)+(q0:Int))=(Q:Int):=by rw [add_u _ _ (by omega),hQ]
 have w3:IntKind.u64.wrap (IntKind.u64.wrap (IntKind.u64.wrap ((u21:Int) * 4294967296)+(un0:Int)) - IntKind.u64.wrap ((q0:Int) * (Y:Int)))=(R2:Int):=by
  have:=wrap3 (u21 * 4294967296) un0 (q0 * Y) R2 hR hR2
  rw [Int.natCast_mul,Int.natCast_mul] at this
  exact this
 have w4:=shr_u R2 k hk
 rw [hRR] at w4
 simp only [cl_math_bits_Div64_19,h2,h8,h14,h15,h17,h18,w1,w2,w3,w4,vZ,Int.reduceEq,Int.reduceNe,Int.reduceLT,Int.reduceLE,Nat.reduceEqDiff,Nat.reduceAdd,reduceIte,reduceCtorEq,Nat.reduceLT,Nat.reduceLeDiff,Nat.reduceShiftRight,Nat.reduceMod]
 exact Int.natCast_nonneg _
theorem dig_facts {yn1 yn0 u d q r:Nat} (hn0:yn0<4294967296) (hd:d<4294967296) (hr:r<4294967296) (hq:q<4294967296) :
  IntKind.u64.wrap ((q:Int) * yn0)=((q * yn0:Nat):Int)∧IntKind.u64.wrap (4294967296 * (r:Int))=((4294967296 * r:Nat):Int)∧IntKind.u64.wrap (((4294967296 * r:Nat):Int)+(d:Int))=((4294967296 * r+d:Nat):Int):=by
 have h1:q * yn0≤4294967295 * 4294967295:=Nat.mul_le_mul (by omega) (by omega)
 exact ⟨mul_u _ _ (by omega),by rw [show (4294967296:Int)=((4294967296:Nat):Int) by rfl];exact mul_u _ _ (by omega),add_u _ _ (by omega)⟩
theorem div_two {Y k yn1 yn0 un0 q1 u21:Nat} {v:AV} (hY:Y=yn1 * 4294967296+yn0) (hY64:Y<18446744073709551616) (hn0:yn0<4294967296) (hn1:2147483648≤yn1) (hu:u21<Y) (h0:un0<4294967296) (hk:k≤64)
  (htail:∀ (e:Env) (s:Store) (q0 R2:Nat),e 2=.int .u64 Y→e 8=.int .u64 k→e 14=.int .u64 un0→e 15=.int .u64 q1→e 17=.int .u64 u21→e 18=.int .u64 q0→u21 * 4294967296+un0=q0 * Y+R2→R2<Y→q0<4294967296 →
   WL Try.prog 135 cl_math_bits_Div64_19 (endQ [(6,none),(7,none)] v) e s .mk) (q r:Nat) (hqr:q * yn1+r=u21) (hr:r<4294967296) (hlo:(u21 * 4294967296+un0) / (yn1 * 4294967296+yn0)≤q) :
  WL Try.prog 135 cl_math_bits_Div64_18 (endQ [(6,none),(7,none)] v) (envOf [(2,.int .u64 Y),(8,.int .u64 k),(9,.int .u64 yn1),(10,.int .u64 yn0),(14,.int .u64 un0),(15,.int .u64 q1),(16,.int .u64 r),(17,.int .u64 u21),(18,.int .u64 q)]) (stOf []) .mk:=by
 have hfin:∀ q:Nat,q=(u21 * 4294967296+un0) / (yn1 * 4294967296+yn0)→∃ R2,u21 * 4294967296+un0=q * Y+R2∧R2<Y∧q<4294967296:=by
  intro q hq
  rw [← hY] at hq
  have e1:=Nat.div_add_mod (u21 * 4294967296+un0) Y
  have e2:=Nat.mod_lt (u21 * 4294967296+un0) (show 0<Y by omega)
  rw [← hq,Nat.mul_comm Y q] at e1
  refine ⟨_,e1.symm,e2,?_⟩
  rw [hq,Nat.div_lt_iff_lt_mul (by omega)]
  have:(u21+1) * 4294967296≤Y * 4294967296:=Nat.mul_le_mul_right _ hu
  omega
 have hq33:q * yn1≤u21:=by omega
 simp only [cl_math_bits_Div64_18,vZ,Int.reduceEq,Int.reduceNe,Int.reduceLT,Int.reduceLE,Nat.reduceEqDiff,Nat.reduceAdd,reduceIte,reduceCtorEq,Nat.reduceLT,Nat.reduceLeDiff,Nat.reduceShiftRight,Nat.reduceMod]
 refine WL_loop (t:=.mk) (α:=PSigma fun p:Nat × Nat=>p.1 * yn1+p.2=u21∧p.2<4294967296∧(u21 * 4294967296+un0) / (yn1 * 4294967296+yn0)≤p.1) (fun ⟨p,_⟩=>(envOf [(2,.int .u64 Y),(8,.int .u64 k),(9,.int .u64 yn1),(10,.int .u64 yn0),(14,.int .u64 un0),(15,.int .u64 q1),(16,.int .u64 p.2),(17,.int .u64 u21),(18,.int .u64 p.1)],stOf [])) (fun x=>x.1.1) ⟨(q,r),hqr,hr,hlo⟩ ?_ (fun ⟨⟨q,r⟩,hqr,hr,hlo⟩=>?_)
 ·refine weakX [] (of_decide_eq_true rfl) (of_decide_eq_true rfl) ?_
  (simp only [vcW,vZ,Int.reduceEq,Int.reduceNe,Int.reduceLT,Int.reduceLE,Nat.reduceEqDiff,Nat.reduceAdd,reduceIte,reduceCtorEq,Nat.reduceLT,Nat.reduceLeDiff,Nat.reduceShiftRight,Nat.reduceMod])
  (repeat' first | exact trivial | (with_reducible first | exact RnB.fxB (ints_fxB _) | rfl | refine And.intro ?_ ?_) | (with_reducible (first | refine RnB.bb ?_ | refine RnB.nb ?_);simp only [vcW,vZ,Int.reduceEq,Int.reduceNe,Int.reduceLT,Int.reduceLE,Nat.reduceEqDiff,Nat.reduceAdd,reduceIte,reduceCtorEq,Nat.reduceLT,Nat.reduceLeDiff,Nat.reduceShiftRight,Nat.reduceMod]) | (with_reducible first | refine RnB.ii ?_ | refine RnB.app ?_) | (with_reducible refine RnB.fxB ?_;simp only [vcW,vZ,Int.reduceEq,Int.reduceNe,Int.reduceLT,Int.reduceLE,Nat.reduceEqDiff,Nat.reduceAdd,reduceIte,reduceCtorEq,Nat.reduceLT,Nat.reduceLeDiff,Nat.reduceShiftRight,Nat.reduceMod]) | omega)
 ·dsimp only at hqr hr hlo ⊢
  have hqu:q≤u21:=Nat.le_trans (Nat.le_mul_of_pos_right q (by omega)) (show q * yn1≤u21 by omega)
  have go:(4294967296≤q∨r * 4294967296+un0<q * yn0)→q ≠ 0∧(q - 1) * yn1+(r+yn1)=u21∧(u21 * 4294967296+un0) / (yn1 * 4294967296+yn0)≤q - 1:=by
   intro h
   have h1:=Lin.digit_more hn0 (by omega) h0 (by omega) hqr h
   have hq0:q ≠ 0:=fun e=>by rw [e] at h1;exact Nat.not_lt_zero _ h1
   refine ⟨hq0,?_,Nat.le_sub_one_of_lt h1⟩
   have:(q - 1+1) * yn1=(q - 1) * yn1+yn1:=Nat.succ_mul _ _
   rw [show q - 1+1=q from Nat.succ_pred_eq_of_ne_zero hq0] at this
   omega
  have w5:q ≠ 0→IntKind.u64.wrap ((q:Int) - 1)=((q - 1:Nat):Int):=fun h=>by rw [show (1:Int)=((1:Nat):Int) by rfl];exact sub_u _ _ (by omega) (by omega)
  have w6:IntKind.u64.wrap ((r:Int)+(yn1:Int))=((r+yn1:Nat):Int):=add_u _ _ (by omega)
  have next:(4294967296≤q∨r * 4294967296+un0<q * yn0)→¬ 4294967296≤r+yn1→(q - 1) * yn1+(r+yn1)=u21∧r+yn1<4294967296∧(u21 * 4294967296+un0) / (yn1 * 4294967296+yn0)≤q - 1:=fun h h'=>⟨(go h).2.1,by omega,(go h).2.2⟩
  have brk:(4294967296≤q∨r * 4294967296+un0<q * yn0)→4294967296≤r+yn1→q - 1=(u21 * 4294967296+un0) / (yn1 * 4294967296+yn0):=fun h h'=>Lin.digit_ok hn0 (by omega) (go h).2.1 (go h).2.2 (Lin.digit_brk hn0 (by omega) (by omega) (go h).2.1 h')
  by_cases g1:4294967296≤q
  ·have g1':(4294967296:Int)≤q:=by omega
   have hq0:=(go (.inl g1)).1
   by_cases g2:4294967296≤r+yn1
   ·have g2':(4294967296:Int)≤((r+yn1:Nat):Int):=by omega
    obtain ⟨R2,f1,f2,f3⟩:=hfin _ (brk (.inl g1) g2)
    simp only [g1',w5 hq0,w6,g2',vZ,Int.reduceEq,Int.reduceNe,Int.reduceLT,Int.reduceLE,Nat.reduceEqDiff,Nat.reduceAdd,reduceIte,reduceCtorEq,Nat.reduceLT,Nat.reduceLeDiff,Nat.reduceShiftRight,Nat.reduceMod]
    exact WL_cut (htail _ _ (q - 1) R2 rfl rfl rfl rfl rfl rfl f1 f2 f3)
   ·have g2':¬ (4294967296:Int)≤((r+yn1:Nat):Int):=by omega
    simp only [g1',w5 hq0,w6,g2',vZ,Int.reduceEq,Int.reduceNe,Int.reduceLT,Int.reduceLE,Nat.reduceEqDiff,Nat.reduceAdd,reduceIte,reduceCtorEq,Nat.reduceLT,Nat.reduceLeDiff,Nat.reduceShiftRight,Nat.reduceMod]
    refine ⟨⟨(q - 1,r+yn1),next (.inl g1) g2⟩,by simp only;omega,?_⟩
    refine weakX [] (of_decide_eq_true rfl) (of_decide_eq_true rfl) ?_
    (simp only [vcW,vZ,Int.reduceEq,Int.reduceNe,Int.reduceLT,Int.reduceLE,Nat.reduceEqDiff,Nat.reduceAdd,reduceIte,reduceCtorEq,Nat.reduceLT,Nat.reduceLeDiff,Nat.reduceShiftRight,Nat.reduceMod])
    (repeat' first | exact trivial | (with_reducible first | exact RnB.fxB (ints_fxB _) | rfl | refine And.intro ?_ ?_) | (with_reducible (first | refine RnB.bb ?_ | refine RnB.nb ?_);simp only [vcW,vZ,Int.reduceEq,Int.reduceNe,Int.reduceLT,Int.reduceLE,Nat.reduceEqDiff,Nat.reduceAdd,reduceIte,reduceCtorEq,Nat.reduceLT,Nat.reduceLeDiff,Nat.reduceShiftRight,Nat.reduceMod]) | (with_reducible first | refine RnB.ii ?_ | refine RnB.app ?_) | (with_reducible refine RnB.fxB ?_;simp only [vcW,vZ,Int.reduceEq,Int.reduceNe,Int.reduceLT,Int.reduceLE,Nat.reduceEqDiff,Nat.reduceAdd,reduceIte,reduceCtorEq,Nat.reduceLT,Nat.reduceLeDiff,Nat.reduceShiftRight,Nat.reduceMod]) | omega)
  ·have g1':¬ (4294967296:Int)≤q:=by omega
   obtain ⟨v1,v2,v3⟩:=dig_facts (yn1:=yn1) (u:=u21) hn0 h0 hr (show q<4294967296 by omega)
   by_cases g3:r * 4294967296+un0<q * yn0
   ·have g3':((4294967296 * r+un0:Nat):Int)<((q * yn0:Nat):Int):=by omega
    have hq0:=(go (.inr g3)).1
    by_cases g2:4294967296≤r+yn1
    ·have g2':(4294967296:Int)≤((r+yn1:Nat):Int):=by omega
     obtain ⟨R2,f1,f2,f3⟩:=hfin _ (brk (.inr g3) g2)
     simp only [g1',v1,v2,v3,g3',w5 hq0,w6,g2',vZ,Int.reduceEq,Int.reduceNe,Int.reduceLT,Int.reduceLE,Nat.reduceEqDiff,Nat.reduceAdd,reduceIte,reduceCtorEq,Nat.reduceLT,Nat.reduceLeDiff,Nat.reduceShiftRight,Nat.reduceMod]
     exact WL_cut (htail _ _ (q - 1) R2 rfl rfl rfl rfl rfl rfl f1 f2 f3)
    ·have g2':¬ (4294967296:Int)≤((r+yn1:Nat):Int):=by omega
     simp only [g1',v1,v2,v3,g3',w5 hq0,w6,g2',vZ,Int.reduceEq,Int.reduceNe,Int.reduceLT,Int.reduceLE,Nat.reduceEqDiff,Nat.reduceAdd,reduceIte,reduceCtorEq,Nat.reduceLT,Nat.reduceLeDiff,Nat.reduceShiftRight,Nat.reduceMod]
     refine ⟨⟨(q - 1,r+yn1),next (.inr g3) g2⟩,by simp only;omega,?_⟩
     refine weakX [] (of_decide_eq_true rfl) (of_decide_eq_true rfl) ?_
     (simp only [vcW,vZ,Int.reduceEq,Int.reduceNe,Int.reduceLT,Int.reduceLE,Nat.reduceEqDiff,Nat.reduceAdd,reduceIte,reduceCtorEq,Nat.reduceLT,Nat.reduceLeDiff,Nat.reduceShiftRight,Nat.reduceMod])
     (repeat' first | exact trivial | (with_reducible first | exact RnB.fxB (ints_fxB _) | rfl | refine And.intro ?_ ?_) | (with_reducible (first | refine RnB.bb ?_ | refine RnB.nb ?_);simp only [vcW,vZ,Int.reduceEq,Int.reduceNe,Int.reduceLT,Int.reduceLE,Nat.reduceEqDiff,Nat.reduceAdd,reduceIte,reduceCtorEq,Nat.reduceLT,Nat.reduceLeDiff,Nat.reduceShiftRight,Nat.reduceMod]) | (with_reducible first | refine RnB.ii ?_ | refine RnB.app ?_) | (with_reducible refine RnB.fxB ?_;simp only [vcW,vZ,Int.reduceEq,Int.reduceNe,Int.reduceLT,Int.reduceLE,Nat.reduceEqDiff,Nat.reduceAdd,reduceIte,reduceCtorEq,Nat.reduceLT,Nat.reduceLeDiff,Nat.reduceShiftRight,Nat.reduceMod]) | omega)
   ·have g3':¬ ((4294967296 * r+un0:Nat):Int)<((q * yn0:Nat):Int):=by omega
    obtain ⟨R2,f1,f2,f3⟩:=hfin q (Lin.digit_ok hn0 (by omega) hqr hlo (by omega))
    simp only [g1',v1,v2,v3,g3',vZ,Int.reduceEq,Int.reduceNe,Int.reduceLT,Int.reduceLE,Nat.reduceEqDiff,Nat.reduceAdd,reduceIte,reduceCtorEq,Nat.reduceLT,Nat.reduceLeDiff,Nat.reduceShiftRight,Nat.reduceMod]
    exact WL_cut (htail _ _ q R2 rfl rfl rfl rfl rfl rfl f1 f2 f3)
end Go.Proofs.Ytgmpcbpmnimkoaa

/- The contract of bits.Div64,the first digit and the whole. By an AI agent;nothing here is trusted. -/
namespace Go.Proofs.Ytgmpcbpmnimkoaa
open Go.Av

theorem div_mid {e:Env} {s:Store} {Y k yn1 yn0 U un1 un0 q1 u21:Nat} {v:AV} (h2:e 2=.int .u64 Y) (h8:e 8=.int .u64 k) (h9:e 9=.int .u64 yn1) (h10:e 10=.int .u64 yn0) (h11:e 11=.int .u64 U) (h13:e 13=.int .u64 un1) (h14:e 14=.int .u64 un0) (h15:e 15=.int .u64 q1)
  (hs:s=stOf []) (hY:Y=yn1 * 4294967296+yn0) (hY64:Y<18446744073709551616) (hn0:yn0<4294967296) (hn1:2147483648≤yn1) (h0:un0<4294967296) (hk:k≤64) (hu:U * 4294967296+un1=q1 * Y+u21) (hu21:u21<Y)
  (htail:∀ (e:Env) (s:Store) (q0 R2:Nat),e 2=.int .u64 Y→e 8=.int .u64 k→e 14=.int .u64 un0→e 15=.int .u64 q1→e 17=.int .u64 u21→e 18=.int .u64 q0→u21 * 4294967296+un0=q0 * Y+R2→R2<Y→q0<4294967296 →
   WL Try.prog 135 cl_math_bits_Div64_19 (endQ [(6,none),(7,none)] v) e s .mk) :
  WL Try.prog 135 cl_math_bits_Div64_15 (endQ [(6,none),(7,none)] v) e s .mk:=by
 subst hs
 have w3:IntKind.u64.wrap (IntKind.u64.wrap (IntKind.u64.wrap ((U:Int) * 4294967296)+(un1:Int)) - IntKind.u64.wrap ((q1:Int) * (Y:Int)))=(u21:Int):=by
  have:=wrap3 (U * 4294967296) un1 (q1 * Y) u21 hu (by omega)
  rw [Int.natCast_mul,Int.natCast_mul] at this
  exact this
 have hq:u21 / yn1≤u21:=Nat.div_le_self _ _
 have w4:IntKind.u64.wrap ((u21:Int).tdiv yn1)=((u21 / yn1:Nat):Int):=tdiv_u _ _ (Nat.lt_of_le_of_lt hq (by omega))
 have hdm:=Nat.div_add_mod u21 yn1
 have hml:=Nat.mod_lt u21 (show yn1 > 0 by omega)
 have hlo:(u21 * 4294967296+un0) / (yn1 * 4294967296+yn0)≤u21 / yn1:=Lin.guess_top (by omega) (by omega) h0
 rw [Nat.mul_comm] at hdm
 have hy32:yn1<4294967296:=by omega
 generalize u21 / yn1=q at *
 generalize u21 % yn1=r at *
 have w5:IntKind.u64.wrap ((q:Int) * yn1)=((q * yn1:Nat):Int):=mul_u _ _ (by omega)
 have w6:IntKind.u64.wrap ((u21:Int) - ((q * yn1:Nat):Int))=(r:Int):=by
  rw [sub_u _ _ (by omega) (by omega)];congr 1;omega
 have hyn:¬ (yn1:Int)=0:=by omega
 simp only [cl_math_bits_Div64_15,h2,h8,h9,h10,h11,h13,h14,h15,w3,w4,w5,w6,hyn,ne_eq,not_false_eq_true,vZ,Int.reduceEq,Int.reduceNe,Int.reduceLT,Int.reduceLE,Nat.reduceEqDiff,Nat.reduceAdd,reduceIte,reduceCtorEq,Nat.reduceLT,Nat.reduceLeDiff,Nat.reduceShiftRight,Nat.reduceMod]
 refine WL_cutW (envOf [(2,.int .u64 Y),(8,.int .u64 k),(9,.int .u64 yn1),(10,.int .u64 yn0),(14,.int .u64 un0),(15,.int .u64 q1),(16,.int .u64 r),(17,.int .u64 u21),(18,.int .u64 q)],stOf []) rfl ?_ (div_two hY hY64 hn0 hn1 hu21 h0 hk htail q r hdm (by omega) hlo)
 refine weakX [] (of_decide_eq_true rfl) (of_decide_eq_true rfl) ?_
 (simp only [h2,h8,h9,h10,h11,h13,h14,h15,vcW,vZ,Int.reduceEq,Int.reduceNe,Int.reduceLT,Int.reduceLE,Nat.reduceEqDiff,Nat.reduceAdd,reduceIte,reduceCtorEq,Nat.reduceLT,Nat.reduceLeDiff,Nat.reduceShiftRight,Nat.reduceMod])
 (repeat' first | exact trivial | (with_reducible first | exact RnB.fxB (ints_fxB _) | rfl | refine And.intro ?_ ?_) | (with_reducible (first | refine RnB.bb ?_ | refine RnB.nb ?_);simp only [vcW,vZ,Int.reduceEq,Int.reduceNe,Int.reduceLT,Int.reduceLE,Nat.reduceEqDiff,Nat.reduceAdd,reduceIte,reduceCtorEq,Nat.reduceLT,Nat.reduceLeDiff,Nat.reduceShiftRight,Nat.reduceMod]) | (with_reducible first | refine RnB.ii ?_ | refine RnB.app ?_) | (with_reducible refine RnB.fxB ?_;simp only [vcW,vZ,Int.reduceEq,Int.reduceNe,Int.reduceLT,Int.reduceLE,Nat.reduceEqDiff,Nat.reduceAdd,reduceIte,reduceCtorEq,Nat.reduceLT,Nat.reduceLeDiff,Nat.reduceShiftRight,Nat.reduceMod]) | omega)
theorem div_one {Y k yn1 yn0 U un1 un0:Nat} {v:AV} (hY:Y=yn1 * 4294967296+yn0) (hY64:Y<18446744073709551616) (hn0:yn0<4294967296) (hn1:2147483648≤yn1) (hU:U<Y) (h1:un1<4294967296) (h0:un0<4294967296) (hk:k≤64)
  (htail:∀ (e:Env) (s:Store) (q1 u21 q0 R2:Nat),e 2=.int .u64 Y→e 8=.int .u64 k→e 14=.int .u64 un0→e 15=.int .u64 q1→e 17=.int .u64 u21→e 18=.int .u64 q0→U * 4294967296+un1=q1 * Y+u21→q1<4294967296→u21 * 4294967296+un0=q0 * Y+R2→R2<Y→q0<4294967296 →
   WL Try.prog 135 cl_math_bits_Div64_19 (endQ [(6,none),(7,none)] v) e s .mk) (q r:Nat) (hqr:q * yn1+r=U) (hr:r<4294967296) (hlo:(U * 4294967296+un1) / (yn1 * 4294967296+yn0)≤q) :
  WL Try.prog 135 cl_math_bits_Div64_14 (endQ [(6,none),(7,none)] v) (envOf [(2,.int .u64 Y),(8,.int .u64 k),(9,.int .u64 yn1),(10,.int .u64 yn0),(11,.int .u64 U),(13,.int .u64 un1),(14,.int .u64 un0),(15,.int .u64 q),(16,.int .u64 r)]) (stOf []) .mk:=by
 have hfin:∀ q:Nat,q=(U * 4294967296+un1) / (yn1 * 4294967296+yn0)→∃ R2,U * 4294967296+un1=q * Y+R2∧R2<Y∧q<4294967296:=by
  intro q hq
  rw [← hY] at hq
  have e1:=Nat.div_add_mod (U * 4294967296+un1) Y
  have e2:=Nat.mod_lt (U * 4294967296+un1) (show 0<Y by omega)
  rw [← hq,Nat.mul_comm Y q] at e1
  refine ⟨_,e1.symm,e2,?_⟩
  rw [hq,Nat.div_lt_iff_lt_mul (by omega)]
  have:(U+1) * 4294967296≤Y * 4294967296:=Nat.mul_le_mul_right _ hU
  omega
 have hend:∀ (e:Env) (s:Store) (q:Nat),q=(U * 4294967296+un1) / (yn1 * 4294967296+yn0)→e 2=.int .u64 Y→e 8=.int .u64 k→e 9=.int .u64 yn1→e 10=.int .u64 yn0→e 11=.int .u64 U→e 13=.int .u64 un1→e 14=.int .u64 un0→e 15=.int .u64 q→s=stOf [] →
   WL Try.prog 135 cl_math_bits_Div64_15 (endQ [(6,none),(7,none)] v) e s .mk:=by
  intro e s q hq g2 g8 g9 g10 g11 g13 g14 g15 gs
  obtain ⟨R,f1,f2,f3⟩:=hfin q hq
  exact div_mid g2 g8 g9 g10 g11 g13 g14 g15 gs hY hY64 hn0 hn1 h0 hk f1 f2 fun e s q0 R2 a2 a8 a14 a15 a17 a18 b1 b2 b3=>htail e s q R q0 R2 a2 a8 a14 a15 a17 a18 f1 f3 b1 b2 b3
 have hq33:q * yn1≤U:=by omega
 simp only [cl_math_bits_Div64_14,vZ,Int.reduceEq,Int.reduceNe,Int.reduceLT,Int.reduceLE,Nat.reduceEqDiff,Nat.reduceAdd,reduceIte,reduceCtorEq,Nat.reduceLT,Nat.reduceLeDiff,Nat.reduceShiftRight,Nat.reduceMod]
 refine WL_loop (t:=.mk) (α:=PSigma fun p:Nat × Nat=>p.1 * yn1+p.2=U∧p.2<4294967296∧(U * 4294967296+un1) / (yn1 * 4294967296+yn0)≤p.1) (fun ⟨p,_⟩=>(envOf [(2,.int .u64 Y),(8,.int .u64 k),(9,.int .u64 yn1),(10,.int .u64 yn0),(11,.int .u64 U),(13,.int .u64 un1),(14,.int .u64 un0),(15,.int .u64 p.1),(16,.int .u64 p.2)],stOf [])) (fun x=>x.1.1) ⟨(q,r),hqr,hr,hlo⟩ ?_ (fun ⟨⟨q,r⟩,hqr,hr,hlo⟩=>?_)
 ·refine weakX [] (of_decide_eq_true rfl) (of_decide_eq_true rfl) ?_
  (simp only [vcW,vZ,Int.reduceEq,Int.reduceNe,Int.reduceLT,Int.reduceLE,Nat.reduceEqDiff,Nat.reduceAdd,reduceIte,reduceCtorEq,Nat.reduceLT,Nat.reduceLeDiff,Nat.reduceShiftRight,Nat.reduceMod])
  (repeat' first | exact trivial | (with_reducible first | exact RnB.fxB (ints_fxB _) | rfl | refine And.intro ?_ ?_) | (with_reducible (first | refine RnB.bb ?_ | refine RnB.nb ?_);simp only [vcW,vZ,Int.reduceEq,Int.reduceNe,Int.reduceLT,Int.reduceLE,Nat.reduceEqDiff,Nat.reduceAdd,reduceIte,reduceCtorEq,Nat.reduceLT,Nat.reduceLeDiff,Nat.reduceShiftRight,Nat.reduceMod]) | (with_reducible first | refine RnB.ii ?_ | refine RnB.app ?_) | (with_reducible refine RnB.fxB ?_;simp only [vcW,vZ,Int.reduceEq,Int.reduceNe,Int.reduceLT,Int.reduceLE,Nat.reduceEqDiff,Nat.reduceAdd,reduceIte,reduceCtorEq,Nat.reduceLT,Nat.reduceLeDiff,Nat.reduceShiftRight,Nat.reduceMod]) | omega)
 ·dsimp only at hqr hr hlo ⊢
  have hqu:q≤U:=Nat.le_trans (Nat.le_mul_of_pos_right q (by omega)) (show q * yn1≤U by omega)
  have go:(4294967296≤q∨r * 4294967296+un1<q * yn0)→q ≠ 0∧(q - 1) * yn1+(r+yn1)=U∧(U * 4294967296+un1) / (yn1 * 4294967296+yn0)≤q - 1:=by
   intro h
   have h1:=Lin.digit_more hn0 (by omega) h1 (by omega) hqr h
   have hq0:q ≠ 0:=fun e=>by rw [e] at h1;exact Nat.not_lt_zero _ h1
   refine ⟨hq0,?_,Nat.le_sub_one_of_lt h1⟩
   have:(q - 1+1) * yn1=(q - 1) * yn1+yn1:=Nat.succ_mul _ _
   rw [show q - 1+1=q from Nat.succ_pred_eq_of_ne_zero hq0] at this
   omega
  have w5:q ≠ 0→IntKind.u64.wrap ((q:Int) - 1)=((q - 1:Nat):Int):=fun h=>by rw [show (1:Int)=((1:Nat):Int) by rfl];exact sub_u _ _ (by omega) (by omega)
  have w6:IntKind.u64.wrap ((r:Int)+(yn1:Int))=((r+yn1:Nat):Int):=add_u _ _ (by omega)
  have next:(4294967296≤q∨r * 4294967296+un1<q * yn0)→¬ 4294967296≤r+yn1→(q - 1) * yn1+(r+yn1)=U∧r+yn1<4294967296∧(U * 4294967296+un1) / (yn1 * 4294967296+yn0)≤q - 1:=fun h h'=>⟨(go h).2.1,by omega,(go h).2.2⟩
  have brk:(4294967296≤q∨r * 4294967296+un1<q * yn0)→4294967296≤r+yn1→q - 1=(U * 4294967296+un1) / (yn1 * 4294967296+yn0):=fun h h'=>Lin.digit_ok hn0 (by omega) (go h).2.1 (go h).2.2 (Lin.digit_brk hn0 (by omega) (by omega) (go h).2.1 h')
  by_cases g1:4294967296≤q
  ·have g1':(4294967296:Int)≤q:=by omega
   have hq0:=(go (.inl g1)).1
   by_cases g2:4294967296≤r+yn1
   ·have g2':(4294967296:Int)≤((r+yn1:Nat):Int):=by omega
    have hb:=brk (.inl g1) g2
    simp only [g1',w5 hq0,w6,g2',vZ,Int.reduceEq,Int.reduceNe,Int.reduceLT,Int.reduceLE,Nat.reduceEqDiff,Nat.reduceAdd,reduceIte,reduceCtorEq,Nat.reduceLT,Nat.reduceLeDiff,Nat.reduceShiftRight,Nat.reduceMod]
    exact WL_cut (hend _ _ (q - 1) hb rfl rfl rfl rfl rfl rfl rfl rfl rfl)
   ·have g2':¬ (4294967296:Int)≤((r+yn1:Nat):Int):=by omega
    simp only [g1',w5 hq0,w6,g2',vZ,Int.reduceEq,Int.reduceNe,Int.reduceLT,Int.reduceLE,Nat.reduceEqDiff,Nat.reduceAdd,reduceIte,reduceCtorEq,Nat.reduceLT,Nat.reduceLeDiff,Nat.reduceShiftRight,Nat.reduceMod]
    refine ⟨⟨(q - 1,r+yn1),next (.inl g1) g2⟩,by simp only;omega,?_⟩
    refine weakX [] (of_decide_eq_true rfl) (of_decide_eq_true rfl) ?_
    (simp only [vcW,vZ,Int.reduceEq,Int.reduceNe,Int.reduceLT,Int.reduceLE,Nat.reduceEqDiff,Nat.reduceAdd,reduceIte,reduceCtorEq,Nat.reduceLT,Nat.reduceLeDiff,Nat.reduceShiftRight,Nat.reduceMod])
    (repeat' first | exact trivial | (with_reducible first | exact RnB.fxB (ints_fxB _) | rfl | refine And.intro ?_ ?_) | (with_reducible (first | refine RnB.bb ?_ | refine RnB.nb ?_);simp only [vcW,vZ,Int.reduceEq,Int.reduceNe,Int.reduceLT,Int.reduceLE,Nat.reduceEqDiff,Nat.reduceAdd,reduceIte,reduceCtorEq,Nat.reduceLT,Nat.reduceLeDiff,Nat.reduceShiftRight,Nat.reduceMod]) | (with_reducible first | refine RnB.ii ?_ | refine RnB.app ?_) | (with_reducible refine RnB.fxB ?_;simp only [vcW,vZ,Int.reduceEq,Int.reduceNe,Int.reduceLT,Int.reduceLE,Nat.reduceEqDiff,Nat.reduceAdd,reduceIte,reduceCtorEq,Nat.reduceLT,Nat.reduceLeDiff,Nat.reduceShiftRight,Nat.reduceMod]) | omega)
  ·have g1':¬ (4294967296:Int)≤q:=by omega
   obtain ⟨v1,v2,v3⟩:=dig_facts (yn1:=yn1) (u:=U) hn0 h1 hr (show q<4294967296 by omega)
   by_cases g3:r * 4294967296+un1<q * yn0
   ·have g3':((4294967296 * r+un1:Nat):Int)<((q * yn0:Nat):Int):=by omega
    have hq0:=(go (.inr g3)).1
    by_cases g2:4294967296≤r+yn1
    ·have g2':(4294967296:Int)≤((r+yn1:Nat):Int):=by omega
     have hb:=brk (.inr g3) g2
     simp only [g1',v1,v2,v3,g3',w5 hq0,w6,g2',vZ,Int.reduceEq,Int.reduceNe,Int.reduceLT,Int.reduceLE,Nat.reduceEqDiff,Nat.reduceAdd,reduceIte,reduceCtorEq,Nat.reduceLT,Nat.reduceLeDiff,Nat.reduceShiftRight,Nat.reduceMod]
     exact WL_cut (hend _ _ (q - 1) hb rfl rfl rfl rfl rfl rfl rfl rfl rfl)
    ·have g2':¬ (4294967296:Int)≤((r+yn1:Nat):Int):=by omega
     simp only [g1',v1,v2,v3,g3',w5 hq0,w6,g2',vZ,Int.reduceEq,Int.reduceNe,Int.reduceLT,Int.reduceLE,Nat.reduceEqDiff,Nat.reduceAdd,reduceIte,reduceCtorEq,Nat.reduceLT,Nat.reduceLeDiff,Nat.reduceShiftRight,Nat.reduceMod]
     refine ⟨⟨(q - 1,r+yn1),next (.inr g3) g2⟩,by simp only;omega,?_⟩
     refine weakX [] (of_decide_eq_true rfl) (of_decide_eq_true rfl) ?_
     (simp only [vcW,vZ,Int.reduceEq,Int.reduceNe,Int.reduceLT,Int.reduceLE,Nat.reduceEqDiff,Nat.reduceAdd,reduceIte,reduceCtorEq,Nat.reduceLT,Nat.reduceLeDiff,Nat.reduceShiftRight,Nat.reduceMod])
     (repeat' first | exact trivial | (with_reducible first | exact RnB.fxB (ints_fxB _) | rfl | refine And.intro ?_ ?_) | (with_reducible (first | refine RnB.bb ?_ | refine RnB.nb ?_);simp only [vcW,vZ,Int.reduceEq,Int.reduceNe,Int.reduceLT,Int.reduceLE,Nat.reduceEqDiff,Nat.reduceAdd,reduceIte,reduceCtorEq,Nat.reduceLT,Nat.reduceLeDiff,Nat.reduceShiftRight,Nat.reduceMod]) | (with_reducible first | refine RnB.ii ?_ | refine RnB.app ?_) | (with_reducible refine RnB.fxB ?_;simp only [vcW,vZ,Int.reduceEq,Int.reduceNe,Int.reduceLT,Int.reduceLE,Nat.reduceEqDiff,Nat.reduceAdd,reduceIte,reduceCtorEq,Nat.reduceLT,Nat.reduceLeDiff,Nat.reduceShiftRight,Nat.reduceMod]) | omega)
   ·have g3':¬ ((4294967296 * r+un1:Nat):Int)<((q * yn0:Nat):Int):=by omega
    have hb:=Lin.digit_ok hn0 (by omega) hqr hlo (show q * yn0≤r * 4294967296+un1 by omega)
    simp only [g1',v1,v2,v3,g3',vZ,Int.reduceEq,Int.reduceNe,Int.reduceLT,Int.reduceLE,Nat.reduceEqDiff,Nat.reduceAdd,reduceIte,reduceCtorEq,Nat.reduceLT,Nat.reduceLeDiff,Nat.reduceShiftRight,Nat.reduceMod]
    exact WL_cut (hend _ _ q hb rfl rfl rfl rfl rfl rfl rfl rfl rfl)
theorem bitLen_ok {y:Nat} (h0:y ≠ 0) (hy:y<18446744073709551616):Lib.bitLen y≤64∧2 ^ 63≤y * 2 ^ (64 - Lib.bitLen y)∧y * 2 ^ (64 - Lib.bitLen y)<2 ^ 64:=by
 obtain ⟨h1,h2,h3⟩:=Lib.bitLenAux_bounds 64 y (by omega) h0
 have e:Lib.bitLenAux 64 y=Lib.bitLen y:=rfl
 rw [e] at h1 h2 h3
 have h4:Lib.bitLen y≤64:=by
  refine Classical.byContradiction fun hn=>?_
  have:2 ^ 64≤2 ^ (Lib.bitLen y - 1):=Nat.pow_le_pow_right (by omega) (by omega)
  omega
 have hp:0<2 ^ (64 - Lib.bitLen y):=Nat.pow_pos (by decide)
 refine ⟨h4,?_,?_⟩
 ·have:2 ^ (Lib.bitLen y - 1) * 2 ^ (64 - Lib.bitLen y)≤y * 2 ^ (64 - Lib.bitLen y):=Nat.mul_le_mul_right _ h2
  rw [← Nat.pow_add,show Lib.bitLen y - 1+(64 - Lib.bitLen y)=63 by omega] at this
  exact this
 ·have:y * 2 ^ (64 - Lib.bitLen y)<2 ^ Lib.bitLen y * 2 ^ (64 - Lib.bitLen y):=(Nat.mul_lt_mul_right hp).2 h3
  rw [← Nat.pow_add,show Lib.bitLen y+(64 - Lib.bitLen y)=64 by omega] at this
  exact this
theorem two_limbs {U un1 un0 L:Nat} (h:4294967296 * un1+un0=L):U * 18446744073709551616+L=(U * 4294967296+un1) * 4294967296+un0:=by omega
theorem Div64_s (hi lo y:Nat) (hlo:lo<18446744073709551616) (hy:y<18446744073709551616) (h:hi<y):Sound Try.prog 121 [.int .u64 hi,.int .u64 lo,.int .u64 y]
  (.tup [.int .u64 (((hi * 18446744073709551616+lo) / y:Nat):Int),.int .u64 (((hi * 18446744073709551616+lo) % y:Nat):Int)]):=by
 refine sound_WL f_math_bits_Div64 e_math_bits_Div64 (Nat.le_of_ble_eq_true rfl) ?_
 have g1:¬ (y:Int)=0:=by omega
 have g2:¬ (y:Int)≤hi:=by omega
 by_cases h0:hi=0
 ·subst h0
  have w1:IntKind.u64.wrap ((lo:Int).tdiv y)=((lo / y:Nat):Int):=tdiv_u _ _ (Nat.lt_of_le_of_lt (Nat.div_le_self _ _) hlo)
  have w2:=tmod_u lo y
  rw [Nat.zero_mul,Nat.zero_add]
  have g2':¬ (y:Int)≤0:=by omega
  simp only [cl_math_bits_Div64,g1,g2',w1,w2,ne_eq,not_false_eq_true,Int.natCast_zero,vZ,Int.reduceEq,Int.reduceNe,Int.reduceLT,Int.reduceLE,Nat.reduceEqDiff,Nat.reduceAdd,reduceIte,reduceCtorEq,Nat.reduceLT,Nat.reduceLeDiff,Nat.reduceShiftRight,Nat.reduceMod]
 ·have g3:¬ (hi:Int)=0:=by omega
  obtain ⟨b1,b2,b3⟩:=bitLen_ok (show y ≠ 0 by omega) hy
  have hLZ:=LeadingZeros64_s y hy b1
  have hs63:64 - Lib.bitLen y≤64:=by omega
  generalize 64 - Lib.bitLen y=k at *
  have hp:0<2 ^ k:=Nat.pow_pos (by decide)
  have hsh:=Lin.shift_hi hi lo k hs63
  have hkk:2 ^ k * 2 ^ (64 - k)=18446744073709551616:=by rw [← Nat.pow_add,show k+(64 - k)=64 by omega]
  have hb4:lo / 2 ^ (64 - k)<2 ^ k:=by
   rw [Nat.div_lt_iff_lt_mul (Nat.pow_pos (by decide)),hkk];exact hlo
  have hHy:(hi+1) * 2 ^ k≤y * 2 ^ k:=Nat.mul_le_mul_right _ h
  rw [Nat.add_mul,Nat.one_mul] at hHy
  have hdv:2 ^ k ∣ hi * 2 ^ k:=Nat.dvd_mul_left _ _
  have ws:IntKind.u64.wrap (k:Int)=(k:Int):=u64_wrap (by omega)
  have wY:=shl_u y k hs63
  have wA:=shl_u hi k hs63
  have wr:IntKind.u64.wrap (64 - (k:Int))=((64 - k:Nat):Int):=by rw [show (64:Int)=((64:Nat):Int) by rfl];exact sub_u _ _ hs63 (by omega)
  have wB:=shr_u lo (64 - k) (by omega)
  have wL:=shl_u lo k hs63
  have hLlt:=Nat.mod_lt (lo * 2 ^ k) (show 18446744073709551616 > 0 by omega)
  rw [Nat.mod_eq_of_lt (show y * 2 ^ k<18446744073709551616 by omega)] at wY
  rw [Nat.mod_eq_of_lt (show hi * 2 ^ k<18446744073709551616 by omega)] at wA
  have wU:=or_u (hi * 2 ^ k) (lo / 2 ^ (64 - k)) k hs63 hdv hb4 (by omega)
  obtain ⟨Y,hYd⟩:∃ Y,Y=y * 2 ^ k:=⟨_,rfl⟩
  obtain ⟨U,hUd⟩:∃ U,U=hi * 2 ^ k+lo / 2 ^ (64 - k):=⟨_,rfl⟩
  obtain ⟨L,hLd⟩:∃ L,L=lo * 2 ^ k % 18446744073709551616:=⟨_,rfl⟩
  rw [← hUd,← hLd] at hsh
  rw [← hYd] at wY b2 b3 hHy
  rw [← hUd] at wU
  rw [← hLd] at wL hLlt
  have hUY:U<Y:=by omega
  have s1:=shr32 Y
  have a1:=and32 Y (by omega)
  have s2:=shr32 L
  have a2:=and32 L (by omega)
  have eY:=Nat.div_add_mod Y 4294967296
  have eL:=Nat.div_add_mod L 4294967296
  have lY:=Nat.mod_lt Y (show 4294967296 > 0 by omega)
  have lL:=Nat.mod_lt L (show 4294967296 > 0 by omega)
  obtain ⟨yn1,hyn1⟩:∃ a,a=Y / 4294967296:=⟨_,rfl⟩
  obtain ⟨yn0,hyn0⟩:∃ a,a=Y % 4294967296:=⟨_,rfl⟩
  obtain ⟨un1,hun1⟩:∃ a,a=L / 4294967296:=⟨_,rfl⟩
  obtain ⟨un0,hun0⟩:∃ a,a=L % 4294967296:=⟨_,rfl⟩
  rw [← hyn1] at s1 eY
  rw [← hyn0] at a1 eY lY
  rw [← hun1] at s2 eL
  rw [← hun0] at a2 eL lL
  have hn1:2147483648≤yn1:=by omega
  have hq:=Nat.div_le_self U yn1
  have w7:IntKind.u64.wrap ((U:Int).tdiv yn1)=((U / yn1:Nat):Int):=tdiv_u _ _ (Nat.lt_of_le_of_lt hq (by omega))
  have hdm:=Nat.div_add_mod U yn1
  have hml:=Nat.mod_lt U (show yn1 > 0 by omega)
  have hgt:(U * 4294967296+un1) / (yn1 * 4294967296+yn0)≤U / yn1:=Lin.guess_top (by omega) (by omega) (by omega)
  rw [Nat.mul_comm] at hdm
  generalize U / yn1=q at *
  generalize U % yn1=r at *
  have w8:IntKind.u64.wrap ((q:Int) * yn1)=((q * yn1:Nat):Int):=mul_u _ _ (by omega)
  have w9:IntKind.u64.wrap ((U:Int) - ((q * yn1:Nat):Int))=(r:Int):=by
   rw [sub_u _ _ (by omega) (by omega)];congr 1;omega
  have hyn:¬ (yn1:Int)=0:=by omega
  have hk0:(0:Int)≤(k:Int):=by omega
  have hk1:(0:Int)≤((64 - k:Nat):Int):=by omega
  simp only [cl_math_bits_Div64,g1,g2,g3,vZ,Int.reduceEq,Int.reduceNe,Int.reduceLT,Int.reduceLE,Nat.reduceEqDiff,Nat.reduceAdd,reduceIte,reduceCtorEq,Nat.reduceLT,Nat.reduceLeDiff,Nat.reduceShiftRight,Nat.reduceMod]
  refine callS_of hLZ ?_
  simp only [ws,wY,s1,a1,wA,wr,wB,wU,wL,s2,a2,w7,w8,w9,hyn,hk0,hk1,ne_eq,not_false_eq_true,vZ,Int.reduceEq,Int.reduceNe,Int.reduceLT,Int.reduceLE,Nat.reduceEqDiff,Nat.reduceAdd,reduceIte,reduceCtorEq,Nat.reduceLT,Nat.reduceLeDiff,Nat.reduceShiftRight,Nat.reduceMod]
  refine WL_cutW (envOf [(2,.int .u64 Y),(8,.int .u64 k),(9,.int .u64 yn1),(10,.int .u64 yn0),(11,.int .u64 U),(13,.int .u64 un1),(14,.int .u64 un0),(15,.int .u64 q),(16,.int .u64 r)],stOf []) rfl ?_
   (div_one (Y:=Y) (k:=k) (by omega) (by omega) (by omega) hn1 hUY (by omega) (by omega) hs63 ?_ q r hdm (by omega) hgt)
  ·refine weakX [] (of_decide_eq_true rfl) (of_decide_eq_true rfl) ?_
   (simp only [vcW,vZ,Int.reduceEq,Int.reduceNe,Int.reduceLT,Int.reduceLE,Nat.reduceEqDiff,Nat.reduceAdd,reduceIte,reduceCtorEq,Nat.reduceLT,Nat.reduceLeDiff,Nat.reduceShiftRight,Nat.reduceMod])
   (repeat' first | exact trivial | (with_reducible first | exact RnB.fxB (ints_fxB _) | rfl | refine And.intro ?_ ?_) | (with_reducible (first | refine RnB.bb ?_ | refine RnB.nb ?_);simp only [vcW,vZ,Int.reduceEq,Int.reduceNe,Int.reduceLT,Int.reduceLE,Nat.reduceEqDiff,Nat.reduceAdd,reduceIte,reduceCtorEq,Nat.reduceLT,Nat.reduceLeDiff,Nat.reduceShiftRight,Nat.reduceMod]) | (with_reducible first | refine RnB.ii ?_ | refine RnB.app ?_) | (with_reducible refine RnB.fxB ?_;simp only [vcW,vZ,Int.reduceEq,Int.reduceNe,Int.reduceLT,Int.reduceLE,Nat.reduceEqDiff,Nat.reduceAdd,reduceIte,reduceCtorEq,Nat.reduceLT,Nat.reduceLeDiff,Nat.reduceShiftRight,Nat.reduceMod]) | omega)
  ·intro e s q1 u21 q0 R2 a2 a8 a14 a15 a17 a18 f1 f2 f3 f4 f5
   have hN:(hi * 18446744073709551616+lo) * 2 ^ k=(U * 4294967296+un1) * 4294967296+un0:=by
    rw [hsh]
    exact two_limbs eL
   obtain ⟨k1,k2⟩:=Lin.knuth (N:=hi * 18446744073709551616+lo) (y:=y) (s:=k) (by omega) hYd hN f1 f3 f4
   have hQ64:q1 * 4294967296+q0<18446744073709551616:=by omega
   exact div_tail a2 a8 a14 a15 a17 a18 hs63 k1.symm (by rw [k1];exact hQ64) f3 (by omega) k2.symm
end Go.Proofs.Ytgmpcbpmnimkoaa

/- Numbers of 128 bits of the chapter's code: product,sum,rounded quotient. By an AI agent;nothing here is trusted. -/
namespace Go.Proofs.Ytgmpcbpmnimkoaa
open Go.Av

theorem product_s (a b:Int) (ha:S63 a) (hb:S63 b):Sound Try.prog 58 [.int .i64 a,.int .i64 b] (wdA (decide (a<0) != decide (b<0)) (a.natAbs * b.natAbs)):=by
 refine sound_W f_watch_product (Nat.le_of_ble_eq_true rfl) ?_
 unfold S63 at ha hb
 have h1:=max_neg a
 have h2:=max_neg b
 have w1:IntKind.u64.wrap (a.natAbs:Int)=(a.natAbs:Int):=u64_wrap (by omega)
 have w2:IntKind.u64.wrap (b.natAbs:Int)=(b.natAbs:Int):=u64_wrap (by omega)
 have hM:=Mul64_s a.natAbs b.natAbs (by omega) (by omega)
 unfold wdA
 simp only [c_watch_product,h1,h2,vZ,Int.reduceEq,Int.reduceNe,Int.reduceLT,Int.reduceLE,Nat.reduceEqDiff,Nat.reduceAdd,reduceIte,reduceCtorEq,Nat.reduceLT,Nat.reduceLeDiff,Nat.reduceShiftRight,Nat.reduceMod]
 (repeat (with_reducible refine And.intro ?_ ?_;focus (first | omega | (unfold I64;omega))))
 simp only [h1,h2,w1,w2,vZ,Int.reduceEq,Int.reduceNe,Int.reduceLT,Int.reduceLE,Nat.reduceEqDiff,Nat.reduceAdd,reduceIte,reduceCtorEq,Nat.reduceLT,Nat.reduceLeDiff,Nat.reduceShiftRight,Nat.reduceMod]
 refine callS_of hM ?_
 simp only [vZ,Int.reduceEq,Int.reduceNe,Int.reduceLT,Int.reduceLE,Nat.reduceEqDiff,Nat.reduceAdd,reduceIte,reduceCtorEq,Nat.reduceLT,Nat.reduceLeDiff,Nat.reduceShiftRight,Nat.reduceMod]
 cases decide (a<0) <;> cases decide (b<0) <;> rfl
theorem wplus_same_s (b:Bool) (m n:Nat) (h:W128 (m+n)):Sound Try.prog 59 [wdA b m,wdA b n] (wdA b (m+n)):=by
 refine sound_W f_watch_wide_plus (Nat.le_of_ble_eq_true rfl) ?_
 unfold W128 at h
 have em:=Nat.div_add_mod m 18446744073709551616
 have en:=Nat.div_add_mod n 18446744073709551616
 have lm:=Nat.mod_lt m (show 18446744073709551616 > 0 by omega)
 have ln:=Nat.mod_lt n (show 18446744073709551616 > 0 by omega)
 have hA:=Add64_s ((m % 18446744073709551616:Nat):Int) ((n % 18446744073709551616:Nat):Int) 0 (by omega) (by omega) (by omega)
 unfold wdA
 have q1:(m+n) / 18446744073709551616=m / 18446744073709551616+n / 18446744073709551616+(m % 18446744073709551616+n % 18446744073709551616) / 18446744073709551616:=by omega
 have q2:(m+n) % 18446744073709551616=(m % 18446744073709551616+n % 18446744073709551616) % 18446744073709551616:=by omega
 rw [q1,q2]
 generalize m / 18446744073709551616=mh at *
 generalize m % 18446744073709551616=ml at *
 generalize n / 18446744073709551616=nh at *
 generalize n % 18446744073709551616=nl at *
 have e1:((ml:Int)+nl+0) / 18446744073709551616=(((ml+nl) / 18446744073709551616:Nat):Int):=by omega
 have e2:((ml:Int)+nl+0) % 18446744073709551616=(((ml+nl) % 18446744073709551616:Nat):Int):=by omega
 rw [e1,e2] at hA
 have w1:IntKind.u64.wrap ((mh:Int)+nh)=((mh+nh:Nat):Int):=by rw [← Int.natCast_add];exact u64_wrap (by omega)
 have w2:IntKind.u64.wrap (((mh+nh:Nat):Int)+(((ml+nl) / 18446744073709551616:Nat):Int))=((mh+nh+(ml+nl) / 18446744073709551616:Nat):Int):=by rw [← Int.natCast_add];exact u64_wrap (by omega)
 simp only [c_watch_wide_plus,vZ,Int.reduceEq,Int.reduceNe,Int.reduceLT,Int.reduceLE,Nat.reduceEqDiff,Nat.reduceAdd,reduceIte,reduceCtorEq,Nat.reduceLT,Nat.reduceLeDiff,Nat.reduceShiftRight,Nat.reduceMod]
 refine callS_of hA ?_
 simp only [w1,w2,vZ,Int.reduceEq,Int.reduceNe,Int.reduceLT,Int.reduceLE,Nat.reduceEqDiff,Nat.reduceAdd,reduceIte,reduceCtorEq,Nat.reduceLT,Nat.reduceLeDiff,Nat.reduceShiftRight,Nat.reduceMod]
set_option maxHeartbeats 4000000 in
theorem wplus_other_s (b:Bool) (m n:Nat) (hm:W128 m) (hn:W128 n):Sound Try.prog 59 [wdA b m,wdA (!b) n] (if m<n then wdA (!b) (n - m) else wdA b (m - n)):=by
 refine sound_W f_watch_wide_plus (Nat.le_of_ble_eq_true rfl) ?_
 unfold W128 at hm hn
 have em:=Nat.div_add_mod m 18446744073709551616
 have en:=Nat.div_add_mod n 18446744073709551616
 have lm:=Nat.mod_lt m (show 18446744073709551616 > 0 by omega)
 have ln:=Nat.mod_lt n (show 18446744073709551616 > 0 by omega)
 have hS1:=Sub64_s (m % 18446744073709551616) (n % 18446744073709551616) 0 (by omega)
 have hS2:=Sub64_s (n % 18446744073709551616) (m % 18446744073709551616) 0 (by omega)
 have key:∀ x y:Nat,y≤x→x<340282366920938463463374607431768211456 →
   IntKind.u64.wrap (IntKind.u64.wrap (((x / 18446744073709551616:Nat):Int) - ((y / 18446744073709551616:Nat):Int)) - ((if x % 18446744073709551616<y % 18446744073709551616+0 then 1 else 0:Nat):Int))=(((x - y) / 18446744073709551616:Nat):Int) ∧
   (x % 18446744073709551616+18446744073709551616 - y % 18446744073709551616 - 0) % 18446744073709551616=(x - y) % 18446744073709551616:=by
  intro x y hxy hx
  rw [u64_mod,u64_mod]
  split <;> omega
 unfold wdA
 by_cases h1:((m / 18446744073709551616:Nat):Int)<((n / 18446744073709551616:Nat):Int)
 ·have hlt:m<n:=by omega
  obtain ⟨k1,k2⟩:=key n m (by omega) hn
  rw [if_pos hlt]
  rw [k2] at hS2
  cases b
  all_goals
   simp only [c_watch_wide_plus,h1,vZ,Int.reduceEq,Int.reduceNe,Int.reduceLT,Int.reduceLE,Nat.reduceEqDiff,Nat.reduceAdd,reduceIte,reduceCtorEq,Nat.reduceLT,Nat.reduceLeDiff,Nat.reduceShiftRight,Nat.reduceMod]
   refine callS_of hS2 ?_
   simp only [k1,vZ,Int.reduceEq,Int.reduceNe,Int.reduceLT,Int.reduceLE,Nat.reduceEqDiff,Nat.reduceAdd,reduceIte,reduceCtorEq,Nat.reduceLT,Nat.reduceLeDiff,Nat.reduceShiftRight,Nat.reduceMod]
 ·by_cases h2:((m / 18446744073709551616:Nat):Int)=((n / 18446744073709551616:Nat):Int)
  ·by_cases h3:((m % 18446744073709551616:Nat):Int)<((n % 18446744073709551616:Nat):Int)
   ·have hlt:m<n:=by omega
    obtain ⟨k1,k2⟩:=key n m (by omega) hn
    rw [if_pos hlt]
    rw [k2] at hS2
    have h1':¬ ((n / 18446744073709551616:Nat):Int)<((n / 18446744073709551616:Nat):Int):=by omega
    rw [h2]
    cases b
    all_goals
     simp only [c_watch_wide_plus,h1',h3,vZ,Int.reduceEq,Int.reduceNe,Int.reduceLT,Int.reduceLE,Nat.reduceEqDiff,Nat.reduceAdd,reduceIte,reduceCtorEq,Nat.reduceLT,Nat.reduceLeDiff,Nat.reduceShiftRight,Nat.reduceMod]
     refine callS_of hS2 ?_
     rw [h2] at k1
     simp only [k1,vZ,Int.reduceEq,Int.reduceNe,Int.reduceLT,Int.reduceLE,Nat.reduceEqDiff,Nat.reduceAdd,reduceIte,reduceCtorEq,Nat.reduceLT,Nat.reduceLeDiff,Nat.reduceShiftRight,Nat.reduceMod]
   ·have hlt:¬ m<n:=by omega
    obtain ⟨k1,k2⟩:=key m n (by omega) hm
    rw [if_neg hlt]
    rw [k2] at hS1
    have h1':¬ ((n / 18446744073709551616:Nat):Int)<((n / 18446744073709551616:Nat):Int):=by omega
    rw [h2]
    rw [h2] at k1
    cases b
    all_goals
     simp only [c_watch_wide_plus,h1',h3,vZ,Int.reduceEq,Int.reduceNe,Int.reduceLT,Int.reduceLE,Nat.reduceEqDiff,Nat.reduceAdd,reduceIte,reduceCtorEq,Nat.reduceLT,Nat.reduceLeDiff,Nat.reduceShiftRight,Nat.reduceMod]
     refine callS_of hS1 ?_
     simp only [k1,vZ,Int.reduceEq,Int.reduceNe,Int.reduceLT,Int.reduceLE,Nat.reduceEqDiff,Nat.reduceAdd,reduceIte,reduceCtorEq,Nat.reduceLT,Nat.reduceLeDiff,Nat.reduceShiftRight,Nat.reduceMod]
  ·have hlt:¬ m<n:=by omega
   obtain ⟨k1,k2⟩:=key m n (by omega) hm
   rw [if_neg hlt]
   rw [k2] at hS1
   cases b
   all_goals
    simp only [c_watch_wide_plus,h1,h2,vZ,Int.reduceEq,Int.reduceNe,Int.reduceLT,Int.reduceLE,Nat.reduceEqDiff,Nat.reduceAdd,reduceIte,reduceCtorEq,Nat.reduceLT,Nat.reduceLeDiff,Nat.reduceShiftRight,Nat.reduceMod]
    refine callS_of hS1 ?_
    simp only [k1,vZ,Int.reduceEq,Int.reduceNe,Int.reduceLT,Int.reduceLE,Nat.reduceEqDiff,Nat.reduceAdd,reduceIte,reduceCtorEq,Nat.reduceLT,Nat.reduceLeDiff,Nat.reduceShiftRight,Nat.reduceMod]
theorem wplus_s (a b:Bool) (m n:Nat) (hm:m<170141183460469231731687303715884105728) (hn:n<170141183460469231731687303715884105728):∃ c k,Sound Try.prog 59 [wdA a m,wdA b n] (wdA c k)∧wdV c k=wdV a m+wdV b n∧k≤m+n:=by
 have h1:W128 m:=by unfold W128;omega
 have h2:W128 n:=by unfold W128;omega
 by_cases e:b=a
 ·subst e
  refine ⟨b,m+n,wplus_same_s b m n (by unfold W128;omega),?_,Nat.le_refl _⟩
  unfold wdV;cases b <;> simp <;> omega
 ·have e2:b=!a:=by cases a <;> cases b <;> simp at e ⊢
  subst e2
  have hs:=wplus_other_s a m n h1 h2
  by_cases hlt:m<n
  ·rw [if_pos hlt] at hs
   refine ⟨!a,n - m,hs,?_,by omega⟩
   unfold wdV;cases a <;> simp <;> omega
  ·rw [if_neg hlt] at hs
   refine ⟨a,m - n,hs,?_,by omega⟩
   unfold wdV;cases a <;> simp <;> omega
theorem ceil_nat (n y:Nat) (hy:0<y) : -(-(n:Int) / (y:Int))=(n / y:Nat)+(if n % y=0 then 0 else 1:Int):=by
 have h1:=Nat.div_add_mod n y
 have h2:=Nat.mod_lt n hy
 have hy':(0:Int)<y:=by omega
 generalize hq:n / y=q at *
 generalize hr:n % y=r at *
 have e:(n:Int)=y * q+r:=by rw [← h1];push_cast;rfl
 by_cases h0:r=0
 ·subst h0
  rw [if_pos rfl,e]
  have : -((y:Int) * q+(0:Nat))=y * (-(q:Int)):=by rw [Int.mul_neg];omega
  rw [this,Int.mul_ediv_cancel_left _ (by omega)];omega
 ·rw [if_neg h0,e]
  have : -((y:Int) * q+r)=((y:Int) - r)+y * (-(q:Int) - 1):=by rw [Int.mul_sub,Int.mul_neg];omega
  rw [this,Int.add_mul_ediv_left _ _ (by omega),Int.ediv_eq_zero_of_lt (by omega) (by omega)];omega
theorem rounded_s (b:Bool) (n y:Nat) (hy:0<y∧y<9223372036854775808) (hn:n<y * 4611686018427387904):Sound Try.prog 60 [wdA b n,.int .i64 (y:Nat)] (prA (wdV b n / (y:Int), -(-(wdV b n) / (y:Int)))):=by
 refine sound_W f_watch_wide_rounded (Nat.le_of_ble_eq_true rfl) ?_
 have hc:=ceil_nat n y hy.1
 have hdm:=Nat.div_add_mod n 18446744073709551616
 have hlo:=Nat.mod_lt n (show 18446744073709551616 > 0 by omega)
 have hhi:n / 18446744073709551616<y:=by
  exact Nat.div_lt_of_lt_mul (by omega)
 have w1:IntKind.u64.wrap (y:Int)=(y:Int):=u64_wrap (by omega)
 have hD:=Div64_s (n / 18446744073709551616) (n % 18446744073709551616) y hlo (by omega) hhi
 rw [Nat.div_add_mod' n 18446744073709551616] at hD
 have hq:n / y<4611686018427387904:=by rw [Nat.div_lt_iff_lt_mul hy.1,Nat.mul_comm];exact hn
 have hm:((n / 18446744073709551616:Nat):Int).tmod (y:Int)=((n / 18446744073709551616:Nat):Int):=by
  rw [← Int.ofNat_tmod,Nat.mod_eq_of_lt hhi]
 have hy0:¬ (y:Int)=0:=by omega
 have hf:(n:Int) / (y:Int)=((n / y:Nat):Int):=by rw [Int.natCast_ediv]
 have hr:=Nat.mod_lt n hy.1
 unfold wdA wdV prA
 generalize hqd:n / y=q at *
 have w2:IntKind.i64.wrap (q:Int)=(q:Int):=wrap_i64 (by unfold I64;omega)
 cases b with
 | false =>
  have e0:(if (false:Bool)=true then -(n:Int) else (n:Int))=(n:Int):=rfl
  rw [e0,hf,hc]
  by_cases h0:n % y=0
  ·have h0':((n % y:Nat):Int)=0:=by omega
   rw [if_pos h0]
   simp only [c_watch_wide_rounded,w1,hm,hy0,vZ,Int.reduceEq,Int.reduceNe,Int.reduceLT,Int.reduceLE,Nat.reduceEqDiff,Nat.reduceAdd,reduceIte,reduceCtorEq,Nat.reduceLT,Nat.reduceLeDiff,Nat.reduceShiftRight,Nat.reduceMod]
   (repeat (with_reducible refine And.intro ?_ ?_;focus (first | omega | (unfold I64;omega))))
   refine callS_of hD ?_
   simp only [w2,h0',Int.add_zero,vZ,Int.reduceEq,Int.reduceNe,Int.reduceLT,Int.reduceLE,Nat.reduceEqDiff,Nat.reduceAdd,reduceIte,reduceCtorEq,Nat.reduceLT,Nat.reduceLeDiff,Nat.reduceShiftRight,Nat.reduceMod]
   all_goals (simp only [I64];omega)
  ·have h0':¬ ((n % y:Nat):Int)=0:=by omega
   rw [if_neg h0]
   simp only [c_watch_wide_rounded,w1,hm,hy0,vZ,Int.reduceEq,Int.reduceNe,Int.reduceLT,Int.reduceLE,Nat.reduceEqDiff,Nat.reduceAdd,reduceIte,reduceCtorEq,Nat.reduceLT,Nat.reduceLeDiff,Nat.reduceShiftRight,Nat.reduceMod]
   (repeat (with_reducible refine And.intro ?_ ?_;focus (first | omega | (unfold I64;omega))))
   refine callS_of hD ?_
   simp only [w2,h0',vZ,Int.reduceEq,Int.reduceNe,Int.reduceLT,Int.reduceLE,Nat.reduceEqDiff,Nat.reduceAdd,reduceIte,reduceCtorEq,Nat.reduceLT,Nat.reduceLeDiff,Nat.reduceShiftRight,Nat.reduceMod]
   all_goals (simp only [I64];omega)
 | true =>
  have e0:(if (true:Bool)=true then -(n:Int) else (n:Int)) = -(n:Int):=rfl
  have e2 : -(n:Int) / (y:Int) = -((q:Int)+(if n % y=0 then 0 else 1:Int)):=by omega
  rw [e0,e2,Int.neg_neg,hf]
  by_cases h0:n % y=0
  ·have h0':((n % y:Nat):Int)=0:=by omega
   rw [if_pos h0]
   simp only [c_watch_wide_rounded,w1,hm,hy0,vZ,Int.reduceEq,Int.reduceNe,Int.reduceLT,Int.reduceLE,Nat.reduceEqDiff,Nat.reduceAdd,reduceIte,reduceCtorEq,Nat.reduceLT,Nat.reduceLeDiff,Nat.reduceShiftRight,Nat.reduceMod]
   (repeat (with_reducible refine And.intro ?_ ?_;focus (first | omega | (unfold I64;omega))))
   refine callS_of hD ?_
   simp only [w2,h0',Int.add_zero,vZ,Int.reduceEq,Int.reduceNe,Int.reduceLT,Int.reduceLE,Nat.reduceEqDiff,Nat.reduceAdd,reduceIte,reduceCtorEq,Nat.reduceLT,Nat.reduceLeDiff,Nat.reduceShiftRight,Nat.reduceMod]
   all_goals (simp only [I64];omega)
  ·have h0':¬ ((n % y:Nat):Int)=0:=by omega
   rw [if_neg h0]
   simp only [c_watch_wide_rounded,w1,hm,hy0,vZ,Int.reduceEq,Int.reduceNe,Int.reduceLT,Int.reduceLE,Nat.reduceEqDiff,Nat.reduceAdd,reduceIte,reduceCtorEq,Nat.reduceLT,Nat.reduceLeDiff,Nat.reduceShiftRight,Nat.reduceMod]
   (repeat (with_reducible refine And.intro ?_ ?_;focus (first | omega | (unfold I64;omega))))
   refine callS_of hD ?_
   simp only [w2,h0',vZ,Int.reduceEq,Int.reduceNe,Int.reduceLT,Int.reduceLE,Nat.reduceEqDiff,Nat.reduceAdd,reduceIte,reduceCtorEq,Nat.reduceLT,Nat.reduceLeDiff,Nat.reduceShiftRight,Nat.reduceMod]
   all_goals (simp only [I64];omega)
end Go.Proofs.Ytgmpcbpmnimkoaa

/- Lines that are handed in: their errors,what is accepted,residuals: contracts of the code. By an AI agent;nothing here is trusted. -/
namespace Go.Proofs.Ytgmpcbpmnimkoaa
open Go.Av

theorem divisor_p (a b:Int) (hb:S63 b) (h0:b ≠ 0):Sound Try.prog 110 [.int .i64 a,.int .i64 b] (.int .i64 (Int.gcd a b)):=by
 refine sound_W f_watch_divisor (Nat.le_of_ble_eq_true rfl) ?_
 simp only [c_watch_divisor,vZ,Int.reduceEq,Int.reduceNe,Int.reduceLT,Int.reduceLE,Nat.reduceEqDiff,Nat.reduceAdd,reduceIte,reduceCtorEq,Nat.reduceLT,Nat.reduceLeDiff,Nat.reduceShiftRight,Nat.reduceMod]
 refine W_loop (α:=PSigma fun p:Int × Int=>(p.2 ≠ 0∨S63 p.1)∧S63 p.2∧Int.gcd p.1 p.2=Int.gcd a b) (fun p=>(envOf [(0,.int .i64 p.1.1),(1,.int .i64 p.1.2)],noStore)) (fun p=>p.1.2.natAbs) ⟨(a,b),.inl h0,hb,rfl⟩ (weakE _ ?_) (fun ⟨p,h1,h2,h3⟩=>?_)
 ·simp only [vZ,Int.reduceEq,Int.reduceNe,Int.reduceLT,Int.reduceLE,Nat.reduceEqDiff,Nat.reduceAdd,reduceIte,reduceCtorEq,Nat.reduceLT,Nat.reduceLeDiff,Nat.reduceShiftRight,Nat.reduceMod]
 ·obtain ⟨x,y⟩:=p
  simp only at h1 h2 h3
  simp only [vZ,Int.reduceEq,Int.reduceNe,Int.reduceLT,Int.reduceLE,Nat.reduceEqDiff,Nat.reduceAdd,reduceIte,reduceCtorEq,Nat.reduceLT,Nat.reduceLeDiff,Nat.reduceShiftRight,Nat.reduceMod]
  refine brB_split (fun h=>?_) (fun h=>?_)
  ·have hy:y ≠ 0:=by simpa using h
   obtain ⟨t1,t2⟩:=tmod_S (a:=x) h2 hy
   simp only [vZ,Int.reduceEq,Int.reduceNe,Int.reduceLT,Int.reduceLE,Nat.reduceEqDiff,Nat.reduceAdd,reduceIte,reduceCtorEq,Nat.reduceLT,Nat.reduceLeDiff,Nat.reduceShiftRight,Nat.reduceMod]
   refine ⟨hy,⟨(y,x.tmod y),.inr h2,t1,(gcd_tmod x y).trans h3⟩,t2,weakE _ ?_⟩
   simp only [vZ,Int.reduceEq,Int.reduceNe,Int.reduceLT,Int.reduceLE,Nat.reduceEqDiff,Nat.reduceAdd,reduceIte,reduceCtorEq,Nat.reduceLT,Nat.reduceLeDiff,Nat.reduceShiftRight,Nat.reduceMod]
  ·have hy:y=0:=by simpa using h
   subst hy
   have h1:S63 x:=h1.resolve_left fun q=>q rfl
   unfold S63 at h1
   simp only [max_neg,vZ,Int.reduceEq,Int.reduceNe,Int.reduceLT,Int.reduceLE,Nat.reduceEqDiff,Nat.reduceAdd,reduceIte,reduceCtorEq,Nat.reduceLT,Nat.reduceLeDiff,Nat.reduceShiftRight,Nat.reduceMod]
   refine ⟨by (simp only [decide_eq_true_eq,decide_eq_false_iff_not,Bool.not_true,I64,Bool.not_eq_true',Bool.not_eq_false',bne_iff_ne,beq_iff_eq,ne_eq] at *;omega),?_⟩
   rw [← h3];simp [Int.gcd]
theorem Gcd_p (a b:Int) (hb:S63 b) (h0:b ≠ 0):Sound Try.prog 104 [.int .i64 a,.int .i64 b] (.int .i64 (Int.gcd a b)):=by
 refine sound_W f_base_Gcd (Nat.le_of_ble_eq_true rfl) ?_
 simp only [c_base_Gcd,vZ,Int.reduceEq,Int.reduceNe,Int.reduceLT,Int.reduceLE,Nat.reduceEqDiff,Nat.reduceAdd,reduceIte,reduceCtorEq,Nat.reduceLT,Nat.reduceLeDiff,Nat.reduceShiftRight,Nat.reduceMod]
 refine W_loop (α:=PSigma fun p:Int × Int=>(p.2 ≠ 0∨S63 p.1)∧S63 p.2∧Int.gcd p.1 p.2=Int.gcd a b) (fun p=>(envOf [(0,.int .i64 p.1.1),(1,.int .i64 p.1.2)],noStore)) (fun p=>p.1.2.natAbs) ⟨(a,b),.inl h0,hb,rfl⟩ (weakE _ ?_) (fun ⟨p,h1,h2,h3⟩=>?_)
 ·simp only [vZ,Int.reduceEq,Int.reduceNe,Int.reduceLT,Int.reduceLE,Nat.reduceEqDiff,Nat.reduceAdd,reduceIte,reduceCtorEq,Nat.reduceLT,Nat.reduceLeDiff,Nat.reduceShiftRight,Nat.reduceMod]
 ·obtain ⟨x,y⟩:=p
  simp only at h1 h2 h3
  simp only [vZ,Int.reduceEq,Int.reduceNe,Int.reduceLT,Int.reduceLE,Nat.reduceEqDiff,Nat.reduceAdd,reduceIte,reduceCtorEq,Nat.reduceLT,Nat.reduceLeDiff,Nat.reduceShiftRight,Nat.reduceMod]
  refine brB_split (fun h=>?_) (fun h=>?_)
  ·have hy:y ≠ 0:=by simpa using h
   obtain ⟨t1,t2⟩:=tmod_S (a:=x) h2 hy
   simp only [vZ,Int.reduceEq,Int.reduceNe,Int.reduceLT,Int.reduceLE,Nat.reduceEqDiff,Nat.reduceAdd,reduceIte,reduceCtorEq,Nat.reduceLT,Nat.reduceLeDiff,Nat.reduceShiftRight,Nat.reduceMod]
   refine ⟨hy,⟨(y,x.tmod y),.inr h2,t1,(gcd_tmod x y).trans h3⟩,t2,weakE _ ?_⟩
   simp only [vZ,Int.reduceEq,Int.reduceNe,Int.reduceLT,Int.reduceLE,Nat.reduceEqDiff,Nat.reduceAdd,reduceIte,reduceCtorEq,Nat.reduceLT,Nat.reduceLeDiff,Nat.reduceShiftRight,Nat.reduceMod]
  ·have hy:y=0:=by simpa using h
   subst hy
   have h1:S63 x:=h1.resolve_left fun q=>q rfl
   simp only [vZ,Int.reduceEq,Int.reduceNe,Int.reduceLT,Int.reduceLE,Nat.reduceEqDiff,Nat.reduceAdd,reduceIte,reduceCtorEq,Nat.reduceLT,Nat.reduceLeDiff,Nat.reduceShiftRight,Nat.reduceMod]
   refine callS_of (Size_s x h1) ?_
   simp only [vZ,Int.reduceEq,Int.reduceNe,Int.reduceLT,Int.reduceLE,Nat.reduceEqDiff,Nat.reduceAdd,reduceIte,reduceCtorEq,Nat.reduceLT,Nat.reduceLeDiff,Nat.reduceShiftRight,Nat.reduceMod]
   rw [← h3];simp [Int.gcd]
def lowQ (n d:Int):Bool:=decide (0<d) && decide (Int.gcd n d=1)
def smQ (n d:Int):Bool:=decide (-1000000000≤n∧n≤1000000000) && decide (d≤1000000000)
theorem small_g (n d:Int):Sound Try.prog 109 [fracA n d] (.tup (if smQ n d then [fracA n d,.int .i64 0] else [fracA 0 0,.int .i64 8])):=by
 refine sound_W f_watch_small (Nat.le_of_ble_eq_true rfl) ?_
 unfold smQ
 simp only [c_watch_small,fracA,vZ,Int.reduceEq,Int.reduceNe,Int.reduceLT,Int.reduceLE,Nat.reduceEqDiff,Nat.reduceAdd,reduceIte,reduceCtorEq,Nat.reduceLT,Nat.reduceLeDiff,Nat.reduceShiftRight,Nat.reduceMod]
 refine callS_of (isSized_s _ _ (by unfold S63;omega)) ?_
 simp only [vZ,Int.reduceEq,Int.reduceNe,Int.reduceLT,Int.reduceLE,Nat.reduceEqDiff,Nat.reduceAdd,reduceIte,reduceCtorEq,Nat.reduceLT,Nat.reduceLeDiff,Nat.reduceShiftRight,Nat.reduceMod]
 by_cases h : -1000000000≤n∧n≤1000000000
 ·by_cases h2:d≤1000000000
  ·have h3:¬ 1000000000<d:=by omega
   simp only [h,h3,h2,vZ,Int.reduceEq,Int.reduceNe,Int.reduceLT,Int.reduceLE,Nat.reduceEqDiff,Nat.reduceAdd,reduceIte,reduceCtorEq,Nat.reduceLT,Nat.reduceLeDiff,Nat.reduceShiftRight,Nat.reduceMod]
  ·have h3:1000000000<d:=by omega
   simp only [h,h3,h2,vZ,Int.reduceEq,Int.reduceNe,Int.reduceLT,Int.reduceLE,Nat.reduceEqDiff,Nat.reduceAdd,reduceIte,reduceCtorEq,Nat.reduceLT,Nat.reduceLeDiff,Nat.reduceShiftRight,Nat.reduceMod]
 ·simp only [h,vZ,Int.reduceEq,Int.reduceNe,Int.reduceLT,Int.reduceLE,Nat.reduceEqDiff,Nat.reduceAdd,reduceIte,reduceCtorEq,Nat.reduceLT,Nat.reduceLeDiff,Nat.reduceShiftRight,Nat.reduceMod]
def lnE (a b c d:Int):Int:=if lowQ a b && lowQ c d then (if smQ a b && smQ c d then 0 else 2) else 3
def foN (a b c d:Int):Nat→Bool
 | 0=>true
 | 1=>lowQ a b
 | _=>lowQ a b && lowQ c d
def riN (a b c d:Int):Nat→Bool
 | 0=>true
 | 1=>smQ a b
 | _=>smQ a b && smQ c d
theorem gcd_one_cast (g:Nat):(decide (((g:Nat):Int)=1))=decide (g=1):=decide_eq_decide.2 (by omega)
set_option maxHeartbeats 8000000 in
theorem fitErr_s (a b c d:Int) (hb:I64 b) (hd:I64 d):Sound Try.prog 50 [fitA4 a b c d] (.int .i64 (lnE a b c d)):=by
 refine sound_W f_watch_fitErr (Nat.le_of_ble_eq_true rfl) ?_
 unfold I64 at hb hd
 simp only [c_watch_fitErr,fitA4,vZ,Int.reduceEq,Int.reduceNe,Int.reduceLT,Int.reduceLE,Nat.reduceEqDiff,Nat.reduceAdd,reduceIte,reduceCtorEq,Nat.reduceLT,Nat.reduceLeDiff,Nat.reduceShiftRight,Nat.reduceMod]
 refine W_loop (t:=.mk) (α:=PSigma fun i:Nat=>i≤2) (fun ⟨i,_⟩=>(envOf [(3,.bool (foN a b c d i)),(4,.bool (riN a b c d i)),(13,.agg [.int .i64 a,.int .i64 b,.int .i64 c,.int .i64 d]),(14,.int .i64 (i:Nat))],stOf [])) (fun x=>2 - x.1) ⟨0,Nat.zero_le _⟩ ?_ (fun ⟨i,hi⟩=>?_)
 ·refine weakX [] (of_decide_eq_true rfl) (of_decide_eq_true rfl) ?_
  (simp only [vcW,vZ,Int.reduceEq,Int.reduceNe,Int.reduceLT,Int.reduceLE,Nat.reduceEqDiff,Nat.reduceAdd,reduceIte,reduceCtorEq,Nat.reduceLT,Nat.reduceLeDiff,Nat.reduceShiftRight,Nat.reduceMod])
  (repeat' first | exact trivial | (with_reducible first | exact RnB.fxB (ints_fxB _) | rfl | refine And.intro ?_ ?_) | (with_reducible (first | refine RnB.bb ?_ | refine RnB.nb ?_);simp only [vcW,vZ,Int.reduceEq,Int.reduceNe,Int.reduceLT,Int.reduceLE,Nat.reduceEqDiff,Nat.reduceAdd,reduceIte,reduceCtorEq,Nat.reduceLT,Nat.reduceLeDiff,Nat.reduceShiftRight,Nat.reduceMod]) | (with_reducible first | refine RnB.ii ?_ | refine RnB.app ?_) | (with_reducible refine RnB.fxB ?_;simp only [vcW,vZ,Int.reduceEq,Int.reduceNe,Int.reduceLT,Int.reduceLE,Nat.reduceEqDiff,Nat.reduceAdd,reduceIte,reduceCtorEq,Nat.reduceLT,Nat.reduceLeDiff,Nat.reduceShiftRight,Nat.reduceMod]) | omega)
  all_goals first | rfl | trace_state
 ·dsimp only at hi ⊢
  have hcs:i=0∨i=1∨i=2:=by omega
  rcases hcs with rfl | rfl | rfl
  ·have hS:=small_g a b
   unfold fracA at hS
   have f1:foN a b c d (0+1)=(decide (0<b) && decide (Int.gcd a b=1)):=rfl
   have r1:riN a b c d (0+1)=smQ a b:=rfl
   have f0:foN a b c d 0=true:=rfl
   have r0:riN a b c d 0=true:=rfl
   have z0:((0:Nat):Int)=0:=rfl
   have z1:(((0+1:Nat)):Int)=1:=rfl
   have ex0:List.take 2 (List.drop (Int.toNat 0 * 2) [AV.int .i64 a,AV.int .i64 b,AV.int .i64 c,AV.int .i64 d])=[AV.int .i64 a,AV.int .i64 b]:=rfl
   by_cases hbp:0<b
   ·have hG:=divisor_p a b (by unfold S63;omega) (by omega)
    cases hs:smQ a b <;> rw [hs] at hS r1
    all_goals
     simp only [f0,r0,z0,ex0,vZ,Int.reduceEq,Int.reduceNe,Int.reduceLT,Int.reduceLE,Nat.reduceEqDiff,Nat.reduceAdd,reduceIte,reduceCtorEq,Nat.reduceLT,Nat.reduceLeDiff,Nat.reduceShiftRight,Nat.reduceMod]
     (repeat (with_reducible refine And.intro ?_ ?_;focus (first | exact ⟨rfl,rfl⟩ | decide | omega | (unfold I64;omega))))
     refine callS_of hS ?_
     simp only [hbp,vZ,Int.reduceEq,Int.reduceNe,Int.reduceLT,Int.reduceLE,Nat.reduceEqDiff,Nat.reduceAdd,reduceIte,reduceCtorEq,Nat.reduceLT,Nat.reduceLeDiff,Nat.reduceShiftRight,Nat.reduceMod]
     refine callS_of hG ?_
     simp only [gcd_one_cast,vZ,Int.reduceEq,Int.reduceNe,Int.reduceLT,Int.reduceLE,Nat.reduceEqDiff,Nat.reduceAdd,reduceIte,reduceCtorEq,Nat.reduceLT,Nat.reduceLeDiff,Nat.reduceShiftRight,Nat.reduceMod]
     refine ⟨by unfold I64;omega,⟨0+1,by omega⟩,by simp only;omega,?_⟩
     refine weakX [] (of_decide_eq_true rfl) (of_decide_eq_true rfl) ?_
     (simp only [f1,r1,hbp,z1,vcW,vZ,Int.reduceEq,Int.reduceNe,Int.reduceLT,Int.reduceLE,Nat.reduceEqDiff,Nat.reduceAdd,reduceIte,reduceCtorEq,Nat.reduceLT,Nat.reduceLeDiff,Nat.reduceShiftRight,Nat.reduceMod])
     (repeat' first | exact trivial | (with_reducible first | exact RnB.fxB (ints_fxB _) | rfl | refine And.intro ?_ ?_) | (with_reducible (first | refine RnB.bb ?_ | refine RnB.nb ?_);simp only [vcW,vZ,Int.reduceEq,Int.reduceNe,Int.reduceLT,Int.reduceLE,Nat.reduceEqDiff,Nat.reduceAdd,reduceIte,reduceCtorEq,Nat.reduceLT,Nat.reduceLeDiff,Nat.reduceShiftRight,Nat.reduceMod]) | (with_reducible first | refine RnB.ii ?_ | refine RnB.app ?_) | (with_reducible refine RnB.fxB ?_;simp only [vcW,vZ,Int.reduceEq,Int.reduceNe,Int.reduceLT,Int.reduceLE,Nat.reduceEqDiff,Nat.reduceAdd,reduceIte,reduceCtorEq,Nat.reduceLT,Nat.reduceLeDiff,Nat.reduceShiftRight,Nat.reduceMod]) | omega)
     all_goals first | rfl | trace_state
   ·cases hs:smQ a b <;> rw [hs] at hS r1
    all_goals
     simp only [f0,r0,z0,ex0,vZ,Int.reduceEq,Int.reduceNe,Int.reduceLT,Int.reduceLE,Nat.reduceEqDiff,Nat.reduceAdd,reduceIte,reduceCtorEq,Nat.reduceLT,Nat.reduceLeDiff,Nat.reduceShiftRight,Nat.reduceMod]
     (repeat (with_reducible refine And.intro ?_ ?_;focus (first | exact ⟨rfl,rfl⟩ | decide | omega | (unfold I64;omega))))
     refine callS_of hS ?_
     simp only [hbp,vZ,Int.reduceEq,Int.reduceNe,Int.reduceLT,Int.reduceLE,Nat.reduceEqDiff,Nat.reduceAdd,reduceIte,reduceCtorEq,Nat.reduceLT,Nat.reduceLeDiff,Nat.reduceShiftRight,Nat.reduceMod]
     refine ⟨by unfold I64;omega,⟨0+1,by omega⟩,by simp only;omega,?_⟩
     refine weakX [] (of_decide_eq_true rfl) (of_decide_eq_true rfl) ?_
     (simp only [f1,r1,hbp,z1,vcW,vZ,Int.reduceEq,Int.reduceNe,Int.reduceLT,Int.reduceLE,Nat.reduceEqDiff,Nat.reduceAdd,reduceIte,reduceCtorEq,Nat.reduceLT,Nat.reduceLeDiff,Nat.reduceShiftRight,Nat.reduceMod])
     (repeat' first | exact trivial | (with_reducible first | exact RnB.fxB (ints_fxB _) | rfl | refine And.intro ?_ ?_) | (with_reducible (first | refine RnB.bb ?_ | refine RnB.nb ?_);simp only [vcW,vZ,Int.reduceEq,Int.reduceNe,Int.reduceLT,Int.reduceLE,Nat.reduceEqDiff,Nat.reduceAdd,reduceIte,reduceCtorEq,Nat.reduceLT,Nat.reduceLeDiff,Nat.reduceShiftRight,Nat.reduceMod]) | (with_reducible first | refine RnB.ii ?_ | refine RnB.app ?_) | (with_reducible refine RnB.fxB ?_;simp only [vcW,vZ,Int.reduceEq,Int.reduceNe,Int.reduceLT,Int.reduceLE,Nat.reduceEqDiff,Nat.reduceAdd,reduceIte,reduceCtorEq,Nat.reduceLT,Nat.reduceLeDiff,Nat.reduceShiftRight,Nat.reduceMod]) | omega)
     all_goals first | rfl | trace_state
  ·have hS:=small_g c d
   unfold fracA at hS
   have f1:foN a b c d (1+1)=(lowQ a b && (decide (0<d) && decide (Int.gcd c d=1))):=rfl
   have r1:riN a b c d (1+1)=(smQ a b && smQ c d):=rfl
   have f0:foN a b c d 1=lowQ a b:=rfl
   have r0:riN a b c d 1=smQ a b:=rfl
   have z0:((1:Nat):Int)=1:=rfl
   have z1:(((1+1:Nat)):Int)=2:=rfl
   have ex0:List.take 2 (List.drop (Int.toNat 1 * 2) [AV.int .i64 a,AV.int .i64 b,AV.int .i64 c,AV.int .i64 d])=[AV.int .i64 c,AV.int .i64 d]:=rfl
   generalize lowQ a b=F at *
   generalize smQ a b=R at *
   cases F with
   | false =>
    cases R <;> cases hs:smQ c d <;> rw [hs] at hS r1
    all_goals
     simp only [f0,r0,z0,ex0,vZ,Int.reduceEq,Int.reduceNe,Int.reduceLT,Int.reduceLE,Nat.reduceEqDiff,Nat.reduceAdd,reduceIte,reduceCtorEq,Nat.reduceLT,Nat.reduceLeDiff,Nat.reduceShiftRight,Nat.reduceMod]
     (repeat (with_reducible refine And.intro ?_ ?_;focus (first | exact ⟨rfl,rfl⟩ | decide | omega | (unfold I64;omega))))
     refine callS_of hS ?_
     simp only [vZ,Int.reduceEq,Int.reduceNe,Int.reduceLT,Int.reduceLE,Nat.reduceEqDiff,Nat.reduceAdd,reduceIte,reduceCtorEq,Nat.reduceLT,Nat.reduceLeDiff,Nat.reduceShiftRight,Nat.reduceMod]
     refine ⟨by unfold I64;omega,⟨1+1,by omega⟩,by simp only;omega,?_⟩
     refine weakX [] (of_decide_eq_true rfl) (of_decide_eq_true rfl) ?_
     (simp only [f1,r1,z1,vcW,vZ,Int.reduceEq,Int.reduceNe,Int.reduceLT,Int.reduceLE,Nat.reduceEqDiff,Nat.reduceAdd,reduceIte,reduceCtorEq,Nat.reduceLT,Nat.reduceLeDiff,Nat.reduceShiftRight,Nat.reduceMod])
     (repeat' first | exact trivial | (with_reducible first | exact RnB.fxB (ints_fxB _) | rfl | refine And.intro ?_ ?_) | (with_reducible (first | refine RnB.bb ?_ | refine RnB.nb ?_);simp only [vcW,vZ,Int.reduceEq,Int.reduceNe,Int.reduceLT,Int.reduceLE,Nat.reduceEqDiff,Nat.reduceAdd,reduceIte,reduceCtorEq,Nat.reduceLT,Nat.reduceLeDiff,Nat.reduceShiftRight,Nat.reduceMod]) | (with_reducible first | refine RnB.ii ?_ | refine RnB.app ?_) | (with_reducible refine RnB.fxB ?_;simp only [vcW,vZ,Int.reduceEq,Int.reduceNe,Int.reduceLT,Int.reduceLE,Nat.reduceEqDiff,Nat.reduceAdd,reduceIte,reduceCtorEq,Nat.reduceLT,Nat.reduceLeDiff,Nat.reduceShiftRight,Nat.reduceMod]) | omega)
     all_goals first | rfl | trace_state
   | true =>
    by_cases hbp:0<d
    ·have hG:=divisor_p c d (by unfold S63;omega) (by omega)
     cases R <;> cases hs:smQ c d <;> rw [hs] at hS r1
     all_goals
      simp only [f0,r0,z0,ex0,vZ,Int.reduceEq,Int.reduceNe,Int.reduceLT,Int.reduceLE,Nat.reduceEqDiff,Nat.reduceAdd,reduceIte,reduceCtorEq,Nat.reduceLT,Nat.reduceLeDiff,Nat.reduceShiftRight,Nat.reduceMod]
      (repeat (with_reducible refine And.intro ?_ ?_;focus (first | exact ⟨rfl,rfl⟩ | decide | omega | (unfold I64;omega))))
      refine callS_of hS ?_
      simp only [hbp,vZ,Int.reduceEq,Int.reduceNe,Int.reduceLT,Int.reduceLE,Nat.reduceEqDiff,Nat.reduceAdd,reduceIte,reduceCtorEq,Nat.reduceLT,Nat.reduceLeDiff,Nat.reduceShiftRight,Nat.reduceMod]
      refine callS_of hG ?_
      simp only [gcd_one_cast,vZ,Int.reduceEq,Int.reduceNe,Int.reduceLT,Int.reduceLE,Nat.reduceEqDiff,Nat.reduceAdd,reduceIte,reduceCtorEq,Nat.reduceLT,Nat.reduceLeDiff,Nat.reduceShiftRight,Nat.reduceMod]
      refine ⟨by unfold I64;omega,⟨1+1,by omega⟩,by simp only;omega,?_⟩
      refine weakX [] (of_decide_eq_true rfl) (of_decide_eq_true rfl) ?_
      (simp only [f1,r1,hbp,z1,vcW,vZ,Int.reduceEq,Int.reduceNe,Int.reduceLT,Int.reduceLE,Nat.reduceEqDiff,Nat.reduceAdd,reduceIte,reduceCtorEq,Nat.reduceLT,Nat.reduceLeDiff,Nat.reduceShiftRight,Nat.reduceMod])
      (repeat' first | exact trivial | (with_reducible first | exact RnB.fxB (ints_fxB _) | rfl | refine And.intro ?_ ?_) | (with_reducible (first | refine RnB.bb ?_ | refine RnB.nb ?_);simp only [vcW,vZ,Int.reduceEq,Int.reduceNe,Int.reduceLT,Int.reduceLE,Nat.reduceEqDiff,Nat.reduceAdd,reduceIte,reduceCtorEq,Nat.reduceLT,Nat.reduceLeDiff,Nat.reduceShiftRight,Nat.reduceMod]) | (with_reducible first | refine RnB.ii ?_ | refine RnB.app ?_) | (with_reducible refine RnB.fxB ?_;simp only [vcW,vZ,Int.reduceEq,Int.reduceNe,Int.reduceLT,Int.reduceLE,Nat.reduceEqDiff,Nat.reduceAdd,reduceIte,reduceCtorEq,Nat.reduceLT,Nat.reduceLeDiff,Nat.reduceShiftRight,Nat.reduceMod]) | omega)
      all_goals first | rfl | trace_state
    ·cases R <;> cases hs:smQ c d <;> rw [hs] at hS r1
     all_goals
      simp only [f0,r0,z0,ex0,vZ,Int.reduceEq,Int.reduceNe,Int.reduceLT,Int.reduceLE,Nat.reduceEqDiff,Nat.reduceAdd,reduceIte,reduceCtorEq,Nat.reduceLT,Nat.reduceLeDiff,Nat.reduceShiftRight,Nat.reduceMod]
      (repeat (with_reducible refine And.intro ?_ ?_;focus (first | exact ⟨rfl,rfl⟩ | decide | omega | (unfold I64;omega))))
      refine callS_of hS ?_
      simp only [hbp,vZ,Int.reduceEq,Int.reduceNe,Int.reduceLT,Int.reduceLE,Nat.reduceEqDiff,Nat.reduceAdd,reduceIte,reduceCtorEq,Nat.reduceLT,Nat.reduceLeDiff,Nat.reduceShiftRight,Nat.reduceMod]
      refine ⟨by unfold I64;omega,⟨1+1,by omega⟩,by simp only;omega,?_⟩
      refine weakX [] (of_decide_eq_true rfl) (of_decide_eq_true rfl) ?_
      (simp only [f1,r1,hbp,z1,vcW,vZ,Int.reduceEq,Int.reduceNe,Int.reduceLT,Int.reduceLE,Nat.reduceEqDiff,Nat.reduceAdd,reduceIte,reduceCtorEq,Nat.reduceLT,Nat.reduceLeDiff,Nat.reduceShiftRight,Nat.reduceMod])
      (repeat' first | exact trivial | (with_reducible first | exact RnB.fxB (ints_fxB _) | rfl | refine And.intro ?_ ?_) | (with_reducible (first | refine RnB.bb ?_ | refine RnB.nb ?_);simp only [vcW,vZ,Int.reduceEq,Int.reduceNe,Int.reduceLT,Int.reduceLE,Nat.reduceEqDiff,Nat.reduceAdd,reduceIte,reduceCtorEq,Nat.reduceLT,Nat.reduceLeDiff,Nat.reduceShiftRight,Nat.reduceMod]) | (with_reducible first | refine RnB.ii ?_ | refine RnB.app ?_) | (with_reducible refine RnB.fxB ?_;simp only [vcW,vZ,Int.reduceEq,Int.reduceNe,Int.reduceLT,Int.reduceLE,Nat.reduceEqDiff,Nat.reduceAdd,reduceIte,reduceCtorEq,Nat.reduceLT,Nat.reduceLeDiff,Nat.reduceShiftRight,Nat.reduceMod]) | omega)
      all_goals first | rfl | trace_state
  ·have f0:foN a b c d 2=(lowQ a b && lowQ c d):=rfl
   have r0:riN a b c d 2=(smQ a b && smQ c d):=rfl
   have z0:((2:Nat):Int)=2:=rfl
   have hF:=first2_s (if (lowQ a b && lowQ c d)=true then 0 else 3) (if (smQ a b && smQ c d)=true then 0 else 2)
   have hE:(if (if (lowQ a b && lowQ c d)=true then (0:Int) else 3) ≠ 0 then (if (lowQ a b && lowQ c d)=true then (0:Int) else 3) else (if (smQ a b && smQ c d)=true then (0:Int) else 2))=lnE a b c d:=by
    unfold lnE
    cases lowQ a b && lowQ c d <;> simp
   rw [hE] at hF
   simp only [f0,r0,z0,vZ,Int.reduceEq,Int.reduceNe,Int.reduceLT,Int.reduceLE,Nat.reduceEqDiff,Nat.reduceAdd,reduceIte,reduceCtorEq,Nat.reduceLT,Nat.reduceLeDiff,Nat.reduceShiftRight,Nat.reduceMod]
   refine callS_of (unless_s _ _) ?_
   simp only [vZ,Int.reduceEq,Int.reduceNe,Int.reduceLT,Int.reduceLE,Nat.reduceEqDiff,Nat.reduceAdd,reduceIte,reduceCtorEq,Nat.reduceLT,Nat.reduceLeDiff,Nat.reduceShiftRight,Nat.reduceMod]
   refine callS_of (unless_s _ _) ?_
   simp only [vZ,Int.reduceEq,Int.reduceNe,Int.reduceLT,Int.reduceLE,Nat.reduceEqDiff,Nat.reduceAdd,reduceIte,reduceCtorEq,Nat.reduceLT,Nat.reduceLeDiff,Nat.reduceShiftRight,Nat.reduceMod]
   refine callS_of hF ?_
   simp only [vZ,Int.reduceEq,Int.reduceNe,Int.reduceLT,Int.reduceLE,Nat.reduceEqDiff,Nat.reduceAdd,reduceIte,reduceCtorEq,Nat.reduceLT,Nat.reduceLeDiff,Nat.reduceShiftRight,Nat.reduceMod]
end Go.Proofs.Ytgmpcbpmnimkoaa

/- What is accepted as a line,and the residuals: contracts of the code. By an AI agent;nothing here is trusted. -/
namespace Go.Proofs.Ytgmpcbpmnimkoaa
open Go.Av

theorem prs_imm (l:List (Int × Int)):(prs l).all imm=true:=List.all_eq_true.2 fun x hx=>(good_imm (fx_spec (prs_fx l x hx)).1).1
theorem prs_fxB (l:List (Int × Int)):(prs l).all fx=true:=List.all_eq_true.2 (prs_fx l)
theorem prs_append (a b:List (Int × Int)):prs (a ++ b)=prs a ++ prs b:=by simp [prs]
def ckF (l:List (Int × Int)) (a b c d:Int):Int:=if prE l ≠ 0 then prE l else if Ln.den l=0 then 11 else if lnE a b c d ≠ 0 then lnE a b c d else if lowN (fN1 l) (Ln.den l)=a∧lowD (fN1 l) (Ln.den l)=b∧lowN (fN2 l) (Ln.den l)=c∧lowD (fN2 l) (Ln.den l)=d then 0 else 19
theorem wCheckFit_s (l:List (Int × Int)) (a b c d:Int) (hb:I64 b) (hd:I64 d) (hl:l.length<4000000000000000000):Sound Try.prog 14 [.sl (prs l),fitA4 a b c d] (.int .i64 (ckF l a b c d)):=by
 refine sound_W f_watch_CheckFit (Nat.le_of_ble_eq_true rfl) ?_
 have hE:=fitErr_s a b c d hb hd
 unfold fitA4 at hE
 simp only [c_watch_CheckFit,fitA4,vZ,Int.reduceEq,Int.reduceNe,Int.reduceLT,Int.reduceLE,Nat.reduceEqDiff,Nat.reduceAdd,reduceIte,reduceCtorEq,Nat.reduceLT,Nat.reduceLeDiff,Nat.reduceShiftRight,Nat.reduceMod]
 refine callS_of (pairsErr_s l hl) ?_
 by_cases h:prE l=0
 case neg =>
  have hr:ckF l a b c d=prE l:=by unfold ckF;rw [if_pos h]
  rw [hr]
  simp only [h,vZ,Int.reduceEq,Int.reduceNe,Int.reduceLT,Int.reduceLE,Nat.reduceEqDiff,Nat.reduceAdd,reduceIte,reduceCtorEq,Nat.reduceLT,Nat.reduceLeDiff,Nat.reduceShiftRight,Nat.reduceMod]
 have hL:=line_s l h
 have h3a:=first3_s 11 (lnE a b c d) 19
 have h3b:=fun e:Int=>first3_s 0 (lnE a b c d) e
 simp only [h,vZ,Int.reduceEq,Int.reduceNe,Int.reduceLT,Int.reduceLE,Nat.reduceEqDiff,Nat.reduceAdd,reduceIte,reduceCtorEq,Nat.reduceLT,Nat.reduceLeDiff,Nat.reduceShiftRight,Nat.reduceMod]
 refine callS_of hL ?_
 unfold lineA
 by_cases hz:Ln.den l=0
 ·have hr:ckF l a b c d=11:=by unfold ckF;rw [if_neg (by omega),if_pos hz]
  rw [if_pos hz,hr]
  simp only [fitA4,vZ,Int.reduceEq,Int.reduceNe,Int.reduceLT,Int.reduceLE,Nat.reduceEqDiff,Nat.reduceAdd,reduceIte,reduceCtorEq,Nat.reduceLT,Nat.reduceLeDiff,Nat.reduceShiftRight,Nat.reduceMod]
  refine callS_of (unless_s _ _) ?_
  simp only [vZ,Int.reduceEq,Int.reduceNe,Int.reduceLT,Int.reduceLE,Nat.reduceEqDiff,Nat.reduceAdd,reduceIte,reduceCtorEq,Nat.reduceLT,Nat.reduceLeDiff,Nat.reduceShiftRight,Nat.reduceMod]
  refine callS_of hE ?_
  simp only [vZ,Int.reduceEq,Int.reduceNe,Int.reduceLT,Int.reduceLE,Nat.reduceEqDiff,Nat.reduceAdd,reduceIte,reduceCtorEq,Nat.reduceLT,Nat.reduceLeDiff,Nat.reduceShiftRight,Nat.reduceMod]
  refine callS_of (unless_s _ _) ?_
  simp only [vZ,Int.reduceEq,Int.reduceNe,Int.reduceLT,Int.reduceLE,Nat.reduceEqDiff,Nat.reduceAdd,reduceIte,reduceCtorEq,Nat.reduceLT,Nat.reduceLeDiff,Nat.reduceShiftRight,Nat.reduceMod]
  refine callS_of (first3_s 11 (lnE a b c d) _) ?_
  simp only [vZ,Int.reduceEq,Int.reduceNe,Int.reduceLT,Int.reduceLE,Nat.reduceEqDiff,Nat.reduceAdd,reduceIte,reduceCtorEq,Nat.reduceLT,Nat.reduceLeDiff,Nat.reduceShiftRight,Nat.reduceMod]
  intro _ k hk;simp [refsL,refs,upd] at hk;subst hk;simp [upd]
 ·rw [if_neg hz]
  simp only [fitL,fitA4,vZ,Int.reduceEq,Int.reduceNe,Int.reduceLT,Int.reduceLE,Nat.reduceEqDiff,Nat.reduceAdd,reduceIte,reduceCtorEq,Nat.reduceLT,Nat.reduceLeDiff,Nat.reduceShiftRight,Nat.reduceMod]
  refine callS_of (unless_s _ _) ?_
  simp only [vZ,Int.reduceEq,Int.reduceNe,Int.reduceLT,Int.reduceLE,Nat.reduceEqDiff,Nat.reduceAdd,reduceIte,reduceCtorEq,Nat.reduceLT,Nat.reduceLeDiff,Nat.reduceShiftRight,Nat.reduceMod]
  refine callS_of hE ?_
  simp only [vZ,Int.reduceEq,Int.reduceNe,Int.reduceLT,Int.reduceLE,Nat.reduceEqDiff,Nat.reduceAdd,reduceIte,reduceCtorEq,Nat.reduceLT,Nat.reduceLeDiff,Nat.reduceShiftRight,Nat.reduceMod]
  refine callS_of (unless_s _ _) ?_
  simp only [vZ,Int.reduceEq,Int.reduceNe,Int.reduceLT,Int.reduceLE,Nat.reduceEqDiff,Nat.reduceAdd,reduceIte,reduceCtorEq,Nat.reduceLT,Nat.reduceLeDiff,Nat.reduceShiftRight,Nat.reduceMod]
  refine callS_of (first3_s 0 (lnE a b c d) _) ?_
  simp only [vZ,Int.reduceEq,Int.reduceNe,Int.reduceLT,Int.reduceLE,Nat.reduceEqDiff,Nat.reduceAdd,reduceIte,reduceCtorEq,Nat.reduceLT,Nat.reduceLeDiff,Nat.reduceShiftRight,Nat.reduceMod]
  unfold ckF
  rw [if_neg (show ¬ prE l ≠ 0 by omega),if_neg hz]
  refine ⟨by intro _ k hk;simp [refsL,refs,upd] at hk;subst hk;simp [upd],?_⟩
  simp only [Bool.and_eq_true,decide_eq_true_eq]
def vR (a b c d:Int) (p:Int × Int):Int:=(p.2 * b - p.1 * a) * d - c * b
def rsL (l:List (Int × Int)) (a b c d:Int):List (Int × Int):=l.map fun p=>(vR a b c d p / (b * d), -(-(vR a b c d p) / (b * d)))
theorem rsL_len (l:List (Int × Int)) (a b c d:Int):(rsL l a b c d).length=l.length:=by simp [rsL]
theorem prodV (x y:Int):wdV (decide (x<0) != decide (y<0)) (x.natAbs * y.natAbs)=x * y:=by
 unfold wdV
 rw [Int.natCast_mul]
 by_cases hx:x<0
 ·have ex:(x.natAbs:Int) = -x:=by omega
  by_cases hy:y<0
  ·have ey:(y.natAbs:Int) = -y:=by omega
   simp only [hx,hy,decide_true,bne_self_eq_false,Bool.false_eq_true,if_false,ex,ey]
   rw [Int.neg_mul_neg]
  ·have ey:(y.natAbs:Int)=y:=by omega
   simp only [hx,hy,decide_true,decide_false,Bool.bne_false,if_true,ex,ey]
   rw [Int.neg_mul,Int.neg_neg]
 ·have ex:(x.natAbs:Int)=x:=by omega
  by_cases hy:y<0
  ·have ey:(y.natAbs:Int) = -y:=by omega
   simp only [hx,hy,decide_true,decide_false,Bool.bne_true,Bool.not_false,if_true,ex,ey]
   rw [Int.mul_neg,Int.neg_neg]
  ·have ey:(y.natAbs:Int)=y:=by omega
   simp only [hx,hy,decide_false,bne_self_eq_false,Bool.false_eq_true,if_false,ex,ey]
theorem lnE_ok {a b c d:Int} (h:lnE a b c d=0):(1≤b∧b≤1000000000)∧(1≤d∧d≤1000000000)∧(-1000000000≤a∧a≤1000000000)∧(-1000000000≤c∧c≤1000000000)∧Int.gcd a b=1∧Int.gcd c d=1:=by
 unfold lnE lowQ smQ at h
 split at h
 ·rename_i h1
  split at h
  ·rename_i h2
   simp only [Bool.and_eq_true,decide_eq_true_eq] at h1 h2
   obtain ⟨⟨h11,h12⟩,h13,h14⟩:=h1
   obtain ⟨⟨h21,h22⟩,h23,h24⟩:=h2
   exact ⟨⟨h11,h22⟩,⟨h13,h24⟩,h21,h23,h12,h14⟩
  ·cases h
 ·cases h
theorem k_bd {m n A B:Nat} {x y:Nat} (hx:x≤100 * A+100000000000) (hy:y≤1000000000) (hA:1≤A∧A≤1000000000) (hB:1≤B∧B≤1000000000) (hm:m=x * B) (hn:n=y * A):m+n≤102000000000 * (A * B)∧m+n≤1000000000000000000000:=by
 have h1:x * B≤(100 * A+100000000000) * B:=Nat.mul_le_mul_right _ hx
 have h2:y * A≤1000000000 * A:=Nat.mul_le_mul_right _ hy
 have h3:A≤A * B:=Nat.le_mul_of_pos_right _ (by omega)
 have h4:B≤A * B:=Nat.le_mul_of_pos_left _ (by omega)
 have h5:A * B≤1000000000 * 1000000000:=Nat.mul_le_mul hA.2 hB.2
 rw [Nat.add_mul,Nat.mul_assoc] at h1
 omega
set_option maxHeartbeats 8000000 in
theorem ResidualsOf_s (l:List (Int × Int)) (a b c d:Int) (hb:I64 b) (hd:I64 d) (hl:l.length<4000000000000000000):Sound Try.prog 18 [.sl (prs l),fitA4 a b c d]
  (.tup (if prE l ≠ 0 then [.sl [],.int .i64 (prE l)] else if lnE a b c d ≠ 0 then [.sl [],.int .i64 (lnE a b c d)] else [.sl (prs (rsL l a b c d)),.int .i64 0])):=by
 refine sound_W f_watch_ResidualsOf (Nat.le_of_ble_eq_true rfl) ?_
 have hmax:=maxLen_big
 have hE:=fitErr_s a b c d hb hd
 unfold fitA4 at hE
 simp only [c_watch_ResidualsOf,fitA4,vZ,Int.reduceEq,Int.reduceNe,Int.reduceLT,Int.reduceLE,Nat.reduceEqDiff,Nat.reduceAdd,reduceIte,reduceCtorEq,Nat.reduceLT,Nat.reduceLeDiff,Nat.reduceShiftRight,Nat.reduceMod]
 refine callS_of (pairsErr_s l hl) ?_
 simp only [vZ,Int.reduceEq,Int.reduceNe,Int.reduceLT,Int.reduceLE,Nat.reduceEqDiff,Nat.reduceAdd,reduceIte,reduceCtorEq,Nat.reduceLT,Nat.reduceLeDiff,Nat.reduceShiftRight,Nat.reduceMod]
 refine callS_of hE ?_
 simp only [vZ,Int.reduceEq,Int.reduceNe,Int.reduceLT,Int.reduceLE,Nat.reduceEqDiff,Nat.reduceAdd,reduceIte,reduceCtorEq,Nat.reduceLT,Nat.reduceLeDiff,Nat.reduceShiftRight,Nat.reduceMod]
 refine callS_of (first2_s _ _) ?_
 by_cases h:prE l=0
 case neg =>
  rw [if_pos h,if_pos h]
  simp only [h,vZ,Int.reduceEq,Int.reduceNe,Int.reduceLT,Int.reduceLE,Nat.reduceEqDiff,Nat.reduceAdd,reduceIte,reduceCtorEq,Nat.reduceLT,Nat.reduceLeDiff,Nat.reduceShiftRight,Nat.reduceMod]
  intro _ k hk;simp [refsL,refs,upd] at hk;subst hk;simp [upd]
 rw [if_neg (show ¬ prE l ≠ 0 by omega),if_neg (show ¬ prE l ≠ 0 by omega)]
 by_cases h2:lnE a b c d=0
 case neg =>
  rw [if_pos h2]
  simp only [h2,vZ,Int.reduceEq,Int.reduceNe,Int.reduceLT,Int.reduceLE,Nat.reduceEqDiff,Nat.reduceAdd,reduceIte,reduceCtorEq,Nat.reduceLT,Nat.reduceLeDiff,Nat.reduceShiftRight,Nat.reduceMod]
  intro _ k hk;simp [refsL,refs,upd] at hk;subst hk;simp [upd]
 rw [if_neg (show ¬ lnE a b c d ≠ 0 by omega)]
 obtain ⟨q1,q2,q3,q4,_,_⟩:=lnE_ok h2
 obtain ⟨⟨_,h20⟩,hpb⟩:=prE_ok h
 obtain ⟨A,hA⟩:∃ A:Nat,b=A:=⟨b.toNat,by omega⟩
 obtain ⟨D,hD⟩:∃ D:Nat,d=D:=⟨d.toNat,by omega⟩
 have hrl:=rsL_len l a b c d
 simp only [h2,prs_length,vZ,Int.reduceEq,Int.reduceNe,Int.reduceLT,Int.reduceLE,Nat.reduceEqDiff,Nat.reduceAdd,reduceIte,reduceCtorEq,Nat.reduceLT,Nat.reduceLeDiff,Nat.reduceShiftRight,Nat.reduceMod]
 refine ⟨by intro _ k hk;simp [refsL,refs,upd] at hk;subst hk;simp [upd],?_⟩
 refine W_loop (t:=.mk) (α:=PSigma fun i:Nat=>i≤l.length) (fun ⟨i,_⟩=>(envOf [(5,.int .i64 0),(7,.ptr 7 0 0),(8,.ptr 8 0 0),(9,.buf 100 i),(26,.sl (prs l)),(27,.int .i64 (l.length:Nat)),(28,.int .i64 (i:Nat))],stOf [(7,⟨29,2,[.agg [.int .i64 a,.int .i64 b]]⟩),(8,⟨29,2,[.agg [.int .i64 c,.int .i64 d]]⟩),(100,⟨52,2,prs ((rsL l a b c d).take i)⟩)])) (fun x=>l.length - x.1) ⟨0,Nat.zero_le _⟩ ?_ (fun ⟨i,hi⟩=>?_)
 ·have z:prs []=[]:=rfl
  refine weakX [(100,none)] (of_decide_eq_true rfl) (of_decide_eq_true rfl) ?_
  (simp only [z,vcW,vZ,Int.reduceEq,Int.reduceNe,Int.reduceLT,Int.reduceLE,Nat.reduceEqDiff,Nat.reduceAdd,reduceIte,reduceCtorEq,Nat.reduceLT,Nat.reduceLeDiff,Nat.reduceShiftRight,Nat.reduceMod])
  (repeat' first | exact trivial | (with_reducible first | exact RnB.fxB (ints_fxB _) | rfl | refine And.intro ?_ ?_) | (with_reducible (first | refine RnB.bb ?_ | refine RnB.nb ?_);simp only [vcW,vZ,Int.reduceEq,Int.reduceNe,Int.reduceLT,Int.reduceLE,Nat.reduceEqDiff,Nat.reduceAdd,reduceIte,reduceCtorEq,Nat.reduceLT,Nat.reduceLeDiff,Nat.reduceShiftRight,Nat.reduceMod]) | (with_reducible first | refine RnB.ii ?_ | refine RnB.app ?_) | (with_reducible refine RnB.fxB ?_;simp only [vcW,vZ,Int.reduceEq,Int.reduceNe,Int.reduceLT,Int.reduceLE,Nat.reduceEqDiff,Nat.reduceAdd,reduceIte,reduceCtorEq,Nat.reduceLT,Nat.reduceLeDiff,Nat.reduceShiftRight,Nat.reduceMod]) | omega)
  all_goals first | rfl | trace_state
 ·dsimp only at hi ⊢
  have hpl:(prs ((rsL l a b c d).take i)).length=i:=by rw [prs_length,List.length_take,hrl];omega
  by_cases h':i<l.length
  ·have hc1:(i:Int)<l.length:=by omega
   have hg:=prs_get l i h'
   obtain ⟨p1,p2⟩:=hpb _ (List.getElem_mem h')
   have htk:prs ((rsL l a b c d).take (i+1))=prs ((rsL l a b c d).take i) ++ [.agg [.int .i64 (vR a b c d l[i] / (b * d)),.int .i64 (-(-(vR a b c d l[i]) / (b * d)))]]:=by
    rw [List.take_succ_eq_append_getElem (by rw [hrl];exact h'),prs_append]
    simp [rsL,prs]
   have m1:=Lin.abs_mul (A:=100) (B:=1000000000) (a:=l[i].1) (b:=a) (by omega) (by omega)
   have m2:0≤l[i].2 * b∧l[i].2 * b≤100 * b:=⟨Int.mul_nonneg (by omega) (by omega),Int.mul_le_mul_of_nonneg_right (by omega) (by omega)⟩
   have m3:=mul_bd (a:=b) (b:=d) (A:=1000000000) (B:=1000000000) (by omega) (by omega)
   have hvR:vR a b c d l[i]=(l[i].2 * b - l[i].1 * a) * d+(-c) * b:=by unfold vR;rw [Int.neg_mul];omega
   generalize hxd:l[i].2 * b - l[i].1 * a=x at *
   have P1:=product_s x d (by unfold S63;omega) (by unfold S63;omega)
   have P2:=product_s (-c) b (by unfold S63;omega) (by unfold S63;omega)
   obtain ⟨k1,k2⟩:=k_bd (x:=x.natAbs) (y:=(-c).natAbs) (A:=A) (B:=D) (by omega) (by omega) (by omega) (by omega) rfl rfl
   have eb:b.natAbs=A:=by omega
   have ed:d.natAbs=D:=by omega
   obtain ⟨cs,k,hP,hv,hk⟩:=wplus_s (decide (x<0) != decide (d<0)) (decide (-c<0) != decide (b<0)) (x.natAbs * d.natAbs) ((-c).natAbs * b.natAbs) (by rw [ed];omega) (by rw [eb];omega)
   rw [prodV,prodV,← hvR] at hv
   rw [ed,eb] at hk
   have hbd:((A * D:Nat):Int)=b * d:=by rw [hA,hD];push_cast;rfl
   have hAD:0<A * D:=Nat.mul_pos (by omega) (by omega)
   have R1:=rounded_s cs k (A * D) (by omega) (by omega)
   rw [hv,hbd] at R1
   generalize vR a b c d l[i]=v at *
   unfold wdA at P1 P2 hP R1
   unfold prA at R1
   simp only [hc1,hg,prs_length,hxd,vZ,Int.reduceEq,Int.reduceNe,Int.reduceLT,Int.reduceLE,Nat.reduceEqDiff,Nat.reduceAdd,reduceIte,reduceCtorEq,Nat.reduceLT,Nat.reduceLeDiff,Nat.reduceShiftRight,Nat.reduceMod]
   (repeat (with_reducible refine And.intro ?_ ?_;focus (first | omega | (unfold I64;omega))))
   refine callS_of P1 ?_
   simp only [vZ,Int.reduceEq,Int.reduceNe,Int.reduceLT,Int.reduceLE,Nat.reduceEqDiff,Nat.reduceAdd,reduceIte,reduceCtorEq,Nat.reduceLT,Nat.reduceLeDiff,Nat.reduceShiftRight,Nat.reduceMod]
   (repeat (with_reducible refine And.intro ?_ ?_;focus (first | omega | (unfold I64;omega))))
   refine callS_of P2 ?_
   simp only [vZ,Int.reduceEq,Int.reduceNe,Int.reduceLT,Int.reduceLE,Nat.reduceEqDiff,Nat.reduceAdd,reduceIte,reduceCtorEq,Nat.reduceLT,Nat.reduceLeDiff,Nat.reduceShiftRight,Nat.reduceMod]
   refine callS_of hP ?_
   simp only [vZ,Int.reduceEq,Int.reduceNe,Int.reduceLT,Int.reduceLE,Nat.reduceEqDiff,Nat.reduceAdd,reduceIte,reduceCtorEq,Nat.reduceLT,Nat.reduceLeDiff,Nat.reduceShiftRight,Nat.reduceMod]
   (repeat (with_reducible refine And.intro ?_ ?_;focus (first | omega | (unfold I64;omega))))
   refine callS_of R1 ?_
   simp only [hpl,vZ,Int.reduceEq,Int.reduceNe,Int.reduceLT,Int.reduceLE,Nat.reduceEqDiff,Nat.reduceAdd,reduceIte,reduceCtorEq,Nat.reduceLT,Nat.reduceLeDiff,Nat.reduceShiftRight,Nat.reduceMod]
   refine ⟨⟨by omega,by omega⟩,by unfold I64;omega,⟨i+1,h'⟩,by simp only;omega,?_⟩
   refine weakX [(100,some 62)] (of_decide_eq_true rfl) (of_decide_eq_true rfl) ?_
   (simp only [htk,vcW,vZ,Int.reduceEq,Int.reduceNe,Int.reduceLT,Int.reduceLE,Nat.reduceEqDiff,Nat.reduceAdd,reduceIte,reduceCtorEq,Nat.reduceLT,Nat.reduceLeDiff,Nat.reduceShiftRight,Nat.reduceMod])
   (repeat' first | exact trivial | (with_reducible first | exact RnB.fxB (ints_fxB _) | rfl | refine And.intro ?_ ?_) | (with_reducible (first | refine RnB.bb ?_ | refine RnB.nb ?_);simp only [vcW,vZ,Int.reduceEq,Int.reduceNe,Int.reduceLT,Int.reduceLE,Nat.reduceEqDiff,Nat.reduceAdd,reduceIte,reduceCtorEq,Nat.reduceLT,Nat.reduceLeDiff,Nat.reduceShiftRight,Nat.reduceMod]) | (with_reducible first | refine RnB.ii ?_ | refine RnB.app ?_) | (with_reducible refine RnB.fxB ?_;simp only [vcW,vZ,Int.reduceEq,Int.reduceNe,Int.reduceLT,Int.reduceLE,Nat.reduceEqDiff,Nat.reduceAdd,reduceIte,reduceCtorEq,Nat.reduceLT,Nat.reduceLeDiff,Nat.reduceShiftRight,Nat.reduceMod]) | omega)
   all_goals exact RnB.fxB (by rw [← htk];exact prs_fxB _)
  ·have hil:i=l.length:=by omega
   subst hil
   have hc1:¬ (l.length:Int)<l.length:=by omega
   have htk:(rsL l a b c d).take l.length=rsL l a b c d:=List.take_of_length_le (by rw [hrl];exact Nat.le_refl _)
   rw [htk]
   simp only [hc1,vZ,Int.reduceEq,Int.reduceNe,Int.reduceLT,Int.reduceLE,Nat.reduceEqDiff,Nat.reduceAdd,reduceIte,reduceCtorEq,Nat.reduceLT,Nat.reduceLeDiff,Nat.reduceShiftRight,Nat.reduceMod]
   rw [borB_good _ _ _ _ _ (by rw [prs_length,hrl]) (prs_fx _)]
end Go.Proofs.Ytgmpcbpmnimkoaa

/- Lines in the reference: contracts. By an AI agent;nothing here is trusted. -/
namespace Go.Proofs.Ytgmpcbpmnimkoaa
open Go.Av

theorem newsOk_prs (l:List (Int × Int)):newsOk 2 (prs l):=by
 intro x hx
 obtain ⟨p,_,rfl⟩:=List.mem_map.1 hx
 exact ⟨rfl,rfl⟩
theorem CopyPairs_s (l:List (Int × Int)) (hl:l.length≤1000000000):Sound Try.prog 12 [.sl (prs l)] (.sl (prs l)):=by
 refine sound_W f_ref08_CopyPairs (Nat.le_of_ble_eq_true rfl) ?_
 have hm:=maxLen_big
 simp only [c_ref08_CopyPairs,prs_length,vZ,Int.reduceEq,Int.reduceNe,Int.reduceLT,Int.reduceLE,Nat.reduceEqDiff,Nat.reduceAdd,reduceIte,reduceCtorEq,Nat.reduceLT,Nat.reduceLeDiff,Nat.reduceShiftRight,Nat.reduceMod]
 refine ⟨newsOk_prs l,⟨by omega,by omega⟩,?_⟩
 rw [borB_good _ _ _ _ _ (by rw [prs_length]) (prs_fx _)]
theorem refPairsErr_s (l:List (Int × Int)):Sound Try.prog 7 [.sl (prs l)] (.int .i64 (prE l)):=by
 refine sound_W f_ref08_PairsErr (Nat.le_of_ble_eq_true rfl) ?_
 by_cases h1:l.length<2
 ·have hr:prE l=10:=by unfold prE;rw [if_pos h1]
  have h1':(l.length:Int)<2:=by omega
  rw [hr]
  simp only [c_ref08_PairsErr,prs_length,h1',vZ,Int.reduceEq,Int.reduceNe,Int.reduceLT,Int.reduceLE,Nat.reduceEqDiff,Nat.reduceAdd,reduceIte,reduceCtorEq,Nat.reduceLT,Nat.reduceLeDiff,Nat.reduceShiftRight,Nat.reduceMod]
 have h1':¬ (l.length:Int)<2:=by omega
 by_cases h2:20<l.length
 ·have hr:prE l=8:=by unfold prE;rw [if_neg h1,if_pos h2]
  have h2':(20:Int)<l.length:=by omega
  rw [hr]
  simp only [c_ref08_PairsErr,prs_length,h1',h2',vZ,Int.reduceEq,Int.reduceNe,Int.reduceLT,Int.reduceLE,Nat.reduceEqDiff,Nat.reduceAdd,reduceIte,reduceCtorEq,Nat.reduceLT,Nat.reduceLeDiff,Nat.reduceShiftRight,Nat.reduceMod]
 have h2':¬ (20:Int)<l.length:=by omega
 have hr:prE l=if l.all okP then 0 else 2:=by unfold prE;rw [if_neg h1,if_neg h2]
 rw [hr]
 simp only [c_ref08_PairsErr,prs_length,h1',h2',vZ,Int.reduceEq,Int.reduceNe,Int.reduceLT,Int.reduceLE,Nat.reduceEqDiff,Nat.reduceAdd,reduceIte,reduceCtorEq,Nat.reduceLT,Nat.reduceLeDiff,Nat.reduceShiftRight,Nat.reduceMod]
 refine W_loop (t:=.mk) (α:=PSigma fun i:Nat=>i≤l.length∧(l.take i).all okP=true) (fun ⟨i,_⟩=>(envOf [(0,.sl (prs l)),(3,.int .i64 (i:Nat))],stOf [])) (fun x=>l.length - x.1) ⟨0,Nat.zero_le _,rfl⟩ ?_ (fun ⟨i,hi,hal⟩=>?_)
 ·refine weakX [] (of_decide_eq_true rfl) (of_decide_eq_true rfl) ?_
  (simp only [vcW,vZ,Int.reduceEq,Int.reduceNe,Int.reduceLT,Int.reduceLE,Nat.reduceEqDiff,Nat.reduceAdd,reduceIte,reduceCtorEq,Nat.reduceLT,Nat.reduceLeDiff,Nat.reduceShiftRight,Nat.reduceMod])
  (repeat' first | exact trivial | (with_reducible first | exact RnB.fxB (ints_fxB _) | rfl | refine And.intro ?_ ?_) | (with_reducible (first | refine RnB.bb ?_ | refine RnB.nb ?_);simp only [vcW,vZ,Int.reduceEq,Int.reduceNe,Int.reduceLT,Int.reduceLE,Nat.reduceEqDiff,Nat.reduceAdd,reduceIte,reduceCtorEq,Nat.reduceLT,Nat.reduceLeDiff,Nat.reduceShiftRight,Nat.reduceMod]) | (with_reducible first | refine RnB.ii ?_ | refine RnB.app ?_) | (with_reducible refine RnB.fxB ?_;simp only [vcW,vZ,Int.reduceEq,Int.reduceNe,Int.reduceLT,Int.reduceLE,Nat.reduceEqDiff,Nat.reduceAdd,reduceIte,reduceCtorEq,Nat.reduceLT,Nat.reduceLeDiff,Nat.reduceShiftRight,Nat.reduceMod]) | omega)
  all_goals first | rfl | trace_state
 ·dsimp only at hi hal ⊢
  by_cases h':i<l.length
  ·have hc1:(i:Int)<l.length:=by omega
   have hg:=prs_get l i h'
   have hno:okP l[i]=false→l.all okP=false:=fun h=>List.all_eq_false.2 ⟨_,List.getElem_mem h',by rw [h];decide⟩
   by_cases a1:0≤l[i].1∧l[i].1≤100
   ·by_cases a2:0≤l[i].2∧l[i].2≤100
    ·have hok:okP l[i]=true:=okP_iff.2 ⟨a1,a2⟩
     simp only [hc1,hg,prs_length,vZ,Int.reduceEq,Int.reduceNe,Int.reduceLT,Int.reduceLE,Nat.reduceEqDiff,Nat.reduceAdd,reduceIte,reduceCtorEq,Nat.reduceLT,Nat.reduceLeDiff,Nat.reduceShiftRight,Nat.reduceMod]
     (repeat (with_reducible refine And.intro ?_ ?_;focus (first | omega | (unfold I64;omega))))
     refine callS_of (Within_s _ _ _) ?_
     simp only [a1,hg,prs_length,vZ,Int.reduceEq,Int.reduceNe,Int.reduceLT,Int.reduceLE,Nat.reduceEqDiff,Nat.reduceAdd,reduceIte,reduceCtorEq,Nat.reduceLT,Nat.reduceLeDiff,Nat.reduceShiftRight,Nat.reduceMod]
     (repeat (with_reducible refine And.intro ?_ ?_;focus (first | omega | (unfold I64;omega))))
     refine callS_of (Within_s _ _ _) ?_
     simp only [a2,vZ,Int.reduceEq,Int.reduceNe,Int.reduceLT,Int.reduceLE,Nat.reduceEqDiff,Nat.reduceAdd,reduceIte,reduceCtorEq,Nat.reduceLT,Nat.reduceLeDiff,Nat.reduceShiftRight,Nat.reduceMod]
     refine ⟨by unfold I64;omega,⟨i+1,h',by rw [List.take_succ_eq_append_getElem h',List.all_append,hal];simp [hok]⟩,by simp only;omega,?_⟩
     refine weakX [] (of_decide_eq_true rfl) (of_decide_eq_true rfl) ?_
     (simp only [vcW,vZ,Int.reduceEq,Int.reduceNe,Int.reduceLT,Int.reduceLE,Nat.reduceEqDiff,Nat.reduceAdd,reduceIte,reduceCtorEq,Nat.reduceLT,Nat.reduceLeDiff,Nat.reduceShiftRight,Nat.reduceMod])
     (repeat' first | exact trivial | (with_reducible first | exact RnB.fxB (ints_fxB _) | rfl | refine And.intro ?_ ?_) | (with_reducible (first | refine RnB.bb ?_ | refine RnB.nb ?_);simp only [vcW,vZ,Int.reduceEq,Int.reduceNe,Int.reduceLT,Int.reduceLE,Nat.reduceEqDiff,Nat.reduceAdd,reduceIte,reduceCtorEq,Nat.reduceLT,Nat.reduceLeDiff,Nat.reduceShiftRight,Nat.reduceMod]) | (with_reducible first | refine RnB.ii ?_ | refine RnB.app ?_) | (with_reducible refine RnB.fxB ?_;simp only [vcW,vZ,Int.reduceEq,Int.reduceNe,Int.reduceLT,Int.reduceLE,Nat.reduceEqDiff,Nat.reduceAdd,reduceIte,reduceCtorEq,Nat.reduceLT,Nat.reduceLeDiff,Nat.reduceShiftRight,Nat.reduceMod]) | omega)
     all_goals first | rfl | trace_state
    ·have hok:okP l[i]=false:=by
      cases e:okP l[i] with
      | false=>rfl
      | true=>exact absurd (okP_iff.1 e).2 a2
     rw [hno hok]
     simp only [hc1,hg,prs_length,vZ,Int.reduceEq,Int.reduceNe,Int.reduceLT,Int.reduceLE,Nat.reduceEqDiff,Nat.reduceAdd,reduceIte,reduceCtorEq,Nat.reduceLT,Nat.reduceLeDiff,Nat.reduceShiftRight,Nat.reduceMod]
     (repeat (with_reducible refine And.intro ?_ ?_;focus (first | omega | (unfold I64;omega))))
     refine callS_of (Within_s _ _ _) ?_
     simp only [a1,hg,prs_length,vZ,Int.reduceEq,Int.reduceNe,Int.reduceLT,Int.reduceLE,Nat.reduceEqDiff,Nat.reduceAdd,reduceIte,reduceCtorEq,Nat.reduceLT,Nat.reduceLeDiff,Nat.reduceShiftRight,Nat.reduceMod]
     (repeat (with_reducible refine And.intro ?_ ?_;focus (first | omega | (unfold I64;omega))))
     refine callS_of (Within_s _ _ _) ?_
     simp only [a2,vZ,Int.reduceEq,Int.reduceNe,Int.reduceLT,Int.reduceLE,Nat.reduceEqDiff,Nat.reduceAdd,reduceIte,reduceCtorEq,Nat.reduceLT,Nat.reduceLeDiff,Nat.reduceShiftRight,Nat.reduceMod]
   ·have hok:okP l[i]=false:=by
     cases e:okP l[i] with
     | false=>rfl
     | true=>exact absurd (okP_iff.1 e).1 a1
    rw [hno hok]
    simp only [hc1,hg,prs_length,vZ,Int.reduceEq,Int.reduceNe,Int.reduceLT,Int.reduceLE,Nat.reduceEqDiff,Nat.reduceAdd,reduceIte,reduceCtorEq,Nat.reduceLT,Nat.reduceLeDiff,Nat.reduceShiftRight,Nat.reduceMod]
    (repeat (with_reducible refine And.intro ?_ ?_;focus (first | omega | (unfold I64;omega))))
    refine callS_of (Within_s _ _ _) ?_
    simp only [a1,vZ,Int.reduceEq,Int.reduceNe,Int.reduceLT,Int.reduceLE,Nat.reduceEqDiff,Nat.reduceAdd,reduceIte,reduceCtorEq,Nat.reduceLT,Nat.reduceLeDiff,Nat.reduceShiftRight,Nat.reduceMod]
  ·have hil:i=l.length:=by omega
   subst hil
   have hc1:¬ (l.length:Int)<l.length:=by omega
   rw [List.take_length] at hal
   rw [hal]
   simp only [hc1,prs_length,vZ,Int.reduceEq,Int.reduceNe,Int.reduceLT,Int.reduceLE,Nat.reduceEqDiff,Nat.reduceAdd,reduceIte,reduceCtorEq,Nat.reduceLT,Nat.reduceLeDiff,Nat.reduceShiftRight,Nat.reduceMod]
theorem Equal_s (l:List (Int × Int)) (hl:2≤l.length∧l.length≤1000000):Sound Try.prog 8 [.sl (prs l)] (.bool (decide (Ln.same l))):=by
 refine sound_W f_ref08_Equal (Nat.le_of_ble_eq_true rfl) ?_
 have h0:0<l.length:=by omega
 have g0:=prs_get l 0 h0
 have e0:(l.headD (0,0)).1=l[0].1:=by
  cases l with
  | nil=>simp at h0
  | cons p r=>rfl
 have i0:Int.toNat 0=0:=rfl
 simp only [c_ref08_Equal,prs_length,vZ,Int.reduceEq,Int.reduceNe,Int.reduceLT,Int.reduceLE,Nat.reduceEqDiff,Nat.reduceAdd,reduceIte,reduceCtorEq,Nat.reduceLT,Nat.reduceLeDiff,Nat.reduceShiftRight,Nat.reduceMod]
 refine W_loop (t:=.mk) (α:=PSigma fun i:Nat=>i≤l.length∧∀ p ∈ l.take i,p.1=l[0].1) (fun ⟨i,_⟩=>(envOf [(0,.sl (prs l)),(3,.int .i64 (i:Nat))],stOf [])) (fun x=>l.length - x.1) ⟨0,Nat.zero_le _,fun p hp=>by simp at hp⟩ ?_ (fun ⟨i,hi,hal⟩=>?_)
 ·refine weakX [] (of_decide_eq_true rfl) (of_decide_eq_true rfl) ?_
  (simp only [vcW,vZ,Int.reduceEq,Int.reduceNe,Int.reduceLT,Int.reduceLE,Nat.reduceEqDiff,Nat.reduceAdd,reduceIte,reduceCtorEq,Nat.reduceLT,Nat.reduceLeDiff,Nat.reduceShiftRight,Nat.reduceMod])
  (repeat' first | exact trivial | (with_reducible first | exact RnB.fxB (ints_fxB _) | rfl | refine And.intro ?_ ?_) | (with_reducible (first | refine RnB.bb ?_ | refine RnB.nb ?_);simp only [vcW,vZ,Int.reduceEq,Int.reduceNe,Int.reduceLT,Int.reduceLE,Nat.reduceEqDiff,Nat.reduceAdd,reduceIte,reduceCtorEq,Nat.reduceLT,Nat.reduceLeDiff,Nat.reduceShiftRight,Nat.reduceMod]) | (with_reducible first | refine RnB.ii ?_ | refine RnB.app ?_) | (with_reducible refine RnB.fxB ?_;simp only [vcW,vZ,Int.reduceEq,Int.reduceNe,Int.reduceLT,Int.reduceLE,Nat.reduceEqDiff,Nat.reduceAdd,reduceIte,reduceCtorEq,Nat.reduceLT,Nat.reduceLeDiff,Nat.reduceShiftRight,Nat.reduceMod]) | omega)
  all_goals first | rfl | trace_state
 ·dsimp only at hi hal ⊢
  by_cases h':i<l.length
  ·have hc1:(i:Int)<l.length:=by omega
   have hg:=prs_get l i h'
   by_cases e:l[i].1=l[0].1
   ·simp only [hc1,hg,g0,i0,prs_length,e,vZ,Int.reduceEq,Int.reduceNe,Int.reduceLT,Int.reduceLE,Nat.reduceEqDiff,Nat.reduceAdd,reduceIte,reduceCtorEq,Nat.reduceLT,Nat.reduceLeDiff,Nat.reduceShiftRight,Nat.reduceMod]
    (repeat (with_reducible refine And.intro ?_ ?_;focus (first | omega | (unfold I64;omega))))
    refine ⟨⟨i+1,h',fun p hp=>?_⟩,by simp only;omega,?_⟩
    ·rw [List.take_succ_eq_append_getElem h'] at hp
     rcases List.mem_append.1 hp with hp | hp
     ·exact hal p hp
     ·simp at hp;rw [hp];exact e
    ·refine weakX [] (of_decide_eq_true rfl) (of_decide_eq_true rfl) ?_
     (simp only [vcW,vZ,Int.reduceEq,Int.reduceNe,Int.reduceLT,Int.reduceLE,Nat.reduceEqDiff,Nat.reduceAdd,reduceIte,reduceCtorEq,Nat.reduceLT,Nat.reduceLeDiff,Nat.reduceShiftRight,Nat.reduceMod])
     (repeat' first | exact trivial | (with_reducible first | exact RnB.fxB (ints_fxB _) | rfl | refine And.intro ?_ ?_) | (with_reducible (first | refine RnB.bb ?_ | refine RnB.nb ?_);simp only [vcW,vZ,Int.reduceEq,Int.reduceNe,Int.reduceLT,Int.reduceLE,Nat.reduceEqDiff,Nat.reduceAdd,reduceIte,reduceCtorEq,Nat.reduceLT,Nat.reduceLeDiff,Nat.reduceShiftRight,Nat.reduceMod]) | (with_reducible first | refine RnB.ii ?_ | refine RnB.app ?_) | (with_reducible refine RnB.fxB ?_;simp only [vcW,vZ,Int.reduceEq,Int.reduceNe,Int.reduceLT,Int.reduceLE,Nat.reduceEqDiff,Nat.reduceAdd,reduceIte,reduceCtorEq,Nat.reduceLT,Nat.reduceLeDiff,Nat.reduceShiftRight,Nat.reduceMod]) | omega)
     all_goals first | rfl | trace_state
   ·have hf:decide (Ln.same l)=false:=decide_eq_false fun h=>e (by rw [h _ (List.getElem_mem h'),e0])
    rw [hf]
    simp only [hc1,hg,g0,i0,prs_length,e,vZ,Int.reduceEq,Int.reduceNe,Int.reduceLT,Int.reduceLE,Nat.reduceEqDiff,Nat.reduceAdd,reduceIte,reduceCtorEq,Nat.reduceLT,Nat.reduceLeDiff,Nat.reduceShiftRight,Nat.reduceMod]
    (repeat (with_reducible refine And.intro ?_ ?_;focus (first | omega | (unfold I64;omega))))
    all_goals omega
  ·have hil:i=l.length:=by omega
   subst hil
   have hc1:¬ (l.length:Int)<l.length:=by omega
   rw [List.take_length] at hal
   have hf:decide (Ln.same l)=true:=decide_eq_true fun p hp=>by rw [e0];exact hal p hp
   rw [hf]
   simp only [hc1,prs_length,vZ,Int.reduceEq,Int.reduceNe,Int.reduceLT,Int.reduceLE,Nat.reduceEqDiff,Nat.reduceAdd,reduceIte,reduceCtorEq,Nat.reduceLT,Nat.reduceLeDiff,Nat.reduceShiftRight,Nat.reduceMod]
theorem IsLowest_g (n d:Int) (hd:I64 d):Sound Try.prog 46 [fracA n d] (.bool (lowQ n d)):=by
 refine sound_W f_base_IsLowest (Nat.le_of_ble_eq_true rfl) ?_
 unfold I64 at hd
 unfold lowQ
 simp only [c_base_IsLowest,fracA,vZ,Int.reduceEq,Int.reduceNe,Int.reduceLT,Int.reduceLE,Nat.reduceEqDiff,Nat.reduceAdd,reduceIte,reduceCtorEq,Nat.reduceLT,Nat.reduceLeDiff,Nat.reduceShiftRight,Nat.reduceMod]
 by_cases h:0<d
 ·simp only [h,vZ,Int.reduceEq,Int.reduceNe,Int.reduceLT,Int.reduceLE,Nat.reduceEqDiff,Nat.reduceAdd,reduceIte,reduceCtorEq,Nat.reduceLT,Nat.reduceLeDiff,Nat.reduceShiftRight,Nat.reduceMod]
  refine callS_of (Gcd_p n d (by unfold S63;omega) (by omega)) ?_
  simp only [h,gcd_one_cast,vZ,Int.reduceEq,Int.reduceNe,Int.reduceLT,Int.reduceLE,Nat.reduceEqDiff,Nat.reduceAdd,reduceIte,reduceCtorEq,Nat.reduceLT,Nat.reduceLeDiff,Nat.reduceShiftRight,Nat.reduceMod]
 ·simp only [h,vZ,Int.reduceEq,Int.reduceNe,Int.reduceLT,Int.reduceLE,Nat.reduceEqDiff,Nat.reduceAdd,reduceIte,reduceCtorEq,Nat.reduceLT,Nat.reduceLeDiff,Nat.reduceShiftRight,Nat.reduceMod]
theorem smallF_low {n d:Int} (h:lowQ n d=true):smallF n d=smQ n d:=by
 unfold lowQ at h
 simp only [Bool.and_eq_true,decide_eq_true_eq] at h
 unfold smallF smQ
 congr 1
 exact decide_eq_decide.2 (by omega)
theorem LineErr_s (a b c d:Int) (hb:I64 b) (hd:I64 d):Sound Try.prog 13 [fitA4 a b c d] (.int .i64 (lnE a b c d)):=by
 refine sound_W f_ref08_LineErr (Nat.le_of_ble_eq_true rfl) ?_
 have h1:=IsLowest_g a b hb
 have h2:=IsLowest_g c d hd
 have h3:=IsSmall_s a b
 have h4:=IsSmall_s c d
 have q1:=smallF_low (n:=a) (d:=b)
 have q2:=smallF_low (n:=c) (d:=d)
 unfold fracA at h1 h2 h3 h4
 unfold lnE
 cases e1:lowQ a b with
 | false =>
  rw [e1] at h1
  simp only [c_ref08_LineErr,fitA4,vZ,Int.reduceEq,Int.reduceNe,Int.reduceLT,Int.reduceLE,Nat.reduceEqDiff,Nat.reduceAdd,reduceIte,reduceCtorEq,Nat.reduceLT,Nat.reduceLeDiff,Nat.reduceShiftRight,Nat.reduceMod]
  refine callS_of h1 ?_
  simp only [vZ,Int.reduceEq,Int.reduceNe,Int.reduceLT,Int.reduceLE,Nat.reduceEqDiff,Nat.reduceAdd,reduceIte,reduceCtorEq,Nat.reduceLT,Nat.reduceLeDiff,Nat.reduceShiftRight,Nat.reduceMod]
 | true =>
  rw [e1] at h1
  rw [q1 e1] at h3
  cases e2:lowQ c d with
  | false =>
   rw [e2] at h2
   simp only [c_ref08_LineErr,fitA4,vZ,Int.reduceEq,Int.reduceNe,Int.reduceLT,Int.reduceLE,Nat.reduceEqDiff,Nat.reduceAdd,reduceIte,reduceCtorEq,Nat.reduceLT,Nat.reduceLeDiff,Nat.reduceShiftRight,Nat.reduceMod]
   refine callS_of h1 ?_
   simp only [vZ,Int.reduceEq,Int.reduceNe,Int.reduceLT,Int.reduceLE,Nat.reduceEqDiff,Nat.reduceAdd,reduceIte,reduceCtorEq,Nat.reduceLT,Nat.reduceLeDiff,Nat.reduceShiftRight,Nat.reduceMod]
   refine callS_of h2 ?_
   simp only [vZ,Int.reduceEq,Int.reduceNe,Int.reduceLT,Int.reduceLE,Nat.reduceEqDiff,Nat.reduceAdd,reduceIte,reduceCtorEq,Nat.reduceLT,Nat.reduceLeDiff,Nat.reduceShiftRight,Nat.reduceMod]
  | true =>
   rw [e2] at h2
   rw [q2 e2] at h4
   cases e3:smQ a b <;> cases e4:smQ c d <;> rw [e3] at h3 <;> rw [e4] at h4
   ·simp only [c_ref08_LineErr,fitA4,vZ,Int.reduceEq,Int.reduceNe,Int.reduceLT,Int.reduceLE,Nat.reduceEqDiff,Nat.reduceAdd,reduceIte,reduceCtorEq,Nat.reduceLT,Nat.reduceLeDiff,Nat.reduceShiftRight,Nat.reduceMod]
    refine callS_of h1 ?_
    simp only [vZ,Int.reduceEq,Int.reduceNe,Int.reduceLT,Int.reduceLE,Nat.reduceEqDiff,Nat.reduceAdd,reduceIte,reduceCtorEq,Nat.reduceLT,Nat.reduceLeDiff,Nat.reduceShiftRight,Nat.reduceMod]
    refine callS_of h2 ?_
    simp only [vZ,Int.reduceEq,Int.reduceNe,Int.reduceLT,Int.reduceLE,Nat.reduceEqDiff,Nat.reduceAdd,reduceIte,reduceCtorEq,Nat.reduceLT,Nat.reduceLeDiff,Nat.reduceShiftRight,Nat.reduceMod]
    refine callS_of h3 ?_
    simp only [vZ,Int.reduceEq,Int.reduceNe,Int.reduceLT,Int.reduceLE,Nat.reduceEqDiff,Nat.reduceAdd,reduceIte,reduceCtorEq,Nat.reduceLT,Nat.reduceLeDiff,Nat.reduceShiftRight,Nat.reduceMod]
   ·simp only [c_ref08_LineErr,fitA4,vZ,Int.reduceEq,Int.reduceNe,Int.reduceLT,Int.reduceLE,Nat.reduceEqDiff,Nat.reduceAdd,reduceIte,reduceCtorEq,Nat.reduceLT,Nat.reduceLeDiff,Nat.reduceShiftRight,Nat.reduceMod]
    refine callS_of h1 ?_
    simp only [vZ,Int.reduceEq,Int.reduceNe,Int.reduceLT,Int.reduceLE,Nat.reduceEqDiff,Nat.reduceAdd,reduceIte,reduceCtorEq,Nat.reduceLT,Nat.reduceLeDiff,Nat.reduceShiftRight,Nat.reduceMod]
    refine callS_of h2 ?_
    simp only [vZ,Int.reduceEq,Int.reduceNe,Int.reduceLT,Int.reduceLE,Nat.reduceEqDiff,Nat.reduceAdd,reduceIte,reduceCtorEq,Nat.reduceLT,Nat.reduceLeDiff,Nat.reduceShiftRight,Nat.reduceMod]
    refine callS_of h3 ?_
    simp only [vZ,Int.reduceEq,Int.reduceNe,Int.reduceLT,Int.reduceLE,Nat.reduceEqDiff,Nat.reduceAdd,reduceIte,reduceCtorEq,Nat.reduceLT,Nat.reduceLeDiff,Nat.reduceShiftRight,Nat.reduceMod]
   ·simp only [c_ref08_LineErr,fitA4,vZ,Int.reduceEq,Int.reduceNe,Int.reduceLT,Int.reduceLE,Nat.reduceEqDiff,Nat.reduceAdd,reduceIte,reduceCtorEq,Nat.reduceLT,Nat.reduceLeDiff,Nat.reduceShiftRight,Nat.reduceMod]
    refine callS_of h1 ?_
    simp only [vZ,Int.reduceEq,Int.reduceNe,Int.reduceLT,Int.reduceLE,Nat.reduceEqDiff,Nat.reduceAdd,reduceIte,reduceCtorEq,Nat.reduceLT,Nat.reduceLeDiff,Nat.reduceShiftRight,Nat.reduceMod]
    refine callS_of h2 ?_
    simp only [vZ,Int.reduceEq,Int.reduceNe,Int.reduceLT,Int.reduceLE,Nat.reduceEqDiff,Nat.reduceAdd,reduceIte,reduceCtorEq,Nat.reduceLT,Nat.reduceLeDiff,Nat.reduceShiftRight,Nat.reduceMod]
    refine callS_of h3 ?_
    simp only [vZ,Int.reduceEq,Int.reduceNe,Int.reduceLT,Int.reduceLE,Nat.reduceEqDiff,Nat.reduceAdd,reduceIte,reduceCtorEq,Nat.reduceLT,Nat.reduceLeDiff,Nat.reduceShiftRight,Nat.reduceMod]
    refine callS_of h4 ?_
    simp only [vZ,Int.reduceEq,Int.reduceNe,Int.reduceLT,Int.reduceLE,Nat.reduceEqDiff,Nat.reduceAdd,reduceIte,reduceCtorEq,Nat.reduceLT,Nat.reduceLeDiff,Nat.reduceShiftRight,Nat.reduceMod]
   ·simp only [c_ref08_LineErr,fitA4,vZ,Int.reduceEq,Int.reduceNe,Int.reduceLT,Int.reduceLE,Nat.reduceEqDiff,Nat.reduceAdd,reduceIte,reduceCtorEq,Nat.reduceLT,Nat.reduceLeDiff,Nat.reduceShiftRight,Nat.reduceMod]
    refine callS_of h1 ?_
    simp only [vZ,Int.reduceEq,Int.reduceNe,Int.reduceLT,Int.reduceLE,Nat.reduceEqDiff,Nat.reduceAdd,reduceIte,reduceCtorEq,Nat.reduceLT,Nat.reduceLeDiff,Nat.reduceShiftRight,Nat.reduceMod]
    refine callS_of h2 ?_
    simp only [vZ,Int.reduceEq,Int.reduceNe,Int.reduceLT,Int.reduceLE,Nat.reduceEqDiff,Nat.reduceAdd,reduceIte,reduceCtorEq,Nat.reduceLT,Nat.reduceLeDiff,Nat.reduceShiftRight,Nat.reduceMod]
    refine callS_of h3 ?_
    simp only [vZ,Int.reduceEq,Int.reduceNe,Int.reduceLT,Int.reduceLE,Nat.reduceEqDiff,Nat.reduceAdd,reduceIte,reduceCtorEq,Nat.reduceLT,Nat.reduceLeDiff,Nat.reduceShiftRight,Nat.reduceMod]
    refine callS_of h4 ?_
    simp only [vZ,Int.reduceEq,Int.reduceNe,Int.reduceLT,Int.reduceLE,Nat.reduceEqDiff,Nat.reduceAdd,reduceIte,reduceCtorEq,Nat.reduceLT,Nat.reduceLeDiff,Nat.reduceShiftRight,Nat.reduceMod]
end Go.Proofs.Ytgmpcbpmnimkoaa

/- Wide numbers as numbers: contract. Printed by genfw.py. By an AI agent;nothing here is trusted. -/
namespace Go.Proofs.Ytgmpcbpmnimkoaa
open Go.Av

end Go.Proofs.Ytgmpcbpmnimkoaa

/- Residuals of a line in the reference,and its test of a fit: contracts. By an AI agent;nothing here is trusted. -/
namespace Go.Proofs.Ytgmpcbpmnimkoaa
open Go.Av

def RB:Nat:=100000000000000000000000
theorem RB_ok:RB * 100<1000000000 ^ 1000:=by decide +kernel
theorem one_lt {M:Nat} (h:M≤RB * 100):M<1000000000 ^ 1000:=Nat.lt_of_le_of_lt h RB_ok
theorem so_B {n d:Int} (hn : -1000000000≤n∧n≤1000000000) (hd:1≤d∧d≤1000000000):qB 1000000000 (Rat.divInt n d):=by
 have:=divInt_le n d (by omega)
 exact ⟨by omega,by omega⟩
theorem res_B {s o:Rat} (hs:qB 1000000000 s) (ho:qB 1000000000 o) {p:Int × Int} (hp:(0≤p.1∧p.1≤100)∧0≤p.2∧p.2≤100):qB 100000000000 (s * ((p.1:Int):Rat))∧qB 200000000000000000000 (s * ((p.1:Int):Rat)+o)∧qB RB (Ln.res s o p):=by
 have h1:qB 100 ((p.1:Int):Rat):=qB_int (by omega) (by omega)
 have h2:qB 100 ((p.2:Int):Rat):=qB_int (by omega) (by omega)
 have h3:=qB_more (qB_mul hs h1) (K:=100000000000) (by omega)
 have h4:=qB_more (qB_add h3 ho) (K:=200000000000000000000) (by omega)
 exact ⟨h3,h4,qB_more (qB_sub h2 h4) (by unfold RB;omega)⟩
end Go.Proofs.Ytgmpcbpmnimkoaa

/- The reference's residuals are the code's;both tests of a line agree. By an AI agent;nothing here is trusted. -/
namespace Go.Proofs.Ytgmpcbpmnimkoaa
open Go.Av

end Go.Proofs.Ytgmpcbpmnimkoaa

/- The size of a number,at the least one too. By an AI agent;nothing here is trusted. -/
namespace Go.Proofs.Ytgmpcbpmnimkoaa
open Go.Av
open Go.RowKit (Below)

theorem Size_min_any (w:World):Calls Try.prog 9 #[.int .i64 (-9223372036854775808)] w fun e w'=>e=.returned (.int .i64 (-9223372036854775808))∧w'=w:=by
 go_enter Try.func9,Try.ntmps9
 go_wp2
 go_ret
 exact ⟨by kernel_rfl,rfl⟩
theorem Size_min_s:Sound Try.prog 9 [.int .i64 (-9223372036854775808)] (.int .i64 (-9223372036854775808)):=by
 intro w ok cargs hok hG hlen hargs
 rw [args_1 (by simpa using hlen) (vr_int (hargs 0 _ rfl))]
 refine .inr ⟨callFunc_enter Try.func9 (by kernel_rfl) rfl _,(Size_min_any w).mono fun e w' ⟨he,hw⟩=>⟨_,he,?_,?_⟩⟩
 ·rw [hw];exact Below.refl _ _
 ·exact .int _ _
theorem Size_g (n:Int) (h:I64 n):Sound Try.prog 9 [.int .i64 n] (.int .i64 (if n = -9223372036854775808 then n else n.natAbs)):=by
 by_cases e:n = -9223372036854775808
 ·subst e;rw [if_pos rfl];exact Size_min_s
 ·rw [if_neg e];exact Size_s n (by unfold I64 at h;unfold S63;omega)
end Go.Proofs.Ytgmpcbpmnimkoaa

/- The marked code of law functions;printed by a program. By an AI agent;nothing here is trusted. -/
namespace Go.Proofs.Ytgmpcbpmnimkoaa
open Go.Av
def cl_law08_WatchBestLine_b2:ML:=(.seq (.seq (.reg 2923003274661805836407369665432566039311866396672 [mV 158 20,mV 159 18,mO 160 (.len false (.t 159)),mO 161 (.bin .lss (.t 158) (.t 160))] false []) (.cond (.t 161) .skip (.exit 2))) (.seq (.block 3 (.seq (.reg 748288838313422294120286634350736906063837463314432 [mV 164 18,mV 165 20,mO 166 (.indexAddr (.t 164) (.t 165) 2),mO 167 (.load (some 2) (.t 166)),mO 168 (.build [(.int .i64 0),(.int .i64 0)] []),mO 169 (.eqS true [1,1] (.t 167) (.t 168))] false []) (.cond (.t 169) (.seq (.reg 64 [mO 6 (.mv (.c (.bool false)))] false []) .ret) .skip))) (.reg 1310720 [mV 162 20,mO 163 (.bin .add (.t 162) (.c (.int .i64 1))),mV 20 163] false [])))
def cl_law08_WatchBestLine_b0:ML:=(.seq (.seq (.reg 10141204801825835211973625668103 [mV 100 14,mV 101 0,mO 102 (.len false (.t 101)),mO 103 (.bin .lss (.t 100) (.t 102))] false []) (.cond (.t 103) .skip (.exit 0))) (.seq (.block 1 (.seq (.reg 57863 [mV 106 1,mV 107 0,mV 108 14,mO 109 (.indexAddr (.t 107) (.t 108) 2),mO 110 (.fieldAddr (.t 109) 0),mO 111 (.load none (.t 110)),mO 112 (.bin .mul (.t 106) (.t 111)),mV 113 2,mO 114 (.bin .add (.t 112) (.t 113)),mV 15 114] false []) (.seq (.seq (.reg 166153499473114484112975882535100935 [mV 115 15,mO 116 (.call 10 [(.t 115),(.c (.int .i64 0)),(.c (.int .i64 100))]),mO 117 (.un .not (.t 116))] false []) (.cond (.t 117) (.seq (.reg 64 [mO 6 (.mv (.c (.bool true)))] false []) .ret) .skip)) (.reg 25095 [mV 118 13,mV 119 0,mV 120 14,mO 121 (.indexAddr (.t 119) (.t 120) 2),mO 122 (.fieldAddr (.t 121) 0),mO 123 (.load none (.t 122)),mV 124 15,mO 125 (.build [(.int .i64 0),(.int .i64 0)] [(0,(1,(.t 123))),(1,(1,(.t 124)))]),mO 126 (.buildSlice 47 2 1 (.agg [(.int .i64 0),(.int .i64 0)]) [(0,(.t 125))]),mO 127 (.append 47 2 16 (.agg [(.int .i64 0),(.int .i64 0)]) (.t 118) (.t 126)),mV 13 127] false [])))) (.reg 25095 [mV 104 14,mO 105 (.bin .add (.t 104) (.c (.int .i64 1))),mV 14 105] false [])))
def cl_law08_WatchBestLine_14:ML:=(.seq (.reg 64 [mO 6 (.mv (.c (.bool true)))] false []) .ret)
def cl_law08_WatchBestLine_13:ML:=(.seq (.seq (.reg 1310720 [mO 20 (.mv (.c (.int .i64 0)))] false []) (.block 2 (.loop cl_law08_WatchBestLine_b2))) (.cut cl_law08_WatchBestLine_14))
def cl_law08_WatchBestLine_10:ML:=(.seq (.reg 205313 [mV 129 13,mO 130 (.call 12 [(.t 129)]),mO 131 (.call 11 [(.t 130)]),mV 128 131,mO 132 (.extract (.t 128) 0),mO 133 (.extract (.t 128) 1),mO 16 (.alloc 31 4 (.agg [(.int .i64 0),(.int .i64 0),(.int .i64 0),(.int .i64 0)])),⟨none,none,.store 4 (.t 16) (.t 132)⟩,mV 17 133] false []) (.seq (.reg 983553 [mV 135 13,mO 136 (.load (some 4) (.t 9)),mO 137 (.call 18 [(.t 135),(.t 136)]),mV 134 137,mO 138 (.extract (.t 134) 0),mO 139 (.extract (.t 134) 1),mV 18 138,mV 19 139] false []) (.seq (.seq (.reg 182687704666362864775460604089535377456991830016 [mV 140 17,mO 141 (.bin .neq (.t 140) (.c (.int .i64 0))),mV 142 141,mG 142 false 143 (.load (some 4) (.t 16)),mG 142 false 144 (.load (some 4) (.t 9)),mG 142 false 145 (.eqS true [1,1,1,1] (.t 143) (.t 144)),mO 146 (.pick (.t 142) (.c (.bool true)) (.t 145)),mV 147 146,mG 147 false 148 (.mv (.t 19)),mG 147 false 149 (.bin .neq (.t 148) (.c (.int .i64 0))),mO 150 (.pick (.t 147) (.c (.bool true)) (.t 149)),mV 151 150,mG 151 false 152 (.mv (.t 18)),mG 151 false 153 (.len false (.t 152)),mG 151 false 154 (.mv (.t 0)),mG 151 false 155 (.len false (.t 154)),mG 151 false 156 (.bin .neq (.t 153) (.t 155)),mO 157 (.pick (.t 151) (.c (.bool true)) (.t 156))] false []) (.cond (.t 157) (.seq (.reg 64 [mO 6 (.mv (.c (.bool false)))] false []) .ret) .skip)) (.cut cl_law08_WatchBestLine_13))))
def cl_law08_WatchBestLine_9:ML:=(.seq (.seq (.reg 25095 [mO 14 (.mv (.c (.int .i64 0)))] false []) (.block 0 (.loop cl_law08_WatchBestLine_b0))) (.cut cl_law08_WatchBestLine_10))
def cl_law08_WatchBestLine:ML:=(.seq (.reg 7 [mO 6 (.mv (.c (.bool false)))] false []) (.seq (.seq (.reg 4194311 [mO 21 (.call 5 []),mO 22 (.un .not (.t 21))] false []) (.cond (.t 22) (.seq (.reg 64 [mO 6 (.mv (.c (.bool false)))] false []) .ret) .skip)) (.seq (.seq (.reg 18014398509481991 [mV 23 0,mO 24 (.call 6 [(.t 23)]),mO 25 (.un .not (.t 24)),mV 26 25,mG 26 false 27 (.mv (.t 0)),mG 26 false 28 (.call 7 [(.t 27)]),mG 26 false 29 (.bin .neq (.t 28) (.c (.int .i64 0))),mO 30 (.pick (.t 26) (.c (.bool true)) (.t 29)),mV 31 30,mG 31 false 32 (.mv (.t 0)),mG 31 false 33 (.call 8 [(.t 32)]),mO 34 (.pick (.t 31) (.c (.bool true)) (.t 33)),mV 35 34,mG 35 false 36 (.mv (.t 1)),mG 35 false 37 (.call 9 [(.t 36)]),mG 35 false 38 (.bin .gtr (.t 37) (.c (.int .i64 100))),mO 39 (.pick (.t 35) (.c (.bool true)) (.t 38)),mV 40 39,mG 40 false 41 (.mv (.t 2)),mG 40 false 42 (.call 9 [(.t 41)]),mG 40 false 43 (.bin .gtr (.t 42) (.c (.int .i64 100))),mO 44 (.pick (.t 40) (.c (.bool true)) (.t 43)),mV 45 44,mG 45 false 46 (.mv (.t 1)),mG 45 false 47 (.call 10 [(.t 46),(.c (.int .i64 (-100))),(.c (.int .i64 100))]),mG 45 false 48 (.un .not (.t 47)),mO 49 (.pick (.t 45) (.c (.bool true)) (.t 48)),mV 50 49,mG 50 false 51 (.mv (.t 2)),mG 50 false 52 (.call 10 [(.t 51),(.c (.int .i64 (-100))),(.c (.int .i64 100))]),mG 50 false 53 (.un .not (.t 52)),mO 54 (.pick (.t 50) (.c (.bool true)) (.t 53))] false []) (.cond (.t 54) (.seq (.reg 64 [mO 6 (.mv (.c (.bool true)))] false []) .ret) .skip)) (.seq (.reg 391 [mV 56 0,mO 57 (.call 12 [(.t 56)]),mO 58 (.call 11 [(.t 57)]),mV 55 58,mO 59 (.extract (.t 55) 0),mO 60 (.extract (.t 55) 1),mO 7 (.alloc 31 4 (.agg [(.int .i64 0),(.int .i64 0),(.int .i64 0),(.int .i64 0)])),⟨none,none,.store 4 (.t 7) (.t 59)⟩,mV 8 60] false []) (.seq (.seq (.reg 18889465931478580854919 [mV 61 8,mO 62 (.bin .neq (.t 61) (.c (.int .i64 0))),mV 63 62,mG 63 false 64 (.load (some 4) (.t 7)),mG 63 false 65 (.call 13 [(.t 64)]),mG 63 false 66 (.bin .neq (.t 65) (.c (.int .i64 0))),mO 67 (.pick (.t 63) (.c (.bool true)) (.t 66)),mV 68 67,mG 68 false 69 (.mv (.t 0)),mG 68 false 70 (.call 12 [(.t 69)]),mG 68 false 71 (.load (some 4) (.t 7)),mG 68 false 72 (.call 14 [(.t 70),(.t 71)]),mG 68 false 73 (.bin .neq (.t 72) (.c (.int .i64 0))),mO 74 (.pick (.t 68) (.c (.bool true)) (.t 73))] true []) (.cond (.t 74) (.seq (.reg 64 [mO 6 (.mv (.c (.bool false)))] false []) .ret) .skip)) (.seq (.reg 647 [mV 75 1,mO 76 (.call 15 [(.t 75)]),mV 77 2,mO 78 (.call 15 [(.t 77)]),mO 79 (.build [(.int .i64 0),(.int .i64 0),(.int .i64 0),(.int .i64 0)] [(0,(2,(.t 76))),(2,(2,(.t 78)))]),mO 9 (.alloc 31 4 (.agg [(.int .i64 0),(.int .i64 0),(.int .i64 0),(.int .i64 0)])),⟨none,none,.store 4 (.t 9) (.t 79)⟩] false []) (.seq (.reg 3719 [mV 80 0,mO 81 (.load (some 4) (.t 7)),mO 82 (.call 16 [(.t 80),(.t 81)]),mV 83 0,mO 84 (.load (some 4) (.t 9)),mO 85 (.call 16 [(.t 83),(.t 84)]),mO 10 (.alloc 43 4 (.agg [(.int .i64 0),.nils,(.int .i64 0),.nils])),mO 11 (.alloc 43 4 (.agg [(.int .i64 0),.nils,(.int .i64 0),.nils])),⟨none,none,.store 4 (.t 10) (.t 82)⟩,⟨none,none,.store 4 (.t 11) (.t 85)⟩] true [(mO 81 (.load (some 4) (.t 7)),mO 10 (.alloc 43 4 (.agg [(.int .i64 0),.nils,(.int .i64 0),.nils]))),(mO 82 (.call 16 [(.t 80),(.t 81)]),mO 10 (.alloc 43 4 (.agg [(.int .i64 0),.nils,(.int .i64 0),.nils]))),(mO 84 (.load (some 4) (.t 9)),mO 10 (.alloc 43 4 (.agg [(.int .i64 0),.nils,(.int .i64 0),.nils]))),(mO 85 (.call 16 [(.t 83),(.t 84)]),mO 10 (.alloc 43 4 (.agg [(.int .i64 0),.nils,(.int .i64 0),.nils]))),(mO 81 (.load (some 4) (.t 7)),mO 11 (.alloc 43 4 (.agg [(.int .i64 0),.nils,(.int .i64 0),.nils]))),(mO 82 (.call 16 [(.t 80),(.t 81)]),mO 11 (.alloc 43 4 (.agg [(.int .i64 0),.nils,(.int .i64 0),.nils]))),(mO 84 (.load (some 4) (.t 9)),mO 11 (.alloc 43 4 (.agg [(.int .i64 0),.nils,(.int .i64 0),.nils]))),(mO 85 (.call 16 [(.t 83),(.t 84)]),mO 11 (.alloc 43 4 (.agg [(.int .i64 0),.nils,(.int .i64 0),.nils]))),(mO 10 (.alloc 43 4 (.agg [(.int .i64 0),.nils,(.int .i64 0),.nils])),mO 11 (.alloc 43 4 (.agg [(.int .i64 0),.nils,(.int .i64 0),.nils])))]) (.seq (.seq (.reg 4743 [mO 86 (.load (some 4) (.t 10)),mO 87 (.load (some 4) (.t 11)),mO 88 (.call 17 [(.t 86),(.t 87)]),mV 12 88] false []) (.seq (.reg 633825300114114700748351603207 [mV 89 12,mO 90 (.bin .gtr (.t 89) (.c (.int .i64 0))),mV 91 90,mG 91 false 92 (.mv (.t 12)),mG 91 false 93 (.bin .eql (.t 92) (.c (.int .i64 0))),mG 91 false 94 (.mv (.t 93)),mG 94 true 95 (.load (some 4) (.t 7)),mG 94 true 96 (.load (some 4) (.t 9)),mG 94 true 97 (.eqS true [1,1,1,1] (.t 95) (.t 96)),mG 91 false 98 (.pick (.t 94) (.t 97) (.c (.bool false))),mO 99 (.pick (.t 91) (.c (.bool true)) (.t 98))] false []) (.cond (.t 99) (.seq (.reg 64 [mO 6 (.mv (.c (.bool false)))] false []) .ret) .skip))) (.seq (.reg 8711 [mO 13 (.mv (.c .nils))] false []) (.cut cl_law08_WatchBestLine_9))))))))))
def c_law08_WatchBestLine:MC:=cl_law08_WatchBestLine.er
theorem f_law08_WatchBestLine:cFun Try.prog 3=some (170,3,c_law08_WatchBestLine,[(6,none)]):=by kernel_rfl
theorem e_law08_WatchBestLine:cl_law08_WatchBestLine.er=c_law08_WatchBestLine:=rfl
end Go.Proofs.Ytgmpcbpmnimkoaa

/- Sums of squares of residuals;another line;a line that is exact. By an AI agent;nothing here is trusted. -/
namespace Go.Proofs.Ytgmpcbpmnimkoaa
open Go.Av

def SQ:Nat→Nat
 | 0=>1
 | n+1=>2 * (SQ n * (RB * RB))
theorem SQ_mono {i:Nat}:∀ {d:Nat},SQ i≤SQ (i+d)
 | 0=>Nat.le_refl _
 | d+1=>by
  have:=SQ_mono (i:=i) (d:=d)
  show SQ i≤2 * (SQ (i+d) * (RB * RB))
  have h:SQ (i+d)≤SQ (i+d) * (RB * RB):=Nat.le_mul_of_pos_right _ (by unfold RB;omega)
  omega
theorem SQ_20:SQ 20 * 100<1000000000 ^ 1000:=by decide +kernel
theorem RR_ok:RB * RB<1000000000 ^ 1000:=by decide +kernel
theorem SQ_ok {i:Nat} (h:i≤20) {q:Rat} (hq:qB (SQ i) q):qOk 1000 q:=by
 obtain ⟨d,hd⟩:=Nat.exists_eq_add_of_le h
 refine qB_ok hq (Nat.lt_of_le_of_lt (Nat.le_trans SQ_mono (?_:SQ (i+d)≤SQ 20 * 100)) SQ_20)
 rw [← hd];omega
theorem sq_B {f:Int × Int→Rat} {l:List (Int × Int)} (hf:∀ p ∈ l,qB (RB * RB) (f p)):∀ n,n≤l.length→qB (SQ n) (Ln.rS f (l.take n))
 | 0,_=>by
  rw [List.take_zero]
  exact qB_int (n:=0) (by decide) (by decide)
 | n+1,hn=>by
  rw [Ln.rS_take f l (show n<l.length by omega)]
  exact qB_add (sq_B hf n (by omega)) (hf _ (List.getElem_mem (by omega)))
set_option maxHeartbeats 8000000 in
theorem squares_s (l:List (Int × Int)) (a b c d:Int) (h:prE l=0) (h3:lnE a b c d=0):Sound Try.prog 16 [.sl (prs l),fitA4 a b c d] (rq (Ln.sq (Rat.divInt a b) (Rat.divInt c d) l))∧qOk 1000 (Ln.sq (Rat.divInt a b) (Rat.divInt c d) l):=by
 obtain ⟨⟨_,h20⟩,hpb⟩:=prE_ok h
 obtain ⟨q1,q2,q3,q4,_,_⟩:=lnE_ok h3
 have hsB:=so_B q3 q1
 have hoB:=so_B q4 q2
 have F1:=RatioFrom_q a b (by unfold I64;omega) (by unfold I64;omega) (by omega)
 have F2:=RatioFrom_q c d (by unfold I64;omega) (by unfold I64;omega) (by omega)
 have I0:=RatioInt_q 0 (by unfold I64;omega)
 unfold fracA at F1 F2
 generalize Rat.divInt a b=s at *
 generalize Rat.divInt c d=o at *
 have hrB:=fun (p:Int × Int) (hp:p ∈ l)=>res_B hsB hoB (hpb p hp)
 have hB:=sq_B (f:=fun p=>Ln.res s o p * Ln.res s o p) (l:=l) fun p hp=>qB_mul (hrB p hp).2.2 (hrB p hp).2.2
 have hfin:qOk 1000 (Ln.sq s o l):=by
  have:=SQ_ok h20 (hB l.length (Nat.le_refl _))
  rw [List.take_length] at this;exact this
 refine ⟨?_,hfin⟩
 refine sound_W f_law08_squares (Nat.le_of_ble_eq_true rfl) ?_
 have z1:Ln.rS (fun p=>Ln.res s o p * Ln.res s o p) (l.take 0)=((0:Int):Rat):=rfl
 rw [rq_hr] at I0 F1 F2
 simp only [c_law08_squares,fitA4,vZ,Int.reduceEq,Int.reduceNe,Int.reduceLT,Int.reduceLE,Nat.reduceEqDiff,Nat.reduceAdd,reduceIte,reduceCtorEq,Nat.reduceLT,Nat.reduceLeDiff,Nat.reduceShiftRight,Nat.reduceMod]
 refine callS_of I0 ?_
 simp only [vZ,Int.reduceEq,Int.reduceNe,Int.reduceLT,Int.reduceLE,Nat.reduceEqDiff,Nat.reduceAdd,reduceIte,reduceCtorEq,Nat.reduceLT,Nat.reduceLeDiff,Nat.reduceShiftRight,Nat.reduceMod]
 refine W_loop (t:=.mk) (α:=PSigma fun i:Nat=>i≤l.length) (fun ⟨i,_⟩=>(envOf [(0,.sl (prs l)),(3,.ptr 3 0 0),(4,.ptr 4 0 0),(5,.ptr 5 0 0),(6,.int .i64 (i:Nat))],stOf [(3,⟨31,4,[.agg [.int .i64 a,.int .i64 b,.int .i64 c,.int .i64 d]]⟩),(4,⟨43,4,[.agg [.int .i64 0,.nils,.int .i64 0,.nils]]⟩),(5,⟨43,4,[rq (Ln.rS (fun p=>Ln.res s o p * Ln.res s o p) (l.take i))]⟩)])) (fun x=>l.length - x.1) ⟨0,Nat.zero_le _⟩ ?_ (fun ⟨i,hi⟩=>?_)
 ·dsimp only
  rw [z1]
  refine weakX [] (of_decide_eq_true rfl) (of_decide_eq_true rfl) ?_
  (simp only [rq_hr,vcW,vZ,Int.reduceEq,Int.reduceNe,Int.reduceLT,Int.reduceLE,Nat.reduceEqDiff,Nat.reduceAdd,reduceIte,reduceCtorEq,Nat.reduceLT,Nat.reduceLeDiff,Nat.reduceShiftRight,Nat.reduceMod])
  repeat' (with_reducible refine And.intro ?_ ?_)
  try any_goals (exact RnB.same (fun x hx=>by rw [List.mem_singleton.1 hx];rfl))
  (repeat' first | exact trivial | (with_reducible first | exact RnB.fxB (ints_fxB _) | rfl | refine And.intro ?_ ?_) | (with_reducible (first | refine RnB.bb ?_ | refine RnB.nb ?_);simp only [vcW,vZ,Int.reduceEq,Int.reduceNe,Int.reduceLT,Int.reduceLE,Nat.reduceEqDiff,Nat.reduceAdd,reduceIte,reduceCtorEq,Nat.reduceLT,Nat.reduceLeDiff,Nat.reduceShiftRight,Nat.reduceMod]) | (with_reducible first | refine RnB.ii ?_ | refine RnB.app ?_) | (with_reducible refine RnB.fxB ?_;simp only [vcW,vZ,Int.reduceEq,Int.reduceNe,Int.reduceLT,Int.reduceLE,Nat.reduceEqDiff,Nat.reduceAdd,reduceIte,reduceCtorEq,Nat.reduceLT,Nat.reduceLeDiff,Nat.reduceShiftRight,Nat.reduceMod]) | omega)
  all_goals trace_state
 ·dsimp only at hi ⊢
  by_cases h':i<l.length
  ·have hc1:(i:Int)<l.length:=by omega
   have hg:=prs_get l i h'
   have hm:=List.getElem_mem h'
   have hp:=hpb _ hm
   obtain ⟨r1,r2,r3⟩:=hrB _ hm
   have I1:=RatioInt_q l[i].1 (by unfold I64;omega)
   have I2:=RatioInt_q l[i].2 (by unfold I64;omega)
   have oi:∀ n:Int,(0≤n∧n≤100)→qOk 1000 ((n:Int):Rat):=fun n hn=>qB_ok (M:=100) (qB_int (by omega) (by omega)) (one_lt (by unfold RB;omega))
   have M1:=RatioMul_q (qB_ok hsB (one_lt (by unfold RB;omega))) (oi l[i].1 hp.1)
   have A1:=RatioAdd_q (qB_ok r1 (one_lt (by unfold RB;omega))) (qB_ok hoB (one_lt (by unfold RB;omega)))
   have S1:=RatioSub_q (oi l[i].2 hp.2) (qB_ok r2 (one_lt (by unfold RB;omega)))
   have e:((l[i].2:Int):Rat) - (s * ((l[i].1:Int):Rat)+o)=Ln.res s o l[i]:=rfl
   rw [e] at S1
   have M2:=RatioMul_q (qB_ok r3 (one_lt (by omega))) (qB_ok r3 (one_lt (by omega)))
   have A2:=RatioAdd_q (SQ_ok (by omega) (hB i hi)) (qB_ok (qB_mul r3 r3) RR_ok)
   have t1:=Ln.rS_take (fun p=>Ln.res s o p * Ln.res s o p) l h'
   rw [← t1] at A2
   rw [rq_hr] at I1 I2
   rw [rq_hr,rq_hr,rq_hr] at M1 A1 S1 A2
   rw [rq_hr,rq_hr] at M2
   simp only [hc1,hg,prs_length,rq_hr,vZ,Int.reduceEq,Int.reduceNe,Int.reduceLT,Int.reduceLE,Nat.reduceEqDiff,Nat.reduceAdd,reduceIte,reduceCtorEq,Nat.reduceLT,Nat.reduceLeDiff,Nat.reduceShiftRight,Nat.reduceMod]
   (repeat (with_reducible refine And.intro ?_ ?_;focus (first | omega | (unfold I64;omega))))
   refine callS_of F1 ?_
   simp only [hg,prs_length,vZ,Int.reduceEq,Int.reduceNe,Int.reduceLT,Int.reduceLE,Nat.reduceEqDiff,Nat.reduceAdd,reduceIte,reduceCtorEq,Nat.reduceLT,Nat.reduceLeDiff,Nat.reduceShiftRight,Nat.reduceMod]
   (repeat (with_reducible refine And.intro ?_ ?_;focus (first | omega | (unfold I64;omega))))
   refine callS_of I1 ?_
   simp only [vZ,Int.reduceEq,Int.reduceNe,Int.reduceLT,Int.reduceLE,Nat.reduceEqDiff,Nat.reduceAdd,reduceIte,reduceCtorEq,Nat.reduceLT,Nat.reduceLeDiff,Nat.reduceShiftRight,Nat.reduceMod]
   refine callS_of M1 ?_
   simp only [vZ,Int.reduceEq,Int.reduceNe,Int.reduceLT,Int.reduceLE,Nat.reduceEqDiff,Nat.reduceAdd,reduceIte,reduceCtorEq,Nat.reduceLT,Nat.reduceLeDiff,Nat.reduceShiftRight,Nat.reduceMod]
   refine callS_of F2 ?_
   simp only [vZ,Int.reduceEq,Int.reduceNe,Int.reduceLT,Int.reduceLE,Nat.reduceEqDiff,Nat.reduceAdd,reduceIte,reduceCtorEq,Nat.reduceLT,Nat.reduceLeDiff,Nat.reduceShiftRight,Nat.reduceMod]
   refine callS_of A1 ?_
   simp only [hg,prs_length,vZ,Int.reduceEq,Int.reduceNe,Int.reduceLT,Int.reduceLE,Nat.reduceEqDiff,Nat.reduceAdd,reduceIte,reduceCtorEq,Nat.reduceLT,Nat.reduceLeDiff,Nat.reduceShiftRight,Nat.reduceMod]
   (repeat (with_reducible refine And.intro ?_ ?_;focus (first | omega | (unfold I64;omega))))
   refine callS_of I2 ?_
   simp only [vZ,Int.reduceEq,Int.reduceNe,Int.reduceLT,Int.reduceLE,Nat.reduceEqDiff,Nat.reduceAdd,reduceIte,reduceCtorEq,Nat.reduceLT,Nat.reduceLeDiff,Nat.reduceShiftRight,Nat.reduceMod]
   refine callS_of S1 ?_
   simp only [vZ,Int.reduceEq,Int.reduceNe,Int.reduceLT,Int.reduceLE,Nat.reduceEqDiff,Nat.reduceAdd,reduceIte,reduceCtorEq,Nat.reduceLT,Nat.reduceLeDiff,Nat.reduceShiftRight,Nat.reduceMod]
   refine callS_of M2 ?_
   simp only [vZ,Int.reduceEq,Int.reduceNe,Int.reduceLT,Int.reduceLE,Nat.reduceEqDiff,Nat.reduceAdd,reduceIte,reduceCtorEq,Nat.reduceLT,Nat.reduceLeDiff,Nat.reduceShiftRight,Nat.reduceMod]
   refine callS_of A2 ?_
   simp only [vZ,Int.reduceEq,Int.reduceNe,Int.reduceLT,Int.reduceLE,Nat.reduceEqDiff,Nat.reduceAdd,reduceIte,reduceCtorEq,Nat.reduceLT,Nat.reduceLeDiff,Nat.reduceShiftRight,Nat.reduceMod]
   refine ⟨by unfold I64;omega,⟨i+1,h'⟩,by simp only;omega,?_⟩
   refine weakX [] (of_decide_eq_true rfl) (of_decide_eq_true rfl) ?_
   (simp only [rq_hr,vcW,vZ,Int.reduceEq,Int.reduceNe,Int.reduceLT,Int.reduceLE,Nat.reduceEqDiff,Nat.reduceAdd,reduceIte,reduceCtorEq,Nat.reduceLT,Nat.reduceLeDiff,Nat.reduceShiftRight,Nat.reduceMod])
   repeat' (with_reducible refine And.intro ?_ ?_)
   try any_goals (exact RnB.same (fun x hx=>by rw [List.mem_singleton.1 hx];rfl))
   (repeat' first | exact trivial | (with_reducible first | exact RnB.fxB (ints_fxB _) | rfl | refine And.intro ?_ ?_) | (with_reducible (first | refine RnB.bb ?_ | refine RnB.nb ?_);simp only [vcW,vZ,Int.reduceEq,Int.reduceNe,Int.reduceLT,Int.reduceLE,Nat.reduceEqDiff,Nat.reduceAdd,reduceIte,reduceCtorEq,Nat.reduceLT,Nat.reduceLeDiff,Nat.reduceShiftRight,Nat.reduceMod]) | (with_reducible first | refine RnB.ii ?_ | refine RnB.app ?_) | (with_reducible refine RnB.fxB ?_;simp only [vcW,vZ,Int.reduceEq,Int.reduceNe,Int.reduceLT,Int.reduceLE,Nat.reduceEqDiff,Nat.reduceAdd,reduceIte,reduceCtorEq,Nat.reduceLT,Nat.reduceLeDiff,Nat.reduceShiftRight,Nat.reduceMod]) | omega)
   all_goals trace_state
  ·have hil:i=l.length:=by omega
   subst hil
   have hc1:¬ (l.length:Int)<l.length:=by omega
   have e:Ln.rS (fun p=>Ln.res s o p * Ln.res s o p) l=Ln.sq s o l:=rfl
   rw [List.take_length,e]
   simp only [hc1,prs_length,rq_hr,vZ,Int.reduceEq,Int.reduceNe,Int.reduceLT,Int.reduceLE,Nat.reduceEqDiff,Nat.reduceAdd,reduceIte,reduceCtorEq,Nat.reduceLT,Nat.reduceLeDiff,Nat.reduceShiftRight,Nat.reduceMod]
def exL (l:List (Int × Int)) (a b:Int):List (Int × Int):=l.map fun p=>(p.1,a * p.1+b)
theorem exL_len (l:List (Int × Int)) (a b:Int):(exL l a b).length=l.length:=by simp [exL]
theorem lnE_whole {a b:Int} (ha : -100≤a∧a≤100) (hb : -100≤b∧b≤100):lnE a 1 b 1=0:=by
 have g:∀ n:Int,Int.gcd n 1=1:=fun n=>by simp
 unfold lnE lowQ smQ
 rw [g,g]
 simp
 omega
theorem rsL_exact (l:List (Int × Int)) (a b:Int):rsL (exL l a b) a 1 b 1=l.map fun _=>(0,0):=by
 unfold rsL exL
 rw [List.map_map]
 refine List.map_congr_left fun p _=>?_
 have:vR a 1 b 1 (p.1,a * p.1+b)=0:=by
  unfold vR
  simp only
  rw [Int.mul_comm p.1 a];omega
 simp only [Function.comp,this]
 rfl
theorem whole_one (n:Int):Rat.divInt n 1=((n:Int):Rat):=by rw [Rat.divInt_eq_div];grind
theorem fit_ok {l:List (Int × Int)} (h:prE l=0) (hs:¬ Ln.same l):lnE (lowN (fN1 l) (Ln.den l)) (lowD (fN1 l) (Ln.den l)) (lowN (fN2 l) (Ln.den l)) (lowD (fN2 l) (Ln.den l))=0 ∧
  Rat.divInt (lowN (fN1 l) (Ln.den l)) (lowD (fN1 l) (Ln.den l))=Ln.fs l∧Rat.divInt (lowN (fN2 l) (Ln.den l)) (lowD (fN2 l) (Ln.den l))=Ln.fo l:=by
 have hd:=Ln.den_pos hs
 obtain ⟨m1,m2,m3,m4,m5,m6⟩:=line_bd h
 have he:Ln.den l=l.length * Ln.sxx l - Ln.sx l * Ln.sx l:=rfl
 obtain ⟨a1,a2,a3⟩:=low_one (n:=fN1 l) hd
 obtain ⟨b1,b2,b3⟩:=low_one (n:=fN2 l) hd
 have s1:=low_small (n:=fN1 l) (M:=1000000000) hd (by unfold fN1;omega) (by omega)
 have s2:=low_small (n:=fN2 l) (M:=1000000000) hd (by unfold fN2;omega) (by omega)
 refine ⟨?_,by rw [a3];exact (q_div _ _).symm,by rw [b3];exact (q_div _ _).symm⟩
 unfold lnE lowQ smQ
 rw [a2,b2]
 simp
 omega
theorem fit_is {l:List (Int × Int)} (hs:¬ Ln.same l) {a b:Int} (h1:Ln.fs l=((a:Int):Rat)) (h2:Ln.fo l=((b:Int):Rat)):fitL l=fitA4 a 1 b 1:=by
 have hd:=Ln.den_pos hs
 have e1:=(low_eq (n:=fN1 l) (d:=Ln.den l) (p:=a) (q:=1) hd (by omega) (by simp)).2 (by rw [whole_one,← h1];exact q_div _ _)
 have e2:=(low_eq (n:=fN2 l) (d:=Ln.den l) (p:=b) (q:=1) hd (by omega) (by simp)).2 (by rw [whole_one,← h2];exact q_div _ _)
 unfold fitL
 rw [e1.1,e1.2,e2.1,e2.2]
theorem exL_same {l:List (Int × Int)} {a b:Int} (hs:¬ Ln.same l):¬ Ln.same (exL l a b):=by
 intro h
 refine hs fun p hp=>?_
 have h1:=h (p.1,a * p.1+b) (List.mem_map.2 ⟨p,hp,rfl⟩)
 cases l with
 | nil=>cases hp
 | cons q r=>exact h1
theorem exL_prE {l:List (Int × Int)} {a b:Int} (h:prE l=0) (hx:∀ p ∈ l,0≤a * p.1+b∧a * p.1+b≤100):prE (exL l a b)=0:=by
 obtain ⟨⟨h2,h20⟩,hb⟩:=prE_ok h
 unfold prE
 rw [exL_len,if_neg (by omega),if_neg (by omega),if_pos]
 refine List.all_eq_true.2 fun q hq=>?_
 obtain ⟨p,hp,rfl⟩:=List.mem_map.1 hq
 exact okP_iff.2 ⟨(hb p hp).1,hx p hp⟩
end Go.Proofs.Ytgmpcbpmnimkoaa

/- The law WatchBestLine: it answers true. By an AI agent;nothing here is trusted. -/
namespace Go.Proofs.Ytgmpcbpmnimkoaa
open Go.Av

theorem fewPairs_s (l:List (Int × Int)):Sound Try.prog 6 [.sl (prs l)] (.bool (decide (l.length≤22))):=by
 refine sound_W f_law08_fewPairs (Nat.le_of_ble_eq_true rfl) ?_
 simp only [c_law08_fewPairs,prs_length,vZ,Int.reduceEq,Int.reduceNe,Int.reduceLT,Int.reduceLE,Nat.reduceEqDiff,Nat.reduceAdd,reduceIte,reduceCtorEq,Nat.reduceLT,Nat.reduceLeDiff,Nat.reduceShiftRight,Nat.reduceMod]
 exact bool_eq (by omega)
theorem WL_loopB {P:Program} {N:Nat} {Q:Exit→Env→Store→Prop} {e:Env} {s:Store} {α:Type} (st:α→Env × Store) (mu:α→Nat) (x0:α) {b:ML} {t} (h0:Weak (e,s) (st x0))
  (hb:∀ x,WL P N b (fun ex e' s'=>match ex with
   | .normal=>∃ y,mu y<mu x∧Weak (e',s') (st y)
   | ex=>Q ex e' s') (st x).1 (st x).2 .mk):WL P N (.loop b) Q e s t:=WL_loop st mu x0 h0 hb
theorem BL_13 (n:Nat) (hn:n≤100):WL Try.prog 170 cl_law08_WatchBestLine_13 (endQ [(6,none)] (.bool true)) (envOf [(18,.sl (prs (List.replicate n (0,0))))]) (stOf []) .mk:=by
 have hl:(prs (List.replicate n ((0:Int),(0:Int)))).length=n:=by rw [prs_length,List.length_replicate]
 simp only [cl_law08_WatchBestLine_13,vZ,Int.reduceEq,Int.reduceNe,Int.reduceLT,Int.reduceLE,Nat.reduceEqDiff,Nat.reduceAdd,reduceIte,reduceCtorEq,Nat.reduceLT,Nat.reduceLeDiff,Nat.reduceShiftRight,Nat.reduceMod]
 refine WL_loopB (α:=PSigma fun i:Nat=>i≤n) (fun ⟨i,_⟩=>(envOf [(18,.sl (prs (List.replicate n (0,0)))),(20,.int .i64 (i:Nat))],stOf [])) (fun x=>n - x.1) ⟨0,Nat.zero_le _⟩ ?_ (fun ⟨i,hi⟩=>?_)
 ·refine weakX [] (of_decide_eq_true rfl) (of_decide_eq_true rfl) ?_
  (simp only [vcW,vZ,Int.reduceEq,Int.reduceNe,Int.reduceLT,Int.reduceLE,Nat.reduceEqDiff,Nat.reduceAdd,reduceIte,reduceCtorEq,Nat.reduceLT,Nat.reduceLeDiff,Nat.reduceShiftRight,Nat.reduceMod])
  (repeat' first | exact trivial | (with_reducible first | exact RnB.fxB (ints_fxB _) | rfl | refine And.intro ?_ ?_) | (with_reducible (first | refine RnB.bb ?_ | refine RnB.nb ?_);simp only [vcW,vZ,Int.reduceEq,Int.reduceNe,Int.reduceLT,Int.reduceLE,Nat.reduceEqDiff,Nat.reduceAdd,reduceIte,reduceCtorEq,Nat.reduceLT,Nat.reduceLeDiff,Nat.reduceShiftRight,Nat.reduceMod]) | (with_reducible first | refine RnB.ii ?_ | refine RnB.app ?_) | (with_reducible refine RnB.fxB ?_;simp only [vcW,vZ,Int.reduceEq,Int.reduceNe,Int.reduceLT,Int.reduceLE,Nat.reduceEqDiff,Nat.reduceAdd,reduceIte,reduceCtorEq,Nat.reduceLT,Nat.reduceLeDiff,Nat.reduceShiftRight,Nat.reduceMod]) | omega)
  all_goals first | rfl | trace_state
 ·dsimp only at hi ⊢
  by_cases h':i<n
  ·have hc1:(i:Int)<n:=by omega
   have hg:=prs_get (List.replicate n ((0:Int),(0:Int))) i (by rw [List.length_replicate];exact h')
   rw [List.getElem_replicate] at hg
   simp only [cl_law08_WatchBestLine_b2,hl,hc1,hg,vZ,Int.reduceEq,Int.reduceNe,Int.reduceLT,Int.reduceLE,Nat.reduceEqDiff,Nat.reduceAdd,reduceIte,reduceCtorEq,Nat.reduceLT,Nat.reduceLeDiff,Nat.reduceShiftRight,Nat.reduceMod]
   (repeat (with_reducible refine And.intro ?_ ?_;focus (first | omega | (unfold I64;omega))))
   refine ⟨⟨i+1,h'⟩,by simp only;omega,?_⟩
   refine weakX [] (of_decide_eq_true rfl) (of_decide_eq_true rfl) ?_
   (simp only [vcW,vZ,Int.reduceEq,Int.reduceNe,Int.reduceLT,Int.reduceLE,Nat.reduceEqDiff,Nat.reduceAdd,reduceIte,reduceCtorEq,Nat.reduceLT,Nat.reduceLeDiff,Nat.reduceShiftRight,Nat.reduceMod])
   (repeat' first | exact trivial | (with_reducible first | exact RnB.fxB (ints_fxB _) | rfl | refine And.intro ?_ ?_) | (with_reducible (first | refine RnB.bb ?_ | refine RnB.nb ?_);simp only [vcW,vZ,Int.reduceEq,Int.reduceNe,Int.reduceLT,Int.reduceLE,Nat.reduceEqDiff,Nat.reduceAdd,reduceIte,reduceCtorEq,Nat.reduceLT,Nat.reduceLeDiff,Nat.reduceShiftRight,Nat.reduceMod]) | (with_reducible first | refine RnB.ii ?_ | refine RnB.app ?_) | (with_reducible refine RnB.fxB ?_;simp only [vcW,vZ,Int.reduceEq,Int.reduceNe,Int.reduceLT,Int.reduceLE,Nat.reduceEqDiff,Nat.reduceAdd,reduceIte,reduceCtorEq,Nat.reduceLT,Nat.reduceLeDiff,Nat.reduceShiftRight,Nat.reduceMod]) | omega)
   all_goals trace_state
  ·have hil:i=n:=by omega
   subst hil
   have hc1:¬ (i:Int)<i:=by omega
   simp only [cl_law08_WatchBestLine_b2,hl,hc1,vZ,Int.reduceEq,Int.reduceNe,Int.reduceLT,Int.reduceLE,Nat.reduceEqDiff,Nat.reduceAdd,reduceIte,reduceCtorEq,Nat.reduceLT,Nat.reduceLeDiff,Nat.reduceShiftRight,Nat.reduceMod]
   refine WL_cut ?_
   simp only [cl_law08_WatchBestLine_14,vZ,Int.reduceEq,Int.reduceNe,Int.reduceLT,Int.reduceLE,Nat.reduceEqDiff,Nat.reduceAdd,reduceIte,reduceCtorEq,Nat.reduceLT,Nat.reduceLeDiff,Nat.reduceShiftRight,Nat.reduceMod]
set_option maxHeartbeats 4000000 in
theorem BL_10 (l:List (Int × Int)) (a b:Int) (h:prE l=0) (hs:¬ Ln.same l) (ha : -100≤a∧a≤100) (hb : -100≤b∧b≤100) (hx:∀ p ∈ l,0≤a * p.1+b∧a * p.1+b≤100) :
  WL Try.prog 170 cl_law08_WatchBestLine_10 (endQ [(6,none)] (.bool true)) (envOf [(0,.sl (prs l)),(9,.ptr 9 0 0),(13,.sl (prs (exL l a b)))]) (stOf [(9,⟨31,4,[.agg [.int .i64 a,.int .i64 1,.int .i64 b,.int .i64 1]]⟩)]) .mk:=by
 obtain ⟨⟨h2,h20⟩,hpb⟩:=prE_ok h
 have hl:=exL_len l a b
 have hpE:=exL_prE h hx
 have hsE:=exL_same (a:=a) (b:=b) hs
 have hd:=Ln.den_pos hsE
 have hC:=CopyPairs_s (exL l a b) (by omega)
 have hFO:=wFitOf_s (exL l a b) (by omega)
 obtain ⟨f1,f2⟩:=Ln.fit_exact hsE a b (fun q hq=>by
  obtain ⟨p,hp,rfl⟩:=List.mem_map.1 hq;rfl)
 rw [if_neg (show ¬ prE (exL l a b) ≠ 0 by omega),if_neg (show ¬ Ln.den (exL l a b)=0 by omega),fit_is hsE f1 f2] at hFO
 have hRO:=ResidualsOf_s (exL l a b) a 1 b 1 (by unfold I64;omega) (by unfold I64;omega) (by omega)
 have hw:=lnE_whole ha hb
 rw [if_neg (show ¬ prE (exL l a b) ≠ 0 by omega),if_neg (show ¬ lnE a 1 b 1 ≠ 0 by omega),rsL_exact,List.map_const'] at hRO
 unfold fitA4 at hFO hRO
 have hz:(prs (List.replicate l.length ((0:Int),(0:Int)))).length=l.length:=by rw [prs_length,List.length_replicate]
 simp only [cl_law08_WatchBestLine_10,vZ,Int.reduceEq,Int.reduceNe,Int.reduceLT,Int.reduceLE,Nat.reduceEqDiff,Nat.reduceAdd,reduceIte,reduceCtorEq,Nat.reduceLT,Nat.reduceLeDiff,Nat.reduceShiftRight,Nat.reduceMod]
 refine callS_of hC ?_
 simp only [vZ,Int.reduceEq,Int.reduceNe,Int.reduceLT,Int.reduceLE,Nat.reduceEqDiff,Nat.reduceAdd,reduceIte,reduceCtorEq,Nat.reduceLT,Nat.reduceLeDiff,Nat.reduceShiftRight,Nat.reduceMod]
 refine callS_of hFO ?_
 simp only [vZ,Int.reduceEq,Int.reduceNe,Int.reduceLT,Int.reduceLE,Nat.reduceEqDiff,Nat.reduceAdd,reduceIte,reduceCtorEq,Nat.reduceLT,Nat.reduceLeDiff,Nat.reduceShiftRight,Nat.reduceMod]
 refine callS_of hRO ?_
 simp only [vcX,prs_imm,hz,prs_length,vZ,Int.reduceEq,Int.reduceNe,Int.reduceLT,Int.reduceLE,Nat.reduceEqDiff,Nat.reduceAdd,reduceIte,reduceCtorEq,Nat.reduceLT,Nat.reduceLeDiff,Nat.reduceShiftRight,Nat.reduceMod]
 refine WL_cutW (envOf [(18,.sl (prs (List.replicate l.length (0,0))))],stOf []) rfl ?_ (BL_13 l.length (by omega))
 refine weakX [] (of_decide_eq_true rfl) (of_decide_eq_true rfl) ?_
 (simp only [vcX,prs_imm,vcW,vZ,Int.reduceEq,Int.reduceNe,Int.reduceLT,Int.reduceLE,Nat.reduceEqDiff,Nat.reduceAdd,reduceIte,reduceCtorEq,Nat.reduceLT,Nat.reduceLeDiff,Nat.reduceShiftRight,Nat.reduceMod])
 (repeat' first | exact trivial | (with_reducible first | exact RnB.fxB (ints_fxB _) | rfl | refine And.intro ?_ ?_) | (with_reducible (first | refine RnB.bb ?_ | refine RnB.nb ?_);simp only [vcW,vZ,Int.reduceEq,Int.reduceNe,Int.reduceLT,Int.reduceLE,Nat.reduceEqDiff,Nat.reduceAdd,reduceIte,reduceCtorEq,Nat.reduceLT,Nat.reduceLeDiff,Nat.reduceShiftRight,Nat.reduceMod]) | (with_reducible first | refine RnB.ii ?_ | refine RnB.app ?_) | (with_reducible refine RnB.fxB ?_;simp only [vcW,vZ,Int.reduceEq,Int.reduceNe,Int.reduceLT,Int.reduceLE,Nat.reduceEqDiff,Nat.reduceAdd,reduceIte,reduceCtorEq,Nat.reduceLT,Nat.reduceLeDiff,Nat.reduceShiftRight,Nat.reduceMod]) | omega)
 all_goals trace_state
set_option maxHeartbeats 4000000 in
theorem BL_9 (l:List (Int × Int)) (a b:Int) (h:prE l=0) (hs:¬ Ln.same l) (ha : -100≤a∧a≤100) (hb : -100≤b∧b≤100) :
  WL Try.prog 170 cl_law08_WatchBestLine_9 (endQ [(6,none)] (.bool true)) (envOf [(0,.sl (prs l)),(1,.int .i64 a),(2,.int .i64 b),(9,.ptr 9 0 0),(13,.nils)]) (stOf [(9,⟨31,4,[.agg [.int .i64 a,.int .i64 1,.int .i64 b,.int .i64 1]]⟩)]) .mk:=by
 have hmax:=maxLen_big
 obtain ⟨⟨h2,h20⟩,hpb⟩:=prE_ok h
 have hl:=exL_len l a b
 simp only [cl_law08_WatchBestLine_9,vZ,Int.reduceEq,Int.reduceNe,Int.reduceLT,Int.reduceLE,Nat.reduceEqDiff,Nat.reduceAdd,reduceIte,reduceCtorEq,Nat.reduceLT,Nat.reduceLeDiff,Nat.reduceShiftRight,Nat.reduceMod]
 refine WL_loopB (α:=PSigma fun i:Nat=>i≤l.length∧∀ p ∈ l.take i,0≤a * p.1+b∧a * p.1+b≤100) (fun ⟨i,_⟩=>(envOf [(0,.sl (prs l)),(1,.int .i64 a),(2,.int .i64 b),(9,.ptr 9 0 0),(13,.buf 100 i),(14,.int .i64 (i:Nat))],stOf [(9,⟨31,4,[.agg [.int .i64 a,.int .i64 1,.int .i64 b,.int .i64 1]]⟩),(100,⟨47,2,prs ((exL l a b).take i)⟩)])) (fun x=>l.length - x.1) ⟨0,Nat.zero_le _,fun p hp=>by simp at hp⟩ ?_ (fun ⟨i,hi,hn⟩=>?_)
 ·refine weakX [(100,none)] (of_decide_eq_true rfl) (of_decide_eq_true rfl) ?_
  (simp only [vcW,vZ,Int.reduceEq,Int.reduceNe,Int.reduceLT,Int.reduceLE,Nat.reduceEqDiff,Nat.reduceAdd,reduceIte,reduceCtorEq,Nat.reduceLT,Nat.reduceLeDiff,Nat.reduceShiftRight,Nat.reduceMod])
  (repeat' first | exact trivial | (with_reducible first | exact RnB.fxB (ints_fxB _) | rfl | refine And.intro ?_ ?_) | (with_reducible (first | refine RnB.bb ?_ | refine RnB.nb ?_);simp only [vcW,vZ,Int.reduceEq,Int.reduceNe,Int.reduceLT,Int.reduceLE,Nat.reduceEqDiff,Nat.reduceAdd,reduceIte,reduceCtorEq,Nat.reduceLT,Nat.reduceLeDiff,Nat.reduceShiftRight,Nat.reduceMod]) | (with_reducible first | refine RnB.ii ?_ | refine RnB.app ?_) | (with_reducible refine RnB.fxB ?_;simp only [vcW,vZ,Int.reduceEq,Int.reduceNe,Int.reduceLT,Int.reduceLE,Nat.reduceEqDiff,Nat.reduceAdd,reduceIte,reduceCtorEq,Nat.reduceLT,Nat.reduceLeDiff,Nat.reduceShiftRight,Nat.reduceMod]) | omega)
  all_goals first | rfl | trace_state
 ·dsimp only at hi hn ⊢
  have hpl:(prs ((exL l a b).take i)).length=i:=by rw [prs_length,List.length_take,hl];omega
  by_cases h':i<l.length
  ·have hc1:(i:Int)<l.length:=by omega
   have hg:=prs_get l i h'
   have hp:=hpb _ (List.getElem_mem h')
   have m1:=Lin.abs_mul (A:=100) (B:=100) (a:=a) (b:=l[i].1) (by omega) (by omega)
   have htk:prs ((exL l a b).take (i+1))=prs ((exL l a b).take i) ++ [.agg [.int .i64 l[i].1,.int .i64 (a * l[i].1+b)]]:=by
    rw [List.take_succ_eq_append_getElem (by rw [hl];exact h'),prs_append]
    simp [exL,prs]
   by_cases hw:0≤a * l[i].1+b∧a * l[i].1+b≤100
   ·simp only [cl_law08_WatchBestLine_b0,hc1,hg,prs_length,vZ,Int.reduceEq,Int.reduceNe,Int.reduceLT,Int.reduceLE,Nat.reduceEqDiff,Nat.reduceAdd,reduceIte,reduceCtorEq,Nat.reduceLT,Nat.reduceLeDiff,Nat.reduceShiftRight,Nat.reduceMod]
    (repeat (with_reducible refine And.intro ?_ ?_;focus (first | omega | (unfold I64;omega))))
    refine callS_of (Within_s _ _ _) ?_
    simp only [hw,hg,prs_length,hpl,vZ,Int.reduceEq,Int.reduceNe,Int.reduceLT,Int.reduceLE,Nat.reduceEqDiff,Nat.reduceAdd,reduceIte,reduceCtorEq,Nat.reduceLT,Nat.reduceLeDiff,Nat.reduceShiftRight,Nat.reduceMod]
    refine ⟨by omega,⟨by omega,by omega⟩,by unfold I64;omega,⟨i+1,h',fun p hp=>?_⟩,by simp only;omega,?_⟩
    ·rw [List.take_succ_eq_append_getElem h'] at hp
     rcases List.mem_append.1 hp with hp | hp
     ·exact hn p hp
     ·simp at hp;rw [hp];exact hw
    ·refine weakX [(100,some 127)] (of_decide_eq_true rfl) (of_decide_eq_true rfl) ?_
     (simp only [htk,vcW,vZ,Int.reduceEq,Int.reduceNe,Int.reduceLT,Int.reduceLE,Nat.reduceEqDiff,Nat.reduceAdd,reduceIte,reduceCtorEq,Nat.reduceLT,Nat.reduceLeDiff,Nat.reduceShiftRight,Nat.reduceMod])
     (repeat' first | exact trivial | (with_reducible first | exact RnB.fxB (ints_fxB _) | rfl | refine And.intro ?_ ?_) | (with_reducible (first | refine RnB.bb ?_ | refine RnB.nb ?_);simp only [vcW,vZ,Int.reduceEq,Int.reduceNe,Int.reduceLT,Int.reduceLE,Nat.reduceEqDiff,Nat.reduceAdd,reduceIte,reduceCtorEq,Nat.reduceLT,Nat.reduceLeDiff,Nat.reduceShiftRight,Nat.reduceMod]) | (with_reducible first | refine RnB.ii ?_ | refine RnB.app ?_) | (with_reducible refine RnB.fxB ?_;simp only [vcW,vZ,Int.reduceEq,Int.reduceNe,Int.reduceLT,Int.reduceLE,Nat.reduceEqDiff,Nat.reduceAdd,reduceIte,reduceCtorEq,Nat.reduceLT,Nat.reduceLeDiff,Nat.reduceShiftRight,Nat.reduceMod]) | omega)
     all_goals exact RnB.fxB (by rw [← htk];exact prs_fxB _)
   ·simp only [cl_law08_WatchBestLine_b0,hc1,hg,prs_length,vZ,Int.reduceEq,Int.reduceNe,Int.reduceLT,Int.reduceLE,Nat.reduceEqDiff,Nat.reduceAdd,reduceIte,reduceCtorEq,Nat.reduceLT,Nat.reduceLeDiff,Nat.reduceShiftRight,Nat.reduceMod]
    (repeat (with_reducible refine And.intro ?_ ?_;focus (first | omega | (unfold I64;omega))))
    refine callS_of (Within_s _ _ _) ?_
    simp only [hw,vZ,Int.reduceEq,Int.reduceNe,Int.reduceLT,Int.reduceLE,Nat.reduceEqDiff,Nat.reduceAdd,reduceIte,reduceCtorEq,Nat.reduceLT,Nat.reduceLeDiff,Nat.reduceShiftRight,Nat.reduceMod]
  ·have hil:i=l.length:=by omega
   subst hil
   have hc1:¬ (l.length:Int)<l.length:=by omega
   have htk:(exL l a b).take l.length=exL l a b:=List.take_of_length_le (by rw [hl];exact Nat.le_refl _)
   rw [List.take_length] at hn
   rw [htk]
   simp only [cl_law08_WatchBestLine_b0,hc1,prs_length,vZ,Int.reduceEq,Int.reduceNe,Int.reduceLT,Int.reduceLE,Nat.reduceEqDiff,Nat.reduceAdd,reduceIte,reduceCtorEq,Nat.reduceLT,Nat.reduceLeDiff,Nat.reduceShiftRight,Nat.reduceMod]
   have e:(prs (exL l a b)).take l.length=prs (exL l a b):=List.take_of_length_le (by rw [prs_length,hl];exact Nat.le_refl _)
   refine WL_cutW (envOf [(0,.sl (prs l)),(9,.ptr 9 0 0),(13,.sl (prs (exL l a b)))],stOf [(9,⟨31,4,[.agg [.int .i64 a,.int .i64 1,.int .i64 b,.int .i64 1]]⟩)]) rfl ?_ (BL_10 l a b h hs ha hb hn)
   refine weakS [(0,.sl (prs l)),(9,.ptr 9 0 0),(13,.sl (prs (exL l a b)))] [(9,some 9,⟨31,4,[.agg [.int .i64 a,.int .i64 1,.int .i64 b,.int .i64 1]]⟩)] (of_decide_eq_true rfl) (of_decide_eq_true rfl) ⟨⟨_,rfl,RnB.fxB rfl⟩,trivial⟩ ?_
   refine ⟨.imm _ rfl,.ptr _ _ _ _ rfl,?_,trivial⟩
   have hz:=Rn.fz (s:=stOf [(9,⟨31,4,[.agg [.int .i64 a,.int .i64 1,.int .i64 b,.int .i64 1]]⟩),(100,⟨47,2,prs (exL l a b)⟩)]) (s':=stOf [(9,⟨31,4,[.agg [.int .i64 a,.int .i64 1,.int .i64 b,.int .i64 1]]⟩)]) (f:=Go.Av.keyOf [(9,some 9,⟨31,4,[.agg [.int .i64 a,.int .i64 1,.int .i64 b,.int .i64 1]]⟩)]) 100 l.length _ rfl (by simp only [prs_length,hl];omega) (fun x hx=>(fx_spec (prs_fx _ x hx)).1) (fun k' hk=>by
    simp only [Go.Av.keyOf] at hk
    split at hk <;> cases hk)
   simp only [e] at hz
   exact hz
set_option maxHeartbeats 8000000 in
theorem WatchBestLine_s (l:List (Int × Int)) (a b:Int) (ha:I64 a) (hb:I64 b):Sound Try.prog 3 [.sl (prs l),.int .i64 a,.int .i64 b] (.bool true):=by
 refine sound_WL f_law08_WatchBestLine e_law08_WatchBestLine (Nat.le_of_ble_eq_true rfl) ?_
 have hSa:=Size_g a ha
 have hSb:=Size_g b hb
 unfold I64 at ha hb
 simp only [cl_law08_WatchBestLine,vZ,Int.reduceEq,Int.reduceNe,Int.reduceLT,Int.reduceLE,Nat.reduceEqDiff,Nat.reduceAdd,reduceIte,reduceCtorEq,Nat.reduceLT,Nat.reduceLeDiff,Nat.reduceShiftRight,Nat.reduceMod]
 refine callS_of awake_s ?_
 simp only [vZ,Int.reduceEq,Int.reduceNe,Int.reduceLT,Int.reduceLE,Nat.reduceEqDiff,Nat.reduceAdd,reduceIte,reduceCtorEq,Nat.reduceLT,Nat.reduceLeDiff,Nat.reduceShiftRight,Nat.reduceMod]
 refine callS_of (fewPairs_s l) ?_
 by_cases hl:l.length≤22
 case neg=>simp only [hl,vZ,Int.reduceEq,Int.reduceNe,Int.reduceLT,Int.reduceLE,Nat.reduceEqDiff,Nat.reduceAdd,reduceIte,reduceCtorEq,Nat.reduceLT,Nat.reduceLeDiff,Nat.reduceShiftRight,Nat.reduceMod]
 simp only [hl,vZ,Int.reduceEq,Int.reduceNe,Int.reduceLT,Int.reduceLE,Nat.reduceEqDiff,Nat.reduceAdd,reduceIte,reduceCtorEq,Nat.reduceLT,Nat.reduceLeDiff,Nat.reduceShiftRight,Nat.reduceMod]
 refine callS_of (refPairsErr_s l) ?_
 by_cases h:prE l=0
 case neg=>simp only [h,vZ,Int.reduceEq,Int.reduceNe,Int.reduceLT,Int.reduceLE,Nat.reduceEqDiff,Nat.reduceAdd,reduceIte,reduceCtorEq,Nat.reduceLT,Nat.reduceLeDiff,Nat.reduceShiftRight,Nat.reduceMod]
 obtain ⟨⟨h2,h20⟩,hpb⟩:=prE_ok h
 simp only [h,vZ,Int.reduceEq,Int.reduceNe,Int.reduceLT,Int.reduceLE,Nat.reduceEqDiff,Nat.reduceAdd,reduceIte,reduceCtorEq,Nat.reduceLT,Nat.reduceLeDiff,Nat.reduceShiftRight,Nat.reduceMod]
 refine callS_of (Equal_s l ⟨h2,by omega⟩) ?_
 by_cases hs:Ln.same l
 ·simp only [hs,vZ,Int.reduceEq,Int.reduceNe,Int.reduceLT,Int.reduceLE,Nat.reduceEqDiff,Nat.reduceAdd,reduceIte,reduceCtorEq,Nat.reduceLT,Nat.reduceLeDiff,Nat.reduceShiftRight,Nat.reduceMod]
 generalize hva:(if a = -9223372036854775808 then a else (a.natAbs:Int))=va at *
 generalize hvb:(if b = -9223372036854775808 then b else (b.natAbs:Int))=vb at *
 simp only [hs,vZ,Int.reduceEq,Int.reduceNe,Int.reduceLT,Int.reduceLE,Nat.reduceEqDiff,Nat.reduceAdd,reduceIte,reduceCtorEq,Nat.reduceLT,Nat.reduceLeDiff,Nat.reduceShiftRight,Nat.reduceMod]
 refine callS_of hSa ?_
 by_cases c1:100<va
 ·simp only [c1,vZ,Int.reduceEq,Int.reduceNe,Int.reduceLT,Int.reduceLE,Nat.reduceEqDiff,Nat.reduceAdd,reduceIte,reduceCtorEq,Nat.reduceLT,Nat.reduceLeDiff,Nat.reduceShiftRight,Nat.reduceMod]
 simp only [c1,vZ,Int.reduceEq,Int.reduceNe,Int.reduceLT,Int.reduceLE,Nat.reduceEqDiff,Nat.reduceAdd,reduceIte,reduceCtorEq,Nat.reduceLT,Nat.reduceLeDiff,Nat.reduceShiftRight,Nat.reduceMod]
 refine callS_of hSb ?_
 by_cases c2:100<vb
 ·simp only [c2,vZ,Int.reduceEq,Int.reduceNe,Int.reduceLT,Int.reduceLE,Nat.reduceEqDiff,Nat.reduceAdd,reduceIte,reduceCtorEq,Nat.reduceLT,Nat.reduceLeDiff,Nat.reduceShiftRight,Nat.reduceMod]
 simp only [c2,vZ,Int.reduceEq,Int.reduceNe,Int.reduceLT,Int.reduceLE,Nat.reduceEqDiff,Nat.reduceAdd,reduceIte,reduceCtorEq,Nat.reduceLT,Nat.reduceLeDiff,Nat.reduceShiftRight,Nat.reduceMod]
 refine callS_of (Within_s _ _ _) ?_
 by_cases c3 : -100≤a∧a≤100
 case neg=>simp only [c3,vZ,Int.reduceEq,Int.reduceNe,Int.reduceLT,Int.reduceLE,Nat.reduceEqDiff,Nat.reduceAdd,reduceIte,reduceCtorEq,Nat.reduceLT,Nat.reduceLeDiff,Nat.reduceShiftRight,Nat.reduceMod]
 simp only [c3,vZ,Int.reduceEq,Int.reduceNe,Int.reduceLT,Int.reduceLE,Nat.reduceEqDiff,Nat.reduceAdd,reduceIte,reduceCtorEq,Nat.reduceLT,Nat.reduceLeDiff,Nat.reduceShiftRight,Nat.reduceMod]
 refine callS_of (Within_s _ _ _) ?_
 by_cases c4 : -100≤b∧b≤100
 case neg=>simp only [c4,vZ,Int.reduceEq,Int.reduceNe,Int.reduceLT,Int.reduceLE,Nat.reduceEqDiff,Nat.reduceAdd,reduceIte,reduceCtorEq,Nat.reduceLT,Nat.reduceLeDiff,Nat.reduceShiftRight,Nat.reduceMod]
 clear hSa hSb hva hvb c1 c2
 have hd:=Ln.den_pos hs
 have hC:=CopyPairs_s l (by omega)
 have hFO:=wFitOf_s l (by omega)
 rw [if_neg (show ¬ prE l ≠ 0 by omega),if_neg (show ¬ Ln.den l=0 by omega)] at hFO
 obtain ⟨k1,k2,k3⟩:=fit_ok h hs
 obtain ⟨q1,q2,q3,q4,_,_⟩:=lnE_ok k1
 have hLE:=LineErr_s (lowN (fN1 l) (Ln.den l)) (lowD (fN1 l) (Ln.den l)) (lowN (fN2 l) (Ln.den l)) (lowD (fN2 l) (Ln.den l)) (by unfold I64;omega) (by unfold I64;omega)
 have hCk:=wCheckFit_s l (lowN (fN1 l) (Ln.den l)) (lowD (fN1 l) (Ln.den l)) (lowN (fN2 l) (Ln.den l)) (lowD (fN2 l) (Ln.den l)) (by unfold I64;omega) (by unfold I64;omega) (by omega)
 have hck0:ckF l (lowN (fN1 l) (Ln.den l)) (lowD (fN1 l) (Ln.den l)) (lowN (fN2 l) (Ln.den l)) (lowD (fN2 l) (Ln.den l))=0:=by
  unfold ckF
  rw [if_neg (show ¬ prE l ≠ 0 by omega),if_neg (show ¬ Ln.den l=0 by omega),if_neg (show ¬ lnE _ _ _ _ ≠ 0 by omega),if_pos ⟨rfl,rfl,rfl,rfl⟩]
 rw [k1] at hLE
 rw [hck0] at hCk
 obtain ⟨sq1,ok1⟩:=squares_s l _ _ _ _ h k1
 obtain ⟨sq2,ok2⟩:=squares_s l a 1 b 1 h (lnE_whole c3 c4)
 rw [k2,k3] at sq1 ok1
 rw [whole_one,whole_one] at sq2 ok2
 obtain ⟨b1,b2⟩:=Ln.fit_best hs ((a:Int):Rat) ((b:Int):Rat)
 have hCmp:=RatioCmp_q ok1 ok2
 have hWa:=Whole_s a
 have hWb:=Whole_s b
 have hfi:Ln.sq (Ln.fs l) (Ln.fo l) l=Ln.sq ((a:Int):Rat) ((b:Int):Rat) l→lowN (fN1 l) (Ln.den l)=a∧lowD (fN1 l) (Ln.den l)=1∧lowN (fN2 l) (Ln.den l)=b∧lowD (fN2 l) (Ln.den l)=1:=fun e=>by
  obtain ⟨g1,g2⟩:=b2 e
  have:=fit_is hs g1.symm g2.symm
  unfold fitL fitA4 at this
  injection this with this
  simp only [List.cons.injEq,AV.int.injEq,true_and,and_true] at this
  exact this
 have hBL:=BL_9 l a b h hs c3 c4
 clear k1 k2 k3 hck0 b2
 unfold fitL at hFO
 unfold fitA4 at hFO hLE hCk sq1 sq2
 unfold fracA at hWa hWb
 rw [rq_hr] at sq1 sq2
 rw [rq_hr,rq_hr] at hCmp
 generalize Ln.sq (Ln.fs l) (Ln.fo l) l=S1 at *
 generalize Ln.sq ((a:Int):Rat) ((b:Int):Rat) l=S2 at *
 generalize lowN (fN1 l) (Ln.den l)=u1 at *
 generalize lowD (fN1 l) (Ln.den l)=u2 at *
 generalize lowN (fN2 l) (Ln.den l)=u3 at *
 generalize lowD (fN2 l) (Ln.den l)=u4 at *
 have hno:¬ S2<S1:=by grind
 rw [if_neg hno] at hCmp
 simp only [c4,vZ,Int.reduceEq,Int.reduceNe,Int.reduceLT,Int.reduceLE,Nat.reduceEqDiff,Nat.reduceAdd,reduceIte,reduceCtorEq,Nat.reduceLT,Nat.reduceLeDiff,Nat.reduceShiftRight,Nat.reduceMod]
 refine callS_of hC ?_
 simp only [vZ,Int.reduceEq,Int.reduceNe,Int.reduceLT,Int.reduceLE,Nat.reduceEqDiff,Nat.reduceAdd,reduceIte,reduceCtorEq,Nat.reduceLT,Nat.reduceLeDiff,Nat.reduceShiftRight,Nat.reduceMod]
 refine callS_of hFO ?_
 simp only [vZ,Int.reduceEq,Int.reduceNe,Int.reduceLT,Int.reduceLE,Nat.reduceEqDiff,Nat.reduceAdd,reduceIte,reduceCtorEq,Nat.reduceLT,Nat.reduceLeDiff,Nat.reduceShiftRight,Nat.reduceMod]
 refine callS_of hLE ?_
 simp only [vZ,Int.reduceEq,Int.reduceNe,Int.reduceLT,Int.reduceLE,Nat.reduceEqDiff,Nat.reduceAdd,reduceIte,reduceCtorEq,Nat.reduceLT,Nat.reduceLeDiff,Nat.reduceShiftRight,Nat.reduceMod]
 refine callS_of hC ?_
 simp only [vZ,Int.reduceEq,Int.reduceNe,Int.reduceLT,Int.reduceLE,Nat.reduceEqDiff,Nat.reduceAdd,reduceIte,reduceCtorEq,Nat.reduceLT,Nat.reduceLeDiff,Nat.reduceShiftRight,Nat.reduceMod]
 refine callS_of hCk ?_
 simp only [vZ,Int.reduceEq,Int.reduceNe,Int.reduceLT,Int.reduceLE,Nat.reduceEqDiff,Nat.reduceAdd,reduceIte,reduceCtorEq,Nat.reduceLT,Nat.reduceLeDiff,Nat.reduceShiftRight,Nat.reduceMod]
 refine callS_of hWa ?_
 simp only [vZ,Int.reduceEq,Int.reduceNe,Int.reduceLT,Int.reduceLE,Nat.reduceEqDiff,Nat.reduceAdd,reduceIte,reduceCtorEq,Nat.reduceLT,Nat.reduceLeDiff,Nat.reduceShiftRight,Nat.reduceMod]
 refine callS_of hWb ?_
 simp only [vZ,Int.reduceEq,Int.reduceNe,Int.reduceLT,Int.reduceLE,Nat.reduceEqDiff,Nat.reduceAdd,reduceIte,reduceCtorEq,Nat.reduceLT,Nat.reduceLeDiff,Nat.reduceShiftRight,Nat.reduceMod]
 refine callS_of sq1 ?_
 simp only [vZ,Int.reduceEq,Int.reduceNe,Int.reduceLT,Int.reduceLE,Nat.reduceEqDiff,Nat.reduceAdd,reduceIte,reduceCtorEq,Nat.reduceLT,Nat.reduceLeDiff,Nat.reduceShiftRight,Nat.reduceMod]
 refine callS_of sq2 ?_
 simp only [vZ,Int.reduceEq,Int.reduceNe,Int.reduceLT,Int.reduceLE,Nat.reduceEqDiff,Nat.reduceAdd,reduceIte,reduceCtorEq,Nat.reduceLT,Nat.reduceLeDiff,Nat.reduceShiftRight,Nat.reduceMod]
 refine callS_of hCmp ?_
 by_cases lt:S1<S2
 ·simp only [lt,vZ,Int.reduceEq,Int.reduceNe,Int.reduceLT,Int.reduceLE,Nat.reduceEqDiff,Nat.reduceAdd,reduceIte,reduceCtorEq,Nat.reduceLT,Nat.reduceLeDiff,Nat.reduceShiftRight,Nat.reduceMod]
  refine WL_cutW (envOf [(0,.sl (prs l)),(1,.int .i64 a),(2,.int .i64 b),(9,.ptr 9 0 0),(13,.nils)],stOf [(9,⟨31,4,[.agg [.int .i64 a,.int .i64 1,.int .i64 b,.int .i64 1]]⟩)]) rfl ?_ hBL
  refine weakX [] (of_decide_eq_true rfl) (of_decide_eq_true rfl) ?_
  (simp only [vcW,vZ,Int.reduceEq,Int.reduceNe,Int.reduceLT,Int.reduceLE,Nat.reduceEqDiff,Nat.reduceAdd,reduceIte,reduceCtorEq,Nat.reduceLT,Nat.reduceLeDiff,Nat.reduceShiftRight,Nat.reduceMod])
  (repeat' first | exact trivial | (with_reducible first | exact RnB.fxB (ints_fxB _) | rfl | refine And.intro ?_ ?_) | (with_reducible (first | refine RnB.bb ?_ | refine RnB.nb ?_);simp only [vcW,vZ,Int.reduceEq,Int.reduceNe,Int.reduceLT,Int.reduceLE,Nat.reduceEqDiff,Nat.reduceAdd,reduceIte,reduceCtorEq,Nat.reduceLT,Nat.reduceLeDiff,Nat.reduceShiftRight,Nat.reduceMod]) | (with_reducible first | refine RnB.ii ?_ | refine RnB.app ?_) | (with_reducible refine RnB.fxB ?_;simp only [vcW,vZ,Int.reduceEq,Int.reduceNe,Int.reduceLT,Int.reduceLE,Nat.reduceEqDiff,Nat.reduceAdd,reduceIte,reduceCtorEq,Nat.reduceLT,Nat.reduceLeDiff,Nat.reduceShiftRight,Nat.reduceMod]) | omega)
  all_goals trace_state
 ·obtain ⟨g1,g2,g3,g4⟩:=hfi (by grind)
  subst g1 g2 g3 g4
  simp only [lt,vZ,Int.reduceEq,Int.reduceNe,Int.reduceLT,Int.reduceLE,Nat.reduceEqDiff,Nat.reduceAdd,reduceIte,reduceCtorEq,Nat.reduceLT,Nat.reduceLeDiff,Nat.reduceShiftRight,Nat.reduceMod]
  refine WL_cutW (envOf [(0,.sl (prs l)),(1,.int .i64 u1),(2,.int .i64 u3),(9,.ptr 9 0 0),(13,.nils)],stOf [(9,⟨31,4,[.agg [.int .i64 u1,.int .i64 1,.int .i64 u3,.int .i64 1]]⟩)]) rfl ?_ hBL
  refine weakX [] (of_decide_eq_true rfl) (of_decide_eq_true rfl) ?_
  (simp only [vcW,vZ,Int.reduceEq,Int.reduceNe,Int.reduceLT,Int.reduceLE,Nat.reduceEqDiff,Nat.reduceAdd,reduceIte,reduceCtorEq,Nat.reduceLT,Nat.reduceLeDiff,Nat.reduceShiftRight,Nat.reduceMod])
  (repeat' first | exact trivial | (with_reducible first | exact RnB.fxB (ints_fxB _) | rfl | refine And.intro ?_ ?_) | (with_reducible (first | refine RnB.bb ?_ | refine RnB.nb ?_);simp only [vcW,vZ,Int.reduceEq,Int.reduceNe,Int.reduceLT,Int.reduceLE,Nat.reduceEqDiff,Nat.reduceAdd,reduceIte,reduceCtorEq,Nat.reduceLT,Nat.reduceLeDiff,Nat.reduceShiftRight,Nat.reduceMod]) | (with_reducible first | refine RnB.ii ?_ | refine RnB.app ?_) | (with_reducible refine RnB.fxB ?_;simp only [vcW,vZ,Int.reduceEq,Int.reduceNe,Int.reduceLT,Int.reduceLE,Nat.reduceEqDiff,Nat.reduceAdd,reduceIte,reduceCtorEq,Nat.reduceLT,Nat.reduceLeDiff,Nat.reduceShiftRight,Nat.reduceMod]) | omega)
  all_goals trace_state
end Go.Proofs.Ytgmpcbpmnimkoaa

