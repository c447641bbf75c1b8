/- The marked code of law functions; printed by a program. By an AI agent; nothing here is trusted. -/
import Derived.Test.YtgmpcbpmnimkoaaGreatLayD
import Derived.Test.YtgmpcbpmnimkoaaGreatKode
import Derived.Test.YtgmpcbpmnimkoaaGreatLayA
import Derived.Test.YtgmpcbpmnimkoaaGreatConWatchFitsA
set_option linter.defProp false
set_option linter.unusedSimpArgs false
set_option linter.unusedVariables false
namespace Go.Proofs.YtgmpcbpmnimkoaaGreat
open Go.Av
def cl_math_bits_Div64_19:ML:=(.seq (.reg 192 [mV 121 15,mO 122 (.bin .mul (.t 121) (.c (.int .u64 4294967296))),mV 123 18,mO 124 (.bin .add (.t 122) (.t 123)),mV 125 17,mO 126 (.bin .mul (.t 125) (.c (.int .u64 4294967296))),mV 127 14,mO 128 (.bin .add (.t 126) (.t 127)),mV 129 18,mV 130 2,mO 131 (.bin .mul (.t 129) (.t 130)),mO 132 (.bin .sub (.t 128) (.t 131)),mV 133 8,mO 134 (.bin .shr (.t 132) (.t 133)),mV 6 124,mV 7 134] false []) .ret)
def cl_math_bits_Div64_18:ML:=(.seq (.block 2 (.loop (.seq (.seq (.reg 10384593717069655257060992658949892 [mV 102 18,mO 103 (.bin .geq (.t 102) (.c (.int .u64 4294967296))),mV 104 103,mG 104 false 105 (.mv (.t 18)),mG 104 false 106 (.mv (.t 10)),mG 104 false 107 (.bin .mul (.t 105) (.t 106)),mG 104 false 108 (.mv (.t 16)),mG 104 false 109 (.bin .mul (.c (.int .u64 4294967296)) (.t 108)),mG 104 false 110 (.mv (.t 14)),mG 104 false 111 (.bin .add (.t 109) (.t 110)),mG 104 false 112 (.bin .gtr (.t 107) (.t 111)),mO 113 (.pick (.t 104) (.c (.bool true)) (.t 112))] false []) (.cond (.t 113) .skip (.exit 2))) (.block 3 (.seq (.reg 509700 [mV 114 18,mO 115 (.bin .sub (.t 114) (.c (.int .u64 1))),mV 18 115] false []) (.seq (.reg 509700 [mV 116 16,mV 117 9,mO 118 (.bin .add (.t 116) (.t 117)),mV 16 118] false []) (.seq (.reg 1329227995784915872903807060280854276 [mV 119 16,mO 120 (.bin .geq (.t 119) (.c (.int .u64 4294967296)))] false []) (.cond (.t 120) (.exit 2) .skip)))))))) (.cut cl_math_bits_Div64_19))
def cl_math_bits_Div64_15:ML:=(.seq (.reg 182020 [mV 86 11,mO 87 (.bin .mul (.t 86) (.c (.int .u64 4294967296))),mV 88 13,mO 89 (.bin .add (.t 87) (.t 88)),mV 90 15,mV 91 2,mO 92 (.bin .mul (.t 90) (.t 91)),mO 93 (.bin .sub (.t 89) (.t 92)),mV 17 93] false []) (.seq (.reg 444164 [mV 94 17,mV 95 9,mO 96 (.bin .quo (.t 94) (.t 95)),mV 18 96] false []) (.seq (.reg 509700 [mV 97 17,mV 98 18,mV 99 9,mO 100 (.bin .mul (.t 98) (.t 99)),mO 101 (.bin .sub (.t 97) (.t 100)),mV 16 101] false []) (.cut cl_math_bits_Div64_18))))
def cl_math_bits_Div64_14:ML:=(.seq (.block 0 (.loop (.seq (.seq (.reg 302231454903657293803268 [mV 67 15,mO 68 (.bin .geq (.t 67) (.c (.int .u64 4294967296))),mV 69 68,mG 69 false 70 (.mv (.t 15)),mG 69 false 71 (.mv (.t 10)),mG 69 false 72 (.bin .mul (.t 70) (.t 71)),mG 69 false 73 (.mv (.t 16)),mG 69 false 74 (.bin .mul (.c (.int .u64 4294967296)) (.t 73)),mG 69 false 75 (.mv (.t 13)),mG 69 false 76 (.bin .add (.t 74) (.t 75)),mG 69 false 77 (.bin .gtr (.t 72) (.t 76)),mO 78 (.pick (.t 69) (.c (.bool true)) (.t 77))] false []) (.cond (.t 78) .skip (.exit 0))) (.block 1 (.seq (.reg 126724 [mV 79 15,mO 80 (.bin .sub (.t 79) (.c (.int .u64 1))),mV 15 80] false []) (.seq (.reg 126724 [mV 81 16,mV 82 9,mO 83 (.bin .add (.t 81) (.t 82)),mV 16 83] false []) (.seq (.reg 38685626227668133590724356 [mV 84 16,mO 85 (.bin .geq (.t 84) (.c (.int .u64 4294967296)))] false []) (.cond (.t 85) (.exit 0) .skip)))))))) (.cut cl_math_bits_Div64_15))
def cl_math_bits_Div64:ML:=(.seq (.reg 7 [mO 6 (.mv (.c (.int .u64 0))),mO 7 (.mv (.c (.int .u64 0)))] false []) (.seq (.seq (.reg 1048583 [mV 19 2,mO 20 (.bin .eql (.t 19) (.c (.int .u64 0)))] false []) (.cond (.t 20) (.reg 7 [mO 21 (.load none (.c .undef)),⟨none,none,.copy 0 (.c .undef) (.c .undef)⟩] false []) .skip)) (.seq (.seq (.reg 16777223 [mV 22 2,mV 23 0,mO 24 (.bin .leq (.t 22) (.t 23))] false []) (.cond (.t 24) (.reg 7 [mO 25 (.load none (.c .undef)),⟨none,none,.copy 0 (.c .undef) (.c .undef)⟩] false []) .skip)) (.seq (.seq (.reg 134217735 [mV 26 0,mO 27 (.bin .eql (.t 26) (.c (.int .u64 0)))] false []) (.cond (.t 27) (.seq (.reg 192 [mV 28 1,mV 29 2,mO 30 (.bin .quo (.t 28) (.t 29)),mV 31 1,mV 32 2,mO 33 (.bin .rem (.t 31) (.t 32)),mV 6 30,mV 7 33] true []) .ret) .skip)) (.seq (.reg 263 [mV 34 2,mO 35 (.call 90 [(.t 34)]),mO 36 (.convI .u64 (.t 35)),mV 8 36] false []) (.seq (.reg 263 [mV 37 2,mV 38 8,mO 39 (.bin .shl (.t 37) (.t 38)),mV 2 39] false []) (.seq (.reg 775 [mV 40 2,mO 41 (.bin .shr (.t 40) (.c (.int .u64 32))),mV 9 41] false []) (.seq (.reg 1799 [mV 42 2,mO 43 (.bin .and (.t 42) (.c (.int .u64 4294967295))),mV 10 43] false []) (.seq (.reg 3846 [mV 44 0,mV 45 8,mO 46 (.bin .shl (.t 44) (.t 45)),mV 47 1,mV 48 8,mO 49 (.bin .sub (.c (.int .u64 64)) (.t 48)),mO 50 (.bin .shr (.t 47) (.t 49)),mO 51 (.bin .or (.t 46) (.t 50)),mV 11 51] false []) (.seq (.reg 7940 [mV 52 1,mV 53 8,mO 54 (.bin .shl (.t 52) (.t 53)),mV 12 54] false []) (.seq (.reg 16132 [mV 55 12,mO 56 (.bin .shr (.t 55) (.c (.int .u64 32))),mV 13 56] false []) (.seq (.reg 28420 [mV 57 12,mO 58 (.bin .and (.t 57) (.c (.int .u64 4294967295))),mV 14 58] false []) (.seq (.reg 61188 [mV 59 11,mV 60 9,mO 61 (.bin .quo (.t 59) (.t 60)),mV 15 61] false []) (.seq (.reg 126724 [mV 62 11,mV 63 15,mV 64 9,mO 65 (.bin .mul (.t 63) (.t 64)),mO 66 (.bin .sub (.t 62) (.t 65)),mV 16 66] false []) (.cut cl_math_bits_Div64_14)))))))))))))))
def c_math_bits_Div64:MC:=cl_math_bits_Div64.er
theorem f_math_bits_Div64:cFun Tryz.prog 68=some (135,3,c_math_bits_Div64,[(6,none),(7,none)]):=by kernel_rfl
theorem e_math_bits_Div64:cl_math_bits_Div64.er=c_math_bits_Div64:=rfl
end Go.Proofs.YtgmpcbpmnimkoaaGreat

/- Determinants in plain Lean. By an AI agent;nothing here is trusted. -/
namespace Go.Lin

def sg (i:Nat):Rat:=if i % 2=0 then 1 else -1
def skip (i r:Nat):Nat:=if r<i then r else r+1

end Go.Lin

/- Equations solved by elimination,in plain Lean. By an AI agent;nothing here is trusted. -/
namespace Go.Lin

end Go.Lin

/- Shifted templates and their products,in plain Lean. By an AI agent;nothing here is trusted. -/
namespace Go.Lin

def itm (items:List Int) (n k:Nat):Int:=if k≤n∧n - k<items.length then items.getD (n - k) 0 else 0
def smI (n:Nat) (f:Nat→Int):Int:=match n with
 | 0=>0
 | n+1=>smI n f+f n
def gr (items:List Int) (N k m:Nat):Int:=smI N fun n=>itm items n k * itm items n m
theorem sq_nn (a:Rat):0≤a * a:=by
 by_cases h:0≤a
 ·exact Rat.mul_nonneg h h
 ·have:0 ≤ -a:=by grind
  have:=Rat.mul_nonneg this this
  grind
theorem abs_mul {a b A B:Int} (ha : -A≤a∧a≤A) (hb : -B≤b∧b≤B) : -(A * B)≤a * b∧a * b≤A * B:=by
 have h1:(a.natAbs:Int)≤A:=by omega
 have h2:(b.natAbs:Int)≤B:=by omega
 have h3:(a.natAbs:Int) * b.natAbs≤A * B:=Int.mul_le_mul h1 h2 (by omega) (by omega)
 rw [← Int.natCast_mul,← Int.natAbs_mul] at h3
 omega
end Go.Lin

/- The best charges,in plain Lean. By an AI agent;nothing here is trusted. -/
namespace Go.Lin

section
variable (items:List Int) (S N:Nat) (s:Nat→Rat)
variable {items S N s}

end
end Go.Lin

/- Divisors,multiples,digits of quotients,in plain Lean. By an AI agent;nothing here is trusted. -/
namespace Go.Lin

theorem guess {B yn1 yn0 u d q r:Nat} (hu:q * yn1+r=u):(r * B+d<q * yn0) ↔ (u * B+d<q * (yn1 * B+yn0)):=by
 subst hu
 rw [Nat.add_mul,Nat.mul_add,← Nat.mul_assoc]
 omega
theorem guess_top {B yn1 yn0 u d:Nat} (hB:0<B) (hy1:0<yn1) (hd:d<B):(u * B+d) / (yn1 * B+yn0)≤u / yn1:=by
 have h1:(u * B+d) / (yn1 * B+yn0)≤(u * B+d) / (yn1 * B):=Nat.div_le_div_left (by omega) (Nat.mul_pos hy1 hB)
 have h2:(u * B+d) / (yn1 * B)=u / yn1:=by
  rw [Nat.mul_comm yn1 B,← Nat.div_div_eq_div_mul]
  congr 1
  rw [Nat.mul_comm u B,Nat.mul_add_div hB,Nat.div_eq_of_lt hd,Nat.add_zero]
 omega
theorem digit_ok {B yn1 yn0 u d q r:Nat} (hy0:yn0<B) (hy1:0<yn1) (hu:q * yn1+r=u) (hlo:(u * B+d) / (yn1 * B+yn0)≤q) (h:q * yn0≤r * B+d):q=(u * B+d) / (yn1 * B+yn0):=by
 refine Nat.le_antisymm ?_ hlo
 have hB:0<B:=by omega
 have h1:¬ (r * B+d<q * yn0):=by omega
 rw [guess hu] at h1
 rw [Nat.le_div_iff_mul_le (by have:=Nat.mul_pos hy1 hB;omega)]
 omega
theorem digit_more {B yn1 yn0 u d q r:Nat} (hy0:yn0<B) (hy1:0<yn1) (hd:d<B) (hyu:u<yn1 * B+yn0) (hu:q * yn1+r=u) (h:B≤q∨r * B+d<q * yn0):(u * B+d) / (yn1 * B+yn0)<q:=by
 have hB:0<B:=by omega
 have hpos:0<yn1 * B+yn0:=by have:=Nat.mul_pos hy1 hB;omega
 rw [Nat.div_lt_iff_lt_mul hpos]
 rcases h with h | h
 ·have h1:(u+1) * B≤(yn1 * B+yn0) * B:=Nat.mul_le_mul_right _ hyu
  have h2:(yn1 * B+yn0) * B≤(yn1 * B+yn0) * q:=Nat.mul_le_mul_left _ h
  rw [Nat.add_mul] at h1
  rw [Nat.mul_comm q]
  omega
 ·rw [guess hu] at h;exact h
theorem digit_brk {B yn1 yn0 u d q r:Nat} (hy0:yn0<B) (hy1:0<yn1) (hyu:u<yn1 * B+yn0) (hu:q * yn1+r=u) (hr:B≤r):q * yn0≤r * B+d:=by
 have hq:q<B:=by
  refine Classical.byContradiction fun hn=>?_
  have:B * yn1≤q * yn1:=Nat.mul_le_mul_right _ (by omega)
  rw [Nat.mul_comm B] at this
  omega
 have h1:q * yn0≤B * B:=Nat.mul_le_mul (by omega) (by omega)
 have h2:B * B≤r * B:=Nat.mul_le_mul_right _ hr
 omega
theorem knuth {N y s U un1 un0 Y Q1 R1 Q0 R2 B:Nat} (hy:0<y) (hY:Y=y * 2 ^ s) (hN:N * 2 ^ s=(U * B+un1) * B+un0) (h1:U * B+un1=Q1 * Y+R1) (h2:R1 * B+un0=Q0 * Y+R2) (hr:R2<Y) :
  N / y=Q1 * B+Q0∧N % y=R2 / 2 ^ s:=by
 have hp:0<2 ^ s:=Nat.pow_pos (by decide)
 have e:N * 2 ^ s=(Q1 * B+Q0) * Y+R2:=by
  rw [hN,h1,Nat.add_mul,Nat.add_mul,Nat.mul_right_comm];omega
 have e1:N * 2 ^ s / Y=Q1 * B+Q0:=by
  rw [e,Nat.mul_comm _ Y,Nat.mul_add_div (by rw [hY];exact Nat.mul_pos hy hp),Nat.div_eq_of_lt hr,Nat.add_zero]
 have e2:N * 2 ^ s % Y=R2:=by
  rw [e,Nat.mul_comm _ Y,Nat.mul_add_mod,Nat.mod_eq_of_lt hr]
 rw [hY] at e1 e2
 rw [Nat.mul_div_mul_right _ _ hp] at e1
 rw [Nat.mul_mod_mul_right] at e2
 exact ⟨e1,by rw [← e2,Nat.mul_div_cancel _ hp]⟩
theorem shift_hi (hi lo s:Nat) (hs:s≤64):(hi * 18446744073709551616+lo) * 2 ^ s=(hi * 2 ^ s+lo / 2 ^ (64 - s)) * 18446744073709551616+lo * 2 ^ s % 18446744073709551616:=by
 have hp:0<2 ^ s:=Nat.pow_pos (by decide)
 have e:lo * 2 ^ s / 18446744073709551616=lo / 2 ^ (64 - s):=by
  have:(18446744073709551616:Nat)=2 ^ (64 - s) * 2 ^ s:=by rw [← Nat.pow_add,show 64 - s+s=64 by omega]
  rw [this,Nat.mul_div_mul_right _ _ hp]
 have:=Nat.div_add_mod (lo * 2 ^ s) 18446744073709551616
 rw [e] at this
 rw [Nat.add_mul,Nat.add_mul,Nat.mul_right_comm]
 omega
end Go.Lin

/- The contract of bits.Div64. By an AI agent;nothing here is trusted. -/
namespace Go.Proofs.YtgmpcbpmnimkoaaGreat
open Go.Av

theorem LeadingZeros64_s (x:Nat) (hx:x<18446744073709551616) (hb:Lib.bitLen x≤64):Sound Tryz.prog 90 [.int .u64 x] (.int .i64 ((64 - Lib.bitLen x:Nat):Int)):=by
 refine sound_W f_math_bits_LeadingZeros64 (Nat.le_of_ble_eq_true rfl) ?_
 have e:(64:Int) - (Lib.bitLen x:Int)=((64 - Lib.bitLen x:Nat):Int):=by omega
 simp only [c_math_bits_LeadingZeros64,vZ,Int.reduceEq,Int.reduceNe,Int.reduceLT,Int.reduceLE,Nat.reduceEqDiff,Nat.reduceAdd,reduceIte,reduceCtorEq,Nat.reduceLT,Nat.reduceLeDiff,Nat.reduceShiftRight,Nat.reduceMod]
 refine callS_of (Len64_s x hx) ?_
 simp only [e,vZ,Int.reduceEq,Int.reduceNe,Int.reduceLT,Int.reduceLE,Nat.reduceEqDiff,Nat.reduceAdd,reduceIte,reduceCtorEq,Nat.reduceLT,Nat.reduceLeDiff,Nat.reduceShiftRight,Nat.reduceMod]
 unfold I64;omega
theorem shl_u (a s:Nat) (hs:s≤64):IntKind.u64.wrap ((a:Int) * 2 ^ min s IntKind.u64.bits)=((a * 2 ^ s % 18446744073709551616:Nat):Int):=by
 have:min s IntKind.u64.bits=s:=Nat.min_eq_left hs
 rw [this,u64_mod]
 have:(a:Int) * 2 ^ s=((a * 2 ^ s:Nat):Int):=by simp
 rw [this];omega
theorem shr_u (a s:Nat) (hs:s≤64):(a:Int).fdiv (2 ^ min s IntKind.u64.bits)=((a / 2 ^ s:Nat):Int):=by
 have:min s IntKind.u64.bits=s:=Nat.min_eq_left hs
 rw [this]
 have:(2:Int) ^ s=((2 ^ s:Nat):Int):=by simp
 rw [this,Int.fdiv_eq_ediv_of_nonneg _ (Int.natCast_nonneg _)];rfl
theorem or_u (a b k:Nat) (hk:k≤64) (ha:2 ^ k ∣ a) (hb:b<2 ^ k) (h:a+b<18446744073709551616) :
  IntKind.u64.wrap ((((BitVec.ofInt IntKind.u64.bits (a:Int)) ||| (BitVec.ofInt IntKind.u64.bits (b:Int))).toNat:Nat):Int)=((a+b:Nat):Int):=by
 have e1:∀ x:Nat,x<18446744073709551616→(BitVec.ofInt IntKind.u64.bits (x:Int)).toNat=x:=fun x hx=>by
  rw [BitVec.toNat_ofInt]
  show ((x:Int) % ((2 ^ 64:Nat):Int)).toNat=x
  omega
 obtain ⟨c,rfl⟩:=ha
 have e2:2 ^ k * c ||| b=2 ^ k * c+b:=by
  rw [Nat.mul_comm,← Nat.shiftLeft_eq,Nat.shiftLeft_add_eq_or_of_lt hb]
 rw [BitVec.toNat_or,e1 _ (by omega),e1 _ (by omega),e2]
 exact u64_wrap (by omega)
theorem tdiv_u (a b:Nat) (h:a / b<18446744073709551616):IntKind.u64.wrap ((a:Int).tdiv b)=((a / b:Nat):Int):=by
 rw [show (a:Int).tdiv b=((a / b:Nat):Int) from rfl];generalize a / b=q at *;exact u64_wrap (by omega)
theorem tmod_u (a b:Nat):(a:Int).tmod b=((a % b:Nat):Int):=rfl
theorem mul_u (a b:Nat) (h:a * b<18446744073709551616):IntKind.u64.wrap ((a:Int) * b)=((a * b:Nat):Int):=by rw [← Int.natCast_mul];exact u64_wrap (by omega)
theorem add_u (a b:Nat) (h:a+b<18446744073709551616):IntKind.u64.wrap ((a:Int)+b)=((a+b:Nat):Int):=by rw [← Int.natCast_add];exact u64_wrap (by omega)
theorem sub_u (a b:Nat) (h:b≤a) (ha:a<18446744073709551616):IntKind.u64.wrap ((a:Int) - b)=((a - b:Nat):Int):=by
 have:(a:Int) - b=((a - b:Nat):Int):=by omega
 rw [this];exact u64_wrap (by omega)
theorem wrap3 (a b c r:Nat) (h:a+b=c+r) (hr:r<18446744073709551616):IntKind.u64.wrap (IntKind.u64.wrap (IntKind.u64.wrap (a:Int)+b) - IntKind.u64.wrap (c:Int))=(r:Int):=by
 simp only [u64_mod];omega

theorem div_tail {e:Env} {s:Store} {Y k un0 q1 u21 q0 Q R2 R:Nat} (h2:e 2=.int .u64 Y) (h8:e 8=.int .u64 k) (h14:e 14=.int .u64 un0) (h15:e 15=.int .u64 q1) (h17:e 17=.int .u64 u21) (h18:e 18=.int .u64 q0)
  (hk:k≤64) (hQ:q1 * 4294967296+q0=Q) (hQ64:Q<18446744073709551616) (hR:u21 * 4294967296+un0=q0 * Y+R2) (hR2:R2<18446744073709551616) (hRR:R2 / 2 ^ k=R) :
  WL Tryz.prog 135 cl_math_bits_Div64_19 (endQ [(6,none),(7,none)] (.tup [.int .u64 Q,.int .u64 R])) e s .mk:=by
 have w1:IntKind.u64.wrap ((q1:Int) * 4294967296)=((q1 * 4294967296:Nat):Int):=by rw [show (4294967296:Int)=((4294967296:Nat):Int) by rfl];exact mul_u _ _ (by omega)
 have w2:IntKind.u64.wrap (((q1 * 4294967296:Nat):Int)+(q0:Int))=(Q:Int):=by rw [add_u _ _ (by omega),hQ]
 have w3:IntKind.u64.wrap (IntKind.u64.wrap (IntKind.u64.wrap ((u21:Int) * 4294967296)+(un0:Int)) - IntKind.u64.wrap ((q0:Int) * (Y:Int)))=(R2:Int):=by
  have:=wrap3 (u21 * 4294967296) un0 (q0 * Y) R2 hR hR2
  rw [Int.natCast_mul,Int.natCast_mul] at this
  exact this
 have w4:=shr_u R2 k hk
 rw [hRR] at w4
 simp only [cl_math_bits_Div64_19,h2,h8,h14,h15,h17,h18,w1,w2,w3,w4,vZ,Int.reduceEq,Int.reduceNe,Int.reduceLT,Int.reduceLE,Nat.reduceEqDiff,Nat.reduceAdd,reduceIte,reduceCtorEq,Nat.reduceLT,Nat.reduceLeDiff,Nat.reduceShiftRight,Nat.reduceMod]
 exact Int.natCast_nonneg _
theorem dig_facts {yn1 yn0 u d q r:Nat} (hn0:yn0<4294967296) (hd:d<4294967296) (hr:r<4294967296) (hq:q<4294967296) :
  IntKind.u64.wrap ((q:Int) * yn0)=((q * yn0:Nat):Int)∧IntKind.u64.wrap (4294967296 * (r:Int))=((4294967296 * r:Nat):Int)∧IntKind.u64.wrap (((4294967296 * r:Nat):Int)+(d:Int))=((4294967296 * r+d:Nat):Int):=by
 have h1:q * yn0≤4294967295 * 4294967295:=Nat.mul_le_mul (by omega) (by omega)
 exact ⟨mul_u _ _ (by omega),by rw [show (4294967296:Int)=((4294967296:Nat):Int) by rfl];exact mul_u _ _ (by omega),add_u _ _ (by omega)⟩
theorem div_two {Y k yn1 yn0 un0 q1 u21:Nat} {v:AV} (hY:Y=yn1 * 4294967296+yn0) (hY64:Y<18446744073709551616) (hn0:yn0<4294967296) (hn1:2147483648≤yn1) (hu:u21<Y) (h0:un0<4294967296) (hk:k≤64)
  (htail:∀ (e:Env) (s:Store) (q0 R2:Nat),e 2=.int .u64 Y→e 8=.int .u64 k→e 14=.int .u64 un0→e 15=.int .u64 q1→e 17=.int .u64 u21→e 18=.int .u64 q0→u21 * 4294967296+un0=q0 * Y+R2→R2<Y→q0<4294967296 →
   WL Tryz.prog 135 cl_math_bits_Div64_19 (endQ [(6,none),(7,none)] v) e s .mk) (q r:Nat) (hqr:q * yn1+r=u21) (hr:r<4294967296) (hlo:(u21 * 4294967296+un0) / (yn1 * 4294967296+yn0)≤q) :
  WL Tryz.prog 135 cl_math_bits_Div64_18 (endQ [(6,none),(7,none)] v) (envOf [(2,.int .u64 Y),(8,.int .u64 k),(9,.int .u64 yn1),(10,.int .u64 yn0),(14,.int .u64 un0),(15,.int .u64 q1),(16,.int .u64 r),(17,.int .u64 u21),(18,.int .u64 q)]) (stOf []) .mk:=by
 have hfin:∀ q:Nat,q=(u21 * 4294967296+un0) / (yn1 * 4294967296+yn0)→∃ R2,u21 * 4294967296+un0=q * Y+R2∧R2<Y∧q<4294967296:=by
  intro q hq
  rw [← hY] at hq
  have e1:=Nat.div_add_mod (u21 * 4294967296+un0) Y
  have e2:=Nat.mod_lt (u21 * 4294967296+un0) (show 0<Y by omega)
  rw [← hq,Nat.mul_comm Y q] at e1
  refine ⟨_,e1.symm,e2,?_⟩
  rw [hq,Nat.div_lt_iff_lt_mul (by omega)]
  have:(u21+1) * 4294967296≤Y * 4294967296:=Nat.mul_le_mul_right _ hu
  omega
 have hq33:q * yn1≤u21:=by omega
 simp only [cl_math_bits_Div64_18,vZ,Int.reduceEq,Int.reduceNe,Int.reduceLT,Int.reduceLE,Nat.reduceEqDiff,Nat.reduceAdd,reduceIte,reduceCtorEq,Nat.reduceLT,Nat.reduceLeDiff,Nat.reduceShiftRight,Nat.reduceMod]
 refine WL_loop (t:=.mk) (α:=PSigma fun p:Nat × Nat=>p.1 * yn1+p.2=u21∧p.2<4294967296∧(u21 * 4294967296+un0) / (yn1 * 4294967296+yn0)≤p.1) (fun ⟨p,_⟩=>(envOf [(2,.int .u64 Y),(8,.int .u64 k),(9,.int .u64 yn1),(10,.int .u64 yn0),(14,.int .u64 un0),(15,.int .u64 q1),(16,.int .u64 p.2),(17,.int .u64 u21),(18,.int .u64 p.1)],stOf [])) (fun x=>x.1.1) ⟨(q,r),hqr,hr,hlo⟩ ?_ (fun ⟨⟨q,r⟩,hqr,hr,hlo⟩=>?_)
 ·refine weakX [] (of_decide_eq_true rfl) (of_decide_eq_true rfl) ?_
  (simp only [vcW,vZ,Int.reduceEq,Int.reduceNe,Int.reduceLT,Int.reduceLE,Nat.reduceEqDiff,Nat.reduceAdd,reduceIte,reduceCtorEq,Nat.reduceLT,Nat.reduceLeDiff,Nat.reduceShiftRight,Nat.reduceMod])
  (repeat' first | exact trivial | (with_reducible first | exact RnB.fxB (ints_fxB _) | rfl | refine And.intro ?_ ?_) | (with_reducible (first | refine RnB.bb ?_ | refine RnB.nb ?_);simp only [vcW,vZ,Int.reduceEq,Int.reduceNe,Int.reduceLT,Int.reduceLE,Nat.reduceEqDiff,Nat.reduceAdd,reduceIte,reduceCtorEq,Nat.reduceLT,Nat.reduceLeDiff,Nat.reduceShiftRight,Nat.reduceMod]) | (with_reducible first | refine RnB.ii ?_ | refine RnB.app ?_) | (with_reducible refine RnB.fxB ?_;simp only [vcW,vZ,Int.reduceEq,Int.reduceNe,Int.reduceLT,Int.reduceLE,Nat.reduceEqDiff,Nat.reduceAdd,reduceIte,reduceCtorEq,Nat.reduceLT,Nat.reduceLeDiff,Nat.reduceShiftRight,Nat.reduceMod]) | omega)
 ·dsimp only at hqr hr hlo ⊢
  have hqu:q≤u21:=Nat.le_trans (Nat.le_mul_of_pos_right q (by omega)) (show q * yn1≤u21 by omega)
  have go:(4294967296≤q∨r * 4294967296+un0<q * yn0)→q ≠ 0∧(q - 1) * yn1+(r+yn1)=u21∧(u21 * 4294967296+un0) / (yn1 * 4294967296+yn0)≤q - 1:=by
   intro h
   have h1:=Lin.digit_more hn0 (by omega) h0 (by omega) hqr h
   have hq0:q ≠ 0:=fun e=>by rw [e] at h1;exact Nat.not_lt_zero _ h1
   refine ⟨hq0,?_,Nat.le_sub_one_of_lt h1⟩
   have:(q - 1+1) * yn1=(q - 1) * yn1+yn1:=Nat.succ_mul _ _
   rw [show q - 1+1=q from Nat.succ_pred_eq_of_ne_zero hq0] at this
   omega
  have w5:q ≠ 0→IntKind.u64.wrap ((q:Int) - 1)=((q - 1:Nat):Int):=fun h=>by rw [show (1:Int)=((1:Nat):Int) by rfl];exact sub_u _ _ (by omega) (by omega)
  have w6:IntKind.u64.wrap ((r:Int)+(yn1:Int))=((r+yn1:Nat):Int):=add_u _ _ (by omega)
  have next:(4294967296≤q∨r * 4294967296+un0<q * yn0)→¬ 4294967296≤r+yn1→(q - 1) * yn1+(r+yn1)=u21∧r+yn1<4294967296∧(u21 * 4294967296+un0) / (yn1 * 4294967296+yn0)≤q - 1:=fun h h'=>⟨(go h).2.1,by omega,(go h).2.2⟩
  have brk:(4294967296≤q∨r * 4294967296+un0<q * yn0)→4294967296≤r+yn1→q - 1=(u21 * 4294967296+un0) / (yn1 * 4294967296+yn0):=fun h h'=>Lin.digit_ok hn0 (by omega) (go h).2.1 (go h).2.2 (Lin.digit_brk hn0 (by omega) (by omega) (go h).2.1 h')
  by_cases g1:4294967296≤q
  ·have g1':(4294967296:Int)≤q:=by omega
   have hq0:=(go (.inl g1)).1
   by_cases g2:4294967296≤r+yn1
   ·have g2':(4294967296:Int)≤((r+yn1:Nat):Int):=by omega
    obtain ⟨R2,f1,f2,f3⟩:=hfin _ (brk (.inl g1) g2)
    simp only [g1',w5 hq0,w6,g2',vZ,Int.reduceEq,Int.reduceNe,Int.reduceLT,Int.reduceLE,Nat.reduceEqDiff,Nat.reduceAdd,reduceIte,reduceCtorEq,Nat.reduceLT,Nat.reduceLeDiff,Nat.reduceShiftRight,Nat.reduceMod]
    exact WL_cut (htail _ _ (q - 1) R2 rfl rfl rfl rfl rfl rfl f1 f2 f3)
   ·have g2':¬ (4294967296:Int)≤((r+yn1:Nat):Int):=by omega
    simp only [g1',w5 hq0,w6,g2',vZ,Int.reduceEq,Int.reduceNe,Int.reduceLT,Int.reduceLE,Nat.reduceEqDiff,Nat.reduceAdd,reduceIte,reduceCtorEq,Nat.reduceLT,Nat.reduceLeDiff,Nat.reduceShiftRight,Nat.reduceMod]
    refine ⟨⟨(q - 1,r+yn1),next (.inl g1) g2⟩,by simp only;omega,?_⟩
    refine weakX [] (of_decide_eq_true rfl) (of_decide_eq_true rfl) ?_
    (simp only [vcW,vZ,Int.reduceEq,Int.reduceNe,Int.reduceLT,Int.reduceLE,Nat.reduceEqDiff,Nat.reduceAdd,reduceIte,reduceCtorEq,Nat.reduceLT,Nat.reduceLeDiff,Nat.reduceShiftRight,Nat.reduceMod])
    (repeat' first | exact trivial | (with_reducible first | exact RnB.fxB (ints_fxB _) | rfl | refine And.intro ?_ ?_) | (with_reducible (first | refine RnB.bb ?_ | refine RnB.nb ?_);simp only [vcW,vZ,Int.reduceEq,Int.reduceNe,Int.reduceLT,Int.reduceLE,Nat.reduceEqDiff,Nat.reduceAdd,reduceIte,reduceCtorEq,Nat.reduceLT,Nat.reduceLeDiff,Nat.reduceShiftRight,Nat.reduceMod]) | (with_reducible first | refine RnB.ii ?_ | refine RnB.app ?_) | (with_reducible refine RnB.fxB ?_;simp only [vcW,vZ,Int.reduceEq,Int.reduceNe,Int.reduceLT,Int.reduceLE,Nat.reduceEqDiff,Nat.reduceAdd,reduceIte,reduceCtorEq,Nat.reduceLT,Nat.reduceLeDiff,Nat.reduceShiftRight,Nat.reduceMod]) | omega)
  ·have g1':¬ (4294967296:Int)≤q:=by omega
   obtain ⟨v1,v2,v3⟩:=dig_facts (yn1:=yn1) (u:=u21) hn0 h0 hr (show q<4294967296 by omega)
   by_cases g3:r * 4294967296+un0<q * yn0
   ·have g3':((4294967296 * r+un0:Nat):Int)<((q * yn0:Nat):Int):=by omega
    have hq0:=(go (.inr g3)).1
    by_cases g2:4294967296≤r+yn1
    ·have g2':(4294967296:Int)≤((r+yn1:Nat):Int):=by omega
     obtain ⟨R2,f1,f2,f3⟩:=hfin _ (brk (.inr g3) g2)
     simp only [g1',v1,v2,v3,g3',w5 hq0,w6,g2',vZ,Int.reduceEq,Int.reduceNe,Int.reduceLT,Int.reduceLE,Nat.reduceEqDiff,Nat.reduceAdd,reduceIte,reduceCtorEq,Nat.reduceLT,Nat.reduceLeDiff,Nat.reduceShiftRight,Nat.reduceMod]
     exact WL_cut (htail _ _ (q - 1) R2 rfl rfl rfl rfl rfl rfl f1 f2 f3)
    ·have g2':¬ (4294967296:Int)≤((r+yn1:Nat):Int):=by omega
     simp only [g1',v1,v2,v3,g3',w5 hq0,w6,g2',vZ,Int.reduceEq,Int.reduceNe,Int.reduceLT,Int.reduceLE,Nat.reduceEqDiff,Nat.reduceAdd,reduceIte,reduceCtorEq,Nat.reduceLT,Nat.reduceLeDiff,Nat.reduceShiftRight,Nat.reduceMod]
     refine ⟨⟨(q - 1,r+yn1),next (.inr g3) g2⟩,by simp only;omega,?_⟩
     refine weakX [] (of_decide_eq_true rfl) (of_decide_eq_true rfl) ?_
     (simp only [vcW,vZ,Int.reduceEq,Int.reduceNe,Int.reduceLT,Int.reduceLE,Nat.reduceEqDiff,Nat.reduceAdd,reduceIte,reduceCtorEq,Nat.reduceLT,Nat.reduceLeDiff,Nat.reduceShiftRight,Nat.reduceMod])
     (repeat' first | exact trivial | (with_reducible first | exact RnB.fxB (ints_fxB _) | rfl | refine And.intro ?_ ?_) | (with_reducible (first | refine RnB.bb ?_ | refine RnB.nb ?_);simp only [vcW,vZ,Int.reduceEq,Int.reduceNe,Int.reduceLT,Int.reduceLE,Nat.reduceEqDiff,Nat.reduceAdd,reduceIte,reduceCtorEq,Nat.reduceLT,Nat.reduceLeDiff,Nat.reduceShiftRight,Nat.reduceMod]) | (with_reducible first | refine RnB.ii ?_ | refine RnB.app ?_) | (with_reducible refine RnB.fxB ?_;simp only [vcW,vZ,Int.reduceEq,Int.reduceNe,Int.reduceLT,Int.reduceLE,Nat.reduceEqDiff,Nat.reduceAdd,reduceIte,reduceCtorEq,Nat.reduceLT,Nat.reduceLeDiff,Nat.reduceShiftRight,Nat.reduceMod]) | omega)
   ·have g3':¬ ((4294967296 * r+un0:Nat):Int)<((q * yn0:Nat):Int):=by omega
    obtain ⟨R2,f1,f2,f3⟩:=hfin q (Lin.digit_ok hn0 (by omega) hqr hlo (by omega))
    simp only [g1',v1,v2,v3,g3',vZ,Int.reduceEq,Int.reduceNe,Int.reduceLT,Int.reduceLE,Nat.reduceEqDiff,Nat.reduceAdd,reduceIte,reduceCtorEq,Nat.reduceLT,Nat.reduceLeDiff,Nat.reduceShiftRight,Nat.reduceMod]
    exact WL_cut (htail _ _ q R2 rfl rfl rfl rfl rfl rfl f1 f2 f3)
end Go.Proofs.YtgmpcbpmnimkoaaGreat

/- The contract of bits.Div64,the first digit and the whole. By an AI agent;nothing here is trusted. -/
namespace Go.Proofs.YtgmpcbpmnimkoaaGreat
open Go.Av

theorem div_mid {e:Env} {s:Store} {Y k yn1 yn0 U un1 un0 q1 u21:Nat} {v:AV} (h2:e 2=.int .u64 Y) (h8:e 8=.int .u64 k) (h9:e 9=.int .u64 yn1) (h10:e 10=.int .u64 yn0) (h11:e 11=.int .u64 U) (h13:e 13=.int .u64 un1) (h14:e 14=.int .u64 un0) (h15:e 15=.int .u64 q1)
  (hs:s=stOf []) (hY:Y=yn1 * 4294967296+yn0) (hY64:Y<18446744073709551616) (hn0:yn0<4294967296) (hn1:2147483648≤yn1) (h0:un0<4294967296) (hk:k≤64) (hu:U * 4294967296+un1=q1 * Y+u21) (hu21:u21<Y)
  (htail:∀ (e:Env) (s:Store) (q0 R2:Nat),e 2=.int .u64 Y→e 8=.int .u64 k→e 14=.int .u64 un0→e 15=.int .u64 q1→e 17=.int .u64 u21→e 18=.int .u64 q0→u21 * 4294967296+un0=q0 * Y+R2→R2<Y→q0<4294967296 →
   WL Tryz.prog 135 cl_math_bits_Div64_19 (endQ [(6,none),(7,none)] v) e s .mk) :
  WL Tryz.prog 135 cl_math_bits_Div64_15 (endQ [(6,none),(7,none)] v) e s .mk:=by
 subst hs
 have w3:IntKind.u64.wrap (IntKind.u64.wrap (IntKind.u64.wrap ((U:Int) * 4294967296)+(un1:Int)) - IntKind.u64.wrap ((q1:Int) * (Y:Int)))=(u21:Int):=by
  have:=wrap3 (U * 4294967296) un1 (q1 * Y) u21 hu (by omega)
  rw [Int.natCast_mul,Int.natCast_mul] at this
  exact this
 have hq:u21 / yn1≤u21:=Nat.div_le_self _ _
 have w4:IntKind.u64.wrap ((u21:Int).tdiv yn1)=((u21 / yn1:Nat):Int):=tdiv_u _ _ (Nat.lt_of_le_of_lt hq (by omega))
 have hdm:=Nat.div_add_mod u21 yn1
 have hml:=Nat.mod_lt u21 (show yn1 > 0 by omega)
 have hlo:(u21 * 4294967296+un0) / (yn1 * 4294967296+yn0)≤u21 / yn1:=Lin.guess_top (by omega) (by omega) h0
 rw [Nat.mul_comm] at hdm
 have hy32:yn1<4294967296:=by omega
 generalize u21 / yn1=q at *
 generalize u21 % yn1=r at *
 have w5:IntKind.u64.wrap ((q:Int) * yn1)=((q * yn1:Nat):Int):=mul_u _ _ (by omega)
 have w6:IntKind.u64.wrap ((u21:Int) - ((q * yn1:Nat):Int))=(r:Int):=by
  rw [sub_u _ _ (by omega) (by omega)];congr 1;omega
 have hyn:¬ (yn1:Int)=0:=by omega
 simp only [cl_math_bits_Div64_15,h2,h8,h9,h10,h11,h13,h14,h15,w3,w4,w5,w6,hyn,ne_eq,not_false_eq_true,vZ,Int.reduceEq,Int.reduceNe,Int.reduceLT,Int.reduceLE,Nat.reduceEqDiff,Nat.reduceAdd,reduceIte,reduceCtorEq,Nat.reduceLT,Nat.reduceLeDiff,Nat.reduceShiftRight,Nat.reduceMod]
 refine WL_cutW (envOf [(2,.int .u64 Y),(8,.int .u64 k),(9,.int .u64 yn1),(10,.int .u64 yn0),(14,.int .u64 un0),(15,.int .u64 q1),(16,.int .u64 r),(17,.int .u64 u21),(18,.int .u64 q)],stOf []) rfl ?_ (div_two hY hY64 hn0 hn1 hu21 h0 hk htail q r hdm (by omega) hlo)
 refine weakX [] (of_decide_eq_true rfl) (of_decide_eq_true rfl) ?_
 (simp only [h2,h8,h9,h10,h11,h13,h14,h15,vcW,vZ,Int.reduceEq,Int.reduceNe,Int.reduceLT,Int.reduceLE,Nat.reduceEqDiff,Nat.reduceAdd,reduceIte,reduceCtorEq,Nat.reduceLT,Nat.reduceLeDiff,Nat.reduceShiftRight,Nat.reduceMod])
 (repeat' first | exact trivial | (with_reducible first | exact RnB.fxB (ints_fxB _) | rfl | refine And.intro ?_ ?_) | (with_reducible (first | refine RnB.bb ?_ | refine RnB.nb ?_);simp only [vcW,vZ,Int.reduceEq,Int.reduceNe,Int.reduceLT,Int.reduceLE,Nat.reduceEqDiff,Nat.reduceAdd,reduceIte,reduceCtorEq,Nat.reduceLT,Nat.reduceLeDiff,Nat.reduceShiftRight,Nat.reduceMod]) | (with_reducible first | refine RnB.ii ?_ | refine RnB.app ?_) | (with_reducible refine RnB.fxB ?_;simp only [vcW,vZ,Int.reduceEq,Int.reduceNe,Int.reduceLT,Int.reduceLE,Nat.reduceEqDiff,Nat.reduceAdd,reduceIte,reduceCtorEq,Nat.reduceLT,Nat.reduceLeDiff,Nat.reduceShiftRight,Nat.reduceMod]) | omega)
theorem div_one {Y k yn1 yn0 U un1 un0:Nat} {v:AV} (hY:Y=yn1 * 4294967296+yn0) (hY64:Y<18446744073709551616) (hn0:yn0<4294967296) (hn1:2147483648≤yn1) (hU:U<Y) (h1:un1<4294967296) (h0:un0<4294967296) (hk:k≤64)
  (htail:∀ (e:Env) (s:Store) (q1 u21 q0 R2:Nat),e 2=.int .u64 Y→e 8=.int .u64 k→e 14=.int .u64 un0→e 15=.int .u64 q1→e 17=.int .u64 u21→e 18=.int .u64 q0→U * 4294967296+un1=q1 * Y+u21→q1<4294967296→u21 * 4294967296+un0=q0 * Y+R2→R2<Y→q0<4294967296 →
   WL Tryz.prog 135 cl_math_bits_Div64_19 (endQ [(6,none),(7,none)] v) e s .mk) (q r:Nat) (hqr:q * yn1+r=U) (hr:r<4294967296) (hlo:(U * 4294967296+un1) / (yn1 * 4294967296+yn0)≤q) :
  WL Tryz.prog 135 cl_math_bits_Div64_14 (endQ [(6,none),(7,none)] v) (envOf [(2,.int .u64 Y),(8,.int .u64 k),(9,.int .u64 yn1),(10,.int .u64 yn0),(11,.int .u64 U),(13,.int .u64 un1),(14,.int .u64 un0),(15,.int .u64 q),(16,.int .u64 r)]) (stOf []) .mk:=by
 have hfin:∀ q:Nat,q=(U * 4294967296+un1) / (yn1 * 4294967296+yn0)→∃ R2,U * 4294967296+un1=q * Y+R2∧R2<Y∧q<4294967296:=by
  intro q hq
  rw [← hY] at hq
  have e1:=Nat.div_add_mod (U * 4294967296+un1) Y
  have e2:=Nat.mod_lt (U * 4294967296+un1) (show 0<Y by omega)
  rw [← hq,Nat.mul_comm Y q] at e1
  refine ⟨_,e1.symm,e2,?_⟩
  rw [hq,Nat.div_lt_iff_lt_mul (by omega)]
  have:(U+1) * 4294967296≤Y * 4294967296:=Nat.mul_le_mul_right _ hU
  omega
 have hend:∀ (e:Env) (s:Store) (q:Nat),q=(U * 4294967296+un1) / (yn1 * 4294967296+yn0)→e 2=.int .u64 Y→e 8=.int .u64 k→e 9=.int .u64 yn1→e 10=.int .u64 yn0→e 11=.int .u64 U→e 13=.int .u64 un1→e 14=.int .u64 un0→e 15=.int .u64 q→s=stOf [] →
   WL Tryz.prog 135 cl_math_bits_Div64_15 (endQ [(6,none),(7,none)] v) e s .mk:=by
  intro e s q hq g2 g8 g9 g10 g11 g13 g14 g15 gs
  obtain ⟨R,f1,f2,f3⟩:=hfin q hq
  exact div_mid g2 g8 g9 g10 g11 g13 g14 g15 gs hY hY64 hn0 hn1 h0 hk f1 f2 fun e s q0 R2 a2 a8 a14 a15 a17 a18 b1 b2 b3=>htail e s q R q0 R2 a2 a8 a14 a15 a17 a18 f1 f3 b1 b2 b3
 have hq33:q * yn1≤U:=by omega
 simp only [cl_math_bits_Div64_14,vZ,Int.reduceEq,Int.reduceNe,Int.reduceLT,Int.reduceLE,Nat.reduceEqDiff,Nat.reduceAdd,reduceIte,reduceCtorEq,Nat.reduceLT,Nat.reduceLeDiff,Nat.reduceShiftRight,Nat.reduceMod]
 refine WL_loop (t:=.mk) (α:=PSigma fun p:Nat × Nat=>p.1 * yn1+p.2=U∧p.2<4294967296∧(U * 4294967296+un1) / (yn1 * 4294967296+yn0)≤p.1) (fun ⟨p,_⟩=>(envOf [(2,.int .u64 Y),(8,.int .u64 k),(9,.int .u64 yn1),(10,.int .u64 yn0),(11,.int .u64 U),(13,.int .u64 un1),(14,.int .u64 un0),(15,.int .u64 p.1),(16,.int .u64 p.2)],stOf [])) (fun x=>x.1.1) ⟨(q,r),hqr,hr,hlo⟩ ?_ (fun ⟨⟨q,r⟩,hqr,hr,hlo⟩=>?_)
 ·refine weakX [] (of_decide_eq_true rfl) (of_decide_eq_true rfl) ?_
  (simp only [vcW,vZ,Int.reduceEq,Int.reduceNe,Int.reduceLT,Int.reduceLE,Nat.reduceEqDiff,Nat.reduceAdd,reduceIte,reduceCtorEq,Nat.reduceLT,Nat.reduceLeDiff,Nat.reduceShiftRight,Nat.reduceMod])
  (repeat' first | exact trivial | (with_reducible first | exact RnB.fxB (ints_fxB _) | rfl | refine And.intro ?_ ?_) | (with_reducible (first | refine RnB.bb ?_ | refine RnB.nb ?_);simp only [vcW,vZ,Int.reduceEq,Int.reduceNe,Int.reduceLT,Int.reduceLE,Nat.reduceEqDiff,Nat.reduceAdd,reduceIte,reduceCtorEq,Nat.reduceLT,Nat.reduceLeDiff,Nat.reduceShiftRight,Nat.reduceMod]) | (with_reducible first | refine RnB.ii ?_ | refine RnB.app ?_) | (with_reducible refine RnB.fxB ?_;simp only [vcW,vZ,Int.reduceEq,Int.reduceNe,Int.reduceLT,Int.reduceLE,Nat.reduceEqDiff,Nat.reduceAdd,reduceIte,reduceCtorEq,Nat.reduceLT,Nat.reduceLeDiff,Nat.reduceShiftRight,Nat.reduceMod]) | omega)
 ·dsimp only at hqr hr hlo ⊢
  have hqu:q≤U:=Nat.le_trans (Nat.le_mul_of_pos_right q (by omega)) (show q * yn1≤U by omega)
  have go:(4294967296≤q∨r * 4294967296+un1<q * yn0)→q ≠ 0∧(q - 1) * yn1+(r+yn1)=U∧(U * 4294967296+un1) / (yn1 * 4294967296+yn0)≤q - 1:=by
   intro h
   have h1:=Lin.digit_more hn0 (by omega) h1 (by omega) hqr h
   have hq0:q ≠ 0:=fun e=>by rw [e] at h1;exact Nat.not_lt_zero _ h1
   refine ⟨hq0,?_,Nat.le_sub_one_of_lt h1⟩
   have:(q - 1+1) * yn1=(q - 1) * yn1+yn1:=Nat.succ_mul _ _
   rw [show q - 1+1=q from Nat.succ_pred_eq_of_ne_zero hq0] at this
   omega
  have w5:q ≠ 0→IntKind.u64.wrap ((q:Int) - 1)=((q - 1:Nat):Int):=fun h=>by rw [show (1:Int)=((1:Nat):Int) by rfl];exact sub_u _ _ (by omega) (by omega)
  have w6:IntKind.u64.wrap ((r:Int)+(yn1:Int))=((r+yn1:Nat):Int):=add_u _ _ (by omega)
  have next:(4294967296≤q∨r * 4294967296+un1<q * yn0)→¬ 4294967296≤r+yn1→(q - 1) * yn1+(r+yn1)=U∧r+yn1<4294967296∧(U * 4294967296+un1) / (yn1 * 4294967296+yn0)≤q - 1:=fun h h'=>⟨(go h).2.1,by omega,(go h).2.2⟩
  have brk:(4294967296≤q∨r * 4294967296+un1<q * yn0)→4294967296≤r+yn1→q - 1=(U * 4294967296+un1) / (yn1 * 4294967296+yn0):=fun h h'=>Lin.digit_ok hn0 (by omega) (go h).2.1 (go h).2.2 (Lin.digit_brk hn0 (by omega) (by omega) (go h).2.1 h')
  by_cases g1:4294967296≤q
  ·have g1':(4294967296:Int)≤q:=by omega
   have hq0:=(go (.inl g1)).1
   by_cases g2:4294967296≤r+yn1
   ·have g2':(4294967296:Int)≤((r+yn1:Nat):Int):=by omega
    have hb:=brk (.inl g1) g2
    simp only [g1',w5 hq0,w6,g2',vZ,Int.reduceEq,Int.reduceNe,Int.reduceLT,Int.reduceLE,Nat.reduceEqDiff,Nat.reduceAdd,reduceIte,reduceCtorEq,Nat.reduceLT,Nat.reduceLeDiff,Nat.reduceShiftRight,Nat.reduceMod]
    exact WL_cut (hend _ _ (q - 1) hb rfl rfl rfl rfl rfl rfl rfl rfl rfl)
   ·have g2':¬ (4294967296:Int)≤((r+yn1:Nat):Int):=by omega
    simp only [g1',w5 hq0,w6,g2',vZ,Int.reduceEq,Int.reduceNe,Int.reduceLT,Int.reduceLE,Nat.reduceEqDiff,Nat.reduceAdd,reduceIte,reduceCtorEq,Nat.reduceLT,Nat.reduceLeDiff,Nat.reduceShiftRight,Nat.reduceMod]
    refine ⟨⟨(q - 1,r+yn1),next (.inl g1) g2⟩,by simp only;omega,?_⟩
    refine weakX [] (of_decide_eq_true rfl) (of_decide_eq_true rfl) ?_
    (simp only [vcW,vZ,Int.reduceEq,Int.reduceNe,Int.reduceLT,Int.reduceLE,Nat.reduceEqDiff,Nat.reduceAdd,reduceIte,reduceCtorEq,Nat.reduceLT,Nat.reduceLeDiff,Nat.reduceShiftRight,Nat.reduceMod])
    (repeat' first | exact trivial | (with_reducible first | exact RnB.fxB (ints_fxB _) | rfl | refine And.intro ?_ ?_) | (with_reducible (first | refine RnB.bb ?_ | refine RnB.nb ?_);simp only [vcW,vZ,Int.reduceEq,Int.reduceNe,Int.reduceLT,Int.reduceLE,Nat.reduceEqDiff,Nat.reduceAdd,reduceIte,reduceCtorEq,Nat.reduceLT,Nat.reduceLeDiff,Nat.reduceShiftRight,Nat.reduceMod]) | (with_reducible first | refine RnB.ii ?_ | refine RnB.app ?_) | (with_reducible refine RnB.fxB ?_;simp only [vcW,vZ,Int.reduceEq,Int.reduceNe,Int.reduceLT,Int.reduceLE,Nat.reduceEqDiff,Nat.reduceAdd,reduceIte,reduceCtorEq,Nat.reduceLT,Nat.reduceLeDiff,Nat.reduceShiftRight,Nat.reduceMod]) | omega)
  ·have g1':¬ (4294967296:Int)≤q:=by omega
   obtain ⟨v1,v2,v3⟩:=dig_facts (yn1:=yn1) (u:=U) hn0 h1 hr (show q<4294967296 by omega)
   by_cases g3:r * 4294967296+un1<q * yn0
   ·have g3':((4294967296 * r+un1:Nat):Int)<((q * yn0:Nat):Int):=by omega
    have hq0:=(go (.inr g3)).1
    by_cases g2:4294967296≤r+yn1
    ·have g2':(4294967296:Int)≤((r+yn1:Nat):Int):=by omega
     have hb:=brk (.inr g3) g2
     simp only [g1',v1,v2,v3,g3',w5 hq0,w6,g2',vZ,Int.reduceEq,Int.reduceNe,Int.reduceLT,Int.reduceLE,Nat.reduceEqDiff,Nat.reduceAdd,reduceIte,reduceCtorEq,Nat.reduceLT,Nat.reduceLeDiff,Nat.reduceShiftRight,Nat.reduceMod]
     exact WL_cut (hend _ _ (q - 1) hb rfl rfl rfl rfl rfl rfl rfl rfl rfl)
    ·have g2':¬ (4294967296:Int)≤((r+yn1:Nat):Int):=by omega
     simp only [g1',v1,v2,v3,g3',w5 hq0,w6,g2',vZ,Int.reduceEq,Int.reduceNe,Int.reduceLT,Int.reduceLE,Nat.reduceEqDiff,Nat.reduceAdd,reduceIte,reduceCtorEq,Nat.reduceLT,Nat.reduceLeDiff,Nat.reduceShiftRight,Nat.reduceMod]
     refine ⟨⟨(q - 1,r+yn1),next (.inr g3) g2⟩,by simp only;omega,?_⟩
     refine weakX [] (of_decide_eq_true rfl) (of_decide_eq_true rfl) ?_
     (simp only [vcW,vZ,Int.reduceEq,Int.reduceNe,Int.reduceLT,Int.reduceLE,Nat.reduceEqDiff,Nat.reduceAdd,reduceIte,reduceCtorEq,Nat.reduceLT,Nat.reduceLeDiff,Nat.reduceShiftRight,Nat.reduceMod])
     (repeat' first | exact trivial | (with_reducible first | exact RnB.fxB (ints_fxB _) | rfl | refine And.intro ?_ ?_) | (with_reducible (first | refine RnB.bb ?_ | refine RnB.nb ?_);simp only [vcW,vZ,Int.reduceEq,Int.reduceNe,Int.reduceLT,Int.reduceLE,Nat.reduceEqDiff,Nat.reduceAdd,reduceIte,reduceCtorEq,Nat.reduceLT,Nat.reduceLeDiff,Nat.reduceShiftRight,Nat.reduceMod]) | (with_reducible first | refine RnB.ii ?_ | refine RnB.app ?_) | (with_reducible refine RnB.fxB ?_;simp only [vcW,vZ,Int.reduceEq,Int.reduceNe,Int.reduceLT,Int.reduceLE,Nat.reduceEqDiff,Nat.reduceAdd,reduceIte,reduceCtorEq,Nat.reduceLT,Nat.reduceLeDiff,Nat.reduceShiftRight,Nat.reduceMod]) | omega)
   ·have g3':¬ ((4294967296 * r+un1:Nat):Int)<((q * yn0:Nat):Int):=by omega
    have hb:=Lin.digit_ok hn0 (by omega) hqr hlo (show q * yn0≤r * 4294967296+un1 by omega)
    simp only [g1',v1,v2,v3,g3',vZ,Int.reduceEq,Int.reduceNe,Int.reduceLT,Int.reduceLE,Nat.reduceEqDiff,Nat.reduceAdd,reduceIte,reduceCtorEq,Nat.reduceLT,Nat.reduceLeDiff,Nat.reduceShiftRight,Nat.reduceMod]
    exact WL_cut (hend _ _ q hb rfl rfl rfl rfl rfl rfl rfl rfl rfl)
theorem bitLen_ok {y:Nat} (h0:y ≠ 0) (hy:y<18446744073709551616):Lib.bitLen y≤64∧2 ^ 63≤y * 2 ^ (64 - Lib.bitLen y)∧y * 2 ^ (64 - Lib.bitLen y)<2 ^ 64:=by
 obtain ⟨h1,h2,h3⟩:=Lib.bitLenAux_bounds 64 y (by omega) h0
 have e:Lib.bitLenAux 64 y=Lib.bitLen y:=rfl
 rw [e] at h1 h2 h3
 have h4:Lib.bitLen y≤64:=by
  refine Classical.byContradiction fun hn=>?_
  have:2 ^ 64≤2 ^ (Lib.bitLen y - 1):=Nat.pow_le_pow_right (by omega) (by omega)
  omega
 have hp:0<2 ^ (64 - Lib.bitLen y):=Nat.pow_pos (by decide)
 refine ⟨h4,?_,?_⟩
 ·have:2 ^ (Lib.bitLen y - 1) * 2 ^ (64 - Lib.bitLen y)≤y * 2 ^ (64 - Lib.bitLen y):=Nat.mul_le_mul_right _ h2
  rw [← Nat.pow_add,show Lib.bitLen y - 1+(64 - Lib.bitLen y)=63 by omega] at this
  exact this
 ·have:y * 2 ^ (64 - Lib.bitLen y)<2 ^ Lib.bitLen y * 2 ^ (64 - Lib.bitLen y):=(Nat.mul_lt_mul_right hp).2 h3
  rw [← Nat.pow_add,show Lib.bitLen y+(64 - Lib.bitLen y)=64 by omega] at this
  exact this
theorem two_limbs {U un1 un0 L:Nat} (h:4294967296 * un1+un0=L):U * 18446744073709551616+L=(U * 4294967296+un1) * 4294967296+un0:=by omega
theorem Div64_s (hi lo y:Nat) (hlo:lo<18446744073709551616) (hy:y<18446744073709551616) (h:hi<y):Sound Tryz.prog 68 [.int .u64 hi,.int .u64 lo,.int .u64 y]
  (.tup [.int .u64 (((hi * 18446744073709551616+lo) / y:Nat):Int),.int .u64 (((hi * 18446744073709551616+lo) % y:Nat):Int)]):=by
 refine sound_WL f_math_bits_Div64 e_math_bits_Div64 (Nat.le_of_ble_eq_true rfl) ?_
 have g1:¬ (y:Int)=0:=by omega
 have g2:¬ (y:Int)≤hi:=by omega
 by_cases h0:hi=0
 ·subst h0
  have w1:IntKind.u64.wrap ((lo:Int).tdiv y)=((lo / y:Nat):Int):=tdiv_u _ _ (Nat.lt_of_le_of_lt (Nat.div_le_self _ _) hlo)
  have w2:=tmod_u lo y
  rw [Nat.zero_mul,Nat.zero_add]
  have g2':¬ (y:Int)≤0:=by omega
  simp only [cl_math_bits_Div64,g1,g2',w1,w2,ne_eq,not_false_eq_true,Int.natCast_zero,vZ,Int.reduceEq,Int.reduceNe,Int.reduceLT,Int.reduceLE,Nat.reduceEqDiff,Nat.reduceAdd,reduceIte,reduceCtorEq,Nat.reduceLT,Nat.reduceLeDiff,Nat.reduceShiftRight,Nat.reduceMod]
 ·have g3:¬ (hi:Int)=0:=by omega
  obtain ⟨b1,b2,b3⟩:=bitLen_ok (show y ≠ 0 by omega) hy
  have hLZ:=LeadingZeros64_s y hy b1
  have hs63:64 - Lib.bitLen y≤64:=by omega
  generalize 64 - Lib.bitLen y=k at *
  have hp:0<2 ^ k:=Nat.pow_pos (by decide)
  have hsh:=Lin.shift_hi hi lo k hs63
  have hkk:2 ^ k * 2 ^ (64 - k)=18446744073709551616:=by rw [← Nat.pow_add,show k+(64 - k)=64 by omega]
  have hb4:lo / 2 ^ (64 - k)<2 ^ k:=by
   rw [Nat.div_lt_iff_lt_mul (Nat.pow_pos (by decide)),hkk];exact hlo
  have hHy:(hi+1) * 2 ^ k≤y * 2 ^ k:=Nat.mul_le_mul_right _ h
  rw [Nat.add_mul,Nat.one_mul] at hHy
  have hdv:2 ^ k ∣ hi * 2 ^ k:=Nat.dvd_mul_left _ _
  have ws:IntKind.u64.wrap (k:Int)=(k:Int):=u64_wrap (by omega)
  have wY:=shl_u y k hs63
  have wA:=shl_u hi k hs63
  have wr:IntKind.u64.wrap (64 - (k:Int))=((64 - k:Nat):Int):=by rw [show (64:Int)=((64:Nat):Int) by rfl];exact sub_u _ _ hs63 (by omega)
  have wB:=shr_u lo (64 - k) (by omega)
  have wL:=shl_u lo k hs63
  have hLlt:=Nat.mod_lt (lo * 2 ^ k) (show 18446744073709551616 > 0 by omega)
  rw [Nat.mod_eq_of_lt (show y * 2 ^ k<18446744073709551616 by omega)] at wY
  rw [Nat.mod_eq_of_lt (show hi * 2 ^ k<18446744073709551616 by omega)] at wA
  have wU:=or_u (hi * 2 ^ k) (lo / 2 ^ (64 - k)) k hs63 hdv hb4 (by omega)
  obtain ⟨Y,hYd⟩:∃ Y,Y=y * 2 ^ k:=⟨_,rfl⟩
  obtain ⟨U,hUd⟩:∃ U,U=hi * 2 ^ k+lo / 2 ^ (64 - k):=⟨_,rfl⟩
  obtain ⟨L,hLd⟩:∃ L,L=lo * 2 ^ k % 18446744073709551616:=⟨_,rfl⟩
  rw [← hUd,← hLd] at hsh
  rw [← hYd] at wY b2 b3 hHy
  rw [← hUd] at wU
  rw [← hLd] at wL hLlt
  have hUY:U<Y:=by omega
  have s1:=shr32 Y
  have a1:=and32 Y (by omega)
  have s2:=shr32 L
  have a2:=and32 L (by omega)
  have eY:=Nat.div_add_mod Y 4294967296
  have eL:=Nat.div_add_mod L 4294967296
  have lY:=Nat.mod_lt Y (show 4294967296 > 0 by omega)
  have lL:=Nat.mod_lt L (show 4294967296 > 0 by omega)
  obtain ⟨yn1,hyn1⟩:∃ a,a=Y / 4294967296:=⟨_,rfl⟩
  obtain ⟨yn0,hyn0⟩:∃ a,a=Y % 4294967296:=⟨_,rfl⟩
  obtain ⟨un1,hun1⟩:∃ a,a=L / 4294967296:=⟨_,rfl⟩
  obtain ⟨un0,hun0⟩:∃ a,a=L % 4294967296:=⟨_,rfl⟩
  rw [← hyn1] at s1 eY
  rw [← hyn0] at a1 eY lY
  rw [← hun1] at s2 eL
  rw [← hun0] at a2 eL lL
  have hn1:2147483648≤yn1:=by omega
  have hq:=Nat.div_le_self U yn1
  have w7:IntKind.u64.wrap ((U:Int).tdiv yn1)=((U / yn1:Nat):Int):=tdiv_u _ _ (Nat.lt_of_le_of_lt hq (by omega))
  have hdm:=Nat.div_add_mod U yn1
  have hml:=Nat.mod_lt U (show yn1 > 0 by omega)
  have hgt:(U * 4294967296+un1) / (yn1 * 4294967296+yn0)≤U / yn1:=Lin.guess_top (by omega) (by omega) (by omega)
  rw [Nat.mul_comm] at hdm
  generalize U / yn1=q at *
  generalize U % yn1=r at *
  have w8:IntKind.u64.wrap ((q:Int) * yn1)=((q * yn1:Nat):Int):=mul_u _ _ (by omega)
  have w9:IntKind.u64.wrap ((U:Int) - ((q * yn1:Nat):Int))=(r:Int):=by
   rw [sub_u _ _ (by omega) (by omega)];congr 1;omega
  have hyn:¬ (yn1:Int)=0:=by omega
  have hk0:(0:Int)≤(k:Int):=by omega
  have hk1:(0:Int)≤((64 - k:Nat):Int):=by omega
  simp only [cl_math_bits_Div64,g1,g2,g3,vZ,Int.reduceEq,Int.reduceNe,Int.reduceLT,Int.reduceLE,Nat.reduceEqDiff,Nat.reduceAdd,reduceIte,reduceCtorEq,Nat.reduceLT,Nat.reduceLeDiff,Nat.reduceShiftRight,Nat.reduceMod]
  refine callS_of hLZ ?_
  simp only [ws,wY,s1,a1,wA,wr,wB,wU,wL,s2,a2,w7,w8,w9,hyn,hk0,hk1,ne_eq,not_false_eq_true,vZ,Int.reduceEq,Int.reduceNe,Int.reduceLT,Int.reduceLE,Nat.reduceEqDiff,Nat.reduceAdd,reduceIte,reduceCtorEq,Nat.reduceLT,Nat.reduceLeDiff,Nat.reduceShiftRight,Nat.reduceMod]
  refine WL_cutW (envOf [(2,.int .u64 Y),(8,.int .u64 k),(9,.int .u64 yn1),(10,.int .u64 yn0),(11,.int .u64 U),(13,.int .u64 un1),(14,.int .u64 un0),(15,.int .u64 q),(16,.int .u64 r)],stOf []) rfl ?_
   (div_one (Y:=Y) (k:=k) (by omega) (by omega) (by omega) hn1 hUY (by omega) (by omega) hs63 ?_ q r hdm (by omega) hgt)
  ·refine weakX [] (of_decide_eq_true rfl) (of_decide_eq_true rfl) ?_
   (simp only [vcW,vZ,Int.reduceEq,Int.reduceNe,Int.reduceLT,Int.reduceLE,Nat.reduceEqDiff,Nat.reduceAdd,reduceIte,reduceCtorEq,Nat.reduceLT,Nat.reduceLeDiff,Nat.reduceShiftRight,Nat.reduceMod])
   (repeat' first | exact trivial | (with_reducible first | exact RnB.fxB (ints_fxB _) | rfl | refine And.intro ?_ ?_) | (with_reducible (first | refine RnB.bb ?_ | refine RnB.nb ?_);simp only [vcW,vZ,Int.reduceEq,Int.reduceNe,Int.reduceLT,Int.reduceLE,Nat.reduceEqDiff,Nat.reduceAdd,reduceIte,reduceCtorEq,Nat.reduceLT,Nat.reduceLeDiff,Nat.reduceShiftRight,Nat.reduceMod]) | (with_reducible first | refine RnB.ii ?_ | refine RnB.app ?_) | (with_reducible refine RnB.fxB ?_;simp only [vcW,vZ,Int.reduceEq,Int.reduceNe,Int.reduceLT,Int.reduceLE,Nat.reduceEqDiff,Nat.reduceAdd,reduceIte,reduceCtorEq,Nat.reduceLT,Nat.reduceLeDiff,Nat.reduceShiftRight,Nat.reduceMod]) | omega)
  ·intro e s q1 u21 q0 R2 a2 a8 a14 a15 a17 a18 f1 f2 f3 f4 f5
   have hN:(hi * 18446744073709551616+lo) * 2 ^ k=(U * 4294967296+un1) * 4294967296+un0:=by
    rw [hsh]
    exact two_limbs eL
   obtain ⟨k1,k2⟩:=Lin.knuth (N:=hi * 18446744073709551616+lo) (y:=y) (s:=k) (by omega) hYd hN f1 f3 f4
   have hQ64:q1 * 4294967296+q0<18446744073709551616:=by omega
   exact div_tail a2 a8 a14 a15 a17 a18 hs63 k1.symm (by rw [k1];exact hQ64) f3 (by omega) k2.symm
end Go.Proofs.YtgmpcbpmnimkoaaGreat

/- Numbers of 128 bits of the chapter's code: product,sum,rounded quotient. By an AI agent;nothing here is trusted. -/
namespace Go.Proofs.YtgmpcbpmnimkoaaGreat
open Go.Av

theorem product_s (a b:Int) (ha:S63 a) (hb:S63 b):Sound Tryz.prog 30 [.int .i64 a,.int .i64 b] (wdA (decide (a<0) != decide (b<0)) (a.natAbs * b.natAbs)):=by
 refine sound_W f_watch_product (Nat.le_of_ble_eq_true rfl) ?_
 unfold S63 at ha hb
 have h1:=max_neg a
 have h2:=max_neg b
 have w1:IntKind.u64.wrap (a.natAbs:Int)=(a.natAbs:Int):=u64_wrap (by omega)
 have w2:IntKind.u64.wrap (b.natAbs:Int)=(b.natAbs:Int):=u64_wrap (by omega)
 have hM:=Mul64_s a.natAbs b.natAbs (by omega) (by omega)
 unfold wdA
 simp only [c_watch_product,h1,h2,vZ,Int.reduceEq,Int.reduceNe,Int.reduceLT,Int.reduceLE,Nat.reduceEqDiff,Nat.reduceAdd,reduceIte,reduceCtorEq,Nat.reduceLT,Nat.reduceLeDiff,Nat.reduceShiftRight,Nat.reduceMod]
 (repeat (with_reducible refine And.intro ?_ ?_;focus (first | omega | (unfold I64;omega))))
 simp only [h1,h2,w1,w2,vZ,Int.reduceEq,Int.reduceNe,Int.reduceLT,Int.reduceLE,Nat.reduceEqDiff,Nat.reduceAdd,reduceIte,reduceCtorEq,Nat.reduceLT,Nat.reduceLeDiff,Nat.reduceShiftRight,Nat.reduceMod]
 refine callS_of hM ?_
 simp only [vZ,Int.reduceEq,Int.reduceNe,Int.reduceLT,Int.reduceLE,Nat.reduceEqDiff,Nat.reduceAdd,reduceIte,reduceCtorEq,Nat.reduceLT,Nat.reduceLeDiff,Nat.reduceShiftRight,Nat.reduceMod]
 cases decide (a<0) <;> cases decide (b<0) <;> rfl
theorem wplus_same_s (b:Bool) (m n:Nat) (h:W128 (m+n)):Sound Tryz.prog 31 [wdA b m,wdA b n] (wdA b (m+n)):=by
 refine sound_W f_watch_wide_plus (Nat.le_of_ble_eq_true rfl) ?_
 unfold W128 at h
 have em:=Nat.div_add_mod m 18446744073709551616
 have en:=Nat.div_add_mod n 18446744073709551616
 have lm:=Nat.mod_lt m (show 18446744073709551616 > 0 by omega)
 have ln:=Nat.mod_lt n (show 18446744073709551616 > 0 by omega)
 have hA:=Add64_s ((m % 18446744073709551616:Nat):Int) ((n % 18446744073709551616:Nat):Int) 0 (by omega) (by omega) (by omega)
 unfold wdA
 have q1:(m+n) / 18446744073709551616=m / 18446744073709551616+n / 18446744073709551616+(m % 18446744073709551616+n % 18446744073709551616) / 18446744073709551616:=by omega
 have q2:(m+n) % 18446744073709551616=(m % 18446744073709551616+n % 18446744073709551616) % 18446744073709551616:=by omega
 rw [q1,q2]
 generalize m / 18446744073709551616=mh at *
 generalize m % 18446744073709551616=ml at *
 generalize n / 18446744073709551616=nh at *
 generalize n % 18446744073709551616=nl at *
 have e1:((ml:Int)+nl+0) / 18446744073709551616=(((ml+nl) / 18446744073709551616:Nat):Int):=by omega
 have e2:((ml:Int)+nl+0) % 18446744073709551616=(((ml+nl) % 18446744073709551616:Nat):Int):=by omega
 rw [e1,e2] at hA
 have w1:IntKind.u64.wrap ((mh:Int)+nh)=((mh+nh:Nat):Int):=by rw [← Int.natCast_add];exact u64_wrap (by omega)
 have w2:IntKind.u64.wrap (((mh+nh:Nat):Int)+(((ml+nl) / 18446744073709551616:Nat):Int))=((mh+nh+(ml+nl) / 18446744073709551616:Nat):Int):=by rw [← Int.natCast_add];exact u64_wrap (by omega)
 simp only [c_watch_wide_plus,vZ,Int.reduceEq,Int.reduceNe,Int.reduceLT,Int.reduceLE,Nat.reduceEqDiff,Nat.reduceAdd,reduceIte,reduceCtorEq,Nat.reduceLT,Nat.reduceLeDiff,Nat.reduceShiftRight,Nat.reduceMod]
 refine callS_of hA ?_
 simp only [w1,w2,vZ,Int.reduceEq,Int.reduceNe,Int.reduceLT,Int.reduceLE,Nat.reduceEqDiff,Nat.reduceAdd,reduceIte,reduceCtorEq,Nat.reduceLT,Nat.reduceLeDiff,Nat.reduceShiftRight,Nat.reduceMod]
set_option maxHeartbeats 4000000 in
theorem wplus_other_s (b:Bool) (m n:Nat) (hm:W128 m) (hn:W128 n):Sound Tryz.prog 31 [wdA b m,wdA (!b) n] (if m<n then wdA (!b) (n - m) else wdA b (m - n)):=by
 refine sound_W f_watch_wide_plus (Nat.le_of_ble_eq_true rfl) ?_
 unfold W128 at hm hn
 have em:=Nat.div_add_mod m 18446744073709551616
 have en:=Nat.div_add_mod n 18446744073709551616
 have lm:=Nat.mod_lt m (show 18446744073709551616 > 0 by omega)
 have ln:=Nat.mod_lt n (show 18446744073709551616 > 0 by omega)
 have hS1:=Sub64_s (m % 18446744073709551616) (n % 18446744073709551616) 0 (by omega)
 have hS2:=Sub64_s (n % 18446744073709551616) (m % 18446744073709551616) 0 (by omega)
 have key:∀ x y:Nat,y≤x→x<340282366920938463463374607431768211456 →
   IntKind.u64.wrap (IntKind.u64.wrap (((x / 18446744073709551616:Nat):Int) - ((y / 18446744073709551616:Nat):Int)) - ((if x % 18446744073709551616<y % 18446744073709551616+0 then 1 else 0:Nat):Int))=(((x - y) / 18446744073709551616:Nat):Int) ∧
   (x % 18446744073709551616+18446744073709551616 - y % 18446744073709551616 - 0) % 18446744073709551616=(x - y) % 18446744073709551616:=by
  intro x y hxy hx
  rw [u64_mod,u64_mod]
  split <;> omega
 unfold wdA
 by_cases h1:((m / 18446744073709551616:Nat):Int)<((n / 18446744073709551616:Nat):Int)
 ·have hlt:m<n:=by omega
  obtain ⟨k1,k2⟩:=key n m (by omega) hn
  rw [if_pos hlt]
  rw [k2] at hS2
  cases b
  all_goals
   simp only [c_watch_wide_plus,h1,vZ,Int.reduceEq,Int.reduceNe,Int.reduceLT,Int.reduceLE,Nat.reduceEqDiff,Nat.reduceAdd,reduceIte,reduceCtorEq,Nat.reduceLT,Nat.reduceLeDiff,Nat.reduceShiftRight,Nat.reduceMod]
   refine callS_of hS2 ?_
   simp only [k1,vZ,Int.reduceEq,Int.reduceNe,Int.reduceLT,Int.reduceLE,Nat.reduceEqDiff,Nat.reduceAdd,reduceIte,reduceCtorEq,Nat.reduceLT,Nat.reduceLeDiff,Nat.reduceShiftRight,Nat.reduceMod]
 ·by_cases h2:((m / 18446744073709551616:Nat):Int)=((n / 18446744073709551616:Nat):Int)
  ·by_cases h3:((m % 18446744073709551616:Nat):Int)<((n % 18446744073709551616:Nat):Int)
   ·have hlt:m<n:=by omega
    obtain ⟨k1,k2⟩:=key n m (by omega) hn
    rw [if_pos hlt]
    rw [k2] at hS2
    have h1':¬ ((n / 18446744073709551616:Nat):Int)<((n / 18446744073709551616:Nat):Int):=by omega
    rw [h2]
    cases b
    all_goals
     simp only [c_watch_wide_plus,h1',h3,vZ,Int.reduceEq,Int.reduceNe,Int.reduceLT,Int.reduceLE,Nat.reduceEqDiff,Nat.reduceAdd,reduceIte,reduceCtorEq,Nat.reduceLT,Nat.reduceLeDiff,Nat.reduceShiftRight,Nat.reduceMod]
     refine callS_of hS2 ?_
     rw [h2] at k1
     simp only [k1,vZ,Int.reduceEq,Int.reduceNe,Int.reduceLT,Int.reduceLE,Nat.reduceEqDiff,Nat.reduceAdd,reduceIte,reduceCtorEq,Nat.reduceLT,Nat.reduceLeDiff,Nat.reduceShiftRight,Nat.reduceMod]
   ·have hlt:¬ m<n:=by omega
    obtain ⟨k1,k2⟩:=key m n (by omega) hm
    rw [if_neg hlt]
    rw [k2] at hS1
    have h1':¬ ((n / 18446744073709551616:Nat):Int)<((n / 18446744073709551616:Nat):Int):=by omega
    rw [h2]
    rw [h2] at k1
    cases b
    all_goals
     simp only [c_watch_wide_plus,h1',h3,vZ,Int.reduceEq,Int.reduceNe,Int.reduceLT,Int.reduceLE,Nat.reduceEqDiff,Nat.reduceAdd,reduceIte,reduceCtorEq,Nat.reduceLT,Nat.reduceLeDiff,Nat.reduceShiftRight,Nat.reduceMod]
     refine callS_of hS1 ?_
     simp only [k1,vZ,Int.reduceEq,Int.reduceNe,Int.reduceLT,Int.reduceLE,Nat.reduceEqDiff,Nat.reduceAdd,reduceIte,reduceCtorEq,Nat.reduceLT,Nat.reduceLeDiff,Nat.reduceShiftRight,Nat.reduceMod]
  ·have hlt:¬ m<n:=by omega
   obtain ⟨k1,k2⟩:=key m n (by omega) hm
   rw [if_neg hlt]
   rw [k2] at hS1
   cases b
   all_goals
    simp only [c_watch_wide_plus,h1,h2,vZ,Int.reduceEq,Int.reduceNe,Int.reduceLT,Int.reduceLE,Nat.reduceEqDiff,Nat.reduceAdd,reduceIte,reduceCtorEq,Nat.reduceLT,Nat.reduceLeDiff,Nat.reduceShiftRight,Nat.reduceMod]
    refine callS_of hS1 ?_
    simp only [k1,vZ,Int.reduceEq,Int.reduceNe,Int.reduceLT,Int.reduceLE,Nat.reduceEqDiff,Nat.reduceAdd,reduceIte,reduceCtorEq,Nat.reduceLT,Nat.reduceLeDiff,Nat.reduceShiftRight,Nat.reduceMod]
theorem wplus_s (a b:Bool) (m n:Nat) (hm:m<170141183460469231731687303715884105728) (hn:n<170141183460469231731687303715884105728):∃ c k,Sound Tryz.prog 31 [wdA a m,wdA b n] (wdA c k)∧wdV c k=wdV a m+wdV b n∧k≤m+n:=by
 have h1:W128 m:=by unfold W128;omega
 have h2:W128 n:=by unfold W128;omega
 by_cases e:b=a
 ·subst e
  refine ⟨b,m+n,wplus_same_s b m n (by unfold W128;omega),?_,Nat.le_refl _⟩
  unfold wdV;cases b <;> simp <;> omega
 ·have e2:b=!a:=by cases a <;> cases b <;> simp at e ⊢
  subst e2
  have hs:=wplus_other_s a m n h1 h2
  by_cases hlt:m<n
  ·rw [if_pos hlt] at hs
   refine ⟨!a,n - m,hs,?_,by omega⟩
   unfold wdV;cases a <;> simp <;> omega
  ·rw [if_neg hlt] at hs
   refine ⟨a,m - n,hs,?_,by omega⟩
   unfold wdV;cases a <;> simp <;> omega
theorem ceil_nat (n y:Nat) (hy:0<y) : -(-(n:Int) / (y:Int))=(n / y:Nat)+(if n % y=0 then 0 else 1:Int):=by
 have h1:=Nat.div_add_mod n y
 have h2:=Nat.mod_lt n hy
 have hy':(0:Int)<y:=by omega
 generalize hq:n / y=q at *
 generalize hr:n % y=r at *
 have e:(n:Int)=y * q+r:=by rw [← h1];push_cast;rfl
 by_cases h0:r=0
 ·subst h0
  rw [if_pos rfl,e]
  have : -((y:Int) * q+(0:Nat))=y * (-(q:Int)):=by rw [Int.mul_neg];omega
  rw [this,Int.mul_ediv_cancel_left _ (by omega)];omega
 ·rw [if_neg h0,e]
  have : -((y:Int) * q+r)=((y:Int) - r)+y * (-(q:Int) - 1):=by rw [Int.mul_sub,Int.mul_neg];omega
  rw [this,Int.add_mul_ediv_left _ _ (by omega),Int.ediv_eq_zero_of_lt (by omega) (by omega)];omega
theorem rounded_s (b:Bool) (n y:Nat) (hy:0<y∧y<9223372036854775808) (hn:n<y * 4611686018427387904):Sound Tryz.prog 32 [wdA b n,.int .i64 (y:Nat)] (prA (wdV b n / (y:Int), -(-(wdV b n) / (y:Int)))):=by
 refine sound_W f_watch_wide_rounded (Nat.le_of_ble_eq_true rfl) ?_
 have hc:=ceil_nat n y hy.1
 have hdm:=Nat.div_add_mod n 18446744073709551616
 have hlo:=Nat.mod_lt n (show 18446744073709551616 > 0 by omega)
 have hhi:n / 18446744073709551616<y:=by
  exact Nat.div_lt_of_lt_mul (by omega)
 have w1:IntKind.u64.wrap (y:Int)=(y:Int):=u64_wrap (by omega)
 have hD:=Div64_s (n / 18446744073709551616) (n % 18446744073709551616) y hlo (by omega) hhi
 rw [Nat.div_add_mod' n 18446744073709551616] at hD
 have hq:n / y<4611686018427387904:=by rw [Nat.div_lt_iff_lt_mul hy.1,Nat.mul_comm];exact hn
 have hm:((n / 18446744073709551616:Nat):Int).tmod (y:Int)=((n / 18446744073709551616:Nat):Int):=by
  rw [← Int.ofNat_tmod,Nat.mod_eq_of_lt hhi]
 have hy0:¬ (y:Int)=0:=by omega
 have hf:(n:Int) / (y:Int)=((n / y:Nat):Int):=by rw [Int.natCast_ediv]
 have hr:=Nat.mod_lt n hy.1
 unfold wdA wdV prA
 generalize hqd:n / y=q at *
 have w2:IntKind.i64.wrap (q:Int)=(q:Int):=wrap_i64 (by unfold I64;omega)
 cases b with
 | false =>
  have e0:(if (false:Bool)=true then -(n:Int) else (n:Int))=(n:Int):=rfl
  rw [e0,hf,hc]
  by_cases h0:n % y=0
  ·have h0':((n % y:Nat):Int)=0:=by omega
   rw [if_pos h0]
   simp only [c_watch_wide_rounded,w1,hm,hy0,vZ,Int.reduceEq,Int.reduceNe,Int.reduceLT,Int.reduceLE,Nat.reduceEqDiff,Nat.reduceAdd,reduceIte,reduceCtorEq,Nat.reduceLT,Nat.reduceLeDiff,Nat.reduceShiftRight,Nat.reduceMod]
   (repeat (with_reducible refine And.intro ?_ ?_;focus (first | omega | (unfold I64;omega))))
   refine callS_of hD ?_
   simp only [w2,h0',Int.add_zero,vZ,Int.reduceEq,Int.reduceNe,Int.reduceLT,Int.reduceLE,Nat.reduceEqDiff,Nat.reduceAdd,reduceIte,reduceCtorEq,Nat.reduceLT,Nat.reduceLeDiff,Nat.reduceShiftRight,Nat.reduceMod]
   all_goals (simp only [I64];omega)
  ·have h0':¬ ((n % y:Nat):Int)=0:=by omega
   rw [if_neg h0]
   simp only [c_watch_wide_rounded,w1,hm,hy0,vZ,Int.reduceEq,Int.reduceNe,Int.reduceLT,Int.reduceLE,Nat.reduceEqDiff,Nat.reduceAdd,reduceIte,reduceCtorEq,Nat.reduceLT,Nat.reduceLeDiff,Nat.reduceShiftRight,Nat.reduceMod]
   (repeat (with_reducible refine And.intro ?_ ?_;focus (first | omega | (unfold I64;omega))))
   refine callS_of hD ?_
   simp only [w2,h0',vZ,Int.reduceEq,Int.reduceNe,Int.reduceLT,Int.reduceLE,Nat.reduceEqDiff,Nat.reduceAdd,reduceIte,reduceCtorEq,Nat.reduceLT,Nat.reduceLeDiff,Nat.reduceShiftRight,Nat.reduceMod]
   all_goals (simp only [I64];omega)
 | true =>
  have e0:(if (true:Bool)=true then -(n:Int) else (n:Int)) = -(n:Int):=rfl
  have e2 : -(n:Int) / (y:Int) = -((q:Int)+(if n % y=0 then 0 else 1:Int)):=by omega
  rw [e0,e2,Int.neg_neg,hf]
  by_cases h0:n % y=0
  ·have h0':((n % y:Nat):Int)=0:=by omega
   rw [if_pos h0]
   simp only [c_watch_wide_rounded,w1,hm,hy0,vZ,Int.reduceEq,Int.reduceNe,Int.reduceLT,Int.reduceLE,Nat.reduceEqDiff,Nat.reduceAdd,reduceIte,reduceCtorEq,Nat.reduceLT,Nat.reduceLeDiff,Nat.reduceShiftRight,Nat.reduceMod]
   (repeat (with_reducible refine And.intro ?_ ?_;focus (first | omega | (unfold I64;omega))))
   refine callS_of hD ?_
   simp only [w2,h0',Int.add_zero,vZ,Int.reduceEq,Int.reduceNe,Int.reduceLT,Int.reduceLE,Nat.reduceEqDiff,Nat.reduceAdd,reduceIte,reduceCtorEq,Nat.reduceLT,Nat.reduceLeDiff,Nat.reduceShiftRight,Nat.reduceMod]
   all_goals (simp only [I64];omega)
  ·have h0':¬ ((n % y:Nat):Int)=0:=by omega
   rw [if_neg h0]
   simp only [c_watch_wide_rounded,w1,hm,hy0,vZ,Int.reduceEq,Int.reduceNe,Int.reduceLT,Int.reduceLE,Nat.reduceEqDiff,Nat.reduceAdd,reduceIte,reduceCtorEq,Nat.reduceLT,Nat.reduceLeDiff,Nat.reduceShiftRight,Nat.reduceMod]
   (repeat (with_reducible refine And.intro ?_ ?_;focus (first | omega | (unfold I64;omega))))
   refine callS_of hD ?_
   simp only [w2,h0',vZ,Int.reduceEq,Int.reduceNe,Int.reduceLT,Int.reduceLE,Nat.reduceEqDiff,Nat.reduceAdd,reduceIte,reduceCtorEq,Nat.reduceLT,Nat.reduceLeDiff,Nat.reduceShiftRight,Nat.reduceMod]
   all_goals (simp only [I64];omega)
end Go.Proofs.YtgmpcbpmnimkoaaGreat

/- Lines that are handed in: their errors,what is accepted,residuals: contracts of the code. By an AI agent;nothing here is trusted. -/
namespace Go.Proofs.YtgmpcbpmnimkoaaGreat
open Go.Av

theorem divisor_p (a b:Int) (hb:S63 b) (h0:b ≠ 0):Sound Tryz.prog 64 [.int .i64 a,.int .i64 b] (.int .i64 (Int.gcd a b)):=by
 refine sound_W f_watch_divisor (Nat.le_of_ble_eq_true rfl) ?_
 simp only [c_watch_divisor,vZ,Int.reduceEq,Int.reduceNe,Int.reduceLT,Int.reduceLE,Nat.reduceEqDiff,Nat.reduceAdd,reduceIte,reduceCtorEq,Nat.reduceLT,Nat.reduceLeDiff,Nat.reduceShiftRight,Nat.reduceMod]
 refine W_loop (α:=PSigma fun p:Int × Int=>(p.2 ≠ 0∨S63 p.1)∧S63 p.2∧Int.gcd p.1 p.2=Int.gcd a b) (fun p=>(envOf [(0,.int .i64 p.1.1),(1,.int .i64 p.1.2)],noStore)) (fun p=>p.1.2.natAbs) ⟨(a,b),.inl h0,hb,rfl⟩ (weakE _ ?_) (fun ⟨p,h1,h2,h3⟩=>?_)
 ·simp only [vZ,Int.reduceEq,Int.reduceNe,Int.reduceLT,Int.reduceLE,Nat.reduceEqDiff,Nat.reduceAdd,reduceIte,reduceCtorEq,Nat.reduceLT,Nat.reduceLeDiff,Nat.reduceShiftRight,Nat.reduceMod]
 ·obtain ⟨x,y⟩:=p
  simp only at h1 h2 h3
  simp only [vZ,Int.reduceEq,Int.reduceNe,Int.reduceLT,Int.reduceLE,Nat.reduceEqDiff,Nat.reduceAdd,reduceIte,reduceCtorEq,Nat.reduceLT,Nat.reduceLeDiff,Nat.reduceShiftRight,Nat.reduceMod]
  refine brB_split (fun h=>?_) (fun h=>?_)
  ·have hy:y ≠ 0:=by simpa using h
   obtain ⟨t1,t2⟩:=tmod_S (a:=x) h2 hy
   simp only [vZ,Int.reduceEq,Int.reduceNe,Int.reduceLT,Int.reduceLE,Nat.reduceEqDiff,Nat.reduceAdd,reduceIte,reduceCtorEq,Nat.reduceLT,Nat.reduceLeDiff,Nat.reduceShiftRight,Nat.reduceMod]
   refine ⟨hy,⟨(y,x.tmod y),.inr h2,t1,(gcd_tmod x y).trans h3⟩,t2,weakE _ ?_⟩
   simp only [vZ,Int.reduceEq,Int.reduceNe,Int.reduceLT,Int.reduceLE,Nat.reduceEqDiff,Nat.reduceAdd,reduceIte,reduceCtorEq,Nat.reduceLT,Nat.reduceLeDiff,Nat.reduceShiftRight,Nat.reduceMod]
  ·have hy:y=0:=by simpa using h
   subst hy
   have h1:S63 x:=h1.resolve_left fun q=>q rfl
   unfold S63 at h1
   simp only [max_neg,vZ,Int.reduceEq,Int.reduceNe,Int.reduceLT,Int.reduceLE,Nat.reduceEqDiff,Nat.reduceAdd,reduceIte,reduceCtorEq,Nat.reduceLT,Nat.reduceLeDiff,Nat.reduceShiftRight,Nat.reduceMod]
   refine ⟨by (simp only [decide_eq_true_eq,decide_eq_false_iff_not,Bool.not_true,I64,Bool.not_eq_true',Bool.not_eq_false',bne_iff_ne,beq_iff_eq,ne_eq] at *;omega),?_⟩
   rw [← h3];simp [Int.gcd]
theorem Gcd_p (a b:Int) (hb:S63 b) (h0:b ≠ 0):Sound Tryz.prog 58 [.int .i64 a,.int .i64 b] (.int .i64 (Int.gcd a b)):=by
 refine sound_W f_base_Gcd (Nat.le_of_ble_eq_true rfl) ?_
 simp only [c_base_Gcd,vZ,Int.reduceEq,Int.reduceNe,Int.reduceLT,Int.reduceLE,Nat.reduceEqDiff,Nat.reduceAdd,reduceIte,reduceCtorEq,Nat.reduceLT,Nat.reduceLeDiff,Nat.reduceShiftRight,Nat.reduceMod]
 refine W_loop (α:=PSigma fun p:Int × Int=>(p.2 ≠ 0∨S63 p.1)∧S63 p.2∧Int.gcd p.1 p.2=Int.gcd a b) (fun p=>(envOf [(0,.int .i64 p.1.1),(1,.int .i64 p.1.2)],noStore)) (fun p=>p.1.2.natAbs) ⟨(a,b),.inl h0,hb,rfl⟩ (weakE _ ?_) (fun ⟨p,h1,h2,h3⟩=>?_)
 ·simp only [vZ,Int.reduceEq,Int.reduceNe,Int.reduceLT,Int.reduceLE,Nat.reduceEqDiff,Nat.reduceAdd,reduceIte,reduceCtorEq,Nat.reduceLT,Nat.reduceLeDiff,Nat.reduceShiftRight,Nat.reduceMod]
 ·obtain ⟨x,y⟩:=p
  simp only at h1 h2 h3
  simp only [vZ,Int.reduceEq,Int.reduceNe,Int.reduceLT,Int.reduceLE,Nat.reduceEqDiff,Nat.reduceAdd,reduceIte,reduceCtorEq,Nat.reduceLT,Nat.reduceLeDiff,Nat.reduceShiftRight,Nat.reduceMod]
  refine brB_split (fun h=>?_) (fun h=>?_)
  ·have hy:y ≠ 0:=by simpa using h
   obtain ⟨t1,t2⟩:=tmod_S (a:=x) h2 hy
   simp only [vZ,Int.reduceEq,Int.reduceNe,Int.reduceLT,Int.reduceLE,Nat.reduceEqDiff,Nat.reduceAdd,reduceIte,reduceCtorEq,Nat.reduceLT,Nat.reduceLeDiff,Nat.reduceShiftRight,Nat.reduceMod]
   refine ⟨hy,⟨(y,x.tmod y),.inr h2,t1,(gcd_tmod x y).trans h3⟩,t2,weakE _ ?_⟩
   simp only [vZ,Int.reduceEq,Int.reduceNe,Int.reduceLT,Int.reduceLE,Nat.reduceEqDiff,Nat.reduceAdd,reduceIte,reduceCtorEq,Nat.reduceLT,Nat.reduceLeDiff,Nat.reduceShiftRight,Nat.reduceMod]
  ·have hy:y=0:=by simpa using h
   subst hy
   have h1:S63 x:=h1.resolve_left fun q=>q rfl
   simp only [vZ,Int.reduceEq,Int.reduceNe,Int.reduceLT,Int.reduceLE,Nat.reduceEqDiff,Nat.reduceAdd,reduceIte,reduceCtorEq,Nat.reduceLT,Nat.reduceLeDiff,Nat.reduceShiftRight,Nat.reduceMod]
   refine callS_of (Size_s x h1) ?_
   simp only [vZ,Int.reduceEq,Int.reduceNe,Int.reduceLT,Int.reduceLE,Nat.reduceEqDiff,Nat.reduceAdd,reduceIte,reduceCtorEq,Nat.reduceLT,Nat.reduceLeDiff,Nat.reduceShiftRight,Nat.reduceMod]
   rw [← h3];simp [Int.gcd]
def lowQ (n d:Int):Bool:=decide (0<d) && decide (Int.gcd n d=1)
def smQ (n d:Int):Bool:=decide (-1000000000≤n∧n≤1000000000) && decide (d≤1000000000)
theorem small_g (n d:Int):Sound Tryz.prog 63 [fracA n d] (.tup (if smQ n d then [fracA n d,.int .i64 0] else [fracA 0 0,.int .i64 8])):=by
 refine sound_W f_watch_small (Nat.le_of_ble_eq_true rfl) ?_
 unfold smQ
 simp only [c_watch_small,fracA,vZ,Int.reduceEq,Int.reduceNe,Int.reduceLT,Int.reduceLE,Nat.reduceEqDiff,Nat.reduceAdd,reduceIte,reduceCtorEq,Nat.reduceLT,Nat.reduceLeDiff,Nat.reduceShiftRight,Nat.reduceMod]
 refine callS_of (isSized_s _ _ (by unfold S63;omega)) ?_
 simp only [vZ,Int.reduceEq,Int.reduceNe,Int.reduceLT,Int.reduceLE,Nat.reduceEqDiff,Nat.reduceAdd,reduceIte,reduceCtorEq,Nat.reduceLT,Nat.reduceLeDiff,Nat.reduceShiftRight,Nat.reduceMod]
 by_cases h : -1000000000≤n∧n≤1000000000
 ·by_cases h2:d≤1000000000
  ·have h3:¬ 1000000000<d:=by omega
   simp only [h,h3,h2,vZ,Int.reduceEq,Int.reduceNe,Int.reduceLT,Int.reduceLE,Nat.reduceEqDiff,Nat.reduceAdd,reduceIte,reduceCtorEq,Nat.reduceLT,Nat.reduceLeDiff,Nat.reduceShiftRight,Nat.reduceMod]
  ·have h3:1000000000<d:=by omega
   simp only [h,h3,h2,vZ,Int.reduceEq,Int.reduceNe,Int.reduceLT,Int.reduceLE,Nat.reduceEqDiff,Nat.reduceAdd,reduceIte,reduceCtorEq,Nat.reduceLT,Nat.reduceLeDiff,Nat.reduceShiftRight,Nat.reduceMod]
 ·simp only [h,vZ,Int.reduceEq,Int.reduceNe,Int.reduceLT,Int.reduceLE,Nat.reduceEqDiff,Nat.reduceAdd,reduceIte,reduceCtorEq,Nat.reduceLT,Nat.reduceLeDiff,Nat.reduceShiftRight,Nat.reduceMod]
def lnE (a b c d:Int):Int:=if lowQ a b && lowQ c d then (if smQ a b && smQ c d then 0 else 2) else 3
def foN (a b c d:Int):Nat→Bool
 | 0=>true
 | 1=>lowQ a b
 | _=>lowQ a b && lowQ c d
def riN (a b c d:Int):Nat→Bool
 | 0=>true
 | 1=>smQ a b
 | _=>smQ a b && smQ c d
theorem gcd_one_cast (g:Nat):(decide (((g:Nat):Int)=1))=decide (g=1):=decide_eq_decide.2 (by omega)
set_option maxHeartbeats 8000000 in
theorem fitErr_s (a b c d:Int) (hb:I64 b) (hd:I64 d):Sound Tryz.prog 29 [fitA4 a b c d] (.int .i64 (lnE a b c d)):=by
 refine sound_W f_watch_fitErr (Nat.le_of_ble_eq_true rfl) ?_
 unfold I64 at hb hd
 simp only [c_watch_fitErr,fitA4,vZ,Int.reduceEq,Int.reduceNe,Int.reduceLT,Int.reduceLE,Nat.reduceEqDiff,Nat.reduceAdd,reduceIte,reduceCtorEq,Nat.reduceLT,Nat.reduceLeDiff,Nat.reduceShiftRight,Nat.reduceMod]
 refine W_loop (t:=.mk) (α:=PSigma fun i:Nat=>i≤2) (fun ⟨i,_⟩=>(envOf [(3,.bool (foN a b c d i)),(4,.bool (riN a b c d i)),(13,.agg [.int .i64 a,.int .i64 b,.int .i64 c,.int .i64 d]),(14,.int .i64 (i:Nat))],stOf [])) (fun x=>2 - x.1) ⟨0,Nat.zero_le _⟩ ?_ (fun ⟨i,hi⟩=>?_)
 ·refine weakX [] (of_decide_eq_true rfl) (of_decide_eq_true rfl) ?_
  (simp only [vcW,vZ,Int.reduceEq,Int.reduceNe,Int.reduceLT,Int.reduceLE,Nat.reduceEqDiff,Nat.reduceAdd,reduceIte,reduceCtorEq,Nat.reduceLT,Nat.reduceLeDiff,Nat.reduceShiftRight,Nat.reduceMod])
  (repeat' first | exact trivial | (with_reducible first | exact RnB.fxB (ints_fxB _) | rfl | refine And.intro ?_ ?_) | (with_reducible (first | refine RnB.bb ?_ | refine RnB.nb ?_);simp only [vcW,vZ,Int.reduceEq,Int.reduceNe,Int.reduceLT,Int.reduceLE,Nat.reduceEqDiff,Nat.reduceAdd,reduceIte,reduceCtorEq,Nat.reduceLT,Nat.reduceLeDiff,Nat.reduceShiftRight,Nat.reduceMod]) | (with_reducible first | refine RnB.ii ?_ | refine RnB.app ?_) | (with_reducible refine RnB.fxB ?_;simp only [vcW,vZ,Int.reduceEq,Int.reduceNe,Int.reduceLT,Int.reduceLE,Nat.reduceEqDiff,Nat.reduceAdd,reduceIte,reduceCtorEq,Nat.reduceLT,Nat.reduceLeDiff,Nat.reduceShiftRight,Nat.reduceMod]) | omega)
  all_goals first | rfl | trace_state
 ·dsimp only at hi ⊢
  have hcs:i=0∨i=1∨i=2:=by omega
  rcases hcs with rfl | rfl | rfl
  ·have hS:=small_g a b
   unfold fracA at hS
   have f1:foN a b c d (0+1)=(decide (0<b) && decide (Int.gcd a b=1)):=rfl
   have r1:riN a b c d (0+1)=smQ a b:=rfl
   have f0:foN a b c d 0=true:=rfl
   have r0:riN a b c d 0=true:=rfl
   have z0:((0:Nat):Int)=0:=rfl
   have z1:(((0+1:Nat)):Int)=1:=rfl
   have ex0:List.take 2 (List.drop (Int.toNat 0 * 2) [AV.int .i64 a,AV.int .i64 b,AV.int .i64 c,AV.int .i64 d])=[AV.int .i64 a,AV.int .i64 b]:=rfl
   by_cases hbp:0<b
   ·have hG:=divisor_p a b (by unfold S63;omega) (by omega)
    cases hs:smQ a b <;> rw [hs] at hS r1
    all_goals
     simp only [f0,r0,z0,ex0,vZ,Int.reduceEq,Int.reduceNe,Int.reduceLT,Int.reduceLE,Nat.reduceEqDiff,Nat.reduceAdd,reduceIte,reduceCtorEq,Nat.reduceLT,Nat.reduceLeDiff,Nat.reduceShiftRight,Nat.reduceMod]
     (repeat (with_reducible refine And.intro ?_ ?_;focus (first | exact ⟨rfl,rfl⟩ | decide | omega | (unfold I64;omega))))
     refine callS_of hS ?_
     simp only [hbp,vZ,Int.reduceEq,Int.reduceNe,Int.reduceLT,Int.reduceLE,Nat.reduceEqDiff,Nat.reduceAdd,reduceIte,reduceCtorEq,Nat.reduceLT,Nat.reduceLeDiff,Nat.reduceShiftRight,Nat.reduceMod]
     refine callS_of hG ?_
     simp only [gcd_one_cast,vZ,Int.reduceEq,Int.reduceNe,Int.reduceLT,Int.reduceLE,Nat.reduceEqDiff,Nat.reduceAdd,reduceIte,reduceCtorEq,Nat.reduceLT,Nat.reduceLeDiff,Nat.reduceShiftRight,Nat.reduceMod]
     refine ⟨by unfold I64;omega,⟨0+1,by omega⟩,by simp only;omega,?_⟩
     refine weakX [] (of_decide_eq_true rfl) (of_decide_eq_true rfl) ?_
     (simp only [f1,r1,hbp,z1,vcW,vZ,Int.reduceEq,Int.reduceNe,Int.reduceLT,Int.reduceLE,Nat.reduceEqDiff,Nat.reduceAdd,reduceIte,reduceCtorEq,Nat.reduceLT,Nat.reduceLeDiff,Nat.reduceShiftRight,Nat.reduceMod])
     (repeat' first | exact trivial | (with_reducible first | exact RnB.fxB (ints_fxB _) | rfl | refine And.intro ?_ ?_) | (with_reducible (first | refine RnB.bb ?_ | refine RnB.nb ?_);simp only [vcW,vZ,Int.reduceEq,Int.reduceNe,Int.reduceLT,Int.reduceLE,Nat.reduceEqDiff,Nat.reduceAdd,reduceIte,reduceCtorEq,Nat.reduceLT,Nat.reduceLeDiff,Nat.reduceShiftRight,Nat.reduceMod]) | (with_reducible first | refine RnB.ii ?_ | refine RnB.app ?_) | (with_reducible refine RnB.fxB ?_;simp only [vcW,vZ,Int.reduceEq,Int.reduceNe,Int.reduceLT,Int.reduceLE,Nat.reduceEqDiff,Nat.reduceAdd,reduceIte,reduceCtorEq,Nat.reduceLT,Nat.reduceLeDiff,Nat.reduceShiftRight,Nat.reduceMod]) | omega)
     all_goals first | rfl | trace_state
   ·cases hs:smQ a b <;> rw [hs] at hS r1
    all_goals
     simp only [f0,r0,z0,ex0,vZ,Int.reduceEq,Int.reduceNe,Int.reduceLT,Int.reduceLE,Nat.reduceEqDiff,Nat.reduceAdd,reduceIte,reduceCtorEq,Nat.reduceLT,Nat.reduceLeDiff,Nat.reduceShiftRight,Nat.reduceMod]
     (repeat (with_reducible refine And.intro ?_ ?_;focus (first | exact ⟨rfl,rfl⟩ | decide | omega | (unfold I64;omega))))
     refine callS_of hS ?_
     simp only [hbp,vZ,Int.reduceEq,Int.reduceNe,Int.reduceLT,Int.reduceLE,Nat.reduceEqDiff,Nat.reduceAdd,reduceIte,reduceCtorEq,Nat.reduceLT,Nat.reduceLeDiff,Nat.reduceShiftRight,Nat.reduceMod]
     refine ⟨by unfold I64;omega,⟨0+1,by omega⟩,by simp only;omega,?_⟩
     refine weakX [] (of_decide_eq_true rfl) (of_decide_eq_true rfl) ?_
     (simp only [f1,r1,hbp,z1,vcW,vZ,Int.reduceEq,Int.reduceNe,Int.reduceLT,Int.reduceLE,Nat.reduceEqDiff,Nat.reduceAdd,reduceIte,reduceCtorEq,Nat.reduceLT,Nat.reduceLeDiff,Nat.reduceShiftRight,Nat.reduceMod])
     (repeat' first | exact trivial | (with_reducible first | exact RnB.fxB (ints_fxB _) | rfl | refine And.intro ?_ ?_) | (with_reducible (first | refine RnB.bb ?_ | refine RnB.nb ?_);simp only [vcW,vZ,Int.reduceEq,Int.reduceNe,Int.reduceLT,Int.reduceLE,Nat.reduceEqDiff,Nat.reduceAdd,reduceIte,reduceCtorEq,Nat.reduceLT,Nat.reduceLeDiff,Nat.reduceShiftRight,Nat.reduceMod]) | (with_reducible first | refine RnB.ii ?_ | refine RnB.app ?_) | (with_reducible refine RnB.fxB ?_;simp only [vcW,vZ,Int.reduceEq,Int.reduceNe,Int.reduceLT,Int.reduceLE,Nat.reduceEqDiff,Nat.reduceAdd,reduceIte,reduceCtorEq,Nat.reduceLT,Nat.reduceLeDiff,Nat.reduceShiftRight,Nat.reduceMod]) | omega)
     all_goals first | rfl | trace_state
  ·have hS:=small_g c d
   unfold fracA at hS
   have f1:foN a b c d (1+1)=(lowQ a b && (decide (0<d) && decide (Int.gcd c d=1))):=rfl
   have r1:riN a b c d (1+1)=(smQ a b && smQ c d):=rfl
   have f0:foN a b c d 1=lowQ a b:=rfl
   have r0:riN a b c d 1=smQ a b:=rfl
   have z0:((1:Nat):Int)=1:=rfl
   have z1:(((1+1:Nat)):Int)=2:=rfl
   have ex0:List.take 2 (List.drop (Int.toNat 1 * 2) [AV.int .i64 a,AV.int .i64 b,AV.int .i64 c,AV.int .i64 d])=[AV.int .i64 c,AV.int .i64 d]:=rfl
   generalize lowQ a b=F at *
   generalize smQ a b=R at *
   cases F with
   | false =>
    cases R <;> cases hs:smQ c d <;> rw [hs] at hS r1
    all_goals
     simp only [f0,r0,z0,ex0,vZ,Int.reduceEq,Int.reduceNe,Int.reduceLT,Int.reduceLE,Nat.reduceEqDiff,Nat.reduceAdd,reduceIte,reduceCtorEq,Nat.reduceLT,Nat.reduceLeDiff,Nat.reduceShiftRight,Nat.reduceMod]
     (repeat (with_reducible refine And.intro ?_ ?_;focus (first | exact ⟨rfl,rfl⟩ | decide | omega | (unfold I64;omega))))
     refine callS_of hS ?_
     simp only [vZ,Int.reduceEq,Int.reduceNe,Int.reduceLT,Int.reduceLE,Nat.reduceEqDiff,Nat.reduceAdd,reduceIte,reduceCtorEq,Nat.reduceLT,Nat.reduceLeDiff,Nat.reduceShiftRight,Nat.reduceMod]
     refine ⟨by unfold I64;omega,⟨1+1,by omega⟩,by simp only;omega,?_⟩
     refine weakX [] (of_decide_eq_true rfl) (of_decide_eq_true rfl) ?_
     (simp only [f1,r1,z1,vcW,vZ,Int.reduceEq,Int.reduceNe,Int.reduceLT,Int.reduceLE,Nat.reduceEqDiff,Nat.reduceAdd,reduceIte,reduceCtorEq,Nat.reduceLT,Nat.reduceLeDiff,Nat.reduceShiftRight,Nat.reduceMod])
     (repeat' first | exact trivial | (with_reducible first | exact RnB.fxB (ints_fxB _) | rfl | refine And.intro ?_ ?_) | (with_reducible (first | refine RnB.bb ?_ | refine RnB.nb ?_);simp only [vcW,vZ,Int.reduceEq,Int.reduceNe,Int.reduceLT,Int.reduceLE,Nat.reduceEqDiff,Nat.reduceAdd,reduceIte,reduceCtorEq,Nat.reduceLT,Nat.reduceLeDiff,Nat.reduceShiftRight,Nat.reduceMod]) | (with_reducible first | refine RnB.ii ?_ | refine RnB.app ?_) | (with_reducible refine RnB.fxB ?_;simp only [vcW,vZ,Int.reduceEq,Int.reduceNe,Int.reduceLT,Int.reduceLE,Nat.reduceEqDiff,Nat.reduceAdd,reduceIte,reduceCtorEq,Nat.reduceLT,Nat.reduceLeDiff,Nat.reduceShiftRight,Nat.reduceMod]) | omega)
     all_goals first | rfl | trace_state
   | true =>
    by_cases hbp:0<d
    ·have hG:=divisor_p c d (by unfold S63;omega) (by omega)
     cases R <;> cases hs:smQ c d <;> rw [hs] at hS r1
     all_goals
      simp only [f0,r0,z0,ex0,vZ,Int.reduceEq,Int.reduceNe,Int.reduceLT,Int.reduceLE,Nat.reduceEqDiff,Nat.reduceAdd,reduceIte,reduceCtorEq,Nat.reduceLT,Nat.reduceLeDiff,Nat.reduceShiftRight,Nat.reduceMod]
      (repeat (with_reducible refine And.intro ?_ ?_;focus (first | exact ⟨rfl,rfl⟩ | decide | omega | (unfold I64;omega))))
      refine callS_of hS ?_
      simp only [hbp,vZ,Int.reduceEq,Int.reduceNe,Int.reduceLT,Int.reduceLE,Nat.reduceEqDiff,Nat.reduceAdd,reduceIte,reduceCtorEq,Nat.reduceLT,Nat.reduceLeDiff,Nat.reduceShiftRight,Nat.reduceMod]
      refine callS_of hG ?_
      simp only [gcd_one_cast,vZ,Int.reduceEq,Int.reduceNe,Int.reduceLT,Int.reduceLE,Nat.reduceEqDiff,Nat.reduceAdd,reduceIte,reduceCtorEq,Nat.reduceLT,Nat.reduceLeDiff,Nat.reduceShiftRight,Nat.reduceMod]
      refine ⟨by unfold I64;omega,⟨1+1,by omega⟩,by simp only;omega,?_⟩
      refine weakX [] (of_decide_eq_true rfl) (of_decide_eq_true rfl) ?_
      (simp only [f1,r1,hbp,z1,vcW,vZ,Int.reduceEq,Int.reduceNe,Int.reduceLT,Int.reduceLE,Nat.reduceEqDiff,Nat.reduceAdd,reduceIte,reduceCtorEq,Nat.reduceLT,Nat.reduceLeDiff,Nat.reduceShiftRight,Nat.reduceMod])
      (repeat' first | exact trivial | (with_reducible first | exact RnB.fxB (ints_fxB _) | rfl | refine And.intro ?_ ?_) | (with_reducible (first | refine RnB.bb ?_ | refine RnB.nb ?_);simp only [vcW,vZ,Int.reduceEq,Int.reduceNe,Int.reduceLT,Int.reduceLE,Nat.reduceEqDiff,Nat.reduceAdd,reduceIte,reduceCtorEq,Nat.reduceLT,Nat.reduceLeDiff,Nat.reduceShiftRight,Nat.reduceMod]) | (with_reducible first | refine RnB.ii ?_ | refine RnB.app ?_) | (with_reducible refine RnB.fxB ?_;simp only [vcW,vZ,Int.reduceEq,Int.reduceNe,Int.reduceLT,Int.reduceLE,Nat.reduceEqDiff,Nat.reduceAdd,reduceIte,reduceCtorEq,Nat.reduceLT,Nat.reduceLeDiff,Nat.reduceShiftRight,Nat.reduceMod]) | omega)
      all_goals first | rfl | trace_state
    ·cases R <;> cases hs:smQ c d <;> rw [hs] at hS r1
     all_goals
      simp only [f0,r0,z0,ex0,vZ,Int.reduceEq,Int.reduceNe,Int.reduceLT,Int.reduceLE,Nat.reduceEqDiff,Nat.reduceAdd,reduceIte,reduceCtorEq,Nat.reduceLT,Nat.reduceLeDiff,Nat.reduceShiftRight,Nat.reduceMod]
      (repeat (with_reducible refine And.intro ?_ ?_;focus (first | exact ⟨rfl,rfl⟩ | decide | omega | (unfold I64;omega))))
      refine callS_of hS ?_
      simp only [hbp,vZ,Int.reduceEq,Int.reduceNe,Int.reduceLT,Int.reduceLE,Nat.reduceEqDiff,Nat.reduceAdd,reduceIte,reduceCtorEq,Nat.reduceLT,Nat.reduceLeDiff,Nat.reduceShiftRight,Nat.reduceMod]
      refine ⟨by unfold I64;omega,⟨1+1,by omega⟩,by simp only;omega,?_⟩
      refine weakX [] (of_decide_eq_true rfl) (of_decide_eq_true rfl) ?_
      (simp only [f1,r1,hbp,z1,vcW,vZ,Int.reduceEq,Int.reduceNe,Int.reduceLT,Int.reduceLE,Nat.reduceEqDiff,Nat.reduceAdd,reduceIte,reduceCtorEq,Nat.reduceLT,Nat.reduceLeDiff,Nat.reduceShiftRight,Nat.reduceMod])
      (repeat' first | exact trivial | (with_reducible first | exact RnB.fxB (ints_fxB _) | rfl | refine And.intro ?_ ?_) | (with_reducible (first | refine RnB.bb ?_ | refine RnB.nb ?_);simp only [vcW,vZ,Int.reduceEq,Int.reduceNe,Int.reduceLT,Int.reduceLE,Nat.reduceEqDiff,Nat.reduceAdd,reduceIte,reduceCtorEq,Nat.reduceLT,Nat.reduceLeDiff,Nat.reduceShiftRight,Nat.reduceMod]) | (with_reducible first | refine RnB.ii ?_ | refine RnB.app ?_) | (with_reducible refine RnB.fxB ?_;simp only [vcW,vZ,Int.reduceEq,Int.reduceNe,Int.reduceLT,Int.reduceLE,Nat.reduceEqDiff,Nat.reduceAdd,reduceIte,reduceCtorEq,Nat.reduceLT,Nat.reduceLeDiff,Nat.reduceShiftRight,Nat.reduceMod]) | omega)
      all_goals first | rfl | trace_state
  ·have f0:foN a b c d 2=(lowQ a b && lowQ c d):=rfl
   have r0:riN a b c d 2=(smQ a b && smQ c d):=rfl
   have z0:((2:Nat):Int)=2:=rfl
   have hF:=first2_s (if (lowQ a b && lowQ c d)=true then 0 else 3) (if (smQ a b && smQ c d)=true then 0 else 2)
   have hE:(if (if (lowQ a b && lowQ c d)=true then (0:Int) else 3) ≠ 0 then (if (lowQ a b && lowQ c d)=true then (0:Int) else 3) else (if (smQ a b && smQ c d)=true then (0:Int) else 2))=lnE a b c d:=by
    unfold lnE
    cases lowQ a b && lowQ c d <;> simp
   rw [hE] at hF
   simp only [f0,r0,z0,vZ,Int.reduceEq,Int.reduceNe,Int.reduceLT,Int.reduceLE,Nat.reduceEqDiff,Nat.reduceAdd,reduceIte,reduceCtorEq,Nat.reduceLT,Nat.reduceLeDiff,Nat.reduceShiftRight,Nat.reduceMod]
   refine callS_of (unless_s _ _) ?_
   simp only [vZ,Int.reduceEq,Int.reduceNe,Int.reduceLT,Int.reduceLE,Nat.reduceEqDiff,Nat.reduceAdd,reduceIte,reduceCtorEq,Nat.reduceLT,Nat.reduceLeDiff,Nat.reduceShiftRight,Nat.reduceMod]
   refine callS_of (unless_s _ _) ?_
   simp only [vZ,Int.reduceEq,Int.reduceNe,Int.reduceLT,Int.reduceLE,Nat.reduceEqDiff,Nat.reduceAdd,reduceIte,reduceCtorEq,Nat.reduceLT,Nat.reduceLeDiff,Nat.reduceShiftRight,Nat.reduceMod]
   refine callS_of hF ?_
   simp only [vZ,Int.reduceEq,Int.reduceNe,Int.reduceLT,Int.reduceLE,Nat.reduceEqDiff,Nat.reduceAdd,reduceIte,reduceCtorEq,Nat.reduceLT,Nat.reduceLeDiff,Nat.reduceShiftRight,Nat.reduceMod]
end Go.Proofs.YtgmpcbpmnimkoaaGreat

/- What is accepted as a line,and the residuals: contracts of the code. By an AI agent;nothing here is trusted. -/
namespace Go.Proofs.YtgmpcbpmnimkoaaGreat
open Go.Av

theorem prs_fxB (l:List (Int × Int)):(prs l).all fx=true:=List.all_eq_true.2 (prs_fx l)
theorem prs_append (a b:List (Int × Int)):prs (a ++ b)=prs a ++ prs b:=by simp [prs]
def ckF (l:List (Int × Int)) (a b c d:Int):Int:=if prE l ≠ 0 then prE l else if Ln.den l=0 then 11 else if lnE a b c d ≠ 0 then lnE a b c d else if lowN (fN1 l) (Ln.den l)=a∧lowD (fN1 l) (Ln.den l)=b∧lowN (fN2 l) (Ln.den l)=c∧lowD (fN2 l) (Ln.den l)=d then 0 else 19
theorem wCheckFit_s (l:List (Int × Int)) (a b c d:Int) (hb:I64 b) (hd:I64 d) (hl:l.length<4000000000000000000):Sound Tryz.prog 9 [.sl (prs l),fitA4 a b c d] (.int .i64 (ckF l a b c d)):=by
 refine sound_W f_watch_CheckFit (Nat.le_of_ble_eq_true rfl) ?_
 have hE:=fitErr_s a b c d hb hd
 unfold fitA4 at hE
 simp only [c_watch_CheckFit,fitA4,vZ,Int.reduceEq,Int.reduceNe,Int.reduceLT,Int.reduceLE,Nat.reduceEqDiff,Nat.reduceAdd,reduceIte,reduceCtorEq,Nat.reduceLT,Nat.reduceLeDiff,Nat.reduceShiftRight,Nat.reduceMod]
 refine callS_of (pairsErr_s l hl) ?_
 by_cases h:prE l=0
 case neg =>
  have hr:ckF l a b c d=prE l:=by unfold ckF;rw [if_pos h]
  rw [hr]
  simp only [h,vZ,Int.reduceEq,Int.reduceNe,Int.reduceLT,Int.reduceLE,Nat.reduceEqDiff,Nat.reduceAdd,reduceIte,reduceCtorEq,Nat.reduceLT,Nat.reduceLeDiff,Nat.reduceShiftRight,Nat.reduceMod]
 have hL:=line_s l h
 have h3a:=first3_s 11 (lnE a b c d) 19
 have h3b:=fun e:Int=>first3_s 0 (lnE a b c d) e
 simp only [h,vZ,Int.reduceEq,Int.reduceNe,Int.reduceLT,Int.reduceLE,Nat.reduceEqDiff,Nat.reduceAdd,reduceIte,reduceCtorEq,Nat.reduceLT,Nat.reduceLeDiff,Nat.reduceShiftRight,Nat.reduceMod]
 refine callS_of hL ?_
 unfold lineA
 by_cases hz:Ln.den l=0
 ·have hr:ckF l a b c d=11:=by unfold ckF;rw [if_neg (by omega),if_pos hz]
  rw [if_pos hz,hr]
  simp only [fitA4,vZ,Int.reduceEq,Int.reduceNe,Int.reduceLT,Int.reduceLE,Nat.reduceEqDiff,Nat.reduceAdd,reduceIte,reduceCtorEq,Nat.reduceLT,Nat.reduceLeDiff,Nat.reduceShiftRight,Nat.reduceMod]
  refine callS_of (unless_s _ _) ?_
  simp only [vZ,Int.reduceEq,Int.reduceNe,Int.reduceLT,Int.reduceLE,Nat.reduceEqDiff,Nat.reduceAdd,reduceIte,reduceCtorEq,Nat.reduceLT,Nat.reduceLeDiff,Nat.reduceShiftRight,Nat.reduceMod]
  refine callS_of hE ?_
  simp only [vZ,Int.reduceEq,Int.reduceNe,Int.reduceLT,Int.reduceLE,Nat.reduceEqDiff,Nat.reduceAdd,reduceIte,reduceCtorEq,Nat.reduceLT,Nat.reduceLeDiff,Nat.reduceShiftRight,Nat.reduceMod]
  refine callS_of (unless_s _ _) ?_
  simp only [vZ,Int.reduceEq,Int.reduceNe,Int.reduceLT,Int.reduceLE,Nat.reduceEqDiff,Nat.reduceAdd,reduceIte,reduceCtorEq,Nat.reduceLT,Nat.reduceLeDiff,Nat.reduceShiftRight,Nat.reduceMod]
  refine callS_of (first3_s 11 (lnE a b c d) _) ?_
  simp only [vZ,Int.reduceEq,Int.reduceNe,Int.reduceLT,Int.reduceLE,Nat.reduceEqDiff,Nat.reduceAdd,reduceIte,reduceCtorEq,Nat.reduceLT,Nat.reduceLeDiff,Nat.reduceShiftRight,Nat.reduceMod]
  intro _ k hk;simp [refsL,refs,upd] at hk;subst hk;simp [upd]
 ·rw [if_neg hz]
  simp only [fitL,fitA4,vZ,Int.reduceEq,Int.reduceNe,Int.reduceLT,Int.reduceLE,Nat.reduceEqDiff,Nat.reduceAdd,reduceIte,reduceCtorEq,Nat.reduceLT,Nat.reduceLeDiff,Nat.reduceShiftRight,Nat.reduceMod]
  refine callS_of (unless_s _ _) ?_
  simp only [vZ,Int.reduceEq,Int.reduceNe,Int.reduceLT,Int.reduceLE,Nat.reduceEqDiff,Nat.reduceAdd,reduceIte,reduceCtorEq,Nat.reduceLT,Nat.reduceLeDiff,Nat.reduceShiftRight,Nat.reduceMod]
  refine callS_of hE ?_
  simp only [vZ,Int.reduceEq,Int.reduceNe,Int.reduceLT,Int.reduceLE,Nat.reduceEqDiff,Nat.reduceAdd,reduceIte,reduceCtorEq,Nat.reduceLT,Nat.reduceLeDiff,Nat.reduceShiftRight,Nat.reduceMod]
  refine callS_of (unless_s _ _) ?_
  simp only [vZ,Int.reduceEq,Int.reduceNe,Int.reduceLT,Int.reduceLE,Nat.reduceEqDiff,Nat.reduceAdd,reduceIte,reduceCtorEq,Nat.reduceLT,Nat.reduceLeDiff,Nat.reduceShiftRight,Nat.reduceMod]
  refine callS_of (first3_s 0 (lnE a b c d) _) ?_
  simp only [vZ,Int.reduceEq,Int.reduceNe,Int.reduceLT,Int.reduceLE,Nat.reduceEqDiff,Nat.reduceAdd,reduceIte,reduceCtorEq,Nat.reduceLT,Nat.reduceLeDiff,Nat.reduceShiftRight,Nat.reduceMod]
  unfold ckF
  rw [if_neg (show ¬ prE l ≠ 0 by omega),if_neg hz]
  refine ⟨by intro _ k hk;simp [refsL,refs,upd] at hk;subst hk;simp [upd],?_⟩
  simp only [Bool.and_eq_true,decide_eq_true_eq]
def vR (a b c d:Int) (p:Int × Int):Int:=(p.2 * b - p.1 * a) * d - c * b
def rsL (l:List (Int × Int)) (a b c d:Int):List (Int × Int):=l.map fun p=>(vR a b c d p / (b * d), -(-(vR a b c d p) / (b * d)))
theorem rsL_len (l:List (Int × Int)) (a b c d:Int):(rsL l a b c d).length=l.length:=by simp [rsL]
theorem prodV (x y:Int):wdV (decide (x<0) != decide (y<0)) (x.natAbs * y.natAbs)=x * y:=by
 unfold wdV
 rw [Int.natCast_mul]
 by_cases hx:x<0
 ·have ex:(x.natAbs:Int) = -x:=by omega
  by_cases hy:y<0
  ·have ey:(y.natAbs:Int) = -y:=by omega
   simp only [hx,hy,decide_true,bne_self_eq_false,Bool.false_eq_true,if_false,ex,ey]
   rw [Int.neg_mul_neg]
  ·have ey:(y.natAbs:Int)=y:=by omega
   simp only [hx,hy,decide_true,decide_false,Bool.bne_false,if_true,ex,ey]
   rw [Int.neg_mul,Int.neg_neg]
 ·have ex:(x.natAbs:Int)=x:=by omega
  by_cases hy:y<0
  ·have ey:(y.natAbs:Int) = -y:=by omega
   simp only [hx,hy,decide_true,decide_false,Bool.bne_true,Bool.not_false,if_true,ex,ey]
   rw [Int.mul_neg,Int.neg_neg]
  ·have ey:(y.natAbs:Int)=y:=by omega
   simp only [hx,hy,decide_false,bne_self_eq_false,Bool.false_eq_true,if_false,ex,ey]
theorem lnE_ok {a b c d:Int} (h:lnE a b c d=0):(1≤b∧b≤1000000000)∧(1≤d∧d≤1000000000)∧(-1000000000≤a∧a≤1000000000)∧(-1000000000≤c∧c≤1000000000)∧Int.gcd a b=1∧Int.gcd c d=1:=by
 unfold lnE lowQ smQ at h
 split at h
 ·rename_i h1
  split at h
  ·rename_i h2
   simp only [Bool.and_eq_true,decide_eq_true_eq] at h1 h2
   obtain ⟨⟨h11,h12⟩,h13,h14⟩:=h1
   obtain ⟨⟨h21,h22⟩,h23,h24⟩:=h2
   exact ⟨⟨h11,h22⟩,⟨h13,h24⟩,h21,h23,h12,h14⟩
  ·cases h
 ·cases h
theorem k_bd {m n A B:Nat} {x y:Nat} (hx:x≤100 * A+100000000000) (hy:y≤1000000000) (hA:1≤A∧A≤1000000000) (hB:1≤B∧B≤1000000000) (hm:m=x * B) (hn:n=y * A):m+n≤102000000000 * (A * B)∧m+n≤1000000000000000000000:=by
 have h1:x * B≤(100 * A+100000000000) * B:=Nat.mul_le_mul_right _ hx
 have h2:y * A≤1000000000 * A:=Nat.mul_le_mul_right _ hy
 have h3:A≤A * B:=Nat.le_mul_of_pos_right _ (by omega)
 have h4:B≤A * B:=Nat.le_mul_of_pos_left _ (by omega)
 have h5:A * B≤1000000000 * 1000000000:=Nat.mul_le_mul hA.2 hB.2
 rw [Nat.add_mul,Nat.mul_assoc] at h1
 omega
set_option maxHeartbeats 8000000 in
theorem ResidualsOf_s (l:List (Int × Int)) (a b c d:Int) (hb:I64 b) (hd:I64 d) (hl:l.length<4000000000000000000):Sound Tryz.prog 8 [.sl (prs l),fitA4 a b c d]
  (.tup (if prE l ≠ 0 then [.sl [],.int .i64 (prE l)] else if lnE a b c d ≠ 0 then [.sl [],.int .i64 (lnE a b c d)] else [.sl (prs (rsL l a b c d)),.int .i64 0])):=by
 refine sound_W f_watch_ResidualsOf (Nat.le_of_ble_eq_true rfl) ?_
 have hmax:=maxLen_big
 have hE:=fitErr_s a b c d hb hd
 unfold fitA4 at hE
 simp only [c_watch_ResidualsOf,fitA4,vZ,Int.reduceEq,Int.reduceNe,Int.reduceLT,Int.reduceLE,Nat.reduceEqDiff,Nat.reduceAdd,reduceIte,reduceCtorEq,Nat.reduceLT,Nat.reduceLeDiff,Nat.reduceShiftRight,Nat.reduceMod]
 refine callS_of (pairsErr_s l hl) ?_
 simp only [vZ,Int.reduceEq,Int.reduceNe,Int.reduceLT,Int.reduceLE,Nat.reduceEqDiff,Nat.reduceAdd,reduceIte,reduceCtorEq,Nat.reduceLT,Nat.reduceLeDiff,Nat.reduceShiftRight,Nat.reduceMod]
 refine callS_of hE ?_
 simp only [vZ,Int.reduceEq,Int.reduceNe,Int.reduceLT,Int.reduceLE,Nat.reduceEqDiff,Nat.reduceAdd,reduceIte,reduceCtorEq,Nat.reduceLT,Nat.reduceLeDiff,Nat.reduceShiftRight,Nat.reduceMod]
 refine callS_of (first2_s _ _) ?_
 by_cases h:prE l=0
 case neg =>
  rw [if_pos h,if_pos h]
  simp only [h,vZ,Int.reduceEq,Int.reduceNe,Int.reduceLT,Int.reduceLE,Nat.reduceEqDiff,Nat.reduceAdd,reduceIte,reduceCtorEq,Nat.reduceLT,Nat.reduceLeDiff,Nat.reduceShiftRight,Nat.reduceMod]
  intro _ k hk;simp [refsL,refs,upd] at hk;subst hk;simp [upd]
 rw [if_neg (show ¬ prE l ≠ 0 by omega),if_neg (show ¬ prE l ≠ 0 by omega)]
 by_cases h2:lnE a b c d=0
 case neg =>
  rw [if_pos h2]
  simp only [h2,vZ,Int.reduceEq,Int.reduceNe,Int.reduceLT,Int.reduceLE,Nat.reduceEqDiff,Nat.reduceAdd,reduceIte,reduceCtorEq,Nat.reduceLT,Nat.reduceLeDiff,Nat.reduceShiftRight,Nat.reduceMod]
  intro _ k hk;simp [refsL,refs,upd] at hk;subst hk;simp [upd]
 rw [if_neg (show ¬ lnE a b c d ≠ 0 by omega)]
 obtain ⟨q1,q2,q3,q4,_,_⟩:=lnE_ok h2
 obtain ⟨⟨_,h20⟩,hpb⟩:=prE_ok h
 obtain ⟨A,hA⟩:∃ A:Nat,b=A:=⟨b.toNat,by omega⟩
 obtain ⟨D,hD⟩:∃ D:Nat,d=D:=⟨d.toNat,by omega⟩
 have hrl:=rsL_len l a b c d
 simp only [h2,prs_length,vZ,Int.reduceEq,Int.reduceNe,Int.reduceLT,Int.reduceLE,Nat.reduceEqDiff,Nat.reduceAdd,reduceIte,reduceCtorEq,Nat.reduceLT,Nat.reduceLeDiff,Nat.reduceShiftRight,Nat.reduceMod]
 refine ⟨by intro _ k hk;simp [refsL,refs,upd] at hk;subst hk;simp [upd],?_⟩
 refine W_loop (t:=.mk) (α:=PSigma fun i:Nat=>i≤l.length) (fun ⟨i,_⟩=>(envOf [(5,.int .i64 0),(7,.ptr 7 0 0),(8,.ptr 8 0 0),(9,.buf 100 i),(26,.sl (prs l)),(27,.int .i64 (l.length:Nat)),(28,.int .i64 (i:Nat))],stOf [(7,⟨24,2,[.agg [.int .i64 a,.int .i64 b]]⟩),(8,⟨24,2,[.agg [.int .i64 c,.int .i64 d]]⟩),(100,⟨75,2,prs ((rsL l a b c d).take i)⟩)])) (fun x=>l.length - x.1) ⟨0,Nat.zero_le _⟩ ?_ (fun ⟨i,hi⟩=>?_)
 ·have z:prs []=[]:=rfl
  refine weakX [(100,none)] (of_decide_eq_true rfl) (of_decide_eq_true rfl) ?_
  (simp only [z,vcW,vZ,Int.reduceEq,Int.reduceNe,Int.reduceLT,Int.reduceLE,Nat.reduceEqDiff,Nat.reduceAdd,reduceIte,reduceCtorEq,Nat.reduceLT,Nat.reduceLeDiff,Nat.reduceShiftRight,Nat.reduceMod])
  (repeat' first | exact trivial | (with_reducible first | exact RnB.fxB (ints_fxB _) | rfl | refine And.intro ?_ ?_) | (with_reducible (first | refine RnB.bb ?_ | refine RnB.nb ?_);simp only [vcW,vZ,Int.reduceEq,Int.reduceNe,Int.reduceLT,Int.reduceLE,Nat.reduceEqDiff,Nat.reduceAdd,reduceIte,reduceCtorEq,Nat.reduceLT,Nat.reduceLeDiff,Nat.reduceShiftRight,Nat.reduceMod]) | (with_reducible first | refine RnB.ii ?_ | refine RnB.app ?_) | (with_reducible refine RnB.fxB ?_;simp only [vcW,vZ,Int.reduceEq,Int.reduceNe,Int.reduceLT,Int.reduceLE,Nat.reduceEqDiff,Nat.reduceAdd,reduceIte,reduceCtorEq,Nat.reduceLT,Nat.reduceLeDiff,Nat.reduceShiftRight,Nat.reduceMod]) | omega)
  all_goals first | rfl | trace_state
 ·dsimp only at hi ⊢
  have hpl:(prs ((rsL l a b c d).take i)).length=i:=by rw [prs_length,List.length_take,hrl];omega
  by_cases h':i<l.length
  ·have hc1:(i:Int)<l.length:=by omega
   have hg:=prs_get l i h'
   obtain ⟨p1,p2⟩:=hpb _ (List.getElem_mem h')
   have htk:prs ((rsL l a b c d).take (i+1))=prs ((rsL l a b c d).take i) ++ [.agg [.int .i64 (vR a b c d l[i] / (b * d)),.int .i64 (-(-(vR a b c d l[i]) / (b * d)))]]:=by
    rw [List.take_succ_eq_append_getElem (by rw [hrl];exact h'),prs_append]
    simp [rsL,prs]
   have m1:=Lin.abs_mul (A:=100) (B:=1000000000) (a:=l[i].1) (b:=a) (by omega) (by omega)
   have m2:0≤l[i].2 * b∧l[i].2 * b≤100 * b:=⟨Int.mul_nonneg (by omega) (by omega),Int.mul_le_mul_of_nonneg_right (by omega) (by omega)⟩
   have m3:=mul_bd (a:=b) (b:=d) (A:=1000000000) (B:=1000000000) (by omega) (by omega)
   have hvR:vR a b c d l[i]=(l[i].2 * b - l[i].1 * a) * d+(-c) * b:=by unfold vR;rw [Int.neg_mul];omega
   generalize hxd:l[i].2 * b - l[i].1 * a=x at *
   have P1:=product_s x d (by unfold S63;omega) (by unfold S63;omega)
   have P2:=product_s (-c) b (by unfold S63;omega) (by unfold S63;omega)
   obtain ⟨k1,k2⟩:=k_bd (x:=x.natAbs) (y:=(-c).natAbs) (A:=A) (B:=D) (by omega) (by omega) (by omega) (by omega) rfl rfl
   have eb:b.natAbs=A:=by omega
   have ed:d.natAbs=D:=by omega
   obtain ⟨cs,k,hP,hv,hk⟩:=wplus_s (decide (x<0) != decide (d<0)) (decide (-c<0) != decide (b<0)) (x.natAbs * d.natAbs) ((-c).natAbs * b.natAbs) (by rw [ed];omega) (by rw [eb];omega)
   rw [prodV,prodV,← hvR] at hv
   rw [ed,eb] at hk
   have hbd:((A * D:Nat):Int)=b * d:=by rw [hA,hD];push_cast;rfl
   have hAD:0<A * D:=Nat.mul_pos (by omega) (by omega)
   have R1:=rounded_s cs k (A * D) (by omega) (by omega)
   rw [hv,hbd] at R1
   generalize vR a b c d l[i]=v at *
   unfold wdA at P1 P2 hP R1
   unfold prA at R1
   simp only [hc1,hg,prs_length,hxd,vZ,Int.reduceEq,Int.reduceNe,Int.reduceLT,Int.reduceLE,Nat.reduceEqDiff,Nat.reduceAdd,reduceIte,reduceCtorEq,Nat.reduceLT,Nat.reduceLeDiff,Nat.reduceShiftRight,Nat.reduceMod]
   (repeat (with_reducible refine And.intro ?_ ?_;focus (first | omega | (unfold I64;omega))))
   refine callS_of P1 ?_
   simp only [vZ,Int.reduceEq,Int.reduceNe,Int.reduceLT,Int.reduceLE,Nat.reduceEqDiff,Nat.reduceAdd,reduceIte,reduceCtorEq,Nat.reduceLT,Nat.reduceLeDiff,Nat.reduceShiftRight,Nat.reduceMod]
   (repeat (with_reducible refine And.intro ?_ ?_;focus (first | omega | (unfold I64;omega))))
   refine callS_of P2 ?_
   simp only [vZ,Int.reduceEq,Int.reduceNe,Int.reduceLT,Int.reduceLE,Nat.reduceEqDiff,Nat.reduceAdd,reduceIte,reduceCtorEq,Nat.reduceLT,Nat.reduceLeDiff,Nat.reduceShiftRight,Nat.reduceMod]
   refine callS_of hP ?_
   simp only [vZ,Int.reduceEq,Int.reduceNe,Int.reduceLT,Int.reduceLE,Nat.reduceEqDiff,Nat.reduceAdd,reduceIte,reduceCtorEq,Nat.reduceLT,Nat.reduceLeDiff,Nat.reduceShiftRight,Nat.reduceMod]
   (repeat (with_reducible refine And.intro ?_ ?_;focus (first | omega | (unfold I64;omega))))
   refine callS_of R1 ?_
   simp only [hpl,vZ,Int.reduceEq,Int.reduceNe,Int.reduceLT,Int.reduceLE,Nat.reduceEqDiff,Nat.reduceAdd,reduceIte,reduceCtorEq,Nat.reduceLT,Nat.reduceLeDiff,Nat.reduceShiftRight,Nat.reduceMod]
   refine ⟨⟨by omega,by omega⟩,by unfold I64;omega,⟨i+1,h'⟩,by simp only;omega,?_⟩
   refine weakX [(100,some 62)] (of_decide_eq_true rfl) (of_decide_eq_true rfl) ?_
   (simp only [htk,vcW,vZ,Int.reduceEq,Int.reduceNe,Int.reduceLT,Int.reduceLE,Nat.reduceEqDiff,Nat.reduceAdd,reduceIte,reduceCtorEq,Nat.reduceLT,Nat.reduceLeDiff,Nat.reduceShiftRight,Nat.reduceMod])
   (repeat' first | exact trivial | (with_reducible first | exact RnB.fxB (ints_fxB _) | rfl | refine And.intro ?_ ?_) | (with_reducible (first | refine RnB.bb ?_ | refine RnB.nb ?_);simp only [vcW,vZ,Int.reduceEq,Int.reduceNe,Int.reduceLT,Int.reduceLE,Nat.reduceEqDiff,Nat.reduceAdd,reduceIte,reduceCtorEq,Nat.reduceLT,Nat.reduceLeDiff,Nat.reduceShiftRight,Nat.reduceMod]) | (with_reducible first | refine RnB.ii ?_ | refine RnB.app ?_) | (with_reducible refine RnB.fxB ?_;simp only [vcW,vZ,Int.reduceEq,Int.reduceNe,Int.reduceLT,Int.reduceLE,Nat.reduceEqDiff,Nat.reduceAdd,reduceIte,reduceCtorEq,Nat.reduceLT,Nat.reduceLeDiff,Nat.reduceShiftRight,Nat.reduceMod]) | omega)
   all_goals exact RnB.fxB (by rw [← htk];exact prs_fxB _)
  ·have hil:i=l.length:=by omega
   subst hil
   have hc1:¬ (l.length:Int)<l.length:=by omega
   have htk:(rsL l a b c d).take l.length=rsL l a b c d:=List.take_of_length_le (by rw [hrl];exact Nat.le_refl _)
   rw [htk]
   simp only [hc1,vZ,Int.reduceEq,Int.reduceNe,Int.reduceLT,Int.reduceLE,Nat.reduceEqDiff,Nat.reduceAdd,reduceIte,reduceCtorEq,Nat.reduceLT,Nat.reduceLeDiff,Nat.reduceShiftRight,Nat.reduceMod]
   rw [borB_good _ _ _ _ _ (by rw [prs_length,hrl]) (prs_fx _)]
end Go.Proofs.YtgmpcbpmnimkoaaGreat

/- Lines in the reference: contracts. By an AI agent;nothing here is trusted. -/
namespace Go.Proofs.YtgmpcbpmnimkoaaGreat
open Go.Av

theorem newsOk_prs (l:List (Int × Int)):newsOk 2 (prs l):=by
 intro x hx
 obtain ⟨p,_,rfl⟩:=List.mem_map.1 hx
 exact ⟨rfl,rfl⟩
theorem CopyPairs_s (l:List (Int × Int)) (hl:l.length≤1000000000):Sound Tryz.prog 7 [.sl (prs l)] (.sl (prs l)):=by
 refine sound_W f_ref08_CopyPairs (Nat.le_of_ble_eq_true rfl) ?_
 have hm:=maxLen_big
 simp only [c_ref08_CopyPairs,prs_length,vZ,Int.reduceEq,Int.reduceNe,Int.reduceLT,Int.reduceLE,Nat.reduceEqDiff,Nat.reduceAdd,reduceIte,reduceCtorEq,Nat.reduceLT,Nat.reduceLeDiff,Nat.reduceShiftRight,Nat.reduceMod]
 refine ⟨newsOk_prs l,⟨by omega,by omega⟩,?_⟩
 rw [borB_good _ _ _ _ _ (by rw [prs_length]) (prs_fx _)]
theorem wRanges_s (a:List (Int × Int)) (ha:a.length≤1000000):Sound Tryz.prog 15 [.sl (prs a),.sl (prs a)] (.bool true):=by
 refine sound_W f_base_Ranges (Nat.le_of_ble_eq_true rfl) ?_
 simp only [c_base_Ranges,prs_length,vZ,Int.reduceEq,Int.reduceNe,Int.reduceLT,Int.reduceLE,Nat.reduceEqDiff,Nat.reduceAdd,reduceIte,reduceCtorEq,Nat.reduceLT,Nat.reduceLeDiff,Nat.reduceShiftRight,Nat.reduceMod]
 refine W_loop (t:=.mk) (α:=PSigma fun i:Nat=>i≤a.length) (fun ⟨i,_⟩=>(envOf [(0,.sl (prs a)),(1,.sl (prs a)),(5,.int .i64 i)],stOf [])) (fun p=>a.length - p.1) ⟨0,Nat.zero_le _⟩ ?_ (fun ⟨i,hi⟩=>?_)
 ·refine weakX [] (of_decide_eq_true rfl) (of_decide_eq_true rfl) ?_
  (simp only [vcW,vZ,Int.reduceEq,Int.reduceNe,Int.reduceLT,Int.reduceLE,Nat.reduceEqDiff,Nat.reduceAdd,reduceIte,reduceCtorEq,Nat.reduceLT,Nat.reduceLeDiff,Nat.reduceShiftRight,Nat.reduceMod])
  (repeat' first | exact trivial | (with_reducible first | exact RnB.fxB (ints_fxB _) | rfl | refine And.intro ?_ ?_) | (with_reducible (first | refine RnB.bb ?_ | refine RnB.nb ?_);simp only [vcW,vZ,Int.reduceEq,Int.reduceNe,Int.reduceLT,Int.reduceLE,Nat.reduceEqDiff,Nat.reduceAdd,reduceIte,reduceCtorEq,Nat.reduceLT,Nat.reduceLeDiff,Nat.reduceShiftRight,Nat.reduceMod]) | (with_reducible first | refine RnB.ii ?_ | refine RnB.app ?_) | (with_reducible refine RnB.fxB ?_;simp only [vcW,vZ,Int.reduceEq,Int.reduceNe,Int.reduceLT,Int.reduceLE,Nat.reduceEqDiff,Nat.reduceAdd,reduceIte,reduceCtorEq,Nat.reduceLT,Nat.reduceLeDiff,Nat.reduceShiftRight,Nat.reduceMod]) | omega)
 ·dsimp only at hi ⊢
  by_cases h':i<a.length
  ·have h5:(i:Int)<a.length:=by omega
   simp only [h5,prs_length,prs_get a i h',vZ,Int.reduceEq,Int.reduceNe,Int.reduceLT,Int.reduceLE,Nat.reduceEqDiff,Nat.reduceAdd,reduceIte,reduceCtorEq,Nat.reduceLT,Nat.reduceLeDiff,Nat.reduceShiftRight,Nat.reduceMod]
   (repeat (with_reducible refine And.intro ?_ ?_;focus (first | omega | (unfold I64;omega))))
   refine ⟨⟨i+1,h'⟩,by simp only;omega,?_⟩
   refine weakX [] (of_decide_eq_true rfl) (of_decide_eq_true rfl) ?_
   (simp only [vcW,vZ,Int.reduceEq,Int.reduceNe,Int.reduceLT,Int.reduceLE,Nat.reduceEqDiff,Nat.reduceAdd,reduceIte,reduceCtorEq,Nat.reduceLT,Nat.reduceLeDiff,Nat.reduceShiftRight,Nat.reduceMod])
   (repeat' first | exact trivial | (with_reducible first | exact RnB.fxB (ints_fxB _) | rfl | refine And.intro ?_ ?_) | (with_reducible (first | refine RnB.bb ?_ | refine RnB.nb ?_);simp only [vcW,vZ,Int.reduceEq,Int.reduceNe,Int.reduceLT,Int.reduceLE,Nat.reduceEqDiff,Nat.reduceAdd,reduceIte,reduceCtorEq,Nat.reduceLT,Nat.reduceLeDiff,Nat.reduceShiftRight,Nat.reduceMod]) | (with_reducible first | refine RnB.ii ?_ | refine RnB.app ?_) | (with_reducible refine RnB.fxB ?_;simp only [vcW,vZ,Int.reduceEq,Int.reduceNe,Int.reduceLT,Int.reduceLE,Nat.reduceEqDiff,Nat.reduceAdd,reduceIte,reduceCtorEq,Nat.reduceLT,Nat.reduceLeDiff,Nat.reduceShiftRight,Nat.reduceMod]) | omega)
  ·have h5:¬ (i:Int)<a.length:=by omega
   simp only [h5,prs_length,vZ,Int.reduceEq,Int.reduceNe,Int.reduceLT,Int.reduceLE,Nat.reduceEqDiff,Nat.reduceAdd,reduceIte,reduceCtorEq,Nat.reduceLT,Nat.reduceLeDiff,Nat.reduceShiftRight,Nat.reduceMod]
theorem refPairsErr_s (l:List (Int × Int)):Sound Tryz.prog 11 [.sl (prs l)] (.int .i64 (prE l)):=by
 refine sound_W f_ref08_PairsErr (Nat.le_of_ble_eq_true rfl) ?_
 by_cases h1:l.length<2
 ·have hr:prE l=10:=by unfold prE;rw [if_pos h1]
  have h1':(l.length:Int)<2:=by omega
  rw [hr]
  simp only [c_ref08_PairsErr,prs_length,h1',vZ,Int.reduceEq,Int.reduceNe,Int.reduceLT,Int.reduceLE,Nat.reduceEqDiff,Nat.reduceAdd,reduceIte,reduceCtorEq,Nat.reduceLT,Nat.reduceLeDiff,Nat.reduceShiftRight,Nat.reduceMod]
 have h1':¬ (l.length:Int)<2:=by omega
 by_cases h2:20<l.length
 ·have hr:prE l=8:=by unfold prE;rw [if_neg h1,if_pos h2]
  have h2':(20:Int)<l.length:=by omega
  rw [hr]
  simp only [c_ref08_PairsErr,prs_length,h1',h2',vZ,Int.reduceEq,Int.reduceNe,Int.reduceLT,Int.reduceLE,Nat.reduceEqDiff,Nat.reduceAdd,reduceIte,reduceCtorEq,Nat.reduceLT,Nat.reduceLeDiff,Nat.reduceShiftRight,Nat.reduceMod]
 have h2':¬ (20:Int)<l.length:=by omega
 have hr:prE l=if l.all okP then 0 else 2:=by unfold prE;rw [if_neg h1,if_neg h2]
 rw [hr]
 simp only [c_ref08_PairsErr,prs_length,h1',h2',vZ,Int.reduceEq,Int.reduceNe,Int.reduceLT,Int.reduceLE,Nat.reduceEqDiff,Nat.reduceAdd,reduceIte,reduceCtorEq,Nat.reduceLT,Nat.reduceLeDiff,Nat.reduceShiftRight,Nat.reduceMod]
 refine W_loop (t:=.mk) (α:=PSigma fun i:Nat=>i≤l.length∧(l.take i).all okP=true) (fun ⟨i,_⟩=>(envOf [(0,.sl (prs l)),(3,.int .i64 (i:Nat))],stOf [])) (fun x=>l.length - x.1) ⟨0,Nat.zero_le _,rfl⟩ ?_ (fun ⟨i,hi,hal⟩=>?_)
 ·refine weakX [] (of_decide_eq_true rfl) (of_decide_eq_true rfl) ?_
  (simp only [vcW,vZ,Int.reduceEq,Int.reduceNe,Int.reduceLT,Int.reduceLE,Nat.reduceEqDiff,Nat.reduceAdd,reduceIte,reduceCtorEq,Nat.reduceLT,Nat.reduceLeDiff,Nat.reduceShiftRight,Nat.reduceMod])
  (repeat' first | exact trivial | (with_reducible first | exact RnB.fxB (ints_fxB _) | rfl | refine And.intro ?_ ?_) | (with_reducible (first | refine RnB.bb ?_ | refine RnB.nb ?_);simp only [vcW,vZ,Int.reduceEq,Int.reduceNe,Int.reduceLT,Int.reduceLE,Nat.reduceEqDiff,Nat.reduceAdd,reduceIte,reduceCtorEq,Nat.reduceLT,Nat.reduceLeDiff,Nat.reduceShiftRight,Nat.reduceMod]) | (with_reducible first | refine RnB.ii ?_ | refine RnB.app ?_) | (with_reducible refine RnB.fxB ?_;simp only [vcW,vZ,Int.reduceEq,Int.reduceNe,Int.reduceLT,Int.reduceLE,Nat.reduceEqDiff,Nat.reduceAdd,reduceIte,reduceCtorEq,Nat.reduceLT,Nat.reduceLeDiff,Nat.reduceShiftRight,Nat.reduceMod]) | omega)
  all_goals first | rfl | trace_state
 ·dsimp only at hi hal ⊢
  by_cases h':i<l.length
  ·have hc1:(i:Int)<l.length:=by omega
   have hg:=prs_get l i h'
   have hno:okP l[i]=false→l.all okP=false:=fun h=>List.all_eq_false.2 ⟨_,List.getElem_mem h',by rw [h];decide⟩
   by_cases a1:0≤l[i].1∧l[i].1≤100
   ·by_cases a2:0≤l[i].2∧l[i].2≤100
    ·have hok:okP l[i]=true:=okP_iff.2 ⟨a1,a2⟩
     simp only [hc1,hg,prs_length,vZ,Int.reduceEq,Int.reduceNe,Int.reduceLT,Int.reduceLE,Nat.reduceEqDiff,Nat.reduceAdd,reduceIte,reduceCtorEq,Nat.reduceLT,Nat.reduceLeDiff,Nat.reduceShiftRight,Nat.reduceMod]
     (repeat (with_reducible refine And.intro ?_ ?_;focus (first | omega | (unfold I64;omega))))
     refine callS_of (Within_s _ _ _) ?_
     simp only [a1,hg,prs_length,vZ,Int.reduceEq,Int.reduceNe,Int.reduceLT,Int.reduceLE,Nat.reduceEqDiff,Nat.reduceAdd,reduceIte,reduceCtorEq,Nat.reduceLT,Nat.reduceLeDiff,Nat.reduceShiftRight,Nat.reduceMod]
     (repeat (with_reducible refine And.intro ?_ ?_;focus (first | omega | (unfold I64;omega))))
     refine callS_of (Within_s _ _ _) ?_
     simp only [a2,vZ,Int.reduceEq,Int.reduceNe,Int.reduceLT,Int.reduceLE,Nat.reduceEqDiff,Nat.reduceAdd,reduceIte,reduceCtorEq,Nat.reduceLT,Nat.reduceLeDiff,Nat.reduceShiftRight,Nat.reduceMod]
     refine ⟨by unfold I64;omega,⟨i+1,h',by rw [List.take_succ_eq_append_getElem h',List.all_append,hal];simp [hok]⟩,by simp only;omega,?_⟩
     refine weakX [] (of_decide_eq_true rfl) (of_decide_eq_true rfl) ?_
     (simp only [vcW,vZ,Int.reduceEq,Int.reduceNe,Int.reduceLT,Int.reduceLE,Nat.reduceEqDiff,Nat.reduceAdd,reduceIte,reduceCtorEq,Nat.reduceLT,Nat.reduceLeDiff,Nat.reduceShiftRight,Nat.reduceMod])
     (repeat' first | exact trivial | (with_reducible first | exact RnB.fxB (ints_fxB _) | rfl | refine And.intro ?_ ?_) | (with_reducible (first | refine RnB.bb ?_ | refine RnB.nb ?_);simp only [vcW,vZ,Int.reduceEq,Int.reduceNe,Int.reduceLT,Int.reduceLE,Nat.reduceEqDiff,Nat.reduceAdd,reduceIte,reduceCtorEq,Nat.reduceLT,Nat.reduceLeDiff,Nat.reduceShiftRight,Nat.reduceMod]) | (with_reducible first | refine RnB.ii ?_ | refine RnB.app ?_) | (with_reducible refine RnB.fxB ?_;simp only [vcW,vZ,Int.reduceEq,Int.reduceNe,Int.reduceLT,Int.reduceLE,Nat.reduceEqDiff,Nat.reduceAdd,reduceIte,reduceCtorEq,Nat.reduceLT,Nat.reduceLeDiff,Nat.reduceShiftRight,Nat.reduceMod]) | omega)
     all_goals first | rfl | trace_state
    ·have hok:okP l[i]=false:=by
      cases e:okP l[i] with
      | false=>rfl
      | true=>exact absurd (okP_iff.1 e).2 a2
     rw [hno hok]
     simp only [hc1,hg,prs_length,vZ,Int.reduceEq,Int.reduceNe,Int.reduceLT,Int.reduceLE,Nat.reduceEqDiff,Nat.reduceAdd,reduceIte,reduceCtorEq,Nat.reduceLT,Nat.reduceLeDiff,Nat.reduceShiftRight,Nat.reduceMod]
     (repeat (with_reducible refine And.intro ?_ ?_;focus (first | omega | (unfold I64;omega))))
     refine callS_of (Within_s _ _ _) ?_
     simp only [a1,hg,prs_length,vZ,Int.reduceEq,Int.reduceNe,Int.reduceLT,Int.reduceLE,Nat.reduceEqDiff,Nat.reduceAdd,reduceIte,reduceCtorEq,Nat.reduceLT,Nat.reduceLeDiff,Nat.reduceShiftRight,Nat.reduceMod]
     (repeat (with_reducible refine And.intro ?_ ?_;focus (first | omega | (unfold I64;omega))))
     refine callS_of (Within_s _ _ _) ?_
     simp only [a2,vZ,Int.reduceEq,Int.reduceNe,Int.reduceLT,Int.reduceLE,Nat.reduceEqDiff,Nat.reduceAdd,reduceIte,reduceCtorEq,Nat.reduceLT,Nat.reduceLeDiff,Nat.reduceShiftRight,Nat.reduceMod]
   ·have hok:okP l[i]=false:=by
     cases e:okP l[i] with
     | false=>rfl
     | true=>exact absurd (okP_iff.1 e).1 a1
    rw [hno hok]
    simp only [hc1,hg,prs_length,vZ,Int.reduceEq,Int.reduceNe,Int.reduceLT,Int.reduceLE,Nat.reduceEqDiff,Nat.reduceAdd,reduceIte,reduceCtorEq,Nat.reduceLT,Nat.reduceLeDiff,Nat.reduceShiftRight,Nat.reduceMod]
    (repeat (with_reducible refine And.intro ?_ ?_;focus (first | omega | (unfold I64;omega))))
    refine callS_of (Within_s _ _ _) ?_
    simp only [a1,vZ,Int.reduceEq,Int.reduceNe,Int.reduceLT,Int.reduceLE,Nat.reduceEqDiff,Nat.reduceAdd,reduceIte,reduceCtorEq,Nat.reduceLT,Nat.reduceLeDiff,Nat.reduceShiftRight,Nat.reduceMod]
  ·have hil:i=l.length:=by omega
   subst hil
   have hc1:¬ (l.length:Int)<l.length:=by omega
   rw [List.take_length] at hal
   rw [hal]
   simp only [hc1,prs_length,vZ,Int.reduceEq,Int.reduceNe,Int.reduceLT,Int.reduceLE,Nat.reduceEqDiff,Nat.reduceAdd,reduceIte,reduceCtorEq,Nat.reduceLT,Nat.reduceLeDiff,Nat.reduceShiftRight,Nat.reduceMod]
theorem Equal_s (l:List (Int × Int)) (hl:2≤l.length∧l.length≤1000000):Sound Tryz.prog 12 [.sl (prs l)] (.bool (decide (Ln.same l))):=by
 refine sound_W f_ref08_Equal (Nat.le_of_ble_eq_true rfl) ?_
 have h0:0<l.length:=by omega
 have g0:=prs_get l 0 h0
 have e0:(l.headD (0,0)).1=l[0].1:=by
  cases l with
  | nil=>simp at h0
  | cons p r=>rfl
 have i0:Int.toNat 0=0:=rfl
 simp only [c_ref08_Equal,prs_length,vZ,Int.reduceEq,Int.reduceNe,Int.reduceLT,Int.reduceLE,Nat.reduceEqDiff,Nat.reduceAdd,reduceIte,reduceCtorEq,Nat.reduceLT,Nat.reduceLeDiff,Nat.reduceShiftRight,Nat.reduceMod]
 refine W_loop (t:=.mk) (α:=PSigma fun i:Nat=>i≤l.length∧∀ p ∈ l.take i,p.1=l[0].1) (fun ⟨i,_⟩=>(envOf [(0,.sl (prs l)),(3,.int .i64 (i:Nat))],stOf [])) (fun x=>l.length - x.1) ⟨0,Nat.zero_le _,fun p hp=>by simp at hp⟩ ?_ (fun ⟨i,hi,hal⟩=>?_)
 ·refine weakX [] (of_decide_eq_true rfl) (of_decide_eq_true rfl) ?_
  (simp only [vcW,vZ,Int.reduceEq,Int.reduceNe,Int.reduceLT,Int.reduceLE,Nat.reduceEqDiff,Nat.reduceAdd,reduceIte,reduceCtorEq,Nat.reduceLT,Nat.reduceLeDiff,Nat.reduceShiftRight,Nat.reduceMod])
  (repeat' first | exact trivial | (with_reducible first | exact RnB.fxB (ints_fxB _) | rfl | refine And.intro ?_ ?_) | (with_reducible (first | refine RnB.bb ?_ | refine RnB.nb ?_);simp only [vcW,vZ,Int.reduceEq,Int.reduceNe,Int.reduceLT,Int.reduceLE,Nat.reduceEqDiff,Nat.reduceAdd,reduceIte,reduceCtorEq,Nat.reduceLT,Nat.reduceLeDiff,Nat.reduceShiftRight,Nat.reduceMod]) | (with_reducible first | refine RnB.ii ?_ | refine RnB.app ?_) | (with_reducible refine RnB.fxB ?_;simp only [vcW,vZ,Int.reduceEq,Int.reduceNe,Int.reduceLT,Int.reduceLE,Nat.reduceEqDiff,Nat.reduceAdd,reduceIte,reduceCtorEq,Nat.reduceLT,Nat.reduceLeDiff,Nat.reduceShiftRight,Nat.reduceMod]) | omega)
  all_goals first | rfl | trace_state
 ·dsimp only at hi hal ⊢
  by_cases h':i<l.length
  ·have hc1:(i:Int)<l.length:=by omega
   have hg:=prs_get l i h'
   by_cases e:l[i].1=l[0].1
   ·simp only [hc1,hg,g0,i0,prs_length,e,vZ,Int.reduceEq,Int.reduceNe,Int.reduceLT,Int.reduceLE,Nat.reduceEqDiff,Nat.reduceAdd,reduceIte,reduceCtorEq,Nat.reduceLT,Nat.reduceLeDiff,Nat.reduceShiftRight,Nat.reduceMod]
    (repeat (with_reducible refine And.intro ?_ ?_;focus (first | omega | (unfold I64;omega))))
    refine ⟨⟨i+1,h',fun p hp=>?_⟩,by simp only;omega,?_⟩
    ·rw [List.take_succ_eq_append_getElem h'] at hp
     rcases List.mem_append.1 hp with hp | hp
     ·exact hal p hp
     ·simp at hp;rw [hp];exact e
    ·refine weakX [] (of_decide_eq_true rfl) (of_decide_eq_true rfl) ?_
     (simp only [vcW,vZ,Int.reduceEq,Int.reduceNe,Int.reduceLT,Int.reduceLE,Nat.reduceEqDiff,Nat.reduceAdd,reduceIte,reduceCtorEq,Nat.reduceLT,Nat.reduceLeDiff,Nat.reduceShiftRight,Nat.reduceMod])
     (repeat' first | exact trivial | (with_reducible first | exact RnB.fxB (ints_fxB _) | rfl | refine And.intro ?_ ?_) | (with_reducible (first | refine RnB.bb ?_ | refine RnB.nb ?_);simp only [vcW,vZ,Int.reduceEq,Int.reduceNe,Int.reduceLT,Int.reduceLE,Nat.reduceEqDiff,Nat.reduceAdd,reduceIte,reduceCtorEq,Nat.reduceLT,Nat.reduceLeDiff,Nat.reduceShiftRight,Nat.reduceMod]) | (with_reducible first | refine RnB.ii ?_ | refine RnB.app ?_) | (with_reducible refine RnB.fxB ?_;simp only [vcW,vZ,Int.reduceEq,Int.reduceNe,Int.reduceLT,Int.reduceLE,Nat.reduceEqDiff,Nat.reduceAdd,reduceIte,reduceCtorEq,Nat.reduceLT,Nat.reduceLeDiff,Nat.reduceShiftRight,Nat.reduceMod]) | omega)
     all_goals first | rfl | trace_state
   ·have hf:decide (Ln.same l)=false:=decide_eq_false fun h=>e (by rw [h _ (List.getElem_mem h'),e0])
    rw [hf]
    simp only [hc1,hg,g0,i0,prs_length,e,vZ,Int.reduceEq,Int.reduceNe,Int.reduceLT,Int.reduceLE,Nat.reduceEqDiff,Nat.reduceAdd,reduceIte,reduceCtorEq,Nat.reduceLT,Nat.reduceLeDiff,Nat.reduceShiftRight,Nat.reduceMod]
    (repeat (with_reducible refine And.intro ?_ ?_;focus (first | omega | (unfold I64;omega))))
    all_goals omega
  ·have hil:i=l.length:=by omega
   subst hil
   have hc1:¬ (l.length:Int)<l.length:=by omega
   rw [List.take_length] at hal
   have hf:decide (Ln.same l)=true:=decide_eq_true fun p hp=>by rw [e0];exact hal p hp
   rw [hf]
   simp only [hc1,prs_length,vZ,Int.reduceEq,Int.reduceNe,Int.reduceLT,Int.reduceLE,Nat.reduceEqDiff,Nat.reduceAdd,reduceIte,reduceCtorEq,Nat.reduceLT,Nat.reduceLeDiff,Nat.reduceShiftRight,Nat.reduceMod]
theorem IsLowest_g (n d:Int) (hd:I64 d):Sound Tryz.prog 40 [fracA n d] (.bool (lowQ n d)):=by
 refine sound_W f_base_IsLowest (Nat.le_of_ble_eq_true rfl) ?_
 unfold I64 at hd
 unfold lowQ
 simp only [c_base_IsLowest,fracA,vZ,Int.reduceEq,Int.reduceNe,Int.reduceLT,Int.reduceLE,Nat.reduceEqDiff,Nat.reduceAdd,reduceIte,reduceCtorEq,Nat.reduceLT,Nat.reduceLeDiff,Nat.reduceShiftRight,Nat.reduceMod]
 by_cases h:0<d
 ·simp only [h,vZ,Int.reduceEq,Int.reduceNe,Int.reduceLT,Int.reduceLE,Nat.reduceEqDiff,Nat.reduceAdd,reduceIte,reduceCtorEq,Nat.reduceLT,Nat.reduceLeDiff,Nat.reduceShiftRight,Nat.reduceMod]
  refine callS_of (Gcd_p n d (by unfold S63;omega) (by omega)) ?_
  simp only [h,gcd_one_cast,vZ,Int.reduceEq,Int.reduceNe,Int.reduceLT,Int.reduceLE,Nat.reduceEqDiff,Nat.reduceAdd,reduceIte,reduceCtorEq,Nat.reduceLT,Nat.reduceLeDiff,Nat.reduceShiftRight,Nat.reduceMod]
 ·simp only [h,vZ,Int.reduceEq,Int.reduceNe,Int.reduceLT,Int.reduceLE,Nat.reduceEqDiff,Nat.reduceAdd,reduceIte,reduceCtorEq,Nat.reduceLT,Nat.reduceLeDiff,Nat.reduceShiftRight,Nat.reduceMod]
theorem smallF_low {n d:Int} (h:lowQ n d=true):smallF n d=smQ n d:=by
 unfold lowQ at h
 simp only [Bool.and_eq_true,decide_eq_true_eq] at h
 unfold smallF smQ
 congr 1
 exact decide_eq_decide.2 (by omega)
theorem LineErr_s (a b c d:Int) (hb:I64 b) (hd:I64 d):Sound Tryz.prog 14 [fitA4 a b c d] (.int .i64 (lnE a b c d)):=by
 refine sound_W f_ref08_LineErr (Nat.le_of_ble_eq_true rfl) ?_
 have h1:=IsLowest_g a b hb
 have h2:=IsLowest_g c d hd
 have h3:=IsSmall_s a b
 have h4:=IsSmall_s c d
 have q1:=smallF_low (n:=a) (d:=b)
 have q2:=smallF_low (n:=c) (d:=d)
 unfold fracA at h1 h2 h3 h4
 unfold lnE
 cases e1:lowQ a b with
 | false =>
  rw [e1] at h1
  simp only [c_ref08_LineErr,fitA4,vZ,Int.reduceEq,Int.reduceNe,Int.reduceLT,Int.reduceLE,Nat.reduceEqDiff,Nat.reduceAdd,reduceIte,reduceCtorEq,Nat.reduceLT,Nat.reduceLeDiff,Nat.reduceShiftRight,Nat.reduceMod]
  refine callS_of h1 ?_
  simp only [vZ,Int.reduceEq,Int.reduceNe,Int.reduceLT,Int.reduceLE,Nat.reduceEqDiff,Nat.reduceAdd,reduceIte,reduceCtorEq,Nat.reduceLT,Nat.reduceLeDiff,Nat.reduceShiftRight,Nat.reduceMod]
 | true =>
  rw [e1] at h1
  rw [q1 e1] at h3
  cases e2:lowQ c d with
  | false =>
   rw [e2] at h2
   simp only [c_ref08_LineErr,fitA4,vZ,Int.reduceEq,Int.reduceNe,Int.reduceLT,Int.reduceLE,Nat.reduceEqDiff,Nat.reduceAdd,reduceIte,reduceCtorEq,Nat.reduceLT,Nat.reduceLeDiff,Nat.reduceShiftRight,Nat.reduceMod]
   refine callS_of h1 ?_
   simp only [vZ,Int.reduceEq,Int.reduceNe,Int.reduceLT,Int.reduceLE,Nat.reduceEqDiff,Nat.reduceAdd,reduceIte,reduceCtorEq,Nat.reduceLT,Nat.reduceLeDiff,Nat.reduceShiftRight,Nat.reduceMod]
   refine callS_of h2 ?_
   simp only [vZ,Int.reduceEq,Int.reduceNe,Int.reduceLT,Int.reduceLE,Nat.reduceEqDiff,Nat.reduceAdd,reduceIte,reduceCtorEq,Nat.reduceLT,Nat.reduceLeDiff,Nat.reduceShiftRight,Nat.reduceMod]
  | true =>
   rw [e2] at h2
   rw [q2 e2] at h4
   cases e3:smQ a b <;> cases e4:smQ c d <;> rw [e3] at h3 <;> rw [e4] at h4
   ·simp only [c_ref08_LineErr,fitA4,vZ,Int.reduceEq,Int.reduceNe,Int.reduceLT,Int.reduceLE,Nat.reduceEqDiff,Nat.reduceAdd,reduceIte,reduceCtorEq,Nat.reduceLT,Nat.reduceLeDiff,Nat.reduceShiftRight,Nat.reduceMod]
    refine callS_of h1 ?_
    simp only [vZ,Int.reduceEq,Int.reduceNe,Int.reduceLT,Int.reduceLE,Nat.reduceEqDiff,Nat.reduceAdd,reduceIte,reduceCtorEq,Nat.reduceLT,Nat.reduceLeDiff,Nat.reduceShiftRight,Nat.reduceMod]
    refine callS_of h2 ?_
    simp only [vZ,Int.reduceEq,Int.reduceNe,Int.reduceLT,Int.reduceLE,Nat.reduceEqDiff,Nat.reduceAdd,reduceIte,reduceCtorEq,Nat.reduceLT,Nat.reduceLeDiff,Nat.reduceShiftRight,Nat.reduceMod]
    refine callS_of h3 ?_
    simp only [vZ,Int.reduceEq,Int.reduceNe,Int.reduceLT,Int.reduceLE,Nat.reduceEqDiff,Nat.reduceAdd,reduceIte,reduceCtorEq,Nat.reduceLT,Nat.reduceLeDiff,Nat.reduceShiftRight,Nat.reduceMod]
   ·simp only [c_ref08_LineErr,fitA4,vZ,Int.reduceEq,Int.reduceNe,Int.reduceLT,Int.reduceLE,Nat.reduceEqDiff,Nat.reduceAdd,reduceIte,reduceCtorEq,Nat.reduceLT,Nat.reduceLeDiff,Nat.reduceShiftRight,Nat.reduceMod]
    refine callS_of h1 ?_
    simp only [vZ,Int.reduceEq,Int.reduceNe,Int.reduceLT,Int.reduceLE,Nat.reduceEqDiff,Nat.reduceAdd,reduceIte,reduceCtorEq,Nat.reduceLT,Nat.reduceLeDiff,Nat.reduceShiftRight,Nat.reduceMod]
    refine callS_of h2 ?_
    simp only [vZ,Int.reduceEq,Int.reduceNe,Int.reduceLT,Int.reduceLE,Nat.reduceEqDiff,Nat.reduceAdd,reduceIte,reduceCtorEq,Nat.reduceLT,Nat.reduceLeDiff,Nat.reduceShiftRight,Nat.reduceMod]
    refine callS_of h3 ?_
    simp only [vZ,Int.reduceEq,Int.reduceNe,Int.reduceLT,Int.reduceLE,Nat.reduceEqDiff,Nat.reduceAdd,reduceIte,reduceCtorEq,Nat.reduceLT,Nat.reduceLeDiff,Nat.reduceShiftRight,Nat.reduceMod]
   ·simp only [c_ref08_LineErr,fitA4,vZ,Int.reduceEq,Int.reduceNe,Int.reduceLT,Int.reduceLE,Nat.reduceEqDiff,Nat.reduceAdd,reduceIte,reduceCtorEq,Nat.reduceLT,Nat.reduceLeDiff,Nat.reduceShiftRight,Nat.reduceMod]
    refine callS_of h1 ?_
    simp only [vZ,Int.reduceEq,Int.reduceNe,Int.reduceLT,Int.reduceLE,Nat.reduceEqDiff,Nat.reduceAdd,reduceIte,reduceCtorEq,Nat.reduceLT,Nat.reduceLeDiff,Nat.reduceShiftRight,Nat.reduceMod]
    refine callS_of h2 ?_
    simp only [vZ,Int.reduceEq,Int.reduceNe,Int.reduceLT,Int.reduceLE,Nat.reduceEqDiff,Nat.reduceAdd,reduceIte,reduceCtorEq,Nat.reduceLT,Nat.reduceLeDiff,Nat.reduceShiftRight,Nat.reduceMod]
    refine callS_of h3 ?_
    simp only [vZ,Int.reduceEq,Int.reduceNe,Int.reduceLT,Int.reduceLE,Nat.reduceEqDiff,Nat.reduceAdd,reduceIte,reduceCtorEq,Nat.reduceLT,Nat.reduceLeDiff,Nat.reduceShiftRight,Nat.reduceMod]
    refine callS_of h4 ?_
    simp only [vZ,Int.reduceEq,Int.reduceNe,Int.reduceLT,Int.reduceLE,Nat.reduceEqDiff,Nat.reduceAdd,reduceIte,reduceCtorEq,Nat.reduceLT,Nat.reduceLeDiff,Nat.reduceShiftRight,Nat.reduceMod]
   ·simp only [c_ref08_LineErr,fitA4,vZ,Int.reduceEq,Int.reduceNe,Int.reduceLT,Int.reduceLE,Nat.reduceEqDiff,Nat.reduceAdd,reduceIte,reduceCtorEq,Nat.reduceLT,Nat.reduceLeDiff,Nat.reduceShiftRight,Nat.reduceMod]
    refine callS_of h1 ?_
    simp only [vZ,Int.reduceEq,Int.reduceNe,Int.reduceLT,Int.reduceLE,Nat.reduceEqDiff,Nat.reduceAdd,reduceIte,reduceCtorEq,Nat.reduceLT,Nat.reduceLeDiff,Nat.reduceShiftRight,Nat.reduceMod]
    refine callS_of h2 ?_
    simp only [vZ,Int.reduceEq,Int.reduceNe,Int.reduceLT,Int.reduceLE,Nat.reduceEqDiff,Nat.reduceAdd,reduceIte,reduceCtorEq,Nat.reduceLT,Nat.reduceLeDiff,Nat.reduceShiftRight,Nat.reduceMod]
    refine callS_of h3 ?_
    simp only [vZ,Int.reduceEq,Int.reduceNe,Int.reduceLT,Int.reduceLE,Nat.reduceEqDiff,Nat.reduceAdd,reduceIte,reduceCtorEq,Nat.reduceLT,Nat.reduceLeDiff,Nat.reduceShiftRight,Nat.reduceMod]
    refine callS_of h4 ?_
    simp only [vZ,Int.reduceEq,Int.reduceNe,Int.reduceLT,Int.reduceLE,Nat.reduceEqDiff,Nat.reduceAdd,reduceIte,reduceCtorEq,Nat.reduceLT,Nat.reduceLeDiff,Nat.reduceShiftRight,Nat.reduceMod]
set_option maxHeartbeats 4000000 in
theorem refwFit_s (l:List (Int × Int)) (h:prE l=0) (hz:Ln.den l ≠ 0):Sound Tryz.prog 13 [.sl (prs l)] (fitL l):=by
 refine sound_W f_ref08_Fit (Nat.le_of_ble_eq_true rfl) ?_
 obtain ⟨⟨h2,h20⟩,hb⟩:=prE_ok h
 simp only [c_ref08_Fit,prs_length,vZ,Int.reduceEq,Int.reduceNe,Int.reduceLT,Int.reduceLE,Nat.reduceEqDiff,Nat.reduceAdd,reduceIte,reduceCtorEq,Nat.reduceLT,Nat.reduceLeDiff,Nat.reduceShiftRight,Nat.reduceMod]
 refine W_loop (t:=.mk) (α:=PSigma fun i:Nat=>i≤l.length) (fun ⟨i,_⟩=>(envOf [(0,.sl (prs l)),(2,.ptr 2 0 0),(3,.int .i64 (l.length:Nat)),(4,.int .i64 (Ln.sx (l.take i))),(5,.int .i64 (Ln.sy (l.take i))),(6,.int .i64 (Ln.sxx (l.take i))),(7,.int .i64 (Ln.sxy (l.take i))),(8,.int .i64 (i:Nat))],stOf [(2,⟨26,4,[.agg [.int .i64 0,.int .i64 0,.int .i64 0,.int .i64 0]]⟩)])) (fun x=>l.length - x.1) ⟨0,Nat.zero_le _⟩ ?_ (fun ⟨i,hi⟩=>?_)
 ·refine weakX [] (of_decide_eq_true rfl) (of_decide_eq_true rfl) ?_
  (simp only [vcW,vZ,Int.reduceEq,Int.reduceNe,Int.reduceLT,Int.reduceLE,Nat.reduceEqDiff,Nat.reduceAdd,reduceIte,reduceCtorEq,Nat.reduceLT,Nat.reduceLeDiff,Nat.reduceShiftRight,Nat.reduceMod])
  (repeat' first | exact trivial | (with_reducible first | exact RnB.fxB (ints_fxB _) | rfl | refine And.intro ?_ ?_) | (with_reducible (first | refine RnB.bb ?_ | refine RnB.nb ?_);simp only [vcW,vZ,Int.reduceEq,Int.reduceNe,Int.reduceLT,Int.reduceLE,Nat.reduceEqDiff,Nat.reduceAdd,reduceIte,reduceCtorEq,Nat.reduceLT,Nat.reduceLeDiff,Nat.reduceShiftRight,Nat.reduceMod]) | (with_reducible first | refine RnB.ii ?_ | refine RnB.app ?_) | (with_reducible refine RnB.fxB ?_;simp only [vcW,vZ,Int.reduceEq,Int.reduceNe,Int.reduceLT,Int.reduceLE,Nat.reduceEqDiff,Nat.reduceAdd,reduceIte,reduceCtorEq,Nat.reduceLT,Nat.reduceLeDiff,Nat.reduceShiftRight,Nat.reduceMod]) | omega)
  all_goals first | rfl | trace_state
 ·dsimp only at hi ⊢
  by_cases h':i<l.length
  ·have hc1:(i:Int)<l.length:=by omega
   have hg:=prs_get l i h'
   have S:=sums_ok h i
   have S1:=sums_ok h (i+1)
   have t1:Ln.sx (l.take (i+1))=Ln.sx (l.take i)+l[i].1:=Ln.pS_take _ l h'
   have t2:Ln.sy (l.take (i+1))=Ln.sy (l.take i)+l[i].2:=Ln.pS_take _ l h'
   have t3:Ln.sxx (l.take (i+1))=Ln.sxx (l.take i)+l[i].1 * l[i].1:=Ln.pS_take _ l h'
   have t4:Ln.sxy (l.take (i+1))=Ln.sxy (l.take i)+l[i].1 * l[i].2:=Ln.pS_take _ l h'
   have b1:=S1.x
   have b2:=S1.y
   have b3:=S1.xx
   have b4:=S1.xy
   have c1:=S.xx
   have c2:=S.xy
   rw [t1] at b1
   rw [t2] at b2
   rw [t3] at b3
   rw [t4] at b4
   simp only [hc1,hg,prs_length,vZ,Int.reduceEq,Int.reduceNe,Int.reduceLT,Int.reduceLE,Nat.reduceEqDiff,Nat.reduceAdd,reduceIte,reduceCtorEq,Nat.reduceLT,Nat.reduceLeDiff,Nat.reduceShiftRight,Nat.reduceMod]
   (repeat (with_reducible refine And.intro ?_ ?_;focus (first | omega | (unfold I64;omega))))
   refine ⟨⟨i+1,h'⟩,by simp only;omega,?_⟩
   refine weakX [] (of_decide_eq_true rfl) (of_decide_eq_true rfl) ?_
   (simp only [t1,t2,t3,t4,vcW,vZ,Int.reduceEq,Int.reduceNe,Int.reduceLT,Int.reduceLE,Nat.reduceEqDiff,Nat.reduceAdd,reduceIte,reduceCtorEq,Nat.reduceLT,Nat.reduceLeDiff,Nat.reduceShiftRight,Nat.reduceMod])
   (repeat' first | exact trivial | (with_reducible first | exact RnB.fxB (ints_fxB _) | rfl | refine And.intro ?_ ?_) | (with_reducible (first | refine RnB.bb ?_ | refine RnB.nb ?_);simp only [vcW,vZ,Int.reduceEq,Int.reduceNe,Int.reduceLT,Int.reduceLE,Nat.reduceEqDiff,Nat.reduceAdd,reduceIte,reduceCtorEq,Nat.reduceLT,Nat.reduceLeDiff,Nat.reduceShiftRight,Nat.reduceMod]) | (with_reducible first | refine RnB.ii ?_ | refine RnB.app ?_) | (with_reducible refine RnB.fxB ?_;simp only [vcW,vZ,Int.reduceEq,Int.reduceNe,Int.reduceLT,Int.reduceLE,Nat.reduceEqDiff,Nat.reduceAdd,reduceIte,reduceCtorEq,Nat.reduceLT,Nat.reduceLeDiff,Nat.reduceShiftRight,Nat.reduceMod]) | omega)
   all_goals trace_state
  ·have hil:i=l.length:=by omega
   subst hil
   have hc1:¬ (l.length:Int)<l.length:=by omega
   obtain ⟨m1,m2,m3,m4,m5,m6⟩:=line_bd h
   have hd:Ln.den l=l.length * Ln.sxx l - Ln.sx l * Ln.sx l:=rfl
   have hnn:=Ln.den_nn l
   rw [List.take_length]
   have L1:=Lowest_s (fN1 l) (Ln.den l) (by unfold S63 fN1;omega) (by unfold S63;omega) hz
   have L2:=Lowest_s (fN2 l) (Ln.den l) (by unfold S63 fN2;omega) (by unfold S63;omega) hz
   unfold fitL fitA4
   unfold fracA at L1 L2
   generalize lowN (fN1 l) (Ln.den l)=u1 at *
   generalize lowD (fN1 l) (Ln.den l)=u2 at *
   generalize lowN (fN2 l) (Ln.den l)=u3 at *
   generalize lowD (fN2 l) (Ln.den l)=u4 at *
   unfold fN1 at L1
   unfold fN2 at L2
   rw [hd] at L1 L2
   simp only [hc1,vZ,Int.reduceEq,Int.reduceNe,Int.reduceLT,Int.reduceLE,Nat.reduceEqDiff,Nat.reduceAdd,reduceIte,reduceCtorEq,Nat.reduceLT,Nat.reduceLeDiff,Nat.reduceShiftRight,Nat.reduceMod]
   (repeat (with_reducible refine And.intro ?_ ?_;focus (first | omega | (unfold I64;omega))))
   refine callS_of L1 ?_
   simp only [vZ,Int.reduceEq,Int.reduceNe,Int.reduceLT,Int.reduceLE,Nat.reduceEqDiff,Nat.reduceAdd,reduceIte,reduceCtorEq,Nat.reduceLT,Nat.reduceLeDiff,Nat.reduceShiftRight,Nat.reduceMod]
   (repeat (with_reducible refine And.intro ?_ ?_;focus (first | omega | (unfold I64;omega))))
   refine callS_of L2 ?_
   simp only [vZ,Int.reduceEq,Int.reduceNe,Int.reduceLT,Int.reduceLE,Nat.reduceEqDiff,Nat.reduceAdd,reduceIte,reduceCtorEq,Nat.reduceLT,Nat.reduceLeDiff,Nat.reduceShiftRight,Nat.reduceMod]
end Go.Proofs.YtgmpcbpmnimkoaaGreat

/- Wide numbers as numbers: contract. Printed by genfw.py. By an AI agent;nothing here is trusted. -/
namespace Go.Proofs.YtgmpcbpmnimkoaaGreat
open Go.Av

theorem e92:(1000000000:Nat) ^ 2=1000000000000000000:=by decide
theorem pow9 {k:Nat} (h:k≤2):(1000000000:Int) ^ k≤1000000000000000000:=by
 have h1:(1000000000:Nat) ^ k≤1000000000 ^ 2:=Nat.pow_le_pow_right (by omega) h
 rw [e92] at h1
 have h2:(1000000000:Int) ^ k=((1000000000 ^ k:Nat):Int):=by simp
 rw [h2];omega
theorem dg_two {n:Nat} (h:n<1000000000000000000):(dg n).length≤2:=dg_len (k:=2) (by rw [e92];exact h)
theorem dg_three {n:Nat} (h:¬ n<1000000000000000000):2<(dg n).length:=by
 refine Classical.byContradiction fun hn=>h ?_
 have h1:=dVal_lt (okD_dg n)
 rw [dVal_dg] at h1
 have h2:=pow9 (k:=(dg n).length) (by omega)
 omega
theorem WideInt_s (v:Int):Sound Tryz.prog 42 [wideA v] (.tup [.int .i64 (if v.natAbs<1000000000000000000 then v else 0),.bool (decide (v.natAbs<1000000000000000000))]):=by
 refine sound_W f_base_WideInt (Nat.le_of_ble_eq_true rfl) ?_
 rw [wide_hr]
 by_cases h:v.natAbs<1000000000000000000
 case neg =>
  have h3:(2:Int)<(dg v.natAbs).length:=by have:=dg_three h;omega
  rw [if_neg h]
  simp only [c_base_WideInt,h3,h,vZ,Int.reduceEq,Int.reduceNe,Int.reduceLT,Int.reduceLE,Nat.reduceEqDiff,Nat.reduceAdd,reduceIte,reduceCtorEq,Nat.reduceLT,Nat.reduceLeDiff,Nat.reduceShiftRight,Nat.reduceMod]
 have h2:=dg_two h
 have h3:¬ (2:Int)<(dg v.natAbs).length:=by omega
 have hv:=dVal_dg v.natAbs
 have ho:=okD_dg v.natAbs
 have hsv:v.sign * (v.natAbs:Int)=v:=Int.sign_mul_natAbs v
 rw [if_pos h]
 generalize dg v.natAbs=l at *
 have hbd:∀ k,0≤dVal (l.drop k)∧dVal (l.drop k)<1000000000000000000:=fun k=>by
  have ok:okD (l.drop k):=fun d hd=>ho d (List.mem_of_mem_drop hd)
  refine ⟨dVal_nonneg ok,?_⟩
  have h1:=dVal_lt ok
  have h2:=pow9 (k:=(l.drop k).length) (by rw [List.length_drop];omega)
  omega
 simp only [c_base_WideInt,h3,h,vZ,Int.reduceEq,Int.reduceNe,Int.reduceLT,Int.reduceLE,Nat.reduceEqDiff,Nat.reduceAdd,reduceIte,reduceCtorEq,Nat.reduceLT,Nat.reduceLeDiff,Nat.reduceShiftRight,Nat.reduceMod]
 (repeat (with_reducible refine And.intro ?_ ?_;focus (first | omega | (unfold I64;omega))))
 refine W_loop (t:=.mk) (α:=PSigma fun i:Nat=>i≤l.length) (fun ⟨i,_⟩=>(envOf [(1,.ptr 1 0 0),(4,.int .i64 (dVal (l.drop (l.length - i)))),(5,.int .i64 ((l.length:Int) - 1 - i))],stOf [(1,⟨79,2,[.agg [.int .i64 v.sign,.sl (ints l)]]⟩)])) (fun x=>l.length - x.1) ⟨0,Nat.zero_le _⟩ ?_ (fun ⟨i,hin⟩=>?_)
 ·have e0:dVal (l.drop (l.length - 0))=0:=by rw [Nat.sub_zero,List.drop_length];rfl
  have e1:(l.length:Int) - 1 - (0:Nat)=(l.length:Int) - 1:=by omega
  refine weakX [] (of_decide_eq_true rfl) (of_decide_eq_true rfl) ?_
  (simp only [e0,e1,vcW,vZ,Int.reduceEq,Int.reduceNe,Int.reduceLT,Int.reduceLE,Nat.reduceEqDiff,Nat.reduceAdd,reduceIte,reduceCtorEq,Nat.reduceLT,Nat.reduceLeDiff,Nat.reduceShiftRight,Nat.reduceMod])
  (repeat' first | exact trivial | (with_reducible first | exact RnB.fxB (ints_fxB _) | rfl | refine And.intro ?_ ?_) | (with_reducible (first | refine RnB.bb ?_ | refine RnB.nb ?_);simp only [vcW,vZ,Int.reduceEq,Int.reduceNe,Int.reduceLT,Int.reduceLE,Nat.reduceEqDiff,Nat.reduceAdd,reduceIte,reduceCtorEq,Nat.reduceLT,Nat.reduceLeDiff,Nat.reduceShiftRight,Nat.reduceMod]) | (with_reducible first | refine RnB.ii ?_ | refine RnB.app ?_) | (with_reducible refine RnB.fxB ?_;simp only [vcW,vZ,Int.reduceEq,Int.reduceNe,Int.reduceLT,Int.reduceLE,Nat.reduceEqDiff,Nat.reduceAdd,reduceIte,reduceCtorEq,Nat.reduceLT,Nat.reduceLeDiff,Nat.reduceShiftRight,Nat.reduceMod]) | omega)
 ·dsimp only at hin ⊢
  by_cases h':i<l.length
  ·have hc1:(0:Int)≤(l.length:Int) - 1 - i:=by omega
   have hj:l.length - 1 - i<l.length:=by omega
   have hji:(l.length:Int) - 1 - i=((l.length - 1 - i:Nat):Int):=by omega
   have hg:=ints_get l (l.length - 1 - i) hj
   have hdr:l.drop (l.length - (i+1))=l[l.length - 1 - i] :: l.drop (l.length - i):=by
    rw [show l.length - (i+1)=l.length - 1 - i by omega,List.drop_eq_getElem_cons hj]
    congr 2;omega
   have hb1:=hbd (l.length - i)
   have hb2:=hbd (l.length - (i+1))
   have hoj:=ho _ (List.getElem_mem hj)
   have hnx:dVal (l.drop (l.length - i)) * 1000000000+l[l.length - 1 - i]=dVal (l.drop (l.length - (i+1))):=by rw [hdr,dVal];omega
   have e2:((l.length - 1 - i:Nat):Int) - 1=(l.length:Int) - 1 - ((i+1:Nat):Int):=by omega
   rw [hji] at hc1 ⊢
   generalize l[l.length - 1 - i]=dd at *
   simp only [hc1,hg,hnx,e2,vZ,Int.reduceEq,Int.reduceNe,Int.reduceLT,Int.reduceLE,Nat.reduceEqDiff,Nat.reduceAdd,reduceIte,reduceCtorEq,Nat.reduceLT,Nat.reduceLeDiff,Nat.reduceShiftRight,Nat.reduceMod]
   (repeat (with_reducible refine And.intro ?_ ?_;focus (first | omega | (unfold I64;omega))))
   refine ⟨⟨i+1,h'⟩,by simp only;omega,?_⟩
   refine weakX [] (of_decide_eq_true rfl) (of_decide_eq_true rfl) ?_
   (simp only [vcW,vZ,Int.reduceEq,Int.reduceNe,Int.reduceLT,Int.reduceLE,Nat.reduceEqDiff,Nat.reduceAdd,reduceIte,reduceCtorEq,Nat.reduceLT,Nat.reduceLeDiff,Nat.reduceShiftRight,Nat.reduceMod])
   (repeat' first | exact trivial | (with_reducible first | exact RnB.fxB (ints_fxB _) | rfl | refine And.intro ?_ ?_) | (with_reducible (first | refine RnB.bb ?_ | refine RnB.nb ?_);simp only [vcW,vZ,Int.reduceEq,Int.reduceNe,Int.reduceLT,Int.reduceLE,Nat.reduceEqDiff,Nat.reduceAdd,reduceIte,reduceCtorEq,Nat.reduceLT,Nat.reduceLeDiff,Nat.reduceShiftRight,Nat.reduceMod]) | (with_reducible first | refine RnB.ii ?_ | refine RnB.app ?_) | (with_reducible refine RnB.fxB ?_;simp only [vcW,vZ,Int.reduceEq,Int.reduceNe,Int.reduceLT,Int.reduceLE,Nat.reduceEqDiff,Nat.reduceAdd,reduceIte,reduceCtorEq,Nat.reduceLT,Nat.reduceLeDiff,Nat.reduceShiftRight,Nat.reduceMod]) | omega)
  ·have hil:i=l.length:=by omega
   subst hil
   have hc1:¬ (0:Int)≤(l.length:Int) - 1 - l.length:=by omega
   have hb1:=hbd 0
   rw [List.drop_zero,hv] at hb1
   rw [Nat.sub_self,List.drop_zero,hv]
   simp only [hc1,hsv,h,vZ,Int.reduceEq,Int.reduceNe,Int.reduceLT,Int.reduceLE,Nat.reduceEqDiff,Nat.reduceAdd,reduceIte,reduceCtorEq,Nat.reduceLT,Nat.reduceLeDiff,Nat.reduceShiftRight,Nat.reduceMod]
   unfold I64;omega
end Go.Proofs.YtgmpcbpmnimkoaaGreat

/- Residuals of a line in the reference,and its test of a fit: contracts. By an AI agent;nothing here is trusted. -/
namespace Go.Proofs.YtgmpcbpmnimkoaaGreat
open Go.Av

theorem RatioFloor_f {q:Rat} (h:qOk 1000 q):Sound Tryz.prog 43 [rq q] (wideA (q.num / (q.den:Int))):=by
 refine sound_W f_base_RatioFloor (Nat.le_of_ble_eq_true rfl) ?_
 have hF:=WideFloor_s q.num q.den (by have:=q.den_nz;omega) (wOk_more h.1 (by omega)) (wOk_more h.2 (by omega))
 rw [wide_hr,wide_hr,wide_hr] at hF
 rw [rq_hr,wide_hr]
 simp only [c_base_RatioFloor,vZ,Int.reduceEq,Int.reduceNe,Int.reduceLT,Int.reduceLE,Nat.reduceEqDiff,Nat.reduceAdd,reduceIte,reduceCtorEq,Nat.reduceLT,Nat.reduceLeDiff,Nat.reduceShiftRight,Nat.reduceMod]
 refine callS_of hF ?_
 simp only [vZ,Int.reduceEq,Int.reduceNe,Int.reduceLT,Int.reduceLE,Nat.reduceEqDiff,Nat.reduceAdd,reduceIte,reduceCtorEq,Nat.reduceLT,Nat.reduceLeDiff,Nat.reduceShiftRight,Nat.reduceMod]
theorem RatioCeil_f {q:Rat} (h:qOk 1000 q):Sound Tryz.prog 44 [rq q] (wideA (-((-q.num) / (q.den:Int)))):=by
 refine sound_W f_base_RatioCeil (Nat.le_of_ble_eq_true rfl) ?_
 have hN:=WideNeg_s q.num
 have hF:=WideFloor_s (-q.num) q.den (by have:=q.den_nz;omega) (wOk_more (wOk_neg h.1) (by omega)) (wOk_more h.2 (by omega))
 have hN2:=WideNeg_s ((-q.num) / (q.den:Int))
 rw [wide_hr,wide_hr] at hN hN2
 rw [wide_hr,wide_hr,wide_hr] at hF
 rw [rq_hr,wide_hr]
 simp only [c_base_RatioCeil,vZ,Int.reduceEq,Int.reduceNe,Int.reduceLT,Int.reduceLE,Nat.reduceEqDiff,Nat.reduceAdd,reduceIte,reduceCtorEq,Nat.reduceLT,Nat.reduceLeDiff,Nat.reduceShiftRight,Nat.reduceMod]
 refine callS_of hN ?_
 simp only [vZ,Int.reduceEq,Int.reduceNe,Int.reduceLT,Int.reduceLE,Nat.reduceEqDiff,Nat.reduceAdd,reduceIte,reduceCtorEq,Nat.reduceLT,Nat.reduceLeDiff,Nat.reduceShiftRight,Nat.reduceMod]
 refine callS_of hF ?_
 simp only [vZ,Int.reduceEq,Int.reduceNe,Int.reduceLT,Int.reduceLE,Nat.reduceEqDiff,Nat.reduceAdd,reduceIte,reduceCtorEq,Nat.reduceLT,Nat.reduceLeDiff,Nat.reduceShiftRight,Nat.reduceMod]
 refine callS_of hN2 ?_
 simp only [vZ,Int.reduceEq,Int.reduceNe,Int.reduceLT,Int.reduceLE,Nat.reduceEqDiff,Nat.reduceAdd,reduceIte,reduceCtorEq,Nat.reduceLT,Nat.reduceLeDiff,Nat.reduceShiftRight,Nat.reduceMod]
def RB:Nat:=100000000000000000000000
def SB:Nat→Nat
 | 0=>1
 | n+1=>2 * (SB n * (RB * 100))
theorem SB_mono {i:Nat}:∀ {d:Nat},SB i≤SB (i+d)
 | 0=>Nat.le_refl _
 | d+1=>by
  have:=SB_mono (i:=i) (d:=d)
  show SB i≤2 * (SB (i+d) * (RB * 100))
  have h:SB (i+d)≤SB (i+d) * (RB * 100):=Nat.le_mul_of_pos_right _ (by unfold RB;omega)
  omega
theorem SB_20:SB 20 * 100<1000000000 ^ 1000:=by decide +kernel
theorem RB_ok:RB * 100<1000000000 ^ 1000:=by decide +kernel
theorem SB_ok {i:Nat} (h:i≤20) {q:Rat} (hq:qB (SB i) q):qOk 1000 q:=by
 obtain ⟨d,hd⟩:=Nat.exists_eq_add_of_le h
 refine qB_ok hq (Nat.lt_of_le_of_lt (Nat.le_trans SB_mono (?_:SB (i+d)≤SB 20 * 100)) SB_20)
 rw [← hd];omega
theorem one_lt {M:Nat} (h:M≤RB * 100):M<1000000000 ^ 1000:=Nat.lt_of_le_of_lt h RB_ok
theorem so_B {n d:Int} (hn : -1000000000≤n∧n≤1000000000) (hd:1≤d∧d≤1000000000):qB 1000000000 (Rat.divInt n d):=by
 have:=divInt_le n d (by omega)
 exact ⟨by omega,by omega⟩
theorem res_B {s o:Rat} (hs:qB 1000000000 s) (ho:qB 1000000000 o) {p:Int × Int} (hp:(0≤p.1∧p.1≤100)∧0≤p.2∧p.2≤100):qB 100000000000 (s * ((p.1:Int):Rat))∧qB 200000000000000000000 (s * ((p.1:Int):Rat)+o)∧qB RB (Ln.res s o p):=by
 have h1:qB 100 ((p.1:Int):Rat):=qB_int (by omega) (by omega)
 have h2:qB 100 ((p.2:Int):Rat):=qB_int (by omega) (by omega)
 have h3:=qB_more (qB_mul hs h1) (K:=100000000000) (by omega)
 have h4:=qB_more (qB_add h3 ho) (K:=200000000000000000000) (by omega)
 exact ⟨h3,h4,qB_more (qB_sub h2 h4) (by unfold RB;omega)⟩
set_option maxHeartbeats 4000000 in
theorem Residual_s {a b c d:Int} (h:lnE a b c d=0) {p:Int × Int} (hp:(0≤p.1∧p.1≤100)∧0≤p.2∧p.2≤100):Sound Tryz.prog 35 [fitA4 a b c d,prA p] (rq (Ln.res (Rat.divInt a b) (Rat.divInt c d) p)):=by
 refine sound_W f_ref08_Residual (Nat.le_of_ble_eq_true rfl) ?_
 obtain ⟨q1,q2,q3,q4,_,_⟩:=lnE_ok h
 have hs:=so_B q3 q1
 have ho:=so_B q4 q2
 obtain ⟨r1,r2,r3⟩:=res_B hs ho hp
 have F1:=RatioFrom_q a b (by unfold I64;omega) (by unfold I64;omega) (by omega)
 have F2:=RatioFrom_q c d (by unfold I64;omega) (by unfold I64;omega) (by omega)
 have I1:=RatioInt_q p.1 (by unfold I64;omega)
 have I2:=RatioInt_q p.2 (by unfold I64;omega)
 have oi:∀ n:Int,(0≤n∧n≤100)→qOk 1000 ((n:Int):Rat):=fun n hn=>qB_ok (M:=100) (qB_int (by omega) (by omega)) (one_lt (by unfold RB;omega))
 have M1:=RatioMul_q (qB_ok hs (one_lt (by unfold RB;omega))) (oi p.1 hp.1)
 have A1:=RatioAdd_q (qB_ok r1 (one_lt (by unfold RB;omega))) (qB_ok ho (one_lt (by unfold RB;omega)))
 have S1:=RatioSub_q (oi p.2 hp.2) (qB_ok r2 (one_lt (by unfold RB;omega)))
 have e:((p.2:Int):Rat) - (Rat.divInt a b * ((p.1:Int):Rat)+Rat.divInt c d)=Ln.res (Rat.divInt a b) (Rat.divInt c d) p:=rfl
 rw [e] at S1
 unfold fracA at F1 F2
 rw [rq_hr] at F1 F2 I1 I2
 rw [rq_hr,rq_hr,rq_hr] at M1 A1 S1
 rw [rq_hr]
 simp only [c_ref08_Residual,fitA4,prA,vZ,Int.reduceEq,Int.reduceNe,Int.reduceLT,Int.reduceLE,Nat.reduceEqDiff,Nat.reduceAdd,reduceIte,reduceCtorEq,Nat.reduceLT,Nat.reduceLeDiff,Nat.reduceShiftRight,Nat.reduceMod]
 refine callS_of F1 ?_
 simp only [vZ,Int.reduceEq,Int.reduceNe,Int.reduceLT,Int.reduceLE,Nat.reduceEqDiff,Nat.reduceAdd,reduceIte,reduceCtorEq,Nat.reduceLT,Nat.reduceLeDiff,Nat.reduceShiftRight,Nat.reduceMod]
 refine callS_of I1 ?_
 simp only [vZ,Int.reduceEq,Int.reduceNe,Int.reduceLT,Int.reduceLE,Nat.reduceEqDiff,Nat.reduceAdd,reduceIte,reduceCtorEq,Nat.reduceLT,Nat.reduceLeDiff,Nat.reduceShiftRight,Nat.reduceMod]
 refine callS_of M1 ?_
 simp only [vZ,Int.reduceEq,Int.reduceNe,Int.reduceLT,Int.reduceLE,Nat.reduceEqDiff,Nat.reduceAdd,reduceIte,reduceCtorEq,Nat.reduceLT,Nat.reduceLeDiff,Nat.reduceShiftRight,Nat.reduceMod]
 refine callS_of F2 ?_
 simp only [vZ,Int.reduceEq,Int.reduceNe,Int.reduceLT,Int.reduceLE,Nat.reduceEqDiff,Nat.reduceAdd,reduceIte,reduceCtorEq,Nat.reduceLT,Nat.reduceLeDiff,Nat.reduceShiftRight,Nat.reduceMod]
 refine callS_of A1 ?_
 simp only [vZ,Int.reduceEq,Int.reduceNe,Int.reduceLT,Int.reduceLE,Nat.reduceEqDiff,Nat.reduceAdd,reduceIte,reduceCtorEq,Nat.reduceLT,Nat.reduceLeDiff,Nat.reduceShiftRight,Nat.reduceMod]
 refine callS_of I2 ?_
 simp only [vZ,Int.reduceEq,Int.reduceNe,Int.reduceLT,Int.reduceLE,Nat.reduceEqDiff,Nat.reduceAdd,reduceIte,reduceCtorEq,Nat.reduceLT,Nat.reduceLeDiff,Nat.reduceShiftRight,Nat.reduceMod]
 refine callS_of S1 ?_
 simp only [vZ,Int.reduceEq,Int.reduceNe,Int.reduceLT,Int.reduceLE,Nat.reduceEqDiff,Nat.reduceAdd,reduceIte,reduceCtorEq,Nat.reduceLT,Nat.reduceLeDiff,Nat.reduceShiftRight,Nat.reduceMod]
theorem sum_B {f:Int × Int→Rat} {l:List (Int × Int)} (hf:∀ p ∈ l,qB (RB * 100) (f p)):∀ n,n≤l.length→qB (SB n) (Ln.rS f (l.take n))
 | 0,_=>by
  rw [List.take_zero]
  exact qB_int (n:=0) (by decide) (by decide)
 | n+1,hn=>by
  rw [Ln.rS_take f l (show n<l.length by omega)]
  exact qB_add (sum_B hf n (by omega)) (hf _ (List.getElem_mem (by omega)))
def rfE (l:List (Int × Int)) (a b c d:Int):Int:=if prE l ≠ 0 then prE l else if Ln.same l then 11 else if lnE a b c d ≠ 0 then lnE a b c d else
 if Ln.rS (Ln.res (Rat.divInt a b) (Rat.divInt c d)) l=0∧Ln.rS (fun p=>Ln.res (Rat.divInt a b) (Rat.divInt c d) p * ((p.1:Int):Rat)) l=0 then 0 else 19
theorem sgn_ne (q:Rat):(decide ((if q<0 then (-1:Int) else if 0<q then 1 else 0)=0))=decide (q=0):=by
 by_cases h1:q<0
 ·have h2:q ≠ 0:=by grind
  simp [h1,h2]
 ·by_cases h2:0<q
  ·have h3:q ≠ 0:=by grind
   simp [h1,h2,h3]
  ·have h3:q=0:=by grind
   simp [h3]
set_option maxHeartbeats 8000000 in
theorem refwFitErr_s (l:List (Int × Int)) (a b c d:Int) (hb:I64 b) (hd:I64 d):Sound Tryz.prog 10 [.sl (prs l),fitA4 a b c d] (.int .i64 (rfE l a b c d)):=by
 refine sound_W f_ref08_FitErr (Nat.le_of_ble_eq_true rfl) ?_
 have hL:=LineErr_s a b c d hb hd
 unfold fitA4 at hL
 simp only [c_ref08_FitErr,fitA4,vZ,Int.reduceEq,Int.reduceNe,Int.reduceLT,Int.reduceLE,Nat.reduceEqDiff,Nat.reduceAdd,reduceIte,reduceCtorEq,Nat.reduceLT,Nat.reduceLeDiff,Nat.reduceShiftRight,Nat.reduceMod]
 refine callS_of (refPairsErr_s l) ?_
 by_cases h:prE l=0
 case neg =>
  have hr:rfE l a b c d=prE l:=by unfold rfE;rw [if_pos h]
  rw [hr]
  simp only [h,vZ,Int.reduceEq,Int.reduceNe,Int.reduceLT,Int.reduceLE,Nat.reduceEqDiff,Nat.reduceAdd,reduceIte,reduceCtorEq,Nat.reduceLT,Nat.reduceLeDiff,Nat.reduceShiftRight,Nat.reduceMod]
 obtain ⟨⟨h2,h20⟩,hpb⟩:=prE_ok h
 simp only [h,vZ,Int.reduceEq,Int.reduceNe,Int.reduceLT,Int.reduceLE,Nat.reduceEqDiff,Nat.reduceAdd,reduceIte,reduceCtorEq,Nat.reduceLT,Nat.reduceLeDiff,Nat.reduceShiftRight,Nat.reduceMod]
 refine callS_of (Equal_s l ⟨h2,by omega⟩) ?_
 by_cases hs:Ln.same l
 ·have hr:rfE l a b c d=11:=by unfold rfE;rw [if_neg (by omega),if_pos hs]
  rw [hr]
  simp only [hs,vZ,Int.reduceEq,Int.reduceNe,Int.reduceLT,Int.reduceLE,Nat.reduceEqDiff,Nat.reduceAdd,reduceIte,reduceCtorEq,Nat.reduceLT,Nat.reduceLeDiff,Nat.reduceShiftRight,Nat.reduceMod]
 simp only [hs,vZ,Int.reduceEq,Int.reduceNe,Int.reduceLT,Int.reduceLE,Nat.reduceEqDiff,Nat.reduceAdd,reduceIte,reduceCtorEq,Nat.reduceLT,Nat.reduceLeDiff,Nat.reduceShiftRight,Nat.reduceMod]
 refine callS_of hL ?_
 by_cases h3:lnE a b c d=0
 case neg =>
  have hr:rfE l a b c d=lnE a b c d:=by unfold rfE;rw [if_neg (by omega),if_neg hs,if_pos h3]
  rw [hr]
  simp only [h3,vZ,Int.reduceEq,Int.reduceNe,Int.reduceLT,Int.reduceLE,Nat.reduceEqDiff,Nat.reduceAdd,reduceIte,reduceCtorEq,Nat.reduceLT,Nat.reduceLeDiff,Nat.reduceShiftRight,Nat.reduceMod]
 obtain ⟨q1,q2,q3,q4,_,_⟩:=lnE_ok h3
 have hsB:=so_B q3 q1
 have hoB:=so_B q4 q2
 have hr:rfE l a b c d=if Ln.rS (Ln.res (Rat.divInt a b) (Rat.divInt c d)) l=0∧Ln.rS (fun p=>Ln.res (Rat.divInt a b) (Rat.divInt c d) p * ((p.1:Int):Rat)) l=0 then 0 else 19:=by
  unfold rfE;rw [if_neg (by omega),if_neg hs,if_neg (by omega)]
 rw [hr]
 have hR:=fun (p:Int × Int) (hp:p ∈ l)=>Residual_s h3 (hpb p hp)
 have hrB:=fun (p:Int × Int) (hp:p ∈ l)=>(res_B hsB hoB (hpb p hp)).2.2
 have I0:=RatioInt_q 0 (by unfold I64;omega)
 generalize Rat.divInt a b=s at *
 generalize Rat.divInt c d=o at *
 have z1:Ln.rS (Ln.res s o) (l.take 0)=((0:Int):Rat):=rfl
 have z2:Ln.rS (fun p=>Ln.res s o p * ((p.1:Int):Rat)) (l.take 0)=((0:Int):Rat):=rfl
 rw [rq_hr] at I0
 have hB1:=sum_B (f:=Ln.res s o) (l:=l) fun p hp=>qB_more (hrB p hp) (by omega)
 have hB2:=sum_B (f:=fun p=>Ln.res s o p * ((p.1:Int):Rat)) (l:=l) fun p hp=>qB_mul (hrB p hp) (qB_int (by have:=hpb p hp;omega) (by omega))
 simp only [h3,vZ,Int.reduceEq,Int.reduceNe,Int.reduceLT,Int.reduceLE,Nat.reduceEqDiff,Nat.reduceAdd,reduceIte,reduceCtorEq,Nat.reduceLT,Nat.reduceLeDiff,Nat.reduceShiftRight,Nat.reduceMod]
 refine callS_of I0 ?_
 simp only [vZ,Int.reduceEq,Int.reduceNe,Int.reduceLT,Int.reduceLE,Nat.reduceEqDiff,Nat.reduceAdd,reduceIte,reduceCtorEq,Nat.reduceLT,Nat.reduceLeDiff,Nat.reduceShiftRight,Nat.reduceMod]
 refine callS_of I0 ?_
 simp only [vZ,Int.reduceEq,Int.reduceNe,Int.reduceLT,Int.reduceLE,Nat.reduceEqDiff,Nat.reduceAdd,reduceIte,reduceCtorEq,Nat.reduceLT,Nat.reduceLeDiff,Nat.reduceShiftRight,Nat.reduceMod]
 refine W_loop (t:=.mk) (α:=PSigma fun i:Nat=>i≤l.length) (fun ⟨i,_⟩=>(envOf [(0,.sl (prs l)),(3,.ptr 3 0 0),(7,.ptr 7 0 0),(8,.ptr 8 0 0),(9,.int .i64 (i:Nat))],stOf [(3,⟨26,4,[.agg [.int .i64 a,.int .i64 b,.int .i64 c,.int .i64 d]]⟩),(7,⟨81,4,[rq (Ln.rS (Ln.res s o) (l.take i))]⟩),(8,⟨81,4,[rq (Ln.rS (fun p=>Ln.res s o p * ((p.1:Int):Rat)) (l.take i))]⟩)])) (fun x=>l.length - x.1) ⟨0,Nat.zero_le _⟩ ?_ (fun ⟨i,hi⟩=>?_)
 ·dsimp only
  rw [z1,z2]
  refine weakX [] (of_decide_eq_true rfl) (of_decide_eq_true rfl) ?_
  (simp only [rq_hr,vcW,vZ,Int.reduceEq,Int.reduceNe,Int.reduceLT,Int.reduceLE,Nat.reduceEqDiff,Nat.reduceAdd,reduceIte,reduceCtorEq,Nat.reduceLT,Nat.reduceLeDiff,Nat.reduceShiftRight,Nat.reduceMod])
  repeat' (with_reducible refine And.intro ?_ ?_)
  (repeat' first | exact trivial | (with_reducible first | exact RnB.fxB (ints_fxB _) | rfl | refine And.intro ?_ ?_) | (with_reducible (first | refine RnB.bb ?_ | refine RnB.nb ?_);simp only [vcW,vZ,Int.reduceEq,Int.reduceNe,Int.reduceLT,Int.reduceLE,Nat.reduceEqDiff,Nat.reduceAdd,reduceIte,reduceCtorEq,Nat.reduceLT,Nat.reduceLeDiff,Nat.reduceShiftRight,Nat.reduceMod]) | (with_reducible first | refine RnB.ii ?_ | refine RnB.app ?_) | (with_reducible refine RnB.fxB ?_;simp only [vcW,vZ,Int.reduceEq,Int.reduceNe,Int.reduceLT,Int.reduceLE,Nat.reduceEqDiff,Nat.reduceAdd,reduceIte,reduceCtorEq,Nat.reduceLT,Nat.reduceLeDiff,Nat.reduceShiftRight,Nat.reduceMod]) | omega)
  all_goals trace_state
 ·dsimp only at hi ⊢
  by_cases h':i<l.length
  ·have hc1:(i:Int)<l.length:=by omega
   have hg:=prs_get l i h'
   have hm:=List.getElem_mem h'
   have hp:=hpb _ hm
   have R1:=hR _ hm
   have rb:=hrB _ hm
   have I1:=RatioInt_q l[i].1 (by unfold I64;omega)
   have hxB:qB 100 ((l[i].1:Int):Rat):=qB_int (by omega) (by omega)
   have A1:=RatioAdd_q (SB_ok (by omega) (hB1 i hi)) (qB_ok rb (one_lt (by omega)))
   have M1:=RatioMul_q (qB_ok rb (one_lt (by omega))) (qB_ok hxB (one_lt (by unfold RB;omega)))
   have A2:=RatioAdd_q (SB_ok (by omega) (hB2 i hi)) (qB_ok (qB_mul rb hxB) (one_lt (by omega)))
   have t1:=Ln.rS_take (Ln.res s o) l h'
   have t2:=Ln.rS_take (fun p=>Ln.res s o p * ((p.1:Int):Rat)) l h'
   rw [← t1] at A1
   rw [← t2] at A2
   unfold fitA4 prA at R1
   rw [rq_hr] at R1 I1
   rw [rq_hr,rq_hr,rq_hr] at A1 M1 A2
   simp only [hc1,hg,prs_length,rq_hr,vZ,Int.reduceEq,Int.reduceNe,Int.reduceLT,Int.reduceLE,Nat.reduceEqDiff,Nat.reduceAdd,reduceIte,reduceCtorEq,Nat.reduceLT,Nat.reduceLeDiff,Nat.reduceShiftRight,Nat.reduceMod]
   (repeat (with_reducible refine And.intro ?_ ?_;focus (first | omega | (unfold I64;omega))))
   refine callS_of R1 ?_
   simp only [hg,prs_length,rq_hr,vZ,Int.reduceEq,Int.reduceNe,Int.reduceLT,Int.reduceLE,Nat.reduceEqDiff,Nat.reduceAdd,reduceIte,reduceCtorEq,Nat.reduceLT,Nat.reduceLeDiff,Nat.reduceShiftRight,Nat.reduceMod]
   (repeat (with_reducible refine And.intro ?_ ?_;focus (first | omega | (unfold I64;omega))))
   refine callS_of A1 ?_
   simp only [hg,prs_length,rq_hr,vZ,Int.reduceEq,Int.reduceNe,Int.reduceLT,Int.reduceLE,Nat.reduceEqDiff,Nat.reduceAdd,reduceIte,reduceCtorEq,Nat.reduceLT,Nat.reduceLeDiff,Nat.reduceShiftRight,Nat.reduceMod]
   (repeat (with_reducible refine And.intro ?_ ?_;focus (first | omega | (unfold I64;omega))))
   refine callS_of I1 ?_
   simp only [vZ,Int.reduceEq,Int.reduceNe,Int.reduceLT,Int.reduceLE,Nat.reduceEqDiff,Nat.reduceAdd,reduceIte,reduceCtorEq,Nat.reduceLT,Nat.reduceLeDiff,Nat.reduceShiftRight,Nat.reduceMod]
   refine callS_of M1 ?_
   simp only [vZ,Int.reduceEq,Int.reduceNe,Int.reduceLT,Int.reduceLE,Nat.reduceEqDiff,Nat.reduceAdd,reduceIte,reduceCtorEq,Nat.reduceLT,Nat.reduceLeDiff,Nat.reduceShiftRight,Nat.reduceMod]
   refine callS_of A2 ?_
   simp only [vZ,Int.reduceEq,Int.reduceNe,Int.reduceLT,Int.reduceLE,Nat.reduceEqDiff,Nat.reduceAdd,reduceIte,reduceCtorEq,Nat.reduceLT,Nat.reduceLeDiff,Nat.reduceShiftRight,Nat.reduceMod]
   refine ⟨by unfold I64;omega,⟨i+1,h'⟩,by simp only;omega,?_⟩
   refine weakX [] (of_decide_eq_true rfl) (of_decide_eq_true rfl) ?_
   (simp only [rq_hr,vcW,vZ,Int.reduceEq,Int.reduceNe,Int.reduceLT,Int.reduceLE,Nat.reduceEqDiff,Nat.reduceAdd,reduceIte,reduceCtorEq,Nat.reduceLT,Nat.reduceLeDiff,Nat.reduceShiftRight,Nat.reduceMod])
   repeat' (with_reducible refine And.intro ?_ ?_)
   (repeat' first | exact trivial | (with_reducible first | exact RnB.fxB (ints_fxB _) | rfl | refine And.intro ?_ ?_) | (with_reducible (first | refine RnB.bb ?_ | refine RnB.nb ?_);simp only [vcW,vZ,Int.reduceEq,Int.reduceNe,Int.reduceLT,Int.reduceLE,Nat.reduceEqDiff,Nat.reduceAdd,reduceIte,reduceCtorEq,Nat.reduceLT,Nat.reduceLeDiff,Nat.reduceShiftRight,Nat.reduceMod]) | (with_reducible first | refine RnB.ii ?_ | refine RnB.app ?_) | (with_reducible refine RnB.fxB ?_;simp only [vcW,vZ,Int.reduceEq,Int.reduceNe,Int.reduceLT,Int.reduceLE,Nat.reduceEqDiff,Nat.reduceAdd,reduceIte,reduceCtorEq,Nat.reduceLT,Nat.reduceLeDiff,Nat.reduceShiftRight,Nat.reduceMod]) | omega)
   all_goals trace_state
  ·have hil:i=l.length:=by omega
   subst hil
   have hc1:¬ (l.length:Int)<l.length:=by omega
   rw [List.take_length]
   have G1:=RatioSign_q (Ln.rS (Ln.res s o) l)
   have G2:=RatioSign_q (Ln.rS (fun p=>Ln.res s o p * ((p.1:Int):Rat)) l)
   have n1:=sgn_ne (Ln.rS (Ln.res s o) l)
   have n2:=sgn_ne (Ln.rS (fun p=>Ln.res s o p * ((p.1:Int):Rat)) l)
   rw [rq_hr] at G1 G2
   by_cases g1:Ln.rS (Ln.res s o) l=0
   ·rw [decide_eq_true g1,decide_eq_true_eq] at n1
    rw [n1] at G1
    by_cases g2:Ln.rS (fun p=>Ln.res s o p * ((p.1:Int):Rat)) l=0
    ·rw [decide_eq_true g2,decide_eq_true_eq] at n2
     rw [n2] at G2
     rw [if_pos ⟨g1,g2⟩]
     simp only [hc1,prs_length,rq_hr,vZ,Int.reduceEq,Int.reduceNe,Int.reduceLT,Int.reduceLE,Nat.reduceEqDiff,Nat.reduceAdd,reduceIte,reduceCtorEq,Nat.reduceLT,Nat.reduceLeDiff,Nat.reduceShiftRight,Nat.reduceMod]
     refine callS_of G1 ?_
     simp only [rq_hr,vZ,Int.reduceEq,Int.reduceNe,Int.reduceLT,Int.reduceLE,Nat.reduceEqDiff,Nat.reduceAdd,reduceIte,reduceCtorEq,Nat.reduceLT,Nat.reduceLeDiff,Nat.reduceShiftRight,Nat.reduceMod]
     refine callS_of G2 ?_
     simp only [vZ,Int.reduceEq,Int.reduceNe,Int.reduceLT,Int.reduceLE,Nat.reduceEqDiff,Nat.reduceAdd,reduceIte,reduceCtorEq,Nat.reduceLT,Nat.reduceLeDiff,Nat.reduceShiftRight,Nat.reduceMod]
    ·rw [decide_eq_false g2,decide_eq_false_iff_not] at n2
     rw [if_neg fun h=>g2 h.2]
     simp only [hc1,prs_length,rq_hr,vZ,Int.reduceEq,Int.reduceNe,Int.reduceLT,Int.reduceLE,Nat.reduceEqDiff,Nat.reduceAdd,reduceIte,reduceCtorEq,Nat.reduceLT,Nat.reduceLeDiff,Nat.reduceShiftRight,Nat.reduceMod]
     refine callS_of G1 ?_
     simp only [rq_hr,vZ,Int.reduceEq,Int.reduceNe,Int.reduceLT,Int.reduceLE,Nat.reduceEqDiff,Nat.reduceAdd,reduceIte,reduceCtorEq,Nat.reduceLT,Nat.reduceLeDiff,Nat.reduceShiftRight,Nat.reduceMod]
     refine callS_of G2 ?_
     simp only [n2,vZ,Int.reduceEq,Int.reduceNe,Int.reduceLT,Int.reduceLE,Nat.reduceEqDiff,Nat.reduceAdd,reduceIte,reduceCtorEq,Nat.reduceLT,Nat.reduceLeDiff,Nat.reduceShiftRight,Nat.reduceMod]
   ·rw [decide_eq_false g1,decide_eq_false_iff_not] at n1
    rw [if_neg fun h=>g1 h.1]
    simp only [hc1,prs_length,rq_hr,vZ,Int.reduceEq,Int.reduceNe,Int.reduceLT,Int.reduceLE,Nat.reduceEqDiff,Nat.reduceAdd,reduceIte,reduceCtorEq,Nat.reduceLT,Nat.reduceLeDiff,Nat.reduceShiftRight,Nat.reduceMod]
    refine callS_of G1 ?_
    simp only [n1,vZ,Int.reduceEq,Int.reduceNe,Int.reduceLT,Int.reduceLE,Nat.reduceEqDiff,Nat.reduceAdd,reduceIte,reduceCtorEq,Nat.reduceLT,Nat.reduceLeDiff,Nat.reduceShiftRight,Nat.reduceMod]
end Go.Proofs.YtgmpcbpmnimkoaaGreat

/- The reference's residuals are the code's;both tests of a line agree. By an AI agent;nothing here is trusted. -/
namespace Go.Proofs.YtgmpcbpmnimkoaaGreat
open Go.Av

theorem res_div {a b c d:Int} (hb:1≤b) (hd:1≤d) (p:Int × Int):Ln.res (Rat.divInt a b) (Rat.divInt c d) p=Rat.divInt (vR a b c d p) (b * d):=by
 unfold Ln.res vR
 rw [Rat.divInt_eq_div,Rat.divInt_eq_div,Rat.divInt_eq_div]
 simp only [Rat.intCast_sub,Rat.intCast_mul]
 have b0:((b:Int):Rat) ≠ 0:=by
  have:(0:Rat)<((b:Int):Rat):=by exact_mod_cast (show (0:Int)<b by omega)
  grind
 have d0:((d:Int):Rat) ≠ 0:=by
  have:(0:Rat)<((d:Int):Rat):=by exact_mod_cast (show (0:Int)<d by omega)
  grind
 generalize ((a:Int):Rat)=a'
 generalize ((b:Int):Rat)=b' at *
 generalize ((c:Int):Rat)=c'
 generalize ((d:Int):Rat)=d' at *
 generalize ((p.1:Int):Rat)=x
 generalize ((p.2:Int):Rat)=y
 grind
theorem q_ceil {n d:Int} (hd:0<d) : -((-(Rat.divInt n d).num) / ((Rat.divInt n d).den:Int)) = -((-n) / d):=by
 have h:=q_floor (n := -n) hd
 have e:Rat.divInt (-n) d = -(Rat.divInt n d):=by rw [Rat.neg_divInt]
 have e1:(-(Rat.divInt n d)).num = -(Rat.divInt n d).num:=rfl
 have e2:(-(Rat.divInt n d)).den=(Rat.divInt n d).den:=rfl
 rw [e,e1,e2] at h
 rw [h]
theorem vR_bd {a b c d:Int} (h:lnE a b c d=0) {p:Int × Int} (hp:(0≤p.1∧p.1≤100)∧0≤p.2∧p.2≤100):0<b * d ∧ -(102000000000 * (b * d))≤vR a b c d p∧vR a b c d p≤102000000000 * (b * d):=by
 obtain ⟨q1,q2,q3,q4,_,_⟩:=lnE_ok h
 have m1:=Lin.abs_mul (A:=100) (B:=1000000000) (a:=p.1) (b:=a) (by omega) (by omega)
 have m2:0≤p.2 * b∧p.2 * b≤100 * b:=⟨Int.mul_nonneg (by omega) (by omega),Int.mul_le_mul_of_nonneg_right (by omega) (by omega)⟩
 obtain ⟨A,hA⟩:∃ A:Nat,b=A:=⟨b.toNat,by omega⟩
 obtain ⟨D,hD⟩:∃ D:Nat,d=D:=⟨d.toNat,by omega⟩
 unfold vR
 obtain ⟨x0,hx0⟩:∃ x0,x0=p.2 * b - p.1 * a:=⟨_,rfl⟩
 rw [← hx0]
 obtain ⟨k1,_⟩:=k_bd (x:=x0.natAbs) (y:=c.natAbs) (A:=A) (B:=D) (by omega) (by omega) (by omega) (by omega) rfl rfl
 have e1:(x0 * d).natAbs=x0.natAbs * D:=by rw [Int.natAbs_mul,hD];rfl
 have e2:(c * b).natAbs=c.natAbs * A:=by rw [Int.natAbs_mul,hA];rfl
 have e3:((A * D:Nat):Int)=b * d:=by rw [hA,hD];push_cast;rfl
 have e4:0<A * D:=Nat.mul_pos (by omega) (by omega)
 rw [← e3]
 omega
theorem div_bd {v y K:Int} (hy:0<y) (h1 : -(K * y)≤v) (h2:v≤K * y) : -K≤v / y∧v / y≤K:=by
 constructor
 ·rw [Int.le_ediv_iff_mul_le hy,Int.neg_mul];exact h1
 ·have:v / y<K+1:=by rw [Int.ediv_lt_iff_lt_mul hy,Int.add_mul];omega
  omega
set_option maxHeartbeats 8000000 in
theorem Residuals_s (l:List (Int × Int)) (a b c d:Int) (h:prE l=0) (h3:lnE a b c d=0):Sound Tryz.prog 16 [.sl (prs l),fitA4 a b c d] (.sl (prs (rsL l a b c d))):=by
 refine sound_W f_ref08_Residuals (Nat.le_of_ble_eq_true rfl) ?_
 have hmax:=maxLen_big
 obtain ⟨⟨_,h20⟩,hpb⟩:=prE_ok h
 obtain ⟨q1,q2,q3,q4,_,_⟩:=lnE_ok h3
 have hsB:=so_B q3 q1
 have hoB:=so_B q4 q2
 have hrl:=rsL_len l a b c d
 simp only [c_ref08_Residuals,fitA4,vZ,Int.reduceEq,Int.reduceNe,Int.reduceLT,Int.reduceLE,Nat.reduceEqDiff,Nat.reduceAdd,reduceIte,reduceCtorEq,Nat.reduceLT,Nat.reduceLeDiff,Nat.reduceShiftRight,Nat.reduceMod]
 refine W_loop (t:=.mk) (α:=PSigma fun i:Nat=>i≤l.length) (fun ⟨i,_⟩=>(envOf [(0,.sl (prs l)),(3,.ptr 3 0 0),(5,.buf 100 i),(6,.int .i64 (i:Nat))],stOf [(3,⟨26,4,[.agg [.int .i64 a,.int .i64 b,.int .i64 c,.int .i64 d]]⟩),(100,⟨75,2,prs ((rsL l a b c d).take i)⟩)])) (fun x=>l.length - x.1) ⟨0,Nat.zero_le _⟩ ?_ (fun ⟨i,hi⟩=>?_)
 ·have z:prs []=[]:=rfl
  refine weakX [(100,none)] (of_decide_eq_true rfl) (of_decide_eq_true rfl) ?_
  (simp only [z,vcW,vZ,Int.reduceEq,Int.reduceNe,Int.reduceLT,Int.reduceLE,Nat.reduceEqDiff,Nat.reduceAdd,reduceIte,reduceCtorEq,Nat.reduceLT,Nat.reduceLeDiff,Nat.reduceShiftRight,Nat.reduceMod])
  (repeat' first | exact trivial | (with_reducible first | exact RnB.fxB (ints_fxB _) | rfl | refine And.intro ?_ ?_) | (with_reducible (first | refine RnB.bb ?_ | refine RnB.nb ?_);simp only [vcW,vZ,Int.reduceEq,Int.reduceNe,Int.reduceLT,Int.reduceLE,Nat.reduceEqDiff,Nat.reduceAdd,reduceIte,reduceCtorEq,Nat.reduceLT,Nat.reduceLeDiff,Nat.reduceShiftRight,Nat.reduceMod]) | (with_reducible first | refine RnB.ii ?_ | refine RnB.app ?_) | (with_reducible refine RnB.fxB ?_;simp only [vcW,vZ,Int.reduceEq,Int.reduceNe,Int.reduceLT,Int.reduceLE,Nat.reduceEqDiff,Nat.reduceAdd,reduceIte,reduceCtorEq,Nat.reduceLT,Nat.reduceLeDiff,Nat.reduceShiftRight,Nat.reduceMod]) | omega)
  all_goals first | rfl | trace_state
 ·dsimp only at hi ⊢
  have hpl:(prs ((rsL l a b c d).take i)).length=i:=by rw [prs_length,List.length_take,hrl];omega
  by_cases h':i<l.length
  ·have hc1:(i:Int)<l.length:=by omega
   have hg:=prs_get l i h'
   have hp:=hpb _ (List.getElem_mem h')
   have R1:=Residual_s h3 hp
   have rb:=(res_B hsB hoB hp).2.2
   rw [res_div (by omega) (by omega)] at R1 rb
   obtain ⟨y0,v1,v2⟩:=vR_bd h3 hp
   have htk:prs ((rsL l a b c d).take (i+1))=prs ((rsL l a b c d).take i) ++ [.agg [.int .i64 (vR a b c d l[i] / (b * d)),.int .i64 (-(-(vR a b c d l[i]) / (b * d)))]]:=by
    rw [List.take_succ_eq_append_getElem (by rw [hrl];exact h'),prs_append]
    simp [rsL,prs]
   have Fl:=RatioFloor_f (qB_ok rb (one_lt (by omega)))
   have Ce:=RatioCeil_f (qB_ok rb (one_lt (by omega)))
   rw [q_floor y0] at Fl
   rw [q_ceil y0] at Ce
   have d1:=div_bd y0 v1 v2
   have d2:=div_bd (v := -(vR a b c d l[i])) (K:=102000000000) y0 (by omega) (by omega)
   have W1:=WideInt_s (vR a b c d l[i] / (b * d))
   have W2:=WideInt_s (-(-(vR a b c d l[i]) / (b * d)))
   rw [if_pos (by omega),decide_eq_true (by omega)] at W1 W2
   unfold fitA4 prA at R1
   rw [rq_hr] at R1
   rw [rq_hr,wide_hr] at Fl Ce
   rw [wide_hr] at W1 W2
   generalize vR a b c d l[i] / (b * d)=f1 at *
   generalize -(-(vR a b c d l[i]) / (b * d))=f2 at *
   simp only [hc1,hg,prs_length,vZ,Int.reduceEq,Int.reduceNe,Int.reduceLT,Int.reduceLE,Nat.reduceEqDiff,Nat.reduceAdd,reduceIte,reduceCtorEq,Nat.reduceLT,Nat.reduceLeDiff,Nat.reduceShiftRight,Nat.reduceMod]
   (repeat (with_reducible refine And.intro ?_ ?_;focus (first | omega | (unfold I64;omega))))
   refine callS_of R1 ?_
   simp only [vZ,Int.reduceEq,Int.reduceNe,Int.reduceLT,Int.reduceLE,Nat.reduceEqDiff,Nat.reduceAdd,reduceIte,reduceCtorEq,Nat.reduceLT,Nat.reduceLeDiff,Nat.reduceShiftRight,Nat.reduceMod]
   refine callS_of Fl ?_
   simp only [vZ,Int.reduceEq,Int.reduceNe,Int.reduceLT,Int.reduceLE,Nat.reduceEqDiff,Nat.reduceAdd,reduceIte,reduceCtorEq,Nat.reduceLT,Nat.reduceLeDiff,Nat.reduceShiftRight,Nat.reduceMod]
   refine callS_of W1 ?_
   simp only [vZ,Int.reduceEq,Int.reduceNe,Int.reduceLT,Int.reduceLE,Nat.reduceEqDiff,Nat.reduceAdd,reduceIte,reduceCtorEq,Nat.reduceLT,Nat.reduceLeDiff,Nat.reduceShiftRight,Nat.reduceMod]
   refine callS_of Ce ?_
   simp only [vZ,Int.reduceEq,Int.reduceNe,Int.reduceLT,Int.reduceLE,Nat.reduceEqDiff,Nat.reduceAdd,reduceIte,reduceCtorEq,Nat.reduceLT,Nat.reduceLeDiff,Nat.reduceShiftRight,Nat.reduceMod]
   refine callS_of W2 ?_
   simp only [hpl,vZ,Int.reduceEq,Int.reduceNe,Int.reduceLT,Int.reduceLE,Nat.reduceEqDiff,Nat.reduceAdd,reduceIte,reduceCtorEq,Nat.reduceLT,Nat.reduceLeDiff,Nat.reduceShiftRight,Nat.reduceMod]
   refine ⟨⟨by omega,by omega⟩,by unfold I64;omega,⟨i+1,h'⟩,by simp only;omega,?_⟩
   refine weakX [(100,some 41)] (of_decide_eq_true rfl) (of_decide_eq_true rfl) ?_
   (simp only [htk,vcW,vZ,Int.reduceEq,Int.reduceNe,Int.reduceLT,Int.reduceLE,Nat.reduceEqDiff,Nat.reduceAdd,reduceIte,reduceCtorEq,Nat.reduceLT,Nat.reduceLeDiff,Nat.reduceShiftRight,Nat.reduceMod])
   (repeat' first | exact trivial | (with_reducible first | exact RnB.fxB (ints_fxB _) | rfl | refine And.intro ?_ ?_) | (with_reducible (first | refine RnB.bb ?_ | refine RnB.nb ?_);simp only [vcW,vZ,Int.reduceEq,Int.reduceNe,Int.reduceLT,Int.reduceLE,Nat.reduceEqDiff,Nat.reduceAdd,reduceIte,reduceCtorEq,Nat.reduceLT,Nat.reduceLeDiff,Nat.reduceShiftRight,Nat.reduceMod]) | (with_reducible first | refine RnB.ii ?_ | refine RnB.app ?_) | (with_reducible refine RnB.fxB ?_;simp only [vcW,vZ,Int.reduceEq,Int.reduceNe,Int.reduceLT,Int.reduceLE,Nat.reduceEqDiff,Nat.reduceAdd,reduceIte,reduceCtorEq,Nat.reduceLT,Nat.reduceLeDiff,Nat.reduceShiftRight,Nat.reduceMod]) | omega)
   all_goals exact RnB.fxB (by rw [← htk];exact prs_fxB _)
  ·have hil:i=l.length:=by omega
   subst hil
   have hc1:¬ (l.length:Int)<l.length:=by omega
   have htk:(rsL l a b c d).take l.length=rsL l a b c d:=List.take_of_length_le (by rw [hrl];exact Nat.le_refl _)
   rw [htk]
   simp only [hc1,prs_length,vZ,Int.reduceEq,Int.reduceNe,Int.reduceLT,Int.reduceLE,Nat.reduceEqDiff,Nat.reduceAdd,reduceIte,reduceCtorEq,Nat.reduceLT,Nat.reduceLeDiff,Nat.reduceShiftRight,Nat.reduceMod]
   rw [borB_good _ _ _ _ _ (by rw [prs_length,hrl]) (prs_fx _)]
theorem ckF_rfE (l:List (Int × Int)) (a b c d:Int):ckF l a b c d=rfE l a b c d:=by
 unfold ckF rfE
 by_cases h:prE l=0
 case neg=>rw [if_pos h,if_pos h]
 rw [if_neg (show ¬ prE l ≠ 0 by omega),if_neg (show ¬ prE l ≠ 0 by omega)]
 by_cases hs:Ln.same l
 ·rw [if_pos ((Ln.den_zero l).2 hs),if_pos hs]
 have hd:=Ln.den_pos hs
 rw [if_neg (show ¬ Ln.den l=0 by omega),if_neg hs]
 by_cases h3:lnE a b c d=0
 case neg=>rw [if_pos h3,if_pos h3]
 rw [if_neg (show ¬ lnE a b c d ≠ 0 by omega),if_neg (show ¬ lnE a b c d ≠ 0 by omega)]
 obtain ⟨q1,q2,_,_,g1,g2⟩:=lnE_ok h3
 have n:=Ln.normal hs (Rat.divInt a b) (Rat.divInt c d)
 have e1:Ln.fs l=Rat.divInt (fN1 l) (Ln.den l):=q_div _ _
 have e2:Ln.fo l=Rat.divInt (fN2 l) (Ln.den l):=q_div _ _
 rw [e1,e2,← low_eq hd (by omega) g1,← low_eq hd (by omega) g2] at n
 by_cases g:(lowN (fN1 l) (Ln.den l)=a∧lowD (fN1 l) (Ln.den l)=b)∧lowN (fN2 l) (Ln.den l)=c∧lowD (fN2 l) (Ln.den l)=d
 ·rw [if_pos (n.2 g),if_pos ⟨g.1.1,g.1.2,g.2.1,g.2.2⟩]
 ·rw [if_neg (fun q=>g (n.1 q)),if_neg (fun q=>g ⟨⟨q.1,q.2.1⟩,q.2.2.1,q.2.2.2⟩)]
end Go.Proofs.YtgmpcbpmnimkoaaGreat

/- The marked code of law functions;printed by a program. By an AI agent;nothing here is trusted. -/
namespace Go.Proofs.YtgmpcbpmnimkoaaGreat
open Go.Av
def cl_law08_WatchFits:ML:=(.seq (.reg 9 [mO 3 (.box 26 4 (.t 1)),mO 4 (.mv (.c (.bool false)))] false []) (.seq (.seq (.reg 2057 [mO 10 (.call 4 []),mO 11 (.un .not (.t 10))] false []) (.cond (.t 11) (.seq (.reg 16 [mO 4 (.mv (.c (.bool false)))] false []) .ret) .skip)) (.seq (.seq (.reg 16393 [mV 12 0,mO 13 (.call 5 [(.t 12)]),mO 14 (.un .not (.t 13))] false []) (.cond (.t 14) (.seq (.reg 16 [mO 4 (.mv (.c (.bool true)))] false []) .ret) .skip)) (.seq (.reg 105 [mV 16 0,mO 17 (.call 7 [(.t 16)]),mO 18 (.call 6 [(.t 17)]),mV 15 18,mO 19 (.extract (.t 15) 0),mO 20 (.extract (.t 15) 1),mO 5 (.alloc 26 4 (.agg [(.int .i64 0),(.int .i64 0),(.int .i64 0),(.int .i64 0)])),⟨none,none,.store 4 (.t 5) (.t 19)⟩,mV 6 20] false []) (.seq (.reg 489 [mV 22 0,mO 23 (.call 7 [(.t 22)]),mO 24 (.load (some 4) (.t 3)),mO 25 (.call 8 [(.t 23),(.t 24)]),mV 21 25,mO 26 (.extract (.t 21) 0),mO 27 (.extract (.t 21) 1),mV 7 26,mV 8 27] true []) (.seq (.seq (.reg 34359738857 [mV 28 0,mO 29 (.call 7 [(.t 28)]),mO 30 (.load (some 4) (.t 3)),mO 31 (.call 9 [(.t 29),(.t 30)]),mV 32 0,mO 33 (.load (some 4) (.t 3)),mO 34 (.call 10 [(.t 32),(.t 33)]),mO 35 (.bin .neq (.t 31) (.t 34))] true []) (.cond (.t 35) (.seq (.reg 16 [mO 4 (.mv (.c (.bool false)))] false []) .ret) .skip)) (.seq (.reg 1001 [mV 36 0,mO 37 (.call 11 [(.t 36)]),mV 9 37] false []) (.seq (.seq (.reg 549755814889 [mV 38 9,mO 39 (.bin .neq (.t 38) (.c (.int .i64 0)))] false []) (.cond (.t 39) (.seq (.reg 16 [mV 40 6,mV 41 9,mO 42 (.bin .eql (.t 40) (.t 41)),mV 43 42,mG 43 true 44 (.mv (.t 8)),mG 43 true 45 (.mv (.t 9)),mG 43 true 46 (.bin .eql (.t 44) (.t 45)),mO 47 (.pick (.t 43) (.t 46) (.c (.bool false))),mV 48 47,mG 48 true 49 (.load (some 4) (.t 5)),mG 48 true 50 (.build [(.int .i64 0),(.int .i64 0),(.int .i64 0),(.int .i64 0)] []),mG 48 true 51 (.eqS false [1,1,1,1] (.t 49) (.t 50)),mO 52 (.pick (.t 48) (.t 51) (.c (.bool false))),mV 53 52,mG 53 true 54 (.mv (.t 7)),mG 53 true 55 (.len false (.t 54)),mG 53 true 56 (.bin .eql (.t 55) (.c (.int .i64 0))),mO 57 (.pick (.t 53) (.t 56) (.c (.bool false))),mV 4 57] false []) .ret) .skip)) (.seq (.seq (.reg 576460752303423977 [mV 58 0,mO 59 (.call 12 [(.t 58)])] false []) (.cond (.t 59) (.seq (.reg 73786976294838206857 [mV 60 6,mO 61 (.bin .neq (.t 60) (.c (.int .i64 11))),mV 62 61,mG 62 false 63 (.load (some 4) (.t 5)),mG 62 false 64 (.build [(.int .i64 0),(.int .i64 0),(.int .i64 0),(.int .i64 0)] []),mG 62 false 65 (.eqS true [1,1,1,1] (.t 63) (.t 64)),mO 66 (.pick (.t 62) (.c (.bool true)) (.t 65))] false []) (.cond (.t 66) (.seq (.reg 16 [mO 4 (.mv (.c (.bool false)))] false []) .ret) .skip)) (.seq (.reg 18889465931478580855177 [mV 67 6,mO 68 (.bin .neq (.t 67) (.c (.int .i64 0))),mV 69 68,mG 69 false 70 (.load (some 4) (.t 5)),mG 69 false 71 (.mv (.t 0)),mG 69 false 72 (.call 13 [(.t 71)]),mG 69 false 73 (.eqS true [1,1,1,1] (.t 70) (.t 72)),mO 74 (.pick (.t 69) (.c (.bool true)) (.t 73))] true []) (.cond (.t 74) (.seq (.reg 16 [mO 4 (.mv (.c (.bool false)))] false []) .ret) .skip)))) (.seq (.seq (.reg 905 [mO 75 (.load (some 4) (.t 3)),mO 76 (.call 14 [(.t 75)]),mV 9 76] false []) (.seq (.reg 302231454903657293677449 [mV 77 9,mO 78 (.bin .neq (.t 77) (.c (.int .i64 0)))] false []) (.cond (.t 78) (.seq (.reg 16 [mV 79 8,mV 80 9,mO 81 (.bin .eql (.t 79) (.t 80)),mV 82 81,mG 82 true 83 (.mv (.t 7)),mG 82 true 84 (.len false (.t 83)),mG 82 true 85 (.bin .eql (.t 84) (.c (.int .i64 0))),mO 86 (.pick (.t 82) (.t 85) (.c (.bool false))),mV 4 86] false []) .ret) .skip))) (.seq (.reg 16 [mV 87 8,mO 88 (.bin .eql (.t 87) (.c (.int .i64 0))),mV 89 88,mG 89 true 90 (.mv (.t 7)),mG 89 true 91 (.mv (.t 0)),mG 89 true 92 (.load (some 4) (.t 3)),mG 89 true 93 (.call 16 [(.t 91),(.t 92)]),mG 89 true 94 (.call 15 [(.t 90),(.t 93)]),mO 95 (.pick (.t 89) (.t 94) (.c (.bool false))),mV 4 95] false []) .ret)))))))))))
def c_law08_WatchFits:MC:=cl_law08_WatchFits.er
theorem f_law08_WatchFits:cFun Tryz.prog 3=some (96,2,c_law08_WatchFits,[(4,none)]):=by kernel_rfl
theorem e_law08_WatchFits:cl_law08_WatchFits.er=c_law08_WatchFits:=rfl
end Go.Proofs.YtgmpcbpmnimkoaaGreat

/- The law WatchFits: it answers true. By an AI agent;nothing here is trusted. -/
namespace Go.Proofs.YtgmpcbpmnimkoaaGreat
open Go.Av

theorem fewPairs_s (l:List (Int × Int)):Sound Tryz.prog 5 [.sl (prs l)] (.bool (decide (l.length≤22))):=by
 refine sound_W f_law08_fewPairs (Nat.le_of_ble_eq_true rfl) ?_
 simp only [c_law08_fewPairs,prs_length,vZ,Int.reduceEq,Int.reduceNe,Int.reduceLT,Int.reduceLE,Nat.reduceEqDiff,Nat.reduceAdd,reduceIte,reduceCtorEq,Nat.reduceLT,Nat.reduceLeDiff,Nat.reduceShiftRight,Nat.reduceMod]
 exact bool_eq (by omega)
set_option maxHeartbeats 8000000 in
theorem WatchFits_s (l:List (Int × Int)) (a b c d:Int) (hb:I64 b) (hd:I64 d):Sound Tryz.prog 3 [.sl (prs l),fitA4 a b c d] (.bool true):=by
 refine sound_WL f_law08_WatchFits e_law08_WatchFits (Nat.le_of_ble_eq_true rfl) ?_
 simp only [cl_law08_WatchFits,fitA4,vZ,Int.reduceEq,Int.reduceNe,Int.reduceLT,Int.reduceLE,Nat.reduceEqDiff,Nat.reduceAdd,reduceIte,reduceCtorEq,Nat.reduceLT,Nat.reduceLeDiff,Nat.reduceShiftRight,Nat.reduceMod]
 refine callS_of awake_s ?_
 simp only [vZ,Int.reduceEq,Int.reduceNe,Int.reduceLT,Int.reduceLE,Nat.reduceEqDiff,Nat.reduceAdd,reduceIte,reduceCtorEq,Nat.reduceLT,Nat.reduceLeDiff,Nat.reduceShiftRight,Nat.reduceMod]
 refine callS_of (fewPairs_s l) ?_
 by_cases hl:l.length≤22
 case neg=>simp only [hl,vZ,Int.reduceEq,Int.reduceNe,Int.reduceLT,Int.reduceLE,Nat.reduceEqDiff,Nat.reduceAdd,reduceIte,reduceCtorEq,Nat.reduceLT,Nat.reduceLeDiff,Nat.reduceShiftRight,Nat.reduceMod]
 have hC:=CopyPairs_s l (by omega)
 have hFO:=wFitOf_s l (by omega)
 have hRO:=ResidualsOf_s l a b c d hb hd (by omega)
 have hCk:=wCheckFit_s l a b c d hb hd (by omega)
 have hRF:=refwFitErr_s l a b c d hb hd
 rw [← ckF_rfE] at hRF
 have hPE:=refPairsErr_s l
 have hLE:=LineErr_s a b c d hb hd
 have z0:((0:Nat):Int)=0:=rfl
 unfold fitA4 at hFO hRO hCk hRF hLE
 by_cases h:prE l=0
 case neg =>
  rw [if_pos h] at hFO hRO
  simp only [hl,vZ,Int.reduceEq,Int.reduceNe,Int.reduceLT,Int.reduceLE,Nat.reduceEqDiff,Nat.reduceAdd,reduceIte,reduceCtorEq,Nat.reduceLT,Nat.reduceLeDiff,Nat.reduceShiftRight,Nat.reduceMod]
  refine callS_of hC ?_
  simp only [vZ,Int.reduceEq,Int.reduceNe,Int.reduceLT,Int.reduceLE,Nat.reduceEqDiff,Nat.reduceAdd,reduceIte,reduceCtorEq,Nat.reduceLT,Nat.reduceLeDiff,Nat.reduceShiftRight,Nat.reduceMod]
  refine callS_of hFO ?_
  simp only [vZ,Int.reduceEq,Int.reduceNe,Int.reduceLT,Int.reduceLE,Nat.reduceEqDiff,Nat.reduceAdd,reduceIte,reduceCtorEq,Nat.reduceLT,Nat.reduceLeDiff,Nat.reduceShiftRight,Nat.reduceMod]
  refine callS_of hC ?_
  simp only [vZ,Int.reduceEq,Int.reduceNe,Int.reduceLT,Int.reduceLE,Nat.reduceEqDiff,Nat.reduceAdd,reduceIte,reduceCtorEq,Nat.reduceLT,Nat.reduceLeDiff,Nat.reduceShiftRight,Nat.reduceMod]
  refine callS_of hRO ?_
  simp only [vZ,Int.reduceEq,Int.reduceNe,Int.reduceLT,Int.reduceLE,Nat.reduceEqDiff,Nat.reduceAdd,reduceIte,reduceCtorEq,Nat.reduceLT,Nat.reduceLeDiff,Nat.reduceShiftRight,Nat.reduceMod]
  refine callS_of hC ?_
  simp only [vZ,Int.reduceEq,Int.reduceNe,Int.reduceLT,Int.reduceLE,Nat.reduceEqDiff,Nat.reduceAdd,reduceIte,reduceCtorEq,Nat.reduceLT,Nat.reduceLeDiff,Nat.reduceShiftRight,Nat.reduceMod]
  refine callS_of hCk ?_
  simp only [vZ,Int.reduceEq,Int.reduceNe,Int.reduceLT,Int.reduceLE,Nat.reduceEqDiff,Nat.reduceAdd,reduceIte,reduceCtorEq,Nat.reduceLT,Nat.reduceLeDiff,Nat.reduceShiftRight,Nat.reduceMod]
  refine callS_of hRF ?_
  simp only [vZ,Int.reduceEq,Int.reduceNe,Int.reduceLT,Int.reduceLE,Nat.reduceEqDiff,Nat.reduceAdd,reduceIte,reduceCtorEq,Nat.reduceLT,Nat.reduceLeDiff,Nat.reduceShiftRight,Nat.reduceMod]
  refine callS_of hPE ?_
  simp only [h,z0,vZ,Int.reduceEq,Int.reduceNe,Int.reduceLT,Int.reduceLE,Nat.reduceEqDiff,Nat.reduceAdd,reduceIte,reduceCtorEq,Nat.reduceLT,Nat.reduceLeDiff,Nat.reduceShiftRight,Nat.reduceMod]
 obtain ⟨⟨h2,h20⟩,hpb⟩:=prE_ok h
 have hEq:=Equal_s l ⟨h2,by omega⟩
 rw [if_neg (show ¬ prE l ≠ 0 by omega)] at hFO hRO
 have key:∀ (hz:Ln.den l=0∨Ln.den l ≠ 0),True:=fun _=>trivial
 by_cases h3:lnE a b c d=0
 ·rw [if_neg (show ¬ lnE a b c d ≠ 0 by omega)] at hRO
  have hRs:=Residuals_s l a b c d h h3
  have hRg:=wRanges_s (rsL l a b c d) (by rw [rsL_len];omega)
  unfold fitA4 at hRs
  by_cases hs:Ln.same l
  ·rw [if_pos ((Ln.den_zero l).2 hs)] at hFO
   rw [decide_eq_true hs] at hEq
   simp only [hl,vZ,Int.reduceEq,Int.reduceNe,Int.reduceLT,Int.reduceLE,Nat.reduceEqDiff,Nat.reduceAdd,reduceIte,reduceCtorEq,Nat.reduceLT,Nat.reduceLeDiff,Nat.reduceShiftRight,Nat.reduceMod]
   refine callS_of hC ?_
   simp only [vZ,Int.reduceEq,Int.reduceNe,Int.reduceLT,Int.reduceLE,Nat.reduceEqDiff,Nat.reduceAdd,reduceIte,reduceCtorEq,Nat.reduceLT,Nat.reduceLeDiff,Nat.reduceShiftRight,Nat.reduceMod]
   refine callS_of hFO ?_
   simp only [vZ,Int.reduceEq,Int.reduceNe,Int.reduceLT,Int.reduceLE,Nat.reduceEqDiff,Nat.reduceAdd,reduceIte,reduceCtorEq,Nat.reduceLT,Nat.reduceLeDiff,Nat.reduceShiftRight,Nat.reduceMod]
   refine callS_of hC ?_
   simp only [vZ,Int.reduceEq,Int.reduceNe,Int.reduceLT,Int.reduceLE,Nat.reduceEqDiff,Nat.reduceAdd,reduceIte,reduceCtorEq,Nat.reduceLT,Nat.reduceLeDiff,Nat.reduceShiftRight,Nat.reduceMod]
   refine callS_of hRO ?_
   simp only [vZ,Int.reduceEq,Int.reduceNe,Int.reduceLT,Int.reduceLE,Nat.reduceEqDiff,Nat.reduceAdd,reduceIte,reduceCtorEq,Nat.reduceLT,Nat.reduceLeDiff,Nat.reduceShiftRight,Nat.reduceMod]
   refine callS_of hC ?_
   simp only [vZ,Int.reduceEq,Int.reduceNe,Int.reduceLT,Int.reduceLE,Nat.reduceEqDiff,Nat.reduceAdd,reduceIte,reduceCtorEq,Nat.reduceLT,Nat.reduceLeDiff,Nat.reduceShiftRight,Nat.reduceMod]
   refine callS_of hCk ?_
   simp only [vZ,Int.reduceEq,Int.reduceNe,Int.reduceLT,Int.reduceLE,Nat.reduceEqDiff,Nat.reduceAdd,reduceIte,reduceCtorEq,Nat.reduceLT,Nat.reduceLeDiff,Nat.reduceShiftRight,Nat.reduceMod]
   refine callS_of hRF ?_
   simp only [vZ,Int.reduceEq,Int.reduceNe,Int.reduceLT,Int.reduceLE,Nat.reduceEqDiff,Nat.reduceAdd,reduceIte,reduceCtorEq,Nat.reduceLT,Nat.reduceLeDiff,Nat.reduceShiftRight,Nat.reduceMod]
   refine callS_of hPE ?_
   simp only [h,vZ,Int.reduceEq,Int.reduceNe,Int.reduceLT,Int.reduceLE,Nat.reduceEqDiff,Nat.reduceAdd,reduceIte,reduceCtorEq,Nat.reduceLT,Nat.reduceLeDiff,Nat.reduceShiftRight,Nat.reduceMod]
   refine callS_of hEq ?_
   simp only [vZ,Int.reduceEq,Int.reduceNe,Int.reduceLT,Int.reduceLE,Nat.reduceEqDiff,Nat.reduceAdd,reduceIte,reduceCtorEq,Nat.reduceLT,Nat.reduceLeDiff,Nat.reduceShiftRight,Nat.reduceMod]
   refine callS_of hLE ?_
   simp only [h3,vZ,Int.reduceEq,Int.reduceNe,Int.reduceLT,Int.reduceLE,Nat.reduceEqDiff,Nat.reduceAdd,reduceIte,reduceCtorEq,Nat.reduceLT,Nat.reduceLeDiff,Nat.reduceShiftRight,Nat.reduceMod]
   refine callS_of hRs ?_
   simp only [vZ,Int.reduceEq,Int.reduceNe,Int.reduceLT,Int.reduceLE,Nat.reduceEqDiff,Nat.reduceAdd,reduceIte,reduceCtorEq,Nat.reduceLT,Nat.reduceLeDiff,Nat.reduceShiftRight,Nat.reduceMod]
   refine callS_of hRg ?_
   simp only [vZ,Int.reduceEq,Int.reduceNe,Int.reduceLT,Int.reduceLE,Nat.reduceEqDiff,Nat.reduceAdd,reduceIte,reduceCtorEq,Nat.reduceLT,Nat.reduceLeDiff,Nat.reduceShiftRight,Nat.reduceMod]
  ·have hd0:Ln.den l ≠ 0:=by have:=Ln.den_pos hs;omega
   have hFt:=refwFit_s l h hd0
   unfold fitL fitA4 at hFO hFt
   rw [if_neg hd0] at hFO
   rw [decide_eq_false hs] at hEq
   simp only [hl,vZ,Int.reduceEq,Int.reduceNe,Int.reduceLT,Int.reduceLE,Nat.reduceEqDiff,Nat.reduceAdd,reduceIte,reduceCtorEq,Nat.reduceLT,Nat.reduceLeDiff,Nat.reduceShiftRight,Nat.reduceMod]
   refine callS_of hC ?_
   simp only [vZ,Int.reduceEq,Int.reduceNe,Int.reduceLT,Int.reduceLE,Nat.reduceEqDiff,Nat.reduceAdd,reduceIte,reduceCtorEq,Nat.reduceLT,Nat.reduceLeDiff,Nat.reduceShiftRight,Nat.reduceMod]
   refine callS_of hFO ?_
   simp only [vZ,Int.reduceEq,Int.reduceNe,Int.reduceLT,Int.reduceLE,Nat.reduceEqDiff,Nat.reduceAdd,reduceIte,reduceCtorEq,Nat.reduceLT,Nat.reduceLeDiff,Nat.reduceShiftRight,Nat.reduceMod]
   refine callS_of hC ?_
   simp only [vZ,Int.reduceEq,Int.reduceNe,Int.reduceLT,Int.reduceLE,Nat.reduceEqDiff,Nat.reduceAdd,reduceIte,reduceCtorEq,Nat.reduceLT,Nat.reduceLeDiff,Nat.reduceShiftRight,Nat.reduceMod]
   refine callS_of hRO ?_
   simp only [vZ,Int.reduceEq,Int.reduceNe,Int.reduceLT,Int.reduceLE,Nat.reduceEqDiff,Nat.reduceAdd,reduceIte,reduceCtorEq,Nat.reduceLT,Nat.reduceLeDiff,Nat.reduceShiftRight,Nat.reduceMod]
   refine callS_of hC ?_
   simp only [vZ,Int.reduceEq,Int.reduceNe,Int.reduceLT,Int.reduceLE,Nat.reduceEqDiff,Nat.reduceAdd,reduceIte,reduceCtorEq,Nat.reduceLT,Nat.reduceLeDiff,Nat.reduceShiftRight,Nat.reduceMod]
   refine callS_of hCk ?_
   simp only [vZ,Int.reduceEq,Int.reduceNe,Int.reduceLT,Int.reduceLE,Nat.reduceEqDiff,Nat.reduceAdd,reduceIte,reduceCtorEq,Nat.reduceLT,Nat.reduceLeDiff,Nat.reduceShiftRight,Nat.reduceMod]
   refine callS_of hRF ?_
   simp only [vZ,Int.reduceEq,Int.reduceNe,Int.reduceLT,Int.reduceLE,Nat.reduceEqDiff,Nat.reduceAdd,reduceIte,reduceCtorEq,Nat.reduceLT,Nat.reduceLeDiff,Nat.reduceShiftRight,Nat.reduceMod]
   refine callS_of hPE ?_
   simp only [h,vZ,Int.reduceEq,Int.reduceNe,Int.reduceLT,Int.reduceLE,Nat.reduceEqDiff,Nat.reduceAdd,reduceIte,reduceCtorEq,Nat.reduceLT,Nat.reduceLeDiff,Nat.reduceShiftRight,Nat.reduceMod]
   refine callS_of hEq ?_
   simp only [vZ,Int.reduceEq,Int.reduceNe,Int.reduceLT,Int.reduceLE,Nat.reduceEqDiff,Nat.reduceAdd,reduceIte,reduceCtorEq,Nat.reduceLT,Nat.reduceLeDiff,Nat.reduceShiftRight,Nat.reduceMod]
   refine callS_of hFt ?_
   simp only [vZ,Int.reduceEq,Int.reduceNe,Int.reduceLT,Int.reduceLE,Nat.reduceEqDiff,Nat.reduceAdd,reduceIte,reduceCtorEq,Nat.reduceLT,Nat.reduceLeDiff,Nat.reduceShiftRight,Nat.reduceMod]
   refine callS_of hLE ?_
   simp only [h3,vZ,Int.reduceEq,Int.reduceNe,Int.reduceLT,Int.reduceLE,Nat.reduceEqDiff,Nat.reduceAdd,reduceIte,reduceCtorEq,Nat.reduceLT,Nat.reduceLeDiff,Nat.reduceShiftRight,Nat.reduceMod]
   refine callS_of hRs ?_
   simp only [vZ,Int.reduceEq,Int.reduceNe,Int.reduceLT,Int.reduceLE,Nat.reduceEqDiff,Nat.reduceAdd,reduceIte,reduceCtorEq,Nat.reduceLT,Nat.reduceLeDiff,Nat.reduceShiftRight,Nat.reduceMod]
   refine callS_of hRg ?_
   simp only [vZ,Int.reduceEq,Int.reduceNe,Int.reduceLT,Int.reduceLE,Nat.reduceEqDiff,Nat.reduceAdd,reduceIte,reduceCtorEq,Nat.reduceLT,Nat.reduceLeDiff,Nat.reduceShiftRight,Nat.reduceMod]
 ·rw [if_pos h3] at hRO
  by_cases hs:Ln.same l
  ·rw [if_pos ((Ln.den_zero l).2 hs)] at hFO
   rw [decide_eq_true hs] at hEq
   simp only [hl,vZ,Int.reduceEq,Int.reduceNe,Int.reduceLT,Int.reduceLE,Nat.reduceEqDiff,Nat.reduceAdd,reduceIte,reduceCtorEq,Nat.reduceLT,Nat.reduceLeDiff,Nat.reduceShiftRight,Nat.reduceMod]
   refine callS_of hC ?_
   simp only [vZ,Int.reduceEq,Int.reduceNe,Int.reduceLT,Int.reduceLE,Nat.reduceEqDiff,Nat.reduceAdd,reduceIte,reduceCtorEq,Nat.reduceLT,Nat.reduceLeDiff,Nat.reduceShiftRight,Nat.reduceMod]
   refine callS_of hFO ?_
   simp only [vZ,Int.reduceEq,Int.reduceNe,Int.reduceLT,Int.reduceLE,Nat.reduceEqDiff,Nat.reduceAdd,reduceIte,reduceCtorEq,Nat.reduceLT,Nat.reduceLeDiff,Nat.reduceShiftRight,Nat.reduceMod]
   refine callS_of hC ?_
   simp only [vZ,Int.reduceEq,Int.reduceNe,Int.reduceLT,Int.reduceLE,Nat.reduceEqDiff,Nat.reduceAdd,reduceIte,reduceCtorEq,Nat.reduceLT,Nat.reduceLeDiff,Nat.reduceShiftRight,Nat.reduceMod]
   refine callS_of hRO ?_
   simp only [vZ,Int.reduceEq,Int.reduceNe,Int.reduceLT,Int.reduceLE,Nat.reduceEqDiff,Nat.reduceAdd,reduceIte,reduceCtorEq,Nat.reduceLT,Nat.reduceLeDiff,Nat.reduceShiftRight,Nat.reduceMod]
   refine callS_of hC ?_
   simp only [vZ,Int.reduceEq,Int.reduceNe,Int.reduceLT,Int.reduceLE,Nat.reduceEqDiff,Nat.reduceAdd,reduceIte,reduceCtorEq,Nat.reduceLT,Nat.reduceLeDiff,Nat.reduceShiftRight,Nat.reduceMod]
   refine callS_of hCk ?_
   simp only [vZ,Int.reduceEq,Int.reduceNe,Int.reduceLT,Int.reduceLE,Nat.reduceEqDiff,Nat.reduceAdd,reduceIte,reduceCtorEq,Nat.reduceLT,Nat.reduceLeDiff,Nat.reduceShiftRight,Nat.reduceMod]
   refine callS_of hRF ?_
   simp only [vZ,Int.reduceEq,Int.reduceNe,Int.reduceLT,Int.reduceLE,Nat.reduceEqDiff,Nat.reduceAdd,reduceIte,reduceCtorEq,Nat.reduceLT,Nat.reduceLeDiff,Nat.reduceShiftRight,Nat.reduceMod]
   refine callS_of hPE ?_
   simp only [h,vZ,Int.reduceEq,Int.reduceNe,Int.reduceLT,Int.reduceLE,Nat.reduceEqDiff,Nat.reduceAdd,reduceIte,reduceCtorEq,Nat.reduceLT,Nat.reduceLeDiff,Nat.reduceShiftRight,Nat.reduceMod]
   refine callS_of hEq ?_
   simp only [vZ,Int.reduceEq,Int.reduceNe,Int.reduceLT,Int.reduceLE,Nat.reduceEqDiff,Nat.reduceAdd,reduceIte,reduceCtorEq,Nat.reduceLT,Nat.reduceLeDiff,Nat.reduceShiftRight,Nat.reduceMod]
   refine callS_of hLE ?_
   simp only [h3,z0,vZ,Int.reduceEq,Int.reduceNe,Int.reduceLT,Int.reduceLE,Nat.reduceEqDiff,Nat.reduceAdd,reduceIte,reduceCtorEq,Nat.reduceLT,Nat.reduceLeDiff,Nat.reduceShiftRight,Nat.reduceMod]
  ·have hd0:Ln.den l ≠ 0:=by have:=Ln.den_pos hs;omega
   have hFt:=refwFit_s l h hd0
   unfold fitL fitA4 at hFO hFt
   rw [if_neg hd0] at hFO
   rw [decide_eq_false hs] at hEq
   simp only [hl,vZ,Int.reduceEq,Int.reduceNe,Int.reduceLT,Int.reduceLE,Nat.reduceEqDiff,Nat.reduceAdd,reduceIte,reduceCtorEq,Nat.reduceLT,Nat.reduceLeDiff,Nat.reduceShiftRight,Nat.reduceMod]
   refine callS_of hC ?_
   simp only [vZ,Int.reduceEq,Int.reduceNe,Int.reduceLT,Int.reduceLE,Nat.reduceEqDiff,Nat.reduceAdd,reduceIte,reduceCtorEq,Nat.reduceLT,Nat.reduceLeDiff,Nat.reduceShiftRight,Nat.reduceMod]
   refine callS_of hFO ?_
   simp only [vZ,Int.reduceEq,Int.reduceNe,Int.reduceLT,Int.reduceLE,Nat.reduceEqDiff,Nat.reduceAdd,reduceIte,reduceCtorEq,Nat.reduceLT,Nat.reduceLeDiff,Nat.reduceShiftRight,Nat.reduceMod]
   refine callS_of hC ?_
   simp only [vZ,Int.reduceEq,Int.reduceNe,Int.reduceLT,Int.reduceLE,Nat.reduceEqDiff,Nat.reduceAdd,reduceIte,reduceCtorEq,Nat.reduceLT,Nat.reduceLeDiff,Nat.reduceShiftRight,Nat.reduceMod]
   refine callS_of hRO ?_
   simp only [vZ,Int.reduceEq,Int.reduceNe,Int.reduceLT,Int.reduceLE,Nat.reduceEqDiff,Nat.reduceAdd,reduceIte,reduceCtorEq,Nat.reduceLT,Nat.reduceLeDiff,Nat.reduceShiftRight,Nat.reduceMod]
   refine callS_of hC ?_
   simp only [vZ,Int.reduceEq,Int.reduceNe,Int.reduceLT,Int.reduceLE,Nat.reduceEqDiff,Nat.reduceAdd,reduceIte,reduceCtorEq,Nat.reduceLT,Nat.reduceLeDiff,Nat.reduceShiftRight,Nat.reduceMod]
   refine callS_of hCk ?_
   simp only [vZ,Int.reduceEq,Int.reduceNe,Int.reduceLT,Int.reduceLE,Nat.reduceEqDiff,Nat.reduceAdd,reduceIte,reduceCtorEq,Nat.reduceLT,Nat.reduceLeDiff,Nat.reduceShiftRight,Nat.reduceMod]
   refine callS_of hRF ?_
   simp only [vZ,Int.reduceEq,Int.reduceNe,Int.reduceLT,Int.reduceLE,Nat.reduceEqDiff,Nat.reduceAdd,reduceIte,reduceCtorEq,Nat.reduceLT,Nat.reduceLeDiff,Nat.reduceShiftRight,Nat.reduceMod]
   refine callS_of hPE ?_
   simp only [h,vZ,Int.reduceEq,Int.reduceNe,Int.reduceLT,Int.reduceLE,Nat.reduceEqDiff,Nat.reduceAdd,reduceIte,reduceCtorEq,Nat.reduceLT,Nat.reduceLeDiff,Nat.reduceShiftRight,Nat.reduceMod]
   refine callS_of hEq ?_
   simp only [vZ,Int.reduceEq,Int.reduceNe,Int.reduceLT,Int.reduceLE,Nat.reduceEqDiff,Nat.reduceAdd,reduceIte,reduceCtorEq,Nat.reduceLT,Nat.reduceLeDiff,Nat.reduceShiftRight,Nat.reduceMod]
   refine callS_of hFt ?_
   simp only [vZ,Int.reduceEq,Int.reduceNe,Int.reduceLT,Int.reduceLE,Nat.reduceEqDiff,Nat.reduceAdd,reduceIte,reduceCtorEq,Nat.reduceLT,Nat.reduceLeDiff,Nat.reduceShiftRight,Nat.reduceMod]
   refine callS_of hLE ?_
   simp only [h3,z0,vZ,Int.reduceEq,Int.reduceNe,Int.reduceLT,Int.reduceLE,Nat.reduceEqDiff,Nat.reduceAdd,reduceIte,reduceCtorEq,Nat.reduceLT,Nat.reduceLeDiff,Nat.reduceShiftRight,Nat.reduceMod]
end Go.Proofs.YtgmpcbpmnimkoaaGreat

