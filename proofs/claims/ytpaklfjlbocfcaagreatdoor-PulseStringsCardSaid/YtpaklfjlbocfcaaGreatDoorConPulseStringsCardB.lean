/- Contracts: the reference's waveforms and fits of strings. By an AI agent; nothing here is trusted. -/
import Derived.Test.YtpaklfjlbocfcaaGreatDoorConPulseStringsCardA
import Derived.Test.YtpaklfjlbocfcaaGreatDoorLayD
import Derived.Test.YtpaklfjlbocfcaaGreatDoorKode
import Derived.Test.YtpaklfjlbocfcaaGreatDoorChecked
import Derived.Test.YtpaklfjlbocfcaaGreatDoorLayA
import Derived.Test.YtpaklfjlbocfcaaGreatDoorLayC
import Derived.Shelf.Slices.Clone
import Derived.Shelf.Spec.BitsCarry
import Derived.Shelf.Strconv.Itoa2
import Derived.Lib.Walk
import Derived.Lib.ItoaMem
import Derived.WalkKit
import Derived.BigCall
import Derived.BigGuard
import Derived.Lib.Mul64
set_option linter.defProp false
set_option linter.unusedSimpArgs false
set_option linter.unusedVariables false
namespace Go.Proofs.YtpaklfjlbocfcaaGreatDoor
open Go.Av

theorem num_I {w:List UInt8} {n:Int} {k:Nat} (hk:k≤18) (h:Lin.numW k w=some n) : -1000000000000000000<n∧n<1000000000000000000:=by
 obtain ⟨_,h2⟩:=Lin.itoa_numW h
 have h3:=Lin.dec_lt h2
 have h4:(10:Nat) ^ k≤10 ^ 18:=Nat.pow_le_pow_right (by omega) hk
 have h5:(10:Nat) ^ 18=1000000000000000000:=by decide
 omega
theorem refNumbers_s (s:List UInt8) (k:Nat) (neg:Bool) (hk:k≤18) (hs:s.length≤100000):Sound Tryz.prog 94 [.str s,.int .i64 k,.bool neg] (ppV s k neg):=by
 refine sound_W f_ref02_numbers (Nat.le_of_ble_eq_true rfl) ?_
 have hmax:=maxLen_str
 by_cases hbig:60000<s.length
 ·have hb:(60000:Int)<s.length:=by omega
  have hv:ppV s k neg=.tup [.sl [],.int .i64 8]:=by unfold ppV ppN;rw [if_pos hbig];rfl
  simp only [c_ref02_numbers,hb,hv,vZ,Int.reduceEq,Int.reduceNe,Int.reduceLT,Int.reduceLE,Nat.reduceEqDiff,Nat.reduceAdd,reduceIte,reduceCtorEq,Nat.reduceLT,Nat.reduceLeDiff,Nat.reduceShiftRight,Nat.reduceMod]
 have hb:¬ (60000:Int)<s.length:=by omega
 have hC:=baseCut_s s 32 hs
 have h32:((32:UInt8).toNat:Int)=32:=rfl
 rw [h32] at hC
 have hnum:=Lin.cut_num 32 s
 have hcl:∀ w ∈ Lin.cut 32 s,w.length≤100000:=fun w hw=>Nat.le_trans (Lin.cut_len w hw) hs
 have hV:ppV s k neg=match Lin.nums neg k (Lin.cut 32 s) with
  | some l=>.tup [.sl (ints l),.int .i64 0]
  | none=>.tup [.sl [],.int .i64 7]:=by
  unfold ppV ppN;rw [if_neg hbig]
  cases Lin.nums neg k (Lin.cut 32 s) <;> rfl
 rw [hV]
 simp only [c_ref02_numbers,hb,vZ,Int.reduceEq,Int.reduceNe,Int.reduceLT,Int.reduceLE,Nat.reduceEqDiff,Nat.reduceAdd,reduceIte,reduceCtorEq,Nat.reduceLT,Nat.reduceLeDiff,Nat.reduceShiftRight,Nat.reduceMod]
 refine callS_of hC ?_
 generalize Lin.cut 32 s=ws at *
 simp only [vZ,Int.reduceEq,Int.reduceNe,Int.reduceLT,Int.reduceLE,Nat.reduceEqDiff,Nat.reduceAdd,reduceIte,reduceCtorEq,Nat.reduceLT,Nat.reduceLeDiff,Nat.reduceShiftRight,Nat.reduceMod]
 refine W_loop (t:=.mk) (α:=PSigma fun p:Nat × List Int=>p.1≤ws.length∧Lin.nums neg k (ws.take p.1)=some p.2) (fun ⟨p,_⟩=>(envOf [(1,.int .i64 k),(2,.bool neg),(8,.buf 100 p.2.length),(9,.sl (strs ws)),(10,.int .i64 p.1)],stOf [(100,⟨3,1,ints p.2⟩)])) (fun p=>ws.length - p.1.1) ⟨(0,[]),Nat.zero_le _,rfl⟩ ?_ (fun ⟨⟨i,l⟩,hi,hn⟩=>?_)
 ·refine weakX [(100,none)] (of_decide_eq_true rfl) (of_decide_eq_true rfl) ?_
  (simp only [vcW,vZ,Int.reduceEq,Int.reduceNe,Int.reduceLT,Int.reduceLE,Nat.reduceEqDiff,Nat.reduceAdd,reduceIte,reduceCtorEq,Nat.reduceLT,Nat.reduceLeDiff,Nat.reduceShiftRight,Nat.reduceMod])
  (repeat' first | exact trivial | (with_reducible first | exact RnB.fxB (ints_fxB _) | rfl | refine And.intro ?_ ?_) | (with_reducible (first | refine RnB.bb ?_ | refine RnB.nb ?_);simp only [vcW,vZ,Int.reduceEq,Int.reduceNe,Int.reduceLT,Int.reduceLE,Nat.reduceEqDiff,Nat.reduceAdd,reduceIte,reduceCtorEq,Nat.reduceLT,Nat.reduceLeDiff,Nat.reduceShiftRight,Nat.reduceMod]) | (with_reducible first | refine RnB.ii ?_ | refine RnB.app ?_) | (with_reducible refine RnB.fxB ?_;simp only [vcW,vZ,Int.reduceEq,Int.reduceNe,Int.reduceLT,Int.reduceLE,Nat.reduceEqDiff,Nat.reduceAdd,reduceIte,reduceCtorEq,Nat.reduceLT,Nat.reduceLeDiff,Nat.reduceShiftRight,Nat.reduceMod]) | omega)
  all_goals first | rfl | trace_state
 ·dsimp only at hi hn ⊢
  have hll:=Lin.nums_len hn
  rw [List.length_take] at hll
  by_cases h':i<ws.length
  ·have hc1:(i:Int)<ws.length:=by omega
   have hg:=strs_get ws i h'
   have hN:=Number_s ws[i] k hk (hcl _ (List.getElem_mem h'))
   have hdr:ws=ws.take i ++ ws[i] :: ws.drop (i+1):=by rw [← List.drop_eq_getElem_cons h',List.take_append_drop]
   have hno:Lin.numU neg k ws[i]=none→Lin.nums neg k ws=none:=fun h=>by
    conv=>lhs;rw [hdr]
    exact Lin.nums_none h _ _
   have hyes:∀ n,Lin.numU neg k ws[i]=some n→Lin.nums neg k (ws.take (i+1))=some (l ++ [n]):=fun n h=>by
    rw [List.take_succ_eq_append_getElem h']
    exact Lin.nums_snoc hn h
   have hU:=Lin.numU_neg neg k ws[i]
   simp only [hc1,hg,strs_length,vZ,Int.reduceEq,Int.reduceNe,Int.reduceLT,Int.reduceLE,Nat.reduceEqDiff,Nat.reduceAdd,reduceIte,reduceCtorEq,Nat.reduceLT,Nat.reduceLeDiff,Nat.reduceShiftRight,Nat.reduceMod]
   refine ⟨by omega,callS_of hN ?_⟩
   cases hw:Lin.numW k ws[i] with
   | none =>
    rw [hw] at hU
    rw [hno hU]
    simp only [numV,vZ,Int.reduceEq,Int.reduceNe,Int.reduceLT,Int.reduceLE,Nat.reduceEqDiff,Nat.reduceAdd,reduceIte,reduceCtorEq,Nat.reduceLT,Nat.reduceLeDiff,Nat.reduceShiftRight,Nat.reduceMod]
   | some n =>
    have h7:=num_I hk hw
    rw [hw] at hU
    simp only [Option.bind_some] at hU
    by_cases hnn:n<0∧neg=false
    ·rw [if_pos hnn] at hU
     rw [hno hU]
     obtain ⟨hn0,rfl⟩:=hnn
     simp only [numV,hn0,vZ,Int.reduceEq,Int.reduceNe,Int.reduceLT,Int.reduceLE,Nat.reduceEqDiff,Nat.reduceAdd,reduceIte,reduceCtorEq,Nat.reduceLT,Nat.reduceLeDiff,Nat.reduceShiftRight,Nat.reduceMod]
    ·rw [if_neg hnn] at hU
     have hnx:=hyes n hU
     by_cases hn0:n<0 <;> cases neg
     ·exact absurd ⟨hn0,rfl⟩ hnn
     all_goals
      simp only [numV,hn0,vZ,Int.reduceEq,Int.reduceNe,Int.reduceLT,Int.reduceLE,Nat.reduceEqDiff,Nat.reduceAdd,reduceIte,reduceCtorEq,Nat.reduceLT,Nat.reduceLeDiff,Nat.reduceShiftRight,Nat.reduceMod]
      refine ⟨⟨by omega,by omega⟩,by unfold I64;omega,⟨(i+1,l ++ [n]),h',hnx⟩,by (try simp only);omega,?_⟩
      simp only
      rw [ints_append,show (l ++ [n]).length=l.length+1 by simp]
      refine weakX [(100,some 46)] (of_decide_eq_true rfl) (of_decide_eq_true rfl) ?_
      (simp only [vcW,vZ,Int.reduceEq,Int.reduceNe,Int.reduceLT,Int.reduceLE,Nat.reduceEqDiff,Nat.reduceAdd,reduceIte,reduceCtorEq,Nat.reduceLT,Nat.reduceLeDiff,Nat.reduceShiftRight,Nat.reduceMod])
      (repeat' first | exact trivial | (with_reducible first | exact RnB.fxB (ints_fxB _) | rfl | refine And.intro ?_ ?_) | (with_reducible (first | refine RnB.bb ?_ | refine RnB.nb ?_);simp only [vcW,vZ,Int.reduceEq,Int.reduceNe,Int.reduceLT,Int.reduceLE,Nat.reduceEqDiff,Nat.reduceAdd,reduceIte,reduceCtorEq,Nat.reduceLT,Nat.reduceLeDiff,Nat.reduceShiftRight,Nat.reduceMod]) | (with_reducible first | refine RnB.ii ?_ | refine RnB.app ?_) | (with_reducible refine RnB.fxB ?_;simp only [vcW,vZ,Int.reduceEq,Int.reduceNe,Int.reduceLT,Int.reduceLE,Nat.reduceEqDiff,Nat.reduceAdd,reduceIte,reduceCtorEq,Nat.reduceLT,Nat.reduceLeDiff,Nat.reduceShiftRight,Nat.reduceMod]) | omega)
      all_goals first | rfl | exact (ints_append _ _).symm | trace_state
  ·have hil:i=ws.length:=by omega
   subst hil
   have hc1:¬ (ws.length:Int)<ws.length:=by omega
   rw [List.take_length] at hn
   rw [hn]
   simp only [hc1,strs_length,vZ,Int.reduceEq,Int.reduceNe,Int.reduceLT,Int.reduceLE,Nat.reduceEqDiff,Nat.reduceAdd,reduceIte,reduceCtorEq,Nat.reduceLT,Nat.reduceLeDiff,Nat.reduceShiftRight,Nat.reduceMod]
   rw [borB_good _ _ _ _ _ (by simp [ints]) (ints_fx _)]
theorem refParseWave_s (s:List UInt8) (hs:s.length≤100000):Sound Tryz.prog 29 [.str s] (.tup [.sl (ints (pwL s)),.int .i64 (pwE s)]):=by
 refine sound_W f_ref02_ParseWave (Nat.le_of_ble_eq_true rfl) ?_
 have hP:=refNumbers_s s 5 true (by decide) hs
 have hlen:=(ppN_len hs 5 true).1
 unfold ppV at hP
 unfold pwL pwE
 generalize ppN s 5 true=q at *
 obtain ⟨l,e⟩:=q
 simp only at hP hlen ⊢
 have hS:=SamplesErr_s l
 have h5:((5:Nat):Int)=5:=rfl
 rw [h5] at hP
 simp only [c_ref02_ParseWave,vZ,Int.reduceEq,Int.reduceNe,Int.reduceLT,Int.reduceLE,Nat.reduceEqDiff,Nat.reduceAdd,reduceIte,reduceCtorEq,Nat.reduceLT,Nat.reduceLeDiff,Nat.reduceShiftRight,Nat.reduceMod]
 refine callS_of hP ?_
 by_cases he:e=0
 ·subst he
  simp only [vZ,Int.reduceEq,Int.reduceNe,Int.reduceLT,Int.reduceLE,Nat.reduceEqDiff,Nat.reduceAdd,reduceIte,reduceCtorEq,Nat.reduceLT,Nat.reduceLeDiff,Nat.reduceShiftRight,Nat.reduceMod]
  refine callS_of hS ?_
  by_cases h2:smE l=0
  ·simp only [h2,vZ,Int.reduceEq,Int.reduceNe,Int.reduceLT,Int.reduceLE,Nat.reduceEqDiff,Nat.reduceAdd,reduceIte,reduceCtorEq,Nat.reduceLT,Nat.reduceLeDiff,Nat.reduceShiftRight,Nat.reduceMod]
  ·simp only [h2,vZ,Int.reduceEq,Int.reduceNe,Int.reduceLT,Int.reduceLE,Nat.reduceEqDiff,Nat.reduceAdd,reduceIte,reduceCtorEq,Nat.reduceLT,Nat.reduceLeDiff,Nat.reduceShiftRight,Nat.reduceMod]
   rfl
 ·simp only [he,vZ,Int.reduceEq,Int.reduceNe,Int.reduceLT,Int.reduceLE,Nat.reduceEqDiff,Nat.reduceAdd,reduceIte,reduceCtorEq,Nat.reduceLT,Nat.reduceLeDiff,Nat.reduceShiftRight,Nat.reduceMod]
  rfl
theorem refParseFit_s (s:List UInt8) (hs:s.length≤100000):Sound Tryz.prog 30 [.str s] (.tup [fitA (pfD s) (pfL s),.int .i64 (pfE s)]):=by
 refine sound_W f_ref02_ParseFit (Nat.le_of_ble_eq_true rfl) ?_
 have hP:=refNumbers_s s 13 false (by decide) hs
 have hlen:=(ppN_len hs 13 false)
 unfold ppV at hP
 unfold pfL pfD pfE
 generalize ppN s 13 false=q at *
 obtain ⟨l,e⟩:=q
 simp only at hP hlen ⊢
 have hS:=FitErr_s (l.headD 0) l.tail (by simp;omega)
 unfold fitA at hS
 have h5:((13:Nat):Int)=13:=rfl
 rw [h5] at hP
 simp only [c_ref02_ParseFit,vZ,Int.reduceEq,Int.reduceNe,Int.reduceLT,Int.reduceLE,Nat.reduceEqDiff,Nat.reduceAdd,reduceIte,reduceCtorEq,Nat.reduceLT,Nat.reduceLeDiff,Nat.reduceShiftRight,Nat.reduceMod]
 refine callS_of hP ?_
 by_cases he:e=0
 ·subst he
  obtain ⟨d,ch,rfl⟩:∃ d ch,l=d :: ch:=List.exists_cons_of_ne_nil (hlen.2 rfl)
  simp only [List.headD_cons,List.tail_cons] at hS ⊢
  have h0:(ints (d :: ch))[0]?=some (.int .i64 d):=rfl
  have t0:(0:Int).toNat=0:=rfl
  have t1:(1:Int).toNat=1:=rfl
  have hd1:=drop1_ints (d :: ch)
  simp only [List.tail_cons] at hd1
  simp only [h0,t0,t1,hd1,ints_length,tk_slice1,vZ,Int.reduceEq,Int.reduceNe,Int.reduceLT,Int.reduceLE,Nat.reduceEqDiff,Nat.reduceAdd,reduceIte,reduceCtorEq,Nat.reduceLT,Nat.reduceLeDiff,Nat.reduceShiftRight,Nat.reduceMod]
  refine ⟨⟨by omega,cells_ints⟩,?_⟩
  refine callS_of hS ?_
  by_cases h2:fE d ch=0
  ·simp only [h2,fitA,vZ,Int.reduceEq,Int.reduceNe,Int.reduceLT,Int.reduceLE,Nat.reduceEqDiff,Nat.reduceAdd,reduceIte,reduceCtorEq,Nat.reduceLT,Nat.reduceLeDiff,Nat.reduceShiftRight,Nat.reduceMod]
  ·simp only [h2,fitA,vZ,Int.reduceEq,Int.reduceNe,Int.reduceLT,Int.reduceLE,Nat.reduceEqDiff,Nat.reduceAdd,reduceIte,reduceCtorEq,Nat.reduceLT,Nat.reduceLeDiff,Nat.reduceShiftRight,Nat.reduceMod]
   rfl
 ·simp only [he,fitA,vZ,Int.reduceEq,Int.reduceNe,Int.reduceLT,Int.reduceLE,Nat.reduceEqDiff,Nat.reduceAdd,reduceIte,reduceCtorEq,Nat.reduceLT,Nat.reduceLeDiff,Nat.reduceShiftRight,Nat.reduceMod]
  rfl
theorem nums_read (neg:Bool) (k:Nat) (n:Int) (l:List Int) (h:∀ m ∈ n :: l,(neg=true∨0≤m)∧(Lib.decDigits m.natAbs).length≤k):Lin.nums neg k (Lin.cut 32 (numS (n :: l)))=some (n :: l):=by
 unfold numS
 rw [Lin.cut_words (by decide) (by decide)]
 exact Lin.nums_itoa h
theorem wave_read {l:List Int} (h:smE l=0):pwL (numS l)=l∧pwE (numS l)=0:=by
 obtain ⟨h1,h2,h3⟩:=smE_ok h
 obtain ⟨n,r,rfl⟩:∃ n r,l=n :: r:=List.exists_cons_of_ne_nil (by rintro rfl;simp at h1)
 have hr:=nums_read true 5 n r fun m hm=>⟨.inl rfl,Lin.dec_len_lt (by decide) (by have:=h3 m hm;omega)⟩
 have hl:=numS_le (l:=n :: r) fun m hm=>by have:=h3 m hm;unfold I64;omega
 have hp:ppN (numS (n :: r)) 5 true=(n :: r,0):=by unfold ppN;rw [if_neg (by omega),hr]
 have he:pwE (numS (n :: r))=0:=by unfold pwE;rw [hp];simpa using h
 exact ⟨by unfold pwL;rw [if_pos he,hp],he⟩
theorem fit_read {d:Int} {ch:List Int} (h:fE d ch=0):pfD (numS (d :: ch))=d∧pfL (numS (d :: ch))=ch∧pfE (numS (d :: ch))=0:=by
 obtain ⟨h1,h2,h3⟩:=fE_ok h
 have hm:∀ m ∈ d :: ch,0≤m∧m≤1000000000000:=fun m hm=>by
  rcases List.mem_cons.1 hm with rfl | hm
  ·omega
  ·exact h3 m hm
 have hr:=nums_read false 13 d ch fun m hmm=>⟨.inr (hm m hmm).1,Lin.dec_len_lt (by decide) (by have:=hm m hmm;have:(10:Nat) ^ 13=10000000000000:=(by decide);omega)⟩
 have hl:=numS_le (l:=d :: ch) fun m hmm=>by have:=hm m hmm;unfold I64;omega
 simp only [List.length_cons] at hl
 have hp:ppN (numS (d :: ch)) 13 false=(d :: ch,0):=by unfold ppN;rw [if_neg (by omega),hr]
 have he:pfE (numS (d :: ch))=0:=by unfold pfE;rw [hp];simpa using h
 exact ⟨by unfold pfD;rw [if_pos he,hp];rfl,by unfold pfL;rw [if_pos he,hp];rfl,he⟩
end Go.Proofs.YtpaklfjlbocfcaaGreatDoor

/- The marked code of law functions;printed by a program. By an AI agent;nothing here is trusted. -/
namespace Go.Proofs.YtpaklfjlbocfcaaGreatDoor
open Go.Av
def cl_law02_PulseStrings:ML:=(.seq (.reg 21 [mO 4 (.box 47 2 (.t 1)),mO 6 (.mv (.c (.bool false)))] false []) (.seq (.seq (.reg 4194325 [mO 21 (.call 21 []),mO 22 (.un .not (.t 21))] false []) (.cond (.t 22) (.seq (.reg 64 [mO 6 (.mv (.c (.bool false)))] false []) .ret) .skip)) (.seq (.seq (.reg 70368744177685 [mV 23 0,mO 24 (.call 22 [(.t 23)]),mO 25 (.un .not (.t 24)),mV 26 25,mG 26 false 27 (.fieldAddr (.t 4) 1),mG 26 false 28 (.load none (.t 27)),mG 26 false 29 (.len false (.t 28)),mG 26 false 30 (.bin .gtr (.t 29) (.c (.int .i64 8))),mO 31 (.pick (.t 26) (.c (.bool true)) (.t 30)),mV 32 31,mG 32 false 33 (.mv (.t 2)),mG 32 false 34 (.len true (.t 33)),mG 32 false 35 (.bin .gtr (.t 34) (.c (.int .i64 300))),mG 32 false 36 (.mv (.t 35)),mG 36 true 37 (.mv (.t 2)),mG 36 true 38 (.len true (.t 37)),mG 36 true 39 (.bin .leq (.t 38) (.c (.int .i64 60000))),mG 32 false 40 (.pick (.t 36) (.t 39) (.c (.bool false))),mO 41 (.pick (.t 32) (.c (.bool true)) (.t 40)),mV 42 41,mG 42 false 43 (.mv (.t 2)),mG 42 false 44 (.len true (.t 43)),mG 42 false 45 (.bin .gtr (.t 44) (.c (.int .i64 60010))),mO 46 (.pick (.t 42) (.c (.bool true)) (.t 45))] false []) (.cond (.t 46) (.seq (.reg 64 [mO 6 (.mv (.c (.bool true)))] false []) .ret) .skip)) (.seq (.reg 405 [mV 47 0,mO 48 (.call 24 [(.t 47)]),mO 49 (.call 23 [(.t 48)]),mO 50 (.load (some 2) (.t 4)),mO 51 (.call 26 [(.t 50)]),mO 52 (.call 25 [(.t 51)]),mV 7 49,mV 8 52] true []) (.seq (.reg 1941 [mV 54 2,mO 55 (.call 27 [(.t 54)]),mV 53 55,mO 56 (.extract (.t 53) 0),mO 57 (.extract (.t 53) 1),mO 9 (.alloc 51 1 (.agg [.nils])),⟨none,none,.store 1 (.t 9) (.t 56)⟩,mV 10 57] false []) (.seq (.reg 8085 [mV 59 2,mO 60 (.call 28 [(.t 59)]),mV 58 60,mO 61 (.extract (.t 58) 0),mO 62 (.extract (.t 58) 1),mO 11 (.alloc 47 2 (.agg [(.int .i64 0),.nils])),⟨none,none,.store 2 (.t 11) (.t 61)⟩,mV 12 62] false []) (.seq (.reg 32661 [mV 64 2,mO 65 (.call 29 [(.t 64)]),mV 63 65,mO 66 (.extract (.t 63) 0),mO 67 (.extract (.t 63) 1),mV 13 66,mV 14 67] false []) (.seq (.reg 130961 [mV 69 2,mO 70 (.call 30 [(.t 69)]),mV 68 70,mO 71 (.extract (.t 68) 0),mO 72 (.extract (.t 68) 1),mO 15 (.alloc 47 2 (.agg [(.int .i64 0),.nils])),⟨none,none,.store 2 (.t 15) (.t 71)⟩,mV 16 72] false []) (.seq (.seq (.reg 40564819207303340847894502572433 [mV 73 7,mV 74 0,mO 75 (.call 31 [(.t 74)]),mO 76 (.bin .neq (.t 73) (.t 75)),mV 77 76,mG 77 false 78 (.mv (.t 8)),mG 77 false 79 (.load (some 2) (.t 4)),mG 77 false 80 (.call 32 [(.t 79)]),mG 77 false 81 (.bin .neq (.t 78) (.t 80)),mO 82 (.pick (.t 77) (.c (.bool true)) (.t 81)),mV 83 82,mG 83 false 84 (.mv (.t 10)),mG 83 false 85 (.mv (.t 14)),mG 83 false 86 (.bin .neq (.t 84) (.t 85)),mO 87 (.pick (.t 83) (.c (.bool true)) (.t 86)),mV 88 87,mG 88 false 89 (.fieldAddr (.t 9) 0),mG 88 false 90 (.load none (.t 89)),mG 88 false 91 (.mv (.t 13)),mG 88 false 92 (.call 33 [(.t 90),(.t 91)]),mG 88 false 93 (.un .not (.t 92)),mO 94 (.pick (.t 88) (.c (.bool true)) (.t 93)),mV 95 94,mG 95 false 96 (.mv (.t 12)),mG 95 false 97 (.mv (.t 16)),mG 95 false 98 (.bin .neq (.t 96) (.t 97)),mO 99 (.pick (.t 95) (.c (.bool true)) (.t 98)),mV 100 99,mG 100 false 101 (.load (some 2) (.t 11)),mG 100 false 102 (.load (some 2) (.t 15)),mG 100 false 103 (.call 34 [(.t 101),(.t 102)]),mG 100 false 104 (.un .not (.t 103)),mO 105 (.pick (.t 100) (.c (.bool true)) (.t 104))] false []) (.cond (.t 105) (.seq (.reg 64 [mO 6 (.mv (.c (.bool false)))] false []) .ret) .skip)) (.seq (.seq (.reg 324518553658426726783156020576657 [mV 106 0,mO 107 (.call 35 [(.t 106)]),mO 108 (.bin .eql (.t 107) (.c (.int .i64 0)))] false []) (.cond (.t 108) (.seq (.reg 393489 [mV 110 7,mO 111 (.call 27 [(.t 110)]),mV 109 111,mO 112 (.extract (.t 109) 0),mO 113 (.extract (.t 109) 1),mO 17 (.alloc 51 1 (.agg [.nils])),⟨none,none,.store 1 (.t 17) (.t 112)⟩,mV 18 113] false []) (.seq (.reg 5316911983139663491615228241121378576 [mV 114 18,mO 115 (.bin .neq (.t 114) (.c (.int .i64 0))),mV 116 115,mG 116 false 117 (.fieldAddr (.t 17) 0),mG 116 false 118 (.load none (.t 117)),mG 116 false 119 (.mv (.t 0)),mG 116 false 120 (.call 33 [(.t 118),(.t 119)]),mG 116 false 121 (.un .not (.t 120)),mO 122 (.pick (.t 116) (.c (.bool true)) (.t 121))] false []) (.cond (.t 122) (.seq (.reg 64 [mO 6 (.mv (.c (.bool false)))] false []) .ret) .skip))) .skip)) (.seq (.seq (.reg 42535295865117307932921825928971026704 [mO 123 (.load (some 2) (.t 4)),mO 124 (.call 36 [(.t 123)]),mO 125 (.bin .neq (.t 124) (.c (.int .i64 0)))] false []) (.cond (.t 125) (.seq (.reg 64 [mO 6 (.mv (.c (.bool true)))] false []) .ret) .skip)) (.seq (.reg 1572880 [mV 127 8,mO 128 (.call 28 [(.t 127)]),mV 126 128,mO 129 (.extract (.t 126) 0),mO 130 (.extract (.t 126) 1),mO 19 (.alloc 47 2 (.agg [(.int .i64 0),.nils])),⟨none,none,.store 2 (.t 19) (.t 129)⟩,mV 20 130] false []) (.seq (.reg 64 [mV 131 20,mO 132 (.bin .eql (.t 131) (.c (.int .i64 0))),mV 133 132,mG 133 true 134 (.load (some 2) (.t 19)),mG 133 true 135 (.load (some 2) (.t 4)),mG 133 true 136 (.call 34 [(.t 134),(.t 135)]),mO 137 (.pick (.t 133) (.t 136) (.c (.bool false))),mV 6 137] false []) .ret)))))))))))))
def c_law02_PulseStrings:MC:=cl_law02_PulseStrings.er
theorem f_law02_PulseStrings:cFun Tryz.prog 4=some (138,3,c_law02_PulseStrings,[(6,none)]):=by kernel_rfl
theorem e_law02_PulseStrings:cl_law02_PulseStrings.er=c_law02_PulseStrings:=rfl
end Go.Proofs.YtpaklfjlbocfcaaGreatDoor

/- Contracts off the library's shelf: slices.Clone. By an AI agent;nothing here is trusted. -/
namespace Go.Proofs.YtpaklfjlbocfcaaGreatDoor
open Go.Av
open Go.RowKit (Below)

def cloneRen:Go.Shelf.Ren:=⟨fun x=>match x with | 15=>112 | n=>n,fun x=>match x with | 22=>45 | 3=>3 | 4=>4 | n=>n,fun x=>x⟩
set_option maxRecDepth 100000 in
theorem cloneFn:Tryz.prog.funcs[cloneRen.f 15]?=some (Go.Proofs.Body2.n15 cloneRen):=by kernel_rfl
theorem cloneLay:Go.Proofs.Lays2.n15 Tryz.prog cloneRen :=
 {mixed:=by kernel_rfl,f15:=cloneFn,
  t3:=Tryz.underlying3,a3:=Tryz.isAgg3,z3:=Tryz.sizeOf3,v3:=Tryz.zeroValue3,t4:=Tryz.underlying4,
  a4:=Tryz.isAgg4,z4:=Tryz.sizeOf4,v4:=Tryz.zeroValue4,t22:=Tryz.underlying45,a22:=Tryz.isAgg45,
  z22:=Tryz.sizeOf45,v22:=Tryz.zeroValue45,i3:=by kernel_rfl }

theorem ints_at {l:List Int} {i:Nat} {x:AV} (h:(ints l)[i]?=some x):∃ hi:i<l.length,x=.int .i64 l[i]:=by
 have hi:i<l.length:=by
  have:=(List.getElem?_eq_some_iff.1 h).1
  rw [ints_length] at this;exact this
 rw [ints_get l i hi] at h
 exact ⟨hi,by injection h with h;exact h.symm⟩
theorem own_sl {w':World} {B:Nat} {e:TypeId} {v:Value} {l:List Int} {ok:Nat→Prop} (h:w'.ownsRow B e 1 v l.length (l.map (Value.int .i64))) :
  VR w'.heap (fun b=>ok b∨(B≤b∧b<w'.heap.size)) noPlace noStore (.sl (ints l)) v:=by
 obtain ⟨_,h⟩:=h
 rcases h with ⟨rfl,hn⟩ | ⟨g,cap,cur,rfl,hg,hb,hn,hcap,hcur,hx⟩
 ·have:l=[]:=List.eq_nil_of_length_eq_zero hn
  subst this
  exact .sl0 none 0
 ·have hlen:(ints l).length=l.length:=ints_length l
  rw [← hlen] at hn ⊢
  refine .sl (ints l) g 0 1 cap cur e (0,0) (fun i _=>.int .i64 (l.getD i 0)) (.inr ⟨hg,(Array.getElem?_eq_some_iff.1 hb).1⟩) hn hb ?_ ?_ ?_
  ·intro i x hi
   obtain ⟨_,rfl⟩:=ints_at hi
   exact ⟨rfl,fun c hc=>by rw [List.mem_singleton.1 hc];rfl,rfl⟩
  ·intro i x o c hi ho
   obtain ⟨hil,rfl⟩:=ints_at hi
   have h0:o=0:=by
    cases o with
    | zero=>rfl
    | succ o=>simp [cellsOf] at ho
   subst h0
   have h1:(cur.toList.take (l.length * 1))[i]?=(l.map (Value.int .i64))[i]?:=by rw [hx]
   rw [List.getElem?_take,if_pos (by omega),Array.getElem?_toList,List.getElem?_map,List.getElem?_eq_getElem hil] at h1
   show cur[0+i * 1+0]?=some (.int .i64 (l.getD i 0))
   rw [show 0+i * 1+0=i by omega,h1]
   simp [List.getD,List.getElem?_eq_getElem hil]
  ·intro i x o c hi ho
   obtain ⟨hil,rfl⟩:=ints_at hi
   cases o with
   | zero =>
    simp [cellsOf] at ho
    subst ho
    show VR _ _ _ _ _ (.int .i64 (l.getD i 0))
    rw [show l.getD i 0=l[i] by simp [List.getD,List.getElem?_eq_getElem hil]]
    exact .int _ _
   | succ o=>simp [cellsOf] at ho

theorem Clone_s (l:List Int) (hl:l.length≤1000000000):Sound Tryz.prog 112 [.sl (ints l)] (.sl (ints l)):=by
 intro w ok cargs hok _ hlen hargs
 have h0:=hargs 0 _ rfl
 have hc1:cargs=#[cargs.getD 0 undef]:=by
  apply Array.ext
  ·simpa using hlen
  ·intro i h1 h2
   simp at h2
   subst h2
   simp [Array.getD,h1]
 rw [hc1]
 generalize cargs.getD 0 undef=v at h0
 have hin:∀ v,(callFunc 112 #[v]).run Tryz.prog w=.ok (.enter 112 #[v]) w:=fun v =>
  Go.Av.callFunc_enter Tryz.func112 (by kernel_rfl) rfl #[v]
 cases l with
 | nil =>
  have h1:VR w.heap ok noPlace noStore (.sl []) v:=h0
  show CallsF _ _ _ _ fun cv w'=>Below w.heap.size w w'∧VR w'.heap (fun b=>ok b∨(w.heap.size≤b∧b<w'.heap.size)) noPlace noStore (.sl (ints [])) cv
  cases h1 with
  | sl0 a cap =>
   cases a with
   | none =>
    refine .inr ⟨hin _,(Any.slices_Clone_int_nil cloneLay 0 cap w).mono fun e w' ⟨he,hw⟩=>⟨_,he,?_,?_⟩⟩
    ·rw [hw];exact Below.refl _ _
    ·exact .sl0 none 0
   | some a =>
    refine .inr ⟨hin _,(Any.slices_Clone_int_zero cloneLay a cap w).mono fun e w' ⟨v',he,ho,_,hB⟩=>⟨v',he,hB,?_⟩⟩
    exact own_sl (l:=[]) ho
  | sl _ b off s cap cur ty fr vals hok' hcap hb hs hc hv =>
   refine .inr ⟨hin _,(Any.slices_Clone_int_zero cloneLay ⟨b,off,none⟩ cap w).mono fun e w' ⟨v',he,ho,_,hB⟩=>⟨v',he,hB,?_⟩⟩
   exact own_sl (l:=[]) ho
 | cons x r =>
  have hpos:0<(x :: r).length:=by simp
  generalize x :: r=l at *
  generalize hes:ints l=es at h0
  cases h0 with
  | sl0 a cap=>rw [← ints_length,hes] at hpos;simp at hpos
  | sl _ b off s cap cur ty fr vals hok' hcap hb hs hc hv =>
   subst hes
   have hs1:s=1:=(hs 0 _ (ints_get l 0 hpos)).1.symm
   subst hs1
   have hcell:∀ j,j<l.length→w.cell? ⟨b,off+j,none⟩=some (.int .i64 (l.getD j 0)):=by
    intro j hj
    have h1:=hc j _ 0 _ (ints_get l j hj) rfl
    have h2:=hv j _ 0 _ (ints_get l j hj) rfl
    generalize vals j 0=u at h1 h2
    cases h2
    rw [show off+j * 1+0=off+j by omega] at h1
    simp [World.cell?,hb,h1,List.getD,List.getElem?_eq_getElem hj]
   have hlen:(ints l).length=l.length:=ints_length l
   rw [hlen]
   refine .inr ⟨hin _,(Any.slices_Clone_int cloneLay b off l.length cap l w (Nat.le_refl _) (by omega) hcell).mono fun e w' ⟨v',he,ho,_,hB⟩=>⟨v',he,hB,?_⟩⟩
   rw [List.take_length] at ho
   exact own_sl ho

theorem own_o {w w':World} {ok:Nat→Prop} {e:Nat} {v:Value} {l:List Int} (h:w'.ownsRow w.heap.size e 1 v l.length (l.map (Value.int .i64))):OwnR w w' ok e 1 (ints l) v:=by
 obtain ⟨_,h⟩:=h
 rcases h with ⟨rfl,hn⟩ | ⟨g,cap,cur,rfl,hg,hb,hn,hcap,hcur,hx⟩
 ·have:l=[]:=List.eq_nil_of_length_eq_zero hn
  subst this
  exact .inl ⟨rfl,none,rfl⟩
 ·have hlen:(ints l).length=l.length:=ints_length l
  rw [← hlen] at hn ⊢
  refine .inr ⟨g,cap,cur,rfl,hg,hb,hn,hcap,hcur,fun i x hi=>?_⟩
  obtain ⟨hil,rfl⟩:=ints_at hi
  refine ⟨rfl,fun c hc=>by rw [List.mem_singleton.1 hc];rfl,fun o c ho=>?_⟩
  cases o with
  | zero =>
   simp [cellsOf] at ho
   subst ho
   have h1:(cur.toList.take (l.length * 1))[i]?=(l.map (Value.int .i64))[i]?:=by rw [hx]
   rw [List.getElem?_take,if_pos (by omega),Array.getElem?_toList,List.getElem?_map,List.getElem?_eq_getElem hil] at h1
   exact ⟨_,by rw [show i * 1+0=i by omega];exact h1,.int _ _⟩
  | succ o=>simp [cellsOf] at ho
theorem Clone_o (l:List Int) (hl:l.length≤1000000000):SoundO Tryz.prog 112 [.sl (ints l)] 3 1 (ints l):=by
 refine ⟨by omega,?_⟩
 intro w ok cargs hok _ hlen hargs
 have h0:=hargs 0 _ rfl
 have hc1:cargs=#[cargs.getD 0 undef]:=by
  apply Array.ext
  ·simpa using hlen
  ·intro i h1 h2
   simp at h2
   subst h2
   simp [Array.getD,h1]
 rw [hc1]
 generalize cargs.getD 0 undef=v at h0
 have hin:∀ v,(callFunc 112 #[v]).run Tryz.prog w=.ok (.enter 112 #[v]) w:=fun v =>
  Go.Av.callFunc_enter Tryz.func112 (by kernel_rfl) rfl #[v]
 cases l with
 | nil =>
  have h1:VR w.heap ok noPlace noStore (.sl []) v:=h0
  show CallsF _ _ _ _ fun cv w'=>Below w.heap.size w w'∧OwnR w w' ok 3 1 (ints []) cv
  cases h1 with
  | sl0 a cap =>
   cases a with
   | none =>
    refine .inr ⟨hin _,(Any.slices_Clone_int_nil cloneLay 0 cap w).mono fun e w' ⟨he,hw⟩=>⟨_,he,?_,?_⟩⟩
    ·rw [hw];exact Below.refl _ _
    ·exact .inl ⟨rfl,none,rfl⟩
   | some a =>
    refine .inr ⟨hin _,(Any.slices_Clone_int_zero cloneLay a cap w).mono fun e w' ⟨v',he,ho,_,hB⟩=>⟨v',he,hB,?_⟩⟩
    exact own_o (l:=[]) ho
  | sl _ b off s cap cur ty fr vals hok' hcap hb hs hc hv =>
   refine .inr ⟨hin _,(Any.slices_Clone_int_zero cloneLay ⟨b,off,none⟩ cap w).mono fun e w' ⟨v',he,ho,_,hB⟩=>⟨v',he,hB,?_⟩⟩
   exact own_o (l:=[]) ho
 | cons x r =>
  have hpos:0<(x :: r).length:=by simp
  generalize x :: r=l at *
  generalize hes:ints l=es at h0
  cases h0 with
  | sl0 a cap=>rw [← ints_length,hes] at hpos;simp at hpos
  | sl _ b off s cap cur ty fr vals hok' hcap hb hs hc hv =>
   subst hes
   have hs1:s=1:=(hs 0 _ (ints_get l 0 hpos)).1.symm
   subst hs1
   have hcell:∀ j,j<l.length→w.cell? ⟨b,off+j,none⟩=some (.int .i64 (l.getD j 0)):=by
    intro j hj
    have h1:=hc j _ 0 _ (ints_get l j hj) rfl
    have h2:=hv j _ 0 _ (ints_get l j hj) rfl
    generalize vals j 0=u at h1 h2
    cases h2
    rw [show off+j * 1+0=off+j by omega] at h1
    simp [World.cell?,hb,h1,List.getD,List.getElem?_eq_getElem hj]
   have hlen:(ints l).length=l.length:=ints_length l
   rw [hlen]
   refine .inr ⟨hin _,(Any.slices_Clone_int cloneLay b off l.length cap l w (Nat.le_refl _) (by omega) hcell).mono fun e w' ⟨v',he,ho,_,hB⟩=>⟨v',he,hB,?_⟩⟩
   rw [List.take_length] at ho
   exact own_o ho
end Go.Proofs.YtpaklfjlbocfcaaGreatDoor

/- Contracts of functions without a body: bits.Add64,bits.Sub64. By an AI agent;nothing here is trusted. -/
namespace Go.Proofs.YtpaklfjlbocfcaaGreatDoor
open Go.Av
open Go.RowKit (Below)

theorem args3 {h:Array Obj} {ok:Nat→Prop} {cargs:Array Value} {a b c:Int} (hlen:cargs.size=3) (hargs:∀ (i:Nat) (x:AV),[AV.int .u64 a,.int .u64 b,.int .u64 c][i]?=some x→VR h ok noPlace noStore x (cargs.getD i undef)) :
  cargs=#[.int .u64 a,.int .u64 b,.int .u64 c]:=by
 have h0:=hargs 0 _ rfl
 have h1:=hargs 1 _ rfl
 have h2:=hargs 2 _ rfl
 have e0:cargs.getD 0 undef=.int .u64 a:=by generalize cargs.getD 0 undef=v at *;cases h0;rfl
 have e1:cargs.getD 1 undef=.int .u64 b:=by generalize cargs.getD 1 undef=v at *;cases h1;rfl
 have e2:cargs.getD 2 undef=.int .u64 c:=by generalize cargs.getD 2 undef=v at *;cases h2;rfl
 apply Array.ext
 ·simpa using hlen
 ·intro i hi1 hi2
  simp at hi2
  have:i=0∨i=1∨i=2:=by omega
  rcases this with rfl | rfl | rfl
  ·simpa [Array.getD,hi1] using e0
  ·simpa [Array.getD,hi1] using e1
  ·simpa [Array.getD,hi1] using e2
theorem tup2 {h:Array Obj} {ok:Nat→Prop} (a b:Int):VR h ok noPlace noStore (.tup [.int .u64 a,.int .u64 b]) (.tuple #[.int .u64 a,.int .u64 b]):=by
 refine .tup _ _ rfl fun i c hc=>?_
 match i with
 | 0=>simp at hc;subst hc;exact .int _ _
 | 1=>simp at hc;subst hc;exact .int _ _
 | i+2=>simp at hc
theorem Add64_s (x y c:Int) (hx:0≤x) (hy:0≤y) (hc:0≤c∧c≤1):Sound Tryz.prog 183 [.int .u64 x,.int .u64 y,.int .u64 c]
  (.tup [.int .u64 ((x+y+c) % 18446744073709551616),.int .u64 ((x+y+c) / 18446744073709551616)]):=by
 intro w ok cargs hok _ hlen hargs
 rw [args3 (by simpa using hlen) hargs]
 refine .inl ⟨_,w,?_,Below.refl _ _,tup2 _ _⟩
 rw [run_callFunc_extern Tryz.func183 (by kernel_rfl) (by kernel_rfl) (by kernel_rfl) (e:=add64Entry) (by kernel_rfl),run_add64 x y c hx hy hc.1 hc.2]
 rfl
theorem Sub64_s (x y b:Nat) (hb:b≤1):Sound Tryz.prog 184 [.int .u64 (x:Int),.int .u64 (y:Int),.int .u64 (b:Int)]
  (.tup [.int .u64 (((x+18446744073709551616 - y - b) % 18446744073709551616:Nat):Int),.int .u64 ((if x<y+b then 1 else 0:Nat):Int)]):=by
 intro w ok cargs hok _ hlen hargs
 rw [args3 (by simpa using hlen) hargs]
 refine .inl ⟨_,w,?_,Below.refl _ _,tup2 _ _⟩
 rw [run_callFunc_extern Tryz.func184 (by kernel_rfl) (by kernel_rfl) (by kernel_rfl) (e:=sub64Entry) (by kernel_rfl),run_sub64 x y b hb]
 rfl
end Go.Proofs.YtpaklfjlbocfcaaGreatDoor

/- The examples of chapter 2,by running the abstract code;an iterator from the end on. By an AI agent;nothing here is trusted. -/
namespace Go.Proofs.YtpaklfjlbocfcaaGreatDoor
open Go.Av

def w128 (p:Bool × Int × Int):AV:=.agg [.bool p.1,.int .u64 p.2.1,.int .u64 p.2.2]
def w128s (l:List (Bool × Int × Int)):List AV:=l.map w128
theorem w128s_length (l:List (Bool × Int × Int)):(w128s l).length=l.length:=by simp [w128s]
theorem w128s_get (l:List (Bool × Int × Int)) (i:Nat) (h:i<l.length):(w128s l)[i]?=some (.agg [.bool l[i].1,.int .u64 l[i].2.1,.int .u64 l[i].2.2]):=by
 simp [w128s,w128,h]
def backL (l:List (Bool × Int × Int)):Nat→List (List AV)
 | 0=>[]
 | k+1=>backL l k ++ [[.int .i64 ((l.length:Int) - 1 - k),w128 (l.getD (l.length - 1 - k) default)]]
theorem backL_le (l:List (Bool × Int × Int)) (k n:Nat) (h:k≤n):∃ r,backL l n=backL l k ++ r:=by
 obtain ⟨m,rfl⟩:=Nat.exists_eq_add_of_le h
 induction m with
 | zero=>exact ⟨[],by simp⟩
 | succ m ih =>
  obtain ⟨r,hr⟩:=ih (by omega)
  exact ⟨r ++ [[.int .i64 ((l.length:Int) - 1 - (k+m:Nat)),w128 (l.getD (l.length - 1 - (k+m)) default)]],by rw [← Nat.add_assoc,backL,hr,List.append_assoc]⟩
theorem deadAll_no:deadAll noStore=noStore:=rfl
theorem backward_s (l:List (Bool × Int × Int)) (hl:l.length≤1000000):SeqA Tryz.prog 222 [.eptr (.sl (w128s l)) 0] (backL l l.length):=by
 refine seq_W f_slices_Backward_pulse_wide_pulse_wide_1 (Nat.le_of_ble_eq_true rfl) fun y=>?_
 simp only [c_slices_Backward_pulse_wide_pulse_wide_1,w128s_length,vcC,Int.reduceEq,Int.reduceNe,Int.reduceLT,Int.reduceLE,Nat.reduceEqDiff,Nat.reduceAdd,reduceIte,reduceCtorEq,Nat.reduceLT,Nat.reduceLeDiff,eq_self,vcP,WY_skip,WY_reg,WY_regY,WY_seq,WY_cond,WY_block,WY_exit,WY_ret,VY_nil,VY_yld,VY_yldg,VY_ps,seqY_n,seqY_r,seqY_x,blockY_n,blockY_r,blockY_x,isCallvs,isCallv,isY,List.any_cons,List.any_nil,Bool.or_false,Bool.or_true,Bool.false_or,Bool.and_false,Bool.false_and]
 refine ⟨by unfold I64;omega,?_⟩
 refine WY_loop (α:=PSigma fun k:Nat=>k≤l.length) (fun k=>((envOf [(0,.yld y),(1,.eptr (.sl (w128s l)) 0),(3,.int .i64 ((l.length:Int) - 1 - k.1))],noStore),some (backL l k.1)))
  (fun k=>l.length - k.1) ⟨0,by simp⟩ (weakE _ ?_) ?_ (fun ⟨k,hk⟩=>?_)
 ·simp only [vcC,Int.reduceEq,Int.reduceNe,Int.reduceLT,Int.reduceLE,Nat.reduceEqDiff,Nat.reduceAdd,reduceIte,reduceCtorEq,Nat.reduceLT,Nat.reduceLeDiff,eq_self,vcP,WY_skip,WY_reg,WY_regY,WY_seq,WY_cond,WY_block,WY_exit,WY_ret,VY_nil,VY_yld,VY_yldg,VY_ps,seqY_n,seqY_r,seqY_x,blockY_n,blockY_r,blockY_x,isCallvs,isCallv,isY,List.any_cons,List.any_nil,Bool.or_false,Bool.or_true,Bool.false_or,Bool.and_false,Bool.false_and];simp
 ·simp [backL]
 ·simp only [vcC,Int.reduceEq,Int.reduceNe,Int.reduceLT,Int.reduceLE,Nat.reduceEqDiff,Nat.reduceAdd,reduceIte,reduceCtorEq,Nat.reduceLT,Nat.reduceLeDiff,eq_self,vcP,WY_skip,WY_reg,WY_regY,WY_seq,WY_cond,WY_block,WY_exit,WY_ret,VY_nil,VY_yld,VY_yldg,VY_ps,seqY_n,seqY_r,seqY_x,blockY_n,blockY_r,blockY_x,isCallvs,isCallv,isY,List.any_cons,List.any_nil,Bool.or_false,Bool.or_true,Bool.false_or,Bool.and_false,Bool.false_and]
  refine brB_split (fun h=>?_) (fun h=>?_)
  ·have h':k<l.length:=by simp only [decide_eq_true_eq] at h;omega
   have h2:((l.length:Int) - 1 - k).toNat=l.length - 1 - k:=by omega
   have hg:=w128s_get l (l.length - 1 - k) (by omega)
   simp only [h2,hg,vcC,Int.reduceEq,Int.reduceNe,Int.reduceLT,Int.reduceLE,Nat.reduceEqDiff,Nat.reduceAdd,reduceIte,reduceCtorEq,Nat.reduceLT,Nat.reduceLeDiff,eq_self,vcP,WY_skip,WY_reg,WY_regY,WY_seq,WY_cond,WY_block,WY_exit,WY_ret,VY_nil,VY_yld,VY_yldg,VY_ps,seqY_n,seqY_r,seqY_x,blockY_n,blockY_r,blockY_x,isCallvs,isCallv,isY,List.any_cons,List.any_nil,Bool.or_false,Bool.or_true,Bool.false_or,Bool.and_false,Bool.false_and]
   refine ⟨by omega,?_⟩
   obtain ⟨rest,hrest⟩:=backL_le l (k+1) l.length h'
   rw [backL,w128,show l.getD (l.length - 1 - k) default=l[l.length - 1 - k]'(by omega) by simp [List.getD,List.getElem?_eq_getElem (show l.length - 1 - k<l.length by omega)]] at hrest
   refine yS_of (backL l k) rest rfl ?_ ?_ ?_
   ·rw [hrest];simp
   ·simp only [deadAll_no,vcC,Int.reduceEq,Int.reduceNe,Int.reduceLT,Int.reduceLE,Nat.reduceEqDiff,Nat.reduceAdd,reduceIte,reduceCtorEq,Nat.reduceLT,Nat.reduceLeDiff,eq_self,vcP,WY_skip,WY_reg,WY_regY,WY_seq,WY_cond,WY_block,WY_exit,WY_ret,VY_nil,VY_yld,VY_yldg,VY_ps,seqY_n,seqY_r,seqY_x,blockY_n,blockY_r,blockY_x,isCallvs,isCallv,isY,List.any_cons,List.any_nil,Bool.or_false,Bool.or_true,Bool.false_or,Bool.and_false,Bool.false_and]
    refine ⟨by unfold I64;omega,⟨k+1,h'⟩,by simp only;omega,weakE _ ?_,?_⟩
    ·simp only [vcC,Int.reduceEq,Int.reduceNe,Int.reduceLT,Int.reduceLE,Nat.reduceEqDiff,Nat.reduceAdd,reduceIte,reduceCtorEq,Nat.reduceLT,Nat.reduceLeDiff,eq_self,vcP,WY_skip,WY_reg,WY_regY,WY_seq,WY_cond,WY_block,WY_exit,WY_ret,VY_nil,VY_yld,VY_yldg,VY_ps,seqY_n,seqY_r,seqY_x,blockY_n,blockY_r,blockY_x,isCallvs,isCallv,isY,List.any_cons,List.any_nil,Bool.or_false,Bool.or_true,Bool.false_or,Bool.and_false,Bool.false_and]
     simp only [AV.int.injEq,true_and,and_true]
     omega
    ·simp only [backL,w128,show l.getD (l.length - 1 - k) default=l[l.length - 1 - k]'(by omega) by simp [List.getD,List.getElem?_eq_getElem (show l.length - 1 - k<l.length by omega)]]
   ·simp only [deadAll_no,vcC,Int.reduceEq,Int.reduceNe,Int.reduceLT,Int.reduceLE,Nat.reduceEqDiff,Nat.reduceAdd,reduceIte,reduceCtorEq,Nat.reduceLT,Nat.reduceLeDiff,eq_self,vcP,WY_skip,WY_reg,WY_regY,WY_seq,WY_cond,WY_block,WY_exit,WY_ret,VY_nil,VY_yld,VY_yldg,VY_ps,seqY_n,seqY_r,seqY_x,blockY_n,blockY_r,blockY_x,isCallvs,isCallv,isY,List.any_cons,List.any_nil,Bool.or_false,Bool.or_true,Bool.false_or,Bool.and_false,Bool.false_and];simp
  ·simp only [vcC,Int.reduceEq,Int.reduceNe,Int.reduceLT,Int.reduceLE,Nat.reduceEqDiff,Nat.reduceAdd,reduceIte,reduceCtorEq,Nat.reduceLT,Nat.reduceLeDiff,eq_self,vcP,WY_skip,WY_reg,WY_regY,WY_seq,WY_cond,WY_block,WY_exit,WY_ret,VY_nil,VY_yld,VY_yldg,VY_ps,seqY_n,seqY_r,seqY_x,blockY_n,blockY_r,blockY_x,isCallvs,isCallv,isY,List.any_cons,List.any_nil,Bool.or_false,Bool.or_true,Bool.false_or,Bool.and_false,Bool.false_and]
   have:k=l.length:=by simp only [decide_eq_false_iff_not,Bool.not_true] at h;omega
   subst this
   simp

def unw:AV→Option (Bool × Int × Int)
 | .agg [.bool a,.int .u64 b,.int .u64 c]=>some (a,b,c)
 | _=>none
def unws:List AV→Option (List (Bool × Int × Int))
 | []=>some []
 | x :: l=>match unw x,unws l with
  | some n,some m=>some (n :: m)
  | _,_=>none
theorem unws_some:∀ {l:List AV} {m:List (Bool × Int × Int)},unws l=some m→l=w128s m
 | [],m,h=>by cases h;rfl
 | x :: l,m,h=>by
  simp only [unws] at h
  split at h
  ·rename_i n k h1 h2
   cases h
   rw [unws_some h2]
   unfold unw at h1
   split at h1
   ·cases h1;rfl
   ·cases h1
  ·cases h
def unint:AV→Option Int
 | .int .i64 n=>some n
 | _=>none
def unints:List AV→Option (List Int)
 | []=>some []
 | x :: l=>match unint x,unints l with
  | some n,some m=>some (n :: m)
  | _,_=>none
theorem unints_some:∀ {l:List AV} {m:List Int},unints l=some m→l=ints m
 | [],m,h=>by cases h;rfl
 | x :: l,m,h=>by
  simp only [unints] at h
  split at h
  ·rename_i n k h1 h2
   cases h
   rw [unints_some h2]
   unfold unint at h1
   split at h1
   ·cases h1;rfl
   ·cases h1
  ·cases h

def itP:IterT:=fun g caps=>if g=222 then (match caps with
 | [.eptr (.sl es) 0]=>(match unws es with
  | some l=>if l.length≤1000000 then some (backL l l.length) else none
  | none=>none)
 | _=>none) else none
theorem itP_ok:∀ g caps xs,itP g caps=some xs→SeqA Tryz.prog g caps xs:=by
 intro g caps xs h
 unfold itP at h
 split at h
 ·rename_i hg
  subst hg
  split at h
  ·rename_i es
   split at h
   ·rename_i l hl
    split at h
    ·rename_i hc
     cases h
     rw [unws_some hl]
     exact backward_s l hc
    ·cases h
   ·cases h
  ·cases h
 ·cases h
def extV:CallT:=fun f a =>
 if f=112 then (match a with
  | [.sl es]=>(match unints es with
   | some l=>if l.length≤1000000 then some (.sl es) else none
   | none=>none)
  | _=>none)
 else if f=183 then (match a with
  | [.int .u64 x,.int .u64 y,.int .u64 c]=>if 0≤x∧0≤y∧0≤c∧c≤1 then some (.tup [.int .u64 ((x+y+c) % 18446744073709551616),.int .u64 ((x+y+c) / 18446744073709551616)]) else none
  | _=>none)
 else if f=184 then (match a with
  | [.int .u64 x,.int .u64 y,.int .u64 c]=>if 0≤x∧0≤y∧0≤c∧c≤1 then some (.tup [.int .u64 (((x.toNat+18446744073709551616 - y.toNat - c.toNat) % 18446744073709551616:Nat):Int),.int .u64 ((if x.toNat<y.toNat+c.toNat then 1 else 0:Nat):Int)]) else none
  | _=>none)
 else none
theorem extV_ok:∀ f a v,extV f a=some v→Sound Tryz.prog f a v:=by
 intro f a v h
 unfold extV at h
 split at h
 ·rename_i hf
  subst hf
  split at h
  ·rename_i es
   split at h
   ·rename_i l hl
    split at h
    ·rename_i hc
     cases h
     rw [unints_some hl]
     exact Clone_s l (by omega)
    ·cases h
   ·cases h
  ·cases h
 ·split at h
  ·rename_i hf
   subst hf
   split at h
   ·rename_i x y c
    split at h
    ·rename_i hc
     cases h
     exact Add64_s x y c hc.1 hc.2.1 hc.2.2
    ·cases h
   ·cases h
  ·split at h
   ·rename_i hf
    subst hf
    split at h
    ·rename_i x y c
     split at h
     ·rename_i hc
      cases h
      have:=Sub64_s x.toNat y.toNat c.toNat (by omega)
      rw [show ((x.toNat:Nat):Int)=x by omega,show ((y.toNat:Nat):Int)=y by omega,show ((c.toNat:Nat):Int)=c by omega] at this
      exact this
     ·cases h
    ·cases h
   ·cases h
def extO:OwnT:=fun f a=>if f=112 then (match a with
  | [.sl es]=>(match unints es with
   | some l=>if l.length≤1000000 then some (3,1,es) else none
   | none=>none)
  | _=>none) else none
theorem extO_ok:∀ f a q,extO f a=some q→SoundO Tryz.prog f a q.1 q.2.1 q.2.2:=by
 intro f a q h
 unfold extO at h
 split at h
 ·rename_i hf
  subst hf
  split at h
  ·rename_i es
   split at h
   ·rename_i l hl
    split at h
    ·rename_i hc
     cases h
     rw [unints_some hl]
     exact Clone_o l (by omega)
    ·cases h
   ·cases h
  ·cases h
 ·cases h
def extP:CT:=⟨extV,extO⟩
theorem extP_ok:extP.ok Tryz.prog:=⟨extV_ok,extO_ok⟩
def owP:FuncId→Bool:=fun f=>decide (f=112) || decide (f=122)
def tabP:List (Nat × Nat × Nat × MC × List (Nat × Option (Option Nat))):=[(21,91,0,c_law02_awake,[(0,none)]),(88,47,2,c_pulse_KeptAfter,[(4,none),(5,none)]),(49,6,1,c_base_CopyInts,[(2,none)]),(89,65,1,c_pulse_GainOf,[(2,(some (some 2))),(3,none)]),(61,12,2,c_pulse_Restored,[(4,none),(5,none)]),(24,6,1,c_ref02_Wave,[(2,(some (some 1)))]),(33,26,2,c_base_Ints,[(4,none)]),(62,58,2,c_pulse_FitOf,[(4,(some (some 2))),(5,none)]),(87,3,0,c_law02_Template,[(0,(some (some 2)))]),(63,41,3,c_pulse_ErrorOf,[(6,(some (some 2))),(7,none)]),(119,15,1,c_pulse_first,[(2,none)]),(154,30,1,c_pulse_timesErr,[(2,none)]),(121,7,2,c_pulse_unless,[(4,none)]),(155,5,1,c_pulse_isTick,[(2,none)]),(113,9,2,c_slices_ContainsFunc_int_int,[(4,none)]),(156,6,1,c_pulse_GainOf_1,[(2,none)]),(118,15,3,c_pulse_within,[(6,none)]),(157,25,1,c_slices_Max_int_int,[(2,none)]),(138,17,1,c_pulse_sum,[(2,none)]),(137,28,2,c_pulse_lowest,[(4,(some (some 2))),(5,none)]),(124,60,3,c_pulse_droop,[(6,none),(7,none)]),(159,24,1,c_pulse_samplesErr,[(2,none),(3,none)]),(92,11,1,c_pulse_sampled,[(2,none)]),(174,16,2,c_pulse_floor,[(4,none)]),(93,21,1,c_pulse_fitErr,[(2,none)]),(140,5,1,c_pulse_isSample,[(2,none)]),(125,22,2,c_pulse_fittedErr,[(4,none)]),(126,55,2,c_pulse_problemOf,[(4,(some (some 2)))]),(127,8,1,c_math_bits_TrailingZeros,[(2,none)]),(128,92,2,c_pulse_problem_solved,[(4,(some (some 3))),(5,none)]),(129,56,3,c_pulse_problem_isBest,[(6,none)]),(130,62,2,c_pulse_reduced,[(4,(some (some 2))),(5,none)]),(131,21,3,c_pulse_bothErr,[(6,none)]),(132,35,3,c_pulse_differences,[(6,none)]),(133,57,2,c_pulse_wide_plus,[(4,(some (some 3)))]),(134,11,1,c_pulse_wideOf,[(2,(some (some 3)))]),(135,33,2,c_pulse_wide_times,[(4,(some (some 3)))]),(136,39,1,c_pulse_wide_text,[(2,none)]),(168,19,2,c_slices_IndexFunc_int_int,[(4,none)]),(188,15,2,c_pulse_divisor,[(4,none)]),(173,12,1,c_pulse_droopErr,[(2,none)]),(201,6,1,c_pulse_samplesErr_1,[(2,none)]),(160,6,1,c_pulse_fitErr_1,[(2,none)]),(171,10,2,c_pulse_isSized,[(4,none)]),(120,32,1,c_pulse_templateErr,[(2,none)]),(122,47,2,c_pulse_model,[(4,none)]),(175,30,3,c_pulse_against,[(6,none)]),(176,14,1,c_math_bits_TrailingZeros32,[(2,none)]),(177,14,1,c_math_bits_TrailingZeros64,[(2,none)]),(178,57,1,c_pulse_determinant,[(2,(some (some 3)))]),(179,11,1,c_pulse_wide_negated,[(2,(some (some 3)))]),(180,9,1,c_pulse_wide_sign,[(2,none)]),(181,60,2,c_pulse_common,[(4,(some (some 3)))]),(182,51,2,c_pulse_wide_over,[(4,(some (some 3)))]),(139,24,2,c_pulse_wide_isLess,[(4,none)]),(185,51,2,c_math_bits_Mul64,[(4,none),(5,none)]),(186,135,3,c_math_bits_Div64,[(6,none),(7,none)]),(187,8,2,c_strconv_FormatUint,[(4,none)]),(170,6,1,c_pulse_templateErr_1,[(2,none)]),(172,5,1,c_pulse_templateErr_2,[(2,none)]),(203,11,1,c_pulse_wide_isZero,[(2,none)]),(204,8,1,c_pulse_wide_size,[(2,(some (some 3)))]),(205,16,1,c_pulse_wide_half,[(2,(some (some 3)))]),(206,6,1,c_pulse_wide_twice,[(2,(some (some 3)))]),(207,4,1,c_slices_Backward_pulse_wide_pulse_wide,[(2,none)]),(208,6,1,c_math_bits_LeadingZeros64,[(2,none)]),(209,32,2,c_internal_strconv_FormatUint,[(4,none)]),(222,19,2,c_slices_Backward_pulse_wide_pulse_wide_1,[]),(223,25,1,c_math_bits_Len64,[(2,none)]),(224,15,1,c_internal_strconv_small,[(2,none)]),(225,15,1,c_internal_strconv_numDigits,[(2,none)]),(226,167,2,c_internal_strconv_formatBase10,[]),(227,102,5,c_internal_strconv_formatBits,[(10,none),(11,none)]),(235,6,1,c_internal_strconv_log10Pow2,[(2,none)]),(236,4,1,c_internal_strconv_bool2_int,[(2,none)]),(237,8,1,c_internal_strconv_isPowerOfTwo,[(2,none)])]
theorem tabP_ok:∀ f c,lookC tabP f=some c→cFun Tryz.prog f=some c:=by
 refine lookC_ok ?_
 unfold tabP
 simp only [List.forall_mem_cons]
 exact ⟨f_law02_awake,f_pulse_KeptAfter,f_base_CopyInts,f_pulse_GainOf,f_pulse_Restored,f_ref02_Wave,f_base_Ints,f_pulse_FitOf,f_law02_Template,f_pulse_ErrorOf,f_pulse_first,f_pulse_timesErr,f_pulse_unless,f_pulse_isTick,f_slices_ContainsFunc_int_int,f_pulse_GainOf_1,f_pulse_within,f_slices_Max_int_int,f_pulse_sum,f_pulse_lowest,f_pulse_droop,f_pulse_samplesErr,f_pulse_sampled,f_pulse_floor,f_pulse_fitErr,f_pulse_isSample,f_pulse_fittedErr,f_pulse_problemOf,f_math_bits_TrailingZeros,f_pulse_problem_solved,f_pulse_problem_isBest,f_pulse_reduced,f_pulse_bothErr,f_pulse_differences,f_pulse_wide_plus,f_pulse_wideOf,f_pulse_wide_times,f_pulse_wide_text,f_slices_IndexFunc_int_int,f_pulse_divisor,f_pulse_droopErr,f_pulse_samplesErr_1,f_pulse_fitErr_1,f_pulse_isSized,f_pulse_templateErr,f_pulse_model,f_pulse_against,f_math_bits_TrailingZeros32,f_math_bits_TrailingZeros64,f_pulse_determinant,f_pulse_wide_negated,f_pulse_wide_sign,f_pulse_common,f_pulse_wide_over,f_pulse_wide_isLess,f_math_bits_Mul64,f_math_bits_Div64,f_strconv_FormatUint,f_pulse_templateErr_1,f_pulse_templateErr_2,f_pulse_wide_isZero,f_pulse_wide_size,f_pulse_wide_half,f_pulse_wide_twice,f_slices_Backward_pulse_wide_pulse_wide,f_math_bits_LeadingZeros64,f_internal_strconv_FormatUint,f_slices_Backward_pulse_wide_pulse_wide_1,f_math_bits_Len64,f_internal_strconv_small,f_internal_strconv_numDigits,f_internal_strconv_formatBase10,f_internal_strconv_formatBits,f_internal_strconv_log10Pow2,f_internal_strconv_bool2_int,f_internal_strconv_isPowerOfTwo,fun p hp=>by cases hp⟩
end Go.Proofs.YtpaklfjlbocfcaaGreatDoor

/- The examples of chapter 2 hold. By an AI agent;nothing here is trusted. -/
namespace Go.Proofs.YtpaklfjlbocfcaaGreatDoor
open Go.Av
theorem awake_run:(callX extP owP itP (lookC tabP) 100 40).v 21 []=some (.bool true):=by kernel_rfl
theorem awake_s:Sound Tryz.prog 21 [] (.bool true):=(callX_sound extP_ok itP_ok tabP_ok 40).1 _ _ _ awake_run
end Go.Proofs.YtpaklfjlbocfcaaGreatDoor

/- The contract of strconv.FormatUint at base 10. By an AI agent;nothing here is trusted. -/
namespace Go.Proofs.YtpaklfjlbocfcaaGreatDoor
open Go.Shelf Go.RowKit Go.Sort Go.Lib

end Go.Proofs.YtpaklfjlbocfcaaGreatDoor

/- The marked code of law functions;printed by a program. By an AI agent;nothing here is trusted. -/
namespace Go.Proofs.YtpaklfjlbocfcaaGreatDoor
open Go.Av
end Go.Proofs.YtpaklfjlbocfcaaGreatDoor

/- Contracts: dead times and afterpulses. By an AI agent;nothing here is trusted. -/
namespace Go.Proofs.YtpaklfjlbocfcaaGreatDoor
open Go.Av

end Go.Proofs.YtpaklfjlbocfcaaGreatDoor

/- Contracts: hits,joined ranges. By an AI agent;nothing here is trusted. -/
namespace Go.Proofs.YtpaklfjlbocfcaaGreatDoor
open Go.Av

end Go.Proofs.YtpaklfjlbocfcaaGreatDoor

/- Numbers of a sign and 128 bits. By an AI agent;nothing here is trusted. -/
namespace Go.Proofs.YtpaklfjlbocfcaaGreatDoor
open Go.Av

end Go.Proofs.YtpaklfjlbocfcaaGreatDoor

/- Products and sums of numbers of 128 bits. By an AI agent;nothing here is trusted. -/
namespace Go.Proofs.YtpaklfjlbocfcaaGreatDoor
open Go.Av

end Go.Proofs.YtpaklfjlbocfcaaGreatDoor

/- Determinants in plain Lean. By an AI agent;nothing here is trusted. -/
namespace Go.Lin

def sm (n:Nat) (f:Nat→Rat):Rat:=match n with
 | 0=>0
 | n+1=>sm n f+f n
theorem sm_succ (n:Nat) (f:Nat→Rat):sm (n+1) f=sm n f+f n:=rfl
theorem sm_congr {n:Nat} {f g:Nat→Rat} (h:∀ i,i<n→f i=g i):sm n f=sm n g:=by
 induction n with
 | zero=>rfl
 | succ n ih=>rw [sm_succ,sm_succ,ih (fun i hi=>h i (by omega)),h n (by omega)]
def sg (i:Nat):Rat:=if i % 2=0 then 1 else -1
def skip (i r:Nat):Nat:=if r<i then r else r+1

theorem skip_lt {i r n:Nat} (hr:r<n):skip i r<n+1:=by unfold skip;split <;> omega
end Go.Lin

/- Equations solved by elimination,in plain Lean. By an AI agent;nothing here is trusted. -/
namespace Go.Lin

def posD (n:Nat) (a:Nat→Nat→Rat):Prop:=∀ x:Nat→Rat,(∃ i,i<n∧x i ≠ 0)→0<sm n (fun r=>x r * sm n (fun c=>a r c * x c))
theorem sm_first (n:Nat) (f:Nat→Rat):sm (n+1) f=f 0+sm n fun i=>f (i+1):=by
 induction n with
 | zero=>simp only [sm];grind
 | succ n ih=>rw [sm_succ,ih,sm_succ];grind
theorem posD.tail {n:Nat} {a:Nat→Nat→Rat} (h:posD (n+1) a):posD n fun r c=>a (r+1) (c+1):=by
 intro x ⟨i,hi,hx⟩
 have:=h (fun j=>if j=0 then 0 else x (j - 1)) ⟨i+1,by omega,by rw [if_neg (by omega)];simpa using hx⟩
 rw [sm_first,if_pos rfl] at this
 have e:sm n (fun r=>(if r+1=0 then 0 else x (r+1 - 1)) * sm (n+1) (fun c=>a (r+1) c * (if c=0 then 0 else x (c - 1))))=sm n (fun r=>x r * sm n (fun c=>a (r+1) (c+1) * x c)):=by
  refine sm_congr fun r _=>?_
  rw [if_neg (by omega),Nat.add_sub_cancel,sm_first,if_pos rfl]
  congr 1
  have:sm n (fun i=>a (r+1) (i+1) * (if i+1=0 then 0 else x (i+1 - 1)))=sm n fun c=>a (r+1) (c+1) * x c:=sm_congr fun c _=>by rw [if_neg (by omega),Nat.add_sub_cancel]
  rw [this];grind
 rw [e] at this
 grind
end Go.Lin

/- Shifted templates and their products,in plain Lean. By an AI agent;nothing here is trusted. -/
namespace Go.Lin

def itm (items:List Int) (n k:Nat):Int:=if k≤n∧n - k<items.length then items.getD (n - k) 0 else 0
def smI (n:Nat) (f:Nat→Int):Int:=match n with
 | 0=>0
 | n+1=>smI n f+f n
def gr (items:List Int) (N k m:Nat):Int:=smI N fun n=>itm items n k * itm items n m
theorem smI_bd {n:Nat} {f:Nat→Int} {M:Int} (h:∀ i,i<n → -M≤f i∧f i≤M) : -(n * M)≤smI n f∧smI n f≤n * M:=by
 induction n with
 | zero=>simp [smI]
 | succ n ih =>
  have:=ih (fun i hi=>h i (by omega))
  have:=h n (by omega)
  rw [smI,show ((n+1:Nat):Int) * M=n * M+M by grind]
  omega
end Go.Lin

/- The best charges,in plain Lean. By an AI agent;nothing here is trusted. -/
namespace Go.Lin

section
variable (items:List Int) (S N:Nat) (s:Nat→Rat)
variable {items S N s}

end
end Go.Lin

/- Divisors,multiples,digits of quotients,in plain Lean. By an AI agent;nothing here is trusted. -/
namespace Go.Lin

end Go.Lin

/- The contract of bits.Div64. By an AI agent;nothing here is trusted. -/
namespace Go.Proofs.YtpaklfjlbocfcaaGreatDoor
open Go.Av

end Go.Proofs.YtpaklfjlbocfcaaGreatDoor

/- Signs,sizes,halves of numbers of 128 bits;the common divisor. By an AI agent;nothing here is trusted. -/
namespace Go.Proofs.YtpaklfjlbocfcaaGreatDoor
open Go.Av

def plP (p q:Bool × Nat):Bool × Nat:=if p.1=q.1 then (p.1,p.2+q.2) else if p.2<q.2 then (q.1,q.2 - p.2) else (p.1,p.2 - q.2)
def ngP (p:Bool × Nat):Bool × Nat:=(!p.1,p.2)
def tmP (p:Bool × Nat) (k:Int):Bool × Nat:=(p.1 != decide (k<0),p.2 * k.natAbs)
end Go.Proofs.YtpaklfjlbocfcaaGreatDoor

/- Determinants. By an AI agent;nothing here is trusted. -/
namespace Go.Proofs.YtpaklfjlbocfcaaGreatDoor
open Go.Av

def ent (R:List (List Int)) (r c:Nat):Int:=(R.getD r []).getD c 0
def mnr (R:List (List Int)) (i:Nat):List (List Int):=(R.eraseIdx i).map List.tail
def dtS (f:Nat→Bool × Nat) (R:List (List Int)):Nat→Bool × Nat
 | 0=>(false,0)
 | i+1=>if ent R i 0=0 then dtS f R i else plP (dtS f R i) (if i % 2=1 then ngP (tmP (f i) (ent R i 0)) else tmP (f i) (ent R i 0))
def dtP:Nat→List (List Int)→Bool × Nat
 | 0,_=>(false,1)
 | n+1,R=>dtS (fun i=>dtP n (mnr R i)) R (n+1)
theorem ent_mnr (R:List (List Int)) (i r c:Nat) (hr:r+1<R.length) (hi:i<R.length):ent (mnr R i) r c=ent R (Lin.skip i r) (c+1):=by
 unfold ent mnr Lin.skip
 have hl:(R.eraseIdx i).length=R.length - 1:=List.length_eraseIdx_of_lt hi
 have h1:((R.eraseIdx i).map List.tail).getD r []=((R.eraseIdx i)[r]'(by omega)).tail:=by
  rw [List.getD_eq_getElem?_getD,List.getElem?_map,List.getElem?_eq_getElem (show r<(R.eraseIdx i).length by omega)]
  rfl
 rw [h1,List.getElem_eraseIdx]
 split
 ·rw [List.getD_eq_getElem?_getD,List.getD_eq_getElem?_getD,List.getD_eq_getElem?_getD,List.getElem?_eq_getElem (show r<R.length by omega),List.getElem?_tail];rfl
 ·rw [List.getD_eq_getElem?_getD,List.getD_eq_getElem?_getD,List.getD_eq_getElem?_getD,List.getElem?_eq_getElem (show r+1<R.length by omega),List.getElem?_tail];rfl
theorem mnr_len (R:List (List Int)) (i:Nat) (hi:i<R.length):(mnr R i).length=R.length - 1:=by
 unfold mnr;rw [List.length_map];exact List.length_eraseIdx_of_lt hi
def prB:Nat→(Nat→Nat)→Nat
 | 0,_=>1
 | n+1,B=>(n+1) * (B 0 * prB n fun c=>B (c+1))
def bnd (n:Nat) (R:List (List Int)) (B:Nat→Nat):Prop:=∀ r c,r<n→c<n→(ent R r c).natAbs≤B c
theorem bnd.mnr {n:Nat} {R:List (List Int)} {B:Nat→Nat} (h:bnd (n+1) R B) (hl:R.length=n+1) {i:Nat} (hi:i<n+1):bnd n (mnr R i) fun c=>B (c+1):=fun r c hr hc=>by
 rw [ent_mnr R i r c (by omega) (by omega)]
 exact h _ _ (Lin.skip_lt hr) (by omega)
theorem plP_le (p q:Bool × Nat):(plP p q).2≤p.2+q.2:=by
 unfold plP
 split
 ·exact Nat.le_refl _
 ·split <;> simp <;> omega
theorem dtS_le {f:Nat→Bool × Nat} {R:List (List Int)} {M b:Nat}:∀ {i:Nat},(∀ k,k<i→(f k).2≤M∧(ent R k 0).natAbs≤b)→(dtS f R i).2≤i * (b * M)
 | 0,_=>Nat.zero_le _
 | i+1,h=>by
  have h1:=dtS_le (i:=i) fun k hk=>h k (by omega)
  obtain ⟨h2,h3⟩:=h i (by omega)
  have h4:(f i).2 * (ent R i 0).natAbs≤M * b:=Nat.mul_le_mul h2 h3
  rw [dtS,Nat.succ_mul]
  rw [Nat.mul_comm M b] at h4
  split
  ·omega
  ·refine Nat.le_trans (plP_le _ _) ?_
   split
   ·show _+(tmP (f i) (ent R i 0)).2≤_
    have:(tmP (f i) (ent R i 0)).2=(f i).2 * (ent R i 0).natAbs:=rfl
    omega
   ·have:(tmP (f i) (ent R i 0)).2=(f i).2 * (ent R i 0).natAbs:=rfl
    omega
theorem dtP_le:∀ {n:Nat} {R:List (List Int)} {B:Nat→Nat},R.length=n→bnd n R B→(dtP n R).2≤prB n B
 | 0,_,_,_,_=>Nat.le_refl _
 | n+1,R,B,h,hb=>by
  rw [dtP,prB]
  exact dtS_le fun k hk=>⟨dtP_le (by rw [mnr_len R k (by omega)];omega) (hb.mnr h hk),hb k 0 hk (by omega)⟩
def mj (R:List (List Int)) (i j:Nat):List (List Int):=((R.take j).eraseIdx i).map List.tail
end Go.Proofs.YtpaklfjlbocfcaaGreatDoor

/- The marked code of law functions;printed by a program. By an AI agent;nothing here is trusted. -/
namespace Go.Proofs.YtpaklfjlbocfcaaGreatDoor
open Go.Av
end Go.Proofs.YtpaklfjlbocfcaaGreatDoor

/- Templates: their errors,and those of samples for them. By an AI agent;nothing here is trusted. -/
namespace Go.Proofs.YtpaklfjlbocfcaaGreatDoor
open Go.Av

def itm (n:Int):Bool:=decide (-100≤n∧n≤100)
end Go.Proofs.YtpaklfjlbocfcaaGreatDoor

/- Samples for a template: their error,with a sum that may wrap. By an AI agent;nothing here is trusted. -/
namespace Go.Proofs.YtpaklfjlbocfcaaGreatDoor
open Go.Av

end Go.Proofs.YtpaklfjlbocfcaaGreatDoor

/- The model of charges,and what stands against a template. By an AI agent;nothing here is trusted. -/
namespace Go.Proofs.YtpaklfjlbocfcaaGreatDoor
open Go.Av

def agT (items l:List Int) (k:Nat):Nat→Int
 | 0=>0
 | j+1=>agT items l k j+items.getD j 0 * l.getD (k+j) 0
theorem prod_bd {a b M:Int} (hM:0≤M) (h1 : -100≤a∧a≤100) (h2 : -M≤b∧b≤M) : -(100 * M)≤a * b∧a * b≤100 * M:=by
 by_cases ha:0≤a
 ·have:=mul_abs (s:=b) (k:=a) (K:=100) ⟨ha,h1.2⟩ hM h2
  rw [Int.mul_comm b a,Int.mul_comm M 100] at this;exact this
 ·have:=mul_abs (s:=b) (k := -a) (K:=100) ⟨by omega,by omega⟩ hM h2
  rw [Int.mul_neg,Int.mul_comm b a,Int.mul_comm M 100] at this;omega
theorem agT_bd {items l:List Int} {M:Int} (hM:0≤M) (hi:∀ x ∈ items, -100≤x∧x≤100) (hl:∀ x ∈ l, -M≤x∧x≤M) (k:Nat):∀ j, -(100 * M * j)≤agT items l k j∧agT items l k j≤100 * M * j
 | 0=>by simp [agT]
 | j+1=>by
  have ih:=agT_bd hM hi hl k j
  have h1 : -100≤items.getD j 0∧items.getD j 0≤100:=by
   by_cases h:j<items.length
   ·rw [getD_at h];exact hi _ (List.getElem_mem h)
   ·simp [List.getD,List.getElem?_eq_none (Nat.le_of_not_lt h)]
  have h2 : -M≤l.getD (k+j) 0∧l.getD (k+j) 0≤M:=by
   by_cases h:k+j<l.length
   ·rw [getD_at h];exact hl _ (List.getElem_mem h)
   ·simp [List.getD,List.getElem?_eq_none (Nat.le_of_not_lt h)];omega
  have h3:=prod_bd hM h1 h2
  have h4:100 * M * ((j+1:Nat):Int)=100 * M * j+100 * M:=by rw [show ((j+1:Nat):Int)=(j:Int)+1 by omega,Int.mul_add,Int.mul_one]
  rw [agT,h4]
  omega
end Go.Proofs.YtpaklfjlbocfcaaGreatDoor

/- The model of charges,and differences. By an AI agent;nothing here is trusted. -/
namespace Go.Proofs.YtpaklfjlbocfcaaGreatDoor
open Go.Av

def mdT (items ch:List Int) (n:Nat):Nat→Int
 | 0=>0
 | k+1=>mdT items ch n k+(if k≤n∧n - k<items.length then ch.getD k 0 * items.getD (n - k) 0 else 0)
end Go.Proofs.YtpaklfjlbocfcaaGreatDoor

/- Digits to the base 10^9,in plain Lean. By an AI agent;nothing here is trusted. -/
namespace Go.Proofs.YtpaklfjlbocfcaaGreatDoor
open Go.Av

end Go.Proofs.YtpaklfjlbocfcaaGreatDoor

/- Contracts: digits added,subtracted,compared. By an AI agent;nothing here is trusted. -/
namespace Go.Proofs.YtpaklfjlbocfcaaGreatDoor
open Go.Av

end Go.Proofs.YtpaklfjlbocfcaaGreatDoor

/- Contracts: digits subtracted and compared. By an AI agent;nothing here is trusted. -/
namespace Go.Proofs.YtpaklfjlbocfcaaGreatDoor
open Go.Av

end Go.Proofs.YtpaklfjlbocfcaaGreatDoor

/- Contracts: wide numbers added,subtracted,compared. By an AI agent;nothing here is trusted. -/
namespace Go.Proofs.YtpaklfjlbocfcaaGreatDoor
open Go.Av

end Go.Proofs.YtpaklfjlbocfcaaGreatDoor

/- Contracts: wide numbers of ints,and multiplied. By an AI agent;nothing here is trusted. -/
namespace Go.Proofs.YtpaklfjlbocfcaaGreatDoor
open Go.Av

theorem nilsGood:∀ x ∈ [AV.agg [.int .i64 0,.nils]],good x=true:=fun x hx=>by rw [List.mem_singleton.1 hx];rfl
theorem RnB.wide {s s':Store} {f:Nat→Option Nat} {ty sz:Nat}:RnB s s' f ⟨ty,sz,[AV.agg [.int .i64 0,.nils]]⟩ ⟨ty,sz,[AV.agg [.int .i64 0,.nils]]⟩:=RnB.same (B:=⟨ty,sz,[AV.agg [.int .i64 0,.nils]]⟩) nilsGood
end Go.Proofs.YtpaklfjlbocfcaaGreatDoor

/- Contracts: wide numbers multiplied. By an AI agent;nothing here is trusted. -/
namespace Go.Proofs.YtpaklfjlbocfcaaGreatDoor
open Go.Av

end Go.Proofs.YtpaklfjlbocfcaaGreatDoor

/- Contracts: the model of charges,differences,both errors. By an AI agent;nothing here is trusted. -/
namespace Go.Proofs.YtpaklfjlbocfcaaGreatDoor
open Go.Av

theorem it_bd {items:List Int} (hi:∀ x ∈ items, -100≤x∧x≤100) (j:Nat) : -100≤items.getD j 0∧items.getD j 0≤100:=by
 by_cases h:j<items.length
 ·rw [getD_at h];exact hi _ (List.getElem_mem h)
 ·simp [List.getD,List.getElem?_eq_none (Nat.le_of_not_lt h)]
theorem ch_bd {ch:List Int} {C:Int} (hC:0≤C) (hc:∀ x ∈ ch, -C≤x∧x≤C) (k:Nat) : -C≤ch.getD k 0∧ch.getD k 0≤C:=by
 by_cases h:k<ch.length
 ·rw [getD_at h];exact hc _ (List.getElem_mem h)
 ·simp [List.getD,List.getElem?_eq_none (Nat.le_of_not_lt h)];omega
theorem mdT_bd {items ch:List Int} {C:Int} (hC:0≤C) (hi:∀ x ∈ items, -100≤x∧x≤100) (hc:∀ x ∈ ch, -C≤x∧x≤C) (n:Nat):∀ k, -(100 * C * k)≤mdT items ch n k∧mdT items ch n k≤100 * C * k
 | 0=>by simp [mdT]
 | k+1=>by
  have ih:=mdT_bd hC hi hc n k
  have h4:100 * C * ((k+1:Nat):Int)=100 * C * k+100 * C:=by rw [show ((k+1:Nat):Int)=(k:Int)+1 by omega,Int.mul_add,Int.mul_one]
  rw [mdT,h4]
  split
  ·have:=prod_bd hC (it_bd hi (n - k)) (ch_bd hC hc k)
   rw [Int.mul_comm (items.getD (n - k) 0)] at this;omega
  ·have:0≤100 * C:=by omega
   omega
end Go.Proofs.YtpaklfjlbocfcaaGreatDoor

/- The equations of ticks,in plain Lean. By an AI agent;nothing here is trusted. -/
namespace Go.Lin

def ticks (S:Nat) (p:Nat→Bool):List Nat:=(List.range S).filter p
theorem ticks_lt {S:Nat} {p:Nat→Bool} {k:Nat} (h:k ∈ ticks S p):k<S∧p k=true:=by
 unfold ticks at h;rw [List.mem_filter,List.mem_range] at h;exact h
section
variable (items:List Int) (S:Nat) (s:Nat→Rat)
def rhs (k:Nat):Rat:=sm (S+items.length - 1) fun n=>s n * ((itm items n k:Int):Rat)
variable {items S s}

end
end Go.Lin

/- Contracts: differences,both errors,the fit that is accepted. By an AI agent;nothing here is trusted. -/
namespace Go.Proofs.YtpaklfjlbocfcaaGreatDoor
open Go.Av

theorem CallsF.mono {P:Program} {f:FuncId} {args:Array Value} {w:World} {R R':Value→World→Prop} (h:CallsF P f args w R) (hr:∀ v w',R v w'→R' v w'):CallsF P f args w R':=by
 rcases h with ⟨v,w',h1,h2⟩ | ⟨h1,h2⟩
 ·exact .inl ⟨v,w',h1,hr v w' h2⟩
 ·exact .inr ⟨h1,h2.mono fun e w' ⟨v,he,hv⟩=>⟨v,he,hr v w' hv⟩⟩
theorem SoundO.sl {P:Program} {f:FuncId} {args:List AV} {ty sz:Nat} {es:List AV} (h:SoundO P f args ty sz es) (hi:∀ x ∈ es,imm x=true):Sound P f args (.sl es):=by
 intro w ok cargs hok hG hl ha
 refine CallsF.mono (h.2 w ok cargs hok hG hl ha) fun cv w' ⟨hb,ho⟩=>⟨hb,?_⟩
 rcases ho with ⟨rfl,a,rfl⟩ | ⟨b,cap,cur,rfl,h1,h2,h3,h4,h5,h6⟩
 ·exact .sl0 _ _
 ·refine .sl es b 0 sz cap cur ty (0,0) (fun i o=>cur.getD (i * sz+o) undef) (.inr ⟨h1,(Array.getElem?_eq_some_iff.1 h2).1⟩) h3 h2 (fun i x hx=>⟨(h6 i x hx).1,(h6 i x hx).2.1,hi x (List.mem_of_getElem? hx)⟩) (fun i x o c hx hc=>?_) (fun i x o c hx hc=>?_)
  ·obtain ⟨cv,p,q⟩:=(h6 i x hx).2.2 o c hc
   rw [Nat.zero_add,p]
   simp [Array.getD_eq_getD_getElem?,p]
  ·obtain ⟨cv,p,q⟩:=(h6 i x hx).2.2 o c hc
   have:cur.getD (i * sz+o) undef=cv:=by simp [Array.getD_eq_getD_getElem?,p]
   rw [this]
   exact q.mono (fun _ h=>h.1) (fun _ _=>rfl) (Goes.empty _ _ _ _ _)
structure FitIn (items l:List Int) (shifts:Int) (ch:List Int) (den:Int):Prop where
 i1:1≤items.length
 i6:items.length≤6
 ib:∀ x ∈ items, -100≤x∧x≤100
 ne:∃ x ∈ items,x ≠ 0
 s5:1≤shifts∧shifts≤5
 lb:∀ x ∈ l, -10000≤x∧x≤10000
 ll:(l.length:Int)=shifts+items.length - 1
 cl:(ch.length:Int)=shifts
 cb:∀ x ∈ ch,0≤x∧x≤1000000000000
 db:1≤den∧den≤1000000000000

theorem FitIn.cb2 {items l:List Int} {shifts:Int} {ch:List Int} {den:Int} (h:FitIn items l shifts ch den):∀ x ∈ ch, -1000000000000≤x∧x≤1000000000000:=fun x hx=>⟨by have:=(h.cb x hx).1;omega,(h.cb x hx).2⟩
theorem FitIn.mb {items l:List Int} {shifts:Int} {ch:List Int} {den:Int} (h:FitIn items l shifts ch den) (n:Nat) : -500000000000000≤mdT items ch n ch.length∧mdT items ch n ch.length≤500000000000000:=by
 have h1:=mdT_bd (C:=1000000000000) (by omega) h.ib h.cb2 n ch.length
 have h2:=h.cl;have h3:=h.s5
 omega
end Go.Proofs.YtpaklfjlbocfcaaGreatDoor

/- Contracts: which fit is accepted. By an AI agent;nothing here is trusted. -/
namespace Go.Proofs.YtpaklfjlbocfcaaGreatDoor
open Go.Av

end Go.Proofs.YtpaklfjlbocfcaaGreatDoor

/- The contract of bits.Div64,the first digit and the whole. By an AI agent;nothing here is trusted. -/
namespace Go.Proofs.YtpaklfjlbocfcaaGreatDoor
open Go.Av

end Go.Proofs.YtpaklfjlbocfcaaGreatDoor

/- Contracts: digits of a number of 128 bits,the error of a fit,what is kept. By an AI agent;nothing here is trusted. -/
namespace Go.Proofs.YtpaklfjlbocfcaaGreatDoor
open Go.Av

end Go.Proofs.YtpaklfjlbocfcaaGreatDoor

/- Contracts: the error of a fit,what is kept. By an AI agent;nothing here is trusted. -/
namespace Go.Proofs.YtpaklfjlbocfcaaGreatDoor
open Go.Av

end Go.Proofs.YtpaklfjlbocfcaaGreatDoor

/- Contracts of the reference: templates,items,the model,differences. By an AI agent;nothing here is trusted. -/
namespace Go.Proofs.YtpaklfjlbocfcaaGreatDoor
open Go.Av

theorem few_s (l:List Int):Sound Tryz.prog 22 [.sl (ints l)] (.bool (decide (l.length≤26))):=by
 refine sound_W f_law02_few (Nat.le_of_ble_eq_true rfl) ?_
 simp only [c_law02_few,vZ,Int.reduceEq,Int.reduceNe,Int.reduceLT,Int.reduceLE,Nat.reduceEqDiff,Nat.reduceAdd,reduceIte,reduceCtorEq,Nat.reduceLT,Nat.reduceLeDiff,Nat.reduceShiftRight,Nat.reduceMod]
 exact bool_eq (by omega)
end Go.Proofs.YtpaklfjlbocfcaaGreatDoor

/- Contracts of the reference: the model,differences,the accepted fit,squares. By an AI agent;nothing here is trusted. -/
namespace Go.Proofs.YtpaklfjlbocfcaaGreatDoor
open Go.Av

theorem itm_bd {items:List Int} (hi:∀ x ∈ items, -100≤x∧x≤100) (n k:Nat) : -100≤Lin.itm items n k∧Lin.itm items n k≤100:=by
 unfold Lin.itm
 split
 ·exact it_bd hi _
 ·omega
end Go.Proofs.YtpaklfjlbocfcaaGreatDoor

/- Contracts: wide numbers divided,rounded down. By an AI agent;nothing here is trusted. -/
namespace Go.Proofs.YtpaklfjlbocfcaaGreatDoor
open Go.Av

end Go.Proofs.YtpaklfjlbocfcaaGreatDoor

/- Contracts: sizes and divisors of wide numbers. By an AI agent;nothing here is trusted. -/
namespace Go.Proofs.YtpaklfjlbocfcaaGreatDoor
open Go.Av

end Go.Proofs.YtpaklfjlbocfcaaGreatDoor

/- Contracts: ratios in lowest terms. By an AI agent;nothing here is trusted. -/
namespace Go.Proofs.YtpaklfjlbocfcaaGreatDoor
open Go.Av

end Go.Proofs.YtpaklfjlbocfcaaGreatDoor

/- Contracts: ratios added,multiplied,compared. By an AI agent;nothing here is trusted. -/
namespace Go.Proofs.YtpaklfjlbocfcaaGreatDoor
open Go.Av

end Go.Proofs.YtpaklfjlbocfcaaGreatDoor

/- Ratios of fractions;lowest terms,in plain Lean. By an AI agent;nothing here is trusted. -/
namespace Go.Proofs.YtpaklfjlbocfcaaGreatDoor
open Go.Av

end Go.Proofs.YtpaklfjlbocfcaaGreatDoor

/- Contracts: ratios as rational numbers. By an AI agent;nothing here is trusted. -/
namespace Go.Proofs.YtpaklfjlbocfcaaGreatDoor
open Go.Av

end Go.Proofs.YtpaklfjlbocfcaaGreatDoor

/- Contracts of the reference: the accepted fit,squares,digits,what is kept. By an AI agent;nothing here is trusted. -/
namespace Go.Proofs.YtpaklfjlbocfcaaGreatDoor
open Go.Av

end Go.Proofs.YtpaklfjlbocfcaaGreatDoor

/- The problem of a template and samples. By an AI agent;nothing here is trusted. -/
namespace Go.Proofs.YtpaklfjlbocfcaaGreatDoor
open Go.Av

section
variable {s s':Store} {f:Nat→Option Nat} {ty sz:Nat}
end

def gmQ (items:List Int) (S k j:Nat):List Int:=(List.range j).map fun m=>Lin.gr items (S+items.length - 1) k m
def gmP (items:List Int) (S i:Nat):List (List Int):=(List.range i).map fun k=>gmQ items S k S
def rhP (items l:List Int) (i:Nat):List Int:=(List.range i).map fun k=>agT items l k items.length
theorem gmQ_len (items:List Int) (S k j:Nat):(gmQ items S k j).length=j:=by simp [gmQ]
theorem gmP_len (items:List Int) (S i:Nat):(gmP items S i).length=i:=by simp [gmP]
theorem rhP_len (items l:List Int) (i:Nat):(rhP items l i).length=i:=by simp [rhP]
end Go.Proofs.YtpaklfjlbocfcaaGreatDoor

/- Whether a solution is the best one. By an AI agent;nothing here is trusted. -/
namespace Go.Proofs.YtpaklfjlbocfcaaGreatDoor
open Go.Av

end Go.Proofs.YtpaklfjlbocfcaaGreatDoor

/- The solution for a set of ticks. By an AI agent;nothing here is trusted. -/
namespace Go.Proofs.YtpaklfjlbocfcaaGreatDoor
open Go.Av

def sqQ (G:List (List Int)) (T:List Nat) (k j:Nat):List Int:=(T.take j).map fun m=>ent G k m
def sqP (G:List (List Int)) (T:List Nat) (i:Nat):List (List Int):=(T.take i).map fun k=>sqQ G T k T.length
theorem sqP_len (G:List (List Int)) (T:List Nat) {i:Nat} (h:i≤T.length):(sqP G T i).length=i:=by unfold sqP;rw [List.length_map,List.length_take_of_le h]
structure SlB (G:List (List Int)) (H:List Int) (T:List Nat) (GM RM:Nat):Prop where
 g:∀ r c,(ent G r c).natAbs≤GM
 h:∀ k,(H.getD k 0).natAbs≤RM
 gl:G.length=H.length∧H.length≤5∧∀ r ∈ G,r.length=H.length
 t:∀ k ∈ T,k<H.length
 tl:T.length≤5
 m:1≤GM∧GM≤RM∧RM≤1000000000000000000
 b:prB T.length (fun _=>RM)<170141183460469231731687303715884105728
theorem bnd_sq {G:List (List Int)} {H:List Int} {T:List Nat} {GM RM:Nat} (B:SlB G H T GM RM):bnd T.length (sqP G T T.length) fun _=>GM:=by
 intro r c hr hc
 have e:ent (sqP G T T.length) r c=ent G T[r] T[c]:=by
  unfold ent sqP sqQ
  rw [List.take_length]
  simp [hr,hc,ent]
 rw [e]
 exact B.g _ _
end Go.Proofs.YtpaklfjlbocfcaaGreatDoor

/- The common divisor of numbers of 128 bits. By an AI agent;nothing here is trusted. -/
namespace Go.Proofs.YtpaklfjlbocfcaaGreatDoor
open Go.Av

end Go.Proofs.YtpaklfjlbocfcaaGreatDoor

/- Quotients of numbers of 128 bits. By an AI agent;nothing here is trusted. -/
namespace Go.Proofs.YtpaklfjlbocfcaaGreatDoor
open Go.Av

end Go.Proofs.YtpaklfjlbocfcaaGreatDoor

/- A solution in lowest terms. By an AI agent;nothing here is trusted. -/
namespace Go.Proofs.YtpaklfjlbocfcaaGreatDoor
open Go.Av

end Go.Proofs.YtpaklfjlbocfcaaGreatDoor

/- The ticks of a set. By an AI agent;nothing here is trusted. -/
namespace Go.Proofs.YtpaklfjlbocfcaaGreatDoor
open Go.Av

def tk5 (s:Nat):List Nat:=(List.range 5).filter fun k=>s.testBit k
theorem tk5_tk:((List.range 6).all fun S=>(List.range (2 ^ S)).all fun s=>decide (tk5 s=Lin.ticks S fun k=>s.testBit k))=true:=by decide +kernel
theorem tk5_eq {S s:Nat} (hS:S≤5) (hs:s<2 ^ S):tk5 s=Lin.ticks S fun k=>s.testBit k:=by
 have h1:=List.all_eq_true.1 tk5_tk S (List.mem_range.2 (by omega))
 have h2:=List.all_eq_true.1 h1 s (List.mem_range.2 hs)
 exact of_decide_eq_true h2
end Go.Proofs.YtpaklfjlbocfcaaGreatDoor

/- The fit of samples. By an AI agent;nothing here is trusted. -/
namespace Go.Proofs.YtpaklfjlbocfcaaGreatDoor
open Go.Av

theorem ent_gm {items:List Int} {S r c:Nat} (hr:r<S) (hc:c<S):ent (gmP items S S) r c=Lin.gr items (S+items.length - 1) r c:=by
 unfold ent gmP gmQ
 simp [hr,hc]
theorem gr_bd {items:List Int} (hi:∀ x ∈ items, -100≤x∧x≤100) (N r c:Nat) : -(N * 10000:Int)≤Lin.gr items N r c∧Lin.gr items N r c≤N * 10000:=by
 unfold Lin.gr
 refine Lin.smI_bd fun n _=>?_
 exact prod_bd (M:=100) (by omega) (itm_bd hi n r) (itm_bd hi n c)
theorem getD_none {G:List (List Int)} {r:Nat} (h:G.length≤r):G.getD r []=[]:=by rw [List.getD_eq_getElem?_getD,List.getElem?_eq_none h];rfl
theorem getD_row {G:List (List Int)} {r:Nat} (h:r<G.length):G.getD r []=G[r]:=by rw [List.getD_eq_getElem?_getD,List.getElem?_eq_getElem h];rfl
theorem ent_lo {G:List (List Int)} {r c n:Nat} (hG:G.length=n) (hr:∀ g ∈ G,g.length=n) (h:¬ (r<n∧c<n)):ent G r c=0:=by
 unfold ent
 by_cases h1:r<n
 ·have:c ≥ n:=by omega
  rw [getD_row (show r<G.length by omega),List.getD_eq_getElem?_getD,List.getElem?_eq_none (by rw [hr _ (List.getElem_mem _)];exact this)];rfl
 ·rw [getD_none (by omega)];rfl
theorem gm_mem {items:List Int} {S:Nat} {g:List Int} (h:g ∈ gmP items S S):g.length=S:=by
 obtain ⟨k,_,rfl⟩:=List.mem_map.1 h
 exact gmQ_len _ _ _ _
theorem prB_5 {n:Nat} (h:n≤5):prB n (fun _=>6000000)<170141183460469231731687303715884105728:=by
 match n,h with
 | 0,_=>decide
 | 1,_=>decide
 | 2,_=>decide
 | 3,_=>decide
 | 4,_=>decide
 | 5,_=>decide
theorem prB_g {n:Nat} (h:n≤5):prB n (fun _=>100000)≤1200000000000000000000000000:=by
 match n,h with
 | 0,_=>decide
 | 1,_=>decide
 | 2,_=>decide
 | 3,_=>decide
 | 4,_=>decide
 | 5,_=>decide
structure FtB (items l:List Int) (S:Nat):Prop where
 i1:1≤items.length
 i6:items.length≤6
 ib:∀ x ∈ items, -100≤x∧x≤100
 ne:∃ x ∈ items,x ≠ 0
 s5:1≤S∧S≤5
 lb:∀ x ∈ l, -10000≤x∧x≤10000
 ll:l.length=S+items.length - 1
theorem FtB.eb {items l:List Int} {S:Nat} (F:FtB items l S) (r c:Nat):(ent (gmP items S S) r c).natAbs≤100000:=by
 by_cases h:r<S∧c<S
 ·rw [ent_gm h.1 h.2]
  have h1:=gr_bd F.ib (S+items.length - 1) r c
  have h2:=F.i6
  have h3:=F.s5
  omega
 ·rw [ent_lo (gmP_len _ _ _) (fun g hg=>gm_mem hg) h];decide
theorem FtB.rb {items l:List Int} {S:Nat} (F:FtB items l S) (k:Nat):((rhP items l S).getD k 0).natAbs≤6000000:=by
 by_cases h:k<S
 ·rw [getD_at (by rw [rhP_len];exact h)]
  unfold rhP
  rw [List.getElem_map,List.getElem_range]
  have h1:=agT_bd (M:=10000) (by omega) F.ib F.lb k items.length
  have h2:=F.i6
  omega
 ·rw [List.getD_eq_getElem?_getD,List.getElem?_eq_none (by rw [rhP_len];omega)];decide
theorem tk5_lt {S s:Nat} (hS:S≤5) (hs:s<2 ^ S):∀ k ∈ tk5 s,k<S:=fun k hk=>by
 rw [tk5_eq hS hs] at hk
 exact (Lin.ticks_lt hk).1
theorem tk5_len (s:Nat):(tk5 s).length≤5:=by
 unfold tk5
 have:=List.length_filter_le (fun k=>s.testBit k) (List.range 5)
 simpa using this
theorem FtB.sl {items l:List Int} {S:Nat} (F:FtB items l S) {s:Nat} (hs:s<2 ^ S):SlB (gmP items S S) (rhP items l S) (tk5 s) 100000 6000000:=by
 refine ⟨F.eb,F.rb,⟨by rw [gmP_len,rhP_len],by rw [rhP_len];exact F.s5.2,fun g hg=>by rw [gm_mem hg,rhP_len]⟩,fun k hk=>by rw [rhP_len];exact tk5_lt F.s5.2 hs k hk,tk5_len s,⟨by omega,by omega,by omega⟩,prB_5 (tk5_len s)⟩
def dnS (items:List Int) (S s:Nat):Bool × Nat:=dtP (tk5 s).length (sqP (gmP items S S) (tk5 s) (tk5 s).length)
theorem FtB.db {items l:List Int} {S:Nat} (F:FtB items l S) {s:Nat} (hs:s<2 ^ S):(dnS items S s).2≤1200000000000000000000000000:=by
 have h1:=bnd_sq (F.sl hs)
 exact Nat.le_trans (dtP_le (sqP_len _ _ (Nat.le_refl _)) h1) (prB_g (tk5_len s))
end Go.Proofs.YtpaklfjlbocfcaaGreatDoor

/- What the fit is,in plain Lean. By an AI agent;nothing here is trusted. -/
namespace Go.Proofs.YtpaklfjlbocfcaaGreatDoor
open Go.Av

theorem getD_set_ne {α:Type} {l:List α} {i j:Nat} {x d:α} (h:i ≠ j):(l.set i x).getD j d=l.getD j d:=by
 rw [List.getD_eq_getElem?_getD,List.getD_eq_getElem?_getD,List.getElem?_set_ne h]
end Go.Proofs.YtpaklfjlbocfcaaGreatDoor

/- What the fit that is found is. By an AI agent;nothing here is trusted. -/
namespace Go.Proofs.YtpaklfjlbocfcaaGreatDoor
open Go.Av

end Go.Proofs.YtpaklfjlbocfcaaGreatDoor

/- The error of a fit;fits of samples times a number. By an AI agent;nothing here is trusted. -/
namespace Go.Proofs.YtpaklfjlbocfcaaGreatDoor
open Go.Av

end Go.Proofs.YtpaklfjlbocfcaaGreatDoor

/- The best fit: what is accepted,and what is found,in plain Lean. By an AI agent;nothing here is trusted. -/
namespace Go.Proofs.YtpaklfjlbocfcaaGreatDoor
open Go.Av

theorem FitIn.d0 {items l:List Int} {shifts:Int} {ch:List Int} {den:Int} (F:FitIn items l shifts ch den):(0:Rat)<((den:Int):Rat):=by
 exact_mod_cast (show (0:Int)<den by have:=F.db;omega)
end Go.Proofs.YtpaklfjlbocfcaaGreatDoor

/- The fit of samples: contract. By an AI agent;nothing here is trusted. -/
namespace Go.Proofs.YtpaklfjlbocfcaaGreatDoor
open Go.Av

end Go.Proofs.YtpaklfjlbocfcaaGreatDoor

/- Contracts: the model of whole charges;which charges are whole;equal fits. By an AI agent;nothing here is trusted. -/
namespace Go.Proofs.YtpaklfjlbocfcaaGreatDoor
open Go.Av

theorem SameFit_s (d1 d2:Int) (c1 c2:List Int) (h:c1.length≤1000000000):Sound Tryz.prog 34 [fitA d1 c1,fitA d2 c2] (.bool (decide (d1=d2∧c1=c2))):=by
 refine sound_W f_ref02_SameFit (Nat.le_of_ble_eq_true rfl) ?_
 have hI:=Ints_s c1 c2 h
 by_cases e:d1=d2
 ·subst e
  have hr:decide (d1=d1∧c1=c2)=decide (c1=c2):=by simp
  rw [hr]
  simp only [c_ref02_SameFit,fitA,vZ,Int.reduceEq,Int.reduceNe,Int.reduceLT,Int.reduceLE,Nat.reduceEqDiff,Nat.reduceAdd,reduceIte,reduceCtorEq,Nat.reduceLT,Nat.reduceLeDiff,Nat.reduceShiftRight,Nat.reduceMod]
  refine callS_of hI ?_
  simp only [vZ,Int.reduceEq,Int.reduceNe,Int.reduceLT,Int.reduceLE,Nat.reduceEqDiff,Nat.reduceAdd,reduceIte,reduceCtorEq,Nat.reduceLT,Nat.reduceLeDiff,Nat.reduceShiftRight,Nat.reduceMod]
 ·have hr:decide (d1=d2∧c1=c2)=false:=by simp [e]
  rw [hr]
  simp only [c_ref02_SameFit,fitA,e,vZ,Int.reduceEq,Int.reduceNe,Int.reduceLT,Int.reduceLE,Nat.reduceEqDiff,Nat.reduceAdd,reduceIte,reduceCtorEq,Nat.reduceLT,Nat.reduceLeDiff,Nat.reduceShiftRight,Nat.reduceMod]
end Go.Proofs.YtpaklfjlbocfcaaGreatDoor

/- The law PulseStrings: it answers true. By an AI agent;nothing here is trusted. -/
namespace Go.Proofs.YtpaklfjlbocfcaaGreatDoor
open Go.Av

set_option maxHeartbeats 4000000 in
theorem PulseStrings_s (l:List Int) (hlI:∀ n ∈ l,I64 n) (den:Int) (ch:List Int) (hd:I64 den) (hcI:∀ n ∈ ch,I64 n) (t:List UInt8):Sound Tryz.prog 4 [.sl (ints l),fitA den ch,.str t] (.bool true):=by
  refine sound_WL f_law02_PulseStrings e_law02_PulseStrings (Nat.le_of_ble_eq_true rfl) ?_
  simp only [cl_law02_PulseStrings,fitA,vZ,Int.reduceEq,Int.reduceNe,Int.reduceLT,Int.reduceLE,Nat.reduceEqDiff,Nat.reduceAdd,reduceIte,reduceCtorEq,Nat.reduceLT,Nat.reduceLeDiff,Nat.reduceShiftRight,Nat.reduceMod]
  refine callS_of awake_s ?_
  simp only [vZ,Int.reduceEq,Int.reduceNe,Int.reduceLT,Int.reduceLE,Nat.reduceEqDiff,Nat.reduceAdd,reduceIte,reduceCtorEq,Nat.reduceLT,Nat.reduceLeDiff,Nat.reduceShiftRight,Nat.reduceMod]
  refine callS_of (few_s l) ?_
  by_cases hl:l.length≤26
  case neg=>simp only [hl,vZ,Int.reduceEq,Int.reduceNe,Int.reduceLT,Int.reduceLE,Nat.reduceEqDiff,Nat.reduceAdd,reduceIte,reduceCtorEq,Nat.reduceLT,Nat.reduceLeDiff,Nat.reduceShiftRight,Nat.reduceMod]
  by_cases hc:8<ch.length
  · have hc':(8:Int)<ch.length:=by omega
    simp only [hl,hc',ints_length,vZ,Int.reduceEq,Int.reduceNe,Int.reduceLT,Int.reduceLE,Nat.reduceEqDiff,Nat.reduceAdd,reduceIte,reduceCtorEq,Nat.reduceLT,Nat.reduceLeDiff,Nat.reduceShiftRight,Nat.reduceMod]
  have hc':¬ (8:Int)<ch.length:=by omega
  by_cases ht:(300<t.length∧t.length≤60000)∨60010<t.length
  · rcases ht with ⟨h1,h2⟩ | h1
    · have h1':(300:Int)<t.length:=by omega
      have h2':(t.length:Int)≤60000:=by omega
      simp only [hl,hc',ints_length,h1',h2',vZ,Int.reduceEq,Int.reduceNe,Int.reduceLT,Int.reduceLE,Nat.reduceEqDiff,Nat.reduceAdd,reduceIte,reduceCtorEq,Nat.reduceLT,Nat.reduceLeDiff,Nat.reduceShiftRight,Nat.reduceMod]
    · have h1':(300:Int)<t.length:=by omega
      have h2':¬ (t.length:Int)≤60000:=by omega
      have h3':(60010:Int)<t.length:=by omega
      simp only [hl,hc',ints_length,h1',h2',h3',vZ,Int.reduceEq,Int.reduceNe,Int.reduceLT,Int.reduceLE,Nat.reduceEqDiff,Nat.reduceAdd,reduceIte,reduceCtorEq,Nat.reduceLT,Nat.reduceLeDiff,Nat.reduceShiftRight,Nat.reduceMod]
  have ht2:t.length≤100000:=by omega
  have hW:=Wave_s l (by omega)
  have hFW:=FormatWave_s l hlI (by omega)
  have hCF:=CopyFit_s den ch (by omega)
  have hFF:=FormatFit_s den ch hd hcI (by omega)
  have hPW:=ParseWave_s t ht2
  have hPF:=ParseFit_s t ht2
  have hRW:=refParseWave_s t ht2
  have hRF:=refParseFit_s t ht2
  have hWd:=refWords_s l hlI (by omega)
  have hRFF:=refFormatFit_s den ch hd hcI (by omega)
  have hpl:(pwL t).length≤100001:=by
    unfold pwL;split
    · exact (ppN_len ht2 5 true).1
    · simp
  have hfl:(pfL t).length≤100001:=by
    unfold pfL;split
    · have:=(ppN_len ht2 13 false).1;simp;omega
    · simp
  have hIn:=Ints_s (pwL t) (pwL t) (by omega)
  have hSm:=SameFit_s (pfD t) (pfD t) (pfL t) (pfL t) (by omega)
  have hSE:=SamplesErr_s l
  have hFE:=FitErr_s den ch (by omega)
  have hw1:(numS l).length≤100000:=by have:=numS_le hlI;omega
  have hw2:(numS (den :: ch)).length≤100000:=by
    have:=numS_le (l:=den :: ch) (fun n hn=>by rcases List.mem_cons.1 hn with rfl | h;exact hd;exact hcI n h)
    simp only [List.length_cons] at this;omega
  have hPW2:=ParseWave_s (numS l) hw1
  have hPF2:=ParseFit_s (numS (den :: ch)) hw2
  have hIn2:=Ints_s l l (by omega)
  have hSm2:=SameFit_s den den ch ch (by omega)
  have hwr:=wave_read (l:=l)
  have hfr:=fit_read (d:=den) (ch:=ch)
  unfold fitA at hCF hFF hPF hRF hRFF hSm hFE hPF2 hSm2
  unfold waveA at hW hFW hPW hPW2
  by_cases h300:300<t.length
  all_goals
    first
      | (have h1':(300:Int)<t.length:=by omega
         have h2':¬ (t.length:Int)≤60000:=by omega
         have h3':¬ (60010:Int)<t.length:=by omega
         simp only [hl,hc',ints_length,h1',h2',h3',vZ,Int.reduceEq,Int.reduceNe,Int.reduceLT,Int.reduceLE,Nat.reduceEqDiff,Nat.reduceAdd,reduceIte,reduceCtorEq,Nat.reduceLT,Nat.reduceLeDiff,Nat.reduceShiftRight,Nat.reduceMod]
         refine callS_of hW ?_)
      | (have h1':¬ (300:Int)<t.length:=by omega
         have h3':¬ (60010:Int)<t.length:=by omega
         simp only [hl,hc',ints_length,h1',h3',vZ,Int.reduceEq,Int.reduceNe,Int.reduceLT,Int.reduceLE,Nat.reduceEqDiff,Nat.reduceAdd,reduceIte,reduceCtorEq,Nat.reduceLT,Nat.reduceLeDiff,Nat.reduceShiftRight,Nat.reduceMod]
         refine callS_of hW ?_)
    simp only [vZ,Int.reduceEq,Int.reduceNe,Int.reduceLT,Int.reduceLE,Nat.reduceEqDiff,Nat.reduceAdd,reduceIte,reduceCtorEq,Nat.reduceLT,Nat.reduceLeDiff,Nat.reduceShiftRight,Nat.reduceMod]
    refine callS_of hFW ?_
    simp only [vZ,Int.reduceEq,Int.reduceNe,Int.reduceLT,Int.reduceLE,Nat.reduceEqDiff,Nat.reduceAdd,reduceIte,reduceCtorEq,Nat.reduceLT,Nat.reduceLeDiff,Nat.reduceShiftRight,Nat.reduceMod]
    refine callS_of hCF ?_
    simp only [vZ,Int.reduceEq,Int.reduceNe,Int.reduceLT,Int.reduceLE,Nat.reduceEqDiff,Nat.reduceAdd,reduceIte,reduceCtorEq,Nat.reduceLT,Nat.reduceLeDiff,Nat.reduceShiftRight,Nat.reduceMod]
    refine callS_of hFF ?_
    simp only [vZ,Int.reduceEq,Int.reduceNe,Int.reduceLT,Int.reduceLE,Nat.reduceEqDiff,Nat.reduceAdd,reduceIte,reduceCtorEq,Nat.reduceLT,Nat.reduceLeDiff,Nat.reduceShiftRight,Nat.reduceMod]
    refine callS_of hPW ?_
    simp only [vZ,Int.reduceEq,Int.reduceNe,Int.reduceLT,Int.reduceLE,Nat.reduceEqDiff,Nat.reduceAdd,reduceIte,reduceCtorEq,Nat.reduceLT,Nat.reduceLeDiff,Nat.reduceShiftRight,Nat.reduceMod]
    refine callS_of hPF ?_
    simp only [vZ,Int.reduceEq,Int.reduceNe,Int.reduceLT,Int.reduceLE,Nat.reduceEqDiff,Nat.reduceAdd,reduceIte,reduceCtorEq,Nat.reduceLT,Nat.reduceLeDiff,Nat.reduceShiftRight,Nat.reduceMod]
    refine callS_of hRW ?_
    simp only [vZ,Int.reduceEq,Int.reduceNe,Int.reduceLT,Int.reduceLE,Nat.reduceEqDiff,Nat.reduceAdd,reduceIte,reduceCtorEq,Nat.reduceLT,Nat.reduceLeDiff,Nat.reduceShiftRight,Nat.reduceMod]
    refine callS_of hRF ?_
    simp only [vZ,Int.reduceEq,Int.reduceNe,Int.reduceLT,Int.reduceLE,Nat.reduceEqDiff,Nat.reduceAdd,reduceIte,reduceCtorEq,Nat.reduceLT,Nat.reduceLeDiff,Nat.reduceShiftRight,Nat.reduceMod]
    refine callS_of hWd ?_
    simp only [vZ,Int.reduceEq,Int.reduceNe,Int.reduceLT,Int.reduceLE,Nat.reduceEqDiff,Nat.reduceAdd,reduceIte,reduceCtorEq,Nat.reduceLT,Nat.reduceLeDiff,Nat.reduceShiftRight,Nat.reduceMod]
    refine callS_of hRFF ?_
    simp only [vZ,Int.reduceEq,Int.reduceNe,Int.reduceLT,Int.reduceLE,Nat.reduceEqDiff,Nat.reduceAdd,reduceIte,reduceCtorEq,Nat.reduceLT,Nat.reduceLeDiff,Nat.reduceShiftRight,Nat.reduceMod]
    refine callS_of hIn ?_
    simp only [vZ,Int.reduceEq,Int.reduceNe,Int.reduceLT,Int.reduceLE,Nat.reduceEqDiff,Nat.reduceAdd,reduceIte,reduceCtorEq,Nat.reduceLT,Nat.reduceLeDiff,Nat.reduceShiftRight,Nat.reduceMod]
    refine callS_of hSm ?_
    simp only [vZ,Int.reduceEq,Int.reduceNe,Int.reduceLT,Int.reduceLE,Nat.reduceEqDiff,Nat.reduceAdd,reduceIte,reduceCtorEq,Nat.reduceLT,Nat.reduceLeDiff,Nat.reduceShiftRight,Nat.reduceMod]
    refine callS_of hSE ?_
    by_cases hse:smE l=0
    all_goals
      first
        | (obtain ⟨q1,q2⟩:=hwr hse
           rw [q1,q2] at hPW2
           simp only [hse,vZ,Int.reduceEq,Int.reduceNe,Int.reduceLT,Int.reduceLE,Nat.reduceEqDiff,Nat.reduceAdd,reduceIte,reduceCtorEq,Nat.reduceLT,Nat.reduceLeDiff,Nat.reduceShiftRight,Nat.reduceMod]
           refine callS_of hPW2 ?_
           simp only [vZ,Int.reduceEq,Int.reduceNe,Int.reduceLT,Int.reduceLE,Nat.reduceEqDiff,Nat.reduceAdd,reduceIte,reduceCtorEq,Nat.reduceLT,Nat.reduceLeDiff,Nat.reduceShiftRight,Nat.reduceMod]
           refine callS_of hIn2 ?_
           simp only [vZ,Int.reduceEq,Int.reduceNe,Int.reduceLT,Int.reduceLE,Nat.reduceEqDiff,Nat.reduceAdd,reduceIte,reduceCtorEq,Nat.reduceLT,Nat.reduceLeDiff,Nat.reduceShiftRight,Nat.reduceMod]
           refine callS_of hFE ?_)
        | (simp only [hse,vZ,Int.reduceEq,Int.reduceNe,Int.reduceLT,Int.reduceLE,Nat.reduceEqDiff,Nat.reduceAdd,reduceIte,reduceCtorEq,Nat.reduceLT,Nat.reduceLeDiff,Nat.reduceShiftRight,Nat.reduceMod]
           refine callS_of hFE ?_)
      by_cases hfe:fE den ch=0
      case neg=>simp only [hfe,vZ,Int.reduceEq,Int.reduceNe,Int.reduceLT,Int.reduceLE,Nat.reduceEqDiff,Nat.reduceAdd,reduceIte,reduceCtorEq,Nat.reduceLT,Nat.reduceLeDiff,Nat.reduceShiftRight,Nat.reduceMod]
      obtain ⟨r1,r2,r3⟩:=hfr hfe
      have hz:=hPF2
      rw [r1,r2,r3] at hz
      simp only [hfe,vZ,Int.reduceEq,Int.reduceNe,Int.reduceLT,Int.reduceLE,Nat.reduceEqDiff,Nat.reduceAdd,reduceIte,reduceCtorEq,Nat.reduceLT,Nat.reduceLeDiff,Nat.reduceShiftRight,Nat.reduceMod]
      refine callS_of hz ?_
      simp only [vZ,Int.reduceEq,Int.reduceNe,Int.reduceLT,Int.reduceLE,Nat.reduceEqDiff,Nat.reduceAdd,reduceIte,reduceCtorEq,Nat.reduceLT,Nat.reduceLeDiff,Nat.reduceShiftRight,Nat.reduceMod]
      refine callS_of hSm2 ?_
      simp only [vZ,Int.reduceEq,Int.reduceNe,Int.reduceLT,Int.reduceLE,Nat.reduceEqDiff,Nat.reduceAdd,reduceIte,reduceCtorEq,Nat.reduceLT,Nat.reduceLeDiff,Nat.reduceShiftRight,Nat.reduceMod]
theorem PulseStrings_t (l:List Int) (hlI:∀ n ∈ l,I64 n) {den:Int} {ch:List Int} (hd:I64 den) (hcI:∀ n ∈ ch,I64 n) (t:List UInt8):Sound Tryz.prog 4 [.sl (ints l),fitA den ch,.str t] (.bool true):=PulseStrings_s l hlI den ch hd hcI t
end Go.Proofs.YtpaklfjlbocfcaaGreatDoor

