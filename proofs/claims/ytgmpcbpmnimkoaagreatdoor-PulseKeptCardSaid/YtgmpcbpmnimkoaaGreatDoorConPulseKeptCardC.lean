/- The common divisor of numbers of 128 bits. By an AI agent; nothing here is trusted. -/
import Derived.Test.YtgmpcbpmnimkoaaGreatDoorConPulseKeptCardA
import Derived.Test.YtgmpcbpmnimkoaaGreatDoorConPulseKeptCardB
import Derived.Test.YtgmpcbpmnimkoaaGreatDoorLayC
import Derived.Test.YtgmpcbpmnimkoaaGreatDoorKode
import Derived.Lib.ItoaMem
set_option linter.defProp false
set_option linter.unusedSimpArgs false
set_option linter.unusedVariables false
namespace Go.Proofs.YtgmpcbpmnimkoaaGreatDoor
open Go.Av

theorem gcd_half_l {x y:Nat} (hx:x % 2=0) (hy:y % 2=1):Nat.gcd (x / 2) y=Nat.gcd x y:=by
  have h2:Nat.Coprime 2 y:=by
    have:Nat.gcd 2 y=Nat.gcd (y % 2) 2:=Nat.gcd_rec 2 y
    unfold Nat.Coprime;rw [this,hy];rfl
  have e:x=2 * (x / 2):=by omega
  conv=>rhs;rw [e]
  exact (Nat.Coprime.gcd_mul_left_cancel (x / 2) h2).symm
theorem gcd_half_r {x y:Nat} (hx:x % 2=1) (hy:y % 2=0):Nat.gcd x (y / 2)=Nat.gcd x y:=by
  rw [Nat.gcd_comm,gcd_half_l hy hx,Nat.gcd_comm]
theorem gcd_sub_r {x y:Nat} (h:x≤y):Nat.gcd x (y - x)=Nat.gcd x y:=by
  have:=Nat.gcd_add_self_right x (y - x)
  rw [← this];congr 1;omega
theorem mod_low (n:Nat):n % 18446744073709551616 % 2=n % 2:=by omega
theorem common_s (a b:Bool) (m n:Nat) (hm:W128 m) (hn:W128 n) (hmn:W128 (m+n)):Sound Tryz.prog 187 [wdA a m,wdA b n] (wdA false (Nat.gcd m n)):=by
  refine sound_W f_pulse_common (Nat.le_of_ble_eq_true rfl) ?_
  have hs1:=size_s a m
  have hs2:=size_s b n
  have hz1:=isZero_s false m hm
  have hz2:=isZero_s false n hn
  unfold W128 at hmn hm hn
  unfold wdA at hs1 hs2 hz1 hz2 ⊢
  simp only [c_pulse_common,vcV,vcD,Int.reduceEq,Int.reduceNe,Int.reduceLT,Int.reduceLE,Nat.reduceEqDiff,Nat.reduceAdd,reduceIte,reduceCtorEq,Nat.reduceLT,Nat.reduceLeDiff,eq_self,vcP2,Nat.reduceShiftRight,Nat.reduceMod]
  refine callS_of hs1 ?_
  simp only [vcV,vcD,Int.reduceEq,Int.reduceNe,Int.reduceLT,Int.reduceLE,Nat.reduceEqDiff,Nat.reduceAdd,reduceIte,reduceCtorEq,Nat.reduceLT,Nat.reduceLeDiff,eq_self,vcP2,Nat.reduceShiftRight,Nat.reduceMod]
  refine callS_of hs2 ?_
  simp only [vcV,vcD,Int.reduceEq,Int.reduceNe,Int.reduceLT,Int.reduceLE,Nat.reduceEqDiff,Nat.reduceAdd,reduceIte,reduceCtorEq,Nat.reduceLT,Nat.reduceLeDiff,eq_self,vcP2,Nat.reduceShiftRight,Nat.reduceMod]
  refine callS_of hz1 ?_
  by_cases m0:m=0
  · have hg:Nat.gcd m n=n:=by rw [m0,Nat.gcd_zero_left]
    rw [decide_eq_true m0,hg]
    simp only [vcV,vcD,Int.reduceEq,Int.reduceNe,Int.reduceLT,Int.reduceLE,Nat.reduceEqDiff,Nat.reduceAdd,reduceIte,reduceCtorEq,Nat.reduceLT,Nat.reduceLeDiff,eq_self,vcP2,Nat.reduceShiftRight,Nat.reduceMod]
  rw [decide_eq_false m0]
  simp only [vcV,vcD,Int.reduceEq,Int.reduceNe,Int.reduceLT,Int.reduceLE,Nat.reduceEqDiff,Nat.reduceAdd,reduceIte,reduceCtorEq,Nat.reduceLT,Nat.reduceLeDiff,eq_self,vcP2,Nat.reduceShiftRight,Nat.reduceMod]
  refine callS_of hz2 ?_
  by_cases n0:n=0
  · have hg:Nat.gcd m n=m:=by rw [n0,Nat.gcd_zero_right]
    rw [decide_eq_true n0,hg]
    simp only [vcV,vcD,Int.reduceEq,Int.reduceNe,Int.reduceLT,Int.reduceLE,Nat.reduceEqDiff,Nat.reduceAdd,reduceIte,reduceCtorEq,Nat.reduceLT,Nat.reduceLeDiff,eq_self,vcP2,Nat.reduceShiftRight,Nat.reduceMod]
  rw [decide_eq_false n0]
  have low:∀ x:Nat,x % 18446744073709551616<18446744073709551616:=fun x=>Nat.mod_lt _ (by omega)
  simp only [vcV,vcD,Int.reduceEq,Int.reduceNe,Int.reduceLT,Int.reduceLE,Nat.reduceEqDiff,Nat.reduceAdd,reduceIte,reduceCtorEq,Nat.reduceLT,Nat.reduceLeDiff,eq_self,vcP2,Nat.reduceShiftRight,Nat.reduceMod]
  refine W_loop (t:=.mk) (α:=PSigma fun p:Nat × Nat × Nat=>p.1 * 2 ^ p.2.2=m∧p.2.1 * 2 ^ p.2.2=n) (fun ⟨p,_⟩=>(envOf [(2,.ptr 2 0 0),(3,.ptr 3 0 0),(4,.ptr 4 0 0),(5,.int .i64 p.2.2)],stOf [(2,⟨157,3,[wdA false p.1]⟩),(3,⟨157,3,[wdA false p.2.1]⟩),(4,⟨157,3,[.agg [.bool false,.int .u64 0,.int .u64 0]]⟩)])) (fun x=>x.1.1) ⟨(m,n,0),by simp,by simp⟩ ?_ (fun ⟨⟨x,y,k⟩,hx,hy⟩=>?_)
  · skip
    refine weakX [] (of_decide_eq_true rfl) (of_decide_eq_true rfl) ?_
    (simp only [wdA,vcW,vcV,vcD,Int.reduceEq,Int.reduceNe,Int.reduceLT,Int.reduceLE,Nat.reduceEqDiff,Nat.reduceAdd,reduceIte,reduceCtorEq,Nat.reduceLT,Nat.reduceLeDiff,eq_self,vcP2,Nat.reduceShiftRight,Nat.reduceMod])
    (repeat' first | exact trivial | (with_reducible first | exact RnB.fxB (ints_fxB _) | rfl | refine And.intro ?_ ?_) | (with_reducible (first | refine RnB.bb ?_ | refine RnB.nb ?_);simp only [vcW,vcV,vcD,Int.reduceEq,Int.reduceNe,Int.reduceLT,Int.reduceLE,Nat.reduceEqDiff,Nat.reduceAdd,reduceIte,reduceCtorEq,Nat.reduceLT,Nat.reduceLeDiff,eq_self,vcP2,Nat.reduceShiftRight,Nat.reduceMod]) | (with_reducible first | refine RnB.ii ?_ | refine RnB.app ?_) | (with_reducible refine RnB.fxB ?_;simp only [vcW,vcV,vcD,Int.reduceEq,Int.reduceNe,Int.reduceLT,Int.reduceLE,Nat.reduceEqDiff,Nat.reduceAdd,reduceIte,reduceCtorEq,Nat.reduceLT,Nat.reduceLeDiff,eq_self,vcP2,Nat.reduceShiftRight,Nat.reduceMod]) | omega)
  · dsimp only at hx hy ⊢
    have hk2:1≤2 ^ k:=Nat.one_le_two_pow
    have hxm:x≤m:=by rw [← hx];exact Nat.le_mul_of_pos_right _ hk2
    have hyn:y≤n:=by rw [← hy];exact Nat.le_mul_of_pos_right _ hk2
    have hx0:0<x:=by
      rcases Nat.eq_zero_or_pos x with h | h
      · rw [h,Nat.zero_mul] at hx;omega
      · exact h
    have hy0:0<y:=by
      rcases Nat.eq_zero_or_pos y with h | h
      · rw [h,Nat.zero_mul] at hy;omega
      · exact h
    have hk:k<128:=by
      refine Classical.byContradiction fun h=>?_
      have h1:2 ^ 128≤2 ^ k:=Nat.pow_le_pow_right (by omega) (by omega)
      have h2:2 ^ k≤m:=by rw [← hx];exact Nat.le_mul_of_pos_left _ hx0
      have h3:(2:Nat) ^ 128=340282366920938463463374607431768211456:=by decide
      omega
    have ho:=or_g _ _ (low x) (low y)
    have ha:=and_1 _ (show (x % 18446744073709551616 ||| y % 18446744073709551616)<2 ^ 64 from Nat.or_lt_two_pow (low x) (low y))
    have hp:=or_par (x % 18446744073709551616) (y % 18446744073709551616)
    rw [mod_low,mod_low] at hp
    have hh1:=half_s false x (by unfold W128;omega)
    have hh2:=half_s false y (by unfold W128;omega)
    by_cases hev:x % 2=0∧y % 2=0
    · have hc:(((x % 18446744073709551616 ||| y % 18446744073709551616) % 2:Nat):Int)=0:=by rw [hp.2 hev];rfl
      unfold wdA at hh1 hh2 ⊢
      simp only [ho,ha,hc,vcV,vcD,Int.reduceEq,Int.reduceNe,Int.reduceLT,Int.reduceLE,Nat.reduceEqDiff,Nat.reduceAdd,reduceIte,reduceCtorEq,Nat.reduceLT,Nat.reduceLeDiff,eq_self,vcP2,Nat.reduceShiftRight,Nat.reduceMod]
      refine callS_of hh1 ?_
      simp only [vcV,vcD,Int.reduceEq,Int.reduceNe,Int.reduceLT,Int.reduceLE,Nat.reduceEqDiff,Nat.reduceAdd,reduceIte,reduceCtorEq,Nat.reduceLT,Nat.reduceLeDiff,eq_self,vcP2,Nat.reduceShiftRight,Nat.reduceMod]
      refine callS_of hh2 ?_
      simp only [vcV,vcD,Int.reduceEq,Int.reduceNe,Int.reduceLT,Int.reduceLE,Nat.reduceEqDiff,Nat.reduceAdd,reduceIte,reduceCtorEq,Nat.reduceLT,Nat.reduceLeDiff,eq_self,vcP2,Nat.reduceShiftRight,Nat.reduceMod]
      (repeat (with_reducible refine And.intro ?_ ?_;focus (first | omega | (unfold I64;omega))))
      refine ⟨⟨(x / 2,y / 2,k+1),?_,?_⟩,by simp only;omega,?_⟩
      · simp only;rw [← hx,Nat.pow_succ,Nat.mul_comm (2 ^ k) 2,← Nat.mul_assoc];congr 1;omega
      · simp only;rw [← hy,Nat.pow_succ,Nat.mul_comm (2 ^ k) 2,← Nat.mul_assoc];congr 1;omega
      · refine weakX [] (of_decide_eq_true rfl) (of_decide_eq_true rfl) ?_
        (simp only [wdA,vcW,vcV,vcD,Int.reduceEq,Int.reduceNe,Int.reduceLT,Int.reduceLE,Nat.reduceEqDiff,Nat.reduceAdd,reduceIte,reduceCtorEq,Nat.reduceLT,Nat.reduceLeDiff,eq_self,vcP2,Nat.reduceShiftRight,Nat.reduceMod])
        (repeat' first | exact trivial | (with_reducible first | exact RnB.fxB (ints_fxB _) | rfl | refine And.intro ?_ ?_) | (with_reducible (first | refine RnB.bb ?_ | refine RnB.nb ?_);simp only [vcW,vcV,vcD,Int.reduceEq,Int.reduceNe,Int.reduceLT,Int.reduceLE,Nat.reduceEqDiff,Nat.reduceAdd,reduceIte,reduceCtorEq,Nat.reduceLT,Nat.reduceLeDiff,eq_self,vcP2,Nat.reduceShiftRight,Nat.reduceMod]) | (with_reducible first | refine RnB.ii ?_ | refine RnB.app ?_) | (with_reducible refine RnB.fxB ?_;simp only [vcW,vcV,vcD,Int.reduceEq,Int.reduceNe,Int.reduceLT,Int.reduceLE,Nat.reduceEqDiff,Nat.reduceAdd,reduceIte,reduceCtorEq,Nat.reduceLT,Nat.reduceLeDiff,eq_self,vcP2,Nat.reduceShiftRight,Nat.reduceMod]) | omega)
    · have hc:¬ (((x % 18446744073709551616 ||| y % 18446744073709551616) % 2:Nat):Int)=0:=fun h=>hev (hp.1 (by omega))
      have hgc:Nat.gcd m n=Nat.gcd x y * 2 ^ k:=by rw [← hx,← hy,Nat.gcd_mul_right]
      obtain ⟨g,hg⟩:∃ g,g=Nat.gcd x y:=⟨_,rfl⟩
      rw [← hg] at hgc
      have hgm:g * 2 ^ k≤m:=by rw [← hgc];exact Nat.gcd_le_left _ (by omega)
      rw [hgc]
      unfold wdA
      simp only [ho,ha,hc,vcV,vcD,Int.reduceEq,Int.reduceNe,Int.reduceLT,Int.reduceLE,Nat.reduceEqDiff,Nat.reduceAdd,reduceIte,reduceCtorEq,Nat.reduceLT,Nat.reduceLeDiff,eq_self,vcP2,Nat.reduceShiftRight,Nat.reduceMod]
      refine W_loop (t:=.mk) (α:=PSigma fun p:Nat × Nat=>Nat.gcd p.1 p.2=g∧0<p.1∧p.1+p.2≤m+n∧(p.1 % 2=1∨p.2 % 2=1)) (fun ⟨p,_⟩=>(envOf [(2,.ptr 2 0 0),(3,.ptr 3 0 0),(4,.ptr 4 0 0),(5,.int .i64 k)],stOf [(2,⟨157,3,[wdA false p.1]⟩),(3,⟨157,3,[wdA false p.2]⟩),(4,⟨157,3,[.agg [.bool false,.int .u64 0,.int .u64 0]]⟩)])) (fun x=>x.1.1+x.1.2) ⟨(x,y),hg.symm,hx0,by simp only;omega,by simp only;omega⟩ ?_ (fun ⟨⟨u,v⟩,ug,u0,us,up⟩=>?_)
      · refine weakX [] (of_decide_eq_true rfl) (of_decide_eq_true rfl) ?_
        (simp only [wdA,vcW,vcV,vcD,Int.reduceEq,Int.reduceNe,Int.reduceLT,Int.reduceLE,Nat.reduceEqDiff,Nat.reduceAdd,reduceIte,reduceCtorEq,Nat.reduceLT,Nat.reduceLeDiff,eq_self,vcP2,Nat.reduceShiftRight,Nat.reduceMod])
        (repeat' first | exact trivial | (with_reducible first | exact RnB.fxB (ints_fxB _) | rfl | refine And.intro ?_ ?_) | (with_reducible (first | refine RnB.bb ?_ | refine RnB.nb ?_);simp only [vcW,vcV,vcD,Int.reduceEq,Int.reduceNe,Int.reduceLT,Int.reduceLE,Nat.reduceEqDiff,Nat.reduceAdd,reduceIte,reduceCtorEq,Nat.reduceLT,Nat.reduceLeDiff,eq_self,vcP2,Nat.reduceShiftRight,Nat.reduceMod]) | (with_reducible first | refine RnB.ii ?_ | refine RnB.app ?_) | (with_reducible refine RnB.fxB ?_;simp only [vcW,vcV,vcD,Int.reduceEq,Int.reduceNe,Int.reduceLT,Int.reduceLE,Nat.reduceEqDiff,Nat.reduceAdd,reduceIte,reduceCtorEq,Nat.reduceLT,Nat.reduceLeDiff,eq_self,vcP2,Nat.reduceShiftRight,Nat.reduceMod]) | omega)
      · dsimp only at ug u0 us up ⊢
        have hzv:=isZero_s false v (by unfold W128;omega)
        unfold wdA at hzv ⊢
        simp only [vcV,vcD,Int.reduceEq,Int.reduceNe,Int.reduceLT,Int.reduceLE,Nat.reduceEqDiff,Nat.reduceAdd,reduceIte,reduceCtorEq,Nat.reduceLT,Nat.reduceLeDiff,eq_self,vcP2,Nat.reduceShiftRight,Nat.reduceMod]
        refine callS_of hzv ?_
        by_cases v0:v=0
        · rw [decide_eq_true v0]
          have hug:u=g:=by rw [← ug,v0,Nat.gcd_zero_right]
          rw [hug]
          simp only [vcV,vcD,Int.reduceEq,Int.reduceNe,Int.reduceLT,Int.reduceLE,Nat.reduceEqDiff,Nat.reduceAdd,reduceIte,reduceCtorEq,Nat.reduceLT,Nat.reduceLeDiff,eq_self,vcP2,Nat.reduceShiftRight,Nat.reduceMod]
          refine W_loop (t:=.mk) (α:=PSigma fun j:Nat=>j≤k) (fun ⟨j,_⟩=>(envOf [(2,.ptr 2 0 0),(4,.ptr 4 0 0),(53,.int .i64 k),(54,.int .i64 j)],stOf [(2,⟨157,3,[wdA false (g * 2 ^ j)]⟩),(4,⟨157,3,[.agg [.bool false,.int .u64 0,.int .u64 0]]⟩)])) (fun x=>k - x.1) ⟨0,Nat.zero_le _⟩ ?_ (fun ⟨j,hj⟩=>?_)
          · refine weakX [] (of_decide_eq_true rfl) (of_decide_eq_true rfl) ?_
            (simp only [wdA,Nat.pow_zero,Nat.mul_one,vcW,vcV,vcD,Int.reduceEq,Int.reduceNe,Int.reduceLT,Int.reduceLE,Nat.reduceEqDiff,Nat.reduceAdd,reduceIte,reduceCtorEq,Nat.reduceLT,Nat.reduceLeDiff,eq_self,vcP2,Nat.reduceShiftRight,Nat.reduceMod])
            (repeat' first | exact trivial | (with_reducible first | exact RnB.fxB (ints_fxB _) | rfl | refine And.intro ?_ ?_) | (with_reducible (first | refine RnB.bb ?_ | refine RnB.nb ?_);simp only [vcW,vcV,vcD,Int.reduceEq,Int.reduceNe,Int.reduceLT,Int.reduceLE,Nat.reduceEqDiff,Nat.reduceAdd,reduceIte,reduceCtorEq,Nat.reduceLT,Nat.reduceLeDiff,eq_self,vcP2,Nat.reduceShiftRight,Nat.reduceMod]) | (with_reducible first | refine RnB.ii ?_ | refine RnB.app ?_) | (with_reducible refine RnB.fxB ?_;simp only [vcW,vcV,vcD,Int.reduceEq,Int.reduceNe,Int.reduceLT,Int.reduceLE,Nat.reduceEqDiff,Nat.reduceAdd,reduceIte,reduceCtorEq,Nat.reduceLT,Nat.reduceLeDiff,eq_self,vcP2,Nat.reduceShiftRight,Nat.reduceMod]) | omega)
          · dsimp only at hj ⊢
            by_cases hjk:j<k
            · have hjk':(j:Int)<k:=by omega
              have hdb:g * 2 ^ j+g * 2 ^ j=g * 2 ^ (j+1):=by rw [Nat.pow_succ,← Nat.mul_assoc];omega
              have hle:g * 2 ^ (j+1)≤g * 2 ^ k:=Nat.mul_le_mul_left _ (Nat.pow_le_pow_right (by omega) (by omega))
              have ht:=twice_s false (g * 2 ^ j) (by unfold W128;omega)
              rw [hdb] at ht
              unfold wdA at ht ⊢
              simp only [hjk',vcV,vcD,Int.reduceEq,Int.reduceNe,Int.reduceLT,Int.reduceLE,Nat.reduceEqDiff,Nat.reduceAdd,reduceIte,reduceCtorEq,Nat.reduceLT,Nat.reduceLeDiff,eq_self,vcP2,Nat.reduceShiftRight,Nat.reduceMod]
              refine callS_of ht ?_
              simp only [vcV,vcD,Int.reduceEq,Int.reduceNe,Int.reduceLT,Int.reduceLE,Nat.reduceEqDiff,Nat.reduceAdd,reduceIte,reduceCtorEq,Nat.reduceLT,Nat.reduceLeDiff,eq_self,vcP2,Nat.reduceShiftRight,Nat.reduceMod]
              (repeat (with_reducible refine And.intro ?_ ?_;focus (first | omega | (unfold I64;omega))))
              refine ⟨⟨j+1,hjk⟩,by simp only;omega,?_⟩
              refine weakX [] (of_decide_eq_true rfl) (of_decide_eq_true rfl) ?_
              (simp only [wdA,vcW,vcV,vcD,Int.reduceEq,Int.reduceNe,Int.reduceLT,Int.reduceLE,Nat.reduceEqDiff,Nat.reduceAdd,reduceIte,reduceCtorEq,Nat.reduceLT,Nat.reduceLeDiff,eq_self,vcP2,Nat.reduceShiftRight,Nat.reduceMod])
              (repeat' first | exact trivial | (with_reducible first | exact RnB.fxB (ints_fxB _) | rfl | refine And.intro ?_ ?_) | (with_reducible (first | refine RnB.bb ?_ | refine RnB.nb ?_);simp only [vcW,vcV,vcD,Int.reduceEq,Int.reduceNe,Int.reduceLT,Int.reduceLE,Nat.reduceEqDiff,Nat.reduceAdd,reduceIte,reduceCtorEq,Nat.reduceLT,Nat.reduceLeDiff,eq_self,vcP2,Nat.reduceShiftRight,Nat.reduceMod]) | (with_reducible first | refine RnB.ii ?_ | refine RnB.app ?_) | (with_reducible refine RnB.fxB ?_;simp only [vcW,vcV,vcD,Int.reduceEq,Int.reduceNe,Int.reduceLT,Int.reduceLE,Nat.reduceEqDiff,Nat.reduceAdd,reduceIte,reduceCtorEq,Nat.reduceLT,Nat.reduceLeDiff,eq_self,vcP2,Nat.reduceShiftRight,Nat.reduceMod]) | omega)
            · have hjk':¬ (j:Int)<k:=by omega
              have:j=k:=by omega
              subst this
              unfold wdA
              simp only [hjk',vcV,vcD,Int.reduceEq,Int.reduceNe,Int.reduceLT,Int.reduceLE,Nat.reduceEqDiff,Nat.reduceAdd,reduceIte,reduceCtorEq,Nat.reduceLT,Nat.reduceLeDiff,eq_self,vcP2,Nat.reduceShiftRight,Nat.reduceMod]
        · rw [decide_eq_false v0]
          simp only [vcV,vcD,Int.reduceEq,Int.reduceNe,Int.reduceLT,Int.reduceLE,Nat.reduceEqDiff,Nat.reduceAdd,reduceIte,reduceCtorEq,Nat.reduceLT,Nat.reduceLeDiff,eq_self,vcP2,Nat.reduceShiftRight,Nat.reduceMod]
          refine W_loop (t:=.mk) (α:=PSigma fun u':Nat=>Nat.gcd u' v=g∧0<u'∧u'≤u∧(u' % 2=1∨v % 2=1)) (fun ⟨u',_⟩=>(envOf [(2,.ptr 2 0 0),(3,.ptr 3 0 0),(4,.ptr 4 0 0),(5,.int .i64 k)],stOf [(2,⟨157,3,[wdA false u']⟩),(3,⟨157,3,[wdA false v]⟩),(4,⟨157,3,[.agg [.bool false,.int .u64 0,.int .u64 0]]⟩)])) (fun x=>x.1) ⟨u,ug,u0,Nat.le_refl _,up⟩ ?_ (fun ⟨u',ug',u0',us',up'⟩=>?_)
          · refine weakX [] (of_decide_eq_true rfl) (of_decide_eq_true rfl) ?_
            (simp only [wdA,vcW,vcV,vcD,Int.reduceEq,Int.reduceNe,Int.reduceLT,Int.reduceLE,Nat.reduceEqDiff,Nat.reduceAdd,reduceIte,reduceCtorEq,Nat.reduceLT,Nat.reduceLeDiff,eq_self,vcP2,Nat.reduceShiftRight,Nat.reduceMod])
            (repeat' first | exact trivial | (with_reducible first | exact RnB.fxB (ints_fxB _) | rfl | refine And.intro ?_ ?_) | (with_reducible (first | refine RnB.bb ?_ | refine RnB.nb ?_);simp only [vcW,vcV,vcD,Int.reduceEq,Int.reduceNe,Int.reduceLT,Int.reduceLE,Nat.reduceEqDiff,Nat.reduceAdd,reduceIte,reduceCtorEq,Nat.reduceLT,Nat.reduceLeDiff,eq_self,vcP2,Nat.reduceShiftRight,Nat.reduceMod]) | (with_reducible first | refine RnB.ii ?_ | refine RnB.app ?_) | (with_reducible refine RnB.fxB ?_;simp only [vcW,vcV,vcD,Int.reduceEq,Int.reduceNe,Int.reduceLT,Int.reduceLE,Nat.reduceEqDiff,Nat.reduceAdd,reduceIte,reduceCtorEq,Nat.reduceLT,Nat.reduceLeDiff,eq_self,vcP2,Nat.reduceShiftRight,Nat.reduceMod]) | omega)
          · dsimp only at ug' u0' us' up' ⊢
            have ha:=and_1 _ (low u')
            rw [mod_low] at ha
            by_cases hu:u' % 2=0
            · have hc:((u' % 2:Nat):Int)=0:=by omega
              have hh:=half_s false u' (by unfold W128;omega)
              unfold wdA at hh ⊢
              simp only [ha,hc,vcV,vcD,Int.reduceEq,Int.reduceNe,Int.reduceLT,Int.reduceLE,Nat.reduceEqDiff,Nat.reduceAdd,reduceIte,reduceCtorEq,Nat.reduceLT,Nat.reduceLeDiff,eq_self,vcP2,Nat.reduceShiftRight,Nat.reduceMod]
              refine callS_of hh ?_
              simp only [vcV,vcD,Int.reduceEq,Int.reduceNe,Int.reduceLT,Int.reduceLE,Nat.reduceEqDiff,Nat.reduceAdd,reduceIte,reduceCtorEq,Nat.reduceLT,Nat.reduceLeDiff,eq_self,vcP2,Nat.reduceShiftRight,Nat.reduceMod]
              refine ⟨⟨u' / 2,by rw [gcd_half_l hu (by omega)];exact ug',by omega,by omega,by omega⟩,by simp only;omega,?_⟩
              refine weakX [] (of_decide_eq_true rfl) (of_decide_eq_true rfl) ?_
              (simp only [wdA,vcW,vcV,vcD,Int.reduceEq,Int.reduceNe,Int.reduceLT,Int.reduceLE,Nat.reduceEqDiff,Nat.reduceAdd,reduceIte,reduceCtorEq,Nat.reduceLT,Nat.reduceLeDiff,eq_self,vcP2,Nat.reduceShiftRight,Nat.reduceMod])
              (repeat' first | exact trivial | (with_reducible first | exact RnB.fxB (ints_fxB _) | rfl | refine And.intro ?_ ?_) | (with_reducible (first | refine RnB.bb ?_ | refine RnB.nb ?_);simp only [vcW,vcV,vcD,Int.reduceEq,Int.reduceNe,Int.reduceLT,Int.reduceLE,Nat.reduceEqDiff,Nat.reduceAdd,reduceIte,reduceCtorEq,Nat.reduceLT,Nat.reduceLeDiff,eq_self,vcP2,Nat.reduceShiftRight,Nat.reduceMod]) | (with_reducible first | refine RnB.ii ?_ | refine RnB.app ?_) | (with_reducible refine RnB.fxB ?_;simp only [vcW,vcV,vcD,Int.reduceEq,Int.reduceNe,Int.reduceLT,Int.reduceLE,Nat.reduceEqDiff,Nat.reduceAdd,reduceIte,reduceCtorEq,Nat.reduceLT,Nat.reduceLeDiff,eq_self,vcP2,Nat.reduceShiftRight,Nat.reduceMod]) | omega)
            · have hc:¬ ((u' % 2:Nat):Int)=0:=by omega
              unfold wdA
              simp only [ha,hc,vcV,vcD,Int.reduceEq,Int.reduceNe,Int.reduceLT,Int.reduceLE,Nat.reduceEqDiff,Nat.reduceAdd,reduceIte,reduceCtorEq,Nat.reduceLT,Nat.reduceLeDiff,eq_self,vcP2,Nat.reduceShiftRight,Nat.reduceMod]
              refine W_loop (t:=.mk) (α:=PSigma fun v':Nat=>Nat.gcd u' v'=g∧0<v'∧v'≤v) (fun ⟨v',_⟩=>(envOf [(2,.ptr 2 0 0),(3,.ptr 3 0 0),(4,.ptr 4 0 0),(5,.int .i64 k)],stOf [(2,⟨157,3,[wdA false u']⟩),(3,⟨157,3,[wdA false v']⟩),(4,⟨157,3,[.agg [.bool false,.int .u64 0,.int .u64 0]]⟩)])) (fun x=>x.1) ⟨v,ug',by omega,Nat.le_refl _⟩ ?_ (fun ⟨v',vg',v0',vs'⟩=>?_)
              · refine weakX [] (of_decide_eq_true rfl) (of_decide_eq_true rfl) ?_
                (simp only [wdA,vcW,vcV,vcD,Int.reduceEq,Int.reduceNe,Int.reduceLT,Int.reduceLE,Nat.reduceEqDiff,Nat.reduceAdd,reduceIte,reduceCtorEq,Nat.reduceLT,Nat.reduceLeDiff,eq_self,vcP2,Nat.reduceShiftRight,Nat.reduceMod])
                (repeat' first | exact trivial | (with_reducible first | exact RnB.fxB (ints_fxB _) | rfl | refine And.intro ?_ ?_) | (with_reducible (first | refine RnB.bb ?_ | refine RnB.nb ?_);simp only [vcW,vcV,vcD,Int.reduceEq,Int.reduceNe,Int.reduceLT,Int.reduceLE,Nat.reduceEqDiff,Nat.reduceAdd,reduceIte,reduceCtorEq,Nat.reduceLT,Nat.reduceLeDiff,eq_self,vcP2,Nat.reduceShiftRight,Nat.reduceMod]) | (with_reducible first | refine RnB.ii ?_ | refine RnB.app ?_) | (with_reducible refine RnB.fxB ?_;simp only [vcW,vcV,vcD,Int.reduceEq,Int.reduceNe,Int.reduceLT,Int.reduceLE,Nat.reduceEqDiff,Nat.reduceAdd,reduceIte,reduceCtorEq,Nat.reduceLT,Nat.reduceLeDiff,eq_self,vcP2,Nat.reduceShiftRight,Nat.reduceMod]) | omega)
              · dsimp only at vg' v0' vs' ⊢
                have hb:=and_1 _ (low v')
                rw [mod_low] at hb
                by_cases hv:v' % 2=0
                · have hd:((v' % 2:Nat):Int)=0:=by omega
                  have hh:=half_s false v' (by unfold W128;omega)
                  unfold wdA at hh ⊢
                  simp only [hb,hd,vcV,vcD,Int.reduceEq,Int.reduceNe,Int.reduceLT,Int.reduceLE,Nat.reduceEqDiff,Nat.reduceAdd,reduceIte,reduceCtorEq,Nat.reduceLT,Nat.reduceLeDiff,eq_self,vcP2,Nat.reduceShiftRight,Nat.reduceMod]
                  refine callS_of hh ?_
                  simp only [vcV,vcD,Int.reduceEq,Int.reduceNe,Int.reduceLT,Int.reduceLE,Nat.reduceEqDiff,Nat.reduceAdd,reduceIte,reduceCtorEq,Nat.reduceLT,Nat.reduceLeDiff,eq_self,vcP2,Nat.reduceShiftRight,Nat.reduceMod]
                  refine ⟨⟨v' / 2,by rw [gcd_half_r (by omega) hv];exact vg',by omega,by omega⟩,by simp only;omega,?_⟩
                  refine weakX [] (of_decide_eq_true rfl) (of_decide_eq_true rfl) ?_
                  (simp only [wdA,vcW,vcV,vcD,Int.reduceEq,Int.reduceNe,Int.reduceLT,Int.reduceLE,Nat.reduceEqDiff,Nat.reduceAdd,reduceIte,reduceCtorEq,Nat.reduceLT,Nat.reduceLeDiff,eq_self,vcP2,Nat.reduceShiftRight,Nat.reduceMod])
                  (repeat' first | exact trivial | (with_reducible first | exact RnB.fxB (ints_fxB _) | rfl | refine And.intro ?_ ?_) | (with_reducible (first | refine RnB.bb ?_ | refine RnB.nb ?_);simp only [vcW,vcV,vcD,Int.reduceEq,Int.reduceNe,Int.reduceLT,Int.reduceLE,Nat.reduceEqDiff,Nat.reduceAdd,reduceIte,reduceCtorEq,Nat.reduceLT,Nat.reduceLeDiff,eq_self,vcP2,Nat.reduceShiftRight,Nat.reduceMod]) | (with_reducible first | refine RnB.ii ?_ | refine RnB.app ?_) | (with_reducible refine RnB.fxB ?_;simp only [vcW,vcV,vcD,Int.reduceEq,Int.reduceNe,Int.reduceLT,Int.reduceLE,Nat.reduceEqDiff,Nat.reduceAdd,reduceIte,reduceCtorEq,Nat.reduceLT,Nat.reduceLeDiff,eq_self,vcP2,Nat.reduceShiftRight,Nat.reduceMod]) | omega)
                · have hd:¬ ((v' % 2:Nat):Int)=0:=by omega
                  have hL:=isLess_s false false v' u'
                  have hN:=fun z=>negated_s false z
                  have hP:∀ p q:Nat,q≤p→p≤m+n→Sound Tryz.prog 106 [wdA false p,wdA true q] (wdA false (p - q)):=fun p q h1 h2=>by
                    have:=plus_other_s false p q (by unfold W128;omega) (by unfold W128;omega)
                    rw [if_neg (by omega)] at this
                    exact this
                  by_cases hlt:v'<u'
                  · rw [decide_eq_true hlt] at hL
                    have hP1:=hP u' v' (by omega) (by omega)
                    have hN1:Sound Tryz.prog 185 [wdA false v'] (wdA true v'):=negated_s false v'
                    unfold wdA at hL hP1 hN1 ⊢
                    simp only [hb,hd,vcV,vcD,Int.reduceEq,Int.reduceNe,Int.reduceLT,Int.reduceLE,Nat.reduceEqDiff,Nat.reduceAdd,reduceIte,reduceCtorEq,Nat.reduceLT,Nat.reduceLeDiff,eq_self,vcP2,Nat.reduceShiftRight,Nat.reduceMod]
                    refine callS_of hL ?_
                    simp only [vcV,vcD,Int.reduceEq,Int.reduceNe,Int.reduceLT,Int.reduceLE,Nat.reduceEqDiff,Nat.reduceAdd,reduceIte,reduceCtorEq,Nat.reduceLT,Nat.reduceLeDiff,eq_self,vcP2,Nat.reduceShiftRight,Nat.reduceMod]
                    refine callS_of hN1 ?_
                    simp only [vcV,vcD,Int.reduceEq,Int.reduceNe,Int.reduceLT,Int.reduceLE,Nat.reduceEqDiff,Nat.reduceAdd,reduceIte,reduceCtorEq,Nat.reduceLT,Nat.reduceLeDiff,eq_self,vcP2,Nat.reduceShiftRight,Nat.reduceMod]
                    refine callS_of hP1 ?_
                    simp only [vcV,vcD,Int.reduceEq,Int.reduceNe,Int.reduceLT,Int.reduceLE,Nat.reduceEqDiff,Nat.reduceAdd,reduceIte,reduceCtorEq,Nat.reduceLT,Nat.reduceLeDiff,eq_self,vcP2,Nat.reduceShiftRight,Nat.reduceMod]
                    refine ⟨⟨(v',u' - v'),?_,v0',by simp only;omega,by simp only;omega⟩,by simp only;omega,?_⟩
                    · simp only;rw [gcd_sub_r (by omega),Nat.gcd_comm];exact vg'
                    · refine weakX [] (of_decide_eq_true rfl) (of_decide_eq_true rfl) ?_
                      (simp only [wdA,vcW,vcV,vcD,Int.reduceEq,Int.reduceNe,Int.reduceLT,Int.reduceLE,Nat.reduceEqDiff,Nat.reduceAdd,reduceIte,reduceCtorEq,Nat.reduceLT,Nat.reduceLeDiff,eq_self,vcP2,Nat.reduceShiftRight,Nat.reduceMod])
                      (repeat' first | exact trivial | (with_reducible first | exact RnB.fxB (ints_fxB _) | rfl | refine And.intro ?_ ?_) | (with_reducible (first | refine RnB.bb ?_ | refine RnB.nb ?_);simp only [vcW,vcV,vcD,Int.reduceEq,Int.reduceNe,Int.reduceLT,Int.reduceLE,Nat.reduceEqDiff,Nat.reduceAdd,reduceIte,reduceCtorEq,Nat.reduceLT,Nat.reduceLeDiff,eq_self,vcP2,Nat.reduceShiftRight,Nat.reduceMod]) | (with_reducible first | refine RnB.ii ?_ | refine RnB.app ?_) | (with_reducible refine RnB.fxB ?_;simp only [vcW,vcV,vcD,Int.reduceEq,Int.reduceNe,Int.reduceLT,Int.reduceLE,Nat.reduceEqDiff,Nat.reduceAdd,reduceIte,reduceCtorEq,Nat.reduceLT,Nat.reduceLeDiff,eq_self,vcP2,Nat.reduceShiftRight,Nat.reduceMod]) | omega)
                  · rw [decide_eq_false hlt] at hL
                    have hP1:=hP v' u' (by omega) (by omega)
                    have hN1:Sound Tryz.prog 185 [wdA false u'] (wdA true u'):=negated_s false u'
                    unfold wdA at hL hP1 hN1 ⊢
                    simp only [hb,hd,vcV,vcD,Int.reduceEq,Int.reduceNe,Int.reduceLT,Int.reduceLE,Nat.reduceEqDiff,Nat.reduceAdd,reduceIte,reduceCtorEq,Nat.reduceLT,Nat.reduceLeDiff,eq_self,vcP2,Nat.reduceShiftRight,Nat.reduceMod]
                    refine callS_of hL ?_
                    simp only [vcV,vcD,Int.reduceEq,Int.reduceNe,Int.reduceLT,Int.reduceLE,Nat.reduceEqDiff,Nat.reduceAdd,reduceIte,reduceCtorEq,Nat.reduceLT,Nat.reduceLeDiff,eq_self,vcP2,Nat.reduceShiftRight,Nat.reduceMod]
                    refine callS_of hN1 ?_
                    simp only [vcV,vcD,Int.reduceEq,Int.reduceNe,Int.reduceLT,Int.reduceLE,Nat.reduceEqDiff,Nat.reduceAdd,reduceIte,reduceCtorEq,Nat.reduceLT,Nat.reduceLeDiff,eq_self,vcP2,Nat.reduceShiftRight,Nat.reduceMod]
                    refine callS_of hP1 ?_
                    simp only [vcV,vcD,Int.reduceEq,Int.reduceNe,Int.reduceLT,Int.reduceLE,Nat.reduceEqDiff,Nat.reduceAdd,reduceIte,reduceCtorEq,Nat.reduceLT,Nat.reduceLeDiff,eq_self,vcP2,Nat.reduceShiftRight,Nat.reduceMod]
                    refine ⟨⟨(u',v' - u'),?_,u0',by simp only;omega,by simp only;omega⟩,by simp only;omega,?_⟩
                    · simp only;rw [gcd_sub_r (by omega)];exact vg'
                    · refine weakX [] (of_decide_eq_true rfl) (of_decide_eq_true rfl) ?_
                      (simp only [wdA,vcW,vcV,vcD,Int.reduceEq,Int.reduceNe,Int.reduceLT,Int.reduceLE,Nat.reduceEqDiff,Nat.reduceAdd,reduceIte,reduceCtorEq,Nat.reduceLT,Nat.reduceLeDiff,eq_self,vcP2,Nat.reduceShiftRight,Nat.reduceMod])
                      (repeat' first | exact trivial | (with_reducible first | exact RnB.fxB (ints_fxB _) | rfl | refine And.intro ?_ ?_) | (with_reducible (first | refine RnB.bb ?_ | refine RnB.nb ?_);simp only [vcW,vcV,vcD,Int.reduceEq,Int.reduceNe,Int.reduceLT,Int.reduceLE,Nat.reduceEqDiff,Nat.reduceAdd,reduceIte,reduceCtorEq,Nat.reduceLT,Nat.reduceLeDiff,eq_self,vcP2,Nat.reduceShiftRight,Nat.reduceMod]) | (with_reducible first | refine RnB.ii ?_ | refine RnB.app ?_) | (with_reducible refine RnB.fxB ?_;simp only [vcW,vcV,vcD,Int.reduceEq,Int.reduceNe,Int.reduceLT,Int.reduceLE,Nat.reduceEqDiff,Nat.reduceAdd,reduceIte,reduceCtorEq,Nat.reduceLT,Nat.reduceLeDiff,eq_self,vcP2,Nat.reduceShiftRight,Nat.reduceMod]) | omega)
end Go.Proofs.YtgmpcbpmnimkoaaGreatDoor

/- The examples of chapter 2,by running the abstract code;an iterator from the end on. By an AI agent;nothing here is trusted. -/
namespace Go.Proofs.YtgmpcbpmnimkoaaGreatDoor
open Go.Av

def w128 (p:Bool × Int × Int):AV:=.agg [.bool p.1,.int .u64 p.2.1,.int .u64 p.2.2]
def w128s (l:List (Bool × Int × Int)):List AV:=l.map w128
theorem w128s_length (l:List (Bool × Int × Int)):(w128s l).length=l.length:=by simp [w128s]
theorem w128s_get (l:List (Bool × Int × Int)) (i:Nat) (h:i<l.length):(w128s l)[i]?=some (.agg [.bool l[i].1,.int .u64 l[i].2.1,.int .u64 l[i].2.2]):=by
  simp [w128s,w128,h]
def backL (l:List (Bool × Int × Int)):Nat→List (List AV)
  | 0=>[]
  | k+1=>backL l k ++ [[.int .i64 ((l.length:Int) - 1 - k),w128 (l.getD (l.length - 1 - k) default)]]
theorem backL_le (l:List (Bool × Int × Int)) (k n:Nat) (h:k≤n):∃ r,backL l n=backL l k ++ r:=by
  obtain ⟨m,rfl⟩:=Nat.exists_eq_add_of_le h
  induction m with
  | zero=>exact ⟨[],by simp⟩
  | succ m ih =>
    obtain ⟨r,hr⟩:=ih (by omega)
    exact ⟨r ++ [[.int .i64 ((l.length:Int) - 1 - (k+m:Nat)),w128 (l.getD (l.length - 1 - (k+m)) default)]],by rw [← Nat.add_assoc,backL,hr,List.append_assoc]⟩
theorem deadAll_no:deadAll noStore=noStore:=rfl
theorem backward_s (l:List (Bool × Int × Int)) (hl:l.length≤1000000):SeqA Tryz.prog 252 [.eptr (.sl (w128s l)) 0] (backL l l.length):=by
  refine seq_W f_slices_Backward_pulse_wide_pulse_wide_1 (Nat.le_of_ble_eq_true rfl) fun y=>?_
  simp only [c_slices_Backward_pulse_wide_pulse_wide_1,w128s_length,vcC,Int.reduceEq,Int.reduceNe,Int.reduceLT,Int.reduceLE,Nat.reduceEqDiff,Nat.reduceAdd,reduceIte,reduceCtorEq,Nat.reduceLT,Nat.reduceLeDiff,eq_self,vcP,WY_skip,WY_reg,WY_regY,WY_seq,WY_cond,WY_block,WY_exit,WY_ret,VY_nil,VY_yld,VY_yldg,VY_ps,seqY_n,seqY_r,seqY_x,blockY_n,blockY_r,blockY_x,isCallvs,isCallv,isY,List.any_cons,List.any_nil,Bool.or_false,Bool.or_true,Bool.false_or,Bool.and_false,Bool.false_and]
  refine ⟨by unfold I64;omega,?_⟩
  refine WY_loop (α:=PSigma fun k:Nat=>k≤l.length) (fun k=>((envOf [(0,.yld y),(1,.eptr (.sl (w128s l)) 0),(3,.int .i64 ((l.length:Int) - 1 - k.1))],noStore),some (backL l k.1)))
    (fun k=>l.length - k.1) ⟨0,by simp⟩ (weakE _ ?_) ?_ (fun ⟨k,hk⟩=>?_)
  · simp only [vcC,Int.reduceEq,Int.reduceNe,Int.reduceLT,Int.reduceLE,Nat.reduceEqDiff,Nat.reduceAdd,reduceIte,reduceCtorEq,Nat.reduceLT,Nat.reduceLeDiff,eq_self,vcP,WY_skip,WY_reg,WY_regY,WY_seq,WY_cond,WY_block,WY_exit,WY_ret,VY_nil,VY_yld,VY_yldg,VY_ps,seqY_n,seqY_r,seqY_x,blockY_n,blockY_r,blockY_x,isCallvs,isCallv,isY,List.any_cons,List.any_nil,Bool.or_false,Bool.or_true,Bool.false_or,Bool.and_false,Bool.false_and];simp
  · simp [backL]
  · simp only [vcC,Int.reduceEq,Int.reduceNe,Int.reduceLT,Int.reduceLE,Nat.reduceEqDiff,Nat.reduceAdd,reduceIte,reduceCtorEq,Nat.reduceLT,Nat.reduceLeDiff,eq_self,vcP,WY_skip,WY_reg,WY_regY,WY_seq,WY_cond,WY_block,WY_exit,WY_ret,VY_nil,VY_yld,VY_yldg,VY_ps,seqY_n,seqY_r,seqY_x,blockY_n,blockY_r,blockY_x,isCallvs,isCallv,isY,List.any_cons,List.any_nil,Bool.or_false,Bool.or_true,Bool.false_or,Bool.and_false,Bool.false_and]
    refine brB_split (fun h=>?_) (fun h=>?_)
    · have h':k<l.length:=by simp only [decide_eq_true_eq] at h;omega
      have h2:((l.length:Int) - 1 - k).toNat=l.length - 1 - k:=by omega
      have hg:=w128s_get l (l.length - 1 - k) (by omega)
      simp only [h2,hg,vcC,Int.reduceEq,Int.reduceNe,Int.reduceLT,Int.reduceLE,Nat.reduceEqDiff,Nat.reduceAdd,reduceIte,reduceCtorEq,Nat.reduceLT,Nat.reduceLeDiff,eq_self,vcP,WY_skip,WY_reg,WY_regY,WY_seq,WY_cond,WY_block,WY_exit,WY_ret,VY_nil,VY_yld,VY_yldg,VY_ps,seqY_n,seqY_r,seqY_x,blockY_n,blockY_r,blockY_x,isCallvs,isCallv,isY,List.any_cons,List.any_nil,Bool.or_false,Bool.or_true,Bool.false_or,Bool.and_false,Bool.false_and]
      refine ⟨by omega,?_⟩
      obtain ⟨rest,hrest⟩:=backL_le l (k+1) l.length h'
      rw [backL,w128,show l.getD (l.length - 1 - k) default=l[l.length - 1 - k]'(by omega) by simp [List.getD,List.getElem?_eq_getElem (show l.length - 1 - k<l.length by omega)]] at hrest
      refine yS_of (backL l k) rest rfl ?_ ?_ ?_
      · rw [hrest];simp
      · simp only [deadAll_no,vcC,Int.reduceEq,Int.reduceNe,Int.reduceLT,Int.reduceLE,Nat.reduceEqDiff,Nat.reduceAdd,reduceIte,reduceCtorEq,Nat.reduceLT,Nat.reduceLeDiff,eq_self,vcP,WY_skip,WY_reg,WY_regY,WY_seq,WY_cond,WY_block,WY_exit,WY_ret,VY_nil,VY_yld,VY_yldg,VY_ps,seqY_n,seqY_r,seqY_x,blockY_n,blockY_r,blockY_x,isCallvs,isCallv,isY,List.any_cons,List.any_nil,Bool.or_false,Bool.or_true,Bool.false_or,Bool.and_false,Bool.false_and]
        refine ⟨by unfold I64;omega,⟨k+1,h'⟩,by simp only;omega,weakE _ ?_,?_⟩
        · simp only [vcC,Int.reduceEq,Int.reduceNe,Int.reduceLT,Int.reduceLE,Nat.reduceEqDiff,Nat.reduceAdd,reduceIte,reduceCtorEq,Nat.reduceLT,Nat.reduceLeDiff,eq_self,vcP,WY_skip,WY_reg,WY_regY,WY_seq,WY_cond,WY_block,WY_exit,WY_ret,VY_nil,VY_yld,VY_yldg,VY_ps,seqY_n,seqY_r,seqY_x,blockY_n,blockY_r,blockY_x,isCallvs,isCallv,isY,List.any_cons,List.any_nil,Bool.or_false,Bool.or_true,Bool.false_or,Bool.and_false,Bool.false_and]
          simp only [AV.int.injEq,true_and,and_true]
          omega
        · simp only [backL,w128,show l.getD (l.length - 1 - k) default=l[l.length - 1 - k]'(by omega) by simp [List.getD,List.getElem?_eq_getElem (show l.length - 1 - k<l.length by omega)]]
      · simp only [deadAll_no,vcC,Int.reduceEq,Int.reduceNe,Int.reduceLT,Int.reduceLE,Nat.reduceEqDiff,Nat.reduceAdd,reduceIte,reduceCtorEq,Nat.reduceLT,Nat.reduceLeDiff,eq_self,vcP,WY_skip,WY_reg,WY_regY,WY_seq,WY_cond,WY_block,WY_exit,WY_ret,VY_nil,VY_yld,VY_yldg,VY_ps,seqY_n,seqY_r,seqY_x,blockY_n,blockY_r,blockY_x,isCallvs,isCallv,isY,List.any_cons,List.any_nil,Bool.or_false,Bool.or_true,Bool.false_or,Bool.and_false,Bool.false_and];simp
    · simp only [vcC,Int.reduceEq,Int.reduceNe,Int.reduceLT,Int.reduceLE,Nat.reduceEqDiff,Nat.reduceAdd,reduceIte,reduceCtorEq,Nat.reduceLT,Nat.reduceLeDiff,eq_self,vcP,WY_skip,WY_reg,WY_regY,WY_seq,WY_cond,WY_block,WY_exit,WY_ret,VY_nil,VY_yld,VY_yldg,VY_ps,seqY_n,seqY_r,seqY_x,blockY_n,blockY_r,blockY_x,isCallvs,isCallv,isY,List.any_cons,List.any_nil,Bool.or_false,Bool.or_true,Bool.false_or,Bool.and_false,Bool.false_and]
      have:k=l.length:=by simp only [decide_eq_false_iff_not,Bool.not_true] at h;omega
      subst this
      simp

def unw:AV→Option (Bool × Int × Int)
  | .agg [.bool a,.int .u64 b,.int .u64 c]=>some (a,b,c)
  | _=>none
def unws:List AV→Option (List (Bool × Int × Int))
  | []=>some []
  | x :: l=>match unw x,unws l with
    | some n,some m=>some (n :: m)
    | _,_=>none
theorem unws_some:∀ {l:List AV} {m:List (Bool × Int × Int)},unws l=some m→l=w128s m
  | [],m,h=>by cases h;rfl
  | x :: l,m,h=>by
    simp only [unws] at h
    split at h
    · rename_i n k h1 h2
      cases h
      rw [unws_some h2]
      unfold unw at h1
      split at h1
      · cases h1;rfl
      · cases h1
    · cases h
def unint:AV→Option Int
  | .int .i64 n=>some n
  | _=>none
def unints:List AV→Option (List Int)
  | []=>some []
  | x :: l=>match unint x,unints l with
    | some n,some m=>some (n :: m)
    | _,_=>none
theorem unints_some:∀ {l:List AV} {m:List Int},unints l=some m→l=ints m
  | [],m,h=>by cases h;rfl
  | x :: l,m,h=>by
    simp only [unints] at h
    split at h
    · rename_i n k h1 h2
      cases h
      rw [unints_some h2]
      unfold unint at h1
      split at h1
      · cases h1;rfl
      · cases h1
    · cases h

def itP:IterT:=fun g caps=>if g=252 then (match caps with
  | [.eptr (.sl es) 0]=>(match unws es with
    | some l=>if l.length≤1000000 then some (backL l l.length) else none
    | none=>none)
  | _=>none) else none
theorem itP_ok:∀ g caps xs,itP g caps=some xs→SeqA Tryz.prog g caps xs:=by
  intro g caps xs h
  unfold itP at h
  split at h
  · rename_i hg
    subst hg
    split at h
    · rename_i es
      split at h
      · rename_i l hl
        split at h
        · rename_i hc
          cases h
          rw [unws_some hl]
          exact backward_s l hc
        · cases h
      · cases h
    · cases h
  · cases h
def extV:CallT:=fun f a =>
  if f=170 then (match a with
    | [.sl es]=>(match unints es with
      | some l=>if l.length≤1000000 then some (.sl es) else none
      | none=>none)
    | _=>none)
  else if f=191 then (match a with
    | [.int .u64 x,.int .u64 y,.int .u64 c]=>if 0≤x∧0≤y∧0≤c∧c≤1 then some (.tup [.int .u64 ((x+y+c) % 18446744073709551616),.int .u64 ((x+y+c) / 18446744073709551616)]) else none
    | _=>none)
  else if f=192 then (match a with
    | [.int .u64 x,.int .u64 y,.int .u64 c]=>if 0≤x∧0≤y∧0≤c∧c≤1 then some (.tup [.int .u64 (((x.toNat+18446744073709551616 - y.toNat - c.toNat) % 18446744073709551616:Nat):Int),.int .u64 ((if x.toNat<y.toNat+c.toNat then 1 else 0:Nat):Int)]) else none
    | _=>none)
  else none
theorem extV_ok:∀ f a v,extV f a=some v→Sound Tryz.prog f a v:=by
  intro f a v h
  unfold extV at h
  split at h
  · rename_i hf
    subst hf
    split at h
    · rename_i es
      split at h
      · rename_i l hl
        split at h
        · rename_i hc
          cases h
          rw [unints_some hl]
          exact Clone_s l (by omega)
        · cases h
      · cases h
    · cases h
  · split at h
    · rename_i hf
      subst hf
      split at h
      · rename_i x y c
        split at h
        · rename_i hc
          cases h
          exact Add64_s x y c hc.1 hc.2.1 hc.2.2
        · cases h
      · cases h
    · split at h
      · rename_i hf
        subst hf
        split at h
        · rename_i x y c
          split at h
          · rename_i hc
            cases h
            have:=Sub64_s x.toNat y.toNat c.toNat (by omega)
            rw [show ((x.toNat:Nat):Int)=x by omega,show ((y.toNat:Nat):Int)=y by omega,show ((c.toNat:Nat):Int)=c by omega] at this
            exact this
          · cases h
        · cases h
      · cases h
def extO:OwnT:=fun f a=>if f=170 then (match a with
    | [.sl es]=>(match unints es with
      | some l=>if l.length≤1000000 then some (3,1,es) else none
      | none=>none)
    | _=>none) else none
theorem extO_ok:∀ f a q,extO f a=some q→SoundO Tryz.prog f a q.1 q.2.1 q.2.2:=by
  intro f a q h
  unfold extO at h
  split at h
  · rename_i hf
    subst hf
    split at h
    · rename_i es
      split at h
      · rename_i l hl
        split at h
        · rename_i hc
          cases h
          rw [unints_some hl]
          exact Clone_o l (by omega)
        · cases h
      · cases h
    · cases h
  · cases h
def extP:CT:=⟨extV,extO⟩
theorem extP_ok:extP.ok Tryz.prog:=⟨extV_ok,extO_ok⟩
def owP:FuncId→Bool:=fun f=>decide (f=170) || decide (f=120)
def tabP:List (Nat × Nat × Nat × MC × List (Nat × Option (Option Nat))):=[(11,91,0,c_law02_awake,[(0,none)]),(89,47,2,c_pulse_KeptAfter,[(4,none),(5,none)]),(16,6,1,c_base_CopyInts,[(2,none)]),(90,65,1,c_pulse_GainOf,[(2,(some (some 2))),(3,none)]),(82,12,2,c_pulse_Restored,[(4,none),(5,none)]),(57,6,1,c_ref02_Wave,[(2,(some (some 1)))]),(34,26,2,c_base_Ints,[(4,none)]),(14,58,2,c_pulse_FitOf,[(4,(some (some 2))),(5,none)]),(88,3,0,c_law02_Template,[(0,(some (some 2)))]),(23,41,3,c_pulse_ErrorOf,[(6,(some (some 2))),(7,none)]),(117,15,1,c_pulse_first,[(2,none)]),(178,30,1,c_pulse_timesErr,[(2,none)]),(119,7,2,c_pulse_unless,[(4,none)]),(179,5,1,c_pulse_isTick,[(2,none)]),(114,9,2,c_slices_ContainsFunc_int_int,[(4,none)]),(180,6,1,c_pulse_GainOf_1,[(2,none)]),(116,15,3,c_pulse_within,[(6,none)]),(181,25,1,c_slices_Max_int_int,[(2,none)]),(130,17,1,c_pulse_sum,[(2,none)]),(175,28,2,c_pulse_lowest,[(4,(some (some 2))),(5,none)]),(174,60,3,c_pulse_droop,[(6,none),(7,none)]),(217,24,1,c_pulse_samplesErr,[(2,none),(3,none)]),(151,11,1,c_pulse_sampled,[(2,none)]),(227,16,2,c_pulse_floor,[(4,none)]),(152,21,1,c_pulse_fitErr,[(2,none)]),(176,5,1,c_pulse_isSample,[(2,none)]),(91,22,2,c_pulse_fittedErr,[(4,none)]),(92,55,2,c_pulse_problemOf,[(4,(some (some 2)))]),(93,8,1,c_math_bits_TrailingZeros,[(2,none)]),(94,92,2,c_pulse_problem_solved,[(4,(some (some 3))),(5,none)]),(95,56,3,c_pulse_problem_isBest,[(6,none)]),(96,62,2,c_pulse_reduced,[(4,(some (some 2))),(5,none)]),(104,21,3,c_pulse_bothErr,[(6,none)]),(105,35,3,c_pulse_differences,[(6,none)]),(106,57,2,c_pulse_wide_plus,[(4,(some (some 3)))]),(107,11,1,c_pulse_wideOf,[(2,(some (some 3)))]),(108,33,2,c_pulse_wide_times,[(4,(some (some 3)))]),(109,39,1,c_pulse_wide_text,[(2,none)]),(197,19,2,c_slices_IndexFunc_int_int,[(4,none)]),(127,15,2,c_pulse_divisor,[(4,none)]),(226,12,1,c_pulse_droopErr,[(2,none)]),(250,6,1,c_pulse_samplesErr_1,[(2,none)]),(218,6,1,c_pulse_fitErr_1,[(2,none)]),(199,10,2,c_pulse_isSized,[(4,none)]),(118,32,1,c_pulse_templateErr,[(2,none)]),(120,47,2,c_pulse_model,[(4,none)]),(128,30,3,c_pulse_against,[(6,none)]),(182,14,1,c_math_bits_TrailingZeros32,[(2,none)]),(183,14,1,c_math_bits_TrailingZeros64,[(2,none)]),(184,57,1,c_pulse_determinant,[(2,(some (some 3)))]),(185,11,1,c_pulse_wide_negated,[(2,(some (some 3)))]),(186,9,1,c_pulse_wide_sign,[(2,none)]),(187,60,2,c_pulse_common,[(4,(some (some 3)))]),(188,51,2,c_pulse_wide_over,[(4,(some (some 3)))]),(131,24,2,c_pulse_wide_isLess,[(4,none)]),(193,51,2,c_math_bits_Mul64,[(4,none),(5,none)]),(194,135,3,c_math_bits_Div64,[(6,none),(7,none)]),(195,8,2,c_strconv_FormatUint,[(4,none)]),(198,6,1,c_pulse_templateErr_1,[(2,none)]),(200,5,1,c_pulse_templateErr_2,[(2,none)]),(228,11,1,c_pulse_wide_isZero,[(2,none)]),(229,8,1,c_pulse_wide_size,[(2,(some (some 3)))]),(230,16,1,c_pulse_wide_half,[(2,(some (some 3)))]),(231,6,1,c_pulse_wide_twice,[(2,(some (some 3)))]),(232,4,1,c_slices_Backward_pulse_wide_pulse_wide,[(2,none)]),(233,6,1,c_math_bits_LeadingZeros64,[(2,none)]),(234,32,2,c_internal_strconv_FormatUint,[(4,none)]),(252,19,2,c_slices_Backward_pulse_wide_pulse_wide_1,[]),(253,25,1,c_math_bits_Len64,[(2,none)]),(254,15,1,c_internal_strconv_small,[(2,none)]),(255,15,1,c_internal_strconv_numDigits,[(2,none)]),(256,167,2,c_internal_strconv_formatBase10,[]),(257,102,5,c_internal_strconv_formatBits,[(10,none),(11,none)]),(270,6,1,c_internal_strconv_log10Pow2,[(2,none)]),(271,4,1,c_internal_strconv_bool2_int,[(2,none)]),(272,8,1,c_internal_strconv_isPowerOfTwo,[(2,none)])]
theorem tabP_ok:∀ f c,lookC tabP f=some c→cFun Tryz.prog f=some c:=by
  refine lookC_ok ?_
  unfold tabP
  simp only [List.forall_mem_cons]
  exact ⟨f_law02_awake,f_pulse_KeptAfter,f_base_CopyInts,f_pulse_GainOf,f_pulse_Restored,f_ref02_Wave,f_base_Ints,f_pulse_FitOf,f_law02_Template,f_pulse_ErrorOf,f_pulse_first,f_pulse_timesErr,f_pulse_unless,f_pulse_isTick,f_slices_ContainsFunc_int_int,f_pulse_GainOf_1,f_pulse_within,f_slices_Max_int_int,f_pulse_sum,f_pulse_lowest,f_pulse_droop,f_pulse_samplesErr,f_pulse_sampled,f_pulse_floor,f_pulse_fitErr,f_pulse_isSample,f_pulse_fittedErr,f_pulse_problemOf,f_math_bits_TrailingZeros,f_pulse_problem_solved,f_pulse_problem_isBest,f_pulse_reduced,f_pulse_bothErr,f_pulse_differences,f_pulse_wide_plus,f_pulse_wideOf,f_pulse_wide_times,f_pulse_wide_text,f_slices_IndexFunc_int_int,f_pulse_divisor,f_pulse_droopErr,f_pulse_samplesErr_1,f_pulse_fitErr_1,f_pulse_isSized,f_pulse_templateErr,f_pulse_model,f_pulse_against,f_math_bits_TrailingZeros32,f_math_bits_TrailingZeros64,f_pulse_determinant,f_pulse_wide_negated,f_pulse_wide_sign,f_pulse_common,f_pulse_wide_over,f_pulse_wide_isLess,f_math_bits_Mul64,f_math_bits_Div64,f_strconv_FormatUint,f_pulse_templateErr_1,f_pulse_templateErr_2,f_pulse_wide_isZero,f_pulse_wide_size,f_pulse_wide_half,f_pulse_wide_twice,f_slices_Backward_pulse_wide_pulse_wide,f_math_bits_LeadingZeros64,f_internal_strconv_FormatUint,f_slices_Backward_pulse_wide_pulse_wide_1,f_math_bits_Len64,f_internal_strconv_small,f_internal_strconv_numDigits,f_internal_strconv_formatBase10,f_internal_strconv_formatBits,f_internal_strconv_log10Pow2,f_internal_strconv_bool2_int,f_internal_strconv_isPowerOfTwo,fun p hp=>by cases hp⟩
end Go.Proofs.YtgmpcbpmnimkoaaGreatDoor

/- Quotients of numbers of 128 bits. By an AI agent;nothing here is trusted. -/
namespace Go.Proofs.YtgmpcbpmnimkoaaGreatDoor
open Go.Av

theorem Backward_s (l:List (Bool × Int × Int)):Sound Tryz.prog 232 [.sl (w128s l)] (.fn 252 [.eptr (.sl (w128s l)) 0]):=by
  refine sound_W f_slices_Backward_pulse_wide_pulse_wide (Nat.le_of_ble_eq_true rfl) ?_
  simp only [c_slices_Backward_pulse_wide_pulse_wide,vcV,vcD,Int.reduceEq,Int.reduceNe,Int.reduceLT,Int.reduceLE,Nat.reduceEqDiff,Nat.reduceAdd,reduceIte,reduceCtorEq,Nat.reduceLT,Nat.reduceLeDiff,eq_self,vcP2,Nat.reduceShiftRight,Nat.reduceMod]
def pwl (d n:Nat):List (Bool × Int × Int):=(List.range n).map fun i=>(false,((d * 2 ^ i / 18446744073709551616:Nat):Int),((d * 2 ^ i % 18446744073709551616:Nat):Int))
theorem pwl_len (d n:Nat):(pwl d n).length=n:=by simp [pwl]
theorem pwl_get (d n i:Nat) (h:i<n):(w128s (pwl d n))[i]?=some (wdA false (d * 2 ^ i)):=by
  simp [w128s,pwl,w128,wdA,h]
theorem pwl_getD (d n i:Nat) (h:i<n):w128 ((pwl d n).getD i default)=wdA false (d * 2 ^ i):=by
  simp [pwl,w128,wdA,h,List.getD]
theorem w128s_imm (l:List (Bool × Int × Int)):(w128s l).all imm=true:=List.all_eq_true.2 fun x hx=>by
  obtain ⟨y,_,rfl⟩:=List.mem_map.1 hx;rfl
theorem pwl_succ (d n:Nat):w128s (pwl d n) ++ [wdA false (d * 2 ^ n)]=w128s (pwl d (n+1)):=by
  simp [w128s,pwl,w128,wdA,List.range_succ]
theorem pwl_fxB (d n:Nat):(w128s (pwl d n)).all fx=true:=List.all_eq_true.2 fun x hx=>by
  obtain ⟨y,_,rfl⟩:=List.mem_map.1 hx;rfl
def ovS (m d n:Nat):Nat→Nat × Nat
  | 0=>(m,0)
  | j+1=>let p:=ovS m d n j
    if p.1<d * 2 ^ (n - 1 - j) then (p.1,p.2+p.2) else (p.1 - d * 2 ^ (n - 1 - j),p.2+p.2+1)
theorem ovS_inv {m d n:Nat} (hn:m<d * 2 ^ n):∀ j,j≤n→(ovS m d n j).2 * (d * 2 ^ (n - j))+(ovS m d n j).1=m∧(ovS m d n j).1<d * 2 ^ (n - j)
  | 0,_=>by simp [ovS,hn]
  | j+1,h=>by
    obtain ⟨h1,h2⟩:=ovS_inv hn j (by omega)
    have e:n - j=(n - 1 - j)+1:=by omega
    have e2:n - (j+1)=n - 1 - j:=by omega
    rw [e2]
    have hd:d * 2 ^ (n - j)=2 * (d * 2 ^ (n - 1 - j)):=by rw [e,Nat.pow_succ];grind
    rw [hd] at h1 h2
    obtain ⟨D,hD⟩:∃ D,D=d * 2 ^ (n - 1 - j):=⟨_,rfl⟩
    rw [← hD] at h1 h2 ⊢
    unfold ovS
    simp only [← hD]
    clear hD hd
    generalize ovS m d n j=p at *
    obtain ⟨r,q⟩:=p
    simp only at h1 h2 ⊢
    by_cases g:r<D
    · rw [if_pos g];simp only;constructor
      · grind
      · exact g
    · rw [if_neg g];simp only;constructor
      · have:r - D+D=r:=by omega
        grind
      · omega
theorem ovS_end {m d n:Nat} (hn:m<d * 2 ^ n) (hd:0<d):(ovS m d n n).2=m / d:=by
  obtain ⟨h1,h2⟩:=ovS_inv hn n (Nat.le_refl _)
  rw [Nat.sub_self,Nat.pow_zero,Nat.mul_one] at h1 h2
  obtain ⟨p,hp⟩:∃ p,p=ovS m d n n:=⟨_,rfl⟩
  rw [← hp] at h1 h2 ⊢
  rw [← h1,Nat.add_comm,Nat.add_mul_div_right _ _ hd,Nat.div_eq_of_lt h2,Nat.zero_add]
theorem ovS_le {m d n:Nat} (hn:m<d * 2 ^ n) (hd:0<d) {j:Nat} (hj:j≤n):(ovS m d n j).1≤m∧(ovS m d n j).2≤m:=by
  obtain ⟨h1,h2⟩:=ovS_inv hn j hj
  have:(ovS m d n j).2≤(ovS m d n j).2 * (d * 2 ^ (n - j)):=Nat.le_mul_of_pos_right _ (Nat.mul_pos hd (Nat.two_pow_pos _))
  omega
theorem backL_len (l:List (Bool × Int × Int)):∀ n,(backL l n).length=n
  | 0=>rfl
  | n+1=>by rw [backL,List.length_append,backL_len l n];rfl
theorem backL_get (l:List (Bool × Int × Int)):∀ {n j:Nat} (h:j<(backL l n).length),(backL l n)[j]=[.int .i64 ((l.length:Int) - 1 - j),w128 (l.getD (l.length - 1 - j) default)]
  | 0,j,h=>by simp [backL] at h
  | n+1,j,h=>by
    rw [backL_len] at h
    by_cases e:j<n
    · have:=backL_get l (n:=n) (j:=j) (by rw [backL_len];exact e)
      rw [← this]
      simp only [backL]
      exact List.getElem_append_left _
    · have:j=n:=by omega
      subst this
      simp only [backL]
      rw [List.getElem_append_right (by rw [backL_len];exact Nat.le_refl _)]
      simp [backL_len]
theorem at_prefix2 {β:Type} {L pre:List β} {x:β} {rest:List β} (h:pre ++ x :: rest=L):∃ hk:pre.length<L.length,x=L[pre.length]:=by
  subst h
  exact ⟨by simp,by simp⟩
theorem over_s (a:Bool) (m d:Nat) (hm:W128 (m+m)) (hd:0<d) (hdd:W128 (d+d)):Sound Tryz.prog 188 [wdA a m,wdA false d] (wdA false (m / d)):=by
  refine sound_W f_pulse_wide_over (Nat.le_of_ble_eq_true rfl) ?_
  have hs1:=size_s a m
  unfold W128 at hm hdd
  have hmax:=maxLen_big
  have hpos:∀ i:Nat,0<2 ^ i:=Nat.two_pow_pos
  unfold wdA at hs1 ⊢
  simp only [c_pulse_wide_over,vcV,vcD,Int.reduceEq,Int.reduceNe,Int.reduceLT,Int.reduceLE,Nat.reduceEqDiff,Nat.reduceAdd,reduceIte,reduceCtorEq,Nat.reduceLT,Nat.reduceLeDiff,eq_self,vcP2,Nat.reduceShiftRight,Nat.reduceMod]
  refine callS_of hs1 ?_
  simp only [vcV,vcD,Int.reduceEq,Int.reduceNe,Int.reduceLT,Int.reduceLE,Nat.reduceEqDiff,Nat.reduceAdd,reduceIte,reduceCtorEq,Nat.reduceLT,Nat.reduceLeDiff,eq_self,vcP2,Nat.reduceShiftRight,Nat.reduceMod]
  refine W_loop (t:=.mk) (α:=PSigma fun i:Nat=>d * 2 ^ i≤m∨i=0) (fun ⟨i,_⟩=>(envOf [(2,.ptr 2 0 0),(4,.ptr 4 0 0),(5,.ptr 5 0 0),(6,.buf 100 (i+1))],stOf [(2,⟨157,3,[wdA false m]⟩),(4,⟨157,3,[.agg [.bool false,.int .u64 0,.int .u64 0]]⟩),(5,⟨157,3,[.agg [.bool false,.int .u64 0,.int .u64 0]]⟩),(100,⟨157,3,w128s (pwl d (i+1))⟩)])) (fun x=>m - x.1) ⟨0,Or.inr rfl⟩ ?_ (fun ⟨i,hi⟩=>?_)
  · have z:w128s (pwl d (0+1))=[wdA false d]:=by simp [pwl,w128s,w128,wdA]
    refine weakX [(100,some 12)] (of_decide_eq_true rfl) (of_decide_eq_true rfl) ?_
    (simp only [z,wdA,vcW,vcV,vcD,Int.reduceEq,Int.reduceNe,Int.reduceLT,Int.reduceLE,Nat.reduceEqDiff,Nat.reduceAdd,reduceIte,reduceCtorEq,Nat.reduceLT,Nat.reduceLeDiff,eq_self,vcP2,Nat.reduceShiftRight,Nat.reduceMod])
    (repeat' first | exact trivial | (with_reducible first | exact RnB.fxB (ints_fxB _) | rfl | refine And.intro ?_ ?_) | (with_reducible (first | refine RnB.bb ?_ | refine RnB.nb ?_);simp only [vcW,vcV,vcD,Int.reduceEq,Int.reduceNe,Int.reduceLT,Int.reduceLE,Nat.reduceEqDiff,Nat.reduceAdd,reduceIte,reduceCtorEq,Nat.reduceLT,Nat.reduceLeDiff,eq_self,vcP2,Nat.reduceShiftRight,Nat.reduceMod]) | (with_reducible first | refine RnB.ii ?_ | refine RnB.app ?_) | (with_reducible refine RnB.fxB ?_;simp only [vcW,vcV,vcD,Int.reduceEq,Int.reduceNe,Int.reduceLT,Int.reduceLE,Nat.reduceEqDiff,Nat.reduceAdd,reduceIte,reduceCtorEq,Nat.reduceLT,Nat.reduceLeDiff,eq_self,vcP2,Nat.reduceShiftRight,Nat.reduceMod]) | omega)
  · dsimp only at hi ⊢
    have hle:d * 2 ^ i≤m∨d * 2 ^ i=d:=by
      rcases hi with h | h
      · exact .inl h
      · right;rw [h,Nat.pow_zero,Nat.mul_one]
    have hsu:d * 2 ^ i+d * 2 ^ i=d * 2 ^ (i+1):=by rw [Nat.pow_succ,← Nat.mul_assoc];omega
    have him:i≤127:=by
      refine Classical.byContradiction fun h=>?_
      have h1:2 ^ 128≤2 ^ i:=Nat.pow_le_pow_right (by omega) (by omega)
      have h2:2 ^ i≤d * 2 ^ i:=Nat.le_mul_of_pos_left _ hd
      have h3:(2:Nat) ^ 128=340282366920938463463374607431768211456:=by decide
      omega
    have ht:=twice_s false (d * 2 ^ i) (by unfold W128;omega)
    have hL:=isLess_s false false m (d * 2 ^ i+d * 2 ^ i)
    have hg:=pwl_get d (i+1) i (by omega)
    have hwl:(w128s (pwl d (i+1))).length=i+1:=by rw [w128s_length,pwl_len]
    have hix:(((i+1:Nat):Int) - 1).toNat=i:=by omega
    rw [hsu] at ht hL
    unfold wdA at ht hL hg ⊢
    by_cases hlt:m<d * 2 ^ (i+1)
    · rw [decide_eq_true hlt] at hL
      simp only [hg,hwl,hix,vcV,vcD,Int.reduceEq,Int.reduceNe,Int.reduceLT,Int.reduceLE,Nat.reduceEqDiff,Nat.reduceAdd,reduceIte,reduceCtorEq,Nat.reduceLT,Nat.reduceLeDiff,eq_self,vcP2,Nat.reduceShiftRight,Nat.reduceMod]
      (repeat (with_reducible refine And.intro ?_ ?_;focus (first | omega | (unfold I64;omega))))
      refine callS_of ht ?_
      simp only [vcV,vcD,Int.reduceEq,Int.reduceNe,Int.reduceLT,Int.reduceLE,Nat.reduceEqDiff,Nat.reduceAdd,reduceIte,reduceCtorEq,Nat.reduceLT,Nat.reduceLeDiff,eq_self,vcP2,Nat.reduceShiftRight,Nat.reduceMod]
      refine callS_of hL ?_
      simp only [vcV,vcD,Int.reduceEq,Int.reduceNe,Int.reduceLT,Int.reduceLE,Nat.reduceEqDiff,Nat.reduceAdd,reduceIte,reduceCtorEq,Nat.reduceLT,Nat.reduceLeDiff,eq_self,vcP2,Nat.reduceShiftRight,Nat.reduceMod]
      rw [borB_good _ _ _ _ _ hwl.symm (List.all_eq_true.1 (pwl_fxB d (i+1)))]
      refine callS_of (Backward_s (pwl d (i+1))) ?_
      simp only [vcV,vcD,Int.reduceEq,Int.reduceNe,Int.reduceLT,Int.reduceLE,Nat.reduceEqDiff,Nat.reduceAdd,reduceIte,reduceCtorEq,Nat.reduceLT,Nat.reduceLeDiff,eq_self,vcP2,Nat.reduceShiftRight,Nat.reduceMod]
      obtain ⟨st,hst⟩:∃ st:List (List AV)→Store,st=fun pre=>stOf [(2,⟨157,3,[wdA false (ovS m d (i+1) pre.length).1]⟩),(4,⟨157,3,[.agg [.bool false,.int .u64 0,.int .u64 0]]⟩),(5,⟨157,3,[wdA false (ovS m d (i+1) pre.length).2]⟩)]:=⟨_,rfl⟩
      refine W_weakR (t:=.mk) (envOf [(2,.ptr 2 0 0),(4,.ptr 4 0 0),(5,.ptr 5 0 0),(34,.fn 252 [.eptr (.sl (w128s (pwl d (i+1)))) 0])],st []) ?_ ?_
      · subst hst
        have z:wdA false (ovS m d (i+1) 0).2=.agg [.bool false,.int .u64 0,.int .u64 0]:=by simp [ovS,wdA]
        have z2:wdA false (ovS m d (i+1) 0).1=.agg [.bool false,.int .u64 ((m / 18446744073709551616:Nat):Int),.int .u64 ((m % 18446744073709551616:Nat):Int)]:=by simp [ovS,wdA]
        refine weakX [] (of_decide_eq_true rfl) (of_decide_eq_true rfl) ?_
        (simp only [z,z2,vcX,w128s_imm,vcW,vcV,vcD,Int.reduceEq,Int.reduceNe,Int.reduceLT,Int.reduceLE,Nat.reduceEqDiff,Nat.reduceAdd,reduceIte,reduceCtorEq,Nat.reduceLT,Nat.reduceLeDiff,eq_self,vcP2,Nat.reduceShiftRight,Nat.reduceMod])
        (repeat' first | exact trivial | (with_reducible first | exact RnB.fxB (ints_fxB _) | rfl | refine And.intro ?_ ?_) | (with_reducible (first | refine RnB.bb ?_ | refine RnB.nb ?_);simp only [vcW,vcV,vcD,Int.reduceEq,Int.reduceNe,Int.reduceLT,Int.reduceLE,Nat.reduceEqDiff,Nat.reduceAdd,reduceIte,reduceCtorEq,Nat.reduceLT,Nat.reduceLeDiff,eq_self,vcP2,Nat.reduceShiftRight,Nat.reduceMod]) | (with_reducible first | refine RnB.ii ?_ | refine RnB.app ?_) | (with_reducible refine RnB.fxB ?_;simp only [vcW,vcV,vcD,Int.reduceEq,Int.reduceNe,Int.reduceLT,Int.reduceLE,Nat.reduceEqDiff,Nat.reduceAdd,reduceIte,reduceCtorEq,Nat.reduceLT,Nat.reduceLeDiff,eq_self,vcP2,Nat.reduceShiftRight,Nat.reduceMod]) | omega)
      · have hps:∀ x ∈ backL (pwl d (i+1)) (pwl d (i+1)).length,x.length=[35,36].length:=fun x hx=>by
          obtain ⟨j,hj,rfl⟩:=List.getElem_of_mem hx
          rw [backL_get _ hj];rfl
        refine W_rf (tt:=.mk) (xs:=backL (pwl d (i+1)) (pwl d (i+1)).length) rfl (by simp [imm]) rfl rfl (backward_s _ (by rw [pwl_len];omega)) hps st (Weak.refl _) (fun pre x rest hsp=>?_) ?_
        · obtain ⟨hk,hx⟩:=at_prefix2 hsp
          rw [backL_get _ hk] at hx
          rw [backL_len,pwl_len] at hk
          rw [pwl_len,pwl_getD _ _ _ (by omega)] at hx
          subst hx
          have hstp:st (pre ++ [[.int .i64 (((i+1:Nat):Int) - 1 - pre.length),wdA false (d * 2 ^ (i+1 - 1 - pre.length))]])=stOf [(2,⟨157,3,[wdA false (ovS m d (i+1) (pre.length+1)).1]⟩),(4,⟨157,3,[.agg [.bool false,.int .u64 0,.int .u64 0]]⟩),(5,⟨157,3,[wdA false (ovS m d (i+1) (pre.length+1)).2]⟩)]:=by
            rw [hst];simp only [List.length_append,List.length_cons,List.length_nil]
          rw [hstp]
          have hso:st pre=stOf [(2,⟨157,3,[wdA false (ovS m d (i+1) pre.length).1]⟩),(4,⟨157,3,[.agg [.bool false,.int .u64 0,.int .u64 0]]⟩),(5,⟨157,3,[wdA false (ovS m d (i+1) pre.length).2]⟩)]:=by
            rw [hst]
          rw [hso]
          have hinv:=ovS_inv hlt pre.length (by omega)
          have hle2:=ovS_le hlt hd (j:=pre.length) (by omega)
          have hle3:=ovS_le hlt hd (j:=pre.length+1) (by omega)
          have hstep:ovS m d (i+1) (pre.length+1)=if (ovS m d (i+1) pre.length).1<d * 2 ^ (i+1 - 1 - pre.length) then ((ovS m d (i+1) pre.length).1,(ovS m d (i+1) pre.length).2+(ovS m d (i+1) pre.length).2) else ((ovS m d (i+1) pre.length).1 - d * 2 ^ (i+1 - 1 - pre.length),(ovS m d (i+1) pre.length).2+(ovS m d (i+1) pre.length).2+1):=rfl
          generalize ovS m d (i+1) (pre.length+1)=Q at *
          generalize ovS m d (i+1) pre.length=P at *
          generalize d * 2 ^ (i+1 - 1 - pre.length)=D at *
          obtain ⟨r,q⟩:=P
          simp only at hinv hle2 hle3 hstep
          have htw:=twice_s false q (by unfold W128;omega)
          have hL2:=isLess_s false false r D
          by_cases g:r<D
          · rw [if_pos g] at hstep
            subst hstep
            rw [decide_eq_true g] at hL2
            unfold wdA at htw hL2 ⊢
            simp only [vcV,vcD,Int.reduceEq,Int.reduceNe,Int.reduceLT,Int.reduceLE,Nat.reduceEqDiff,Nat.reduceAdd,reduceIte,reduceCtorEq,Nat.reduceLT,Nat.reduceLeDiff,eq_self,vcP2,Nat.reduceShiftRight,Nat.reduceMod]
            refine callS_of htw ?_
            simp only [vcV,vcD,Int.reduceEq,Int.reduceNe,Int.reduceLT,Int.reduceLE,Nat.reduceEqDiff,Nat.reduceAdd,reduceIte,reduceCtorEq,Nat.reduceLT,Nat.reduceLeDiff,eq_self,vcP2,Nat.reduceShiftRight,Nat.reduceMod]
            refine callS_of hL2 ?_
            simp only [vcV,vcD,Int.reduceEq,Int.reduceNe,Int.reduceLT,Int.reduceLE,Nat.reduceEqDiff,Nat.reduceAdd,reduceIte,reduceCtorEq,Nat.reduceLT,Nat.reduceLeDiff,eq_self,vcP2,Nat.reduceShiftRight,Nat.reduceMod]
            refine weakX [] (of_decide_eq_true rfl) (of_decide_eq_true rfl) ?_
            (simp only [vcW,vcV,vcD,Int.reduceEq,Int.reduceNe,Int.reduceLT,Int.reduceLE,Nat.reduceEqDiff,Nat.reduceAdd,reduceIte,reduceCtorEq,Nat.reduceLT,Nat.reduceLeDiff,eq_self,vcP2,Nat.reduceShiftRight,Nat.reduceMod])
            (repeat' first | exact trivial | (with_reducible first | exact RnB.fxB (ints_fxB _) | rfl | refine And.intro ?_ ?_) | (with_reducible (first | refine RnB.bb ?_ | refine RnB.nb ?_);simp only [vcW,vcV,vcD,Int.reduceEq,Int.reduceNe,Int.reduceLT,Int.reduceLE,Nat.reduceEqDiff,Nat.reduceAdd,reduceIte,reduceCtorEq,Nat.reduceLT,Nat.reduceLeDiff,eq_self,vcP2,Nat.reduceShiftRight,Nat.reduceMod]) | (with_reducible first | refine RnB.ii ?_ | refine RnB.app ?_) | (with_reducible refine RnB.fxB ?_;simp only [vcW,vcV,vcD,Int.reduceEq,Int.reduceNe,Int.reduceLT,Int.reduceLE,Nat.reduceEqDiff,Nat.reduceAdd,reduceIte,reduceCtorEq,Nat.reduceLT,Nat.reduceLeDiff,eq_self,vcP2,Nat.reduceShiftRight,Nat.reduceMod]) | omega)
          · rw [if_neg g] at hstep
            subst hstep
            simp only at hle3
            rw [decide_eq_false g] at hL2
            have hN1:Sound Tryz.prog 185 [wdA false D] (wdA true D):=negated_s false D
            have hP1:Sound Tryz.prog 106 [wdA false r,wdA true D] (wdA false (r - D)):=by
              have:=plus_other_s false r D (by unfold W128;omega) (by unfold W128;omega)
              rw [if_neg (by omega)] at this
              exact this
            have hO:=pwideOf_s 1 (by unfold S63;omega)
            have hP2:=plus_same_s false (q+q) 1 (by unfold W128;omega)
            have e1:(1:Int).natAbs=1:=rfl
            have e2:decide ((1:Int)<0)=false:=rfl
            rw [e1,e2] at hO
            unfold wdA at htw hL2 hN1 hP1 hO hP2 ⊢
            simp only [vcV,vcD,Int.reduceEq,Int.reduceNe,Int.reduceLT,Int.reduceLE,Nat.reduceEqDiff,Nat.reduceAdd,reduceIte,reduceCtorEq,Nat.reduceLT,Nat.reduceLeDiff,eq_self,vcP2,Nat.reduceShiftRight,Nat.reduceMod]
            refine callS_of htw ?_
            simp only [vcV,vcD,Int.reduceEq,Int.reduceNe,Int.reduceLT,Int.reduceLE,Nat.reduceEqDiff,Nat.reduceAdd,reduceIte,reduceCtorEq,Nat.reduceLT,Nat.reduceLeDiff,eq_self,vcP2,Nat.reduceShiftRight,Nat.reduceMod]
            refine callS_of hL2 ?_
            simp only [vcV,vcD,Int.reduceEq,Int.reduceNe,Int.reduceLT,Int.reduceLE,Nat.reduceEqDiff,Nat.reduceAdd,reduceIte,reduceCtorEq,Nat.reduceLT,Nat.reduceLeDiff,eq_self,vcP2,Nat.reduceShiftRight,Nat.reduceMod]
            refine callS_of hN1 ?_
            simp only [vcV,vcD,Int.reduceEq,Int.reduceNe,Int.reduceLT,Int.reduceLE,Nat.reduceEqDiff,Nat.reduceAdd,reduceIte,reduceCtorEq,Nat.reduceLT,Nat.reduceLeDiff,eq_self,vcP2,Nat.reduceShiftRight,Nat.reduceMod]
            refine callS_of hP1 ?_
            simp only [vcV,vcD,Int.reduceEq,Int.reduceNe,Int.reduceLT,Int.reduceLE,Nat.reduceEqDiff,Nat.reduceAdd,reduceIte,reduceCtorEq,Nat.reduceLT,Nat.reduceLeDiff,eq_self,vcP2,Nat.reduceShiftRight,Nat.reduceMod]
            refine callS_of hO ?_
            simp only [vcV,vcD,Int.reduceEq,Int.reduceNe,Int.reduceLT,Int.reduceLE,Nat.reduceEqDiff,Nat.reduceAdd,reduceIte,reduceCtorEq,Nat.reduceLT,Nat.reduceLeDiff,eq_self,vcP2,Nat.reduceShiftRight,Nat.reduceMod]
            refine callS_of hP2 ?_
            simp only [vcV,vcD,Int.reduceEq,Int.reduceNe,Int.reduceLT,Int.reduceLE,Nat.reduceEqDiff,Nat.reduceAdd,reduceIte,reduceCtorEq,Nat.reduceLT,Nat.reduceLeDiff,eq_self,vcP2,Nat.reduceShiftRight,Nat.reduceMod]
            refine weakX [] (of_decide_eq_true rfl) (of_decide_eq_true rfl) ?_
            (simp only [vcW,vcV,vcD,Int.reduceEq,Int.reduceNe,Int.reduceLT,Int.reduceLE,Nat.reduceEqDiff,Nat.reduceAdd,reduceIte,reduceCtorEq,Nat.reduceLT,Nat.reduceLeDiff,eq_self,vcP2,Nat.reduceShiftRight,Nat.reduceMod])
            (repeat' first | exact trivial | (with_reducible first | exact RnB.fxB (ints_fxB _) | rfl | refine And.intro ?_ ?_) | (with_reducible (first | refine RnB.bb ?_ | refine RnB.nb ?_);simp only [vcW,vcV,vcD,Int.reduceEq,Int.reduceNe,Int.reduceLT,Int.reduceLE,Nat.reduceEqDiff,Nat.reduceAdd,reduceIte,reduceCtorEq,Nat.reduceLT,Nat.reduceLeDiff,eq_self,vcP2,Nat.reduceShiftRight,Nat.reduceMod]) | (with_reducible first | refine RnB.ii ?_ | refine RnB.app ?_) | (with_reducible refine RnB.fxB ?_;simp only [vcW,vcV,vcD,Int.reduceEq,Int.reduceNe,Int.reduceLT,Int.reduceLE,Nat.reduceEqDiff,Nat.reduceAdd,reduceIte,reduceCtorEq,Nat.reduceLT,Nat.reduceLeDiff,eq_self,vcP2,Nat.reduceShiftRight,Nat.reduceMod]) | omega)
        · have hend:=ovS_end hlt hd
          rw [pwl_len]
          have hso:st (backL (pwl d (i+1)) (i+1))=stOf [(2,⟨157,3,[wdA false (ovS m d (i+1) (i+1)).1]⟩),(4,⟨157,3,[.agg [.bool false,.int .u64 0,.int .u64 0]]⟩),(5,⟨157,3,[wdA false (m / d)]⟩)]:=by
            rw [hst];simp only [backL_len,hend]
          rw [hso]
          unfold wdA
          simp only [vcV,vcD,Int.reduceEq,Int.reduceNe,Int.reduceLT,Int.reduceLE,Nat.reduceEqDiff,Nat.reduceAdd,reduceIte,reduceCtorEq,Nat.reduceLT,Nat.reduceLeDiff,eq_self,vcP2,Nat.reduceShiftRight,Nat.reduceMod]
    · rw [decide_eq_false hlt] at hL
      simp only [hg,hwl,hix,vcV,vcD,Int.reduceEq,Int.reduceNe,Int.reduceLT,Int.reduceLE,Nat.reduceEqDiff,Nat.reduceAdd,reduceIte,reduceCtorEq,Nat.reduceLT,Nat.reduceLeDiff,eq_self,vcP2,Nat.reduceShiftRight,Nat.reduceMod]
      (repeat (with_reducible refine And.intro ?_ ?_;focus (first | omega | (unfold I64;omega))))
      refine callS_of ht ?_
      simp only [vcV,vcD,Int.reduceEq,Int.reduceNe,Int.reduceLT,Int.reduceLE,Nat.reduceEqDiff,Nat.reduceAdd,reduceIte,reduceCtorEq,Nat.reduceLT,Nat.reduceLeDiff,eq_self,vcP2,Nat.reduceShiftRight,Nat.reduceMod]
      refine callS_of hL ?_
      simp only [hg,hwl,hix,vcV,vcD,Int.reduceEq,Int.reduceNe,Int.reduceLT,Int.reduceLE,Nat.reduceEqDiff,Nat.reduceAdd,reduceIte,reduceCtorEq,Nat.reduceLT,Nat.reduceLeDiff,eq_self,vcP2,Nat.reduceShiftRight,Nat.reduceMod]
      (repeat (with_reducible refine And.intro ?_ ?_;focus (first | omega | (unfold I64;omega))))
      refine callS_of ht ?_
      simp only [hwl,vcV,vcD,Int.reduceEq,Int.reduceNe,Int.reduceLT,Int.reduceLE,Nat.reduceEqDiff,Nat.reduceAdd,reduceIte,reduceCtorEq,Nat.reduceLT,Nat.reduceLeDiff,eq_self,vcP2,Nat.reduceShiftRight,Nat.reduceMod]
      (repeat (with_reducible refine And.intro ?_ ?_;focus (first | omega | (unfold I64;omega))))
      have hl2:=Nat.lt_two_pow_self (n:=i+1)
      have hl3:2 ^ (i+1)≤d * 2 ^ (i+1):=Nat.le_mul_of_pos_left _ hd
      have hsuc:=pwl_succ d (i+1)
      unfold wdA at hsuc
      refine ⟨⟨i+1,Or.inl (by omega)⟩,by simp only;omega,?_⟩
      refine weakX [(100,some 32)] (of_decide_eq_true rfl) (of_decide_eq_true rfl) ?_
      (simp only [wdA,hsuc,vcW,vcV,vcD,Int.reduceEq,Int.reduceNe,Int.reduceLT,Int.reduceLE,Nat.reduceEqDiff,Nat.reduceAdd,reduceIte,reduceCtorEq,Nat.reduceLT,Nat.reduceLeDiff,eq_self,vcP2,Nat.reduceShiftRight,Nat.reduceMod])
      (repeat' first | exact trivial | (with_reducible first | exact RnB.fxB (ints_fxB _) | rfl | refine And.intro ?_ ?_) | (with_reducible (first | refine RnB.bb ?_ | refine RnB.nb ?_);simp only [vcW,vcV,vcD,Int.reduceEq,Int.reduceNe,Int.reduceLT,Int.reduceLE,Nat.reduceEqDiff,Nat.reduceAdd,reduceIte,reduceCtorEq,Nat.reduceLT,Nat.reduceLeDiff,eq_self,vcP2,Nat.reduceShiftRight,Nat.reduceMod]) | (with_reducible first | refine RnB.ii ?_ | refine RnB.app ?_) | (with_reducible refine RnB.fxB ?_;simp only [vcW,vcV,vcD,Int.reduceEq,Int.reduceNe,Int.reduceLT,Int.reduceLE,Nat.reduceEqDiff,Nat.reduceAdd,reduceIte,reduceCtorEq,Nat.reduceLT,Nat.reduceLeDiff,eq_self,vcP2,Nat.reduceShiftRight,Nat.reduceMod]) | omega)
      all_goals exact RnB.fxB (pwl_fxB _ _)
end Go.Proofs.YtgmpcbpmnimkoaaGreatDoor

/- A solution in lowest terms. By an AI agent;nothing here is trusted. -/
namespace Go.Proofs.YtgmpcbpmnimkoaaGreatDoor
open Go.Av

def gcA (D:Bool × Nat) (P:List (Bool × Nat)):Nat:=Lin.gcds D.2 (P.map (·.2))
def qtL (D:Bool × Nat) (P:List (Bool × Nat)):List Nat:=(D :: P).map fun p=>p.2 / gcA D P
def smallQ (D:Bool × Nat) (P:List (Bool × Nat)):Bool:=(qtL D P).all fun n=>decide (n≤1000000000000)
def rdA (D:Bool × Nat) (P:List (Bool × Nat)):List AV:=if smallQ D P then [.agg [.int .i64 ((qtL D P).getD 0 0:Nat),.sl (ints (ntA ((qtL D P).drop 1)))],.int .i64 0] else [.agg [.int .i64 0,.sl []],.int .i64 8]
theorem qtL_len (D:Bool × Nat) (P:List (Bool × Nat)):(qtL D P).length=P.length+1:=by simp [qtL]
theorem gcds_app2 (d:Nat) (a:List Nat) (x:Nat):Lin.gcds d (a ++ [x])=Nat.gcd (Lin.gcds d a) x:=by simp [Lin.gcds,List.foldl_append]
theorem newsOk_w (P:List (Bool × Nat)):newsOk 3 (w2s P):=by
  intro x hx
  obtain ⟨p,_,rfl⟩:=List.mem_map.1 hx
  exact ⟨rfl,rfl⟩
theorem ntA_snoc (T:List Nat) (n:Nat):ntA (T ++ [n])=ntA T ++ [(n:Int)]:=by simp [ntA]
set_option maxHeartbeats 4000000 in
theorem reduced_s {D:Bool × Nat} {P:List (Bool × Nat)} (hDs:D.1=false) (hD0:0<D.2) (hD:D.2<170141183460469231731687303715884105728) (hP:∀ p ∈ P,p.2<170141183460469231731687303715884105728) (hl:P.length≤5) :
    Sound Tryz.prog 96 [wdA D.1 D.2,.sl (w2s P)] (.tup (rdA D P)):=by
  refine sound_W f_pulse_reduced (Nat.le_of_ble_eq_true rfl) ?_
  have hmax:=maxLen_big
  have hg:∀ i,Lin.gcds D.2 ((P.take i).map (·.2))≤D.2:=fun i=>Nat.le_of_dvd hD0 (Lin.gcds_dvd _ _)
  unfold wdA
  simp only [c_pulse_reduced,w2s_length,vcV,vcD,Int.reduceEq,Int.reduceNe,Int.reduceLT,Int.reduceLE,Nat.reduceEqDiff,Nat.reduceAdd,reduceIte,reduceCtorEq,Nat.reduceLT,Nat.reduceLeDiff,eq_self,vcP2,Nat.reduceShiftRight,Nat.reduceMod]
  refine W_loop (t:=.mk) (α:=PSigma fun i:Nat=>i≤P.length) (fun ⟨i,_⟩=>(envOf [(1,.sl (w2s P)),(2,.ptr 2 0 0),(4,.ptr 4 0 0),(5,.int .i64 0),(6,.ptr 6 0 0),(14,.sl (w2s P)),(15,.int .i64 P.length),(16,.int .i64 i)],stOf [(2,⟨157,3,[wdA D.1 D.2]⟩),(4,⟨29,2,[.agg [.int .i64 0,.nils]]⟩),(6,⟨157,3,[wdA false (Lin.gcds D.2 ((P.take i).map (·.2)))]⟩)])) (fun x=>P.length - x.1) ⟨0,Nat.zero_le _⟩ ?_ (fun ⟨i,hiS⟩=>?_)
  · have z:Lin.gcds D.2 []=D.2:=rfl
    refine weakX [] (of_decide_eq_true rfl) (of_decide_eq_true rfl) ?_
    (simp only [z,vcW,vcV,vcD,Int.reduceEq,Int.reduceNe,Int.reduceLT,Int.reduceLE,Nat.reduceEqDiff,Nat.reduceAdd,reduceIte,reduceCtorEq,Nat.reduceLT,Nat.reduceLeDiff,eq_self,vcP2,Nat.reduceShiftRight,Nat.reduceMod])
    repeat' (with_reducible refine And.intro ?_ ?_)
    try any_goals (with_reducible exact RnB.wide)
    all_goals try (simp only [wdA,hDs,vcW,vcV,vcD,Int.reduceEq,Int.reduceNe,Int.reduceLT,Int.reduceLE,Nat.reduceEqDiff,Nat.reduceAdd,reduceIte,reduceCtorEq,Nat.reduceLT,Nat.reduceLeDiff,eq_self,vcP2,Nat.reduceShiftRight,Nat.reduceMod])
    (repeat' first | exact trivial | (with_reducible first | exact RnB.fxB (ints_fxB _) | rfl | refine And.intro ?_ ?_) | (with_reducible (first | refine RnB.bb ?_ | refine RnB.nb ?_);simp only [vcW,vcV,vcD,Int.reduceEq,Int.reduceNe,Int.reduceLT,Int.reduceLE,Nat.reduceEqDiff,Nat.reduceAdd,reduceIte,reduceCtorEq,Nat.reduceLT,Nat.reduceLeDiff,eq_self,vcP2,Nat.reduceShiftRight,Nat.reduceMod]) | (with_reducible first | refine RnB.ii ?_ | refine RnB.app ?_) | (with_reducible refine RnB.fxB ?_;simp only [vcW,vcV,vcD,Int.reduceEq,Int.reduceNe,Int.reduceLT,Int.reduceLE,Nat.reduceEqDiff,Nat.reduceAdd,reduceIte,reduceCtorEq,Nat.reduceLT,Nat.reduceLeDiff,eq_self,vcP2,Nat.reduceShiftRight,Nat.reduceMod]) | omega)
    all_goals trace_state
  · dsimp only at hiS ⊢
    by_cases h':i<P.length
    · have hc1:(i:Int)<P.length:=by omega
      have hpi:=hP _ (List.getElem_mem h')
      have hgi:=hg i
      have hnx:Lin.gcds D.2 ((P.take (i+1)).map (·.2))=Nat.gcd (Lin.gcds D.2 ((P.take i).map (·.2))) P[i].2:=by
        rw [List.take_succ_eq_append_getElem h',List.map_append];exact gcds_app2 _ _ _
      have hget:=w2s_get P i h'
      generalize Lin.gcds D.2 ((P.take i).map (·.2))=g at *
      obtain ⟨p,hp⟩:∃ p,p=P[i]:=⟨_,rfl⟩
      rw [← hp] at hpi hnx hget
      have hC:=common_s false p.1 g p.2 (by unfold W128;omega) (by unfold W128;omega) (by unfold W128;omega)
      rw [← hnx] at hC
      unfold wdA at hC hget ⊢
      simp only [hc1,hget,vcV,vcD,Int.reduceEq,Int.reduceNe,Int.reduceLT,Int.reduceLE,Nat.reduceEqDiff,Nat.reduceAdd,reduceIte,reduceCtorEq,Nat.reduceLT,Nat.reduceLeDiff,eq_self,vcP2,Nat.reduceShiftRight,Nat.reduceMod]
      (repeat (with_reducible refine And.intro ?_ ?_;focus (first | omega | (unfold I64;omega))))
      refine callS_of hC ?_
      simp only [vcV,vcD,Int.reduceEq,Int.reduceNe,Int.reduceLT,Int.reduceLE,Nat.reduceEqDiff,Nat.reduceAdd,reduceIte,reduceCtorEq,Nat.reduceLT,Nat.reduceLeDiff,eq_self,vcP2,Nat.reduceShiftRight,Nat.reduceMod]
      (repeat (with_reducible refine And.intro ?_ ?_;focus (first | omega | (unfold I64;omega))))
      refine ⟨⟨i+1,h'⟩,by simp only;omega,?_⟩
      refine weakX [] (of_decide_eq_true rfl) (of_decide_eq_true rfl) ?_
      (simp only [wdA,vcW,vcV,vcD,Int.reduceEq,Int.reduceNe,Int.reduceLT,Int.reduceLE,Nat.reduceEqDiff,Nat.reduceAdd,reduceIte,reduceCtorEq,Nat.reduceLT,Nat.reduceLeDiff,eq_self,vcP2,Nat.reduceShiftRight,Nat.reduceMod])
      repeat' (with_reducible refine And.intro ?_ ?_)
      try any_goals (with_reducible exact RnB.wide)
      (repeat' first | exact trivial | (with_reducible first | exact RnB.fxB (ints_fxB _) | rfl | refine And.intro ?_ ?_) | (with_reducible (first | refine RnB.bb ?_ | refine RnB.nb ?_);simp only [vcW,vcV,vcD,Int.reduceEq,Int.reduceNe,Int.reduceLT,Int.reduceLE,Nat.reduceEqDiff,Nat.reduceAdd,reduceIte,reduceCtorEq,Nat.reduceLT,Nat.reduceLeDiff,eq_self,vcP2,Nat.reduceShiftRight,Nat.reduceMod]) | (with_reducible first | refine RnB.ii ?_ | refine RnB.app ?_) | (with_reducible refine RnB.fxB ?_;simp only [vcW,vcV,vcD,Int.reduceEq,Int.reduceNe,Int.reduceLT,Int.reduceLE,Nat.reduceEqDiff,Nat.reduceAdd,reduceIte,reduceCtorEq,Nat.reduceLT,Nat.reduceLeDiff,eq_self,vcP2,Nat.reduceShiftRight,Nat.reduceMod]) | omega)
      all_goals trace_state
    · have hil:i=P.length:=by omega
      subst hil
      have hc1:¬ (P.length:Int)<P.length:=by omega
      have hgf:Lin.gcds D.2 ((P.take P.length).map (·.2))=gcA D P:=by rw [List.take_length];rfl
      have hgl:=hg P.length
      rw [hgf] at hgl ⊢
      have hg0:0<gcA D P:=Nat.pos_of_dvd_of_pos (Lin.gcds_dvd _ _) hD0
      have hql:=qtL_len D P
      have hq:∀ i (h:i<P.length+1),(qtL D P)[i]'(by omega)=((D :: P)[i]'(by simp;omega)).2 / gcA D P:=fun i h=>by simp only [qtL,List.getElem_map]
      have hrd:rdA D P=if smallQ D P then [.agg [.int .i64 ((qtL D P).getD 0 0:Nat),.sl (ints (ntA ((qtL D P).drop 1)))],.int .i64 0] else [.agg [.int .i64 0,.sl []],.int .i64 8]:=rfl
      have hsm:smallQ D P=(qtL D P).all fun n=>decide (n≤1000000000000):=rfl
      rw [hrd]
      obtain ⟨Q,hQ⟩:∃ Q,Q=qtL D P:=⟨_,rfl⟩
      have hqx:∀ i (h:i<P.length+1) (h2:i<Q.length),Q[i]=((D :: P)[i]'(by simp;omega)).2 / gcA D P:=fun i h h2=>by subst hQ;exact hq i h
      rw [← hQ] at hql hsm ⊢
      generalize gcA D P=g at *
      unfold wdA
      simp only [hc1,vcV,vcD,Int.reduceEq,Int.reduceNe,Int.reduceLT,Int.reduceLE,Nat.reduceEqDiff,Nat.reduceAdd,reduceIte,reduceCtorEq,Nat.reduceLT,Nat.reduceLeDiff,eq_self,vcP2,Nat.reduceShiftRight,Nat.reduceMod]
      refine ⟨newsOk_w P,⟨by rw [w2s_length];omega,by rw [w2s_length];omega⟩,?_⟩
      refine W_loop (t:=.mk) (α:=PSigma fun i:Nat=>i≤P.length+1∧(Q.take i).all (fun n=>decide (n≤1000000000000))=true) (fun ⟨i,_⟩=>(envOf [(4,.ptr 4 0 0),(5,.int .i64 0),(6,.ptr 6 0 0),(9,.ptr 9 0 0),(27,.buf 100 (P.length+1)),(28,.int .i64 (P.length+1:Nat)),(29,.int .i64 i)],stOf [(4,⟨29,2,[.agg [.int .i64 0,.nils]]⟩),(6,⟨157,3,[wdA false g]⟩),(9,⟨29,2,[.agg [.int .i64 ((Q.take i).getD 0 0:Nat),.buf 101 (i - 1)]]⟩),(100,⟨157,3,w2s (D :: P)⟩),(101,⟨3,1,ints (ntA ((Q.take i).drop 1))⟩)])) (fun x=>P.length+1 - x.1) ⟨0,Nat.zero_le _,rfl⟩ ?_ (fun ⟨i,hiS,hal⟩=>?_)
      · have z:ints (ntA (List.drop 1 []))=[]:=rfl
        have z2:((([]:List Nat).getD 0 0:Nat):Int)=0:=rfl
        have z3:w2s (D :: P)=wdA D.1 D.2 :: w2s P:=rfl
        have z4:1+(w2s P).length=P.length+1:=by rw [w2s_length];omega
        have z5:0 - 1=0:=rfl
        refine weakX [(100,some 27),(101,none)] (of_decide_eq_true rfl) (of_decide_eq_true rfl) ?_
        (simp only [z,z2,z3,z4,z5,wdA,vcW,vcV,vcD,Int.reduceEq,Int.reduceNe,Int.reduceLT,Int.reduceLE,Nat.reduceEqDiff,Nat.reduceAdd,reduceIte,reduceCtorEq,Nat.reduceLT,Nat.reduceLeDiff,eq_self,vcP2,Nat.reduceShiftRight,Nat.reduceMod])
        repeat' (with_reducible refine And.intro ?_ ?_)
        try any_goals (with_reducible exact RnB.wide)
        try any_goals exact RnB.agg2 rfl rfl rfl rfl (.imm _ rfl) (.virt 101 _ rfl rfl)
        try any_goals (with_reducible exact RnB.fxB (w2s_fxB (D :: P)))
        (repeat' first | exact trivial | (with_reducible first | exact RnB.fxB (ints_fxB _) | rfl | refine And.intro ?_ ?_) | (with_reducible (first | refine RnB.bb ?_ | refine RnB.nb ?_);simp only [vcW,vcV,vcD,Int.reduceEq,Int.reduceNe,Int.reduceLT,Int.reduceLE,Nat.reduceEqDiff,Nat.reduceAdd,reduceIte,reduceCtorEq,Nat.reduceLT,Nat.reduceLeDiff,eq_self,vcP2,Nat.reduceShiftRight,Nat.reduceMod]) | (with_reducible first | refine RnB.ii ?_ | refine RnB.app ?_) | (with_reducible refine RnB.fxB ?_;simp only [vcW,vcV,vcD,Int.reduceEq,Int.reduceNe,Int.reduceLT,Int.reduceLE,Nat.reduceEqDiff,Nat.reduceAdd,reduceIte,reduceCtorEq,Nat.reduceLT,Nat.reduceLeDiff,eq_self,vcP2,Nat.reduceShiftRight,Nat.reduceMod]) | omega)
        all_goals exact w2s_fxB P
      · dsimp only at hiS hal ⊢
        by_cases h':i<P.length+1
        · have hc1:(i:Int)<(P.length+1:Nat):=by omega
          have hDP:i<(D :: P).length:=by simp;omega
          have hget:=w2s_get (D :: P) i hDP
          have hwl:(w2s (D :: P)).length=P.length+1:=by rw [w2s_length];rfl
          have hqi:=hqx i h' (by omega)
          have hpb:((D :: P)[i]).2<170141183460469231731687303715884105728:=by
            rcases List.mem_cons.1 (List.getElem_mem hDP) with e | e
            · rw [e];exact hD
            · exact hP _ e
          obtain ⟨p,hp⟩:∃ p,p=(D :: P)[i]:=⟨_,rfl⟩
          rw [← hp] at hget hpb hqi
          have hO:=over_s p.1 p.2 g (by unfold W128;omega) hg0 (by unfold W128;omega)
          have hQl:i<Q.length:=by omega
          obtain ⟨q,hqd⟩:∃ q,q=p.2 / g:=⟨_,rfl⟩
          have hqle:q≤p.2:=by rw [hqd];exact Nat.div_le_self _ _
          rw [← hqd] at hqi hO
          have hO':Sound Tryz.prog 188 [wdA p.1 p.2,wdA false g] (wdA false q):=hO
          unfold wdA at hO' hget ⊢
          have hbig:¬ (q / 18446744073709551616=0∧q % 18446744073709551616≤1000000000000)→smallQ D P=false:=fun h=>by
            rw [hsm,List.all_eq_false]
            exact ⟨Q[i],List.getElem_mem hQl,by rw [hqi];simp;omega⟩
          simp only [hc1,hget,hwl,vcV,vcD,Int.reduceEq,Int.reduceNe,Int.reduceLT,Int.reduceLE,Nat.reduceEqDiff,Nat.reduceAdd,reduceIte,reduceCtorEq,Nat.reduceLT,Nat.reduceLeDiff,eq_self,vcP2,Nat.reduceShiftRight,Nat.reduceMod]
          (repeat (with_reducible refine And.intro ?_ ?_;focus (first | omega | (unfold I64;omega))))
          refine callS_of hO' ?_
          by_cases q1:q / 18446744073709551616=0
          case neg =>
            have q1':¬ ((q / 18446744073709551616:Nat):Int)=0:=by omega
            rw [hbig (fun h=>q1 h.1)]
            simp only [q1',vcV,vcD,Int.reduceEq,Int.reduceNe,Int.reduceLT,Int.reduceLE,Nat.reduceEqDiff,Nat.reduceAdd,reduceIte,reduceCtorEq,Nat.reduceLT,Nat.reduceLeDiff,eq_self,vcP2,Nat.reduceShiftRight,Nat.reduceMod]
          have q1':((q / 18446744073709551616:Nat):Int)=0:=by omega
          by_cases q2:q % 18446744073709551616≤1000000000000
          case neg =>
            have q2':(1000000000000:Int)<((q % 18446744073709551616:Nat):Int):=by omega
            rw [hbig (fun h=>q2 h.2)]
            simp only [q1',q2',vcV,vcD,Int.reduceEq,Int.reduceNe,Int.reduceLT,Int.reduceLE,Nat.reduceEqDiff,Nat.reduceAdd,reduceIte,reduceCtorEq,Nat.reduceLT,Nat.reduceLeDiff,eq_self,vcP2,Nat.reduceShiftRight,Nat.reduceMod]
          have q2':¬ (1000000000000:Int)<(q:Int):=by omega
          have hqm:q % 18446744073709551616=q:=by omega
          have hts:Q.take (i+1)=Q.take i ++ [q]:=by rw [List.take_succ_eq_append_getElem hQl,hqi]
          have hal2:(Q.take (i+1)).all (fun n=>decide (n≤1000000000000))=true:=by rw [hts,List.all_append,hal];simp;omega
          by_cases h0:i=0
          · have h0':(i:Int)=0:=by omega
            subst h0
            have hz0:((0:Nat):Int)=0:=rfl
            have t1:Q.take 1=[q]:=hts
            have t2:(([q]:List Nat).getD 0 0)=q:=rfl
            have t3:List.drop 1 ([q]:List Nat)=[]:=rfl
            have t4:(0:Nat) - 1=0:=rfl
            have t5:1 - 1=0:=rfl
            have t6:ints (ntA [])=[]:=rfl
            have t7:List.drop 1 ([]:List Nat)=[]:=rfl
            have t8:(0:Int)+1=1:=rfl
            have t9:((1:Nat):Int)=1:=rfl
            simp only [q1',q2',hqm,hz0,vcV,vcD,Int.reduceEq,Int.reduceNe,Int.reduceLT,Int.reduceLE,Nat.reduceEqDiff,Nat.reduceAdd,reduceIte,reduceCtorEq,Nat.reduceLT,Nat.reduceLeDiff,eq_self,vcP2,Nat.reduceShiftRight,Nat.reduceMod]
            refine ⟨by unfold I64;omega,by unfold I64;omega,⟨1,by omega,hal2⟩,by simp only;omega,?_⟩
            refine weakX [(100,some 100),(101,some 101)] (of_decide_eq_true rfl) (of_decide_eq_true rfl) ?_
            (simp only [t1,t2,t3,t4,t5,t6,t7,t8,t9,wdA,vcW,vcV,vcD,Int.reduceEq,Int.reduceNe,Int.reduceLT,Int.reduceLE,Nat.reduceEqDiff,Nat.reduceAdd,reduceIte,reduceCtorEq,Nat.reduceLT,Nat.reduceLeDiff,eq_self,vcP2,Nat.reduceShiftRight,Nat.reduceMod])
            repeat' (with_reducible refine And.intro ?_ ?_)
            try any_goals (with_reducible exact RnB.wide)
            try any_goals exact RnB.agg2 rfl rfl rfl rfl (.imm _ rfl) (.buf 101 101 _ rfl)
            try any_goals (with_reducible exact RnB.fxB (w2s_fxB (D :: P)))
            (repeat' first | exact trivial | (with_reducible first | exact RnB.fxB (ints_fxB _) | rfl | refine And.intro ?_ ?_) | (with_reducible (first | refine RnB.bb ?_ | refine RnB.nb ?_);simp only [vcW,vcV,vcD,Int.reduceEq,Int.reduceNe,Int.reduceLT,Int.reduceLE,Nat.reduceEqDiff,Nat.reduceAdd,reduceIte,reduceCtorEq,Nat.reduceLT,Nat.reduceLeDiff,eq_self,vcP2,Nat.reduceShiftRight,Nat.reduceMod]) | (with_reducible first | refine RnB.ii ?_ | refine RnB.app ?_) | (with_reducible refine RnB.fxB ?_;simp only [vcW,vcV,vcD,Int.reduceEq,Int.reduceNe,Int.reduceLT,Int.reduceLE,Nat.reduceEqDiff,Nat.reduceAdd,reduceIte,reduceCtorEq,Nat.reduceLT,Nat.reduceLeDiff,eq_self,vcP2,Nat.reduceShiftRight,Nat.reduceMod]) | omega)
            all_goals trace_state
          · have h0':¬ (i:Int)=0:=by omega
            have hl1:((Q.take i).drop 1).length=i - 1:=by rw [List.length_drop,List.length_take];omega
            have hl2:(ntA ((Q.take i).drop 1)).length=i - 1:=by rw [ntA_len];exact hl1
            have hd1:(Q.take (i+1)).drop 1=(Q.take i).drop 1 ++ [q]:=by
              rw [hts,List.drop_append_of_le_length (by rw [List.length_take];omega)]
            have hd2:ints (ntA ((Q.take (i+1)).drop 1))=ints (ntA ((Q.take i).drop 1)) ++ [.int .i64 q]:=by rw [hd1,ntA_snoc,ints_append];rfl
            have hd3:(Q.take (i+1)).getD 0 0=(Q.take i).getD 0 0:=by
              rw [hts,List.getD_eq_getElem?_getD,List.getD_eq_getElem?_getD,List.getElem?_append_left (by rw [List.length_take];omega)]
            have hd4:i - 1+1=i:=by omega
            have hd5:i+1 - 1=i:=by omega
            simp only [q1',q2',hqm,h0',ints_length,hl2,vcV,vcD,Int.reduceEq,Int.reduceNe,Int.reduceLT,Int.reduceLE,Nat.reduceEqDiff,Nat.reduceAdd,reduceIte,reduceCtorEq,Nat.reduceLT,Nat.reduceLeDiff,eq_self,vcP2,Nat.reduceShiftRight,Nat.reduceMod]
            refine ⟨by unfold I64;omega,⟨by omega,by omega⟩,by unfold I64;omega,⟨i+1,by omega,hal2⟩,by simp only;omega,?_⟩
            refine weakX [(100,some 100),(101,some 58)] (of_decide_eq_true rfl) (of_decide_eq_true rfl) ?_
            (simp only [hd2,hd3,hd4,hd5,wdA,vcW,vcV,vcD,Int.reduceEq,Int.reduceNe,Int.reduceLT,Int.reduceLE,Nat.reduceEqDiff,Nat.reduceAdd,reduceIte,reduceCtorEq,Nat.reduceLT,Nat.reduceLeDiff,eq_self,vcP2,Nat.reduceShiftRight,Nat.reduceMod])
            repeat' (with_reducible refine And.intro ?_ ?_)
            try any_goals (with_reducible exact RnB.wide)
            try any_goals exact RnB.agg2 rfl rfl rfl rfl (.imm _ rfl) (.buf 58 101 _ rfl)
            try any_goals (with_reducible exact RnB.fxB (w2s_fxB (D :: P)))
            (repeat' first | exact trivial | (with_reducible first | exact RnB.fxB (ints_fxB _) | rfl | refine And.intro ?_ ?_) | (with_reducible (first | refine RnB.bb ?_ | refine RnB.nb ?_);simp only [vcW,vcV,vcD,Int.reduceEq,Int.reduceNe,Int.reduceLT,Int.reduceLE,Nat.reduceEqDiff,Nat.reduceAdd,reduceIte,reduceCtorEq,Nat.reduceLT,Nat.reduceLeDiff,eq_self,vcP2,Nat.reduceShiftRight,Nat.reduceMod]) | (with_reducible first | refine RnB.ii ?_ | refine RnB.app ?_) | (with_reducible refine RnB.fxB ?_;simp only [vcW,vcV,vcD,Int.reduceEq,Int.reduceNe,Int.reduceLT,Int.reduceLE,Nat.reduceEqDiff,Nat.reduceAdd,reduceIte,reduceCtorEq,Nat.reduceLT,Nat.reduceLeDiff,eq_self,vcP2,Nat.reduceShiftRight,Nat.reduceMod]) | omega)
            all_goals (rw [ints_append];rfl)
        · have hil:i=P.length+1:=by omega
          subst hil
          have hc1:¬ ((P.length+1:Nat):Int)<(P.length+1:Nat):=by omega
          have hta:Q.take (P.length+1)=Q:=List.take_of_length_le (by omega)
          rw [hta] at hal
          rw [hsm,hal,if_pos rfl,hta]
          unfold wdA
          simp only [hc1,vcV,vcD,Int.reduceEq,Int.reduceNe,Int.reduceLT,Int.reduceLE,Nat.reduceEqDiff,Nat.reduceAdd,reduceIte,reduceCtorEq,Nat.reduceLT,Nat.reduceLeDiff,eq_self,vcP2,Nat.reduceShiftRight,Nat.reduceMod]
          rw [borB_good _ _ _ _ _ (by rw [ints_length,ntA_len,List.length_drop];omega) (ints_fx _)]
end Go.Proofs.YtgmpcbpmnimkoaaGreatDoor

/- The ticks of a set. By an AI agent;nothing here is trusted. -/
namespace Go.Proofs.YtgmpcbpmnimkoaaGreatDoor
open Go.Av

def tk5 (s:Nat):List Nat:=(List.range 5).filter fun k=>s.testBit k
def tabZ:List (Nat × Nat × Nat × MC × List (Nat × Option (Option Nat))):=[(93,8,1,c_math_bits_TrailingZeros,[(2,none)]),(183,14,1,c_math_bits_TrailingZeros64,[(2,none)])]
theorem tabZ_ok:∀ f c,lookC tabZ f=some c→cFun Tryz.prog f=some c:=by
  refine lookC_ok ?_
  intro p hp
  simp only [tabZ,List.mem_cons,List.not_mem_nil,or_false] at hp
  rcases hp with rfl | rfl
  · exact f_math_bits_TrailingZeros
  · exact f_math_bits_TrailingZeros64
noncomputable def runZ (r:Nat):Option Int:=match callN (fun _ _=>none) (fun _ _=>none) (lookC tabZ) 40 5 93 [.int .u64 (r:Int)] with
  | some (.int .i64 n)=>some n
  | _=>none
theorem runZ_s {r:Nat} {n:Int} (h:runZ r=some n):Sound Tryz.prog 93 [.int .u64 (r:Int)] (.int .i64 n):=by
  unfold runZ at h
  split at h
  · rename_i m hm
    injection h with h
    subst h
    exact callN_sound (fun f a v h=>by cases h) (fun g c x h=>by cases h) tabZ_ok 5 _ _ _ hm
  · cases h
theorem zeros_run:((List.range 31).all fun r=>decide (runZ (r+1)=some (((tk5 (r+1)).getD 0 0:Nat):Int)))=true:=by kernel_rfl
theorem zeros_s {r:Nat} (h0:0<r) (h:r<32):Sound Tryz.prog 93 [.int .u64 (r:Int)] (.int .i64 ((tk5 r).getD 0 0:Nat)):=by
  have h1:=List.all_eq_true.1 zeros_run (r - 1) (List.mem_range.2 (by omega))
  rw [show r - 1+1=r by omega] at h1
  exact runZ_s (of_decide_eq_true h1)
theorem tk5_run:((List.range 31).all fun r=>decide (tk5 (r+1)=(tk5 (r+1)).getD 0 0 :: tk5 ((r+1) &&& r)) && decide ((r+1) &&& r<r+1))=true:=by decide +kernel
theorem tk5_step {r:Nat} (h0:0<r) (h:r<32):tk5 r=(tk5 r).getD 0 0 :: tk5 (r &&& (r - 1))∧r &&& (r - 1)<r:=by
  have h1:=List.all_eq_true.1 tk5_run (r - 1) (List.mem_range.2 (by omega))
  rw [Bool.and_eq_true,show r - 1+1=r by omega] at h1
  exact ⟨of_decide_eq_true h1.1,of_decide_eq_true h1.2⟩
theorem tk5_tk:((List.range 6).all fun S=>(List.range (2 ^ S)).all fun s=>decide (tk5 s=Lin.ticks S fun k=>s.testBit k))=true:=by decide +kernel
theorem tk5_eq {S s:Nat} (hS:S≤5) (hs:s<2 ^ S):tk5 s=Lin.ticks S fun k=>s.testBit k:=by
  have h1:=List.all_eq_true.1 tk5_tk S (List.mem_range.2 (by omega))
  have h2:=List.all_eq_true.1 h1 s (List.mem_range.2 hs)
  exact of_decide_eq_true h2
theorem and_g (x y:Nat) (hx:x<18446744073709551616) (hy:y<18446744073709551616):IntKind.u64.wrap ((((BitVec.ofInt IntKind.u64.bits (x:Int)) &&& (BitVec.ofInt IntKind.u64.bits (y:Int))).toNat:Nat):Int)=((x &&& y:Nat):Int):=by
  have e1:∀ x:Nat,x<18446744073709551616→(BitVec.ofInt IntKind.u64.bits (x:Int)).toNat=x:=fun x hx=>by
    rw [BitVec.toNat_ofInt]
    show ((x:Int) % ((2 ^ 64:Nat):Int)).toNat=x
    omega
  rw [BitVec.toNat_and,e1 _ hx,e1 _ hy]
  have:x &&& y≤x:=Nat.and_le_left
  exact u64_wrap (by omega)
end Go.Proofs.YtgmpcbpmnimkoaaGreatDoor

/- The fit of samples. By an AI agent;nothing here is trusted. -/
namespace Go.Proofs.YtgmpcbpmnimkoaaGreatDoor
open Go.Av

theorem ent_gm {items:List Int} {S r c:Nat} (hr:r<S) (hc:c<S):ent (gmP items S S) r c=Lin.gr items (S+items.length - 1) r c:=by
  unfold ent gmP gmQ
  simp [hr,hc]
theorem gr_bd {items:List Int} (hi:∀ x ∈ items, -100≤x∧x≤100) (N r c:Nat) : -(N * 10000:Int)≤Lin.gr items N r c∧Lin.gr items N r c≤N * 10000:=by
  unfold Lin.gr
  refine Lin.smI_bd fun n _=>?_
  exact prod_bd (M:=100) (by omega) (itm_bd hi n r) (itm_bd hi n c)
theorem getD_none {G:List (List Int)} {r:Nat} (h:G.length≤r):G.getD r []=[]:=by rw [List.getD_eq_getElem?_getD,List.getElem?_eq_none h];rfl
theorem getD_row {G:List (List Int)} {r:Nat} (h:r<G.length):G.getD r []=G[r]:=by rw [List.getD_eq_getElem?_getD,List.getElem?_eq_getElem h];rfl
theorem ent_lo {G:List (List Int)} {r c n:Nat} (hG:G.length=n) (hr:∀ g ∈ G,g.length=n) (h:¬ (r<n∧c<n)):ent G r c=0:=by
  unfold ent
  by_cases h1:r<n
  · have:c ≥ n:=by omega
    rw [getD_row (show r<G.length by omega),List.getD_eq_getElem?_getD,List.getElem?_eq_none (by rw [hr _ (List.getElem_mem _)];exact this)];rfl
  · rw [getD_none (by omega)];rfl
theorem gm_mem {items:List Int} {S:Nat} {g:List Int} (h:g ∈ gmP items S S):g.length=S:=by
  obtain ⟨k,_,rfl⟩:=List.mem_map.1 h
  exact gmQ_len _ _ _ _
theorem prB_5 {n:Nat} (h:n≤5):prB n (fun _=>6000000)<170141183460469231731687303715884105728:=by
  match n,h with
  | 0,_=>decide
  | 1,_=>decide
  | 2,_=>decide
  | 3,_=>decide
  | 4,_=>decide
  | 5,_=>decide
theorem prB_g {n:Nat} (h:n≤5):prB n (fun _=>100000)≤1200000000000000000000000000:=by
  match n,h with
  | 0,_=>decide
  | 1,_=>decide
  | 2,_=>decide
  | 3,_=>decide
  | 4,_=>decide
  | 5,_=>decide
theorem prB_r {n j:Nat} (h:n≤5) (hj:j<n):prB n (fun c=>if c=j then 6000000 else 100000)≤72000000000000000000000000000:=by
  have key:((List.range 6).all fun n=>(List.range n).all fun j=>decide (prB n (fun c=>if c=j then 6000000 else 100000)≤72000000000000000000000000000))=true:=by decide +kernel
  have h1:=List.all_eq_true.1 key n (List.mem_range.2 (by omega))
  have h2:=List.all_eq_true.1 h1 j (List.mem_range.2 hj)
  exact of_decide_eq_true h2
structure FtB (items l:List Int) (S:Nat):Prop where
  i1:1≤items.length
  i6:items.length≤6
  ib:∀ x ∈ items, -100≤x∧x≤100
  ne:∃ x ∈ items,x ≠ 0
  s5:1≤S∧S≤5
  lb:∀ x ∈ l, -10000≤x∧x≤10000
  ll:l.length=S+items.length - 1
theorem FtB.eb {items l:List Int} {S:Nat} (F:FtB items l S) (r c:Nat):(ent (gmP items S S) r c).natAbs≤100000:=by
  by_cases h:r<S∧c<S
  · rw [ent_gm h.1 h.2]
    have h1:=gr_bd F.ib (S+items.length - 1) r c
    have h2:=F.i6
    have h3:=F.s5
    omega
  · rw [ent_lo (gmP_len _ _ _) (fun g hg=>gm_mem hg) h];decide
theorem FtB.rb {items l:List Int} {S:Nat} (F:FtB items l S) (k:Nat):((rhP items l S).getD k 0).natAbs≤6000000:=by
  by_cases h:k<S
  · rw [getD_at (by rw [rhP_len];exact h)]
    unfold rhP
    rw [List.getElem_map,List.getElem_range]
    have h1:=agT_bd (M:=10000) (by omega) F.ib F.lb k items.length
    have h2:=F.i6
    omega
  · rw [List.getD_eq_getElem?_getD,List.getElem?_eq_none (by rw [rhP_len];omega)];decide
theorem tk5_lt {S s:Nat} (hS:S≤5) (hs:s<2 ^ S):∀ k ∈ tk5 s,k<S:=fun k hk=>by
  rw [tk5_eq hS hs] at hk
  exact (Lin.ticks_lt hk).1
theorem tk5_len (s:Nat):(tk5 s).length≤5:=by
  unfold tk5
  have:=List.length_filter_le (fun k=>s.testBit k) (List.range 5)
  simpa using this
theorem FtB.sl {items l:List Int} {S:Nat} (F:FtB items l S) {s:Nat} (hs:s<2 ^ S):SlB (gmP items S S) (rhP items l S) (tk5 s) 100000 6000000:=by
  refine ⟨F.eb,F.rb,⟨by rw [gmP_len,rhP_len],by rw [rhP_len];exact F.s5.2,fun g hg=>by rw [gm_mem hg,rhP_len]⟩,fun k hk=>by rw [rhP_len];exact tk5_lt F.s5.2 hs k hk,tk5_len s,⟨by omega,by omega,by omega⟩,prB_5 (tk5_len s)⟩
def dnS (items:List Int) (S s:Nat):Bool × Nat:=dtP (tk5 s).length (sqP (gmP items S S) (tk5 s) (tk5 s).length)
def ptS (items l:List Int) (S s:Nat):List (Bool × Nat):=slP (gmP items S S) (rhP items l S) (tk5 s) (tk5 s).length
def bsS (items l:List Int) (S s:Nat):Bool:=isB (dnS items S s) (ptS items l S s) (gmP items S S) (rhP items l S)
theorem FtB.db {items l:List Int} {S:Nat} (F:FtB items l S) {s:Nat} (hs:s<2 ^ S):(dnS items S s).2≤1200000000000000000000000000:=by
  have h1:=bnd_sq (F.sl hs)
  exact Nat.le_trans (dtP_le (sqP_len _ _ (Nat.le_refl _)) h1) (prB_g (tk5_len s))
theorem slP_le {G:List (List Int)} {H:List Int} {T:List Nat} {PM:Nat} (h:∀ n,n<T.length→(dtP T.length (rpP G H T n T.length)).2≤PM):∀ n,n≤T.length→∀ x ∈ slP G H T n,x.2≤PM
  | 0,_,x,hx=>by
    rw [slP] at hx
    rw [(List.mem_replicate.1 hx).2];exact Nat.zero_le _
  | n+1,hn,x,hx=>by
    rw [slP] at hx
    rcases List.mem_or_eq_of_mem_set hx with e | e
    · exact slP_le h n (by omega) x e
    · rw [e];exact h n (by omega)
theorem FtB.pb {items l:List Int} {S:Nat} (F:FtB items l S) {s:Nat} (hs:s<2 ^ S):∀ x ∈ ptS items l S s,x.2≤72000000000000000000000000000:=by
  refine slP_le (fun n hn=>?_) _ (Nat.le_refl _)
  exact Nat.le_trans (dtP_le (rpP_len _ _ _ _ (Nat.le_refl _)) (bnd_rp (F.sl hs) n)) (prB_r (tk5_len s) hn)
theorem ptS_len (items l:List Int) (S s:Nat):(ptS items l S s).length=S:=by unfold ptS;rw [slP_len,rhP_len]
theorem FtB.bd {items l:List Int} {S:Nat} (F:FtB items l S) {s:Nat} (hs:s<2 ^ S):BdB (dnS items S s) (ptS items l S s) (gmP items S S) (rhP items l S) 1200000000000000000000000000 72000000000000000000000000000 6000000 100000:=by
  refine ⟨F.db hs,F.pb hs,fun x hx=>?_,fun g hg=>⟨by rw [gm_mem hg,ptS_len],fun x hx=>?_⟩,⟨by rw [ptS_len,gmP_len],by rw [rhP_len,gmP_len],by rw [gmP_len];exact F.s5.2⟩,by decide,by decide⟩
  · obtain ⟨k,hk,rfl⟩:=List.getElem_of_mem hx
    have:=F.rb k
    rw [getD_at hk] at this;exact this
  · obtain ⟨k,hk,rfl⟩:=List.getElem_of_mem hg
    obtain ⟨c,hc,rfl⟩:=List.getElem_of_mem hx
    have:=F.eb k c
    unfold ent at this
    rw [getD_row hk,getD_at hc] at this
    exact this
theorem FtB.dpos {items l:List Int} {S:Nat} (F:FtB items l S) {s:Nat} (hs:s<2 ^ S):0<vl (dnS items S s):=by
  have hT:=tk5_eq F.s5.2 hs
  have h1:=Lin.posD.det (Lin.eqA_posD (items:=items) (S:=S) F.ne fun k=>s.testBit k)
  rw [← hT] at h1
  have h2:vl (dnS items S s)=Lin.dtI (tk5 s).length (ent (sqP (gmP items S S) (tk5 s) (tk5 s).length)):=dtP_vl _ _ (sqP_len _ _ (Nat.le_refl _))
  have h3:((vl (dnS items S s):Int):Rat)=Lin.dt (tk5 s).length (Lin.eqA items S (tk5 s)):=by
    rw [h2,Lin.dtI_cast]
    refine Lin.dt_congr fun r c hr hc=>?_
    have e1:(tk5 s).getD r 0<S:=by
      rw [List.getD_eq_getElem?_getD,List.getElem?_eq_getElem hr];exact tk5_lt F.s5.2 hs _ (List.getElem_mem hr)
    have e2:(tk5 s).getD c 0<S:=by
      rw [List.getD_eq_getElem?_getD,List.getElem?_eq_getElem hc];exact tk5_lt F.s5.2 hs _ (List.getElem_mem hc)
    rw [ent_sq hr hc,ent_gm e1 e2];rfl
  rw [← h3] at h1
  exact_mod_cast h1
theorem vl_pos {p:Bool × Nat} (h:0<vl p):p.1=false∧0<p.2:=by
  obtain ⟨b,n⟩:=p
  unfold vl wdV at h
  cases b
  · simp at h ⊢;omega
  · simp at h;omega
def fdS (items l:List Int) (S:Nat):Option Nat:=(List.range (2 ^ S)).find? (bsS items l S)
def ftR (items l:List Int) (S:Nat):Option Nat→List AV
  | some s=>rdA (dnS items S s) (ptS items l S s)
  | none=>[.agg [.int .i64 0,.sl []],.int .i64 8]
def ftA (items:List Int) (shifts:Int) (l:List Int):List AV:=if fdE items shifts l ≠ 0 then [.agg [.int .i64 0,.sl []],.int .i64 (fdE items shifts l)] else ftR items l shifts.toNat (fdS items l shifts.toNat)
theorem fdE_ok {items:List Int} {shifts:Int} {l:List Int} (h:fdE items shifts l=0):FtB items l shifts.toNat∧((shifts.toNat:Nat):Int)=shifts:=by
  unfold fdE at h
  split at h
  · rename_i g;exact absurd h g
  · rename_i g
    split at h
    · rename_i g2;exact absurd h g2
    · rename_i g2
      split at h
      · rename_i g3
        obtain ⟨⟨a1,a2⟩,a3,a4,a5⟩:=teE_ok (items:=items) (shifts:=shifts) (by omega)
        have hs:smE l=0:=by omega
        exact ⟨⟨a1,a2,a3,a4,by omega,(smE_ok hs).2.2,by omega⟩,by omega⟩
      · cases h
end Go.Proofs.YtgmpcbpmnimkoaaGreatDoor

/- What the fit is,in plain Lean. By an AI agent;nothing here is trusted. -/
namespace Go.Proofs.YtgmpcbpmnimkoaaGreatDoor
open Go.Av

theorem getD_set_eq {α:Type} {l:List α} {i:Nat} {x d:α} (h:i<l.length):(l.set i x).getD i d=x:=by
  rw [List.getD_eq_getElem?_getD,List.getElem?_set_self h];rfl
theorem getD_set_ne {α:Type} {l:List α} {i j:Nat} {x d:α} (h:i ≠ j):(l.set i x).getD j d=l.getD j d:=by
  rw [List.getD_eq_getElem?_getD,List.getD_eq_getElem?_getD,List.getElem?_set_ne h]
theorem slP_at {G:List (List Int)} {H:List Int} {T:List Nat} (hT:∀ r c,r<c→c<T.length→T.getD r 0<T.getD c 0) (hl:∀ r,r<T.length→T.getD r 0<H.length) :
    ∀ n,n≤T.length→∀ j,j<n→(slP G H T n).getD (T.getD j 0) (false,0)=dtP T.length (rpP G H T j T.length)
  | 0,_,j,h=>by omega
  | n+1,hn,j,h=>by
    rw [slP]
    by_cases e:j=n
    · subst e
      exact getD_set_eq (by rw [slP_len];exact hl j (by omega))
    · have:=hT j n (by omega) (by omega)
      rw [getD_set_ne (by omega)]
      exact slP_at hT hl n (by omega) j (by omega)
theorem slP_no {G:List (List Int)} {H:List Int} {T:List Nat} {k:Nat} (hk:∀ r,r<T.length→T.getD r 0 ≠ k):∀ n,n≤T.length→(slP G H T n).getD k (false,0)=(false,0)
  | 0,_=>by
    rw [slP]
    by_cases h:k<H.length
    · rw [List.getD_eq_getElem?_getD,List.getElem?_replicate,if_pos h];rfl
    · rw [List.getD_eq_getElem?_getD,List.getElem?_eq_none (by simp;omega)];rfl
  | n+1,hn=>by
    rw [slP,getD_set_ne (hk n (by omega))]
    exact slP_no hk n (by omega)
theorem zdiv (d:Rat):0 / d=0:=by rw [Rat.div_def,Rat.zero_mul]
theorem divnn {a d:Rat} (ha:0≤a) (hd:0<d):0≤a / d:=by
  refine Classical.byContradiction fun h=>?_
  have h1:=Rat.not_le.1 h
  have e:a=(a / d) * d:=by grind
  have:=Rat.mul_pos hd (show 0 < -(a / d) by grind)
  grind
def smR (l:List Int) (n:Nat):Rat:=((l.getD n 0:Int):Rat)
theorem rh_cast {items l:List Int} {S k:Nat} (F:FtB items l S) (hk:k<S):(((rhP items l S).getD k 0:Int):Rat)=Lin.rhs items S (smR l) k:=by
  rw [getD_at (by rw [rhP_len];exact hk)]
  unfold rhP
  rw [List.getElem_map,List.getElem_range,← smI_ag (N:=S+items.length - 1) (by have:=F.i1;omega) F.i1,Lin.smI_cast]
  unfold Lin.rhs smR
  exact Lin.sm_congr fun n _=>Rat.intCast_mul _ _
def xS (items l:List Int) (S s k:Nat):Rat:=((vl ((ptS items l S s).getD k (false,0)):Int):Rat) / ((vl (dnS items S s):Int):Rat)
theorem d_ne {items l:List Int} {S:Nat} (F:FtB items l S) {s:Nat} (hs:s<2 ^ S):0<((vl (dnS items S s):Int):Rat):=by
  have:=F.dpos hs
  exact_mod_cast this
theorem dn_cast {items l:List Int} {S:Nat} (F:FtB items l S) {s:Nat} (hs:s<2 ^ S):((vl (dnS items S s):Int):Rat)=Lin.dt (tk5 s).length (Lin.eqA items S (tk5 s)):=by
  have h2:vl (dnS items S s)=Lin.dtI (tk5 s).length (ent (sqP (gmP items S S) (tk5 s) (tk5 s).length)):=dtP_vl _ _ (sqP_len _ _ (Nat.le_refl _))
  rw [h2,Lin.dtI_cast]
  refine Lin.dt_congr fun r c hr hc=>?_
  have e1:(tk5 s).getD r 0<S:=by
    rw [List.getD_eq_getElem?_getD,List.getElem?_eq_getElem hr];exact tk5_lt F.s5.2 hs _ (List.getElem_mem hr)
  have e2:(tk5 s).getD c 0<S:=by
    rw [List.getD_eq_getElem?_getD,List.getElem?_eq_getElem hc];exact tk5_lt F.s5.2 hs _ (List.getElem_mem hc)
  rw [ent_sq hr hc,ent_gm e1 e2];rfl
theorem x_spread {items l:List Int} {S:Nat} (F:FtB items l S) {s:Nat} (hs:s<2 ^ S):∃ y:Nat→Rat,
    (∀ r,r<(Lin.ticks S fun k=>s.testBit k).length→Lin.sm (Lin.ticks S fun k=>s.testBit k).length (fun c=>Lin.eqA items S (Lin.ticks S fun k=>s.testBit k) r c * y c)=Lin.rhs items S (smR l) ((Lin.ticks S fun k=>s.testBit k).getD r 0)) ∧
    ∀ k,k<S→xS items l S s k=Lin.spread (fun k=>s.testBit k) y k:=by
  have hT:=tk5_eq F.s5.2 hs
  have hd:=d_ne F hs
  have hdc:=dn_cast F hs
  have hpt:ptS items l S s=slP (gmP items S S) (rhP items l S) (tk5 s) (tk5 s).length:=rfl
  unfold xS
  rw [hpt]
  generalize dnS items S s=D at *
  rw [hT] at hdc hpt ⊢
  obtain ⟨p,hp⟩:∃ p:Nat→Bool,p=fun k=>s.testBit k:=⟨_,rfl⟩
  rw [← hp] at hdc hpt ⊢
  have hpos:=Lin.eqA_posD (items:=items) (S:=S) F.ne p
  obtain ⟨y,hy⟩:=Lin.solvable hpos.triv fun r=>Lin.rhs items S (smR l) ((Lin.ticks S p).getD r 0)
  refine ⟨y,hy,fun k hk=>?_⟩
  unfold Lin.spread
  have hlt:∀ r,r<(Lin.ticks S p).length→(Lin.ticks S p).getD r 0<S:=fun r hr=>(Lin.ticks_lt (Lin.ticks_getD hr)).1
  cases hpk:p k with
  | false =>
    have:(slP (gmP items S S) (rhP items l S) (Lin.ticks S p) (Lin.ticks S p).length).getD k (false,0)=(false,0):=by
      refine slP_no (fun r hr e=>?_) _ (Nat.le_refl _)
      have:=(Lin.ticks_lt (Lin.ticks_getD hr)).2
      rw [e,hpk] at this;cases this
    rw [this]
    show ((0:Int):Rat) / _=_
    have e0:((0:Int):Rat)=0:=rfl
    rw [e0,zdiv];simp
  | true =>
    obtain ⟨h1,h2⟩:=Lin.ticks_at hk hpk
    rw [if_pos rfl]
    have e1:(slP (gmP items S S) (rhP items l S) (Lin.ticks S p) (Lin.ticks S p).length).getD k (false,0)=dtP (Lin.ticks S p).length (rpP (gmP items S S) (rhP items l S) (Lin.ticks S p) (Lin.tix p k) (Lin.ticks S p).length):=by
      have:=slP_at (G:=gmP items S S) (H:=rhP items l S) (T:=Lin.ticks S p) (fun r c a b=>Lin.ticks_asc a b) (fun r hr=>by rw [rhP_len];exact hlt r hr) _ (Nat.le_refl _) _ h1
      rw [h2] at this;exact this
    have e2:((vl (dtP (Lin.ticks S p).length (rpP (gmP items S S) (rhP items l S) (Lin.ticks S p) (Lin.tix p k) (Lin.ticks S p).length)):Int):Rat)=y (Lin.tix p k) * Lin.dt (Lin.ticks S p).length (Lin.eqA items S (Lin.ticks S p)):=by
      rw [← Lin.cramer _ _ _ hy h1,dtP_vl _ _ (rpP_len _ _ _ _ (Nat.le_refl _)),Lin.dtI_cast]
      refine Lin.dt_congr fun r c hr hc=>?_
      rw [ent_rp hr hc]
      unfold Lin.setc
      split
      · exact rh_cast F (hlt r hr)
      · rw [ent_gm (hlt r hr) (hlt c hc)];rfl
    rw [e1,e2,hdc]
    rw [hdc] at hd
    generalize Lin.dt (Lin.ticks S p).length (Lin.eqA items S (Lin.ticks S p))=d at *
    grind
theorem bs_best {items l:List Int} {S:Nat} (F:FtB items l S) {s:Nat} (hs:s<2 ^ S):bsS items l S s=true ↔ Lin.best items S (S+items.length - 1) (smR l) (xS items l S s):=by
  obtain ⟨y,hy,hx⟩:=x_spread F hs
  have hd:=d_ne F hs
  have hb:=Lin.spread_best (items:=items) (S:=S) (s:=smR l) hy
  have hbx:Lin.best items S (S+items.length - 1) (smR l) (xS items l S s) ↔ Lin.best items S (S+items.length - 1) (smR l) (Lin.spread (fun k=>s.testBit k) y):=by
    have hg:∀ k,Lin.grad items S (S+items.length - 1) (smR l) (xS items l S s) k=Lin.grad items S (S+items.length - 1) (smR l) (Lin.spread (fun k=>s.testBit k) y) k:=fun k=>by
      rw [Lin.grad_eq,Lin.grad_eq]
      congr 1
      exact Lin.sm_congr fun m hm=>by rw [hx m hm]
    constructor
    · intro h k hk
      have:=h k hk
      rw [hx k hk,hg k] at this;exact this
    · intro h k hk
      have:=h k hk
      rw [hx k hk,hg k];exact this
  rw [hbx,hb]
  have hg:∀ k,k<S→((rsV (dnS items S s) (ptS items l S s) ((rhP items l S).getD k 0) ((gmP items S S).getD k []) (ptS items l S s).length:Int):Rat)=((vl (dnS items S s):Int):Rat) * Lin.grad items S (S+items.length - 1) (smR l) (Lin.spread (fun k=>s.testBit k) y) k:=fun k hk=>by
    unfold rsV
    rw [ptS_len,Rat.intCast_sub,Rat.intCast_mul,rh_cast F hk,Lin.smI_cast,Lin.grad_eq]
    have e:Lin.sm S (fun j=>((vl ((ptS items l S s).getD j (false,0)) * ((gmP items S S).getD k []).getD j 0:Int):Rat))=((vl (dnS items S s):Int):Rat) * Lin.sm S fun m=>((Lin.gr items (S+items.length - 1) k m:Int):Rat) * Lin.spread (fun k=>s.testBit k) y m:=by
      rw [← Lin.sm_mul]
      refine Lin.sm_congr fun m hm=>?_
      have e1:((gmP items S S).getD k []).getD m 0=Lin.gr items (S+items.length - 1) k m:=ent_gm hk hm
      rw [e1,Rat.intCast_mul,← hx m hm]
      unfold xS
      generalize ((vl (dnS items S s):Int):Rat)=d at *
      grind
    rw [e]
    grind
  unfold bsS isB
  rw [List.all_eq_true]
  constructor
  · intro h k hk
    have h1:=h k (List.mem_range.2 (by rw [gmP_len];exact hk))
    unfold okB at h1
    rw [Bool.and_eq_true,decide_eq_true_eq,decide_eq_true_eq] at h1
    have h2:=hg k hk
    have h3:((rsV (dnS items S s) (ptS items l S s) ((rhP items l S).getD k 0) ((gmP items S S).getD k []) (ptS items l S s).length:Int):Rat)≤0:=by exact_mod_cast h1.2
    have h4:(0:Rat)≤((vl ((ptS items l S s).getD k (false,0)):Int):Rat):=by exact_mod_cast h1.1
    rw [h2] at h3
    have h5:=hx k hk
    unfold xS at h5
    constructor
    · rw [← h5]
      exact divnn h4 hd
    · generalize ((vl (dnS items S s):Int):Rat)=d at *
      refine Classical.byContradiction fun hn=>?_
      have:=Rat.mul_pos hd (Rat.not_le.1 hn)
      grind
  · intro h k hk
    have hk':k<S:=by have:=List.mem_range.1 hk;rw [gmP_len] at this;exact this
    obtain ⟨h1,h2⟩:=h k hk'
    unfold okB
    rw [Bool.and_eq_true,decide_eq_true_eq,decide_eq_true_eq]
    have h5:=hx k hk'
    unfold xS at h5
    constructor
    · have h4:(0:Rat)≤((vl ((ptS items l S s).getD k (false,0)):Int):Rat):=by
        rw [← h5] at h1
        generalize ((vl ((ptS items l S s).getD k (false,0)):Int):Rat)=v at *
        generalize ((vl (dnS items S s):Int):Rat)=d at *
        have e:v=(v / d) * d:=by grind
        rw [e];exact Rat.mul_nonneg h1 (Rat.le_of_lt hd)
      exact_mod_cast h4
    · have h3:((rsV (dnS items S s) (ptS items l S s) ((rhP items l S).getD k 0) ((gmP items S S).getD k []) (ptS items l S s).length:Int):Rat)≤0:=by
        rw [hg k hk']
        generalize ((vl (dnS items S s):Int):Rat)=d at *
        refine Classical.byContradiction fun hn=>?_
        have h6:=Rat.not_le.1 hn
        have:=Rat.mul_nonneg (Rat.le_of_lt hd) (show 0 ≤ -Lin.grad items S (S+items.length - 1) (smR l) (Lin.spread (fun k=>s.testBit k) y) k by grind)
        grind
      exact_mod_cast h3
end Go.Proofs.YtgmpcbpmnimkoaaGreatDoor

/- What the fit that is found is. By an AI agent;nothing here is trusted. -/
namespace Go.Proofs.YtgmpcbpmnimkoaaGreatDoor
open Go.Av

theorem gcds_div {g:Nat}:∀ (l:List Nat) {d:Nat},g ∣ d→(∀ x ∈ l,g ∣ x)→Lin.gcds (d / g) (l.map fun x=>x / g)=Lin.gcds d l / g
  | [],_,_,_=>rfl
  | x :: l,d,hd,hl=>by
    have h1:Lin.gcds (d / g) ((x :: l).map fun x=>x / g)=Lin.gcds (Nat.gcd (d / g) (x / g)) (l.map fun x=>x / g):=rfl
    have h2:Lin.gcds d (x :: l)=Lin.gcds (Nat.gcd d x) l:=rfl
    have hx:=hl x (by simp)
    rw [h1,h2,Nat.gcd_div hd hx]
    exact gcds_div l (Nat.dvd_gcd hd hx) fun y hy=>hl y (by simp [hy])
theorem ntA_abs (T:List Nat):(ntA T).map Int.natAbs=T:=by
  unfold ntA
  rw [List.map_map]
  conv=>rhs;rw [← List.map_id T]
  exact List.map_congr_left fun x _=>by simp
def den0 (D:Bool × Nat) (P:List (Bool × Nat)):Int:=((qtL D P).getD 0 0:Nat)
def chs0 (D:Bool × Nat) (P:List (Bool × Nat)):List Int:=ntA ((qtL D P).drop 1)
theorem den0_eq (D:Bool × Nat) (P:List (Bool × Nat)):den0 D P=((D.2 / gcA D P:Nat):Int):=rfl
theorem chs0_eq (D:Bool × Nat) (P:List (Bool × Nat)):chs0 D P=ntA ((P.map (·.2)).map fun x=>x / gcA D P):=by
  unfold chs0 qtL
  rw [List.map_cons,List.drop_one,List.tail_cons,List.map_map];rfl
theorem chs0_len (D:Bool × Nat) (P:List (Bool × Nat)):(chs0 D P).length=P.length:=by rw [chs0_eq,ntA_len];simp
theorem chs0_get (D:Bool × Nat) (P:List (Bool × Nat)) {k:Nat} (h:k<P.length):(chs0 D P).getD k 0=(((P.getD k (false,0)).2 / gcA D P:Nat):Int):=by
  rw [chs0_eq]
  unfold ntA
  rw [List.getD_eq_getElem?_getD,List.getD_eq_getElem?_getD,List.getElem?_eq_getElem h]
  simp [h]
theorem gcA_one {D:Bool × Nat} {P:List (Bool × Nat)} (h0:0<D.2):gcF (den0 D P) (chs0 D P)=1:=by
  unfold gcF
  rw [den0_eq,chs0_eq,ntA_abs]
  have hg:0<gcA D P:=Nat.pos_of_dvd_of_pos (Lin.gcds_dvd _ _) h0
  have:((D.2 / gcA D P:Nat):Int).natAbs=D.2 / gcA D P:=rfl
  rw [this,gcds_div (g:=gcA D P) _ (Lin.gcds_dvd _ _) (fun x hx=>Lin.gcds_mem hx)]
  show gcA D P / gcA D P=1
  exact Nat.div_self hg
theorem small_le {D:Bool × Nat} {P:List (Bool × Nat)} (h:smallQ D P=true):den0 D P≤1000000000000∧∀ x ∈ chs0 D P,0≤x∧x≤1000000000000:=by
  unfold smallQ at h
  rw [List.all_eq_true] at h
  constructor
  · have h1:=h (D.2 / gcA D P) (by unfold qtL;simp)
    have:=of_decide_eq_true h1
    rw [den0_eq];omega
  · intro x hx
    unfold chs0 ntA at hx
    obtain ⟨n,hn,rfl⟩:=List.mem_map.1 hx
    have:=of_decide_eq_true (h n (List.mem_of_mem_drop hn))
    omega
def ratF (den:Int) (ch:List Int) (k:Nat):Rat:=((ch.getD k 0:Int):Rat) / ((den:Int):Rat)
theorem ft_best {items l:List Int} {S:Nat} (F:FtB items l S) {s:Nat} (hs:s<2 ^ S) (hbest:Lin.best items S (S+items.length - 1) (smR l) (xS items l S s)) :
    Lin.best items S (S+items.length - 1) (smR l) (ratF (den0 (dnS items S s) (ptS items l S s)) (chs0 (dnS items S s) (ptS items l S s))):=by
  have hx:∀ k,k<S→ratF (den0 (dnS items S s) (ptS items l S s)) (chs0 (dnS items S s) (ptS items l S s)) k=xS items l S s k:=fun k hk=>by
    have hd:=d_ne F hs
    have hk2:k<(ptS items l S s).length:=by rw [ptS_len];exact hk
    have hnn:=(hbest k hk).1
    obtain ⟨d1,d2⟩:=vl_pos (F.dpos hs)
    unfold ratF
    rw [chs0_get _ _ hk2,den0_eq]
    unfold xS at hnn ⊢
    have hgD:gcA (dnS items S s) (ptS items l S s) ∣ (dnS items S s).2:=Lin.gcds_dvd _ _
    have hgP:gcA (dnS items S s) (ptS items l S s) ∣ ((ptS items l S s).getD k (false,0)).2:=Lin.gcds_mem (by
      rw [List.getD_eq_getElem?_getD,List.getElem?_eq_getElem hk2]
      exact List.mem_map.2 ⟨_,List.getElem_mem hk2,rfl⟩)
    have hg0:0<gcA (dnS items S s) (ptS items l S s):=Nat.pos_of_dvd_of_pos hgD d2
    generalize gcA (dnS items S s) (ptS items l S s)=g at *
    have hvD:vl (dnS items S s)=((dnS items S s).2:Int):=by
      unfold vl wdV;rw [d1];rfl
    have hvP:vl ((ptS items l S s).getD k (false,0))=(((ptS items l S s).getD k (false,0)).2:Int):=by
      have h1:=vl_abs ((ptS items l S s).getD k (false,0))
      have h2:0≤vl ((ptS items l S s).getD k (false,0)):=by
        have h3:(0:Rat)≤((vl ((ptS items l S s).getD k (false,0)):Int):Rat):=by
          generalize ((vl ((ptS items l S s).getD k (false,0)):Int):Rat)=v at *
          generalize ((vl (dnS items S s):Int):Rat)=d at *
          have e:v=(v / d) * d:=by grind
          rw [e];exact Rat.mul_nonneg hnn (Rat.le_of_lt hd)
        exact_mod_cast h3
      omega
    rw [hvP]
    rw [hvD] at hd ⊢
    clear hvP hvD hnn
    generalize ((ptS items l S s).getD k (false,0)).2=p at *
    generalize (dnS items S s).2=d at *
    obtain ⟨a,rfl⟩:=hgD
    obtain ⟨b,rfl⟩:=hgP
    rw [Nat.mul_div_cancel_left _ hg0,Nat.mul_div_cancel_left _ hg0]
    have ha:0<a:=Nat.pos_of_mul_pos_left d2
    have e1:(((g * b:Nat):Int):Rat)=((g:Int):Rat) * ((b:Int):Rat):=by rw [Int.natCast_mul,Rat.intCast_mul]
    have e2:(((g * a:Nat):Int):Rat)=((g:Int):Rat) * ((a:Int):Rat):=by rw [Int.natCast_mul,Rat.intCast_mul]
    rw [e1,e2]
    have g1:((g:Int):Rat) ≠ 0:=by
      have:(0:Rat)<((g:Int):Rat):=by exact_mod_cast hg0
      grind
    have a1:((a:Int):Rat) ≠ 0:=by
      have:(0:Rat)<((a:Int):Rat):=by exact_mod_cast ha
      grind
    generalize ((g:Int):Rat)=g' at *
    generalize ((a:Int):Rat)=a' at *
    generalize ((b:Int):Rat)=b' at *
    grind
  intro k hk
  have hg:Lin.grad items S (S+items.length - 1) (smR l) (ratF (den0 (dnS items S s) (ptS items l S s)) (chs0 (dnS items S s) (ptS items l S s))) k=Lin.grad items S (S+items.length - 1) (smR l) (xS items l S s) k:=by
    rw [Lin.grad_eq,Lin.grad_eq]
    congr 1
    exact Lin.sm_congr fun m hm=>by rw [hx m hm]
  rw [hg,hx k hk]
  exact hbest k hk
theorem ft_ok {items l:List Int} {shifts:Int} (h:fdE items shifts l=0) :
    (∃ den ch,ftA items shifts l=[.agg [.int .i64 den,.sl (ints ch)],.int .i64 0]∧FitIn items l shifts ch den∧gcF den ch=1∧Lin.best items shifts.toNat (shifts.toNat+items.length - 1) (smR l) (ratF den ch)) ∨
    ftA items shifts l=[.agg [.int .i64 0,.sl []],.int .i64 8]:=by
  obtain ⟨F,hS⟩:=fdE_ok h
  unfold ftA
  rw [if_neg (by omega)]
  generalize shifts.toNat=S at *
  cases hf:fdS items l S with
  | none=>right;rfl
  | some s =>
    show _∨rdA (dnS items S s) (ptS items l S s)=_
    have hf2:=hf
    unfold fdS at hf2
    rw [List.find?_range_eq_some] at hf2
    obtain ⟨hb,hs,_⟩:=hf2
    have hs:=List.mem_range.1 hs
    have hbest:=(bs_best F hs).1 hb
    cases hq:smallQ (dnS items S s) (ptS items l S s) with
    | false =>
      right
      unfold rdA
      rw [if_neg (by rw [hq];decide)]
    | true =>
      left
      refine ⟨den0 (dnS items S s) (ptS items l S s),chs0 (dnS items S s) (ptS items l S s),?_,?_,?_,?_⟩
      · show rdA (dnS items S s) (ptS items l S s)=_
        unfold rdA
        rw [if_pos hq];rfl
      · obtain ⟨q1,q2⟩:=small_le hq
        obtain ⟨d1,d2⟩:=vl_pos (F.dpos hs)
        have hd1:0<(dnS items S s).2 / gcA (dnS items S s) (ptS items l S s):=Nat.div_pos (Nat.le_of_dvd d2 (Lin.gcds_dvd _ _)) (Nat.pos_of_dvd_of_pos (Lin.gcds_dvd _ _) d2)
        exact ⟨F.i1,F.i6,F.ib,F.ne,by have:=F.s5;omega,F.lb,by have:=F.ll;have:=F.s5;have:=F.i1;omega,by rw [chs0_len,ptS_len];omega,q2,by rw [den0_eq] at q1 ⊢;omega⟩
      · exact gcA_one (vl_pos (F.dpos hs)).2
      · exact ft_best F hs hbest
end Go.Proofs.YtgmpcbpmnimkoaaGreatDoor

/- The error of a fit;fits of samples times a number. By an AI agent;nothing here is trusted. -/
namespace Go.Proofs.YtgmpcbpmnimkoaaGreatDoor
open Go.Av

theorem mdT_smI (items ch:List Int) (n:Nat):∀ k,mdT items ch n k=Lin.smI k fun k=>ch.getD k 0 * Lin.itm items n k
  | 0=>rfl
  | k+1=>by rw [mdT_itm,Lin.smI,mdT_smI items ch n k]
theorem md_cast {items ch:List Int} {den:Int} (hd:1≤den) (S n:Nat):((mdT items ch n S:Int):Rat)=((den:Int):Rat) * Lin.md items S (ratF den ch) n:=by
  have h0:(0:Rat)<((den:Int):Rat):=by exact_mod_cast (show (0:Int)<den by omega)
  rw [mdT_smI,Lin.smI_cast]
  unfold Lin.md
  rw [← Lin.sm_mul]
  refine Lin.sm_congr fun k _=>?_
  rw [Rat.intCast_mul]
  unfold ratF
  generalize ((den:Int):Rat)=d at *
  grind
theorem sqN_range (f:Nat→Int):∀ N,((sqN ((List.range N).map f):Nat):Int)=Lin.smI N fun n=>f n * f n
  | 0=>rfl
  | N+1=>by
    rw [List.range_succ,List.map_append,sqN_app,Int.natCast_add,sqN_range f N,Lin.smI]
    congr 1
    simp [sqN,Int.natAbs_mul_self']
def kpS (items l ch:List Int) (den:Int) (n:Nat):Int:=Lin.smI n fun m=>(l.getD m 0 * den) * (l.getD m 0 * den) - mdT items ch m ch.length * mdT items ch m ch.length
theorem kp_sq {items l:List Int} {shifts:Int} {ch:List Int} {den:Int} (F:FitIn items l shifts ch den) (hb:Lin.best items shifts.toNat (shifts.toNat+items.length - 1) (smR l) (ratF den ch)) :
    kpS items l ch den l.length=((sqN (dfL items l ch den):Nat):Int):=by
  have hS:shifts.toNat=ch.length:=by have:=F.cl;omega
  have hN:shifts.toNat+items.length - 1=l.length:=by have:=F.ll;have:=F.s5;have:=F.i1;omega
  rw [hS] at hb hN
  have he:=Lin.best_err hb
  unfold dfL
  rw [sqN_range,F.mlen]
  unfold kpS
  have h0:(0:Rat)<((den:Int):Rat):=by exact_mod_cast (show (0:Int)<den by have:=F.db;omega)
  have e1:((Lin.smI l.length (fun m=>(l.getD m 0 * den) * (l.getD m 0 * den) - mdT items ch m ch.length * mdT items ch m ch.length):Int):Rat)=((den:Int):Rat) * ((den:Int):Rat) * Lin.sm l.length fun n=>smR l n * smR l n - Lin.md items ch.length (ratF den ch) n * Lin.md items ch.length (ratF den ch) n:=by
    rw [Lin.smI_cast,← Lin.sm_mul]
    refine Lin.sm_congr fun n _=>?_
    rw [Rat.intCast_sub,Rat.intCast_mul,Rat.intCast_mul,Rat.intCast_mul,md_cast F.db.1]
    unfold smR
    grind
  have e2:((Lin.smI l.length (fun n=>(l.getD n 0 * den - mdT items ch n ch.length) * (l.getD n 0 * den - mdT items ch n ch.length)):Int):Rat)=((den:Int):Rat) * ((den:Int):Rat) * Lin.errS items ch.length l.length (smR l) (ratF den ch):=by
    rw [Lin.smI_cast]
    unfold Lin.errS
    rw [← Lin.sm_mul]
    refine Lin.sm_congr fun n _=>?_
    rw [Rat.intCast_mul,Rat.intCast_sub,Rat.intCast_mul,md_cast F.db.1]
    unfold smR
    grind
  rw [hN] at he
  rw [← he,← e2] at e1
  exact_mod_cast e1
theorem fit_scale {items l:List Int} {shifts b:Int} {ch ch2:List Int} {den den2:Int} (F:FitIn items l shifts ch den) (F2:FitIn items (l.map (· * b)) shifts ch2 den2) (hb:1≤b)
    (h1:Lin.best items shifts.toNat (shifts.toNat+items.length - 1) (smR l) (ratF den ch)) (h2:Lin.best items shifts.toNat (shifts.toNat+items.length - 1) (smR (l.map (· * b))) (ratF den2 ch2)) {k:Nat} (hk:k<shifts.toNat) :
    ch2.getD k 0 * den=ch.getD k 0 * b * den2:=by
  have hs:∀ n,smR (l.map (· * b)) n=((b:Int):Rat) * smR l n:=fun n=>by
    unfold smR
    by_cases h:n<l.length
    · rw [getD_at (by simp;exact h),getD_at h,List.getElem_map,Rat.intCast_mul,Rat.mul_comm]
    · rw [List.getD_eq_getElem?_getD,List.getD_eq_getElem?_getD,List.getElem?_eq_none (by simp;omega),List.getElem?_eq_none (by omega)]
      show ((0:Int):Rat)=_ * ((0:Int):Rat)
      have:((0:Int):Rat)=0:=rfl
      rw [this,Rat.mul_zero]
  have hb0:(0:Rat)<((b:Int):Rat):=by exact_mod_cast (show (0:Int)<b by omega)
  have h3:Lin.best items shifts.toNat (shifts.toNat+items.length - 1) (smR (l.map (· * b))) fun k=>((b:Int):Rat) * ratF den ch k:=by
    intro k hk
    obtain ⟨a1,a2,a3⟩:=h1 k hk
    have hg:Lin.grad items shifts.toNat (shifts.toNat+items.length - 1) (smR (l.map (· * b))) (fun k=>((b:Int):Rat) * ratF den ch k) k=((b:Int):Rat) * Lin.grad items shifts.toNat (shifts.toNat+items.length - 1) (smR l) (ratF den ch) k:=by
      unfold Lin.grad
      rw [← Lin.sm_mul]
      refine Lin.sm_congr fun n _=>?_
      have:Lin.md items shifts.toNat (fun k=>((b:Int):Rat) * ratF den ch k) n=((b:Int):Rat) * Lin.md items shifts.toNat (ratF den ch) n:=by
        unfold Lin.md
        rw [← Lin.sm_mul]
        exact Lin.sm_congr fun k _=>by grind
      rw [this,hs];grind
    rw [hg]
    generalize Lin.grad items shifts.toNat (shifts.toNat+items.length - 1) (smR l) (ratF den ch) k=g at *
    refine ⟨Rat.mul_nonneg (Rat.le_of_lt hb0) a1,?_,by grind⟩
    have:=Rat.mul_nonneg (Rat.le_of_lt hb0) (show 0 ≤ -g by grind)
    grind
  have h4:=Lin.best_uniq rfl F.ne h3 h2 k hk
  have d1:(0:Rat)<((den:Int):Rat):=by exact_mod_cast (show (0:Int)<den by have:=F.db;omega)
  have d2:(0:Rat)<((den2:Int):Rat):=by exact_mod_cast (show (0:Int)<den2 by have:=F2.db;omega)
  unfold ratF at h4
  have h5:((ch2.getD k 0 * den:Int):Rat)=((ch.getD k 0 * b * den2:Int):Rat):=by
    rw [Rat.intCast_mul,Rat.intCast_mul,Rat.intCast_mul]
    generalize ((den:Int):Rat)=d at *
    generalize ((den2:Int):Rat)=d' at *
    grind
  exact_mod_cast h5
theorem fE_fit {items l:List Int} {shifts:Int} {ch:List Int} {den:Int} (F:FitIn items l shifts ch den):fE den ch=0:=by
  unfold fE
  rw [if_pos F.db,if_neg (by have:=F.cl;have:=F.s5;omega),if_pos]
  rw [List.all_eq_true]
  exact fun x hx=>decide_eq_true (F.cb x hx)
end Go.Proofs.YtgmpcbpmnimkoaaGreatDoor

/- The fit of samples: contract. By an AI agent;nothing here is trusted. -/
namespace Go.Proofs.YtgmpcbpmnimkoaaGreatDoor
open Go.Av

theorem find_at {p:Nat→Bool} {n s:Nat} (h:s<n) (hp:p s=true) (hn:∀ k,k<s→p k=false):(List.range n).find? p=some s:=by
  rw [List.find?_range_eq_some]
  exact ⟨hp,List.mem_range.2 h,fun j hj=>by rw [hn j hj];rfl⟩
theorem find_no {p:Nat→Bool} {n:Nat} (hn:∀ k,k<n→p k=false):(List.range n).find? p=none:=by
  rw [List.find?_eq_none]
  intro x hx
  rw [hn x (List.mem_range.1 hx)];decide
theorem tk5_0:tk5 0=[]:=by decide
set_option maxHeartbeats 4000000 in
theorem FitOf_s (items:List Int) (shifts:Int) (l:List Int) (hi:items.length<4000000000000000000) (hl:l.length<4000000000000000000) :
    Sound Tryz.prog 14 [tplA items shifts,.sl (ints l)] (.tup (ftA items shifts l)):=by
  refine sound_W f_pulse_FitOf (Nat.le_of_ble_eq_true rfl) ?_
  have hE:=fittedErr_s items shifts l hi hl
  have hmax:=maxLen_big
  unfold tplA at hE
  by_cases hf:fdE items shifts l=0
  case neg =>
    have hr:ftA items shifts l=[.agg [.int .i64 0,.sl []],.int .i64 (fdE items shifts l)]:=by unfold ftA;rw [if_pos hf]
    rw [hr]
    simp only [c_pulse_FitOf,tplA,vcV,vcD,Int.reduceEq,Int.reduceNe,Int.reduceLT,Int.reduceLE,Nat.reduceEqDiff,Nat.reduceAdd,reduceIte,reduceCtorEq,Nat.reduceLT,Nat.reduceLeDiff,eq_self,vcP2,Nat.reduceShiftRight,Nat.reduceMod]
    refine callS_of hE ?_
    simp only [hf,vcV,vcD,Int.reduceEq,Int.reduceNe,Int.reduceLT,Int.reduceLE,Nat.reduceEqDiff,Nat.reduceAdd,reduceIte,reduceCtorEq,Nat.reduceLT,Nat.reduceLeDiff,eq_self,vcP2,Nat.reduceShiftRight,Nat.reduceMod]
  obtain ⟨F,hS⟩:=fdE_ok hf
  have hr:ftA items shifts l=ftR items l shifts.toNat (fdS items l shifts.toNat):=by unfold ftA;rw [if_neg (by omega)]
  rw [hr]
  clear hr
  obtain ⟨S,hSd⟩:∃ S,S=shifts.toNat:=⟨_,rfl⟩
  rw [← hSd] at F hS ⊢
  subst hS
  clear hSd
  have hP:=problemOf_s F.i1 F.i6 F.s5 F.ib F.lb F.ll
  unfold tplA at hP
  have hsh:IntKind.u64.wrap ((1:Int) * 2 ^ min S IntKind.u64.bits)=((2 ^ S:Nat):Int):=by
    have:=shl_u 1 S (by have:=F.s5;omega)
    rw [Nat.one_mul] at this
    have h2:2 ^ S≤2 ^ 5:=Nat.pow_le_pow_right (by omega) F.s5.2
    have h3:(2:Nat) ^ 5=32:=rfl
    rw [Nat.mod_eq_of_lt (by omega)] at this
    exact this
  have h32:2 ^ S≤32:=by
    have h2:2 ^ S≤2 ^ 5:=Nat.pow_le_pow_right (by omega) F.s5.2
    have h3:(2:Nat) ^ 5=32:=rfl
    omega
  simp only [c_pulse_FitOf,tplA,vcV,vcD,Int.reduceEq,Int.reduceNe,Int.reduceLT,Int.reduceLE,Nat.reduceEqDiff,Nat.reduceAdd,reduceIte,reduceCtorEq,Nat.reduceLT,Nat.reduceLeDiff,eq_self,vcP2,Nat.reduceShiftRight,Nat.reduceMod]
  refine callS_of hE ?_
  simp only [hf,vcV,vcD,Int.reduceEq,Int.reduceNe,Int.reduceLT,Int.reduceLE,Nat.reduceEqDiff,Nat.reduceAdd,reduceIte,reduceCtorEq,Nat.reduceLT,Nat.reduceLeDiff,eq_self,vcP2,Nat.reduceShiftRight,Nat.reduceMod]
  refine callS_of hP ?_
  simp only [hsh,vcV,vcD,Int.reduceEq,Int.reduceNe,Int.reduceLT,Int.reduceLE,Nat.reduceEqDiff,Nat.reduceAdd,reduceIte,reduceCtorEq,Nat.reduceLT,Nat.reduceLeDiff,eq_self,vcP2,Nat.reduceShiftRight,Nat.reduceMod]
  refine ⟨by omega,?_⟩
  have hGl:=gmP_len items S S
  have hHl:=rhP_len items l S
  obtain ⟨G,hG⟩:∃ G,G=gmP items S S:=⟨_,rfl⟩
  obtain ⟨H,hH⟩:∃ H,H=rhP items l S:=⟨_,rfl⟩
  refine W_loop (t:=.mk) (α:=PSigma fun s:Nat=>s≤2 ^ S∧∀ k,k<s→bsS items l S k=false) (fun ⟨s,_⟩=>(envOf [(1,.sl (ints l)),(2,.ptr 2 0 0),(4,.ptr 4 0 0),(5,.int .i64 0),(7,.ptr 7 0 0),(25,.int .u64 (2 ^ S:Nat)),(26,.int .u64 s)],stOf [(2,⟨24,2,[.agg [.sl (ints items),.int .i64 S]]⟩),(4,⟨29,2,[.agg [.int .i64 0,.nils]]⟩),(7,⟨151,2,[.agg [.sl (lls (gmP items S S)),.sl (ints (rhP items l S))]]⟩)])) (fun x=>2 ^ S - x.1) ⟨0,Nat.zero_le _,fun k h=>by omega⟩ ?_ (fun ⟨s,hsS,hno⟩=>?_)
  · refine weakX [] (of_decide_eq_true rfl) (of_decide_eq_true rfl) ?_
    (simp only [vcW,vcV,vcD,Int.reduceEq,Int.reduceNe,Int.reduceLT,Int.reduceLE,Nat.reduceEqDiff,Nat.reduceAdd,reduceIte,reduceCtorEq,Nat.reduceLT,Nat.reduceLeDiff,eq_self,vcP2,Nat.reduceShiftRight,Nat.reduceMod])
    repeat' (with_reducible refine And.intro ?_ ?_)
    try any_goals (with_reducible exact RnB.wide)
    (repeat' first | exact trivial | (with_reducible first | exact RnB.fxB (ints_fxB _) | rfl | refine And.intro ?_ ?_) | (with_reducible (first | refine RnB.bb ?_ | refine RnB.nb ?_);simp only [vcW,vcV,vcD,Int.reduceEq,Int.reduceNe,Int.reduceLT,Int.reduceLE,Nat.reduceEqDiff,Nat.reduceAdd,reduceIte,reduceCtorEq,Nat.reduceLT,Nat.reduceLeDiff,eq_self,vcP2,Nat.reduceShiftRight,Nat.reduceMod]) | (with_reducible first | refine RnB.ii ?_ | refine RnB.app ?_) | (with_reducible refine RnB.fxB ?_;simp only [vcW,vcV,vcD,Int.reduceEq,Int.reduceNe,Int.reduceLT,Int.reduceLE,Nat.reduceEqDiff,Nat.reduceAdd,reduceIte,reduceCtorEq,Nat.reduceLT,Nat.reduceLeDiff,eq_self,vcP2,Nat.reduceShiftRight,Nat.reduceMod]) | omega)
    all_goals trace_state
  · dsimp only at hsS hno ⊢
    by_cases h':s<2 ^ S
    · have hc1:(s:Int)<(2 ^ S:Nat):=by omega
      have hSol:=solved_s (F.sl h')
      have hBst:=isBest_s (F.bd h')
      obtain ⟨d1,d2⟩:=vl_pos (F.dpos h')
      have hDb:=F.db h'
      have hPb:=F.pb h'
      have hPl:=ptS_len items l S s
      have hRed:=reduced_s d1 d2 (by omega) (fun p hp=>by have:=hPb p hp;omega) (by rw [hPl];exact F.s5.2)
      have hDe:dnS items S s=dtP (tk5 s).length (sqP (gmP items S S) (tk5 s) (tk5 s).length):=rfl
      have hPe:ptS items l S s=slP (gmP items S S) (rhP items l S) (tk5 s) (tk5 s).length:=rfl
      have hBe:bsS items l S s=isB (dnS items S s) (ptS items l S s) (gmP items S S) (rhP items l S):=rfl
      rw [← hDe,← hPe] at hSol
      rw [← hBe] at hBst
      simp only [hc1,vcV,vcD,Int.reduceEq,Int.reduceNe,Int.reduceLT,Int.reduceLE,Nat.reduceEqDiff,Nat.reduceAdd,reduceIte,reduceCtorEq,Nat.reduceLT,Nat.reduceLeDiff,eq_self,vcP2,Nat.reduceShiftRight,Nat.reduceMod]
      refine W_loop (t:=.mk) (α:=PSigma fun q:Nat × List Nat=>q.1≤s∧q.2 ++ tk5 q.1=tk5 s) (fun ⟨q,_⟩=>(envOf [(1,.sl (ints l)),(2,.ptr 2 0 0),(4,.ptr 4 0 0),(5,.int .i64 0),(7,.ptr 7 0 0),(9,.buf 101 q.2.length),(10,.int .u64 q.1),(25,.int .u64 (2 ^ S:Nat)),(26,.int .u64 s)],stOf [(2,⟨24,2,[.agg [.sl (ints items),.int .i64 S]]⟩),(4,⟨29,2,[.agg [.int .i64 0,.nils]]⟩),(7,⟨151,2,[.agg [.sl (lls (gmP items S S)),.sl (ints (rhP items l S))]]⟩),(101,⟨3,1,ints (ntA q.2)⟩)])) (fun x=>x.1.1) ⟨(s,[]),Nat.le_refl _,rfl⟩ ?_ (fun ⟨⟨r,pre⟩,hrs,hpre⟩=>?_)
      · have z:ints (ntA [])=[]:=rfl
        refine weakX [(101,none)] (of_decide_eq_true rfl) (of_decide_eq_true rfl) ?_
        (simp only [z,vcW,vcV,vcD,Int.reduceEq,Int.reduceNe,Int.reduceLT,Int.reduceLE,Nat.reduceEqDiff,Nat.reduceAdd,reduceIte,reduceCtorEq,Nat.reduceLT,Nat.reduceLeDiff,eq_self,vcP2,Nat.reduceShiftRight,Nat.reduceMod])
        repeat' (with_reducible refine And.intro ?_ ?_)
        try any_goals (with_reducible exact RnB.wide)
        (repeat' first | exact trivial | (with_reducible first | exact RnB.fxB (ints_fxB _) | rfl | refine And.intro ?_ ?_) | (with_reducible (first | refine RnB.bb ?_ | refine RnB.nb ?_);simp only [vcW,vcV,vcD,Int.reduceEq,Int.reduceNe,Int.reduceLT,Int.reduceLE,Nat.reduceEqDiff,Nat.reduceAdd,reduceIte,reduceCtorEq,Nat.reduceLT,Nat.reduceLeDiff,eq_self,vcP2,Nat.reduceShiftRight,Nat.reduceMod]) | (with_reducible first | refine RnB.ii ?_ | refine RnB.app ?_) | (with_reducible refine RnB.fxB ?_;simp only [vcW,vcV,vcD,Int.reduceEq,Int.reduceNe,Int.reduceLT,Int.reduceLE,Nat.reduceEqDiff,Nat.reduceAdd,reduceIte,reduceCtorEq,Nat.reduceLT,Nat.reduceLeDiff,eq_self,vcP2,Nat.reduceShiftRight,Nat.reduceMod]) | omega)
        all_goals trace_state
      · dsimp only at hrs hpre ⊢
        have hpl:pre.length≤5:=by
          have h1:=tk5_len s
          rw [← hpre,List.length_append] at h1;omega
        by_cases r0:r=0
        · subst r0
          have hz:((0:Nat):Int)=0:=rfl
          rw [tk5_0,List.append_nil] at hpre
          subst hpre
          simp only [hz,vcV,vcD,Int.reduceEq,Int.reduceNe,Int.reduceLT,Int.reduceLE,Nat.reduceEqDiff,Nat.reduceAdd,reduceIte,reduceCtorEq,Nat.reduceLT,Nat.reduceLeDiff,eq_self,vcP2,Nat.reduceShiftRight,Nat.reduceMod]
          rw [borB_good _ _ _ _ _ (by rw [ints_length,ntA_len]) (ints_fx _)]
          obtain ⟨D,hDd⟩:∃ D,D=dnS items S s:=⟨_,rfl⟩
          obtain ⟨P,hPd⟩:∃ P,P=ptS items l S s:=⟨_,rfl⟩
          have hftR:ftR items l S (some s)=rdA D P:=by rw [hDd,hPd];rfl
          rw [← hDd,← hPd] at hSol hBst hRed
          refine callS_of hSol ?_
          clear hSol hDe hPe hBe hDd hPd
          unfold wdA at hBst hRed ⊢
          simp only [vcX,ntA_len,vcV,vcD,Int.reduceEq,Int.reduceNe,Int.reduceLT,Int.reduceLE,Nat.reduceEqDiff,Nat.reduceAdd,reduceIte,reduceCtorEq,Nat.reduceLT,Nat.reduceLeDiff,eq_self,vcP2,Nat.reduceShiftRight,Nat.reduceMod]
          refine callS_of hBst ?_
          cases hb:bsS items l S s with
          | true =>
            have hfd:fdS items l S=some s:=find_at h' hb hno
            rw [hfd,hftR]
            unfold rdA at hRed ⊢
            split at hRed
            · rename_i g
              rw [if_pos g]
              simp only [vcX,vcV,vcD,Int.reduceEq,Int.reduceNe,Int.reduceLT,Int.reduceLE,Nat.reduceEqDiff,Nat.reduceAdd,reduceIte,reduceCtorEq,Nat.reduceLT,Nat.reduceLeDiff,eq_self,vcP2,Nat.reduceShiftRight,Nat.reduceMod]
              refine callS_of hRed ?_
              simp only [vcX,vcV,vcD,Int.reduceEq,Int.reduceNe,Int.reduceLT,Int.reduceLE,Nat.reduceEqDiff,Nat.reduceAdd,reduceIte,reduceCtorEq,Nat.reduceLT,Nat.reduceLeDiff,eq_self,vcP2,Nat.reduceShiftRight,Nat.reduceMod]
            · rename_i g
              rw [if_neg g]
              simp only [vcX,vcV,vcD,Int.reduceEq,Int.reduceNe,Int.reduceLT,Int.reduceLE,Nat.reduceEqDiff,Nat.reduceAdd,reduceIte,reduceCtorEq,Nat.reduceLT,Nat.reduceLeDiff,eq_self,vcP2,Nat.reduceShiftRight,Nat.reduceMod]
              refine callS_of hRed ?_
              simp only [vcX,vcV,vcD,Int.reduceEq,Int.reduceNe,Int.reduceLT,Int.reduceLE,Nat.reduceEqDiff,Nat.reduceAdd,reduceIte,reduceCtorEq,Nat.reduceLT,Nat.reduceLeDiff,eq_self,vcP2,Nat.reduceShiftRight,Nat.reduceMod]
          | false =>
            simp only [vcV,vcD,Int.reduceEq,Int.reduceNe,Int.reduceLT,Int.reduceLE,Nat.reduceEqDiff,Nat.reduceAdd,reduceIte,reduceCtorEq,Nat.reduceLT,Nat.reduceLeDiff,eq_self,vcP2,Nat.reduceShiftRight,Nat.reduceMod]
            refine ⟨⟨s+1,by omega,fun k hk=>?_⟩,by simp only;omega,?_⟩
            · by_cases e:k=s
              · subst e;exact hb
              · exact hno k (by omega)
            · refine weakX [] (of_decide_eq_true rfl) (of_decide_eq_true rfl) ?_
              (simp only [vcX,vcW,vcV,vcD,Int.reduceEq,Int.reduceNe,Int.reduceLT,Int.reduceLE,Nat.reduceEqDiff,Nat.reduceAdd,reduceIte,reduceCtorEq,Nat.reduceLT,Nat.reduceLeDiff,eq_self,vcP2,Nat.reduceShiftRight,Nat.reduceMod])
              repeat' (with_reducible refine And.intro ?_ ?_)
              try any_goals (with_reducible exact RnB.wide)
              (repeat' first | exact trivial | (with_reducible first | exact RnB.fxB (ints_fxB _) | rfl | refine And.intro ?_ ?_) | (with_reducible (first | refine RnB.bb ?_ | refine RnB.nb ?_);simp only [vcW,vcV,vcD,Int.reduceEq,Int.reduceNe,Int.reduceLT,Int.reduceLE,Nat.reduceEqDiff,Nat.reduceAdd,reduceIte,reduceCtorEq,Nat.reduceLT,Nat.reduceLeDiff,eq_self,vcP2,Nat.reduceShiftRight,Nat.reduceMod]) | (with_reducible first | refine RnB.ii ?_ | refine RnB.app ?_) | (with_reducible refine RnB.fxB ?_;simp only [vcW,vcV,vcD,Int.reduceEq,Int.reduceNe,Int.reduceLT,Int.reduceLE,Nat.reduceEqDiff,Nat.reduceAdd,reduceIte,reduceCtorEq,Nat.reduceLT,Nat.reduceLeDiff,eq_self,vcP2,Nat.reduceShiftRight,Nat.reduceMod]) | omega)
              all_goals exact add_u s 1 (by omega)
        · have r0':¬ (r:Int)=0:=by omega
          obtain ⟨k1,k2⟩:=tk5_step (r:=r) (by omega) (by omega)
          have hZ:=zeros_s (r:=r) (by omega) (by omega)
          have hsb:IntKind.u64.wrap ((r:Int) - 1)=((r - 1:Nat):Int):=by
            have:=sub_u r 1 (by omega) (by omega);exact this
          have han:=and_g r (r - 1) (by omega) (by omega)
          obtain ⟨z,hzd⟩:∃ z,z=(tk5 r).getD 0 0:=⟨_,rfl⟩
          rw [← hzd] at k1 hZ
          have hsn:=ntA_snoc pre z
          simp only [r0',ints_length,ntA_len,vcV,vcD,Int.reduceEq,Int.reduceNe,Int.reduceLT,Int.reduceLE,Nat.reduceEqDiff,Nat.reduceAdd,reduceIte,reduceCtorEq,Nat.reduceLT,Nat.reduceLeDiff,eq_self,vcP2,Nat.reduceShiftRight,Nat.reduceMod]
          refine callS_of hZ ?_
          simp only [ints_length,ntA_len,hsb,han,vcV,vcD,Int.reduceEq,Int.reduceNe,Int.reduceLT,Int.reduceLE,Nat.reduceEqDiff,Nat.reduceAdd,reduceIte,reduceCtorEq,Nat.reduceLT,Nat.reduceLeDiff,eq_self,vcP2,Nat.reduceShiftRight,Nat.reduceMod]
          refine ⟨⟨by omega,by omega⟩,⟨(r &&& (r - 1),pre ++ [z]),by simp only;omega,by simp only;rw [List.append_assoc];rw [k1] at hpre;exact hpre⟩,k2,?_⟩
          refine weakX [(101,some 40)] (of_decide_eq_true rfl) (of_decide_eq_true rfl) ?_
          (simp only [hsn,List.length_append,vcW,vcV,vcD,Int.reduceEq,Int.reduceNe,Int.reduceLT,Int.reduceLE,Nat.reduceEqDiff,Nat.reduceAdd,reduceIte,reduceCtorEq,Nat.reduceLT,Nat.reduceLeDiff,eq_self,vcP2,Nat.reduceShiftRight,Nat.reduceMod])
          repeat' (with_reducible refine And.intro ?_ ?_)
          try any_goals (with_reducible exact RnB.wide)
          (repeat' first | exact trivial | (with_reducible first | exact RnB.fxB (ints_fxB _) | rfl | refine And.intro ?_ ?_) | (with_reducible (first | refine RnB.bb ?_ | refine RnB.nb ?_);simp only [vcW,vcV,vcD,Int.reduceEq,Int.reduceNe,Int.reduceLT,Int.reduceLE,Nat.reduceEqDiff,Nat.reduceAdd,reduceIte,reduceCtorEq,Nat.reduceLT,Nat.reduceLeDiff,eq_self,vcP2,Nat.reduceShiftRight,Nat.reduceMod]) | (with_reducible first | refine RnB.ii ?_ | refine RnB.app ?_) | (with_reducible refine RnB.fxB ?_;simp only [vcW,vcV,vcD,Int.reduceEq,Int.reduceNe,Int.reduceLT,Int.reduceLE,Nat.reduceEqDiff,Nat.reduceAdd,reduceIte,reduceCtorEq,Nat.reduceLT,Nat.reduceLeDiff,eq_self,vcP2,Nat.reduceShiftRight,Nat.reduceMod]) | omega)
          all_goals trace_state
    · have hil:s=2 ^ S:=by omega
      subst hil
      have hc1:¬ ((2 ^ S:Nat):Int)<(2 ^ S:Nat):=by omega
      have hfd:fdS items l S=none:=find_no hno
      rw [hfd,ftR]
      simp only [hc1,vcV,vcD,Int.reduceEq,Int.reduceNe,Int.reduceLT,Int.reduceLE,Nat.reduceEqDiff,Nat.reduceAdd,reduceIte,reduceCtorEq,Nat.reduceLT,Nat.reduceLeDiff,eq_self,vcP2,Nat.reduceShiftRight,Nat.reduceMod]
end Go.Proofs.YtgmpcbpmnimkoaaGreatDoor

/- Contracts of the reference: squares,numerals of wide numbers,what is kept. By an AI agent;nothing here is trusted. -/
namespace Go.Proofs.YtgmpcbpmnimkoaaGreatDoor
open Go.Av

theorem e92:(1000000000:Nat) ^ 2=1000000000000000000:=by decide
theorem pow9 {k:Nat} (h:k≤2):(1000000000:Int) ^ k≤1000000000000000000:=by
  have h1:(1000000000:Nat) ^ k≤1000000000 ^ 2:=Nat.pow_le_pow_right (by omega) h
  rw [e92] at h1
  have h2:(1000000000:Int) ^ k=((1000000000 ^ k:Nat):Int):=by simp
  rw [h2];omega
theorem dg_two {n:Nat} (h:n<1000000000000000000):(dg n).length≤2:=dg_len (k:=2) (by rw [e92];exact h)
theorem dg_three {n:Nat} (h:¬ n<1000000000000000000):2<(dg n).length:=by
  refine Classical.byContradiction fun hn=>h ?_
  have h1:=dVal_lt (okD_dg n)
  rw [dVal_dg] at h1
  have h2:=pow9 (k:=(dg n).length) (by omega)
  omega
theorem WideInt_s (v:Int):Sound Tryz.prog 110 [wideA v] (.tup [.int .i64 (if v.natAbs<1000000000000000000 then v else 0),.bool (decide (v.natAbs<1000000000000000000))]):=by
  refine sound_W f_base_WideInt (Nat.le_of_ble_eq_true rfl) ?_
  rw [wide_hr]
  by_cases h:v.natAbs<1000000000000000000
  case neg =>
    have h3:(2:Int)<(dg v.natAbs).length:=by have:=dg_three h;omega
    rw [if_neg h]
    simp only [c_base_WideInt,h3,h,vcV,vcD,Int.reduceEq,Int.reduceNe,Int.reduceLT,Int.reduceLE,Nat.reduceEqDiff,Nat.reduceAdd,reduceIte,reduceCtorEq,Nat.reduceLT,Nat.reduceLeDiff,eq_self,vcP2,Nat.reduceShiftRight,Nat.reduceMod]
  have h2:=dg_two h
  have h3:¬ (2:Int)<(dg v.natAbs).length:=by omega
  have hv:=dVal_dg v.natAbs
  have ho:=okD_dg v.natAbs
  have hsv:v.sign * (v.natAbs:Int)=v:=Int.sign_mul_natAbs v
  rw [if_pos h]
  generalize dg v.natAbs=l at *
  have hbd:∀ k,0≤dVal (l.drop k)∧dVal (l.drop k)<1000000000000000000:=fun k=>by
    have ok:okD (l.drop k):=fun d hd=>ho d (List.mem_of_mem_drop hd)
    refine ⟨dVal_nonneg ok,?_⟩
    have h1:=dVal_lt ok
    have h2:=pow9 (k:=(l.drop k).length) (by rw [List.length_drop];omega)
    omega
  simp only [c_base_WideInt,h3,h,vcV,vcD,Int.reduceEq,Int.reduceNe,Int.reduceLT,Int.reduceLE,Nat.reduceEqDiff,Nat.reduceAdd,reduceIte,reduceCtorEq,Nat.reduceLT,Nat.reduceLeDiff,eq_self,vcP2,Nat.reduceShiftRight,Nat.reduceMod]
  (repeat (with_reducible refine And.intro ?_ ?_;focus (first | omega | (unfold I64;omega))))
  refine W_loop (t:=.mk) (α:=PSigma fun i:Nat=>i≤l.length) (fun ⟨i,_⟩=>(envOf [(1,.ptr 1 0 0),(4,.int .i64 (dVal (l.drop (l.length - i)))),(5,.int .i64 ((l.length:Int) - 1 - i))],stOf [(1,⟨38,2,[.agg [.int .i64 v.sign,.sl (ints l)]]⟩)])) (fun x=>l.length - x.1) ⟨0,Nat.zero_le _⟩ ?_ (fun ⟨i,hin⟩=>?_)
  · have e0:dVal (l.drop (l.length - 0))=0:=by rw [Nat.sub_zero,List.drop_length];rfl
    have e1:(l.length:Int) - 1 - (0:Nat)=(l.length:Int) - 1:=by omega
    refine weakX [] (of_decide_eq_true rfl) (of_decide_eq_true rfl) ?_
    (simp only [e0,e1,vcW,vcV,vcD,Int.reduceEq,Int.reduceNe,Int.reduceLT,Int.reduceLE,Nat.reduceEqDiff,Nat.reduceAdd,reduceIte,reduceCtorEq,Nat.reduceLT,Nat.reduceLeDiff,eq_self,vcP2,Nat.reduceShiftRight,Nat.reduceMod])
    (repeat' first | exact trivial | (with_reducible first | exact RnB.fxB (ints_fxB _) | rfl | refine And.intro ?_ ?_) | (with_reducible (first | refine RnB.bb ?_ | refine RnB.nb ?_);simp only [vcW,vcV,vcD,Int.reduceEq,Int.reduceNe,Int.reduceLT,Int.reduceLE,Nat.reduceEqDiff,Nat.reduceAdd,reduceIte,reduceCtorEq,Nat.reduceLT,Nat.reduceLeDiff,eq_self,vcP2,Nat.reduceShiftRight,Nat.reduceMod]) | (with_reducible first | refine RnB.ii ?_ | refine RnB.app ?_) | (with_reducible refine RnB.fxB ?_;simp only [vcW,vcV,vcD,Int.reduceEq,Int.reduceNe,Int.reduceLT,Int.reduceLE,Nat.reduceEqDiff,Nat.reduceAdd,reduceIte,reduceCtorEq,Nat.reduceLT,Nat.reduceLeDiff,eq_self,vcP2,Nat.reduceShiftRight,Nat.reduceMod]) | omega)
  · dsimp only at hin ⊢
    by_cases h':i<l.length
    · have hc1:(0:Int)≤(l.length:Int) - 1 - i:=by omega
      have hj:l.length - 1 - i<l.length:=by omega
      have hji:(l.length:Int) - 1 - i=((l.length - 1 - i:Nat):Int):=by omega
      have hg:=ints_get l (l.length - 1 - i) hj
      have hdr:l.drop (l.length - (i+1))=l[l.length - 1 - i] :: l.drop (l.length - i):=by
        rw [show l.length - (i+1)=l.length - 1 - i by omega,List.drop_eq_getElem_cons hj]
        congr 2;omega
      have hb1:=hbd (l.length - i)
      have hb2:=hbd (l.length - (i+1))
      have hoj:=ho _ (List.getElem_mem hj)
      have hnx:dVal (l.drop (l.length - i)) * 1000000000+l[l.length - 1 - i]=dVal (l.drop (l.length - (i+1))):=by rw [hdr,dVal];omega
      have e2:((l.length - 1 - i:Nat):Int) - 1=(l.length:Int) - 1 - ((i+1:Nat):Int):=by omega
      rw [hji] at hc1 ⊢
      generalize l[l.length - 1 - i]=dd at *
      simp only [hc1,hg,hnx,e2,vcV,vcD,Int.reduceEq,Int.reduceNe,Int.reduceLT,Int.reduceLE,Nat.reduceEqDiff,Nat.reduceAdd,reduceIte,reduceCtorEq,Nat.reduceLT,Nat.reduceLeDiff,eq_self,vcP2,Nat.reduceShiftRight,Nat.reduceMod]
      (repeat (with_reducible refine And.intro ?_ ?_;focus (first | omega | (unfold I64;omega))))
      refine ⟨⟨i+1,h'⟩,by simp only;omega,?_⟩
      refine weakX [] (of_decide_eq_true rfl) (of_decide_eq_true rfl) ?_
      (simp only [vcW,vcV,vcD,Int.reduceEq,Int.reduceNe,Int.reduceLT,Int.reduceLE,Nat.reduceEqDiff,Nat.reduceAdd,reduceIte,reduceCtorEq,Nat.reduceLT,Nat.reduceLeDiff,eq_self,vcP2,Nat.reduceShiftRight,Nat.reduceMod])
      (repeat' first | exact trivial | (with_reducible first | exact RnB.fxB (ints_fxB _) | rfl | refine And.intro ?_ ?_) | (with_reducible (first | refine RnB.bb ?_ | refine RnB.nb ?_);simp only [vcW,vcV,vcD,Int.reduceEq,Int.reduceNe,Int.reduceLT,Int.reduceLE,Nat.reduceEqDiff,Nat.reduceAdd,reduceIte,reduceCtorEq,Nat.reduceLT,Nat.reduceLeDiff,eq_self,vcP2,Nat.reduceShiftRight,Nat.reduceMod]) | (with_reducible first | refine RnB.ii ?_ | refine RnB.app ?_) | (with_reducible refine RnB.fxB ?_;simp only [vcW,vcV,vcD,Int.reduceEq,Int.reduceNe,Int.reduceLT,Int.reduceLE,Nat.reduceEqDiff,Nat.reduceAdd,reduceIte,reduceCtorEq,Nat.reduceLT,Nat.reduceLeDiff,eq_self,vcP2,Nat.reduceShiftRight,Nat.reduceMod]) | omega)
    · have hil:i=l.length:=by omega
      subst hil
      have hc1:¬ (0:Int)≤(l.length:Int) - 1 - l.length:=by omega
      have hb1:=hbd 0
      rw [List.drop_zero,hv] at hb1
      rw [Nat.sub_self,List.drop_zero,hv]
      simp only [hc1,hsv,h,vcV,vcD,Int.reduceEq,Int.reduceNe,Int.reduceLT,Int.reduceLE,Nat.reduceEqDiff,Nat.reduceAdd,reduceIte,reduceCtorEq,Nat.reduceLT,Nat.reduceLeDiff,eq_self,vcP2,Nat.reduceShiftRight,Nat.reduceMod]
      unfold I64;omega
theorem bytesOf_1 (n:Int) (h:0≤n∧n<256):bytesOf [.int .u8 n]=some [UInt8.ofNat n.toNat]:=by
  simp only [bytesOf,h,and_self,if_true,Option.map_some]
theorem u8_wrap {n:Int} (h:0≤n∧n<256):IntKind.u8.wrap n=n:=by
  have:IntKind.u8.wrap n=n % 256:=by simp [IntKind.wrap,IntKind.bits,IntKind.signed]
  rw [this];omega
theorem itoa_zero:Lib.itoa 0=[48]:=by
  unfold Lib.itoa;rw [if_neg (by omega)]
  show Lib.decDigits 0=[48]
  rw [Lib.decDigits];rfl
theorem dec_snoc {u:Nat} (h:10≤u):Lib.decDigits u=Lib.decDigits (u / 10) ++ [UInt8.ofNat (48+u % 10)]:=by
  conv=>lhs;rw [Lib.decDigits,dif_neg (by omega)]
def decM (u:Nat):List UInt8:=if u=0 then [] else Lib.decDigits u
theorem decM_step {u:Nat} (h:u ≠ 0):decM u=decM (u / 10) ++ [UInt8.ofNat (48+u % 10)]:=by
  unfold decM
  rw [if_neg h]
  by_cases h10:u<10
  · rw [if_pos (by omega),Lib.decDigits,dif_pos h10,Nat.mod_eq_of_lt h10];rfl
  · rw [if_neg (by omega),dec_snoc (by omega)]
theorem decM_len:∀ {u k:Nat},u<10 ^ k→(decM u).length≤k
  | u,0,h=>by
    have:u=0:=by simpa using h
    subst this;simp [decM]
  | u,k+1,h=>by
    by_cases h0:u=0
    · subst h0;simp [decM]
    · rw [decM_step h0,List.length_append,List.length_singleton]
      have:=decM_len (u:=u / 10) (k:=k) (by rw [Nat.pow_succ] at h;omega)
      omega
theorem Decimal_s (n:Int) (hn:S63 n):Sound Tryz.prog 111 [.int .i64 n] (.str (Lib.itoa n)):=by
  refine sound_W f_base_Decimal (Nat.le_of_ble_eq_true rfl) ?_
  by_cases h0:n=0
  · subst h0
    rw [itoa_zero]
    simp only [c_base_Decimal,vcV,vcD,Int.reduceEq,Int.reduceNe,Int.reduceLT,Int.reduceLE,Nat.reduceEqDiff,Nat.reduceAdd,reduceIte,reduceCtorEq,Nat.reduceLT,Nat.reduceLeDiff,eq_self,vcP2,Nat.reduceShiftRight,Nat.reduceMod]
  have hn':=hn
  unfold S63 at hn
  have hbig:∀ u:Nat,u≤n.natAbs→(decM u).length≤20:=fun u hu=>decM_len (by have:(10:Nat) ^ 20=100000000000000000000:=(by decide);omega)
  have key:∃ (f:Nat→Int) (sg:List UInt8),f n.natAbs=n∧sg ++ decM n.natAbs=Lib.itoa n∧sg=(if n<0 then [45] else []) ∧
      ∀ u:Nat,(u ≠ 0→¬ f u=0)∧f 0=0∧(f u).tdiv 10=f (u / 10)∧(f u).tmod 10=f (u % 10)∧(f u).natAbs=u:=by
    have hd:decM n.natAbs=Lib.decDigits n.natAbs:=by unfold decM;rw [if_neg (by omega)]
    by_cases h:n<0
    · refine ⟨fun u => -(u:Int),[45],by simp only;omega,?_,by rw [if_pos h],fun u=>⟨fun hu=>by simp only;omega,rfl,by simp only;rw [Int.neg_tdiv];rfl,by simp only;rw [Int.neg_tmod];rfl,by simp only;omega⟩⟩
      unfold Lib.itoa;rw [if_pos h,hd];rfl
    · refine ⟨fun u=>(u:Int),[],by simp only;omega,?_,by rw [if_neg h],fun u=>⟨fun hu=>by simp only;omega,rfl,rfl,rfl,by simp only;omega⟩⟩
      unfold Lib.itoa;rw [if_neg h,show n.toNat=n.natAbs by omega,hd];rfl
  obtain ⟨f,sg,hfn,hres,hsg,hf⟩:=key
  by_cases hneg:n<0
  all_goals
    first | rw [if_pos hneg] at hsg | rw [if_neg hneg] at hsg
    simp only [c_base_Decimal,h0,hneg,vcV,vcD,Int.reduceEq,Int.reduceNe,Int.reduceLT,Int.reduceLE,Nat.reduceEqDiff,Nat.reduceAdd,reduceIte,reduceCtorEq,Nat.reduceLT,Nat.reduceLeDiff,eq_self,vcP2,Nat.reduceShiftRight,Nat.reduceMod]
    refine W_loop (t:=.mk) (α:=PSigma fun p:Nat × List UInt8=>p.1≤n.natAbs∧decM p.1 ++ p.2=decM n.natAbs) (fun ⟨p,_⟩=>(envOf [(0,.int .i64 (f p.1)),(3,.str p.2),(4,.str sg)],stOf [])) (fun x=>x.1.1) ⟨(n.natAbs,[]),Nat.le_refl _,List.append_nil _⟩ ?_ (fun ⟨⟨u,sfx⟩,hu,hs⟩=>?_)
    · refine weakX [] (of_decide_eq_true rfl) (of_decide_eq_true rfl) ?_
      (simp only [hfn,hsg,vcW,vcV,vcD,Int.reduceEq,Int.reduceNe,Int.reduceLT,Int.reduceLE,Nat.reduceEqDiff,Nat.reduceAdd,reduceIte,reduceCtorEq,Nat.reduceLT,Nat.reduceLeDiff,eq_self,vcP2,Nat.reduceShiftRight,Nat.reduceMod])
      (repeat' first | exact trivial | (with_reducible first | exact RnB.fxB (ints_fxB _) | rfl | refine And.intro ?_ ?_) | (with_reducible (first | refine RnB.bb ?_ | refine RnB.nb ?_);simp only [vcW,vcV,vcD,Int.reduceEq,Int.reduceNe,Int.reduceLT,Int.reduceLE,Nat.reduceEqDiff,Nat.reduceAdd,reduceIte,reduceCtorEq,Nat.reduceLT,Nat.reduceLeDiff,eq_self,vcP2,Nat.reduceShiftRight,Nat.reduceMod]) | (with_reducible first | refine RnB.ii ?_ | refine RnB.app ?_) | (with_reducible refine RnB.fxB ?_;simp only [vcW,vcV,vcD,Int.reduceEq,Int.reduceNe,Int.reduceLT,Int.reduceLE,Nat.reduceEqDiff,Nat.reduceAdd,reduceIte,reduceCtorEq,Nat.reduceLT,Nat.reduceLeDiff,eq_self,vcP2,Nat.reduceShiftRight,Nat.reduceMod]) | omega)
    · dsimp only at hu hs ⊢
      obtain ⟨f1,f2,f3,f4,f5⟩:=hf u
      by_cases hz:u=0
      · subst hz
        have hsl:sfx=decM n.natAbs:=by rw [← hs];rfl
        have hl:=hbig n.natAbs (Nat.le_refl _)
        rw [← hsl] at hl hres
        have hsgl:sg.length≤1:=by rw [hsg];decide
        rw [f2]
        simp only [hres,vcV,vcD,Int.reduceEq,Int.reduceNe,Int.reduceLT,Int.reduceLE,Nat.reduceEqDiff,Nat.reduceAdd,reduceIte,reduceCtorEq,Nat.reduceLT,Nat.reduceLeDiff,eq_self,vcP2,Nat.reduceShiftRight,Nat.reduceMod]
        omega
      · have hst:=decM_step hz
        have hv:=f1 hz
        have f5':=(hf (u % 10)).2.2.2.2
        have hSz:=Size_s (f (u % 10)) (by unfold S63;omega)
        rw [f5'] at hSz
        have hw:IntKind.u8.wrap (48+((u % 10:Nat):Int))=48+((u % 10:Nat):Int):=u8_wrap (by omega)
        have hby:=bytesOf_1 (48+((u % 10:Nat):Int)) (by omega)
        have htn:(48+((u % 10:Nat):Int)).toNat=48+u % 10:=by omega
        rw [htn] at hby
        have hl2:=hbig n.natAbs (Nat.le_refl _)
        have hl3:sfx.length≤20:=by rw [← hs,List.length_append] at hl2;omega
        have f6:=(hf (u / 10)).2.2.2.2
        have hI:I64 (f (u / 10)):=by unfold I64;omega
        simp only [hv,f4,f3,vcV,vcD,Int.reduceEq,Int.reduceNe,Int.reduceLT,Int.reduceLE,Nat.reduceEqDiff,Nat.reduceAdd,reduceIte,reduceCtorEq,Nat.reduceLT,Nat.reduceLeDiff,eq_self,vcP2,Nat.reduceShiftRight,Nat.reduceMod]
        refine callS_of hSz ?_
        simp only [hw,hby,f3,vcV,vcD,Int.reduceEq,Int.reduceNe,Int.reduceLT,Int.reduceLE,Nat.reduceEqDiff,Nat.reduceAdd,reduceIte,reduceCtorEq,Nat.reduceLT,Nat.reduceLeDiff,eq_self,vcP2,Nat.reduceShiftRight,Nat.reduceMod]
        refine ⟨by unfold I64;omega,by omega,hI,⟨(u / 10,UInt8.ofNat (48+u % 10) :: sfx),by simp only;omega,by simp only;rw [← hs,hst,List.append_assoc];rfl⟩,by simp only;omega,?_⟩
        refine weakX [] (of_decide_eq_true rfl) (of_decide_eq_true rfl) ?_
        (simp only [vcW,vcV,vcD,Int.reduceEq,Int.reduceNe,Int.reduceLT,Int.reduceLE,Nat.reduceEqDiff,Nat.reduceAdd,reduceIte,reduceCtorEq,Nat.reduceLT,Nat.reduceLeDiff,eq_self,vcP2,Nat.reduceShiftRight,Nat.reduceMod])
        (repeat' first | exact trivial | (with_reducible first | exact RnB.fxB (ints_fxB _) | rfl | refine And.intro ?_ ?_) | (with_reducible (first | refine RnB.bb ?_ | refine RnB.nb ?_);simp only [vcW,vcV,vcD,Int.reduceEq,Int.reduceNe,Int.reduceLT,Int.reduceLE,Nat.reduceEqDiff,Nat.reduceAdd,reduceIte,reduceCtorEq,Nat.reduceLT,Nat.reduceLeDiff,eq_self,vcP2,Nat.reduceShiftRight,Nat.reduceMod]) | (with_reducible first | refine RnB.ii ?_ | refine RnB.app ?_) | (with_reducible refine RnB.fxB ?_;simp only [vcW,vcV,vcD,Int.reduceEq,Int.reduceNe,Int.reduceLT,Int.reduceLE,Nat.reduceEqDiff,Nat.reduceAdd,reduceIte,reduceCtorEq,Nat.reduceLT,Nat.reduceLeDiff,eq_self,vcP2,Nat.reduceShiftRight,Nat.reduceMod]) | omega)
end Go.Proofs.YtgmpcbpmnimkoaaGreatDoor

/- Contracts of the reference: digits of wide numbers. By an AI agent;nothing here is trusted. -/
namespace Go.Proofs.YtgmpcbpmnimkoaaGreatDoor
open Go.Av

theorem wOk_10k {v:Int} (h:v.natAbs≤100000000000000000000000000000000000):wOk 10000 v :=
  wOk_more (k:=4) (wOk_of (Nat.lt_of_le_of_lt h (by decide))) (by omega)
theorem Digits_s:∀ n:Nat,n≤100000000000000000000000000000000000→Sound Tryz.prog 26 [wideA (n:Int)] (.str (Lib.decDigits n)):=by
  intro n
  induction n using Nat.strongRecOn with
  | ind n ih =>
    intro hn
    refine sound_W f_ref02_Digits (Nat.le_of_ble_eq_true rfl) ?_
    have hWI:=WideInt_s (n:Int)
    have hna:(n:Int).natAbs=n:=by omega
    rw [hna] at hWI
    have hwn:=wide_hr (n:Int)
    by_cases h18:n<1000000000000000000
    · rw [if_pos h18,decide_eq_true h18] at hWI
      have hD:=Decimal_s (n:Int) (by unfold S63;omega)
      rw [Lib.itoa_nonneg] at hD
      rw [hwn] at hWI ⊢
      simp only [c_ref02_Digits,vcV,vcD,Int.reduceEq,Int.reduceNe,Int.reduceLT,Int.reduceLE,Nat.reduceEqDiff,Nat.reduceAdd,reduceIte,reduceCtorEq,Nat.reduceLT,Nat.reduceLeDiff,eq_self,vcP2,Nat.reduceShiftRight,Nat.reduceMod]
      refine callS_of hWI ?_
      simp only [vcV,vcD,Int.reduceEq,Int.reduceNe,Int.reduceLT,Int.reduceLE,Nat.reduceEqDiff,Nat.reduceAdd,reduceIte,reduceCtorEq,Nat.reduceLT,Nat.reduceLeDiff,eq_self,vcP2,Nat.reduceShiftRight,Nat.reduceMod]
      refine callS_of hD ?_
      simp only [vcV,vcD,Int.reduceEq,Int.reduceNe,Int.reduceLT,Int.reduceLE,Nat.reduceEqDiff,Nat.reduceAdd,reduceIte,reduceCtorEq,Nat.reduceLT,Nat.reduceLeDiff,eq_self,vcP2,Nat.reduceShiftRight,Nat.reduceMod]
    · rw [if_neg h18,decide_eq_false h18] at hWI
      obtain ⟨q,hq⟩:∃ q,q=n / 1000000000:=⟨_,rfl⟩
      obtain ⟨r,hr⟩:∃ r,r=n % 1000000000:=⟨_,rfl⟩
      have hqr:n=q * 1000000000+r∧r<1000000000:=by omega
      have hB:=WideOf_s 1000000000 (by unfold I64;omega)
      have hF:Sound Tryz.prog 112 [wideA (n:Int),wideA 1000000000] (wideA ((n:Int) / 1000000000)):=WideFloor_s (n:Int) 1000000000 (by omega) (wOk_10k (by omega)) (wOk_10k (by omega))
      have eF:(n:Int) / 1000000000=(q:Int):=by omega
      rw [eF] at hF
      have hM:=WideMul_s (q:Int) 1000000000 (wOk_35 (by omega)) (wOk_35 (by omega))
      have hS:=WideSub_s (n:Int) ((q:Int) * 1000000000) (wOk_35 (by omega)) (wOk_35 (by omega))
      have eS:(n:Int) - (q:Int) * 1000000000=(r:Int):=by omega
      rw [eS] at hS
      have hWL:=WideInt_s (r:Int)
      have hra:(r:Int).natAbs=r:=by omega
      rw [hra,if_pos (show r<1000000000000000000 by omega),decide_eq_true (show r<1000000000000000000 by omega)] at hWL
      have hD:=Decimal_s (r:Int) (by unfold S63;omega)
      rw [Lib.itoa_nonneg] at hD
      have hR:=ih q (by omega) (by omega)
      have e9:(10:Nat) ^ 9=1000000000:=by decide
      have hsp:=Lin.dec_split 9 n (by rw [e9];omega)
      rw [e9,← hq,← hr] at hsp
      have hpad:=Lin.pad_small (k:=8) (r:=r) (by rw [e9];exact hqr.2)
      have hdl:(Lib.decDigits r).length≤9:=by
        have h1:=Lin.pad_len 9 r
        rw [hpad,List.length_append,List.length_replicate] at h1
        omega
      have hd1:1≤(Lib.decDigits r).length:=by
        have:=Lin.dec_ne r
        cases h:Lib.decDigits r with
        | nil=>exact absurd h this
        | cons a b=>simp
      have hql:(Lib.decDigits q).length≤50:=dec_len (by have:(100000000000000000000000000000000000:Nat)<10 ^ 50:=(by decide);omega)
      rw [hsp]
      clear hsp
      rw [wide_hr] at hB hR
      rw [wide_hr,wide_hr,wide_hr] at hF hM hS
      rw [wide_hr] at hWL
      rw [hwn] at hWI ⊢
      simp only [c_ref02_Digits,vcV,vcD,Int.reduceEq,Int.reduceNe,Int.reduceLT,Int.reduceLE,Nat.reduceEqDiff,Nat.reduceAdd,reduceIte,reduceCtorEq,Nat.reduceLT,Nat.reduceLeDiff,eq_self,vcP2,Nat.reduceShiftRight,Nat.reduceMod]
      refine callS_of hWI ?_
      simp only [vcV,vcD,Int.reduceEq,Int.reduceNe,Int.reduceLT,Int.reduceLE,Nat.reduceEqDiff,Nat.reduceAdd,reduceIte,reduceCtorEq,Nat.reduceLT,Nat.reduceLeDiff,eq_self,vcP2,Nat.reduceShiftRight,Nat.reduceMod]
      refine callS_of hB ?_
      simp only [vcV,vcD,Int.reduceEq,Int.reduceNe,Int.reduceLT,Int.reduceLE,Nat.reduceEqDiff,Nat.reduceAdd,reduceIte,reduceCtorEq,Nat.reduceLT,Nat.reduceLeDiff,eq_self,vcP2,Nat.reduceShiftRight,Nat.reduceMod]
      refine callS_of hF ?_
      simp only [vcV,vcD,Int.reduceEq,Int.reduceNe,Int.reduceLT,Int.reduceLE,Nat.reduceEqDiff,Nat.reduceAdd,reduceIte,reduceCtorEq,Nat.reduceLT,Nat.reduceLeDiff,eq_self,vcP2,Nat.reduceShiftRight,Nat.reduceMod]
      refine callS_of hB ?_
      simp only [vcV,vcD,Int.reduceEq,Int.reduceNe,Int.reduceLT,Int.reduceLE,Nat.reduceEqDiff,Nat.reduceAdd,reduceIte,reduceCtorEq,Nat.reduceLT,Nat.reduceLeDiff,eq_self,vcP2,Nat.reduceShiftRight,Nat.reduceMod]
      refine callS_of hM ?_
      simp only [vcV,vcD,Int.reduceEq,Int.reduceNe,Int.reduceLT,Int.reduceLE,Nat.reduceEqDiff,Nat.reduceAdd,reduceIte,reduceCtorEq,Nat.reduceLT,Nat.reduceLeDiff,eq_self,vcP2,Nat.reduceShiftRight,Nat.reduceMod]
      refine callS_of hS ?_
      simp only [vcV,vcD,Int.reduceEq,Int.reduceNe,Int.reduceLT,Int.reduceLE,Nat.reduceEqDiff,Nat.reduceAdd,reduceIte,reduceCtorEq,Nat.reduceLT,Nat.reduceLeDiff,eq_self,vcP2,Nat.reduceShiftRight,Nat.reduceMod]
      refine callS_of hWL ?_
      simp only [vcV,vcD,Int.reduceEq,Int.reduceNe,Int.reduceLT,Int.reduceLE,Nat.reduceEqDiff,Nat.reduceAdd,reduceIte,reduceCtorEq,Nat.reduceLT,Nat.reduceLeDiff,eq_self,vcP2,Nat.reduceShiftRight,Nat.reduceMod]
      refine callS_of hD ?_
      simp only [vcV,vcD,Int.reduceEq,Int.reduceNe,Int.reduceLT,Int.reduceLE,Nat.reduceEqDiff,Nat.reduceAdd,reduceIte,reduceCtorEq,Nat.reduceLT,Nat.reduceLeDiff,eq_self,vcP2,Nat.reduceShiftRight,Nat.reduceMod]
      refine W_loop (t:=.mk) (α:=PSigma fun i:Nat=>i+(Lib.decDigits r).length≤9) (fun ⟨i,_⟩=>(envOf [(6,.ptr 6 0 0),(9,.str (List.replicate i 48 ++ Lib.decDigits r))],stOf [(6,⟨38,2,[.agg [.int .i64 (q:Int).sign,.sl (ints (dg (q:Int).natAbs))]]⟩)])) (fun x=>9 - x.1) ⟨0,by omega⟩ ?_ (fun ⟨i,hi⟩=>?_)
      · have z:List.replicate 0 (48:UInt8) ++ Lib.decDigits r=Lib.decDigits r:=rfl
        refine weakX [] (of_decide_eq_true rfl) (of_decide_eq_true rfl) ?_
        (simp only [z,vcW,vcV,vcD,Int.reduceEq,Int.reduceNe,Int.reduceLT,Int.reduceLE,Nat.reduceEqDiff,Nat.reduceAdd,reduceIte,reduceCtorEq,Nat.reduceLT,Nat.reduceLeDiff,eq_self,vcP2,Nat.reduceShiftRight,Nat.reduceMod])
        (repeat' first | exact trivial | (with_reducible first | exact RnB.fxB (ints_fxB _) | rfl | refine And.intro ?_ ?_) | (with_reducible (first | refine RnB.bb ?_ | refine RnB.nb ?_);simp only [vcW,vcV,vcD,Int.reduceEq,Int.reduceNe,Int.reduceLT,Int.reduceLE,Nat.reduceEqDiff,Nat.reduceAdd,reduceIte,reduceCtorEq,Nat.reduceLT,Nat.reduceLeDiff,eq_self,vcP2,Nat.reduceShiftRight,Nat.reduceMod]) | (with_reducible first | refine RnB.ii ?_ | refine RnB.app ?_) | (with_reducible refine RnB.fxB ?_;simp only [vcW,vcV,vcD,Int.reduceEq,Int.reduceNe,Int.reduceLT,Int.reduceLE,Nat.reduceEqDiff,Nat.reduceAdd,reduceIte,reduceCtorEq,Nat.reduceLT,Nat.reduceLeDiff,eq_self,vcP2,Nat.reduceShiftRight,Nat.reduceMod]) | omega)
      · dsimp only at hi ⊢
        have hlen:(List.replicate i (48:UInt8) ++ Lib.decDigits r).length=i+(Lib.decDigits r).length:=by rw [List.length_append,List.length_replicate]
        by_cases h9:i+(Lib.decDigits r).length<9
        · have h9':((i+(Lib.decDigits r).length:Nat):Int)<9:=by omega
          have hcat:[(48:UInt8)] ++ (List.replicate i 48 ++ Lib.decDigits r)=List.replicate (i+1) 48 ++ Lib.decDigits r:=rfl
          simp only [hlen,h9',hcat,vcV,vcD,Int.reduceEq,Int.reduceNe,Int.reduceLT,Int.reduceLE,Nat.reduceEqDiff,Nat.reduceAdd,reduceIte,reduceCtorEq,Nat.reduceLT,Nat.reduceLeDiff,eq_self,vcP2,Nat.reduceShiftRight,Nat.reduceMod]
          refine ⟨by omega,⟨i+1,by omega⟩,by simp only;omega,?_⟩
          refine weakX [] (of_decide_eq_true rfl) (of_decide_eq_true rfl) ?_
          (simp only [vcW,vcV,vcD,Int.reduceEq,Int.reduceNe,Int.reduceLT,Int.reduceLE,Nat.reduceEqDiff,Nat.reduceAdd,reduceIte,reduceCtorEq,Nat.reduceLT,Nat.reduceLeDiff,eq_self,vcP2,Nat.reduceShiftRight,Nat.reduceMod])
          (repeat' first | exact trivial | (with_reducible first | exact RnB.fxB (ints_fxB _) | rfl | refine And.intro ?_ ?_) | (with_reducible (first | refine RnB.bb ?_ | refine RnB.nb ?_);simp only [vcW,vcV,vcD,Int.reduceEq,Int.reduceNe,Int.reduceLT,Int.reduceLE,Nat.reduceEqDiff,Nat.reduceAdd,reduceIte,reduceCtorEq,Nat.reduceLT,Nat.reduceLeDiff,eq_self,vcP2,Nat.reduceShiftRight,Nat.reduceMod]) | (with_reducible first | refine RnB.ii ?_ | refine RnB.app ?_) | (with_reducible refine RnB.fxB ?_;simp only [vcW,vcV,vcD,Int.reduceEq,Int.reduceNe,Int.reduceLT,Int.reduceLE,Nat.reduceEqDiff,Nat.reduceAdd,reduceIte,reduceCtorEq,Nat.reduceLT,Nat.reduceLeDiff,eq_self,vcP2,Nat.reduceShiftRight,Nat.reduceMod]) | omega)
        · have h9':¬ ((i+(Lib.decDigits r).length:Nat):Int)<9:=by omega
          have hip:List.replicate i 48 ++ Lib.decDigits r=Lin.pad 9 r:=by rw [hpad];congr 2;omega
          rw [hip] at hlen ⊢
          simp only [hlen,h9',vcV,vcD,Int.reduceEq,Int.reduceNe,Int.reduceLT,Int.reduceLE,Nat.reduceEqDiff,Nat.reduceAdd,reduceIte,reduceCtorEq,Nat.reduceLT,Nat.reduceLeDiff,eq_self,vcP2,Nat.reduceShiftRight,Nat.reduceMod]
          refine callS_of hR ?_
          simp only [hlen,vcV,vcD,Int.reduceEq,Int.reduceNe,Int.reduceLT,Int.reduceLE,Nat.reduceEqDiff,Nat.reduceAdd,reduceIte,reduceCtorEq,Nat.reduceLT,Nat.reduceLeDiff,eq_self,vcP2,Nat.reduceShiftRight,Nat.reduceMod]
          omega
end Go.Proofs.YtgmpcbpmnimkoaaGreatDoor

/- The examples of chapter 2 hold. By an AI agent;nothing here is trusted. -/
namespace Go.Proofs.YtgmpcbpmnimkoaaGreatDoor
open Go.Av
theorem awake_run:(callX extP owP itP (lookC tabP) 100 40).v 11 []=some (.bool true):=by kernel_rfl
theorem awake_s:Sound Tryz.prog 11 [] (.bool true):=(callX_sound extP_ok itP_ok tabP_ok 40).1 _ _ _ awake_run
end Go.Proofs.YtgmpcbpmnimkoaaGreatDoor

/- The marked code of law functions;printed by a program. By an AI agent;nothing here is trusted. -/
namespace Go.Proofs.YtgmpcbpmnimkoaaGreatDoor
open Go.Av
def cl_law02_PulseKept:ML:=(.seq (.reg 14 [⟨none,some 3,.box 24 2 (.t 0)⟩,⟨none,some 6,.mv (.c (.bool false))⟩] false []) (.seq (.seq (.reg 2097166 [⟨none,some 20,.call 11 []⟩,⟨none,some 21,.un .not (.t 20)⟩] false []) (.cond (.t 21) (.seq (.reg 64 [⟨none,some 6,.mv (.c (.bool false))⟩] false []) .ret) .skip)) (.seq (.seq (.reg 1073741838 [⟨none,some 22,.load (some 2) (.t 3)⟩,⟨none,some 23,.mv (.t 1)⟩,⟨none,some 24,.call 12 [(.t 22),(.t 23)]⟩,⟨none,some 25,.bin .neq (.t 24) (.c (.int .i64 0))⟩,⟨none,some 26,.mv (.t 25)⟩,⟨(some (26,false)),some 27,.mv (.t 2)⟩,⟨(some (26,false)),some 28,.call 13 [(.t 27),(.c (.int .i64 1)),(.c (.int .i64 20))]⟩,⟨(some (26,false)),some 29,.un .not (.t 28)⟩,⟨none,some 30,.pick (.t 26) (.c (.bool true)) (.t 29)⟩] false []) (.cond (.t 30) (.seq (.reg 64 [⟨none,some 6,.mv (.c (.bool true))⟩] false []) .ret) .skip)) (.seq (.reg 398 [⟨none,some 32,.load (some 2) (.t 3)⟩,⟨none,some 33,.call 15 [(.t 32)]⟩,⟨none,some 34,.mv (.t 1)⟩,⟨none,some 35,.call 16 [(.t 34)]⟩,⟨none,some 36,.call 14 [(.t 33),(.t 35)]⟩,⟨none,some 31,.mv (.t 36)⟩,⟨none,some 37,.extract (.t 31) 0⟩,⟨none,some 38,.extract (.t 31) 1⟩,⟨none,some 7,.alloc 29 2 (.agg [(.int .i64 0),.nils])⟩,⟨none,none,.store 2 (.t 7) (.t 37)⟩,⟨none,some 8,.mv (.t 38)⟩] false []) (.seq (.seq (.reg 1099511628174 [⟨none,some 39,.mv (.t 8)⟩,⟨none,some 40,.bin .neq (.t 39) (.c (.int .i64 0))⟩] false []) (.cond (.t 40) (.seq (.reg 64 [⟨none,some 41,.mv (.t 8)⟩,⟨none,some 42,.bin .eql (.t 41) (.c (.int .i64 8))⟩,⟨none,some 6,.mv (.t 42)⟩] false []) .ret) .skip)) (.seq (.seq (.reg 9007199254741134 [⟨none,some 43,.load (some 2) (.t 7)⟩,⟨none,some 44,.call 17 [(.t 43)]⟩,⟨none,some 45,.bin .neq (.t 44) (.c (.int .i64 0))⟩,⟨none,some 46,.mv (.t 45)⟩,⟨(some (46,false)),some 47,.fieldAddr (.t 7) 1⟩,⟨(some (46,false)),some 48,.load none (.t 47)⟩,⟨(some (46,false)),some 49,.len false (.t 48)⟩,⟨(some (46,false)),some 50,.fieldAddr (.t 3) 1⟩,⟨(some (46,false)),some 51,.load none (.t 50)⟩,⟨(some (46,false)),some 52,.bin .neq (.t 49) (.t 51)⟩,⟨none,some 53,.pick (.t 46) (.c (.bool true)) (.t 52)⟩] false []) (.cond (.t 53) (.seq (.reg 64 [⟨none,some 6,.mv (.c (.bool false))⟩] false []) .ret) .skip)) (.seq (.reg 654 [⟨none,some 54,.load (some 2) (.t 3)⟩,⟨none,some 55,.fieldAddr (.t 7) 1⟩,⟨none,some 56,.load none (.t 55)⟩,⟨none,some 57,.call 18 [(.t 54),(.t 56)]⟩,⟨none,some 9,.mv (.t 57)⟩] false []) (.seq (.reg 1678 [⟨none,some 58,.call 19 [(.c (.int .i64 0))]⟩,⟨none,some 10,.alloc 38 2 (.agg [(.int .i64 0),.nils])⟩,⟨none,none,.store 2 (.t 10) (.t 58)⟩] false []) (.seq (.seq (.reg 3726 [⟨none,some 11,.mv (.c (.int .i64 0))⟩] false []) (.block 0 (.loop (.seq (.seq (.reg 4611686018427391630 [⟨none,some 59,.mv (.t 11)⟩,⟨none,some 60,.mv (.t 1)⟩,⟨none,some 61,.len false (.t 60)⟩,⟨none,some 62,.bin .lss (.t 59) (.t 61)⟩] false []) (.cond (.t 62) .skip (.exit 0))) (.seq (.block 1 (.seq (.reg 7822 [⟨none,some 65,.mv (.t 1)⟩,⟨none,some 66,.mv (.t 11)⟩,⟨none,some 67,.indexAddr (.t 65) (.t 66) 1⟩,⟨none,some 68,.load none (.t 67)⟩,⟨none,some 69,.call 19 [(.t 68)]⟩,⟨none,some 70,.fieldAddr (.t 7) 0⟩,⟨none,some 71,.load none (.t 70)⟩,⟨none,some 72,.call 19 [(.t 71)]⟩,⟨none,some 73,.call 20 [(.t 69),(.t 72)]⟩,⟨none,some 12,.alloc 38 2 (.agg [(.int .i64 0),.nils])⟩,⟨none,none,.store 2 (.t 12) (.t 73)⟩] true [(⟨none,some 67,.indexAddr (.t 65) (.t 66) 1⟩,⟨none,some 12,.alloc 38 2 (.agg [(.int .i64 0),.nils])⟩),(⟨none,some 68,.load none (.t 67)⟩,⟨none,some 12,.alloc 38 2 (.agg [(.int .i64 0),.nils])⟩),(⟨none,some 69,.call 19 [(.t 68)]⟩,⟨none,some 12,.alloc 38 2 (.agg [(.int .i64 0),.nils])⟩),(⟨none,some 70,.fieldAddr (.t 7) 0⟩,⟨none,some 12,.alloc 38 2 (.agg [(.int .i64 0),.nils])⟩),(⟨none,some 71,.load none (.t 70)⟩,⟨none,some 12,.alloc 38 2 (.agg [(.int .i64 0),.nils])⟩),(⟨none,some 72,.call 19 [(.t 71)]⟩,⟨none,some 12,.alloc 38 2 (.agg [(.int .i64 0),.nils])⟩),(⟨none,some 73,.call 20 [(.t 69),(.t 72)]⟩,⟨none,some 12,.alloc 38 2 (.agg [(.int .i64 0),.nils])⟩)]) (.reg 3726 [⟨none,some 74,.load (some 2) (.t 10)⟩,⟨none,some 75,.load (some 2) (.t 12)⟩,⟨none,some 76,.load (some 2) (.t 12)⟩,⟨none,some 77,.call 20 [(.t 75),(.t 76)]⟩,⟨none,some 78,.mv (.t 9)⟩,⟨none,some 79,.mv (.t 11)⟩,⟨none,some 80,.indexAddr (.t 78) (.t 79) 1⟩,⟨none,some 81,.load none (.t 80)⟩,⟨none,some 82,.call 19 [(.t 81)]⟩,⟨none,some 83,.mv (.t 9)⟩,⟨none,some 84,.mv (.t 11)⟩,⟨none,some 85,.indexAddr (.t 83) (.t 84) 1⟩,⟨none,some 86,.load none (.t 85)⟩,⟨none,some 87,.call 19 [(.t 86)]⟩,⟨none,some 88,.call 20 [(.t 82),(.t 87)]⟩,⟨none,some 89,.call 22 [(.t 77),(.t 88)]⟩,⟨none,some 90,.call 21 [(.t 74),(.t 89)]⟩,⟨none,none,.store 2 (.t 10) (.t 90)⟩] true []))) (.reg 3726 [⟨none,some 63,.mv (.t 11)⟩,⟨none,some 64,.bin .add (.t 63) (.c (.int .i64 1))⟩,⟨none,some 11,.mv (.t 64)⟩] false [])))))) (.seq (.reg 25742 [⟨none,some 92,.load (some 2) (.t 3)⟩,⟨none,some 93,.call 15 [(.t 92)]⟩,⟨none,some 94,.mv (.t 1)⟩,⟨none,some 95,.call 16 [(.t 94)]⟩,⟨none,some 96,.load (some 2) (.t 7)⟩,⟨none,some 97,.call 24 [(.t 96)]⟩,⟨none,some 98,.call 23 [(.t 93),(.t 95),(.t 97)]⟩,⟨none,some 91,.mv (.t 98)⟩,⟨none,some 99,.extract (.t 91) 0⟩,⟨none,some 100,.extract (.t 91) 1⟩,⟨none,some 13,.alloc 42 2 (.agg [(.str []),(.int .i64 0)])⟩,⟨none,none,.store 2 (.t 13) (.t 99)⟩,⟨none,some 14,.mv (.t 100)⟩] true [(⟨none,some 92,.load (some 2) (.t 3)⟩,⟨none,some 13,.alloc 42 2 (.agg [(.str []),(.int .i64 0)])⟩),(⟨none,some 93,.call 15 [(.t 92)]⟩,⟨none,some 13,.alloc 42 2 (.agg [(.str []),(.int .i64 0)])⟩),(⟨none,some 95,.call 16 [(.t 94)]⟩,⟨none,some 13,.alloc 42 2 (.agg [(.str []),(.int .i64 0)])⟩),(⟨none,some 96,.load (some 2) (.t 7)⟩,⟨none,some 13,.alloc 42 2 (.agg [(.str []),(.int .i64 0)])⟩),(⟨none,some 97,.call 24 [(.t 96)]⟩,⟨none,some 13,.alloc 42 2 (.agg [(.str []),(.int .i64 0)])⟩),(⟨none,some 98,.call 23 [(.t 93),(.t 95),(.t 97)]⟩,⟨none,some 13,.alloc 42 2 (.agg [(.str []),(.int .i64 0)])⟩)]) (.seq (.seq (.reg 83076749736557242056487941267521678 [⟨none,some 101,.mv (.t 14)⟩,⟨none,some 102,.bin .neq (.t 101) (.c (.int .i64 0))⟩,⟨none,some 103,.mv (.t 102)⟩,⟨(some (103,false)),some 104,.load (some 2) (.t 10)⟩,⟨(some (103,false)),some 105,.call 25 [(.t 104)]⟩,⟨(some (103,false)),some 106,.bin .lss (.t 105) (.c (.int .i64 0))⟩,⟨none,some 107,.pick (.t 103) (.c (.bool true)) (.t 106)⟩,⟨none,some 108,.mv (.t 107)⟩,⟨(some (108,false)),some 109,.load (some 2) (.t 13)⟩,⟨(some (108,false)),some 110,.load (some 2) (.t 10)⟩,⟨(some (108,false)),some 111,.call 26 [(.t 110)]⟩,⟨(some (108,false)),some 112,.fieldAddr (.t 7) 0⟩,⟨(some (108,false)),some 113,.load none (.t 112)⟩,⟨(some (108,false)),some 114,.build [(.str []),(.int .i64 0)] [(0,(1,(.t 111))),(1,(1,(.t 113)))]⟩,⟨(some (108,false)),some 115,.eqS true [2,1] (.t 109) (.t 114)⟩,⟨none,some 116,.pick (.t 108) (.c (.bool true)) (.t 115)⟩] true []) (.cond (.t 116) (.seq (.reg 64 [⟨none,some 6,.mv (.c (.bool false))⟩] false []) .ret) .skip)) (.seq (.reg 32910 [⟨none,some 15,.mv (.c .nils)⟩] false []) (.seq (.seq (.reg 98446 [⟨none,some 16,.mv (.c (.int .i64 0))⟩] false []) (.block 2 (.loop (.seq (.seq (.reg 1329227995784915872903807060280443022 [⟨none,some 117,.mv (.t 16)⟩,⟨none,some 118,.mv (.t 1)⟩,⟨none,some 119,.len false (.t 118)⟩,⟨none,some 120,.bin .lss (.t 117) (.t 119)⟩] false []) (.cond (.t 120) .skip (.exit 2))) (.seq (.block 3 (.reg 98446 [⟨none,some 123,.mv (.t 15)⟩,⟨none,some 124,.mv (.t 1)⟩,⟨none,some 125,.mv (.t 16)⟩,⟨none,some 126,.indexAddr (.t 124) (.t 125) 1⟩,⟨none,some 127,.load none (.t 126)⟩,⟨none,some 128,.mv (.t 2)⟩,⟨none,some 129,.bin .mul (.t 127) (.t 128)⟩,⟨none,some 130,.buildSlice 3 1 1 (.int .i64 0) [(0,(.t 129))]⟩,⟨none,some 131,.append 3 1 8 (.int .i64 0) (.t 123) (.t 130)⟩,⟨none,some 15,.mv (.t 131)⟩] false [])) (.reg 98446 [⟨none,some 121,.mv (.t 16)⟩,⟨none,some 122,.bin .add (.t 121) (.c (.int .i64 1))⟩,⟨none,some 16,.mv (.t 122)⟩] false [])))))) (.seq (.seq (.reg 21778071482940061661655974875633165566092 [⟨none,some 132,.mv (.t 15)⟩,⟨none,some 133,.call 27 [(.t 132)]⟩,⟨none,some 134,.bin .neq (.t 133) (.c (.int .i64 0))⟩] false []) (.cond (.t 134) (.seq (.reg 64 [⟨none,some 6,.mv (.c (.bool true))⟩] false []) .ret) .skip)) (.seq (.reg 393356 [⟨none,some 136,.load (some 2) (.t 3)⟩,⟨none,some 137,.call 15 [(.t 136)]⟩,⟨none,some 138,.mv (.t 15)⟩,⟨none,some 139,.call 14 [(.t 137),(.t 138)]⟩,⟨none,some 135,.mv (.t 139)⟩,⟨none,some 140,.extract (.t 135) 0⟩,⟨none,some 141,.extract (.t 135) 1⟩,⟨none,some 17,.alloc 29 2 (.agg [(.int .i64 0),.nils])⟩,⟨none,none,.store 2 (.t 17) (.t 140)⟩,⟨none,some 18,.mv (.t 141)⟩] false []) (.seq (.seq (.reg 11150372599265311570767859136324180753383564 [⟨none,some 142,.mv (.t 18)⟩,⟨none,some 143,.bin .neq (.t 142) (.c (.int .i64 0))⟩] false []) (.cond (.t 143) (.seq (.reg 64 [⟨none,some 144,.mv (.t 18)⟩,⟨none,some 145,.bin .eql (.t 144) (.c (.int .i64 8))⟩,⟨none,some 6,.mv (.t 145)⟩] false []) .ret) .skip)) (.seq (.seq (.reg 91343852333181432387730302044767688728495915148 [⟨none,some 146,.load (some 2) (.t 17)⟩,⟨none,some 147,.call 17 [(.t 146)]⟩,⟨none,some 148,.bin .neq (.t 147) (.c (.int .i64 0))⟩,⟨none,some 149,.mv (.t 148)⟩,⟨(some (149,false)),some 150,.fieldAddr (.t 17) 1⟩,⟨(some (149,false)),some 151,.load none (.t 150)⟩,⟨(some (149,false)),some 152,.len false (.t 151)⟩,⟨(some (149,false)),some 153,.fieldAddr (.t 3) 1⟩,⟨(some (149,false)),some 154,.load none (.t 153)⟩,⟨(some (149,false)),some 155,.bin .neq (.t 152) (.t 154)⟩,⟨none,some 156,.pick (.t 149) (.c (.bool true)) (.t 155)⟩] false []) (.cond (.t 156) (.seq (.reg 64 [⟨none,some 6,.mv (.c (.bool false))⟩] false []) .ret) .skip)) (.seq (.seq (.reg 655500 [⟨none,some 19,.mv (.c (.int .i64 0))⟩] false []) (.block 4 (.loop (.seq (.seq (.reg 1461501637330902918203684832716283019655933198476 [⟨none,some 157,.mv (.t 19)⟩,⟨none,some 158,.fieldAddr (.t 3) 1⟩,⟨none,some 159,.load none (.t 158)⟩,⟨none,some 160,.bin .lss (.t 157) (.t 159)⟩] false []) (.cond (.t 160) .skip (.exit 4))) (.seq (.block 5 (.seq (.reg 98079714615416886934934209737619787751599303819751194764 [⟨none,some 163,.fieldAddr (.t 17) 1⟩,⟨none,some 164,.load none (.t 163)⟩,⟨none,some 165,.mv (.t 19)⟩,⟨none,some 166,.indexAddr (.t 164) (.t 165) 1⟩,⟨none,some 167,.load none (.t 166)⟩,⟨none,some 168,.call 19 [(.t 167)]⟩,⟨none,some 169,.fieldAddr (.t 7) 0⟩,⟨none,some 170,.load none (.t 169)⟩,⟨none,some 171,.call 19 [(.t 170)]⟩,⟨none,some 172,.call 20 [(.t 168),(.t 171)]⟩,⟨none,some 173,.fieldAddr (.t 7) 1⟩,⟨none,some 174,.load none (.t 173)⟩,⟨none,some 175,.mv (.t 19)⟩,⟨none,some 176,.indexAddr (.t 174) (.t 175) 1⟩,⟨none,some 177,.load none (.t 176)⟩,⟨none,some 178,.mv (.t 2)⟩,⟨none,some 179,.bin .mul (.t 177) (.t 178)⟩,⟨none,some 180,.call 19 [(.t 179)]⟩,⟨none,some 181,.fieldAddr (.t 17) 0⟩,⟨none,some 182,.load none (.t 181)⟩,⟨none,some 183,.call 19 [(.t 182)]⟩,⟨none,some 184,.call 20 [(.t 180),(.t 183)]⟩,⟨none,some 185,.call 28 [(.t 172),(.t 184)]⟩,⟨none,some 186,.bin .neq (.t 185) (.c (.int .i64 0))⟩] true []) (.cond (.t 186) (.seq (.reg 64 [⟨none,some 6,.mv (.c (.bool false))⟩] false []) .ret) .skip))) (.reg 655500 [⟨none,some 161,.mv (.t 19)⟩,⟨none,some 162,.bin .add (.t 161) (.c (.int .i64 1))⟩,⟨none,some 19,.mv (.t 162)⟩] false [])))))) (.seq (.reg 64 [⟨none,some 6,.mv (.c (.bool true))⟩] false []) .ret)))))))))))))))))))
theorem e_law02_PulseKept:cl_law02_PulseKept.er=c_law02_PulseKept:=rfl
end Go.Proofs.YtgmpcbpmnimkoaaGreatDoor

/- The law PulseKept: it answers true. By an AI agent;nothing here is trusted. -/
namespace Go.Proofs.YtgmpcbpmnimkoaaGreatDoor
open Go.Av

theorem fdE_parts {items l:List Int} {shifts:Int} (h:fdE items shifts l=0):teE items shifts=0∧smE l=0∧(l.length:Int)=shifts+items.length - 1:=by
  unfold fdE at h
  split at h
  · rename_i g;exact absurd h g
  · rename_i g
    split at h
    · rename_i g2;exact absurd h g2
    · rename_i g2
      split at h
      · rename_i g3;exact ⟨by omega,by omega,g3⟩
      · cases h
theorem kpS_succ (items l ch:List Int) (den:Int) (n:Nat):kpS items l ch den (n+1)=kpS items l ch den n+((l.getD n 0 * den) * (l.getD n 0 * den) - mdT items ch n ch.length * mdT items ch n ch.length):=rfl
theorem kpS_bd {items l:List Int} {shifts:Int} {ch:List Int} {den:Int} (F:FitIn items l shifts ch den) (n:Nat) : -(n * 200000000000000000000000000000000:Int)≤kpS items l ch den n∧kpS items l ch den n≤n * 200000000000000000000000000000000:=by
  unfold kpS
  refine Lin.smI_bd fun m _=>?_
  have h1:=F.pb m
  have h2:=F.mb m
  have h3:=Lin.abs_mul (A:=10000000000000000) (B:=10000000000000000) h1 h1
  have h4:=Lin.abs_mul (A:=500000000000000) (B:=500000000000000) h2 h2
  omega
set_option maxHeartbeats 8000000 in
theorem PulseKept_s (items:List Int) (shifts:Int) (l:List Int) (b:Int):Sound Tryz.prog 3 [tplA items shifts,.sl (ints l),.int .i64 b] (.bool true):=by
  refine sound_WL f_law02_PulseKept e_law02_PulseKept (Nat.le_of_ble_eq_true rfl) ?_
  have hmax:=maxLen_big
  have hFE:=FittedErr_s items shifts l
  have hWi:=Within_s b 1 20
  unfold tplA at hFE ⊢
  simp only [cl_law02_PulseKept,vcV,vcD,Int.reduceEq,Int.reduceNe,Int.reduceLT,Int.reduceLE,Nat.reduceEqDiff,Nat.reduceAdd,reduceIte,reduceCtorEq,Nat.reduceLT,Nat.reduceLeDiff,eq_self,vcP2,Nat.reduceShiftRight,Nat.reduceMod]
  refine callS_of awake_s ?_
  simp only [vcV,vcD,Int.reduceEq,Int.reduceNe,Int.reduceLT,Int.reduceLE,Nat.reduceEqDiff,Nat.reduceAdd,reduceIte,reduceCtorEq,Nat.reduceLT,Nat.reduceLeDiff,eq_self,vcP2,Nat.reduceShiftRight,Nat.reduceMod]
  refine callS_of hFE ?_
  by_cases e1:fdE items shifts l=0
  case neg=>simp only [e1,vcV,vcD,Int.reduceEq,Int.reduceNe,Int.reduceLT,Int.reduceLE,Nat.reduceEqDiff,Nat.reduceAdd,reduceIte,reduceCtorEq,Nat.reduceLT,Nat.reduceLeDiff,eq_self,vcP2,Nat.reduceShiftRight,Nat.reduceMod]
  simp only [e1,vcV,vcD,Int.reduceEq,Int.reduceNe,Int.reduceLT,Int.reduceLE,Nat.reduceEqDiff,Nat.reduceAdd,reduceIte,reduceCtorEq,Nat.reduceLT,Nat.reduceLeDiff,eq_self,vcP2,Nat.reduceShiftRight,Nat.reduceMod]
  refine callS_of hWi ?_
  by_cases hb:1≤b∧b≤20
  case neg=>simp only [hb,vcV,vcD,Int.reduceEq,Int.reduceNe,Int.reduceLT,Int.reduceLE,Nat.reduceEqDiff,Nat.reduceAdd,reduceIte,reduceCtorEq,Nat.reduceLT,Nat.reduceLeDiff,eq_self,vcP2,Nat.reduceShiftRight,Nat.reduceMod]
  obtain ⟨F0,hS⟩:=fdE_ok e1
  obtain ⟨p1,p2,p3⟩:=fdE_parts e1
  have hi6:=F0.i6
  have hs5:=F0.s5
  have hll:=F0.ll
  have hCT:=CopyTemplate_s items shifts (by omega)
  have hCI:=CopyInts_s l (by omega)
  have hFO:=FitOf_s items shifts l (by omega) (by omega)
  unfold tplA at hCT hFO
  simp only [hb,vcV,vcD,Int.reduceEq,Int.reduceNe,Int.reduceLT,Int.reduceLE,Nat.reduceEqDiff,Nat.reduceAdd,reduceIte,reduceCtorEq,Nat.reduceLT,Nat.reduceLeDiff,eq_self,vcP2,Nat.reduceShiftRight,Nat.reduceMod]
  refine callS_of hCT ?_
  simp only [vcV,vcD,Int.reduceEq,Int.reduceNe,Int.reduceLT,Int.reduceLE,Nat.reduceEqDiff,Nat.reduceAdd,reduceIte,reduceCtorEq,Nat.reduceLT,Nat.reduceLeDiff,eq_self,vcP2,Nat.reduceShiftRight,Nat.reduceMod]
  refine callS_of hCI ?_
  simp only [vcV,vcD,Int.reduceEq,Int.reduceNe,Int.reduceLT,Int.reduceLE,Nat.reduceEqDiff,Nat.reduceAdd,reduceIte,reduceCtorEq,Nat.reduceLT,Nat.reduceLeDiff,eq_self,vcP2,Nat.reduceShiftRight,Nat.reduceMod]
  refine callS_of hFO ?_
  rcases ft_ok e1 with ⟨den,ch,hft,F,hgc,hbest⟩ | hft
  case inr =>
    rw [hft]
    simp only [vcV,vcD,Int.reduceEq,Int.reduceNe,Int.reduceLT,Int.reduceLE,Nat.reduceEqDiff,Nat.reduceAdd,reduceIte,reduceCtorEq,Nat.reduceLT,Nat.reduceLeDiff,eq_self,vcP2,Nat.reduceShiftRight,Nat.reduceMod]
  rw [hft]
  have hFi:=FitErr_s den ch (by have:=F.cl;omega)
  have hcl:=F.cl
  have hch5:ch.length≤5:=by omega
  have hMo:=Model_s (items:=items) (ch:=ch) (shifts:=shifts) (C:=1000000000000) F.i1 F.i6 F.cl (by omega) (by omega) F.ib F.cb2
  have hml:=F.mlen
  have hl10:=F.l10
  have hW0:=WideOf_s 0 (by unfold I64;omega)
  have hdb:=F.db
  unfold fitA at hFi
  unfold tplA at hMo
  rw [fE_fit F] at hFi
  simp only [vcV,vcD,Int.reduceEq,Int.reduceNe,Int.reduceLT,Int.reduceLE,Nat.reduceEqDiff,Nat.reduceAdd,reduceIte,reduceCtorEq,Nat.reduceLT,Nat.reduceLeDiff,eq_self,vcP2,Nat.reduceShiftRight,Nat.reduceMod]
  refine callS_of hFi ?_
  simp only [hcl,vcV,vcD,Int.reduceEq,Int.reduceNe,Int.reduceLT,Int.reduceLE,Nat.reduceEqDiff,Nat.reduceAdd,reduceIte,reduceCtorEq,Nat.reduceLT,Nat.reduceLeDiff,eq_self,vcP2,Nat.reduceShiftRight,Nat.reduceMod]
  refine callS_of hMo ?_
  simp only [vcV,vcD,Int.reduceEq,Int.reduceNe,Int.reduceLT,Int.reduceLE,Nat.reduceEqDiff,Nat.reduceAdd,reduceIte,reduceCtorEq,Nat.reduceLT,Nat.reduceLeDiff,eq_self,vcP2,Nat.reduceShiftRight,Nat.reduceMod]
  refine callS_of hW0 ?_
  rw [wide_hr]
  have hmg:∀ n (h:n<(mdA items ch).length),(mdA items ch)[n]=mdT items ch n ch.length:=fun n h=>mdA_get _ _ h
  obtain ⟨M,hM⟩:∃ M,M=mdA items ch:=⟨_,rfl⟩
  have hMg:∀ n (h:n<M.length),M[n]=mdT items ch n ch.length:=fun n h=>by subst hM;exact hmg n h
  have hMl:M.length=l.length:=by rw [hM];exact hml
  rw [← hM]
  simp only [vcV,vcD,Int.reduceEq,Int.reduceNe,Int.reduceLT,Int.reduceLE,Nat.reduceEqDiff,Nat.reduceAdd,reduceIte,reduceCtorEq,Nat.reduceLT,Nat.reduceLeDiff,eq_self,vcP2,Nat.reduceShiftRight,Nat.reduceMod]
  refine WL_loop (t:=.mk) (α:=PSigma fun n:Nat=>n≤l.length) (fun ⟨n,_⟩=>(envOf [(1,.sl (ints l)),(2,.int .i64 b),(3,.ptr 3 0 0),(7,.ptr 7 0 0),(9,.sl (ints M)),(10,.ptr 10 0 0),(11,.int .i64 n)],stOf [(3,⟨24,2,[.agg [.sl (ints items),.int .i64 shifts]]⟩),(7,⟨29,2,[.agg [.int .i64 den,.sl (ints ch)]]⟩),(10,⟨38,2,[wideA (kpS items l ch den n)]⟩)])) (fun x=>l.length - x.1) ⟨0,Nat.zero_le _⟩ ?_ (fun ⟨n,hn⟩=>?_)
  · have z:wideA (kpS items l ch den 0)=.agg [.int .i64 (Int.sign 0),.sl (ints (dg (Int.natAbs 0)))]:=rfl
    refine weakX [] (of_decide_eq_true rfl) (of_decide_eq_true rfl) ?_
    (simp only [z,vcW,vcV,vcD,Int.reduceEq,Int.reduceNe,Int.reduceLT,Int.reduceLE,Nat.reduceEqDiff,Nat.reduceAdd,reduceIte,reduceCtorEq,Nat.reduceLT,Nat.reduceLeDiff,eq_self,vcP2,Nat.reduceShiftRight,Nat.reduceMod])
    repeat' (with_reducible refine And.intro ?_ ?_)
    try any_goals (with_reducible exact RnB.wide)
    (repeat' first | exact trivial | (with_reducible first | exact RnB.fxB (ints_fxB _) | rfl | refine And.intro ?_ ?_) | (with_reducible (first | refine RnB.bb ?_ | refine RnB.nb ?_);simp only [vcW,vcV,vcD,Int.reduceEq,Int.reduceNe,Int.reduceLT,Int.reduceLE,Nat.reduceEqDiff,Nat.reduceAdd,reduceIte,reduceCtorEq,Nat.reduceLT,Nat.reduceLeDiff,eq_self,vcP2,Nat.reduceShiftRight,Nat.reduceMod]) | (with_reducible first | refine RnB.ii ?_ | refine RnB.app ?_) | (with_reducible refine RnB.fxB ?_;simp only [vcW,vcV,vcD,Int.reduceEq,Int.reduceNe,Int.reduceLT,Int.reduceLE,Nat.reduceEqDiff,Nat.reduceAdd,reduceIte,reduceCtorEq,Nat.reduceLT,Nat.reduceLeDiff,eq_self,vcP2,Nat.reduceShiftRight,Nat.reduceMod]) | omega)
    all_goals trace_state
  · dsimp only at hn ⊢
    by_cases h2:n<l.length
    · have hc3:(n:Int)<l.length:=by omega
      have hk:=kpS_bd F n
      have hk2:=kpS_bd F (n+1)
      have hks:=kpS_succ items l ch den n
      have hmb:=F.mb n
      have hpb:=F.pb n
      have hlb:=F.lb2 n
      have hgl:l.getD n 0=l[n]:=getD_at h2
      have hMn:=ints_get M n (by omega)
      rw [hMg n (by omega)] at hMn
      rw [hgl] at hks hpb hlb
      generalize mdT items ch n ch.length=m at *
      have hq1:=Lin.abs_mul (A:=10000000000000000) (B:=10000000000000000) hpb hpb
      have hq2:=Lin.abs_mul (A:=500000000000000) (B:=500000000000000) hmb hmb
      obtain ⟨p,hp⟩:∃ p,p=l[n] * den:=⟨_,rfl⟩
      obtain ⟨G,hG⟩:∃ G,G=kpS items l ch den n:=⟨_,rfl⟩
      rw [← hp] at hks hpb hq1
      rw [← hG] at hk hks ⊢
      have hA:=WideOf_s l[n] (by unfold I64;omega)
      have hB:=WideOf_s den (by unfold I64;omega)
      have hC:=WideMul_s l[n] den (wOk_35 (by omega)) (wOk_35 (by omega))
      rw [← hp] at hC
      have hD:=WideMul_s p p (wOk_35 (by omega)) (wOk_35 (by omega))
      have hE:=WideOf_s m (by unfold I64;omega)
      have hH:=WideMul_s m m (wOk_35 (by omega)) (wOk_35 (by omega))
      have hI:=WideSub_s (p * p) (m * m) (wOk_35 (by omega)) (wOk_35 (by omega))
      have hJ:=WideAdd_s G (p * p - m * m) (wOk_35 (by omega)) (wOk_35 (by omega))
      rw [← hks] at hJ
      rw [wide_hr] at hA hB hE
      rw [wide_hr,wide_hr,wide_hr] at hC
      rw [wide_hr,wide_hr] at hD hH
      rw [wide_hr,wide_hr,wide_hr] at hI hJ
      rw [wide_hr G]
      have hWn:=wide_hr (kpS items l ch den (n+1))
      simp only [hc3,ints_get l n h2,vcV,vcD,Int.reduceEq,Int.reduceNe,Int.reduceLT,Int.reduceLE,Nat.reduceEqDiff,Nat.reduceAdd,reduceIte,reduceCtorEq,Nat.reduceLT,Nat.reduceLeDiff,eq_self,vcP2,Nat.reduceShiftRight,Nat.reduceMod]
      (repeat (with_reducible refine And.intro ?_ ?_;focus (first | omega | (unfold I64;omega))))
      refine callS_of hA ?_
      simp only [vcV,vcD,Int.reduceEq,Int.reduceNe,Int.reduceLT,Int.reduceLE,Nat.reduceEqDiff,Nat.reduceAdd,reduceIte,reduceCtorEq,Nat.reduceLT,Nat.reduceLeDiff,eq_self,vcP2,Nat.reduceShiftRight,Nat.reduceMod]
      refine callS_of hB ?_
      simp only [vcV,vcD,Int.reduceEq,Int.reduceNe,Int.reduceLT,Int.reduceLE,Nat.reduceEqDiff,Nat.reduceAdd,reduceIte,reduceCtorEq,Nat.reduceLT,Nat.reduceLeDiff,eq_self,vcP2,Nat.reduceShiftRight,Nat.reduceMod]
      refine callS_of hC ?_
      simp only [vcV,vcD,Int.reduceEq,Int.reduceNe,Int.reduceLT,Int.reduceLE,Nat.reduceEqDiff,Nat.reduceAdd,reduceIte,reduceCtorEq,Nat.reduceLT,Nat.reduceLeDiff,eq_self,vcP2,Nat.reduceShiftRight,Nat.reduceMod]
      refine callS_of hD ?_
      simp only [hMn,vcV,vcD,Int.reduceEq,Int.reduceNe,Int.reduceLT,Int.reduceLE,Nat.reduceEqDiff,Nat.reduceAdd,reduceIte,reduceCtorEq,Nat.reduceLT,Nat.reduceLeDiff,eq_self,vcP2,Nat.reduceShiftRight,Nat.reduceMod]
      (repeat (with_reducible refine And.intro ?_ ?_;focus (first | omega | (unfold I64;omega))))
      refine callS_of hE ?_
      simp only [hMn,vcV,vcD,Int.reduceEq,Int.reduceNe,Int.reduceLT,Int.reduceLE,Nat.reduceEqDiff,Nat.reduceAdd,reduceIte,reduceCtorEq,Nat.reduceLT,Nat.reduceLeDiff,eq_self,vcP2,Nat.reduceShiftRight,Nat.reduceMod]
      (repeat (with_reducible refine And.intro ?_ ?_;focus (first | omega | (unfold I64;omega))))
      refine callS_of hE ?_
      simp only [vcV,vcD,Int.reduceEq,Int.reduceNe,Int.reduceLT,Int.reduceLE,Nat.reduceEqDiff,Nat.reduceAdd,reduceIte,reduceCtorEq,Nat.reduceLT,Nat.reduceLeDiff,eq_self,vcP2,Nat.reduceShiftRight,Nat.reduceMod]
      refine callS_of hH ?_
      simp only [vcV,vcD,Int.reduceEq,Int.reduceNe,Int.reduceLT,Int.reduceLE,Nat.reduceEqDiff,Nat.reduceAdd,reduceIte,reduceCtorEq,Nat.reduceLT,Nat.reduceLeDiff,eq_self,vcP2,Nat.reduceShiftRight,Nat.reduceMod]
      refine callS_of hI ?_
      simp only [vcV,vcD,Int.reduceEq,Int.reduceNe,Int.reduceLT,Int.reduceLE,Nat.reduceEqDiff,Nat.reduceAdd,reduceIte,reduceCtorEq,Nat.reduceLT,Nat.reduceLeDiff,eq_self,vcP2,Nat.reduceShiftRight,Nat.reduceMod]
      refine callS_of hJ ?_
      simp only [vcV,vcD,Int.reduceEq,Int.reduceNe,Int.reduceLT,Int.reduceLE,Nat.reduceEqDiff,Nat.reduceAdd,reduceIte,reduceCtorEq,Nat.reduceLT,Nat.reduceLeDiff,eq_self,vcP2,Nat.reduceShiftRight,Nat.reduceMod]
      (repeat (with_reducible refine And.intro ?_ ?_;focus (first | omega | (unfold I64;omega))))
      refine ⟨⟨n+1,h2⟩,by simp only;omega,?_⟩
      refine weakX [] (of_decide_eq_true rfl) (of_decide_eq_true rfl) ?_
      (simp only [hWn,vcW,vcV,vcD,Int.reduceEq,Int.reduceNe,Int.reduceLT,Int.reduceLE,Nat.reduceEqDiff,Nat.reduceAdd,reduceIte,reduceCtorEq,Nat.reduceLT,Nat.reduceLeDiff,eq_self,vcP2,Nat.reduceShiftRight,Nat.reduceMod])
      repeat' (with_reducible refine And.intro ?_ ?_)
      try any_goals (with_reducible exact RnB.wide)
      (repeat' first | exact trivial | (with_reducible first | exact RnB.fxB (ints_fxB _) | rfl | refine And.intro ?_ ?_) | (with_reducible (first | refine RnB.bb ?_ | refine RnB.nb ?_);simp only [vcW,vcV,vcD,Int.reduceEq,Int.reduceNe,Int.reduceLT,Int.reduceLE,Nat.reduceEqDiff,Nat.reduceAdd,reduceIte,reduceCtorEq,Nat.reduceLT,Nat.reduceLeDiff,eq_self,vcP2,Nat.reduceShiftRight,Nat.reduceMod]) | (with_reducible first | refine RnB.ii ?_ | refine RnB.app ?_) | (with_reducible refine RnB.fxB ?_;simp only [vcW,vcV,vcD,Int.reduceEq,Int.reduceNe,Int.reduceLT,Int.reduceLE,Nat.reduceEqDiff,Nat.reduceAdd,reduceIte,reduceCtorEq,Nat.reduceLT,Nat.reduceLeDiff,eq_self,vcP2,Nat.reduceShiftRight,Nat.reduceMod]) | omega)
      all_goals trace_state
    · have hnl:n=l.length:=by omega
      subst hnl
      have hc3:¬ (l.length:Int)<l.length:=by omega
      rw [kp_sq F hbest]
      have hEr:=ErrorOf_s items shifts l den ch (by omega) (by omega) (by omega)
      have hbe:beE items shifts l den ch=0:=by
        unfold beE
        rw [if_neg (by omega),if_neg (by rw [fE_fit F];decide),if_pos F.cl]
      have er:erA items shifts l den ch=[.agg [.str (Lib.decDigits (sqN (dfL items l ch den))),.int .i64 den],.int .i64 0]:=by unfold erA;rw [if_neg (by omega)]
      rw [er] at hEr
      have hCF:=CopyFit_s den ch (by omega)
      have hdl:=dfL_len items l ch den
      have hsq:=sqN_bd F.dfb
      have hDi:=Digits_s (sqN (dfL items l ch den)) (by omega)
      have hSg:=WideSign_w ((sqN (dfL items l ch den):Nat):Int)
      have e50:(10:Nat) ^ 50=100000000000000000000000000000000000000000000000000:=by decide
      have hdc:=dec_len (n:=sqN (dfL items l ch den)) (by rw [e50];omega)
      generalize Lib.decDigits (sqN (dfL items l ch den))=dd at *
      generalize sqN (dfL items l ch den)=sq at *
      have hsn:¬ ((sq:Nat):Int).sign<0:=by
        rw [sign_lt];omega
      unfold tplA fitA at hEr
      unfold fitA at hCF
      rw [wide_hr] at hDi hSg ⊢
      simp only [hc3,vcV,vcD,Int.reduceEq,Int.reduceNe,Int.reduceLT,Int.reduceLE,Nat.reduceEqDiff,Nat.reduceAdd,reduceIte,reduceCtorEq,Nat.reduceLT,Nat.reduceLeDiff,eq_self,vcP2,Nat.reduceShiftRight,Nat.reduceMod]
      refine callS_of hCT ?_
      simp only [vcV,vcD,Int.reduceEq,Int.reduceNe,Int.reduceLT,Int.reduceLE,Nat.reduceEqDiff,Nat.reduceAdd,reduceIte,reduceCtorEq,Nat.reduceLT,Nat.reduceLeDiff,eq_self,vcP2,Nat.reduceShiftRight,Nat.reduceMod]
      refine callS_of hCI ?_
      simp only [vcV,vcD,Int.reduceEq,Int.reduceNe,Int.reduceLT,Int.reduceLE,Nat.reduceEqDiff,Nat.reduceAdd,reduceIte,reduceCtorEq,Nat.reduceLT,Nat.reduceLeDiff,eq_self,vcP2,Nat.reduceShiftRight,Nat.reduceMod]
      refine callS_of hCF ?_
      simp only [vcV,vcD,Int.reduceEq,Int.reduceNe,Int.reduceLT,Int.reduceLE,Nat.reduceEqDiff,Nat.reduceAdd,reduceIte,reduceCtorEq,Nat.reduceLT,Nat.reduceLeDiff,eq_self,vcP2,Nat.reduceShiftRight,Nat.reduceMod]
      refine callS_of hEr ?_
      simp only [vcV,vcD,Int.reduceEq,Int.reduceNe,Int.reduceLT,Int.reduceLE,Nat.reduceEqDiff,Nat.reduceAdd,reduceIte,reduceCtorEq,Nat.reduceLT,Nat.reduceLeDiff,eq_self,vcP2,Nat.reduceShiftRight,Nat.reduceMod]
      refine callS_of hSg ?_
      simp only [hsn,vcV,vcD,Int.reduceEq,Int.reduceNe,Int.reduceLT,Int.reduceLE,Nat.reduceEqDiff,Nat.reduceAdd,reduceIte,reduceCtorEq,Nat.reduceLT,Nat.reduceLeDiff,eq_self,vcP2,Nat.reduceShiftRight,Nat.reduceMod]
      refine callS_of hDi ?_
      simp only [vcV,vcD,Int.reduceEq,Int.reduceNe,Int.reduceLT,Int.reduceLE,Nat.reduceEqDiff,Nat.reduceAdd,reduceIte,reduceCtorEq,Nat.reduceLT,Nat.reduceLeDiff,eq_self,vcP2,Nat.reduceShiftRight,Nat.reduceMod]
      have hM2:∀ i,(h:i<l.length)→(l.map (· * b)).take (i+1)=(l.map (· * b)).take i ++ [l[i] * b]:=fun i h=>by
        rw [List.take_succ_eq_append_getElem (by simp;exact h),List.getElem_map]
      obtain ⟨L2,hL2⟩:∃ L2,L2=l.map (· * b):=⟨_,rfl⟩
      rw [← hL2] at hM2
      have hL2l:L2.length=l.length:=by rw [hL2];simp
      refine WL_loop (t:=.mk) (α:=PSigma fun n:Nat=>n≤l.length) (fun ⟨n,_⟩=>(envOf [(1,.sl (ints l)),(2,.int .i64 b),(3,.ptr 3 0 0),(7,.ptr 7 0 0),(15,.buf 100 n),(16,.int .i64 n)],stOf [(3,⟨24,2,[.agg [.sl (ints items),.int .i64 shifts]]⟩),(7,⟨29,2,[.agg [.int .i64 den,.sl (ints ch)]]⟩),(100,⟨3,1,ints (L2.take n)⟩)])) (fun x=>l.length - x.1) ⟨0,Nat.zero_le _⟩ ?_ (fun ⟨n,hn⟩=>?_)
      · have z:ints (L2.take 0)=[]:=rfl
        refine weakX [(100,none)] (of_decide_eq_true rfl) (of_decide_eq_true rfl) ?_
        (simp only [z,vcW,vcV,vcD,Int.reduceEq,Int.reduceNe,Int.reduceLT,Int.reduceLE,Nat.reduceEqDiff,Nat.reduceAdd,reduceIte,reduceCtorEq,Nat.reduceLT,Nat.reduceLeDiff,eq_self,vcP2,Nat.reduceShiftRight,Nat.reduceMod])
        (repeat' first | exact trivial | (with_reducible first | exact RnB.fxB (ints_fxB _) | rfl | refine And.intro ?_ ?_) | (with_reducible (first | refine RnB.bb ?_ | refine RnB.nb ?_);simp only [vcW,vcV,vcD,Int.reduceEq,Int.reduceNe,Int.reduceLT,Int.reduceLE,Nat.reduceEqDiff,Nat.reduceAdd,reduceIte,reduceCtorEq,Nat.reduceLT,Nat.reduceLeDiff,eq_self,vcP2,Nat.reduceShiftRight,Nat.reduceMod]) | (with_reducible first | refine RnB.ii ?_ | refine RnB.app ?_) | (with_reducible refine RnB.fxB ?_;simp only [vcW,vcV,vcD,Int.reduceEq,Int.reduceNe,Int.reduceLT,Int.reduceLE,Nat.reduceEqDiff,Nat.reduceAdd,reduceIte,reduceCtorEq,Nat.reduceLT,Nat.reduceLeDiff,eq_self,vcP2,Nat.reduceShiftRight,Nat.reduceMod]) | omega)
        all_goals trace_state
      · dsimp only at hn ⊢
        by_cases h3:n<l.length
        · have hc4:(n:Int)<l.length:=by omega
          have hlb:=F.lb2 n
          have hgl:l.getD n 0=l[n]:=getD_at h3
          rw [hgl] at hlb
          have hpb:=mul_abs (s:=l[n]) (k:=b) (M:=10000) (K:=20) ⟨by omega,hb.2⟩ (by omega) hlb
          have hm2:=hM2 n h3
          have htl:(L2.take n).length=n:=List.length_take_of_le (by omega)
          simp only [hc4,ints_get l n h3,ints_length,htl,vcV,vcD,Int.reduceEq,Int.reduceNe,Int.reduceLT,Int.reduceLE,Nat.reduceEqDiff,Nat.reduceAdd,reduceIte,reduceCtorEq,Nat.reduceLT,Nat.reduceLeDiff,eq_self,vcP2,Nat.reduceShiftRight,Nat.reduceMod]
          (repeat (with_reducible refine And.intro ?_ ?_;focus (first | omega | (unfold I64;omega))))
          refine ⟨⟨n+1,h3⟩,by simp only;omega,?_⟩
          refine weakX [(100,some 131)] (of_decide_eq_true rfl) (of_decide_eq_true rfl) ?_
          (simp only [hm2,vcW,vcV,vcD,Int.reduceEq,Int.reduceNe,Int.reduceLT,Int.reduceLE,Nat.reduceEqDiff,Nat.reduceAdd,reduceIte,reduceCtorEq,Nat.reduceLT,Nat.reduceLeDiff,eq_self,vcP2,Nat.reduceShiftRight,Nat.reduceMod])
          (repeat' first | exact trivial | (with_reducible first | exact RnB.fxB (ints_fxB _) | rfl | refine And.intro ?_ ?_) | (with_reducible (first | refine RnB.bb ?_ | refine RnB.nb ?_);simp only [vcW,vcV,vcD,Int.reduceEq,Int.reduceNe,Int.reduceLT,Int.reduceLE,Nat.reduceEqDiff,Nat.reduceAdd,reduceIte,reduceCtorEq,Nat.reduceLT,Nat.reduceLeDiff,eq_self,vcP2,Nat.reduceShiftRight,Nat.reduceMod]) | (with_reducible first | refine RnB.ii ?_ | refine RnB.app ?_) | (with_reducible refine RnB.fxB ?_;simp only [vcW,vcV,vcD,Int.reduceEq,Int.reduceNe,Int.reduceLT,Int.reduceLE,Nat.reduceEqDiff,Nat.reduceAdd,reduceIte,reduceCtorEq,Nat.reduceLT,Nat.reduceLeDiff,eq_self,vcP2,Nat.reduceShiftRight,Nat.reduceMod]) | omega)
          all_goals trace_state
        · have hnl:n=l.length:=by omega
          subst hnl
          have hc4:¬ (l.length:Int)<l.length:=by omega
          have htl:L2.take l.length=L2:=List.take_of_length_le (by omega)
          rw [htl]
          have hSE:=SamplesErr_s L2
          have hFO2:=FitOf_s items shifts L2 (by omega) (by omega)
          unfold tplA at hFO2
          simp only [hc4,vcV,vcD,Int.reduceEq,Int.reduceNe,Int.reduceLT,Int.reduceLE,Nat.reduceEqDiff,Nat.reduceAdd,reduceIte,reduceCtorEq,Nat.reduceLT,Nat.reduceLeDiff,eq_self,vcP2,Nat.reduceShiftRight,Nat.reduceMod]
          rw [borB_good _ _ _ _ _ (by rw [ints_length];omega) (ints_fx _)]
          refine callS_of hSE ?_
          by_cases e2:smE L2=0
          case neg=>simp only [e2,vcV,vcD,Int.reduceEq,Int.reduceNe,Int.reduceLT,Int.reduceLE,Nat.reduceEqDiff,Nat.reduceAdd,reduceIte,reduceCtorEq,Nat.reduceLT,Nat.reduceLeDiff,eq_self,vcP2,Nat.reduceShiftRight,Nat.reduceMod]
          have e3:fdE items shifts L2=0:=by
            unfold fdE
            rw [if_neg (by omega),if_neg (by omega),if_pos (by rw [hL2l];exact p3)]
          simp only [e2,vcV,vcD,Int.reduceEq,Int.reduceNe,Int.reduceLT,Int.reduceLE,Nat.reduceEqDiff,Nat.reduceAdd,reduceIte,reduceCtorEq,Nat.reduceLT,Nat.reduceLeDiff,eq_self,vcP2,Nat.reduceShiftRight,Nat.reduceMod]
          refine callS_of hCT ?_
          simp only [vcV,vcD,Int.reduceEq,Int.reduceNe,Int.reduceLT,Int.reduceLE,Nat.reduceEqDiff,Nat.reduceAdd,reduceIte,reduceCtorEq,Nat.reduceLT,Nat.reduceLeDiff,eq_self,vcP2,Nat.reduceShiftRight,Nat.reduceMod]
          rw [borB_good _ _ _ _ _ (by rw [ints_length];omega) (ints_fx _)]
          refine callS_of hFO2 ?_
          rcases ft_ok e3 with ⟨den2,ch2,hft2,F2,hgc2,hbest2⟩ | hft2
          case inr =>
            rw [hft2]
            simp only [vcX,vcV,vcD,Int.reduceEq,Int.reduceNe,Int.reduceLT,Int.reduceLE,Nat.reduceEqDiff,Nat.reduceAdd,reduceIte,reduceCtorEq,Nat.reduceLT,Nat.reduceLeDiff,eq_self,vcP2,Nat.reduceShiftRight,Nat.reduceMod]
          rw [hft2]
          have hFi2:=FitErr_s den2 ch2 (by have:=F2.cl;omega)
          unfold fitA at hFi2
          rw [fE_fit F2] at hFi2
          have hcl2:=F2.cl
          rw [hL2] at F2 hbest2
          have hsc:=fun k hk=>fit_scale F F2 hb.1 hbest hbest2 (k:=k) hk
          simp only [vcX,vcV,vcD,Int.reduceEq,Int.reduceNe,Int.reduceLT,Int.reduceLE,Nat.reduceEqDiff,Nat.reduceAdd,reduceIte,reduceCtorEq,Nat.reduceLT,Nat.reduceLeDiff,eq_self,vcP2,Nat.reduceShiftRight,Nat.reduceMod]
          refine callS_of hFi2 ?_
          simp only [hcl2,vcX,vcV,vcD,Int.reduceEq,Int.reduceNe,Int.reduceLT,Int.reduceLE,Nat.reduceEqDiff,Nat.reduceAdd,reduceIte,reduceCtorEq,Nat.reduceLT,Nat.reduceLeDiff,eq_self,vcP2,Nat.reduceShiftRight,Nat.reduceMod]
          refine WL_loop (t:=.mk) (α:=PSigma fun n:Nat=>n≤ch.length) (fun ⟨n,_⟩=>(envOf [(2,.int .i64 b),(3,.ptr 3 0 0),(7,.ptr 7 0 0),(17,.ptr 17 0 0),(19,.int .i64 n)],stOf [(3,⟨24,2,[.agg [.sl (ints items),.int .i64 shifts]]⟩),(7,⟨29,2,[.agg [.int .i64 den,.sl (ints ch)]]⟩),(17,⟨29,2,[.agg [.int .i64 den2,.sl (ints ch2)]]⟩)])) (fun x=>ch.length - x.1) ⟨0,Nat.zero_le _⟩ ?_ (fun ⟨n,hn⟩=>?_)
          · refine weakX [] (of_decide_eq_true rfl) (of_decide_eq_true rfl) ?_
            (simp only [vcX,vcW,vcV,vcD,Int.reduceEq,Int.reduceNe,Int.reduceLT,Int.reduceLE,Nat.reduceEqDiff,Nat.reduceAdd,reduceIte,reduceCtorEq,Nat.reduceLT,Nat.reduceLeDiff,eq_self,vcP2,Nat.reduceShiftRight,Nat.reduceMod])
            (repeat' first | exact trivial | (with_reducible first | exact RnB.fxB (ints_fxB _) | rfl | refine And.intro ?_ ?_) | (with_reducible (first | refine RnB.bb ?_ | refine RnB.nb ?_);simp only [vcW,vcV,vcD,Int.reduceEq,Int.reduceNe,Int.reduceLT,Int.reduceLE,Nat.reduceEqDiff,Nat.reduceAdd,reduceIte,reduceCtorEq,Nat.reduceLT,Nat.reduceLeDiff,eq_self,vcP2,Nat.reduceShiftRight,Nat.reduceMod]) | (with_reducible first | refine RnB.ii ?_ | refine RnB.app ?_) | (with_reducible refine RnB.fxB ?_;simp only [vcW,vcV,vcD,Int.reduceEq,Int.reduceNe,Int.reduceLT,Int.reduceLE,Nat.reduceEqDiff,Nat.reduceAdd,reduceIte,reduceCtorEq,Nat.reduceLT,Nat.reduceLeDiff,eq_self,vcP2,Nat.reduceShiftRight,Nat.reduceMod]) | omega)
            all_goals trace_state
          · dsimp only at hn ⊢
            by_cases h4:n<ch.length
            · have hc5:(n:Int)<shifts:=by omega
              have h5:n<ch2.length:=by omega
              have c1:=F.cb _ (List.getElem_mem h4)
              have c2:=F2.cb _ (List.getElem_mem h5)
              have d2:=F2.db
              have hg1:ch.getD n 0=ch[n]:=getD_at h4
              have hg2:ch2.getD n 0=ch2[n]:=getD_at h5
              have hs:=hsc n (by omega)
              rw [hg1,hg2] at hs
              have hi1:=ints_get ch n h4
              have hi2:=ints_get ch2 n h5
              have hxb:=mul_abs (s:=ch[n]) (k:=b) (M:=1000000000000) (K:=20) ⟨by omega,hb.2⟩ (by omega) (by omega)
              generalize ch[n]=x at *
              generalize ch2[n]=y at *
              have hA:=WideOf_s y (by unfold I64;omega)
              have hB:=WideOf_s den (by unfold I64;omega)
              have hC:=WideMul_s y den (wOk_35 (by omega)) (wOk_35 (by omega))
              obtain ⟨q,hq⟩:∃ q,q=x * b:=⟨_,rfl⟩
              rw [← hq] at hs hxb
              have hD:=WideOf_s q (by unfold I64;omega)
              have hE:=WideOf_s den2 (by unfold I64;omega)
              have hG:=WideMul_s q den2 (wOk_35 (by omega)) (wOk_35 (by omega))
              have hyb:=mul_abs (s:=y) (k:=den) (M:=1000000000000) (K:=1000000000000) ⟨by omega,by omega⟩ (by omega) (by omega)
              rw [← hs] at hG
              have hCm:=WideCmp_s (y * den) (y * den) (wOk_35 (by omega)) (wOk_35 (by omega))
              have hz:(y * den - y * den).sign=0:=by rw [Int.sub_self];rfl
              rw [hz] at hCm
              rw [wide_hr] at hA hB hD hE
              rw [wide_hr,wide_hr,wide_hr] at hC hG
              rw [wide_hr] at hCm
              simp only [hc5,hi1,hi2,vcV,vcD,Int.reduceEq,Int.reduceNe,Int.reduceLT,Int.reduceLE,Nat.reduceEqDiff,Nat.reduceAdd,reduceIte,reduceCtorEq,Nat.reduceLT,Nat.reduceLeDiff,eq_self,vcP2,Nat.reduceShiftRight,Nat.reduceMod]
              (repeat (with_reducible refine And.intro ?_ ?_;focus (first | omega | (unfold I64;omega))))
              refine callS_of hA ?_
              simp only [vcV,vcD,Int.reduceEq,Int.reduceNe,Int.reduceLT,Int.reduceLE,Nat.reduceEqDiff,Nat.reduceAdd,reduceIte,reduceCtorEq,Nat.reduceLT,Nat.reduceLeDiff,eq_self,vcP2,Nat.reduceShiftRight,Nat.reduceMod]
              refine callS_of hB ?_
              simp only [vcV,vcD,Int.reduceEq,Int.reduceNe,Int.reduceLT,Int.reduceLE,Nat.reduceEqDiff,Nat.reduceAdd,reduceIte,reduceCtorEq,Nat.reduceLT,Nat.reduceLeDiff,eq_self,vcP2,Nat.reduceShiftRight,Nat.reduceMod]
              refine callS_of hC ?_
              simp only [hi1,← hq,vcV,vcD,Int.reduceEq,Int.reduceNe,Int.reduceLT,Int.reduceLE,Nat.reduceEqDiff,Nat.reduceAdd,reduceIte,reduceCtorEq,Nat.reduceLT,Nat.reduceLeDiff,eq_self,vcP2,Nat.reduceShiftRight,Nat.reduceMod]
              (repeat (with_reducible refine And.intro ?_ ?_;focus (first | omega | (unfold I64;omega))))
              refine callS_of hD ?_
              simp only [vcV,vcD,Int.reduceEq,Int.reduceNe,Int.reduceLT,Int.reduceLE,Nat.reduceEqDiff,Nat.reduceAdd,reduceIte,reduceCtorEq,Nat.reduceLT,Nat.reduceLeDiff,eq_self,vcP2,Nat.reduceShiftRight,Nat.reduceMod]
              refine callS_of hE ?_
              simp only [vcV,vcD,Int.reduceEq,Int.reduceNe,Int.reduceLT,Int.reduceLE,Nat.reduceEqDiff,Nat.reduceAdd,reduceIte,reduceCtorEq,Nat.reduceLT,Nat.reduceLeDiff,eq_self,vcP2,Nat.reduceShiftRight,Nat.reduceMod]
              refine callS_of hG ?_
              simp only [vcV,vcD,Int.reduceEq,Int.reduceNe,Int.reduceLT,Int.reduceLE,Nat.reduceEqDiff,Nat.reduceAdd,reduceIte,reduceCtorEq,Nat.reduceLT,Nat.reduceLeDiff,eq_self,vcP2,Nat.reduceShiftRight,Nat.reduceMod]
              refine callS_of hCm ?_
              simp only [vcV,vcD,Int.reduceEq,Int.reduceNe,Int.reduceLT,Int.reduceLE,Nat.reduceEqDiff,Nat.reduceAdd,reduceIte,reduceCtorEq,Nat.reduceLT,Nat.reduceLeDiff,eq_self,vcP2,Nat.reduceShiftRight,Nat.reduceMod]
              (repeat (with_reducible refine And.intro ?_ ?_;focus (first | omega | (unfold I64;omega))))
              refine ⟨⟨n+1,h4⟩,by simp only;omega,?_⟩
              refine weakX [] (of_decide_eq_true rfl) (of_decide_eq_true rfl) ?_
              (simp only [vcW,vcV,vcD,Int.reduceEq,Int.reduceNe,Int.reduceLT,Int.reduceLE,Nat.reduceEqDiff,Nat.reduceAdd,reduceIte,reduceCtorEq,Nat.reduceLT,Nat.reduceLeDiff,eq_self,vcP2,Nat.reduceShiftRight,Nat.reduceMod])
              (repeat' first | exact trivial | (with_reducible first | exact RnB.fxB (ints_fxB _) | rfl | refine And.intro ?_ ?_) | (with_reducible (first | refine RnB.bb ?_ | refine RnB.nb ?_);simp only [vcW,vcV,vcD,Int.reduceEq,Int.reduceNe,Int.reduceLT,Int.reduceLE,Nat.reduceEqDiff,Nat.reduceAdd,reduceIte,reduceCtorEq,Nat.reduceLT,Nat.reduceLeDiff,eq_self,vcP2,Nat.reduceShiftRight,Nat.reduceMod]) | (with_reducible first | refine RnB.ii ?_ | refine RnB.app ?_) | (with_reducible refine RnB.fxB ?_;simp only [vcW,vcV,vcD,Int.reduceEq,Int.reduceNe,Int.reduceLT,Int.reduceLE,Nat.reduceEqDiff,Nat.reduceAdd,reduceIte,reduceCtorEq,Nat.reduceLT,Nat.reduceLeDiff,eq_self,vcP2,Nat.reduceShiftRight,Nat.reduceMod]) | omega)
              all_goals trace_state
            · have hc5:¬ (n:Int)<shifts:=by omega
              simp only [hc5,vcV,vcD,Int.reduceEq,Int.reduceNe,Int.reduceLT,Int.reduceLE,Nat.reduceEqDiff,Nat.reduceAdd,reduceIte,reduceCtorEq,Nat.reduceLT,Nat.reduceLeDiff,eq_self,vcP2,Nat.reduceShiftRight,Nat.reduceMod]
end Go.Proofs.YtgmpcbpmnimkoaaGreatDoor

