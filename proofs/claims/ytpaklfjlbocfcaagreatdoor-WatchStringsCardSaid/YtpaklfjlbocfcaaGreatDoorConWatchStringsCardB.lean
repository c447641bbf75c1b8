/- Contracts: the reference's numbers of words. By an AI agent; nothing here is trusted. -/
import Derived.Test.YtpaklfjlbocfcaaGreatDoorConWatchStringsCardA
import Derived.Test.YtpaklfjlbocfcaaGreatDoorLayC
import Derived.Test.YtpaklfjlbocfcaaGreatDoorLayD
import Derived.Test.YtpaklfjlbocfcaaGreatDoorKode
set_option linter.defProp false
set_option linter.unusedSimpArgs false
set_option linter.unusedVariables false
namespace Go.Proofs.YtpaklfjlbocfcaaGreatDoor
open Go.Av

def numV:Option Int→AV
 | some n=>.tup [.int .i64 n,.bool true]
 | none=>.tup [.int .i64 0,.bool false]
theorem numW_form {k a:Nat} {w:List UInt8} (ha:(a=1∧w.head?=some 45)∨(a=0∧w.head? ≠ some 45)) :
  Lin.numW k w=if w.drop a=[]∨k<(w.drop a).length∨((w.drop a).head?=some 48∧1<w.length)∨(w.drop a).all Lin.isDig=false then none else some (if a=1 then -(Lin.val (w.drop a):Int) else Lin.val (w.drop a)):=by
 unfold Lin.numW Lin.numD
 rcases ha with ⟨rfl,h⟩ | ⟨rfl,h⟩
 ·rw [if_pos h]
  obtain ⟨r,rfl⟩:∃ r,w=45 :: r:=by
   cases w with
   | nil=>cases h
   | cons c r=>simp at h;exact ⟨r,by rw [h]⟩
  simp only [List.drop_one,List.tail_cons,List.length_cons,if_true]
  by_cases hr:r=[]
  ·subst hr;simp
  ·have:1<r.length+1:=by have:=List.length_pos_iff.2 hr;omega
   simp only [this,and_true]
   split <;> rfl
 ·rw [if_neg h]
  simp only [List.drop_zero,decide_eq_true_eq,Nat.zero_ne_one,if_false]
  split <;> rfl
set_option maxHeartbeats 1000000 in
theorem Number_s (w:List UInt8) (k:Nat) (hk:k≤18) (hw:w.length≤100000):Sound Tryz.prog 152 [.str w,.int .i64 k] (numV (Lin.numW k w)):=by
 refine sound_W f_base_Number (Nat.le_of_ble_eq_true rfl) ?_
 by_cases hl:w.length=0
 ·obtain rfl:w=[]:=List.eq_nil_of_length_eq_zero hl
  have:Lin.numW k []=none:=rfl
  rw [this]
  have hz:((0:Nat):Int)=0:=rfl
  have hz1:¬ (0:Int)<0:=by omega
  simp only [c_base_Number,numV,List.length_nil,hz,hz1,vZ,Int.reduceEq,Int.reduceNe,Int.reduceLT,Int.reduceLE,Nat.reduceEqDiff,Nat.reduceAdd,reduceIte,reduceCtorEq,Nat.reduceLT,Nat.reduceLeDiff,Nat.reduceShiftRight,Nat.reduceMod]
 have hpos:(0:Int)<w.length:=by omega
 have hne0:¬ (w.length:Int)=0:=by omega
 obtain ⟨c,hc0⟩:∃ c,w[0]?=some c:=⟨w[0],List.getElem?_eq_getElem (by omega)⟩
 have hhead:w.head?=some c:=by rw [← hc0];cases w <;> rfl
 have t0:(0:Int).toNat=0:=rfl
 have t1:(1:Int).toNat=1:=rfl
 have hpow:∀ j,j≤k→(10:Nat) ^ j≤1000000000000000000:=fun j hj=>by
  have:=Nat.pow_le_pow_right (n:=10) (by decide) (Nat.le_trans hj hk)
  simpa using this
 have key:∃ a:Nat,a≤1∧((c.toNat:Int)=45 ↔ a=1)∧Lin.numW k w=(if w.drop a=[]∨k<(w.drop a).length∨((w.drop a).head?=some 48∧1<w.length)∨(w.drop a).all Lin.isDig=false then none else some (if a=1 then -(Lin.val (w.drop a):Int) else Lin.val (w.drop a))):=by
  by_cases hc:c=45
  ·exact ⟨1,Nat.le_refl _,by rw [hc];simp,numW_form (.inl ⟨rfl,by rw [hhead,hc]⟩)⟩
  ·refine ⟨0,by omega,⟨fun h=>absurd (UInt8.toNat_inj.1 (by have:(45:UInt8).toNat=45:=(by decide);omega)) hc,fun h=>by cases h⟩,numW_form (.inr ⟨rfl,by rw [hhead];simp [hc]⟩)⟩
 obtain ⟨a,ha,hca,hf⟩:=key
 have hdl:(w.drop a).length=w.length - a:=List.length_drop
 have hnil:w.length=a→Lin.numW k w=none:=fun h=>by rw [hf,if_pos (.inl (List.eq_nil_of_length_eq_zero (by omega)))]
 have hlong:k<w.length - a→Lin.numW k w=none:=fun h=>by rw [hf,if_pos (.inr (.inl (by omega)))]
 have hz:∀ d,w[a]?=some d→d.toNat=48→1<w.length→Lin.numW k w=none:=fun d h1 h2 h3=>by
  rw [hf,if_pos (.inr (.inr (.inl ⟨by rw [List.head?_drop,h1,show d=48 from UInt8.toNat_inj.1 h2],h3⟩)))]
 have hall:∀ j,a+j<w.length→∀ x,w[a+j]?=some x→Lin.isDig x=false→Lin.numW k w=none:=fun j hj x hx hd=>by
  rw [hf,if_pos (.inr (.inr (.inr (List.all_eq_false.2 ⟨x,List.mem_iff_getElem?.2 ⟨j,by rw [List.getElem?_drop,hx]⟩,by simp [hd]⟩))))]
 have hgood:¬ w.length=a→¬ k<w.length - a→(∀ d,w[a]?=some d→¬ (d.toNat=48∧1<w.length))→(w.drop a).all Lin.isDig=true→Lin.numW k w=some (if a=1 then -(Lin.val (w.drop a):Int) else Lin.val (w.drop a)):=fun h1 h2 h3 h4=>by
  rw [hf,if_neg]
  rintro (g | g | g | g)
  ·rw [g] at hdl;simp at hdl;omega
  ·omega
  ·obtain ⟨g1,g2⟩:=g
   rw [List.head?_drop] at g1
   exact h3 48 g1 ⟨rfl,g2⟩
  ·rw [h4] at g;cases g
 by_cases hc:(c.toNat:Int)=45
 ·obtain rfl:=hca.1 hc
  simp only [c_base_Number,hpos,hne0,hc0,hc,t0,Int.sub_zero,vZ,Int.reduceEq,Int.reduceNe,Int.reduceLT,Int.reduceLE,Nat.reduceEqDiff,Nat.reduceAdd,reduceIte,reduceCtorEq,Nat.reduceLT,Nat.reduceLeDiff,Nat.reduceShiftRight,Nat.reduceMod]
  by_cases h1:w.length=1
  ·have h1':(w.length:Int)=1:=by omega
   rw [hnil h1]
   simp only [h1',numV,vZ,Int.reduceEq,Int.reduceNe,Int.reduceLT,Int.reduceLE,Nat.reduceEqDiff,Nat.reduceAdd,reduceIte,reduceCtorEq,Nat.reduceLT,Nat.reduceLeDiff,Nat.reduceShiftRight,Nat.reduceMod]
  have h1':¬ (w.length:Int)=1:=by omega
  simp only [h1',vZ,Int.reduceEq,Int.reduceNe,Int.reduceLT,Int.reduceLE,Nat.reduceEqDiff,Nat.reduceAdd,reduceIte,reduceCtorEq,Nat.reduceLT,Nat.reduceLeDiff,Nat.reduceShiftRight,Nat.reduceMod]
  refine ⟨by unfold I64;omega,?_⟩
  by_cases h2:k<w.length - 1
  ·have h2':(k:Int)<w.length - 1:=by omega
   rw [hlong h2]
   simp only [h2',numV,vZ,Int.reduceEq,Int.reduceNe,Int.reduceLT,Int.reduceLE,Nat.reduceEqDiff,Nat.reduceAdd,reduceIte,reduceCtorEq,Nat.reduceLT,Nat.reduceLeDiff,Nat.reduceShiftRight,Nat.reduceMod]
  have h2':¬ (k:Int)<w.length - 1:=by omega
  obtain ⟨d,hdd⟩:∃ d,w[1]?=some d:=⟨w[1],List.getElem?_eq_getElem (by omega)⟩
  have hgt:(1:Int)<w.length:=by omega
  simp only [h2',hdd,t1,vZ,Int.reduceEq,Int.reduceNe,Int.reduceLT,Int.reduceLE,Nat.reduceEqDiff,Nat.reduceAdd,reduceIte,reduceCtorEq,Nat.reduceLT,Nat.reduceLeDiff,Nat.reduceShiftRight,Nat.reduceMod]
  by_cases h3:d.toNat=48
  ·have h3':((d.toNat:Nat):Int)=48:=by omega
   rw [hz d hdd h3 (by omega)]
   simp only [h3',hgt,numV,vZ,Int.reduceEq,Int.reduceNe,Int.reduceLT,Int.reduceLE,Nat.reduceEqDiff,Nat.reduceAdd,reduceIte,reduceCtorEq,Nat.reduceLT,Nat.reduceLeDiff,Nat.reduceShiftRight,Nat.reduceMod]
  have h3':¬ ((d.toNat:Nat):Int)=48:=by omega
  have hgd:¬ (d.toNat=48∧1<w.length):=fun h=>h3 h.1
  simp only [h3',vZ,Int.reduceEq,Int.reduceNe,Int.reduceLT,Int.reduceLE,Nat.reduceEqDiff,Nat.reduceAdd,reduceIte,reduceCtorEq,Nat.reduceLT,Nat.reduceLeDiff,Nat.reduceShiftRight,Nat.reduceMod]
  refine W_loop (t:=.mk) (α:=PSigma fun j:Nat=>1+j≤w.length∧((w.drop 1).take j).all Lin.isDig=true) (fun ⟨j,_⟩=>(envOf [(0,.str w),(6,.int .i64 (1:Nat)),(7,.int .i64 (Lin.val ((w.drop 1).take j):Nat)),(8,.int .i64 ((1+j:Nat)))],stOf [])) (fun p=>w.length - p.1) ⟨0,by omega,rfl⟩ ?_ (fun ⟨j,hj,hd⟩=>?_)
  ·refine weakX [] (of_decide_eq_true rfl) (of_decide_eq_true rfl) ?_
   (simp only [vcW,vZ,Int.reduceEq,Int.reduceNe,Int.reduceLT,Int.reduceLE,Nat.reduceEqDiff,Nat.reduceAdd,reduceIte,reduceCtorEq,Nat.reduceLT,Nat.reduceLeDiff,Nat.reduceShiftRight,Nat.reduceMod])
   (repeat' first | exact trivial | (with_reducible first | exact RnB.fxB (ints_fxB _) | rfl | refine And.intro ?_ ?_) | (with_reducible (first | refine RnB.bb ?_ | refine RnB.nb ?_);simp only [vcW,vZ,Int.reduceEq,Int.reduceNe,Int.reduceLT,Int.reduceLE,Nat.reduceEqDiff,Nat.reduceAdd,reduceIte,reduceCtorEq,Nat.reduceLT,Nat.reduceLeDiff,Nat.reduceShiftRight,Nat.reduceMod]) | (with_reducible first | refine RnB.ii ?_ | refine RnB.app ?_) | (with_reducible refine RnB.fxB ?_;simp only [vcW,vZ,Int.reduceEq,Int.reduceNe,Int.reduceLT,Int.reduceLE,Nat.reduceEqDiff,Nat.reduceAdd,reduceIte,reduceCtorEq,Nat.reduceLT,Nat.reduceLeDiff,Nat.reduceShiftRight,Nat.reduceMod]) | omega)
   all_goals first | rfl | trace_state
  ·dsimp only at hj hd ⊢
   have hjk:((w.drop 1).take j).length=j:=by rw [List.length_take];omega
   have hv:=Lin.val_lt _ hd
   rw [hjk] at hv
   by_cases h':1+j<w.length
   ·have hc1:((1+j:Nat):Int)<w.length:=by omega
    have hgx:w[1+j]?=some w[1+j]:=List.getElem?_eq_getElem h'
    have htn:((1+j:Nat):Int).toNat=1+j:=by omega
    have hp1:=hpow (j+1) (by omega)
    rw [Nat.pow_succ] at hp1
    by_cases hx:Lin.isDig w[1+j]=true
    ·have hx':=hx
     unfold Lin.isDig at hx'
     simp only [Bool.and_eq_true,decide_eq_true_eq] at hx'
     have ht:(w.drop 1).take (j+1)=(w.drop 1).take j ++ [w[1+j]]:=by
      rw [List.take_succ_eq_append_getElem (by omega),List.getElem_drop]
     have hval:Lin.val ((w.drop 1).take (j+1))=Lin.val ((w.drop 1).take j) * 10+(w[1+j].toNat - 48):=by rw [ht,Lin.val_snoc]
     have hx1:¬ ((w[1+j].toNat:Nat):Int)<48:=by omega
     have hx2:¬ (57:Int)<((w[1+j].toNat:Nat):Int):=by omega
     have hwr:∀ q:Int,0≤q→q<256→IntKind.u8.wrap q=q:=fun q h1 h2=>u8_wrap ⟨h1,h2⟩
     have har:arith .u8 (((w[1+j].toNat:Nat):Int) - 48)=some (.int .u8 (((w[1+j].toNat:Nat):Int) - 48)):=by
      unfold arith;rw [hwr _ (by omega) (by omega),if_neg (by decide)]
     generalize Lin.val ((w.drop 1).take j)=v at *
     simp only [hc1,hgx,hx1,hx2,htn,har,vZ,Int.reduceEq,Int.reduceNe,Int.reduceLT,Int.reduceLE,Nat.reduceEqDiff,Nat.reduceAdd,reduceIte,reduceCtorEq,Nat.reduceLT,Nat.reduceLeDiff,Nat.reduceShiftRight,Nat.reduceMod]
     refine ⟨by omega,by omega,by unfold I64;omega,by omega,by unfold I64;omega,by unfold I64;omega,by unfold I64;omega,⟨j+1,by omega,by rw [ht,List.all_append,hd,List.all_cons,hx];rfl⟩,by simp only;omega,?_⟩
     simp only [Nat.zero_add,List.drop_zero]
     try simp only [Nat.zero_add,List.drop_zero] at hval
     rw [hval]
     refine weakX [] (of_decide_eq_true rfl) (of_decide_eq_true rfl) ?_
     (simp only [vcW,vZ,Int.reduceEq,Int.reduceNe,Int.reduceLT,Int.reduceLE,Nat.reduceEqDiff,Nat.reduceAdd,reduceIte,reduceCtorEq,Nat.reduceLT,Nat.reduceLeDiff,Nat.reduceShiftRight,Nat.reduceMod])
     (repeat' first | exact trivial | (with_reducible first | exact RnB.fxB (ints_fxB _) | rfl | refine And.intro ?_ ?_) | (with_reducible (first | refine RnB.bb ?_ | refine RnB.nb ?_);simp only [vcW,vZ,Int.reduceEq,Int.reduceNe,Int.reduceLT,Int.reduceLE,Nat.reduceEqDiff,Nat.reduceAdd,reduceIte,reduceCtorEq,Nat.reduceLT,Nat.reduceLeDiff,Nat.reduceShiftRight,Nat.reduceMod]) | (with_reducible first | refine RnB.ii ?_ | refine RnB.app ?_) | (with_reducible refine RnB.fxB ?_;simp only [vcW,vZ,Int.reduceEq,Int.reduceNe,Int.reduceLT,Int.reduceLE,Nat.reduceEqDiff,Nat.reduceAdd,reduceIte,reduceCtorEq,Nat.reduceLT,Nat.reduceLeDiff,Nat.reduceShiftRight,Nat.reduceMod]) | omega)
     all_goals first | rfl | (congr 1;omega) | (simp only [Nat.zero_add] at hx';omega)
    ·have hn:=hall j h' _ hgx (by simpa using hx)
     rw [hn]
     have hx':w[1+j].toNat<48∨57<w[1+j].toNat:=by
      unfold Lin.isDig at hx
      simp only [Bool.and_eq_true,decide_eq_true_eq] at hx
      omega
     by_cases hx1:((w[1+j].toNat:Nat):Int)<48
     ·simp only [hc1,hgx,hx1,htn,numV,vZ,Int.reduceEq,Int.reduceNe,Int.reduceLT,Int.reduceLE,Nat.reduceEqDiff,Nat.reduceAdd,reduceIte,reduceCtorEq,Nat.reduceLT,Nat.reduceLeDiff,Nat.reduceShiftRight,Nat.reduceMod]
      omega
     ·have hx2:(57:Int)<((w[1+j].toNat:Nat):Int):=by omega
      simp only [hc1,hgx,hx1,hx2,htn,numV,vZ,Int.reduceEq,Int.reduceNe,Int.reduceLT,Int.reduceLE,Nat.reduceEqDiff,Nat.reduceAdd,reduceIte,reduceCtorEq,Nat.reduceLT,Nat.reduceLeDiff,Nat.reduceShiftRight,Nat.reduceMod]
      omega
   ·have hjl:j=w.length - 1:=by omega
    have hc1:¬ ((1+j:Nat):Int)<w.length:=by omega
    have htk:(w.drop 1).take j=w.drop 1:=List.take_of_length_le (by omega)
    rw [htk] at hd hv ⊢
    have hr:=hgood (by omega) (by omega) (by intro d hd0;rw [hdd] at hd0;cases hd0;exact hgd) hd
    rw [hr]
    have hb:Lin.val (w.drop 1)<1000000000000000000:=Nat.lt_of_lt_of_le hv (hpow j (by omega))
    generalize Lin.val (w.drop 1)=v at *
    have hc10:¬ ((0:Nat):Int)=1:=by omega
    have hc11:((1:Nat):Int)=1:=rfl
    simp only [hc1,numV,hc10,hc11,vZ,Int.reduceEq,Int.reduceNe,Int.reduceLT,Int.reduceLE,Nat.reduceEqDiff,Nat.reduceAdd,reduceIte,reduceCtorEq,Nat.reduceLT,Nat.reduceLeDiff,Nat.reduceShiftRight,Nat.reduceMod]
    try (unfold I64;omega)
 ·obtain rfl:a=0:=by have:=mt hca.2 hc;omega
  simp only [c_base_Number,hpos,hne0,hc0,hc,t0,Int.sub_zero,vZ,Int.reduceEq,Int.reduceNe,Int.reduceLT,Int.reduceLE,Nat.reduceEqDiff,Nat.reduceAdd,reduceIte,reduceCtorEq,Nat.reduceLT,Nat.reduceLeDiff,Nat.reduceShiftRight,Nat.reduceMod]
  refine ⟨by unfold I64;omega,?_⟩
  by_cases h2:k<w.length - 0
  ·have h2':(k:Int)<w.length:=by omega
   rw [hlong h2]
   simp only [h2',numV,vZ,Int.reduceEq,Int.reduceNe,Int.reduceLT,Int.reduceLE,Nat.reduceEqDiff,Nat.reduceAdd,reduceIte,reduceCtorEq,Nat.reduceLT,Nat.reduceLeDiff,Nat.reduceShiftRight,Nat.reduceMod]
  have h2':¬ (k:Int)<w.length:=by omega
  have hdd:=hc0
  simp only [h2',hc0,t0,vZ,Int.reduceEq,Int.reduceNe,Int.reduceLT,Int.reduceLE,Nat.reduceEqDiff,Nat.reduceAdd,reduceIte,reduceCtorEq,Nat.reduceLT,Nat.reduceLeDiff,Nat.reduceShiftRight,Nat.reduceMod]
  by_cases h3:c.toNat=48
  ·have h3':((c.toNat:Nat):Int)=48:=by omega
   by_cases h4:1<w.length
   ·have h4':(1:Int)<w.length:=by omega
    rw [hz c hdd h3 h4]
    simp only [h3',h4',numV,vZ,Int.reduceEq,Int.reduceNe,Int.reduceLT,Int.reduceLE,Nat.reduceEqDiff,Nat.reduceAdd,reduceIte,reduceCtorEq,Nat.reduceLT,Nat.reduceLeDiff,Nat.reduceShiftRight,Nat.reduceMod]
   have h4':¬ (1:Int)<w.length:=by omega
   have hgd:¬ (c.toNat=48∧1<w.length):=fun h=>h4 h.2
   simp only [h3',h4',vZ,Int.reduceEq,Int.reduceNe,Int.reduceLT,Int.reduceLE,Nat.reduceEqDiff,Nat.reduceAdd,reduceIte,reduceCtorEq,Nat.reduceLT,Nat.reduceLeDiff,Nat.reduceShiftRight,Nat.reduceMod]
   refine W_loop (t:=.mk) (α:=PSigma fun j:Nat=>0+j≤w.length∧((w.drop 0).take j).all Lin.isDig=true) (fun ⟨j,_⟩=>(envOf [(0,.str w),(6,.int .i64 (0:Nat)),(7,.int .i64 (Lin.val ((w.drop 0).take j):Nat)),(8,.int .i64 ((0+j:Nat)))],stOf [])) (fun p=>w.length - p.1) ⟨0,by omega,rfl⟩ ?_ (fun ⟨j,hj,hd⟩=>?_)
   ·refine weakX [] (of_decide_eq_true rfl) (of_decide_eq_true rfl) ?_
    (simp only [vcW,vZ,Int.reduceEq,Int.reduceNe,Int.reduceLT,Int.reduceLE,Nat.reduceEqDiff,Nat.reduceAdd,reduceIte,reduceCtorEq,Nat.reduceLT,Nat.reduceLeDiff,Nat.reduceShiftRight,Nat.reduceMod])
    (repeat' first | exact trivial | (with_reducible first | exact RnB.fxB (ints_fxB _) | rfl | refine And.intro ?_ ?_) | (with_reducible (first | refine RnB.bb ?_ | refine RnB.nb ?_);simp only [vcW,vZ,Int.reduceEq,Int.reduceNe,Int.reduceLT,Int.reduceLE,Nat.reduceEqDiff,Nat.reduceAdd,reduceIte,reduceCtorEq,Nat.reduceLT,Nat.reduceLeDiff,Nat.reduceShiftRight,Nat.reduceMod]) | (with_reducible first | refine RnB.ii ?_ | refine RnB.app ?_) | (with_reducible refine RnB.fxB ?_;simp only [vcW,vZ,Int.reduceEq,Int.reduceNe,Int.reduceLT,Int.reduceLE,Nat.reduceEqDiff,Nat.reduceAdd,reduceIte,reduceCtorEq,Nat.reduceLT,Nat.reduceLeDiff,Nat.reduceShiftRight,Nat.reduceMod]) | omega)
    all_goals first | rfl | trace_state
   ·dsimp only at hj hd ⊢
    have hjk:((w.drop 0).take j).length=j:=by rw [List.length_take];omega
    have hv:=Lin.val_lt _ hd
    rw [hjk] at hv
    by_cases h':0+j<w.length
    ·have hc1:((0+j:Nat):Int)<w.length:=by omega
     have hgx:w[0+j]?=some w[0+j]:=List.getElem?_eq_getElem h'
     have htn:((0+j:Nat):Int).toNat=0+j:=by omega
     have hp1:=hpow (j+1) (by omega)
     rw [Nat.pow_succ] at hp1
     by_cases hx:Lin.isDig w[0+j]=true
     ·have hx':=hx
      unfold Lin.isDig at hx'
      simp only [Bool.and_eq_true,decide_eq_true_eq] at hx'
      have ht:(w.drop 0).take (j+1)=(w.drop 0).take j ++ [w[0+j]]:=by
       rw [List.take_succ_eq_append_getElem (by omega),List.getElem_drop]
      have hval:Lin.val ((w.drop 0).take (j+1))=Lin.val ((w.drop 0).take j) * 10+(w[0+j].toNat - 48):=by rw [ht,Lin.val_snoc]
      have hx1:¬ ((w[0+j].toNat:Nat):Int)<48:=by omega
      have hx2:¬ (57:Int)<((w[0+j].toNat:Nat):Int):=by omega
      have hwr:∀ q:Int,0≤q→q<256→IntKind.u8.wrap q=q:=fun q h1 h2=>u8_wrap ⟨h1,h2⟩
      have har:arith .u8 (((w[0+j].toNat:Nat):Int) - 48)=some (.int .u8 (((w[0+j].toNat:Nat):Int) - 48)):=by
       unfold arith;rw [hwr _ (by omega) (by omega),if_neg (by decide)]
      generalize Lin.val ((w.drop 0).take j)=v at *
      simp only [hc1,hgx,hx1,hx2,htn,har,vZ,Int.reduceEq,Int.reduceNe,Int.reduceLT,Int.reduceLE,Nat.reduceEqDiff,Nat.reduceAdd,reduceIte,reduceCtorEq,Nat.reduceLT,Nat.reduceLeDiff,Nat.reduceShiftRight,Nat.reduceMod]
      refine ⟨by omega,by omega,by unfold I64;omega,by omega,by unfold I64;omega,by unfold I64;omega,by unfold I64;omega,⟨j+1,by omega,by rw [ht,List.all_append,hd,List.all_cons,hx];rfl⟩,by simp only;omega,?_⟩
      simp only [Nat.zero_add,List.drop_zero]
      try simp only [Nat.zero_add,List.drop_zero] at hval
      rw [hval]
      refine weakX [] (of_decide_eq_true rfl) (of_decide_eq_true rfl) ?_
      (simp only [vcW,vZ,Int.reduceEq,Int.reduceNe,Int.reduceLT,Int.reduceLE,Nat.reduceEqDiff,Nat.reduceAdd,reduceIte,reduceCtorEq,Nat.reduceLT,Nat.reduceLeDiff,Nat.reduceShiftRight,Nat.reduceMod])
      (repeat' first | exact trivial | (with_reducible first | exact RnB.fxB (ints_fxB _) | rfl | refine And.intro ?_ ?_) | (with_reducible (first | refine RnB.bb ?_ | refine RnB.nb ?_);simp only [vcW,vZ,Int.reduceEq,Int.reduceNe,Int.reduceLT,Int.reduceLE,Nat.reduceEqDiff,Nat.reduceAdd,reduceIte,reduceCtorEq,Nat.reduceLT,Nat.reduceLeDiff,Nat.reduceShiftRight,Nat.reduceMod]) | (with_reducible first | refine RnB.ii ?_ | refine RnB.app ?_) | (with_reducible refine RnB.fxB ?_;simp only [vcW,vZ,Int.reduceEq,Int.reduceNe,Int.reduceLT,Int.reduceLE,Nat.reduceEqDiff,Nat.reduceAdd,reduceIte,reduceCtorEq,Nat.reduceLT,Nat.reduceLeDiff,Nat.reduceShiftRight,Nat.reduceMod]) | omega)
      all_goals first | rfl | (congr 1;omega) | (simp only [Nat.zero_add] at hx';omega)
     ·have hn:=hall j h' _ hgx (by simpa using hx)
      rw [hn]
      have hx':w[0+j].toNat<48∨57<w[0+j].toNat:=by
       unfold Lin.isDig at hx
       simp only [Bool.and_eq_true,decide_eq_true_eq] at hx
       omega
      by_cases hx1:((w[0+j].toNat:Nat):Int)<48
      ·simp only [hc1,hgx,hx1,htn,numV,vZ,Int.reduceEq,Int.reduceNe,Int.reduceLT,Int.reduceLE,Nat.reduceEqDiff,Nat.reduceAdd,reduceIte,reduceCtorEq,Nat.reduceLT,Nat.reduceLeDiff,Nat.reduceShiftRight,Nat.reduceMod]
       omega
      ·have hx2:(57:Int)<((w[0+j].toNat:Nat):Int):=by omega
       simp only [hc1,hgx,hx1,hx2,htn,numV,vZ,Int.reduceEq,Int.reduceNe,Int.reduceLT,Int.reduceLE,Nat.reduceEqDiff,Nat.reduceAdd,reduceIte,reduceCtorEq,Nat.reduceLT,Nat.reduceLeDiff,Nat.reduceShiftRight,Nat.reduceMod]
       omega
    ·have hjl:j=w.length - 0:=by omega
     have hc1:¬ ((0+j:Nat):Int)<w.length:=by omega
     have htk:(w.drop 0).take j=w.drop 0:=List.take_of_length_le (by omega)
     rw [htk] at hd hv ⊢
     have hr:=hgood (by omega) (by omega) (by intro d hd0;rw [hdd] at hd0;cases hd0;exact hgd) hd
     rw [hr]
     have hb:Lin.val (w.drop 0)<1000000000000000000:=Nat.lt_of_lt_of_le hv (hpow j (by omega))
     generalize Lin.val (w.drop 0)=v at *
     have hc10:¬ ((0:Nat):Int)=1:=by omega
     have hc11:((1:Nat):Int)=1:=rfl
     simp only [hc1,numV,hc10,hc11,vZ,Int.reduceEq,Int.reduceNe,Int.reduceLT,Int.reduceLE,Nat.reduceEqDiff,Nat.reduceAdd,reduceIte,reduceCtorEq,Nat.reduceLT,Nat.reduceLeDiff,Nat.reduceShiftRight,Nat.reduceMod]
     try (unfold I64;omega)

  have h3':¬ ((c.toNat:Nat):Int)=48:=by omega
  have hgd:¬ (c.toNat=48∧1<w.length):=fun h=>h3 h.1
  simp only [h3',vZ,Int.reduceEq,Int.reduceNe,Int.reduceLT,Int.reduceLE,Nat.reduceEqDiff,Nat.reduceAdd,reduceIte,reduceCtorEq,Nat.reduceLT,Nat.reduceLeDiff,Nat.reduceShiftRight,Nat.reduceMod]
  refine W_loop (t:=.mk) (α:=PSigma fun j:Nat=>0+j≤w.length∧((w.drop 0).take j).all Lin.isDig=true) (fun ⟨j,_⟩=>(envOf [(0,.str w),(6,.int .i64 (0:Nat)),(7,.int .i64 (Lin.val ((w.drop 0).take j):Nat)),(8,.int .i64 ((0+j:Nat)))],stOf [])) (fun p=>w.length - p.1) ⟨0,by omega,rfl⟩ ?_ (fun ⟨j,hj,hd⟩=>?_)
  ·refine weakX [] (of_decide_eq_true rfl) (of_decide_eq_true rfl) ?_
   (simp only [vcW,vZ,Int.reduceEq,Int.reduceNe,Int.reduceLT,Int.reduceLE,Nat.reduceEqDiff,Nat.reduceAdd,reduceIte,reduceCtorEq,Nat.reduceLT,Nat.reduceLeDiff,Nat.reduceShiftRight,Nat.reduceMod])
   (repeat' first | exact trivial | (with_reducible first | exact RnB.fxB (ints_fxB _) | rfl | refine And.intro ?_ ?_) | (with_reducible (first | refine RnB.bb ?_ | refine RnB.nb ?_);simp only [vcW,vZ,Int.reduceEq,Int.reduceNe,Int.reduceLT,Int.reduceLE,Nat.reduceEqDiff,Nat.reduceAdd,reduceIte,reduceCtorEq,Nat.reduceLT,Nat.reduceLeDiff,Nat.reduceShiftRight,Nat.reduceMod]) | (with_reducible first | refine RnB.ii ?_ | refine RnB.app ?_) | (with_reducible refine RnB.fxB ?_;simp only [vcW,vZ,Int.reduceEq,Int.reduceNe,Int.reduceLT,Int.reduceLE,Nat.reduceEqDiff,Nat.reduceAdd,reduceIte,reduceCtorEq,Nat.reduceLT,Nat.reduceLeDiff,Nat.reduceShiftRight,Nat.reduceMod]) | omega)
   all_goals first | rfl | trace_state
  ·dsimp only at hj hd ⊢
   have hjk:((w.drop 0).take j).length=j:=by rw [List.length_take];omega
   have hv:=Lin.val_lt _ hd
   rw [hjk] at hv
   by_cases h':0+j<w.length
   ·have hc1:((0+j:Nat):Int)<w.length:=by omega
    have hgx:w[0+j]?=some w[0+j]:=List.getElem?_eq_getElem h'
    have htn:((0+j:Nat):Int).toNat=0+j:=by omega
    have hp1:=hpow (j+1) (by omega)
    rw [Nat.pow_succ] at hp1
    by_cases hx:Lin.isDig w[0+j]=true
    ·have hx':=hx
     unfold Lin.isDig at hx'
     simp only [Bool.and_eq_true,decide_eq_true_eq] at hx'
     have ht:(w.drop 0).take (j+1)=(w.drop 0).take j ++ [w[0+j]]:=by
      rw [List.take_succ_eq_append_getElem (by omega),List.getElem_drop]
     have hval:Lin.val ((w.drop 0).take (j+1))=Lin.val ((w.drop 0).take j) * 10+(w[0+j].toNat - 48):=by rw [ht,Lin.val_snoc]
     have hx1:¬ ((w[0+j].toNat:Nat):Int)<48:=by omega
     have hx2:¬ (57:Int)<((w[0+j].toNat:Nat):Int):=by omega
     have hwr:∀ q:Int,0≤q→q<256→IntKind.u8.wrap q=q:=fun q h1 h2=>u8_wrap ⟨h1,h2⟩
     have har:arith .u8 (((w[0+j].toNat:Nat):Int) - 48)=some (.int .u8 (((w[0+j].toNat:Nat):Int) - 48)):=by
      unfold arith;rw [hwr _ (by omega) (by omega),if_neg (by decide)]
     generalize Lin.val ((w.drop 0).take j)=v at *
     simp only [hc1,hgx,hx1,hx2,htn,har,vZ,Int.reduceEq,Int.reduceNe,Int.reduceLT,Int.reduceLE,Nat.reduceEqDiff,Nat.reduceAdd,reduceIte,reduceCtorEq,Nat.reduceLT,Nat.reduceLeDiff,Nat.reduceShiftRight,Nat.reduceMod]
     refine ⟨by omega,by omega,by unfold I64;omega,by omega,by unfold I64;omega,by unfold I64;omega,by unfold I64;omega,⟨j+1,by omega,by rw [ht,List.all_append,hd,List.all_cons,hx];rfl⟩,by simp only;omega,?_⟩
     simp only [Nat.zero_add,List.drop_zero]
     try simp only [Nat.zero_add,List.drop_zero] at hval
     rw [hval]
     refine weakX [] (of_decide_eq_true rfl) (of_decide_eq_true rfl) ?_
     (simp only [vcW,vZ,Int.reduceEq,Int.reduceNe,Int.reduceLT,Int.reduceLE,Nat.reduceEqDiff,Nat.reduceAdd,reduceIte,reduceCtorEq,Nat.reduceLT,Nat.reduceLeDiff,Nat.reduceShiftRight,Nat.reduceMod])
     (repeat' first | exact trivial | (with_reducible first | exact RnB.fxB (ints_fxB _) | rfl | refine And.intro ?_ ?_) | (with_reducible (first | refine RnB.bb ?_ | refine RnB.nb ?_);simp only [vcW,vZ,Int.reduceEq,Int.reduceNe,Int.reduceLT,Int.reduceLE,Nat.reduceEqDiff,Nat.reduceAdd,reduceIte,reduceCtorEq,Nat.reduceLT,Nat.reduceLeDiff,Nat.reduceShiftRight,Nat.reduceMod]) | (with_reducible first | refine RnB.ii ?_ | refine RnB.app ?_) | (with_reducible refine RnB.fxB ?_;simp only [vcW,vZ,Int.reduceEq,Int.reduceNe,Int.reduceLT,Int.reduceLE,Nat.reduceEqDiff,Nat.reduceAdd,reduceIte,reduceCtorEq,Nat.reduceLT,Nat.reduceLeDiff,Nat.reduceShiftRight,Nat.reduceMod]) | omega)
     all_goals first | rfl | (congr 1;omega) | (simp only [Nat.zero_add] at hx';omega)
    ·have hn:=hall j h' _ hgx (by simpa using hx)
     rw [hn]
     have hx':w[0+j].toNat<48∨57<w[0+j].toNat:=by
      unfold Lin.isDig at hx
      simp only [Bool.and_eq_true,decide_eq_true_eq] at hx
      omega
     by_cases hx1:((w[0+j].toNat:Nat):Int)<48
     ·simp only [hc1,hgx,hx1,htn,numV,vZ,Int.reduceEq,Int.reduceNe,Int.reduceLT,Int.reduceLE,Nat.reduceEqDiff,Nat.reduceAdd,reduceIte,reduceCtorEq,Nat.reduceLT,Nat.reduceLeDiff,Nat.reduceShiftRight,Nat.reduceMod]
      omega
     ·have hx2:(57:Int)<((w[0+j].toNat:Nat):Int):=by omega
      simp only [hc1,hgx,hx1,hx2,htn,numV,vZ,Int.reduceEq,Int.reduceNe,Int.reduceLT,Int.reduceLE,Nat.reduceEqDiff,Nat.reduceAdd,reduceIte,reduceCtorEq,Nat.reduceLT,Nat.reduceLeDiff,Nat.reduceShiftRight,Nat.reduceMod]
      omega
   ·have hjl:j=w.length - 0:=by omega
    have hc1:¬ ((0+j:Nat):Int)<w.length:=by omega
    have htk:(w.drop 0).take j=w.drop 0:=List.take_of_length_le (by omega)
    rw [htk] at hd hv ⊢
    have hr:=hgood (by omega) (by omega) (by intro d hd0;rw [hdd] at hd0;cases hd0;exact hgd) hd
    rw [hr]
    have hb:Lin.val (w.drop 0)<1000000000000000000:=Nat.lt_of_lt_of_le hv (hpow j (by omega))
    generalize Lin.val (w.drop 0)=v at *
    have hc10:¬ ((0:Nat):Int)=1:=by omega
    have hc11:((1:Nat):Int)=1:=rfl
    simp only [hc1,numV,hc10,hc11,vZ,Int.reduceEq,Int.reduceNe,Int.reduceLT,Int.reduceLE,Nat.reduceEqDiff,Nat.reduceAdd,reduceIte,reduceCtorEq,Nat.reduceLT,Nat.reduceLeDiff,Nat.reduceShiftRight,Nat.reduceMod]
    try (unfold I64;omega)
end Go.Proofs.YtpaklfjlbocfcaaGreatDoor

/- The examples of the chapter,by running the abstract code. By an AI agent;nothing here is trusted. -/
namespace Go.Proofs.YtpaklfjlbocfcaaGreatDoor
open Go.Av

def unint:AV→Option Int
 | .int .i64 n=>some n
 | _=>none
def unints:List AV→Option (List Int)
 | []=>some []
 | x :: l=>match unint x,unints l with
  | some n,some m=>some (n :: m)
  | _,_=>none
theorem unints_some:∀ {l:List AV} {m:List Int},unints l=some m→l=ints m
 | [],m,h=>by cases h;rfl
 | x :: l,m,h=>by
  simp only [unints] at h
  split at h
  ·rename_i n k h1 h2
   cases h
   rw [unints_some h2]
   unfold unint at h1
   split at h1
   ·cases h1;rfl
   ·cases h1
  ·cases h

def itW:IterT:=fun g caps=>if g=202 then (match caps with
 | [.eptr (.sl es) 0,.eptr (.agg [.int .i64 a,.int .i64 b,.int .i64 c,.int .i64 d]) 0]=>(match unints es with
  | some l=>if Rule.ok ⟨a,b,c,d⟩∧countsE l=0 then some ((wins ⟨a,b,c,d⟩ l).map winA) else none
  | none=>none)
 | _=>none) else none
theorem itW_ok:∀ g caps xs,itW g caps=some xs→SeqA Tryz.prog g caps xs:=by
 intro g caps xs h
 unfold itW at h
 split at h
 ·rename_i hg
  subst hg
  split at h
  ·rename_i es a b c d
   split at h
   ·rename_i l hl
    split at h
    ·rename_i hc
     cases h
     rw [unints_some hl]
     exact windows_1_s ⟨a,b,c,d⟩ hc.1 l hc.2
    ·cases h
   ·cases h
  ·cases h
 ·cases h

def tabW:List (Nat × Nat × Nat × MC × List (Nat × Option (Option Nat))):=[(7,82,0,c_law08_awake,[(0,none)]),(33,26,2,c_base_Ints,[(4,none)]),(41,56,3,c_watch_ThresholdFor,[(6,none),(7,none)]),(48,16,2,c_watch_AlarmsIn,[(4,none),(5,none)]),(52,48,3,c_watch_LostBy,[(6,none),(7,none)]),(70,2,0,c_law08_Rule,[(0,(some (some 4)))]),(71,24,3,c_watch_WaysOf,[(6,none),(7,none)]),(72,5,0,c_law08_Sky,[(0,(some (some 1)))]),(73,22,1,c_watch_FitOf,[(2,(some (some 4))),(3,none)]),(74,5,0,c_law08_Pairs,[(0,none)]),(75,20,2,c_base_Lowest,[(4,(some (some 2)))]),(79,24,1,c_watch_CheckRule,[(2,none)]),(81,50,1,c_watch_CheckSky,[(2,none),(3,none)]),(96,15,1,c_watch_first,[(2,none)]),(97,18,2,c_watch_binsErr,[(4,none)]),(98,7,2,c_watch_unless,[(4,none)]),(99,15,3,c_watch_within,[(6,none)]),(100,58,2,c_watch_sums,[(4,none)]),(101,21,2,c_watch_from,[(4,none)]),(102,6,1,c_watch_thresholdErr,[(2,none)]),(104,16,2,c_watch_lowest,[(4,(some (some 2)))]),(108,11,2,c_watch_bothErr,[(4,none)]),(109,38,2,c_watch_alarms,[(4,none)]),(110,39,3,c_watch_ringErr,[(6,none)]),(111,65,3,c_watch_freezes,[(6,none)]),(113,9,2,c_slices_ContainsFunc_int_int,[(4,none)]),(114,12,3,c_watch_LostBy_1,[(4,none)]),(115,9,2,c_slices_ContainsFunc_api_Range_api_Range,[(4,none)]),(116,10,2,c_watch_LostBy_2,[(3,none)]),(142,19,1,c_watch_pairsErr,[(2,none)]),(143,71,1,c_watch_line,[(2,(some (some 4))),(3,none)]),(144,13,2,c_base_Gcd,[(4,none)]),(151,8,2,c_watch_odd,[(4,none)]),(153,7,1,c_base_Size,[(2,none)]),(157,25,1,c_slices_Max_int_int,[(2,none)]),(163,15,2,c_watch_divisor,[(4,none)]),(165,13,1,c_watch_countsErr,[(2,none)]),(166,6,2,c_watch_windows,[(4,none)]),(167,19,1,c_watch_CheckRing,[(2,none)]),(168,19,2,c_slices_IndexFunc_int_int,[(4,none)]),(169,19,2,c_slices_IndexFunc_api_Range_api_Range,[(4,none)]),(189,9,2,c_slices_ContainsFunc_api_WatchPair_api_WatchPair,[(4,none)]),(190,9,1,c_watch_pairsErr_1,[(2,none)]),(199,8,2,c_watch_odd_1,[(3,none)]),(210,19,2,c_slices_IndexFunc_api_WatchPair_api_WatchPair,[(4,none)])]
theorem tabW_ok:∀ f c,lookC tabW f=some c→cFun Tryz.prog f=some c:=by
 refine lookC_ok ?_
 unfold tabW
 simp only [List.forall_mem_cons]
 exact ⟨f_law08_awake,f_base_Ints,f_watch_ThresholdFor,f_watch_AlarmsIn,f_watch_LostBy,f_law08_Rule,f_watch_WaysOf,f_law08_Sky,f_watch_FitOf,f_law08_Pairs,f_base_Lowest,f_watch_CheckRule,f_watch_CheckSky,f_watch_first,f_watch_binsErr,f_watch_unless,f_watch_within,f_watch_sums,f_watch_from,f_watch_thresholdErr,f_watch_lowest,f_watch_bothErr,f_watch_alarms,f_watch_ringErr,f_watch_freezes,f_slices_ContainsFunc_int_int,f_watch_LostBy_1,f_slices_ContainsFunc_api_Range_api_Range,f_watch_LostBy_2,f_watch_pairsErr,f_watch_line,f_base_Gcd,f_watch_odd,f_base_Size,f_slices_Max_int_int,f_watch_divisor,f_watch_countsErr,f_watch_windows,f_watch_CheckRing,f_slices_IndexFunc_int_int,f_slices_IndexFunc_api_Range_api_Range,f_slices_ContainsFunc_api_WatchPair_api_WatchPair,f_watch_pairsErr_1,f_watch_odd_1,f_slices_IndexFunc_api_WatchPair_api_WatchPair,fun p hp=>by cases hp⟩
theorem awake_run:callN noExt itW (lookC tabW) 100 30 7 []=some (.bool true):=by kernel_rfl
theorem awake_s:Sound Tryz.prog 7 [] (.bool true):=callN_sound noExt_ok itW_ok tabW_ok 30 _ _ _ awake_run
end Go.Proofs.YtpaklfjlbocfcaaGreatDoor

/- Contracts: sums of skies. By an AI agent;nothing here is trusted. -/
namespace Go.Proofs.YtpaklfjlbocfcaaGreatDoor
open Go.Av

end Go.Proofs.YtpaklfjlbocfcaaGreatDoor

/- Contracts: maxima and minima,sums of parts. By an AI agent;nothing here is trusted. -/
namespace Go.Proofs.YtpaklfjlbocfcaaGreatDoor
open Go.Av

def mxTo (l:List Int) (n:Nat):Int:=(l.take n).foldl max (l.headD 0)
def mxL (l:List Int):Int:=mxTo l l.length
end Go.Proofs.YtpaklfjlbocfcaaGreatDoor

/- Sums of skies,in plain Lean. By an AI agent;nothing here is trusted. -/
namespace Go.Proofs.YtpaklfjlbocfcaaGreatDoor
open Go.Av

def lin:List Int→(Int→Int)→Int
 | [],_=>0
 | x :: v,f=>x * f 0+lin v (fun a=>f (a+1))
theorem lin_append:∀ (v w:List Int) (f:Int→Int),lin (v ++ w) f=lin v f+lin w (fun a=>f (a+v.length))
 | [],w,f=>by simp [lin]
 | x :: v,w,f=>by
  simp only [List.cons_append,lin,lin_append v w,List.length_cons,Int.add_assoc]
  have:(fun a:Int=>f (a+((v.length:Int)+1)))=(fun a=>f (a+((v.length+1:Nat):Int))):=rfl
  rw [← this]
theorem lin_take (v:List Int) (f:Int→Int) (a:Nat) (h:a<v.length):lin (v.take (a+1)) f=lin (v.take a) f+v[a] * f a:=by
 rw [List.take_succ_eq_append_getElem h,lin_append]
 simp [lin,List.length_take,Nat.min_eq_left (Nat.le_of_lt h)]
theorem lin_zero (m:Nat):∀ (f:Int→Int),lin (List.replicate m 0) f=0:=by
 induction m with
 | zero=>intro f;rfl
 | succ m ih=>intro f;simp [List.replicate_succ,lin,ih]
def upd1 (nx:List Int) (p:Nat) (n:Int):List Int:=nx.set p (nx.getD p 0+n)
theorem upd1_length (nx:List Int) (p:Nat) (n:Int):(upd1 nx p n).length=nx.length:=by simp [upd1]
theorem lin_upd1:∀ (nx:List Int) (p:Nat) (n:Int) (f:Int→Int),p<nx.length→lin (upd1 nx p n) f=lin nx f+n * f p
 | x :: nx,0,n,f,_=>by simp [upd1,lin,Int.add_mul];omega
 | x :: nx,p+1,n,f,h=>by
  have:=lin_upd1 nx p n (fun a=>f (a+1)) (by simpa using h)
  simp only [upd1] at this ⊢
  simp only [List.set_cons_succ,List.getD_cons_succ,lin,this]
  have e:f ((p:Int)+1)=f ((p+1:Nat):Int):=rfl
  rw [e];omega
theorem lin_one:∀ (v:List Int),lin v (fun _=>1)=v.sum
 | []=>rfl
 | x :: v=>by simp [lin,lin_one v]
theorem lin_cmul:∀ (v:List Int) (f:Int→Int) (c:Int),lin v (fun a=>c * f a)=c * lin v f
 | [],_,_=>by simp [lin]
 | x :: v,f,c=>by simp only [lin,lin_cmul v];rw [Int.mul_add,Int.mul_left_comm]
theorem sum_nonneg:∀ {v:List Int},(∀ x ∈ v,0≤x)→0≤v.sum
 | [],_=>by simp
 | x :: v,h=>by
  have:=sum_nonneg (v:=v) fun y hy=>h y (List.mem_cons_of_mem _ hy)
  have:=h x List.mem_cons_self
  simp only [List.sum_cons];omega
theorem foldl_max_le:∀ (l:List Int) (a:Int),a≤l.foldl max a∧∀ c ∈ l,c≤l.foldl max a
 | [],a=>⟨Int.le_refl _,by simp⟩
 | x :: l,a=>by
  obtain ⟨h1,h2⟩:=foldl_max_le l (max a x)
  refine ⟨by simp only [List.foldl_cons];omega,fun c hc=>?_⟩
  rcases List.mem_cons.1 hc with e | e
  ·simp only [List.foldl_cons];omega
  ·exact h2 c e
theorem le_mxL {l:List Int} {c:Int} (h:c ∈ l):c≤mxL l:=by
 unfold mxL mxTo;rw [List.take_length];exact (foldl_max_le l _).2 c h
theorem mxL_mem {l:List Int} (h:0<l.length):mxL l ∈ l:=by
 have:∀ (l:List Int) (a:Int),l.foldl max a=a∨l.foldl max a ∈ l:=by
  intro l
  induction l with
  | nil=>intro a;exact .inl rfl
  | cons x l ih =>
   intro a
   simp only [List.foldl_cons]
   rcases ih (max a x) with e | e
   ·rw [e]
    rcases Int.le_total a x with q | q
    ·right;rw [Int.max_eq_right q];exact List.mem_cons_self
    ·left;exact Int.max_eq_left q
   ·exact .inr (List.mem_cons_of_mem _ e)
 unfold mxL mxTo
 rw [List.take_length]
 cases l with
 | nil=>simp at h
 | cons x l =>
  rcases this (x :: l) x with e | e
  ·simp only [List.headD_cons];rw [e];exact List.mem_cons_self
  ·exact e

def rowTo (at_:Nat) (n:Int) (l:List Int) (nx:List Int):List Int:=l.foldl (fun nx c=>upd1 nx (at_+c.toNat) n) nx
def convTo (v l:List Int) (a:Nat):List Int:=(List.range a).foldl (fun nx i=>rowTo i (v.getD i 0) l nx) (List.replicate (v.length+(mxL l).toNat) 0)
def conv (v l:List Int):List Int:=convTo v l v.length
theorem rowTo_length (a:Nat) (n:Int):∀ (l nx:List Int),(rowTo a n l nx).length=nx.length
 | [],_=>rfl
 | c :: l,nx=>by rw [rowTo,List.foldl_cons,← rowTo,rowTo_length a n l,upd1_length]
theorem convTo_succ (v l:List Int) (a:Nat):convTo v l (a+1)=rowTo a (v.getD a 0) l (convTo v l a):=by
 unfold convTo;rw [List.range_succ,List.foldl_append];rfl
theorem convTo_length (v l:List Int) (a:Nat):(convTo v l a).length=v.length+(mxL l).toNat:=by
 induction a with
 | zero=>simp [convTo]
 | succ a ih=>rw [convTo_succ,rowTo_length,ih]
theorem lin_row (a:Nat) (n:Int) (f:Int→Int):∀ (l nx:List Int),(∀ c ∈ l,0≤c∧a+c.toNat<nx.length)→lin (rowTo a n l nx) f=lin nx f+n * (l.map fun c=>f (a+c)).sum
 | [],nx,_=>by simp [rowTo]
 | c :: l,nx,h=>by
  have h0:=h c List.mem_cons_self
  rw [rowTo,List.foldl_cons,← rowTo,lin_row a n f l (upd1 nx (a+c.toNat) n) (fun d hd=>by rw [upd1_length];exact h d (List.mem_cons_of_mem _ hd)),lin_upd1 _ _ _ _ h0.2]
  have e:((a+c.toNat:Nat):Int)=a+c:=by omega
  rw [e,List.map_cons,List.sum_cons,Int.mul_add];omega
theorem lin_convTo (v l:List Int) (hl:∀ c ∈ l,0≤c) (f:Int→Int):∀ (a:Nat),a≤v.length→lin (convTo v l a) f=lin (v.take a) (fun x=>(l.map fun c=>f (x+c)).sum)
 | 0,_=>by simp [convTo,lin_zero,lin]
 | a+1,h=>by
  rw [convTo_succ,lin_row,lin_convTo v l hl f a (by omega),lin_take v _ a h]
  ·have ha':a<v.length:=h
   simp [List.getD,List.getElem?_eq_getElem ha']
  ·intro c hc
   have:=le_mxL hc
   have:=hl c hc
   rw [convTo_length];omega
theorem conv_length (v l:List Int):(conv v l).length=v.length+(mxL l).toNat:=convTo_length v l _

theorem upd1_nonneg {nx:List Int} {p:Nat} {n:Int} (h:∀ x ∈ nx,0≤x) (hn:0≤n):∀ x ∈ upd1 nx p n,0≤x:=by
 intro x hx
 unfold upd1 at hx
 rcases List.mem_or_eq_of_mem_set hx with e | e
 ·exact h x e
 ·have:0≤nx.getD p 0:=by
   unfold List.getD
   cases hq:nx[p]? with
   | none=>simp
   | some y=>simpa using h y (List.mem_of_getElem? hq)
  omega
theorem row_nonneg {a:Nat} {n:Int} (hn:0≤n):∀ (l nx:List Int),(∀ x ∈ nx,0≤x)→∀ x ∈ rowTo a n l nx,0≤x
 | [],_,h=>h
 | c :: l,nx,h=>by
  rw [rowTo,List.foldl_cons,← rowTo]
  exact row_nonneg hn l _ (upd1_nonneg h hn)
theorem getD_nonneg {v:List Int} (h:∀ x ∈ v,0≤x) (p:Nat):0≤v.getD p 0:=by
 unfold List.getD
 cases hq:v[p]? with
 | none=>simp
 | some y=>simpa using h y (List.mem_of_getElem? hq)
theorem convTo_nonneg {v:List Int} (hv:∀ x ∈ v,0≤x) (l:List Int) (a:Nat):∀ x ∈ convTo v l a,0≤x:=by
 induction a with
 | zero=>intro x hx;simp [convTo] at hx;omega
 | succ a ih=>rw [convTo_succ];exact row_nonneg (getD_nonneg hv a) l _ ih
theorem map_one_sum:∀ (l:List Int),(l.map fun _=>(1:Int)).sum=l.length
 | []=>rfl
 | x :: l=>by simp only [List.map_cons,List.sum_cons,map_one_sum l,List.length_cons];omega
theorem lin_const (v:List Int) (c:Int):lin v (fun _=>c)=c * v.sum:=by
 have:=lin_cmul v (fun _=>1) c
 simp only [Int.mul_one] at this;rw [this,lin_one]
theorem convTo_sum {v l:List Int} (hl:∀ c ∈ l,0≤c) {a:Nat} (ha:a≤v.length):(convTo v l a).sum=l.length * (v.take a).sum:=by
 rw [← lin_one,lin_convTo v l hl _ a ha,map_one_sum,lin_const]
theorem conv_sum {v l:List Int} (hl:∀ c ∈ l,0≤c):(conv v l).sum=l.length * v.sum:=by
 unfold conv;rw [convTo_sum hl (Nat.le_refl _),List.take_length]
end Go.Proofs.YtpaklfjlbocfcaaGreatDoor

/- Contracts: the sums of a sky. By an AI agent;nothing here is trusted. -/
namespace Go.Proofs.YtpaklfjlbocfcaaGreatDoor
open Go.Av

def sTo (s:List (List Int)) (v:List Int) (j:Nat):List Int:=(s.take j).foldl conv v
def bTo (s:List (List Int)):Nat→List Int
 | 0=>[1]
 | b+1=>s.foldl conv (bTo s b)
structure Vok (m:Nat) (v:List Int):Prop where
 nn:∀ x ∈ v,0≤x
 le:v.length≤1+1000 * m
 pos:0<v.length
 sum:v.sum≤(6:Int) ^ m
theorem Vok.mono {m m':Nat} {v:List Int} (h:Vok m v) (hm:m≤m'):Vok m' v :=
 ⟨h.nn,by have:=h.le;omega,h.pos,Int.le_trans h.sum (Int.ofNat_le.2 (Nat.pow_le_pow_right (n:=6) (by omega) hm))⟩
theorem sensE_ok {l:List Int} (h:sensE l=0):0<l.length∧l.length≤6∧∀ c ∈ l,0≤c∧c≤1000:=by
 unfold sensE at h
 by_cases h1:l.length=0
 ·rw [if_pos h1] at h;omega
 ·rw [if_neg h1] at h
  by_cases h2:6<l.length
  ·rw [if_pos h2] at h;omega
  ·rw [if_neg h2] at h
   by_cases h3:(l.all fun n=>decide (0≤n∧n≤1000))=true
   ·exact ⟨by omega,by omega,by simpa using h3⟩
   ·rw [if_neg h3] at h;omega
theorem Vok.conv {m:Nat} {v l:List Int} (h:Vok m v) (hl:sensE l=0):Vok (m+1) (conv v l):=by
 obtain ⟨h1,h2,h3⟩:=sensE_ok hl
 have hm:=h3 _ (mxL_mem h1)
 have hle:=h.le
 have hp:=h.pos
 refine ⟨convTo_nonneg h.nn l _,by rw [conv_length];omega,by rw [conv_length];omega,?_⟩
 rw [conv_sum (fun c hc=>(h3 c hc).1),Int.pow_succ]
 have hs:=sum_nonneg h.nn
 have q1:(l.length:Int) * v.sum≤6 * v.sum:=Int.mul_le_mul_of_nonneg_right (by omega) hs
 have:=h.sum
 omega
attribute [local irreducible] rowTo convTo conv bTo sTo upd1 mxL
end Go.Proofs.YtpaklfjlbocfcaaGreatDoor

/- Contracts: what the law of counted skies asks. By an AI agent;nothing here is trusted. -/
namespace Go.Proofs.YtpaklfjlbocfcaaGreatDoor
open Go.Av

def fewS (s:List (List Int)):Bool:=decide (s.length≤8) && s.all fun l=>decide (l.length≤8)
theorem fewSensors_s (s:List (List Int)) :
  Sound Tryz.prog 8 [skyA s] (.bool (fewS s)):=by
 refine sound_W f_law08_fewSensors (Nat.le_of_ble_eq_true rfl) ?_
 by_cases h8:(8:Int)<s.length
 ·have:fewS s=false:=by unfold fewS;rw [decide_eq_false (by omega)];rfl
  simp only [c_law08_fewSensors,skyA,skyL_length,h8,this,vZ,Int.reduceEq,Int.reduceNe,Int.reduceLT,Int.reduceLE,Nat.reduceEqDiff,Nat.reduceAdd,reduceIte,reduceCtorEq,Nat.reduceLT,Nat.reduceLeDiff,Nat.reduceShiftRight,Nat.reduceMod]
 ·simp only [c_law08_fewSensors,skyA,skyL_length,h8,vZ,Int.reduceEq,Int.reduceNe,Int.reduceLT,Int.reduceLE,Nat.reduceEqDiff,Nat.reduceAdd,reduceIte,reduceCtorEq,Nat.reduceLT,Nat.reduceLeDiff,Nat.reduceShiftRight,Nat.reduceMod]
  refine W_loop (t:=.mk) (α:=PSigma fun i:Nat=>i≤s.length∧((s.take i).all (fun l=>decide (l.length≤8))=true)) (fun ⟨i,_⟩=>((envOf [(1,.ptr 1 0 0),(3,.int .i64 i)],stOf [(1,⟨26,1,[.agg [.sl (skyL s)]]⟩)]))) (fun i=>s.length - i.1) ⟨0,Nat.zero_le _,?_⟩ ?_ (fun ⟨i,hi,hn⟩=>?_)
  ·rfl
  ·refine weakX [] (of_decide_eq_true rfl) (of_decide_eq_true rfl) ?_
   (simp only [vcW,vZ,Int.reduceEq,Int.reduceNe,Int.reduceLT,Int.reduceLE,Nat.reduceEqDiff,Nat.reduceAdd,reduceIte,reduceCtorEq,Nat.reduceLT,Nat.reduceLeDiff,Nat.reduceShiftRight,Nat.reduceMod])
   (repeat' first | exact trivial | (with_reducible first | exact RnB.fxB (ints_fxB _) | rfl | refine And.intro ?_ ?_) | (with_reducible (first | refine RnB.bb ?_ | refine RnB.nb ?_);simp only [vcW,vZ,Int.reduceEq,Int.reduceNe,Int.reduceLT,Int.reduceLE,Nat.reduceEqDiff,Nat.reduceAdd,reduceIte,reduceCtorEq,Nat.reduceLT,Nat.reduceLeDiff,Nat.reduceShiftRight,Nat.reduceMod]) | (with_reducible first | refine RnB.ii ?_ | refine RnB.app ?_) | (with_reducible refine RnB.fxB ?_;simp only [vcW,vZ,Int.reduceEq,Int.reduceNe,Int.reduceLT,Int.reduceLE,Nat.reduceEqDiff,Nat.reduceAdd,reduceIte,reduceCtorEq,Nat.reduceLT,Nat.reduceLeDiff,Nat.reduceShiftRight,Nat.reduceMod]) | omega)
  ·simp only [skyL_length,vZ,Int.reduceEq,Int.reduceNe,Int.reduceLT,Int.reduceLE,Nat.reduceEqDiff,Nat.reduceAdd,reduceIte,reduceCtorEq,Nat.reduceLT,Nat.reduceLeDiff,Nat.reduceShiftRight,Nat.reduceMod]
   refine brB_split (fun h=>?_) (fun h=>?_)
   ·have h':i<s.length:=by (simp only [decide_eq_true_eq,decide_eq_false_iff_not,Bool.not_true,I64,Bool.not_eq_true',Bool.not_eq_false',bne_iff_ne,beq_iff_eq,ne_eq] at *;omega)
    clear h
    by_cases hb:(8:Int)<s[i].length
    ·have hf:fewS s=false:=by
      unfold fewS
      rw [Bool.and_eq_false_iff];right
      rw [List.all_eq_false]
      exact ⟨s[i],List.getElem_mem h',by simp;omega⟩
     simp only [skyL_get s i h',ints_length,hb,hf,vZ,Int.reduceEq,Int.reduceNe,Int.reduceLT,Int.reduceLE,Nat.reduceEqDiff,Nat.reduceAdd,reduceIte,reduceCtorEq,Nat.reduceLT,Nat.reduceLeDiff,Nat.reduceShiftRight,Nat.reduceMod]
     omega
    ·simp only [skyL_get s i h',ints_length,hb,vZ,Int.reduceEq,Int.reduceNe,Int.reduceLT,Int.reduceLE,Nat.reduceEqDiff,Nat.reduceAdd,reduceIte,reduceCtorEq,Nat.reduceLT,Nat.reduceLeDiff,Nat.reduceShiftRight,Nat.reduceMod]
     refine ⟨by omega,by unfold I64;omega,⟨⟨i+1,h',?_⟩,by simp only;omega,?_⟩⟩
     ·rw [List.take_succ_eq_append_getElem h',List.all_append,hn]
      simp;omega
     ·refine weakX [] (of_decide_eq_true rfl) (of_decide_eq_true rfl) ?_
      (simp only [vcW,vZ,Int.reduceEq,Int.reduceNe,Int.reduceLT,Int.reduceLE,Nat.reduceEqDiff,Nat.reduceAdd,reduceIte,reduceCtorEq,Nat.reduceLT,Nat.reduceLeDiff,Nat.reduceShiftRight,Nat.reduceMod])
      (repeat' first | exact trivial | (with_reducible first | exact RnB.fxB (ints_fxB _) | rfl | refine And.intro ?_ ?_) | (with_reducible (first | refine RnB.bb ?_ | refine RnB.nb ?_);simp only [vcW,vZ,Int.reduceEq,Int.reduceNe,Int.reduceLT,Int.reduceLE,Nat.reduceEqDiff,Nat.reduceAdd,reduceIte,reduceCtorEq,Nat.reduceLT,Nat.reduceLeDiff,Nat.reduceShiftRight,Nat.reduceMod]) | (with_reducible first | refine RnB.ii ?_ | refine RnB.app ?_) | (with_reducible refine RnB.fxB ?_;simp only [vcW,vZ,Int.reduceEq,Int.reduceNe,Int.reduceLT,Int.reduceLE,Nat.reduceEqDiff,Nat.reduceAdd,reduceIte,reduceCtorEq,Nat.reduceLT,Nat.reduceLeDiff,Nat.reduceShiftRight,Nat.reduceMod]) | omega)
   ·have hi':i=s.length:=by (simp only [decide_eq_true_eq,decide_eq_false_iff_not,Bool.not_true,I64,Bool.not_eq_true',Bool.not_eq_false',bne_iff_ne,beq_iff_eq,ne_eq] at *;omega)
    cases hi'
    rw [List.take_length] at hn
    simp only [vZ,Int.reduceEq,Int.reduceNe,Int.reduceLT,Int.reduceLE,Nat.reduceEqDiff,Nat.reduceAdd,reduceIte,reduceCtorEq,Nat.reduceLT,Nat.reduceLeDiff,Nat.reduceShiftRight,Nat.reduceMod]
    unfold fewS
    rw [hn,decide_eq_true (by omega)];rfl
end Go.Proofs.YtpaklfjlbocfcaaGreatDoor

/- Contracts: the reference's checks of skies. By an AI agent;nothing here is trusted. -/
namespace Go.Proofs.YtpaklfjlbocfcaaGreatDoor
open Go.Av

def okTo (l:List Int) (k:Nat):Prop:=∀ c ∈ l.take k,0≤c∧c≤1000
theorem okTo_succ {l:List Int} {k:Nat} (h:k<l.length) (hk:okTo l k) (hc:0≤l[k]∧l[k]≤1000):okTo l (k+1):=by
 unfold okTo
 rw [List.take_succ_eq_append_getElem h]
 intro x hx
 rcases List.mem_append.1 hx with e | e
 ·exact hk x e
 ·simp at e;rw [e];exact hc
theorem sensE_all {l:List Int} (h1:l.length ≠ 0) (h2:¬ 6<l.length) (h:okTo l l.length):sensE l=0:=by
 unfold sensE okTo at *
 rw [List.take_length] at h
 rw [if_neg h1,if_neg h2,if_pos (by simpa using h)]
theorem sensE_bad {l:List Int} (h1:l.length ≠ 0) (h2:¬ 6<l.length) {k:Nat} (hk:k<l.length) (h:¬ (0≤l[k]∧l[k]≤1000)):sensE l=2:=by
 unfold sensE
 rw [if_neg h1,if_neg h2,if_neg]
 intro hc
 rw [List.all_eq_true] at hc
 exact h (by simpa using hc _ (List.getElem_mem hk))

set_option maxHeartbeats 4000000 in
theorem refCheckSky_s (s:List (List Int)) (hs:s.length<4000000000000000000) (hl:∀ l ∈ s,l.length<4000000000000000000) :
  Sound Tryz.prog 86 [skyA s] (.tup [.int .i64 (skyE s).1,.int .i64 (skyE s).2]):=by
 refine sound_W f_ref08_CheckSky (Nat.le_of_ble_eq_true rfl) ?_
 by_cases h0:s.length=0
 ·have e:skyE s=(0,10):=by unfold skyE;rw [if_pos h0]
  have h0':(s.length:Int)=0:=by omega
  simp only [c_ref08_CheckSky,skyA,skyL_length,h0',e,vZ,Int.reduceEq,Int.reduceNe,Int.reduceLT,Int.reduceLE,Nat.reduceEqDiff,Nat.reduceAdd,reduceIte,reduceCtorEq,Nat.reduceLT,Nat.reduceLeDiff,Nat.reduceShiftRight,Nat.reduceMod]
  rfl
 by_cases h6:6<s.length
 ·have e:skyE s=(0,8):=by unfold skyE;rw [if_neg h0,if_pos h6]
  have h0':¬ (s.length:Int)=0:=by omega
  have h6':(6:Int)<s.length:=by omega
  simp only [c_ref08_CheckSky,skyA,skyL_length,h0',h6',e,vZ,Int.reduceEq,Int.reduceNe,Int.reduceLT,Int.reduceLE,Nat.reduceEqDiff,Nat.reduceAdd,reduceIte,reduceCtorEq,Nat.reduceLT,Nat.reduceLeDiff,Nat.reduceShiftRight,Nat.reduceMod]
  rfl
 have e:skyE s=skyI s 0:=by unfold skyE;rw [if_neg h0,if_neg h6]
 have h0':¬ (s.length:Int)=0:=by omega
 have h6':¬ (6:Int)<s.length:=by omega
 rw [e]
 simp only [c_ref08_CheckSky,skyA,skyL_length,h0',h6',vZ,Int.reduceEq,Int.reduceNe,Int.reduceLT,Int.reduceLE,Nat.reduceEqDiff,Nat.reduceAdd,reduceIte,reduceCtorEq,Nat.reduceLT,Nat.reduceLeDiff,Nat.reduceShiftRight,Nat.reduceMod]
 refine W_loop (t:=.mk) (α:=PSigma fun i:Nat=>i≤s.length∧(∀ l ∈ s.take i,sensE l=0)) (fun ⟨i,_⟩=>((envOf [(1,.ptr 1 0 0),(4,.int .i64 i)],stOf [(1,⟨26,1,[.agg [.sl (skyL s)]]⟩)]))) (fun i=>s.length - i.1) ⟨0,Nat.zero_le _,?_⟩ ?_ (fun ⟨i,hi,hn⟩=>?_)
 ·simp
 ·refine weakX [] (of_decide_eq_true rfl) (of_decide_eq_true rfl) ?_
  (simp only [vcW,vZ,Int.reduceEq,Int.reduceNe,Int.reduceLT,Int.reduceLE,Nat.reduceEqDiff,Nat.reduceAdd,reduceIte,reduceCtorEq,Nat.reduceLT,Nat.reduceLeDiff,Nat.reduceShiftRight,Nat.reduceMod])
  (repeat' first | exact trivial | (with_reducible first | exact RnB.fxB (ints_fxB _) | rfl | refine And.intro ?_ ?_) | (with_reducible (first | refine RnB.bb ?_ | refine RnB.nb ?_);simp only [vcW,vZ,Int.reduceEq,Int.reduceNe,Int.reduceLT,Int.reduceLE,Nat.reduceEqDiff,Nat.reduceAdd,reduceIte,reduceCtorEq,Nat.reduceLT,Nat.reduceLeDiff,Nat.reduceShiftRight,Nat.reduceMod]) | (with_reducible first | refine RnB.ii ?_ | refine RnB.app ?_) | (with_reducible refine RnB.fxB ?_;simp only [vcW,vZ,Int.reduceEq,Int.reduceNe,Int.reduceLT,Int.reduceLE,Nat.reduceEqDiff,Nat.reduceAdd,reduceIte,reduceCtorEq,Nat.reduceLT,Nat.reduceLeDiff,Nat.reduceShiftRight,Nat.reduceMod]) | omega)
 ·simp only [skyL_length,vZ,Int.reduceEq,Int.reduceNe,Int.reduceLT,Int.reduceLE,Nat.reduceEqDiff,Nat.reduceAdd,reduceIte,reduceCtorEq,Nat.reduceLT,Nat.reduceLeDiff,Nat.reduceShiftRight,Nat.reduceMod]
  refine brB_split (fun h=>?_) (fun h=>?_)
  ·have h':i<s.length:=by (simp only [decide_eq_true_eq,decide_eq_false_iff_not,Bool.not_true,I64,Bool.not_eq_true',Bool.not_eq_false',bne_iff_ne,beq_iff_eq,ne_eq] at *;omega)
   clear h
   have hat:skyI s 0=if sensE s[i] ≠ 0 then (i,sensE s[i]) else skyI (s.drop (i+1)) (i+1):=by
    rw [skyI_at s i 0 hn hi,List.drop_eq_getElem_cons h',skyI];simp
   have hlen:=hl _ (List.getElem_mem h')
   have hnx:sensE s[i]=0→∀ l ∈ s.take (i+1),sensE l=0:=by
    intro hz x hx
    rw [List.take_succ_eq_append_getElem h'] at hx
    rcases List.mem_append.1 hx with q | q
    ·exact hn x q
    ·simp at q;rw [q];exact hz
   have hg:=skyL_get s i h'
   generalize s[i]=l at *
   by_cases l0:l.length=0
   ·have hz:sensE l=10:=by unfold sensE;rw [if_pos l0]
    rw [hz] at hat
    have l0':(l.length:Int)=0:=by omega
    rw [if_pos (by omega)] at hat
    simp only [hg,ints_length,l0',hat,vZ,Int.reduceEq,Int.reduceNe,Int.reduceLT,Int.reduceLE,Nat.reduceEqDiff,Nat.reduceAdd,reduceIte,reduceCtorEq,Nat.reduceLT,Nat.reduceLeDiff,Nat.reduceShiftRight,Nat.reduceMod]
    omega
   by_cases l6:6<l.length
   ·have hz:sensE l=8:=by unfold sensE;rw [if_neg l0,if_pos l6]
    rw [hz] at hat
    have l0':¬ (l.length:Int)=0:=by omega
    have l6':(6:Int)<l.length:=by omega
    rw [if_pos (by omega)] at hat
    simp only [hg,ints_length,l0',l6',hat,vZ,Int.reduceEq,Int.reduceNe,Int.reduceLT,Int.reduceLE,Nat.reduceEqDiff,Nat.reduceAdd,reduceIte,reduceCtorEq,Nat.reduceLT,Nat.reduceLeDiff,Nat.reduceShiftRight,Nat.reduceMod]
    exact ⟨by omega,by omega⟩
   have l0':¬ (l.length:Int)=0:=by omega
   have l6':¬ (6:Int)<l.length:=by omega
   simp only [hg,ints_length,l0',l6',vZ,Int.reduceEq,Int.reduceNe,Int.reduceLT,Int.reduceLE,Nat.reduceEqDiff,Nat.reduceAdd,reduceIte,reduceCtorEq,Nat.reduceLT,Nat.reduceLeDiff,Nat.reduceShiftRight,Nat.reduceMod]
   refine ⟨by omega,by omega,?_⟩
   refine W_loop (t:=.mk) (α:=PSigma fun k:Nat=>k≤l.length∧okTo l k) (fun ⟨k,_⟩=>(envOf [(1,.ptr 1 0 0),(4,.int .i64 i),(5,.int .i64 k)],stOf [(1,⟨26,1,[.agg [.sl (skyL s)]]⟩)])) (fun k=>l.length - k.1) ⟨0,Nat.zero_le _,by unfold okTo;simp⟩ ?_ (fun ⟨k,hk,ho⟩=>?_)
   ·refine weakX [] (of_decide_eq_true rfl) (of_decide_eq_true rfl) ?_
    (simp only [vcW,vZ,Int.reduceEq,Int.reduceNe,Int.reduceLT,Int.reduceLE,Nat.reduceEqDiff,Nat.reduceAdd,reduceIte,reduceCtorEq,Nat.reduceLT,Nat.reduceLeDiff,Nat.reduceShiftRight,Nat.reduceMod])
    (repeat' first | exact trivial | (with_reducible first | exact RnB.fxB (ints_fxB _) | rfl | refine And.intro ?_ ?_) | (with_reducible (first | refine RnB.bb ?_ | refine RnB.nb ?_);simp only [vcW,vZ,Int.reduceEq,Int.reduceNe,Int.reduceLT,Int.reduceLE,Nat.reduceEqDiff,Nat.reduceAdd,reduceIte,reduceCtorEq,Nat.reduceLT,Nat.reduceLeDiff,Nat.reduceShiftRight,Nat.reduceMod]) | (with_reducible first | refine RnB.ii ?_ | refine RnB.app ?_) | (with_reducible refine RnB.fxB ?_;simp only [vcW,vZ,Int.reduceEq,Int.reduceNe,Int.reduceLT,Int.reduceLE,Nat.reduceEqDiff,Nat.reduceAdd,reduceIte,reduceCtorEq,Nat.reduceLT,Nat.reduceLeDiff,Nat.reduceShiftRight,Nat.reduceMod]) | omega)
   ·simp only [hg,ints_length,vZ,Int.reduceEq,Int.reduceNe,Int.reduceLT,Int.reduceLE,Nat.reduceEqDiff,Nat.reduceAdd,reduceIte,reduceCtorEq,Nat.reduceLT,Nat.reduceLeDiff,Nat.reduceShiftRight,Nat.reduceMod]
    refine ⟨by omega,?_⟩
    refine brB_split (fun h=>?_) (fun h=>?_)
    ·have hk':k<l.length:=by (simp only [decide_eq_true_eq,decide_eq_false_iff_not,Bool.not_true,I64,Bool.not_eq_true',Bool.not_eq_false',bne_iff_ne,beq_iff_eq,ne_eq] at *;omega)
     clear h
     simp only [hg,ints_get l k hk',vZ,Int.reduceEq,Int.reduceNe,Int.reduceLT,Int.reduceLE,Nat.reduceEqDiff,Nat.reduceAdd,reduceIte,reduceCtorEq,Nat.reduceLT,Nat.reduceLeDiff,Nat.reduceShiftRight,Nat.reduceMod]
     refine ⟨by omega,by omega,?_⟩
     refine callS_of (Within_s _ _ _) ?_
     by_cases hc:0≤l[k]∧l[k]≤1000
     ·simp only [hc,vZ,Int.reduceEq,Int.reduceNe,Int.reduceLT,Int.reduceLE,Nat.reduceEqDiff,Nat.reduceAdd,reduceIte,reduceCtorEq,Nat.reduceLT,Nat.reduceLeDiff,Nat.reduceShiftRight,Nat.reduceMod]
      refine ⟨by unfold I64;omega,⟨⟨k+1,hk',okTo_succ hk' ho hc⟩,by simp only;omega,?_⟩⟩
      refine weakX [] (of_decide_eq_true rfl) (of_decide_eq_true rfl) ?_
      (simp only [vcW,vZ,Int.reduceEq,Int.reduceNe,Int.reduceLT,Int.reduceLE,Nat.reduceEqDiff,Nat.reduceAdd,reduceIte,reduceCtorEq,Nat.reduceLT,Nat.reduceLeDiff,Nat.reduceShiftRight,Nat.reduceMod])
      (repeat' first | exact trivial | (with_reducible first | exact RnB.fxB (ints_fxB _) | rfl | refine And.intro ?_ ?_) | (with_reducible (first | refine RnB.bb ?_ | refine RnB.nb ?_);simp only [vcW,vZ,Int.reduceEq,Int.reduceNe,Int.reduceLT,Int.reduceLE,Nat.reduceEqDiff,Nat.reduceAdd,reduceIte,reduceCtorEq,Nat.reduceLT,Nat.reduceLeDiff,Nat.reduceShiftRight,Nat.reduceMod]) | (with_reducible first | refine RnB.ii ?_ | refine RnB.app ?_) | (with_reducible refine RnB.fxB ?_;simp only [vcW,vZ,Int.reduceEq,Int.reduceNe,Int.reduceLT,Int.reduceLE,Nat.reduceEqDiff,Nat.reduceAdd,reduceIte,reduceCtorEq,Nat.reduceLT,Nat.reduceLeDiff,Nat.reduceShiftRight,Nat.reduceMod]) | omega)
     ·have hz:=sensE_bad l0 l6 hk' hc
      rw [hz] at hat
      rw [if_pos (by omega)] at hat
      simp only [hc,hat,vZ,Int.reduceEq,Int.reduceNe,Int.reduceLT,Int.reduceLE,Nat.reduceEqDiff,Nat.reduceAdd,reduceIte,reduceCtorEq,Nat.reduceLT,Nat.reduceLeDiff,Nat.reduceShiftRight,Nat.reduceMod]
    ·have hkl:k=l.length:=by (simp only [decide_eq_true_eq,decide_eq_false_iff_not,Bool.not_true,I64,Bool.not_eq_true',Bool.not_eq_false',bne_iff_ne,beq_iff_eq,ne_eq] at *;omega)
     cases hkl
     have hz:=sensE_all l0 l6 ho
     simp only [vZ,Int.reduceEq,Int.reduceNe,Int.reduceLT,Int.reduceLE,Nat.reduceEqDiff,Nat.reduceAdd,reduceIte,reduceCtorEq,Nat.reduceLT,Nat.reduceLeDiff,Nat.reduceShiftRight,Nat.reduceMod]
     refine ⟨by unfold I64;omega,⟨⟨i+1,h',hnx hz⟩,by simp only;omega,?_⟩⟩
     refine weakX [] (of_decide_eq_true rfl) (of_decide_eq_true rfl) ?_
     (simp only [vcW,vZ,Int.reduceEq,Int.reduceNe,Int.reduceLT,Int.reduceLE,Nat.reduceEqDiff,Nat.reduceAdd,reduceIte,reduceCtorEq,Nat.reduceLT,Nat.reduceLeDiff,Nat.reduceShiftRight,Nat.reduceMod])
     (repeat' first | exact trivial | (with_reducible first | exact RnB.fxB (ints_fxB _) | rfl | refine And.intro ?_ ?_) | (with_reducible (first | refine RnB.bb ?_ | refine RnB.nb ?_);simp only [vcW,vZ,Int.reduceEq,Int.reduceNe,Int.reduceLT,Int.reduceLE,Nat.reduceEqDiff,Nat.reduceAdd,reduceIte,reduceCtorEq,Nat.reduceLT,Nat.reduceLeDiff,Nat.reduceShiftRight,Nat.reduceMod]) | (with_reducible first | refine RnB.ii ?_ | refine RnB.app ?_) | (with_reducible refine RnB.fxB ?_;simp only [vcW,vZ,Int.reduceEq,Int.reduceNe,Int.reduceLT,Int.reduceLE,Nat.reduceEqDiff,Nat.reduceAdd,reduceIte,reduceCtorEq,Nat.reduceLT,Nat.reduceLeDiff,Nat.reduceShiftRight,Nat.reduceMod]) | omega)
  ·have hi':i=s.length:=by (simp only [decide_eq_true_eq,decide_eq_false_iff_not,Bool.not_true,I64,Bool.not_eq_true',Bool.not_eq_false',bne_iff_ne,beq_iff_eq,ne_eq] at *;omega)
   cases hi'
   simp only [vZ,Int.reduceEq,Int.reduceNe,Int.reduceLT,Int.reduceLE,Nat.reduceEqDiff,Nat.reduceAdd,reduceIte,reduceCtorEq,Nat.reduceLT,Nat.reduceLeDiff,Nat.reduceShiftRight,Nat.reduceMod]
   rw [skyI_at s s.length 0 hn (Nat.le_refl _)]
   simp [skyI]
end Go.Proofs.YtpaklfjlbocfcaaGreatDoor

/- Contracts: light skies. By an AI agent;nothing here is trusted. -/
namespace Go.Proofs.YtpaklfjlbocfcaaGreatDoor
open Go.Av

theorem SkyErr_s (s:List (List Int)) (hs:s.length<4000000000000000000) (hl:∀ l ∈ s,l.length<4000000000000000000) :
  Sound Tryz.prog 20 [skyA s] (.int .i64 (skyE s).2):=by
 refine sound_W f_ref08_SkyErr (Nat.le_of_ble_eq_true rfl) ?_
 simp only [c_ref08_SkyErr,skyA,vZ,Int.reduceEq,Int.reduceNe,Int.reduceLT,Int.reduceLE,Nat.reduceEqDiff,Nat.reduceAdd,reduceIte,reduceCtorEq,Nat.reduceLT,Nat.reduceLeDiff,Nat.reduceShiftRight,Nat.reduceMod]
 refine callS_of (refCheckSky_s s hs hl) ?_
 simp only [vZ,Int.reduceEq,Int.reduceNe,Int.reduceLT,Int.reduceLE,Nat.reduceEqDiff,Nat.reduceAdd,reduceIte,reduceCtorEq,Nat.reduceLT,Nat.reduceLeDiff,Nat.reduceShiftRight,Nat.reduceMod]

end Go.Proofs.YtpaklfjlbocfcaaGreatDoor

/- Contracts of the reference: rules,excesses,alarms. By an AI agent;nothing here is trusted. -/
namespace Go.Proofs.YtpaklfjlbocfcaaGreatDoor
open Go.Av

theorem RuleErr_s (r:Rule):Sound Tryz.prog 19 [r.av] (.int .i64 (ruleE r)):=by
 refine sound_W f_ref08_RuleErr (Nat.le_of_ble_eq_true rfl) ?_
 simp only [c_ref08_RuleErr,Rule.av,vcC,Int.reduceEq,Int.reduceNe,Int.reduceLT,Int.reduceLE,Nat.reduceEqDiff,Nat.reduceAdd,reduceIte,reduceCtorEq,Nat.reduceLT,Nat.reduceLeDiff,eq_self,vcP]
 repeat' first | (refine callS_of (Within_s _ _ _) ?_;simp only [vcC,Int.reduceEq,Int.reduceNe,Int.reduceLT,Int.reduceLE,Nat.reduceEqDiff,Nat.reduceAdd,reduceIte,reduceCtorEq,Nat.reduceLT,Nat.reduceLeDiff,eq_self,vcP]) | (refine brB_split (fun h=>?_) (fun h=>?_) <;> simp only [h,vcC,Int.reduceEq,Int.reduceNe,Int.reduceLT,Int.reduceLE,Nat.reduceEqDiff,Nat.reduceAdd,reduceIte,reduceCtorEq,Nat.reduceLT,Nat.reduceLeDiff,eq_self,vcP]) | (refine And.intro ?_ ?_)
 all_goals (congr 1;simp only [ruleE,Rule.ok];simp only [decide_eq_true_eq,Bool.not_eq_true',Bool.not_true,Bool.not_false,Bool.not_eq_false',decide_eq_false_iff_not] at *;simp [*])

end Go.Proofs.YtpaklfjlbocfcaaGreatDoor

/- Contracts: the reference's numbers,rules and skies of strings. By an AI agent;nothing here is trusted. -/
namespace Go.Proofs.YtpaklfjlbocfcaaGreatDoor
open Go.Av

theorem seven_I {w:List UInt8} {n:Int} {k:Nat} (hk:k≤18) (h:Lin.numW k w=some n) : -1000000000000000000<n∧n<1000000000000000000:=by
 obtain ⟨_,h2⟩:=Lin.itoa_numW h
 have h3:=Lin.dec_lt h2
 have h4:(10:Nat) ^ k≤10 ^ 18:=Nat.pow_le_pow_right (by omega) hk
 have h5:(10:Nat) ^ 18=1000000000000000000:=by decide
 omega
def nmV:Option (List Int)→AV
 | some l=>.tup [.sl (ints l),.bool true]
 | none=>.tup [.sl [],.bool false]
theorem numbers_s (ws:List (List UInt8)) (hw:ws.length≤100001) (hl:∀ w ∈ ws,w.length≤100000):Sound Tryz.prog 82 [.sl (strs ws)] (nmV (Lin.nums false 7 ws)):=by
 refine sound_W f_ref08_numbers (Nat.le_of_ble_eq_true rfl) ?_
 have hmax:=maxLen_str
 have t0:(0:Int).toNat=0:=rfl
 simp only [c_ref08_numbers,vZ,Int.reduceEq,Int.reduceNe,Int.reduceLT,Int.reduceLE,Nat.reduceEqDiff,Nat.reduceAdd,reduceIte,reduceCtorEq,Nat.reduceLT,Nat.reduceLeDiff,Nat.reduceShiftRight,Nat.reduceMod]
 refine W_loop (t:=.mk) (α:=PSigma fun p:Nat × List Int=>p.1≤ws.length∧Lin.nums false 7 (ws.take p.1)=some p.2) (fun ⟨p,_⟩=>(envOf [(0,.sl (strs ws)),(4,.buf 100 p.2.length),(5,.int .i64 p.1)],stOf [(100,⟨3,1,ints p.2⟩)])) (fun p=>ws.length - p.1.1) ⟨(0,[]),Nat.zero_le _,rfl⟩ ?_ (fun ⟨⟨i,l⟩,hi,hn⟩=>?_)
 ·refine weakX [(100,none)] (of_decide_eq_true rfl) (of_decide_eq_true rfl) ?_
  (simp only [vcW,vZ,Int.reduceEq,Int.reduceNe,Int.reduceLT,Int.reduceLE,Nat.reduceEqDiff,Nat.reduceAdd,reduceIte,reduceCtorEq,Nat.reduceLT,Nat.reduceLeDiff,Nat.reduceShiftRight,Nat.reduceMod])
  (repeat' first | exact trivial | (with_reducible first | exact RnB.fxB (ints_fxB _) | rfl | refine And.intro ?_ ?_) | (with_reducible (first | refine RnB.bb ?_ | refine RnB.nb ?_);simp only [vcW,vZ,Int.reduceEq,Int.reduceNe,Int.reduceLT,Int.reduceLE,Nat.reduceEqDiff,Nat.reduceAdd,reduceIte,reduceCtorEq,Nat.reduceLT,Nat.reduceLeDiff,Nat.reduceShiftRight,Nat.reduceMod]) | (with_reducible first | refine RnB.ii ?_ | refine RnB.app ?_) | (with_reducible refine RnB.fxB ?_;simp only [vcW,vZ,Int.reduceEq,Int.reduceNe,Int.reduceLT,Int.reduceLE,Nat.reduceEqDiff,Nat.reduceAdd,reduceIte,reduceCtorEq,Nat.reduceLT,Nat.reduceLeDiff,Nat.reduceShiftRight,Nat.reduceMod]) | omega)
  all_goals first | rfl | trace_state
 ·dsimp only at hi hn ⊢
  have hll:=Lin.nums_len hn
  rw [List.length_take] at hll
  by_cases h':i<ws.length
  ·have hc1:(i:Int)<ws.length:=by omega
   have hg:=strs_get ws i h'
   have hlw:=hl _ (List.getElem_mem h')
   have hN:=Number_s ws[i] 7 (by decide) hlw
   have hdr:ws=ws.take i ++ ws[i] :: ws.drop (i+1):=by rw [← List.drop_eq_getElem_cons h',List.take_append_drop]
   have hno:Lin.numU false 7 ws[i]=none→Lin.nums false 7 ws=none:=fun h=>by
    conv=>lhs;rw [hdr]
    exact Lin.nums_none h _ _
   have hyes:∀ n,Lin.numU false 7 ws[i]=some n→Lin.nums false 7 (ws.take (i+1))=some (l ++ [n]):=fun n h=>by
    rw [List.take_succ_eq_append_getElem h']
    exact Lin.nums_snoc hn h
   simp only [hc1,hg,strs_length,vZ,Int.reduceEq,Int.reduceNe,Int.reduceLT,Int.reduceLE,Nat.reduceEqDiff,Nat.reduceAdd,reduceIte,reduceCtorEq,Nat.reduceLT,Nat.reduceLeDiff,Nat.reduceShiftRight,Nat.reduceMod]
   refine ⟨by omega,callS_of hN ?_⟩
   cases hw:Lin.numW 7 ws[i] with
   | none =>
    have hu:Lin.numU false 7 ws[i]=none:=by
     unfold Lin.numU;split
     ·rfl
     ·exact hw
    rw [hno hu]
    simp only [numV,nmV,vZ,Int.reduceEq,Int.reduceNe,Int.reduceLT,Int.reduceLE,Nat.reduceEqDiff,Nat.reduceAdd,reduceIte,reduceCtorEq,Nat.reduceLT,Nat.reduceLeDiff,Nat.reduceShiftRight,Nat.reduceMod]
   | some n =>
    have h7:=seven_I (by decide) hw
    obtain ⟨c,hc⟩:∃ c,ws[i][0]?=some c:=by
     rcases hz:ws[i] with _ | ⟨c,r⟩
     ·rw [hz] at hw;cases hw
     ·exact ⟨c,rfl⟩
    have hhead:ws[i].head?=some c:=by rw [← hc];cases ws[i] <;> rfl
    by_cases h45:c=45
    ·have hci:((c.toNat:Nat):Int)=45:=by rw [h45];rfl
     have hu:Lin.numU false 7 ws[i]=none:=by
      unfold Lin.numU;rw [if_pos ⟨by rw [hhead,h45],rfl⟩]
     rw [hno hu]
     simp only [numV,nmV,hg,t0,hc,hci,vZ,Int.reduceEq,Int.reduceNe,Int.reduceLT,Int.reduceLE,Nat.reduceEqDiff,Nat.reduceAdd,reduceIte,reduceCtorEq,Nat.reduceLT,Nat.reduceLeDiff,Nat.reduceShiftRight,Nat.reduceMod]
     omega
    ·have hci:¬ ((c.toNat:Nat):Int)=45:=fun h=>h45 (UInt8.toNat_inj.1 (by have:(45:UInt8).toNat=45:=(by decide);omega))
     have hu:Lin.numU false 7 ws[i]=some n:=by
      unfold Lin.numU;rw [if_neg (by rw [hhead];rintro ⟨h,_⟩;exact h45 (by simpa using h)),hw]
     have hnx:=hyes n hu
     simp only [numV,nmV,hg,t0,hc,hci,vZ,Int.reduceEq,Int.reduceNe,Int.reduceLT,Int.reduceLE,Nat.reduceEqDiff,Nat.reduceAdd,reduceIte,reduceCtorEq,Nat.reduceLT,Nat.reduceLeDiff,Nat.reduceShiftRight,Nat.reduceMod]
     refine ⟨by omega,⟨by omega,by omega⟩,by unfold I64;omega,⟨(i+1,l ++ [n]),h',hnx⟩,by (try simp only);omega,?_⟩
     simp only
     rw [ints_append,show (l ++ [n]).length=l.length+1 by simp]
     refine weakX [(100,some 35)] (of_decide_eq_true rfl) (of_decide_eq_true rfl) ?_
     (simp only [vcW,vZ,Int.reduceEq,Int.reduceNe,Int.reduceLT,Int.reduceLE,Nat.reduceEqDiff,Nat.reduceAdd,reduceIte,reduceCtorEq,Nat.reduceLT,Nat.reduceLeDiff,Nat.reduceShiftRight,Nat.reduceMod])
     (repeat' first | exact trivial | (with_reducible first | exact RnB.fxB (ints_fxB _) | rfl | refine And.intro ?_ ?_) | (with_reducible (first | refine RnB.bb ?_ | refine RnB.nb ?_);simp only [vcW,vZ,Int.reduceEq,Int.reduceNe,Int.reduceLT,Int.reduceLE,Nat.reduceEqDiff,Nat.reduceAdd,reduceIte,reduceCtorEq,Nat.reduceLT,Nat.reduceLeDiff,Nat.reduceShiftRight,Nat.reduceMod]) | (with_reducible first | refine RnB.ii ?_ | refine RnB.app ?_) | (with_reducible refine RnB.fxB ?_;simp only [vcW,vZ,Int.reduceEq,Int.reduceNe,Int.reduceLT,Int.reduceLE,Nat.reduceEqDiff,Nat.reduceAdd,reduceIte,reduceCtorEq,Nat.reduceLT,Nat.reduceLeDiff,Nat.reduceShiftRight,Nat.reduceMod]) | omega)
     all_goals first | rfl | exact (ints_append _ _).symm | trace_state
  ·have hil:i=ws.length:=by omega
   subst hil
   have hc1:¬ (ws.length:Int)<ws.length:=by omega
   rw [List.take_length] at hn
   rw [hn]
   simp only [hc1,strs_length,nmV,vZ,Int.reduceEq,Int.reduceNe,Int.reduceLT,Int.reduceLE,Nat.reduceEqDiff,Nat.reduceAdd,reduceIte,reduceCtorEq,Nat.reduceLT,Nat.reduceLeDiff,Nat.reduceShiftRight,Nat.reduceMod]
   rw [borB_good _ _ _ _ _ (by simp [ints]) (ints_fx _)]
theorem rdR_none {s:List UInt8} (h:Lin.nums false 7 (Lin.cut 32 s)=none):rdR s=(⟨0,0,0,0⟩,7):=by unfold rdR;rw [h]
theorem rdR_four {s:List UInt8} {a b c d:Int} (h:Lin.nums false 7 (Lin.cut 32 s)=some [a,b,c,d]):rdR s=if ruleE ⟨a,b,c,d⟩ ≠ 0 then (⟨0,0,0,0⟩,ruleE ⟨a,b,c,d⟩) else (⟨a,b,c,d⟩,0):=by unfold rdR;rw [h]
theorem rdR_other {s:List UInt8} {l:List Int} (h:Lin.nums false 7 (Lin.cut 32 s)=some l) (h4:¬ l.length=4):rdR s=(⟨0,0,0,0⟩,7):=by
 unfold rdR;rw [h]
 split
 ·rename_i h;cases h;simp at h4
 ·rfl
theorem refParseRule_s (s:List UInt8) (hs:s.length≤100000):Sound Tryz.prog 14 [.str s] (.tup [(rdR s).1.av,.int .i64 (rdR s).2]):=by
 refine sound_W f_ref08_ParseRule (Nat.le_of_ble_eq_true rfl) ?_
 have hnum:=Lin.cut_num 32 s
 have hC:=baseCut_s s 32 hs
 have hN:=numbers_s (Lin.cut 32 s) (by omega) (fun w hw=>Nat.le_trans (Lin.cut_len w hw) hs)
 have h32:((32:UInt8).toNat:Int)=32:=rfl
 rw [h32] at hC
 simp only [c_ref08_ParseRule,vZ,Int.reduceEq,Int.reduceNe,Int.reduceLT,Int.reduceLE,Nat.reduceEqDiff,Nat.reduceAdd,reduceIte,reduceCtorEq,Nat.reduceLT,Nat.reduceLeDiff,Nat.reduceShiftRight,Nat.reduceMod]
 refine callS_of hC ?_
 simp only [vZ,Int.reduceEq,Int.reduceNe,Int.reduceLT,Int.reduceLE,Nat.reduceEqDiff,Nat.reduceAdd,reduceIte,reduceCtorEq,Nat.reduceLT,Nat.reduceLeDiff,Nat.reduceShiftRight,Nat.reduceMod]
 refine callS_of hN ?_
 cases hn:Lin.nums false 7 (Lin.cut 32 s) with
 | none =>
  rw [rdR_none hn]
  simp only [Rule.av,nmV,vZ,Int.reduceEq,Int.reduceNe,Int.reduceLT,Int.reduceLE,Nat.reduceEqDiff,Nat.reduceAdd,reduceIte,reduceCtorEq,Nat.reduceLT,Nat.reduceLeDiff,Nat.reduceShiftRight,Nat.reduceMod]
 | some l =>
  have hll:=Lin.nums_len hn
  by_cases h4:l.length=4
  ·obtain ⟨a,b,c,d,rfl⟩:∃ a b c d,l=[a,b,c,d]:=by
    match l,h4 with
    | [a,b,c,d],_=>exact ⟨a,b,c,d,rfl⟩
   have hE:=RuleErr_s ⟨a,b,c,d⟩
   have h44:(((4:Nat):Int)=4)=True:=by simp
   have t0:(0:Int).toNat=0:=rfl
   have t1:(1:Int).toNat=1:=rfl
   have t2:(2:Int).toNat=2:=rfl
   have t3:(3:Int).toNat=3:=rfl
   have g0:(ints [a,b,c,d])[0]?=some (.int .i64 a):=rfl
   have g1:(ints [a,b,c,d])[1]?=some (.int .i64 b):=rfl
   have g2:(ints [a,b,c,d])[2]?=some (.int .i64 c):=rfl
   have g3:(ints [a,b,c,d])[3]?=some (.int .i64 d):=rfl
   rw [rdR_four hn]
   simp only [Rule.av,nmV,ints_length,List.length_cons,List.length_nil,h44,t0,t1,t2,t3,g0,g1,g2,g3,vZ,Int.reduceEq,Int.reduceNe,Int.reduceLT,Int.reduceLE,Nat.reduceEqDiff,Nat.reduceAdd,reduceIte,reduceCtorEq,Nat.reduceLT,Nat.reduceLeDiff,Nat.reduceShiftRight,Nat.reduceMod]
   refine callS_of hE ?_
   by_cases he:ruleE ⟨a,b,c,d⟩=0
   ·simp only [he,vZ,Int.reduceEq,Int.reduceNe,Int.reduceLT,Int.reduceLE,Nat.reduceEqDiff,Nat.reduceAdd,reduceIte,reduceCtorEq,Nat.reduceLT,Nat.reduceLeDiff,Nat.reduceShiftRight,Nat.reduceMod]
   ·simp only [he,vZ,Int.reduceEq,Int.reduceNe,Int.reduceLT,Int.reduceLE,Nat.reduceEqDiff,Nat.reduceAdd,reduceIte,reduceCtorEq,Nat.reduceLT,Nat.reduceLeDiff,Nat.reduceShiftRight,Nat.reduceMod]
    simp [he]
  ·have hc:¬ (l.length:Int)=4:=by omega
   rw [rdR_other hn h4]
   simp only [Rule.av,nmV,ints_length,hc,vZ,Int.reduceEq,Int.reduceNe,Int.reduceLT,Int.reduceLE,Nat.reduceEqDiff,Nat.reduceAdd,reduceIte,reduceCtorEq,Nat.reduceLT,Nat.reduceLeDiff,Nat.reduceShiftRight,Nat.reduceMod]
theorem row_ne {p:List UInt8} {l:List Int} (h:Lin.nums false 7 (Lin.cut 32 p)=some l):l.length≤p.length+1:=by
 have:=Lin.nums_len h
 have:=Lin.cut_num 32 p
 omega
theorem refParseSky_s (s:List UInt8) (hs:s.length≤100000):Sound Tryz.prog 15 [.str s] (.tup [skyA (rdS s).1,.int .i64 (rdS s).2]):=by
 refine sound_W f_ref08_ParseSky (Nat.le_of_ble_eq_true rfl) ?_
 have hmax:=maxLen_str
 have hnum:=Lin.cut_num 59 s
 have hC:=baseCut_s s 59 hs
 have h59:((59:UInt8).toNat:Int)=59:=rfl
 rw [h59] at hC
 simp only [c_ref08_ParseSky,vZ,Int.reduceEq,Int.reduceNe,Int.reduceLT,Int.reduceLE,Nat.reduceEqDiff,Nat.reduceAdd,reduceIte,reduceCtorEq,Nat.reduceLT,Nat.reduceLeDiff,Nat.reduceShiftRight,Nat.reduceMod]
 by_cases hbig:60000<s.length
 ·have hb':(60000:Int)<s.length:=by omega
  have hr:rdS s=([],8):=by unfold rdS;rw [if_pos hbig]
  simp only [hb',hr,skyA,vZ,Int.reduceEq,Int.reduceNe,Int.reduceLT,Int.reduceLE,Nat.reduceEqDiff,Nat.reduceAdd,reduceIte,reduceCtorEq,Nat.reduceLT,Nat.reduceLeDiff,Nat.reduceShiftRight,Nat.reduceMod]
  rfl
 have hb':¬ (60000:Int)<s.length:=by omega
 simp only [hb',vZ,Int.reduceEq,Int.reduceNe,Int.reduceLT,Int.reduceLE,Nat.reduceEqDiff,Nat.reduceAdd,reduceIte,reduceCtorEq,Nat.reduceLT,Nat.reduceLeDiff,Nat.reduceShiftRight,Nat.reduceMod]
 refine callS_of hC ?_
 simp only [vZ,Int.reduceEq,Int.reduceNe,Int.reduceLT,Int.reduceLE,Nat.reduceEqDiff,Nat.reduceAdd,reduceIte,reduceCtorEq,Nat.reduceLT,Nat.reduceLeDiff,Nat.reduceShiftRight,Nat.reduceMod]
 refine W_loop (t:=.mk) (α:=PSigma fun p:Nat × List (List Int)=>p.1≤(Lin.cut 59 s).length∧rowsP ((Lin.cut 59 s).take p.1)=some p.2) (fun ⟨p,_⟩=>(envOf [(2,.ptr 2 0 0),(4,.sl (strs (Lin.cut 59 s))),(5,.ptr 5 0 0),(6,.int .i64 p.1)],stOf [(2,⟨26,1,[.agg [.nils]]⟩),(5,⟨26,1,[.agg [.buf 100 p.2.length]]⟩),(100,⟨45,1,skyL p.2⟩)])) (fun p=>(Lin.cut 59 s).length - p.1.1) ⟨(0,[]),Nat.zero_le _,rfl⟩ ?_ (fun ⟨⟨i,R⟩,hi,hR⟩=>?_)
 ·refine weakX [(100,none)] (of_decide_eq_true rfl) (of_decide_eq_true rfl) ?_
  (simp only [vcW,vZ,Int.reduceEq,Int.reduceNe,Int.reduceLT,Int.reduceLE,Nat.reduceEqDiff,Nat.reduceAdd,reduceIte,reduceCtorEq,Nat.reduceLT,Nat.reduceLeDiff,Nat.reduceShiftRight,Nat.reduceMod])
  repeat' first | exact RnB.agS rfl rfl rfl (.imm AV.nils rfl) | exact RnB.agS rfl rfl rfl (.virt 100 _ rfl rfl) | (with_reducible refine And.intro ?_ ?_)
  all_goals (repeat' first | exact trivial | (with_reducible first | exact RnB.fxB (ints_fxB _) | rfl | refine And.intro ?_ ?_) | (with_reducible (first | refine RnB.bb ?_ | refine RnB.nb ?_);simp only [vcW,vZ,Int.reduceEq,Int.reduceNe,Int.reduceLT,Int.reduceLE,Nat.reduceEqDiff,Nat.reduceAdd,reduceIte,reduceCtorEq,Nat.reduceLT,Nat.reduceLeDiff,Nat.reduceShiftRight,Nat.reduceMod]) | (with_reducible first | refine RnB.ii ?_ | refine RnB.app ?_) | (with_reducible refine RnB.fxB ?_;simp only [vcW,vZ,Int.reduceEq,Int.reduceNe,Int.reduceLT,Int.reduceLE,Nat.reduceEqDiff,Nat.reduceAdd,reduceIte,reduceCtorEq,Nat.reduceLT,Nat.reduceLeDiff,Nat.reduceShiftRight,Nat.reduceMod]) | omega)
  all_goals first | rfl | trace_state
 ·dsimp only at hi hR ⊢
  have hll:=rowsP_len hR
  rw [List.length_take] at hll
  by_cases h':i<(Lin.cut 59 s).length
  ·have hc1:(i:Int)<(Lin.cut 59 s).length:=by omega
   have hg:=strs_get (Lin.cut 59 s) i h'
   have hpl:=Lin.cut_len _ (List.getElem_mem h')
   have hC2:=baseCut_s (Lin.cut 59 s)[i] 32 (by omega)
   have h32:((32:UInt8).toNat:Int)=32:=rfl
   rw [h32] at hC2
   have hnum2:=Lin.cut_num 32 (Lin.cut 59 s)[i]
   have hN:=numbers_s (Lin.cut 32 (Lin.cut 59 s)[i]) (by omega) (fun w hw=>by have:=Lin.cut_len w hw;omega)
   have hdr:Lin.cut 59 s=(Lin.cut 59 s).take i ++ (Lin.cut 59 s)[i] :: (Lin.cut 59 s).drop (i+1):=by rw [← List.drop_eq_getElem_cons h',List.take_append_drop]
   simp only [hc1,hg,strs_length,vZ,Int.reduceEq,Int.reduceNe,Int.reduceLT,Int.reduceLE,Nat.reduceEqDiff,Nat.reduceAdd,reduceIte,reduceCtorEq,Nat.reduceLT,Nat.reduceLeDiff,Nat.reduceShiftRight,Nat.reduceMod]
   refine ⟨by omega,callS_of hC2 ?_⟩
   simp only [vZ,Int.reduceEq,Int.reduceNe,Int.reduceLT,Int.reduceLE,Nat.reduceEqDiff,Nat.reduceAdd,reduceIte,reduceCtorEq,Nat.reduceLT,Nat.reduceLeDiff,Nat.reduceShiftRight,Nat.reduceMod]
   refine callS_of hN ?_
   cases hn:Lin.nums false 7 (Lin.cut 32 (Lin.cut 59 s)[i]) with
   | none =>
    have hr:rdS s=([],7):=by
     unfold rdS;rw [if_neg hbig]
     have:rowsP (Lin.cut 59 s)=none:=by
      conv=>lhs;rw [hdr]
      exact rowsP_none hn _ _
     rw [this]
    simp only [nmV,hr,skyA,vZ,Int.reduceEq,Int.reduceNe,Int.reduceLT,Int.reduceLE,Nat.reduceEqDiff,Nat.reduceAdd,reduceIte,reduceCtorEq,Nat.reduceLT,Nat.reduceLeDiff,Nat.reduceShiftRight,Nat.reduceMod]
    first | rfl | trace_state
   | some l =>
    have hnext:rowsP ((Lin.cut 59 s).take (i+1))=some (R ++ [l]):=by
     rw [List.take_succ_eq_append_getElem h']
     exact rowsP_snoc hR hn
    simp only [nmV,skyL_length,vZ,Int.reduceEq,Int.reduceNe,Int.reduceLT,Int.reduceLE,Nat.reduceEqDiff,Nat.reduceAdd,reduceIte,reduceCtorEq,Nat.reduceLT,Nat.reduceLeDiff,Nat.reduceShiftRight,Nat.reduceMod]
    refine ⟨⟨by omega,by omega⟩,by unfold I64;omega,⟨(i+1,R ++ [l]),h',hnext⟩,by (try simp only);omega,?_⟩
    simp only
    rw [show (R ++ [l]).length=R.length+1 by simp,show skyL (R ++ [l])=skyL R ++ [.sl (ints l)] by simp [skyL]]
    refine weakX [(100,some 38)] (of_decide_eq_true rfl) (of_decide_eq_true rfl) ?_
    (simp only [vcW,vZ,Int.reduceEq,Int.reduceNe,Int.reduceLT,Int.reduceLE,Nat.reduceEqDiff,Nat.reduceAdd,reduceIte,reduceCtorEq,Nat.reduceLT,Nat.reduceLeDiff,Nat.reduceShiftRight,Nat.reduceMod])
    repeat' first | exact RnB.agS rfl rfl rfl (.imm AV.nils rfl) | exact RnB.agS rfl rfl rfl (.buf 38 100 _ rfl) | (with_reducible refine And.intro ?_ ?_)
    all_goals (repeat' first | exact trivial | (with_reducible first | exact RnB.fxB (ints_fxB _) | rfl | refine And.intro ?_ ?_) | (with_reducible (first | refine RnB.bb ?_ | refine RnB.nb ?_);simp only [vcW,vZ,Int.reduceEq,Int.reduceNe,Int.reduceLT,Int.reduceLE,Nat.reduceEqDiff,Nat.reduceAdd,reduceIte,reduceCtorEq,Nat.reduceLT,Nat.reduceLeDiff,Nat.reduceShiftRight,Nat.reduceMod]) | (with_reducible first | refine RnB.ii ?_ | refine RnB.app ?_) | (with_reducible refine RnB.fxB ?_;simp only [vcW,vZ,Int.reduceEq,Int.reduceNe,Int.reduceLT,Int.reduceLE,Nat.reduceEqDiff,Nat.reduceAdd,reduceIte,reduceCtorEq,Nat.reduceLT,Nat.reduceLeDiff,Nat.reduceShiftRight,Nat.reduceMod]) | omega)
    all_goals first | exact RnB.fxB (by rw [List.all_append,skyL_fxk];rfl) | trace_state
  ·have hil:i=(Lin.cut 59 s).length:=by omega
   have hc1:¬ (i:Int)<(Lin.cut 59 s).length:=by omega
   rw [hil,List.take_length] at hR
   have hm:=rowsP_mem hR
   have hE:=SkyErr_s R (by omega) (fun l hl=>by
    obtain ⟨w,hw,hn⟩:=hm l hl
    have h1:=row_ne hn
    have h3:=Lin.cut_len w hw
    omega)
   simp only [hc1,strs_length,vZ,Int.reduceEq,Int.reduceNe,Int.reduceLT,Int.reduceLE,Nat.reduceEqDiff,Nat.reduceAdd,reduceIte,reduceCtorEq,Nat.reduceLT,Nat.reduceLeDiff,Nat.reduceShiftRight,Nat.reduceMod]
   rw [borB_good _ _ _ _ _ (skyL_length R).symm (List.all_eq_true.1 (skyL_fxk R))]
   refine callS_of hE ?_
   by_cases he:(skyE R).2=0
   ·have hr:rdS s=(R,0):=by unfold rdS;rw [if_neg hbig,hR];simp [he]
    simp only [he,hr,skyA,vZ,Int.reduceEq,Int.reduceNe,Int.reduceLT,Int.reduceLE,Nat.reduceEqDiff,Nat.reduceAdd,reduceIte,reduceCtorEq,Nat.reduceLT,Nat.reduceLeDiff,Nat.reduceShiftRight,Nat.reduceMod]
    rw [borB_good _ _ _ _ _ (skyL_length R).symm (List.all_eq_true.1 (skyL_fxk R))]
   ·have hr:rdS s=([],(skyE R).2):=by unfold rdS;rw [if_neg hbig,hR];simp [he]
    simp only [he,hr,skyA,vZ,Int.reduceEq,Int.reduceNe,Int.reduceLT,Int.reduceLE,Nat.reduceEqDiff,Nat.reduceAdd,reduceIte,reduceCtorEq,Nat.reduceLT,Nat.reduceLeDiff,Nat.reduceShiftRight,Nat.reduceMod]
    rfl
theorem skyS_snoc (s:List (List Int)) (i:Nat) (h:i<s.length):skyS (s.take (i+1))=(if i=0 then [] else skyS (s.take i) ++ [59]) ++ rowS s[i]:=by
 unfold skyS
 rw [List.take_succ_eq_append_getElem h,List.map_append]
 by_cases h0:i=0
 ·subst h0;simp [Lib.join]
 ·rw [if_neg h0]
  obtain ⟨a,r,hr⟩:∃ a r,s.take i=a :: r:=by
   cases ht:s.take i with
   | nil=>have:=congrArg List.length ht;rw [List.length_take] at this;simp only [List.length_nil] at this;omega
   | cons a r=>exact ⟨a,r,rfl⟩
  rw [hr,List.map_cons,List.map_singleton,Lin.join_snoc];simp
theorem rowS_snoc (l:List Int) (i:Nat) (h:i<l.length):rowS (l.take (i+1))=(if i=0 then [] else rowS (l.take i) ++ [32]) ++ Lib.itoa l[i]:=by
 unfold rowS
 rw [List.take_succ_eq_append_getElem h,List.map_append]
 by_cases h0:i=0
 ·subst h0;simp [Lib.join]
 ·rw [if_neg h0]
  obtain ⟨a,r,hr⟩:∃ a r,l.take i=a :: r:=by
   cases ht:l.take i with
   | nil=>have:=congrArg List.length ht;rw [List.length_take] at this;simp only [List.length_nil] at this;omega
   | cons a r=>exact ⟨a,r,rfl⟩
  rw [hr,List.map_cons,List.map_singleton,Lin.join_snoc];simp
theorem refFormatSky_s (s:List (List Int)) (hs:s.length≤1000) (hl:∀ l ∈ s,l.length≤1000∧∀ n ∈ l,I64 n):Sound Tryz.prog 17 [skyA s] (.str (skyS s)):=by
 refine sound_W f_ref08_FormatSky (Nat.le_of_ble_eq_true rfl) ?_
 have hmax:=maxLen_str
 have hlen:∀ i,i≤s.length→(skyS (s.take i)).length≤22000 * i:=fun i hi=>by
  refine Nat.le_trans (join_le 59 21000 _ fun w hw=>?_) (by rw [List.length_map,List.length_take];omega)
  obtain ⟨l,hm,rfl⟩:=List.mem_map.1 hw
  have h1:=hl l (List.mem_of_mem_take hm)
  have:=rowS_le h1.2
  omega
 have hrow:∀ l ∈ s,∀ k,(rowS (l.take k)).length≤21000:=fun l hm k=>by
  have h1:=hl l hm
  have:=rowS_le (l:=l.take k) fun n hn=>h1.2 n (List.mem_of_mem_take hn)
  rw [List.length_take] at this
  omega
 simp only [c_ref08_FormatSky,skyA,vZ,Int.reduceEq,Int.reduceNe,Int.reduceLT,Int.reduceLE,Nat.reduceEqDiff,Nat.reduceAdd,reduceIte,reduceCtorEq,Nat.reduceLT,Nat.reduceLeDiff,Nat.reduceShiftRight,Nat.reduceMod]
 refine W_loop (t:=.mk) (α:=PSigma fun i:Nat=>i≤s.length) (fun ⟨i,_⟩=>(envOf [(1,.ptr 1 0 0),(3,.str (skyS (s.take i))),(4,.int .i64 i)],stOf [(1,⟨26,1,[.agg [.sl (skyL s)]]⟩)])) (fun p=>s.length - p.1) ⟨0,Nat.zero_le _⟩ ?_ (fun ⟨i,hi⟩=>?_)
 ·refine weakX [] (of_decide_eq_true rfl) (of_decide_eq_true rfl) ?_
  (simp only [vcW,vZ,Int.reduceEq,Int.reduceNe,Int.reduceLT,Int.reduceLE,Nat.reduceEqDiff,Nat.reduceAdd,reduceIte,reduceCtorEq,Nat.reduceLT,Nat.reduceLeDiff,Nat.reduceShiftRight,Nat.reduceMod])
  (repeat' first | exact trivial | (with_reducible first | exact RnB.fxB (ints_fxB _) | rfl | refine And.intro ?_ ?_) | (with_reducible (first | refine RnB.bb ?_ | refine RnB.nb ?_);simp only [vcW,vZ,Int.reduceEq,Int.reduceNe,Int.reduceLT,Int.reduceLE,Nat.reduceEqDiff,Nat.reduceAdd,reduceIte,reduceCtorEq,Nat.reduceLT,Nat.reduceLeDiff,Nat.reduceShiftRight,Nat.reduceMod]) | (with_reducible first | refine RnB.ii ?_ | refine RnB.app ?_) | (with_reducible refine RnB.fxB ?_;simp only [vcW,vZ,Int.reduceEq,Int.reduceNe,Int.reduceLT,Int.reduceLE,Nat.reduceEqDiff,Nat.reduceAdd,reduceIte,reduceCtorEq,Nat.reduceLT,Nat.reduceLeDiff,Nat.reduceShiftRight,Nat.reduceMod]) | omega)
  all_goals first | rfl | trace_state
 ·dsimp only at hi ⊢
  by_cases h':i<s.length
  ·have hc1:(i:Int)<s.length:=by omega
   have hg:=skyL_get s i h'
   have hL:=hlen i hi
   have hL2:=hlen (i+1) h'
   have hm:=hl _ (List.getElem_mem h')
   have hrw:=hrow _ (List.getElem_mem h')
   have hsn:=skyS_snoc s i h'
   have key:∀ pre:List UInt8,pre=(if i=0 then [] else skyS (s.take i) ++ [59])→pre.length≤22000000:=fun pre h=>by
    rw [h];split
    ·simp
    ·simp only [List.length_append,List.length_cons,List.length_nil];omega
   by_cases h0:i=0
   ·have hic:¬ (0:Int)<(i:Nat):=by omega
    simp only [hc1,hic,skyL_length,vZ,Int.reduceEq,Int.reduceNe,Int.reduceLT,Int.reduceLE,Nat.reduceEqDiff,Nat.reduceAdd,reduceIte,reduceCtorEq,Nat.reduceLT,Nat.reduceLeDiff,Nat.reduceShiftRight,Nat.reduceMod]
    have hkk:=key _ rfl
    rw [if_pos h0] at hkk hsn
    generalize hpe:([]:List UInt8)=pre at hkk hsn
    refine W_loop (t:=.mk) (α:=PSigma fun k:Nat=>k≤s[i].length) (fun ⟨k,_⟩=>(envOf [(1,.ptr 1 0 0),(3,.str (pre ++ rowS (s[i].take k))),(4,.int .i64 i),(5,.int .i64 k)],stOf [(1,⟨26,1,[.agg [.sl (skyL s)]]⟩)])) (fun p=>s[i].length - p.1) ⟨0,Nat.zero_le _⟩ ?_ (fun ⟨k,hk⟩=>?_)
    ·refine weakX [] (of_decide_eq_true rfl) (of_decide_eq_true rfl) ?_
     (simp only [vcW,vZ,Int.reduceEq,Int.reduceNe,Int.reduceLT,Int.reduceLE,Nat.reduceEqDiff,Nat.reduceAdd,reduceIte,reduceCtorEq,Nat.reduceLT,Nat.reduceLeDiff,Nat.reduceShiftRight,Nat.reduceMod])
     (repeat' first | exact trivial | (with_reducible first | exact RnB.fxB (ints_fxB _) | rfl | refine And.intro ?_ ?_) | (with_reducible (first | refine RnB.bb ?_ | refine RnB.nb ?_);simp only [vcW,vZ,Int.reduceEq,Int.reduceNe,Int.reduceLT,Int.reduceLE,Nat.reduceEqDiff,Nat.reduceAdd,reduceIte,reduceCtorEq,Nat.reduceLT,Nat.reduceLeDiff,Nat.reduceShiftRight,Nat.reduceMod]) | (with_reducible first | refine RnB.ii ?_ | refine RnB.app ?_) | (with_reducible refine RnB.fxB ?_;simp only [vcW,vZ,Int.reduceEq,Int.reduceNe,Int.reduceLT,Int.reduceLE,Nat.reduceEqDiff,Nat.reduceAdd,reduceIte,reduceCtorEq,Nat.reduceLT,Nat.reduceLeDiff,Nat.reduceShiftRight,Nat.reduceMod]) | omega)
     all_goals first | rfl | (rw [← hpe];rw [h0];rfl) | trace_state
    ·dsimp only at hk ⊢
     have hrk:=hrow _ (List.getElem_mem h') k
     have hrk1:=hrow _ (List.getElem_mem h') (k+1)
     by_cases hk':k<s[i].length
     ·have hc2:(k:Int)<s[i].length:=by omega
      have hgk:=ints_get s[i] k hk'
      have hI:=hm.2 _ (List.getElem_mem hk')
      have hit:=itoa_le hI
      have hD:=Decimal_s s[i][k] hI
      have hsk:=rowS_snoc s[i] k hk'
      by_cases hk0:k=0
      ·have hkc:¬ (0:Int)<(k:Nat):=by omega
       rw [if_pos hk0] at hsk
       have hnow:rowS (s[i].take k)=[]:=by rw [hk0];rfl
       rw [hnow]
       simp only [hg,hc2,hkc,hgk,ints_length,List.append_nil,vZ,Int.reduceEq,Int.reduceNe,Int.reduceLT,Int.reduceLE,Nat.reduceEqDiff,Nat.reduceAdd,reduceIte,reduceCtorEq,Nat.reduceLT,Nat.reduceLeDiff,Nat.reduceShiftRight,Nat.reduceMod]
       refine ⟨by omega,by omega,by omega,callS_of hD ?_⟩
       simp only [vZ,Int.reduceEq,Int.reduceNe,Int.reduceLT,Int.reduceLE,Nat.reduceEqDiff,Nat.reduceAdd,reduceIte,reduceCtorEq,Nat.reduceLT,Nat.reduceLeDiff,Nat.reduceShiftRight,Nat.reduceMod]
       refine ⟨by omega,by unfold I64;omega,⟨k+1,hk'⟩,by (try simp only);omega,?_⟩
       rw [hsk]
       refine weakX [] (of_decide_eq_true rfl) (of_decide_eq_true rfl) ?_
       (simp only [vcW,vZ,Int.reduceEq,Int.reduceNe,Int.reduceLT,Int.reduceLE,Nat.reduceEqDiff,Nat.reduceAdd,reduceIte,reduceCtorEq,Nat.reduceLT,Nat.reduceLeDiff,Nat.reduceShiftRight,Nat.reduceMod])
       (repeat' first | exact trivial | (with_reducible first | exact RnB.fxB (ints_fxB _) | rfl | refine And.intro ?_ ?_) | (with_reducible (first | refine RnB.bb ?_ | refine RnB.nb ?_);simp only [vcW,vZ,Int.reduceEq,Int.reduceNe,Int.reduceLT,Int.reduceLE,Nat.reduceEqDiff,Nat.reduceAdd,reduceIte,reduceCtorEq,Nat.reduceLT,Nat.reduceLeDiff,Nat.reduceShiftRight,Nat.reduceMod]) | (with_reducible first | refine RnB.ii ?_ | refine RnB.app ?_) | (with_reducible refine RnB.fxB ?_;simp only [vcW,vZ,Int.reduceEq,Int.reduceNe,Int.reduceLT,Int.reduceLE,Nat.reduceEqDiff,Nat.reduceAdd,reduceIte,reduceCtorEq,Nat.reduceLT,Nat.reduceLeDiff,Nat.reduceShiftRight,Nat.reduceMod]) | omega)
       all_goals first | rfl | (rw [hnow];simp) | trace_state
      ·have hkc:(0:Int)<(k:Nat):=by omega
       rw [if_neg hk0] at hsk
       simp only [hg,hc2,hkc,hgk,ints_length,vZ,Int.reduceEq,Int.reduceNe,Int.reduceLT,Int.reduceLE,Nat.reduceEqDiff,Nat.reduceAdd,reduceIte,reduceCtorEq,Nat.reduceLT,Nat.reduceLeDiff,Nat.reduceShiftRight,Nat.reduceMod]
       refine ⟨by omega,by (try simp only [List.length_append] at *);(try simp only [List.length_append]);omega,by omega,by omega,callS_of hD ?_⟩
       simp only [vZ,Int.reduceEq,Int.reduceNe,Int.reduceLT,Int.reduceLE,Nat.reduceEqDiff,Nat.reduceAdd,reduceIte,reduceCtorEq,Nat.reduceLT,Nat.reduceLeDiff,Nat.reduceShiftRight,Nat.reduceMod]
       refine ⟨by simp only [List.length_append,List.length_cons,List.length_nil];omega,by unfold I64;omega,⟨k+1,hk'⟩,by (try simp only);omega,?_⟩
       rw [hsk]
       refine weakX [] (of_decide_eq_true rfl) (of_decide_eq_true rfl) ?_
       (simp only [vcW,vZ,Int.reduceEq,Int.reduceNe,Int.reduceLT,Int.reduceLE,Nat.reduceEqDiff,Nat.reduceAdd,reduceIte,reduceCtorEq,Nat.reduceLT,Nat.reduceLeDiff,Nat.reduceShiftRight,Nat.reduceMod])
       (repeat' first | exact trivial | (with_reducible first | exact RnB.fxB (ints_fxB _) | rfl | refine And.intro ?_ ?_) | (with_reducible (first | refine RnB.bb ?_ | refine RnB.nb ?_);simp only [vcW,vZ,Int.reduceEq,Int.reduceNe,Int.reduceLT,Int.reduceLE,Nat.reduceEqDiff,Nat.reduceAdd,reduceIte,reduceCtorEq,Nat.reduceLT,Nat.reduceLeDiff,Nat.reduceShiftRight,Nat.reduceMod]) | (with_reducible first | refine RnB.ii ?_ | refine RnB.app ?_) | (with_reducible refine RnB.fxB ?_;simp only [vcW,vZ,Int.reduceEq,Int.reduceNe,Int.reduceLT,Int.reduceLE,Nat.reduceEqDiff,Nat.reduceAdd,reduceIte,reduceCtorEq,Nat.reduceLT,Nat.reduceLeDiff,Nat.reduceShiftRight,Nat.reduceMod]) | omega)
       all_goals first | rfl | (rw [← hpe];simp) | simp | trace_state
     ·have hkl:k=s[i].length:=by omega
      have hc2:¬ (k:Int)<s[i].length:=by omega
      rw [hkl,List.take_length]
      have hc3:¬ (s[i].length:Int)<s[i].length:=by omega
      simp only [hg,hc3,ints_length,vZ,Int.reduceEq,Int.reduceNe,Int.reduceLT,Int.reduceLE,Nat.reduceEqDiff,Nat.reduceAdd,reduceIte,reduceCtorEq,Nat.reduceLT,Nat.reduceLeDiff,Nat.reduceShiftRight,Nat.reduceMod]
      refine ⟨by omega,by unfold I64;omega,⟨i+1,h'⟩,by (try simp only);omega,?_⟩
      rw [hsn]
      refine weakX [] (of_decide_eq_true rfl) (of_decide_eq_true rfl) ?_
      (simp only [vcW,vZ,Int.reduceEq,Int.reduceNe,Int.reduceLT,Int.reduceLE,Nat.reduceEqDiff,Nat.reduceAdd,reduceIte,reduceCtorEq,Nat.reduceLT,Nat.reduceLeDiff,Nat.reduceShiftRight,Nat.reduceMod])
      (repeat' first | exact trivial | (with_reducible first | exact RnB.fxB (ints_fxB _) | rfl | refine And.intro ?_ ?_) | (with_reducible (first | refine RnB.bb ?_ | refine RnB.nb ?_);simp only [vcW,vZ,Int.reduceEq,Int.reduceNe,Int.reduceLT,Int.reduceLE,Nat.reduceEqDiff,Nat.reduceAdd,reduceIte,reduceCtorEq,Nat.reduceLT,Nat.reduceLeDiff,Nat.reduceShiftRight,Nat.reduceMod]) | (with_reducible first | refine RnB.ii ?_ | refine RnB.app ?_) | (with_reducible refine RnB.fxB ?_;simp only [vcW,vZ,Int.reduceEq,Int.reduceNe,Int.reduceLT,Int.reduceLE,Nat.reduceEqDiff,Nat.reduceAdd,reduceIte,reduceCtorEq,Nat.reduceLT,Nat.reduceLeDiff,Nat.reduceShiftRight,Nat.reduceMod]) | omega)
      all_goals first | rfl | (rw [← hpe];simp) | simp | trace_state
   ·have hic:(0:Int)<(i:Nat):=by omega
    simp only [hc1,hic,skyL_length,vZ,Int.reduceEq,Int.reduceNe,Int.reduceLT,Int.reduceLE,Nat.reduceEqDiff,Nat.reduceAdd,reduceIte,reduceCtorEq,Nat.reduceLT,Nat.reduceLeDiff,Nat.reduceShiftRight,Nat.reduceMod]
    refine ⟨by omega,?_⟩
    have hkk:=key _ rfl
    rw [if_neg h0] at hkk hsn
    generalize hpe:skyS (s.take i) ++ [59]=pre at hkk hsn
    refine W_loop (t:=.mk) (α:=PSigma fun k:Nat=>k≤s[i].length) (fun ⟨k,_⟩=>(envOf [(1,.ptr 1 0 0),(3,.str (pre ++ rowS (s[i].take k))),(4,.int .i64 i),(5,.int .i64 k)],stOf [(1,⟨26,1,[.agg [.sl (skyL s)]]⟩)])) (fun p=>s[i].length - p.1) ⟨0,Nat.zero_le _⟩ ?_ (fun ⟨k,hk⟩=>?_)
    ·refine weakX [] (of_decide_eq_true rfl) (of_decide_eq_true rfl) ?_
     (simp only [vcW,vZ,Int.reduceEq,Int.reduceNe,Int.reduceLT,Int.reduceLE,Nat.reduceEqDiff,Nat.reduceAdd,reduceIte,reduceCtorEq,Nat.reduceLT,Nat.reduceLeDiff,Nat.reduceShiftRight,Nat.reduceMod])
     (repeat' first | exact trivial | (with_reducible first | exact RnB.fxB (ints_fxB _) | rfl | refine And.intro ?_ ?_) | (with_reducible (first | refine RnB.bb ?_ | refine RnB.nb ?_);simp only [vcW,vZ,Int.reduceEq,Int.reduceNe,Int.reduceLT,Int.reduceLE,Nat.reduceEqDiff,Nat.reduceAdd,reduceIte,reduceCtorEq,Nat.reduceLT,Nat.reduceLeDiff,Nat.reduceShiftRight,Nat.reduceMod]) | (with_reducible first | refine RnB.ii ?_ | refine RnB.app ?_) | (with_reducible refine RnB.fxB ?_;simp only [vcW,vZ,Int.reduceEq,Int.reduceNe,Int.reduceLT,Int.reduceLE,Nat.reduceEqDiff,Nat.reduceAdd,reduceIte,reduceCtorEq,Nat.reduceLT,Nat.reduceLeDiff,Nat.reduceShiftRight,Nat.reduceMod]) | omega)
     all_goals first | rfl | (rw [← hpe];exact (List.append_nil _).symm) | trace_state
    ·dsimp only at hk ⊢
     have hrk:=hrow _ (List.getElem_mem h') k
     have hrk1:=hrow _ (List.getElem_mem h') (k+1)
     by_cases hk':k<s[i].length
     ·have hc2:(k:Int)<s[i].length:=by omega
      have hgk:=ints_get s[i] k hk'
      have hI:=hm.2 _ (List.getElem_mem hk')
      have hit:=itoa_le hI
      have hD:=Decimal_s s[i][k] hI
      have hsk:=rowS_snoc s[i] k hk'
      by_cases hk0:k=0
      ·have hkc:¬ (0:Int)<(k:Nat):=by omega
       rw [if_pos hk0] at hsk
       have hnow:rowS (s[i].take k)=[]:=by rw [hk0];rfl
       rw [hnow]
       simp only [hg,hc2,hkc,hgk,ints_length,List.append_nil,vZ,Int.reduceEq,Int.reduceNe,Int.reduceLT,Int.reduceLE,Nat.reduceEqDiff,Nat.reduceAdd,reduceIte,reduceCtorEq,Nat.reduceLT,Nat.reduceLeDiff,Nat.reduceShiftRight,Nat.reduceMod]
       refine ⟨by omega,by omega,by omega,callS_of hD ?_⟩
       simp only [vZ,Int.reduceEq,Int.reduceNe,Int.reduceLT,Int.reduceLE,Nat.reduceEqDiff,Nat.reduceAdd,reduceIte,reduceCtorEq,Nat.reduceLT,Nat.reduceLeDiff,Nat.reduceShiftRight,Nat.reduceMod]
       refine ⟨by omega,by unfold I64;omega,⟨k+1,hk'⟩,by (try simp only);omega,?_⟩
       rw [hsk]
       refine weakX [] (of_decide_eq_true rfl) (of_decide_eq_true rfl) ?_
       (simp only [vcW,vZ,Int.reduceEq,Int.reduceNe,Int.reduceLT,Int.reduceLE,Nat.reduceEqDiff,Nat.reduceAdd,reduceIte,reduceCtorEq,Nat.reduceLT,Nat.reduceLeDiff,Nat.reduceShiftRight,Nat.reduceMod])
       (repeat' first | exact trivial | (with_reducible first | exact RnB.fxB (ints_fxB _) | rfl | refine And.intro ?_ ?_) | (with_reducible (first | refine RnB.bb ?_ | refine RnB.nb ?_);simp only [vcW,vZ,Int.reduceEq,Int.reduceNe,Int.reduceLT,Int.reduceLE,Nat.reduceEqDiff,Nat.reduceAdd,reduceIte,reduceCtorEq,Nat.reduceLT,Nat.reduceLeDiff,Nat.reduceShiftRight,Nat.reduceMod]) | (with_reducible first | refine RnB.ii ?_ | refine RnB.app ?_) | (with_reducible refine RnB.fxB ?_;simp only [vcW,vZ,Int.reduceEq,Int.reduceNe,Int.reduceLT,Int.reduceLE,Nat.reduceEqDiff,Nat.reduceAdd,reduceIte,reduceCtorEq,Nat.reduceLT,Nat.reduceLeDiff,Nat.reduceShiftRight,Nat.reduceMod]) | omega)
       all_goals first | rfl | (rw [hnow];simp) | trace_state
      ·have hkc:(0:Int)<(k:Nat):=by omega
       rw [if_neg hk0] at hsk
       simp only [hg,hc2,hkc,hgk,ints_length,vZ,Int.reduceEq,Int.reduceNe,Int.reduceLT,Int.reduceLE,Nat.reduceEqDiff,Nat.reduceAdd,reduceIte,reduceCtorEq,Nat.reduceLT,Nat.reduceLeDiff,Nat.reduceShiftRight,Nat.reduceMod]
       refine ⟨by omega,by (try simp only [List.length_append] at *);(try simp only [List.length_append]);omega,by omega,by omega,callS_of hD ?_⟩
       simp only [vZ,Int.reduceEq,Int.reduceNe,Int.reduceLT,Int.reduceLE,Nat.reduceEqDiff,Nat.reduceAdd,reduceIte,reduceCtorEq,Nat.reduceLT,Nat.reduceLeDiff,Nat.reduceShiftRight,Nat.reduceMod]
       refine ⟨by simp only [List.length_append,List.length_cons,List.length_nil];omega,by unfold I64;omega,⟨k+1,hk'⟩,by (try simp only);omega,?_⟩
       rw [hsk]
       refine weakX [] (of_decide_eq_true rfl) (of_decide_eq_true rfl) ?_
       (simp only [vcW,vZ,Int.reduceEq,Int.reduceNe,Int.reduceLT,Int.reduceLE,Nat.reduceEqDiff,Nat.reduceAdd,reduceIte,reduceCtorEq,Nat.reduceLT,Nat.reduceLeDiff,Nat.reduceShiftRight,Nat.reduceMod])
       (repeat' first | exact trivial | (with_reducible first | exact RnB.fxB (ints_fxB _) | rfl | refine And.intro ?_ ?_) | (with_reducible (first | refine RnB.bb ?_ | refine RnB.nb ?_);simp only [vcW,vZ,Int.reduceEq,Int.reduceNe,Int.reduceLT,Int.reduceLE,Nat.reduceEqDiff,Nat.reduceAdd,reduceIte,reduceCtorEq,Nat.reduceLT,Nat.reduceLeDiff,Nat.reduceShiftRight,Nat.reduceMod]) | (with_reducible first | refine RnB.ii ?_ | refine RnB.app ?_) | (with_reducible refine RnB.fxB ?_;simp only [vcW,vZ,Int.reduceEq,Int.reduceNe,Int.reduceLT,Int.reduceLE,Nat.reduceEqDiff,Nat.reduceAdd,reduceIte,reduceCtorEq,Nat.reduceLT,Nat.reduceLeDiff,Nat.reduceShiftRight,Nat.reduceMod]) | omega)
       all_goals first | rfl | (rw [← hpe];simp) | simp | trace_state
     ·have hkl:k=s[i].length:=by omega
      have hc2:¬ (k:Int)<s[i].length:=by omega
      rw [hkl,List.take_length]
      have hc3:¬ (s[i].length:Int)<s[i].length:=by omega
      simp only [hg,hc3,ints_length,vZ,Int.reduceEq,Int.reduceNe,Int.reduceLT,Int.reduceLE,Nat.reduceEqDiff,Nat.reduceAdd,reduceIte,reduceCtorEq,Nat.reduceLT,Nat.reduceLeDiff,Nat.reduceShiftRight,Nat.reduceMod]
      refine ⟨by omega,by unfold I64;omega,⟨i+1,h'⟩,by (try simp only);omega,?_⟩
      rw [hsn]
      refine weakX [] (of_decide_eq_true rfl) (of_decide_eq_true rfl) ?_
      (simp only [vcW,vZ,Int.reduceEq,Int.reduceNe,Int.reduceLT,Int.reduceLE,Nat.reduceEqDiff,Nat.reduceAdd,reduceIte,reduceCtorEq,Nat.reduceLT,Nat.reduceLeDiff,Nat.reduceShiftRight,Nat.reduceMod])
      (repeat' first | exact trivial | (with_reducible first | exact RnB.fxB (ints_fxB _) | rfl | refine And.intro ?_ ?_) | (with_reducible (first | refine RnB.bb ?_ | refine RnB.nb ?_);simp only [vcW,vZ,Int.reduceEq,Int.reduceNe,Int.reduceLT,Int.reduceLE,Nat.reduceEqDiff,Nat.reduceAdd,reduceIte,reduceCtorEq,Nat.reduceLT,Nat.reduceLeDiff,Nat.reduceShiftRight,Nat.reduceMod]) | (with_reducible first | refine RnB.ii ?_ | refine RnB.app ?_) | (with_reducible refine RnB.fxB ?_;simp only [vcW,vZ,Int.reduceEq,Int.reduceNe,Int.reduceLT,Int.reduceLE,Nat.reduceEqDiff,Nat.reduceAdd,reduceIte,reduceCtorEq,Nat.reduceLT,Nat.reduceLeDiff,Nat.reduceShiftRight,Nat.reduceMod]) | omega)
      all_goals first | rfl | (rw [← hpe];simp) | simp | trace_state
  ·have hil:i=s.length:=by omega
   subst hil
   have hc1:¬ (s.length:Int)<s.length:=by omega
   rw [List.take_length] at *
   simp only [hc1,skyL_length,vZ,Int.reduceEq,Int.reduceNe,Int.reduceLT,Int.reduceLE,Nat.reduceEqDiff,Nat.reduceAdd,reduceIte,reduceCtorEq,Nat.reduceLT,Nat.reduceLeDiff,Nat.reduceShiftRight,Nat.reduceMod]
end Go.Proofs.YtpaklfjlbocfcaaGreatDoor

/- Contracts: a sky copied. By an AI agent;nothing here is trusted. -/
namespace Go.Proofs.YtpaklfjlbocfcaaGreatDoor
open Go.Av

theorem skyL_append (s u:List (List Int)):skyL (s ++ u)=skyL s ++ skyL u:=by simp [skyL]
theorem skyL_succ (s:List (List Int)) (i:Nat) (h:i<s.length):skyL (s.take (i+1))=skyL (s.take i) ++ [.sl (ints s[i])]:=by
 rw [List.take_succ_eq_append_getElem h,skyL_append];rfl
theorem skyL_fxB (s:List (List Int)):(skyL s).all Go.Av.fx=true:=List.all_eq_true.2 fun x hx=>by
 obtain ⟨l,_,rfl⟩:=List.mem_map.1 hx
 rfl
theorem RnB.agg1 {s s':Store} {f:Nat→Option Nat} {ty sz:Nat} {c c':AV} (e:cellsOf (.agg [c])=[c]) (e':cellsOf (.agg [c'])=[c']) (hc:cell c'=true) (h:vR s' f c c') :
  RnB s s' f ⟨ty,sz,[.agg [c]]⟩ ⟨ty,sz,[.agg [c']]⟩:=by
 refine ⟨rfl,rfl,rfl,fun i x x' h1 h2=>?_⟩
 cases i with
 | zero =>
  simp at h1 h2;subst h1;subst h2
  refine ⟨by rw [e,e'];rfl,fun d hd=>by rw [e'] at hd;simp at hd;subst hd;exact hc,fun o d d' k3 k4=>?_⟩
  rw [e] at k3;rw [e'] at k4
  cases o with
  | zero=>simp at k3 k4;subst k3;subst k4;exact vR_rn h
  | succ o=>simp at k3
 | succ i=>simp at h1

theorem RnB.nilA {s s':Store} {f:Nat→Option Nat} {ty sz:Nat}:RnB s s' f ⟨ty,sz,[.agg [.nils]]⟩ ⟨ty,sz,[.agg [.nils]]⟩:=RnB.same fun x hx=>by
 simp at hx;subst hx;rfl
set_option maxHeartbeats 4000000 in
theorem CopySky_s (s:List (List Int)) (hs:s.length≤1000000000) (hl:∀ l ∈ s,l.length≤1000000000) :
  Sound Tryz.prog 11 [skyA s] (skyA s):=by
 refine sound_W f_ref08_CopySky (Nat.le_of_ble_eq_true rfl) ?_
 simp only [c_ref08_CopySky,skyA,vZ,Int.reduceEq,Int.reduceNe,Int.reduceLT,Int.reduceLE,Nat.reduceEqDiff,Nat.reduceAdd,reduceIte,reduceCtorEq,Nat.reduceLT,Nat.reduceLeDiff,Nat.reduceShiftRight,Nat.reduceMod]
 have hmax:=maxLen_big
 have h0:skyL (s.take 0)=[]:=rfl
 have hlen:∀ i,i≤s.length→(skyL (s.take i)).length=i:=fun i hi=>by rw [skyL_length,List.length_take,Nat.min_eq_left hi]
 refine W_loop (t:=.mk) (α:=PSigma fun i:Nat=>i≤s.length∧(True)) (fun ⟨i,_⟩=>((envOf [(1,.ptr 1 0 0),(2,.ptr 2 0 0),(3,.ptr 3 0 0),(4,.int .i64 i)],stOf [(1,⟨26,1,[.agg [.sl (skyL s)]]⟩),(2,⟨26,1,[.agg [.nils]]⟩),(3,⟨26,1,[.agg [.buf 100 i]]⟩),(100,⟨45,1,skyL (s.take i)⟩)]))) (fun i=>s.length - i.1) ⟨0,Nat.zero_le _,?_⟩ ?_ (fun ⟨i,hi,hn⟩=>?_)
 ·trivial
 ·refine weakX [(100,none)] (of_decide_eq_true rfl) (of_decide_eq_true rfl) ?_
  (simp only [h0,vcW,vZ,Int.reduceEq,Int.reduceNe,Int.reduceLT,Int.reduceLE,Nat.reduceEqDiff,Nat.reduceAdd,reduceIte,reduceCtorEq,Nat.reduceLT,Nat.reduceLeDiff,Nat.reduceShiftRight,Nat.reduceMod])
  refine ⟨rfl,RnB.fxB rfl,RnB.nilA,RnB.agg1 rfl rfl rfl ⟨rfl,rfl,_,rfl⟩,rfl⟩
 ·simp only [skyL_length,vZ,Int.reduceEq,Int.reduceNe,Int.reduceLT,Int.reduceLE,Nat.reduceEqDiff,Nat.reduceAdd,reduceIte,reduceCtorEq,Nat.reduceLT,Nat.reduceLeDiff,Nat.reduceShiftRight,Nat.reduceMod]
  refine brB_split (fun h=>?_) (fun h=>?_)
  ·have h':i<s.length:=by (simp only [decide_eq_true_eq,decide_eq_false_iff_not,Bool.not_true,I64,Bool.not_eq_true',Bool.not_eq_false',bne_iff_ne,beq_iff_eq,ne_eq] at *;omega)
   clear h
   have hg:=skyL_get s i h'
   have hll:=hl _ (List.getElem_mem h')
   have hi1:=hlen i hi
   have hsu:=skyL_succ s i h'
   simp only [hg,vZ,Int.reduceEq,Int.reduceNe,Int.reduceLT,Int.reduceLE,Nat.reduceEqDiff,Nat.reduceAdd,reduceIte,reduceCtorEq,Nat.reduceLT,Nat.reduceLeDiff,Nat.reduceShiftRight,Nat.reduceMod]
   refine ⟨by omega,?_⟩
   refine callS_of (CopyInts_s s[i] hll) ?_
   simp only [hi1,vZ,Int.reduceEq,Int.reduceNe,Int.reduceLT,Int.reduceLE,Nat.reduceEqDiff,Nat.reduceAdd,reduceIte,reduceCtorEq,Nat.reduceLT,Nat.reduceLeDiff,Nat.reduceShiftRight,Nat.reduceMod]
   refine ⟨⟨by omega,by omega⟩,by unfold I64;omega,⟨⟨i+1,h',trivial⟩,by simp only;omega,?_⟩⟩
   refine weakX [(100,some 21)] (of_decide_eq_true rfl) (of_decide_eq_true rfl) ?_
   (simp only [hsu,vcW,vZ,Int.reduceEq,Int.reduceNe,Int.reduceLT,Int.reduceLE,Nat.reduceEqDiff,Nat.reduceAdd,reduceIte,reduceCtorEq,Nat.reduceLT,Nat.reduceLeDiff,Nat.reduceShiftRight,Nat.reduceMod])
   refine ⟨by omega,RnB.fxB rfl,RnB.nilA,RnB.agg1 rfl rfl rfl ⟨rfl,rfl⟩,RnB.eq rfl ?_⟩
   rw [List.all_append,skyL_fxB];rfl
  ·have hi':i=s.length:=by (simp only [decide_eq_true_eq,decide_eq_false_iff_not,Bool.not_true,I64,Bool.not_eq_true',Bool.not_eq_false',bne_iff_ne,beq_iff_eq,ne_eq] at *;omega)
   cases hi'
   rw [List.take_length]
   simp only [vZ,Int.reduceEq,Int.reduceNe,Int.reduceLT,Int.reduceLE,Nat.reduceEqDiff,Nat.reduceAdd,reduceIte,reduceCtorEq,Nat.reduceLT,Nat.reduceLeDiff,Nat.reduceShiftRight,Nat.reduceMod]
   rw [borB_good _ _ _ _ _ (by rw [skyL_length]) (List.all_eq_true.1 (skyL_fxB s))]
end Go.Proofs.YtpaklfjlbocfcaaGreatDoor

/- Contracts: lists of lists that are equal,the same sky. By an AI agent;nothing here is trusted. -/
namespace Go.Proofs.YtpaklfjlbocfcaaGreatDoor
open Go.Av

theorem Lists_s (a b:List (List Int)) (ha:a.length≤1000000000) (hl:∀ l ∈ a,l.length≤1000000000):Sound Tryz.prog 85 [.sl (skyL a),.sl (skyL b)] (.bool (decide (a=b))):=by
 refine sound_W f_base_Lists (Nat.le_of_ble_eq_true rfl) ?_
 by_cases hab:a.length=b.length
 ·have hab':(a.length:Int)=b.length:=by omega
  simp only [c_base_Lists,skyL_length,hab',vZ,Int.reduceEq,Int.reduceNe,Int.reduceLT,Int.reduceLE,Nat.reduceEqDiff,Nat.reduceAdd,reduceIte,reduceCtorEq,Nat.reduceLT,Nat.reduceLeDiff,Nat.reduceShiftRight,Nat.reduceMod]
  refine W_loop (t:=.mk) (α:=PSigma fun i:Nat=>i≤a.length∧a.take i=b.take i) (fun ⟨i,_⟩=>(envOf [(0,.sl (skyL a)),(1,.sl (skyL b)),(5,.int .i64 i)],stOf [])) (fun p=>a.length - p.1) ⟨0,Nat.zero_le _,rfl⟩ ?_ (fun ⟨i,hi,hn⟩=>?_)
  ·refine weakX [] (of_decide_eq_true rfl) (of_decide_eq_true rfl) ?_
   (simp only [vcW,vZ,Int.reduceEq,Int.reduceNe,Int.reduceLT,Int.reduceLE,Nat.reduceEqDiff,Nat.reduceAdd,reduceIte,reduceCtorEq,Nat.reduceLT,Nat.reduceLeDiff,Nat.reduceShiftRight,Nat.reduceMod])
   (repeat' first | exact trivial | (with_reducible first | exact RnB.fxB (ints_fxB _) | rfl | refine And.intro ?_ ?_) | (with_reducible (first | refine RnB.bb ?_ | refine RnB.nb ?_);simp only [vcW,vZ,Int.reduceEq,Int.reduceNe,Int.reduceLT,Int.reduceLE,Nat.reduceEqDiff,Nat.reduceAdd,reduceIte,reduceCtorEq,Nat.reduceLT,Nat.reduceLeDiff,Nat.reduceShiftRight,Nat.reduceMod]) | (with_reducible first | refine RnB.ii ?_ | refine RnB.app ?_) | (with_reducible refine RnB.fxB ?_;simp only [vcW,vZ,Int.reduceEq,Int.reduceNe,Int.reduceLT,Int.reduceLE,Nat.reduceEqDiff,Nat.reduceAdd,reduceIte,reduceCtorEq,Nat.reduceLT,Nat.reduceLeDiff,Nat.reduceShiftRight,Nat.reduceMod]) | omega)
   all_goals first | rfl | trace_state
  ·dsimp only at hi hn ⊢
   by_cases h':i<a.length
   ·have hc1:(i:Int)<b.length:=by omega
    have hb:i<b.length:=by omega
    have hg:=skyL_get a i h'
    have hg2:=skyL_get b i hb
    have hI:=Ints_s a[i] b[i] (hl _ (List.getElem_mem h'))
    simp only [hc1,hg,hg2,skyL_length,hab',vZ,Int.reduceEq,Int.reduceNe,Int.reduceLT,Int.reduceLE,Nat.reduceEqDiff,Nat.reduceAdd,reduceIte,reduceCtorEq,Nat.reduceLT,Nat.reduceLeDiff,Nat.reduceShiftRight,Nat.reduceMod]
    refine ⟨by omega,by omega,callS_of hI ?_⟩
    by_cases he:a[i]=b[i]
    ·simp only [he,vZ,Int.reduceEq,Int.reduceNe,Int.reduceLT,Int.reduceLE,Nat.reduceEqDiff,Nat.reduceAdd,reduceIte,reduceCtorEq,Nat.reduceLT,Nat.reduceLeDiff,Nat.reduceShiftRight,Nat.reduceMod]
     refine ⟨by unfold I64;omega,⟨i+1,h',by rw [List.take_succ_eq_append_getElem h',List.take_succ_eq_append_getElem hb,hn,he]⟩,by (try simp only);omega,?_⟩
     refine weakX [] (of_decide_eq_true rfl) (of_decide_eq_true rfl) ?_
     (simp only [vcW,vZ,Int.reduceEq,Int.reduceNe,Int.reduceLT,Int.reduceLE,Nat.reduceEqDiff,Nat.reduceAdd,reduceIte,reduceCtorEq,Nat.reduceLT,Nat.reduceLeDiff,Nat.reduceShiftRight,Nat.reduceMod])
     (repeat' first | exact trivial | (with_reducible first | exact RnB.fxB (ints_fxB _) | rfl | refine And.intro ?_ ?_) | (with_reducible (first | refine RnB.bb ?_ | refine RnB.nb ?_);simp only [vcW,vZ,Int.reduceEq,Int.reduceNe,Int.reduceLT,Int.reduceLE,Nat.reduceEqDiff,Nat.reduceAdd,reduceIte,reduceCtorEq,Nat.reduceLT,Nat.reduceLeDiff,Nat.reduceShiftRight,Nat.reduceMod]) | (with_reducible first | refine RnB.ii ?_ | refine RnB.app ?_) | (with_reducible refine RnB.fxB ?_;simp only [vcW,vZ,Int.reduceEq,Int.reduceNe,Int.reduceLT,Int.reduceLE,Nat.reduceEqDiff,Nat.reduceAdd,reduceIte,reduceCtorEq,Nat.reduceLT,Nat.reduceLeDiff,Nat.reduceShiftRight,Nat.reduceMod]) | omega)
     all_goals first | rfl | trace_state
    ·have hne:¬ a=b:=fun h=>he (by subst h;rfl)
     simp only [he,hne,vZ,Int.reduceEq,Int.reduceNe,Int.reduceLT,Int.reduceLE,Nat.reduceEqDiff,Nat.reduceAdd,reduceIte,reduceCtorEq,Nat.reduceLT,Nat.reduceLeDiff,Nat.reduceShiftRight,Nat.reduceMod]
   ·have hil:i=a.length:=by omega
    subst hil
    have hc1:¬ (a.length:Int)<a.length:=by omega
    have he:a=b:=by rw [List.take_length] at hn;rw [hn,hab,List.take_length]
    simp only [hc1,skyL_length,vZ,Int.reduceEq,Int.reduceNe,Int.reduceLT,Int.reduceLE,Nat.reduceEqDiff,Nat.reduceAdd,reduceIte,reduceCtorEq,Nat.reduceLT,Nat.reduceLeDiff,Nat.reduceShiftRight,Nat.reduceMod]
    simp [he]
 ·have hab':¬ (a.length:Int)=b.length:=by omega
  have hne:¬ a=b:=fun h=>hab (by rw [h])
  simp only [c_base_Lists,skyL_length,hab',hne,vZ,Int.reduceEq,Int.reduceNe,Int.reduceLT,Int.reduceLE,Nat.reduceEqDiff,Nat.reduceAdd,reduceIte,reduceCtorEq,Nat.reduceLT,Nat.reduceLeDiff,Nat.reduceShiftRight,Nat.reduceMod]
theorem SameSky_s (a b:List (List Int)) (ha:a.length≤1000000000) (hl:∀ l ∈ a,l.length≤1000000000):Sound Tryz.prog 18 [skyA a,skyA b] (.bool (decide (a=b))):=by
 refine sound_W f_ref08_SameSky (Nat.le_of_ble_eq_true rfl) ?_
 simp only [c_ref08_SameSky,skyA,vZ,Int.reduceEq,Int.reduceNe,Int.reduceLT,Int.reduceLE,Nat.reduceEqDiff,Nat.reduceAdd,reduceIte,reduceCtorEq,Nat.reduceLT,Nat.reduceLeDiff,Nat.reduceShiftRight,Nat.reduceMod]
 refine callS_of (Lists_s a b ha hl) ?_
 simp only [vZ,Int.reduceEq,Int.reduceNe,Int.reduceLT,Int.reduceLE,Nat.reduceEqDiff,Nat.reduceAdd,reduceIte,reduceCtorEq,Nat.reduceLT,Nat.reduceLeDiff,Nat.reduceShiftRight,Nat.reduceMod]
end Go.Proofs.YtpaklfjlbocfcaaGreatDoor

/- The marked code of law functions;printed by a program. By an AI agent;nothing here is trusted. -/
namespace Go.Proofs.YtpaklfjlbocfcaaGreatDoor
open Go.Av
def cl_law08_WatchStrings:ML:=(.seq (.reg 28 [mO 3 (.box 23 4 (.t 0)),mO 4 (.box 26 1 (.t 1)),mO 6 (.mv (.c (.bool false)))] false []) (.seq (.seq (.reg 4194332 [mO 21 (.call 7 []),mO 22 (.un .not (.t 21))] false []) (.cond (.t 22) (.seq (.reg 64 [mO 6 (.mv (.c (.bool false)))] false []) .ret) .skip)) (.seq (.seq (.reg 1099511627804 [mO 23 (.load (some 1) (.t 4)),mO 24 (.call 8 [(.t 23)]),mO 25 (.un .not (.t 24)),mV 26 25,mG 26 false 27 (.mv (.t 2)),mG 26 false 28 (.len true (.t 27)),mG 26 false 29 (.bin .gtr (.t 28) (.c (.int .i64 200))),mG 26 false 30 (.mv (.t 29)),mG 30 true 31 (.mv (.t 2)),mG 30 true 32 (.len true (.t 31)),mG 30 true 33 (.bin .leq (.t 32) (.c (.int .i64 60000))),mG 26 false 34 (.pick (.t 30) (.t 33) (.c (.bool false))),mO 35 (.pick (.t 26) (.c (.bool true)) (.t 34)),mV 36 35,mG 36 false 37 (.mv (.t 2)),mG 36 false 38 (.len true (.t 37)),mG 36 false 39 (.bin .gtr (.t 38) (.c (.int .i64 60010))),mO 40 (.pick (.t 36) (.c (.bool true)) (.t 39))] false []) (.cond (.t 40) (.seq (.reg 64 [mO 6 (.mv (.c (.bool true)))] false []) .ret) .skip)) (.seq (.reg 412 [mO 41 (.load (some 4) (.t 3)),mO 42 (.call 9 [(.t 41)]),mO 43 (.load (some 1) (.t 4)),mO 44 (.call 11 [(.t 43)]),mO 45 (.call 10 [(.t 44)]),mV 7 42,mV 8 45] true []) (.seq (.reg 1948 [mV 47 2,mO 48 (.call 12 [(.t 47)]),mV 46 48,mO 49 (.extract (.t 46) 0),mO 50 (.extract (.t 46) 1),mO 9 (.alloc 23 4 (.agg [(.int .i64 0),(.int .i64 0),(.int .i64 0),(.int .i64 0)])),⟨none,none,.store 4 (.t 9) (.t 49)⟩,mV 10 50] false []) (.seq (.reg 8092 [mV 52 2,mO 53 (.call 13 [(.t 52)]),mV 51 53,mO 54 (.extract (.t 51) 0),mO 55 (.extract (.t 51) 1),mO 11 (.alloc 26 1 (.agg [.nils])),⟨none,none,.store 1 (.t 11) (.t 54)⟩,mV 12 55] false []) (.seq (.reg 32668 [mV 57 2,mO 58 (.call 14 [(.t 57)]),mV 56 58,mO 59 (.extract (.t 56) 0),mO 60 (.extract (.t 56) 1),mO 13 (.alloc 23 4 (.agg [(.int .i64 0),(.int .i64 0),(.int .i64 0),(.int .i64 0)])),⟨none,none,.store 4 (.t 13) (.t 59)⟩,mV 14 60] false []) (.seq (.reg 130968 [mV 62 2,mO 63 (.call 15 [(.t 62)]),mV 61 63,mO 64 (.extract (.t 61) 0),mO 65 (.extract (.t 61) 1),mO 15 (.alloc 26 1 (.agg [.nils])),⟨none,none,.store 1 (.t 15) (.t 64)⟩,mV 16 65] false []) (.seq (.seq (.reg 79228162514264337593543950744 [mV 66 7,mO 67 (.load (some 4) (.t 3)),mO 68 (.call 16 [(.t 67)]),mO 69 (.bin .neq (.t 66) (.t 68)),mV 70 69,mG 70 false 71 (.mv (.t 8)),mG 70 false 72 (.load (some 1) (.t 4)),mG 70 false 73 (.call 17 [(.t 72)]),mG 70 false 74 (.bin .neq (.t 71) (.t 73)),mO 75 (.pick (.t 70) (.c (.bool true)) (.t 74)),mV 76 75,mG 76 false 77 (.mv (.t 10)),mG 76 false 78 (.mv (.t 14)),mG 76 false 79 (.bin .neq (.t 77) (.t 78)),mO 80 (.pick (.t 76) (.c (.bool true)) (.t 79)),mV 81 80,mG 81 false 82 (.load (some 4) (.t 9)),mG 81 false 83 (.load (some 4) (.t 13)),mG 81 false 84 (.eqS true [1,1,1,1] (.t 82) (.t 83)),mO 85 (.pick (.t 81) (.c (.bool true)) (.t 84)),mV 86 85,mG 86 false 87 (.mv (.t 12)),mG 86 false 88 (.mv (.t 16)),mG 86 false 89 (.bin .neq (.t 87) (.t 88)),mO 90 (.pick (.t 86) (.c (.bool true)) (.t 89)),mV 91 90,mG 91 false 92 (.load (some 1) (.t 11)),mG 91 false 93 (.load (some 1) (.t 15)),mG 91 false 94 (.call 18 [(.t 92),(.t 93)]),mG 91 false 95 (.un .not (.t 94)),mO 96 (.pick (.t 91) (.c (.bool true)) (.t 95))] false []) (.cond (.t 96) (.seq (.reg 64 [mO 6 (.mv (.c (.bool false)))] false []) .ret) .skip)) (.seq (.seq (.reg 633825300114114700748351603096 [mO 97 (.load (some 4) (.t 3)),mO 98 (.call 19 [(.t 97)]),mO 99 (.bin .eql (.t 98) (.c (.int .i64 0)))] false []) (.cond (.t 99) (.seq (.reg 393496 [mV 101 7,mO 102 (.call 12 [(.t 101)]),mV 100 102,mO 103 (.extract (.t 100) 0),mO 104 (.extract (.t 100) 1),mO 17 (.alloc 23 4 (.agg [(.int .i64 0),(.int .i64 0),(.int .i64 0),(.int .i64 0)])),⟨none,none,.store 4 (.t 17) (.t 103)⟩,mV 18 104] false []) (.seq (.reg 2596148429267413814265248164610320 [mV 105 18,mO 106 (.bin .neq (.t 105) (.c (.int .i64 0))),mV 107 106,mG 107 false 108 (.load (some 4) (.t 17)),mG 107 false 109 (.load (some 4) (.t 3)),mG 107 false 110 (.eqS true [1,1,1,1] (.t 108) (.t 109)),mO 111 (.pick (.t 107) (.c (.bool true)) (.t 110))] false []) (.cond (.t 111) (.seq (.reg 64 [mO 6 (.mv (.c (.bool false)))] false []) .ret) .skip))) .skip)) (.seq (.seq (.reg 20769187434139310514121985316880656 [mO 112 (.load (some 1) (.t 4)),mO 113 (.call 20 [(.t 112)]),mO 114 (.bin .neq (.t 113) (.c (.int .i64 0)))] false []) (.cond (.t 114) (.seq (.reg 64 [mO 6 (.mv (.c (.bool true)))] false []) .ret) .skip)) (.seq (.reg 1572880 [mV 116 8,mO 117 (.call 13 [(.t 116)]),mV 115 117,mO 118 (.extract (.t 115) 0),mO 119 (.extract (.t 115) 1),mO 19 (.alloc 26 1 (.agg [.nils])),⟨none,none,.store 1 (.t 19) (.t 118)⟩,mV 20 119] false []) (.seq (.reg 64 [mV 120 20,mO 121 (.bin .eql (.t 120) (.c (.int .i64 0))),mV 122 121,mG 122 true 123 (.load (some 1) (.t 19)),mG 122 true 124 (.load (some 1) (.t 4)),mG 122 true 125 (.call 18 [(.t 123),(.t 124)]),mO 126 (.pick (.t 122) (.t 125) (.c (.bool false))),mV 6 126] false []) .ret)))))))))))))
def c_law08_WatchStrings:MC:=cl_law08_WatchStrings.er
theorem f_law08_WatchStrings:cFun Tryz.prog 3=some (127,3,c_law08_WatchStrings,[(6,none)]):=by kernel_rfl
theorem e_law08_WatchStrings:cl_law08_WatchStrings.er=c_law08_WatchStrings:=rfl
end Go.Proofs.YtpaklfjlbocfcaaGreatDoor

/- The law WatchStrings: it answers true. By an AI agent;nothing here is trusted. -/
namespace Go.Proofs.YtpaklfjlbocfcaaGreatDoor
open Go.Av

theorem rdS_len {t:List UInt8} (ht:t.length≤100000):(rdS t).1.length≤1000000000∧∀ l ∈ (rdS t).1,l.length≤1000000000:=by
 unfold rdS
 split
 ·exact ⟨by simp,fun l hl=>by cases hl⟩
 ·split
  ·rename_i R hR
   split
   ·exact ⟨by simp,fun l hl=>by cases hl⟩
   ·have h1:=rowsP_len hR
    have h2:=Lin.cut_num 59 t
    refine ⟨by simp only;omega,fun l hl=>?_⟩
    obtain ⟨w,hw,hn⟩:=rowsP_mem hR l hl
    have h3:=row_ne hn
    have h4:=Lin.cut_len w hw
    omega
  ·exact ⟨by simp,fun l hl=>by cases hl⟩
set_option maxHeartbeats 2000000 in
theorem WatchStrings_s (r:Rule) (hr:∀ n ∈ r.l,I64 n) (s:List (List Int)) (hsI:∀ l ∈ s,∀ n ∈ l,I64 n) (t:List UInt8):Sound Tryz.prog 3 [r.av,skyA s,.str t] (.bool true):=by
  refine sound_WL f_law08_WatchStrings e_law08_WatchStrings (Nat.le_of_ble_eq_true rfl) ?_
  have hF:=fewSensors_s s
  have hFR:=FormatRule_s r hr
  have hRR:=refFormatRule_s r hr
  have hRE:=RuleErr_s r
  have hrr:=rule_read r
  have hsr:=sky_read s
  have hruleL:(ruleS r).length≤100000:=by
    unfold ruleS
    refine Nat.le_trans (join_le 32 20 _ fun w hw=>?_) (by simp [Rule.l])
    obtain ⟨n,hn,rfl⟩:=List.mem_map.1 hw
    exact itoa_le (hr n hn)
  have hPRs:=ParseRule_s (ruleS r) hruleL
  have hzz:∀ b:List (List Int),Go.Av.cellsOf (AV.agg [.sl (skyL b)])=[.sl (skyL b)]:=fun b=>rfl
  obtain ⟨a,b,c,d⟩:=r
  unfold skyA at hF
  unfold Rule.av at hFR hRR hRE hPRs
  simp only at hFR hRR hRE hPRs
  simp only [cl_law08_WatchStrings,Rule.av,skyA,vZ,Int.reduceEq,Int.reduceNe,Int.reduceLT,Int.reduceLE,Nat.reduceEqDiff,Nat.reduceAdd,reduceIte,reduceCtorEq,Nat.reduceLT,Nat.reduceLeDiff,Nat.reduceShiftRight,Nat.reduceMod]
  refine callS_of awake_s ?_
  simp only [vZ,Int.reduceEq,Int.reduceNe,Int.reduceLT,Int.reduceLE,Nat.reduceEqDiff,Nat.reduceAdd,reduceIte,reduceCtorEq,Nat.reduceLT,Nat.reduceLeDiff,Nat.reduceShiftRight,Nat.reduceMod]
  refine callS_of hF ?_
  by_cases hfs:fewS s=true
  case neg=>simp only [hfs,vZ,Int.reduceEq,Int.reduceNe,Int.reduceLT,Int.reduceLE,Nat.reduceEqDiff,Nat.reduceAdd,reduceIte,reduceCtorEq,Nat.reduceLT,Nat.reduceLeDiff,Nat.reduceShiftRight,Nat.reduceMod]
  have hsl:s.length≤8∧∀ l ∈ s,l.length≤8:=by
    unfold fewS at hfs
    simpa using hfs
  by_cases ht:(200<t.length∧t.length≤60000)∨60010<t.length
  · rcases ht with ⟨h1,h2⟩ | h1
    · have h1':(200:Int)<t.length:=by omega
      have h2':(t.length:Int)≤60000:=by omega
      simp only [hfs,h1',h2',vZ,Int.reduceEq,Int.reduceNe,Int.reduceLT,Int.reduceLE,Nat.reduceEqDiff,Nat.reduceAdd,reduceIte,reduceCtorEq,Nat.reduceLT,Nat.reduceLeDiff,Nat.reduceShiftRight,Nat.reduceMod]
    · have h1':(200:Int)<t.length:=by omega
      have h2':¬ (t.length:Int)≤60000:=by omega
      have h3':(60010:Int)<t.length:=by omega
      simp only [hfs,h1',h2',h3',vZ,Int.reduceEq,Int.reduceNe,Int.reduceLT,Int.reduceLE,Nat.reduceEqDiff,Nat.reduceAdd,reduceIte,reduceCtorEq,Nat.reduceLT,Nat.reduceLeDiff,Nat.reduceShiftRight,Nat.reduceMod]
  have ht2:t.length≤100000:=by omega
  have hFS:=FormatSky_s s (by omega) fun l hl=>⟨by have:=hsl.2 l hl;omega,hsI l hl⟩
  have hRS:=refFormatSky_s s (by omega) fun l hl=>⟨by have:=hsl.2 l hl;omega,hsI l hl⟩
  have hCS:=CopySky_s s (by omega) fun l hl=>by have:=hsl.2 l hl;omega
  have hPR:=ParseRule_s t ht2
  have hPS:=ParseSky_s t ht2
  have hQR:=refParseRule_s t ht2
  have hQS:=refParseSky_s t ht2
  have hSE:=SkyErr_s s (by omega) fun l hl=>by have:=hsl.2 l hl;omega
  have hskyL:(skyS s).length≤100000:=by
    unfold skyS
    refine Nat.le_trans (join_le 59 170 _ fun w hw=>?_) (by simp;omega)
    obtain ⟨l,hm,rfl⟩:=List.mem_map.1 hw
    have h1:=rowS_le (hsI l hm)
    have h2:=hsl.2 l hm
    omega
  have hPSs:=ParseSky_s (skyS s) hskyL
  have hrl:=rdS_len ht2
  have hSa:=SameSky_s (rdS t).1 (rdS t).1 hrl.1 hrl.2
  have hSb:=SameSky_s s s (by omega) fun l hl=>by have:=hsl.2 l hl;omega
  unfold skyA at hFS hRS hCS hPS hQS hSE hPSs hSa hSb
  obtain ⟨⟨x1,x2,x3,x4⟩,xe,hx⟩:∃ x e,rdR t=(x,e):=⟨_,_,rfl⟩
  obtain ⟨y,ye,hy⟩:∃ x e,rdS t=(x,e):=⟨_,_,rfl⟩
  rw [hx] at hPR hQR
  rw [hy] at hPS hQS hSa
  unfold Rule.av at hPR hQR
  simp only at hPR hQR hPS hQS hSa
  have htail:True:=trivial
  by_cases h200:200<t.length
  all_goals
    first
      | (have h1':(200:Int)<t.length:=by omega
         have h2':¬ (t.length:Int)≤60000:=by omega
         have h3':¬ (60010:Int)<t.length:=by omega
         simp only [hfs,h1',h2',h3',vZ,Int.reduceEq,Int.reduceNe,Int.reduceLT,Int.reduceLE,Nat.reduceEqDiff,Nat.reduceAdd,reduceIte,reduceCtorEq,Nat.reduceLT,Nat.reduceLeDiff,Nat.reduceShiftRight,Nat.reduceMod]
         refine callS_of hFR ?_)
      | (have h1':¬ (200:Int)<t.length:=by omega
         have h3':¬ (60010:Int)<t.length:=by omega
         simp only [hfs,h1',h3',vZ,Int.reduceEq,Int.reduceNe,Int.reduceLT,Int.reduceLE,Nat.reduceEqDiff,Nat.reduceAdd,reduceIte,reduceCtorEq,Nat.reduceLT,Nat.reduceLeDiff,Nat.reduceShiftRight,Nat.reduceMod]
         refine callS_of hFR ?_)
    simp only [vZ,Int.reduceEq,Int.reduceNe,Int.reduceLT,Int.reduceLE,Nat.reduceEqDiff,Nat.reduceAdd,reduceIte,reduceCtorEq,Nat.reduceLT,Nat.reduceLeDiff,Nat.reduceShiftRight,Nat.reduceMod]
    refine callS_of hCS ?_
    simp only [vZ,Int.reduceEq,Int.reduceNe,Int.reduceLT,Int.reduceLE,Nat.reduceEqDiff,Nat.reduceAdd,reduceIte,reduceCtorEq,Nat.reduceLT,Nat.reduceLeDiff,Nat.reduceShiftRight,Nat.reduceMod]
    refine callS_of hFS ?_
    simp only [vZ,Int.reduceEq,Int.reduceNe,Int.reduceLT,Int.reduceLE,Nat.reduceEqDiff,Nat.reduceAdd,reduceIte,reduceCtorEq,Nat.reduceLT,Nat.reduceLeDiff,Nat.reduceShiftRight,Nat.reduceMod]
    refine callS_of hPR ?_
    simp only [vZ,Int.reduceEq,Int.reduceNe,Int.reduceLT,Int.reduceLE,Nat.reduceEqDiff,Nat.reduceAdd,reduceIte,reduceCtorEq,Nat.reduceLT,Nat.reduceLeDiff,Nat.reduceShiftRight,Nat.reduceMod]
    refine callS_of hPS ?_
    simp only [vZ,Int.reduceEq,Int.reduceNe,Int.reduceLT,Int.reduceLE,Nat.reduceEqDiff,Nat.reduceAdd,reduceIte,reduceCtorEq,Nat.reduceLT,Nat.reduceLeDiff,Nat.reduceShiftRight,Nat.reduceMod]
    refine callS_of hQR ?_
    simp only [vZ,Int.reduceEq,Int.reduceNe,Int.reduceLT,Int.reduceLE,Nat.reduceEqDiff,Nat.reduceAdd,reduceIte,reduceCtorEq,Nat.reduceLT,Nat.reduceLeDiff,Nat.reduceShiftRight,Nat.reduceMod]
    refine callS_of hQS ?_
    simp only [vZ,Int.reduceEq,Int.reduceNe,Int.reduceLT,Int.reduceLE,Nat.reduceEqDiff,Nat.reduceAdd,reduceIte,reduceCtorEq,Nat.reduceLT,Nat.reduceLeDiff,Nat.reduceShiftRight,Nat.reduceMod]
    refine callS_of hRR ?_
    simp only [vZ,Int.reduceEq,Int.reduceNe,Int.reduceLT,Int.reduceLE,Nat.reduceEqDiff,Nat.reduceAdd,reduceIte,reduceCtorEq,Nat.reduceLT,Nat.reduceLeDiff,Nat.reduceShiftRight,Nat.reduceMod]
    refine callS_of hRS ?_
    simp only [vZ,Int.reduceEq,Int.reduceNe,Int.reduceLT,Int.reduceLE,Nat.reduceEqDiff,Nat.reduceAdd,reduceIte,reduceCtorEq,Nat.reduceLT,Nat.reduceLeDiff,Nat.reduceShiftRight,Nat.reduceMod]
    refine callS_of hSa ?_
    simp only [vZ,Int.reduceEq,Int.reduceNe,Int.reduceLT,Int.reduceLE,Nat.reduceEqDiff,Nat.reduceAdd,reduceIte,reduceCtorEq,Nat.reduceLT,Nat.reduceLeDiff,Nat.reduceShiftRight,Nat.reduceMod]
    refine callS_of hRE ?_
    by_cases hre:ruleE ⟨a,b,c,d⟩=0
    all_goals
      first
        | (rw [hrr hre] at hPRs
           simp only at hPRs
           simp only [hre,vZ,Int.reduceEq,Int.reduceNe,Int.reduceLT,Int.reduceLE,Nat.reduceEqDiff,Nat.reduceAdd,reduceIte,reduceCtorEq,Nat.reduceLT,Nat.reduceLeDiff,Nat.reduceShiftRight,Nat.reduceMod]
           refine callS_of hPRs ?_
           simp only [vZ,Int.reduceEq,Int.reduceNe,Int.reduceLT,Int.reduceLE,Nat.reduceEqDiff,Nat.reduceAdd,reduceIte,reduceCtorEq,Nat.reduceLT,Nat.reduceLeDiff,Nat.reduceShiftRight,Nat.reduceMod]
           refine callS_of hSE ?_)
        | (simp only [hre,vZ,Int.reduceEq,Int.reduceNe,Int.reduceLT,Int.reduceLE,Nat.reduceEqDiff,Nat.reduceAdd,reduceIte,reduceCtorEq,Nat.reduceLT,Nat.reduceLeDiff,Nat.reduceShiftRight,Nat.reduceMod]
           refine callS_of hSE ?_)
      by_cases hse:(skyE s).2=0
      case neg=>simp only [hse,vZ,Int.reduceEq,Int.reduceNe,Int.reduceLT,Int.reduceLE,Nat.reduceEqDiff,Nat.reduceAdd,reduceIte,reduceCtorEq,Nat.reduceLT,Nat.reduceLeDiff,Nat.reduceShiftRight,Nat.reduceMod]
      have hz:=hPSs
      rw [hsr hse] at hz
      simp only at hz
      simp only [hse,vZ,Int.reduceEq,Int.reduceNe,Int.reduceLT,Int.reduceLE,Nat.reduceEqDiff,Nat.reduceAdd,reduceIte,reduceCtorEq,Nat.reduceLT,Nat.reduceLeDiff,Nat.reduceShiftRight,Nat.reduceMod]
      refine callS_of hz ?_
      simp only [vZ,Int.reduceEq,Int.reduceNe,Int.reduceLT,Int.reduceLE,Nat.reduceEqDiff,Nat.reduceAdd,reduceIte,reduceCtorEq,Nat.reduceLT,Nat.reduceLeDiff,Nat.reduceShiftRight,Nat.reduceMod]
      refine callS_of hSb ?_
      simp only [vZ,Int.reduceEq,Int.reduceNe,Int.reduceLT,Int.reduceLE,Nat.reduceEqDiff,Nat.reduceAdd,reduceIte,reduceCtorEq,Nat.reduceLT,Nat.reduceLeDiff,Nat.reduceShiftRight,Nat.reduceMod]
theorem WatchStrings_t {a b c d:Int} (ha:I64 a) (hb:I64 b) (hc:I64 c) (hd:I64 d) (s:List (List Int)) (hsI:∀ l ∈ s,∀ n ∈ l,I64 n) (t:List UInt8):Sound Tryz.prog 3 [Rule.av ⟨a,b,c,d⟩,skyA s,.str t] (.bool true):=by
 refine WatchStrings_s ⟨a,b,c,d⟩ (fun n hn=>?_) s hsI t
 simp only [Rule.l,List.mem_cons,List.mem_nil_iff,or_false] at hn
 rcases hn with rfl | rfl | rfl | rfl <;> assumption
end Go.Proofs.YtpaklfjlbocfcaaGreatDoor

