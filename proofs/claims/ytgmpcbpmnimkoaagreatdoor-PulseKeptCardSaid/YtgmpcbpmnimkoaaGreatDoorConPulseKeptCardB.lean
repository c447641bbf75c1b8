/- Contracts: wide numbers added, subtracted, compared. By an AI agent; nothing here is trusted. -/
import Derived.Test.YtgmpcbpmnimkoaaGreatDoorConPulseKeptCardA
import Derived.Test.YtgmpcbpmnimkoaaGreatDoorLayA
import Derived.Lib.ItoaNum
import Derived.Lib.AtoiAll
import Derived.Shelf.Slices.Clone
set_option linter.defProp false
set_option linter.unusedSimpArgs false
set_option linter.unusedVariables false
namespace Go.Proofs.YtgmpcbpmnimkoaaGreatDoor
open Go.Av

def wOk (k:Nat) (v:Int):Prop:=(dg v.natAbs).length≤k
theorem wOk_of {k:Nat} {v:Int} (h:v.natAbs<1000000000 ^ k):wOk k v:=dg_len h
theorem wOk_neg {k:Nat} {v:Int} (h:wOk k v):wOk k (-v):=by unfold wOk at *;rwa [Int.natAbs_neg]
theorem sign_cases {x:Int} (h:x ≠ 0):(0<x∧x.sign=1)∨(x<0∧x.sign = -1):=by
  rcases Int.lt_trichotomy x 0 with q | q | q
  · exact .inr ⟨q,Int.sign_eq_neg_one_of_neg q⟩
  · exact absurd q h
  · exact .inl ⟨q,Int.sign_eq_one_of_pos q⟩
set_option maxHeartbeats 4000000 in
theorem WideAdd_s (x y:Int) (hx:wOk 100000 x) (hy:wOk 100000 y):Sound Tryz.prog 21 [wideA x,wideA y] (wideA (x+y)):=by
  refine sound_W f_base_WideAdd (Nat.le_of_ble_eq_true rfl) ?_
  unfold wOk at hx hy
  have e1:∀ v:Int,dVal (dg v.natAbs)=v.natAbs:=fun v=>dVal_dg _
  by_cases h1:x=0
  · subst h1
    have s1:(0:Int).sign=0:=rfl
    rw [Int.zero_add]
    simp only [c_base_WideAdd,wideA,s1,vcV,vcD,Int.reduceEq,Int.reduceNe,Int.reduceLT,Int.reduceLE,Nat.reduceEqDiff,Nat.reduceAdd,reduceIte,reduceCtorEq,Nat.reduceLT,Nat.reduceLeDiff,eq_self,vcP2,Nat.reduceShiftRight,Nat.reduceMod]
  by_cases h2:y=0
  · subst h2
    have s1:(0:Int).sign=0:=rfl
    have s2:¬ x.sign=0:=by rw [Int.sign_eq_zero_iff_zero];exact h1
    rw [Int.add_zero]
    simp only [c_base_WideAdd,wideA,s1,s2,vcV,vcD,Int.reduceEq,Int.reduceNe,Int.reduceLT,Int.reduceLE,Nat.reduceEqDiff,Nat.reduceAdd,reduceIte,reduceCtorEq,Nat.reduceLT,Nat.reduceLeDiff,eq_self,vcP2,Nat.reduceShiftRight,Nat.reduceMod]
  have s1:¬ x.sign=0:=by rw [Int.sign_eq_zero_iff_zero];exact h1
  have s2:¬ y.sign=0:=by rw [Int.sign_eq_zero_iff_zero];exact h2
  have sx:=sign_cases h1
  have sy:=sign_cases h2
  by_cases h3:x.sign=y.sign
  · obtain ⟨l,l1,l2,l3,l4⟩:=addDigits_s _ _ (okD_dg x.natAbs) (okD_dg y.natAbs) (by omega) (by omega)
    rw [e1,e1] at l3
    have hw:=wideOf_s y.sign l (by omega) l1 (by omega)
    have hv:y.sign * dVal l=x+y:=by
      rw [l3]
      rcases sx with ⟨q1,q2⟩ | ⟨q1,q2⟩ <;> rcases sy with ⟨q3,q4⟩ | ⟨q3,q4⟩ <;> rw [q4] <;> omega
    rw [hv] at hw
    have hr:wideA (x+y)=.agg [.int .i64 (x+y).sign,.sl (ints (dg (x+y).natAbs))]:=rfl
    rw [hr] at hw ⊢
    simp only [c_base_WideAdd,wideA,s1,s2,h3,vcV,vcD,Int.reduceEq,Int.reduceNe,Int.reduceLT,Int.reduceLE,Nat.reduceEqDiff,Nat.reduceAdd,reduceIte,reduceCtorEq,Nat.reduceLT,Nat.reduceLeDiff,eq_self,vcP2,Nat.reduceShiftRight,Nat.reduceMod]
    refine callS_of l4 ?_
    simp only [vcV,vcD,Int.reduceEq,Int.reduceNe,Int.reduceLT,Int.reduceLE,Nat.reduceEqDiff,Nat.reduceAdd,reduceIte,reduceCtorEq,Nat.reduceLT,Nat.reduceLeDiff,eq_self,vcP2,Nat.reduceShiftRight,Nat.reduceMod]
    refine callS_of hw ?_
    simp only [vcV,vcD,Int.reduceEq,Int.reduceNe,Int.reduceLT,Int.reduceLE,Nat.reduceEqDiff,Nat.reduceAdd,reduceIte,reduceCtorEq,Nat.reduceLT,Nat.reduceLeDiff,eq_self,vcP2,Nat.reduceShiftRight,Nat.reduceMod]
  · have hc:=cmpDigits_s x.natAbs y.natAbs (by omega) (by omega)
    have hr:wideA (x+y)=.agg [.int .i64 (x+y).sign,.sl (ints (dg (x+y).natAbs))]:=rfl
    rw [hr]
    rcases Nat.lt_trichotomy x.natAbs y.natAbs with hlt | heq | hgt
    · have hs:((x.natAbs:Int) - y.natAbs).sign = -1:=Int.sign_eq_neg_one_of_neg (by omega)
      have hsd:=subDigits_s (dg y.natAbs) (dg x.natAbs) (okD_dg _) (okD_dg _) (dg_mono _ _ (by omega)) (by omega) (by rw [e1,e1];omega)
      rw [e1,e1] at hsd
      have hok:=okD_dg ((y.natAbs:Int) - x.natAbs).toNat
      have hvd:=dVal_dg ((y.natAbs:Int) - x.natAbs).toNat
      have hle:(dg ((y.natAbs:Int) - x.natAbs).toNat).length≤1000000000:=by
        have:=dg_mono ((y.natAbs:Int) - x.natAbs).toNat y.natAbs (by omega);omega
      have hw:=wideOf_s y.sign _ hle hok (by omega)
      have hv:y.sign * dVal (dg ((y.natAbs:Int) - x.natAbs).toNat)=x+y:=by
        rw [hvd]
        rcases sx with ⟨q1,q2⟩ | ⟨q1,q2⟩ <;> rcases sy with ⟨q3,q4⟩ | ⟨q3,q4⟩ <;> rw [q4] <;> omega
      rw [hv,hr] at hw
      rw [hs] at hc
      simp only [c_base_WideAdd,wideA,s1,s2,h3,vcV,vcD,Int.reduceEq,Int.reduceNe,Int.reduceLT,Int.reduceLE,Nat.reduceEqDiff,Nat.reduceAdd,reduceIte,reduceCtorEq,Nat.reduceLT,Nat.reduceLeDiff,eq_self,vcP2,Nat.reduceShiftRight,Nat.reduceMod]
      refine callS_of hc ?_
      simp only [vcV,vcD,Int.reduceEq,Int.reduceNe,Int.reduceLT,Int.reduceLE,Nat.reduceEqDiff,Nat.reduceAdd,reduceIte,reduceCtorEq,Nat.reduceLT,Nat.reduceLeDiff,eq_self,vcP2,Nat.reduceShiftRight,Nat.reduceMod]
      refine callS_of hsd ?_
      simp only [vcV,vcD,Int.reduceEq,Int.reduceNe,Int.reduceLT,Int.reduceLE,Nat.reduceEqDiff,Nat.reduceAdd,reduceIte,reduceCtorEq,Nat.reduceLT,Nat.reduceLeDiff,eq_self,vcP2,Nat.reduceShiftRight,Nat.reduceMod]
      refine callS_of hw ?_
      simp only [vcV,vcD,Int.reduceEq,Int.reduceNe,Int.reduceLT,Int.reduceLE,Nat.reduceEqDiff,Nat.reduceAdd,reduceIte,reduceCtorEq,Nat.reduceLT,Nat.reduceLeDiff,eq_self,vcP2,Nat.reduceShiftRight,Nat.reduceMod]
    · have hs:((x.natAbs:Int) - y.natAbs).sign=0:=by rw [heq];simp
      have hz:x+y=0:=by
        rcases sx with ⟨q1,q2⟩ | ⟨q1,q2⟩ <;> rcases sy with ⟨q3,q4⟩ | ⟨q3,q4⟩ <;> omega
      have hz1:(0:Int).sign=0:=rfl
      have hz2:dg (0:Int).natAbs=[]:=dg_zero
      have hz3:ints []=[]:=rfl
      rw [hs] at hc
      rw [hz,hz1,hz2,hz3]
      simp only [c_base_WideAdd,wideA,s1,s2,h3,vcV,vcD,Int.reduceEq,Int.reduceNe,Int.reduceLT,Int.reduceLE,Nat.reduceEqDiff,Nat.reduceAdd,reduceIte,reduceCtorEq,Nat.reduceLT,Nat.reduceLeDiff,eq_self,vcP2,Nat.reduceShiftRight,Nat.reduceMod]
      refine callS_of hc ?_
      simp only [vcV,vcD,Int.reduceEq,Int.reduceNe,Int.reduceLT,Int.reduceLE,Nat.reduceEqDiff,Nat.reduceAdd,reduceIte,reduceCtorEq,Nat.reduceLT,Nat.reduceLeDiff,eq_self,vcP2,Nat.reduceShiftRight,Nat.reduceMod]
    · have hs:((x.natAbs:Int) - y.natAbs).sign=1:=Int.sign_eq_one_of_pos (by omega)
      have hsd:=subDigits_s (dg x.natAbs) (dg y.natAbs) (okD_dg _) (okD_dg _) (dg_mono _ _ (by omega)) (by omega) (by rw [e1,e1];omega)
      rw [e1,e1] at hsd
      have hok:=okD_dg ((x.natAbs:Int) - y.natAbs).toNat
      have hvd:=dVal_dg ((x.natAbs:Int) - y.natAbs).toNat
      have hle:(dg ((x.natAbs:Int) - y.natAbs).toNat).length≤1000000000:=by
        have:=dg_mono ((x.natAbs:Int) - y.natAbs).toNat x.natAbs (by omega);omega
      have hw:=wideOf_s x.sign _ hle hok (by omega)
      have hv:x.sign * dVal (dg ((x.natAbs:Int) - y.natAbs).toNat)=x+y:=by
        rw [hvd]
        rcases sx with ⟨q1,q2⟩ | ⟨q1,q2⟩ <;> rcases sy with ⟨q3,q4⟩ | ⟨q3,q4⟩ <;> rw [q2] <;> omega
      rw [hv,hr] at hw
      rw [hs] at hc
      simp only [c_base_WideAdd,wideA,s1,s2,h3,vcV,vcD,Int.reduceEq,Int.reduceNe,Int.reduceLT,Int.reduceLE,Nat.reduceEqDiff,Nat.reduceAdd,reduceIte,reduceCtorEq,Nat.reduceLT,Nat.reduceLeDiff,eq_self,vcP2,Nat.reduceShiftRight,Nat.reduceMod]
      refine callS_of hc ?_
      simp only [vcV,vcD,Int.reduceEq,Int.reduceNe,Int.reduceLT,Int.reduceLE,Nat.reduceEqDiff,Nat.reduceAdd,reduceIte,reduceCtorEq,Nat.reduceLT,Nat.reduceLeDiff,eq_self,vcP2,Nat.reduceShiftRight,Nat.reduceMod]
      refine callS_of hsd ?_
      simp only [vcV,vcD,Int.reduceEq,Int.reduceNe,Int.reduceLT,Int.reduceLE,Nat.reduceEqDiff,Nat.reduceAdd,reduceIte,reduceCtorEq,Nat.reduceLT,Nat.reduceLeDiff,eq_self,vcP2,Nat.reduceShiftRight,Nat.reduceMod]
      refine callS_of hw ?_
      simp only [vcV,vcD,Int.reduceEq,Int.reduceNe,Int.reduceLT,Int.reduceLE,Nat.reduceEqDiff,Nat.reduceAdd,reduceIte,reduceCtorEq,Nat.reduceLT,Nat.reduceLeDiff,eq_self,vcP2,Nat.reduceShiftRight,Nat.reduceMod]
theorem WideSub_s (x y:Int) (hx:wOk 100000 x) (hy:wOk 100000 y):Sound Tryz.prog 22 [wideA x,wideA y] (wideA (x - y)):=by
  refine sound_W f_base_WideSub (Nat.le_of_ble_eq_true rfl) ?_
  have hn:=WideNeg_s y
  have ha:=WideAdd_s x (-y) hx (wOk_neg hy)
  rw [show x + -y=x - y by omega] at ha
  have hr:∀ v,wideA v=.agg [.int .i64 v.sign,.sl (ints (dg v.natAbs))]:=fun _=>rfl
  rw [hr y,hr (-y)] at hn
  rw [hr x,hr (-y),hr (x - y)] at ha
  rw [hr x,hr y,hr (x - y)]
  simp only [c_base_WideSub,vcV,vcD,Int.reduceEq,Int.reduceNe,Int.reduceLT,Int.reduceLE,Nat.reduceEqDiff,Nat.reduceAdd,reduceIte,reduceCtorEq,Nat.reduceLT,Nat.reduceLeDiff,eq_self,vcP2,Nat.reduceShiftRight,Nat.reduceMod]
  refine callS_of hn ?_
  simp only [vcV,vcD,Int.reduceEq,Int.reduceNe,Int.reduceLT,Int.reduceLE,Nat.reduceEqDiff,Nat.reduceAdd,reduceIte,reduceCtorEq,Nat.reduceLT,Nat.reduceLeDiff,eq_self,vcP2,Nat.reduceShiftRight,Nat.reduceMod]
  refine callS_of ha ?_
  simp only [vcV,vcD,Int.reduceEq,Int.reduceNe,Int.reduceLT,Int.reduceLE,Nat.reduceEqDiff,Nat.reduceAdd,reduceIte,reduceCtorEq,Nat.reduceLT,Nat.reduceLeDiff,eq_self,vcP2,Nat.reduceShiftRight,Nat.reduceMod]
theorem WideCmp_s (x y:Int) (hx:wOk 100000 x) (hy:wOk 100000 y):Sound Tryz.prog 28 [wideA x,wideA y] (.int .i64 (x - y).sign):=by
  refine sound_W f_base_WideCmp (Nat.le_of_ble_eq_true rfl) ?_
  have ha:=WideSub_s x y hx hy
  have hr:∀ v,wideA v=.agg [.int .i64 v.sign,.sl (ints (dg v.natAbs))]:=fun _=>rfl
  rw [hr x,hr y,hr (x - y)] at ha
  rw [hr x,hr y]
  simp only [c_base_WideCmp,vcV,vcD,Int.reduceEq,Int.reduceNe,Int.reduceLT,Int.reduceLE,Nat.reduceEqDiff,Nat.reduceAdd,reduceIte,reduceCtorEq,Nat.reduceLT,Nat.reduceLeDiff,eq_self,vcP2,Nat.reduceShiftRight,Nat.reduceMod]
  refine callS_of ha ?_
  simp only [vcV,vcD,Int.reduceEq,Int.reduceNe,Int.reduceLT,Int.reduceLE,Nat.reduceEqDiff,Nat.reduceAdd,reduceIte,reduceCtorEq,Nat.reduceLT,Nat.reduceLeDiff,eq_self,vcP2,Nat.reduceShiftRight,Nat.reduceMod]
end Go.Proofs.YtgmpcbpmnimkoaaGreatDoor

/- Contracts: wide numbers of ints,and multiplied. By an AI agent;nothing here is trusted. -/
namespace Go.Proofs.YtgmpcbpmnimkoaaGreatDoor
open Go.Av

theorem pow_three {k:Nat} (h:(1000000000:Int) ^ k≤9223372036854775808):k≤2:=by
  by_cases hk:k≤2
  · exact hk
  · have h2:(1000000000:Nat) ^ 3≤1000000000 ^ k:=Nat.pow_le_pow_right (by omega) (by omega)
    have h3:((1000000000 ^ k:Nat):Int)=(1000000000:Int) ^ k:=by simp
    omega
theorem nilsGood:∀ x ∈ [AV.agg [.int .i64 0,.nils]],good x=true:=fun x hx=>by rw [List.mem_singleton.1 hx];rfl
theorem RnB.wide {s s':Store} {f:Nat→Option Nat} {ty sz:Nat}:RnB s s' f ⟨ty,sz,[AV.agg [.int .i64 0,.nils]]⟩ ⟨ty,sz,[AV.agg [.int .i64 0,.nils]]⟩:=RnB.same (B:=⟨ty,sz,[AV.agg [.int .i64 0,.nils]]⟩) nilsGood
set_option maxHeartbeats 4000000 in
theorem WideOf_s (n:Int) (hn:I64 n):Sound Tryz.prog 19 [.int .i64 n] (wideA n):=by
  refine sound_W f_base_WideOf (Nat.le_of_ble_eq_true rfl) ?_
  unfold I64 at hn
  have hmax:=maxLen_big
  obtain ⟨g,hg⟩:∃ g:Int,g=if n<0 then -1 else 1:=⟨_,rfl⟩
  have hgn:g * n.natAbs=n:=by rw [hg];split <;> omega
  have hg1:g=1∨g = -1:=by rw [hg];split <;> simp
  have hr:wideA n=.agg [.int .i64 n.sign,.sl (ints (dg n.natAbs))]:=rfl
  rw [hr]
  by_cases hneg:n<0
  all_goals
    first
      | (have hgg:g = -1:=by rw [hg,if_pos hneg]
         simp only [c_base_WideOf,hneg,vcV,vcD,Int.reduceEq,Int.reduceNe,Int.reduceLT,Int.reduceLE,Nat.reduceEqDiff,Nat.reduceAdd,reduceIte,reduceCtorEq,Nat.reduceLT,Nat.reduceLeDiff,eq_self,vcP2,Nat.reduceShiftRight,Nat.reduceMod])
      | (have hgg:g=1:=by rw [hg,if_neg hneg]
         simp only [c_base_WideOf,hneg,vcV,vcD,Int.reduceEq,Int.reduceNe,Int.reduceLT,Int.reduceLE,Nat.reduceEqDiff,Nat.reduceAdd,reduceIte,reduceCtorEq,Nat.reduceLT,Nat.reduceLeDiff,eq_self,vcP2,Nat.reduceShiftRight,Nat.reduceMod])
    rw [← hgg]
    refine W_loop (t:=.mk) (α:=PSigma fun p:Int × List Int=>okD p.2∧(n.natAbs:Int)=dVal p.2+1000000000 ^ p.2.length * p.1.natAbs∧p.2.length≤3) (fun x=>(envOf [(0,.int .i64 x.1.1),(2,.ptr 2 0 0),(3,.int .i64 g),(4,.buf 100 x.1.2.length)],stOf [(2,⟨38,2,[.agg [.int .i64 0,.nils]]⟩),(100,⟨3,1,ints x.1.2⟩)])) (fun x=>x.1.1.natAbs) ⟨(n,[]),(fun d hd=>by cases hd),by simp [dVal],by simp⟩ ?_ (fun ⟨⟨q,l⟩,h1,h2,h3⟩=>?_)
    · have hz:ints []=[]:=rfl
      refine weakX [(100,none)] (of_decide_eq_true rfl) (of_decide_eq_true rfl) ?_
      (simp only [hz,vcW,vcV,vcD,Int.reduceEq,Int.reduceNe,Int.reduceLT,Int.reduceLE,Nat.reduceEqDiff,Nat.reduceAdd,reduceIte,reduceCtorEq,Nat.reduceLT,Nat.reduceLeDiff,eq_self,vcP2,Nat.reduceShiftRight,Nat.reduceMod])
      repeat' (with_reducible refine And.intro ?_ ?_)
      any_goals (with_reducible exact RnB.wide)
      (repeat' first | exact trivial | (with_reducible first | exact RnB.fxB (ints_fxB _) | rfl | refine And.intro ?_ ?_) | (with_reducible (first | refine RnB.bb ?_ | refine RnB.nb ?_);simp only [vcW,vcV,vcD,Int.reduceEq,Int.reduceNe,Int.reduceLT,Int.reduceLE,Nat.reduceEqDiff,Nat.reduceAdd,reduceIte,reduceCtorEq,Nat.reduceLT,Nat.reduceLeDiff,eq_self,vcP2,Nat.reduceShiftRight,Nat.reduceMod]) | (with_reducible first | refine RnB.ii ?_ | refine RnB.app ?_) | (with_reducible refine RnB.fxB ?_;simp only [vcW,vcV,vcD,Int.reduceEq,Int.reduceNe,Int.reduceLT,Int.reduceLE,Nat.reduceEqDiff,Nat.reduceAdd,reduceIte,reduceCtorEq,Nat.reduceLT,Nat.reduceLeDiff,eq_self,vcP2,Nat.reduceShiftRight,Nat.reduceMod]) | omega)
    · simp only at h1 h2 h3
      have hv:=dVal_nonneg h1
      have hpp:(0:Int)<1000000000 ^ l.length:=Int.pow_pos (by omega)
      by_cases hq:q=0
      · subst hq
        have hval:dVal l=n.natAbs:=by rw [h2];simp
        have hw:=wideOf_s g l (by omega) h1 (by omega)
        rw [hval,hgn,hr] at hw
        have hbg:=borB_good (s:=stOf [(2,⟨38,2,[.agg [.int .i64 0,.nils]]⟩),(100,⟨3,1,ints l⟩)]) 4 l.length 3 1 (ints l) (by rw [ints_length]) (ints_fx _)
        simp only [vcV,vcD,Int.reduceEq,Int.reduceNe,Int.reduceLT,Int.reduceLE,Nat.reduceEqDiff,Nat.reduceAdd,reduceIte,reduceCtorEq,Nat.reduceLT,Nat.reduceLeDiff,eq_self,vcP2,Nat.reduceShiftRight,Nat.reduceMod]
        rw [hbg]
        refine callS_of hw ?_
        simp only [vcX,vcV,vcD,Int.reduceEq,Int.reduceNe,Int.reduceLT,Int.reduceLE,Nat.reduceEqDiff,Nat.reduceAdd,reduceIte,reduceCtorEq,Nat.reduceLT,Nat.reduceLeDiff,eq_self,vcP2,Nat.reduceShiftRight,Nat.reduceMod]
      · have hq1:(1:Int)≤q.natAbs:=by omega
        have hmul:(1000000000:Int) ^ l.length * 1≤1000000000 ^ l.length * q.natAbs:=Int.mul_le_mul_of_nonneg_left hq1 (by omega)
        have hl2:l.length≤2:=pow_three (by omega)
        have hqb:q.natAbs≤n.natAbs:=by
          have:(1:Int) * q.natAbs≤1000000000 ^ l.length * q.natAbs:=Int.mul_le_mul_of_nonneg_right (by omega) (by omega)
          omega
        have t1:(q.tmod 1000000000).natAbs=q.natAbs % 1000000000:=by rw [Int.natAbs_tmod];rfl
        have t2:(q.tdiv 1000000000).natAbs=q.natAbs / 1000000000:=by rw [Int.natAbs_tdiv];rfl
        have hsz:=Size_s (q.tmod 1000000000) (by unfold S63;omega)
        rw [t1] at hsz
        have hia:ints (l ++ [((q.natAbs % 1000000000:Nat):Int)])=ints l ++ [.int .i64 ((q.natAbs % 1000000000:Nat):Int)]:=ints_append _ _
        have ho:okD (l ++ [((q.natAbs % 1000000000:Nat):Int)]):=by
          intro d hd
          rcases List.mem_append.1 hd with e | e
          · exact h1 d e
          · rw [List.mem_singleton.1 e];omega
        have hvn:(n.natAbs:Int)=dVal (l ++ [((q.natAbs % 1000000000:Nat):Int)])+1000000000 ^ (l ++ [((q.natAbs % 1000000000:Nat):Int)]).length * ((q.tdiv 1000000000).natAbs:Int):=by
          rw [dVal_snoc,t2,List.length_append,List.length_singleton,Int.pow_succ,h2,Int.mul_assoc,Int.add_assoc,← Int.mul_add]
          congr 2
          omega
        have hne:(q ≠ 0)=True:=eq_true hq
        simp only [hq,vcV,vcD,Int.reduceEq,Int.reduceNe,Int.reduceLT,Int.reduceLE,Nat.reduceEqDiff,Nat.reduceAdd,reduceIte,reduceCtorEq,Nat.reduceLT,Nat.reduceLeDiff,eq_self,vcP2,Nat.reduceShiftRight,Nat.reduceMod]
        (repeat (with_reducible refine And.intro ?_ ?_;focus (first | omega | (unfold I64;omega))))
        refine callS_of hsz ?_
        simp only [ints_length,vcV,vcD,Int.reduceEq,Int.reduceNe,Int.reduceLT,Int.reduceLE,Nat.reduceEqDiff,Nat.reduceAdd,reduceIte,reduceCtorEq,Nat.reduceLT,Nat.reduceLeDiff,eq_self,vcP2,Nat.reduceShiftRight,Nat.reduceMod]
        (repeat (with_reducible refine And.intro ?_ ?_;focus (first | omega | (unfold I64;omega))))
        refine ⟨⟨(q.tdiv 1000000000,l ++ [((q.natAbs % 1000000000:Nat):Int)]),ho,hvn,by simp;omega⟩,by simp only;rw [t2];omega,?_⟩
        refine weakX [(100,some 14)] (of_decide_eq_true rfl) (of_decide_eq_true rfl) ?_
        (simp only [hia,vcW,vcV,vcD,Int.reduceEq,Int.reduceNe,Int.reduceLT,Int.reduceLE,Nat.reduceEqDiff,Nat.reduceAdd,reduceIte,reduceCtorEq,Nat.reduceLT,Nat.reduceLeDiff,eq_self,vcP2,Nat.reduceShiftRight,Nat.reduceMod])
        repeat' (with_reducible refine And.intro ?_ ?_)
        any_goals (with_reducible exact RnB.wide)
        (repeat' first | exact trivial | (with_reducible first | exact RnB.fxB (ints_fxB _) | rfl | refine And.intro ?_ ?_) | (with_reducible (first | refine RnB.bb ?_ | refine RnB.nb ?_);simp only [vcW,vcV,vcD,Int.reduceEq,Int.reduceNe,Int.reduceLT,Int.reduceLE,Nat.reduceEqDiff,Nat.reduceAdd,reduceIte,reduceCtorEq,Nat.reduceLT,Nat.reduceLeDiff,eq_self,vcP2,Nat.reduceShiftRight,Nat.reduceMod]) | (with_reducible first | refine RnB.ii ?_ | refine RnB.app ?_) | (with_reducible refine RnB.fxB ?_;simp only [vcW,vcV,vcD,Int.reduceEq,Int.reduceNe,Int.reduceLT,Int.reduceLE,Nat.reduceEqDiff,Nat.reduceAdd,reduceIte,reduceCtorEq,Nat.reduceLT,Nat.reduceLeDiff,eq_self,vcP2,Nat.reduceShiftRight,Nat.reduceMod]) | omega)
        all_goals first | exact hia.symm | exact RnB.fxB (by rw [← hia];exact ints_fxB _) | exact RnB.wide | simp
end Go.Proofs.YtgmpcbpmnimkoaaGreatDoor

/- Contracts: wide numbers multiplied. By an AI agent;nothing here is trusted. -/
namespace Go.Proofs.YtgmpcbpmnimkoaaGreatDoor
open Go.Av

theorem mkOk_z (N:Nat):mkOk 1 (List.replicate N (AV.int .i64 0)):=by
  intro x hx
  rw [List.eq_of_mem_replicate hx]
  exact ⟨rfl,rfl,by decide⟩
theorem ints_z (n:Nat):List.replicate n (AV.int .i64 0)=ints (List.replicate n 0):=by simp [ints]
theorem ints_st (l:List Int) (k:Nat) (n:Int):(ints l).set k (.int .i64 n)=ints (l.set k n):=by simp [ints,List.map_set]
theorem dVal_set:∀ (l:List Int) (j:Nat) (x:Int) (h:j<l.length),dVal (l.set j x)=dVal l+1000000000 ^ j * (x - l[j])
  | d :: l,0,x,h=>by simp [dVal];omega
  | d :: l,j+1,x,h=>by
    rw [List.set_cons_succ,dVal,dVal_set l j x (by simpa using h),dVal,List.getElem_cons_succ,Int.pow_succ,Int.mul_add,← Int.mul_assoc,Int.mul_comm 1000000000 ((1000000000:Int) ^ j)];omega
theorem okD_set {l:List Int} (h:okD l) (j:Nat) {x:Int} (hx:0≤x∧x<1000000000):okD (l.set j x):=by
  intro d hd
  rcases List.mem_or_eq_of_mem_set hd with e | e
  · exact h d e
  · rw [e];exact hx
theorem dAt_set_ne {l:List Int} {i j:Nat} {x:Int} (h:i ≠ j):dAt (l.set i x) j=dAt l j:=by
  unfold dAt List.getD
  rw [List.getElem?_set_ne h]
theorem dVal_zeros (n:Nat):dVal (List.replicate n 0)=0:=by
  induction n with
  | zero=>rfl
  | succ n ih=>rw [List.replicate_succ,dVal,ih];rfl
theorem dAt_zeros (n j:Nat):dAt (List.replicate n 0) j=0:=by
  unfold dAt List.getD
  rw [List.getElem?_replicate];split <;> rfl
theorem mul_step {V P o m c s r q:Int} (hs:s=o+m+c) (hr:r+1000000000 * q=s):V+P * (r - o)+P * 1000000000 * q=V+P * c+P * m:=by
  have h1:P * (r - o)+P * 1000000000 * q=P * (r - o+1000000000 * q):=by rw [Int.mul_add,Int.mul_assoc]
  have h2:r - o+1000000000 * q=c+m:=by omega
  rw [h2,Int.mul_add] at h1
  omega
theorem dd_bound {a b:Int} (ha:0≤a∧a<1000000000) (hb:0≤b∧b<1000000000):0≤a * b∧a * b≤999999999 * 999999999 :=
  ⟨Int.mul_nonneg ha.1 hb.1,Int.mul_le_mul (by omega) (by omega) hb.1 (by omega)⟩

set_option maxHeartbeats 8000000 in
theorem WideMul_s (x y:Int) (hx:wOk 100000 x) (hy:wOk 100000 y):Sound Tryz.prog 20 [wideA x,wideA y] (wideA (x * y)):=by
  refine sound_W f_base_WideMul (Nat.le_of_ble_eq_true rfl) ?_
  unfold wOk at hx hy
  have hmax:=maxLen_big
  have hr:∀ v,wideA v=.agg [.int .i64 v.sign,.sl (ints (dg v.natAbs))]:=fun _=>rfl
  have hsg:∀ v:Int, -1≤v.sign∧v.sign≤1:=fun v=>by
    rcases Int.lt_trichotomy v 0 with h | h | h
    · rw [Int.sign_eq_neg_one_of_neg h];omega
    · rw [h];decide
    · rw [Int.sign_eq_one_of_pos h];omega
  have hs1:=hsg x
  have hs2:=hsg y
  have hsp : -1≤x.sign * y.sign∧x.sign * y.sign≤1:=by rw [← Int.sign_mul];exact hsg _
  have hfin:∀ l:List Int,okD l→l.length≤1000000000→dVal l=(x.natAbs:Int) * y.natAbs→Sound Tryz.prog 99 [.int .i64 (x.sign * y.sign),.sl (ints l)] (wideA (x * y)):=by
    intro l h1 h2 h3
    have hsgn:x.sign * y.sign * dVal l=x * y:=by
      rw [h3,Int.mul_assoc,← Int.mul_assoc y.sign,Int.mul_comm y.sign,Int.mul_assoc,Int.sign_mul_natAbs,← Int.mul_assoc,Int.sign_mul_natAbs]
    have:=wideOf_s (x.sign * y.sign) l h2 h1 (by
      by_cases q:x.sign * y.sign=0
      · refine .inr (.inr ⟨q,?_⟩)
        rcases Int.mul_eq_zero.1 q with e | e
        · rw [Int.sign_eq_zero_iff_zero] at e;rw [h3,e];simp
        · rw [Int.sign_eq_zero_iff_zero] at e;rw [h3,e];simp
      · omega)
    rw [hsgn] at this
    exact this
  have va:=dVal_dg x.natAbs
  have vb:=dVal_dg y.natAbs
  have oa:=okD_dg x.natAbs
  have ob:=okD_dg y.natAbs
  rw [← va,← vb] at hfin
  rw [hr x,hr y]
  generalize dg x.natAbs=a at *
  generalize dg y.natAbs=b at *
  generalize x.sign=sx at *
  generalize y.sign=sy at *
  obtain ⟨M,hM⟩:∃ M,M=a.length+b.length+1:=⟨_,rfl⟩
  have hMi:(a.length:Int)+b.length+1=(M:Int):=by omega
  rw [hr (x * y)] at hfin ⊢
  simp only [c_base_WideMul,hMi,vcV,vcD,Int.reduceEq,Int.reduceNe,Int.reduceLT,Int.reduceLE,Nat.reduceEqDiff,Nat.reduceAdd,reduceIte,reduceCtorEq,Nat.reduceLT,Nat.reduceLeDiff,eq_self,vcP2,Nat.reduceShiftRight,Nat.reduceMod]
  (repeat (with_reducible refine And.intro ?_ ?_;focus (first | omega | (unfold I64;omega))))
  refine ⟨mkOk_z _,?_⟩
  rw [ints_z]
  refine W_loop (t:=.mk) (α:=PSigma fun p:Nat × List Int=>p.1≤a.length∧okD p.2∧p.2.length=M∧dVal p.2=dPre a p.1 * dVal b∧(∀ j,p.1+b.length≤j→dAt p.2 j=0)) (fun x=>(envOf [(2,.ptr 2 0 0),(3,.ptr 3 0 0),(4,.ptr 4 0 0),(5,.buf 100 M),(6,.int .i64 x.1.1)],stOf [(2,⟨38,2,[.agg [.int .i64 sx,.sl (ints a)]]⟩),(3,⟨38,2,[.agg [.int .i64 sy,.sl (ints b)]]⟩),(4,⟨38,2,[.agg [.int .i64 0,.nils]]⟩),(100,⟨3,1,ints x.1.2⟩)])) (fun x=>a.length - x.1.1) ⟨(0,List.replicate M 0),Nat.zero_le _,(fun d hd=>by rw [List.eq_of_mem_replicate hd];omega),by simp,by rw [dVal_zeros];simp [dPre,dVal],fun j _=>dAt_zeros M j⟩ ?_ (fun ⟨⟨i,out⟩,hi,p1,p2,p3,p4⟩=>?_)
  · refine weakX [(100,some 18)] (of_decide_eq_true rfl) (of_decide_eq_true rfl) ?_
    (simp only [vcW,vcV,vcD,Int.reduceEq,Int.reduceNe,Int.reduceLT,Int.reduceLE,Nat.reduceEqDiff,Nat.reduceAdd,reduceIte,reduceCtorEq,Nat.reduceLT,Nat.reduceLeDiff,eq_self,vcP2,Nat.reduceShiftRight,Nat.reduceMod])
    repeat' (with_reducible refine And.intro ?_ ?_)
    any_goals (with_reducible exact RnB.wide)
    (repeat' first | exact trivial | (with_reducible first | exact RnB.fxB (ints_fxB _) | rfl | refine And.intro ?_ ?_) | (with_reducible (first | refine RnB.bb ?_ | refine RnB.nb ?_);simp only [vcW,vcV,vcD,Int.reduceEq,Int.reduceNe,Int.reduceLT,Int.reduceLE,Nat.reduceEqDiff,Nat.reduceAdd,reduceIte,reduceCtorEq,Nat.reduceLT,Nat.reduceLeDiff,eq_self,vcP2,Nat.reduceShiftRight,Nat.reduceMod]) | (with_reducible first | refine RnB.ii ?_ | refine RnB.app ?_) | (with_reducible refine RnB.fxB ?_;simp only [vcW,vcV,vcD,Int.reduceEq,Int.reduceNe,Int.reduceLT,Int.reduceLE,Nat.reduceEqDiff,Nat.reduceAdd,reduceIte,reduceCtorEq,Nat.reduceLT,Nat.reduceLeDiff,eq_self,vcP2,Nat.reduceShiftRight,Nat.reduceMod]) | omega)
  · simp only at hi p1 p2 p3 p4
    by_cases h':i<a.length
    · have hc1:(i:Int)<a.length:=by omega
      have qa:=oa _ (List.getElem_mem h')
      have ga:=ints_get a i h'
      have hpa:dPre a (i+1)=dPre a i+1000000000 ^ i * a[i]:=by rw [dPre_succ,dAt_lt h']
      generalize a[i]=ai at *
      simp only [hc1,vcV,vcD,Int.reduceEq,Int.reduceNe,Int.reduceLT,Int.reduceLE,Nat.reduceEqDiff,Nat.reduceAdd,reduceIte,reduceCtorEq,Nat.reduceLT,Nat.reduceLeDiff,eq_self,vcP2,Nat.reduceShiftRight,Nat.reduceMod]
      refine W_loop (t:=.mk) (α:=PSigma fun p:Nat × List Int × Int=>p.1≤b.length∧okD p.2.1∧p.2.1.length=M∧(0≤p.2.2∧p.2.2<1000000000)∧dVal p.2.1+1000000000 ^ (i+p.1) * p.2.2=dPre a i * dVal b+1000000000 ^ i * (ai * dPre b p.1)∧(∀ j,i+b.length≤j→dAt p.2.1 j=0)) (fun x=>(envOf [(2,.ptr 2 0 0),(3,.ptr 3 0 0),(4,.ptr 4 0 0),(5,.buf 100 M),(6,.int .i64 i),(7,.int .i64 x.1.2.2),(8,.int .i64 x.1.1)],stOf [(2,⟨38,2,[.agg [.int .i64 sx,.sl (ints a)]]⟩),(3,⟨38,2,[.agg [.int .i64 sy,.sl (ints b)]]⟩),(4,⟨38,2,[.agg [.int .i64 0,.nils]]⟩),(100,⟨3,1,ints x.1.2.1⟩)])) (fun x=>b.length - x.1.1) ⟨(0,out,0),Nat.zero_le _,p1,p2,⟨by simp only;omega,by simp only;omega⟩,by simp only;rw [p3];simp [dPre,dVal],p4⟩ ?_ (fun ⟨⟨k,w,c⟩,hk,r1,r2,r3,r4,r5⟩=>?_)
      · refine weakX [(100,some 100)] (of_decide_eq_true rfl) (of_decide_eq_true rfl) ?_
        (simp only [vcW,vcV,vcD,Int.reduceEq,Int.reduceNe,Int.reduceLT,Int.reduceLE,Nat.reduceEqDiff,Nat.reduceAdd,reduceIte,reduceCtorEq,Nat.reduceLT,Nat.reduceLeDiff,eq_self,vcP2,Nat.reduceShiftRight,Nat.reduceMod])
        repeat' (with_reducible refine And.intro ?_ ?_)
        any_goals (with_reducible exact RnB.wide)
        (repeat' first | exact trivial | (with_reducible first | exact RnB.fxB (ints_fxB _) | rfl | refine And.intro ?_ ?_) | (with_reducible (first | refine RnB.bb ?_ | refine RnB.nb ?_);simp only [vcW,vcV,vcD,Int.reduceEq,Int.reduceNe,Int.reduceLT,Int.reduceLE,Nat.reduceEqDiff,Nat.reduceAdd,reduceIte,reduceCtorEq,Nat.reduceLT,Nat.reduceLeDiff,eq_self,vcP2,Nat.reduceShiftRight,Nat.reduceMod]) | (with_reducible first | refine RnB.ii ?_ | refine RnB.app ?_) | (with_reducible refine RnB.fxB ?_;simp only [vcW,vcV,vcD,Int.reduceEq,Int.reduceNe,Int.reduceLT,Int.reduceLE,Nat.reduceEqDiff,Nat.reduceAdd,reduceIte,reduceCtorEq,Nat.reduceLT,Nat.reduceLeDiff,eq_self,vcP2,Nat.reduceShiftRight,Nat.reduceMod]) | omega)
      · simp only at hk r1 r2 r3 r4 r5
        by_cases hk':k<b.length
        · have hc2:(k:Int)<b.length:=by omega
          have qb:=ob _ (List.getElem_mem hk')
          have gb:=ints_get b k hk'
          have hpb:dPre b (k+1)=dPre b k+1000000000 ^ k * b[k]:=by rw [dPre_succ,dAt_lt hk']
          generalize b[k]=bk at *
          have hik:i+k<w.length:=by omega
          have hik2:(i:Int)+k=((i+k:Nat):Int):=by omega
          have qw:=r1 _ (List.getElem_mem hik)
          have gw:=ints_get w (i+k) hik
          have hset:=dVal_set w (i+k)
          have hdd:=dd_bound qa qb
          obtain ⟨S,hS⟩:∃ S,S=w[i+k]+ai * bk+c:=⟨_,rfl⟩
          have t1:S.tmod 1000000000=S % 1000000000:=Int.tmod_eq_emod_of_nonneg (by omega)
          have t2:S.tdiv 1000000000=S / 1000000000:=Int.tdiv_eq_ediv_of_nonneg (by omega)
          have n1:=okD_set r1 (i+k) (x:=S % 1000000000) ⟨by omega,by omega⟩
          have n2:(w.set (i+k) (S % 1000000000)).length=M:=by simp [r2]
          have n3:0≤S / 1000000000∧S / 1000000000<1000000000:=by omega
          have n4:dVal (w.set (i+k) (S % 1000000000))+1000000000 ^ (i+(k+1)) * (S / 1000000000)=dPre a i * dVal b+1000000000 ^ i * (ai * dPre b (k+1)):=by
            rw [hset _ hik,← Nat.add_assoc,Int.pow_succ,mul_step hS (by omega),r4,hpb,Int.mul_add ai,Int.mul_add (1000000000 ^ i),Int.pow_add]
            have:(1000000000:Int) ^ i * 1000000000 ^ k * (ai * bk)=1000000000 ^ i * (ai * (1000000000 ^ k * bk)):=by
              rw [Int.mul_assoc,← Int.mul_assoc (1000000000 ^ k),Int.mul_comm (1000000000 ^ k) ai,Int.mul_assoc]
            omega
          have n5:∀ j,i+b.length≤j→dAt (w.set (i+k) (S % 1000000000)) j=0:=fun j hj=>by rw [dAt_set_ne (by omega)];exact r5 j hj
          have hst:(ints w).set (i+k) (.int .i64 (S % 1000000000))=ints (w.set (i+k) (S % 1000000000)):=ints_st _ _ _
          generalize w[i+k]=wv at *
          simp only [hc2,hik2,ga,gb,gw,← hS,t1,t2,vcV,vcD,Int.reduceEq,Int.reduceNe,Int.reduceLT,Int.reduceLE,Nat.reduceEqDiff,Nat.reduceAdd,reduceIte,reduceCtorEq,Nat.reduceLT,Nat.reduceLeDiff,eq_self,vcP2,Nat.reduceShiftRight,Nat.reduceMod]
          (repeat (with_reducible refine And.intro ?_ ?_;focus (first | omega | (unfold I64;omega))))
          refine ⟨⟨(k+1,w.set (i+k) (S % 1000000000),S / 1000000000),hk',n1,n2,n3,n4,n5⟩,by simp only;omega,?_⟩
          refine weakX [(100,some 100)] (of_decide_eq_true rfl) (of_decide_eq_true rfl) ?_
          (simp only [vcW,vcV,vcD,Int.reduceEq,Int.reduceNe,Int.reduceLT,Int.reduceLE,Nat.reduceEqDiff,Nat.reduceAdd,reduceIte,reduceCtorEq,Nat.reduceLT,Nat.reduceLeDiff,eq_self,vcP2,Nat.reduceShiftRight,Nat.reduceMod])
          repeat' (with_reducible refine And.intro ?_ ?_)
          any_goals (with_reducible exact RnB.wide)
          (repeat' first | exact trivial | (with_reducible first | exact RnB.fxB (ints_fxB _) | rfl | refine And.intro ?_ ?_) | (with_reducible (first | refine RnB.bb ?_ | refine RnB.nb ?_);simp only [vcW,vcV,vcD,Int.reduceEq,Int.reduceNe,Int.reduceLT,Int.reduceLE,Nat.reduceEqDiff,Nat.reduceAdd,reduceIte,reduceCtorEq,Nat.reduceLT,Nat.reduceLeDiff,eq_self,vcP2,Nat.reduceShiftRight,Nat.reduceMod]) | (with_reducible first | refine RnB.ii ?_ | refine RnB.app ?_) | (with_reducible refine RnB.fxB ?_;simp only [vcW,vcV,vcD,Int.reduceEq,Int.reduceNe,Int.reduceLT,Int.reduceLE,Nat.reduceEqDiff,Nat.reduceAdd,reduceIte,reduceCtorEq,Nat.reduceLT,Nat.reduceLeDiff,eq_self,vcP2,Nat.reduceShiftRight,Nat.reduceMod]) | omega)
          all_goals exact RnB.eq hst (by rw [hst];exact ints_fxB _)
        · have hkl:k=b.length:=by omega
          have hc2:¬ (k:Int)<b.length:=by omega
          have hik:i+b.length<w.length:=by omega
          have hik2:(i:Int)+b.length=((i+b.length:Nat):Int):=by omega
          have w0:w[i+b.length]=0:=by rw [← dAt_lt hik];exact r5 _ (Nat.le_refl _)
          have gw:=ints_get w (i+b.length) hik
          rw [w0] at gw
          have hset:=dVal_set w (i+b.length) c hik
          rw [w0] at hset
          have n1:=okD_set r1 (i+b.length) r3
          have n2:(w.set (i+b.length) c).length=M:=by simp [r2]
          have n3:dVal (w.set (i+b.length) c)=dPre a (i+1) * dVal b:=by
            rw [hset,Int.sub_zero,← hkl,r4,hkl,dPre_all (Nat.le_refl b.length),hpa,Int.add_mul,Int.mul_assoc]
          have n4:∀ j,i+1+b.length≤j→dAt (w.set (i+b.length) c) j=0:=fun j hj=>by rw [dAt_set_ne (by omega)];exact r5 j (by omega)
          have hst:(ints w).set (i+b.length) (.int .i64 c)=ints (w.set (i+b.length) c):=ints_st _ _ _
          simp only [hc2,hik2,gw,Int.zero_add,vcV,vcD,Int.reduceEq,Int.reduceNe,Int.reduceLT,Int.reduceLE,Nat.reduceEqDiff,Nat.reduceAdd,reduceIte,reduceCtorEq,Nat.reduceLT,Nat.reduceLeDiff,eq_self,vcP2,Nat.reduceShiftRight,Nat.reduceMod]
          (repeat (with_reducible refine And.intro ?_ ?_;focus (first | omega | (unfold I64;omega))))
          refine ⟨⟨(i+1,w.set (i+b.length) c),h',n1,n2,n3,n4⟩,by simp only;omega,?_⟩
          refine weakX [(100,some 100)] (of_decide_eq_true rfl) (of_decide_eq_true rfl) ?_
          (simp only [vcW,vcV,vcD,Int.reduceEq,Int.reduceNe,Int.reduceLT,Int.reduceLE,Nat.reduceEqDiff,Nat.reduceAdd,reduceIte,reduceCtorEq,Nat.reduceLT,Nat.reduceLeDiff,eq_self,vcP2,Nat.reduceShiftRight,Nat.reduceMod])
          repeat' (with_reducible refine And.intro ?_ ?_)
          any_goals (with_reducible exact RnB.wide)
          (repeat' first | exact trivial | (with_reducible first | exact RnB.fxB (ints_fxB _) | rfl | refine And.intro ?_ ?_) | (with_reducible (first | refine RnB.bb ?_ | refine RnB.nb ?_);simp only [vcW,vcV,vcD,Int.reduceEq,Int.reduceNe,Int.reduceLT,Int.reduceLE,Nat.reduceEqDiff,Nat.reduceAdd,reduceIte,reduceCtorEq,Nat.reduceLT,Nat.reduceLeDiff,eq_self,vcP2,Nat.reduceShiftRight,Nat.reduceMod]) | (with_reducible first | refine RnB.ii ?_ | refine RnB.app ?_) | (with_reducible refine RnB.fxB ?_;simp only [vcW,vcV,vcD,Int.reduceEq,Int.reduceNe,Int.reduceLT,Int.reduceLE,Nat.reduceEqDiff,Nat.reduceAdd,reduceIte,reduceCtorEq,Nat.reduceLT,Nat.reduceLeDiff,eq_self,vcP2,Nat.reduceShiftRight,Nat.reduceMod]) | omega)
          all_goals exact RnB.eq hst (by rw [hst];exact ints_fxB _)
    · have hil:i=a.length:=by omega
      have hc1:¬ (i:Int)<a.length:=by omega
      rw [hil,dPre_all (Nat.le_refl _)] at p3
      have hw:=hfin out p1 (by omega) p3
      have hbg:=borB_good (s:=stOf [(2,⟨38,2,[.agg [.int .i64 sx,.sl (ints a)]]⟩),(3,⟨38,2,[.agg [.int .i64 sy,.sl (ints b)]]⟩),(4,⟨38,2,[.agg [.int .i64 0,.nils]]⟩),(100,⟨3,1,ints out⟩)]) 4 M 3 1 (ints out) (by rw [ints_length,p2]) (ints_fx _)
      have hsI:I64 (sx * sy):=by unfold I64;omega
      simp only [hc1,vcV,vcD,Int.reduceEq,Int.reduceNe,Int.reduceLT,Int.reduceLE,Nat.reduceEqDiff,Nat.reduceAdd,reduceIte,reduceCtorEq,Nat.reduceLT,Nat.reduceLeDiff,eq_self,vcP2,Nat.reduceShiftRight,Nat.reduceMod]
      (repeat (with_reducible refine And.intro ?_ ?_;focus (first | omega | (unfold I64;omega))))
      rw [hbg]
      refine callS_of hw ?_
      simp only [vcX,vcV,vcD,Int.reduceEq,Int.reduceNe,Int.reduceLT,Int.reduceLE,Nat.reduceEqDiff,Nat.reduceAdd,reduceIte,reduceCtorEq,Nat.reduceLT,Nat.reduceLeDiff,eq_self,vcP2,Nat.reduceShiftRight,Nat.reduceMod]
end Go.Proofs.YtgmpcbpmnimkoaaGreatDoor

/- Contracts: the model of charges,differences,both errors. By an AI agent;nothing here is trusted. -/
namespace Go.Proofs.YtgmpcbpmnimkoaaGreatDoor
open Go.Av

def oEnd (t ty sz:Nat) (es:List AV):Exit→Env→Store→Prop:=fun x e s=>(x=.normal∨x=.ret)∧ownV e s t ty sz es
theorem oEnd_n (t ty sz:Nat) (es:List AV) (e:Env) (s:Store):oEnd t ty sz es .normal e s=ownV e s t ty sz es:=propext ⟨fun h=>h.2,fun h=>⟨.inl rfl,h⟩⟩
theorem oEnd_r (t ty sz:Nat) (es:List AV) (e:Env) (s:Store):oEnd t ty sz es .ret e s=ownV e s t ty sz es:=propext ⟨fun h=>h.2,fun h=>⟨.inr rfl,h⟩⟩
theorem soundO_W {P:Program} {f:FuncId} {nt np t:Nat} {m:MC} (hF:cFun P f=some (nt,np,m,[(t,none)])) {args:List AV} (hla:args.length≤nt) {ty sz:Nat} {es:List AV} (hsz:0<sz)
    (h:W P nt m (oEnd t ty sz es) (argE args) noStore .mk):SoundO P f args ty sz es:=soundO_of hF hla hsz (W_sound h)
theorem ownV_i {e:Env} {s:Store} {t ty sz:Nat} {es:List AV} (k:Nat) (n:Nat) (h1:e t=.buf k n) (h2:n=es.length) (h3:s k=some (some ⟨ty,sz,es⟩)) (h4:es.all imm=true):ownV e s t ty sz es:=⟨k,by rw [← h2];exact h1,h3,h4⟩
theorem it_bd {items:List Int} (hi:∀ x ∈ items, -100≤x∧x≤100) (j:Nat) : -100≤items.getD j 0∧items.getD j 0≤100:=by
  by_cases h:j<items.length
  · rw [getD_at h];exact hi _ (List.getElem_mem h)
  · simp [List.getD,List.getElem?_eq_none (Nat.le_of_not_lt h)]
theorem ch_bd {ch:List Int} {C:Int} (hC:0≤C) (hc:∀ x ∈ ch, -C≤x∧x≤C) (k:Nat) : -C≤ch.getD k 0∧ch.getD k 0≤C:=by
  by_cases h:k<ch.length
  · rw [getD_at h];exact hc _ (List.getElem_mem h)
  · simp [List.getD,List.getElem?_eq_none (Nat.le_of_not_lt h)];omega
theorem mdT_bd {items ch:List Int} {C:Int} (hC:0≤C) (hi:∀ x ∈ items, -100≤x∧x≤100) (hc:∀ x ∈ ch, -C≤x∧x≤C) (n:Nat):∀ k, -(100 * C * k)≤mdT items ch n k∧mdT items ch n k≤100 * C * k
  | 0=>by simp [mdT]
  | k+1=>by
    have ih:=mdT_bd hC hi hc n k
    have h4:100 * C * ((k+1:Nat):Int)=100 * C * k+100 * C:=by rw [show ((k+1:Nat):Int)=(k:Int)+1 by omega,Int.mul_add,Int.mul_one]
    rw [mdT,h4]
    split
    · have:=prod_bd hC (it_bd hi (n - k)) (ch_bd hC hc k)
      rw [Int.mul_comm (items.getD (n - k) 0)] at this;omega
    · have:0≤100 * C:=by omega
      omega
theorem mdP_bd {items ch:List Int} {C:Int} (hC:0≤C) (hi:∀ x ∈ items, -100≤x∧x≤100) (hc:∀ x ∈ ch, -C≤x∧x≤C) (n k j:Nat) : -(100 * C * (k+1:Nat))≤mdP items ch n k j∧mdP items ch n k j≤100 * C * (k+1:Nat):=by
  have ih:=mdT_bd hC hi hc n k
  have h4:100 * C * ((k+1:Nat):Int)=100 * C * k+100 * C:=by rw [show ((k+1:Nat):Int)=(k:Int)+1 by omega,Int.mul_add,Int.mul_one]
  rw [mdP,h4]
  split
  · have:=prod_bd hC (it_bd hi (n - k)) (ch_bd hC hc k)
    rw [Int.mul_comm (items.getD (n - k) 0)] at this;omega
  · have:0≤100 * C:=by omega
    omega
theorem mdL_0 (items ch:List Int):mdL items ch 0 0=List.replicate (ch.length+items.length - 1) 0:=by
  apply List.ext_getElem
  · simp [mdL]
  · intro n h1 h2
    rw [mdL_get,mdP_0];simp [mdT]
theorem mdL_next (items ch:List Int) (k:Nat):mdL items ch k items.length=mdL items ch (k+1) 0:=by
  unfold mdL
  refine List.map_congr_left fun n _=>?_
  rw [mdP_next,mdP_0]
def mdA (items ch:List Int):List Int:=mdL items ch ch.length 0
theorem mdA_len (items ch:List Int):(mdA items ch).length=ch.length+items.length - 1:=mdL_len _ _ _ _
theorem mdA_get (items ch:List Int) {n:Nat} (h:n<(mdA items ch).length):(mdA items ch)[n]=mdT items ch n ch.length :=
  (mdL_get items ch ch.length 0 h).trans (mdP_0 _ _ _ _)
set_option maxHeartbeats 4000000 in
theorem model_s {items ch:List Int} (shifts:Int) {C:Int} (h1:1≤items.length) (h6:items.length≤6) (h8:ch.length≤8) (hC:0≤C∧C≤1000000000000) (hi:∀ x ∈ items, -100≤x∧x≤100) (hc:∀ x ∈ ch, -C≤x∧x≤C) :
    SoundO Tryz.prog 120 [tplA items shifts,.sl (ints ch)] 3 1 (ints (mdA items ch)):=by
  refine soundO_W f_pulse_model (Nat.le_of_ble_eq_true rfl) (by decide) ?_
  have hmax:=maxLen_big
  have hb:∀ n k j:Nat,k≤8 → -900000000000000≤mdP items ch n k j∧mdP items ch n k j≤900000000000000:=fun n k j hk=>by
    have h:=mdP_bd hC.1 hi hc n k j
    have h2:100 * C * ((k+1:Nat):Int)≤100000000000000 * 9:=Int.mul_le_mul (by omega) (by omega) (by omega) (by omega)
    omega
  obtain ⟨M,hM⟩:∃ M,M=ch.length+items.length - 1:=⟨_,rfl⟩
  have hMi:(ch.length:Int)+items.length - 1=(M:Int):=by omega
  simp only [c_pulse_model,tplA,hMi,vcV,vcD,Int.reduceEq,Int.reduceNe,Int.reduceLT,Int.reduceLE,Nat.reduceEqDiff,Nat.reduceAdd,reduceIte,reduceCtorEq,Nat.reduceLT,Nat.reduceLeDiff,eq_self,vcP2,Nat.reduceShiftRight,Nat.reduceMod]
  (repeat (with_reducible refine And.intro ?_ ?_;focus (first | omega | (unfold I64;omega))))
  refine ⟨mkOk_z _,?_⟩
  have hl0:mdL items ch 0 0=List.replicate M 0:=by rw [hM];exact mdL_0 _ _
  rw [ints_z,← hl0]
  refine W_loop (t:=.mk) (α:=PSigma fun i:Nat=>i≤ch.length) (fun ⟨i,_⟩=>(envOf [(2,.ptr 2 0 0),(5,.buf 100 M),(18,.sl (ints ch)),(19,.int .i64 ch.length),(20,.int .i64 i)],stOf [(2,⟨24,2,[.agg [.sl (ints items),.int .i64 shifts]]⟩),(100,⟨3,1,ints (mdL items ch i 0)⟩)])) (fun x=>ch.length - x.1) ⟨0,Nat.zero_le _⟩ ?_ (fun ⟨i,hin⟩=>?_)
  · refine weakX [(100,some 17)] (of_decide_eq_true rfl) (of_decide_eq_true rfl) ?_
    (simp only [vcW,vcV,vcD,Int.reduceEq,Int.reduceNe,Int.reduceLT,Int.reduceLE,Nat.reduceEqDiff,Nat.reduceAdd,reduceIte,reduceCtorEq,Nat.reduceLT,Nat.reduceLeDiff,eq_self,vcP2,Nat.reduceShiftRight,Nat.reduceMod])
    (repeat' first | exact trivial | (with_reducible first | exact RnB.fxB (ints_fxB _) | rfl | refine And.intro ?_ ?_) | (with_reducible (first | refine RnB.bb ?_ | refine RnB.nb ?_);simp only [vcW,vcV,vcD,Int.reduceEq,Int.reduceNe,Int.reduceLT,Int.reduceLE,Nat.reduceEqDiff,Nat.reduceAdd,reduceIte,reduceCtorEq,Nat.reduceLT,Nat.reduceLeDiff,eq_self,vcP2,Nat.reduceShiftRight,Nat.reduceMod]) | (with_reducible first | refine RnB.ii ?_ | refine RnB.app ?_) | (with_reducible refine RnB.fxB ?_;simp only [vcW,vcV,vcD,Int.reduceEq,Int.reduceNe,Int.reduceLT,Int.reduceLE,Nat.reduceEqDiff,Nat.reduceAdd,reduceIte,reduceCtorEq,Nat.reduceLT,Nat.reduceLeDiff,eq_self,vcP2,Nat.reduceShiftRight,Nat.reduceMod]) | omega)
  · dsimp only at hin ⊢
    by_cases h':i<ch.length
    · have hc1:(i:Int)<ch.length:=by omega
      simp only [hc1,ints_get ch i h',vcV,vcD,Int.reduceEq,Int.reduceNe,Int.reduceLT,Int.reduceLE,Nat.reduceEqDiff,Nat.reduceAdd,reduceIte,reduceCtorEq,Nat.reduceLT,Nat.reduceLeDiff,eq_self,vcP2,Nat.reduceShiftRight,Nat.reduceMod]
      (repeat (with_reducible refine And.intro ?_ ?_;focus (first | omega | (unfold I64;omega))))
      refine W_loop (t:=.mk) (α:=PSigma fun j:Nat=>j≤items.length) (fun ⟨j,_⟩=>(envOf [(2,.ptr 2 0 0),(5,.buf 100 M),(6,.int .i64 i),(7,.int .i64 ch[i]),(18,.sl (ints ch)),(19,.int .i64 ch.length),(20,.int .i64 i),(26,.sl (ints items)),(27,.int .i64 items.length),(28,.int .i64 j)],stOf [(2,⟨24,2,[.agg [.sl (ints items),.int .i64 shifts]]⟩),(100,⟨3,1,ints (mdL items ch i j)⟩)])) (fun x=>items.length - x.1) ⟨0,Nat.zero_le _⟩ ?_ (fun ⟨j,hjn⟩=>?_)
      · refine weakX [(100,some 100)] (of_decide_eq_true rfl) (of_decide_eq_true rfl) ?_
        (simp only [vcW,vcV,vcD,Int.reduceEq,Int.reduceNe,Int.reduceLT,Int.reduceLE,Nat.reduceEqDiff,Nat.reduceAdd,reduceIte,reduceCtorEq,Nat.reduceLT,Nat.reduceLeDiff,eq_self,vcP2,Nat.reduceShiftRight,Nat.reduceMod])
        (repeat' first | exact trivial | (with_reducible first | exact RnB.fxB (ints_fxB _) | rfl | refine And.intro ?_ ?_) | (with_reducible (first | refine RnB.bb ?_ | refine RnB.nb ?_);simp only [vcW,vcV,vcD,Int.reduceEq,Int.reduceNe,Int.reduceLT,Int.reduceLE,Nat.reduceEqDiff,Nat.reduceAdd,reduceIte,reduceCtorEq,Nat.reduceLT,Nat.reduceLeDiff,eq_self,vcP2,Nat.reduceShiftRight,Nat.reduceMod]) | (with_reducible first | refine RnB.ii ?_ | refine RnB.app ?_) | (with_reducible refine RnB.fxB ?_;simp only [vcW,vcV,vcD,Int.reduceEq,Int.reduceNe,Int.reduceLT,Int.reduceLE,Nat.reduceEqDiff,Nat.reduceAdd,reduceIte,reduceCtorEq,Nat.reduceLT,Nat.reduceLeDiff,eq_self,vcP2,Nat.reduceShiftRight,Nat.reduceMod]) | omega)
      · dsimp only at hjn ⊢
        by_cases h2:j<items.length
        · have hc2:(j:Int)<items.length:=by omega
          have hlen:=mdL_len items ch i j
          have hij:i+j<(mdL items ch i j).length:=by omega
          have hij2:(i:Int)+j=((i+j:Nat):Int):=by omega
          have b1:=hb (i+j) i j (by omega)
          have b2:=hb (i+j) i (j+1) (by omega)
          have hgl:=mdL_get items ch i j hij
          have hset:=mdL_set items ch (k:=i) (j:=j) (by omega)
          have hP:=mdP_succ items ch (i+j) i j
          rw [if_pos rfl] at hP
          rw [getD_at h',getD_at h2] at hset hP
          have hp:=prod_bd hC.1 (hi items[j] (List.getElem_mem h2)) (hc ch[i] (List.getElem_mem h'))
          rw [Int.mul_comm items[j]] at hp
          have gw:=ints_get (mdL items ch i j) (i+j) hij
          rw [hgl] at gw
          have hst:(ints (mdL items ch i j)).set (i+j) (.int .i64 (mdP items ch (i+j) i j+ch[i] * items[j]))=ints (mdL items ch i (j+1)):=by rw [ints_st,hset]
          have hlM:(i+j:Nat)<M:=by omega
          have hlM':((i+j:Nat):Int)<M:=by omega
          simp only [hc2,ints_get items j h2,hij2,gw,ints_length,hlen,vcV,vcD,Int.reduceEq,Int.reduceNe,Int.reduceLT,Int.reduceLE,Nat.reduceEqDiff,Nat.reduceAdd,reduceIte,reduceCtorEq,Nat.reduceLT,Nat.reduceLeDiff,eq_self,vcP2,Nat.reduceShiftRight,Nat.reduceMod]
          (repeat (with_reducible refine And.intro ?_ ?_;focus (first | omega | (unfold I64;omega))))
          refine ⟨⟨j+1,h2⟩,by simp only;omega,?_⟩
          refine weakX [(100,some 100)] (of_decide_eq_true rfl) (of_decide_eq_true rfl) ?_
          (simp only [vcW,vcV,vcD,Int.reduceEq,Int.reduceNe,Int.reduceLT,Int.reduceLE,Nat.reduceEqDiff,Nat.reduceAdd,reduceIte,reduceCtorEq,Nat.reduceLT,Nat.reduceLeDiff,eq_self,vcP2,Nat.reduceShiftRight,Nat.reduceMod])
          (repeat' first | exact trivial | (with_reducible first | exact RnB.fxB (ints_fxB _) | rfl | refine And.intro ?_ ?_) | (with_reducible (first | refine RnB.bb ?_ | refine RnB.nb ?_);simp only [vcW,vcV,vcD,Int.reduceEq,Int.reduceNe,Int.reduceLT,Int.reduceLE,Nat.reduceEqDiff,Nat.reduceAdd,reduceIte,reduceCtorEq,Nat.reduceLT,Nat.reduceLeDiff,eq_self,vcP2,Nat.reduceShiftRight,Nat.reduceMod]) | (with_reducible first | refine RnB.ii ?_ | refine RnB.app ?_) | (with_reducible refine RnB.fxB ?_;simp only [vcW,vcV,vcD,Int.reduceEq,Int.reduceNe,Int.reduceLT,Int.reduceLE,Nat.reduceEqDiff,Nat.reduceAdd,reduceIte,reduceCtorEq,Nat.reduceLT,Nat.reduceLeDiff,eq_self,vcP2,Nat.reduceShiftRight,Nat.reduceMod]) | omega)
          all_goals exact RnB.eq hst (by rw [hst];exact ints_fxB _)
        · have hjl:j=items.length:=by omega
          subst hjl
          have hc2:¬ (items.length:Int)<items.length:=by omega
          have hn:=mdL_next items ch i
          simp only [hc2,vcV,vcD,Int.reduceEq,Int.reduceNe,Int.reduceLT,Int.reduceLE,Nat.reduceEqDiff,Nat.reduceAdd,reduceIte,reduceCtorEq,Nat.reduceLT,Nat.reduceLeDiff,eq_self,vcP2,Nat.reduceShiftRight,Nat.reduceMod]
          (repeat (with_reducible refine And.intro ?_ ?_;focus (first | omega | (unfold I64;omega))))
          refine ⟨⟨i+1,h'⟩,by simp only;omega,?_⟩
          refine weakX [(100,some 100)] (of_decide_eq_true rfl) (of_decide_eq_true rfl) ?_
          (simp only [vcW,vcV,vcD,Int.reduceEq,Int.reduceNe,Int.reduceLT,Int.reduceLE,Nat.reduceEqDiff,Nat.reduceAdd,reduceIte,reduceCtorEq,Nat.reduceLT,Nat.reduceLeDiff,eq_self,vcP2,Nat.reduceShiftRight,Nat.reduceMod])
          (repeat' first | exact trivial | (with_reducible first | exact RnB.fxB (ints_fxB _) | rfl | refine And.intro ?_ ?_) | (with_reducible (first | refine RnB.bb ?_ | refine RnB.nb ?_);simp only [vcW,vcV,vcD,Int.reduceEq,Int.reduceNe,Int.reduceLT,Int.reduceLE,Nat.reduceEqDiff,Nat.reduceAdd,reduceIte,reduceCtorEq,Nat.reduceLT,Nat.reduceLeDiff,eq_self,vcP2,Nat.reduceShiftRight,Nat.reduceMod]) | (with_reducible first | refine RnB.ii ?_ | refine RnB.app ?_) | (with_reducible refine RnB.fxB ?_;simp only [vcW,vcV,vcD,Int.reduceEq,Int.reduceNe,Int.reduceLT,Int.reduceLE,Nat.reduceEqDiff,Nat.reduceAdd,reduceIte,reduceCtorEq,Nat.reduceLT,Nat.reduceLeDiff,eq_self,vcP2,Nat.reduceShiftRight,Nat.reduceMod]) | omega)
          all_goals exact RnB.eq (congrArg ints hn) (by rw [hn];exact ints_fxB _)
    · have hil:i=ch.length:=by omega
      subst hil
      have hc1:¬ (ch.length:Int)<ch.length:=by omega
      have hlM:M=(ints (mdA items ch)).length:=by rw [ints_length,mdA_len];exact hM
      simp only [hc1,oEnd_r,vcV,vcD,Int.reduceEq,Int.reduceNe,Int.reduceLT,Int.reduceLE,Nat.reduceEqDiff,Nat.reduceAdd,reduceIte,reduceCtorEq,Nat.reduceLT,Nat.reduceLeDiff,eq_self,vcP2,Nat.reduceShiftRight,Nat.reduceMod]
      exact ownV_i 100 M rfl hlM rfl (Go.Av.ints_imm _)
end Go.Proofs.YtgmpcbpmnimkoaaGreatDoor

/- The equations of ticks,in plain Lean. By an AI agent;nothing here is trusted. -/
namespace Go.Lin

def ticks (S:Nat) (p:Nat→Bool):List Nat:=(List.range S).filter p
theorem ticks_succ (S:Nat) (p:Nat→Bool):ticks (S+1) p=ticks S p ++ if p S then [S] else []:=by
  unfold ticks;rw [List.range_succ,List.filter_append];congr 1
  cases h:p S <;> simp [h]
theorem ticks_lt {S:Nat} {p:Nat→Bool} {k:Nat} (h:k ∈ ticks S p):k<S∧p k=true:=by
  unfold ticks at h;rw [List.mem_filter,List.mem_range] at h;exact h
theorem getD_app_l {l m:List Nat} {i d:Nat} (h:i<l.length):(l ++ m).getD i d=l.getD i d:=by simp [List.getD,List.getElem?_append_left h]
theorem getD_last {l:List Nat} {x d:Nat}:(l ++ [x]).getD l.length d=x:=by simp [List.getD]
theorem sm_ticks {p:Nat→Bool} {f:Nat→Rat}:∀ S,(∀ k,k<S→p k=false→f k=0)→sm S f=sm (ticks S p).length fun i=>f ((ticks S p).getD i 0)
  | 0,_=>rfl
  | S+1,h=>by
    have ih:=sm_ticks (p:=p) (f:=f) S fun k hk=>h k (by omega)
    rw [sm_succ,ticks_succ]
    cases hp:p S with
    | true =>
      simp only [if_true,List.length_append,List.length_singleton]
      rw [sm_succ,getD_last,ih]
      congr 1
      exact sm_congr fun i hi=>by rw [getD_app_l hi]
    | false =>
      simp only [Bool.false_eq_true,if_false,List.append_nil]
      rw [h S (by omega) hp,ih];grind
theorem ticks_getD {S:Nat} {p:Nat→Bool} {i:Nat} (h:i<(ticks S p).length):(ticks S p).getD i 0 ∈ ticks S p:=by
  rw [List.getD_eq_getElem?_getD,List.getElem?_eq_getElem h];exact List.getElem_mem h
theorem ticks_asc {p:Nat→Bool}:∀ {S r c:Nat},r<c→c<(ticks S p).length→(ticks S p).getD r 0<(ticks S p).getD c 0
  | 0,r,c,_,hc=>by simp [ticks] at hc
  | S+1,r,c,h,hc=>by
    rw [ticks_succ] at hc ⊢
    cases hp:p S with
    | true =>
      simp only [hp,if_true,List.length_append,List.length_singleton] at hc ⊢
      by_cases e:c=(ticks S p).length
      · subst e
        rw [getD_last,getD_app_l h]
        exact (ticks_lt (ticks_getD h)).1
      · rw [getD_app_l (by omega),getD_app_l (by omega)]
        exact ticks_asc h (by omega)
    | false =>
      simp only [hp,Bool.false_eq_true,if_false,List.append_nil] at hc ⊢
      exact ticks_asc h hc
def tix (p:Nat→Bool) (k:Nat):Nat:=(ticks k p).length
theorem ticks_at {p:Nat→Bool}:∀ {S k:Nat},k<S→p k=true→tix p k<(ticks S p).length∧(ticks S p).getD (tix p k) 0=k
  | 0,k,h,_=>by omega
  | S+1,k,h,hp=>by
    rw [ticks_succ]
    by_cases e:k=S
    · subst e
      simp only [hp,if_true,List.length_append,List.length_singleton]
      exact ⟨by unfold tix;omega,getD_last⟩
    · obtain ⟨h1,h2⟩:=ticks_at (S:=S) (k:=k) (by omega) hp
      exact ⟨by rw [List.length_append];omega,by rw [getD_app_l h1];exact h2⟩
theorem tix_ticks {S:Nat} {p:Nat→Bool} {i:Nat} (h:i<(ticks S p).length):tix p ((ticks S p).getD i 0)=i:=by
  have hm:=ticks_lt (ticks_getD h)
  obtain ⟨h1,h2⟩:=ticks_at hm.1 hm.2
  rcases Nat.lt_trichotomy (tix p ((ticks S p).getD i 0)) i with g | g | g
  · have:=ticks_asc g h;omega
  · exact g
  · have:=ticks_asc g h1;omega

section
variable (items:List Int) (S:Nat) (s:Nat→Rat)
def rhs (k:Nat):Rat:=sm (S+items.length - 1) fun n=>s n * ((itm items n k:Int):Rat)
def eqA (T:List Nat) (r c:Nat):Rat:=((gr items (S+items.length - 1) (T.getD r 0) (T.getD c 0):Int):Rat)
variable {items S s}

theorem grad_eq (x:Nat→Rat) (k:Nat):grad items S (S+items.length - 1) s x k=rhs items S s k - sm S fun m=>((gr items (S+items.length - 1) k m:Int):Rat) * x m:=by
  unfold grad rhs
  have e:∀ n,(s n - md items S x n) * ((itm items n k:Int):Rat)=s n * ((itm items n k:Int):Rat) - sm S fun m=>x m * (((itm items n k:Int):Rat) * ((itm items n m:Int):Rat)):=fun n=>by
    have:(sm S fun m=>x m * (((itm items n k:Int):Rat) * ((itm items n m:Int):Rat)))=sm S fun m=>((itm items n k:Int):Rat) * (x m * ((itm items n m:Int):Rat)):=sm_congr fun m _=>by grind
    rw [this,sm_mul];unfold md;grind
  simp only [e]
  rw [sm_sub,sm_swap]
  congr 1
  refine sm_congr fun m _=>?_
  rw [sm_mul,gr,smI_cast,Rat.mul_comm]
  congr 1
  exact sm_congr fun n _=>(Rat.intCast_mul _ _).symm
def spread (p:Nat→Bool) (y:Nat→Rat) (k:Nat):Rat:=if p k then y (tix p k) else 0
theorem spread_sum (p:Nat→Bool) (y g:Nat→Rat):sm S (fun m=>g m * spread p y m)=sm (ticks S p).length fun c=>g ((ticks S p).getD c 0) * y c:=by
  rw [sm_ticks (p:=p) S (fun k _ hp=>by unfold spread;rw [hp];simp only [Bool.false_eq_true,if_false];grind)]
  refine sm_congr fun c hc=>?_
  unfold spread
  rw [(ticks_lt (ticks_getD hc)).2,if_pos rfl,tix_ticks hc]
theorem spread_grad {p:Nat→Bool} {y:Nat→Rat} (hy:∀ r,r<(ticks S p).length→sm (ticks S p).length (fun c=>eqA items S (ticks S p) r c * y c)=rhs items S s ((ticks S p).getD r 0))
    {k:Nat} (hk:k<S) (hp:p k=true):grad items S (S+items.length - 1) s (spread p y) k=0:=by
  obtain ⟨h1,h2⟩:=ticks_at hk hp
  rw [grad_eq,spread_sum]
  have:=hy _ h1
  unfold eqA at this
  rw [h2] at this
  rw [this];grind
theorem eqA_posD (hne:∃ x ∈ items,x ≠ 0) (p:Nat→Bool):posD (ticks S p).length (eqA items S (ticks S p)) :=
  gram_posD hne (fun r hr=>(ticks_lt (ticks_getD hr)).1) (fun r c h hc=>ticks_asc h hc)
theorem spread_best {p:Nat→Bool} {y:Nat→Rat} (hy:∀ r,r<(ticks S p).length→sm (ticks S p).length (fun c=>eqA items S (ticks S p) r c * y c)=rhs items S s ((ticks S p).getD r 0)) :
    best items S (S+items.length - 1) s (spread p y) ↔ ∀ k,k<S→0≤spread p y k∧grad items S (S+items.length - 1) s (spread p y) k≤0:=by
  constructor
  · exact fun h k hk=>⟨(h k hk).1,(h k hk).2.1⟩
  · intro h k hk
    refine ⟨(h k hk).1,(h k hk).2,?_⟩
    cases hp:p k with
    | true=>rw [spread_grad hy hk hp];grind
    | false=>unfold spread;rw [hp];simp only [Bool.false_eq_true,if_false];grind
end
end Go.Lin

/- Contracts: differences,both errors,the fit that is accepted. By an AI agent;nothing here is trusted. -/
namespace Go.Proofs.YtgmpcbpmnimkoaaGreatDoor
open Go.Av

theorem CallsF.mono {P:Program} {f:FuncId} {args:Array Value} {w:World} {R R':Value→World→Prop} (h:CallsF P f args w R) (hr:∀ v w',R v w'→R' v w'):CallsF P f args w R':=by
  rcases h with ⟨v,w',h1,h2⟩ | ⟨h1,h2⟩
  · exact .inl ⟨v,w',h1,hr v w' h2⟩
  · exact .inr ⟨h1,h2.mono fun e w' ⟨v,he,hv⟩=>⟨v,he,hr v w' hv⟩⟩
theorem SoundO.sl {P:Program} {f:FuncId} {args:List AV} {ty sz:Nat} {es:List AV} (h:SoundO P f args ty sz es) (hi:∀ x ∈ es,imm x=true):Sound P f args (.sl es):=by
  intro w ok cargs hok hG hl ha
  refine CallsF.mono (h.2 w ok cargs hok hG hl ha) fun cv w' ⟨hb,ho⟩=>⟨hb,?_⟩
  rcases ho with ⟨rfl,a,rfl⟩ | ⟨b,cap,cur,rfl,h1,h2,h3,h4,h5,h6⟩
  · exact .sl0 _ _
  · refine .sl es b 0 sz cap cur ty (0,0) (fun i o=>cur.getD (i * sz+o) undef) (.inr ⟨h1,(Array.getElem?_eq_some_iff.1 h2).1⟩) h3 h2 (fun i x hx=>⟨(h6 i x hx).1,(h6 i x hx).2.1,hi x (List.mem_of_getElem? hx)⟩) (fun i x o c hx hc=>?_) (fun i x o c hx hc=>?_)
    · obtain ⟨cv,p,q⟩:=(h6 i x hx).2.2 o c hc
      rw [Nat.zero_add,p]
      simp [Array.getD_eq_getD_getElem?,p]
    · obtain ⟨cv,p,q⟩:=(h6 i x hx).2.2 o c hc
      have:cur.getD (i * sz+o) undef=cv:=by simp [Array.getD_eq_getD_getElem?,p]
      rw [this]
      exact q.mono (fun _ h=>h.1) (fun _ _=>rfl) (Goes.empty _ _ _ _ _)
theorem ints_immM (l:List Int):∀ x ∈ ints l,imm x=true:=fun x hx=>by
  obtain ⟨n,_,rfl⟩:=List.mem_map.1 hx;rfl

theorem ownS_ints (l:List Int) (ks:List Nat) (s:Store):ownS (ints l) ks s=s:=by
  have:scalE (ints l)=true:=List.all_eq_true.2 fun x hx=>by
    obtain ⟨n,_,rfl⟩:=List.mem_map.1 hx;rfl
  unfold ownS;rw [if_pos this]
def dfL (items l ch:List Int) (den:Int):List Int:=(List.range (mdA items ch).length).map fun n=>l.getD n 0 * den - mdT items ch n ch.length
def dfK (items l ch:List Int) (den:Int) (i:Nat):List Int:=(List.range (mdA items ch).length).map fun n=>if n<i then l.getD n 0 * den - mdT items ch n ch.length else mdT items ch n ch.length
theorem dfL_len (items l ch:List Int) (den:Int):(dfL items l ch den).length=(mdA items ch).length:=by simp [dfL]
theorem dfK_len (items l ch:List Int) (den:Int) (i:Nat):(dfK items l ch den i).length=(mdA items ch).length:=by simp [dfK]
theorem dfK_0 (items l ch:List Int) (den:Int):dfK items l ch den 0=mdA items ch:=by
  apply List.ext_getElem
  · exact dfK_len _ _ _ _ _
  · intro n h1 h2;rw [mdA_get];simp [dfK]
theorem dfK_set (items l ch:List Int) (den:Int) {i:Nat} (h:i<(mdA items ch).length):(dfK items l ch den i).set i (l.getD i 0 * den - mdT items ch i ch.length)=dfK items l ch den (i+1):=by
  apply List.ext_getElem
  · rw [List.length_set,dfK_len,dfK_len]
  · intro n h1 h2
    rw [List.getElem_set]
    simp only [dfK,List.getElem_map,List.getElem_range]
    by_cases e:i=n
    · subst e;rw [if_pos rfl,if_pos (by omega)]
    · rw [if_neg e]
      by_cases e2:n<i
      · rw [if_pos e2,if_pos (by omega)]
      · rw [if_neg e2,if_neg (by omega)]
theorem dfK_all (items l ch:List Int) (den:Int) {i:Nat} (h:(mdA items ch).length≤i):dfK items l ch den i=dfL items l ch den:=by
  unfold dfK dfL
  refine List.map_congr_left fun n hn=>?_
  rw [List.mem_range] at hn
  rw [if_pos (by omega)]
theorem dfK_at (items l ch:List Int) (den:Int) {i:Nat} (h:i<(dfK items l ch den i).length):(dfK items l ch den i)[i]=mdT items ch i ch.length:=by simp [dfK]

structure FitIn (items l:List Int) (shifts:Int) (ch:List Int) (den:Int):Prop where
  i1:1≤items.length
  i6:items.length≤6
  ib:∀ x ∈ items, -100≤x∧x≤100
  ne:∃ x ∈ items,x ≠ 0
  s5:1≤shifts∧shifts≤5
  lb:∀ x ∈ l, -10000≤x∧x≤10000
  ll:(l.length:Int)=shifts+items.length - 1
  cl:(ch.length:Int)=shifts
  cb:∀ x ∈ ch,0≤x∧x≤1000000000000
  db:1≤den∧den≤1000000000000

theorem FitIn.cb2 {items l:List Int} {shifts:Int} {ch:List Int} {den:Int} (h:FitIn items l shifts ch den):∀ x ∈ ch, -1000000000000≤x∧x≤1000000000000:=fun x hx=>⟨by have:=(h.cb x hx).1;omega,(h.cb x hx).2⟩
theorem FitIn.mlen {items l:List Int} {shifts:Int} {ch:List Int} {den:Int} (h:FitIn items l shifts ch den):(mdA items ch).length=l.length:=by
  have:=h.ll;have:=h.cl;have:=h.i1;rw [mdA_len];omega
theorem FitIn.l10 {items l:List Int} {shifts:Int} {ch:List Int} {den:Int} (h:FitIn items l shifts ch den):l.length≤10:=by
  have:=h.ll;have:=h.i6;have:=h.s5;omega
theorem FitIn.mb {items l:List Int} {shifts:Int} {ch:List Int} {den:Int} (h:FitIn items l shifts ch den) (n:Nat) : -500000000000000≤mdT items ch n ch.length∧mdT items ch n ch.length≤500000000000000:=by
  have h1:=mdT_bd (C:=1000000000000) (by omega) h.ib h.cb2 n ch.length
  have h2:=h.cl;have h3:=h.s5
  omega
theorem FitIn.lb2 {items l:List Int} {shifts:Int} {ch:List Int} {den:Int} (h:FitIn items l shifts ch den) (n:Nat) : -10000≤l.getD n 0∧l.getD n 0≤10000:=by
  by_cases hn:n<l.length
  · rw [getD_at hn];exact h.lb _ (List.getElem_mem hn)
  · simp [List.getD,List.getElem?_eq_none (Nat.le_of_not_lt hn)]
theorem FitIn.pb {items l:List Int} {shifts:Int} {ch:List Int} {den:Int} (h:FitIn items l shifts ch den) (n:Nat) : -10000000000000000≤l.getD n 0 * den∧l.getD n 0 * den≤10000000000000000:=by
  have h1:=h.lb2 n
  have h2:=h.db
  have:=mul_abs (s:=l.getD n 0) (k:=den) (M:=10000) (K:=1000000000000) ⟨by omega,h2.2⟩ (by omega) h1
  omega
theorem FitIn.dfb {items l:List Int} {shifts:Int} {ch:List Int} {den:Int} (h:FitIn items l shifts ch den):∀ x ∈ dfL items l ch den, -10500000000000000≤x∧x≤10500000000000000:=by
  intro x hx
  unfold dfL at hx
  obtain ⟨n,_,rfl⟩:=List.mem_map.1 hx
  have h1:=h.pb n
  have h2:=h.mb n
  omega

theorem differences_o {items l:List Int} {shifts:Int} {ch:List Int} {den:Int} (h:FitIn items l shifts ch den) :
    SoundO Tryz.prog 105 [tplA items shifts,.sl (ints l),fitA den ch] 3 1 (ints (dfL items l ch den)):=by
  refine soundO_W f_pulse_differences (Nat.le_of_ble_eq_true rfl) (by decide) ?_
  have hm:=model_s shifts h.i1 h.i6 (by have:=h.cl;have:=h.s5;omega) (C:=1000000000000) (by omega) h.ib h.cb2
  have hml:=h.mlen
  have hl10:=h.l10
  unfold tplA at hm
  have hmax:=maxLen_big
  simp only [c_pulse_differences,tplA,fitA,vcV,vcD,Int.reduceEq,Int.reduceNe,Int.reduceLT,Int.reduceLE,Nat.reduceEqDiff,Nat.reduceAdd,reduceIte,reduceCtorEq,Nat.reduceLT,Nat.reduceLeDiff,eq_self,vcP2,Nat.reduceShiftRight,Nat.reduceMod]
  refine callS_own hm rfl ?_
  simp only [ownS_ints,ints_length,hml,vcV,vcD,Int.reduceEq,Int.reduceNe,Int.reduceLT,Int.reduceLE,Nat.reduceEqDiff,Nat.reduceAdd,reduceIte,reduceCtorEq,Nat.reduceLT,Nat.reduceLeDiff,eq_self,vcP2,Nat.reduceShiftRight,Nat.reduceMod]
  rw [← dfK_0 items l ch den]
  refine W_loop (t:=.mk) (α:=PSigma fun i:Nat=>i≤l.length) (fun ⟨i,_⟩=>(envOf [(5,.ptr 5 0 0),(7,.buf 100 l.length),(14,.sl (ints l)),(15,.int .i64 l.length),(16,.int .i64 i)],stOf [(5,⟨29,2,[.agg [.int .i64 den,.sl (ints ch)]]⟩),(100,⟨3,1,ints (dfK items l ch den i)⟩)])) (fun x=>l.length - x.1) ⟨0,Nat.zero_le _⟩ ?_ (fun ⟨i,hin⟩=>?_)
  · refine weakX [(100,some 13)] (of_decide_eq_true rfl) (of_decide_eq_true rfl) ?_
    (simp only [vcW,vcV,vcD,Int.reduceEq,Int.reduceNe,Int.reduceLT,Int.reduceLE,Nat.reduceEqDiff,Nat.reduceAdd,reduceIte,reduceCtorEq,Nat.reduceLT,Nat.reduceLeDiff,eq_self,vcP2,Nat.reduceShiftRight,Nat.reduceMod])
    (repeat' first | exact trivial | (with_reducible first | exact RnB.fxB (ints_fxB _) | rfl | refine And.intro ?_ ?_) | (with_reducible (first | refine RnB.bb ?_ | refine RnB.nb ?_);simp only [vcW,vcV,vcD,Int.reduceEq,Int.reduceNe,Int.reduceLT,Int.reduceLE,Nat.reduceEqDiff,Nat.reduceAdd,reduceIte,reduceCtorEq,Nat.reduceLT,Nat.reduceLeDiff,eq_self,vcP2,Nat.reduceShiftRight,Nat.reduceMod]) | (with_reducible first | refine RnB.ii ?_ | refine RnB.app ?_) | (with_reducible refine RnB.fxB ?_;simp only [vcW,vcV,vcD,Int.reduceEq,Int.reduceNe,Int.reduceLT,Int.reduceLE,Nat.reduceEqDiff,Nat.reduceAdd,reduceIte,reduceCtorEq,Nat.reduceLT,Nat.reduceLeDiff,eq_self,vcP2,Nat.reduceShiftRight,Nat.reduceMod]) | omega)
  · dsimp only at hin ⊢
    have hlen:=dfK_len items l ch den i
    by_cases h':i<l.length
    · have hc1:(i:Int)<l.length:=by omega
      have hi2:i<(dfK items l ch den i).length:=by omega
      have gw:=ints_get (dfK items l ch den i) i hi2
      rw [dfK_at] at gw
      have b1:=h.pb i
      have b2:=h.mb i
      have hst:(ints (dfK items l ch den i)).set i (.int .i64 (l[i] * den - mdT items ch i ch.length))=ints (dfK items l ch den (i+1)):=by
        rw [ints_st,← dfK_set items l ch den (by omega),getD_at h']
      rw [getD_at h'] at b1
      simp only [hc1,ints_get l i h',gw,ints_length,hlen,hml,vcV,vcD,Int.reduceEq,Int.reduceNe,Int.reduceLT,Int.reduceLE,Nat.reduceEqDiff,Nat.reduceAdd,reduceIte,reduceCtorEq,Nat.reduceLT,Nat.reduceLeDiff,eq_self,vcP2,Nat.reduceShiftRight,Nat.reduceMod]
      (repeat (with_reducible refine And.intro ?_ ?_;focus (first | omega | (unfold I64;omega))))
      refine ⟨⟨i+1,h'⟩,by simp only;omega,?_⟩
      refine weakX [(100,some 100)] (of_decide_eq_true rfl) (of_decide_eq_true rfl) ?_
      (simp only [vcW,vcV,vcD,Int.reduceEq,Int.reduceNe,Int.reduceLT,Int.reduceLE,Nat.reduceEqDiff,Nat.reduceAdd,reduceIte,reduceCtorEq,Nat.reduceLT,Nat.reduceLeDiff,eq_self,vcP2,Nat.reduceShiftRight,Nat.reduceMod])
      (repeat' first | exact trivial | (with_reducible first | exact RnB.fxB (ints_fxB _) | rfl | refine And.intro ?_ ?_) | (with_reducible (first | refine RnB.bb ?_ | refine RnB.nb ?_);simp only [vcW,vcV,vcD,Int.reduceEq,Int.reduceNe,Int.reduceLT,Int.reduceLE,Nat.reduceEqDiff,Nat.reduceAdd,reduceIte,reduceCtorEq,Nat.reduceLT,Nat.reduceLeDiff,eq_self,vcP2,Nat.reduceShiftRight,Nat.reduceMod]) | (with_reducible first | refine RnB.ii ?_ | refine RnB.app ?_) | (with_reducible refine RnB.fxB ?_;simp only [vcW,vcV,vcD,Int.reduceEq,Int.reduceNe,Int.reduceLT,Int.reduceLE,Nat.reduceEqDiff,Nat.reduceAdd,reduceIte,reduceCtorEq,Nat.reduceLT,Nat.reduceLeDiff,eq_self,vcP2,Nat.reduceShiftRight,Nat.reduceMod]) | omega)
      all_goals exact RnB.eq hst (by rw [hst];exact ints_fxB _)
    · have hil:i=l.length:=by omega
      subst hil
      have hc1:¬ (l.length:Int)<l.length:=by omega
      have hall:=dfK_all items l ch den (i:=l.length) (by omega)
      have hE:l.length=(ints (dfL items l ch den)).length:=by rw [ints_length,dfL_len,hml]
      simp only [hc1,oEnd_n,oEnd_r,hall,vcV,vcD,Int.reduceEq,Int.reduceNe,Int.reduceLT,Int.reduceLE,Nat.reduceEqDiff,Nat.reduceAdd,reduceIte,reduceCtorEq,Nat.reduceLT,Nat.reduceLeDiff,eq_self,vcP2,Nat.reduceShiftRight,Nat.reduceMod]
      exact ownV_i 100 l.length rfl hE rfl (Go.Av.ints_imm _)
theorem differences_s {items l:List Int} {shifts:Int} {ch:List Int} {den:Int} (h:FitIn items l shifts ch den) :
    Sound Tryz.prog 105 [tplA items shifts,.sl (ints l),fitA den ch] (.sl (ints (dfL items l ch den))):=SoundO.sl (differences_o h) (ints_immM _)

def beE (items:List Int) (shifts:Int) (l:List Int) (den:Int) (ch:List Int):Int:=if fdE items shifts l ≠ 0 then fdE items shifts l else if fE den ch ≠ 0 then fE den ch else if (ch.length:Int)=shifts then 0 else 10
theorem beE_ok {items:List Int} {shifts:Int} {l:List Int} {den:Int} {ch:List Int} (h:beE items shifts l den ch=0):FitIn items l shifts ch den:=by
  unfold beE at h
  split at h
  · rename_i h1;exact absurd h h1
  · rename_i h1
    split at h
    · rename_i h2;exact absurd h h2
    · rename_i h2
      split at h
      · rename_i h3
        have h1':fdE items shifts l=0:=by omega
        have h2':fE den ch=0:=by omega
        unfold fdE at h1'
        split at h1'
        · rename_i g;exact absurd h1' g
        · rename_i g
          split at h1'
          · rename_i g2;exact absurd h1' g2
          · rename_i g2
            split at h1'
            · rename_i g3
              obtain ⟨⟨a1,a2⟩,a3,a4,a5⟩:=teE_ok (items:=items) (shifts:=shifts) (by omega)
              obtain ⟨b1,b2,b3⟩:=fE_ok h2'
              have hs:smE l=0:=by omega
              exact ⟨a1,a2,a3,a4,a5,(smE_ok hs).2.2,g3,h3,b3,b1⟩
            · cases h1'
      · cases h
theorem bothErr_s (items:List Int) (shifts:Int) (l:List Int) (den:Int) (ch:List Int) (h1:items.length<4000000000000000000) (h2:l.length<4000000000000000000) (h3:ch.length<4000000000000000000) :
    Sound Tryz.prog 104 [tplA items shifts,.sl (ints l),fitA den ch] (.int .i64 (beE items shifts l den ch)):=by
  refine sound_W f_pulse_bothErr (Nat.le_of_ble_eq_true rfl) ?_
  have hF:=fittedErr_s items shifts l h1 h2
  have hG:=fitErr_s den ch h3
  unfold tplA at hF
  unfold fitA at hG
  simp only [c_pulse_bothErr,tplA,fitA,vcV,vcD,Int.reduceEq,Int.reduceNe,Int.reduceLT,Int.reduceLE,Nat.reduceEqDiff,Nat.reduceAdd,reduceIte,reduceCtorEq,Nat.reduceLT,Nat.reduceLeDiff,eq_self,vcP2,Nat.reduceShiftRight,Nat.reduceMod]
  refine callS_of hF ?_
  simp only [vcV,vcD,Int.reduceEq,Int.reduceNe,Int.reduceLT,Int.reduceLE,Nat.reduceEqDiff,Nat.reduceAdd,reduceIte,reduceCtorEq,Nat.reduceLT,Nat.reduceLeDiff,eq_self,vcP2,Nat.reduceShiftRight,Nat.reduceMod]
  refine callS_of hG ?_
  simp only [vcV,vcD,Int.reduceEq,Int.reduceNe,Int.reduceLT,Int.reduceLE,Nat.reduceEqDiff,Nat.reduceAdd,reduceIte,reduceCtorEq,Nat.reduceLT,Nat.reduceLeDiff,eq_self,vcP2,Nat.reduceShiftRight,Nat.reduceMod]
  refine callS_of (unless_s _ _) ?_
  simp only [vcV,vcD,Int.reduceEq,Int.reduceNe,Int.reduceLT,Int.reduceLE,Nat.reduceEqDiff,Nat.reduceAdd,reduceIte,reduceCtorEq,Nat.reduceLT,Nat.reduceLeDiff,eq_self,vcP2,Nat.reduceShiftRight,Nat.reduceMod]
  refine callS_of (first3_s _ _ _) ?_
  simp only [vcV,vcD,Int.reduceEq,Int.reduceNe,Int.reduceLT,Int.reduceLE,Nat.reduceEqDiff,Nat.reduceAdd,reduceIte,reduceCtorEq,Nat.reduceLT,Nat.reduceLeDiff,eq_self,vcP2,Nat.reduceShiftRight,Nat.reduceMod]
  refine ⟨by intro _ k hk;simp [refsL,refs,upd] at hk;subst hk;simp [upd],?_⟩
  unfold beE
  by_cases e:(ch.length:Int)=shifts <;> simp [e]
end Go.Proofs.YtgmpcbpmnimkoaaGreatDoor

/- Contracts: which fit is accepted. By an AI agent;nothing here is trusted. -/
namespace Go.Proofs.YtgmpcbpmnimkoaaGreatDoor
open Go.Av

def gcF (den:Int) (ch:List Int):Nat:=Lin.gcds den.natAbs (ch.map Int.natAbs)
end Go.Proofs.YtgmpcbpmnimkoaaGreatDoor

/- The contract of bits.Div64,the first digit and the whole. By an AI agent;nothing here is trusted. -/
namespace Go.Proofs.YtgmpcbpmnimkoaaGreatDoor
open Go.Av

theorem div_mid {e:Env} {s:Store} {Y k yn1 yn0 U un1 un0 q1 u21:Nat} {v:AV} (h2:e 2=.int .u64 Y) (h8:e 8=.int .u64 k) (h9:e 9=.int .u64 yn1) (h10:e 10=.int .u64 yn0) (h11:e 11=.int .u64 U) (h13:e 13=.int .u64 un1) (h14:e 14=.int .u64 un0) (h15:e 15=.int .u64 q1)
    (hs:s=stOf []) (hY:Y=yn1 * 4294967296+yn0) (hY64:Y<18446744073709551616) (hn0:yn0<4294967296) (hn1:2147483648≤yn1) (h0:un0<4294967296) (hk:k≤64) (hu:U * 4294967296+un1=q1 * Y+u21) (hu21:u21<Y)
    (htail:∀ (e:Env) (s:Store) (q0 R2:Nat),e 2=.int .u64 Y→e 8=.int .u64 k→e 14=.int .u64 un0→e 15=.int .u64 q1→e 17=.int .u64 u21→e 18=.int .u64 q0→u21 * 4294967296+un0=q0 * Y+R2→R2<Y→q0<4294967296 →
      WL Tryz.prog 135 cl_math_bits_Div64_19 (endQ [(6,none),(7,none)] v) e s .mk) :
    WL Tryz.prog 135 cl_math_bits_Div64_15 (endQ [(6,none),(7,none)] v) e s .mk:=by
  subst hs
  have w3:IntKind.u64.wrap (IntKind.u64.wrap (IntKind.u64.wrap ((U:Int) * 4294967296)+(un1:Int)) - IntKind.u64.wrap ((q1:Int) * (Y:Int)))=(u21:Int):=by
    have:=wrap3 (U * 4294967296) un1 (q1 * Y) u21 hu (by omega)
    rw [Int.natCast_mul,Int.natCast_mul] at this
    exact this
  have hq:u21 / yn1≤u21:=Nat.div_le_self _ _
  have w4:IntKind.u64.wrap ((u21:Int).tdiv yn1)=((u21 / yn1:Nat):Int):=tdiv_u _ _ (Nat.lt_of_le_of_lt hq (by omega))
  have hdm:=Nat.div_add_mod u21 yn1
  have hml:=Nat.mod_lt u21 (show yn1 > 0 by omega)
  have hlo:(u21 * 4294967296+un0) / (yn1 * 4294967296+yn0)≤u21 / yn1:=Lin.guess_top (by omega) (by omega) h0
  rw [Nat.mul_comm] at hdm
  have hy32:yn1<4294967296:=by omega
  generalize u21 / yn1=q at *
  generalize u21 % yn1=r at *
  have w5:IntKind.u64.wrap ((q:Int) * yn1)=((q * yn1:Nat):Int):=mul_u _ _ (by omega)
  have w6:IntKind.u64.wrap ((u21:Int) - ((q * yn1:Nat):Int))=(r:Int):=by
    rw [sub_u _ _ (by omega) (by omega)];congr 1;omega
  have hyn:¬ (yn1:Int)=0:=by omega
  simp only [cl_math_bits_Div64_15,h2,h8,h9,h10,h11,h13,h14,h15,w3,w4,w5,w6,hyn,ne_eq,not_false_eq_true,vcV,vcD,Int.reduceEq,Int.reduceNe,Int.reduceLT,Int.reduceLE,Nat.reduceEqDiff,Nat.reduceAdd,reduceIte,reduceCtorEq,Nat.reduceLT,Nat.reduceLeDiff,eq_self,vcP2,Nat.reduceShiftRight,Nat.reduceMod]
  refine WL_cutW (envOf [(2,.int .u64 Y),(8,.int .u64 k),(9,.int .u64 yn1),(10,.int .u64 yn0),(14,.int .u64 un0),(15,.int .u64 q1),(16,.int .u64 r),(17,.int .u64 u21),(18,.int .u64 q)],stOf []) rfl ?_ (div_two hY hY64 hn0 hn1 hu21 h0 hk htail q r hdm (by omega) hlo)
  refine weakX [] (of_decide_eq_true rfl) (of_decide_eq_true rfl) ?_
  (simp only [h2,h8,h9,h10,h11,h13,h14,h15,vcW,vcV,vcD,Int.reduceEq,Int.reduceNe,Int.reduceLT,Int.reduceLE,Nat.reduceEqDiff,Nat.reduceAdd,reduceIte,reduceCtorEq,Nat.reduceLT,Nat.reduceLeDiff,eq_self,vcP2,Nat.reduceShiftRight,Nat.reduceMod])
  (repeat' first | exact trivial | (with_reducible first | exact RnB.fxB (ints_fxB _) | rfl | refine And.intro ?_ ?_) | (with_reducible (first | refine RnB.bb ?_ | refine RnB.nb ?_);simp only [vcW,vcV,vcD,Int.reduceEq,Int.reduceNe,Int.reduceLT,Int.reduceLE,Nat.reduceEqDiff,Nat.reduceAdd,reduceIte,reduceCtorEq,Nat.reduceLT,Nat.reduceLeDiff,eq_self,vcP2,Nat.reduceShiftRight,Nat.reduceMod]) | (with_reducible first | refine RnB.ii ?_ | refine RnB.app ?_) | (with_reducible refine RnB.fxB ?_;simp only [vcW,vcV,vcD,Int.reduceEq,Int.reduceNe,Int.reduceLT,Int.reduceLE,Nat.reduceEqDiff,Nat.reduceAdd,reduceIte,reduceCtorEq,Nat.reduceLT,Nat.reduceLeDiff,eq_self,vcP2,Nat.reduceShiftRight,Nat.reduceMod]) | omega)
theorem div_one {Y k yn1 yn0 U un1 un0:Nat} {v:AV} (hY:Y=yn1 * 4294967296+yn0) (hY64:Y<18446744073709551616) (hn0:yn0<4294967296) (hn1:2147483648≤yn1) (hU:U<Y) (h1:un1<4294967296) (h0:un0<4294967296) (hk:k≤64)
    (htail:∀ (e:Env) (s:Store) (q1 u21 q0 R2:Nat),e 2=.int .u64 Y→e 8=.int .u64 k→e 14=.int .u64 un0→e 15=.int .u64 q1→e 17=.int .u64 u21→e 18=.int .u64 q0→U * 4294967296+un1=q1 * Y+u21→q1<4294967296→u21 * 4294967296+un0=q0 * Y+R2→R2<Y→q0<4294967296 →
      WL Tryz.prog 135 cl_math_bits_Div64_19 (endQ [(6,none),(7,none)] v) e s .mk) (q r:Nat) (hqr:q * yn1+r=U) (hr:r<4294967296) (hlo:(U * 4294967296+un1) / (yn1 * 4294967296+yn0)≤q) :
    WL Tryz.prog 135 cl_math_bits_Div64_14 (endQ [(6,none),(7,none)] v) (envOf [(2,.int .u64 Y),(8,.int .u64 k),(9,.int .u64 yn1),(10,.int .u64 yn0),(11,.int .u64 U),(13,.int .u64 un1),(14,.int .u64 un0),(15,.int .u64 q),(16,.int .u64 r)]) (stOf []) .mk:=by
  have hfin:∀ q:Nat,q=(U * 4294967296+un1) / (yn1 * 4294967296+yn0)→∃ R2,U * 4294967296+un1=q * Y+R2∧R2<Y∧q<4294967296:=by
    intro q hq
    rw [← hY] at hq
    have e1:=Nat.div_add_mod (U * 4294967296+un1) Y
    have e2:=Nat.mod_lt (U * 4294967296+un1) (show 0<Y by omega)
    rw [← hq,Nat.mul_comm Y q] at e1
    refine ⟨_,e1.symm,e2,?_⟩
    rw [hq,Nat.div_lt_iff_lt_mul (by omega)]
    have:(U+1) * 4294967296≤Y * 4294967296:=Nat.mul_le_mul_right _ hU
    omega
  have hend:∀ (e:Env) (s:Store) (q:Nat),q=(U * 4294967296+un1) / (yn1 * 4294967296+yn0)→e 2=.int .u64 Y→e 8=.int .u64 k→e 9=.int .u64 yn1→e 10=.int .u64 yn0→e 11=.int .u64 U→e 13=.int .u64 un1→e 14=.int .u64 un0→e 15=.int .u64 q→s=stOf [] →
      WL Tryz.prog 135 cl_math_bits_Div64_15 (endQ [(6,none),(7,none)] v) e s .mk:=by
    intro e s q hq g2 g8 g9 g10 g11 g13 g14 g15 gs
    obtain ⟨R,f1,f2,f3⟩:=hfin q hq
    exact div_mid g2 g8 g9 g10 g11 g13 g14 g15 gs hY hY64 hn0 hn1 h0 hk f1 f2 fun e s q0 R2 a2 a8 a14 a15 a17 a18 b1 b2 b3=>htail e s q R q0 R2 a2 a8 a14 a15 a17 a18 f1 f3 b1 b2 b3
  have hq33:q * yn1≤U:=by omega
  simp only [cl_math_bits_Div64_14,vcV,vcD,Int.reduceEq,Int.reduceNe,Int.reduceLT,Int.reduceLE,Nat.reduceEqDiff,Nat.reduceAdd,reduceIte,reduceCtorEq,Nat.reduceLT,Nat.reduceLeDiff,eq_self,vcP2,Nat.reduceShiftRight,Nat.reduceMod]
  refine WL_loop (t:=.mk) (α:=PSigma fun p:Nat × Nat=>p.1 * yn1+p.2=U∧p.2<4294967296∧(U * 4294967296+un1) / (yn1 * 4294967296+yn0)≤p.1) (fun ⟨p,_⟩=>(envOf [(2,.int .u64 Y),(8,.int .u64 k),(9,.int .u64 yn1),(10,.int .u64 yn0),(11,.int .u64 U),(13,.int .u64 un1),(14,.int .u64 un0),(15,.int .u64 p.1),(16,.int .u64 p.2)],stOf [])) (fun x=>x.1.1) ⟨(q,r),hqr,hr,hlo⟩ ?_ (fun ⟨⟨q,r⟩,hqr,hr,hlo⟩=>?_)
  · refine weakX [] (of_decide_eq_true rfl) (of_decide_eq_true rfl) ?_
    (simp only [vcW,vcV,vcD,Int.reduceEq,Int.reduceNe,Int.reduceLT,Int.reduceLE,Nat.reduceEqDiff,Nat.reduceAdd,reduceIte,reduceCtorEq,Nat.reduceLT,Nat.reduceLeDiff,eq_self,vcP2,Nat.reduceShiftRight,Nat.reduceMod])
    (repeat' first | exact trivial | (with_reducible first | exact RnB.fxB (ints_fxB _) | rfl | refine And.intro ?_ ?_) | (with_reducible (first | refine RnB.bb ?_ | refine RnB.nb ?_);simp only [vcW,vcV,vcD,Int.reduceEq,Int.reduceNe,Int.reduceLT,Int.reduceLE,Nat.reduceEqDiff,Nat.reduceAdd,reduceIte,reduceCtorEq,Nat.reduceLT,Nat.reduceLeDiff,eq_self,vcP2,Nat.reduceShiftRight,Nat.reduceMod]) | (with_reducible first | refine RnB.ii ?_ | refine RnB.app ?_) | (with_reducible refine RnB.fxB ?_;simp only [vcW,vcV,vcD,Int.reduceEq,Int.reduceNe,Int.reduceLT,Int.reduceLE,Nat.reduceEqDiff,Nat.reduceAdd,reduceIte,reduceCtorEq,Nat.reduceLT,Nat.reduceLeDiff,eq_self,vcP2,Nat.reduceShiftRight,Nat.reduceMod]) | omega)
  · dsimp only at hqr hr hlo ⊢
    have hqu:q≤U:=Nat.le_trans (Nat.le_mul_of_pos_right q (by omega)) (show q * yn1≤U by omega)
    have go:(4294967296≤q∨r * 4294967296+un1<q * yn0)→q ≠ 0∧(q - 1) * yn1+(r+yn1)=U∧(U * 4294967296+un1) / (yn1 * 4294967296+yn0)≤q - 1:=by
      intro h
      have h1:=Lin.digit_more hn0 (by omega) h1 (by omega) hqr h
      have hq0:q ≠ 0:=fun e=>by rw [e] at h1;exact Nat.not_lt_zero _ h1
      refine ⟨hq0,?_,Nat.le_sub_one_of_lt h1⟩
      have:(q - 1+1) * yn1=(q - 1) * yn1+yn1:=Nat.succ_mul _ _
      rw [show q - 1+1=q from Nat.succ_pred_eq_of_ne_zero hq0] at this
      omega
    have w5:q ≠ 0→IntKind.u64.wrap ((q:Int) - 1)=((q - 1:Nat):Int):=fun h=>by rw [show (1:Int)=((1:Nat):Int) by rfl];exact sub_u _ _ (by omega) (by omega)
    have w6:IntKind.u64.wrap ((r:Int)+(yn1:Int))=((r+yn1:Nat):Int):=add_u _ _ (by omega)
    have next:(4294967296≤q∨r * 4294967296+un1<q * yn0)→¬ 4294967296≤r+yn1→(q - 1) * yn1+(r+yn1)=U∧r+yn1<4294967296∧(U * 4294967296+un1) / (yn1 * 4294967296+yn0)≤q - 1:=fun h h'=>⟨(go h).2.1,by omega,(go h).2.2⟩
    have brk:(4294967296≤q∨r * 4294967296+un1<q * yn0)→4294967296≤r+yn1→q - 1=(U * 4294967296+un1) / (yn1 * 4294967296+yn0):=fun h h'=>Lin.digit_ok hn0 (by omega) (go h).2.1 (go h).2.2 (Lin.digit_brk hn0 (by omega) (by omega) (go h).2.1 h')
    by_cases g1:4294967296≤q
    · have g1':(4294967296:Int)≤q:=by omega
      have hq0:=(go (.inl g1)).1
      by_cases g2:4294967296≤r+yn1
      · have g2':(4294967296:Int)≤((r+yn1:Nat):Int):=by omega
        have hb:=brk (.inl g1) g2
        simp only [g1',w5 hq0,w6,g2',vcV,vcD,Int.reduceEq,Int.reduceNe,Int.reduceLT,Int.reduceLE,Nat.reduceEqDiff,Nat.reduceAdd,reduceIte,reduceCtorEq,Nat.reduceLT,Nat.reduceLeDiff,eq_self,vcP2,Nat.reduceShiftRight,Nat.reduceMod]
        exact WL_cut (hend _ _ (q - 1) hb rfl rfl rfl rfl rfl rfl rfl rfl rfl)
      · have g2':¬ (4294967296:Int)≤((r+yn1:Nat):Int):=by omega
        simp only [g1',w5 hq0,w6,g2',vcV,vcD,Int.reduceEq,Int.reduceNe,Int.reduceLT,Int.reduceLE,Nat.reduceEqDiff,Nat.reduceAdd,reduceIte,reduceCtorEq,Nat.reduceLT,Nat.reduceLeDiff,eq_self,vcP2,Nat.reduceShiftRight,Nat.reduceMod]
        refine ⟨⟨(q - 1,r+yn1),next (.inl g1) g2⟩,by simp only;omega,?_⟩
        refine weakX [] (of_decide_eq_true rfl) (of_decide_eq_true rfl) ?_
        (simp only [vcW,vcV,vcD,Int.reduceEq,Int.reduceNe,Int.reduceLT,Int.reduceLE,Nat.reduceEqDiff,Nat.reduceAdd,reduceIte,reduceCtorEq,Nat.reduceLT,Nat.reduceLeDiff,eq_self,vcP2,Nat.reduceShiftRight,Nat.reduceMod])
        (repeat' first | exact trivial | (with_reducible first | exact RnB.fxB (ints_fxB _) | rfl | refine And.intro ?_ ?_) | (with_reducible (first | refine RnB.bb ?_ | refine RnB.nb ?_);simp only [vcW,vcV,vcD,Int.reduceEq,Int.reduceNe,Int.reduceLT,Int.reduceLE,Nat.reduceEqDiff,Nat.reduceAdd,reduceIte,reduceCtorEq,Nat.reduceLT,Nat.reduceLeDiff,eq_self,vcP2,Nat.reduceShiftRight,Nat.reduceMod]) | (with_reducible first | refine RnB.ii ?_ | refine RnB.app ?_) | (with_reducible refine RnB.fxB ?_;simp only [vcW,vcV,vcD,Int.reduceEq,Int.reduceNe,Int.reduceLT,Int.reduceLE,Nat.reduceEqDiff,Nat.reduceAdd,reduceIte,reduceCtorEq,Nat.reduceLT,Nat.reduceLeDiff,eq_self,vcP2,Nat.reduceShiftRight,Nat.reduceMod]) | omega)
    · have g1':¬ (4294967296:Int)≤q:=by omega
      obtain ⟨v1,v2,v3⟩:=dig_facts (yn1:=yn1) (u:=U) hn0 h1 hr (show q<4294967296 by omega)
      by_cases g3:r * 4294967296+un1<q * yn0
      · have g3':((4294967296 * r+un1:Nat):Int)<((q * yn0:Nat):Int):=by omega
        have hq0:=(go (.inr g3)).1
        by_cases g2:4294967296≤r+yn1
        · have g2':(4294967296:Int)≤((r+yn1:Nat):Int):=by omega
          have hb:=brk (.inr g3) g2
          simp only [g1',v1,v2,v3,g3',w5 hq0,w6,g2',vcV,vcD,Int.reduceEq,Int.reduceNe,Int.reduceLT,Int.reduceLE,Nat.reduceEqDiff,Nat.reduceAdd,reduceIte,reduceCtorEq,Nat.reduceLT,Nat.reduceLeDiff,eq_self,vcP2,Nat.reduceShiftRight,Nat.reduceMod]
          exact WL_cut (hend _ _ (q - 1) hb rfl rfl rfl rfl rfl rfl rfl rfl rfl)
        · have g2':¬ (4294967296:Int)≤((r+yn1:Nat):Int):=by omega
          simp only [g1',v1,v2,v3,g3',w5 hq0,w6,g2',vcV,vcD,Int.reduceEq,Int.reduceNe,Int.reduceLT,Int.reduceLE,Nat.reduceEqDiff,Nat.reduceAdd,reduceIte,reduceCtorEq,Nat.reduceLT,Nat.reduceLeDiff,eq_self,vcP2,Nat.reduceShiftRight,Nat.reduceMod]
          refine ⟨⟨(q - 1,r+yn1),next (.inr g3) g2⟩,by simp only;omega,?_⟩
          refine weakX [] (of_decide_eq_true rfl) (of_decide_eq_true rfl) ?_
          (simp only [vcW,vcV,vcD,Int.reduceEq,Int.reduceNe,Int.reduceLT,Int.reduceLE,Nat.reduceEqDiff,Nat.reduceAdd,reduceIte,reduceCtorEq,Nat.reduceLT,Nat.reduceLeDiff,eq_self,vcP2,Nat.reduceShiftRight,Nat.reduceMod])
          (repeat' first | exact trivial | (with_reducible first | exact RnB.fxB (ints_fxB _) | rfl | refine And.intro ?_ ?_) | (with_reducible (first | refine RnB.bb ?_ | refine RnB.nb ?_);simp only [vcW,vcV,vcD,Int.reduceEq,Int.reduceNe,Int.reduceLT,Int.reduceLE,Nat.reduceEqDiff,Nat.reduceAdd,reduceIte,reduceCtorEq,Nat.reduceLT,Nat.reduceLeDiff,eq_self,vcP2,Nat.reduceShiftRight,Nat.reduceMod]) | (with_reducible first | refine RnB.ii ?_ | refine RnB.app ?_) | (with_reducible refine RnB.fxB ?_;simp only [vcW,vcV,vcD,Int.reduceEq,Int.reduceNe,Int.reduceLT,Int.reduceLE,Nat.reduceEqDiff,Nat.reduceAdd,reduceIte,reduceCtorEq,Nat.reduceLT,Nat.reduceLeDiff,eq_self,vcP2,Nat.reduceShiftRight,Nat.reduceMod]) | omega)
      · have g3':¬ ((4294967296 * r+un1:Nat):Int)<((q * yn0:Nat):Int):=by omega
        have hb:=Lin.digit_ok hn0 (by omega) hqr hlo (show q * yn0≤r * 4294967296+un1 by omega)
        simp only [g1',v1,v2,v3,g3',vcV,vcD,Int.reduceEq,Int.reduceNe,Int.reduceLT,Int.reduceLE,Nat.reduceEqDiff,Nat.reduceAdd,reduceIte,reduceCtorEq,Nat.reduceLT,Nat.reduceLeDiff,eq_self,vcP2,Nat.reduceShiftRight,Nat.reduceMod]
        exact WL_cut (hend _ _ q hb rfl rfl rfl rfl rfl rfl rfl rfl rfl)
theorem bitLen_ok {y:Nat} (h0:y ≠ 0) (hy:y<18446744073709551616):Lib.bitLen y≤64∧2 ^ 63≤y * 2 ^ (64 - Lib.bitLen y)∧y * 2 ^ (64 - Lib.bitLen y)<2 ^ 64:=by
  obtain ⟨h1,h2,h3⟩:=Lib.bitLenAux_bounds 64 y (by omega) h0
  have e:Lib.bitLenAux 64 y=Lib.bitLen y:=rfl
  rw [e] at h1 h2 h3
  have h4:Lib.bitLen y≤64:=by
    refine Classical.byContradiction fun hn=>?_
    have:2 ^ 64≤2 ^ (Lib.bitLen y - 1):=Nat.pow_le_pow_right (by omega) (by omega)
    omega
  have hp:0<2 ^ (64 - Lib.bitLen y):=Nat.pow_pos (by decide)
  refine ⟨h4,?_,?_⟩
  · have:2 ^ (Lib.bitLen y - 1) * 2 ^ (64 - Lib.bitLen y)≤y * 2 ^ (64 - Lib.bitLen y):=Nat.mul_le_mul_right _ h2
    rw [← Nat.pow_add,show Lib.bitLen y - 1+(64 - Lib.bitLen y)=63 by omega] at this
    exact this
  · have:y * 2 ^ (64 - Lib.bitLen y)<2 ^ Lib.bitLen y * 2 ^ (64 - Lib.bitLen y):=(Nat.mul_lt_mul_right hp).2 h3
    rw [← Nat.pow_add,show Lib.bitLen y+(64 - Lib.bitLen y)=64 by omega] at this
    exact this
theorem two_limbs {U un1 un0 L:Nat} (h:4294967296 * un1+un0=L):U * 18446744073709551616+L=(U * 4294967296+un1) * 4294967296+un0:=by omega
theorem Div64_s (hi lo y:Nat) (hlo:lo<18446744073709551616) (hy:y<18446744073709551616) (h:hi<y):Sound Tryz.prog 194 [.int .u64 hi,.int .u64 lo,.int .u64 y]
    (.tup [.int .u64 (((hi * 18446744073709551616+lo) / y:Nat):Int),.int .u64 (((hi * 18446744073709551616+lo) % y:Nat):Int)]):=by
  refine sound_WL f_math_bits_Div64 e_math_bits_Div64 (Nat.le_of_ble_eq_true rfl) ?_
  have g1:¬ (y:Int)=0:=by omega
  have g2:¬ (y:Int)≤hi:=by omega
  by_cases h0:hi=0
  · subst h0
    have w1:IntKind.u64.wrap ((lo:Int).tdiv y)=((lo / y:Nat):Int):=tdiv_u _ _ (Nat.lt_of_le_of_lt (Nat.div_le_self _ _) hlo)
    have w2:=tmod_u lo y
    rw [Nat.zero_mul,Nat.zero_add]
    have g2':¬ (y:Int)≤0:=by omega
    simp only [cl_math_bits_Div64,g1,g2',w1,w2,ne_eq,not_false_eq_true,Int.natCast_zero,vcV,vcD,Int.reduceEq,Int.reduceNe,Int.reduceLT,Int.reduceLE,Nat.reduceEqDiff,Nat.reduceAdd,reduceIte,reduceCtorEq,Nat.reduceLT,Nat.reduceLeDiff,eq_self,vcP2,Nat.reduceShiftRight,Nat.reduceMod]
  · have g3:¬ (hi:Int)=0:=by omega
    obtain ⟨b1,b2,b3⟩:=bitLen_ok (show y ≠ 0 by omega) hy
    have hLZ:=LeadingZeros64_s y hy b1
    have hs63:64 - Lib.bitLen y≤64:=by omega
    generalize 64 - Lib.bitLen y=k at *
    have hp:0<2 ^ k:=Nat.pow_pos (by decide)
    have hsh:=Lin.shift_hi hi lo k hs63
    have hkk:2 ^ k * 2 ^ (64 - k)=18446744073709551616:=by rw [← Nat.pow_add,show k+(64 - k)=64 by omega]
    have hb4:lo / 2 ^ (64 - k)<2 ^ k:=by
      rw [Nat.div_lt_iff_lt_mul (Nat.pow_pos (by decide)),hkk];exact hlo
    have hHy:(hi+1) * 2 ^ k≤y * 2 ^ k:=Nat.mul_le_mul_right _ h
    rw [Nat.add_mul,Nat.one_mul] at hHy
    have hdv:2 ^ k ∣ hi * 2 ^ k:=Nat.dvd_mul_left _ _
    have ws:IntKind.u64.wrap (k:Int)=(k:Int):=u64_wrap (by omega)
    have wY:=shl_u y k hs63
    have wA:=shl_u hi k hs63
    have wr:IntKind.u64.wrap (64 - (k:Int))=((64 - k:Nat):Int):=by rw [show (64:Int)=((64:Nat):Int) by rfl];exact sub_u _ _ hs63 (by omega)
    have wB:=shr_u lo (64 - k) (by omega)
    have wL:=shl_u lo k hs63
    have hLlt:=Nat.mod_lt (lo * 2 ^ k) (show 18446744073709551616 > 0 by omega)
    rw [Nat.mod_eq_of_lt (show y * 2 ^ k<18446744073709551616 by omega)] at wY
    rw [Nat.mod_eq_of_lt (show hi * 2 ^ k<18446744073709551616 by omega)] at wA
    have wU:=or_u (hi * 2 ^ k) (lo / 2 ^ (64 - k)) k hs63 hdv hb4 (by omega)
    obtain ⟨Y,hYd⟩:∃ Y,Y=y * 2 ^ k:=⟨_,rfl⟩
    obtain ⟨U,hUd⟩:∃ U,U=hi * 2 ^ k+lo / 2 ^ (64 - k):=⟨_,rfl⟩
    obtain ⟨L,hLd⟩:∃ L,L=lo * 2 ^ k % 18446744073709551616:=⟨_,rfl⟩
    rw [← hUd,← hLd] at hsh
    rw [← hYd] at wY b2 b3 hHy
    rw [← hUd] at wU
    rw [← hLd] at wL hLlt
    have hUY:U<Y:=by omega
    have s1:=shr32 Y
    have a1:=and32 Y (by omega)
    have s2:=shr32 L
    have a2:=and32 L (by omega)
    have eY:=Nat.div_add_mod Y 4294967296
    have eL:=Nat.div_add_mod L 4294967296
    have lY:=Nat.mod_lt Y (show 4294967296 > 0 by omega)
    have lL:=Nat.mod_lt L (show 4294967296 > 0 by omega)
    obtain ⟨yn1,hyn1⟩:∃ a,a=Y / 4294967296:=⟨_,rfl⟩
    obtain ⟨yn0,hyn0⟩:∃ a,a=Y % 4294967296:=⟨_,rfl⟩
    obtain ⟨un1,hun1⟩:∃ a,a=L / 4294967296:=⟨_,rfl⟩
    obtain ⟨un0,hun0⟩:∃ a,a=L % 4294967296:=⟨_,rfl⟩
    rw [← hyn1] at s1 eY
    rw [← hyn0] at a1 eY lY
    rw [← hun1] at s2 eL
    rw [← hun0] at a2 eL lL
    have hn1:2147483648≤yn1:=by omega
    have hq:=Nat.div_le_self U yn1
    have w7:IntKind.u64.wrap ((U:Int).tdiv yn1)=((U / yn1:Nat):Int):=tdiv_u _ _ (Nat.lt_of_le_of_lt hq (by omega))
    have hdm:=Nat.div_add_mod U yn1
    have hml:=Nat.mod_lt U (show yn1 > 0 by omega)
    have hgt:(U * 4294967296+un1) / (yn1 * 4294967296+yn0)≤U / yn1:=Lin.guess_top (by omega) (by omega) (by omega)
    rw [Nat.mul_comm] at hdm
    generalize U / yn1=q at *
    generalize U % yn1=r at *
    have w8:IntKind.u64.wrap ((q:Int) * yn1)=((q * yn1:Nat):Int):=mul_u _ _ (by omega)
    have w9:IntKind.u64.wrap ((U:Int) - ((q * yn1:Nat):Int))=(r:Int):=by
      rw [sub_u _ _ (by omega) (by omega)];congr 1;omega
    have hyn:¬ (yn1:Int)=0:=by omega
    have hk0:(0:Int)≤(k:Int):=by omega
    have hk1:(0:Int)≤((64 - k:Nat):Int):=by omega
    simp only [cl_math_bits_Div64,g1,g2,g3,vcV,vcD,Int.reduceEq,Int.reduceNe,Int.reduceLT,Int.reduceLE,Nat.reduceEqDiff,Nat.reduceAdd,reduceIte,reduceCtorEq,Nat.reduceLT,Nat.reduceLeDiff,eq_self,vcP2,Nat.reduceShiftRight,Nat.reduceMod]
    refine callS_of hLZ ?_
    simp only [ws,wY,s1,a1,wA,wr,wB,wU,wL,s2,a2,w7,w8,w9,hyn,hk0,hk1,ne_eq,not_false_eq_true,vcV,vcD,Int.reduceEq,Int.reduceNe,Int.reduceLT,Int.reduceLE,Nat.reduceEqDiff,Nat.reduceAdd,reduceIte,reduceCtorEq,Nat.reduceLT,Nat.reduceLeDiff,eq_self,vcP2,Nat.reduceShiftRight,Nat.reduceMod]
    refine WL_cutW (envOf [(2,.int .u64 Y),(8,.int .u64 k),(9,.int .u64 yn1),(10,.int .u64 yn0),(11,.int .u64 U),(13,.int .u64 un1),(14,.int .u64 un0),(15,.int .u64 q),(16,.int .u64 r)],stOf []) rfl ?_
      (div_one (Y:=Y) (k:=k) (by omega) (by omega) (by omega) hn1 hUY (by omega) (by omega) hs63 ?_ q r hdm (by omega) hgt)
    · refine weakX [] (of_decide_eq_true rfl) (of_decide_eq_true rfl) ?_
      (simp only [vcW,vcV,vcD,Int.reduceEq,Int.reduceNe,Int.reduceLT,Int.reduceLE,Nat.reduceEqDiff,Nat.reduceAdd,reduceIte,reduceCtorEq,Nat.reduceLT,Nat.reduceLeDiff,eq_self,vcP2,Nat.reduceShiftRight,Nat.reduceMod])
      (repeat' first | exact trivial | (with_reducible first | exact RnB.fxB (ints_fxB _) | rfl | refine And.intro ?_ ?_) | (with_reducible (first | refine RnB.bb ?_ | refine RnB.nb ?_);simp only [vcW,vcV,vcD,Int.reduceEq,Int.reduceNe,Int.reduceLT,Int.reduceLE,Nat.reduceEqDiff,Nat.reduceAdd,reduceIte,reduceCtorEq,Nat.reduceLT,Nat.reduceLeDiff,eq_self,vcP2,Nat.reduceShiftRight,Nat.reduceMod]) | (with_reducible first | refine RnB.ii ?_ | refine RnB.app ?_) | (with_reducible refine RnB.fxB ?_;simp only [vcW,vcV,vcD,Int.reduceEq,Int.reduceNe,Int.reduceLT,Int.reduceLE,Nat.reduceEqDiff,Nat.reduceAdd,reduceIte,reduceCtorEq,Nat.reduceLT,Nat.reduceLeDiff,eq_self,vcP2,Nat.reduceShiftRight,Nat.reduceMod]) | omega)
    · intro e s q1 u21 q0 R2 a2 a8 a14 a15 a17 a18 f1 f2 f3 f4 f5
      have hN:(hi * 18446744073709551616+lo) * 2 ^ k=(U * 4294967296+un1) * 4294967296+un0:=by
        rw [hsh]
        exact two_limbs eL
      obtain ⟨k1,k2⟩:=Lin.knuth (N:=hi * 18446744073709551616+lo) (y:=y) (s:=k) (by omega) hYd hN f1 f3 f4
      have hQ64:q1 * 4294967296+q0<18446744073709551616:=by omega
      exact div_tail a2 a8 a14 a15 a17 a18 hs63 k1.symm (by rw [k1];exact hQ64) f3 (by omega) k2.symm
end Go.Proofs.YtgmpcbpmnimkoaaGreatDoor

/- Numerals,in plain Lean. By an AI agent;nothing here is trusted. -/
namespace Go.Lin
open Go.Lib

def pad:Nat→Nat→List UInt8
  | 0,_=>[]
  | k+1,r=>pad k (r / 10) ++ [UInt8.ofNat (48+r % 10)]
theorem pad_len:∀ k r,(pad k r).length=k
  | 0,_=>rfl
  | k+1,r=>by rw [pad,List.length_append,pad_len];rfl
theorem dec_pad:∀ (k q r:Nat),0<q→r<10 ^ k→decDigits (q * 10 ^ k+r)=decDigits q ++ pad k r
  | 0,q,r,_,hr=>by
    have:r=0:=by simpa using hr
    subst this;simp [pad]
  | k+1,q,r,hq,hr=>by
    have hp:1≤10 ^ k:=Nat.one_le_pow _ _ (by decide)
    have hb:¬ q * 10 ^ (k+1)+r<10:=by
      have:1 * 10 ^ (k+1)≤q * 10 ^ (k+1):=Nat.mul_le_mul_right _ hq
      rw [Nat.pow_succ] at this ⊢
      omega
    have e1:(q * 10 ^ (k+1)+r) / 10=q * 10 ^ k+r / 10:=by rw [Nat.pow_succ,← Nat.mul_assoc];omega
    have e2:(q * 10 ^ (k+1)+r) % 10=r % 10:=by rw [Nat.pow_succ,← Nat.mul_assoc];omega
    rw [decDigits,dif_neg hb,e1,e2,dec_pad k q (r / 10) hq (by rw [Nat.pow_succ] at hr;omega),pad,List.append_assoc]
theorem pad_zero:∀ k,pad k 0=List.replicate k 48
  | 0=>rfl
  | k+1=>by rw [pad,Nat.zero_div,pad_zero k,List.replicate_succ'];rfl
theorem pad_small:∀ {k r:Nat},r<10 ^ (k+1)→pad (k+1) r=List.replicate (k+1 - (decDigits r).length) 48 ++ decDigits r
  | 0,r,h=>by
    have h:r<10:=by simpa using h
    rw [decDigits,dif_pos h]
    simp [pad,Nat.mod_eq_of_lt h]
  | k+1,r,h=>by
    by_cases h10:r<10
    · rw [pad,Nat.div_eq_of_lt h10,pad_zero,decDigits,dif_pos h10,Nat.mod_eq_of_lt h10]
      simp
    · have ih:=pad_small (k:=k) (r:=r / 10) (by rw [Nat.pow_succ] at h;omega)
      have e:decDigits r=decDigits (r / 10) ++ [UInt8.ofNat (48+r % 10)]:=by
        conv=>lhs;rw [decDigits,dif_neg h10]
      rw [pad,ih,e,← List.append_assoc]
      congr 3
      rw [List.length_append,List.length_singleton]
      omega
theorem dec_split (k n:Nat) (h:10 ^ k≤n):decDigits n=decDigits (n / 10 ^ k) ++ pad k (n % 10 ^ k):=by
  have hp:0<10 ^ k:=Nat.pow_pos (by decide)
  have:=dec_pad k (n / 10 ^ k) (n % 10 ^ k) (Nat.div_pos h hp) (Nat.mod_lt _ hp)
  rwa [Nat.div_add_mod'] at this
theorem dec_one:decDigits 1=[49]:=by rw [decDigits];rfl
theorem dec_drop (k r:Nat) (h:r<10 ^ k):(decDigits (10 ^ k+r)).drop 1=pad k r:=by
  have:=dec_pad k 1 r (by decide) h
  rw [Nat.one_mul] at this
  rw [this,dec_one];rfl
end Go.Lin

/- Numerals and what they spell,in plain Lean. By an AI agent;nothing here is trusted. -/
namespace Go.Lin
open Go.Lib

def val (l:List UInt8):Nat:=l.foldl (fun a c=>a * 10+(c.toNat - 48)) 0
theorem dec_ne (u:Nat):decDigits u ≠ []:=by
  rw [decDigits];split <;> simp
end Go.Lin

/- Contracts: digits of a number of 128 bits,the error of a fit,what is kept. By an AI agent;nothing here is trusted. -/
namespace Go.Proofs.YtgmpcbpmnimkoaaGreatDoor
open Go.Av

theorem dec_len {n:Nat} (h:n<10 ^ 50):(Lib.decDigits n).length≤50:=by
  rw [Lib.decDigits_length]
  refine Classical.byContradiction fun hn=>?_
  have key:∀ k u:Nat,k<Lib.nDigits u→10 ^ k≤u∨k=0:=by
    intro k
    induction k with
    | zero=>exact fun _ _=>.inr rfl
    | succ k ih =>
      intro u hu
      by_cases h10:u<10
      · rw [Lib.nDigits_small h10] at hu;omega
      · rw [Lib.nDigits_big h10] at hu
        left
        rcases ih (u / 10) (by omega) with g | g
        · rw [Nat.pow_succ];omega
        · subst g;omega
  rcases key 50 n (by omega) with g | g
  · omega
  · cases g
set_option maxHeartbeats 2000000 in
theorem text_s:∀ (n:Nat) (b:Bool),W128 n→Sound Tryz.prog 109 [wdA b n] (.str (Lib.decDigits n)):=by
  intro n
  induction n using Nat.strongRecOn with
  | ind n ih =>
    intro b hn
    refine sound_W f_pulse_wide_text (Nat.le_of_ble_eq_true rfl) ?_
    have hn':=hn
    unfold W128 at hn
    have eN:=Nat.div_add_mod n 18446744073709551616
    have lL:=Nat.mod_lt n (show 18446744073709551616 > 0 by omega)
    have hD1:Sound Tryz.prog 194 [.int .u64 0,.int .u64 ((n / 18446744073709551616:Nat):Int),.int .u64 1000000000000000000] _:=Div64_s 0 (n / 18446744073709551616) 1000000000000000000 (by omega) (by omega) (by omega)
    rw [Nat.zero_mul,Nat.zero_add] at hD1
    have hD2:Sound Tryz.prog 194 [.int .u64 ((n / 18446744073709551616 % 1000000000000000000:Nat):Int),.int .u64 ((n % 18446744073709551616:Nat):Int),.int .u64 1000000000000000000] _:=Div64_s (n / 18446744073709551616 % 1000000000000000000) (n % 18446744073709551616) 1000000000000000000 lL (by omega) (Nat.mod_lt _ (by omega))
    have eM:=Nat.div_add_mod (n / 18446744073709551616) 1000000000000000000
    have lM:=Nat.mod_lt (n / 18446744073709551616) (show 1000000000000000000 > 0 by omega)
    have eR:=Nat.div_add_mod (n / 18446744073709551616 % 1000000000000000000 * 18446744073709551616+n % 18446744073709551616) 1000000000000000000
    have lR:=Nat.mod_lt (n / 18446744073709551616 % 1000000000000000000 * 18446744073709551616+n % 18446744073709551616) (show 1000000000000000000 > 0 by omega)
    unfold wdA
    generalize n / 18446744073709551616=H at *
    generalize n % 18446744073709551616=L at *
    generalize H / 1000000000000000000=qh at *
    generalize H % 1000000000000000000=rh at *
    have hql:(rh * 18446744073709551616+L) / 1000000000000000000<18446744073709551616:=by omega
    generalize (rh * 18446744073709551616+L) / 1000000000000000000=ql at *
    generalize (rh * 18446744073709551616+L) % 1000000000000000000=low at *
    have en:n=(qh * 18446744073709551616+ql) * 1000000000000000000+low:=by omega
    have hq:n / 1000000000000000000=qh * 18446744073709551616+ql:=by omega
    have hr:n % 1000000000000000000=low:=by omega
    by_cases hz:qh=0∧ql=0
    · obtain ⟨rfl,rfl⟩:=hz
      have hlow:low=n:=by omega
      simp only [c_pulse_wide_text,vcV,vcD,Int.reduceEq,Int.reduceNe,Int.reduceLT,Int.reduceLE,Nat.reduceEqDiff,Nat.reduceAdd,reduceIte,reduceCtorEq,Nat.reduceLT,Nat.reduceLeDiff,eq_self,vcP2,Nat.reduceShiftRight,Nat.reduceMod]
      refine callS_of hD1 ?_
      simp only [vcV,vcD,Int.reduceEq,Int.reduceNe,Int.reduceLT,Int.reduceLE,Nat.reduceEqDiff,Nat.reduceAdd,reduceIte,reduceCtorEq,Nat.reduceLT,Nat.reduceLeDiff,eq_self,vcP2,Nat.reduceShiftRight,Nat.reduceMod]
      refine callS_of hD2 ?_
      simp only [Int.natCast_zero,vcV,vcD,Int.reduceEq,Int.reduceNe,Int.reduceLT,Int.reduceLE,Nat.reduceEqDiff,Nat.reduceAdd,reduceIte,reduceCtorEq,Nat.reduceLT,Nat.reduceLeDiff,eq_self,vcP2,Nat.reduceShiftRight,Nat.reduceMod]
      refine callS_of (FormatUint_s low (by omega)) ?_
      simp only [hlow,vcV,vcD,Int.reduceEq,Int.reduceNe,Int.reduceLT,Int.reduceLE,Nat.reduceEqDiff,Nat.reduceAdd,reduceIte,reduceCtorEq,Nat.reduceLT,Nat.reduceLeDiff,eq_self,vcP2,Nat.reduceShiftRight,Nat.reduceMod]
    · have hz':¬ ((qh:Int)=0∧(ql:Int)=0):=by omega
      have hpos:0<n / 1000000000000000000:=by omega
      have hsp:=Lin.dec_split 18 n (by have:(10:Nat) ^ 18=1000000000000000000:=(by decide);omega)
      have e18:(10:Nat) ^ 18=1000000000000000000:=by decide
      rw [e18] at hsp
      have hdr:=Lin.dec_drop 18 low (by rw [e18];omega)
      rw [e18] at hdr
      have hT:=ih (n / 1000000000000000000) (by omega) false (by unfold W128;omega)
      have d1:(n / 1000000000000000000) / 18446744073709551616=qh:=by omega
      have d2:(n / 1000000000000000000) % 18446744073709551616=ql:=by omega
      unfold wdA at hT
      rw [d1,d2] at hT
      obtain ⟨F,hFd⟩:∃ F,F=1000000000000000000+low:=⟨_,rfl⟩
      rw [← hFd] at hdr
      obtain ⟨m,hmd⟩:∃ m,m=n / 1000000000000000000:=⟨_,rfl⟩
      rw [← hmd] at hsp hT hpos
      have hF:=FormatUint_s F (by omega)
      have wF:IntKind.u64.wrap (1000000000000000000+(low:Int))=(F:Int):=by rw [u64_wrap (by omega)];omega
      have hl1:1≤(Lib.decDigits F).length:=by
        have:=Lin.dec_ne F
        cases h:Lib.decDigits F with
        | nil=>exact absurd h this
        | cons a r=>simp
      have hl2:(Lib.decDigits m).length≤50:=dec_len (by have:(340282366920938463463374607431768211456:Nat)<10 ^ 50:=(by decide);omega)
      have hl3:(Lin.pad 18 low).length=18:=Lin.pad_len 18 low
      have htk:((Lib.decDigits F).take (Lib.decDigits F).length).drop 1=Lin.pad 18 low:=by rw [List.take_length,hdr]
      rw [hr] at hsp
      rw [hsp]
      clear hsp hmd hFd eN eM eR lR hq hr d1 d2 en ih
      by_cases g1:qh=0
      · have g2:¬ ql=0:=fun h=>hz ⟨g1,h⟩
        have g2':¬ (ql:Int)=0:=by omega
        subst g1
        simp only [c_pulse_wide_text,vcV,vcD,Int.reduceEq,Int.reduceNe,Int.reduceLT,Int.reduceLE,Nat.reduceEqDiff,Nat.reduceAdd,reduceIte,reduceCtorEq,Nat.reduceLT,Nat.reduceLeDiff,eq_self,vcP2,Nat.reduceShiftRight,Nat.reduceMod]
        refine callS_of hD1 ?_
        simp only [vcV,vcD,Int.reduceEq,Int.reduceNe,Int.reduceLT,Int.reduceLE,Nat.reduceEqDiff,Nat.reduceAdd,reduceIte,reduceCtorEq,Nat.reduceLT,Nat.reduceLeDiff,eq_self,vcP2,Nat.reduceShiftRight,Nat.reduceMod]
        refine callS_of hD2 ?_
        simp only [Int.natCast_zero,g2',wF,vcV,vcD,Int.reduceEq,Int.reduceNe,Int.reduceLT,Int.reduceLE,Nat.reduceEqDiff,Nat.reduceAdd,reduceIte,reduceCtorEq,Nat.reduceLT,Nat.reduceLeDiff,eq_self,vcP2,Nat.reduceShiftRight,Nat.reduceMod]
        refine callS_of hF ?_
        simp only [htk,List.take_length,hdr,vcV,vcD,Int.reduceEq,Int.reduceNe,Int.reduceLT,Int.reduceLE,Nat.reduceEqDiff,Nat.reduceAdd,reduceIte,reduceCtorEq,Nat.reduceLT,Nat.reduceLeDiff,eq_self,vcP2,Nat.reduceShiftRight,Nat.reduceMod]
        (repeat (with_reducible refine And.intro ?_ ?_;focus (first | omega | (unfold I64;omega))))
        refine callS_of hT ?_
        simp only [show Int.toNat 1=1 from rfl,hdr,hl3,vcV,vcD,Int.reduceEq,Int.reduceNe,Int.reduceLT,Int.reduceLE,Nat.reduceEqDiff,Nat.reduceAdd,reduceIte,reduceCtorEq,Nat.reduceLT,Nat.reduceLeDiff,eq_self,vcP2,Nat.reduceShiftRight,Nat.reduceMod]
        omega
      · have g1':¬ (qh:Int)=0:=by omega
        simp only [c_pulse_wide_text,vcV,vcD,Int.reduceEq,Int.reduceNe,Int.reduceLT,Int.reduceLE,Nat.reduceEqDiff,Nat.reduceAdd,reduceIte,reduceCtorEq,Nat.reduceLT,Nat.reduceLeDiff,eq_self,vcP2,Nat.reduceShiftRight,Nat.reduceMod]
        refine callS_of hD1 ?_
        simp only [vcV,vcD,Int.reduceEq,Int.reduceNe,Int.reduceLT,Int.reduceLE,Nat.reduceEqDiff,Nat.reduceAdd,reduceIte,reduceCtorEq,Nat.reduceLT,Nat.reduceLeDiff,eq_self,vcP2,Nat.reduceShiftRight,Nat.reduceMod]
        refine callS_of hD2 ?_
        simp only [g1',wF,vcV,vcD,Int.reduceEq,Int.reduceNe,Int.reduceLT,Int.reduceLE,Nat.reduceEqDiff,Nat.reduceAdd,reduceIte,reduceCtorEq,Nat.reduceLT,Nat.reduceLeDiff,eq_self,vcP2,Nat.reduceShiftRight,Nat.reduceMod]
        refine callS_of hF ?_
        simp only [htk,List.take_length,hdr,vcV,vcD,Int.reduceEq,Int.reduceNe,Int.reduceLT,Int.reduceLE,Nat.reduceEqDiff,Nat.reduceAdd,reduceIte,reduceCtorEq,Nat.reduceLT,Nat.reduceLeDiff,eq_self,vcP2,Nat.reduceShiftRight,Nat.reduceMod]
        (repeat (with_reducible refine And.intro ?_ ?_;focus (first | omega | (unfold I64;omega))))
        refine callS_of hT ?_
        simp only [show Int.toNat 1=1 from rfl,hdr,hl3,vcV,vcD,Int.reduceEq,Int.reduceNe,Int.reduceLT,Int.reduceLE,Nat.reduceEqDiff,Nat.reduceAdd,reduceIte,reduceCtorEq,Nat.reduceLT,Nat.reduceLeDiff,eq_self,vcP2,Nat.reduceShiftRight,Nat.reduceMod]
        omega
end Go.Proofs.YtgmpcbpmnimkoaaGreatDoor

/- Contracts: the error of a fit,what is kept. By an AI agent;nothing here is trusted. -/
namespace Go.Proofs.YtgmpcbpmnimkoaaGreatDoor
open Go.Av

def sqN:List Int→Nat
  | []=>0
  | x :: l=>x.natAbs * x.natAbs+sqN l
theorem sqN_app:∀ (l m:List Int),sqN (l ++ m)=sqN l+sqN m
  | [],m=>by simp [sqN]
  | x :: l,m=>by rw [List.cons_append,sqN,sqN,sqN_app l m];omega
theorem sqN_next (l:List Int) {i:Nat} (h:i<l.length):sqN (l.take (i+1))=sqN (l.take i)+l[i].natAbs * l[i].natAbs:=by
  rw [List.take_succ_eq_append_getElem h,sqN_app];simp [sqN]
theorem sqN_bd:∀ {l:List Int},(∀ x ∈ l, -10500000000000000≤x∧x≤10500000000000000)→sqN l≤l.length * 110250000000000000000000000000000
  | [],_=>by simp [sqN]
  | x :: l,h=>by
    have h1:=sqN_bd (l:=l) fun y hy=>h y (by simp [hy])
    have h2:=h x (by simp)
    have h3:x.natAbs * x.natAbs≤10500000000000000 * 10500000000000000:=Nat.mul_le_mul (by omega) (by omega)
    rw [sqN,List.length_cons,Nat.add_mul]
    omega
def erA (items:List Int) (shifts:Int) (l:List Int) (den:Int) (ch:List Int):List AV:=if beE items shifts l den ch ≠ 0 then [.agg [.str [],.int .i64 0],.int .i64 (beE items shifts l den ch)] else [.agg [.str (Lib.decDigits (sqN (dfL items l ch den))),.int .i64 den],.int .i64 0]
theorem ErrorOf_s (items:List Int) (shifts:Int) (l:List Int) (den:Int) (ch:List Int) (h1:items.length<4000000000000000000) (h2:l.length<4000000000000000000) (h3:ch.length<4000000000000000000) :
    Sound Tryz.prog 23 [tplA items shifts,.sl (ints l),fitA den ch] (.tup (erA items shifts l den ch)):=by
  refine sound_W f_pulse_ErrorOf (Nat.le_of_ble_eq_true rfl) ?_
  have hB:=bothErr_s items shifts l den ch h1 h2 h3
  unfold tplA fitA at hB
  simp only [c_pulse_ErrorOf,tplA,fitA,vcV,vcD,Int.reduceEq,Int.reduceNe,Int.reduceLT,Int.reduceLE,Nat.reduceEqDiff,Nat.reduceAdd,reduceIte,reduceCtorEq,Nat.reduceLT,Nat.reduceLeDiff,eq_self,vcP2,Nat.reduceShiftRight,Nat.reduceMod]
  refine callS_of hB ?_
  by_cases hE:beE items shifts l den ch=0
  case neg =>
    have hr:erA items shifts l den ch=[.agg [.str [],.int .i64 0],.int .i64 (beE items shifts l den ch)]:=by unfold erA;rw [if_pos hE]
    rw [hr]
    simp only [hE,vcV,vcD,Int.reduceEq,Int.reduceNe,Int.reduceLT,Int.reduceLE,Nat.reduceEqDiff,Nat.reduceAdd,reduceIte,reduceCtorEq,Nat.reduceLT,Nat.reduceLeDiff,eq_self,vcP2,Nat.reduceShiftRight,Nat.reduceMod]
  have F:=beE_ok hE
  have hr:erA items shifts l den ch=[.agg [.str (Lib.decDigits (sqN (dfL items l ch den))),.int .i64 den],.int .i64 0]:=by unfold erA;rw [if_neg (by omega)]
  rw [hr]
  have hD:=differences_s F
  unfold tplA fitA at hD
  simp only [hE,vcV,vcD,Int.reduceEq,Int.reduceNe,Int.reduceLT,Int.reduceLE,Nat.reduceEqDiff,Nat.reduceAdd,reduceIte,reduceCtorEq,Nat.reduceLT,Nat.reduceLeDiff,eq_self,vcP2,Nat.reduceShiftRight,Nat.reduceMod]
  refine callS_of hD ?_
  have hb:=F.dfb
  have hlen:(dfL items l ch den).length≤10:=by rw [dfL_len,F.mlen];exact F.l10
  generalize dfL items l ch den=L at *
  have hle:∀ i:Nat,sqN (L.take i)≤1102500000000000000000000000000000:=fun i=>by
    have:=sqN_bd (l:=L.take i) fun x hx=>hb x (List.mem_of_mem_take hx)
    have h2:(L.take i).length≤10:=by simp;omega
    omega
  simp only [vcV,vcD,Int.reduceEq,Int.reduceNe,Int.reduceLT,Int.reduceLE,Nat.reduceEqDiff,Nat.reduceAdd,reduceIte,reduceCtorEq,Nat.reduceLT,Nat.reduceLeDiff,eq_self,vcP2,Nat.reduceShiftRight,Nat.reduceMod]
  refine W_loop (t:=.mk) (α:=PSigma fun i:Nat=>i≤L.length) (fun ⟨i,_⟩=>(envOf [(5,.ptr 5 0 0),(6,.ptr 6 0 0),(7,.int .i64 0),(9,.ptr 9 0 0),(23,.sl (ints L)),(24,.int .i64 L.length),(25,.int .i64 i)],stOf [(5,⟨29,2,[.agg [.int .i64 den,.sl (ints ch)]]⟩),(6,⟨42,2,[.agg [.str [],.int .i64 0]]⟩),(9,⟨157,3,[wdA false (sqN (L.take i))]⟩)])) (fun x=>L.length - x.1) ⟨0,Nat.zero_le _⟩ ?_ (fun ⟨i,hin⟩=>?_)
  · have e0:wdA false (sqN [])=.agg [.bool false,.int .u64 0,.int .u64 0]:=rfl
    refine weakX [] (of_decide_eq_true rfl) (of_decide_eq_true rfl) ?_
    (simp only [e0,vcW,vcV,vcD,Int.reduceEq,Int.reduceNe,Int.reduceLT,Int.reduceLE,Nat.reduceEqDiff,Nat.reduceAdd,reduceIte,reduceCtorEq,Nat.reduceLT,Nat.reduceLeDiff,eq_self,vcP2,Nat.reduceShiftRight,Nat.reduceMod])
    (repeat' first | exact trivial | (with_reducible first | exact RnB.fxB (ints_fxB _) | rfl | refine And.intro ?_ ?_) | (with_reducible (first | refine RnB.bb ?_ | refine RnB.nb ?_);simp only [vcW,vcV,vcD,Int.reduceEq,Int.reduceNe,Int.reduceLT,Int.reduceLE,Nat.reduceEqDiff,Nat.reduceAdd,reduceIte,reduceCtorEq,Nat.reduceLT,Nat.reduceLeDiff,eq_self,vcP2,Nat.reduceShiftRight,Nat.reduceMod]) | (with_reducible first | refine RnB.ii ?_ | refine RnB.app ?_) | (with_reducible refine RnB.fxB ?_;simp only [vcW,vcV,vcD,Int.reduceEq,Int.reduceNe,Int.reduceLT,Int.reduceLE,Nat.reduceEqDiff,Nat.reduceAdd,reduceIte,reduceCtorEq,Nat.reduceLT,Nat.reduceLeDiff,eq_self,vcP2,Nat.reduceShiftRight,Nat.reduceMod]) | omega)
  · dsimp only at hin ⊢
    by_cases h':i<L.length
    · have hc1:(i:Int)<L.length:=by omega
      have hxb:=hb _ (List.getElem_mem h')
      have hx63:S63 L[i]:=by unfold S63;omega
      have hW:=pwideOf_s L[i] hx63
      have hsq:L[i].natAbs * L[i].natAbs≤10500000000000000 * 10500000000000000:=Nat.mul_le_mul (by omega) (by omega)
      have hT:=times_s (decide (L[i]<0)) L[i].natAbs L[i] hx63 (by unfold W128;omega) (by unfold W128;omega)
      have hbb:(decide (L[i]<0) != decide (L[i]<0))=false:=by cases decide (L[i]<0) <;> rfl
      rw [hbb] at hT
      have hn:=sqN_next L h'
      have hle1:=hle i
      have hle2:=hle (i+1)
      have hP:=plus_same_s false (sqN (L.take i)) (L[i].natAbs * L[i].natAbs) (by unfold W128;omega)
      rw [← hn] at hP
      unfold wdA at hW hT hP ⊢
      simp only [hc1,ints_get L i h',vcV,vcD,Int.reduceEq,Int.reduceNe,Int.reduceLT,Int.reduceLE,Nat.reduceEqDiff,Nat.reduceAdd,reduceIte,reduceCtorEq,Nat.reduceLT,Nat.reduceLeDiff,eq_self,vcP2,Nat.reduceShiftRight,Nat.reduceMod]
      (repeat (with_reducible refine And.intro ?_ ?_;focus (first | omega | (unfold I64;omega))))
      refine callS_of hW ?_
      simp only [vcV,vcD,Int.reduceEq,Int.reduceNe,Int.reduceLT,Int.reduceLE,Nat.reduceEqDiff,Nat.reduceAdd,reduceIte,reduceCtorEq,Nat.reduceLT,Nat.reduceLeDiff,eq_self,vcP2,Nat.reduceShiftRight,Nat.reduceMod]
      refine callS_of hT ?_
      simp only [vcV,vcD,Int.reduceEq,Int.reduceNe,Int.reduceLT,Int.reduceLE,Nat.reduceEqDiff,Nat.reduceAdd,reduceIte,reduceCtorEq,Nat.reduceLT,Nat.reduceLeDiff,eq_self,vcP2,Nat.reduceShiftRight,Nat.reduceMod]
      refine callS_of hP ?_
      simp only [vcV,vcD,Int.reduceEq,Int.reduceNe,Int.reduceLT,Int.reduceLE,Nat.reduceEqDiff,Nat.reduceAdd,reduceIte,reduceCtorEq,Nat.reduceLT,Nat.reduceLeDiff,eq_self,vcP2,Nat.reduceShiftRight,Nat.reduceMod]
      (repeat (with_reducible refine And.intro ?_ ?_;focus (first | omega | (unfold I64;omega))))
      refine ⟨⟨i+1,h'⟩,by simp only;omega,?_⟩
      refine weakX [] (of_decide_eq_true rfl) (of_decide_eq_true rfl) ?_
      (simp only [vcW,vcV,vcD,Int.reduceEq,Int.reduceNe,Int.reduceLT,Int.reduceLE,Nat.reduceEqDiff,Nat.reduceAdd,reduceIte,reduceCtorEq,Nat.reduceLT,Nat.reduceLeDiff,eq_self,vcP2,Nat.reduceShiftRight,Nat.reduceMod])
      (repeat' first | exact trivial | (with_reducible first | exact RnB.fxB (ints_fxB _) | rfl | refine And.intro ?_ ?_) | (with_reducible (first | refine RnB.bb ?_ | refine RnB.nb ?_);simp only [vcW,vcV,vcD,Int.reduceEq,Int.reduceNe,Int.reduceLT,Int.reduceLE,Nat.reduceEqDiff,Nat.reduceAdd,reduceIte,reduceCtorEq,Nat.reduceLT,Nat.reduceLeDiff,eq_self,vcP2,Nat.reduceShiftRight,Nat.reduceMod]) | (with_reducible first | refine RnB.ii ?_ | refine RnB.app ?_) | (with_reducible refine RnB.fxB ?_;simp only [vcW,vcV,vcD,Int.reduceEq,Int.reduceNe,Int.reduceLT,Int.reduceLE,Nat.reduceEqDiff,Nat.reduceAdd,reduceIte,reduceCtorEq,Nat.reduceLT,Nat.reduceLeDiff,eq_self,vcP2,Nat.reduceShiftRight,Nat.reduceMod]) | omega)
    · have hil:i=L.length:=by omega
      subst hil
      have hc1:¬ (L.length:Int)<L.length:=by omega
      rw [List.take_length]
      have hle1:=hle L.length
      rw [List.take_length] at hle1
      have hX:=text_s (sqN L) false (by unfold W128;omega)
      unfold wdA at hX ⊢
      simp only [hc1,vcV,vcD,Int.reduceEq,Int.reduceNe,Int.reduceLT,Int.reduceLE,Nat.reduceEqDiff,Nat.reduceAdd,reduceIte,reduceCtorEq,Nat.reduceLT,Nat.reduceLeDiff,eq_self,vcP2,Nat.reduceShiftRight,Nat.reduceMod]
      refine callS_of hX ?_
      simp only [vcV,vcD,Int.reduceEq,Int.reduceNe,Int.reduceLT,Int.reduceLE,Nat.reduceEqDiff,Nat.reduceAdd,reduceIte,reduceCtorEq,Nat.reduceLT,Nat.reduceLeDiff,eq_self,vcP2,Nat.reduceShiftRight,Nat.reduceMod]

end Go.Proofs.YtgmpcbpmnimkoaaGreatDoor

/- Contracts of the reference: templates,items,the model,differences. By an AI agent;nothing here is trusted. -/
namespace Go.Proofs.YtgmpcbpmnimkoaaGreatDoor
open Go.Av

theorem CopyTemplate_s (items:List Int) (shifts:Int) (hl:items.length≤1000000000):Sound Tryz.prog 15 [tplA items shifts] (tplA items shifts):=by
  refine sound_W f_ref02_CopyTemplate (Nat.le_of_ble_eq_true rfl) ?_
  simp only [c_ref02_CopyTemplate,tplA,vcV,vcD,Int.reduceEq,Int.reduceNe,Int.reduceLT,Int.reduceLE,Nat.reduceEqDiff,Nat.reduceAdd,reduceIte,reduceCtorEq,Nat.reduceLT,Nat.reduceLeDiff,eq_self,vcP2,Nat.reduceShiftRight,Nat.reduceMod]
  refine callS_of (CopyInts_s items hl) ?_
  simp only [vcV,vcD,Int.reduceEq,Int.reduceNe,Int.reduceLT,Int.reduceLE,Nat.reduceEqDiff,Nat.reduceAdd,reduceIte,reduceCtorEq,Nat.reduceLT,Nat.reduceLeDiff,eq_self,vcP2,Nat.reduceShiftRight,Nat.reduceMod]
theorem TemplateErr_s (items:List Int) (shifts:Int):Sound Tryz.prog 32 [tplA items shifts] (.int .i64 (teE items shifts)):=by
  refine sound_W f_ref02_TemplateErr (Nat.le_of_ble_eq_true rfl) ?_
  by_cases h0:items.length=0
  · have he:teE items shifts=10:=by unfold teE;rw [if_pos h0]
    have h0':(items.length:Int)=0:=by omega
    rw [he]
    simp only [c_ref02_TemplateErr,tplA,h0',vcV,vcD,Int.reduceEq,Int.reduceNe,Int.reduceLT,Int.reduceLE,Nat.reduceEqDiff,Nat.reduceAdd,reduceIte,reduceCtorEq,Nat.reduceLT,Nat.reduceLeDiff,eq_self,vcP2,Nat.reduceShiftRight,Nat.reduceMod]
  have h0':¬ (items.length:Int)=0:=by omega
  by_cases h6:6<items.length
  · have he:teE items shifts=8:=by unfold teE;rw [if_neg h0,if_pos h6]
    have h6':(6:Int)<items.length:=by omega
    rw [he]
    simp only [c_ref02_TemplateErr,tplA,h0',h6',vcV,vcD,Int.reduceEq,Int.reduceNe,Int.reduceLT,Int.reduceLE,Nat.reduceEqDiff,Nat.reduceAdd,reduceIte,reduceCtorEq,Nat.reduceLT,Nat.reduceLeDiff,eq_self,vcP2,Nat.reduceShiftRight,Nat.reduceMod]
  have h6':¬ (6:Int)<items.length:=by omega
  simp only [c_ref02_TemplateErr,tplA,h0',h6',vcV,vcD,Int.reduceEq,Int.reduceNe,Int.reduceLT,Int.reduceLE,Nat.reduceEqDiff,Nat.reduceAdd,reduceIte,reduceCtorEq,Nat.reduceLT,Nat.reduceLeDiff,eq_self,vcP2,Nat.reduceShiftRight,Nat.reduceMod]
  refine W_loop (t:=.mk) (α:=PSigma fun i:Nat=>i≤items.length∧(items.take i).all itm=true) (fun ⟨i,_⟩=>(envOf [(1,.ptr 1 0 0),(3,.bool ((items.take i).all fun n=>decide (n=0))),(4,.int .i64 i)],stOf [(1,⟨24,2,[.agg [.sl (ints items),.int .i64 shifts]]⟩)])) (fun p=>items.length - p.1) ⟨0,Nat.zero_le _,rfl⟩ ?_ (fun ⟨i,hi,hn⟩=>?_)
  · refine weakX [] (of_decide_eq_true rfl) (of_decide_eq_true rfl) ?_
    (simp only [vcW,vcV,vcD,Int.reduceEq,Int.reduceNe,Int.reduceLT,Int.reduceLE,Nat.reduceEqDiff,Nat.reduceAdd,reduceIte,reduceCtorEq,Nat.reduceLT,Nat.reduceLeDiff,eq_self,vcP2,Nat.reduceShiftRight,Nat.reduceMod])
    (repeat' first | exact trivial | (with_reducible first | exact RnB.fxB (ints_fxB _) | rfl | refine And.intro ?_ ?_) | (with_reducible (first | refine RnB.bb ?_ | refine RnB.nb ?_);simp only [vcW,vcV,vcD,Int.reduceEq,Int.reduceNe,Int.reduceLT,Int.reduceLE,Nat.reduceEqDiff,Nat.reduceAdd,reduceIte,reduceCtorEq,Nat.reduceLT,Nat.reduceLeDiff,eq_self,vcP2,Nat.reduceShiftRight,Nat.reduceMod]) | (with_reducible first | refine RnB.ii ?_ | refine RnB.app ?_) | (with_reducible refine RnB.fxB ?_;simp only [vcW,vcV,vcD,Int.reduceEq,Int.reduceNe,Int.reduceLT,Int.reduceLE,Nat.reduceEqDiff,Nat.reduceAdd,reduceIte,reduceCtorEq,Nat.reduceLT,Nat.reduceLeDiff,eq_self,vcP2,Nat.reduceShiftRight,Nat.reduceMod]) | omega)
  · dsimp only at hi hn ⊢
    by_cases h':i<items.length
    · have h3:(i:Int)<items.length:=by omega
      have ht:∀ p:Int→Bool,(items.take (i+1)).all p=((items.take i).all p && p items[i]):=fun p=>by rw [List.take_succ_eq_append_getElem h',List.all_append];simp
      by_cases hw : -100≤items[i]∧items[i]≤100
      · have hitm:itm items[i]=true:=by unfold itm;simpa using hw
        cases hz:(items.take i).all fun n=>decide (n=0)
        all_goals
          have hz1:=ht fun n=>decide (n=0)
          rw [hz] at hz1
          try rw [Bool.true_and] at hz1
          try rw [Bool.false_and] at hz1
          simp only [h3,ints_get items i h',vcV,vcD,Int.reduceEq,Int.reduceNe,Int.reduceLT,Int.reduceLE,Nat.reduceEqDiff,Nat.reduceAdd,reduceIte,reduceCtorEq,Nat.reduceLT,Nat.reduceLeDiff,eq_self,vcP2,Nat.reduceShiftRight,Nat.reduceMod]
          (repeat (with_reducible refine And.intro ?_ ?_;focus (first | omega | (unfold I64;omega))))
          refine callS_of (Within_s _ _ _) ?_
          simp only [hw,ints_get items i h',vcV,vcD,Int.reduceEq,Int.reduceNe,Int.reduceLT,Int.reduceLE,Nat.reduceEqDiff,Nat.reduceAdd,reduceIte,reduceCtorEq,Nat.reduceLT,Nat.reduceLeDiff,eq_self,vcP2,Nat.reduceShiftRight,Nat.reduceMod]
          (repeat (with_reducible refine And.intro ?_ ?_;focus (first | omega | (unfold I64;omega))))
          refine ⟨⟨i+1,h',by rw [ht,hn,hitm];rfl⟩,by simp only;omega,?_⟩
          refine weakX [] (of_decide_eq_true rfl) (of_decide_eq_true rfl) ?_
          (simp only [hz1,vcW,vcV,vcD,Int.reduceEq,Int.reduceNe,Int.reduceLT,Int.reduceLE,Nat.reduceEqDiff,Nat.reduceAdd,reduceIte,reduceCtorEq,Nat.reduceLT,Nat.reduceLeDiff,eq_self,vcP2,Nat.reduceShiftRight,Nat.reduceMod])
          (repeat' first | exact trivial | (with_reducible first | exact RnB.fxB (ints_fxB _) | rfl | refine And.intro ?_ ?_) | (with_reducible (first | refine RnB.bb ?_ | refine RnB.nb ?_);simp only [vcW,vcV,vcD,Int.reduceEq,Int.reduceNe,Int.reduceLT,Int.reduceLE,Nat.reduceEqDiff,Nat.reduceAdd,reduceIte,reduceCtorEq,Nat.reduceLT,Nat.reduceLeDiff,eq_self,vcP2,Nat.reduceShiftRight,Nat.reduceMod]) | (with_reducible first | refine RnB.ii ?_ | refine RnB.app ?_) | (with_reducible refine RnB.fxB ?_;simp only [vcW,vcV,vcD,Int.reduceEq,Int.reduceNe,Int.reduceLT,Int.reduceLE,Nat.reduceEqDiff,Nat.reduceAdd,reduceIte,reduceCtorEq,Nat.reduceLT,Nat.reduceLeDiff,eq_self,vcP2,Nat.reduceShiftRight,Nat.reduceMod]) | omega)
      · have hitm:itm items[i]=false:=by unfold itm;simpa using hw
        have he:teE items shifts=2:=by
          unfold teE
          rw [if_neg h0,if_neg h6,if_pos]
          rw [List.all_eq_false]
          exact ⟨items[i],List.getElem_mem h',by rw [hitm];decide⟩
        simp only [h3,ints_get items i h',vcV,vcD,Int.reduceEq,Int.reduceNe,Int.reduceLT,Int.reduceLE,Nat.reduceEqDiff,Nat.reduceAdd,reduceIte,reduceCtorEq,Nat.reduceLT,Nat.reduceLeDiff,eq_self,vcP2,Nat.reduceShiftRight,Nat.reduceMod]
        (repeat (with_reducible refine And.intro ?_ ?_;focus (first | omega | (unfold I64;omega))))
        refine callS_of (Within_s _ _ _) ?_
        simp only [hw,he,vcV,vcD,Int.reduceEq,Int.reduceNe,Int.reduceLT,Int.reduceLE,Nat.reduceEqDiff,Nat.reduceAdd,reduceIte,reduceCtorEq,Nat.reduceLT,Nat.reduceLeDiff,eq_self,vcP2,Nat.reduceShiftRight,Nat.reduceMod]
    · have h3:¬ (i:Int)<items.length:=by omega
      have hil:i=items.length:=by omega
      subst hil
      rw [List.take_length] at *
      cases hz:items.all fun n=>decide (n=0)
      · simp only [h3,vcV,vcD,Int.reduceEq,Int.reduceNe,Int.reduceLT,Int.reduceLE,Nat.reduceEqDiff,Nat.reduceAdd,reduceIte,reduceCtorEq,Nat.reduceLT,Nat.reduceLeDiff,eq_self,vcP2,Nat.reduceShiftRight,Nat.reduceMod]
        refine callS_of (Within_s _ _ _) ?_
        by_cases hs:1≤shifts∧shifts≤5
        · have he:teE items shifts=0:=by unfold teE;rw [if_neg h0,if_neg h6,if_neg (by rw [hn];decide),if_neg (by rw [hz];decide),if_pos hs]
          simp only [hs,he,vcV,vcD,Int.reduceEq,Int.reduceNe,Int.reduceLT,Int.reduceLE,Nat.reduceEqDiff,Nat.reduceAdd,reduceIte,reduceCtorEq,Nat.reduceLT,Nat.reduceLeDiff,eq_self,vcP2,Nat.reduceShiftRight,Nat.reduceMod]
        · have he:teE items shifts=2:=by unfold teE;rw [if_neg h0,if_neg h6,if_neg (by rw [hn];decide),if_neg (by rw [hz];decide),if_neg hs]
          simp only [hs,he,vcV,vcD,Int.reduceEq,Int.reduceNe,Int.reduceLT,Int.reduceLE,Nat.reduceEqDiff,Nat.reduceAdd,reduceIte,reduceCtorEq,Nat.reduceLT,Nat.reduceLeDiff,eq_self,vcP2,Nat.reduceShiftRight,Nat.reduceMod]
      · have he:teE items shifts=11:=by unfold teE;rw [if_neg h0,if_neg h6,if_neg (by rw [hn];decide),if_pos hz]
        simp only [h3,he,vcV,vcD,Int.reduceEq,Int.reduceNe,Int.reduceLT,Int.reduceLE,Nat.reduceEqDiff,Nat.reduceAdd,reduceIte,reduceCtorEq,Nat.reduceLT,Nat.reduceLeDiff,eq_self,vcP2,Nat.reduceShiftRight,Nat.reduceMod]
theorem FittedErr_s (items:List Int) (shifts:Int) (l:List Int):Sound Tryz.prog 12 [tplA items shifts,.sl (ints l)] (.int .i64 (fdE items shifts l)):=by
  refine sound_W f_ref02_FittedErr (Nat.le_of_ble_eq_true rfl) ?_
  have hT:=TemplateErr_s items shifts
  unfold tplA at hT
  simp only [c_ref02_FittedErr,tplA,vcV,vcD,Int.reduceEq,Int.reduceNe,Int.reduceLT,Int.reduceLE,Nat.reduceEqDiff,Nat.reduceAdd,reduceIte,reduceCtorEq,Nat.reduceLT,Nat.reduceLeDiff,eq_self,vcP2,Nat.reduceShiftRight,Nat.reduceMod]
  refine callS_of hT ?_
  by_cases h1:teE items shifts=0
  case neg =>
    have he:fdE items shifts l=teE items shifts:=by unfold fdE;rw [if_pos h1]
    simp only [h1,he,vcV,vcD,Int.reduceEq,Int.reduceNe,Int.reduceLT,Int.reduceLE,Nat.reduceEqDiff,Nat.reduceAdd,reduceIte,reduceCtorEq,Nat.reduceLT,Nat.reduceLeDiff,eq_self,vcP2,Nat.reduceShiftRight,Nat.reduceMod]
  simp only [h1,vcV,vcD,Int.reduceEq,Int.reduceNe,Int.reduceLT,Int.reduceLE,Nat.reduceEqDiff,Nat.reduceAdd,reduceIte,reduceCtorEq,Nat.reduceLT,Nat.reduceLeDiff,eq_self,vcP2,Nat.reduceShiftRight,Nat.reduceMod]
  refine callS_of (SamplesErr_s l) ?_
  by_cases h2:smE l=0
  case neg =>
    have he:fdE items shifts l=smE l:=by unfold fdE;rw [if_neg (by omega),if_pos h2]
    simp only [h2,he,vcV,vcD,Int.reduceEq,Int.reduceNe,Int.reduceLT,Int.reduceLE,Nat.reduceEqDiff,Nat.reduceAdd,reduceIte,reduceCtorEq,Nat.reduceLT,Nat.reduceLeDiff,eq_self,vcP2,Nat.reduceShiftRight,Nat.reduceMod]
  obtain ⟨⟨a1,a2⟩,_,_,a3⟩:=teE_ok h1
  by_cases h3:(l.length:Int)=shifts+items.length - 1
  · have he:fdE items shifts l=0:=by unfold fdE;rw [if_neg (by omega),if_neg (by omega),if_pos h3]
    simp only [h2,← h3,he,vcV,vcD,Int.reduceEq,Int.reduceNe,Int.reduceLT,Int.reduceLE,Nat.reduceEqDiff,Nat.reduceAdd,reduceIte,reduceCtorEq,Nat.reduceLT,Nat.reduceLeDiff,eq_self,vcP2,Nat.reduceShiftRight,Nat.reduceMod]
    (repeat (with_reducible refine And.intro ?_ ?_;focus (first | omega | (unfold I64;omega))))
    all_goals (unfold I64;omega)
  · have he:fdE items shifts l=13:=by unfold fdE;rw [if_neg (by omega),if_neg (by omega),if_neg h3]
    simp only [h2,h3,he,vcV,vcD,Int.reduceEq,Int.reduceNe,Int.reduceLT,Int.reduceLE,Nat.reduceEqDiff,Nat.reduceAdd,reduceIte,reduceCtorEq,Nat.reduceLT,Nat.reduceLeDiff,eq_self,vcP2,Nat.reduceShiftRight,Nat.reduceMod]
    (repeat (with_reducible refine And.intro ?_ ?_;focus (first | omega | (unfold I64;omega))))
    all_goals (unfold I64;omega)

def itI (items:List Int) (z:Int):Int:=if 0≤z∧z≤(items.length:Int) - 1 then items.getD z.toNat 0 else 0
theorem itI_nat (items:List Int) (n k:Nat):itI items ((n:Int) - k)=Lin.itm items n k:=by
  unfold itI Lin.itm
  by_cases h:k≤n∧n - k<items.length
  · rw [if_pos h,if_pos (by omega)];congr 1;omega
  · rw [if_neg h,if_neg (by omega)]
theorem item_s (items:List Int) (shifts z:Int) (hl:items.length<1000000):Sound Tryz.prog 97 [tplA items shifts,.int .i64 z] (.int .i64 (itI items z)):=by
  refine sound_W f_ref02_item (Nat.le_of_ble_eq_true rfl) ?_
  simp only [c_ref02_item,tplA,vcV,vcD,Int.reduceEq,Int.reduceNe,Int.reduceLT,Int.reduceLE,Nat.reduceEqDiff,Nat.reduceAdd,reduceIte,reduceCtorEq,Nat.reduceLT,Nat.reduceLeDiff,eq_self,vcP2,Nat.reduceShiftRight,Nat.reduceMod]
  (repeat (with_reducible refine And.intro ?_ ?_;focus (first | omega | (unfold I64;omega))))
  refine callS_of (Within_s _ _ _) ?_
  by_cases h:0≤z∧z≤(items.length:Int) - 1
  · have hz:z.toNat<items.length:=by omega
    have he:itI items z=items[z.toNat]:=by unfold itI;rw [if_pos h,getD_at hz]
    simp only [h,ints_get items z.toNat hz,he,vcV,vcD,Int.reduceEq,Int.reduceNe,Int.reduceLT,Int.reduceLE,Nat.reduceEqDiff,Nat.reduceAdd,reduceIte,reduceCtorEq,Nat.reduceLT,Nat.reduceLeDiff,eq_self,vcP2,Nat.reduceShiftRight,Nat.reduceMod]
  · have he:itI items z=0:=by unfold itI;rw [if_neg h]
    simp only [h,he,vcV,vcD,Int.reduceEq,Int.reduceNe,Int.reduceLT,Int.reduceLE,Nat.reduceEqDiff,Nat.reduceAdd,reduceIte,reduceCtorEq,Nat.reduceLT,Nat.reduceLeDiff,eq_self,vcP2,Nat.reduceShiftRight,Nat.reduceMod]
end Go.Proofs.YtgmpcbpmnimkoaaGreatDoor

/- Contracts of the reference: the model,differences,the accepted fit,squares. By an AI agent;nothing here is trusted. -/
namespace Go.Proofs.YtgmpcbpmnimkoaaGreatDoor
open Go.Av

theorem mdT_itm (items ch:List Int) (n k:Nat):mdT items ch n (k+1)=mdT items ch n k+ch.getD k 0 * Lin.itm items n k:=by
  rw [mdT]
  unfold Lin.itm
  split
  · rfl
  · rw [Int.mul_zero]
theorem itm_bd {items:List Int} (hi:∀ x ∈ items, -100≤x∧x≤100) (n k:Nat) : -100≤Lin.itm items n k∧Lin.itm items n k≤100:=by
  unfold Lin.itm
  split
  · exact it_bd hi _
  · omega
theorem itm_lo {items:List Int} {n k:Nat} (h:n<k):Lin.itm items n k=0:=by unfold Lin.itm;rw [if_neg (by omega)]
theorem itm_hi {items:List Int} {n k:Nat} (h:k+items.length≤n):Lin.itm items n k=0:=by unfold Lin.itm;rw [if_neg (by omega)]
theorem ag_sum (items l:List Int) (k:Nat):∀ N,Lin.smI N (fun n=>l.getD n 0 * Lin.itm items n k)=if N≤k then 0 else if N≤k+items.length then agT items l k (N - k) else agT items l k items.length
  | 0=>by rw [if_pos (by omega)];rfl
  | N+1=>by
    rw [Lin.smI,ag_sum items l k N]
    by_cases h1:N<k
    · rw [if_pos (by omega),if_pos (by omega),itm_lo h1];omega
    · by_cases h2:N<k+items.length
      · rw [if_neg (show ¬ N+1≤k by omega),if_pos (show N+1≤k+items.length by omega),show N+1 - k=(N - k)+1 by omega,agT]
        have e:l.getD N 0 * Lin.itm items N k=items.getD (N - k) 0 * l.getD (k+(N - k)) 0:=by
          unfold Lin.itm;rw [if_pos ⟨by omega,by omega⟩,Int.mul_comm,show k+(N - k)=N by omega]
        rw [e]
        congr 1
        by_cases h3:N≤k
        · rw [if_pos h3,show N - k=0 by omega];rfl
        · rw [if_neg h3,if_pos (by omega)]
      · rw [if_neg (show ¬ N+1≤k by omega),if_neg (show ¬ N+1≤k+items.length by omega),itm_hi (by omega),Int.mul_zero,Int.add_zero]
        by_cases h3:N≤k
        · have:items.length=0:=by omega
          rw [if_pos h3,this];rfl
        · rw [if_neg h3]
          by_cases h4:N≤k+items.length
          · rw [if_pos h4];congr 1;omega
          · rw [if_neg h4]
theorem mdA_eq (items ch:List Int):mdA items ch=(List.range (mdA items ch).length).map fun n=>mdT items ch n ch.length:=by
  apply List.ext_getElem
  · simp
  · intro n h1 h2;rw [mdA_get];simp
def mdU (items ch:List Int) (n:Nat):List Int:=(List.range n).map fun n=>mdT items ch n ch.length
theorem mdU_succ (items ch:List Int) (n:Nat):mdU items ch (n+1)=mdU items ch n ++ [mdT items ch n ch.length]:=by unfold mdU;rw [List.range_succ,List.map_append];rfl
theorem mdU_len (items ch:List Int) (n:Nat):(mdU items ch n).length=n:=by simp [mdU]
set_option maxHeartbeats 2000000 in
theorem Model_o {items ch:List Int} {shifts:Int} {C:Int} (h1:1≤items.length) (h6:items.length≤6) (hs:(ch.length:Int)=shifts) (h8:1≤ch.length∧ch.length≤8) (hC:0≤C∧C≤1000000000000) (hi:∀ x ∈ items, -100≤x∧x≤100) (hc:∀ x ∈ ch, -C≤x∧x≤C) :
    SoundO Tryz.prog 18 [tplA items shifts,.sl (ints ch)] 3 1 (ints (mdA items ch)):=by
  refine soundO_W f_ref02_Model (Nat.le_of_ble_eq_true rfl) (by decide) ?_
  subst hs
  have hmax:=maxLen_big
  have hb:∀ n k:Nat,k≤8 → -900000000000000≤mdT items ch n k∧mdT items ch n k≤900000000000000:=fun n k hk=>by
    have h:=mdT_bd hC.1 hi hc n k
    have h2:100 * C * (k:Int)≤100000000000000 * 8:=Int.mul_le_mul (by omega) (by omega) (by omega) (by omega)
    omega
  obtain ⟨M,hM⟩:∃ M,M=ch.length+items.length - 1:=⟨_,rfl⟩
  have hMi:(ch.length:Int)+items.length - 1=(M:Int):=by omega
  simp only [c_ref02_Model,tplA,vcV,vcD,Int.reduceEq,Int.reduceNe,Int.reduceLT,Int.reduceLE,Nat.reduceEqDiff,Nat.reduceAdd,reduceIte,reduceCtorEq,Nat.reduceLT,Nat.reduceLeDiff,eq_self,vcP2,Nat.reduceShiftRight,Nat.reduceMod]
  refine W_loop (t:=.mk) (α:=PSigma fun i:Nat=>i≤M) (fun ⟨i,_⟩=>(envOf [(1,.sl (ints ch)),(2,.ptr 2 0 0),(5,.buf 100 i),(6,.int .i64 i)],stOf [(2,⟨24,2,[.agg [.sl (ints items),.int .i64 ch.length]]⟩),(100,⟨3,1,ints (mdU items ch i)⟩)])) (fun x=>M - x.1) ⟨0,Nat.zero_le _⟩ ?_ (fun ⟨i,hin⟩=>?_)
  · have z:ints (mdU items ch 0)=[]:=rfl
    refine weakX [(100,none)] (of_decide_eq_true rfl) (of_decide_eq_true rfl) ?_
    (simp only [z,vcW,vcV,vcD,Int.reduceEq,Int.reduceNe,Int.reduceLT,Int.reduceLE,Nat.reduceEqDiff,Nat.reduceAdd,reduceIte,reduceCtorEq,Nat.reduceLT,Nat.reduceLeDiff,eq_self,vcP2,Nat.reduceShiftRight,Nat.reduceMod])
    (repeat' first | exact trivial | (with_reducible first | exact RnB.fxB (ints_fxB _) | rfl | refine And.intro ?_ ?_) | (with_reducible (first | refine RnB.bb ?_ | refine RnB.nb ?_);simp only [vcW,vcV,vcD,Int.reduceEq,Int.reduceNe,Int.reduceLT,Int.reduceLE,Nat.reduceEqDiff,Nat.reduceAdd,reduceIte,reduceCtorEq,Nat.reduceLT,Nat.reduceLeDiff,eq_self,vcP2,Nat.reduceShiftRight,Nat.reduceMod]) | (with_reducible first | refine RnB.ii ?_ | refine RnB.app ?_) | (with_reducible refine RnB.fxB ?_;simp only [vcW,vcV,vcD,Int.reduceEq,Int.reduceNe,Int.reduceLT,Int.reduceLE,Nat.reduceEqDiff,Nat.reduceAdd,reduceIte,reduceCtorEq,Nat.reduceLT,Nat.reduceLeDiff,eq_self,vcP2,Nat.reduceShiftRight,Nat.reduceMod]) | omega)
  · dsimp only at hin ⊢
    have hlU:=mdU_len items ch i
    by_cases h':i<M
    · have hc1:(i:Int)<M:=by omega
      simp only [hMi,hc1,vcV,vcD,Int.reduceEq,Int.reduceNe,Int.reduceLT,Int.reduceLE,Nat.reduceEqDiff,Nat.reduceAdd,reduceIte,reduceCtorEq,Nat.reduceLT,Nat.reduceLeDiff,eq_self,vcP2,Nat.reduceShiftRight,Nat.reduceMod]
      (repeat (with_reducible refine And.intro ?_ ?_;focus (first | omega | (unfold I64;omega))))
      refine W_loop (t:=.mk) (α:=PSigma fun k:Nat=>k≤ch.length) (fun ⟨k,_⟩=>(envOf [(1,.sl (ints ch)),(2,.ptr 2 0 0),(5,.buf 100 i),(6,.int .i64 i),(7,.int .i64 (mdT items ch i k)),(8,.int .i64 k)],stOf [(2,⟨24,2,[.agg [.sl (ints items),.int .i64 ch.length]]⟩),(100,⟨3,1,ints (mdU items ch i)⟩)])) (fun x=>ch.length - x.1) ⟨0,Nat.zero_le _⟩ ?_ (fun ⟨k,hk⟩=>?_)
      · have z:mdT items ch i 0=0:=rfl
        refine weakX [(100,some 100)] (of_decide_eq_true rfl) (of_decide_eq_true rfl) ?_
        (simp only [z,vcW,vcV,vcD,Int.reduceEq,Int.reduceNe,Int.reduceLT,Int.reduceLE,Nat.reduceEqDiff,Nat.reduceAdd,reduceIte,reduceCtorEq,Nat.reduceLT,Nat.reduceLeDiff,eq_self,vcP2,Nat.reduceShiftRight,Nat.reduceMod])
        (repeat' first | exact trivial | (with_reducible first | exact RnB.fxB (ints_fxB _) | rfl | refine And.intro ?_ ?_) | (with_reducible (first | refine RnB.bb ?_ | refine RnB.nb ?_);simp only [vcW,vcV,vcD,Int.reduceEq,Int.reduceNe,Int.reduceLT,Int.reduceLE,Nat.reduceEqDiff,Nat.reduceAdd,reduceIte,reduceCtorEq,Nat.reduceLT,Nat.reduceLeDiff,eq_self,vcP2,Nat.reduceShiftRight,Nat.reduceMod]) | (with_reducible first | refine RnB.ii ?_ | refine RnB.app ?_) | (with_reducible refine RnB.fxB ?_;simp only [vcW,vcV,vcD,Int.reduceEq,Int.reduceNe,Int.reduceLT,Int.reduceLE,Nat.reduceEqDiff,Nat.reduceAdd,reduceIte,reduceCtorEq,Nat.reduceLT,Nat.reduceLeDiff,eq_self,vcP2,Nat.reduceShiftRight,Nat.reduceMod]) | omega)
      · dsimp only at hk ⊢
        by_cases h2:k<ch.length
        · have hc2:(k:Int)<ch.length:=by omega
          have hI:=item_s items (ch.length:Int) ((i:Int) - k) (by omega)
          rw [itI_nat] at hI
          unfold tplA at hI
          have hn:=mdT_itm items ch i k
          rw [getD_at h2] at hn
          have b1:=hb i k (by omega)
          have b2:=hb i (k+1) (by omega)
          have b3:=itm_bd hi i k
          have b4:=hc ch[k] (List.getElem_mem h2)
          have b5:=prod_bd hC.1 b3 b4
          rw [Int.mul_comm (Lin.itm items i k)] at b5
          simp only [hc2,ints_get ch k h2,vcV,vcD,Int.reduceEq,Int.reduceNe,Int.reduceLT,Int.reduceLE,Nat.reduceEqDiff,Nat.reduceAdd,reduceIte,reduceCtorEq,Nat.reduceLT,Nat.reduceLeDiff,eq_self,vcP2,Nat.reduceShiftRight,Nat.reduceMod]
          (repeat (with_reducible refine And.intro ?_ ?_;focus (first | omega | (unfold I64;omega))))
          refine callS_of hI ?_
          simp only [vcV,vcD,Int.reduceEq,Int.reduceNe,Int.reduceLT,Int.reduceLE,Nat.reduceEqDiff,Nat.reduceAdd,reduceIte,reduceCtorEq,Nat.reduceLT,Nat.reduceLeDiff,eq_self,vcP2,Nat.reduceShiftRight,Nat.reduceMod]
          (repeat (with_reducible refine And.intro ?_ ?_;focus (first | omega | (unfold I64;omega))))
          refine ⟨⟨k+1,h2⟩,by simp only;omega,?_⟩
          refine weakX [(100,some 100)] (of_decide_eq_true rfl) (of_decide_eq_true rfl) ?_
          (simp only [hn,vcW,vcV,vcD,Int.reduceEq,Int.reduceNe,Int.reduceLT,Int.reduceLE,Nat.reduceEqDiff,Nat.reduceAdd,reduceIte,reduceCtorEq,Nat.reduceLT,Nat.reduceLeDiff,eq_self,vcP2,Nat.reduceShiftRight,Nat.reduceMod])
          (repeat' first | exact trivial | (with_reducible first | exact RnB.fxB (ints_fxB _) | rfl | refine And.intro ?_ ?_) | (with_reducible (first | refine RnB.bb ?_ | refine RnB.nb ?_);simp only [vcW,vcV,vcD,Int.reduceEq,Int.reduceNe,Int.reduceLT,Int.reduceLE,Nat.reduceEqDiff,Nat.reduceAdd,reduceIte,reduceCtorEq,Nat.reduceLT,Nat.reduceLeDiff,eq_self,vcP2,Nat.reduceShiftRight,Nat.reduceMod]) | (with_reducible first | refine RnB.ii ?_ | refine RnB.app ?_) | (with_reducible refine RnB.fxB ?_;simp only [vcW,vcV,vcD,Int.reduceEq,Int.reduceNe,Int.reduceLT,Int.reduceLE,Nat.reduceEqDiff,Nat.reduceAdd,reduceIte,reduceCtorEq,Nat.reduceLT,Nat.reduceLeDiff,eq_self,vcP2,Nat.reduceShiftRight,Nat.reduceMod]) | omega)
        · have hkl:k=ch.length:=by omega
          subst hkl
          have hc2:¬ (ch.length:Int)<ch.length:=by omega
          have hia:ints (mdU items ch (i+1))=ints (mdU items ch i) ++ [.int .i64 (mdT items ch i ch.length)]:=by rw [mdU_succ,ints_append];rfl
          simp only [hc2,ints_length,hlU,vcV,vcD,Int.reduceEq,Int.reduceNe,Int.reduceLT,Int.reduceLE,Nat.reduceEqDiff,Nat.reduceAdd,reduceIte,reduceCtorEq,Nat.reduceLT,Nat.reduceLeDiff,eq_self,vcP2,Nat.reduceShiftRight,Nat.reduceMod]
          (repeat (with_reducible refine And.intro ?_ ?_;focus (first | omega | (unfold I64;omega))))
          refine ⟨⟨i+1,h'⟩,by simp only;omega,?_⟩
          refine weakX [(100,some 41)] (of_decide_eq_true rfl) (of_decide_eq_true rfl) ?_
          (simp only [hia,ints_length,hlU,vcW,vcV,vcD,Int.reduceEq,Int.reduceNe,Int.reduceLT,Int.reduceLE,Nat.reduceEqDiff,Nat.reduceAdd,reduceIte,reduceCtorEq,Nat.reduceLT,Nat.reduceLeDiff,eq_self,vcP2,Nat.reduceShiftRight,Nat.reduceMod])
          (repeat' first | exact trivial | (with_reducible first | exact RnB.fxB (ints_fxB _) | rfl | refine And.intro ?_ ?_) | (with_reducible (first | refine RnB.bb ?_ | refine RnB.nb ?_);simp only [vcW,vcV,vcD,Int.reduceEq,Int.reduceNe,Int.reduceLT,Int.reduceLE,Nat.reduceEqDiff,Nat.reduceAdd,reduceIte,reduceCtorEq,Nat.reduceLT,Nat.reduceLeDiff,eq_self,vcP2,Nat.reduceShiftRight,Nat.reduceMod]) | (with_reducible first | refine RnB.ii ?_ | refine RnB.app ?_) | (with_reducible refine RnB.fxB ?_;simp only [vcW,vcV,vcD,Int.reduceEq,Int.reduceNe,Int.reduceLT,Int.reduceLE,Nat.reduceEqDiff,Nat.reduceAdd,reduceIte,reduceCtorEq,Nat.reduceLT,Nat.reduceLeDiff,eq_self,vcP2,Nat.reduceShiftRight,Nat.reduceMod]) | omega)
          all_goals first | exact hia.symm | exact RnB.fxB (by rw [← hia];exact ints_fxB _) | (rw [ints_append];rfl)
    · have hil:i=M:=by omega
      subst hil
      have hc1:¬ (i:Int)<i:=by omega
      have hE:mdU items ch i=mdA items ch:=by
        have hl:(mdA items ch).length=i:=by rw [mdA_len];exact hM.symm
        rw [mdA_eq,hl];rfl
      have hE2:i=(ints (mdA items ch)).length:=by rw [ints_length,← hE,mdU_len]
      simp only [hMi,hc1,oEnd_n,oEnd_r,hE,vcV,vcD,Int.reduceEq,Int.reduceNe,Int.reduceLT,Int.reduceLE,Nat.reduceEqDiff,Nat.reduceAdd,reduceIte,reduceCtorEq,Nat.reduceLT,Nat.reduceLeDiff,eq_self,vcP2,Nat.reduceShiftRight,Nat.reduceMod]
      refine ⟨by unfold I64;omega,by unfold I64;omega,?_⟩
      exact ownV_i 100 i rfl hE2 rfl (Go.Av.ints_imm _)
theorem Model_s {items ch:List Int} {shifts:Int} {C:Int} (h1:1≤items.length) (h6:items.length≤6) (hs:(ch.length:Int)=shifts) (h8:1≤ch.length∧ch.length≤8) (hC:0≤C∧C≤1000000000000) (hi:∀ x ∈ items, -100≤x∧x≤100) (hc:∀ x ∈ ch, -C≤x∧x≤C) :
    Sound Tryz.prog 18 [tplA items shifts,.sl (ints ch)] (.sl (ints (mdA items ch))):=SoundO.sl (Model_o h1 h6 hs h8 hC hi hc) (ints_immM _)
end Go.Proofs.YtgmpcbpmnimkoaaGreatDoor

/- Contracts: wide numbers divided,rounded down. By an AI agent;nothing here is trusted. -/
namespace Go.Proofs.YtgmpcbpmnimkoaaGreatDoor
open Go.Av

theorem trim_cons {d:Int} {L:Nat} (hd:0≤d∧d<1000000000):trimL (d :: dg L)=dg (d.toNat+1000000000 * L):=by
  have hok:okD (d :: dg L):=fun x hx=>by
    rcases List.mem_cons.1 hx with e | e
    · rw [e];exact hd
    · exact okD_dg L x e
  rw [trim_dg hok,dVal,dVal_dg]
  congr 1;omega
theorem drop_set_eq {l:List Int} {k:Nat} {x:Int} (h:k<l.length):(l.set k x).drop k=x :: l.drop (k+1):=by
  rw [List.drop_eq_getElem_cons (by simpa using h),List.drop_set_of_lt (by omega)]
  simp
theorem floor_step {ai A Q m y L:Int} (h:A=Q * y+L):ai+1000000000 * A=(m+1000000000 * Q) * y+(ai+1000000000 * L - y * m):=by
  rw [h,Int.mul_add,Int.add_mul,Int.mul_comm m y,Int.mul_assoc];omega

theorem dg_len_le {a:List Int} {v k:Nat} (va:dVal a=v) (oa:okD a) (h:a.length≤k):(dg v).length≤k:=by
  have h1:=trim_dg oa
  rw [va] at h1
  have h2:=trimL_le a
  rw [h1] at h2
  exact Nat.le_trans h2 h
set_option maxHeartbeats 8000000 in
theorem WideFloor_s (x:Int) (y:Nat) (hy0:0<y) (hx:wOk 10000 x) (hy:wOk 10000 (y:Int)):Sound Tryz.prog 112 [wideA x,wideA (y:Int)] (wideA (x / (y:Int))):=by
  refine sound_W f_base_WideFloor (Nat.le_of_ble_eq_true rfl) ?_
  have hr:∀ v,wideA v=.agg [.int .i64 v.sign,.sl (ints (dg v.natAbs))]:=fun _=>rfl
  have hmax:=maxLen_big
  by_cases h0:x=0
  · subst h0
    have e0:(0:Int) / (y:Int)=0:=Int.zero_ediv _
    have s1:(0:Int).sign=0:=rfl
    have d0:dg (0:Int).natAbs=[]:=dg_zero
    have i0:ints []=[]:=rfl
    rw [e0,hr (0:Int),hr (y:Int),d0,s1,i0]
    simp only [c_base_WideFloor,vcV,vcD,Int.reduceEq,Int.reduceNe,Int.reduceLT,Int.reduceLE,Nat.reduceEqDiff,Nat.reduceAdd,reduceIte,reduceCtorEq,Nat.reduceLT,Nat.reduceLeDiff,eq_self,vcP2,Nat.reduceShiftRight,Nat.reduceMod]
  have s1:¬ x.sign=0:=by rw [Int.sign_eq_zero_iff_zero];exact h0
  have hsx:=sign_cases h0
  have hyn:((y:Int)).natAbs=y:=rfl
  unfold wOk at hx hy
  have hyw:=wideOf_s 1 (dg y) (by rw [hyn] at hy;omega) (okD_dg y) (.inl rfl)
  rw [dVal_dg,Int.one_mul] at hyw
  have hmul:∀ m:Nat,m<1000000000→Sound Tryz.prog 20 [wideA (y:Int),wideA (m:Int)] (wideA ((y * m:Nat):Int)):=fun m hm=>by
    have:=WideMul_s (y:Int) (m:Int) (by unfold wOk;omega) (by
      unfold wOk
      have:(dg ((m:Int)).natAbs).length≤1:=dg_len (by simp;omega)
      omega)
    rw [show ((y * m:Nat):Int)=(y:Int) * m by simp]
    exact this
  have hsX:x.sign=1∨x.sign = -1:=by rcases hsx with ⟨_,q⟩ | ⟨_,q⟩ <;> simp [q]
  have va:=dVal_dg x.natAbs
  have oa:=okD_dg x.natAbs
  rw [hr x,hr (y:Int),hyn]
  rw [hr (y:Int),hyn] at hyw
  simp only [hr (y:Int),hyn] at hmul
  generalize dg x.natAbs=a at *
  generalize ((y:Int)).sign=sy at *
  simp only [c_base_WideFloor,s1,vcV,vcD,Int.reduceEq,Int.reduceNe,Int.reduceLT,Int.reduceLE,Nat.reduceEqDiff,Nat.reduceAdd,reduceIte,reduceCtorEq,Nat.reduceLT,Nat.reduceLeDiff,eq_self,vcP2,Nat.reduceShiftRight,Nat.reduceMod]
  (repeat (with_reducible refine And.intro ?_ ?_;focus (first | omega | (unfold I64;omega))))
  refine ⟨mkOk_z _,?_⟩
  rw [ints_z]
  (repeat (with_reducible refine And.intro ?_ ?_;focus (first | omega | (unfold I64;omega))))
  refine W_loop (t:=.mk) (α:=PSigma fun p:Nat × List Int × Nat=>p.1≤a.length∧okD p.2.1∧p.2.1.length=a.length∧p.2.2<y∧dVal (a.drop p.1)=dVal (p.2.1.drop p.1) * y+p.2.2) (fun z=>(envOf [(2,.ptr 2 0 0),(3,.ptr 3 0 0),(4,.ptr 4 0 0),(5,.buf 100 a.length),(6,.sl (ints (dg z.1.2.2))),(7,.int .i64 ((z.1.1:Int) - 1))],stOf [(2,⟨38,2,[.agg [.int .i64 x.sign,.sl (ints a)]]⟩),(3,⟨38,2,[.agg [.int .i64 sy,.sl (ints (dg y))]]⟩),(4,⟨38,2,[.agg [.int .i64 0,.nils]]⟩),(100,⟨3,1,ints z.1.2.1⟩)])) (fun z=>z.1.1) ⟨(a.length,List.replicate a.length 0,0),Nat.le_refl _,(fun d hd=>by rw [List.eq_of_mem_replicate hd];omega),by simp,hy0,by simp [dVal]⟩ ?_ (fun ⟨⟨k,qs,L⟩,hk,p1,p2,p3,p4⟩=>?_)
  · have d0:dg 0=[]:=dg_zero
    have i0:ints []=[]:=rfl
    refine weakX [(100,some 19)] (of_decide_eq_true rfl) (of_decide_eq_true rfl) ?_
    (simp only [d0,i0,vcW,vcV,vcD,Int.reduceEq,Int.reduceNe,Int.reduceLT,Int.reduceLE,Nat.reduceEqDiff,Nat.reduceAdd,reduceIte,reduceCtorEq,Nat.reduceLT,Nat.reduceLeDiff,eq_self,vcP2,Nat.reduceShiftRight,Nat.reduceMod])
    repeat' (with_reducible refine And.intro ?_ ?_)
    any_goals (with_reducible exact RnB.wide)
    (repeat' first | exact trivial | (with_reducible first | exact RnB.fxB (ints_fxB _) | rfl | refine And.intro ?_ ?_) | (with_reducible (first | refine RnB.bb ?_ | refine RnB.nb ?_);simp only [vcW,vcV,vcD,Int.reduceEq,Int.reduceNe,Int.reduceLT,Int.reduceLE,Nat.reduceEqDiff,Nat.reduceAdd,reduceIte,reduceCtorEq,Nat.reduceLT,Nat.reduceLeDiff,eq_self,vcP2,Nat.reduceShiftRight,Nat.reduceMod]) | (with_reducible first | refine RnB.ii ?_ | refine RnB.app ?_) | (with_reducible refine RnB.fxB ?_;simp only [vcW,vcV,vcD,Int.reduceEq,Int.reduceNe,Int.reduceLT,Int.reduceLE,Nat.reduceEqDiff,Nat.reduceAdd,reduceIte,reduceCtorEq,Nat.reduceLT,Nat.reduceLeDiff,eq_self,vcP2,Nat.reduceShiftRight,Nat.reduceMod]) | omega)
  · simp only at hk p1 p2 p3 p4
    cases k with
    | zero =>
      have z0:¬ (0:Int)≤((0:Nat):Int) - 1:=by omega
      simp only [List.drop_zero] at p4
      have z1:((0:Nat):Int) - 1 = -1:=rfl
      have z2:¬ (0:Int) ≤ -1:=by omega
      have hQ:=dVal_nonneg p1
      obtain ⟨Q,hQe⟩:∃ Q,Q=dVal qs:=⟨_,rfl⟩
      rw [va,← hQe] at p4
      rw [← hQe] at hQ
      have hw:=wideOf_s x.sign qs (by omega) p1 (by omega)
      rw [← hQe,hr] at hw
      have hbg:=borB_good (s:=stOf [(2,⟨38,2,[.agg [.int .i64 x.sign,.sl (ints a)]]⟩),(3,⟨38,2,[.agg [.int .i64 sy,.sl (ints (dg y))]]⟩),(4,⟨38,2,[.agg [.int .i64 0,.nils]]⟩),(100,⟨3,1,ints qs⟩)]) 4 a.length 3 1 (ints qs) (by rw [ints_length,p2]) (ints_fx _)
      have hyp:(0:Int)<(y:Int):=by omega
      have hdv:∀ (q r:Int),0≤r→r<y→(r+q * (y:Int)) / (y:Int)=q:=fun q r h1 h2=>by
        rw [Int.add_mul_ediv_right _ _ (by omega),Int.ediv_eq_zero_of_lt h1 h2,Int.zero_add]
      have hQb:(dg Q.natAbs).length≤10000:=by
        have h1:=dg_mono Q.natAbs x.natAbs (by
          have:Q * 1≤Q * (y:Int):=Int.mul_le_mul_of_nonneg_left (by omega) hQ
          omega)
        have h2:=dg_len_le va oa hx
        omega
      rcases hsx with ⟨g1,g2⟩ | ⟨g1,g2⟩
      · have hres:x / (y:Int)=x.sign * Q:=by
          rw [g2,Int.one_mul]
          have:=hdv Q L (by omega) (by omega)
          rw [show (L:Int)+Q * (y:Int)=x by omega] at this
          exact this
        have hn:¬ x.sign<0:=by omega
        rw [hres,hr (x.sign * Q)]
        simp only [z1,z2,vcV,vcD,Int.reduceEq,Int.reduceNe,Int.reduceLT,Int.reduceLE,Nat.reduceEqDiff,Nat.reduceAdd,reduceIte,reduceCtorEq,Nat.reduceLT,Nat.reduceLeDiff,eq_self,vcP2,Nat.reduceShiftRight,Nat.reduceMod]
        rw [hbg]
        refine callS_of hw ?_
        simp only [vcX,hn,vcV,vcD,Int.reduceEq,Int.reduceNe,Int.reduceLT,Int.reduceLE,Nat.reduceEqDiff,Nat.reduceAdd,reduceIte,reduceCtorEq,Nat.reduceLT,Nat.reduceLeDiff,eq_self,vcP2,Nat.reduceShiftRight,Nat.reduceMod]
      · have hn:x.sign<0:=by omega
        by_cases hL:L=0
        · have hres:x / (y:Int)=x.sign * Q:=by
            rw [g2]
            have:=hdv (-1 * Q) 0 (by omega) (by omega)
            rw [show (0:Int) + -1 * Q * (y:Int)=x by rw [Int.neg_one_mul,Int.neg_mul];omega] at this
            exact this
          have hl0:dg L=[]:=by rw [hL];exact dg_zero
          have hl1:ints []=[]:=rfl
          rw [hres,hr (x.sign * Q)]
          simp only [z1,z2,hl0,hl1,vcV,vcD,Int.reduceEq,Int.reduceNe,Int.reduceLT,Int.reduceLE,Nat.reduceEqDiff,Nat.reduceAdd,reduceIte,reduceCtorEq,Nat.reduceLT,Nat.reduceLeDiff,eq_self,vcP2,Nat.reduceShiftRight,Nat.reduceMod]
          rw [hbg]
          refine callS_of hw ?_
          have hz0:¬ (0:Int)<((0:Nat):Int):=by omega
          simp only [vcX,hn,hl0,hl1,hz0,vcV,vcD,Int.reduceEq,Int.reduceNe,Int.reduceLT,Int.reduceLE,Nat.reduceEqDiff,Nat.reduceAdd,reduceIte,reduceCtorEq,Nat.reduceLT,Nat.reduceLeDiff,eq_self,vcP2,Nat.reduceShiftRight,Nat.reduceMod]
        · have hres:x / (y:Int)=x.sign * Q - 1:=by
            rw [g2]
            have:=hdv (-1 * Q - 1) (y - L) (by omega) (by omega)
            rw [show ((y:Int) - L)+(-1 * Q - 1) * (y:Int)=x by rw [Int.sub_mul,Int.neg_one_mul,Int.neg_mul];omega] at this
            exact this
          have hlp:0<(dg L).length:=by
            rcases Nat.eq_zero_or_pos (dg L).length with e | e
            · rw [List.length_eq_zero_iff,dg_nil] at e;omega
            · exact e
          have hlp':(0:Int)<((dg L).length:Int):=by omega
          have h1:=WideOf_s 1 (by unfold I64;omega)
          have h2:=WideSub_s (x.sign * Q) 1 (by
            unfold wOk
            rw [g2,Int.neg_one_mul,Int.natAbs_neg];omega) (by
            unfold wOk
            have:(dg ((1:Int)).natAbs).length≤1:=dg_len (by decide)
            omega)
          rw [hr (1:Int)] at h1 h2
          rw [hr (x.sign * Q),hr (x.sign * Q - 1)] at h2
          rw [hres,hr (x.sign * Q - 1)]
          simp only [z1,z2,vcV,vcD,Int.reduceEq,Int.reduceNe,Int.reduceLT,Int.reduceLE,Nat.reduceEqDiff,Nat.reduceAdd,reduceIte,reduceCtorEq,Nat.reduceLT,Nat.reduceLeDiff,eq_self,vcP2,Nat.reduceShiftRight,Nat.reduceMod]
          rw [hbg]
          refine callS_of hw ?_
          simp only [vcX,hn,ints_length,hlp',vcV,vcD,Int.reduceEq,Int.reduceNe,Int.reduceLT,Int.reduceLE,Nat.reduceEqDiff,Nat.reduceAdd,reduceIte,reduceCtorEq,Nat.reduceLT,Nat.reduceLeDiff,eq_self,vcP2,Nat.reduceShiftRight,Nat.reduceMod]
          refine callS_of h1 ?_
          simp only [vcX,vcV,vcD,Int.reduceEq,Int.reduceNe,Int.reduceLT,Int.reduceLE,Nat.reduceEqDiff,Nat.reduceAdd,reduceIte,reduceCtorEq,Nat.reduceLT,Nat.reduceLeDiff,eq_self,vcP2,Nat.reduceShiftRight,Nat.reduceMod]
          refine callS_of h2 ?_
          simp only [vcX,vcV,vcD,Int.reduceEq,Int.reduceNe,Int.reduceLT,Int.reduceLE,Nat.reduceEqDiff,Nat.reduceAdd,reduceIte,reduceCtorEq,Nat.reduceLT,Nat.reduceLeDiff,eq_self,vcP2,Nat.reduceShiftRight,Nat.reduceMod]
    | succ k =>
      have z0:(0:Int)≤(k:Int):=by omega
      have z1:((k+1:Nat):Int) - 1=(k:Int):=by omega
      have k1:k<a.length:=by omega
      have ga:=ints_get a k k1
      have qa:=oa _ (List.getElem_mem k1)
      have hdk:dVal (a.drop k)=a[k]+1000000000 * dVal (a.drop (k+1)):=by rw [List.drop_eq_getElem_cons k1];rfl
      generalize a[k]=ai at *
      obtain ⟨L1,hL1⟩:∃ L1:Nat,L1=ai.toNat+1000000000 * L:=⟨_,rfl⟩
      have hL1i:(L1:Int)=ai+1000000000 * L:=by omega
      have hL1b:L1<1000000000 * y:=by omega
      have hdgL:(dg L).length≤10000:=Nat.le_trans (dg_mono L y (by omega)) (by rw [hyn] at hy;exact hy)
      have htr:=trimmed_s (ai :: dg L) (by simp;omega)
      rw [trim_cons qa,← hL1] at htr
      have hcons:ints (ai :: dg L)=.int .i64 ai :: ints (dg L):=rfl
      have hlenL:(ints (ai :: dg L)).length=(dg L).length+1:=by rw [ints_length];rfl
      have hdgL1:(dg L1).length≤10001:=by
        rw [hL1,← trim_cons qa]
        have:=trimL_le (ai :: dg L)
        simp at this;omega
      rw [hcons] at htr
      have hdgy:(dg y).length≤10000:=by rw [hyn] at hy;exact hy
      have hym:∀ m:Nat,m<1000000000→(dg (y * m)).length≤10001:=fun m hm=>by
        have h1:=dg_mono (y * m) (0+1000000000 * (y:Int)).toNat (by
          have:y * m≤y * 1000000000:=Nat.mul_le_mul_left _ (by omega)
          omega)
        rw [dg_cons (by omega) (.inr (by omega))] at h1
        simp at h1;omega
      have hfxa:∀ z ∈ (AV.int .i64 ai :: ints (dg L)),fx z=true:=by rw [← hcons];exact ints_fx _
      have hlna:1+(dg L).length=(AV.int .i64 ai :: ints (dg L)).length:=by rw [← hcons,ints_length];simp;omega
      simp only [z1,z0,ga,vcV,vcD,Int.reduceEq,Int.reduceNe,Int.reduceLT,Int.reduceLE,Nat.reduceEqDiff,Nat.reduceAdd,reduceIte,reduceCtorEq,Nat.reduceLT,Nat.reduceLeDiff,eq_self,vcP2,Nat.reduceShiftRight,Nat.reduceMod]
      (repeat (with_reducible refine And.intro ?_ ?_;focus (first | omega | (unfold I64;omega))))
      refine ⟨newsOk_ints _,?_⟩
      (repeat (with_reducible refine And.intro ?_ ?_;focus (first | omega | (unfold I64;omega))))
      rw [borB_good _ _ _ _ (AV.int .i64 ai :: ints (dg L)) hlna hfxa]
      refine callS_of htr ?_
      simp only [vcX,vcV,vcD,Int.reduceEq,Int.reduceNe,Int.reduceLT,Int.reduceLE,Nat.reduceEqDiff,Nat.reduceAdd,reduceIte,reduceCtorEq,Nat.reduceLT,Nat.reduceLeDiff,eq_self,vcP2,Nat.reduceShiftRight,Nat.reduceMod]
      refine W_loop (t:=.mk) (α:=PSigma fun p:Nat × Nat=>p.1≤p.2∧p.2≤999999999∧y * p.1≤L1∧L1<y * (p.2+1)) (fun z=>(envOf [(2,.ptr 2 0 0),(3,.ptr 3 0 0),(4,.ptr 4 0 0),(5,.buf 100 a.length),(6,.sl (ints (dg L1))),(7,.int .i64 k),(8,.int .i64 z.1.1),(9,.int .i64 z.1.2)],stOf [(2,⟨38,2,[.agg [.int .i64 x.sign,.sl (ints a)]]⟩),(3,⟨38,2,[.agg [.int .i64 sy,.sl (ints (dg y))]]⟩),(4,⟨38,2,[.agg [.int .i64 0,.nils]]⟩),(100,⟨3,1,ints qs⟩)])) (fun z=>z.1.2 - z.1.1) ⟨(0,999999999),by simp,by simp,by simp,by simp only;omega⟩ ?_ (fun ⟨⟨lo,hi⟩,q1,q2,q3,q4⟩=>?_)
      · refine weakX [(100,some 100)] (of_decide_eq_true rfl) (of_decide_eq_true rfl) ?_
        (simp only [vcX,vcW,vcV,vcD,Int.reduceEq,Int.reduceNe,Int.reduceLT,Int.reduceLE,Nat.reduceEqDiff,Nat.reduceAdd,reduceIte,reduceCtorEq,Nat.reduceLT,Nat.reduceLeDiff,eq_self,vcP2,Nat.reduceShiftRight,Nat.reduceMod])
        repeat' (with_reducible refine And.intro ?_ ?_)
        any_goals (with_reducible exact RnB.wide)
        (repeat' first | exact trivial | (with_reducible first | exact RnB.fxB (ints_fxB _) | rfl | refine And.intro ?_ ?_) | (with_reducible (first | refine RnB.bb ?_ | refine RnB.nb ?_);simp only [vcW,vcV,vcD,Int.reduceEq,Int.reduceNe,Int.reduceLT,Int.reduceLE,Nat.reduceEqDiff,Nat.reduceAdd,reduceIte,reduceCtorEq,Nat.reduceLT,Nat.reduceLeDiff,eq_self,vcP2,Nat.reduceShiftRight,Nat.reduceMod]) | (with_reducible first | refine RnB.ii ?_ | refine RnB.app ?_) | (with_reducible refine RnB.fxB ?_;simp only [vcW,vcV,vcD,Int.reduceEq,Int.reduceNe,Int.reduceLT,Int.reduceLE,Nat.reduceEqDiff,Nat.reduceAdd,reduceIte,reduceCtorEq,Nat.reduceLT,Nat.reduceLeDiff,eq_self,vcP2,Nat.reduceShiftRight,Nat.reduceMod]) | omega)
      · simp only at q1 q2 q3 q4
        by_cases hlh:lo<hi
        · have hlh':(lo:Int)<hi:=by omega
          obtain ⟨m,hm⟩:∃ m,m=(lo+hi+1) / 2:=⟨_,rfl⟩
          have ht:((lo:Int)+hi+1).tdiv 2=(m:Int):=by
            rw [show (lo:Int)+hi+1=((lo+hi+1:Nat):Int) by omega,hm];rfl
          have hm9:m<1000000000:=by omega
          have hmu:=hmul m hm9
          rw [hr ((y * m:Nat):Int),show (((y * m:Nat):Int)).natAbs=y * m from rfl] at hmu
          have hwo:=WideOf_s (m:Int) (by unfold I64;omega)
          rw [hr (m:Int)] at hmu hwo
          have hcm:=cmpDigits_s (y * m) L1 (by have:=hym m hm9;omega) (by omega)
          by_cases hc:y * m≤L1
          · have hsn:(((y * m:Nat):Int) - L1).sign≤0:=by
              rcases Nat.lt_or_ge (y * m) L1 with e | e
              · rw [Int.sign_eq_neg_one_of_neg (by omega)];omega
              · rw [show ((y * m:Nat):Int) - L1=0 by omega];decide
            generalize (((y * m:Nat):Int) - L1).sign=sg at *
            simp only [hlh',ht,vcV,vcD,Int.reduceEq,Int.reduceNe,Int.reduceLT,Int.reduceLE,Nat.reduceEqDiff,Nat.reduceAdd,reduceIte,reduceCtorEq,Nat.reduceLT,Nat.reduceLeDiff,eq_self,vcP2,Nat.reduceShiftRight,Nat.reduceMod]
            (repeat (with_reducible refine And.intro ?_ ?_;focus (first | omega | (unfold I64;omega))))
            refine callS_of hyw ?_
            simp only [vcV,vcD,Int.reduceEq,Int.reduceNe,Int.reduceLT,Int.reduceLE,Nat.reduceEqDiff,Nat.reduceAdd,reduceIte,reduceCtorEq,Nat.reduceLT,Nat.reduceLeDiff,eq_self,vcP2,Nat.reduceShiftRight,Nat.reduceMod]
            refine callS_of hwo ?_
            simp only [vcV,vcD,Int.reduceEq,Int.reduceNe,Int.reduceLT,Int.reduceLE,Nat.reduceEqDiff,Nat.reduceAdd,reduceIte,reduceCtorEq,Nat.reduceLT,Nat.reduceLeDiff,eq_self,vcP2,Nat.reduceShiftRight,Nat.reduceMod]
            refine callS_of hmu ?_
            simp only [vcV,vcD,Int.reduceEq,Int.reduceNe,Int.reduceLT,Int.reduceLE,Nat.reduceEqDiff,Nat.reduceAdd,reduceIte,reduceCtorEq,Nat.reduceLT,Nat.reduceLeDiff,eq_self,vcP2,Nat.reduceShiftRight,Nat.reduceMod]
            refine callS_of hcm ?_
            simp only [hsn,vcV,vcD,Int.reduceEq,Int.reduceNe,Int.reduceLT,Int.reduceLE,Nat.reduceEqDiff,Nat.reduceAdd,reduceIte,reduceCtorEq,Nat.reduceLT,Nat.reduceLeDiff,eq_self,vcP2,Nat.reduceShiftRight,Nat.reduceMod]
            refine ⟨⟨(m,hi),by simp only;omega,q2,hc,q4⟩,by simp only;omega,?_⟩
            refine weakX [(100,some 100)] (of_decide_eq_true rfl) (of_decide_eq_true rfl) ?_
            (simp only [vcW,vcV,vcD,Int.reduceEq,Int.reduceNe,Int.reduceLT,Int.reduceLE,Nat.reduceEqDiff,Nat.reduceAdd,reduceIte,reduceCtorEq,Nat.reduceLT,Nat.reduceLeDiff,eq_self,vcP2,Nat.reduceShiftRight,Nat.reduceMod])
            repeat' (with_reducible refine And.intro ?_ ?_)
            any_goals (with_reducible exact RnB.wide)
            (repeat' first | exact trivial | (with_reducible first | exact RnB.fxB (ints_fxB _) | rfl | refine And.intro ?_ ?_) | (with_reducible (first | refine RnB.bb ?_ | refine RnB.nb ?_);simp only [vcW,vcV,vcD,Int.reduceEq,Int.reduceNe,Int.reduceLT,Int.reduceLE,Nat.reduceEqDiff,Nat.reduceAdd,reduceIte,reduceCtorEq,Nat.reduceLT,Nat.reduceLeDiff,eq_self,vcP2,Nat.reduceShiftRight,Nat.reduceMod]) | (with_reducible first | refine RnB.ii ?_ | refine RnB.app ?_) | (with_reducible refine RnB.fxB ?_;simp only [vcW,vcV,vcD,Int.reduceEq,Int.reduceNe,Int.reduceLT,Int.reduceLE,Nat.reduceEqDiff,Nat.reduceAdd,reduceIte,reduceCtorEq,Nat.reduceLT,Nat.reduceLeDiff,eq_self,vcP2,Nat.reduceShiftRight,Nat.reduceMod]) | omega)
          · have hsn:¬ (((y * m:Nat):Int) - L1).sign≤0:=by rw [Int.sign_eq_one_of_pos (by omega)];omega
            generalize (((y * m:Nat):Int) - L1).sign=sg at *
            have hm1:(m:Int) - 1=((m - 1:Nat):Int):=by omega
            simp only [hlh',ht,vcV,vcD,Int.reduceEq,Int.reduceNe,Int.reduceLT,Int.reduceLE,Nat.reduceEqDiff,Nat.reduceAdd,reduceIte,reduceCtorEq,Nat.reduceLT,Nat.reduceLeDiff,eq_self,vcP2,Nat.reduceShiftRight,Nat.reduceMod]
            (repeat (with_reducible refine And.intro ?_ ?_;focus (first | omega | (unfold I64;omega))))
            refine callS_of hyw ?_
            simp only [vcV,vcD,Int.reduceEq,Int.reduceNe,Int.reduceLT,Int.reduceLE,Nat.reduceEqDiff,Nat.reduceAdd,reduceIte,reduceCtorEq,Nat.reduceLT,Nat.reduceLeDiff,eq_self,vcP2,Nat.reduceShiftRight,Nat.reduceMod]
            refine callS_of hwo ?_
            simp only [vcV,vcD,Int.reduceEq,Int.reduceNe,Int.reduceLT,Int.reduceLE,Nat.reduceEqDiff,Nat.reduceAdd,reduceIte,reduceCtorEq,Nat.reduceLT,Nat.reduceLeDiff,eq_self,vcP2,Nat.reduceShiftRight,Nat.reduceMod]
            refine callS_of hmu ?_
            simp only [vcV,vcD,Int.reduceEq,Int.reduceNe,Int.reduceLT,Int.reduceLE,Nat.reduceEqDiff,Nat.reduceAdd,reduceIte,reduceCtorEq,Nat.reduceLT,Nat.reduceLeDiff,eq_self,vcP2,Nat.reduceShiftRight,Nat.reduceMod]
            refine callS_of hcm ?_
            simp only [hsn,hm1,vcV,vcD,Int.reduceEq,Int.reduceNe,Int.reduceLT,Int.reduceLE,Nat.reduceEqDiff,Nat.reduceAdd,reduceIte,reduceCtorEq,Nat.reduceLT,Nat.reduceLeDiff,eq_self,vcP2,Nat.reduceShiftRight,Nat.reduceMod]
            (repeat (with_reducible refine And.intro ?_ ?_;focus (first | omega | (unfold I64;omega))))
            refine ⟨⟨(lo,m - 1),by simp only;omega,by simp only;omega,q3,by simp only;rw [show m - 1+1=m by omega];omega⟩,by simp only;omega,?_⟩
            refine weakX [(100,some 100)] (of_decide_eq_true rfl) (of_decide_eq_true rfl) ?_
            (simp only [vcW,vcV,vcD,Int.reduceEq,Int.reduceNe,Int.reduceLT,Int.reduceLE,Nat.reduceEqDiff,Nat.reduceAdd,reduceIte,reduceCtorEq,Nat.reduceLT,Nat.reduceLeDiff,eq_self,vcP2,Nat.reduceShiftRight,Nat.reduceMod])
            repeat' (with_reducible refine And.intro ?_ ?_)
            any_goals (with_reducible exact RnB.wide)
            (repeat' first | exact trivial | (with_reducible first | exact RnB.fxB (ints_fxB _) | rfl | refine And.intro ?_ ?_) | (with_reducible (first | refine RnB.bb ?_ | refine RnB.nb ?_);simp only [vcW,vcV,vcD,Int.reduceEq,Int.reduceNe,Int.reduceLT,Int.reduceLE,Nat.reduceEqDiff,Nat.reduceAdd,reduceIte,reduceCtorEq,Nat.reduceLT,Nat.reduceLeDiff,eq_self,vcP2,Nat.reduceShiftRight,Nat.reduceMod]) | (with_reducible first | refine RnB.ii ?_ | refine RnB.app ?_) | (with_reducible refine RnB.fxB ?_;simp only [vcW,vcV,vcD,Int.reduceEq,Int.reduceNe,Int.reduceLT,Int.reduceLE,Nat.reduceEqDiff,Nat.reduceAdd,reduceIte,reduceCtorEq,Nat.reduceLT,Nat.reduceLeDiff,eq_self,vcP2,Nat.reduceShiftRight,Nat.reduceMod]) | omega)
        · have hlh':¬ (lo:Int)<hi:=by omega
          obtain rfl:lo=hi:=by omega
          have hm9:lo<1000000000:=by omega
          have hmu:=hmul lo hm9
          rw [hr ((y * lo:Nat):Int),show (((y * lo:Nat):Int)).natAbs=y * lo from rfl] at hmu
          have hwo:=WideOf_s (lo:Int) (by unfold I64;omega)
          rw [hr (lo:Int)] at hmu hwo
          have hsd:=subDigits_s (dg L1) (dg (y * lo)) (okD_dg _) (okD_dg _) (dg_mono _ _ q3) (by omega) (by rw [dVal_dg,dVal_dg];omega)
          rw [dVal_dg,dVal_dg,show ((L1:Int) - ((y * lo:Nat):Int)).toNat=L1 - y * lo by omega] at hsd
          have n1:=okD_set p1 k (x:=(lo:Int)) ⟨by omega,by omega⟩
          have n2:(qs.set k (lo:Int)).length=a.length:=by simp [p2]
          have q5:y * (lo+1)=y * lo+y:=by rw [Nat.mul_add,Nat.mul_one]
          have n3:L1 - y * lo<y:=by omega
          have n4:dVal (a.drop k)=dVal ((qs.set k (lo:Int)).drop k) * y+((L1 - y * lo:Nat):Int):=by
            rw [hdk,drop_set_eq (by omega),dVal,floor_step (m:=(lo:Int)) p4]
            have:((L1 - y * lo:Nat):Int)=ai+1000000000 * L - (y:Int) * lo:=by
              have e:((y * lo:Nat):Int)=(y:Int) * lo:=by simp
              omega
            rw [this]
          have hst:(ints qs).set k (.int .i64 lo)=ints (qs.set k (lo:Int)):=ints_st _ _ _
          have gq:=ints_get qs k (by omega)
          simp only [hlh',gq,ints_length,vcV,vcD,Int.reduceEq,Int.reduceNe,Int.reduceLT,Int.reduceLE,Nat.reduceEqDiff,Nat.reduceAdd,reduceIte,reduceCtorEq,Nat.reduceLT,Nat.reduceLeDiff,eq_self,vcP2,Nat.reduceShiftRight,Nat.reduceMod]
          (repeat (with_reducible refine And.intro ?_ ?_;focus (first | omega | (unfold I64;omega))))
          refine callS_of hyw ?_
          simp only [vcV,vcD,Int.reduceEq,Int.reduceNe,Int.reduceLT,Int.reduceLE,Nat.reduceEqDiff,Nat.reduceAdd,reduceIte,reduceCtorEq,Nat.reduceLT,Nat.reduceLeDiff,eq_self,vcP2,Nat.reduceShiftRight,Nat.reduceMod]
          refine callS_of hwo ?_
          simp only [vcV,vcD,Int.reduceEq,Int.reduceNe,Int.reduceLT,Int.reduceLE,Nat.reduceEqDiff,Nat.reduceAdd,reduceIte,reduceCtorEq,Nat.reduceLT,Nat.reduceLeDiff,eq_self,vcP2,Nat.reduceShiftRight,Nat.reduceMod]
          refine callS_of hmu ?_
          simp only [vcV,vcD,Int.reduceEq,Int.reduceNe,Int.reduceLT,Int.reduceLE,Nat.reduceEqDiff,Nat.reduceAdd,reduceIte,reduceCtorEq,Nat.reduceLT,Nat.reduceLeDiff,eq_self,vcP2,Nat.reduceShiftRight,Nat.reduceMod]
          refine callS_of hsd ?_
          simp only [vcV,vcD,Int.reduceEq,Int.reduceNe,Int.reduceLT,Int.reduceLE,Nat.reduceEqDiff,Nat.reduceAdd,reduceIte,reduceCtorEq,Nat.reduceLT,Nat.reduceLeDiff,eq_self,vcP2,Nat.reduceShiftRight,Nat.reduceMod]
          (repeat (with_reducible refine And.intro ?_ ?_;focus (first | omega | (unfold I64;omega))))
          refine ⟨⟨(k,qs.set k (lo:Int),L1 - y * lo),by simp only;omega,n1,n2,n3,n4⟩,by simp only;omega,?_⟩
          refine weakX [(100,some 100)] (of_decide_eq_true rfl) (of_decide_eq_true rfl) ?_
          (simp only [vcW,vcV,vcD,Int.reduceEq,Int.reduceNe,Int.reduceLT,Int.reduceLE,Nat.reduceEqDiff,Nat.reduceAdd,reduceIte,reduceCtorEq,Nat.reduceLT,Nat.reduceLeDiff,eq_self,vcP2,Nat.reduceShiftRight,Nat.reduceMod])
          repeat' (with_reducible refine And.intro ?_ ?_)
          any_goals (with_reducible exact RnB.wide)
          (repeat' first | exact trivial | (with_reducible first | exact RnB.fxB (ints_fxB _) | rfl | refine And.intro ?_ ?_) | (with_reducible (first | refine RnB.bb ?_ | refine RnB.nb ?_);simp only [vcW,vcV,vcD,Int.reduceEq,Int.reduceNe,Int.reduceLT,Int.reduceLE,Nat.reduceEqDiff,Nat.reduceAdd,reduceIte,reduceCtorEq,Nat.reduceLT,Nat.reduceLeDiff,eq_self,vcP2,Nat.reduceShiftRight,Nat.reduceMod]) | (with_reducible first | refine RnB.ii ?_ | refine RnB.app ?_) | (with_reducible refine RnB.fxB ?_;simp only [vcW,vcV,vcD,Int.reduceEq,Int.reduceNe,Int.reduceLT,Int.reduceLE,Nat.reduceEqDiff,Nat.reduceAdd,reduceIte,reduceCtorEq,Nat.reduceLT,Nat.reduceLeDiff,eq_self,vcP2,Nat.reduceShiftRight,Nat.reduceMod]) | omega)
          all_goals first | exact RnB.eq hst (by rw [hst];exact ints_fxB _) | omega
end Go.Proofs.YtgmpcbpmnimkoaaGreatDoor

/- Contracts: sizes and divisors of wide numbers. By an AI agent;nothing here is trusted. -/
namespace Go.Proofs.YtgmpcbpmnimkoaaGreatDoor
open Go.Av

theorem wide_hr (v:Int):wideA v=.agg [.int .i64 v.sign,.sl (ints (dg v.natAbs))]:=rfl
theorem wOk_more {k k':Nat} {v:Int} (h:wOk k v) (hk:k≤k'):wOk k' v:=Nat.le_trans h hk
end Go.Proofs.YtgmpcbpmnimkoaaGreatDoor

/- Contracts: ratios in lowest terms. By an AI agent;nothing here is trusted. -/
namespace Go.Proofs.YtgmpcbpmnimkoaaGreatDoor
open Go.Av

end Go.Proofs.YtgmpcbpmnimkoaaGreatDoor

/- Contracts: ratios added,multiplied,compared. By an AI agent;nothing here is trusted. -/
namespace Go.Proofs.YtgmpcbpmnimkoaaGreatDoor
open Go.Av

end Go.Proofs.YtgmpcbpmnimkoaaGreatDoor

/- Ratios of fractions;lowest terms,in plain Lean. By an AI agent;nothing here is trusted. -/
namespace Go.Proofs.YtgmpcbpmnimkoaaGreatDoor
open Go.Av

end Go.Proofs.YtgmpcbpmnimkoaaGreatDoor

/- Contracts: ratios as rational numbers. By an AI agent;nothing here is trusted. -/
namespace Go.Proofs.YtgmpcbpmnimkoaaGreatDoor
open Go.Av

theorem WideSign_w (v:Int):Sound Tryz.prog 25 [wideA v] (.int .i64 v.sign):=WideSign_s v
end Go.Proofs.YtgmpcbpmnimkoaaGreatDoor

/- Contracts of the reference: the accepted fit,squares,digits,what is kept. By an AI agent;nothing here is trusted. -/
namespace Go.Proofs.YtgmpcbpmnimkoaaGreatDoor
open Go.Av

theorem wOk_35 {v:Int} (h:v.natAbs≤100000000000000000000000000000000000):wOk 100000 v :=
  wOk_more (k:=4) (wOk_of (Nat.lt_of_le_of_lt h (by decide))) (by omega)
theorem smI_ag {items l:List Int} {k N:Nat} (h:k+items.length≤N) (h1:1≤items.length):Lin.smI N (fun n=>l.getD n 0 * Lin.itm items n k)=agT items l k items.length:=by
  rw [ag_sum,if_neg (by omega)]
  by_cases e:N≤k+items.length
  · rw [if_pos e,show N - k=items.length by omega]
  · rw [if_neg e]
end Go.Proofs.YtgmpcbpmnimkoaaGreatDoor

/- The problem of a template and samples. By an AI agent;nothing here is trusted. -/
namespace Go.Proofs.YtgmpcbpmnimkoaaGreatDoor
open Go.Av

section
variable {s s':Store} {f:Nat→Option Nat} {ty sz:Nat}
theorem keyOf_ne {l:List (Nat × Option Nat × Blk)} {z:Nat} (h:(l.all fun p=>p.2.1 != some z)=true):∀ k',Av.keyOf l k' ≠ some z:=by
  induction l with
  | nil=>intro k' h2;cases h2
  | cons p l ih =>
    intro k' h2
    rw [List.all_cons,Bool.and_eq_true] at h
    obtain ⟨a,o,B⟩:=p
    unfold Av.keyOf at h2
    split at h2
    · subst h2;simp at h
    · exact ih h.2 k' h2
theorem RnB.snocX {a a':List AV} {x x':AV} (h1:RnB s s' f ⟨ty,sz,a⟩ ⟨ty,sz,a'⟩) (h2:(cellsOf x').length=(cellsOf x).length∧cellsOk x'∧∀ (o:Nat) (c c':AV),(cellsOf x)[o]?=some c→(cellsOf x')[o]?=some c'→Rn s s' f c c') :
    RnB s s' f ⟨ty,sz,a ++ [x]⟩ ⟨ty,sz,a' ++ [x']⟩:=by
  obtain ⟨_,_,g3,g4⟩:=h1
  simp only at g3 g4
  refine ⟨rfl,rfl,by simp [g3],fun i y y' k1 k2=>?_⟩
  simp only at k1 k2
  by_cases hi:i<a.length
  · rw [List.getElem?_append_left hi] at k1
    rw [List.getElem?_append_left (by omega)] at k2
    exact g4 i y y' k1 k2
  · have hi':i=a.length:=by
      have:=(List.getElem?_eq_some_iff.1 k1).1
      simp at this;omega
    rw [List.getElem?_append_right (by omega),show i - a.length=0 by omega] at k1
    rw [List.getElem?_append_right (by omega),show i - a'.length=0 by omega] at k2
    cases k1;cases k2
    exact h2
theorem RnB.snocZ {R:List (List Int)} {r:List Int} {k n t1:Nat} {es:List AV} (hs:s k=some (some ⟨t1,1,ints r⟩)) (hn:n=r.length) (hf:∀ k',f k' ≠ some k) (he:es=lls (R ++ [r])) :
    RnB s s' f ⟨ty,sz,lls R ++ [.buf k n]⟩ ⟨ty,sz,es⟩:=by
  subst he hn
  rw [← lls_snoc]
  refine RnB.snocX (RnB.fxB (lls_fxB R)) ⟨rfl,fun d hd=>?_,fun o d d' k1 k2=>?_⟩
  · simp only [cellsOf,List.mem_cons,List.not_mem_nil,or_false] at hd
    subst hd;rfl
  · match o with
    | 0 =>
      simp [cellsOf] at k1 k2;subst k1;subst k2
      have h:=Rn.fz (s':=s') (f:=f) k r.length _ hs (by simp [ints_length]) (fun x hx=>(fx_spec (ints_fx _ x hx)).1) hf
      have e:(ints r).take r.length=ints r:=List.take_of_length_le (by simp [ints_length])
      simp only [e] at h
      exact h
    | o+1=>simp [cellsOf] at k1
theorem RnB.agg2 {c d c' d':AV} (e:cellsOf (.agg [c,d])=[c,d]) (e':cellsOf (.agg [c',d'])=[c',d']) (hc:cell c'=true) (hd:cell d'=true) (h:Rn s s' f c c') (h2:Rn s s' f d d') :
    RnB s s' f ⟨ty,sz,[.agg [c,d]]⟩ ⟨ty,sz,[.agg [c',d']]⟩:=by
  refine ⟨rfl,rfl,rfl,fun i x x' h1 h2'=>?_⟩
  cases i with
  | zero =>
    simp at h1 h2';subst h1;subst h2'
    refine ⟨by rw [e,e'];rfl,fun q hq=>?_,fun o q q' k3 k4=>?_⟩
    · rw [e'] at hq;simp at hq;rcases hq with rfl | rfl
      · exact hc
      · exact hd
    · rw [e] at k3;rw [e'] at k4
      match o with
      | 0=>simp at k3 k4;subst k3;subst k4;exact h
      | 1=>simp at k3 k4;subst k3;subst k4;exact h2
      | o+2=>simp at k3
  | succ i=>simp at h1
end

theorem RnB.nil2 {s s':Store} {f:Nat→Option Nat} {ty sz:Nat}:RnB s s' f ⟨ty,sz,[.agg [.nils,.nils]]⟩ ⟨ty,sz,[.agg [.nils,.nils]]⟩:=RnB.same fun x hx=>by
  simp at hx;subst hx;rfl
def unitL (S k:Nat):List Int:=(List.replicate S 0).set k 1
theorem unitL_len (S k:Nat):(unitL S k).length=S:=by simp [unitL]
theorem unitL_get (S k m:Nat) (h:m<S):(unitL S k).getD m 0=if m=k then 1 else 0:=by
  unfold unitL
  rw [List.getD_eq_getElem?_getD,List.getElem?_set,List.length_replicate]
  by_cases e:k=m
  · subst e;simp [h]
  · rw [if_neg e,if_neg (fun q=>e q.symm)];simp [h]
theorem unitL_bd (S k:Nat):∀ x ∈ unitL S k, -1≤x∧x≤1:=by
  intro x hx
  unfold unitL at hx
  rcases List.mem_or_eq_of_mem_set hx with h | h
  · rw [(List.mem_replicate.1 h).2];omega
  · omega
theorem mdT_unit (items:List Int) (S k n:Nat):∀ j,j≤S→mdT items (unitL S k) n j=if k<j then Lin.itm items n k else 0
  | 0,_=>rfl
  | j+1,h=>by
    rw [mdT_itm,mdT_unit items S k n j (by omega),unitL_get S k j (by omega)]
    by_cases e:j=k
    · subst e;rw [if_neg (by omega),if_pos rfl,if_pos (by omega)];omega
    · rw [if_neg e]
      by_cases g:k<j
      · rw [if_pos g,if_pos (by omega)];omega
      · rw [if_neg g,if_neg (by omega)];omega
theorem tick_get (items:List Int) {S k n:Nat} (hk:k<S) (hn:n<S+items.length - 1):(mdA items (unitL S k)).getD n 0=Lin.itm items n k:=by
  have hl:(mdA items (unitL S k)).length=S+items.length - 1:=by rw [mdA_len,unitL_len]
  rw [getD_at (by omega),mdA_get,unitL_len,mdT_unit items S k n S (Nat.le_refl _),if_pos hk]
theorem tick_ag (items:List Int) {S k j:Nat} (hk:k<S) (hj:j<S) (h1:1≤items.length):agT items (mdA items (unitL S k)) j items.length=Lin.gr items (S+items.length - 1) k j:=by
  rw [← smI_ag (N:=S+items.length - 1) (by omega) h1]
  unfold Lin.gr
  exact Lin.smI_congr fun n hn=>by rw [tick_get items hk hn]
def gmQ (items:List Int) (S k j:Nat):List Int:=(List.range j).map fun m=>Lin.gr items (S+items.length - 1) k m
def gmP (items:List Int) (S i:Nat):List (List Int):=(List.range i).map fun k=>gmQ items S k S
def rhP (items l:List Int) (i:Nat):List Int:=(List.range i).map fun k=>agT items l k items.length
theorem gmQ_len (items:List Int) (S k j:Nat):(gmQ items S k j).length=j:=by simp [gmQ]
theorem gmP_len (items:List Int) (S i:Nat):(gmP items S i).length=i:=by simp [gmP]
theorem rhP_len (items l:List Int) (i:Nat):(rhP items l i).length=i:=by simp [rhP]
theorem gmQ_succ (items:List Int) (S k j:Nat):gmQ items S k (j+1)=gmQ items S k j ++ [Lin.gr items (S+items.length - 1) k j]:=by simp [gmQ,List.range_succ]
theorem gmP_succ (items:List Int) (S i:Nat):gmP items S (i+1)=gmP items S i ++ [gmQ items S i S]:=by simp [gmP,List.range_succ]
theorem rhP_succ (items l:List Int) (i:Nat):rhP items l (i+1)=rhP items l i ++ [agT items l i items.length]:=by simp [rhP,List.range_succ]
theorem set_unit (S k:Nat):(ints (List.replicate S 0)).set k (.int .i64 1)=ints (unitL S k):=by rw [ints_st];rfl

set_option maxHeartbeats 2000000 in
theorem problemOf_s {items l:List Int} {S:Nat} (h1:1≤items.length) (h6:items.length≤6) (hS:1≤S∧S≤5) (hi:∀ x ∈ items, -100≤x∧x≤100) (hl:∀ x ∈ l, -10000≤x∧x≤10000) (hll:l.length=S+items.length - 1) :
    Sound Tryz.prog 92 [tplA items (S:Int),.sl (ints l)] (.agg [.sl (lls (gmP items S S)),.sl (ints (rhP items l S))]):=by
  refine sound_W f_pulse_problemOf (Nat.le_of_ble_eq_true rfl) ?_
  have hmax:=maxLen_big
  have hmod:∀ k,SoundO Tryz.prog 120 [tplA items (S:Int),.sl (ints (unitL S k))] 3 1 (ints (mdA items (unitL S k))):=fun k=>model_s (S:Int) (C:=1) h1 h6 (by rw [unitL_len];omega) (by omega) hi (unitL_bd S k)
  have hml:∀ k,(mdA items (unitL S k)).length=S+items.length - 1:=fun k=>by rw [mdA_len,unitL_len]
  have hmb:∀ k,k<S→∀ x ∈ mdA items (unitL S k), -100≤x∧x≤100:=fun k hk x hx=>by
    obtain ⟨n,hn,rfl⟩:=List.getElem_of_mem hx
    have:=tick_get items hk (show n<S+items.length - 1 by rw [← hml k];exact hn)
    rw [getD_at hn] at this
    rw [this];exact itm_bd hi n k
  have hag:∀ k j,k<S→j<S→Sound Tryz.prog 128 [tplA items (S:Int),.sl (ints (mdA items (unitL S k))),.int .i64 j] (.int .i64 (Lin.gr items (S+items.length - 1) k j)):=fun k j hk hj=>by
    have:=against_s (S:Int) (k:=j) (M:=100) h6 (by omega) hi (hmb k hk) (by rw [hml];omega) (by omega)
    rw [tick_ag items hk hj h1] at this
    exact this
  have hag2:∀ j,j<S→Sound Tryz.prog 128 [tplA items (S:Int),.sl (ints l),.int .i64 j] (.int .i64 (agT items l j items.length)):=fun j hj=>against_s (S:Int) (k:=j) (M:=10000) h6 (by omega) hi hl (by omega) (by omega)
  unfold tplA at hmod hag hag2
  simp only [c_pulse_problemOf,tplA,vcV,vcD,Int.reduceEq,Int.reduceNe,Int.reduceLT,Int.reduceLE,Nat.reduceEqDiff,Nat.reduceAdd,reduceIte,reduceCtorEq,Nat.reduceLT,Nat.reduceLeDiff,eq_self,vcP2,Nat.reduceShiftRight,Nat.reduceMod]
  refine W_loop (t:=.mk) (α:=PSigma fun i:Nat=>i≤S) (fun ⟨i,_⟩=>(envOf [(1,.sl (ints l)),(2,.ptr 2 0 0),(4,.ptr 4 0 0),(5,.ptr 5 0 0),(12,.int .i64 S),(13,.int .i64 i)],stOf [(2,⟨24,2,[.agg [.sl (ints items),.int .i64 S]]⟩),(4,⟨151,2,[.agg [.nils,.nils]]⟩),(5,⟨151,2,[.agg [.buf 100 i,.buf 101 i]]⟩),(100,⟨22,1,lls (gmP items S i)⟩),(101,⟨3,1,ints (rhP items l i)⟩)])) (fun x=>S - x.1) ⟨0,Nat.zero_le _⟩ ?_ (fun ⟨i,hiS⟩=>?_)
  · have z1:lls (gmP items S 0)=[]:=rfl
    have z2:ints (rhP items l 0)=[]:=rfl
    refine weakX [(100,none),(101,none)] (of_decide_eq_true rfl) (of_decide_eq_true rfl) ?_
    (simp only [z1,z2,vcW,vcV,vcD,Int.reduceEq,Int.reduceNe,Int.reduceLT,Int.reduceLE,Nat.reduceEqDiff,Nat.reduceAdd,reduceIte,reduceCtorEq,Nat.reduceLT,Nat.reduceLeDiff,eq_self,vcP2,Nat.reduceShiftRight,Nat.reduceMod])
    repeat' (with_reducible refine And.intro ?_ ?_)
    try any_goals (with_reducible exact RnB.nil2)
    try any_goals (with_reducible exact RnB.agg2 rfl rfl rfl rfl (.virt 100 _ rfl rfl) (.virt 101 _ rfl rfl))
    (repeat' first | exact trivial | (with_reducible first | exact RnB.fxB (ints_fxB _) | rfl | refine And.intro ?_ ?_) | (with_reducible (first | refine RnB.bb ?_ | refine RnB.nb ?_);simp only [vcW,vcV,vcD,Int.reduceEq,Int.reduceNe,Int.reduceLT,Int.reduceLE,Nat.reduceEqDiff,Nat.reduceAdd,reduceIte,reduceCtorEq,Nat.reduceLT,Nat.reduceLeDiff,eq_self,vcP2,Nat.reduceShiftRight,Nat.reduceMod]) | (with_reducible first | refine RnB.ii ?_ | refine RnB.app ?_) | (with_reducible refine RnB.fxB ?_;simp only [vcW,vcV,vcD,Int.reduceEq,Int.reduceNe,Int.reduceLT,Int.reduceLE,Nat.reduceEqDiff,Nat.reduceAdd,reduceIte,reduceCtorEq,Nat.reduceLT,Nat.reduceLeDiff,eq_self,vcP2,Nat.reduceShiftRight,Nat.reduceMod]) | omega)
  · dsimp only at hiS ⊢
    by_cases h':i<S
    · have hc1:(i:Int)<S:=by omega
      have hz:List.replicate S (AV.int .i64 0)=ints (List.replicate S 0):=ints_z S
      have hgz:(ints (List.replicate S 0))[i]?=some (.int .i64 0):=by rw [ints_get _ i (by simp;omega)];simp
      have hzl:(ints (List.replicate S (0:Int))).length=S:=by simp [ints]
      have hM:=hmod i
      simp only [hc1,hz,hgz,set_unit,hzl,vcV,vcD,Int.reduceEq,Int.reduceNe,Int.reduceLT,Int.reduceLE,Nat.reduceEqDiff,Nat.reduceAdd,reduceIte,reduceCtorEq,Nat.reduceLT,Nat.reduceLeDiff,eq_self,vcP2,Nat.reduceShiftRight,Nat.reduceMod]
      refine ⟨by omega,⟨by rw [← hz];exact mkOk_z _,?_⟩⟩
      refine ⟨⟨by omega,Nat.le_refl _⟩,?_⟩
      rw [borB_good _ _ _ _ _ (by rw [ints_length,unitL_len]) (ints_fx _)]
      refine callS_own hM rfl ?_
      obtain ⟨T,hT⟩:∃ T,T=mdA items (unitL S i):=⟨_,rfl⟩
      have hag':∀ j,j<S→Sound Tryz.prog 128 [.agg [.sl (ints items),.int .i64 S],.sl (ints T),.int .i64 j] (.int .i64 (Lin.gr items (S+items.length - 1) i j)):=fun j hj=>by rw [hT];exact hag i j h' hj
      rw [← hT]
      have hTl:T.length=S+items.length - 1:=by rw [hT];exact hml i
      simp only [ownS_ints,ints_length,vcV,vcD,Int.reduceEq,Int.reduceNe,Int.reduceLT,Int.reduceLE,Nat.reduceEqDiff,Nat.reduceAdd,reduceIte,reduceCtorEq,Nat.reduceLT,Nat.reduceLeDiff,eq_self,vcP2,Nat.reduceShiftRight,Nat.reduceMod]
      refine W_loop (t:=.mk) (α:=PSigma fun j:Nat=>j≤S) (fun ⟨j,_⟩=>(envOf [(1,.sl (ints l)),(2,.ptr 2 0 0),(4,.ptr 4 0 0),(5,.ptr 5 0 0),(6,.int .i64 i),(8,.buf 102 T.length),(9,.buf 103 j),(12,.int .i64 S),(13,.int .i64 i),(26,.int .i64 S),(27,.int .i64 j)],stOf [(2,⟨24,2,[.agg [.sl (ints items),.int .i64 S]]⟩),(4,⟨151,2,[.agg [.nils,.nils]]⟩),(5,⟨151,2,[.agg [.buf 100 i,.buf 101 i]]⟩),(100,⟨22,1,lls (gmP items S i)⟩),(101,⟨3,1,ints (rhP items l i)⟩),(102,⟨3,1,ints T⟩),(103,⟨3,1,ints (gmQ items S i j)⟩)])) (fun x=>S - x.1) ⟨0,Nat.zero_le _⟩ ?_ (fun ⟨j,hjS⟩=>?_)
      · have z:ints (gmQ items S i 0)=[]:=rfl
        refine weakX [(102,some 24),(103,none)] (of_decide_eq_true rfl) (of_decide_eq_true rfl) ?_
        (simp only [z,vcW,vcV,vcD,Int.reduceEq,Int.reduceNe,Int.reduceLT,Int.reduceLE,Nat.reduceEqDiff,Nat.reduceAdd,reduceIte,reduceCtorEq,Nat.reduceLT,Nat.reduceLeDiff,eq_self,vcP2,Nat.reduceShiftRight,Nat.reduceMod])
        repeat' (with_reducible refine And.intro ?_ ?_)
        try any_goals (with_reducible exact RnB.nil2)
        try any_goals (with_reducible exact RnB.agg2 rfl rfl rfl rfl (.buf 100 100 _ rfl) (.buf 101 101 _ rfl))
        try any_goals (with_reducible exact RnB.fxB (lls_fxB _))
        (repeat' first | exact trivial | (with_reducible first | exact RnB.fxB (ints_fxB _) | rfl | refine And.intro ?_ ?_) | (with_reducible (first | refine RnB.bb ?_ | refine RnB.nb ?_);simp only [vcW,vcV,vcD,Int.reduceEq,Int.reduceNe,Int.reduceLT,Int.reduceLE,Nat.reduceEqDiff,Nat.reduceAdd,reduceIte,reduceCtorEq,Nat.reduceLT,Nat.reduceLeDiff,eq_self,vcP2,Nat.reduceShiftRight,Nat.reduceMod]) | (with_reducible first | refine RnB.ii ?_ | refine RnB.app ?_) | (with_reducible refine RnB.fxB ?_;simp only [vcW,vcV,vcD,Int.reduceEq,Int.reduceNe,Int.reduceLT,Int.reduceLE,Nat.reduceEqDiff,Nat.reduceAdd,reduceIte,reduceCtorEq,Nat.reduceLT,Nat.reduceLeDiff,eq_self,vcP2,Nat.reduceShiftRight,Nat.reduceMod]) | omega)
      · dsimp only at hjS ⊢
        by_cases h2:j<S
        · have hc2:(j:Int)<S:=by omega
          simp only [hc2,vcV,vcD,Int.reduceEq,Int.reduceNe,Int.reduceLT,Int.reduceLE,Nat.reduceEqDiff,Nat.reduceAdd,reduceIte,reduceCtorEq,Nat.reduceLT,Nat.reduceLeDiff,eq_self,vcP2,Nat.reduceShiftRight,Nat.reduceMod]
          rw [borB_good _ _ _ _ _ (by rw [ints_length]) (ints_fx _)]
          refine callS_of (hag' j h2) ?_
          have hgl:=gmQ_len items S i j
          have hgs:=gmQ_succ items S i j
          simp only [ints_length,hgl,vcV,vcD,Int.reduceEq,Int.reduceNe,Int.reduceLT,Int.reduceLE,Nat.reduceEqDiff,Nat.reduceAdd,reduceIte,reduceCtorEq,Nat.reduceLT,Nat.reduceLeDiff,eq_self,vcP2,Nat.reduceShiftRight,Nat.reduceMod]
          (repeat (with_reducible refine And.intro ?_ ?_;focus (first | omega | (unfold I64;omega))))
          refine ⟨⟨j+1,h2⟩,by simp only;omega,?_⟩
          refine weakX [(103,some 36)] (of_decide_eq_true rfl) (of_decide_eq_true rfl) ?_
          (simp only [ints_length,hgl,hgs,vcW,vcV,vcD,Int.reduceEq,Int.reduceNe,Int.reduceLT,Int.reduceLE,Nat.reduceEqDiff,Nat.reduceAdd,reduceIte,reduceCtorEq,Nat.reduceLT,Nat.reduceLeDiff,eq_self,vcP2,Nat.reduceShiftRight,Nat.reduceMod])
          repeat' (with_reducible refine And.intro ?_ ?_)
          try any_goals (with_reducible exact RnB.nil2)
          try any_goals (with_reducible exact RnB.agg2 rfl rfl rfl rfl (.buf 100 100 _ rfl) (.buf 101 101 _ rfl))
          try any_goals (with_reducible exact RnB.fxB (lls_fxB _))
          (repeat' first | exact trivial | (with_reducible first | exact RnB.fxB (ints_fxB _) | rfl | refine And.intro ?_ ?_) | (with_reducible (first | refine RnB.bb ?_ | refine RnB.nb ?_);simp only [vcW,vcV,vcD,Int.reduceEq,Int.reduceNe,Int.reduceLT,Int.reduceLE,Nat.reduceEqDiff,Nat.reduceAdd,reduceIte,reduceCtorEq,Nat.reduceLT,Nat.reduceLeDiff,eq_self,vcP2,Nat.reduceShiftRight,Nat.reduceMod]) | (with_reducible first | refine RnB.ii ?_ | refine RnB.app ?_) | (with_reducible refine RnB.fxB ?_;simp only [vcW,vcV,vcD,Int.reduceEq,Int.reduceNe,Int.reduceLT,Int.reduceLE,Nat.reduceEqDiff,Nat.reduceAdd,reduceIte,reduceCtorEq,Nat.reduceLT,Nat.reduceLeDiff,eq_self,vcP2,Nat.reduceShiftRight,Nat.reduceMod]) | omega)
          all_goals trace_state
        · have hjl:j=S:=by omega
          subst hjl
          have hc2:¬ (j:Int)<j:=by omega
          have hsn:=gmP_succ items j i
          have hrs:=rhP_succ items l i
          simp only [hc2,vcV,vcD,Int.reduceEq,Int.reduceNe,Int.reduceLT,Int.reduceLE,Nat.reduceEqDiff,Nat.reduceAdd,reduceIte,reduceCtorEq,Nat.reduceLT,Nat.reduceLeDiff,eq_self,vcP2,Nat.reduceShiftRight,Nat.reduceMod]
          refine ⟨⟨by rw [lls_length,gmP_len],by omega,by omega⟩,?_⟩
          refine callS_of (hag2 i h') ?_
          simp only [ints_length,rhP_len,vcV,vcD,Int.reduceEq,Int.reduceNe,Int.reduceLT,Int.reduceLE,Nat.reduceEqDiff,Nat.reduceAdd,reduceIte,reduceCtorEq,Nat.reduceLT,Nat.reduceLeDiff,eq_self,vcP2,Nat.reduceShiftRight,Nat.reduceMod]
          refine ⟨⟨by omega,by omega⟩,by unfold I64;omega,⟨i+1,by omega⟩,by simp only;omega,?_⟩
          refine weakX [(100,some 42),(101,some 50)] (of_decide_eq_true rfl) (of_decide_eq_true rfl) ?_
          (simp only [hrs,vcW,vcV,vcD,Int.reduceEq,Int.reduceNe,Int.reduceLT,Int.reduceLE,Nat.reduceEqDiff,Nat.reduceAdd,reduceIte,reduceCtorEq,Nat.reduceLT,Nat.reduceLeDiff,eq_self,vcP2,Nat.reduceShiftRight,Nat.reduceMod])
          repeat' (with_reducible refine And.intro ?_ ?_)
          try any_goals (with_reducible exact RnB.nil2)
          try any_goals (with_reducible exact RnB.agg2 rfl rfl rfl rfl (.buf 42 100 _ rfl) (.buf 50 101 _ rfl))
          try any_goals exact RnB.snocZ (k:=103) rfl (by rw [gmQ_len]) (keyOf_ne rfl) (by rw [hsn])
          (repeat' first | exact trivial | (with_reducible first | exact RnB.fxB (ints_fxB _) | rfl | refine And.intro ?_ ?_) | (with_reducible (first | refine RnB.bb ?_ | refine RnB.nb ?_);simp only [vcW,vcV,vcD,Int.reduceEq,Int.reduceNe,Int.reduceLT,Int.reduceLE,Nat.reduceEqDiff,Nat.reduceAdd,reduceIte,reduceCtorEq,Nat.reduceLT,Nat.reduceLeDiff,eq_self,vcP2,Nat.reduceShiftRight,Nat.reduceMod]) | (with_reducible first | refine RnB.ii ?_ | refine RnB.app ?_) | (with_reducible refine RnB.fxB ?_;simp only [vcW,vcV,vcD,Int.reduceEq,Int.reduceNe,Int.reduceLT,Int.reduceLE,Nat.reduceEqDiff,Nat.reduceAdd,reduceIte,reduceCtorEq,Nat.reduceLT,Nat.reduceLeDiff,eq_self,vcP2,Nat.reduceShiftRight,Nat.reduceMod]) | omega)
          all_goals trace_state
    · have hil:i=S:=by omega
      subst hil
      have hc1:¬ (i:Int)<i:=by omega
      simp only [hc1,vcV,vcD,Int.reduceEq,Int.reduceNe,Int.reduceLT,Int.reduceLE,Nat.reduceEqDiff,Nat.reduceAdd,reduceIte,reduceCtorEq,Nat.reduceLT,Nat.reduceLeDiff,eq_self,vcP2,Nat.reduceShiftRight,Nat.reduceMod]
      rw [borB_good _ _ _ _ _ (by rw [lls_length,gmP_len]) (List.all_eq_true.1 (lls_fxB _)),borB_good _ _ _ _ _ (by rw [ints_length,rhP_len]) (ints_fx _)]
end Go.Proofs.YtgmpcbpmnimkoaaGreatDoor

/- Whether a solution is the best one. By an AI agent;nothing here is trusted. -/
namespace Go.Proofs.YtgmpcbpmnimkoaaGreatDoor
open Go.Av

def w2s (P:List (Bool × Nat)):List AV:=P.map fun p=>wdA p.1 p.2
theorem w2s_length (P:List (Bool × Nat)):(w2s P).length=P.length:=by simp [w2s]
theorem w2s_get (P:List (Bool × Nat)) (i:Nat) (h:i<P.length):(w2s P)[i]?=some (wdA P[i].1 P[i].2):=by simp [w2s,h]
theorem w2s_fxB (P:List (Bool × Nat)):(w2s P).all fx=true:=List.all_eq_true.2 fun x hx=>by
  obtain ⟨y,_,rfl⟩:=List.mem_map.1 hx;rfl
def rsP (D:Bool × Nat) (P:List (Bool × Nat)) (h:Int) (g:List Int):Nat→Bool × Nat
  | 0=>tmP D h
  | j+1=>plP (rsP D P h g j) (ngP (tmP (P.getD j (false,0)) (g.getD j 0)))
def rsV (D:Bool × Nat) (P:List (Bool × Nat)) (h:Int) (g:List Int) (n:Nat):Int:=vl D * h - Lin.smI n fun j=>vl (P.getD j (false,0)) * g.getD j 0
theorem rsP_vl (D:Bool × Nat) (P:List (Bool × Nat)) (h:Int) (g:List Int):∀ j,vl (rsP D P h g j)=rsV D P h g j
  | 0=>by unfold rsV;rw [rsP,vl_tm,Lin.smI];omega
  | j+1=>by
    have:=rsP_vl D P h g j
    unfold rsV at this ⊢
    rw [rsP,vl_pl,vl_ng,vl_tm,this,Lin.smI];omega
structure BdB (D:Bool × Nat) (P:List (Bool × Nat)) (G:List (List Int)) (H:List Int) (DM PM RM GM:Nat):Prop where
  d:D.2≤DM
  p:∀ x ∈ P,x.2≤PM
  h:∀ x ∈ H,x.natAbs≤RM
  g:∀ r ∈ G,r.length=P.length∧∀ x ∈ r,x.natAbs≤GM
  l:P.length=G.length∧H.length=G.length∧G.length≤5
  b:DM * RM+5 * (PM * GM)<170141183460469231731687303715884105728
  s:DM<170141183460469231731687303715884105728∧PM<170141183460469231731687303715884105728∧RM≤1000000000000000000∧GM≤1000000000000000000
theorem rsP_le {D:Bool × Nat} {P:List (Bool × Nat)} {h:Int} {g:List Int} {DM PM RM GM:Nat} (hD:D.2≤DM) (hP:∀ x ∈ P,x.2≤PM) (hh:h.natAbs≤RM) (hg:∀ x ∈ g,x.natAbs≤GM):∀ j,j≤P.length→j≤g.length→(rsP D P h g j).2≤DM * RM+j * (PM * GM)
  | 0,_,_=>by
    rw [Nat.zero_mul,Nat.add_zero]
    exact Nat.mul_le_mul hD hh
  | j+1,h1,h2=>by
    have ih:=rsP_le hD hP hh hg j (by omega) (by omega)
    rw [rsP,Nat.succ_mul]
    refine Nat.le_trans (plP_le _ _) ?_
    have e:(ngP (tmP (P.getD j (false,0)) (g.getD j 0))).2=(P.getD j (false,0)).2 * (g.getD j 0).natAbs:=rfl
    rw [e,getD_at (show j<g.length by omega),List.getD_eq_getElem?_getD,List.getElem?_eq_getElem (show j<P.length by omega),Option.getD_some]
    have:=Nat.mul_le_mul (hP _ (List.getElem_mem (show j<P.length by omega))) (hg _ (List.getElem_mem (show j<g.length by omega)))
    omega
def okB (D:Bool × Nat) (P:List (Bool × Nat)) (G:List (List Int)) (H:List Int) (k:Nat):Bool:=decide (0≤vl (P.getD k (false,0))) && decide (rsV D P (H.getD k 0) (G.getD k []) P.length≤0)
def isB (D:Bool × Nat) (P:List (Bool × Nat)) (G:List (List Int)) (H:List Int):Bool:=(List.range G.length).all fun k=>okB D P G H k
theorem isB_no {D:Bool × Nat} {P:List (Bool × Nat)} {G:List (List Int)} {H:List Int} {k:Nat} (h:k<G.length) (hk:okB D P G H k=false):isB D P G H=false:=by
  unfold isB
  rw [List.all_eq_false]
  exact ⟨k,List.mem_range.2 h,by rw [hk];decide⟩
theorem isB_yes {D:Bool × Nat} {P:List (Bool × Nat)} {G:List (List Int)} {H:List Int} (h:∀ k,k<G.length→okB D P G H k=true):isB D P G H=true:=by
  unfold isB
  rw [List.all_eq_true]
  exact fun k hk=>h k (List.mem_range.1 hk)
theorem sign_lt (x:Int):(x.sign<0)=(x<0):=by
  rcases Int.lt_trichotomy x 0 with g | g | g
  · rw [Int.sign_eq_neg_one_of_neg g];simp [g]
  · rw [g];simp
  · rw [Int.sign_eq_one_of_pos g];simp;omega
theorem sign_gt (x:Int):(0<x.sign)=(0<x):=by
  rcases Int.lt_trichotomy x 0 with g | g | g
  · rw [Int.sign_eq_neg_one_of_neg g];simp;omega
  · rw [g];simp
  · rw [Int.sign_eq_one_of_pos g];simp [g]

set_option maxHeartbeats 2000000 in
theorem isBest_s {D:Bool × Nat} {P:List (Bool × Nat)} {G:List (List Int)} {H:List Int} {DM PM RM GM:Nat} (B:BdB D P G H DM PM RM GM) :
    Sound Tryz.prog 95 [.agg [.sl (lls G),.sl (ints H)],wdA D.1 D.2,.sl (w2s P)] (.bool (isB D P G H)):=by
  refine sound_W f_pulse_problem_isBest (Nat.le_of_ble_eq_true rfl) ?_
  obtain ⟨b1,b2,b3,b4,⟨b5,b6,b7⟩,b8,b9,b10,b11,b12⟩:=B
  have hmax:=maxLen_big
  unfold wdA
  simp only [c_pulse_problem_isBest,lls_length,vcV,vcD,Int.reduceEq,Int.reduceNe,Int.reduceLT,Int.reduceLE,Nat.reduceEqDiff,Nat.reduceAdd,reduceIte,reduceCtorEq,Nat.reduceLT,Nat.reduceLeDiff,eq_self,vcP2,Nat.reduceShiftRight,Nat.reduceMod]
  refine W_loop (t:=.mk) (α:=PSigma fun i:Nat=>i≤G.length∧∀ k,k<i→okB D P G H k=true) (fun ⟨i,_⟩=>(envOf [(2,.sl (w2s P)),(3,.ptr 3 0 0),(4,.ptr 4 0 0),(13,.sl (lls G)),(14,.int .i64 G.length),(15,.int .i64 i)],stOf [(3,⟨151,2,[.agg [.sl (lls G),.sl (ints H)]]⟩),(4,⟨157,3,[wdA D.1 D.2]⟩)])) (fun x=>G.length - x.1) ⟨0,Nat.zero_le _,fun k hk=>by omega⟩ ?_ (fun ⟨i,hiS,hno⟩=>?_)
  · refine weakX [] (of_decide_eq_true rfl) (of_decide_eq_true rfl) ?_
    (simp only [wdA,vcW,vcV,vcD,Int.reduceEq,Int.reduceNe,Int.reduceLT,Int.reduceLE,Nat.reduceEqDiff,Nat.reduceAdd,reduceIte,reduceCtorEq,Nat.reduceLT,Nat.reduceLeDiff,eq_self,vcP2,Nat.reduceShiftRight,Nat.reduceMod])
    (repeat' first | exact trivial | (with_reducible first | exact RnB.fxB (ints_fxB _) | rfl | refine And.intro ?_ ?_) | (with_reducible (first | refine RnB.bb ?_ | refine RnB.nb ?_);simp only [vcW,vcV,vcD,Int.reduceEq,Int.reduceNe,Int.reduceLT,Int.reduceLE,Nat.reduceEqDiff,Nat.reduceAdd,reduceIte,reduceCtorEq,Nat.reduceLT,Nat.reduceLeDiff,eq_self,vcP2,Nat.reduceShiftRight,Nat.reduceMod]) | (with_reducible first | refine RnB.ii ?_ | refine RnB.app ?_) | (with_reducible refine RnB.fxB ?_;simp only [vcW,vcV,vcD,Int.reduceEq,Int.reduceNe,Int.reduceLT,Int.reduceLE,Nat.reduceEqDiff,Nat.reduceAdd,reduceIte,reduceCtorEq,Nat.reduceLT,Nat.reduceLeDiff,eq_self,vcP2,Nat.reduceShiftRight,Nat.reduceMod]) | omega)
  · dsimp only at hiS hno ⊢
    by_cases h':i<G.length
    · have hc1:(i:Int)<G.length:=by omega
      obtain ⟨r1,r2⟩:=b4 _ (List.getElem_mem h')
      have hh:=b3 _ (List.getElem_mem (show i<H.length by omega))
      have hHd:H.getD i 0=H[i]:=getD_at _
      have hGd:G.getD i []=G[i]:=by rw [List.getD_eq_getElem?_getD,List.getElem?_eq_getElem h'];rfl
      obtain ⟨g,hg⟩:∃ g,g=G[i]:=⟨_,rfl⟩
      obtain ⟨y,hy⟩:∃ y,y=H[i]'(by omega):=⟨_,rfl⟩
      have hgr:(lls G)[i]?=some (.sl (ints g)):=by rw [hg];exact lls_get G i h'
      have hhr:(ints H)[i]?=some (.int .i64 y):=by rw [hy];exact ints_get H i (by omega)
      rw [← hg] at r1 r2 hGd
      rw [← hy] at hh hHd
      have hle:∀ j:Nat,j≤P.length→(rsP D P y g j).2<170141183460469231731687303715884105728:=fun j hj=>by
        have h1:=rsP_le b1 b2 hh r2 j hj (by omega)
        have h2:j * (PM * GM)≤5 * (PM * GM):=Nat.mul_le_mul_right _ (by omega)
        omega
      have h0:=hle 0 (by omega)
      have hT:=tmP_s D y (by unfold S63;omega) (by unfold W128;show (rsP D P y g 0).2<_;omega) (by unfold W128;omega)
      have hT':Sound Tryz.prog 108 [wdA D.1 D.2,.int .i64 y] (wdA (rsP D P y g 0).1 (rsP D P y g 0).2):=hT
      unfold wdA at hT' ⊢
      simp only [hc1,hgr,hhr,vcV,vcD,Int.reduceEq,Int.reduceNe,Int.reduceLT,Int.reduceLE,Nat.reduceEqDiff,Nat.reduceAdd,reduceIte,reduceCtorEq,Nat.reduceLT,Nat.reduceLeDiff,eq_self,vcP2,Nat.reduceShiftRight,Nat.reduceMod]
      (repeat (with_reducible refine And.intro ?_ ?_;focus (first | omega | (unfold I64;omega))))
      refine callS_of hT' ?_
      simp only [vcV,vcD,Int.reduceEq,Int.reduceNe,Int.reduceLT,Int.reduceLE,Nat.reduceEqDiff,Nat.reduceAdd,reduceIte,reduceCtorEq,Nat.reduceLT,Nat.reduceLeDiff,eq_self,vcP2,Nat.reduceShiftRight,Nat.reduceMod]
      refine W_loop (t:=.mk) (α:=PSigma fun j:Nat=>j≤P.length) (fun ⟨j,_⟩=>(envOf [(2,.sl (w2s P)),(3,.ptr 3 0 0),(4,.ptr 4 0 0),(7,.int .i64 i),(8,.sl (ints g)),(9,.ptr 9 0 0),(13,.sl (lls G)),(14,.int .i64 G.length),(15,.int .i64 i),(27,.sl (w2s P)),(28,.int .i64 P.length),(29,.int .i64 j)],stOf [(3,⟨151,2,[.agg [.sl (lls G),.sl (ints H)]]⟩),(4,⟨157,3,[wdA D.1 D.2]⟩),(9,⟨157,3,[wdA (rsP D P y g j).1 (rsP D P y g j).2]⟩)])) (fun x=>P.length - x.1) ⟨0,Nat.zero_le _⟩ ?_ (fun ⟨j,hjS⟩=>?_)
      · refine weakX [] (of_decide_eq_true rfl) (of_decide_eq_true rfl) ?_
        (simp only [w2s_length,wdA,vcW,vcV,vcD,Int.reduceEq,Int.reduceNe,Int.reduceLT,Int.reduceLE,Nat.reduceEqDiff,Nat.reduceAdd,reduceIte,reduceCtorEq,Nat.reduceLT,Nat.reduceLeDiff,eq_self,vcP2,Nat.reduceShiftRight,Nat.reduceMod])
        (repeat' first | exact trivial | (with_reducible first | exact RnB.fxB (ints_fxB _) | rfl | refine And.intro ?_ ?_) | (with_reducible (first | refine RnB.bb ?_ | refine RnB.nb ?_);simp only [vcW,vcV,vcD,Int.reduceEq,Int.reduceNe,Int.reduceLT,Int.reduceLE,Nat.reduceEqDiff,Nat.reduceAdd,reduceIte,reduceCtorEq,Nat.reduceLT,Nat.reduceLeDiff,eq_self,vcP2,Nat.reduceShiftRight,Nat.reduceMod]) | (with_reducible first | refine RnB.ii ?_ | refine RnB.app ?_) | (with_reducible refine RnB.fxB ?_;simp only [vcW,vcV,vcD,Int.reduceEq,Int.reduceNe,Int.reduceLT,Int.reduceLE,Nat.reduceEqDiff,Nat.reduceAdd,reduceIte,reduceCtorEq,Nat.reduceLT,Nat.reduceLeDiff,eq_self,vcP2,Nat.reduceShiftRight,Nat.reduceMod]) | omega)
      · dsimp only at hjS ⊢
        by_cases h2:j<P.length
        · have hc2:(j:Int)<P.length:=by omega
          have hPd:P.getD j (false,0)=P[j]:=by rw [List.getD_eq_getElem?_getD,List.getElem?_eq_getElem h2];rfl
          have hp:=b2 _ (List.getElem_mem h2)
          obtain ⟨p,hpd⟩:∃ p,p=P[j]:=⟨_,rfl⟩
          have hpg:(w2s P)[j]?=some (wdA p.1 p.2):=by rw [hpd];exact w2s_get P j h2
          rw [← hpd] at hp hPd
          obtain ⟨z,hz⟩:∃ z,z=g[j]'(by omega):=⟨_,rfl⟩
          have hzb:=r2 _ (List.getElem_mem (show j<g.length by omega))
          have hzg:(ints g)[j]?=some (.int .i64 z):=by rw [hz];exact ints_get g j (by omega)
          have hgd:g.getD j 0=g[j]'(by omega):=getD_at _
          rw [← hz] at hzb hgd
          have hnx:rsP D P y g (j+1)=plP (rsP D P y g j) (ngP (tmP p z)):=by rw [rsP,hPd,hgd]
          have hl1:=hle j (by omega)
          have hpz:p.2 * z.natAbs≤PM * GM:=Nat.mul_le_mul hp hzb
          have hM1:=tmP_s p z (by unfold S63;omega) (by unfold W128;omega) (by unfold W128;omega)
          have hM2:=ngP_s (tmP p z)
          have hM3:=plP_s (rsP D P y g j) (ngP (tmP p z)) (by unfold W128;have:(ngP (tmP p z)).2=p.2 * z.natAbs:=rfl;omega)
          rw [← hnx] at hM3
          unfold wdA at hM1 hM2 hM3 hpg ⊢
          simp only [hc2,hpg,hzg,vcV,vcD,Int.reduceEq,Int.reduceNe,Int.reduceLT,Int.reduceLE,Nat.reduceEqDiff,Nat.reduceAdd,reduceIte,reduceCtorEq,Nat.reduceLT,Nat.reduceLeDiff,eq_self,vcP2,Nat.reduceShiftRight,Nat.reduceMod]
          (repeat (with_reducible refine And.intro ?_ ?_;focus (first | omega | (unfold I64;omega))))
          refine callS_of hM1 ?_
          simp only [vcV,vcD,Int.reduceEq,Int.reduceNe,Int.reduceLT,Int.reduceLE,Nat.reduceEqDiff,Nat.reduceAdd,reduceIte,reduceCtorEq,Nat.reduceLT,Nat.reduceLeDiff,eq_self,vcP2,Nat.reduceShiftRight,Nat.reduceMod]
          refine callS_of hM2 ?_
          simp only [vcV,vcD,Int.reduceEq,Int.reduceNe,Int.reduceLT,Int.reduceLE,Nat.reduceEqDiff,Nat.reduceAdd,reduceIte,reduceCtorEq,Nat.reduceLT,Nat.reduceLeDiff,eq_self,vcP2,Nat.reduceShiftRight,Nat.reduceMod]
          refine callS_of hM3 ?_
          simp only [vcV,vcD,Int.reduceEq,Int.reduceNe,Int.reduceLT,Int.reduceLE,Nat.reduceEqDiff,Nat.reduceAdd,reduceIte,reduceCtorEq,Nat.reduceLT,Nat.reduceLeDiff,eq_self,vcP2,Nat.reduceShiftRight,Nat.reduceMod]
          (repeat (with_reducible refine And.intro ?_ ?_;focus (first | omega | (unfold I64;omega))))
          refine ⟨⟨j+1,h2⟩,by simp only;omega,?_⟩
          refine weakX [] (of_decide_eq_true rfl) (of_decide_eq_true rfl) ?_
          (simp only [wdA,vcW,vcV,vcD,Int.reduceEq,Int.reduceNe,Int.reduceLT,Int.reduceLE,Nat.reduceEqDiff,Nat.reduceAdd,reduceIte,reduceCtorEq,Nat.reduceLT,Nat.reduceLeDiff,eq_self,vcP2,Nat.reduceShiftRight,Nat.reduceMod])
          (repeat' first | exact trivial | (with_reducible first | exact RnB.fxB (ints_fxB _) | rfl | refine And.intro ?_ ?_) | (with_reducible (first | refine RnB.bb ?_ | refine RnB.nb ?_);simp only [vcW,vcV,vcD,Int.reduceEq,Int.reduceNe,Int.reduceLT,Int.reduceLE,Nat.reduceEqDiff,Nat.reduceAdd,reduceIte,reduceCtorEq,Nat.reduceLT,Nat.reduceLeDiff,eq_self,vcP2,Nat.reduceShiftRight,Nat.reduceMod]) | (with_reducible first | refine RnB.ii ?_ | refine RnB.app ?_) | (with_reducible refine RnB.fxB ?_;simp only [vcW,vcV,vcD,Int.reduceEq,Int.reduceNe,Int.reduceLT,Int.reduceLE,Nat.reduceEqDiff,Nat.reduceAdd,reduceIte,reduceCtorEq,Nat.reduceLT,Nat.reduceLeDiff,eq_self,vcP2,Nat.reduceShiftRight,Nat.reduceMod]) | omega)
        · have hjl:j=P.length:=by omega
          subst hjl
          have hc2:¬ (P.length:Int)<P.length:=by omega
          have hiP:i<P.length:=by omega
          have hPd:P.getD i (false,0)=P[i]:=by rw [List.getD_eq_getElem?_getD,List.getElem?_eq_getElem hiP];rfl
          have hp:=b2 _ (List.getElem_mem hiP)
          obtain ⟨p,hpd⟩:∃ p,p=P[i]:=⟨_,rfl⟩
          have hpg:(w2s P)[i]?=some (wdA p.1 p.2):=by rw [hpd];exact w2s_get P i hiP
          rw [← hpd] at hp hPd
          have hl1:=hle P.length (by omega)
          have hrv:=rsP_vl D P y g P.length
          have hok:okB D P G H i=(decide (0≤vl p) && decide (rsV D P y g P.length≤0)):=by unfold okB;rw [hPd,hHd,hGd]
          have hS1:=sign_s p (by unfold W128;omega)
          have hS2:=sign_s (rsP D P y g P.length) (by unfold W128;omega)
          rw [hrv] at hS2
          generalize rsV D P y g P.length=V at *
          unfold wdA at hS1 hS2 hpg ⊢
          simp only [hc2,hpg,vcV,vcD,Int.reduceEq,Int.reduceNe,Int.reduceLT,Int.reduceLE,Nat.reduceEqDiff,Nat.reduceAdd,reduceIte,reduceCtorEq,Nat.reduceLT,Nat.reduceLeDiff,eq_self,vcP2,Nat.reduceShiftRight,Nat.reduceMod]
          (repeat (with_reducible refine And.intro ?_ ?_;focus (first | omega | (unfold I64;omega))))
          refine callS_of hS1 ?_
          by_cases q1:vl p<0
          · have hb:=isB_no h' (by rw [hok,decide_eq_false (show ¬ 0≤vl p by omega),Bool.false_and])
            simp only [sign_lt,q1,hb,vcV,vcD,Int.reduceEq,Int.reduceNe,Int.reduceLT,Int.reduceLE,Nat.reduceEqDiff,Nat.reduceAdd,reduceIte,reduceCtorEq,Nat.reduceLT,Nat.reduceLeDiff,eq_self,vcP2,Nat.reduceShiftRight,Nat.reduceMod]
          · simp only [sign_lt,q1,vcV,vcD,Int.reduceEq,Int.reduceNe,Int.reduceLT,Int.reduceLE,Nat.reduceEqDiff,Nat.reduceAdd,reduceIte,reduceCtorEq,Nat.reduceLT,Nat.reduceLeDiff,eq_self,vcP2,Nat.reduceShiftRight,Nat.reduceMod]
            refine callS_of hS2 ?_
            by_cases q2:0<V
            · have hb:=isB_no h' (by rw [hok,decide_eq_false (show ¬ V≤0 by omega),Bool.and_false])
              simp only [sign_gt,q2,hb,vcV,vcD,Int.reduceEq,Int.reduceNe,Int.reduceLT,Int.reduceLE,Nat.reduceEqDiff,Nat.reduceAdd,reduceIte,reduceCtorEq,Nat.reduceLT,Nat.reduceLeDiff,eq_self,vcP2,Nat.reduceShiftRight,Nat.reduceMod]
            · simp only [sign_gt,q2,vcV,vcD,Int.reduceEq,Int.reduceNe,Int.reduceLT,Int.reduceLE,Nat.reduceEqDiff,Nat.reduceAdd,reduceIte,reduceCtorEq,Nat.reduceLT,Nat.reduceLeDiff,eq_self,vcP2,Nat.reduceShiftRight,Nat.reduceMod]
              (repeat (with_reducible refine And.intro ?_ ?_;focus (first | omega | (unfold I64;omega))))
              refine ⟨⟨i+1,by omega,fun k hk=>?_⟩,by simp only;omega,?_⟩
              · by_cases e:k=i
                · subst e;rw [hok];simp;omega
                · exact hno k (by omega)
              · refine weakX [] (of_decide_eq_true rfl) (of_decide_eq_true rfl) ?_
                (simp only [wdA,vcW,vcV,vcD,Int.reduceEq,Int.reduceNe,Int.reduceLT,Int.reduceLE,Nat.reduceEqDiff,Nat.reduceAdd,reduceIte,reduceCtorEq,Nat.reduceLT,Nat.reduceLeDiff,eq_self,vcP2,Nat.reduceShiftRight,Nat.reduceMod])
                (repeat' first | exact trivial | (with_reducible first | exact RnB.fxB (ints_fxB _) | rfl | refine And.intro ?_ ?_) | (with_reducible (first | refine RnB.bb ?_ | refine RnB.nb ?_);simp only [vcW,vcV,vcD,Int.reduceEq,Int.reduceNe,Int.reduceLT,Int.reduceLE,Nat.reduceEqDiff,Nat.reduceAdd,reduceIte,reduceCtorEq,Nat.reduceLT,Nat.reduceLeDiff,eq_self,vcP2,Nat.reduceShiftRight,Nat.reduceMod]) | (with_reducible first | refine RnB.ii ?_ | refine RnB.app ?_) | (with_reducible refine RnB.fxB ?_;simp only [vcW,vcV,vcD,Int.reduceEq,Int.reduceNe,Int.reduceLT,Int.reduceLE,Nat.reduceEqDiff,Nat.reduceAdd,reduceIte,reduceCtorEq,Nat.reduceLT,Nat.reduceLeDiff,eq_self,vcP2,Nat.reduceShiftRight,Nat.reduceMod]) | omega)
    · have hil:i=G.length:=by omega
      subst hil
      have hc1:¬ (G.length:Int)<G.length:=by omega
      rw [isB_yes hno]
      unfold wdA
      simp only [hc1,vcV,vcD,Int.reduceEq,Int.reduceNe,Int.reduceLT,Int.reduceLE,Nat.reduceEqDiff,Nat.reduceAdd,reduceIte,reduceCtorEq,Nat.reduceLT,Nat.reduceLeDiff,eq_self,vcP2,Nat.reduceShiftRight,Nat.reduceMod]
end Go.Proofs.YtgmpcbpmnimkoaaGreatDoor

/- Contracts off the library's shelf: slices.Clone. By an AI agent;nothing here is trusted. -/
namespace Go.Proofs.YtgmpcbpmnimkoaaGreatDoor
open Go.Av
open Go.RowKit (Below)

def cloneRen:Go.Shelf.Ren:=⟨fun x=>match x with | 15=>170 | n=>n,fun x=>match x with | 22=>22 | 3=>3 | 4=>4 | n=>n,fun x=>x⟩
set_option maxRecDepth 100000 in
theorem cloneFn:Tryz.prog.funcs[cloneRen.f 15]?=some (Go.Proofs.Body2.n15 cloneRen):=by kernel_rfl
theorem cloneLay:Go.Proofs.Lays2.n15 Tryz.prog cloneRen :=
  { mixed:=by kernel_rfl,f15:=cloneFn,
    t3:=Tryz.underlying3,a3:=Tryz.isAgg3,z3:=Tryz.sizeOf3,v3:=Tryz.zeroValue3,t4:=Tryz.underlying4,
    a4:=Tryz.isAgg4,z4:=Tryz.sizeOf4,v4:=Tryz.zeroValue4,t22:=Tryz.underlying22,a22:=Tryz.isAgg22,
    z22:=Tryz.sizeOf22,v22:=Tryz.zeroValue22,i3:=by kernel_rfl }

theorem ints_at {l:List Int} {i:Nat} {x:AV} (h:(ints l)[i]?=some x):∃ hi:i<l.length,x=.int .i64 l[i]:=by
  have hi:i<l.length:=by
    have:=(List.getElem?_eq_some_iff.1 h).1
    rw [ints_length] at this;exact this
  rw [ints_get l i hi] at h
  exact ⟨hi,by injection h with h;exact h.symm⟩
theorem own_sl {w':World} {B:Nat} {e:TypeId} {v:Value} {l:List Int} {ok:Nat→Prop} (h:w'.ownsRow B e 1 v l.length (l.map (Value.int .i64))) :
    VR w'.heap (fun b=>ok b∨(B≤b∧b<w'.heap.size)) noPlace noStore (.sl (ints l)) v:=by
  obtain ⟨_,h⟩:=h
  rcases h with ⟨rfl,hn⟩ | ⟨g,cap,cur,rfl,hg,hb,hn,hcap,hcur,hx⟩
  · have:l=[]:=List.eq_nil_of_length_eq_zero hn
    subst this
    exact .sl0 none 0
  · have hlen:(ints l).length=l.length:=ints_length l
    rw [← hlen] at hn ⊢
    refine .sl (ints l) g 0 1 cap cur e (0,0) (fun i _=>.int .i64 (l.getD i 0)) (.inr ⟨hg,(Array.getElem?_eq_some_iff.1 hb).1⟩) hn hb ?_ ?_ ?_
    · intro i x hi
      obtain ⟨_,rfl⟩:=ints_at hi
      exact ⟨rfl,fun c hc=>by rw [List.mem_singleton.1 hc];rfl,rfl⟩
    · intro i x o c hi ho
      obtain ⟨hil,rfl⟩:=ints_at hi
      have h0:o=0:=by
        cases o with
        | zero=>rfl
        | succ o=>simp [cellsOf] at ho
      subst h0
      have h1:(cur.toList.take (l.length * 1))[i]?=(l.map (Value.int .i64))[i]?:=by rw [hx]
      rw [List.getElem?_take,if_pos (by omega),Array.getElem?_toList,List.getElem?_map,List.getElem?_eq_getElem hil] at h1
      show cur[0+i * 1+0]?=some (.int .i64 (l.getD i 0))
      rw [show 0+i * 1+0=i by omega,h1]
      simp [List.getD,List.getElem?_eq_getElem hil]
    · intro i x o c hi ho
      obtain ⟨hil,rfl⟩:=ints_at hi
      cases o with
      | zero =>
        simp [cellsOf] at ho
        subst ho
        show VR _ _ _ _ _ (.int .i64 (l.getD i 0))
        rw [show l.getD i 0=l[i] by simp [List.getD,List.getElem?_eq_getElem hil]]
        exact .int _ _
      | succ o=>simp [cellsOf] at ho

theorem Clone_s (l:List Int) (hl:l.length≤1000000000):Sound Tryz.prog 170 [.sl (ints l)] (.sl (ints l)):=by
  intro w ok cargs hok _ hlen hargs
  have h0:=hargs 0 _ rfl
  have hc1:cargs=#[cargs.getD 0 undef]:=by
    apply Array.ext
    · simpa using hlen
    · intro i h1 h2
      simp at h2
      subst h2
      simp [Array.getD,h1]
  rw [hc1]
  generalize cargs.getD 0 undef=v at h0
  have hin:∀ v,(callFunc 170 #[v]).run Tryz.prog w=.ok (.enter 170 #[v]) w:=fun v =>
    Go.Av.callFunc_enter Tryz.func170 (by kernel_rfl) rfl #[v]
  cases l with
  | nil =>
    have h1:VR w.heap ok noPlace noStore (.sl []) v:=h0
    show CallsF _ _ _ _ fun cv w'=>Below w.heap.size w w'∧VR w'.heap (fun b=>ok b∨(w.heap.size≤b∧b<w'.heap.size)) noPlace noStore (.sl (ints [])) cv
    cases h1 with
    | sl0 a cap =>
      cases a with
      | none =>
        refine .inr ⟨hin _,(Any.slices_Clone_int_nil cloneLay 0 cap w).mono fun e w' ⟨he,hw⟩=>⟨_,he,?_,?_⟩⟩
        · rw [hw];exact Below.refl _ _
        · exact .sl0 none 0
      | some a =>
        refine .inr ⟨hin _,(Any.slices_Clone_int_zero cloneLay a cap w).mono fun e w' ⟨v',he,ho,_,hB⟩=>⟨v',he,hB,?_⟩⟩
        exact own_sl (l:=[]) ho
    | sl _ b off s cap cur ty fr vals hok' hcap hb hs hc hv =>
      refine .inr ⟨hin _,(Any.slices_Clone_int_zero cloneLay ⟨b,off,none⟩ cap w).mono fun e w' ⟨v',he,ho,_,hB⟩=>⟨v',he,hB,?_⟩⟩
      exact own_sl (l:=[]) ho
  | cons x r =>
    have hpos:0<(x :: r).length:=by simp
    generalize x :: r=l at *
    generalize hes:ints l=es at h0
    cases h0 with
    | sl0 a cap=>rw [← ints_length,hes] at hpos;simp at hpos
    | sl _ b off s cap cur ty fr vals hok' hcap hb hs hc hv =>
      subst hes
      have hs1:s=1:=(hs 0 _ (ints_get l 0 hpos)).1.symm
      subst hs1
      have hcell:∀ j,j<l.length→w.cell? ⟨b,off+j,none⟩=some (.int .i64 (l.getD j 0)):=by
        intro j hj
        have h1:=hc j _ 0 _ (ints_get l j hj) rfl
        have h2:=hv j _ 0 _ (ints_get l j hj) rfl
        generalize vals j 0=u at h1 h2
        cases h2
        rw [show off+j * 1+0=off+j by omega] at h1
        simp [World.cell?,hb,h1,List.getD,List.getElem?_eq_getElem hj]
      have hlen:(ints l).length=l.length:=ints_length l
      rw [hlen]
      refine .inr ⟨hin _,(Any.slices_Clone_int cloneLay b off l.length cap l w (Nat.le_refl _) (by omega) hcell).mono fun e w' ⟨v',he,ho,_,hB⟩=>⟨v',he,hB,?_⟩⟩
      rw [List.take_length] at ho
      exact own_sl ho

theorem own_o {w w':World} {ok:Nat→Prop} {e:Nat} {v:Value} {l:List Int} (h:w'.ownsRow w.heap.size e 1 v l.length (l.map (Value.int .i64))):OwnR w w' ok e 1 (ints l) v:=by
  obtain ⟨_,h⟩:=h
  rcases h with ⟨rfl,hn⟩ | ⟨g,cap,cur,rfl,hg,hb,hn,hcap,hcur,hx⟩
  · have:l=[]:=List.eq_nil_of_length_eq_zero hn
    subst this
    exact .inl ⟨rfl,none,rfl⟩
  · have hlen:(ints l).length=l.length:=ints_length l
    rw [← hlen] at hn ⊢
    refine .inr ⟨g,cap,cur,rfl,hg,hb,hn,hcap,hcur,fun i x hi=>?_⟩
    obtain ⟨hil,rfl⟩:=ints_at hi
    refine ⟨rfl,fun c hc=>by rw [List.mem_singleton.1 hc];rfl,fun o c ho=>?_⟩
    cases o with
    | zero =>
      simp [cellsOf] at ho
      subst ho
      have h1:(cur.toList.take (l.length * 1))[i]?=(l.map (Value.int .i64))[i]?:=by rw [hx]
      rw [List.getElem?_take,if_pos (by omega),Array.getElem?_toList,List.getElem?_map,List.getElem?_eq_getElem hil] at h1
      exact ⟨_,by rw [show i * 1+0=i by omega];exact h1,.int _ _⟩
    | succ o=>simp [cellsOf] at ho
theorem Clone_o (l:List Int) (hl:l.length≤1000000000):SoundO Tryz.prog 170 [.sl (ints l)] 3 1 (ints l):=by
  refine ⟨by omega,?_⟩
  intro w ok cargs hok _ hlen hargs
  have h0:=hargs 0 _ rfl
  have hc1:cargs=#[cargs.getD 0 undef]:=by
    apply Array.ext
    · simpa using hlen
    · intro i h1 h2
      simp at h2
      subst h2
      simp [Array.getD,h1]
  rw [hc1]
  generalize cargs.getD 0 undef=v at h0
  have hin:∀ v,(callFunc 170 #[v]).run Tryz.prog w=.ok (.enter 170 #[v]) w:=fun v =>
    Go.Av.callFunc_enter Tryz.func170 (by kernel_rfl) rfl #[v]
  cases l with
  | nil =>
    have h1:VR w.heap ok noPlace noStore (.sl []) v:=h0
    show CallsF _ _ _ _ fun cv w'=>Below w.heap.size w w'∧OwnR w w' ok 3 1 (ints []) cv
    cases h1 with
    | sl0 a cap =>
      cases a with
      | none =>
        refine .inr ⟨hin _,(Any.slices_Clone_int_nil cloneLay 0 cap w).mono fun e w' ⟨he,hw⟩=>⟨_,he,?_,?_⟩⟩
        · rw [hw];exact Below.refl _ _
        · exact .inl ⟨rfl,none,rfl⟩
      | some a =>
        refine .inr ⟨hin _,(Any.slices_Clone_int_zero cloneLay a cap w).mono fun e w' ⟨v',he,ho,_,hB⟩=>⟨v',he,hB,?_⟩⟩
        exact own_o (l:=[]) ho
    | sl _ b off s cap cur ty fr vals hok' hcap hb hs hc hv =>
      refine .inr ⟨hin _,(Any.slices_Clone_int_zero cloneLay ⟨b,off,none⟩ cap w).mono fun e w' ⟨v',he,ho,_,hB⟩=>⟨v',he,hB,?_⟩⟩
      exact own_o (l:=[]) ho
  | cons x r =>
    have hpos:0<(x :: r).length:=by simp
    generalize x :: r=l at *
    generalize hes:ints l=es at h0
    cases h0 with
    | sl0 a cap=>rw [← ints_length,hes] at hpos;simp at hpos
    | sl _ b off s cap cur ty fr vals hok' hcap hb hs hc hv =>
      subst hes
      have hs1:s=1:=(hs 0 _ (ints_get l 0 hpos)).1.symm
      subst hs1
      have hcell:∀ j,j<l.length→w.cell? ⟨b,off+j,none⟩=some (.int .i64 (l.getD j 0)):=by
        intro j hj
        have h1:=hc j _ 0 _ (ints_get l j hj) rfl
        have h2:=hv j _ 0 _ (ints_get l j hj) rfl
        generalize vals j 0=u at h1 h2
        cases h2
        rw [show off+j * 1+0=off+j by omega] at h1
        simp [World.cell?,hb,h1,List.getD,List.getElem?_eq_getElem hj]
      have hlen:(ints l).length=l.length:=ints_length l
      rw [hlen]
      refine .inr ⟨hin _,(Any.slices_Clone_int cloneLay b off l.length cap l w (Nat.le_refl _) (by omega) hcell).mono fun e w' ⟨v',he,ho,_,hB⟩=>⟨v',he,hB,?_⟩⟩
      rw [List.take_length] at ho
      exact own_o ho
end Go.Proofs.YtgmpcbpmnimkoaaGreatDoor

/- The solution for a set of ticks. By an AI agent;nothing here is trusted. -/
namespace Go.Proofs.YtgmpcbpmnimkoaaGreatDoor
open Go.Av

def ntA (T:List Nat):List Int:=T.map fun k:Nat=>(k:Int)
theorem ntA_len (T:List Nat):(ntA T).length=T.length:=by simp [ntA]
theorem ntA_get (T:List Nat) (i:Nat) (h:i<T.length):(ints (ntA T))[i]?=some (.int .i64 (T[i]:Int)):=by simp [ntA,ints,h]
def sqQ (G:List (List Int)) (T:List Nat) (k j:Nat):List Int:=(T.take j).map fun m=>ent G k m
def sqP (G:List (List Int)) (T:List Nat) (i:Nat):List (List Int):=(T.take i).map fun k=>sqQ G T k T.length
theorem sqQ_succ (G:List (List Int)) (T:List Nat) (k:Nat) {j:Nat} (h:j<T.length):sqQ G T k (j+1)=sqQ G T k j ++ [ent G k T[j]]:=by
  unfold sqQ;rw [List.take_succ_eq_append_getElem h,List.map_append];rfl
theorem sqP_succ (G:List (List Int)) (T:List Nat) {i:Nat} (h:i<T.length):sqP G T (i+1)=sqP G T i ++ [sqQ G T T[i] T.length]:=by
  unfold sqP;rw [List.take_succ_eq_append_getElem h,List.map_append];rfl
theorem sqQ_len (G:List (List Int)) (T:List Nat) (k:Nat) {j:Nat} (h:j≤T.length):(sqQ G T k j).length=j:=by unfold sqQ;rw [List.length_map,List.length_take_of_le h]
theorem sqP_len (G:List (List Int)) (T:List Nat) {i:Nat} (h:i≤T.length):(sqP G T i).length=i:=by unfold sqP;rw [List.length_map,List.length_take_of_le h]
def rpP (G:List (List Int)) (H:List Int) (T:List Nat) (n i:Nat):List (List Int):=(T.take i).map fun k=>(sqQ G T k T.length).set n (H.getD k 0)
theorem rpP_len (G:List (List Int)) (H:List Int) (T:List Nat) (n:Nat) {i:Nat} (h:i≤T.length):(rpP G H T n i).length=i:=by unfold rpP;rw [List.length_map,List.length_take_of_le h]
theorem rpP_succ (G:List (List Int)) (H:List Int) (T:List Nat) (n:Nat) {i:Nat} (h:i<T.length):rpP G H T n (i+1)=rpP G H T n i ++ [(sqQ G T T[i] T.length).set n (H.getD T[i] 0)]:=by
  unfold rpP;rw [List.take_succ_eq_append_getElem h,List.map_append];rfl
def slP (G:List (List Int)) (H:List Int) (T:List Nat):Nat→List (Bool × Nat)
  | 0=>List.replicate H.length (false,0)
  | n+1=>(slP G H T n).set (T.getD n 0) (dtP T.length (rpP G H T n T.length))
theorem slP_len (G:List (List Int)) (H:List Int) (T:List Nat):∀ n,(slP G H T n).length=H.length
  | 0=>by simp [slP]
  | n+1=>by rw [slP,List.length_set,slP_len G H T n]
theorem w2s_set (P:List (Bool × Nat)) (i:Nat) (p:Bool × Nat):(w2s P).set i (wdA p.1 p.2)=w2s (P.set i p):=by simp [w2s,List.map_set]
theorem mkOk_w (n:Nat):mkOk 3 (List.replicate n (AV.agg [.bool false,.int .u64 0,.int .u64 0])):=by
  intro x hx
  rw [List.eq_of_mem_replicate hx]
  exact ⟨rfl,rfl,by decide⟩
theorem w2s_zero (n:Nat):List.replicate n (AV.agg [.bool false,.int .u64 0,.int .u64 0])=w2s (List.replicate n (false,0)):=by
  simp [w2s,wdA]
structure SlB (G:List (List Int)) (H:List Int) (T:List Nat) (GM RM:Nat):Prop where
  g:∀ r c,(ent G r c).natAbs≤GM
  h:∀ k,(H.getD k 0).natAbs≤RM
  gl:G.length=H.length∧H.length≤5∧∀ r ∈ G,r.length=H.length
  t:∀ k ∈ T,k<H.length
  tl:T.length≤5
  m:1≤GM∧GM≤RM∧RM≤1000000000000000000
  b:prB T.length (fun _=>RM)<170141183460469231731687303715884105728
theorem bnd_sq {G:List (List Int)} {H:List Int} {T:List Nat} {GM RM:Nat} (B:SlB G H T GM RM):bnd T.length (sqP G T T.length) fun _=>GM:=by
  intro r c hr hc
  have e:ent (sqP G T T.length) r c=ent G T[r] T[c]:=by
    unfold ent sqP sqQ
    rw [List.take_length]
    simp [hr,hc,ent]
  rw [e]
  exact B.g _ _
theorem ent_rp {G:List (List Int)} {H:List Int} {T:List Nat} {n r c:Nat} (hr:r<T.length) (hc:c<T.length):ent (rpP G H T n T.length) r c=if c=n then H.getD (T.getD r 0) 0 else ent G (T.getD r 0) (T.getD c 0):=by
  unfold ent rpP sqQ
  rw [List.take_length]
  have e1:T.getD r 0=T[r]:=by rw [List.getD_eq_getElem?_getD,List.getElem?_eq_getElem hr];rfl
  have e2:T.getD c 0=T[c]:=by rw [List.getD_eq_getElem?_getD,List.getElem?_eq_getElem hc];rfl
  rw [e1,e2]
  simp only [List.getD_eq_getElem?_getD,List.getElem?_map,List.getElem?_eq_getElem hr,Option.map_some,Option.getD_some,List.getElem?_set,List.length_map]
  by_cases e:n=c
  · subst e;rw [if_pos rfl,if_pos hc,if_pos rfl];rfl
  · rw [if_neg e,if_neg (fun q=>e q.symm)];simp [hc,ent]
theorem ent_sq {G:List (List Int)} {T:List Nat} {r c:Nat} (hr:r<T.length) (hc:c<T.length):ent (sqP G T T.length) r c=ent G (T.getD r 0) (T.getD c 0):=by
  unfold ent sqP sqQ
  rw [List.take_length]
  simp [hr,hc,ent]
theorem bnd_rp {G:List (List Int)} {H:List Int} {T:List Nat} {GM RM:Nat} (B:SlB G H T GM RM) (n:Nat):bnd T.length (rpP G H T n T.length) fun c=>if c=n then RM else GM:=by
  intro r c hr hc
  rw [ent_rp hr hc]
  simp only
  split
  · exact B.h _
  · exact B.g _ _
theorem prB_mono:∀ {n:Nat} {A B:Nat→Nat},(∀ c,c<n→A c≤B c)→prB n A≤prB n B
  | 0,_,_,_=>Nat.le_refl _
  | n+1,A,B,h=>Nat.mul_le_mul_left _ (Nat.mul_le_mul (h 0 (by omega)) (prB_mono fun c hc=>h (c+1) (by omega)))
theorem sq_mem {G:List (List Int)} {T:List Nat} {r:List Int} {i:Nat} (h:r ∈ sqP G T i):r.length=T.length:=by
  obtain ⟨k,_,rfl⟩:=List.mem_map.1 h
  exact sqQ_len _ _ _ (Nat.le_refl _)
theorem rp_mem {G:List (List Int)} {H:List Int} {T:List Nat} {r:List Int} {n i:Nat} (h:r ∈ rpP G H T n i):r.length=T.length:=by
  obtain ⟨k,_,rfl⟩:=List.mem_map.1 h
  rw [List.length_set]
  exact sqQ_len _ _ _ (Nat.le_refl _)
theorem det_sq {G:List (List Int)} {H:List Int} {T:List Nat} {GM RM:Nat} (B:SlB G H T GM RM):Sound Tryz.prog 184 [.sl (lls (sqP G T T.length))] (wdA (dtP T.length (sqP G T T.length)).1 (dtP T.length (sqP G T T.length)).2):=by
  refine determinant_s T.length _ (fun _=>GM) (by have:=B.tl;omega) (sqP_len _ _ (Nat.le_refl _)) (fun r hr=>by rw [sq_mem hr];have:=B.tl;omega) (bnd_sq B) (fun c _=>B.m.1) ?_ (fun c _=>by have:=B.m;omega)
  exact Nat.lt_of_le_of_lt (prB_mono fun c _=>B.m.2.1) B.b
theorem det_rp {G:List (List Int)} {H:List Int} {T:List Nat} {GM RM:Nat} (B:SlB G H T GM RM) (n:Nat):Sound Tryz.prog 184 [.sl (lls (rpP G H T n T.length))] (wdA (dtP T.length (rpP G H T n T.length)).1 (dtP T.length (rpP G H T n T.length)).2):=by
  have hm:=B.m
  refine determinant_s T.length _ (fun c=>if c=n then RM else GM) (by have:=B.tl;omega) (rpP_len _ _ _ _ (Nat.le_refl _)) (fun r hr=>by rw [rp_mem hr];have:=B.tl;omega) (bnd_rp B n) (fun c _=>by split <;> omega) ?_ (fun c _=>by split <;> omega)
  exact Nat.lt_of_le_of_lt (prB_mono fun c _=>by split <;> omega) B.b
set_option maxHeartbeats 4000000 in
theorem solved_s {G:List (List Int)} {H:List Int} {T:List Nat} {GM RM:Nat} (B:SlB G H T GM RM) :
    Sound Tryz.prog 94 [.agg [.sl (lls G),.sl (ints H)],.sl (ints (ntA T))] (.tup [wdA (dtP T.length (sqP G T T.length)).1 (dtP T.length (sqP G T T.length)).2,.sl (w2s (slP G H T T.length))]):=by
  refine sound_W f_pulse_problem_solved (Nat.le_of_ble_eq_true rfl) ?_
  have hmax:=maxLen_big
  have hD:=det_sq B
  have hR:=det_rp B
  obtain ⟨bg,bh,⟨bl1,bl2,bl3⟩,bt,btl,bm,bb⟩:=B
  obtain ⟨D,hDd⟩:∃ D,D=dtP T.length (sqP G T T.length):=⟨_,rfl⟩
  rw [← hDd] at hD ⊢
  have htb:∀ i (h:i<T.length),T[i]<H.length:=fun i h=>bt _ (List.getElem_mem h)
  have hgk:∀ k (h:k<H.length),∃ g:List Int,(lls G)[k]?=some (.sl (ints g))∧g.length=H.length∧∀ m (hm:m<H.length),(ints g)[m]?=some (.int .i64 (ent G k m)):=fun k h=>by
    refine ⟨G[k]'(by omega),lls_get G k (by omega),bl3 _ (List.getElem_mem _),fun m hm=>?_⟩
    have hlm:m<(G[k]'(by omega)).length:=by rw [bl3 _ (List.getElem_mem _)];exact hm
    rw [ints_get _ m hlm]
    unfold ent
    rw [List.getD_eq_getElem?_getD,List.getD_eq_getElem?_getD,List.getElem?_eq_getElem (show k<G.length by omega),Option.getD_some,List.getElem?_eq_getElem hlm];rfl
  unfold wdA at hD ⊢
  simp only [c_pulse_problem_solved,ntA_len,ints_length,vcV,vcD,Int.reduceEq,Int.reduceNe,Int.reduceLT,Int.reduceLE,Nat.reduceEqDiff,Nat.reduceAdd,reduceIte,reduceCtorEq,Nat.reduceLT,Nat.reduceLeDiff,eq_self,vcP2,Nat.reduceShiftRight,Nat.reduceMod]
  refine W_loop (t:=.mk) (α:=PSigma fun i:Nat=>i≤T.length) (fun ⟨i,_⟩=>(envOf [(1,.sl (ints (ntA T))),(2,.ptr 2 0 0),(4,.ptr 4 0 0),(5,.nils),(6,.buf 100 i),(17,.sl (ints (ntA T))),(18,.int .i64 T.length),(19,.int .i64 i)],stOf [(2,⟨151,2,[.agg [.sl (lls G),.sl (ints H)]]⟩),(4,⟨157,3,[.agg [.bool false,.int .u64 0,.int .u64 0]]⟩),(100,⟨22,1,lls (sqP G T i)⟩)])) (fun x=>T.length - x.1) ⟨0,Nat.zero_le _⟩ ?_ (fun ⟨i,hiS⟩=>?_)
  · have z:lls (sqP G T 0)=[]:=rfl
    refine weakX [(100,none)] (of_decide_eq_true rfl) (of_decide_eq_true rfl) ?_
    (simp only [z,vcW,vcV,vcD,Int.reduceEq,Int.reduceNe,Int.reduceLT,Int.reduceLE,Nat.reduceEqDiff,Nat.reduceAdd,reduceIte,reduceCtorEq,Nat.reduceLT,Nat.reduceLeDiff,eq_self,vcP2,Nat.reduceShiftRight,Nat.reduceMod])
    (repeat' first | exact trivial | (with_reducible first | exact RnB.fxB (ints_fxB _) | rfl | refine And.intro ?_ ?_) | (with_reducible (first | refine RnB.bb ?_ | refine RnB.nb ?_);simp only [vcW,vcV,vcD,Int.reduceEq,Int.reduceNe,Int.reduceLT,Int.reduceLE,Nat.reduceEqDiff,Nat.reduceAdd,reduceIte,reduceCtorEq,Nat.reduceLT,Nat.reduceLeDiff,eq_self,vcP2,Nat.reduceShiftRight,Nat.reduceMod]) | (with_reducible first | refine RnB.ii ?_ | refine RnB.app ?_) | (with_reducible refine RnB.fxB ?_;simp only [vcW,vcV,vcD,Int.reduceEq,Int.reduceNe,Int.reduceLT,Int.reduceLE,Nat.reduceEqDiff,Nat.reduceAdd,reduceIte,reduceCtorEq,Nat.reduceLT,Nat.reduceLeDiff,eq_self,vcP2,Nat.reduceShiftRight,Nat.reduceMod]) | omega)
  · dsimp only at hiS ⊢
    by_cases h':i<T.length
    · have hc1:(i:Int)<T.length:=by omega
      obtain ⟨g,hg1,hg2,hg3⟩:=hgk T[i] (htb i h')
      simp only [hc1,ntA_get T i h',vcV,vcD,Int.reduceEq,Int.reduceNe,Int.reduceLT,Int.reduceLE,Nat.reduceEqDiff,Nat.reduceAdd,reduceIte,reduceCtorEq,Nat.reduceLT,Nat.reduceLeDiff,eq_self,vcP2,Nat.reduceShiftRight,Nat.reduceMod]
      (repeat (with_reducible refine And.intro ?_ ?_;focus (first | omega | (unfold I64;omega))))
      refine W_loop (t:=.mk) (α:=PSigma fun j:Nat=>j≤T.length) (fun ⟨j,_⟩=>(envOf [(1,.sl (ints (ntA T))),(2,.ptr 2 0 0),(4,.ptr 4 0 0),(5,.nils),(6,.buf 100 i),(8,.int .i64 (T[i]:Int)),(9,.buf 101 j),(17,.sl (ints (ntA T))),(18,.int .i64 T.length),(19,.int .i64 i),(23,.sl (ints (ntA T))),(24,.int .i64 T.length),(25,.int .i64 j)],stOf [(2,⟨151,2,[.agg [.sl (lls G),.sl (ints H)]]⟩),(4,⟨157,3,[.agg [.bool false,.int .u64 0,.int .u64 0]]⟩),(100,⟨22,1,lls (sqP G T i)⟩),(101,⟨3,1,ints (sqQ G T T[i] j)⟩)])) (fun x=>T.length - x.1) ⟨0,Nat.zero_le _⟩ ?_ (fun ⟨j,hjS⟩=>?_)
      · have z:ints (sqQ G T T[i] 0)=[]:=rfl
        refine weakX [(101,none)] (of_decide_eq_true rfl) (of_decide_eq_true rfl) ?_
        (simp only [z,ints_length,ntA_len,vcW,vcV,vcD,Int.reduceEq,Int.reduceNe,Int.reduceLT,Int.reduceLE,Nat.reduceEqDiff,Nat.reduceAdd,reduceIte,reduceCtorEq,Nat.reduceLT,Nat.reduceLeDiff,eq_self,vcP2,Nat.reduceShiftRight,Nat.reduceMod])
        repeat' (with_reducible refine And.intro ?_ ?_)
        try any_goals (with_reducible exact RnB.fxB (lls_fxB _))
        (repeat' first | exact trivial | (with_reducible first | exact RnB.fxB (ints_fxB _) | rfl | refine And.intro ?_ ?_) | (with_reducible (first | refine RnB.bb ?_ | refine RnB.nb ?_);simp only [vcW,vcV,vcD,Int.reduceEq,Int.reduceNe,Int.reduceLT,Int.reduceLE,Nat.reduceEqDiff,Nat.reduceAdd,reduceIte,reduceCtorEq,Nat.reduceLT,Nat.reduceLeDiff,eq_self,vcP2,Nat.reduceShiftRight,Nat.reduceMod]) | (with_reducible first | refine RnB.ii ?_ | refine RnB.app ?_) | (with_reducible refine RnB.fxB ?_;simp only [vcW,vcV,vcD,Int.reduceEq,Int.reduceNe,Int.reduceLT,Int.reduceLE,Nat.reduceEqDiff,Nat.reduceAdd,reduceIte,reduceCtorEq,Nat.reduceLT,Nat.reduceLeDiff,eq_self,vcP2,Nat.reduceShiftRight,Nat.reduceMod]) | omega)
      · dsimp only at hjS ⊢
        by_cases h2:j<T.length
        · have hc2:(j:Int)<T.length:=by omega
          have hs:=sqQ_succ G T T[i] h2
          have hsl:=sqQ_len G T T[i] (j:=j) (by omega)
          have hgm:=hg3 T[j] (htb j h2)
          simp only [hc2,ntA_get T j h2,hg1,hgm,ints_length,hsl,vcV,vcD,Int.reduceEq,Int.reduceNe,Int.reduceLT,Int.reduceLE,Nat.reduceEqDiff,Nat.reduceAdd,reduceIte,reduceCtorEq,Nat.reduceLT,Nat.reduceLeDiff,eq_self,vcP2,Nat.reduceShiftRight,Nat.reduceMod]
          refine ⟨by omega,by omega,by omega,⟨by omega,by omega⟩,by unfold I64;omega,⟨j+1,h2⟩,by simp only;omega,?_⟩
          refine weakX [(101,some 39)] (of_decide_eq_true rfl) (of_decide_eq_true rfl) ?_
          (simp only [hs,vcW,vcV,vcD,Int.reduceEq,Int.reduceNe,Int.reduceLT,Int.reduceLE,Nat.reduceEqDiff,Nat.reduceAdd,reduceIte,reduceCtorEq,Nat.reduceLT,Nat.reduceLeDiff,eq_self,vcP2,Nat.reduceShiftRight,Nat.reduceMod])
          repeat' (with_reducible refine And.intro ?_ ?_)
          try any_goals (with_reducible exact RnB.fxB (lls_fxB _))
          (repeat' first | exact trivial | (with_reducible first | exact RnB.fxB (ints_fxB _) | rfl | refine And.intro ?_ ?_) | (with_reducible (first | refine RnB.bb ?_ | refine RnB.nb ?_);simp only [vcW,vcV,vcD,Int.reduceEq,Int.reduceNe,Int.reduceLT,Int.reduceLE,Nat.reduceEqDiff,Nat.reduceAdd,reduceIte,reduceCtorEq,Nat.reduceLT,Nat.reduceLeDiff,eq_self,vcP2,Nat.reduceShiftRight,Nat.reduceMod]) | (with_reducible first | refine RnB.ii ?_ | refine RnB.app ?_) | (with_reducible refine RnB.fxB ?_;simp only [vcW,vcV,vcD,Int.reduceEq,Int.reduceNe,Int.reduceLT,Int.reduceLE,Nat.reduceEqDiff,Nat.reduceAdd,reduceIte,reduceCtorEq,Nat.reduceLT,Nat.reduceLeDiff,eq_self,vcP2,Nat.reduceShiftRight,Nat.reduceMod]) | omega)
        · have hjl:j=T.length:=by omega
          subst hjl
          have hc2:¬ (T.length:Int)<T.length:=by omega
          have hs:=sqP_succ G T h'
          simp only [hc2,vcV,vcD,Int.reduceEq,Int.reduceNe,Int.reduceLT,Int.reduceLE,Nat.reduceEqDiff,Nat.reduceAdd,reduceIte,reduceCtorEq,Nat.reduceLT,Nat.reduceLeDiff,eq_self,vcP2,Nat.reduceShiftRight,Nat.reduceMod]
          refine ⟨⟨by rw [lls_length,sqP_len _ _ hiS],by omega,by omega⟩,by unfold I64;omega,⟨i+1,h'⟩,by simp only;omega,?_⟩
          refine weakX [(100,some 44)] (of_decide_eq_true rfl) (of_decide_eq_true rfl) ?_
          (simp only [vcW,vcV,vcD,Int.reduceEq,Int.reduceNe,Int.reduceLT,Int.reduceLE,Nat.reduceEqDiff,Nat.reduceAdd,reduceIte,reduceCtorEq,Nat.reduceLT,Nat.reduceLeDiff,eq_self,vcP2,Nat.reduceShiftRight,Nat.reduceMod])
          repeat' (with_reducible refine And.intro ?_ ?_)
          try any_goals exact RnB.snocZ (k:=101) rfl (by rw [sqQ_len _ _ _ (Nat.le_refl _)]) (keyOf_ne rfl) (by rw [hs])
          (repeat' first | exact trivial | (with_reducible first | exact RnB.fxB (ints_fxB _) | rfl | refine And.intro ?_ ?_) | (with_reducible (first | refine RnB.bb ?_ | refine RnB.nb ?_);simp only [vcW,vcV,vcD,Int.reduceEq,Int.reduceNe,Int.reduceLT,Int.reduceLE,Nat.reduceEqDiff,Nat.reduceAdd,reduceIte,reduceCtorEq,Nat.reduceLT,Nat.reduceLeDiff,eq_self,vcP2,Nat.reduceShiftRight,Nat.reduceMod]) | (with_reducible first | refine RnB.ii ?_ | refine RnB.app ?_) | (with_reducible refine RnB.fxB ?_;simp only [vcW,vcV,vcD,Int.reduceEq,Int.reduceNe,Int.reduceLT,Int.reduceLE,Nat.reduceEqDiff,Nat.reduceAdd,reduceIte,reduceCtorEq,Nat.reduceLT,Nat.reduceLeDiff,eq_self,vcP2,Nat.reduceShiftRight,Nat.reduceMod]) | omega)
    · have hil:i=T.length:=by omega
      subst hil
      have hc1:¬ (T.length:Int)<T.length:=by omega
      simp only [hc1,vcV,vcD,Int.reduceEq,Int.reduceNe,Int.reduceLT,Int.reduceLE,Nat.reduceEqDiff,Nat.reduceAdd,reduceIte,reduceCtorEq,Nat.reduceLT,Nat.reduceLeDiff,eq_self,vcP2,Nat.reduceShiftRight,Nat.reduceMod]
      rw [borB_good _ _ _ _ _ (by rw [lls_length,sqP_len _ _ (Nat.le_refl _)]) (List.all_eq_true.1 (lls_fxB _))]
      refine callS_of hD ?_
      simp only [ints_length,vcV,vcD,Int.reduceEq,Int.reduceNe,Int.reduceLT,Int.reduceLE,Nat.reduceEqDiff,Nat.reduceAdd,reduceIte,reduceCtorEq,Nat.reduceLT,Nat.reduceLeDiff,eq_self,vcP2,Nat.reduceShiftRight,Nat.reduceMod]
      refine ⟨usedL_buf rfl (lls_immT _ _) rfl,⟨by omega,by omega,by omega⟩,mkOk_w _,?_⟩
      rw [w2s_zero]
      have hslP:=slP_len G H T
      refine W_loop (t:=.mk) (α:=PSigma fun n:Nat=>n≤T.length) (fun ⟨n,_⟩=>(envOf [(1,.sl (ints (ntA T))),(2,.ptr 2 0 0),(4,.ptr 4 0 0),(5,.buf 101 H.length),(6,.buf 100 T.length),(52,.sl (ints (ntA T))),(53,.int .i64 T.length),(54,.int .i64 n)],stOf [(2,⟨151,2,[.agg [.sl (lls G),.sl (ints H)]]⟩),(4,⟨157,3,[wdA D.1 D.2]⟩),(100,⟨22,1,lls (sqP G T T.length)⟩),(101,⟨157,3,w2s (slP G H T n)⟩)])) (fun x=>T.length - x.1) ⟨0,Nat.zero_le _⟩ ?_ (fun ⟨n,hnT⟩=>?_)
      · have z:w2s (slP G H T 0)=w2s (List.replicate H.length (false,0)):=rfl
        refine weakX [(100,some 100),(101,some 51)] (of_decide_eq_true rfl) (of_decide_eq_true rfl) ?_
        (simp only [z,wdA,ntA_len,ints_length,vcW,vcV,vcD,Int.reduceEq,Int.reduceNe,Int.reduceLT,Int.reduceLE,Nat.reduceEqDiff,Nat.reduceAdd,reduceIte,reduceCtorEq,Nat.reduceLT,Nat.reduceLeDiff,eq_self,vcP2,Nat.reduceShiftRight,Nat.reduceMod])
        repeat' (with_reducible refine And.intro ?_ ?_)
        try any_goals (with_reducible exact RnB.fxB (lls_fxB _))
        try any_goals (with_reducible exact RnB.fxB (w2s_fxB _))
        (repeat' first | exact trivial | (with_reducible first | exact RnB.fxB (ints_fxB _) | rfl | refine And.intro ?_ ?_) | (with_reducible (first | refine RnB.bb ?_ | refine RnB.nb ?_);simp only [vcW,vcV,vcD,Int.reduceEq,Int.reduceNe,Int.reduceLT,Int.reduceLE,Nat.reduceEqDiff,Nat.reduceAdd,reduceIte,reduceCtorEq,Nat.reduceLT,Nat.reduceLeDiff,eq_self,vcP2,Nat.reduceShiftRight,Nat.reduceMod]) | (with_reducible first | refine RnB.ii ?_ | refine RnB.app ?_) | (with_reducible refine RnB.fxB ?_;simp only [vcW,vcV,vcD,Int.reduceEq,Int.reduceNe,Int.reduceLT,Int.reduceLE,Nat.reduceEqDiff,Nat.reduceAdd,reduceIte,reduceCtorEq,Nat.reduceLT,Nat.reduceLeDiff,eq_self,vcP2,Nat.reduceShiftRight,Nat.reduceMod]) | omega)
      · dsimp only at hnT ⊢
        by_cases h3:n<T.length
        · have hc3:(n:Int)<T.length:=by omega
          unfold wdA
          simp only [hc3,ntA_get T n h3,vcV,vcD,Int.reduceEq,Int.reduceNe,Int.reduceLT,Int.reduceLE,Nat.reduceEqDiff,Nat.reduceAdd,reduceIte,reduceCtorEq,Nat.reduceLT,Nat.reduceLeDiff,eq_self,vcP2,Nat.reduceShiftRight,Nat.reduceMod]
          (repeat (with_reducible refine And.intro ?_ ?_;focus (first | omega | (unfold I64;omega))))
          refine W_loop (t:=.mk) (α:=PSigma fun i:Nat=>i≤T.length) (fun ⟨i,_⟩=>(envOf [(1,.sl (ints (ntA T))),(2,.ptr 2 0 0),(4,.ptr 4 0 0),(5,.buf 101 H.length),(6,.buf 100 T.length),(12,.int .i64 n),(13,.int .i64 (T[n]:Int)),(14,.buf 102 i),(52,.sl (ints (ntA T))),(53,.int .i64 T.length),(54,.int .i64 n),(59,.buf 100 T.length),(60,.int .i64 T.length),(61,.int .i64 i)],stOf [(2,⟨151,2,[.agg [.sl (lls G),.sl (ints H)]]⟩),(4,⟨157,3,[wdA D.1 D.2]⟩),(100,⟨22,1,lls (sqP G T T.length)⟩),(101,⟨157,3,w2s (slP G H T n)⟩),(102,⟨22,1,lls (rpP G H T n i)⟩)])) (fun x=>T.length - x.1) ⟨0,Nat.zero_le _⟩ ?_ (fun ⟨i,hiT⟩=>?_)
          · have z:lls (rpP G H T n 0)=[]:=rfl
            refine weakX [(102,none)] (of_decide_eq_true rfl) (of_decide_eq_true rfl) ?_
            (simp only [z,wdA,vcW,vcV,vcD,Int.reduceEq,Int.reduceNe,Int.reduceLT,Int.reduceLE,Nat.reduceEqDiff,Nat.reduceAdd,reduceIte,reduceCtorEq,Nat.reduceLT,Nat.reduceLeDiff,eq_self,vcP2,Nat.reduceShiftRight,Nat.reduceMod])
            repeat' (with_reducible refine And.intro ?_ ?_)
            try any_goals (with_reducible exact RnB.fxB (lls_fxB _))
            try any_goals (with_reducible exact RnB.fxB (w2s_fxB _))
            (repeat' first | exact trivial | (with_reducible first | exact RnB.fxB (ints_fxB _) | rfl | refine And.intro ?_ ?_) | (with_reducible (first | refine RnB.bb ?_ | refine RnB.nb ?_);simp only [vcW,vcV,vcD,Int.reduceEq,Int.reduceNe,Int.reduceLT,Int.reduceLE,Nat.reduceEqDiff,Nat.reduceAdd,reduceIte,reduceCtorEq,Nat.reduceLT,Nat.reduceLeDiff,eq_self,vcP2,Nat.reduceShiftRight,Nat.reduceMod]) | (with_reducible first | refine RnB.ii ?_ | refine RnB.app ?_) | (with_reducible refine RnB.fxB ?_;simp only [vcW,vcV,vcD,Int.reduceEq,Int.reduceNe,Int.reduceLT,Int.reduceLE,Nat.reduceEqDiff,Nat.reduceAdd,reduceIte,reduceCtorEq,Nat.reduceLT,Nat.reduceLeDiff,eq_self,vcP2,Nat.reduceShiftRight,Nat.reduceMod]) | omega)
          · dsimp only at hiT ⊢
            by_cases h4:i<T.length
            · have hc4:(i:Int)<T.length:=by omega
              have hsl:(sqP G T T.length).length=T.length:=sqP_len _ _ (Nat.le_refl _)
              have hrow:(lls (sqP G T T.length))[i]?=some (.sl (ints (sqQ G T T[i] T.length))):=by
                rw [lls_get _ i (by omega)];simp [sqP]
              have hql:=sqQ_len G T T[i] (Nat.le_refl T.length)
              have hti:=htb i h4
              have hHd:H.getD T[i] 0=H[T[i]]:=getD_at _
              have hHg:(ints H)[T[i]]?=some (.int .i64 H[T[i]]):=ints_get H _ hti
              rw [← hHd] at hHg
              have hC:=Clone_o (sqQ G T T[i] T.length) (by omega)
              have hset:(ints (sqQ G T T[i] T.length)).set n (.int .i64 (H.getD T[i] 0))=ints ((sqQ G T T[i] T.length).set n (H.getD T[i] 0)):=ints_st _ _ _
              have hng:=ints_get (sqQ G T T[i] T.length) n (by omega)
              have hs:=rpP_succ G H T n h4
              have hrl:=rpP_len G H T n hiT
              unfold wdA
              simp only [hc4,hrow,lls_length,hsl,vcV,vcD,Int.reduceEq,Int.reduceNe,Int.reduceLT,Int.reduceLE,Nat.reduceEqDiff,Nat.reduceAdd,reduceIte,reduceCtorEq,Nat.reduceLT,Nat.reduceLeDiff,eq_self,vcP2,Nat.reduceShiftRight,Nat.reduceMod]
              refine ⟨⟨by omega,Nat.le_refl _⟩,?_⟩
              refine callS_own hC rfl ?_
              have hil':((ints (sqQ G T T[i] T.length)).length:Nat)=T.length:=by rw [ints_length];exact hql
              simp only [hql,ownS_ints,hil',ntA_get T i h4,hHg,hng,hset,vcV,vcD,Int.reduceEq,Int.reduceNe,Int.reduceLT,Int.reduceLE,Nat.reduceEqDiff,Nat.reduceAdd,reduceIte,reduceCtorEq,Nat.reduceLT,Nat.reduceLeDiff,eq_self,vcP2,Nat.reduceShiftRight,Nat.reduceMod]
              refine ⟨by omega,by omega,⟨by omega,by omega,Nat.le_refl _⟩,⟨by rw [lls_length,hrl],by omega,by omega⟩,by unfold I64;omega,⟨i+1,h4⟩,by simp only;omega,?_⟩
              refine weakX [(102,some 82)] (of_decide_eq_true rfl) (of_decide_eq_true rfl) ?_
              (simp only [wdA,vcW,vcV,vcD,Int.reduceEq,Int.reduceNe,Int.reduceLT,Int.reduceLE,Nat.reduceEqDiff,Nat.reduceAdd,reduceIte,reduceCtorEq,Nat.reduceLT,Nat.reduceLeDiff,eq_self,vcP2,Nat.reduceShiftRight,Nat.reduceMod])
              repeat' (with_reducible refine And.intro ?_ ?_)
              try any_goals (with_reducible exact RnB.fxB (lls_fxB _))
              try any_goals (with_reducible exact RnB.fxB (w2s_fxB _))
              try any_goals exact RnB.snocZ (k:=67) rfl (by rw [List.length_set];exact hql.symm) (keyOf_ne rfl) (by rw [hs])
              (repeat' first | exact trivial | (with_reducible first | exact RnB.fxB (ints_fxB _) | rfl | refine And.intro ?_ ?_) | (with_reducible (first | refine RnB.bb ?_ | refine RnB.nb ?_);simp only [vcW,vcV,vcD,Int.reduceEq,Int.reduceNe,Int.reduceLT,Int.reduceLE,Nat.reduceEqDiff,Nat.reduceAdd,reduceIte,reduceCtorEq,Nat.reduceLT,Nat.reduceLeDiff,eq_self,vcP2,Nat.reduceShiftRight,Nat.reduceMod]) | (with_reducible first | refine RnB.ii ?_ | refine RnB.app ?_) | (with_reducible refine RnB.fxB ?_;simp only [vcW,vcV,vcD,Int.reduceEq,Int.reduceNe,Int.reduceLT,Int.reduceLE,Nat.reduceEqDiff,Nat.reduceAdd,reduceIte,reduceCtorEq,Nat.reduceLT,Nat.reduceLeDiff,eq_self,vcP2,Nat.reduceShiftRight,Nat.reduceMod]) | omega)
              all_goals trace_state
            · have hil:i=T.length:=by omega
              subst hil
              have hc4:¬ (T.length:Int)<T.length:=by omega
              have hR':=hR n
              have hnx:slP G H T (n+1)=(slP G H T n).set T[n] (dtP T.length (rpP G H T n T.length)):=by
                rw [slP,List.getD_eq_getElem?_getD,List.getElem?_eq_getElem h3];rfl
              obtain ⟨E,hE⟩:∃ E,E=dtP T.length (rpP G H T n T.length):=⟨_,rfl⟩
              rw [← hE] at hnx hR'
              unfold wdA at hR' ⊢
              simp only [hc4,vcV,vcD,Int.reduceEq,Int.reduceNe,Int.reduceLT,Int.reduceLE,Nat.reduceEqDiff,Nat.reduceAdd,reduceIte,reduceCtorEq,Nat.reduceLT,Nat.reduceLeDiff,eq_self,vcP2,Nat.reduceShiftRight,Nat.reduceMod]
              rw [borB_good _ _ _ _ _ (by rw [lls_length,rpP_len _ _ _ _ (Nat.le_refl _)]) (List.all_eq_true.1 (lls_fxB _))]
              refine callS_of hR' ?_
              have hwl:(w2s (slP G H T n)).length=H.length:=by rw [w2s_length];exact hslP n
              have htn:=htb n h3
              have hel:=w2s_get (slP G H T n) T[n] (by rw [hslP n];exact htn)
              have hst:=w2s_set (slP G H T n) T[n] E
              rw [← hnx] at hst
              unfold wdA at hel hst
              simp only [hwl,hel,hst,vcV,vcD,Int.reduceEq,Int.reduceNe,Int.reduceLT,Int.reduceLE,Nat.reduceEqDiff,Nat.reduceAdd,reduceIte,reduceCtorEq,Nat.reduceLT,Nat.reduceLeDiff,eq_self,vcP2,Nat.reduceShiftRight,Nat.reduceMod]
              refine ⟨⟨by omega,by omega,Nat.le_refl _⟩,by unfold I64;omega,⟨n+1,h3⟩,by simp only;omega,?_⟩
              refine weakX [(100,some 100),(101,some 101)] (of_decide_eq_true rfl) (of_decide_eq_true rfl) ?_
              (simp only [wdA,vcW,vcV,vcD,Int.reduceEq,Int.reduceNe,Int.reduceLT,Int.reduceLE,Nat.reduceEqDiff,Nat.reduceAdd,reduceIte,reduceCtorEq,Nat.reduceLT,Nat.reduceLeDiff,eq_self,vcP2,Nat.reduceShiftRight,Nat.reduceMod])
              repeat' (with_reducible refine And.intro ?_ ?_)
              try any_goals (with_reducible exact RnB.fxB (lls_fxB _))
              try any_goals (with_reducible exact RnB.fxB (w2s_fxB _))
              (repeat' first | exact trivial | (with_reducible first | exact RnB.fxB (ints_fxB _) | rfl | refine And.intro ?_ ?_) | (with_reducible (first | refine RnB.bb ?_ | refine RnB.nb ?_);simp only [vcW,vcV,vcD,Int.reduceEq,Int.reduceNe,Int.reduceLT,Int.reduceLE,Nat.reduceEqDiff,Nat.reduceAdd,reduceIte,reduceCtorEq,Nat.reduceLT,Nat.reduceLeDiff,eq_self,vcP2,Nat.reduceShiftRight,Nat.reduceMod]) | (with_reducible first | refine RnB.ii ?_ | refine RnB.app ?_) | (with_reducible refine RnB.fxB ?_;simp only [vcW,vcV,vcD,Int.reduceEq,Int.reduceNe,Int.reduceLT,Int.reduceLE,Nat.reduceEqDiff,Nat.reduceAdd,reduceIte,reduceCtorEq,Nat.reduceLT,Nat.reduceLeDiff,eq_self,vcP2,Nat.reduceShiftRight,Nat.reduceMod]) | omega)
              all_goals trace_state
        · have hnl:n=T.length:=by omega
          subst hnl
          have hc3:¬ (T.length:Int)<T.length:=by omega
          unfold wdA
          simp only [hc3,vcV,vcD,Int.reduceEq,Int.reduceNe,Int.reduceLT,Int.reduceLE,Nat.reduceEqDiff,Nat.reduceAdd,reduceIte,reduceCtorEq,Nat.reduceLT,Nat.reduceLeDiff,eq_self,vcP2,Nat.reduceShiftRight,Nat.reduceMod]
          rw [borB_good _ _ _ _ _ (by rw [w2s_length,hslP]) (List.all_eq_true.1 (w2s_fxB _))]
end Go.Proofs.YtgmpcbpmnimkoaaGreatDoor

