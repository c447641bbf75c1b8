/- The contract of CheckCover, where it accepts. By an AI agent; nothing here is trusted. -/
import Derived.Test.YtoiajhogondgcaaConTopTrackTwoWaysB
import Derived.Test.YtoiajhogondgcaaLayD
import Derived.Test.YtoiajhogondgcaaKode
import Derived.Test.YtoiajhogondgcaaLayC
import Derived.Test.YtoiajhogondgcaaConTopTrackTwoWaysA
set_option linter.defProp false
set_option linter.unusedSimpArgs false
set_option linter.unusedVariables false
namespace Go.Proofs.Ytoiajhogondgcaa
open Go.Av

theorem fx1_immL:∀ {caps:List AV},(∀ c ∈ caps,fx1 c=true)→immL caps=true
 | [],_=>rfl
 | c :: r,h=>by
  have ih:=fx1_immL (caps:=r) fun x hx=>h x (List.mem_cons_of_mem _ hx)
  have h0:=h c List.mem_cons_self
  cases c <;> simp [fx1] at h0 <;> simp [immL,ih]
theorem idxFunc_box_s (l:List TB) (f:FuncId) (caps:List AV) (p:TB→Bool) (hl:l.length<4000000000000000000) (hc:∀ c ∈ caps,fx1 c=true)
  (hp:∀ x ∈ l,Sound Try.prog f (x.av :: caps) (.bool (p x))):Sound Try.prog 47 [.sl (boxesL l),.fn f caps] (.int .i64 (idxOf l p)):=by
 refine sound_W f_slices_IndexFunc_api_TrackBox_api_TrackBox (Nat.le_of_ble_eq_true rfl) ?_
 simp only [c_slices_IndexFunc_api_TrackBox_api_TrackBox,boxesL_length,vZ,Int.reduceEq,Int.reduceNe,Int.reduceLT,Int.reduceLE,Nat.reduceEqDiff,Nat.reduceAdd,reduceIte,reduceCtorEq,Nat.reduceLT,Nat.reduceLeDiff,Nat.reduceShiftRight,Nat.reduceMod]
 refine W_loop (t:=.mk) (α:=PSigma fun i:Nat=>i≤l.length∧∀ x ∈ l.take i,p x=false) (fun i=>(envOf [(0,.sl (boxesL l)),(1,.fn f caps),(6,.sl (boxesL l)),(7,.int .i64 l.length),(8,.int .i64 i.1)],stOf [])) (fun i=>l.length - i.1) ⟨0,by simp⟩ ?_ (fun ⟨i,hi,hn⟩=>?_)
 ·have himm:=fx1_immL hc
  refine weakX [] (of_decide_eq_true rfl) (of_decide_eq_true rfl) ?_
  (simp only [himm,vcW,vZ,Int.reduceEq,Int.reduceNe,Int.reduceLT,Int.reduceLE,Nat.reduceEqDiff,Nat.reduceAdd,reduceIte,reduceCtorEq,Nat.reduceLT,Nat.reduceLeDiff,Nat.reduceShiftRight,Nat.reduceMod])
  (repeat' first | exact trivial | (with_reducible first | exact RnB.fxB (ints_fxB _) | rfl | refine And.intro ?_ ?_) | (with_reducible (first | refine RnB.bb ?_ | refine RnB.nb ?_);simp only [vcW,vZ,Int.reduceEq,Int.reduceNe,Int.reduceLT,Int.reduceLE,Nat.reduceEqDiff,Nat.reduceAdd,reduceIte,reduceCtorEq,Nat.reduceLT,Nat.reduceLeDiff,Nat.reduceShiftRight,Nat.reduceMod]) | (with_reducible first | refine RnB.ii ?_ | refine RnB.app ?_) | (with_reducible refine RnB.fxB ?_;simp only [vcW,vZ,Int.reduceEq,Int.reduceNe,Int.reduceLT,Int.reduceLE,Nat.reduceEqDiff,Nat.reduceAdd,reduceIte,reduceCtorEq,Nat.reduceLT,Nat.reduceLeDiff,Nat.reduceShiftRight,Nat.reduceMod]) | omega)
 ·simp only [vZ,Int.reduceEq,Int.reduceNe,Int.reduceLT,Int.reduceLE,Nat.reduceEqDiff,Nat.reduceAdd,reduceIte,reduceCtorEq,Nat.reduceLT,Nat.reduceLeDiff,Nat.reduceShiftRight,Nat.reduceMod]
  refine brB_split (fun h=>?_) (fun h=>?_)
  ·have h':i<l.length:=by (simp only [decide_eq_true_eq,decide_eq_false_iff_not,Bool.not_true,I64,Bool.not_eq_true',Bool.not_eq_false',bne_iff_ne,beq_iff_eq,ne_eq] at *;omega)
   clear h
   have hg:=boxesL_get l i h'
   have hpx:=hp _ (List.getElem_mem h')
   unfold TB.av at hg hpx
   simp only [hg,vZ,Int.reduceEq,Int.reduceNe,Int.reduceLT,Int.reduceLE,Nat.reduceEqDiff,Nat.reduceAdd,reduceIte,reduceCtorEq,Nat.reduceLT,Nat.reduceLeDiff,Nat.reduceShiftRight,Nat.reduceMod]
   (repeat (with_reducible refine And.intro ?_ ?_;focus (first | omega | (unfold I64;omega))))
   simp only [List.map_append,List.cons_append,List.nil_append,map_fx1 hc,vZ,Int.reduceEq,Int.reduceNe,Int.reduceLT,Int.reduceLE,Nat.reduceEqDiff,Nat.reduceAdd,reduceIte,reduceCtorEq,Nat.reduceLT,Nat.reduceLeDiff,Nat.reduceShiftRight,Nat.reduceMod]
   refine callS_of hpx ?_
   simp only [vZ,Int.reduceEq,Int.reduceNe,Int.reduceLT,Int.reduceLE,Nat.reduceEqDiff,Nat.reduceAdd,reduceIte,reduceCtorEq,Nat.reduceLT,Nat.reduceLeDiff,Nat.reduceShiftRight,Nat.reduceMod]
   refine brB_split (fun h=>?_) (fun h=>?_)
   ·simp only [vZ,Int.reduceEq,Int.reduceNe,Int.reduceLT,Int.reduceLE,Nat.reduceEqDiff,Nat.reduceAdd,reduceIte,reduceCtorEq,Nat.reduceLT,Nat.reduceLeDiff,Nat.reduceShiftRight,Nat.reduceMod]
    have hs:l.findIdx? p=some i:=by
     rw [List.findIdx?_eq_some_iff_getElem]
     refine ⟨h',h,fun j hj=>?_⟩
     have:=hn l[j] (by rw [List.mem_take_iff_getElem];exact ⟨j,by omega,rfl⟩)
     simp [this]
    simp [idxOf,hs]
   ·simp only [vZ,Int.reduceEq,Int.reduceNe,Int.reduceLT,Int.reduceLE,Nat.reduceEqDiff,Nat.reduceAdd,reduceIte,reduceCtorEq,Nat.reduceLT,Nat.reduceLeDiff,Nat.reduceShiftRight,Nat.reduceMod]
    (repeat (with_reducible refine And.intro ?_ ?_;focus (first | omega | (unfold I64;omega))))
    refine ⟨⟨i+1,h',?_⟩,by simp only;omega,?_⟩
    ·rw [List.take_succ_eq_append_getElem h']
     intro x hx
     rcases List.mem_append.1 hx with hx | hx
     ·exact hn x hx
     ·simp at hx;rw [hx];exact h
    ·have himm:=fx1_immL hc
     refine weakX [] (of_decide_eq_true rfl) (of_decide_eq_true rfl) ?_
     (simp only [himm,vcW,vZ,Int.reduceEq,Int.reduceNe,Int.reduceLT,Int.reduceLE,Nat.reduceEqDiff,Nat.reduceAdd,reduceIte,reduceCtorEq,Nat.reduceLT,Nat.reduceLeDiff,Nat.reduceShiftRight,Nat.reduceMod])
     (repeat' first | exact trivial | (with_reducible first | exact RnB.fxB (ints_fxB _) | rfl | refine And.intro ?_ ?_) | (with_reducible (first | refine RnB.bb ?_ | refine RnB.nb ?_);simp only [vcW,vZ,Int.reduceEq,Int.reduceNe,Int.reduceLT,Int.reduceLE,Nat.reduceEqDiff,Nat.reduceAdd,reduceIte,reduceCtorEq,Nat.reduceLT,Nat.reduceLeDiff,Nat.reduceShiftRight,Nat.reduceMod]) | (with_reducible first | refine RnB.ii ?_ | refine RnB.app ?_) | (with_reducible refine RnB.fxB ?_;simp only [vcW,vZ,Int.reduceEq,Int.reduceNe,Int.reduceLT,Int.reduceLE,Nat.reduceEqDiff,Nat.reduceAdd,reduceIte,reduceCtorEq,Nat.reduceLT,Nat.reduceLeDiff,Nat.reduceShiftRight,Nat.reduceMod]) | omega)
  ·simp only [vZ,Int.reduceEq,Int.reduceNe,Int.reduceLT,Int.reduceLE,Nat.reduceEqDiff,Nat.reduceAdd,reduceIte,reduceCtorEq,Nat.reduceLT,Nat.reduceLeDiff,Nat.reduceShiftRight,Nat.reduceMod]
   have:i=l.length:=by (simp only [decide_eq_true_eq,decide_eq_false_iff_not,Bool.not_true,I64,Bool.not_eq_true',Bool.not_eq_false',bne_iff_ne,beq_iff_eq,ne_eq] at *;omega)
   subst this
   rw [List.take_length] at hn
   have hs:l.findIdx? p=none:=List.findIdx?_eq_none_iff.2 hn
   simp [idxOf,hs]
theorem contFunc_box_s (l:List TB) (f:FuncId) (caps:List AV) (p:TB→Bool) (hl:l.length<4000000000000000000) (hc:∀ c ∈ caps,fx1 c=true)
  (hp:∀ x ∈ l,Sound Try.prog f (x.av :: caps) (.bool (p x))):Sound Try.prog 46 [.sl (boxesL l),.fn f caps] (.bool (l.any p)):=by
 refine sound_W f_slices_ContainsFunc_api_TrackBox_api_TrackBox (Nat.le_of_ble_eq_true rfl) ?_
 simp only [c_slices_ContainsFunc_api_TrackBox_api_TrackBox,map_fx1 hc,vcC,Int.reduceEq,Int.reduceNe,Int.reduceLT,Int.reduceLE,Nat.reduceEqDiff,Nat.reduceAdd,reduceIte,reduceCtorEq,Nat.reduceLT,Nat.reduceLeDiff,eq_self,vcP]
 refine callS_of (idxFunc_box_s l f caps p hl hc hp) ?_
 simp only [vcC,Int.reduceEq,Int.reduceNe,Int.reduceLT,Int.reduceLE,Nat.reduceEqDiff,Nat.reduceAdd,reduceIte,reduceCtorEq,Nat.reduceLT,Nat.reduceLeDiff,eq_self,vcP]
 rw [idxOf_any]

theorem cc1_s (a b:TB):Sound Try.prog 43 [a.av,.eptr b.av 0] (.bool (!decide (a.apart b))):=by
 refine sound_W f_track_CheckCover_1 (Nat.le_of_ble_eq_true rfl) ?_
 simp only [c_track_CheckCover_1,TB.av,vZ,Int.reduceEq,Int.reduceNe,Int.reduceLT,Int.reduceLE,Nat.reduceEqDiff,Nat.reduceAdd,reduceIte,reduceCtorEq,Nat.reduceLT,Nat.reduceLeDiff,Nat.reduceShiftRight,Nat.reduceMod]
 refine callS_of (apart_s a b) ?_
 simp only [vZ,Int.reduceEq,Int.reduceNe,Int.reduceLT,Int.reduceLE,Nat.reduceEqDiff,Nat.reduceAdd,reduceIte,reduceCtorEq,Nat.reduceLT,Nat.reduceLeDiff,Nat.reduceShiftRight,Nat.reduceMod]
theorem cc2_s (m:TM) (x:TS) (L:List AV) (n:Int) (b:TB) (hm:m.Ok) (hb:b.Ok) (hl:x.h.length≤1000000) (ho:∀ h ∈ x.h,h.ok):Sound Try.prog 48 [b.av,.eptr m.av 0,.eptr x.av 0,.eptr (.agg [.sl L,.int .i64 n]) 0] (.bool (!decide (m.proved b x.h n))):=by
 refine sound_W f_track_CheckCover_2 (Nat.le_of_ble_eq_true rfl) ?_
 simp only [c_track_CheckCover_2,TB.av,TM.av,TS.av,rnd_s,Int.reduceAdd,Int.reduceSub,decide_true,decide_false,i64_1,i64_2,i64_3,i64_4,true_and,Int.one_mul,Int.cast_ofNat_Int,Int.reduceToNat,Nat.zero_mul,Nat.reduceMul,Nat.zero_add,Nat.mul_one,List.getElem?_cons_zero,List.getElem?_cons_succ,vZ,Int.reduceEq,Int.reduceNe,Int.reduceLT,Int.reduceLE,Nat.reduceEqDiff,Nat.reduceAdd,reduceIte,reduceCtorEq,Nat.reduceLT,Nat.reduceLeDiff,Nat.reduceShiftRight,Nat.reduceMod]
 refine callS_of (proved_s m b x.h n hm hb hl ho) ?_
 simp only [vZ,Int.reduceEq,Int.reduceNe,Int.reduceLT,Int.reduceLE,Nat.reduceEqDiff,Nat.reduceAdd,reduceIte,reduceCtorEq,Nat.reduceLT,Nat.reduceLeDiff,Nat.reduceShiftRight,Nat.reduceMod]
theorem tk_slice2 (g:Option (Nat × Bool)) (d:Option Nat) (str:Bool) (sz:Nat) (x b:MX) (e:Env):tkM ⟨g,d,.slice str sz x none (some b)⟩ e=some (refs1 (x.ev e) ++ refs1 (b.ev e)):=by simp [tkM,tk,pureOp,xsOf,allocs]
theorem usedL_fn {nk:Bool} {s:Store} {k ty sz:Nat} {el:AV} {l:List AV} {f:FuncId} (h:s k=some (some ⟨ty,sz,[el]⟩)) (hi:imm el=true):usedL nk s (refsL s 5 [.sl l,.fn f [.ptr k 0 0]]):=fun _ j hj=>by
 have e1:refs s 4 (.ptr k 0 0)=[k]:=by
  simp only [refs,h,List.getElem?_cons_zero];rw [if_pos hi]
 have e2:refs s 5 (.fn f [.ptr k 0 0])=refs s 4 (.ptr k 0 0) ++ []:=rfl
 have e3:refs s 5 (.sl l)=[]:=rfl
 have e:refsL s 5 [.sl l,.fn f [.ptr k 0 0]]=[k]:=by simp only [refsL,List.flatMap_cons,List.flatMap_nil,e1,e2,e3,List.append_nil,List.nil_append]
 rw [e,List.mem_singleton] at hj
 rw [hj,h];simp
theorem boxesL_take (L:List TB) (i:Nat):boxesL (L.take i)=(boxesL L).take i:=by simp [boxesL]
theorem boxesL_six (L:List TB):∀ x ∈ boxesL L,(cellsOf x).length=6:=by
 intro x hx
 obtain ⟨n,_,rfl⟩:=List.mem_map.1 hx
 rfl
def sumC (L:List TB):Int:=(L.map TB.count).sum
theorem sumC_take (L:List TB) (i:Nat) (h:i<L.length):sumC (L.take (i+1))=sumC (L.take i)+L[i].count:=by
 rw [List.take_succ_eq_append_getElem h]
 simp only [sumC,List.map_append,List.map_cons,List.map_nil,List.sum_append,List.sum_cons,List.sum_nil,Int.add_zero]
theorem sumC_bd:∀ {L:List TB},(∀ b ∈ L,b.err=0)→0≤sumC L∧sumC L≤700 * L.length
 | [],_=>by simp [sumC]
 | b :: L,h=>by
  have ih:=sumC_bd (L:=L) fun x hx=>h x (by simp [hx])
  obtain ⟨_,_,g3,g4⟩:=b.err_ok (h b (by simp))
  have:=count_pos g3
  have e:sumC (b :: L)=b.count+sumC L:=by simp [sumC]
  rw [e,List.length_cons];omega

set_option maxHeartbeats 8000000 in
set_option maxRecDepth 10000 in
theorem CheckCover_s (m:TM) (x:TS) (L:List TB) (n:Int) (q:openE m x.b x.h=0) (hL:L.length≤700) (hE:∀ b ∈ L,b.err=0) (hI:∀ b ∈ L,b.in x.b) (hA:L.Pairwise TB.apart) (hC:x.b.count≤sumC L) (hP:∀ b ∈ L,m.proved b x.h n) :
  Sound Try.prog 19 [m.av,x.av,.agg [.sl (boxesL L),.int .i64 n]] (.tup [.int .i64 0,.int .i64 0]):=by
 refine sound_W f_track_CheckCover (Nat.le_of_ble_eq_true rfl) ?_
 obtain ⟨hm,hb,hc,hl2,ho⟩:=openE_ok q
 have hL':decide ((L.length:Int)≤700)=true:=decide_eq_true (by omega)
 simp only [c_track_CheckCover,TM.av,TS.av,rnd_s,Int.reduceAdd,Int.reduceSub,decide_true,decide_false,i64_1,i64_2,i64_3,i64_4,true_and,Int.one_mul,Int.cast_ofNat_Int,Int.reduceToNat,Nat.zero_mul,Nat.reduceMul,Nat.zero_add,Nat.mul_one,List.getElem?_cons_zero,List.getElem?_cons_succ,vZ,Int.reduceEq,Int.reduceNe,Int.reduceLT,Int.reduceLE,Nat.reduceEqDiff,Nat.reduceAdd,reduceIte,reduceCtorEq,Nat.reduceLT,Nat.reduceLeDiff,Nat.reduceShiftRight,Nat.reduceMod]
 refine callS_of (openHits_s m x.b x.h (by omega)) ?_
 simp only [q,TM.av,TB.av,boxesL_length,hL',rnd_s,Int.reduceAdd,Int.reduceSub,decide_true,decide_false,i64_1,i64_2,i64_3,i64_4,true_and,Int.one_mul,Int.cast_ofNat_Int,Int.reduceToNat,Nat.zero_mul,Nat.reduceMul,Nat.zero_add,Nat.mul_one,List.getElem?_cons_zero,List.getElem?_cons_succ,vZ,Int.reduceEq,Int.reduceNe,Int.reduceLT,Int.reduceLE,Nat.reduceEqDiff,Nat.reduceAdd,reduceIte,reduceCtorEq,Nat.reduceLT,Nat.reduceLeDiff,Nat.reduceShiftRight,Nat.reduceMod]
 refine callS_of (unless_s _ _) ?_
 simp only [if_true,TM.av,TB.av,rnd_s,Int.reduceAdd,Int.reduceSub,decide_true,decide_false,i64_1,i64_2,i64_3,i64_4,true_and,Int.one_mul,Int.cast_ofNat_Int,Int.reduceToNat,Nat.zero_mul,Nat.reduceMul,Nat.zero_add,Nat.mul_one,List.getElem?_cons_zero,List.getElem?_cons_succ,vZ,Int.reduceEq,Int.reduceNe,Int.reduceLT,Int.reduceLE,Nat.reduceEqDiff,Nat.reduceAdd,reduceIte,reduceCtorEq,Nat.reduceLT,Nat.reduceLeDiff,Nat.reduceShiftRight,Nat.reduceMod]
 refine callS_of (first2_s _ _) ?_
 simp only [ne_eq,not_true_eq_false,if_false,decide_true,Bool.not_true,TM.av,TB.av,boxesL_length,rnd_s,Int.reduceAdd,Int.reduceSub,decide_true,decide_false,i64_1,i64_2,i64_3,i64_4,true_and,Int.one_mul,Int.cast_ofNat_Int,Int.reduceToNat,Nat.zero_mul,Nat.reduceMul,Nat.zero_add,Nat.mul_one,List.getElem?_cons_zero,List.getElem?_cons_succ,vZ,Int.reduceEq,Int.reduceNe,Int.reduceLT,Int.reduceLE,Nat.reduceEqDiff,Nat.reduceAdd,reduceIte,reduceCtorEq,Nat.reduceLT,Nat.reduceLeDiff,Nat.reduceShiftRight,Nat.reduceMod]
 refine W_loop (t:=.mk) (α:=PSigma fun i:Nat=>i≤L.length∧(True)) (fun ⟨i,_⟩=>((envOf [(4,.ptr 4 0 0),(5,.ptr 5 0 0),(8,.ptr 8 0 0),(10,.int .i64 (sumC (L.take i))),(38,.sl (boxesL L)),(39,.int .i64 L.length),(40,.int .i64 i)],stOf [(4,⟨31,7,[x.av]⟩),(5,⟨59,2,[.agg [.sl (boxesL L),.int .i64 n]]⟩),(8,⟨70,12,[m.av]⟩)]))) (fun i=>L.length - i.1) ⟨0,Nat.zero_le _,?_⟩ ?_ (fun ⟨i,hi,hn⟩=>?_)
 ·trivial
 ·refine weakX [] (of_decide_eq_true rfl) (of_decide_eq_true rfl) ?_
  (simp only [TM.av,TS.av,vcW,vZ,Int.reduceEq,Int.reduceNe,Int.reduceLT,Int.reduceLE,Nat.reduceEqDiff,Nat.reduceAdd,reduceIte,reduceCtorEq,Nat.reduceLT,Nat.reduceLeDiff,Nat.reduceShiftRight,Nat.reduceMod])
  (repeat' first | exact trivial | (with_reducible first | exact RnB.fxB (ints_fxB _) | rfl | refine And.intro ?_ ?_) | (with_reducible (first | refine RnB.bb ?_ | refine RnB.nb ?_);simp only [vcW,vZ,Int.reduceEq,Int.reduceNe,Int.reduceLT,Int.reduceLE,Nat.reduceEqDiff,Nat.reduceAdd,reduceIte,reduceCtorEq,Nat.reduceLT,Nat.reduceLeDiff,Nat.reduceShiftRight,Nat.reduceMod]) | (with_reducible first | refine RnB.ii ?_ | refine RnB.app ?_) | (with_reducible refine RnB.fxB ?_;simp only [vcW,vZ,Int.reduceEq,Int.reduceNe,Int.reduceLT,Int.reduceLE,Nat.reduceEqDiff,Nat.reduceAdd,reduceIte,reduceCtorEq,Nat.reduceLT,Nat.reduceLeDiff,Nat.reduceShiftRight,Nat.reduceMod]) | omega)
  all_goals first | rfl | exact RnB.fxB rfl | skip
 ·simp only [vZ,Int.reduceEq,Int.reduceNe,Int.reduceLT,Int.reduceLE,Nat.reduceEqDiff,Nat.reduceAdd,reduceIte,reduceCtorEq,Nat.reduceLT,Nat.reduceLeDiff,Nat.reduceShiftRight,Nat.reduceMod]
  refine brB_split (fun h=>?_) (fun h=>?_)
  ·have h':i<L.length:=by (simp only [decide_eq_true_eq,decide_eq_false_iff_not,Bool.not_true,I64,Bool.not_eq_true',Bool.not_eq_false',bne_iff_ne,beq_iff_eq,ne_eq] at *;omega)
   have hm':=List.getElem_mem h'
   have e1:=hE _ hm'
   have hap:(L.take i).any (fun a=>!decide (a.apart L[i]))=false:=by
    rw [← Bool.not_eq_true,List.any_eq_true]
    rintro ⟨a,ha,hb⟩
    obtain ⟨j,hj,rfl⟩:=List.mem_take_iff_getElem.1 ha
    have:=List.pairwise_iff_getElem.1 hA j i (by omega) h' (by omega)
    simp [this] at hb
   have hin:decide (L[i].in x.b)=true:=decide_eq_true (hI _ hm')
   have hbd:=sumC_bd (L:=L.take (i+1)) fun b hb=>hE b (List.mem_of_mem_take hb)
   have hlt:(L.take (i+1)).length≤700:=by rw [List.length_take];omega
   obtain ⟨g1,g2,g3,g4⟩:=L[i].err_ok e1
   have hcf:Sound Try.prog 46 [.sl ((boxesL L).take i),.fn 43 [.eptr L[i].av 0]] (.bool false):=by
    have:=contFunc_box_s (L.take i) 43 [.eptr L[i].av 0] (fun a=>!decide (a.apart L[i])) (by rw [List.length_take];omega) (by simp [fx1]) (fun a _=>cc1_s a L[i])
    rw [hap,boxesL_take] at this
    exact this
   simp only [boxesL_get L i h',TB.av,rnd_s,Int.reduceAdd,Int.reduceSub,decide_true,decide_false,i64_1,i64_2,i64_3,i64_4,true_and,Int.one_mul,Int.cast_ofNat_Int,Int.reduceToNat,Nat.zero_mul,Nat.reduceMul,Nat.zero_add,Nat.mul_one,List.getElem?_cons_zero,List.getElem?_cons_succ,vZ,Int.reduceEq,Int.reduceNe,Int.reduceLT,Int.reduceLE,Nat.reduceEqDiff,Nat.reduceAdd,reduceIte,reduceCtorEq,Nat.reduceLT,Nat.reduceLeDiff,Nat.reduceShiftRight,Nat.reduceMod]
   refine ⟨by omega,?_⟩
   refine callS_of (CheckBox_s L[i]) ?_
   simp only [e1,decide_true,Bool.not_true,TB.av,TS.av,rnd_s,Int.reduceAdd,Int.reduceSub,decide_true,decide_false,i64_1,i64_2,i64_3,i64_4,true_and,Int.one_mul,Int.cast_ofNat_Int,Int.reduceToNat,Nat.zero_mul,Nat.reduceMul,Nat.zero_add,Nat.mul_one,List.getElem?_cons_zero,List.getElem?_cons_succ,vZ,Int.reduceEq,Int.reduceNe,Int.reduceLT,Int.reduceLE,Nat.reduceEqDiff,Nat.reduceAdd,reduceIte,reduceCtorEq,Nat.reduceLT,Nat.reduceLeDiff,Nat.reduceShiftRight,Nat.reduceMod]
   refine callS_of (inside_s L[i] x.b) ?_
   simp only [hin,TB.av,TS.av,rnd_s,Int.reduceAdd,Int.reduceSub,decide_true,decide_false,i64_1,i64_2,i64_3,i64_4,true_and,Int.one_mul,Int.cast_ofNat_Int,Int.reduceToNat,Nat.zero_mul,Nat.reduceMul,Nat.zero_add,Nat.mul_one,List.getElem?_cons_zero,List.getElem?_cons_succ,vZ,Int.reduceEq,Int.reduceNe,Int.reduceLT,Int.reduceLE,Nat.reduceEqDiff,Nat.reduceAdd,reduceIte,reduceCtorEq,Nat.reduceLT,Nat.reduceLeDiff,Nat.reduceShiftRight,Nat.reduceMod]
   refine callS_of (unless_s _ _) ?_
   simp only [if_true,TB.av,TS.av,boxesL_length,rnd_s,Int.reduceAdd,Int.reduceSub,decide_true,decide_false,i64_1,i64_2,i64_3,i64_4,true_and,Int.one_mul,Int.cast_ofNat_Int,Int.reduceToNat,Nat.zero_mul,Nat.reduceMul,Nat.zero_add,Nat.mul_one,List.getElem?_cons_zero,List.getElem?_cons_succ,vZ,Int.reduceEq,Int.reduceNe,Int.reduceLT,Int.reduceLE,Nat.reduceEqDiff,Nat.reduceAdd,reduceIte,reduceCtorEq,Nat.reduceLT,Nat.reduceLeDiff,Nat.reduceShiftRight,Nat.reduceMod]
   refine ⟨⟨by omega,by omega,boxesL_six L⟩,?_⟩
   refine callS_of hcf ?_
   simp only [Bool.not_false,TB.av,TS.av,rnd_s,Int.reduceAdd,Int.reduceSub,decide_true,decide_false,i64_1,i64_2,i64_3,i64_4,true_and,Int.one_mul,Int.cast_ofNat_Int,Int.reduceToNat,Nat.zero_mul,Nat.reduceMul,Nat.zero_add,Nat.mul_one,List.getElem?_cons_zero,List.getElem?_cons_succ,vZ,Int.reduceEq,Int.reduceNe,Int.reduceLT,Int.reduceLE,Nat.reduceEqDiff,Nat.reduceAdd,reduceIte,reduceCtorEq,Nat.reduceLT,Nat.reduceLeDiff,Nat.reduceShiftRight,Nat.reduceMod]
   refine ⟨usedL_fn rfl rfl,?_⟩
   refine callS_of (unless_s _ _) ?_
   simp only [if_true,TB.av,TS.av,rnd_s,Int.reduceAdd,Int.reduceSub,decide_true,decide_false,i64_1,i64_2,i64_3,i64_4,true_and,Int.one_mul,Int.cast_ofNat_Int,Int.reduceToNat,Nat.zero_mul,Nat.reduceMul,Nat.zero_add,Nat.mul_one,List.getElem?_cons_zero,List.getElem?_cons_succ,vZ,Int.reduceEq,Int.reduceNe,Int.reduceLT,Int.reduceLE,Nat.reduceEqDiff,Nat.reduceAdd,reduceIte,reduceCtorEq,Nat.reduceLT,Nat.reduceLeDiff,Nat.reduceShiftRight,Nat.reduceMod]
   refine callS_of (first2_s _ _) ?_
   simp only [ne_eq,not_true_eq_false,if_false,decide_true,Bool.not_true,TM.av,TB.av,tk_slice2,tk_indexArr,rnd_s,Int.reduceAdd,Int.reduceSub,decide_true,decide_false,i64_1,i64_2,i64_3,i64_4,true_and,Int.one_mul,Int.cast_ofNat_Int,Int.reduceToNat,Nat.zero_mul,Nat.reduceMul,Nat.zero_add,Nat.mul_one,List.getElem?_cons_zero,List.getElem?_cons_succ,vZ,Int.reduceEq,Int.reduceNe,Int.reduceLT,Int.reduceLE,Nat.reduceEqDiff,Nat.reduceAdd,reduceIte,reduceCtorEq,Nat.reduceLT,Nat.reduceLeDiff,Nat.reduceShiftRight,Nat.reduceMod]
   refine ⟨usedL_buf rfl (ints_imm [_,_]) rfl,?_⟩
   refine callS_of (count_s L[i] g1 g2) ?_
   simp only [TM.av,TB.av,rnd_s,Int.reduceAdd,Int.reduceSub,decide_true,decide_false,i64_1,i64_2,i64_3,i64_4,true_and,Int.one_mul,Int.cast_ofNat_Int,Int.reduceToNat,Nat.zero_mul,Nat.reduceMul,Nat.zero_add,Nat.mul_one,List.getElem?_cons_zero,List.getElem?_cons_succ,vZ,Int.reduceEq,Int.reduceNe,Int.reduceLT,Int.reduceLE,Nat.reduceEqDiff,Nat.reduceAdd,reduceIte,reduceCtorEq,Nat.reduceLT,Nat.reduceLeDiff,Nat.reduceShiftRight,Nat.reduceMod]
   rw [← sumC_take L i h']
   refine ⟨by unfold I64;omega,by unfold I64;omega,⟨⟨i+1,by omega,trivial⟩,by simp only;omega,?_⟩⟩
   refine weakX [] (of_decide_eq_true rfl) (of_decide_eq_true rfl) ?_
   (simp only [TM.av,TS.av,vcW,vZ,Int.reduceEq,Int.reduceNe,Int.reduceLT,Int.reduceLE,Nat.reduceEqDiff,Nat.reduceAdd,reduceIte,reduceCtorEq,Nat.reduceLT,Nat.reduceLeDiff,Nat.reduceShiftRight,Nat.reduceMod])
   (repeat' first | exact trivial | (with_reducible first | exact RnB.fxB (ints_fxB _) | rfl | refine And.intro ?_ ?_) | (with_reducible (first | refine RnB.bb ?_ | refine RnB.nb ?_);simp only [vcW,vZ,Int.reduceEq,Int.reduceNe,Int.reduceLT,Int.reduceLE,Nat.reduceEqDiff,Nat.reduceAdd,reduceIte,reduceCtorEq,Nat.reduceLT,Nat.reduceLeDiff,Nat.reduceShiftRight,Nat.reduceMod]) | (with_reducible first | refine RnB.ii ?_ | refine RnB.app ?_) | (with_reducible refine RnB.fxB ?_;simp only [vcW,vZ,Int.reduceEq,Int.reduceNe,Int.reduceLT,Int.reduceLE,Nat.reduceEqDiff,Nat.reduceAdd,reduceIte,reduceCtorEq,Nat.reduceLT,Nat.reduceLeDiff,Nat.reduceShiftRight,Nat.reduceMod]) | omega)
   all_goals first | rfl | exact RnB.fxB rfl | skip
  ·have:i=L.length:=by (simp only [decide_eq_true_eq,decide_eq_false_iff_not,Bool.not_true,I64,Bool.not_eq_true',Bool.not_eq_false',bne_iff_ne,beq_iff_eq,ne_eq] at *;omega)
   subst this
   rw [List.take_length]
   have hge:¬ sumC L<x.b.count:=by omega
   have hix:Sound Try.prog 47 [.sl (boxesL L),.fn 48 [.eptr m.av 0,.eptr x.av 0,.eptr (.agg [.sl (boxesL L),.int .i64 n]) 0]] (.int .i64 (-1)):=by
    have:=idxFunc_box_s L 48 [.eptr m.av 0,.eptr x.av 0,.eptr (.agg [.sl (boxesL L),.int .i64 n]) 0] (fun b=>!decide (m.proved b x.h n)) (by omega) (by simp [fx1]) (fun b hb=>by
     obtain ⟨g1,g2,g3,_⟩:=b.err_ok (hE b hb)
     exact cc2_s m x (boxesL L) n b hm ⟨g1,g2,g3⟩ (by omega) ho)
    have e:idxOf L (fun b=>!decide (m.proved b x.h n)) = -1:=by
     unfold idxOf
     rw [List.findIdx?_eq_none_iff.2 (fun b hb=>by simp [hP b hb])]
    rw [e] at this
    exact this
   simp only [TM.av,TS.av,TB.av,rnd_s,Int.reduceAdd,Int.reduceSub,decide_true,decide_false,i64_1,i64_2,i64_3,i64_4,true_and,Int.one_mul,Int.cast_ofNat_Int,Int.reduceToNat,Nat.zero_mul,Nat.reduceMul,Nat.zero_add,Nat.mul_one,List.getElem?_cons_zero,List.getElem?_cons_succ,vZ,Int.reduceEq,Int.reduceNe,Int.reduceLT,Int.reduceLE,Nat.reduceEqDiff,Nat.reduceAdd,reduceIte,reduceCtorEq,Nat.reduceLT,Nat.reduceLeDiff,Nat.reduceShiftRight,Nat.reduceMod]
   refine callS_of (count_s x.b hb.l hb.h) ?_
   simp only [hge,decide_false,TM.av,TS.av,TB.av,rnd_s,Int.reduceAdd,Int.reduceSub,decide_true,decide_false,i64_1,i64_2,i64_3,i64_4,true_and,Int.one_mul,Int.cast_ofNat_Int,Int.reduceToNat,Nat.zero_mul,Nat.reduceMul,Nat.zero_add,Nat.mul_one,List.getElem?_cons_zero,List.getElem?_cons_succ,vZ,Int.reduceEq,Int.reduceNe,Int.reduceLT,Int.reduceLE,Nat.reduceEqDiff,Nat.reduceAdd,reduceIte,reduceCtorEq,Nat.reduceLT,Nat.reduceLeDiff,Nat.reduceShiftRight,Nat.reduceMod]
   refine callS_of hix ?_
   simp only [TM.av,TS.av,TB.av,rnd_s,Int.reduceAdd,Int.reduceSub,decide_true,decide_false,i64_1,i64_2,i64_3,i64_4,true_and,Int.one_mul,Int.cast_ofNat_Int,Int.reduceToNat,Nat.zero_mul,Nat.reduceMul,Nat.zero_add,Nat.mul_one,List.getElem?_cons_zero,List.getElem?_cons_succ,vZ,Int.reduceEq,Int.reduceNe,Int.reduceLT,Int.reduceLE,Nat.reduceEqDiff,Nat.reduceAdd,reduceIte,reduceCtorEq,Nat.reduceLT,Nat.reduceLeDiff,Nat.reduceShiftRight,Nat.reduceMod]
   skip
end Go.Proofs.Ytoiajhogondgcaa

/- Contracts: the reference's errors of searches;which step comes before. By an AI agent;nothing here is trusted. -/
namespace Go.Proofs.Ytoiajhogondgcaa
open Go.Av

theorem refCheckHits_s (l:List TH):Sound Try.prog 53 [.sl (hitsL l)] (.tup [.int .i64 (hitsI l),.int .i64 (hitsE l)]):=by
 refine sound_W f_ref05_CheckHits (Nat.le_of_ble_eq_true rfl) ?_
 simp only [c_ref05_CheckHits,hitsL_length,vZ,Int.reduceEq,Int.reduceNe,Int.reduceLT,Int.reduceLE,Nat.reduceEqDiff,Nat.reduceAdd,reduceIte,reduceCtorEq,Nat.reduceLT,Nat.reduceLeDiff,Nat.reduceShiftRight,Nat.reduceMod]
 refine brB_split (fun h=>?_) (fun h=>?_)
 ·have h1:l.length > 12:=by simp at h;omega
  simp only [vZ,Int.reduceEq,Int.reduceNe,Int.reduceLT,Int.reduceLE,Nat.reduceEqDiff,Nat.reduceAdd,reduceIte,reduceCtorEq,Nat.reduceLT,Nat.reduceLeDiff,Nat.reduceShiftRight,Nat.reduceMod]
  simp [hitsI,hitsE,h1]
 ·have h1:¬ l.length > 12:=by simp at h;omega
  simp only [hitsL_length,vZ,Int.reduceEq,Int.reduceNe,Int.reduceLT,Int.reduceLE,Nat.reduceEqDiff,Nat.reduceAdd,reduceIte,reduceCtorEq,Nat.reduceLT,Nat.reduceLeDiff,Nat.reduceShiftRight,Nat.reduceMod]
  refine W_loop (t:=.mk) (α:=PSigma fun i:Nat=>i≤l.length∧(∀ x ∈ l.take i,x.ok)) (fun ⟨i,_⟩=>((envOf [(0,.sl (hitsL l)),(4,.int .i64 i)],stOf []))) (fun i=>l.length - i.1) ⟨0,Nat.zero_le _,?_⟩ ?_ (fun ⟨i,hi,hn⟩=>?_)
  ·simp
  ·refine weakX [] (of_decide_eq_true rfl) (of_decide_eq_true rfl) ?_
   (simp only [vcW,vZ,Int.reduceEq,Int.reduceNe,Int.reduceLT,Int.reduceLE,Nat.reduceEqDiff,Nat.reduceAdd,reduceIte,reduceCtorEq,Nat.reduceLT,Nat.reduceLeDiff,Nat.reduceShiftRight,Nat.reduceMod])
   (repeat' first | exact trivial | (with_reducible first | exact RnB.fxB (ints_fxB _) | rfl | refine And.intro ?_ ?_) | (with_reducible (first | refine RnB.bb ?_ | refine RnB.nb ?_);simp only [vcW,vZ,Int.reduceEq,Int.reduceNe,Int.reduceLT,Int.reduceLE,Nat.reduceEqDiff,Nat.reduceAdd,reduceIte,reduceCtorEq,Nat.reduceLT,Nat.reduceLeDiff,Nat.reduceShiftRight,Nat.reduceMod]) | (with_reducible first | refine RnB.ii ?_ | refine RnB.app ?_) | (with_reducible refine RnB.fxB ?_;simp only [vcW,vZ,Int.reduceEq,Int.reduceNe,Int.reduceLT,Int.reduceLE,Nat.reduceEqDiff,Nat.reduceAdd,reduceIte,reduceCtorEq,Nat.reduceLT,Nat.reduceLeDiff,Nat.reduceShiftRight,Nat.reduceMod]) | omega)
   all_goals rfl
  ·simp only [hitsL_length,vZ,Int.reduceEq,Int.reduceNe,Int.reduceLT,Int.reduceLE,Nat.reduceEqDiff,Nat.reduceAdd,reduceIte,reduceCtorEq,Nat.reduceLT,Nat.reduceLeDiff,Nat.reduceShiftRight,Nat.reduceMod]
   refine brB_split (fun h2=>?_) (fun h2=>?_)
   ·have h':i<l.length:=by (simp only [decide_eq_true_eq,decide_eq_false_iff_not,Bool.not_true,I64,Bool.not_eq_true',Bool.not_eq_false',bne_iff_ne,beq_iff_eq,ne_eq] at *;omega)
    simp only [hitsL_get l i h',TH.av,rnd_s,Int.reduceAdd,Int.reduceSub,decide_true,decide_false,i64_1,i64_2,i64_3,i64_4,true_and,Int.one_mul,Int.cast_ofNat_Int,Int.reduceToNat,Nat.zero_mul,Nat.reduceMul,Nat.zero_add,Nat.mul_one,List.getElem?_cons_zero,List.getElem?_cons_succ,vZ,Int.reduceEq,Int.reduceNe,Int.reduceLT,Int.reduceLE,Nat.reduceEqDiff,Nat.reduceAdd,reduceIte,reduceCtorEq,Nat.reduceLT,Nat.reduceLeDiff,Nat.reduceShiftRight,Nat.reduceMod]
    refine ⟨by omega,?_⟩
    refine callS_of (refPlaceErr_s l[i].p) ?_
    by_cases p1:l[i].p.in 1000
    case neg =>
     have p1':l[i].p.inB 1000=false:=decide_eq_false p1
     obtain ⟨g1,g2⟩:=hits_bad l i h' h1 hn (fun g=>p1 g.1)
     rw [g1,g2]
     simp only [p1',Bool.false_eq_true,if_false,rnd_s,Int.reduceAdd,Int.reduceSub,decide_true,decide_false,i64_1,i64_2,i64_3,i64_4,true_and,Int.one_mul,Int.cast_ofNat_Int,Int.reduceToNat,Nat.zero_mul,Nat.reduceMul,Nat.zero_add,Nat.mul_one,List.getElem?_cons_zero,List.getElem?_cons_succ,vZ,Int.reduceEq,Int.reduceNe,Int.reduceLT,Int.reduceLE,Nat.reduceEqDiff,Nat.reduceAdd,reduceIte,reduceCtorEq,Nat.reduceLT,Nat.reduceLeDiff,Nat.reduceShiftRight,Nat.reduceMod]
    have p1':l[i].p.inB 1000=true:=decide_eq_true p1
    simp only [p1',if_true,hitsL_get l i h',TH.av,rnd_s,Int.reduceAdd,Int.reduceSub,decide_true,decide_false,i64_1,i64_2,i64_3,i64_4,true_and,Int.one_mul,Int.cast_ofNat_Int,Int.reduceToNat,Nat.zero_mul,Nat.reduceMul,Nat.zero_add,Nat.mul_one,List.getElem?_cons_zero,List.getElem?_cons_succ,vZ,Int.reduceEq,Int.reduceNe,Int.reduceLT,Int.reduceLE,Nat.reduceEqDiff,Nat.reduceAdd,reduceIte,reduceCtorEq,Nat.reduceLT,Nat.reduceLeDiff,Nat.reduceShiftRight,Nat.reduceMod]
    refine ⟨by omega,?_⟩
    refine callS_of (refTimeErr_s _) ?_
    by_cases p2 : -10000≤l[i].t∧l[i].t≤10000
    case neg =>
     obtain ⟨g1,g2⟩:=hits_bad l i h' h1 hn (fun g=>p2 g.2.1)
     rw [g1,g2]
     simp only [p2,if_false,rnd_s,Int.reduceAdd,Int.reduceSub,decide_true,decide_false,i64_1,i64_2,i64_3,i64_4,true_and,Int.one_mul,Int.cast_ofNat_Int,Int.reduceToNat,Nat.zero_mul,Nat.reduceMul,Nat.zero_add,Nat.mul_one,List.getElem?_cons_zero,List.getElem?_cons_succ,vZ,Int.reduceEq,Int.reduceNe,Int.reduceLT,Int.reduceLE,Nat.reduceEqDiff,Nat.reduceAdd,reduceIte,reduceCtorEq,Nat.reduceLT,Nat.reduceLeDiff,Nat.reduceShiftRight,Nat.reduceMod]
    simp only [p2,and_self,if_true,hitsL_get l i h',TH.av,rnd_s,Int.reduceAdd,Int.reduceSub,decide_true,decide_false,i64_1,i64_2,i64_3,i64_4,true_and,Int.one_mul,Int.cast_ofNat_Int,Int.reduceToNat,Nat.zero_mul,Nat.reduceMul,Nat.zero_add,Nat.mul_one,List.getElem?_cons_zero,List.getElem?_cons_succ,vZ,Int.reduceEq,Int.reduceNe,Int.reduceLT,Int.reduceLE,Nat.reduceEqDiff,Nat.reduceAdd,reduceIte,reduceCtorEq,Nat.reduceLT,Nat.reduceLeDiff,Nat.reduceShiftRight,Nat.reduceMod]
    refine ⟨by omega,?_⟩
    refine callS_of (isWeight_s _) ?_
    by_cases p3:0≤l[i].w∧l[i].w≤100
    case neg =>
     obtain ⟨g1,g2⟩:=hits_bad l i h' h1 hn (fun g=>p3 g.2.2)
     rw [g1,g2]
     simp only [p3,decide_false,Bool.not_false,rnd_s,Int.reduceAdd,Int.reduceSub,decide_true,decide_false,i64_1,i64_2,i64_3,i64_4,true_and,Int.one_mul,Int.cast_ofNat_Int,Int.reduceToNat,Nat.zero_mul,Nat.reduceMul,Nat.zero_add,Nat.mul_one,List.getElem?_cons_zero,List.getElem?_cons_succ,vZ,Int.reduceEq,Int.reduceNe,Int.reduceLT,Int.reduceLE,Nat.reduceEqDiff,Nat.reduceAdd,reduceIte,reduceCtorEq,Nat.reduceLT,Nat.reduceLeDiff,Nat.reduceShiftRight,Nat.reduceMod]
    simp only [p3,and_self,decide_true,Bool.not_true,rnd_s,Int.reduceAdd,Int.reduceSub,decide_true,decide_false,i64_1,i64_2,i64_3,i64_4,true_and,Int.one_mul,Int.cast_ofNat_Int,Int.reduceToNat,Nat.zero_mul,Nat.reduceMul,Nat.zero_add,Nat.mul_one,List.getElem?_cons_zero,List.getElem?_cons_succ,vZ,Int.reduceEq,Int.reduceNe,Int.reduceLT,Int.reduceLE,Nat.reduceEqDiff,Nat.reduceAdd,reduceIte,reduceCtorEq,Nat.reduceLT,Nat.reduceLeDiff,Nat.reduceShiftRight,Nat.reduceMod]
    refine ⟨by (simp only [decide_eq_true_eq,decide_eq_false_iff_not,Bool.not_true,I64,Bool.not_eq_true',Bool.not_eq_false',bne_iff_ne,beq_iff_eq,ne_eq] at *;omega),⟨⟨i+1,by omega,?_⟩,by simp only;omega,?_⟩⟩
    ·exact take_ok h' hn ⟨p1,p2,p3⟩
    ·refine weakX [] (of_decide_eq_true rfl) (of_decide_eq_true rfl) ?_
     (simp only [vcW,vZ,Int.reduceEq,Int.reduceNe,Int.reduceLT,Int.reduceLE,Nat.reduceEqDiff,Nat.reduceAdd,reduceIte,reduceCtorEq,Nat.reduceLT,Nat.reduceLeDiff,Nat.reduceShiftRight,Nat.reduceMod])
     (repeat' first | exact trivial | (with_reducible first | exact RnB.fxB (ints_fxB _) | rfl | refine And.intro ?_ ?_) | (with_reducible (first | refine RnB.bb ?_ | refine RnB.nb ?_);simp only [vcW,vZ,Int.reduceEq,Int.reduceNe,Int.reduceLT,Int.reduceLE,Nat.reduceEqDiff,Nat.reduceAdd,reduceIte,reduceCtorEq,Nat.reduceLT,Nat.reduceLeDiff,Nat.reduceShiftRight,Nat.reduceMod]) | (with_reducible first | refine RnB.ii ?_ | refine RnB.app ?_) | (with_reducible refine RnB.fxB ?_;simp only [vcW,vZ,Int.reduceEq,Int.reduceNe,Int.reduceLT,Int.reduceLE,Nat.reduceEqDiff,Nat.reduceAdd,reduceIte,reduceCtorEq,Nat.reduceLT,Nat.reduceLeDiff,Nat.reduceShiftRight,Nat.reduceMod]) | omega)
     all_goals simp
   ·simp only [vZ,Int.reduceEq,Int.reduceNe,Int.reduceLT,Int.reduceLE,Nat.reduceEqDiff,Nat.reduceAdd,reduceIte,reduceCtorEq,Nat.reduceLT,Nat.reduceLeDiff,Nat.reduceShiftRight,Nat.reduceMod]
    have:i=l.length:=by (simp only [decide_eq_true_eq,decide_eq_false_iff_not,Bool.not_true,I64,Bool.not_eq_true',Bool.not_eq_false',bne_iff_ne,beq_iff_eq,ne_eq] at *;omega)
    subst this
    rw [List.take_length] at hn
    obtain ⟨g1,g2⟩:=hits_good l h1 hn
    rw [g1,g2]
theorem refHitsErr_s (l:List TH):Sound Try.prog 27 [.sl (hitsL l)] (.int .i64 (hitsE l)):=by
 refine sound_W f_ref05_HitsErr (Nat.le_of_ble_eq_true rfl) ?_
 simp only [c_ref05_HitsErr,vZ,Int.reduceEq,Int.reduceNe,Int.reduceLT,Int.reduceLE,Nat.reduceEqDiff,Nat.reduceAdd,reduceIte,reduceCtorEq,Nat.reduceLT,Nat.reduceLeDiff,Nat.reduceShiftRight,Nat.reduceMod]
 refine callS_of (refCheckHits_s l) ?_
 simp only [rnd_s,Int.reduceAdd,Int.reduceSub,decide_true,decide_false,i64_1,i64_2,i64_3,i64_4,true_and,Int.one_mul,Int.cast_ofNat_Int,Int.reduceToNat,Nat.zero_mul,Nat.reduceMul,Nat.zero_add,Nat.mul_one,List.getElem?_cons_zero,List.getElem?_cons_succ,vZ,Int.reduceEq,Int.reduceNe,Int.reduceLT,Int.reduceLE,Nat.reduceEqDiff,Nat.reduceAdd,reduceIte,reduceCtorEq,Nat.reduceLT,Nat.reduceLeDiff,Nat.reduceShiftRight,Nat.reduceMod]
def TS.err (x:TS):Int:=if x.b.err ≠ 0 then x.b.err else hitsE x.h
theorem refSearchErr_s (x:TS):Sound Try.prog 6 [x.av] (.int .i64 x.err):=by
 refine sound_W f_ref05_SearchErr (Nat.le_of_ble_eq_true rfl) ?_
 simp only [c_ref05_SearchErr,TS.av,rnd_s,Int.reduceAdd,Int.reduceSub,decide_true,decide_false,i64_1,i64_2,i64_3,i64_4,true_and,Int.one_mul,Int.cast_ofNat_Int,Int.reduceToNat,Nat.zero_mul,Nat.reduceMul,Nat.zero_add,Nat.mul_one,List.getElem?_cons_zero,List.getElem?_cons_succ,vZ,Int.reduceEq,Int.reduceNe,Int.reduceLT,Int.reduceLE,Nat.reduceEqDiff,Nat.reduceAdd,reduceIte,reduceCtorEq,Nat.reduceLT,Nat.reduceLeDiff,Nat.reduceShiftRight,Nat.reduceMod]
 refine callS_of (refBoxErr_s x.b) ?_
 by_cases q:x.b.err=0
 case neg =>
  simp only [q,decide_false,Bool.not_false,rnd_s,Int.reduceAdd,Int.reduceSub,decide_true,decide_false,i64_1,i64_2,i64_3,i64_4,true_and,Int.one_mul,Int.cast_ofNat_Int,Int.reduceToNat,Nat.zero_mul,Nat.reduceMul,Nat.zero_add,Nat.mul_one,List.getElem?_cons_zero,List.getElem?_cons_succ,vZ,Int.reduceEq,Int.reduceNe,Int.reduceLT,Int.reduceLE,Nat.reduceEqDiff,Nat.reduceAdd,reduceIte,reduceCtorEq,Nat.reduceLT,Nat.reduceLeDiff,Nat.reduceShiftRight,Nat.reduceMod]
  simp [TS.err,q]
 simp only [q,decide_true,Bool.not_true,rnd_s,Int.reduceAdd,Int.reduceSub,decide_true,decide_false,i64_1,i64_2,i64_3,i64_4,true_and,Int.one_mul,Int.cast_ofNat_Int,Int.reduceToNat,Nat.zero_mul,Nat.reduceMul,Nat.zero_add,Nat.mul_one,List.getElem?_cons_zero,List.getElem?_cons_succ,vZ,Int.reduceEq,Int.reduceNe,Int.reduceLT,Int.reduceLE,Nat.reduceEqDiff,Nat.reduceAdd,reduceIte,reduceCtorEq,Nat.reduceLT,Nat.reduceLeDiff,Nat.reduceShiftRight,Nat.reduceMod]
 refine callS_of (refHitsErr_s x.h) ?_
 simp only [rnd_s,Int.reduceAdd,Int.reduceSub,decide_true,decide_false,i64_1,i64_2,i64_3,i64_4,true_and,Int.one_mul,Int.cast_ofNat_Int,Int.reduceToNat,Nat.zero_mul,Nat.reduceMul,Nat.zero_add,Nat.mul_one,List.getElem?_cons_zero,List.getElem?_cons_succ,vZ,Int.reduceEq,Int.reduceNe,Int.reduceLT,Int.reduceLE,Nat.reduceEqDiff,Nat.reduceAdd,reduceIte,reduceCtorEq,Nat.reduceLT,Nat.reduceLeDiff,Nat.reduceShiftRight,Nat.reduceMod]
 simp [TS.err,q]
theorem trackBefore_s (a b:V3):Sound Try.prog 18 [a.av,b.av] (.bool (decide (a.lt b))):=by
 refine sound_W f_top_trackBefore (Nat.le_of_ble_eq_true rfl) ?_
 simp only [c_top_trackBefore,V3.av,rnd_s,Int.reduceAdd,Int.reduceSub,decide_true,decide_false,i64_1,i64_2,i64_3,i64_4,true_and,Int.one_mul,Int.cast_ofNat_Int,Int.reduceToNat,Nat.zero_mul,Nat.reduceMul,Nat.zero_add,Nat.mul_one,List.getElem?_cons_zero,List.getElem?_cons_succ,vZ,Int.reduceEq,Int.reduceNe,Int.reduceLT,Int.reduceLE,Nat.reduceEqDiff,Nat.reduceAdd,reduceIte,reduceCtorEq,Nat.reduceLT,Nat.reduceLeDiff,Nat.reduceShiftRight,Nat.reduceMod]
 refine W_rnd 4 ?_
 simp only [rnd_s,Int.reduceAdd,Int.reduceSub,decide_true,decide_false,i64_1,i64_2,i64_3,i64_4,true_and,Int.one_mul,Int.cast_ofNat_Int,Int.reduceToNat,Nat.zero_mul,Nat.reduceMul,Nat.zero_add,Nat.mul_one,List.getElem?_cons_zero,List.getElem?_cons_succ,vZ,Int.reduceEq,Int.reduceNe,Int.reduceLT,Int.reduceLE,Nat.reduceEqDiff,Nat.reduceAdd,reduceIte,reduceCtorEq,Nat.reduceLT,Nat.reduceLeDiff,Nat.reduceShiftRight,Nat.reduceMod]
 by_cases q1:a.x=b.x
 case neg =>
  simp only [q1,decide_false,Bool.not_false,rnd_s,Int.reduceAdd,Int.reduceSub,decide_true,decide_false,i64_1,i64_2,i64_3,i64_4,true_and,Int.one_mul,Int.cast_ofNat_Int,Int.reduceToNat,Nat.zero_mul,Nat.reduceMul,Nat.zero_add,Nat.mul_one,List.getElem?_cons_zero,List.getElem?_cons_succ,vZ,Int.reduceEq,Int.reduceNe,Int.reduceLT,Int.reduceLE,Nat.reduceEqDiff,Nat.reduceAdd,reduceIte,reduceCtorEq,Nat.reduceLT,Nat.reduceLeDiff,Nat.reduceShiftRight,Nat.reduceMod]
  exact bool_eq (by unfold V3.lt;omega)
 simp only [q1,decide_true,Bool.not_true,rnd_s,Int.reduceAdd,Int.reduceSub,decide_true,decide_false,i64_1,i64_2,i64_3,i64_4,true_and,Int.one_mul,Int.cast_ofNat_Int,Int.reduceToNat,Nat.zero_mul,Nat.reduceMul,Nat.zero_add,Nat.mul_one,List.getElem?_cons_zero,List.getElem?_cons_succ,vZ,Int.reduceEq,Int.reduceNe,Int.reduceLT,Int.reduceLE,Nat.reduceEqDiff,Nat.reduceAdd,reduceIte,reduceCtorEq,Nat.reduceLT,Nat.reduceLeDiff,Nat.reduceShiftRight,Nat.reduceMod]
 by_cases q2:a.y=b.y
 case neg =>
  simp only [q2,decide_false,Bool.not_false,rnd_s,Int.reduceAdd,Int.reduceSub,decide_true,decide_false,i64_1,i64_2,i64_3,i64_4,true_and,Int.one_mul,Int.cast_ofNat_Int,Int.reduceToNat,Nat.zero_mul,Nat.reduceMul,Nat.zero_add,Nat.mul_one,List.getElem?_cons_zero,List.getElem?_cons_succ,vZ,Int.reduceEq,Int.reduceNe,Int.reduceLT,Int.reduceLE,Nat.reduceEqDiff,Nat.reduceAdd,reduceIte,reduceCtorEq,Nat.reduceLT,Nat.reduceLeDiff,Nat.reduceShiftRight,Nat.reduceMod]
  exact bool_eq (by unfold V3.lt;omega)
 simp only [q2,decide_true,Bool.not_true,rnd_s,Int.reduceAdd,Int.reduceSub,decide_true,decide_false,i64_1,i64_2,i64_3,i64_4,true_and,Int.one_mul,Int.cast_ofNat_Int,Int.reduceToNat,Nat.zero_mul,Nat.reduceMul,Nat.zero_add,Nat.mul_one,List.getElem?_cons_zero,List.getElem?_cons_succ,vZ,Int.reduceEq,Int.reduceNe,Int.reduceLT,Int.reduceLE,Nat.reduceEqDiff,Nat.reduceAdd,reduceIte,reduceCtorEq,Nat.reduceLT,Nat.reduceLeDiff,Nat.reduceShiftRight,Nat.reduceMod]
 by_cases q3:a.z=b.z
 case neg =>
  simp only [q3,decide_false,Bool.not_false,rnd_s,Int.reduceAdd,Int.reduceSub,decide_true,decide_false,i64_1,i64_2,i64_3,i64_4,true_and,Int.one_mul,Int.cast_ofNat_Int,Int.reduceToNat,Nat.zero_mul,Nat.reduceMul,Nat.zero_add,Nat.mul_one,List.getElem?_cons_zero,List.getElem?_cons_succ,vZ,Int.reduceEq,Int.reduceNe,Int.reduceLT,Int.reduceLE,Nat.reduceEqDiff,Nat.reduceAdd,reduceIte,reduceCtorEq,Nat.reduceLT,Nat.reduceLeDiff,Nat.reduceShiftRight,Nat.reduceMod]
  exact bool_eq (by unfold V3.lt;omega)
 simp only [q3,decide_true,Bool.not_true,rnd_s,Int.reduceAdd,Int.reduceSub,decide_true,decide_false,i64_1,i64_2,i64_3,i64_4,true_and,Int.one_mul,Int.cast_ofNat_Int,Int.reduceToNat,Nat.zero_mul,Nat.reduceMul,Nat.zero_add,Nat.mul_one,List.getElem?_cons_zero,List.getElem?_cons_succ,vZ,Int.reduceEq,Int.reduceNe,Int.reduceLT,Int.reduceLE,Nat.reduceEqDiff,Nat.reduceAdd,reduceIte,reduceCtorEq,Nat.reduceLT,Nat.reduceLeDiff,Nat.reduceShiftRight,Nat.reduceMod]
 rw [decide_eq_false (show ¬ a.lt b by unfold V3.lt;omega)]
end Go.Proofs.Ytoiajhogondgcaa

/- Plain laws of tracks: the best step,covers,steps of halves. By an AI agent;nothing here is trusted. -/
namespace Go.Proofs.Ytoiajhogondgcaa
open Go.Av

theorem V3.lt_irrefl (a:V3):¬ a.lt a:=by unfold V3.lt;omega
theorem V3.lt_trans {a b c:V3} (h:a.lt b) (k:b.lt c):a.lt c:=by unfold V3.lt at *;omega
theorem V3.lt_tri (a b:V3) (h:¬ a.lt b) (k:¬ b.lt a):a=b:=by
 cases a;cases b
 unfold V3.lt at *
 simp only [V3.mk.injEq] at *
 omega
theorem permits_o {m:TM} (hm:m.Ok) {v:V3} (h:m.permits v):v ≠ V3.o:=by
 rintro rfl
 have:=h.1
 obtain ⟨_,⟨h1,_⟩,_⟩:=hm.r
 have e:V3.o.dot V3.o=0:=by decide
 omega

structure IsBest (m:TM) (l:List TH) (D:V3→Prop) (k:KN):Prop where
 no:k.s=V3.o→∀ v,D v→¬ m.permits v
 yes:k.s ≠ V3.o→D k.s∧m.permits k.s∧k.n=m.score k.s l
 best:k.s ≠ V3.o→∀ v,D v→m.permits v→k.n<m.score v l∨(k.n=m.score v l∧¬ v.lt k.s)
theorem IsBest.congr {m:TM} {l:List TH} {D D':V3→Prop} {k:KN} (h:IsBest m l D k) (e:∀ v,D v ↔ D' v):IsBest m l D' k :=
 ⟨fun z v hv=>h.no z v ((e v).2 hv),fun z=>⟨(e _).1 (h.yes z).1,(h.yes z).2⟩,fun z v hv=>h.best z v ((e v).2 hv)⟩
theorem IsBest.more {m:TM} {l:List TH} {D E:V3→Prop} {k:KN} (h:IsBest m l D k) (hn:k.s=V3.o→∀ v,E v→¬ m.permits v) (hb:k.s ≠ V3.o→∀ v,E v→m.permits v→k.n<m.score v l∨(k.n=m.score v l∧¬ v.lt k.s)):IsBest m l (fun v=>D v∨E v) k :=
 ⟨fun z v hv=>hv.elim (h.no z v) (hn z v),fun z=>⟨.inl (h.yes z).1,(h.yes z).2⟩,fun z v hv=>hv.elim (h.best z v) (hb z v)⟩
theorem IsBest.unique {m:TM} {l:List TH} {D:V3→Prop} {k k':KN} (h:IsBest m l D k) (h':IsBest m l D k') (hz:k.s ≠ V3.o):k'.s=k.s∧k'.n=k.n:=by
 have y:=h.yes hz
 have hz':k'.s ≠ V3.o:=fun e=>h'.no e _ y.1 y.2.1
 have y':=h'.yes hz'
 have b1:=h.best hz _ y'.1 y'.2.1
 have b2:=h'.best hz' _ y.1 y.2.1
 have e1:=y.2.2
 have e2:=y'.2.2
 refine ⟨V3.lt_tri _ _ (fun g=>?_) (fun g=>?_),by omega⟩
 ·rcases b1 with b1 | ⟨_,b1⟩
  ·omega
  ·exact b1 g
 ·rcases b2 with b2 | ⟨_,b2⟩
  ·omega
  ·exact b2 g
theorem best_is {m:TM} {l:List TH} (hm:m.Ok) (ho:∀ h ∈ l,h.ok):∀ (f:Nat) (b:TB) (k:KN) (D:V3→Prop),b.Ok→b.count≤f→IsBest m l D k→IsBest m l (fun v=>D v∨b.has v) (TM.best m l f b k)
 | 0,b,k,D,hb,hc,h=>by have:=count_pos hb.o;omega
 | f+1,b,k,D,hb,hc,h=>by
  unfold TM.best
  split
  ·rename_i h1
   exact h.more (fun _ v hv hp=>h1 (common_of hv hp)) (fun _ v hv hp=>absurd (common_of hv hp) h1)
  ·rename_i h1
   have h1:=Decidable.not_not.1 h1
   split
   ·rename_i h2
    exact h.more (fun z=>absurd z h2.1) (fun _ v hv hp=>.inl (by have:=scs_le hm hv hp ho;omega))
   ·split
    ·rename_i h3
     obtain ⟨g1,g2,g3,g4,_⟩:=halves_ok hb h3
     have n1:=count_pos g1.o
     have n2:=count_pos g2.o
     have i1:=best_is hm ho f b.h1 k D g1 (by omega) h
     have i2:=best_is hm ho f b.h2 _ _ g2 (by omega) i1
     refine i2.congr fun v=>?_
     rw [g4 v]
     exact or_assoc
    ·rename_i h3
     have hp:=count_pos hb.o
     have hone:=one_of hb (by omega)
     have hh:∀ v,b.has v ↔ v=b.lo:=fun v=>by rw [hone];exact one_has _ _
     have hper:m.permits b.lo:=by rw [hone] at h1;exact one_common.1 h1
     split
     ·rename_i h4
      refine ⟨fun z=>absurd z (permits_o hm hper),fun _=>⟨.inr ((hh _).2 rfl),hper,rfl⟩,fun _ v hv hp=>?_⟩
      rcases hv with hv | hv
      ·by_cases z:k.s=V3.o
       ·exact absurd hp (h.no z v hv)
       ·have b1:=h.best z v hv hp
        rcases h4 with h4 | h4 | ⟨h4,h5⟩
        ·exact absurd h4 z
        ·exact .inl (by dsimp only;omega)
        ·rcases b1 with b1 | ⟨b1,b2⟩
         ·exact .inl (by dsimp only;omega)
         ·exact .inr ⟨by dsimp only;omega,fun g=>b2 (V3.lt_trans g h5)⟩
      ·have:=(hh v).1 hv
       subst this
       exact .inr ⟨rfl,V3.lt_irrefl _⟩
     ·rename_i h4
      refine h.more (fun z=>absurd (.inl z) h4) (fun _ v hv _=>?_)
      have:=(hh v).1 hv
      subst this
      by_cases e:m.score b.lo l=k.n
      ·exact .inr ⟨e.symm,fun g=>h4 (.inr (.inr ⟨e,g⟩))⟩
      ·exact .inl (by
        have:¬ m.score b.lo l<k.n:=fun g=>h4 (.inr (.inl g))
        omega)
theorem bestOf_is {m:TM} {b:TB} {l:List TH} (q:openE m b l=0):IsBest m l b.has (m.bestOf b l):=by
 obtain ⟨hm,hb,hc,hl2,ho⟩:=openE_ok q
 have hp:=count_pos hb.o
 have h0:IsBest m l (fun _=>False) ⟨V3.o,0⟩:=⟨fun _ v hv=>hv.elim,fun z=>absurd rfl z,fun z=>absurd rfl z⟩
 exact (best_is hm ho b.count.toNat b ⟨V3.o,0⟩ _ hb (by omega) h0).congr fun v=>by simp
def mergeK (k1 k2:KN):KN:=if k2.s=V3.o then k1 else if k1.s=V3.o∨k2.n<k1.n∨(k2.n=k1.n∧k2.s.lt k1.s) then k2 else k1
theorem merge_is {m:TM} {l:List TH} {D E:V3→Prop} {k1 k2:KN} (h1:IsBest m l D k1) (h2:IsBest m l E k2):IsBest m l (fun v=>D v∨E v) (mergeK k1 k2):=by
 unfold mergeK
 split
 ·rename_i z
  exact h1.more (fun _=>h2.no z) (fun _ v hv hp=>absurd hp (h2.no z v hv))
 ·rename_i z
  split
  ·rename_i c
   refine (h2.more (E:=D) (fun y=>absurd y z) (fun _ v hv hp=>?_)).congr fun v=>or_comm
   by_cases z1:k1.s=V3.o
   ·exact absurd hp (h1.no z1 v hv)
   ·have b1:=h1.best z1 v hv hp
    rcases c with c | c | ⟨c,d⟩
    ·exact absurd c z1
    ·exact .inl (by omega)
    ·rcases b1 with b1 | ⟨b1,b2⟩
     ·exact .inl (by omega)
     ·exact .inr ⟨by omega,fun g=>b2 (V3.lt_trans g d)⟩
  ·rename_i c
   refine h1.more (fun y=>absurd (.inl y) c) (fun z1 v hv hp=>?_)
   have b2:=h2.best z v hv hp
   have c1:¬ k2.n<k1.n:=fun g=>c (.inr (.inl g))
   rcases b2 with b2 | ⟨b2,b3⟩
   ·exact .inl (by omega)
   ·by_cases e:k2.n=k1.n
    ·have c2:¬ k2.s.lt k1.s:=fun g=>c (.inr (.inr ⟨e,g⟩))
     refine .inr ⟨by omega,fun g=>?_⟩
     by_cases t:v.lt k2.s
     ·exact b3 t
     ·by_cases u:k2.s.lt v
      ·exact c2 (V3.lt_trans u g)
      ·have:=V3.lt_tri _ _ t u
       subst this
       exact c2 g
    ·exact .inl (by omega)

theorem cover_some {m:TM} {l:List TH} {n:Int} (hm:m.Ok) (ho:∀ h ∈ l,h.ok):∀ (f:Nat) (b:TB),b.Ok→b.count≤f→(∀ v,b.has v→m.permits v→n≤m.score v l)→∃ L,TM.cover m l n f b=some L
 | 0,b,hb,hc,_=>by have:=count_pos hb.o;omega
 | f+1,b,hb,hc,h=>by
  unfold TM.cover
  split
  ·exact ⟨_,rfl⟩
  ·rename_i h1
   have hp:=count_pos hb.o
   split
   ·rename_i h2
    exfalso
    apply h1
    have hone:=one_of hb h2
    by_cases c:m.common b
    ·have hper:m.permits b.lo:=by rw [hone] at c;exact one_common.1 c
     refine .inr ?_
     have:=one_scs hm hper l
     rw [← hone] at this
     rw [this]
     exact h b.lo (by rw [hone];exact (one_has _ _).2 rfl) hper
    ·exact .inl c
   ·rename_i h2
    obtain ⟨g1,g2,g3,g4,_⟩:=halves_ok hb (by omega)
    have n1:=count_pos g1.o
    have n2:=count_pos g2.o
    obtain ⟨a,ha⟩:=cover_some hm ho f b.h1 g1 (by omega) (fun v hv=>h v ((g4 v).2 (.inl hv)))
    obtain ⟨c,hc'⟩:=cover_some hm ho f b.h2 g2 (by omega) (fun v hv=>h v ((g4 v).2 (.inr hv)))
    exact ⟨a ++ c,by rw [ha,hc'];rfl⟩
theorem in_trans {a b c:TB} (h:a.in b) (k:b.in c):a.in c:=by unfold TB.in at *;omega
theorem apart_in {a b c d:TB} (h:a.apart b) (k1:c.in a) (k2:d.in b):c.apart d:=by unfold TB.in TB.apart at *;omega
theorem in_refl (a:TB):a.in a:=by unfold TB.in;omega
theorem sumC_append (L M:List TB):sumC (L ++ M)=sumC L+sumC M:=by simp [sumC]
theorem cover_spec {m:TM} {l:List TH} {n:Int}:∀ {f:Nat} {b:TB} {L:List TB},b.Ok→TM.cover m l n f b=some L→(∀ c ∈ L,c.Ok∧c.in b∧m.proved c l n)∧L.Pairwise TB.apart∧sumC L=b.count
 | 0,_,_,_,h=>by cases h
 | f+1,b,L,hb,h=>by
  have hp:=count_pos hb.o
  unfold TM.cover at h
  split at h
  ·rename_i h1
   cases h
   refine ⟨fun c hc=>?_,by simp,by simp [sumC]⟩
   rw [List.mem_singleton] at hc
   subst hc
   exact ⟨hb,in_refl _,h1⟩
  ·split at h
   ·cases h
   ·obtain ⟨a,h1,h2⟩:=Option.bind_eq_some_iff.1 h
    obtain ⟨c,h3,h4⟩:=Option.map_eq_some_iff.1 h2
    subst h4
    obtain ⟨g1,g2,g3,_,g5,g6,g7⟩:=halves_ok hb (by omega)
    obtain ⟨a1,a2,a3⟩:=cover_spec g1 h1
    obtain ⟨c1,c2,c3⟩:=cover_spec g2 h3
    refine ⟨fun d hd=>?_,?_,by rw [sumC_append];omega⟩
    ·rcases List.mem_append.1 hd with hd | hd
     ·exact ⟨(a1 d hd).1,in_trans (a1 d hd).2.1 g5,(a1 d hd).2.2⟩
     ·exact ⟨(c1 d hd).1,in_trans (c1 d hd).2.1 g6,(c1 d hd).2.2⟩
    ·rw [List.pairwise_append]
     exact ⟨a2,c2,fun x hx y hy=>apart_in g7 (a1 x hx).2.1 (c1 y hy).2.1⟩

theorem steps_sorted (m:TM) (b:TB):(m.steps b).Pairwise V3.lt:=by
 unfold TM.steps TM.s1
 rw [List.pairwise_flatMap]
 refine ⟨fun i _=>?_,?_⟩
 ·unfold TM.s2
  rw [List.pairwise_flatMap]
  refine ⟨fun j _=>?_,?_⟩
  ·unfold TM.s3
   rw [List.pairwise_flatMap]
   refine ⟨fun k _=>by split <;> simp,?_⟩
   refine List.pairwise_lt_range.imp fun {a c} hac x hx y hy=>?_
   split at hx
   ·split at hy
    ·rw [List.mem_singleton] at hx hy
     subst hx;subst hy
     unfold V3.lt;dsimp only;omega
    ·cases hy
   ·cases hx
  ·refine List.pairwise_lt_range.imp fun {a c} hac x hx y hy=>?_
   unfold TM.s3 at hx hy
   simp only [List.mem_flatMap] at hx hy
   obtain ⟨k,_,hx⟩:=hx
   obtain ⟨k',_,hy⟩:=hy
   split at hx
   ·split at hy
    ·rw [List.mem_singleton] at hx hy
     subst hx;subst hy
     unfold V3.lt;dsimp only;omega
    ·cases hy
   ·cases hx
 ·refine List.pairwise_lt_range.imp fun {a c} hac x hx y hy=>?_
  unfold TM.s2 TM.s3 at hx hy
  simp only [List.mem_flatMap] at hx hy
  obtain ⟨j,_,k,_,hx⟩:=hx
  obtain ⟨j',_,k',_,hy⟩:=hy
  split at hx
  ·split at hy
   ·rw [List.mem_singleton] at hx hy
    subst hx;subst hy
    unfold V3.lt;dsimp only;omega
   ·cases hy
  ·cases hx
theorem steps_nodup (m:TM) (b:TB):(m.steps b).Nodup:=by
 unfold List.Nodup
 refine (steps_sorted m b).imp fun {a c} h=>?_
 rintro rfl
 exact V3.lt_irrefl a h
theorem nodup_len {α:Type} [DecidableEq α]:∀ {L M:List α},L.Nodup→(∀ x ∈ L,x ∈ M)→L.length≤M.length
 | [],_,_,_=>by simp
 | a :: L,M,hn,h=>by
  have ha:=h a (by simp)
  rw [List.nodup_cons] at hn
  have:=nodup_len (L:=L) (M:=M.erase a) hn.2 fun x hx=>(List.mem_erase_of_ne (fun e=>hn.1 (by rw [← e];exact hx))).2 (h x (by simp [hx]))
  rw [List.length_erase_of_mem ha] at this
  have:=List.length_pos_of_mem ha
  simp only [List.length_cons];omega
theorem cone_halves {m:TM} {b:TB} (l:List TH) (t:Int) (hb:b.Ok) (hc:1<b.count):(m.coneL l t (m.steps b.h1)).length+(m.coneL l t (m.steps b.h2)).length=(m.cone b l t).length:=by
 obtain ⟨g1,g2,g3,g4,_,_,g7⟩:=halves_ok hb hc
 have hd:(m.coneL l t (m.steps b.h1) ++ m.coneL l t (m.steps b.h2)).Nodup:=by
  rw [List.nodup_append]
  refine ⟨(steps_nodup m b.h1).filter _,(steps_nodup m b.h2).filter _,fun x hx y hy e=>?_⟩
  subst e
  have k1:=(steps_mem.1 (List.mem_filter.1 hx).1).1
  have k2:=(steps_mem.1 (List.mem_filter.1 hy).1).1
  unfold TB.has at k1 k2
  unfold TB.apart at g7
  omega
 have hn:(m.cone b l t).Nodup:=(steps_nodup m b).filter _
 have hm:∀ v,v ∈ m.coneL l t (m.steps b.h1) ++ m.coneL l t (m.steps b.h2) ↔ v ∈ m.cone b l t:=fun v=>by
  unfold TM.cone TM.coneL
  rw [List.mem_append,List.mem_filter,List.mem_filter,List.mem_filter,steps_mem,steps_mem,steps_mem,g4 v]
  constructor
  ·rintro (⟨⟨a,b⟩,c⟩ | ⟨⟨a,b⟩,c⟩)
   ·exact ⟨⟨.inl a,b⟩,c⟩
   ·exact ⟨⟨.inr a,b⟩,c⟩
  ·rintro ⟨⟨a | a,b⟩,c⟩
   ·exact .inl ⟨⟨a,b⟩,c⟩
   ·exact .inr ⟨⟨a,b⟩,c⟩
 have k1:=nodup_len hd fun x hx=>(hm x).1 hx
 have k2:=nodup_len hn fun x hx=>(hm x).2 hx
 rw [List.length_append] at k1 k2
 omega
end Go.Proofs.Ytoiajhogondgcaa

/- The examples of chapter 5,by running. By an AI agent;nothing here is trusted. -/
namespace Go.Proofs.Ytoiajhogondgcaa
open Go.Av

def extC:CT:=⟨fun _ _=>none,fun _ _=>none⟩
theorem extC_ok:extC.ok Try.prog:=by
 refine ⟨fun _ _ _ h=>?_,fun _ _ _ h=>?_⟩ <;> cases h
def itC:IterT:=fun _ _=>none
theorem itC_ok:∀ g caps xs,itC g caps=some xs→SeqA Try.prog g caps xs:=fun _ _ _ h=>by cases h
def owC:FuncId→Bool:=fun _=>false
def tabC:List (Nat × Nat × Nat × MC × List (Nat × Option (Option Nat))):=[(4,33,0,c_top_trackShown,[(0,none)]),(14,30,3,c_track_ScoreOf,[(6,none),(7,none)]),(21,38,3,c_track_FirstAt,[(6,none),(7,none)]),(22,3,0,c_law05_Model,[(0,(some (some 12)))]),(23,6,0,c_law05_Hits,[(0,none)]),(30,15,1,c_track_first,[(2,none)]),(31,7,2,c_track_unless,[(4,none)]),(32,15,3,c_track_within,[(6,none)]),(34,24,3,c_track_model_score,[(6,none)]),(37,31,2,c_track_openStep,[(4,(some (some 12))),(5,(some (some 3))),(6,none)]),(38,11,1,c_track_hitsErr,[(2,none)]),(51,6,1,c_track_placeErr,[(2,none)]),(52,18,3,c_track_model_firstAt,[(6,none),(7,none)]),(58,17,2,c_track_model_permitted,[(4,none)]),(59,38,3,c_track_model_penalty,[(6,none)]),(61,8,1,c_track_open,[(2,(some (some 12))),(3,none)]),(62,9,2,c_track_vector_fits,[(4,none)]),(63,34,1,c_track_CheckHits,[(2,none),(3,none)]),(64,26,2,c_sort_Search,[(4,none)]),(65,14,4,c_track_model_firstAt_1,[(5,none)]),(66,70,3,c_track_model_reached,[(6,none)]),(69,25,2,c_track_model_ends,[(4,(some (some 4))),(5,(some (some 4)))]),(72,22,2,c_track_vector_dot,[(4,none)]),(73,81,1,c_track_CheckModel,[(2,none)]),(74,9,2,c_slices_ContainsFunc_int_int,[(4,none)]),(75,10,2,c_track_vector_fits_1,[(3,none)]),(76,6,1,c_track_timeErr,[(2,none)]),(77,21,2,c_track_vector_minus,[(4,(some (some 3)))]),(78,14,1,c_track_model_slow,[(2,none)]),(81,19,2,c_slices_IndexFunc_int_int,[(4,none)])]
theorem tabC_ok:∀ f c,lookC tabC f=some c→cFun Try.prog f=some c:=by
 refine lookC_ok ?_
 unfold tabC
 simp only [List.forall_mem_cons]
 exact ⟨f_top_trackShown,f_track_ScoreOf,f_track_FirstAt,f_law05_Model,f_law05_Hits,f_track_first,f_track_unless,f_track_within,f_track_model_score,f_track_openStep,f_track_hitsErr,f_track_placeErr,f_track_model_firstAt,f_track_model_permitted,f_track_model_penalty,f_track_open,f_track_vector_fits,f_track_CheckHits,f_sort_Search,f_track_model_firstAt_1,f_track_model_reached,f_track_model_ends,f_track_vector_dot,f_track_CheckModel,f_slices_ContainsFunc_int_int,f_track_vector_fits_1,f_track_timeErr,f_track_vector_minus,f_track_model_slow,f_slices_IndexFunc_int_int,fun p hp=>by cases hp⟩
theorem trackShown_run:(callX extC owC itC (lookC tabC) 100 40).v 4 []=some (.bool true):=by kernel_rfl
theorem trackShown_s:Sound Try.prog 4 [] (.bool true):=(callX_sound extC_ok itC_ok tabC_ok 40).1 _ _ _ trackShown_run
end Go.Proofs.Ytoiajhogondgcaa

/- The marked code of law functions;printed by a program. By an AI agent;nothing here is trusted. -/
namespace Go.Proofs.Ytoiajhogondgcaa
open Go.Av
def cl_top_TopTrackTwoWays_b8:ML:=(.seq (.seq (.reg 4074071952668972172536891376818756322102936787331872501272280898708762599526674492551136540 [mV 298 39,mV 299 10,mO 300 (.len false (.t 299)),mO 301 (.bin .lss (.t 298) (.t 300))] false []) (.cond (.t 301) .skip (.exit 8))) (.seq (.block 9 (.reg 1080184341788 [mV 304 38,mV 305 304,mG 305 false 306 (.mv (.t 10)),mG 305 false 307 (.mv (.t 39)),mG 305 false 308 (.indexAddr (.t 306) (.t 307) 3),mG 305 false 309 (.load (some 3) (.t 308)),mG 305 false 310 (.mv (.t 33)),mG 305 false 311 (.mv (.t 35)),mG 305 false 312 (.indexAddr (.t 310) (.t 311) 3),mG 305 false 313 (.load (some 3) (.t 312)),mG 305 false 314 (.eqS false [1,1,1] (.t 309) (.t 313)),mO 315 (.pick (.t 305) (.c (.bool true)) (.t 314)),mV 38 315] true [])) (.reg 1080184341788 [mV 302 39,mO 303 (.bin .add (.t 302) (.c (.int .i64 1))),mV 39 303] false [])))
def cl_top_TopTrackTwoWays_b6:ML:=(.seq (.seq (.reg 121416805764108066932466369176469931665150427440758720078238275608681517874717721884 [mV 273 35,mV 274 33,mO 275 (.len false (.t 274)),mO 276 (.bin .lss (.t 273) (.t 275))] false []) (.cond (.t 276) .skip (.exit 6))) (.seq (.block 7 (.seq (.seq (.reg 62165404551223330269422781018352605012557018849668464680057997111644937126616064132380 [mO 279 (.load (some 12) (.t 3)),mV 280 33,mV 281 35,mO 282 (.indexAddr (.t 280) (.t 281) 3),mO 283 (.load (some 3) (.t 282)),mO 284 (.call 13 [(.t 279),(.t 283)]),mO 285 (.bin .neq (.t 284) (.c (.int .i64 0)))] true []) (.cond (.t 285) (.seq (.reg 64 [mO 6 (.mv (.c (.bool false)))] false []) .ret) .skip)) (.seq (.reg 255550620956 [mO 287 (.load (some 12) (.t 3)),mV 288 33,mV 289 35,mO 290 (.indexAddr (.t 288) (.t 289) 3),mO 291 (.load (some 3) (.t 290)),mO 292 (.fieldAddr (.t 4) 6),mO 293 (.load none (.t 292)),mO 294 (.call 10 [(.t 293)]),mO 295 (.call 14 [(.t 287),(.t 291),(.t 294)]),mV 286 295,mO 296 (.extract (.t 286) 0),mO 297 (.extract (.t 286) 1),mV 36 296,mV 37 297] true []) (.seq (.reg 530428527900 [mO 38 (.mv (.c (.bool false)))] false []) (.seq (.seq (.reg 1080184341788 [mO 39 (.mv (.c (.int .i64 0)))] false []) (.block 8 (.loop cl_top_TopTrackTwoWays_b8))) (.seq (.seq (.reg 136703170298938245273281389194851335334573089430825777276610662900622062449960995201469897834038556 [mV 316 37,mO 317 (.bin .neq (.t 316) (.c (.int .i64 0))),mV 318 317,mG 318 false 319 (.mv (.t 38)),mG 318 false 320 (.mv (.t 36)),mG 318 false 321 (.mv (.t 8)),mG 318 false 322 (.mv (.t 2)),mG 318 false 323 (.bin .add (.t 321) (.t 322)),mG 318 false 324 (.bin .leq (.t 320) (.t 323)),mG 318 false 325 (.eqB true (.t 319) (.t 324)),mO 326 (.pick (.t 318) (.c (.bool true)) (.t 325))] false []) (.cond (.t 326) (.seq (.reg 64 [mO 6 (.mv (.c (.bool false)))] false []) .ret) .skip)) (.seq (.reg 273406340597876490546562778389702670669146178861651554553221325801244124899921990402939196520072476 [mV 327 38] false []) (.cond (.t 327) (.reg 49392190748 [mV 328 31,mO 329 (.bin .add (.t 328) (.c (.int .i64 1))),mV 31 329] false []) .skip)))))))) (.reg 49392190748 [mV 277 35,mO 278 (.bin .add (.t 277) (.c (.int .i64 1))),mV 35 278] false [])))
def cl_top_TopTrackTwoWays_b4:ML:=(.seq (.seq (.reg 3618502788666131106986593281521497120414687020801267626233049500253727819036 [mV 250 32,mO 251 (.bin .lss (.t 250) (.c (.int .i64 2)))] false []) (.cond (.t 251) .skip (.exit 4))) (.seq (.block 5 (.seq (.reg 32212321564 [mO 255 (.load (some 12) (.t 3)),mV 256 32,mO 257 (.indexArr (.t 16) (.t 256) 6 2),mO 258 (.load (some 6) (.t 257)),mO 259 (.call 20 [(.t 255),(.t 258)]),mV 254 259,mO 260 (.extract (.t 254) 0),mO 261 (.extract (.t 254) 1),mV 33 260,mV 34 261] true []) (.seq (.seq (.reg 7588550360256754183279148073529370729071901715047420004889892225542594879115298076 [mV 262 34,mO 263 (.bin .neq (.t 262) (.c (.int .i64 0))),mV 264 263,mG 264 false 265 (.mv (.t 33)),mG 264 false 266 (.len false (.t 265)),mG 264 false 267 (.mv (.t 32)),mG 264 false 268 (.indexArr (.t 16) (.t 267) 6 2),mG 264 false 269 (.load (some 6) (.t 268)),mG 264 false 270 (.call 7 [(.t 269)]),mG 264 false 271 (.bin .gtr (.t 266) (.t 270)),mO 272 (.pick (.t 264) (.c (.bool true)) (.t 271))] false []) (.cond (.t 272) (.seq (.reg 64 [mO 6 (.mv (.c (.bool false)))] false []) .ret) .skip)) (.seq (.reg 49392190748 [mO 35 (.mv (.c (.int .i64 0)))] false []) (.block 6 (.loop cl_top_TopTrackTwoWays_b6)))))) (.reg 6442517788 [mV 252 32,mO 253 (.bin .add (.t 252) (.c (.int .i64 1))),mV 32 253] false [])))
def cl_top_TopTrackTwoWays_b2:ML:=(.seq (.seq (.reg 45671926166590716193865151022383844364256085404 [mV 154 22,mO 155 (.bin .lss (.t 154) (.c (.int .i64 2)))] false []) (.cond (.t 155) .skip (.exit 2))) (.seq (.block 3 (.seq (.seq (.reg 5846006549323611672814739330865132078623738365340 [mV 158 22,mO 159 (.indexArr (.t 16) (.t 158) 6 2),mO 160 (.load (some 6) (.t 159)),mO 161 (.call 16 [(.t 160)]),mO 162 (.bin .neq (.t 161) (.c (.int .i64 0)))] false []) (.cond (.t 162) (.seq (.reg 64 [mO 6 (.mv (.c (.bool false)))] false []) .ret) .skip)) (.seq (.reg 16582044 [mV 163 22,mO 164 (.indexArr (.t 16) (.t 163) 6 2),mO 165 (.load (some 6) (.t 164)),mO 166 (.fieldAddr (.t 4) 6),mO 167 (.load none (.t 166)),mO 168 (.call 10 [(.t 167)]),mO 169 (.build [(.int .i64 0),(.int .i64 0),(.int .i64 0),(.int .i64 0),(.int .i64 0),(.int .i64 0),.nils] [(0,(6,(.t 165))),(6,(1,(.t 168)))]),mO 23 (.alloc 31 7 (.agg [(.int .i64 0),(.int .i64 0),(.int .i64 0),(.int .i64 0),(.int .i64 0),(.int .i64 0),.nils])),⟨none,none,.store 7 (.t 23) (.t 169)⟩] true [(mO 164 (.indexArr (.t 16) (.t 163) 6 2),mO 23 (.alloc 31 7 (.agg [(.int .i64 0),(.int .i64 0),(.int .i64 0),(.int .i64 0),(.int .i64 0),(.int .i64 0),.nils]))),(mO 165 (.load (some 6) (.t 164)),mO 23 (.alloc 31 7 (.agg [(.int .i64 0),(.int .i64 0),(.int .i64 0),(.int .i64 0),(.int .i64 0),(.int .i64 0),.nils]))),(mO 166 (.fieldAddr (.t 4) 6),mO 23 (.alloc 31 7 (.agg [(.int .i64 0),(.int .i64 0),(.int .i64 0),(.int .i64 0),(.int .i64 0),(.int .i64 0),.nils]))),(mO 167 (.load none (.t 166)),mO 23 (.alloc 31 7 (.agg [(.int .i64 0),(.int .i64 0),(.int .i64 0),(.int .i64 0),(.int .i64 0),(.int .i64 0),.nils]))),(mO 168 (.call 10 [(.t 167)]),mO 23 (.alloc 31 7 (.agg [(.int .i64 0),(.int .i64 0),(.int .i64 0),(.int .i64 0),(.int .i64 0),(.int .i64 0),.nils])))]) (.seq (.reg 134022556 [mO 171 (.load (some 12) (.t 3)),mV 172 22,mO 173 (.indexArr (.t 16) (.t 172) 6 2),mO 174 (.load (some 6) (.t 173)),mO 175 (.fieldAddr (.t 4) 6),mO 176 (.load none (.t 175)),mO 177 (.call 10 [(.t 176)]),mO 178 (.call 9 [(.t 171),(.t 174),(.t 177)]),mV 170 178,mO 179 (.extract (.t 170) 0),mO 180 (.extract (.t 170) 1),mO 181 (.extract (.t 170) 2),mO 24 (.alloc 22 3 (.agg [(.int .i64 0),(.int .i64 0),(.int .i64 0)])),⟨none,none,.store 3 (.t 24) (.t 179)⟩,mV 25 180,mV 26 181] true [(mO 171 (.load (some 12) (.t 3)),mO 24 (.alloc 22 3 (.agg [(.int .i64 0),(.int .i64 0),(.int .i64 0)]))),(mO 173 (.indexArr (.t 16) (.t 172) 6 2),mO 24 (.alloc 22 3 (.agg [(.int .i64 0),(.int .i64 0),(.int .i64 0)]))),(mO 174 (.load (some 6) (.t 173)),mO 24 (.alloc 22 3 (.agg [(.int .i64 0),(.int .i64 0),(.int .i64 0)]))),(mO 175 (.fieldAddr (.t 4) 6),mO 24 (.alloc 22 3 (.agg [(.int .i64 0),(.int .i64 0),(.int .i64 0)]))),(mO 176 (.load none (.t 175)),mO 24 (.alloc 22 3 (.agg [(.int .i64 0),(.int .i64 0),(.int .i64 0)]))),(mO 177 (.call 10 [(.t 176)]),mO 24 (.alloc 22 3 (.agg [(.int .i64 0),(.int .i64 0),(.int .i64 0)]))),(mO 178 (.call 9 [(.t 171),(.t 174),(.t 177)]),mO 24 (.alloc 22 3 (.agg [(.int .i64 0),(.int .i64 0),(.int .i64 0)])))]) (.seq (.reg 528287132 [mO 183 (.load (some 12) (.t 3)),mO 184 (.load (some 7) (.t 23)),mV 185 8,mO 186 (.call 17 [(.t 183),(.t 184),(.t 185)]),mV 182 186,mO 187 (.extract (.t 182) 0),mO 188 (.extract (.t 182) 1),mV 27 187,mV 28 188] false []) (.seq (.seq (.reg 50216813883093446110686315385661331328818843555712535954844 [mV 189 28,mO 190 (.bin .neq (.t 189) (.c (.int .i64 0))),mV 191 190,mG 191 false 192 (.mv (.t 27)),mG 191 false 193 (.len false (.t 192)),mG 191 false 194 (.bin .gtr (.t 193) (.c (.int .i64 700))),mO 195 (.pick (.t 191) (.c (.bool true)) (.t 194))] false []) (.cond (.t 195) (.seq (.reg 64 [mO 6 (.mv (.c (.bool false)))] false []) .ret) .skip)) (.seq (.reg 125633948 [mV 196 18,mV 197 27,mO 198 (.append 28 6 48 (.agg [(.int .i64 0),(.int .i64 0),(.int .i64 0),(.int .i64 0),(.int .i64 0),(.int .i64 0)]) (.t 196) (.t 197)),mV 18 198] false []) (.seq (.seq (.reg 1606938044258990275541962092341162602522202993782792960935324 [mV 199 26,mO 200 (.bin .eql (.t 199) (.c (.int .i64 12)))] false []) (.cond (.t 200) (.exit 3) .skip)) (.seq (.seq (.reg 6427752177035961102167848369364650410088811975131171399730588 [mV 201 26,mO 202 (.bin .neq (.t 201) (.c (.int .i64 0)))] false []) (.cond (.t 202) (.seq (.reg 64 [mO 6 (.mv (.c (.bool false)))] false []) .ret) .skip)) (.seq (.reg 842498333348457493583344221469363458551160763204392890034546345372 [mV 203 21,mO 204 (.un .not (.t 203)),mV 205 204,mG 205 false 206 (.mv (.t 25)),mG 205 false 207 (.mv (.t 20)),mG 205 false 208 (.bin .lss (.t 206) (.t 207)),mO 209 (.pick (.t 205) (.c (.bool true)) (.t 208)),mV 210 209,mG 210 false 211 (.mv (.t 25)),mG 210 false 212 (.mv (.t 20)),mG 210 false 213 (.bin .eql (.t 211) (.t 212)),mG 210 false 214 (.mv (.t 213)),mG 214 true 215 (.load (some 3) (.t 24)),mG 214 true 216 (.load (some 3) (.t 19)),mG 214 true 217 (.call 18 [(.t 215),(.t 216)]),mG 210 false 218 (.pick (.t 214) (.t 217) (.c (.bool false))),mO 219 (.pick (.t 210) (.c (.bool true)) (.t 218))] false []) (.cond (.t 219) (.reg 8193436 [mO 220 (.load (some 3) (.t 24)),mV 221 25,⟨none,none,.store 3 (.t 19) (.t 220)⟩,mV 20 221,mO 21 (.mv (.c (.bool true)))] false []) .skip))))))))))) (.reg 8193436 [mV 156 22,mO 157 (.bin .add (.t 156) (.c (.int .i64 1))),mV 22 157] false [])))
def cl_top_TopTrackTwoWays_b0:ML:=(.seq (.seq (.reg 41538374868278621028243970633774492 [mV 111 13,mO 112 (.fieldAddr (.t 4) 6),mO 113 (.load none (.t 112)),mO 114 (.len false (.t 113)),mO 115 (.bin .lss (.t 111) (.t 114))] false []) (.cond (.t 115) .skip (.exit 0))) (.seq (.block 1 (.seq (.reg 62876 [mO 119 (.load (some 12) (.t 3)),mO 120 (.load (some 3) (.t 7)),mO 121 (.fieldAddr (.t 4) 6),mO 122 (.load none (.t 121)),mV 123 13,mO 124 (.indexAddr (.t 122) (.t 123) 5),mO 125 (.load (some 5) (.t 124)),mO 126 (.buildSlice 49 5 1 (.agg [(.int .i64 0),(.int .i64 0),(.int .i64 0),(.int .i64 0),(.int .i64 0)]) [(0,(.t 125))]),mO 127 (.call 14 [(.t 119),(.t 120),(.t 126)]),mV 118 127,mO 128 (.extract (.t 118) 0),mO 129 (.extract (.t 118) 1),mV 14 128,mV 15 129] true [(mO 119 (.load (some 12) (.t 3)),mO 126 (.buildSlice 49 5 1 (.agg [(.int .i64 0),(.int .i64 0),(.int .i64 0),(.int .i64 0),(.int .i64 0)]) [(0,(.t 125))])),(mO 120 (.load (some 3) (.t 7)),mO 126 (.buildSlice 49 5 1 (.agg [(.int .i64 0),(.int .i64 0),(.int .i64 0),(.int .i64 0),(.int .i64 0)]) [(0,(.t 125))]))]) (.seq (.seq (.reg 87112285931760246646623899502532662162844 [mV 130 15,mO 131 (.bin .neq (.t 130) (.c (.int .i64 0))),mV 132 131,mG 132 false 133 (.mv (.t 14)),mG 132 false 134 (.call 8 [(.t 133),(.c (.int .i64 0)),(.c (.int .i64 10000))]),mG 132 false 135 (.un .not (.t 134)),mO 136 (.pick (.t 132) (.c (.bool true)) (.t 135))] false []) (.cond (.t 136) (.seq (.reg 64 [mO 6 (.mv (.c (.bool false)))] false []) .ret) .skip)) (.reg 13724 [mV 137 12,mV 138 14,mO 139 (.bin .add (.t 137) (.t 138)),mV 12 139] false [])))) (.reg 13724 [mV 116 13,mO 117 (.bin .add (.t 116) (.c (.int .i64 1))),mV 13 117] false [])))
def cl_top_TopTrackTwoWays_21:ML:=(.seq (.reg 64 [mV 330 31,mV 331 10,mO 332 (.len false (.t 331)),mO 333 (.bin .eql (.t 330) (.t 332)),mV 6 333] false []) .ret)
def cl_top_TopTrackTwoWays_20:ML:=(.seq (.seq (.reg 6442517788 [mO 32 (.mv (.c (.int .i64 0)))] false []) (.block 4 (.loop cl_top_TopTrackTwoWays_b4))) (.cut cl_top_TopTrackTwoWays_21))
def cl_top_TopTrackTwoWays_16:ML:=(.seq (.seq (.reg 13803492693581127574869511724554050904902217944340773110325048447927580 [mV 222 21,mO 223 (.un .not (.t 222)),mV 224 223,mG 224 false 225 (.load (some 3) (.t 19)),mG 224 false 226 (.load (some 3) (.t 7)),mG 224 false 227 (.eqS true [1,1,1] (.t 225) (.t 226)),mO 228 (.pick (.t 224) (.c (.bool true)) (.t 227)),mV 229 228,mG 229 false 230 (.mv (.t 20)),mG 229 false 231 (.mv (.t 8)),mG 229 false 232 (.bin .neq (.t 230) (.t 231)),mO 233 (.pick (.t 229) (.c (.bool true)) (.t 232))] false []) (.cond (.t 233) (.seq (.reg 64 [mO 6 (.mv (.c (.bool false)))] false []) .ret) .skip)) (.seq (.reg 1610679580 [mO 235 (.load (some 12) (.t 3)),mO 236 (.load (some 7) (.t 4)),mO 237 (.call 12 [(.t 236)]),mV 238 18,mV 239 8,mO 240 (.build [.nils,(.int .i64 0)] [(0,(1,(.t 238))),(1,(1,(.t 239)))]),mO 241 (.call 19 [(.t 235),(.t 237),(.t 240)]),mV 234 241,mO 242 (.extract (.t 234) 0),mO 243 (.extract (.t 234) 1),mV 29 242,mV 30 243] true []) (.seq (.seq (.reg 904625697166532776746648320380374280103671755200316906558262375061821392156 [mV 244 30,mO 245 (.bin .neq (.t 244) (.c (.int .i64 0))),mV 246 245,mG 246 false 247 (.mv (.t 29)),mG 246 false 248 (.bin .neq (.t 247) (.c (.int .i64 0))),mO 249 (.pick (.t 246) (.c (.bool true)) (.t 248))] false []) (.cond (.t 249) (.seq (.reg 64 [mO 6 (.mv (.c (.bool false)))] false []) .ret) .skip)) (.seq (.reg 2147550492 [mO 31 (.mv (.c (.int .i64 0)))] false []) (.cut cl_top_TopTrackTwoWays_20)))))
def cl_top_TopTrackTwoWays_15:ML:=(.seq (.seq (.reg 8193436 [mO 22 (.mv (.c (.int .i64 0)))] false []) (.block 2 (.loop cl_top_TopTrackTwoWays_b2))) (.cut cl_top_TopTrackTwoWays_16))
def cl_top_TopTrackTwoWays_10:ML:=(.seq (.seq (.reg 5575186299632655785383929568162090376496540 [mV 140 12,mV 141 8,mO 142 (.bin .neq (.t 140) (.t 141))] false []) (.cond (.t 142) (.seq (.reg 64 [mO 6 (.mv (.c (.bool false)))] false []) .ret) .skip)) (.seq (.reg 198044 [mO 144 (.fieldAddr (.t 4) 0),mO 145 (.load (some 6) (.t 144)),mO 146 (.call 15 [(.t 145)]),mV 143 146,mO 147 (.extract (.t 143) 0),mO 148 (.extract (.t 143) 1),mO 16 (.alloc 50 12 (.agg [(.int .i64 0),(.int .i64 0),(.int .i64 0),(.int .i64 0),(.int .i64 0),(.int .i64 0),(.int .i64 0),(.int .i64 0),(.int .i64 0),(.int .i64 0),(.int .i64 0),(.int .i64 0)])),⟨none,none,.store 12 (.t 16) (.t 147)⟩,mV 17 148] false []) (.seq (.seq (.reg 1427247692705959881058285969449495136382944668 [mV 149 17,mO 150 (.bin .neq (.t 149) (.c (.int .i64 0)))] false []) (.cond (.t 150) (.seq (.reg 64 [mV 151 17,mO 152 (.bin .eql (.t 151) (.c (.int .i64 12))),mV 6 152] false []) .ret) .skip)) (.seq (.reg 329116 [mO 18 (.mv (.c .nils))] false []) (.seq (.reg 3999132 [mO 153 (.build [(.int .i64 0),(.int .i64 0),(.int .i64 0)] []),mO 19 (.alloc 22 3 (.agg [(.int .i64 0),(.int .i64 0),(.int .i64 0)])),⟨none,none,.store 3 (.t 19) (.t 153)⟩,mO 20 (.mv (.c (.int .i64 0))),mO 21 (.mv (.c (.bool false)))] false []) (.cut cl_top_TopTrackTwoWays_15))))))
def cl_top_TopTrackTwoWays_9:ML:=(.seq (.seq (.reg 13724 [mO 13 (.mv (.c (.int .i64 0)))] false []) (.block 0 (.loop cl_top_TopTrackTwoWays_b0))) (.cut cl_top_TopTrackTwoWays_10))
def cl_top_TopTrackTwoWays:ML:=(.seq (.reg 28 [mO 3 (.box 26 12 (.t 0)),mO 4 (.box 31 7 (.t 1)),mO 6 (.mv (.c (.bool false)))] false []) (.seq (.seq (.reg 2199023255580 [mO 40 (.call 4 []),mO 41 (.un .not (.t 40))] false []) (.cond (.t 41) (.seq (.reg 64 [mO 6 (.mv (.c (.bool false)))] false []) .ret) .skip)) (.seq (.seq (.reg 73786976294838206492 [mO 42 (.load (some 12) (.t 3)),mO 43 (.call 5 [(.t 42)]),mO 44 (.bin .neq (.t 43) (.c (.int .i64 0))),mV 45 44,mG 45 false 46 (.load (some 7) (.t 4)),mG 45 false 47 (.call 6 [(.t 46)]),mG 45 false 48 (.bin .neq (.t 47) (.c (.int .i64 0))),mO 49 (.pick (.t 45) (.c (.bool true)) (.t 48)),mV 50 49,mG 50 false 51 (.fieldAddr (.t 4) 0),mG 50 false 52 (.load (some 6) (.t 51)),mG 50 false 53 (.call 7 [(.t 52)]),mG 50 false 54 (.bin .gtr (.t 53) (.c (.int .i64 120))),mO 55 (.pick (.t 50) (.c (.bool true)) (.t 54)),mV 56 55,mG 56 false 57 (.fieldAddr (.t 4) 6),mG 56 false 58 (.load none (.t 57)),mG 56 false 59 (.len false (.t 58)),mG 56 false 60 (.bin .gtr (.t 59) (.c (.int .i64 8))),mO 61 (.pick (.t 56) (.c (.bool true)) (.t 60)),mV 62 61,mG 62 false 63 (.mv (.t 2)),mG 62 false 64 (.call 8 [(.t 63),(.c (.int .i64 0)),(.c (.int .i64 1000))]),mG 62 false 65 (.un .not (.t 64)),mO 66 (.pick (.t 62) (.c (.bool true)) (.t 65))] false []) (.cond (.t 66) (.seq (.reg 64 [mO 6 (.mv (.c (.bool true)))] false []) .ret) .skip)) (.seq (.reg 924 [mO 68 (.load (some 12) (.t 3)),mO 69 (.fieldAddr (.t 4) 0),mO 70 (.load (some 6) (.t 69)),mO 71 (.fieldAddr (.t 4) 6),mO 72 (.load none (.t 71)),mO 73 (.call 10 [(.t 72)]),mO 74 (.call 9 [(.t 68),(.t 70),(.t 73)]),mV 67 74,mO 75 (.extract (.t 67) 0),mO 76 (.extract (.t 67) 1),mO 77 (.extract (.t 67) 2),mO 7 (.alloc 22 3 (.agg [(.int .i64 0),(.int .i64 0),(.int .i64 0)])),⟨none,none,.store 3 (.t 7) (.t 75)⟩,mV 8 76,mV 9 77] true [(mO 68 (.load (some 12) (.t 3)),mO 7 (.alloc 22 3 (.agg [(.int .i64 0),(.int .i64 0),(.int .i64 0)]))),(mO 69 (.fieldAddr (.t 4) 0),mO 7 (.alloc 22 3 (.agg [(.int .i64 0),(.int .i64 0),(.int .i64 0)]))),(mO 70 (.load (some 6) (.t 69)),mO 7 (.alloc 22 3 (.agg [(.int .i64 0),(.int .i64 0),(.int .i64 0)]))),(mO 71 (.fieldAddr (.t 4) 6),mO 7 (.alloc 22 3 (.agg [(.int .i64 0),(.int .i64 0),(.int .i64 0)]))),(mO 72 (.load none (.t 71)),mO 7 (.alloc 22 3 (.agg [(.int .i64 0),(.int .i64 0),(.int .i64 0)]))),(mO 73 (.call 10 [(.t 72)]),mO 7 (.alloc 22 3 (.agg [(.int .i64 0),(.int .i64 0),(.int .i64 0)]))),(mO 74 (.call 9 [(.t 68),(.t 70),(.t 73)]),mO 7 (.alloc 22 3 (.agg [(.int .i64 0),(.int .i64 0),(.int .i64 0)])))]) (.seq (.reg 3996 [mO 79 (.load (some 12) (.t 3)),mO 80 (.load (some 7) (.t 4)),mO 81 (.call 12 [(.t 80)]),mV 82 2,mO 83 (.call 11 [(.t 79),(.t 81),(.t 82)]),mV 78 83,mO 84 (.extract (.t 78) 0),mO 85 (.extract (.t 78) 1),mV 10 84,mV 11 85] true []) (.seq (.seq (.reg 79228162514264337593543952284 [mV 86 9,mV 87 11,mO 88 (.bin .neq (.t 86) (.t 87)),mV 89 88,mG 89 false 90 (.mv (.t 9)),mG 89 false 91 (.bin .neq (.t 90) (.c (.int .i64 0))),mG 89 false 92 (.mv (.t 91)),mG 92 true 93 (.mv (.t 9)),mG 92 true 94 (.bin .neq (.t 93) (.c (.int .i64 12))),mG 89 false 95 (.pick (.t 92) (.t 94) (.c (.bool false))),mO 96 (.pick (.t 89) (.c (.bool true)) (.t 95))] false []) (.cond (.t 96) (.seq (.reg 64 [mO 6 (.mv (.c (.bool false)))] false []) .ret) .skip)) (.seq (.seq (.reg 316912650057057350374175802780 [mV 97 9,mO 98 (.bin .neq (.t 97) (.c (.int .i64 0)))] false []) (.cond (.t 98) (.seq (.reg 64 [mO 6 (.mv (.c (.bool true)))] false []) .ret) .skip)) (.seq (.seq (.reg 1298074214633706907132624082306460 [mO 99 (.load (some 12) (.t 3)),mO 100 (.load (some 3) (.t 7)),mO 101 (.call 13 [(.t 99),(.t 100)]),mO 102 (.bin .neq (.t 101) (.c (.int .i64 0))),mV 103 102,mG 103 false 104 (.mv (.t 10)),mG 103 false 105 (.len false (.t 104)),mG 103 false 106 (.fieldAddr (.t 4) 0),mG 103 false 107 (.load (some 6) (.t 106)),mG 103 false 108 (.call 7 [(.t 107)]),mG 103 false 109 (.bin .gtr (.t 105) (.t 108)),mO 110 (.pick (.t 103) (.c (.bool true)) (.t 109))] false []) (.cond (.t 110) (.seq (.reg 64 [mO 6 (.mv (.c (.bool false)))] false []) .ret) .skip)) (.seq (.reg 5532 [mO 12 (.mv (.c (.int .i64 0)))] false []) (.cut cl_top_TopTrackTwoWays_9))))))))))
def c_top_TopTrackTwoWays:MC:=cl_top_TopTrackTwoWays.er
theorem f_top_TopTrackTwoWays:cFun Try.prog 3=some (334,3,c_top_TopTrackTwoWays,[(6,none)]):=by kernel_rfl
theorem e_top_TopTrackTwoWays:cl_top_TopTrackTwoWays.er=c_top_TopTrackTwoWays:=rfl
end Go.Proofs.Ytoiajhogondgcaa

/- TopTrackTwoWays: its parts. By an AI agent;nothing here is trusted. -/
namespace Go.Proofs.Ytoiajhogondgcaa
open Go.Av

section
variable {P:Program} {N:Nat} {Q:Exit→Env→Store→Prop} {e:Env} {s:Store}
def rndL (P:Program) (N:Nat) (b:ML) (Q:Exit→Env→Store→Prop):Nat→Env→Store→Prop
 | 0,_,_=>False
 | n+1,e,s=>∃ q,Weak (e,s) q∧AWM P N b.er (seqQ (rndL P N b Q n) Q .mk) q.1 q.2
theorem rndL_of {b:ML} {n:Nat} (q:Env × Store) (hw:Weak (e,s) q) (h:WL P N b (seqQ (rndL P N b Q n) Q .mk) q.1 q.2 .mk):rndL P N b Q (n+1) e s:=⟨q,hw,WL_sound h⟩
theorem rndL_by {b:ML} {n:Nat} (q q':Env × Store) (hw:Weak (e,s) q) (h:AWM P N b.er (fun ex e' s'=>ex=.normal∧Weak (e',s') q') q.1 q.2) (k:∀ e s,Weak (e,s) q'→rndL P N b Q n e s):rndL P N b Q (n+1) e s :=
 ⟨q,hw,h.mono fun ex e' s' ⟨h1,h2⟩=>by subst h1;exact k e' s' h2⟩
theorem rndL_W {b:ML}:∀ (n:Nat) {e:Env} {s:Store},rndL P N b Q n e s→∀ c,cCode P N c=some (.loop b.er)→∀ (ro:Option Nat) (rm:Nat) (B:Nat) (w0:World) (ok0:F0) (ok:Nat→Prop) (ρ:Nat→Option Nat) (a:Act) (w:World),Plain ro ok0→Rel N B w0 ok0 ok ρ e s a w →
  ∃ cx,c=.loop cx∧Code.roundsIn (Fr ro) rm P cx (fun x a' w'=>∃ e' s' ok' ρ',Rel N B w0 ok0 ok' ρ' e' s' a' w'∧Q x e' s') n a w:=by
 intro n e s h c hc ro rm B w0 ok0 ok ρ a w hpl hR
 rcases cCode_inv hc with ⟨_,h'⟩ | ⟨_,_,_,_,_,_,h',_⟩ | ⟨_,_,_,_,_,h',_⟩ | ⟨_,_,_,_,_,_,h',_⟩ | ⟨_,_,_,_,h',_⟩ | ⟨cx,_,rfl,h',h1⟩ | ⟨_,_,h'⟩ | ⟨_,h'⟩ | ⟨_,_,_,_,_,_,_,h',_⟩ <;> first | (cases h';done) | skip
 cases h'
 refine ⟨cx,rfl,?_⟩
 clear hc
 induction n generalizing e s ok ρ a w with
 | zero=>exact h.elim
 | succ n ih =>
  obtain ⟨q,hw,h⟩:=h
  obtain ⟨ok1,ρ1,_,hR1⟩:=hw N B w0 ok0 ok ρ a w hpl.2 hR
  refine wpIn_mono (h cx h1 ro rm B w0 ok0 ok1 ρ1 a w (.inr hpl) hR1) fun ex a' w' ⟨e',s',ok',ρ',hR',hq⟩=>?_
  cases ex with
  | normal=>exact ih hq _ _ _ _ hR'
  | _=>exact ⟨e',s',ok',ρ',hR',hq⟩
theorem WL_rnd {b:ML} {t} (n:Nat) (h:rndL P N b Q n e s):WL P N (.loop b) Q e s t:=by
 intro c hc ro rm B w0 ok0 ok ρ a w hfl hR
 obtain ⟨cx,rfl,hr⟩:=rndL_W n h c hc ro rm B w0 ok0 ok ρ a w (hfl.resolve_left (by simp [ML.er,MC.flat])) hR
 exact wpIn_loop_rounds n hr
theorem WL_loopX {α:Type} (st:α→Env × Store) (mu:α→Nat) (x0:α) {b:ML} {t} (id:Nat) (R:Env→Store→Prop) (h0:Weak (e,s) (st x0))
  (hb:∀ x,WL P N b (fun ex e' s'=>match ex with
   | .normal=>∃ y,mu y<mu x∧Weak (e',s') (st y)
   | .exit j=>j=id∧R e' s'
   | _=>False) (st x).1 (st x).2 .mk) (hR:∀ e s,R e s→Q (.exit id) e s):WL P N (.loop b) Q e s t :=
 AWM.loop st mu x0 h0 fun x=>(WL_sound (hb x)).mono fun ex e s h=>by
  cases ex with
  | normal=>exact h
  | exit j=>obtain ⟨rfl,h⟩:=h;exact hR _ _ h
  | _=>exact h.elim
end

def isIn (C:List V3) (v:V3) (r:Nat):Bool:=(C.take r).any fun w=>decide (w=v)
theorem isIn_succ (C:List V3) (v:V3) (r:Nat) (h:r<C.length):isIn C v (r+1)=(isIn C v r || decide (C[r]=v)):=by
 unfold isIn
 rw [List.take_succ_eq_append_getElem h,List.any_append]
 simp
theorem isIn_all (C:List V3) (v:V3):isIn C v C.length=decide (v ∈ C):=by
 unfold isIn
 rw [List.take_length]
 apply Bool.eq_iff_iff.2
 simp
theorem v3_eq (a b:V3):(decide (a.x=b.x) && (decide (a.y=b.y) && decide (a.z=b.z)))=decide (a=b):=by
 apply Bool.eq_iff_iff.2
 rw [decide_eq_true_eq,Bool.and_eq_true,Bool.and_eq_true,decide_eq_true_eq,decide_eq_true_eq,decide_eq_true_eq]
 cases a;cases b
 simp
set_option maxHeartbeats 4000000 in
set_option maxRecDepth 10000 in
theorem TW_b8 (m:TM) (x:TS) (more n ct kk sc:Int) (C S:List V3) (qi:Nat) (hqi:qi<S.length) (hS:S.length≤1000) (hC:C.length≤1000) (r:Nat) (hr:r≤C.length) :
  WL Try.prog 334 cl_top_TopTrackTwoWays_b8 (fun ex e' s'=>match ex with | .normal=>∃ y:PSigma (fun r:Nat=>r≤C.length∧True),C.length - y.1<C.length - r∧Weak (e',s') ((fun r:Nat=>(envOf [(2,.int .i64 more),(3,.ptr 3 0 0),(4,.ptr 4 0 0),(8,.int .i64 n),(10,.sl (vecs C)),(16,.ptr 16 0 0),(31,.int .i64 ct),(32,.int .i64 kk),(33,.sl (vecs S)),(35,.int .i64 qi),(36,.int .i64 sc),(37,.int .i64 0),(38,.bool (isIn C S[qi] r)),(39,.int .i64 r)],stOf [(3,⟨26,12,[m.av]⟩),(4,⟨31,7,[x.av]⟩),(16,⟨50,12,[pairB x.b.h1 x.b.h2]⟩)])) y.1) | .exit j=>j=8∧s'=stOf [(3,⟨26,12,[m.av]⟩),(4,⟨31,7,[x.av]⟩),(16,⟨50,12,[pairB x.b.h1 x.b.h2]⟩)]∧e' 2=.int .i64 more∧e' 3=.ptr 3 0 0∧e' 4=.ptr 4 0 0∧e' 8=.int .i64 n∧e' 10=.sl (vecs C)∧e' 16=.ptr 16 0 0∧e' 31=.int .i64 ct∧e' 32=.int .i64 kk∧e' 33=.sl (vecs S)∧e' 35=.int .i64 qi∧e' 36=.int .i64 sc∧e' 37=.int .i64 0∧e' 38=.bool (decide (S[qi] ∈ C)) | _=>False) (envOf [(2,.int .i64 more),(3,.ptr 3 0 0),(4,.ptr 4 0 0),(8,.int .i64 n),(10,.sl (vecs C)),(16,.ptr 16 0 0),(31,.int .i64 ct),(32,.int .i64 kk),(33,.sl (vecs S)),(35,.int .i64 qi),(36,.int .i64 sc),(37,.int .i64 0),(38,.bool (isIn C S[qi] r)),(39,.int .i64 r)]) (stOf [(3,⟨26,12,[m.av]⟩),(4,⟨31,7,[x.av]⟩),(16,⟨50,12,[pairB x.b.h1 x.b.h2]⟩)]) .mk:=by
 by_cases h:r<C.length
 ·have h':(r:Int)<C.length:=by omega
  have hs:=isIn_succ C S[qi] r h
  by_cases hi:isIn C S[qi] r=true
  ·rw [hi,Bool.true_or] at hs
   simp only [cl_top_TopTrackTwoWays_b8,vecs_length,h',hi,decide_true,stepA,pairB,V3.av,TM.av,TS.av,TB.av,tk_indexArr,tk_slice2,rnd_s,Int.reduceAdd,Int.reduceSub,decide_true,decide_false,i64_1,i64_2,i64_3,i64_4,true_and,Int.one_mul,Int.cast_ofNat_Int,Int.reduceToNat,Nat.zero_mul,Nat.reduceMul,Nat.zero_add,Nat.mul_one,List.getElem?_cons_zero,List.getElem?_cons_succ,vZ,Int.reduceEq,Int.reduceNe,Int.reduceLT,Int.reduceLE,Nat.reduceEqDiff,Nat.reduceAdd,reduceIte,reduceCtorEq,Nat.reduceLT,Nat.reduceLeDiff,Nat.reduceShiftRight,Nat.reduceMod]
   refine ⟨by unfold I64;omega,⟨r+1,h,trivial⟩,by dsimp only;omega,?_⟩
   refine weakX [] (of_decide_eq_true rfl) (of_decide_eq_true rfl) ?_
   (simp only [hs,TM.av,TS.av,TB.av,V3.av,pairB,vcW,vZ,Int.reduceEq,Int.reduceNe,Int.reduceLT,Int.reduceLE,Nat.reduceEqDiff,Nat.reduceAdd,reduceIte,reduceCtorEq,Nat.reduceLT,Nat.reduceLeDiff,Nat.reduceShiftRight,Nat.reduceMod])
   (repeat' first | exact trivial | (with_reducible first | exact RnB.fxB (ints_fxB _) | rfl | refine And.intro ?_ ?_) | (with_reducible (first | refine RnB.bb ?_ | refine RnB.nb ?_);simp only [vcW,vZ,Int.reduceEq,Int.reduceNe,Int.reduceLT,Int.reduceLE,Nat.reduceEqDiff,Nat.reduceAdd,reduceIte,reduceCtorEq,Nat.reduceLT,Nat.reduceLeDiff,Nat.reduceShiftRight,Nat.reduceMod]) | (with_reducible first | refine RnB.ii ?_ | refine RnB.app ?_) | (with_reducible refine RnB.fxB ?_;simp only [vcW,vZ,Int.reduceEq,Int.reduceNe,Int.reduceLT,Int.reduceLE,Nat.reduceEqDiff,Nat.reduceAdd,reduceIte,reduceCtorEq,Nat.reduceLT,Nat.reduceLeDiff,Nat.reduceShiftRight,Nat.reduceMod]) | omega)
   all_goals first | rfl | exact RnB.fxB rfl | omega | skip
  ·have hi:=Bool.not_eq_true _ ▸ hi
   rw [hi,Bool.false_or] at hs
   simp only [cl_top_TopTrackTwoWays_b8,vecs_length,h',hi,decide_true,stepA,pairB,V3.av,TM.av,TS.av,TB.av,tk_indexArr,tk_slice2,rnd_s,Int.reduceAdd,Int.reduceSub,decide_true,decide_false,i64_1,i64_2,i64_3,i64_4,true_and,Int.one_mul,Int.cast_ofNat_Int,Int.reduceToNat,Nat.zero_mul,Nat.reduceMul,Nat.zero_add,Nat.mul_one,List.getElem?_cons_zero,List.getElem?_cons_succ,vZ,Int.reduceEq,Int.reduceNe,Int.reduceLT,Int.reduceLE,Nat.reduceEqDiff,Nat.reduceAdd,reduceIte,reduceCtorEq,Nat.reduceLT,Nat.reduceLeDiff,Nat.reduceShiftRight,Nat.reduceMod]
   simp only [vecs_get C r h,vecs_get S qi hqi,stepA,pairB,V3.av,TM.av,TS.av,TB.av,tk_indexArr,tk_slice2,rnd_s,Int.reduceAdd,Int.reduceSub,decide_true,decide_false,i64_1,i64_2,i64_3,i64_4,true_and,Int.one_mul,Int.cast_ofNat_Int,Int.reduceToNat,Nat.zero_mul,Nat.reduceMul,Nat.zero_add,Nat.mul_one,List.getElem?_cons_zero,List.getElem?_cons_succ,vZ,Int.reduceEq,Int.reduceNe,Int.reduceLT,Int.reduceLE,Nat.reduceEqDiff,Nat.reduceAdd,reduceIte,reduceCtorEq,Nat.reduceLT,Nat.reduceLeDiff,Nat.reduceShiftRight,Nat.reduceMod]
   refine ⟨by omega,by omega,by unfold I64;omega,⟨r+1,h,trivial⟩,by dsimp only;omega,?_⟩
   refine weakX [] (of_decide_eq_true rfl) (of_decide_eq_true rfl) ?_
   (simp only [hs,v3_eq,TM.av,TS.av,TB.av,V3.av,pairB,vcW,vZ,Int.reduceEq,Int.reduceNe,Int.reduceLT,Int.reduceLE,Nat.reduceEqDiff,Nat.reduceAdd,reduceIte,reduceCtorEq,Nat.reduceLT,Nat.reduceLeDiff,Nat.reduceShiftRight,Nat.reduceMod])
   (repeat' first | exact trivial | (with_reducible first | exact RnB.fxB (ints_fxB _) | rfl | refine And.intro ?_ ?_) | (with_reducible (first | refine RnB.bb ?_ | refine RnB.nb ?_);simp only [vcW,vZ,Int.reduceEq,Int.reduceNe,Int.reduceLT,Int.reduceLE,Nat.reduceEqDiff,Nat.reduceAdd,reduceIte,reduceCtorEq,Nat.reduceLT,Nat.reduceLeDiff,Nat.reduceShiftRight,Nat.reduceMod]) | (with_reducible first | refine RnB.ii ?_ | refine RnB.app ?_) | (with_reducible refine RnB.fxB ?_;simp only [vcW,vZ,Int.reduceEq,Int.reduceNe,Int.reduceLT,Int.reduceLE,Nat.reduceEqDiff,Nat.reduceAdd,reduceIte,reduceCtorEq,Nat.reduceLT,Nat.reduceLeDiff,Nat.reduceShiftRight,Nat.reduceMod]) | omega)
   all_goals first | rfl | exact RnB.fxB rfl | omega | skip
 ·have hr':r=C.length:=by omega
  subst hr'
  simp only [cl_top_TopTrackTwoWays_b8,vecs_length,Int.lt_irrefl,decide_false,stepA,pairB,V3.av,TM.av,TS.av,TB.av,tk_indexArr,tk_slice2,rnd_s,Int.reduceAdd,Int.reduceSub,decide_true,decide_false,i64_1,i64_2,i64_3,i64_4,true_and,Int.one_mul,Int.cast_ofNat_Int,Int.reduceToNat,Nat.zero_mul,Nat.reduceMul,Nat.zero_add,Nat.mul_one,List.getElem?_cons_zero,List.getElem?_cons_succ,vZ,Int.reduceEq,Int.reduceNe,Int.reduceLT,Int.reduceLE,Nat.reduceEqDiff,Nat.reduceAdd,reduceIte,reduceCtorEq,Nat.reduceLT,Nat.reduceLeDiff,Nat.reduceShiftRight,Nat.reduceMod]
  rw [isIn_all]
end Go.Proofs.Ytoiajhogondgcaa

/- TopTrackTwoWays: the steps of both halves. By an AI agent;nothing here is trusted. -/
namespace Go.Proofs.Ytoiajhogondgcaa
open Go.Av

structure TWH (m:TM) (x:TS) (more:Int):Prop where
 e:m.err=0
 q:openE m x.b x.h=0
 c:x.b.count≤120
 l:x.h.length≤8
 mo:0≤more∧more≤1000
theorem err_of {b:TB} (hb:b.Ok) (hc:b.count≤700):b.err=0:=by
 have h1:b.lo.in 20∧b.hi.in 20:=⟨hb.l,hb.h⟩
 have h2:¬ b.count > 700:=by omega
 simp [TB.err,h1,hb.o,h2]
theorem hits_of {m:TM} {b:TB} {l:List TH} (h:openE m b l=0):hitsE l=0:=by
 unfold openE at h
 by_cases h1:m.err=0
 case neg=>simp [h1] at h
 by_cases h2:b.err=0
 case neg=>simp [h1,h2] at h
 simpa [h1,h2] using h
theorem step_ok {m:TM} {v:V3} {l:List TH} (he:m.err=0) (hl:hitsE l=0) (hv:v.in 20) (hp:m.permits v):stepE m v=0∧scoreE m v l=0:=by
 have h1:stepE m v=0:=by simp [stepE,hv,hp]
 refine ⟨h1,?_⟩
 simp [scoreE,opStepE,he,h1,hl]
set_option maxHeartbeats 8000000 in
set_option maxRecDepth 10000 in
theorem TW_b6 (m:TM) (x:TS) (more n c0 kk:Int) (C S:List V3) (H:TWH m x more) (hn:0≤n∧n≤120000) (hc0:0≤c0∧c0≤1000) (hS:S.length≤1000) (hC:C.length≤1000) (hv:∀ v ∈ S,v.in 20∧m.permits v) (hin:∀ v ∈ S,decide (v ∈ C)=decide (m.score v x.h≤n+more)) (qi:Nat) (hr:qi≤S.length) :
  WL Try.prog 334 cl_top_TopTrackTwoWays_b6 (fun ex e' s'=>match ex with | .normal=>∃ y:PSigma (fun qi:Nat=>qi≤S.length∧True),S.length - y.1<S.length - qi∧Weak (e',s') ((fun qi:Nat=>(envOf [(2,.int .i64 more),(3,.ptr 3 0 0),(4,.ptr 4 0 0),(8,.int .i64 n),(10,.sl (vecs C)),(16,.ptr 16 0 0),(31,.int .i64 (c0+((m.coneL x.h (n+more) (S.take qi)).length:Int))),(32,.int .i64 kk),(33,.sl (vecs S)),(35,.int .i64 qi)],stOf [(3,⟨26,12,[m.av]⟩),(4,⟨31,7,[x.av]⟩),(16,⟨50,12,[pairB x.b.h1 x.b.h2]⟩)])) y.1) | .exit j=>j=6∧s'=stOf [(3,⟨26,12,[m.av]⟩),(4,⟨31,7,[x.av]⟩),(16,⟨50,12,[pairB x.b.h1 x.b.h2]⟩)]∧e' 2=.int .i64 more∧e' 3=.ptr 3 0 0∧e' 4=.ptr 4 0 0∧e' 8=.int .i64 n∧e' 10=.sl (vecs C)∧e' 16=.ptr 16 0 0∧e' 31=.int .i64 (c0+((m.coneL x.h (n+more) S).length:Int))∧e' 32=.int .i64 kk | _=>False) (envOf [(2,.int .i64 more),(3,.ptr 3 0 0),(4,.ptr 4 0 0),(8,.int .i64 n),(10,.sl (vecs C)),(16,.ptr 16 0 0),(31,.int .i64 (c0+((m.coneL x.h (n+more) (S.take qi)).length:Int))),(32,.int .i64 kk),(33,.sl (vecs S)),(35,.int .i64 qi)]) (stOf [(3,⟨26,12,[m.av]⟩),(4,⟨31,7,[x.av]⟩),(16,⟨50,12,[pairB x.b.h1 x.b.h2]⟩)]) .mk:=by
 obtain ⟨hm,hb,hcc,hl2,ho⟩:=openE_ok H.q
 have hmo:=H.mo
 have hcl:=coneL_le m x.h (n+more) (S.take qi)
 have htl:(S.take qi).length≤S.length:=by rw [List.length_take];omega
 by_cases h:qi<S.length
 ·have h':(qi:Int)<S.length:=by omega
  have hvm:=List.getElem_mem h
  have hh:=hits_of H.q
  obtain ⟨v1,v2⟩:=step_ok (l:=x.h) H.e hh (hv _ hvm).1 (hv _ hvm).2
  have hi:=hin _ hvm
  have hs:=coneL_succ m x.h (n+more) S qi h
  simp only [cl_top_TopTrackTwoWays_b6,vecs_length,h',decide_true,stepA,pairB,V3.av,TM.av,TS.av,TB.av,tk_indexArr,tk_slice2,rnd_s,Int.reduceAdd,Int.reduceSub,decide_true,decide_false,i64_1,i64_2,i64_3,i64_4,true_and,Int.one_mul,Int.cast_ofNat_Int,Int.reduceToNat,Nat.zero_mul,Nat.reduceMul,Nat.zero_add,Nat.mul_one,List.getElem?_cons_zero,List.getElem?_cons_succ,vZ,Int.reduceEq,Int.reduceNe,Int.reduceLT,Int.reduceLE,Nat.reduceEqDiff,Nat.reduceAdd,reduceIte,reduceCtorEq,Nat.reduceLT,Nat.reduceLeDiff,Nat.reduceShiftRight,Nat.reduceMod]
  simp only [vecs_get S qi h,stepA,pairB,V3.av,TM.av,TS.av,TB.av,tk_indexArr,tk_slice2,rnd_s,Int.reduceAdd,Int.reduceSub,decide_true,decide_false,i64_1,i64_2,i64_3,i64_4,true_and,Int.one_mul,Int.cast_ofNat_Int,Int.reduceToNat,Nat.zero_mul,Nat.reduceMul,Nat.zero_add,Nat.mul_one,List.getElem?_cons_zero,List.getElem?_cons_succ,vZ,Int.reduceEq,Int.reduceNe,Int.reduceLT,Int.reduceLE,Nat.reduceEqDiff,Nat.reduceAdd,reduceIte,reduceCtorEq,Nat.reduceLT,Nat.reduceLeDiff,Nat.reduceShiftRight,Nat.reduceMod]
  refine ⟨by omega,?_⟩
  refine callS_of (refStepErr_s m S[qi]) ?_
  simp only [v1,decide_true,Bool.not_true,vecs_get S qi h,stepA,pairB,V3.av,TM.av,TS.av,TB.av,tk_indexArr,tk_slice2,rnd_s,Int.reduceAdd,Int.reduceSub,decide_true,decide_false,i64_1,i64_2,i64_3,i64_4,true_and,Int.one_mul,Int.cast_ofNat_Int,Int.reduceToNat,Nat.zero_mul,Nat.reduceMul,Nat.zero_add,Nat.mul_one,List.getElem?_cons_zero,List.getElem?_cons_succ,vZ,Int.reduceEq,Int.reduceNe,Int.reduceLT,Int.reduceLE,Nat.reduceEqDiff,Nat.reduceAdd,reduceIte,reduceCtorEq,Nat.reduceLT,Nat.reduceLeDiff,Nat.reduceShiftRight,Nat.reduceMod]
  refine ⟨by omega,?_⟩
  refine callS_of (refCopy_s x.h (by omega)) ?_
  simp only [stepA,pairB,V3.av,TM.av,TS.av,TB.av,tk_indexArr,tk_slice2,rnd_s,Int.reduceAdd,Int.reduceSub,decide_true,decide_false,i64_1,i64_2,i64_3,i64_4,true_and,Int.one_mul,Int.cast_ofNat_Int,Int.reduceToNat,Nat.zero_mul,Nat.reduceMul,Nat.zero_add,Nat.mul_one,List.getElem?_cons_zero,List.getElem?_cons_succ,vZ,Int.reduceEq,Int.reduceNe,Int.reduceLT,Int.reduceLE,Nat.reduceEqDiff,Nat.reduceAdd,reduceIte,reduceCtorEq,Nat.reduceLT,Nat.reduceLeDiff,Nat.reduceShiftRight,Nat.reduceMod]
  refine callS_of (ScoreOf_s m S[qi] x.h (by omega)) ?_
  simp only [v2,if_true,stepA,pairB,V3.av,TM.av,TS.av,TB.av,tk_indexArr,tk_slice2,rnd_s,Int.reduceAdd,Int.reduceSub,decide_true,decide_false,i64_1,i64_2,i64_3,i64_4,true_and,Int.one_mul,Int.cast_ofNat_Int,Int.reduceToNat,Nat.zero_mul,Nat.reduceMul,Nat.zero_add,Nat.mul_one,List.getElem?_cons_zero,List.getElem?_cons_succ,vZ,Int.reduceEq,Int.reduceNe,Int.reduceLT,Int.reduceLE,Nat.reduceEqDiff,Nat.reduceAdd,reduceIte,reduceCtorEq,Nat.reduceLT,Nat.reduceLeDiff,Nat.reduceShiftRight,Nat.reduceMod]
  refine WL_loopX (t:=.mk) (α:=PSigma fun r:Nat=>r≤C.length∧True) (fun y=>(fun r:Nat=>(envOf [(2,.int .i64 more),(3,.ptr 3 0 0),(4,.ptr 4 0 0),(8,.int .i64 n),(10,.sl (vecs C)),(16,.ptr 16 0 0),(31,.int .i64 (c0+((m.coneL x.h (n+more) (S.take qi)).length:Int))),(32,.int .i64 kk),(33,.sl (vecs S)),(35,.int .i64 qi),(36,.int .i64 (m.score S[qi] x.h)),(37,.int .i64 0),(38,.bool (isIn C S[qi] r)),(39,.int .i64 r)],stOf [(3,⟨26,12,[m.av]⟩),(4,⟨31,7,[x.av]⟩),(16,⟨50,12,[pairB x.b.h1 x.b.h2]⟩)])) y.1) (fun y=>C.length - y.1) ⟨0,Nat.zero_le _,trivial⟩ 8 (fun e' s'=>s'=stOf [(3,⟨26,12,[m.av]⟩),(4,⟨31,7,[x.av]⟩),(16,⟨50,12,[pairB x.b.h1 x.b.h2]⟩)]∧e' 2=.int .i64 more∧e' 3=.ptr 3 0 0∧e' 4=.ptr 4 0 0∧e' 8=.int .i64 n∧e' 10=.sl (vecs C)∧e' 16=.ptr 16 0 0∧e' 31=.int .i64 (c0+((m.coneL x.h (n+more) (S.take qi)).length:Int))∧e' 32=.int .i64 kk∧e' 33=.sl (vecs S)∧e' 35=.int .i64 qi∧e' 36=.int .i64 (m.score S[qi] x.h)∧e' 37=.int .i64 0∧e' 38=.bool (decide (S[qi] ∈ C))) ?_ (fun ⟨r,hr,_⟩=>TW_b8 m x more n (c0+((m.coneL x.h (n+more) (S.take qi)).length:Int)) kk (m.score S[qi] x.h) C S qi h hS hC r hr) (fun e st ⟨hst,k2,k3,k4,k8,k10,k16,k31,k32,k33,k35,k36,k37,k38⟩=>?_)
  ·have i0:isIn C S[qi] 0=false:=rfl
   refine weakX [] (of_decide_eq_true rfl) (of_decide_eq_true rfl) ?_
   (simp only [i0,TM.av,TS.av,TB.av,V3.av,pairB,vcW,vZ,Int.reduceEq,Int.reduceNe,Int.reduceLT,Int.reduceLE,Nat.reduceEqDiff,Nat.reduceAdd,reduceIte,reduceCtorEq,Nat.reduceLT,Nat.reduceLeDiff,Nat.reduceShiftRight,Nat.reduceMod])
   (repeat' first | exact trivial | (with_reducible first | exact RnB.fxB (ints_fxB _) | rfl | refine And.intro ?_ ?_) | (with_reducible (first | refine RnB.bb ?_ | refine RnB.nb ?_);simp only [vcW,vZ,Int.reduceEq,Int.reduceNe,Int.reduceLT,Int.reduceLE,Nat.reduceEqDiff,Nat.reduceAdd,reduceIte,reduceCtorEq,Nat.reduceLT,Nat.reduceLeDiff,Nat.reduceShiftRight,Nat.reduceMod]) | (with_reducible first | refine RnB.ii ?_ | refine RnB.app ?_) | (with_reducible refine RnB.fxB ?_;simp only [vcW,vZ,Int.reduceEq,Int.reduceNe,Int.reduceLT,Int.reduceLE,Nat.reduceEqDiff,Nat.reduceAdd,reduceIte,reduceCtorEq,Nat.reduceLT,Nat.reduceLeDiff,Nat.reduceShiftRight,Nat.reduceMod]) | omega)
   all_goals first | rfl | exact RnB.fxB rfl | omega | skip
  ·subst hst
   by_cases hd:m.score S[qi] x.h≤n+more
   ·rw [if_pos hd] at hs
    rw [decide_eq_true hd] at hi
    simp only [k2,k3,k4,k8,k10,k16,k31,k32,k33,k35,k36,k37,k38,hi,hd,decide_true,bne_self_eq_false,Bool.false_eq_true,stepA,pairB,V3.av,TM.av,TS.av,TB.av,tk_indexArr,tk_slice2,rnd_s,Int.reduceAdd,Int.reduceSub,decide_true,decide_false,i64_1,i64_2,i64_3,i64_4,true_and,Int.one_mul,Int.cast_ofNat_Int,Int.reduceToNat,Nat.zero_mul,Nat.reduceMul,Nat.zero_add,Nat.mul_one,List.getElem?_cons_zero,List.getElem?_cons_succ,vZ,Int.reduceEq,Int.reduceNe,Int.reduceLT,Int.reduceLE,Nat.reduceEqDiff,Nat.reduceAdd,reduceIte,reduceCtorEq,Nat.reduceLT,Nat.reduceLeDiff,Nat.reduceShiftRight,Nat.reduceMod]
    refine ⟨by unfold I64;omega,by unfold I64;omega,by unfold I64;omega,⟨qi+1,h,trivial⟩,by dsimp only;omega,?_⟩
    refine weakX [] (of_decide_eq_true rfl) (of_decide_eq_true rfl) ?_
    (simp only [k2,k3,k4,k8,k10,k16,k31,k32,k33,k35,hs,List.length_append,List.length_cons,List.length_nil,TM.av,TS.av,TB.av,V3.av,pairB,vcW,vZ,Int.reduceEq,Int.reduceNe,Int.reduceLT,Int.reduceLE,Nat.reduceEqDiff,Nat.reduceAdd,reduceIte,reduceCtorEq,Nat.reduceLT,Nat.reduceLeDiff,Nat.reduceShiftRight,Nat.reduceMod])
    (repeat' first | exact trivial | (with_reducible first | exact RnB.fxB (ints_fxB _) | rfl | refine And.intro ?_ ?_) | (with_reducible (first | refine RnB.bb ?_ | refine RnB.nb ?_);simp only [vcW,vZ,Int.reduceEq,Int.reduceNe,Int.reduceLT,Int.reduceLE,Nat.reduceEqDiff,Nat.reduceAdd,reduceIte,reduceCtorEq,Nat.reduceLT,Nat.reduceLeDiff,Nat.reduceShiftRight,Nat.reduceMod]) | (with_reducible first | refine RnB.ii ?_ | refine RnB.app ?_) | (with_reducible refine RnB.fxB ?_;simp only [vcW,vZ,Int.reduceEq,Int.reduceNe,Int.reduceLT,Int.reduceLE,Nat.reduceEqDiff,Nat.reduceAdd,reduceIte,reduceCtorEq,Nat.reduceLT,Nat.reduceLeDiff,Nat.reduceShiftRight,Nat.reduceMod]) | omega)
    all_goals first | rfl | exact RnB.fxB rfl | omega | skip
   ·rw [if_neg hd,List.append_nil] at hs
    rw [decide_eq_false hd] at hi
    simp only [k2,k3,k4,k8,k10,k16,k31,k32,k33,k35,k36,k37,k38,hi,hd,decide_false,bne_self_eq_false,stepA,pairB,V3.av,TM.av,TS.av,TB.av,tk_indexArr,tk_slice2,rnd_s,Int.reduceAdd,Int.reduceSub,decide_true,decide_false,i64_1,i64_2,i64_3,i64_4,true_and,Int.one_mul,Int.cast_ofNat_Int,Int.reduceToNat,Nat.zero_mul,Nat.reduceMul,Nat.zero_add,Nat.mul_one,List.getElem?_cons_zero,List.getElem?_cons_succ,vZ,Int.reduceEq,Int.reduceNe,Int.reduceLT,Int.reduceLE,Nat.reduceEqDiff,Nat.reduceAdd,reduceIte,reduceCtorEq,Nat.reduceLT,Nat.reduceLeDiff,Nat.reduceShiftRight,Nat.reduceMod]
    refine ⟨by unfold I64;omega,by unfold I64;omega,⟨qi+1,h,trivial⟩,by dsimp only;omega,?_⟩
    refine weakX [] (of_decide_eq_true rfl) (of_decide_eq_true rfl) ?_
    (simp only [k2,k3,k4,k8,k10,k16,k31,k32,k33,k35,hs,TM.av,TS.av,TB.av,V3.av,pairB,vcW,vZ,Int.reduceEq,Int.reduceNe,Int.reduceLT,Int.reduceLE,Nat.reduceEqDiff,Nat.reduceAdd,reduceIte,reduceCtorEq,Nat.reduceLT,Nat.reduceLeDiff,Nat.reduceShiftRight,Nat.reduceMod])
    (repeat' first | exact trivial | (with_reducible first | exact RnB.fxB (ints_fxB _) | rfl | refine And.intro ?_ ?_) | (with_reducible (first | refine RnB.bb ?_ | refine RnB.nb ?_);simp only [vcW,vZ,Int.reduceEq,Int.reduceNe,Int.reduceLT,Int.reduceLE,Nat.reduceEqDiff,Nat.reduceAdd,reduceIte,reduceCtorEq,Nat.reduceLT,Nat.reduceLeDiff,Nat.reduceShiftRight,Nat.reduceMod]) | (with_reducible first | refine RnB.ii ?_ | refine RnB.app ?_) | (with_reducible refine RnB.fxB ?_;simp only [vcW,vZ,Int.reduceEq,Int.reduceNe,Int.reduceLT,Int.reduceLE,Nat.reduceEqDiff,Nat.reduceAdd,reduceIte,reduceCtorEq,Nat.reduceLT,Nat.reduceLeDiff,Nat.reduceShiftRight,Nat.reduceMod]) | omega)
    all_goals first | rfl | exact RnB.fxB rfl | omega | skip
 ·have hr':qi=S.length:=by omega
  subst hr'
  simp only [cl_top_TopTrackTwoWays_b6,vecs_length,Int.lt_irrefl,decide_false,List.take_length,stepA,pairB,V3.av,TM.av,TS.av,TB.av,tk_indexArr,tk_slice2,rnd_s,Int.reduceAdd,Int.reduceSub,decide_true,decide_false,i64_1,i64_2,i64_3,i64_4,true_and,Int.one_mul,Int.cast_ofNat_Int,Int.reduceToNat,Nat.zero_mul,Nat.reduceMul,Nat.zero_add,Nat.mul_one,List.getElem?_cons_zero,List.getElem?_cons_succ,vZ,Int.reduceEq,Int.reduceNe,Int.reduceLT,Int.reduceLE,Nat.reduceEqDiff,Nat.reduceAdd,reduceIte,reduceCtorEq,Nat.reduceLT,Nat.reduceLeDiff,Nat.reduceShiftRight,Nat.reduceMod]
end Go.Proofs.Ytoiajhogondgcaa

/- TopTrackTwoWays: the rounds over both halves. By an AI agent;nothing here is trusted. -/
namespace Go.Proofs.Ytoiajhogondgcaa
open Go.Av

set_option maxHeartbeats 8000000 in
set_option maxRecDepth 10000 in
theorem TW_20 (m:TM) (x:TS) (more n:Int) (C:List V3) (H:TWH m x more) (hn:0≤n∧n≤120000) (hcd:1<x.b.count) (hC:C=m.cone x.b x.h (n+more)) :
  WL Try.prog 334 cl_top_TopTrackTwoWays_20 (endQ [(6,none)] (.bool true)) (envOf [(2,.int .i64 more),(3,.ptr 3 0 0),(4,.ptr 4 0 0),(8,.int .i64 n),(10,.sl (vecs C)),(16,.ptr 16 0 0),(31,.int .i64 0)]) (stOf [(3,⟨26,12,[m.av]⟩),(4,⟨31,7,[x.av]⟩),(16,⟨50,12,[pairB x.b.h1 x.b.h2]⟩)]) .mk:=by
 obtain ⟨hm,hb,hcc,hl2,ho⟩:=openE_ok H.q
 obtain ⟨g1,g2,g3,g4,_⟩:=halves_ok hb hcd
 have n1:=count_pos g1.o
 have n2:=count_pos g2.o
 have hc12:=H.c
 have ob1:obE m x.b.h1=0:=by simp [obE,H.e,err_of g1 (by omega)]
 have ob2:obE m x.b.h2=0:=by simp [obE,H.e,err_of g2 (by omega)]
 have t1:=steps_len2 m x.b.h1 g1.o
 have t2:=steps_len2 m x.b.h2 g2.o
 have t3:=steps_len2 m x.b hb.o
 have len1:¬ x.b.h1.count<((m.steps x.b.h1).length:Int):=by omega
 have len2:¬ x.b.h2.count<((m.steps x.b.h2).length:Int):=by omega
 have sb1:(m.steps x.b.h1).length≤1000:=by omega
 have sb2:(m.steps x.b.h2).length≤1000:=by omega
 have q1:=coneL_le m x.h (n+more) (m.steps x.b.h1)
 have q2:=coneL_le m x.h (n+more) (m.steps x.b.h2)
 have q3:=coneL_le m x.h (n+more) (m.steps x.b)
 have hCl:C.length=(m.cone x.b x.h (n+more)).length:=by rw [hC]
 have hfin:=cone_halves x.h (n+more) hb hcd (m:=m)
 have hmem:∀ v,v ∈ C ↔ v ∈ m.steps x.b∧m.score v x.h≤n+more:=fun v=>by rw [hC];unfold TM.cone TM.coneL;rw [List.mem_filter,decide_eq_true_eq]
 have hC:C.length≤1000:=by unfold TM.cone at hCl;omega
 have cb0:(0:Int)≤0∧(0:Int)≤1000:=by omega
 have cb1:0≤(0+((m.coneL x.h (n+more) (m.steps x.b.h1)).length:Int))∧(0+((m.coneL x.h (n+more) (m.steps x.b.h1)).length:Int))≤1000:=by omega
 have hv1:∀ v ∈ m.steps x.b.h1,v.in 20∧m.permits v:=fun v hv=>⟨has_in g1 (steps_mem.1 hv).1,(steps_mem.1 hv).2⟩
 have hv2:∀ v ∈ m.steps x.b.h2,v.in 20∧m.permits v:=fun v hv=>⟨has_in g2 (steps_mem.1 hv).1,(steps_mem.1 hv).2⟩
 have hin1:∀ v ∈ m.steps x.b.h1,decide (v ∈ C)=decide (m.score v x.h≤n+more):=fun v hv=>by
  have h1:=steps_mem.1 hv
  have h2:v ∈ m.steps x.b:=steps_mem.2 ⟨(g4 v).2 (.inl h1.1),h1.2⟩
  apply Bool.eq_iff_iff.2
  rw [decide_eq_true_eq,decide_eq_true_eq,hmem]
  exact ⟨fun h=>h.2,fun h=>⟨h2,h⟩⟩
 have hin2:∀ v ∈ m.steps x.b.h2,decide (v ∈ C)=decide (m.score v x.h≤n+more):=fun v hv=>by
  have h1:=steps_mem.1 hv
  have h2:v ∈ m.steps x.b:=steps_mem.2 ⟨(g4 v).2 (.inr h1.1),h1.2⟩
  apply Bool.eq_iff_iff.2
  rw [decide_eq_true_eq,decide_eq_true_eq,hmem]
  exact ⟨fun h=>h.2,fun h=>⟨h2,h⟩⟩
 simp only [cl_top_TopTrackTwoWays_20,stepA,pairB,V3.av,TM.av,TS.av,TB.av,tk_indexArr,tk_slice2,rnd_s,Int.reduceAdd,Int.reduceSub,decide_true,decide_false,i64_1,i64_2,i64_3,i64_4,true_and,Int.one_mul,Int.cast_ofNat_Int,Int.reduceToNat,Nat.zero_mul,Nat.reduceMul,Nat.zero_add,Nat.mul_one,List.getElem?_cons_zero,List.getElem?_cons_succ,vZ,Int.reduceEq,Int.reduceNe,Int.reduceLT,Int.reduceLE,Nat.reduceEqDiff,Nat.reduceAdd,reduceIte,reduceCtorEq,Nat.reduceLT,Nat.reduceLeDiff,Nat.reduceShiftRight,Nat.reduceMod]
 refine WL_rnd 3 ?_
 refine rndL_of (envOf [(2,.int .i64 more),(3,.ptr 3 0 0),(4,.ptr 4 0 0),(8,.int .i64 n),(10,.sl (vecs C)),(16,.ptr 16 0 0),(31,.int .i64 0),(32,.int .i64 0)],stOf [(3,⟨26,12,[m.av]⟩),(4,⟨31,7,[x.av]⟩),(16,⟨50,12,[pairB x.b.h1 x.b.h2]⟩)]) ?_ ?_
 ·refine weakX [] (of_decide_eq_true rfl) (of_decide_eq_true rfl) ?_
  (simp only [TM.av,TS.av,TB.av,V3.av,pairB,vcW,vZ,Int.reduceEq,Int.reduceNe,Int.reduceLT,Int.reduceLE,Nat.reduceEqDiff,Nat.reduceAdd,reduceIte,reduceCtorEq,Nat.reduceLT,Nat.reduceLeDiff,Nat.reduceShiftRight,Nat.reduceMod])
  (repeat' first | exact trivial | (with_reducible first | exact RnB.fxB (ints_fxB _) | rfl | refine And.intro ?_ ?_) | (with_reducible (first | refine RnB.bb ?_ | refine RnB.nb ?_);simp only [vcW,vZ,Int.reduceEq,Int.reduceNe,Int.reduceLT,Int.reduceLE,Nat.reduceEqDiff,Nat.reduceAdd,reduceIte,reduceCtorEq,Nat.reduceLT,Nat.reduceLeDiff,Nat.reduceShiftRight,Nat.reduceMod]) | (with_reducible first | refine RnB.ii ?_ | refine RnB.app ?_) | (with_reducible refine RnB.fxB ?_;simp only [vcW,vZ,Int.reduceEq,Int.reduceNe,Int.reduceLT,Int.reduceLE,Nat.reduceEqDiff,Nat.reduceAdd,reduceIte,reduceCtorEq,Nat.reduceLT,Nat.reduceLeDiff,Nat.reduceShiftRight,Nat.reduceMod]) | omega)
  all_goals first | rfl | exact RnB.fxB rfl | omega | skip
 simp only [cl_top_TopTrackTwoWays_b4,stepA,pairB,V3.av,TM.av,TS.av,TB.av,tk_indexArr,tk_slice2,rnd_s,Int.reduceAdd,Int.reduceSub,decide_true,decide_false,i64_1,i64_2,i64_3,i64_4,true_and,Int.one_mul,Int.cast_ofNat_Int,Int.reduceToNat,Nat.zero_mul,Nat.reduceMul,Nat.zero_add,Nat.mul_one,List.getElem?_cons_zero,List.getElem?_cons_succ,vZ,Int.reduceEq,Int.reduceNe,Int.reduceLT,Int.reduceLE,Nat.reduceEqDiff,Nat.reduceAdd,reduceIte,reduceCtorEq,Nat.reduceLT,Nat.reduceLeDiff,Nat.reduceShiftRight,Nat.reduceMod]
 refine callS_of (StepsIn_s m x.b.h1) ?_
 simp only [ob1,if_true,decide_true,Bool.not_true,vecs_length,stepA,pairB,V3.av,TM.av,TS.av,TB.av,tk_indexArr,tk_slice2,rnd_s,Int.reduceAdd,Int.reduceSub,decide_true,decide_false,i64_1,i64_2,i64_3,i64_4,true_and,Int.one_mul,Int.cast_ofNat_Int,Int.reduceToNat,Nat.zero_mul,Nat.reduceMul,Nat.zero_add,Nat.mul_one,List.getElem?_cons_zero,List.getElem?_cons_succ,vZ,Int.reduceEq,Int.reduceNe,Int.reduceLT,Int.reduceLE,Nat.reduceEqDiff,Nat.reduceAdd,reduceIte,reduceCtorEq,Nat.reduceLT,Nat.reduceLeDiff,Nat.reduceShiftRight,Nat.reduceMod]
 refine callS_of (refCount_s x.b.h1 g1.l g1.h) ?_
 simp only [len1,decide_false,stepA,pairB,V3.av,TM.av,TS.av,TB.av,tk_indexArr,tk_slice2,rnd_s,Int.reduceAdd,Int.reduceSub,decide_true,decide_false,i64_1,i64_2,i64_3,i64_4,true_and,Int.one_mul,Int.cast_ofNat_Int,Int.reduceToNat,Nat.zero_mul,Nat.reduceMul,Nat.zero_add,Nat.mul_one,List.getElem?_cons_zero,List.getElem?_cons_succ,vZ,Int.reduceEq,Int.reduceNe,Int.reduceLT,Int.reduceLE,Nat.reduceEqDiff,Nat.reduceAdd,reduceIte,reduceCtorEq,Nat.reduceLT,Nat.reduceLeDiff,Nat.reduceShiftRight,Nat.reduceMod]
 refine WL_loopX (t:=.mk) (α:=PSigma fun qi:Nat=>qi≤(m.steps x.b.h1).length∧True) (fun y=>(fun qi:Nat=>(envOf [(2,.int .i64 more),(3,.ptr 3 0 0),(4,.ptr 4 0 0),(8,.int .i64 n),(10,.sl (vecs C)),(16,.ptr 16 0 0),(31,.int .i64 (0+((m.coneL x.h (n+more) ((m.steps x.b.h1).take qi)).length:Int))),(32,.int .i64 0),(33,.sl (vecs (m.steps x.b.h1))),(35,.int .i64 qi)],stOf [(3,⟨26,12,[m.av]⟩),(4,⟨31,7,[x.av]⟩),(16,⟨50,12,[pairB x.b.h1 x.b.h2]⟩)])) y.1) (fun y=>(m.steps x.b.h1).length - y.1) ⟨0,Nat.zero_le _,trivial⟩ 6 (fun e' s'=>s'=stOf [(3,⟨26,12,[m.av]⟩),(4,⟨31,7,[x.av]⟩),(16,⟨50,12,[pairB x.b.h1 x.b.h2]⟩)]∧e' 2=.int .i64 more∧e' 3=.ptr 3 0 0∧e' 4=.ptr 4 0 0∧e' 8=.int .i64 n∧e' 10=.sl (vecs C)∧e' 16=.ptr 16 0 0∧e' 31=.int .i64 (0+((m.coneL x.h (n+more) (m.steps x.b.h1)).length:Int))∧e' 32=.int .i64 0) ?_ (fun ⟨qi,hr,_⟩=>TW_b6 m x more n 0 0 C (m.steps x.b.h1) H hn cb0 sb1 hC hv1 hin1 qi hr) (fun e st ⟨hst,k2,k3,k4,k8,k10,k16,k31,k32⟩=>?_)
 ·have i0:m.coneL x.h (n+more) ((m.steps x.b.h1).take 0)=[]:=rfl
  refine weakX [] (of_decide_eq_true rfl) (of_decide_eq_true rfl) ?_
  (simp only [i0,List.length_nil,Int.natCast_zero,Int.add_zero,TM.av,TS.av,TB.av,V3.av,pairB,vcW,vZ,Int.reduceEq,Int.reduceNe,Int.reduceLT,Int.reduceLE,Nat.reduceEqDiff,Nat.reduceAdd,reduceIte,reduceCtorEq,Nat.reduceLT,Nat.reduceLeDiff,Nat.reduceShiftRight,Nat.reduceMod])
  (repeat' first | exact trivial | (with_reducible first | exact RnB.fxB (ints_fxB _) | rfl | refine And.intro ?_ ?_) | (with_reducible (first | refine RnB.bb ?_ | refine RnB.nb ?_);simp only [vcW,vZ,Int.reduceEq,Int.reduceNe,Int.reduceLT,Int.reduceLE,Nat.reduceEqDiff,Nat.reduceAdd,reduceIte,reduceCtorEq,Nat.reduceLT,Nat.reduceLeDiff,Nat.reduceShiftRight,Nat.reduceMod]) | (with_reducible first | refine RnB.ii ?_ | refine RnB.app ?_) | (with_reducible refine RnB.fxB ?_;simp only [vcW,vZ,Int.reduceEq,Int.reduceNe,Int.reduceLT,Int.reduceLE,Nat.reduceEqDiff,Nat.reduceAdd,reduceIte,reduceCtorEq,Nat.reduceLT,Nat.reduceLeDiff,Nat.reduceShiftRight,Nat.reduceMod]) | omega)
  all_goals first | rfl | exact RnB.fxB rfl | omega | skip
 subst hst
 simp only [k2,k3,k4,k8,k10,k16,k31,k32,stepA,pairB,V3.av,TM.av,TS.av,TB.av,tk_indexArr,tk_slice2,rnd_s,Int.reduceAdd,Int.reduceSub,decide_true,decide_false,i64_1,i64_2,i64_3,i64_4,true_and,Int.one_mul,Int.cast_ofNat_Int,Int.reduceToNat,Nat.zero_mul,Nat.reduceMul,Nat.zero_add,Nat.mul_one,List.getElem?_cons_zero,List.getElem?_cons_succ,vZ,Int.reduceEq,Int.reduceNe,Int.reduceLT,Int.reduceLE,Nat.reduceEqDiff,Nat.reduceAdd,reduceIte,reduceCtorEq,Nat.reduceLT,Nat.reduceLeDiff,Nat.reduceShiftRight,Nat.reduceMod]
 refine rndL_of (envOf [(2,.int .i64 more),(3,.ptr 3 0 0),(4,.ptr 4 0 0),(8,.int .i64 n),(10,.sl (vecs C)),(16,.ptr 16 0 0),(31,.int .i64 (0+((m.coneL x.h (n+more) (m.steps x.b.h1)).length:Int))),(32,.int .i64 1)],stOf [(3,⟨26,12,[m.av]⟩),(4,⟨31,7,[x.av]⟩),(16,⟨50,12,[pairB x.b.h1 x.b.h2]⟩)]) ?_ ?_
 ·refine weakX [] (of_decide_eq_true rfl) (of_decide_eq_true rfl) ?_
  (simp only [k2,k3,k4,k8,k10,k16,k31,k32,TM.av,TS.av,TB.av,V3.av,pairB,vcW,vZ,Int.reduceEq,Int.reduceNe,Int.reduceLT,Int.reduceLE,Nat.reduceEqDiff,Nat.reduceAdd,reduceIte,reduceCtorEq,Nat.reduceLT,Nat.reduceLeDiff,Nat.reduceShiftRight,Nat.reduceMod])
  (repeat' first | exact trivial | (with_reducible first | exact RnB.fxB (ints_fxB _) | rfl | refine And.intro ?_ ?_) | (with_reducible (first | refine RnB.bb ?_ | refine RnB.nb ?_);simp only [vcW,vZ,Int.reduceEq,Int.reduceNe,Int.reduceLT,Int.reduceLE,Nat.reduceEqDiff,Nat.reduceAdd,reduceIte,reduceCtorEq,Nat.reduceLT,Nat.reduceLeDiff,Nat.reduceShiftRight,Nat.reduceMod]) | (with_reducible first | refine RnB.ii ?_ | refine RnB.app ?_) | (with_reducible refine RnB.fxB ?_;simp only [vcW,vZ,Int.reduceEq,Int.reduceNe,Int.reduceLT,Int.reduceLE,Nat.reduceEqDiff,Nat.reduceAdd,reduceIte,reduceCtorEq,Nat.reduceLT,Nat.reduceLeDiff,Nat.reduceShiftRight,Nat.reduceMod]) | omega)
  all_goals first | rfl | exact RnB.fxB rfl | omega | skip
 simp only [cl_top_TopTrackTwoWays_b4,stepA,pairB,V3.av,TM.av,TS.av,TB.av,tk_indexArr,tk_slice2,rnd_s,Int.reduceAdd,Int.reduceSub,decide_true,decide_false,i64_1,i64_2,i64_3,i64_4,true_and,Int.one_mul,Int.cast_ofNat_Int,Int.reduceToNat,Nat.zero_mul,Nat.reduceMul,Nat.zero_add,Nat.mul_one,List.getElem?_cons_zero,List.getElem?_cons_succ,vZ,Int.reduceEq,Int.reduceNe,Int.reduceLT,Int.reduceLE,Nat.reduceEqDiff,Nat.reduceAdd,reduceIte,reduceCtorEq,Nat.reduceLT,Nat.reduceLeDiff,Nat.reduceShiftRight,Nat.reduceMod]
 refine callS_of (StepsIn_s m x.b.h2) ?_
 simp only [ob2,if_true,decide_true,Bool.not_true,vecs_length,stepA,pairB,V3.av,TM.av,TS.av,TB.av,tk_indexArr,tk_slice2,rnd_s,Int.reduceAdd,Int.reduceSub,decide_true,decide_false,i64_1,i64_2,i64_3,i64_4,true_and,Int.one_mul,Int.cast_ofNat_Int,Int.reduceToNat,Nat.zero_mul,Nat.reduceMul,Nat.zero_add,Nat.mul_one,List.getElem?_cons_zero,List.getElem?_cons_succ,vZ,Int.reduceEq,Int.reduceNe,Int.reduceLT,Int.reduceLE,Nat.reduceEqDiff,Nat.reduceAdd,reduceIte,reduceCtorEq,Nat.reduceLT,Nat.reduceLeDiff,Nat.reduceShiftRight,Nat.reduceMod]
 refine callS_of (refCount_s x.b.h2 g2.l g2.h) ?_
 simp only [len2,decide_false,stepA,pairB,V3.av,TM.av,TS.av,TB.av,tk_indexArr,tk_slice2,rnd_s,Int.reduceAdd,Int.reduceSub,decide_true,decide_false,i64_1,i64_2,i64_3,i64_4,true_and,Int.one_mul,Int.cast_ofNat_Int,Int.reduceToNat,Nat.zero_mul,Nat.reduceMul,Nat.zero_add,Nat.mul_one,List.getElem?_cons_zero,List.getElem?_cons_succ,vZ,Int.reduceEq,Int.reduceNe,Int.reduceLT,Int.reduceLE,Nat.reduceEqDiff,Nat.reduceAdd,reduceIte,reduceCtorEq,Nat.reduceLT,Nat.reduceLeDiff,Nat.reduceShiftRight,Nat.reduceMod]
 refine WL_loopX (t:=.mk) (α:=PSigma fun qi:Nat=>qi≤(m.steps x.b.h2).length∧True) (fun y=>(fun qi:Nat=>(envOf [(2,.int .i64 more),(3,.ptr 3 0 0),(4,.ptr 4 0 0),(8,.int .i64 n),(10,.sl (vecs C)),(16,.ptr 16 0 0),(31,.int .i64 ((0+((m.coneL x.h (n+more) (m.steps x.b.h1)).length:Int))+((m.coneL x.h (n+more) ((m.steps x.b.h2).take qi)).length:Int))),(32,.int .i64 1),(33,.sl (vecs (m.steps x.b.h2))),(35,.int .i64 qi)],stOf [(3,⟨26,12,[m.av]⟩),(4,⟨31,7,[x.av]⟩),(16,⟨50,12,[pairB x.b.h1 x.b.h2]⟩)])) y.1) (fun y=>(m.steps x.b.h2).length - y.1) ⟨0,Nat.zero_le _,trivial⟩ 6 (fun e' s'=>s'=stOf [(3,⟨26,12,[m.av]⟩),(4,⟨31,7,[x.av]⟩),(16,⟨50,12,[pairB x.b.h1 x.b.h2]⟩)]∧e' 2=.int .i64 more∧e' 3=.ptr 3 0 0∧e' 4=.ptr 4 0 0∧e' 8=.int .i64 n∧e' 10=.sl (vecs C)∧e' 16=.ptr 16 0 0∧e' 31=.int .i64 ((0+((m.coneL x.h (n+more) (m.steps x.b.h1)).length:Int))+((m.coneL x.h (n+more) (m.steps x.b.h2)).length:Int))∧e' 32=.int .i64 1) ?_ (fun ⟨qi,hr,_⟩=>TW_b6 m x more n (0+((m.coneL x.h (n+more) (m.steps x.b.h1)).length:Int)) 1 C (m.steps x.b.h2) H hn cb1 sb2 hC hv2 hin2 qi hr) (fun e st ⟨hst,k2,k3,k4,k8,k10,k16,k31,k32⟩=>?_)
 ·have i0:m.coneL x.h (n+more) ((m.steps x.b.h2).take 0)=[]:=rfl
  refine weakX [] (of_decide_eq_true rfl) (of_decide_eq_true rfl) ?_
  (simp only [i0,List.length_nil,Int.natCast_zero,Int.add_zero,TM.av,TS.av,TB.av,V3.av,pairB,vcW,vZ,Int.reduceEq,Int.reduceNe,Int.reduceLT,Int.reduceLE,Nat.reduceEqDiff,Nat.reduceAdd,reduceIte,reduceCtorEq,Nat.reduceLT,Nat.reduceLeDiff,Nat.reduceShiftRight,Nat.reduceMod])
  (repeat' first | exact trivial | (with_reducible first | exact RnB.fxB (ints_fxB _) | rfl | refine And.intro ?_ ?_) | (with_reducible (first | refine RnB.bb ?_ | refine RnB.nb ?_);simp only [vcW,vZ,Int.reduceEq,Int.reduceNe,Int.reduceLT,Int.reduceLE,Nat.reduceEqDiff,Nat.reduceAdd,reduceIte,reduceCtorEq,Nat.reduceLT,Nat.reduceLeDiff,Nat.reduceShiftRight,Nat.reduceMod]) | (with_reducible first | refine RnB.ii ?_ | refine RnB.app ?_) | (with_reducible refine RnB.fxB ?_;simp only [vcW,vZ,Int.reduceEq,Int.reduceNe,Int.reduceLT,Int.reduceLE,Nat.reduceEqDiff,Nat.reduceAdd,reduceIte,reduceCtorEq,Nat.reduceLT,Nat.reduceLeDiff,Nat.reduceShiftRight,Nat.reduceMod]) | omega)
  all_goals first | rfl | exact RnB.fxB rfl | omega | skip
 subst hst
 simp only [k2,k3,k4,k8,k10,k16,k31,k32,stepA,pairB,V3.av,TM.av,TS.av,TB.av,tk_indexArr,tk_slice2,rnd_s,Int.reduceAdd,Int.reduceSub,decide_true,decide_false,i64_1,i64_2,i64_3,i64_4,true_and,Int.one_mul,Int.cast_ofNat_Int,Int.reduceToNat,Nat.zero_mul,Nat.reduceMul,Nat.zero_add,Nat.mul_one,List.getElem?_cons_zero,List.getElem?_cons_succ,vZ,Int.reduceEq,Int.reduceNe,Int.reduceLT,Int.reduceLE,Nat.reduceEqDiff,Nat.reduceAdd,reduceIte,reduceCtorEq,Nat.reduceLT,Nat.reduceLeDiff,Nat.reduceShiftRight,Nat.reduceMod]
 refine rndL_of (envOf [(2,.int .i64 more),(3,.ptr 3 0 0),(4,.ptr 4 0 0),(8,.int .i64 n),(10,.sl (vecs C)),(16,.ptr 16 0 0),(31,.int .i64 (0+((m.coneL x.h (n+more) (m.steps x.b.h1)).length:Int)+((m.coneL x.h (n+more) (m.steps x.b.h2)).length:Int))),(32,.int .i64 2)],stOf [(3,⟨26,12,[m.av]⟩),(4,⟨31,7,[x.av]⟩),(16,⟨50,12,[pairB x.b.h1 x.b.h2]⟩)]) ?_ ?_
 ·refine weakX [] (of_decide_eq_true rfl) (of_decide_eq_true rfl) ?_
  (simp only [k2,k3,k4,k8,k10,k16,k31,k32,TM.av,TS.av,TB.av,V3.av,pairB,vcW,vZ,Int.reduceEq,Int.reduceNe,Int.reduceLT,Int.reduceLE,Nat.reduceEqDiff,Nat.reduceAdd,reduceIte,reduceCtorEq,Nat.reduceLT,Nat.reduceLeDiff,Nat.reduceShiftRight,Nat.reduceMod])
  (repeat' first | exact trivial | (with_reducible first | exact RnB.fxB (ints_fxB _) | rfl | refine And.intro ?_ ?_) | (with_reducible (first | refine RnB.bb ?_ | refine RnB.nb ?_);simp only [vcW,vZ,Int.reduceEq,Int.reduceNe,Int.reduceLT,Int.reduceLE,Nat.reduceEqDiff,Nat.reduceAdd,reduceIte,reduceCtorEq,Nat.reduceLT,Nat.reduceLeDiff,Nat.reduceShiftRight,Nat.reduceMod]) | (with_reducible first | refine RnB.ii ?_ | refine RnB.app ?_) | (with_reducible refine RnB.fxB ?_;simp only [vcW,vZ,Int.reduceEq,Int.reduceNe,Int.reduceLT,Int.reduceLE,Nat.reduceEqDiff,Nat.reduceAdd,reduceIte,reduceCtorEq,Nat.reduceLT,Nat.reduceLeDiff,Nat.reduceShiftRight,Nat.reduceMod]) | omega)
  all_goals first | rfl | exact RnB.fxB rfl | omega | skip
 simp only [cl_top_TopTrackTwoWays_b4,stepA,pairB,V3.av,TM.av,TS.av,TB.av,tk_indexArr,tk_slice2,rnd_s,Int.reduceAdd,Int.reduceSub,decide_true,decide_false,i64_1,i64_2,i64_3,i64_4,true_and,Int.one_mul,Int.cast_ofNat_Int,Int.reduceToNat,Nat.zero_mul,Nat.reduceMul,Nat.zero_add,Nat.mul_one,List.getElem?_cons_zero,List.getElem?_cons_succ,vZ,Int.reduceEq,Int.reduceNe,Int.reduceLT,Int.reduceLE,Nat.reduceEqDiff,Nat.reduceAdd,reduceIte,reduceCtorEq,Nat.reduceLT,Nat.reduceLeDiff,Nat.reduceShiftRight,Nat.reduceMod]
 refine WL_cut ?_
 have hf:0+((m.coneL x.h (n+more) (m.steps x.b.h1)).length:Int)+((m.coneL x.h (n+more) (m.steps x.b.h2)).length:Int)=(C.length:Int):=by omega
 simp only [cl_top_TopTrackTwoWays_21,vecs_length,hf,decide_true,stepA,pairB,V3.av,TM.av,TS.av,TB.av,tk_indexArr,tk_slice2,rnd_s,Int.reduceAdd,Int.reduceSub,decide_true,decide_false,i64_1,i64_2,i64_3,i64_4,true_and,Int.one_mul,Int.cast_ofNat_Int,Int.reduceToNat,Nat.zero_mul,Nat.reduceMul,Nat.zero_add,Nat.mul_one,List.getElem?_cons_zero,List.getElem?_cons_succ,vZ,Int.reduceEq,Int.reduceNe,Int.reduceLT,Int.reduceLE,Nat.reduceEqDiff,Nat.reduceAdd,reduceIte,reduceCtorEq,Nat.reduceLT,Nat.reduceLeDiff,Nat.reduceShiftRight,Nat.reduceMod]
end Go.Proofs.Ytoiajhogondgcaa

/- TopTrackTwoWays: the comparison with the box,the cover. By an AI agent;nothing here is trusted. -/
namespace Go.Proofs.Ytoiajhogondgcaa
open Go.Av

theorem usedL_abuf {nk:Bool} {s:Store} {k len ty sz:Nat} {es:List AV} {a b:AV} {i:Int} (ha:imm a=true) (hb:imm b=true) (hs:s k=some (some ⟨ty,sz,es⟩)) (he:(es.take len).all imm=true):usedL nk s (refsL s 5 [a,b,.agg [.buf k len,.int .i64 i]]):=fun _ j hj=>by
 have e1:refs s 4 (.buf k len)=[k]:=by
  simp only [refs,hs];rw [if_pos he]
 have e2:refs s 5 (.agg [.buf k len,.int .i64 i])=refs s 4 (.buf k len) ++ (refs s 4 (.int .i64 i) ++ []):=rfl
 have e3:refs s 4 (.int .i64 i)=[]:=rfl
 have e:refsL s 5 [a,b,.agg [.buf k len,.int .i64 i]]=[k]:=by simp only [refsL,List.flatMap_cons,List.flatMap_nil,refs_imm s ha,refs_imm s hb,e1,e2,e3,List.append_nil,List.nil_append]
 rw [e,List.mem_singleton] at hj
 rw [hj,hs];simp
theorem boxesL_imm (L:List TB):(boxesL L).all imm=true:=by
 rw [List.all_eq_true]
 intro y hy
 obtain ⟨n,_,rfl⟩:=List.mem_map.1 hy
 rfl
set_option maxHeartbeats 8000000 in
set_option maxRecDepth 10000 in
theorem TW_16 (m:TM) (x:TS) (more n:Int) (sv:V3) (C:List V3) (L:List TB) (H:TWH m x more) (hn:0≤n∧n≤120000) (hcd:1<x.b.count) (hC:C=m.cone x.b x.h (n+more)) (hL:L.length≤1400)
  (hCC:Sound Try.prog 19 [m.av,x.av,.agg [.sl (boxesL L),.int .i64 n]] (.tup [.int .i64 0,.int .i64 0])) :
  WL Try.prog 334 cl_top_TopTrackTwoWays_16 (endQ [(6,none)] (.bool true)) (envOf [(2,.int .i64 more),(3,.ptr 3 0 0),(4,.ptr 4 0 0),(7,.ptr 7 0 0),(8,.int .i64 n),(10,.sl (vecs C)),(16,.ptr 16 0 0),(19,.ptr 19 0 0),(18,.buf 100 L.length),(20,.int .i64 n),(21,.bool true)]) (stOf [(3,⟨26,12,[m.av]⟩),(4,⟨31,7,[x.av]⟩),(7,⟨22,3,[sv.av]⟩),(16,⟨50,12,[pairB x.b.h1 x.b.h2]⟩),(19,⟨22,3,[sv.av]⟩),(100,⟨28,6,boxesL L⟩)]) .mk:=by
 obtain ⟨hm,hb,hcc,hl2,ho⟩:=openE_ok H.q
 simp only [cl_top_TopTrackTwoWays_16,decide_true,Bool.not_true,bne_self_eq_false,Bool.and_self,stepA,pairB,V3.av,TM.av,TS.av,TB.av,tk_indexArr,tk_slice2,rnd_s,Int.reduceAdd,Int.reduceSub,decide_true,decide_false,i64_1,i64_2,i64_3,i64_4,true_and,Int.one_mul,Int.cast_ofNat_Int,Int.reduceToNat,Nat.zero_mul,Nat.reduceMul,Nat.zero_add,Nat.mul_one,List.getElem?_cons_zero,List.getElem?_cons_succ,vZ,Int.reduceEq,Int.reduceNe,Int.reduceLT,Int.reduceLE,Nat.reduceEqDiff,Nat.reduceAdd,reduceIte,reduceCtorEq,Nat.reduceLT,Nat.reduceLeDiff,Nat.reduceShiftRight,Nat.reduceMod]
 skip
 refine callS_of (refCopySearch_s x (by omega)) ?_
 simp only [boxesL_length,boxesL_fxB,stepA,pairB,V3.av,TM.av,TS.av,TB.av,tk_indexArr,tk_slice2,rnd_s,Int.reduceAdd,Int.reduceSub,decide_true,decide_false,i64_1,i64_2,i64_3,i64_4,true_and,Int.one_mul,Int.cast_ofNat_Int,Int.reduceToNat,Nat.zero_mul,Nat.reduceMul,Nat.zero_add,Nat.mul_one,List.getElem?_cons_zero,List.getElem?_cons_succ,vZ,Int.reduceEq,Int.reduceNe,Int.reduceLT,Int.reduceLE,Nat.reduceEqDiff,Nat.reduceAdd,reduceIte,reduceCtorEq,Nat.reduceLT,Nat.reduceLeDiff,Nat.reduceShiftRight,Nat.reduceMod]
 refine callS_of hCC ?_
 simp only [decide_true,Bool.not_true,boxesL_length,boxesL_fxB,stepA,pairB,V3.av,TM.av,TS.av,TB.av,tk_indexArr,tk_slice2,rnd_s,Int.reduceAdd,Int.reduceSub,decide_true,decide_false,i64_1,i64_2,i64_3,i64_4,true_and,Int.one_mul,Int.cast_ofNat_Int,Int.reduceToNat,Nat.zero_mul,Nat.reduceMul,Nat.zero_add,Nat.mul_one,List.getElem?_cons_zero,List.getElem?_cons_succ,vZ,Int.reduceEq,Int.reduceNe,Int.reduceLT,Int.reduceLE,Nat.reduceEqDiff,Nat.reduceAdd,reduceIte,reduceCtorEq,Nat.reduceLT,Nat.reduceLeDiff,Nat.reduceShiftRight,Nat.reduceMod]
 refine ⟨usedL_abuf rfl rfl rfl (by rw [List.take_of_length_le (by simp [boxesL]),boxesL_imm]),?_⟩
 refine WL_cutW (envOf [(2,.int .i64 more),(3,.ptr 3 0 0),(4,.ptr 4 0 0),(8,.int .i64 n),(10,.sl (vecs C)),(16,.ptr 16 0 0),(31,.int .i64 0)],stOf [(3,⟨26,12,[m.av]⟩),(4,⟨31,7,[x.av]⟩),(16,⟨50,12,[pairB x.b.h1 x.b.h2]⟩)]) rfl ?_ (TW_20 m x more n C H hn hcd hC)
 refine weakX [] (of_decide_eq_true rfl) (of_decide_eq_true rfl) ?_
 (simp only [TM.av,TS.av,TB.av,V3.av,pairB,vcW,vZ,Int.reduceEq,Int.reduceNe,Int.reduceLT,Int.reduceLE,Nat.reduceEqDiff,Nat.reduceAdd,reduceIte,reduceCtorEq,Nat.reduceLT,Nat.reduceLeDiff,Nat.reduceShiftRight,Nat.reduceMod])
 (repeat' first | exact trivial | (with_reducible first | exact RnB.fxB (ints_fxB _) | rfl | refine And.intro ?_ ?_) | (with_reducible (first | refine RnB.bb ?_ | refine RnB.nb ?_);simp only [vcW,vZ,Int.reduceEq,Int.reduceNe,Int.reduceLT,Int.reduceLE,Nat.reduceEqDiff,Nat.reduceAdd,reduceIte,reduceCtorEq,Nat.reduceLT,Nat.reduceLeDiff,Nat.reduceShiftRight,Nat.reduceMod]) | (with_reducible first | refine RnB.ii ?_ | refine RnB.app ?_) | (with_reducible refine RnB.fxB ?_;simp only [vcW,vZ,Int.reduceEq,Int.reduceNe,Int.reduceLT,Int.reduceLE,Nat.reduceEqDiff,Nat.reduceAdd,reduceIte,reduceCtorEq,Nat.reduceLT,Nat.reduceLeDiff,Nat.reduceShiftRight,Nat.reduceMod]) | omega)
 all_goals first | rfl | exact RnB.fxB rfl | omega | skip
end Go.Proofs.Ytoiajhogondgcaa

/- TopTrackTwoWays: the best steps and covers of both halves. By an AI agent;nothing here is trusted. -/
namespace Go.Proofs.Ytoiajhogondgcaa
open Go.Av

def nxt (F:Bool) (V:V3) (N E:Int) (V':V3) (N':Int):Bool × V3 × Int:=if E=12 then (F,V,N) else if F=false∨N'<N∨(N'=N∧V'.lt V) then (true,V',N') else (F,V,N)
theorem bestE_or {m:TM} {b:TB} {l:List TH} (q:openE m b l=0):bestE m b l=0∨bestE m b l=12:=by
 unfold bestE
 rw [if_pos q]
 split <;> simp
set_option maxHeartbeats 8000000 in
set_option maxRecDepth 10000 in
theorem TW_b2_0 (m:TM) (x:TS) (more n N:Int) (sv V:V3) (F:Bool) (C:List V3) (L0 L:List TB) (H:TWH m x more) (hpb:x.b.h1.Ok) (hpc:x.b.h1.count≤700) (hq:openE m x.b.h1 x.h=0) (hL0:L0.length≤1000) (hL:m.coverOf x.b.h1 x.h n=some L) (hLl:L.length≤700) (r:Bool × V3 × Int)
  (hr:r=nxt F V N (bestE m x.b.h1 x.h) (bestV m x.b.h1 x.h) (bestN m x.b.h1 x.h)) :
  AWM Try.prog 334 cl_top_TopTrackTwoWays_b2.er (fun ex e' s'=>ex=.normal∧Weak (e',s') (envOf [(2,.int .i64 more),(3,.ptr 3 0 0),(4,.ptr 4 0 0),(7,.ptr 7 0 0),(8,.int .i64 n),(10,.sl (vecs C)),(16,.ptr 16 0 0),(19,.ptr 19 0 0),(18,.buf 100 L.length),(20,.int .i64 r.2.2),(21,.bool r.1),(22,.int .i64 1)],stOf [(3,⟨26,12,[m.av]⟩),(4,⟨31,7,[x.av]⟩),(7,⟨22,3,[sv.av]⟩),(16,⟨50,12,[pairB x.b.h1 x.b.h2]⟩),(19,⟨22,3,[r.2.1.av]⟩),(100,⟨28,6,boxesL L⟩)])) (envOf [(2,.int .i64 more),(3,.ptr 3 0 0),(4,.ptr 4 0 0),(7,.ptr 7 0 0),(8,.int .i64 n),(10,.sl (vecs C)),(16,.ptr 16 0 0),(19,.ptr 19 0 0),(18,.nils),(20,.int .i64 N),(21,.bool F),(22,.int .i64 0)]) (stOf [(3,⟨26,12,[m.av]⟩),(4,⟨31,7,[x.av]⟩),(7,⟨22,3,[sv.av]⟩),(16,⟨50,12,[pairB x.b.h1 x.b.h2]⟩),(19,⟨22,3,[V.av]⟩)]):=by
 refine WL_sound (t:=.mk) ?_
 obtain ⟨hm,hb,hcc,hl2,ho⟩:=openE_ok H.q
 have hE:=bestE_or hq
 have hpe:=err_of hpb hpc
 have hML:1000000000≤maxLen:=by decide
 have hsz:¬ (700:Int)<L.length:=by omega
 have hcv:=CoverOf_s m ⟨x.b.h1,x.h⟩ n hq
 rw [show m.coverOf (TS.mk x.b.h1 x.h).b (TS.mk x.b.h1 x.h).h n=some L from hL] at hcv
 unfold nxt at hr
 simp only [cl_top_TopTrackTwoWays_b2,stepA,pairB,V3.av,TM.av,TS.av,TB.av,tk_indexArr,tk_slice2,rnd_s,Int.reduceAdd,Int.reduceSub,decide_true,decide_false,i64_1,i64_2,i64_3,i64_4,true_and,Int.one_mul,Int.cast_ofNat_Int,Int.reduceToNat,Nat.zero_mul,Nat.reduceMul,Nat.zero_add,Nat.mul_one,List.getElem?_cons_zero,List.getElem?_cons_succ,vZ,Int.reduceEq,Int.reduceNe,Int.reduceLT,Int.reduceLE,Nat.reduceEqDiff,Nat.reduceAdd,reduceIte,reduceCtorEq,Nat.reduceLT,Nat.reduceLeDiff,Nat.reduceShiftRight,Nat.reduceMod]
 refine callS_of (refBoxErr_s x.b.h1) ?_
 simp only [hpe,decide_true,Bool.not_true,stepA,pairB,V3.av,TM.av,TS.av,TB.av,tk_indexArr,tk_slice2,rnd_s,Int.reduceAdd,Int.reduceSub,decide_true,decide_false,i64_1,i64_2,i64_3,i64_4,true_and,Int.one_mul,Int.cast_ofNat_Int,Int.reduceToNat,Nat.zero_mul,Nat.reduceMul,Nat.zero_add,Nat.mul_one,List.getElem?_cons_zero,List.getElem?_cons_succ,vZ,Int.reduceEq,Int.reduceNe,Int.reduceLT,Int.reduceLE,Nat.reduceEqDiff,Nat.reduceAdd,reduceIte,reduceCtorEq,Nat.reduceLT,Nat.reduceLeDiff,Nat.reduceShiftRight,Nat.reduceMod]
 refine callS_of (refCopy_s x.h (by omega)) ?_
 simp only [stepA,pairB,V3.av,TM.av,TS.av,TB.av,tk_indexArr,tk_slice2,rnd_s,Int.reduceAdd,Int.reduceSub,decide_true,decide_false,i64_1,i64_2,i64_3,i64_4,true_and,Int.one_mul,Int.cast_ofNat_Int,Int.reduceToNat,Nat.zero_mul,Nat.reduceMul,Nat.zero_add,Nat.mul_one,List.getElem?_cons_zero,List.getElem?_cons_succ,vZ,Int.reduceEq,Int.reduceNe,Int.reduceLT,Int.reduceLE,Nat.reduceEqDiff,Nat.reduceAdd,reduceIte,reduceCtorEq,Nat.reduceLT,Nat.reduceLeDiff,Nat.reduceShiftRight,Nat.reduceMod]
 refine callS_of (refCopy_s x.h (by omega)) ?_
 simp only [stepA,pairB,V3.av,TM.av,TS.av,TB.av,tk_indexArr,tk_slice2,rnd_s,Int.reduceAdd,Int.reduceSub,decide_true,decide_false,i64_1,i64_2,i64_3,i64_4,true_and,Int.one_mul,Int.cast_ofNat_Int,Int.reduceToNat,Nat.zero_mul,Nat.reduceMul,Nat.zero_add,Nat.mul_one,List.getElem?_cons_zero,List.getElem?_cons_succ,vZ,Int.reduceEq,Int.reduceNe,Int.reduceLT,Int.reduceLE,Nat.reduceEqDiff,Nat.reduceAdd,reduceIte,reduceCtorEq,Nat.reduceLT,Nat.reduceLeDiff,Nat.reduceShiftRight,Nat.reduceMod]
 refine callS_of (BestIn_s m x.b.h1 x.h (by omega)) ?_
 simp only [stepA,pairB,V3.av,TM.av,TS.av,TB.av,tk_indexArr,tk_slice2,rnd_s,Int.reduceAdd,Int.reduceSub,decide_true,decide_false,i64_1,i64_2,i64_3,i64_4,true_and,Int.one_mul,Int.cast_ofNat_Int,Int.reduceToNat,Nat.zero_mul,Nat.reduceMul,Nat.zero_add,Nat.mul_one,List.getElem?_cons_zero,List.getElem?_cons_succ,vZ,Int.reduceEq,Int.reduceNe,Int.reduceLT,Int.reduceLE,Nat.reduceEqDiff,Nat.reduceAdd,reduceIte,reduceCtorEq,Nat.reduceLT,Nat.reduceLeDiff,Nat.reduceShiftRight,Nat.reduceMod]
 refine callS_of hcv ?_
 simp only [Option.getD_some,Option.isSome_some,if_true,decide_true,Bool.not_true,hsz,decide_false,boxesL_length,stepA,pairB,V3.av,TM.av,TS.av,TB.av,tk_indexArr,tk_slice2,rnd_s,Int.reduceAdd,Int.reduceSub,decide_true,decide_false,i64_1,i64_2,i64_3,i64_4,true_and,Int.one_mul,Int.cast_ofNat_Int,Int.reduceToNat,Nat.zero_mul,Nat.reduceMul,Nat.zero_add,Nat.mul_one,List.getElem?_cons_zero,List.getElem?_cons_succ,vZ,Int.reduceEq,Int.reduceNe,Int.reduceLT,Int.reduceLE,Nat.reduceEqDiff,Nat.reduceAdd,reduceIte,reduceCtorEq,Nat.reduceLT,Nat.reduceLeDiff,Nat.reduceShiftRight,Nat.reduceMod]
 refine ⟨newsOk_boxes L,⟨by omega,by omega⟩,?_⟩
 by_cases q1:bestE m x.b.h1 x.h=12
 case pos =>
  have hr':r=(F,V,N):=by rw [hr];simp [q1]
  have r1:r.1=F:=by rw [hr']
  have r2:r.2.1=V:=by rw [hr']
  have r3:r.2.2=N:=by rw [hr']
  simp only [q1,decide_true,stepA,pairB,V3.av,TM.av,TS.av,TB.av,tk_indexArr,tk_slice2,rnd_s,Int.reduceAdd,Int.reduceSub,decide_true,decide_false,i64_1,i64_2,i64_3,i64_4,true_and,Int.one_mul,Int.cast_ofNat_Int,Int.reduceToNat,Nat.zero_mul,Nat.reduceMul,Nat.zero_add,Nat.mul_one,List.getElem?_cons_zero,List.getElem?_cons_succ,vZ,Int.reduceEq,Int.reduceNe,Int.reduceLT,Int.reduceLE,Nat.reduceEqDiff,Nat.reduceAdd,reduceIte,reduceCtorEq,Nat.reduceLT,Nat.reduceLeDiff,Nat.reduceShiftRight,Nat.reduceMod]
  refine weakX [(100,some 198)] (of_decide_eq_true rfl) (of_decide_eq_true rfl) ?_
  (simp only [r1,r2,r3,boxesL_append,List.length_append,TM.av,TS.av,TB.av,V3.av,pairB,vcW,vZ,Int.reduceEq,Int.reduceNe,Int.reduceLT,Int.reduceLE,Nat.reduceEqDiff,Nat.reduceAdd,reduceIte,reduceCtorEq,Nat.reduceLT,Nat.reduceLeDiff,Nat.reduceShiftRight,Nat.reduceMod])
  (repeat' first | exact trivial | (with_reducible first | exact RnB.fxB (ints_fxB _) | rfl | refine And.intro ?_ ?_) | (with_reducible (first | refine RnB.bb ?_ | refine RnB.nb ?_);simp only [vcW,vZ,Int.reduceEq,Int.reduceNe,Int.reduceLT,Int.reduceLE,Nat.reduceEqDiff,Nat.reduceAdd,reduceIte,reduceCtorEq,Nat.reduceLT,Nat.reduceLeDiff,Nat.reduceShiftRight,Nat.reduceMod]) | (with_reducible first | refine RnB.ii ?_ | refine RnB.app ?_) | (with_reducible refine RnB.fxB ?_;simp only [vcW,vZ,Int.reduceEq,Int.reduceNe,Int.reduceLT,Int.reduceLE,Nat.reduceEqDiff,Nat.reduceAdd,reduceIte,reduceCtorEq,Nat.reduceLT,Nat.reduceLeDiff,Nat.reduceShiftRight,Nat.reduceMod]) | omega)
  all_goals first | rfl | exact RnB.fxB rfl | exact RnB.fxB (boxesL_fxB _) | exact RnB.fxB (by rw [List.all_append,boxesL_fxB,boxesL_fxB];rfl) | omega | skip
 have q0:bestE m x.b.h1 x.h=0:=hE.resolve_right q1
 cases F with
 | false =>
  have hr':r=(true,bestV m x.b.h1 x.h,bestN m x.b.h1 x.h):=by rw [hr];simp [q0]
  have r1:r.1=true:=by rw [hr']
  have r2:r.2.1=bestV m x.b.h1 x.h:=by rw [hr']
  have r3:r.2.2=bestN m x.b.h1 x.h:=by rw [hr']
  simp only [q0,decide_true,decide_false,Bool.not_true,Bool.not_false,stepA,pairB,V3.av,TM.av,TS.av,TB.av,tk_indexArr,tk_slice2,rnd_s,Int.reduceAdd,Int.reduceSub,decide_true,decide_false,i64_1,i64_2,i64_3,i64_4,true_and,Int.one_mul,Int.cast_ofNat_Int,Int.reduceToNat,Nat.zero_mul,Nat.reduceMul,Nat.zero_add,Nat.mul_one,List.getElem?_cons_zero,List.getElem?_cons_succ,vZ,Int.reduceEq,Int.reduceNe,Int.reduceLT,Int.reduceLE,Nat.reduceEqDiff,Nat.reduceAdd,reduceIte,reduceCtorEq,Nat.reduceLT,Nat.reduceLeDiff,Nat.reduceShiftRight,Nat.reduceMod]
  refine weakX [(100,some 198)] (of_decide_eq_true rfl) (of_decide_eq_true rfl) ?_
  (simp only [r1,r2,r3,boxesL_append,List.length_append,TM.av,TS.av,TB.av,V3.av,pairB,vcW,vZ,Int.reduceEq,Int.reduceNe,Int.reduceLT,Int.reduceLE,Nat.reduceEqDiff,Nat.reduceAdd,reduceIte,reduceCtorEq,Nat.reduceLT,Nat.reduceLeDiff,Nat.reduceShiftRight,Nat.reduceMod])
  (repeat' first | exact trivial | (with_reducible first | exact RnB.fxB (ints_fxB _) | rfl | refine And.intro ?_ ?_) | (with_reducible (first | refine RnB.bb ?_ | refine RnB.nb ?_);simp only [vcW,vZ,Int.reduceEq,Int.reduceNe,Int.reduceLT,Int.reduceLE,Nat.reduceEqDiff,Nat.reduceAdd,reduceIte,reduceCtorEq,Nat.reduceLT,Nat.reduceLeDiff,Nat.reduceShiftRight,Nat.reduceMod]) | (with_reducible first | refine RnB.ii ?_ | refine RnB.app ?_) | (with_reducible refine RnB.fxB ?_;simp only [vcW,vZ,Int.reduceEq,Int.reduceNe,Int.reduceLT,Int.reduceLE,Nat.reduceEqDiff,Nat.reduceAdd,reduceIte,reduceCtorEq,Nat.reduceLT,Nat.reduceLeDiff,Nat.reduceShiftRight,Nat.reduceMod]) | omega)
  all_goals first | rfl | exact RnB.fxB rfl | exact RnB.fxB (boxesL_fxB _) | exact RnB.fxB (by rw [List.all_append,boxesL_fxB,boxesL_fxB];rfl) | omega | skip
 | true =>
  by_cases q2:bestN m x.b.h1 x.h<N
  case pos =>
   have hr':r=(true,bestV m x.b.h1 x.h,bestN m x.b.h1 x.h):=by rw [hr];simp [q0,q2]
   have r1:r.1=true:=by rw [hr']
   have r2:r.2.1=bestV m x.b.h1 x.h:=by rw [hr']
   have r3:r.2.2=bestN m x.b.h1 x.h:=by rw [hr']
   simp only [q0,q2,decide_true,decide_false,Bool.not_true,Bool.not_false,stepA,pairB,V3.av,TM.av,TS.av,TB.av,tk_indexArr,tk_slice2,rnd_s,Int.reduceAdd,Int.reduceSub,decide_true,decide_false,i64_1,i64_2,i64_3,i64_4,true_and,Int.one_mul,Int.cast_ofNat_Int,Int.reduceToNat,Nat.zero_mul,Nat.reduceMul,Nat.zero_add,Nat.mul_one,List.getElem?_cons_zero,List.getElem?_cons_succ,vZ,Int.reduceEq,Int.reduceNe,Int.reduceLT,Int.reduceLE,Nat.reduceEqDiff,Nat.reduceAdd,reduceIte,reduceCtorEq,Nat.reduceLT,Nat.reduceLeDiff,Nat.reduceShiftRight,Nat.reduceMod]
   refine weakX [(100,some 198)] (of_decide_eq_true rfl) (of_decide_eq_true rfl) ?_
   (simp only [r1,r2,r3,boxesL_append,List.length_append,TM.av,TS.av,TB.av,V3.av,pairB,vcW,vZ,Int.reduceEq,Int.reduceNe,Int.reduceLT,Int.reduceLE,Nat.reduceEqDiff,Nat.reduceAdd,reduceIte,reduceCtorEq,Nat.reduceLT,Nat.reduceLeDiff,Nat.reduceShiftRight,Nat.reduceMod])
   (repeat' first | exact trivial | (with_reducible first | exact RnB.fxB (ints_fxB _) | rfl | refine And.intro ?_ ?_) | (with_reducible (first | refine RnB.bb ?_ | refine RnB.nb ?_);simp only [vcW,vZ,Int.reduceEq,Int.reduceNe,Int.reduceLT,Int.reduceLE,Nat.reduceEqDiff,Nat.reduceAdd,reduceIte,reduceCtorEq,Nat.reduceLT,Nat.reduceLeDiff,Nat.reduceShiftRight,Nat.reduceMod]) | (with_reducible first | refine RnB.ii ?_ | refine RnB.app ?_) | (with_reducible refine RnB.fxB ?_;simp only [vcW,vZ,Int.reduceEq,Int.reduceNe,Int.reduceLT,Int.reduceLE,Nat.reduceEqDiff,Nat.reduceAdd,reduceIte,reduceCtorEq,Nat.reduceLT,Nat.reduceLeDiff,Nat.reduceShiftRight,Nat.reduceMod]) | omega)
   all_goals first | rfl | exact RnB.fxB rfl | exact RnB.fxB (boxesL_fxB _) | exact RnB.fxB (by rw [List.all_append,boxesL_fxB,boxesL_fxB];rfl) | omega | skip
  by_cases q3:bestN m x.b.h1 x.h=N
  case neg =>
   have hr':r=(true,V,N):=by rw [hr];simp [q0,q2,q3]
   have r1:r.1=true:=by rw [hr']
   have r2:r.2.1=V:=by rw [hr']
   have r3:r.2.2=N:=by rw [hr']
   simp only [q0,q2,q3,decide_true,decide_false,Bool.not_true,Bool.not_false,stepA,pairB,V3.av,TM.av,TS.av,TB.av,tk_indexArr,tk_slice2,rnd_s,Int.reduceAdd,Int.reduceSub,decide_true,decide_false,i64_1,i64_2,i64_3,i64_4,true_and,Int.one_mul,Int.cast_ofNat_Int,Int.reduceToNat,Nat.zero_mul,Nat.reduceMul,Nat.zero_add,Nat.mul_one,List.getElem?_cons_zero,List.getElem?_cons_succ,vZ,Int.reduceEq,Int.reduceNe,Int.reduceLT,Int.reduceLE,Nat.reduceEqDiff,Nat.reduceAdd,reduceIte,reduceCtorEq,Nat.reduceLT,Nat.reduceLeDiff,Nat.reduceShiftRight,Nat.reduceMod]
   refine weakX [(100,some 198)] (of_decide_eq_true rfl) (of_decide_eq_true rfl) ?_
   (simp only [r1,r2,r3,boxesL_append,List.length_append,TM.av,TS.av,TB.av,V3.av,pairB,vcW,vZ,Int.reduceEq,Int.reduceNe,Int.reduceLT,Int.reduceLE,Nat.reduceEqDiff,Nat.reduceAdd,reduceIte,reduceCtorEq,Nat.reduceLT,Nat.reduceLeDiff,Nat.reduceShiftRight,Nat.reduceMod])
   (repeat' first | exact trivial | (with_reducible first | exact RnB.fxB (ints_fxB _) | rfl | refine And.intro ?_ ?_) | (with_reducible (first | refine RnB.bb ?_ | refine RnB.nb ?_);simp only [vcW,vZ,Int.reduceEq,Int.reduceNe,Int.reduceLT,Int.reduceLE,Nat.reduceEqDiff,Nat.reduceAdd,reduceIte,reduceCtorEq,Nat.reduceLT,Nat.reduceLeDiff,Nat.reduceShiftRight,Nat.reduceMod]) | (with_reducible first | refine RnB.ii ?_ | refine RnB.app ?_) | (with_reducible refine RnB.fxB ?_;simp only [vcW,vZ,Int.reduceEq,Int.reduceNe,Int.reduceLT,Int.reduceLE,Nat.reduceEqDiff,Nat.reduceAdd,reduceIte,reduceCtorEq,Nat.reduceLT,Nat.reduceLeDiff,Nat.reduceShiftRight,Nat.reduceMod]) | omega)
   all_goals first | rfl | exact RnB.fxB rfl | exact RnB.fxB (boxesL_fxB _) | exact RnB.fxB (by rw [List.all_append,boxesL_fxB,boxesL_fxB];rfl) | omega | skip
  simp only [q0,q2,decide_true,decide_false,Bool.not_true,Bool.not_false,stepA,pairB,V3.av,TM.av,TS.av,TB.av,tk_indexArr,tk_slice2,rnd_s,Int.reduceAdd,Int.reduceSub,decide_true,decide_false,i64_1,i64_2,i64_3,i64_4,true_and,Int.one_mul,Int.cast_ofNat_Int,Int.reduceToNat,Nat.zero_mul,Nat.reduceMul,Nat.zero_add,Nat.mul_one,List.getElem?_cons_zero,List.getElem?_cons_succ,vZ,Int.reduceEq,Int.reduceNe,Int.reduceLT,Int.reduceLE,Nat.reduceEqDiff,Nat.reduceAdd,reduceIte,reduceCtorEq,Nat.reduceLT,Nat.reduceLeDiff,Nat.reduceShiftRight,Nat.reduceMod]
  simp only [q3,decide_true,stepA,pairB,V3.av,TM.av,TS.av,TB.av,tk_indexArr,tk_slice2,rnd_s,Int.reduceAdd,Int.reduceSub,decide_true,decide_false,i64_1,i64_2,i64_3,i64_4,true_and,Int.one_mul,Int.cast_ofNat_Int,Int.reduceToNat,Nat.zero_mul,Nat.reduceMul,Nat.zero_add,Nat.mul_one,List.getElem?_cons_zero,List.getElem?_cons_succ,vZ,Int.reduceEq,Int.reduceNe,Int.reduceLT,Int.reduceLE,Nat.reduceEqDiff,Nat.reduceAdd,reduceIte,reduceCtorEq,Nat.reduceLT,Nat.reduceLeDiff,Nat.reduceShiftRight,Nat.reduceMod]
  refine callS_of (trackBefore_s (bestV m x.b.h1 x.h) V) ?_
  by_cases q4:(bestV m x.b.h1 x.h).lt V
  case pos =>
   have hr':r=(true,bestV m x.b.h1 x.h,bestN m x.b.h1 x.h):=by rw [hr];simp [q0,q2,q3,q4]
   have r1:r.1=true:=by rw [hr']
   have r2:r.2.1=bestV m x.b.h1 x.h:=by rw [hr']
   have r3:r.2.2=bestN m x.b.h1 x.h:=by rw [hr']
   simp only [q4,decide_true,decide_false,stepA,pairB,V3.av,TM.av,TS.av,TB.av,tk_indexArr,tk_slice2,rnd_s,Int.reduceAdd,Int.reduceSub,decide_true,decide_false,i64_1,i64_2,i64_3,i64_4,true_and,Int.one_mul,Int.cast_ofNat_Int,Int.reduceToNat,Nat.zero_mul,Nat.reduceMul,Nat.zero_add,Nat.mul_one,List.getElem?_cons_zero,List.getElem?_cons_succ,vZ,Int.reduceEq,Int.reduceNe,Int.reduceLT,Int.reduceLE,Nat.reduceEqDiff,Nat.reduceAdd,reduceIte,reduceCtorEq,Nat.reduceLT,Nat.reduceLeDiff,Nat.reduceShiftRight,Nat.reduceMod]
   refine weakX [(100,some 198)] (of_decide_eq_true rfl) (of_decide_eq_true rfl) ?_
   (simp only [r1,r2,r3,q3,boxesL_append,List.length_append,TM.av,TS.av,TB.av,V3.av,pairB,vcW,vZ,Int.reduceEq,Int.reduceNe,Int.reduceLT,Int.reduceLE,Nat.reduceEqDiff,Nat.reduceAdd,reduceIte,reduceCtorEq,Nat.reduceLT,Nat.reduceLeDiff,Nat.reduceShiftRight,Nat.reduceMod])
   (repeat' first | exact trivial | (with_reducible first | exact RnB.fxB (ints_fxB _) | rfl | refine And.intro ?_ ?_) | (with_reducible (first | refine RnB.bb ?_ | refine RnB.nb ?_);simp only [vcW,vZ,Int.reduceEq,Int.reduceNe,Int.reduceLT,Int.reduceLE,Nat.reduceEqDiff,Nat.reduceAdd,reduceIte,reduceCtorEq,Nat.reduceLT,Nat.reduceLeDiff,Nat.reduceShiftRight,Nat.reduceMod]) | (with_reducible first | refine RnB.ii ?_ | refine RnB.app ?_) | (with_reducible refine RnB.fxB ?_;simp only [vcW,vZ,Int.reduceEq,Int.reduceNe,Int.reduceLT,Int.reduceLE,Nat.reduceEqDiff,Nat.reduceAdd,reduceIte,reduceCtorEq,Nat.reduceLT,Nat.reduceLeDiff,Nat.reduceShiftRight,Nat.reduceMod]) | omega)
   all_goals first | rfl | exact RnB.fxB rfl | exact RnB.fxB (boxesL_fxB _) | exact RnB.fxB (by rw [List.all_append,boxesL_fxB,boxesL_fxB];rfl) | omega | skip
  have hr':r=(true,V,N):=by rw [hr];simp [q0,q2,q3,q4]
  have r1:r.1=true:=by rw [hr']
  have r2:r.2.1=V:=by rw [hr']
  have r3:r.2.2=N:=by rw [hr']
  simp only [q4,decide_true,decide_false,stepA,pairB,V3.av,TM.av,TS.av,TB.av,tk_indexArr,tk_slice2,rnd_s,Int.reduceAdd,Int.reduceSub,decide_true,decide_false,i64_1,i64_2,i64_3,i64_4,true_and,Int.one_mul,Int.cast_ofNat_Int,Int.reduceToNat,Nat.zero_mul,Nat.reduceMul,Nat.zero_add,Nat.mul_one,List.getElem?_cons_zero,List.getElem?_cons_succ,vZ,Int.reduceEq,Int.reduceNe,Int.reduceLT,Int.reduceLE,Nat.reduceEqDiff,Nat.reduceAdd,reduceIte,reduceCtorEq,Nat.reduceLT,Nat.reduceLeDiff,Nat.reduceShiftRight,Nat.reduceMod]
  refine weakX [(100,some 198)] (of_decide_eq_true rfl) (of_decide_eq_true rfl) ?_
  (simp only [r1,r2,r3,boxesL_append,List.length_append,TM.av,TS.av,TB.av,V3.av,pairB,vcW,vZ,Int.reduceEq,Int.reduceNe,Int.reduceLT,Int.reduceLE,Nat.reduceEqDiff,Nat.reduceAdd,reduceIte,reduceCtorEq,Nat.reduceLT,Nat.reduceLeDiff,Nat.reduceShiftRight,Nat.reduceMod])
  (repeat' first | exact trivial | (with_reducible first | exact RnB.fxB (ints_fxB _) | rfl | refine And.intro ?_ ?_) | (with_reducible (first | refine RnB.bb ?_ | refine RnB.nb ?_);simp only [vcW,vZ,Int.reduceEq,Int.reduceNe,Int.reduceLT,Int.reduceLE,Nat.reduceEqDiff,Nat.reduceAdd,reduceIte,reduceCtorEq,Nat.reduceLT,Nat.reduceLeDiff,Nat.reduceShiftRight,Nat.reduceMod]) | (with_reducible first | refine RnB.ii ?_ | refine RnB.app ?_) | (with_reducible refine RnB.fxB ?_;simp only [vcW,vZ,Int.reduceEq,Int.reduceNe,Int.reduceLT,Int.reduceLE,Nat.reduceEqDiff,Nat.reduceAdd,reduceIte,reduceCtorEq,Nat.reduceLT,Nat.reduceLeDiff,Nat.reduceShiftRight,Nat.reduceMod]) | omega)
  all_goals first | rfl | exact RnB.fxB rfl | exact RnB.fxB (boxesL_fxB _) | exact RnB.fxB (by rw [List.all_append,boxesL_fxB,boxesL_fxB];rfl) | omega | skip
set_option maxHeartbeats 8000000 in
set_option maxRecDepth 10000 in
theorem TW_b2_1 (m:TM) (x:TS) (more n N:Int) (sv V:V3) (F:Bool) (C:List V3) (L0 L:List TB) (H:TWH m x more) (hpb:x.b.h2.Ok) (hpc:x.b.h2.count≤700) (hq:openE m x.b.h2 x.h=0) (hL0:L0.length≤1000) (hL:m.coverOf x.b.h2 x.h n=some L) (hLl:L.length≤700) (r:Bool × V3 × Int)
  (hr:r=nxt F V N (bestE m x.b.h2 x.h) (bestV m x.b.h2 x.h) (bestN m x.b.h2 x.h)) :
  AWM Try.prog 334 cl_top_TopTrackTwoWays_b2.er (fun ex e' s'=>ex=.normal∧Weak (e',s') (envOf [(2,.int .i64 more),(3,.ptr 3 0 0),(4,.ptr 4 0 0),(7,.ptr 7 0 0),(8,.int .i64 n),(10,.sl (vecs C)),(16,.ptr 16 0 0),(19,.ptr 19 0 0),(18,.buf 100 (L0 ++ L).length),(20,.int .i64 r.2.2),(21,.bool r.1),(22,.int .i64 2)],stOf [(3,⟨26,12,[m.av]⟩),(4,⟨31,7,[x.av]⟩),(7,⟨22,3,[sv.av]⟩),(16,⟨50,12,[pairB x.b.h1 x.b.h2]⟩),(19,⟨22,3,[r.2.1.av]⟩),(100,⟨28,6,boxesL (L0 ++ L)⟩)])) (envOf [(2,.int .i64 more),(3,.ptr 3 0 0),(4,.ptr 4 0 0),(7,.ptr 7 0 0),(8,.int .i64 n),(10,.sl (vecs C)),(16,.ptr 16 0 0),(19,.ptr 19 0 0),(18,.buf 100 L0.length),(20,.int .i64 N),(21,.bool F),(22,.int .i64 1)]) (stOf [(3,⟨26,12,[m.av]⟩),(4,⟨31,7,[x.av]⟩),(7,⟨22,3,[sv.av]⟩),(16,⟨50,12,[pairB x.b.h1 x.b.h2]⟩),(19,⟨22,3,[V.av]⟩),(100,⟨28,6,boxesL L0⟩)]):=by
 refine WL_sound (t:=.mk) ?_
 obtain ⟨hm,hb,hcc,hl2,ho⟩:=openE_ok H.q
 have hE:=bestE_or hq
 have hpe:=err_of hpb hpc
 have hML:1000000000≤maxLen:=by decide
 have hsz:¬ (700:Int)<L.length:=by omega
 have hcv:=CoverOf_s m ⟨x.b.h2,x.h⟩ n hq
 rw [show m.coverOf (TS.mk x.b.h2 x.h).b (TS.mk x.b.h2 x.h).h n=some L from hL] at hcv
 unfold nxt at hr
 simp only [cl_top_TopTrackTwoWays_b2,stepA,pairB,V3.av,TM.av,TS.av,TB.av,tk_indexArr,tk_slice2,rnd_s,Int.reduceAdd,Int.reduceSub,decide_true,decide_false,i64_1,i64_2,i64_3,i64_4,true_and,Int.one_mul,Int.cast_ofNat_Int,Int.reduceToNat,Nat.zero_mul,Nat.reduceMul,Nat.zero_add,Nat.mul_one,List.getElem?_cons_zero,List.getElem?_cons_succ,vZ,Int.reduceEq,Int.reduceNe,Int.reduceLT,Int.reduceLE,Nat.reduceEqDiff,Nat.reduceAdd,reduceIte,reduceCtorEq,Nat.reduceLT,Nat.reduceLeDiff,Nat.reduceShiftRight,Nat.reduceMod]
 refine callS_of (refBoxErr_s x.b.h2) ?_
 simp only [hpe,decide_true,Bool.not_true,stepA,pairB,V3.av,TM.av,TS.av,TB.av,tk_indexArr,tk_slice2,rnd_s,Int.reduceAdd,Int.reduceSub,decide_true,decide_false,i64_1,i64_2,i64_3,i64_4,true_and,Int.one_mul,Int.cast_ofNat_Int,Int.reduceToNat,Nat.zero_mul,Nat.reduceMul,Nat.zero_add,Nat.mul_one,List.getElem?_cons_zero,List.getElem?_cons_succ,vZ,Int.reduceEq,Int.reduceNe,Int.reduceLT,Int.reduceLE,Nat.reduceEqDiff,Nat.reduceAdd,reduceIte,reduceCtorEq,Nat.reduceLT,Nat.reduceLeDiff,Nat.reduceShiftRight,Nat.reduceMod]
 refine callS_of (refCopy_s x.h (by omega)) ?_
 simp only [stepA,pairB,V3.av,TM.av,TS.av,TB.av,tk_indexArr,tk_slice2,rnd_s,Int.reduceAdd,Int.reduceSub,decide_true,decide_false,i64_1,i64_2,i64_3,i64_4,true_and,Int.one_mul,Int.cast_ofNat_Int,Int.reduceToNat,Nat.zero_mul,Nat.reduceMul,Nat.zero_add,Nat.mul_one,List.getElem?_cons_zero,List.getElem?_cons_succ,vZ,Int.reduceEq,Int.reduceNe,Int.reduceLT,Int.reduceLE,Nat.reduceEqDiff,Nat.reduceAdd,reduceIte,reduceCtorEq,Nat.reduceLT,Nat.reduceLeDiff,Nat.reduceShiftRight,Nat.reduceMod]
 refine callS_of (refCopy_s x.h (by omega)) ?_
 simp only [stepA,pairB,V3.av,TM.av,TS.av,TB.av,tk_indexArr,tk_slice2,rnd_s,Int.reduceAdd,Int.reduceSub,decide_true,decide_false,i64_1,i64_2,i64_3,i64_4,true_and,Int.one_mul,Int.cast_ofNat_Int,Int.reduceToNat,Nat.zero_mul,Nat.reduceMul,Nat.zero_add,Nat.mul_one,List.getElem?_cons_zero,List.getElem?_cons_succ,vZ,Int.reduceEq,Int.reduceNe,Int.reduceLT,Int.reduceLE,Nat.reduceEqDiff,Nat.reduceAdd,reduceIte,reduceCtorEq,Nat.reduceLT,Nat.reduceLeDiff,Nat.reduceShiftRight,Nat.reduceMod]
 refine callS_of (BestIn_s m x.b.h2 x.h (by omega)) ?_
 simp only [stepA,pairB,V3.av,TM.av,TS.av,TB.av,tk_indexArr,tk_slice2,rnd_s,Int.reduceAdd,Int.reduceSub,decide_true,decide_false,i64_1,i64_2,i64_3,i64_4,true_and,Int.one_mul,Int.cast_ofNat_Int,Int.reduceToNat,Nat.zero_mul,Nat.reduceMul,Nat.zero_add,Nat.mul_one,List.getElem?_cons_zero,List.getElem?_cons_succ,vZ,Int.reduceEq,Int.reduceNe,Int.reduceLT,Int.reduceLE,Nat.reduceEqDiff,Nat.reduceAdd,reduceIte,reduceCtorEq,Nat.reduceLT,Nat.reduceLeDiff,Nat.reduceShiftRight,Nat.reduceMod]
 refine callS_of hcv ?_
 simp only [Option.getD_some,Option.isSome_some,if_true,decide_true,Bool.not_true,hsz,decide_false,boxesL_length,stepA,pairB,V3.av,TM.av,TS.av,TB.av,tk_indexArr,tk_slice2,rnd_s,Int.reduceAdd,Int.reduceSub,decide_true,decide_false,i64_1,i64_2,i64_3,i64_4,true_and,Int.one_mul,Int.cast_ofNat_Int,Int.reduceToNat,Nat.zero_mul,Nat.reduceMul,Nat.zero_add,Nat.mul_one,List.getElem?_cons_zero,List.getElem?_cons_succ,vZ,Int.reduceEq,Int.reduceNe,Int.reduceLT,Int.reduceLE,Nat.reduceEqDiff,Nat.reduceAdd,reduceIte,reduceCtorEq,Nat.reduceLT,Nat.reduceLeDiff,Nat.reduceShiftRight,Nat.reduceMod]
 refine ⟨newsOk_boxes L,⟨by omega,by omega⟩,?_⟩
 by_cases q1:bestE m x.b.h2 x.h=12
 case pos =>
  have hr':r=(F,V,N):=by rw [hr];simp [q1]
  have r1:r.1=F:=by rw [hr']
  have r2:r.2.1=V:=by rw [hr']
  have r3:r.2.2=N:=by rw [hr']
  simp only [q1,decide_true,stepA,pairB,V3.av,TM.av,TS.av,TB.av,tk_indexArr,tk_slice2,rnd_s,Int.reduceAdd,Int.reduceSub,decide_true,decide_false,i64_1,i64_2,i64_3,i64_4,true_and,Int.one_mul,Int.cast_ofNat_Int,Int.reduceToNat,Nat.zero_mul,Nat.reduceMul,Nat.zero_add,Nat.mul_one,List.getElem?_cons_zero,List.getElem?_cons_succ,vZ,Int.reduceEq,Int.reduceNe,Int.reduceLT,Int.reduceLE,Nat.reduceEqDiff,Nat.reduceAdd,reduceIte,reduceCtorEq,Nat.reduceLT,Nat.reduceLeDiff,Nat.reduceShiftRight,Nat.reduceMod]
  refine weakX [(100,some 198)] (of_decide_eq_true rfl) (of_decide_eq_true rfl) ?_
  (simp only [r1,r2,r3,boxesL_append,List.length_append,TM.av,TS.av,TB.av,V3.av,pairB,vcW,vZ,Int.reduceEq,Int.reduceNe,Int.reduceLT,Int.reduceLE,Nat.reduceEqDiff,Nat.reduceAdd,reduceIte,reduceCtorEq,Nat.reduceLT,Nat.reduceLeDiff,Nat.reduceShiftRight,Nat.reduceMod])
  (repeat' first | exact trivial | (with_reducible first | exact RnB.fxB (ints_fxB _) | rfl | refine And.intro ?_ ?_) | (with_reducible (first | refine RnB.bb ?_ | refine RnB.nb ?_);simp only [vcW,vZ,Int.reduceEq,Int.reduceNe,Int.reduceLT,Int.reduceLE,Nat.reduceEqDiff,Nat.reduceAdd,reduceIte,reduceCtorEq,Nat.reduceLT,Nat.reduceLeDiff,Nat.reduceShiftRight,Nat.reduceMod]) | (with_reducible first | refine RnB.ii ?_ | refine RnB.app ?_) | (with_reducible refine RnB.fxB ?_;simp only [vcW,vZ,Int.reduceEq,Int.reduceNe,Int.reduceLT,Int.reduceLE,Nat.reduceEqDiff,Nat.reduceAdd,reduceIte,reduceCtorEq,Nat.reduceLT,Nat.reduceLeDiff,Nat.reduceShiftRight,Nat.reduceMod]) | omega)
  all_goals first | rfl | exact RnB.fxB rfl | exact RnB.fxB (boxesL_fxB _) | exact RnB.fxB (by rw [List.all_append,boxesL_fxB,boxesL_fxB];rfl) | omega | skip
 have q0:bestE m x.b.h2 x.h=0:=hE.resolve_right q1
 cases F with
 | false =>
  have hr':r=(true,bestV m x.b.h2 x.h,bestN m x.b.h2 x.h):=by rw [hr];simp [q0]
  have r1:r.1=true:=by rw [hr']
  have r2:r.2.1=bestV m x.b.h2 x.h:=by rw [hr']
  have r3:r.2.2=bestN m x.b.h2 x.h:=by rw [hr']
  simp only [q0,decide_true,decide_false,Bool.not_true,Bool.not_false,stepA,pairB,V3.av,TM.av,TS.av,TB.av,tk_indexArr,tk_slice2,rnd_s,Int.reduceAdd,Int.reduceSub,decide_true,decide_false,i64_1,i64_2,i64_3,i64_4,true_and,Int.one_mul,Int.cast_ofNat_Int,Int.reduceToNat,Nat.zero_mul,Nat.reduceMul,Nat.zero_add,Nat.mul_one,List.getElem?_cons_zero,List.getElem?_cons_succ,vZ,Int.reduceEq,Int.reduceNe,Int.reduceLT,Int.reduceLE,Nat.reduceEqDiff,Nat.reduceAdd,reduceIte,reduceCtorEq,Nat.reduceLT,Nat.reduceLeDiff,Nat.reduceShiftRight,Nat.reduceMod]
  refine weakX [(100,some 198)] (of_decide_eq_true rfl) (of_decide_eq_true rfl) ?_
  (simp only [r1,r2,r3,boxesL_append,List.length_append,TM.av,TS.av,TB.av,V3.av,pairB,vcW,vZ,Int.reduceEq,Int.reduceNe,Int.reduceLT,Int.reduceLE,Nat.reduceEqDiff,Nat.reduceAdd,reduceIte,reduceCtorEq,Nat.reduceLT,Nat.reduceLeDiff,Nat.reduceShiftRight,Nat.reduceMod])
  (repeat' first | exact trivial | (with_reducible first | exact RnB.fxB (ints_fxB _) | rfl | refine And.intro ?_ ?_) | (with_reducible (first | refine RnB.bb ?_ | refine RnB.nb ?_);simp only [vcW,vZ,Int.reduceEq,Int.reduceNe,Int.reduceLT,Int.reduceLE,Nat.reduceEqDiff,Nat.reduceAdd,reduceIte,reduceCtorEq,Nat.reduceLT,Nat.reduceLeDiff,Nat.reduceShiftRight,Nat.reduceMod]) | (with_reducible first | refine RnB.ii ?_ | refine RnB.app ?_) | (with_reducible refine RnB.fxB ?_;simp only [vcW,vZ,Int.reduceEq,Int.reduceNe,Int.reduceLT,Int.reduceLE,Nat.reduceEqDiff,Nat.reduceAdd,reduceIte,reduceCtorEq,Nat.reduceLT,Nat.reduceLeDiff,Nat.reduceShiftRight,Nat.reduceMod]) | omega)
  all_goals first | rfl | exact RnB.fxB rfl | exact RnB.fxB (boxesL_fxB _) | exact RnB.fxB (by rw [List.all_append,boxesL_fxB,boxesL_fxB];rfl) | omega | skip
 | true =>
  by_cases q2:bestN m x.b.h2 x.h<N
  case pos =>
   have hr':r=(true,bestV m x.b.h2 x.h,bestN m x.b.h2 x.h):=by rw [hr];simp [q0,q2]
   have r1:r.1=true:=by rw [hr']
   have r2:r.2.1=bestV m x.b.h2 x.h:=by rw [hr']
   have r3:r.2.2=bestN m x.b.h2 x.h:=by rw [hr']
   simp only [q0,q2,decide_true,decide_false,Bool.not_true,Bool.not_false,stepA,pairB,V3.av,TM.av,TS.av,TB.av,tk_indexArr,tk_slice2,rnd_s,Int.reduceAdd,Int.reduceSub,decide_true,decide_false,i64_1,i64_2,i64_3,i64_4,true_and,Int.one_mul,Int.cast_ofNat_Int,Int.reduceToNat,Nat.zero_mul,Nat.reduceMul,Nat.zero_add,Nat.mul_one,List.getElem?_cons_zero,List.getElem?_cons_succ,vZ,Int.reduceEq,Int.reduceNe,Int.reduceLT,Int.reduceLE,Nat.reduceEqDiff,Nat.reduceAdd,reduceIte,reduceCtorEq,Nat.reduceLT,Nat.reduceLeDiff,Nat.reduceShiftRight,Nat.reduceMod]
   refine weakX [(100,some 198)] (of_decide_eq_true rfl) (of_decide_eq_true rfl) ?_
   (simp only [r1,r2,r3,boxesL_append,List.length_append,TM.av,TS.av,TB.av,V3.av,pairB,vcW,vZ,Int.reduceEq,Int.reduceNe,Int.reduceLT,Int.reduceLE,Nat.reduceEqDiff,Nat.reduceAdd,reduceIte,reduceCtorEq,Nat.reduceLT,Nat.reduceLeDiff,Nat.reduceShiftRight,Nat.reduceMod])
   (repeat' first | exact trivial | (with_reducible first | exact RnB.fxB (ints_fxB _) | rfl | refine And.intro ?_ ?_) | (with_reducible (first | refine RnB.bb ?_ | refine RnB.nb ?_);simp only [vcW,vZ,Int.reduceEq,Int.reduceNe,Int.reduceLT,Int.reduceLE,Nat.reduceEqDiff,Nat.reduceAdd,reduceIte,reduceCtorEq,Nat.reduceLT,Nat.reduceLeDiff,Nat.reduceShiftRight,Nat.reduceMod]) | (with_reducible first | refine RnB.ii ?_ | refine RnB.app ?_) | (with_reducible refine RnB.fxB ?_;simp only [vcW,vZ,Int.reduceEq,Int.reduceNe,Int.reduceLT,Int.reduceLE,Nat.reduceEqDiff,Nat.reduceAdd,reduceIte,reduceCtorEq,Nat.reduceLT,Nat.reduceLeDiff,Nat.reduceShiftRight,Nat.reduceMod]) | omega)
   all_goals first | rfl | exact RnB.fxB rfl | exact RnB.fxB (boxesL_fxB _) | exact RnB.fxB (by rw [List.all_append,boxesL_fxB,boxesL_fxB];rfl) | omega | skip
  by_cases q3:bestN m x.b.h2 x.h=N
  case neg =>
   have hr':r=(true,V,N):=by rw [hr];simp [q0,q2,q3]
   have r1:r.1=true:=by rw [hr']
   have r2:r.2.1=V:=by rw [hr']
   have r3:r.2.2=N:=by rw [hr']
   simp only [q0,q2,q3,decide_true,decide_false,Bool.not_true,Bool.not_false,stepA,pairB,V3.av,TM.av,TS.av,TB.av,tk_indexArr,tk_slice2,rnd_s,Int.reduceAdd,Int.reduceSub,decide_true,decide_false,i64_1,i64_2,i64_3,i64_4,true_and,Int.one_mul,Int.cast_ofNat_Int,Int.reduceToNat,Nat.zero_mul,Nat.reduceMul,Nat.zero_add,Nat.mul_one,List.getElem?_cons_zero,List.getElem?_cons_succ,vZ,Int.reduceEq,Int.reduceNe,Int.reduceLT,Int.reduceLE,Nat.reduceEqDiff,Nat.reduceAdd,reduceIte,reduceCtorEq,Nat.reduceLT,Nat.reduceLeDiff,Nat.reduceShiftRight,Nat.reduceMod]
   refine weakX [(100,some 198)] (of_decide_eq_true rfl) (of_decide_eq_true rfl) ?_
   (simp only [r1,r2,r3,boxesL_append,List.length_append,TM.av,TS.av,TB.av,V3.av,pairB,vcW,vZ,Int.reduceEq,Int.reduceNe,Int.reduceLT,Int.reduceLE,Nat.reduceEqDiff,Nat.reduceAdd,reduceIte,reduceCtorEq,Nat.reduceLT,Nat.reduceLeDiff,Nat.reduceShiftRight,Nat.reduceMod])
   (repeat' first | exact trivial | (with_reducible first | exact RnB.fxB (ints_fxB _) | rfl | refine And.intro ?_ ?_) | (with_reducible (first | refine RnB.bb ?_ | refine RnB.nb ?_);simp only [vcW,vZ,Int.reduceEq,Int.reduceNe,Int.reduceLT,Int.reduceLE,Nat.reduceEqDiff,Nat.reduceAdd,reduceIte,reduceCtorEq,Nat.reduceLT,Nat.reduceLeDiff,Nat.reduceShiftRight,Nat.reduceMod]) | (with_reducible first | refine RnB.ii ?_ | refine RnB.app ?_) | (with_reducible refine RnB.fxB ?_;simp only [vcW,vZ,Int.reduceEq,Int.reduceNe,Int.reduceLT,Int.reduceLE,Nat.reduceEqDiff,Nat.reduceAdd,reduceIte,reduceCtorEq,Nat.reduceLT,Nat.reduceLeDiff,Nat.reduceShiftRight,Nat.reduceMod]) | omega)
   all_goals first | rfl | exact RnB.fxB rfl | exact RnB.fxB (boxesL_fxB _) | exact RnB.fxB (by rw [List.all_append,boxesL_fxB,boxesL_fxB];rfl) | omega | skip
  simp only [q0,q2,decide_true,decide_false,Bool.not_true,Bool.not_false,stepA,pairB,V3.av,TM.av,TS.av,TB.av,tk_indexArr,tk_slice2,rnd_s,Int.reduceAdd,Int.reduceSub,decide_true,decide_false,i64_1,i64_2,i64_3,i64_4,true_and,Int.one_mul,Int.cast_ofNat_Int,Int.reduceToNat,Nat.zero_mul,Nat.reduceMul,Nat.zero_add,Nat.mul_one,List.getElem?_cons_zero,List.getElem?_cons_succ,vZ,Int.reduceEq,Int.reduceNe,Int.reduceLT,Int.reduceLE,Nat.reduceEqDiff,Nat.reduceAdd,reduceIte,reduceCtorEq,Nat.reduceLT,Nat.reduceLeDiff,Nat.reduceShiftRight,Nat.reduceMod]
  simp only [q3,decide_true,stepA,pairB,V3.av,TM.av,TS.av,TB.av,tk_indexArr,tk_slice2,rnd_s,Int.reduceAdd,Int.reduceSub,decide_true,decide_false,i64_1,i64_2,i64_3,i64_4,true_and,Int.one_mul,Int.cast_ofNat_Int,Int.reduceToNat,Nat.zero_mul,Nat.reduceMul,Nat.zero_add,Nat.mul_one,List.getElem?_cons_zero,List.getElem?_cons_succ,vZ,Int.reduceEq,Int.reduceNe,Int.reduceLT,Int.reduceLE,Nat.reduceEqDiff,Nat.reduceAdd,reduceIte,reduceCtorEq,Nat.reduceLT,Nat.reduceLeDiff,Nat.reduceShiftRight,Nat.reduceMod]
  refine callS_of (trackBefore_s (bestV m x.b.h2 x.h) V) ?_
  by_cases q4:(bestV m x.b.h2 x.h).lt V
  case pos =>
   have hr':r=(true,bestV m x.b.h2 x.h,bestN m x.b.h2 x.h):=by rw [hr];simp [q0,q2,q3,q4]
   have r1:r.1=true:=by rw [hr']
   have r2:r.2.1=bestV m x.b.h2 x.h:=by rw [hr']
   have r3:r.2.2=bestN m x.b.h2 x.h:=by rw [hr']
   simp only [q4,decide_true,decide_false,stepA,pairB,V3.av,TM.av,TS.av,TB.av,tk_indexArr,tk_slice2,rnd_s,Int.reduceAdd,Int.reduceSub,decide_true,decide_false,i64_1,i64_2,i64_3,i64_4,true_and,Int.one_mul,Int.cast_ofNat_Int,Int.reduceToNat,Nat.zero_mul,Nat.reduceMul,Nat.zero_add,Nat.mul_one,List.getElem?_cons_zero,List.getElem?_cons_succ,vZ,Int.reduceEq,Int.reduceNe,Int.reduceLT,Int.reduceLE,Nat.reduceEqDiff,Nat.reduceAdd,reduceIte,reduceCtorEq,Nat.reduceLT,Nat.reduceLeDiff,Nat.reduceShiftRight,Nat.reduceMod]
   refine weakX [(100,some 198)] (of_decide_eq_true rfl) (of_decide_eq_true rfl) ?_
   (simp only [r1,r2,r3,q3,boxesL_append,List.length_append,TM.av,TS.av,TB.av,V3.av,pairB,vcW,vZ,Int.reduceEq,Int.reduceNe,Int.reduceLT,Int.reduceLE,Nat.reduceEqDiff,Nat.reduceAdd,reduceIte,reduceCtorEq,Nat.reduceLT,Nat.reduceLeDiff,Nat.reduceShiftRight,Nat.reduceMod])
   (repeat' first | exact trivial | (with_reducible first | exact RnB.fxB (ints_fxB _) | rfl | refine And.intro ?_ ?_) | (with_reducible (first | refine RnB.bb ?_ | refine RnB.nb ?_);simp only [vcW,vZ,Int.reduceEq,Int.reduceNe,Int.reduceLT,Int.reduceLE,Nat.reduceEqDiff,Nat.reduceAdd,reduceIte,reduceCtorEq,Nat.reduceLT,Nat.reduceLeDiff,Nat.reduceShiftRight,Nat.reduceMod]) | (with_reducible first | refine RnB.ii ?_ | refine RnB.app ?_) | (with_reducible refine RnB.fxB ?_;simp only [vcW,vZ,Int.reduceEq,Int.reduceNe,Int.reduceLT,Int.reduceLE,Nat.reduceEqDiff,Nat.reduceAdd,reduceIte,reduceCtorEq,Nat.reduceLT,Nat.reduceLeDiff,Nat.reduceShiftRight,Nat.reduceMod]) | omega)
   all_goals first | rfl | exact RnB.fxB rfl | exact RnB.fxB (boxesL_fxB _) | exact RnB.fxB (by rw [List.all_append,boxesL_fxB,boxesL_fxB];rfl) | omega | skip
  have hr':r=(true,V,N):=by rw [hr];simp [q0,q2,q3,q4]
  have r1:r.1=true:=by rw [hr']
  have r2:r.2.1=V:=by rw [hr']
  have r3:r.2.2=N:=by rw [hr']
  simp only [q4,decide_true,decide_false,stepA,pairB,V3.av,TM.av,TS.av,TB.av,tk_indexArr,tk_slice2,rnd_s,Int.reduceAdd,Int.reduceSub,decide_true,decide_false,i64_1,i64_2,i64_3,i64_4,true_and,Int.one_mul,Int.cast_ofNat_Int,Int.reduceToNat,Nat.zero_mul,Nat.reduceMul,Nat.zero_add,Nat.mul_one,List.getElem?_cons_zero,List.getElem?_cons_succ,vZ,Int.reduceEq,Int.reduceNe,Int.reduceLT,Int.reduceLE,Nat.reduceEqDiff,Nat.reduceAdd,reduceIte,reduceCtorEq,Nat.reduceLT,Nat.reduceLeDiff,Nat.reduceShiftRight,Nat.reduceMod]
  refine weakX [(100,some 198)] (of_decide_eq_true rfl) (of_decide_eq_true rfl) ?_
  (simp only [r1,r2,r3,boxesL_append,List.length_append,TM.av,TS.av,TB.av,V3.av,pairB,vcW,vZ,Int.reduceEq,Int.reduceNe,Int.reduceLT,Int.reduceLE,Nat.reduceEqDiff,Nat.reduceAdd,reduceIte,reduceCtorEq,Nat.reduceLT,Nat.reduceLeDiff,Nat.reduceShiftRight,Nat.reduceMod])
  (repeat' first | exact trivial | (with_reducible first | exact RnB.fxB (ints_fxB _) | rfl | refine And.intro ?_ ?_) | (with_reducible (first | refine RnB.bb ?_ | refine RnB.nb ?_);simp only [vcW,vZ,Int.reduceEq,Int.reduceNe,Int.reduceLT,Int.reduceLE,Nat.reduceEqDiff,Nat.reduceAdd,reduceIte,reduceCtorEq,Nat.reduceLT,Nat.reduceLeDiff,Nat.reduceShiftRight,Nat.reduceMod]) | (with_reducible first | refine RnB.ii ?_ | refine RnB.app ?_) | (with_reducible refine RnB.fxB ?_;simp only [vcW,vZ,Int.reduceEq,Int.reduceNe,Int.reduceLT,Int.reduceLE,Nat.reduceEqDiff,Nat.reduceAdd,reduceIte,reduceCtorEq,Nat.reduceLT,Nat.reduceLeDiff,Nat.reduceShiftRight,Nat.reduceMod]) | omega)
  all_goals first | rfl | exact RnB.fxB rfl | exact RnB.fxB (boxesL_fxB _) | exact RnB.fxB (by rw [List.all_append,boxesL_fxB,boxesL_fxB];rfl) | omega | skip
end Go.Proofs.Ytoiajhogondgcaa

/- TopTrackTwoWays: divided and put together. By an AI agent;nothing here is trusted. -/
namespace Go.Proofs.Ytoiajhogondgcaa
open Go.Av

theorem openE_half {m:TM} {x:TS} {more:Int} (H:TWH m x more) {p:TB} (hp:p.Ok) (hc:p.count≤700):openE m p x.h=0:=by
 simp [openE,H.e,err_of hp hc,hits_of H.q]
theorem parts_best {m:TM} {x:TS} {more:Int} (H:TWH m x more) (hE:bestE m x.b x.h=0) (hcd:1<x.b.count) (r:Bool × V3 × Int)
  (hr:r=nxt false V3.o 0 (bestE m x.b.h1 x.h) (bestV m x.b.h1 x.h) (bestN m x.b.h1 x.h)):nxt r.1 r.2.1 r.2.2 (bestE m x.b.h2 x.h) (bestV m x.b.h2 x.h) (bestN m x.b.h2 x.h)=(true,bestV m x.b x.h,bestN m x.b x.h):=by
 obtain ⟨hm,hb,hcc,hl2,ho⟩:=openE_ok H.q
 obtain ⟨g1,g2,g3,g4,_⟩:=halves_ok hb hcd
 have n1:=count_pos g1.o
 have n2:=count_pos g2.o
 have o1:=openE_half H g1 (by omega)
 have o2:=openE_half H g2 (by omega)
 have b0:=bestOf_is H.q
 have b1:=bestOf_is o1
 have b2:=bestOf_is o2
 have bm:=(merge_is b1 b2).congr fun v=>(g4 v).symm
 have z0:(m.bestOf x.b x.h).s ≠ V3.o:=by
  intro z
  unfold bestE at hE
  rw [if_pos H.q,if_pos z] at hE
  cases hE
 obtain ⟨u1,u2⟩:=b0.unique bm z0
 have eV:bestV m x.b x.h=(mergeK (m.bestOf x.b.h1 x.h) (m.bestOf x.b.h2 x.h)).s:=by rw [u1];simp [bestV,H.q]
 have eN:bestN m x.b x.h=(mergeK (m.bestOf x.b.h1 x.h) (m.bestOf x.b.h2 x.h)).n:=by rw [u2];simp [bestN,H.q,z0]
 rw [← u1] at z0
 rw [eV,eN,hr]
 unfold bestE bestV bestN
 simp only [o1,o2,if_true]
 generalize m.bestOf x.b.h1 x.h=k1 at *
 generalize m.bestOf x.b.h2 x.h=k2 at *
 unfold mergeK at z0 ⊢
 unfold nxt
 by_cases z1:k1.s=V3.o
 ·by_cases z2:k2.s=V3.o
  ·rw [if_pos z2] at z0
   exact absurd z1 z0
  ·simp [z1,z2]
 ·by_cases z2:k2.s=V3.o
  ·simp [z1,z2]
  ·by_cases c:k2.n<k1.n∨(k2.n=k1.n∧k2.s.lt k1.s)
   ·simp [z1,z2,c]
   ·simp [z1,z2,c]
theorem covers_ok {m:TM} {x:TS} {more:Int} (H:TWH m x more) (hE:bestE m x.b x.h=0) (hcd:1<x.b.count):∃ L1 L2,m.coverOf x.b.h1 x.h (bestN m x.b x.h)=some L1∧m.coverOf x.b.h2 x.h (bestN m x.b x.h)=some L2∧L1.length≤700∧L2.length≤700 ∧
  Sound Try.prog 19 [m.av,x.av,.agg [.sl (boxesL (L1 ++ L2)),.int .i64 (bestN m x.b x.h)]] (.tup [.int .i64 0,.int .i64 0]):=by
 obtain ⟨hm,hb,hcc,hl2,ho⟩:=openE_ok H.q
 obtain ⟨g1,g2,g3,g4,g5,g6,g7⟩:=halves_ok hb hcd
 have n1:=count_pos g1.o
 have n2:=count_pos g2.o
 have hc12:=H.c
 have b0:=bestOf_is H.q
 have z0:(m.bestOf x.b x.h).s ≠ V3.o:=by
  intro z
  unfold bestE at hE
  rw [if_pos H.q,if_pos z] at hE
  cases hE
 have eN:bestN m x.b x.h=(m.bestOf x.b x.h).n:=by simp [bestN,H.q,z0]
 have hge:∀ v,x.b.has v→m.permits v→bestN m x.b x.h≤m.score v x.h:=fun v hv hp=>by
  rw [eN]
  rcases b0.best z0 v hv hp with h | ⟨h,_⟩ <;> omega
 obtain ⟨L1,h1⟩:=cover_some hm ho x.b.h1.count.toNat x.b.h1 g1 (by omega) (fun v hv=>hge v ((g4 v).2 (.inl hv)))
 obtain ⟨L2,h2⟩:=cover_some hm ho x.b.h2.count.toNat x.b.h2 g2 (by omega) (fun v hv=>hge v ((g4 v).2 (.inr hv)))
 have l1:=cover_len g1 h1
 have l2:=cover_len g2 h2
 obtain ⟨a1,a2,a3⟩:=cover_spec g1 h1
 obtain ⟨c1,c2,c3⟩:=cover_spec g2 h2
 have small:∀ (L:List TB) (p:TB),sumC L=p.count→(∀ c ∈ L,c.Ok)→∀ c ∈ L,c.count≤p.count:=by
  intro L p hs hk c hc
  rw [← hs]
  clear hs
  induction L with
  | nil=>cases hc
  | cons d L ih =>
   have e:sumC (d :: L)=d.count+sumC L:=by simp [sumC]
   have hd:=count_pos (hk d (by simp)).o
   have hnn:∀ L:List TB,(∀ c ∈ L,c.Ok)→0≤sumC L:=by
    intro L hk
    induction L with
    | nil=>simp [sumC]
    | cons d L ih =>
     have e:sumC (d :: L)=d.count+sumC L:=by simp [sumC]
     have hd:=count_pos (hk d (by simp)).o
     have:=ih fun c hc=>hk c (by simp [hc])
     omega
   have:=hnn L fun c hc=>hk c (by simp [hc])
   rcases List.mem_cons.1 hc with rfl | hc
   ·omega
   ·have:=ih (fun c hc=>hk c (by simp [hc])) hc
    omega
 refine ⟨L1,L2,h1,h2,by omega,by omega,CheckCover_s m x (L1 ++ L2) _ H.q (by rw [List.length_append];omega) (fun c hc=>?_) (fun c hc=>?_) ?_ (by rw [sumC_append];omega) (fun c hc=>?_)⟩
 ·rcases List.mem_append.1 hc with hc | hc
  ·exact err_of (a1 c hc).1 (by have:=small L1 _ a3 (fun c hc=>(a1 c hc).1) c hc;omega)
  ·exact err_of (c1 c hc).1 (by have:=small L2 _ c3 (fun c hc=>(c1 c hc).1) c hc;omega)
 ·rcases List.mem_append.1 hc with hc | hc
  ·exact in_trans (a1 c hc).2.1 g5
  ·exact in_trans (c1 c hc).2.1 g6
 ·rw [List.pairwise_append]
  exact ⟨a2,c2,fun a ha b hb=>apart_in g7 (a1 a ha).2.1 (c1 b hb).2.1⟩
 ·rcases List.mem_append.1 hc with hc | hc
  ·exact (a1 c hc).2.2
  ·exact (c1 c hc).2.2
set_option maxHeartbeats 8000000 in
set_option maxRecDepth 10000 in
theorem TW_15 (m:TM) (x:TS) (more:Int) (H:TWH m x more) (hE:bestE m x.b x.h=0) (hcd:1<x.b.count) :
  WL Try.prog 334 cl_top_TopTrackTwoWays_15 (endQ [(6,none)] (.bool true)) (envOf [(2,.int .i64 more),(3,.ptr 3 0 0),(4,.ptr 4 0 0),(7,.ptr 7 0 0),(8,.int .i64 (bestN m x.b x.h)),(10,.sl (vecs (m.cone x.b x.h ((bestN m x.b x.h)+more)))),(16,.ptr 16 0 0),(19,.ptr 19 0 0),(18,.nils),(20,.int .i64 0),(21,.bool false)]) (stOf [(3,⟨26,12,[m.av]⟩),(4,⟨31,7,[x.av]⟩),(7,⟨22,3,[(bestV m x.b x.h).av]⟩),(16,⟨50,12,[pairB x.b.h1 x.b.h2]⟩),(19,⟨22,3,[V3.o.av]⟩)]) .mk:=by
 obtain ⟨hm,hb,hcc,hl2,ho⟩:=openE_ok H.q
 obtain ⟨g1,g2,g3,g4,_⟩:=halves_ok hb hcd
 have n1:=count_pos g1.o
 have n2:=count_pos g2.o
 have hbd:=bestN_bd H.q
 have o1:=openE_half H g1 (by omega)
 have o2:=openE_half H g2 (by omega)
 obtain ⟨L1,L2,c1,c2,l1,l2,hCC⟩:=covers_ok H hE hcd
 have hp:=parts_best H hE hcd _ rfl
 have hLL:(L1 ++ L2).length≤1400:=by rw [List.length_append];omega
 have h16:=TW_16 m x more (bestN m x.b x.h) (bestV m x.b x.h) (m.cone x.b x.h ((bestN m x.b x.h)+more)) (L1 ++ L2) H hbd hcd rfl hLL hCC
 obtain ⟨r,hr⟩:∃ r,r=(nxt false V3.o 0 (bestE m x.b.h1 x.h) (bestV m x.b.h1 x.h) (bestN m x.b.h1 x.h)):=⟨_,rfl⟩
 rw [← hr] at hp
 have hb0:=TW_b2_0 m x more (bestN m x.b x.h) 0 (bestV m x.b x.h) V3.o false (m.cone x.b x.h ((bestN m x.b x.h)+more)) [] L1 H g1 (by omega) o1 (by simp) c1 l1 r hr
 have hb1:=TW_b2_1 m x more (bestN m x.b x.h) r.2.2 (bestV m x.b x.h) r.2.1 r.1 (m.cone x.b x.h ((bestN m x.b x.h)+more)) L1 L2 H g2 (by omega) o2 (by omega) c2 l2 _ hp.symm
 simp only [cl_top_TopTrackTwoWays_15,stepA,pairB,V3.av,TM.av,TS.av,TB.av,tk_indexArr,tk_slice2,rnd_s,Int.reduceAdd,Int.reduceSub,decide_true,decide_false,i64_1,i64_2,i64_3,i64_4,true_and,Int.one_mul,Int.cast_ofNat_Int,Int.reduceToNat,Nat.zero_mul,Nat.reduceMul,Nat.zero_add,Nat.mul_one,List.getElem?_cons_zero,List.getElem?_cons_succ,vZ,Int.reduceEq,Int.reduceNe,Int.reduceLT,Int.reduceLE,Nat.reduceEqDiff,Nat.reduceAdd,reduceIte,reduceCtorEq,Nat.reduceLT,Nat.reduceLeDiff,Nat.reduceShiftRight,Nat.reduceMod]
 refine WL_rnd 3 ?_
 refine rndL_by (envOf [(2,.int .i64 more),(3,.ptr 3 0 0),(4,.ptr 4 0 0),(7,.ptr 7 0 0),(8,.int .i64 (bestN m x.b x.h)),(10,.sl (vecs (m.cone x.b x.h ((bestN m x.b x.h)+more)))),(16,.ptr 16 0 0),(19,.ptr 19 0 0),(18,.nils),(20,.int .i64 0),(21,.bool false),(22,.int .i64 0)],stOf [(3,⟨26,12,[m.av]⟩),(4,⟨31,7,[x.av]⟩),(7,⟨22,3,[(bestV m x.b x.h).av]⟩),(16,⟨50,12,[pairB x.b.h1 x.b.h2]⟩),(19,⟨22,3,[V3.o.av]⟩)]) (envOf [(2,.int .i64 more),(3,.ptr 3 0 0),(4,.ptr 4 0 0),(7,.ptr 7 0 0),(8,.int .i64 (bestN m x.b x.h)),(10,.sl (vecs (m.cone x.b x.h ((bestN m x.b x.h)+more)))),(16,.ptr 16 0 0),(19,.ptr 19 0 0),(18,.buf 100 L1.length),(20,.int .i64 r.2.2),(21,.bool r.1),(22,.int .i64 1)],stOf [(3,⟨26,12,[m.av]⟩),(4,⟨31,7,[x.av]⟩),(7,⟨22,3,[(bestV m x.b x.h).av]⟩),(16,⟨50,12,[pairB x.b.h1 x.b.h2]⟩),(19,⟨22,3,[r.2.1.av]⟩),(100,⟨28,6,boxesL L1⟩)]) ?_ hb0 (fun e s hw=>rndL_by (envOf [(2,.int .i64 more),(3,.ptr 3 0 0),(4,.ptr 4 0 0),(7,.ptr 7 0 0),(8,.int .i64 (bestN m x.b x.h)),(10,.sl (vecs (m.cone x.b x.h ((bestN m x.b x.h)+more)))),(16,.ptr 16 0 0),(19,.ptr 19 0 0),(18,.buf 100 L1.length),(20,.int .i64 r.2.2),(21,.bool r.1),(22,.int .i64 1)],stOf [(3,⟨26,12,[m.av]⟩),(4,⟨31,7,[x.av]⟩),(7,⟨22,3,[(bestV m x.b x.h).av]⟩),(16,⟨50,12,[pairB x.b.h1 x.b.h2]⟩),(19,⟨22,3,[r.2.1.av]⟩),(100,⟨28,6,boxesL L1⟩)]) (envOf [(2,.int .i64 more),(3,.ptr 3 0 0),(4,.ptr 4 0 0),(7,.ptr 7 0 0),(8,.int .i64 (bestN m x.b x.h)),(10,.sl (vecs (m.cone x.b x.h ((bestN m x.b x.h)+more)))),(16,.ptr 16 0 0),(19,.ptr 19 0 0),(18,.buf 100 (L1 ++ L2).length),(20,.int .i64 (bestN m x.b x.h)),(21,.bool true),(22,.int .i64 2)],stOf [(3,⟨26,12,[m.av]⟩),(4,⟨31,7,[x.av]⟩),(7,⟨22,3,[(bestV m x.b x.h).av]⟩),(16,⟨50,12,[pairB x.b.h1 x.b.h2]⟩),(19,⟨22,3,[(bestV m x.b x.h).av]⟩),(100,⟨28,6,boxesL (L1 ++ L2)⟩)]) hw hb1 (fun e s hw=>rndL_of (envOf [(2,.int .i64 more),(3,.ptr 3 0 0),(4,.ptr 4 0 0),(7,.ptr 7 0 0),(8,.int .i64 (bestN m x.b x.h)),(10,.sl (vecs (m.cone x.b x.h ((bestN m x.b x.h)+more)))),(16,.ptr 16 0 0),(19,.ptr 19 0 0),(18,.buf 100 (L1 ++ L2).length),(20,.int .i64 (bestN m x.b x.h)),(21,.bool true),(22,.int .i64 2)],stOf [(3,⟨26,12,[m.av]⟩),(4,⟨31,7,[x.av]⟩),(7,⟨22,3,[(bestV m x.b x.h).av]⟩),(16,⟨50,12,[pairB x.b.h1 x.b.h2]⟩),(19,⟨22,3,[(bestV m x.b x.h).av]⟩),(100,⟨28,6,boxesL (L1 ++ L2)⟩)]) hw ?_))
 ·refine weakX [] (of_decide_eq_true rfl) (of_decide_eq_true rfl) ?_
  (simp only [TM.av,TS.av,TB.av,V3.av,pairB,vcW,vZ,Int.reduceEq,Int.reduceNe,Int.reduceLT,Int.reduceLE,Nat.reduceEqDiff,Nat.reduceAdd,reduceIte,reduceCtorEq,Nat.reduceLT,Nat.reduceLeDiff,Nat.reduceShiftRight,Nat.reduceMod])
  (repeat' first | exact trivial | (with_reducible first | exact RnB.fxB (ints_fxB _) | rfl | refine And.intro ?_ ?_) | (with_reducible (first | refine RnB.bb ?_ | refine RnB.nb ?_);simp only [vcW,vZ,Int.reduceEq,Int.reduceNe,Int.reduceLT,Int.reduceLE,Nat.reduceEqDiff,Nat.reduceAdd,reduceIte,reduceCtorEq,Nat.reduceLT,Nat.reduceLeDiff,Nat.reduceShiftRight,Nat.reduceMod]) | (with_reducible first | refine RnB.ii ?_ | refine RnB.app ?_) | (with_reducible refine RnB.fxB ?_;simp only [vcW,vZ,Int.reduceEq,Int.reduceNe,Int.reduceLT,Int.reduceLE,Nat.reduceEqDiff,Nat.reduceAdd,reduceIte,reduceCtorEq,Nat.reduceLT,Nat.reduceLeDiff,Nat.reduceShiftRight,Nat.reduceMod]) | omega)
  all_goals first | rfl | exact RnB.fxB rfl | omega | skip
 simp only [cl_top_TopTrackTwoWays_b2,stepA,pairB,V3.av,TM.av,TS.av,TB.av,tk_indexArr,tk_slice2,rnd_s,Int.reduceAdd,Int.reduceSub,decide_true,decide_false,i64_1,i64_2,i64_3,i64_4,true_and,Int.one_mul,Int.cast_ofNat_Int,Int.reduceToNat,Nat.zero_mul,Nat.reduceMul,Nat.zero_add,Nat.mul_one,List.getElem?_cons_zero,List.getElem?_cons_succ,vZ,Int.reduceEq,Int.reduceNe,Int.reduceLT,Int.reduceLE,Nat.reduceEqDiff,Nat.reduceAdd,reduceIte,reduceCtorEq,Nat.reduceLT,Nat.reduceLeDiff,Nat.reduceShiftRight,Nat.reduceMod]
 refine WL_cutW (envOf [(2,.int .i64 more),(3,.ptr 3 0 0),(4,.ptr 4 0 0),(7,.ptr 7 0 0),(8,.int .i64 (bestN m x.b x.h)),(10,.sl (vecs (m.cone x.b x.h ((bestN m x.b x.h)+more)))),(16,.ptr 16 0 0),(19,.ptr 19 0 0),(18,.buf 100 (L1 ++ L2).length),(20,.int .i64 (bestN m x.b x.h)),(21,.bool true)],stOf [(3,⟨26,12,[m.av]⟩),(4,⟨31,7,[x.av]⟩),(7,⟨22,3,[(bestV m x.b x.h).av]⟩),(16,⟨50,12,[pairB x.b.h1 x.b.h2]⟩),(19,⟨22,3,[(bestV m x.b x.h).av]⟩),(100,⟨28,6,boxesL (L1 ++ L2)⟩)]) rfl ?_ h16
 refine weakX [] (of_decide_eq_true rfl) (of_decide_eq_true rfl) ?_
 (simp only [TM.av,TS.av,TB.av,V3.av,pairB,vcW,vZ,Int.reduceEq,Int.reduceNe,Int.reduceLT,Int.reduceLE,Nat.reduceEqDiff,Nat.reduceAdd,reduceIte,reduceCtorEq,Nat.reduceLT,Nat.reduceLeDiff,Nat.reduceShiftRight,Nat.reduceMod])
 (repeat' first | exact trivial | (with_reducible first | exact RnB.fxB (ints_fxB _) | rfl | refine And.intro ?_ ?_) | (with_reducible (first | refine RnB.bb ?_ | refine RnB.nb ?_);simp only [vcW,vZ,Int.reduceEq,Int.reduceNe,Int.reduceLT,Int.reduceLE,Nat.reduceEqDiff,Nat.reduceAdd,reduceIte,reduceCtorEq,Nat.reduceLT,Nat.reduceLeDiff,Nat.reduceShiftRight,Nat.reduceMod]) | (with_reducible first | refine RnB.ii ?_ | refine RnB.app ?_) | (with_reducible refine RnB.fxB ?_;simp only [vcW,vZ,Int.reduceEq,Int.reduceNe,Int.reduceLT,Int.reduceLE,Nat.reduceEqDiff,Nat.reduceAdd,reduceIte,reduceCtorEq,Nat.reduceLT,Nat.reduceLeDiff,Nat.reduceShiftRight,Nat.reduceMod]) | omega)
 all_goals first | rfl | exact RnB.fxB rfl | exact RnB.fxB (boxesL_fxB _) | omega | skip
end Go.Proofs.Ytoiajhogondgcaa

/- TopTrackTwoWays: the law. By an AI agent;nothing here is trusted. -/
namespace Go.Proofs.Ytoiajhogondgcaa
open Go.Av

theorem usedL_2buf {nk:Bool} {s:Store} {k len ty sz:Nat} {es:List AV} {a b:AV} (ha:imm a=true) (hb:imm b=true) (hs:s k=some (some ⟨ty,sz,es⟩)) (he:(es.take len).all imm=true):usedL nk s (refsL s 5 [a,b,.buf k len]):=fun _ j hj=>by
 have e1:refs s 5 (.buf k len)=[k]:=by
  simp only [refs,hs];rw [if_pos he]
 have e:refsL s 5 [a,b,.buf k len]=[k]:=by simp only [refsL,List.flatMap_cons,List.flatMap_nil,refs_imm s ha,refs_imm s hb,e1,List.append_nil,List.nil_append]
 rw [e,List.mem_singleton] at hj
 rw [hj,hs];simp
theorem best_facts {m:TM} {x:TS} {more:Int} (H:TWH m x more) (hE:bestE m x.b x.h=0):(bestV m x.b x.h).in 20∧m.permits (bestV m x.b x.h)∧(bestN m x.b x.h)=m.score (bestV m x.b x.h) x.h:=by
 obtain ⟨hm,hb,hcc,hl2,ho⟩:=openE_ok H.q
 have b0:=bestOf_is H.q
 have z0:(m.bestOf x.b x.h).s ≠ V3.o:=by
  intro z
  unfold bestE at hE
  rw [if_pos H.q,if_pos z] at hE
  cases hE
 have y:=b0.yes z0
 have e1:(bestV m x.b x.h)=(m.bestOf x.b x.h).s:=by simp [bestV,H.q]
 have e2:(bestN m x.b x.h)=(m.bestOf x.b x.h).n:=by simp [bestN,H.q,z0]
 rw [e1,e2]
 exact ⟨has_in hb y.1,y.2⟩
set_option maxHeartbeats 8000000 in
set_option maxRecDepth 10000 in
theorem TW_10 (m:TM) (x:TS) (more:Int) (H:TWH m x more) (hE:bestE m x.b x.h=0) :
  WL Try.prog 334 cl_top_TopTrackTwoWays_10 (endQ [(6,none)] (.bool true)) (envOf [(2,.int .i64 more),(3,.ptr 3 0 0),(4,.ptr 4 0 0),(7,.ptr 7 0 0),(8,.int .i64 (bestN m x.b x.h)),(10,.sl (vecs (m.cone x.b x.h ((bestN m x.b x.h)+more)))),(12,.int .i64 (bestN m x.b x.h))]) (stOf [(3,⟨26,12,[m.av]⟩),(4,⟨31,7,[x.av]⟩),(7,⟨22,3,[(bestV m x.b x.h).av]⟩)]) .mk:=by
 obtain ⟨hm,hb,hcc,hl2,ho⟩:=openE_ok H.q
 have hbe:=err_of hb hcc
 have hp:=count_pos hb.o
 have hD:=Divided_s x.b
 rw [if_neg (by rw [hbe];simp)] at hD
 by_cases c1:x.b.count=1
 ·rw [if_pos c1] at hD
  simp only [cl_top_TopTrackTwoWays_10,decide_true,Bool.not_true,stepA,pairB,V3.av,TM.av,TS.av,TB.av,tk_indexArr,tk_slice2,rnd_s,Int.reduceAdd,Int.reduceSub,decide_true,decide_false,i64_1,i64_2,i64_3,i64_4,true_and,Int.one_mul,Int.cast_ofNat_Int,Int.reduceToNat,Nat.zero_mul,Nat.reduceMul,Nat.zero_add,Nat.mul_one,List.getElem?_cons_zero,List.getElem?_cons_succ,vZ,Int.reduceEq,Int.reduceNe,Int.reduceLT,Int.reduceLE,Nat.reduceEqDiff,Nat.reduceAdd,reduceIte,reduceCtorEq,Nat.reduceLT,Nat.reduceLeDiff,Nat.reduceShiftRight,Nat.reduceMod]
  refine callS_of hD ?_
  simp only [Int.reduceEq,decide_true,decide_false,Bool.not_false,stepA,pairB,V3.av,TM.av,TS.av,TB.av,tk_indexArr,tk_slice2,rnd_s,Int.reduceAdd,Int.reduceSub,decide_true,decide_false,i64_1,i64_2,i64_3,i64_4,true_and,Int.one_mul,Int.cast_ofNat_Int,Int.reduceToNat,Nat.zero_mul,Nat.reduceMul,Nat.zero_add,Nat.mul_one,List.getElem?_cons_zero,List.getElem?_cons_succ,vZ,Int.reduceEq,Int.reduceNe,Int.reduceLT,Int.reduceLE,Nat.reduceEqDiff,Nat.reduceAdd,reduceIte,reduceCtorEq,Nat.reduceLT,Nat.reduceLeDiff,Nat.reduceShiftRight,Nat.reduceMod]
 ·rw [if_neg c1] at hD
  simp only [cl_top_TopTrackTwoWays_10,decide_true,Bool.not_true,stepA,pairB,V3.av,TM.av,TS.av,TB.av,tk_indexArr,tk_slice2,rnd_s,Int.reduceAdd,Int.reduceSub,decide_true,decide_false,i64_1,i64_2,i64_3,i64_4,true_and,Int.one_mul,Int.cast_ofNat_Int,Int.reduceToNat,Nat.zero_mul,Nat.reduceMul,Nat.zero_add,Nat.mul_one,List.getElem?_cons_zero,List.getElem?_cons_succ,vZ,Int.reduceEq,Int.reduceNe,Int.reduceLT,Int.reduceLE,Nat.reduceEqDiff,Nat.reduceAdd,reduceIte,reduceCtorEq,Nat.reduceLT,Nat.reduceLeDiff,Nat.reduceShiftRight,Nat.reduceMod]
  refine callS_of hD ?_
  simp only [decide_true,Bool.not_true,stepA,pairB,V3.av,TM.av,TS.av,TB.av,tk_indexArr,tk_slice2,rnd_s,Int.reduceAdd,Int.reduceSub,decide_true,decide_false,i64_1,i64_2,i64_3,i64_4,true_and,Int.one_mul,Int.cast_ofNat_Int,Int.reduceToNat,Nat.zero_mul,Nat.reduceMul,Nat.zero_add,Nat.mul_one,List.getElem?_cons_zero,List.getElem?_cons_succ,vZ,Int.reduceEq,Int.reduceNe,Int.reduceLT,Int.reduceLE,Nat.reduceEqDiff,Nat.reduceAdd,reduceIte,reduceCtorEq,Nat.reduceLT,Nat.reduceLeDiff,Nat.reduceShiftRight,Nat.reduceMod]
  refine WL_cutW (envOf [(2,.int .i64 more),(3,.ptr 3 0 0),(4,.ptr 4 0 0),(7,.ptr 7 0 0),(8,.int .i64 (bestN m x.b x.h)),(10,.sl (vecs (m.cone x.b x.h ((bestN m x.b x.h)+more)))),(16,.ptr 16 0 0),(19,.ptr 19 0 0),(18,.nils),(20,.int .i64 0),(21,.bool false)],stOf [(3,⟨26,12,[m.av]⟩),(4,⟨31,7,[x.av]⟩),(7,⟨22,3,[(bestV m x.b x.h).av]⟩),(16,⟨50,12,[pairB x.b.h1 x.b.h2]⟩),(19,⟨22,3,[V3.o.av]⟩)]) rfl ?_ (TW_15 m x more H hE (by omega))
  refine weakX [] (of_decide_eq_true rfl) (of_decide_eq_true rfl) ?_
  (simp only [V3.o,TM.av,TS.av,TB.av,V3.av,pairB,vcW,vZ,Int.reduceEq,Int.reduceNe,Int.reduceLT,Int.reduceLE,Nat.reduceEqDiff,Nat.reduceAdd,reduceIte,reduceCtorEq,Nat.reduceLT,Nat.reduceLeDiff,Nat.reduceShiftRight,Nat.reduceMod])
  (repeat' first | exact trivial | (with_reducible first | exact RnB.fxB (ints_fxB _) | rfl | refine And.intro ?_ ?_) | (with_reducible (first | refine RnB.bb ?_ | refine RnB.nb ?_);simp only [vcW,vZ,Int.reduceEq,Int.reduceNe,Int.reduceLT,Int.reduceLE,Nat.reduceEqDiff,Nat.reduceAdd,reduceIte,reduceCtorEq,Nat.reduceLT,Nat.reduceLeDiff,Nat.reduceShiftRight,Nat.reduceMod]) | (with_reducible first | refine RnB.ii ?_ | refine RnB.app ?_) | (with_reducible refine RnB.fxB ?_;simp only [vcW,vZ,Int.reduceEq,Int.reduceNe,Int.reduceLT,Int.reduceLE,Nat.reduceEqDiff,Nat.reduceAdd,reduceIte,reduceCtorEq,Nat.reduceLT,Nat.reduceLeDiff,Nat.reduceShiftRight,Nat.reduceMod]) | omega)
  all_goals first | rfl | exact RnB.fxB rfl | omega | skip
set_option maxHeartbeats 8000000 in
set_option maxRecDepth 10000 in
theorem TW_9 (m:TM) (x:TS) (more:Int) (H:TWH m x more) (hE:bestE m x.b x.h=0) :
  WL Try.prog 334 cl_top_TopTrackTwoWays_9 (endQ [(6,none)] (.bool true)) (envOf [(2,.int .i64 more),(3,.ptr 3 0 0),(4,.ptr 4 0 0),(7,.ptr 7 0 0),(8,.int .i64 (bestN m x.b x.h)),(10,.sl (vecs (m.cone x.b x.h ((bestN m x.b x.h)+more)))),(12,.int .i64 0)]) (stOf [(3,⟨26,12,[m.av]⟩),(4,⟨31,7,[x.av]⟩),(7,⟨22,3,[(bestV m x.b x.h).av]⟩)]) .mk:=by
 obtain ⟨hm,hb,hcc,hl2,ho⟩:=openE_ok H.q
 obtain ⟨b1,b2,b3⟩:=best_facts H hE
 simp only [cl_top_TopTrackTwoWays_9,stepA,pairB,V3.av,TM.av,TS.av,TB.av,tk_indexArr,tk_slice2,rnd_s,Int.reduceAdd,Int.reduceSub,decide_true,decide_false,i64_1,i64_2,i64_3,i64_4,true_and,Int.one_mul,Int.cast_ofNat_Int,Int.reduceToNat,Nat.zero_mul,Nat.reduceMul,Nat.zero_add,Nat.mul_one,List.getElem?_cons_zero,List.getElem?_cons_succ,vZ,Int.reduceEq,Int.reduceNe,Int.reduceLT,Int.reduceLE,Nat.reduceEqDiff,Nat.reduceAdd,reduceIte,reduceCtorEq,Nat.reduceLT,Nat.reduceLeDiff,Nat.reduceShiftRight,Nat.reduceMod]
 refine WL_loop (t:=.mk) (α:=PSigma fun i:Nat=>i≤x.h.length∧(True)) (fun ⟨i,_⟩=>((envOf [(2,.int .i64 more),(3,.ptr 3 0 0),(4,.ptr 4 0 0),(7,.ptr 7 0 0),(8,.int .i64 (bestN m x.b x.h)),(10,.sl (vecs (m.cone x.b x.h ((bestN m x.b x.h)+more)))),(12,.int .i64 (m.score (bestV m x.b x.h) (x.h.take i))),(13,.int .i64 i)],stOf [(3,⟨26,12,[m.av]⟩),(4,⟨31,7,[x.av]⟩),(7,⟨22,3,[(bestV m x.b x.h).av]⟩)]))) (fun i=>x.h.length - i.1) ⟨0,Nat.zero_le _,?_⟩ ?_ (fun ⟨i,hi,hn⟩=>?_)
 ·trivial
 ·have i0:m.score (bestV m x.b x.h) (x.h.take 0)=0:=rfl
  refine weakX [] (of_decide_eq_true rfl) (of_decide_eq_true rfl) ?_
  (simp only [i0,TM.av,TS.av,TB.av,V3.av,pairB,vcW,vZ,Int.reduceEq,Int.reduceNe,Int.reduceLT,Int.reduceLE,Nat.reduceEqDiff,Nat.reduceAdd,reduceIte,reduceCtorEq,Nat.reduceLT,Nat.reduceLeDiff,Nat.reduceShiftRight,Nat.reduceMod])
  (repeat' first | exact trivial | (with_reducible first | exact RnB.fxB (ints_fxB _) | rfl | refine And.intro ?_ ?_) | (with_reducible (first | refine RnB.bb ?_ | refine RnB.nb ?_);simp only [vcW,vZ,Int.reduceEq,Int.reduceNe,Int.reduceLT,Int.reduceLE,Nat.reduceEqDiff,Nat.reduceAdd,reduceIte,reduceCtorEq,Nat.reduceLT,Nat.reduceLeDiff,Nat.reduceShiftRight,Nat.reduceMod]) | (with_reducible first | refine RnB.ii ?_ | refine RnB.app ?_) | (with_reducible refine RnB.fxB ?_;simp only [vcW,vZ,Int.reduceEq,Int.reduceNe,Int.reduceLT,Int.reduceLE,Nat.reduceEqDiff,Nat.reduceAdd,reduceIte,reduceCtorEq,Nat.reduceLT,Nat.reduceLeDiff,Nat.reduceShiftRight,Nat.reduceMod]) | omega)
  all_goals first | rfl | exact RnB.fxB rfl | omega | skip
 ·by_cases h:i<x.h.length
  ·have h':(i:Int)<x.h.length:=by omega
   have hi':=ho _ (List.getElem_mem h)
   have hh:hitsE [x.h[i]]=0:=by simp [hitsE,hi']
   obtain ⟨v1,v2⟩:=step_ok (l:=[x.h[i]]) H.e hh b1 b2
   have hsc:m.score (bestV m x.b x.h) [x.h[i]]=m.pen (bestV m x.b x.h) x.h[i]:=by simp [TM.score]
   have hpb:=pen_bd (bestV m x.b x.h) hm hi'
   have hsb:=score_bd (l:=x.h.take (i+1)) (bestV m x.b x.h) hm fun y hy=>ho y (List.mem_of_mem_take hy)
   have htl:(x.h.take (i+1)).length≤12:=by rw [List.length_take];omega
   have hst:=score_take m (bestV m x.b x.h) x.h i h
   have hS:=ScoreOf_s m (bestV m x.b x.h) [x.h[i]] (by simp)
   rw [if_pos v2,v2,hsc] at hS
   simp only [cl_top_TopTrackTwoWays_b0,hitsL_length,h',decide_true,stepA,pairB,V3.av,TM.av,TS.av,TB.av,tk_indexArr,tk_slice2,rnd_s,Int.reduceAdd,Int.reduceSub,decide_true,decide_false,i64_1,i64_2,i64_3,i64_4,true_and,Int.one_mul,Int.cast_ofNat_Int,Int.reduceToNat,Nat.zero_mul,Nat.reduceMul,Nat.zero_add,Nat.mul_one,List.getElem?_cons_zero,List.getElem?_cons_succ,vZ,Int.reduceEq,Int.reduceNe,Int.reduceLT,Int.reduceLE,Nat.reduceEqDiff,Nat.reduceAdd,reduceIte,reduceCtorEq,Nat.reduceLT,Nat.reduceLeDiff,Nat.reduceShiftRight,Nat.reduceMod]
   simp only [hitsL_get x.h i h,TH.av,stepA,pairB,V3.av,TM.av,TS.av,TB.av,tk_indexArr,tk_slice2,rnd_s,Int.reduceAdd,Int.reduceSub,decide_true,decide_false,i64_1,i64_2,i64_3,i64_4,true_and,Int.one_mul,Int.cast_ofNat_Int,Int.reduceToNat,Nat.zero_mul,Nat.reduceMul,Nat.zero_add,Nat.mul_one,List.getElem?_cons_zero,List.getElem?_cons_succ,vZ,Int.reduceEq,Int.reduceNe,Int.reduceLT,Int.reduceLE,Nat.reduceEqDiff,Nat.reduceAdd,reduceIte,reduceCtorEq,Nat.reduceLT,Nat.reduceLeDiff,Nat.reduceShiftRight,Nat.reduceMod]
   refine ⟨by omega,?_⟩
   refine callS_of hS ?_
   simp only [decide_true,Bool.not_true,TH.av,stepA,pairB,V3.av,TM.av,TS.av,TB.av,tk_indexArr,tk_slice2,rnd_s,Int.reduceAdd,Int.reduceSub,decide_true,decide_false,i64_1,i64_2,i64_3,i64_4,true_and,Int.one_mul,Int.cast_ofNat_Int,Int.reduceToNat,Nat.zero_mul,Nat.reduceMul,Nat.zero_add,Nat.mul_one,List.getElem?_cons_zero,List.getElem?_cons_succ,vZ,Int.reduceEq,Int.reduceNe,Int.reduceLT,Int.reduceLE,Nat.reduceEqDiff,Nat.reduceAdd,reduceIte,reduceCtorEq,Nat.reduceLT,Nat.reduceLeDiff,Nat.reduceShiftRight,Nat.reduceMod]
   refine ⟨usedL_2buf rfl rfl rfl rfl,?_⟩
   refine callS_of (Within_s _ _ _) ?_
   simp only [hpb.1,hpb.2,and_self,decide_true,Bool.not_true,TH.av,stepA,pairB,V3.av,TM.av,TS.av,TB.av,tk_indexArr,tk_slice2,rnd_s,Int.reduceAdd,Int.reduceSub,decide_true,decide_false,i64_1,i64_2,i64_3,i64_4,true_and,Int.one_mul,Int.cast_ofNat_Int,Int.reduceToNat,Nat.zero_mul,Nat.reduceMul,Nat.zero_add,Nat.mul_one,List.getElem?_cons_zero,List.getElem?_cons_succ,vZ,Int.reduceEq,Int.reduceNe,Int.reduceLT,Int.reduceLE,Nat.reduceEqDiff,Nat.reduceAdd,reduceIte,reduceCtorEq,Nat.reduceLT,Nat.reduceLeDiff,Nat.reduceShiftRight,Nat.reduceMod]
   rw [← hst]
   refine ⟨by unfold I64;omega,by unfold I64;omega,⟨⟨i+1,by omega,trivial⟩,by dsimp only;omega,?_⟩⟩
   refine weakX [] (of_decide_eq_true rfl) (of_decide_eq_true rfl) ?_
   (simp only [TM.av,TS.av,TB.av,V3.av,pairB,vcW,vZ,Int.reduceEq,Int.reduceNe,Int.reduceLT,Int.reduceLE,Nat.reduceEqDiff,Nat.reduceAdd,reduceIte,reduceCtorEq,Nat.reduceLT,Nat.reduceLeDiff,Nat.reduceShiftRight,Nat.reduceMod])
   (repeat' first | exact trivial | (with_reducible first | exact RnB.fxB (ints_fxB _) | rfl | refine And.intro ?_ ?_) | (with_reducible (first | refine RnB.bb ?_ | refine RnB.nb ?_);simp only [vcW,vZ,Int.reduceEq,Int.reduceNe,Int.reduceLT,Int.reduceLE,Nat.reduceEqDiff,Nat.reduceAdd,reduceIte,reduceCtorEq,Nat.reduceLT,Nat.reduceLeDiff,Nat.reduceShiftRight,Nat.reduceMod]) | (with_reducible first | refine RnB.ii ?_ | refine RnB.app ?_) | (with_reducible refine RnB.fxB ?_;simp only [vcW,vZ,Int.reduceEq,Int.reduceNe,Int.reduceLT,Int.reduceLE,Nat.reduceEqDiff,Nat.reduceAdd,reduceIte,reduceCtorEq,Nat.reduceLT,Nat.reduceLeDiff,Nat.reduceShiftRight,Nat.reduceMod]) | omega)
   all_goals first | rfl | exact RnB.fxB rfl | omega | skip
  ·have h'':i=x.h.length:=by omega
   subst h''
   simp only [cl_top_TopTrackTwoWays_b0,hitsL_length,Int.lt_irrefl,decide_false,List.take_length,stepA,pairB,V3.av,TM.av,TS.av,TB.av,tk_indexArr,tk_slice2,rnd_s,Int.reduceAdd,Int.reduceSub,decide_true,decide_false,i64_1,i64_2,i64_3,i64_4,true_and,Int.one_mul,Int.cast_ofNat_Int,Int.reduceToNat,Nat.zero_mul,Nat.reduceMul,Nat.zero_add,Nat.mul_one,List.getElem?_cons_zero,List.getElem?_cons_succ,vZ,Int.reduceEq,Int.reduceNe,Int.reduceLT,Int.reduceLE,Nat.reduceEqDiff,Nat.reduceAdd,reduceIte,reduceCtorEq,Nat.reduceLT,Nat.reduceLeDiff,Nat.reduceShiftRight,Nat.reduceMod]
   refine WL_cutW (envOf [(2,.int .i64 more),(3,.ptr 3 0 0),(4,.ptr 4 0 0),(7,.ptr 7 0 0),(8,.int .i64 (bestN m x.b x.h)),(10,.sl (vecs (m.cone x.b x.h ((bestN m x.b x.h)+more)))),(12,.int .i64 (bestN m x.b x.h))],stOf [(3,⟨26,12,[m.av]⟩),(4,⟨31,7,[x.av]⟩),(7,⟨22,3,[(bestV m x.b x.h).av]⟩)]) rfl ?_ (TW_10 m x more H hE)
   refine weakX [] (of_decide_eq_true rfl) (of_decide_eq_true rfl) ?_
   (simp only [← b3,TM.av,TS.av,TB.av,V3.av,pairB,vcW,vZ,Int.reduceEq,Int.reduceNe,Int.reduceLT,Int.reduceLE,Nat.reduceEqDiff,Nat.reduceAdd,reduceIte,reduceCtorEq,Nat.reduceLT,Nat.reduceLeDiff,Nat.reduceShiftRight,Nat.reduceMod])
   (repeat' first | exact trivial | (with_reducible first | exact RnB.fxB (ints_fxB _) | rfl | refine And.intro ?_ ?_) | (with_reducible (first | refine RnB.bb ?_ | refine RnB.nb ?_);simp only [vcW,vZ,Int.reduceEq,Int.reduceNe,Int.reduceLT,Int.reduceLE,Nat.reduceEqDiff,Nat.reduceAdd,reduceIte,reduceCtorEq,Nat.reduceLT,Nat.reduceLeDiff,Nat.reduceShiftRight,Nat.reduceMod]) | (with_reducible first | refine RnB.ii ?_ | refine RnB.app ?_) | (with_reducible refine RnB.fxB ?_;simp only [vcW,vZ,Int.reduceEq,Int.reduceNe,Int.reduceLT,Int.reduceLE,Nat.reduceEqDiff,Nat.reduceAdd,reduceIte,reduceCtorEq,Nat.reduceLT,Nat.reduceLeDiff,Nat.reduceShiftRight,Nat.reduceMod]) | omega)
   all_goals first | rfl | exact RnB.fxB rfl | omega | skip
end Go.Proofs.Ytoiajhogondgcaa

/- TopTrackTwoWays: it answers true. By an AI agent;nothing here is trusted. -/
namespace Go.Proofs.Ytoiajhogondgcaa
open Go.Av

theorem openE_of {m:TM} {x:TS} (h1:m.err=0) (h2:x.err=0):openE m x.b x.h=0:=by
 unfold TS.err at h2
 by_cases h3:x.b.err=0
 case neg=>simp [h3] at h2
 simp only [h3,ne_eq,not_true_eq_false,if_false] at h2
 simp [openE,h1,h3,h2]
set_option maxHeartbeats 8000000 in
set_option maxRecDepth 10000 in
theorem TopTrackTwoWays_s (m:TM) (x:TS) (more:Int):Sound Try.prog 3 [m.av,x.av,.int .i64 more] (.bool true):=by
 refine sound_WL f_top_TopTrackTwoWays e_top_TopTrackTwoWays (Nat.le_of_ble_eq_true rfl) ?_
 simp only [cl_top_TopTrackTwoWays,TM.av,TS.av,rnd_s,Int.reduceAdd,Int.reduceSub,decide_true,decide_false,i64_1,i64_2,i64_3,i64_4,true_and,Int.one_mul,Int.cast_ofNat_Int,Int.reduceToNat,Nat.zero_mul,Nat.reduceMul,Nat.zero_add,Nat.mul_one,List.getElem?_cons_zero,List.getElem?_cons_succ,vZ,Int.reduceEq,Int.reduceNe,Int.reduceLT,Int.reduceLE,Nat.reduceEqDiff,Nat.reduceAdd,reduceIte,reduceCtorEq,Nat.reduceLT,Nat.reduceLeDiff,Nat.reduceShiftRight,Nat.reduceMod]
 refine callS_of trackShown_s ?_
 simp only [Bool.not_true,TM.av,TS.av,rnd_s,Int.reduceAdd,Int.reduceSub,decide_true,decide_false,i64_1,i64_2,i64_3,i64_4,true_and,Int.one_mul,Int.cast_ofNat_Int,Int.reduceToNat,Nat.zero_mul,Nat.reduceMul,Nat.zero_add,Nat.mul_one,List.getElem?_cons_zero,List.getElem?_cons_succ,vZ,Int.reduceEq,Int.reduceNe,Int.reduceLT,Int.reduceLE,Nat.reduceEqDiff,Nat.reduceAdd,reduceIte,reduceCtorEq,Nat.reduceLT,Nat.reduceLeDiff,Nat.reduceShiftRight,Nat.reduceMod]
 refine callS_of (refModelErr_s m) ?_
 by_cases q1:m.err=0
 case neg=>simp only [q1,decide_false,Bool.not_false,TM.av,TS.av,rnd_s,Int.reduceAdd,Int.reduceSub,decide_true,decide_false,i64_1,i64_2,i64_3,i64_4,true_and,Int.one_mul,Int.cast_ofNat_Int,Int.reduceToNat,Nat.zero_mul,Nat.reduceMul,Nat.zero_add,Nat.mul_one,List.getElem?_cons_zero,List.getElem?_cons_succ,vZ,Int.reduceEq,Int.reduceNe,Int.reduceLT,Int.reduceLE,Nat.reduceEqDiff,Nat.reduceAdd,reduceIte,reduceCtorEq,Nat.reduceLT,Nat.reduceLeDiff,Nat.reduceShiftRight,Nat.reduceMod]
 simp only [q1,decide_true,Bool.not_true,TM.av,TS.av,rnd_s,Int.reduceAdd,Int.reduceSub,decide_true,decide_false,i64_1,i64_2,i64_3,i64_4,true_and,Int.one_mul,Int.cast_ofNat_Int,Int.reduceToNat,Nat.zero_mul,Nat.reduceMul,Nat.zero_add,Nat.mul_one,List.getElem?_cons_zero,List.getElem?_cons_succ,vZ,Int.reduceEq,Int.reduceNe,Int.reduceLT,Int.reduceLE,Nat.reduceEqDiff,Nat.reduceAdd,reduceIte,reduceCtorEq,Nat.reduceLT,Nat.reduceLeDiff,Nat.reduceShiftRight,Nat.reduceMod]
 refine callS_of (refSearchErr_s x) ?_
 by_cases q2:x.err=0
 case neg=>simp only [q2,decide_false,Bool.not_false,TM.av,TS.av,rnd_s,Int.reduceAdd,Int.reduceSub,decide_true,decide_false,i64_1,i64_2,i64_3,i64_4,true_and,Int.one_mul,Int.cast_ofNat_Int,Int.reduceToNat,Nat.zero_mul,Nat.reduceMul,Nat.zero_add,Nat.mul_one,List.getElem?_cons_zero,List.getElem?_cons_succ,vZ,Int.reduceEq,Int.reduceNe,Int.reduceLT,Int.reduceLE,Nat.reduceEqDiff,Nat.reduceAdd,reduceIte,reduceCtorEq,Nat.reduceLT,Nat.reduceLeDiff,Nat.reduceShiftRight,Nat.reduceMod]
 have q:=openE_of q1 q2
 obtain ⟨hm,hb,hcc,hl2,ho⟩:=openE_ok q
 simp only [q2,decide_true,Bool.not_true,TM.av,TS.av,rnd_s,Int.reduceAdd,Int.reduceSub,decide_true,decide_false,i64_1,i64_2,i64_3,i64_4,true_and,Int.one_mul,Int.cast_ofNat_Int,Int.reduceToNat,Nat.zero_mul,Nat.reduceMul,Nat.zero_add,Nat.mul_one,List.getElem?_cons_zero,List.getElem?_cons_succ,vZ,Int.reduceEq,Int.reduceNe,Int.reduceLT,Int.reduceLE,Nat.reduceEqDiff,Nat.reduceAdd,reduceIte,reduceCtorEq,Nat.reduceLT,Nat.reduceLeDiff,Nat.reduceShiftRight,Nat.reduceMod]
 refine callS_of (refCount_s x.b hb.l hb.h) ?_
 by_cases q3:120<x.b.count
 case pos=>simp only [q3,decide_true,hitsL_length,TM.av,TS.av,rnd_s,Int.reduceAdd,Int.reduceSub,decide_true,decide_false,i64_1,i64_2,i64_3,i64_4,true_and,Int.one_mul,Int.cast_ofNat_Int,Int.reduceToNat,Nat.zero_mul,Nat.reduceMul,Nat.zero_add,Nat.mul_one,List.getElem?_cons_zero,List.getElem?_cons_succ,vZ,Int.reduceEq,Int.reduceNe,Int.reduceLT,Int.reduceLE,Nat.reduceEqDiff,Nat.reduceAdd,reduceIte,reduceCtorEq,Nat.reduceLT,Nat.reduceLeDiff,Nat.reduceShiftRight,Nat.reduceMod]
 simp only [q3,decide_false,hitsL_length,TM.av,TS.av,rnd_s,Int.reduceAdd,Int.reduceSub,decide_true,decide_false,i64_1,i64_2,i64_3,i64_4,true_and,Int.one_mul,Int.cast_ofNat_Int,Int.reduceToNat,Nat.zero_mul,Nat.reduceMul,Nat.zero_add,Nat.mul_one,List.getElem?_cons_zero,List.getElem?_cons_succ,vZ,Int.reduceEq,Int.reduceNe,Int.reduceLT,Int.reduceLE,Nat.reduceEqDiff,Nat.reduceAdd,reduceIte,reduceCtorEq,Nat.reduceLT,Nat.reduceLeDiff,Nat.reduceShiftRight,Nat.reduceMod]
 by_cases q4:(8:Int)<x.h.length
 case pos=>simp only [q4,decide_true,TM.av,TS.av,rnd_s,Int.reduceAdd,Int.reduceSub,decide_true,decide_false,i64_1,i64_2,i64_3,i64_4,true_and,Int.one_mul,Int.cast_ofNat_Int,Int.reduceToNat,Nat.zero_mul,Nat.reduceMul,Nat.zero_add,Nat.mul_one,List.getElem?_cons_zero,List.getElem?_cons_succ,vZ,Int.reduceEq,Int.reduceNe,Int.reduceLT,Int.reduceLE,Nat.reduceEqDiff,Nat.reduceAdd,reduceIte,reduceCtorEq,Nat.reduceLT,Nat.reduceLeDiff,Nat.reduceShiftRight,Nat.reduceMod]
 simp only [q4,decide_false,TM.av,TS.av,rnd_s,Int.reduceAdd,Int.reduceSub,decide_true,decide_false,i64_1,i64_2,i64_3,i64_4,true_and,Int.one_mul,Int.cast_ofNat_Int,Int.reduceToNat,Nat.zero_mul,Nat.reduceMul,Nat.zero_add,Nat.mul_one,List.getElem?_cons_zero,List.getElem?_cons_succ,vZ,Int.reduceEq,Int.reduceNe,Int.reduceLT,Int.reduceLE,Nat.reduceEqDiff,Nat.reduceAdd,reduceIte,reduceCtorEq,Nat.reduceLT,Nat.reduceLeDiff,Nat.reduceShiftRight,Nat.reduceMod]
 refine callS_of (Within_s _ _ _) ?_
 by_cases q5:0≤more∧more≤1000
 case neg=>simp only [q5,decide_false,Bool.not_false,TM.av,TS.av,rnd_s,Int.reduceAdd,Int.reduceSub,decide_true,decide_false,i64_1,i64_2,i64_3,i64_4,true_and,Int.one_mul,Int.cast_ofNat_Int,Int.reduceToNat,Nat.zero_mul,Nat.reduceMul,Nat.zero_add,Nat.mul_one,List.getElem?_cons_zero,List.getElem?_cons_succ,vZ,Int.reduceEq,Int.reduceNe,Int.reduceLT,Int.reduceLE,Nat.reduceEqDiff,Nat.reduceAdd,reduceIte,reduceCtorEq,Nat.reduceLT,Nat.reduceLeDiff,Nat.reduceShiftRight,Nat.reduceMod]
 simp only [q5,and_self,decide_true,Bool.not_true,TM.av,TS.av,rnd_s,Int.reduceAdd,Int.reduceSub,decide_true,decide_false,i64_1,i64_2,i64_3,i64_4,true_and,Int.one_mul,Int.cast_ofNat_Int,Int.reduceToNat,Nat.zero_mul,Nat.reduceMul,Nat.zero_add,Nat.mul_one,List.getElem?_cons_zero,List.getElem?_cons_succ,vZ,Int.reduceEq,Int.reduceNe,Int.reduceLT,Int.reduceLE,Nat.reduceEqDiff,Nat.reduceAdd,reduceIte,reduceCtorEq,Nat.reduceLT,Nat.reduceLeDiff,Nat.reduceShiftRight,Nat.reduceMod]
 have H:TWH m x more:=⟨q1,q,by omega,by omega,q5⟩
 refine callS_of (refCopy_s x.h (by omega)) ?_
 simp only [TM.av,TS.av,rnd_s,Int.reduceAdd,Int.reduceSub,decide_true,decide_false,i64_1,i64_2,i64_3,i64_4,true_and,Int.one_mul,Int.cast_ofNat_Int,Int.reduceToNat,Nat.zero_mul,Nat.reduceMul,Nat.zero_add,Nat.mul_one,List.getElem?_cons_zero,List.getElem?_cons_succ,vZ,Int.reduceEq,Int.reduceNe,Int.reduceLT,Int.reduceLE,Nat.reduceEqDiff,Nat.reduceAdd,reduceIte,reduceCtorEq,Nat.reduceLT,Nat.reduceLeDiff,Nat.reduceShiftRight,Nat.reduceMod]
 refine callS_of (BestIn_s m x.b x.h (by omega)) ?_
 simp only [TM.av,TS.av,V3.av,tk_indexArr,rnd_s,Int.reduceAdd,Int.reduceSub,decide_true,decide_false,i64_1,i64_2,i64_3,i64_4,true_and,Int.one_mul,Int.cast_ofNat_Int,Int.reduceToNat,Nat.zero_mul,Nat.reduceMul,Nat.zero_add,Nat.mul_one,List.getElem?_cons_zero,List.getElem?_cons_succ,vZ,Int.reduceEq,Int.reduceNe,Int.reduceLT,Int.reduceLE,Nat.reduceEqDiff,Nat.reduceAdd,reduceIte,reduceCtorEq,Nat.reduceLT,Nat.reduceLeDiff,Nat.reduceShiftRight,Nat.reduceMod]
 refine callS_of (refCopySearch_s x (by omega)) ?_
 simp only [TM.av,TS.av,V3.av,rnd_s,Int.reduceAdd,Int.reduceSub,decide_true,decide_false,i64_1,i64_2,i64_3,i64_4,true_and,Int.one_mul,Int.cast_ofNat_Int,Int.reduceToNat,Nat.zero_mul,Nat.reduceMul,Nat.zero_add,Nat.mul_one,List.getElem?_cons_zero,List.getElem?_cons_succ,vZ,Int.reduceEq,Int.reduceNe,Int.reduceLT,Int.reduceLE,Nat.reduceEqDiff,Nat.reduceAdd,reduceIte,reduceCtorEq,Nat.reduceLT,Nat.reduceLeDiff,Nat.reduceShiftRight,Nat.reduceMod]
 have hC:=ConeOf_s m x more q (by omega)
 refine callS_of hC ?_
 rcases bestE_or q with hE | hE
 case inr =>
  simp only [hE,decide_true,decide_false,Bool.not_true,Bool.not_false,Int.reduceEq,TM.av,TS.av,V3.av,rnd_s,Int.reduceAdd,Int.reduceSub,decide_true,decide_false,i64_1,i64_2,i64_3,i64_4,true_and,Int.one_mul,Int.cast_ofNat_Int,Int.reduceToNat,Nat.zero_mul,Nat.reduceMul,Nat.zero_add,Nat.mul_one,List.getElem?_cons_zero,List.getElem?_cons_succ,vZ,Int.reduceEq,Int.reduceNe,Int.reduceLT,Int.reduceLE,Nat.reduceEqDiff,Nat.reduceAdd,reduceIte,reduceCtorEq,Nat.reduceLT,Nat.reduceLeDiff,Nat.reduceShiftRight,Nat.reduceMod]
 obtain ⟨b1,b2,b3⟩:=best_facts H hE
 have hst:=(step_ok (l:=[]) H.e rfl b1 b2).1
 have hcl:=coneL_le m x.h (bestN m x.b x.h+more) (m.steps x.b)
 have hsl:=steps_len2 m x.b hb.o
 have hlt:¬ x.b.count<((m.cone x.b x.h (bestN m x.b x.h+more)).length:Int):=by unfold TM.cone;omega
 simp only [hE,if_true,decide_true,Bool.not_true,Bool.not_false,TM.av,TS.av,V3.av,rnd_s,Int.reduceAdd,Int.reduceSub,decide_true,decide_false,i64_1,i64_2,i64_3,i64_4,true_and,Int.one_mul,Int.cast_ofNat_Int,Int.reduceToNat,Nat.zero_mul,Nat.reduceMul,Nat.zero_add,Nat.mul_one,List.getElem?_cons_zero,List.getElem?_cons_succ,vZ,Int.reduceEq,Int.reduceNe,Int.reduceLT,Int.reduceLE,Nat.reduceEqDiff,Nat.reduceAdd,reduceIte,reduceCtorEq,Nat.reduceLT,Nat.reduceLeDiff,Nat.reduceShiftRight,Nat.reduceMod]
 refine callS_of (refStepErr_s m (bestV m x.b x.h)) ?_
 simp only [hst,decide_true,Bool.not_true,vecs_length,TM.av,TS.av,V3.av,rnd_s,Int.reduceAdd,Int.reduceSub,decide_true,decide_false,i64_1,i64_2,i64_3,i64_4,true_and,Int.one_mul,Int.cast_ofNat_Int,Int.reduceToNat,Nat.zero_mul,Nat.reduceMul,Nat.zero_add,Nat.mul_one,List.getElem?_cons_zero,List.getElem?_cons_succ,vZ,Int.reduceEq,Int.reduceNe,Int.reduceLT,Int.reduceLE,Nat.reduceEqDiff,Nat.reduceAdd,reduceIte,reduceCtorEq,Nat.reduceLT,Nat.reduceLeDiff,Nat.reduceShiftRight,Nat.reduceMod]
 refine callS_of (refCount_s x.b hb.l hb.h) ?_
 simp only [hlt,decide_false,TM.av,TS.av,V3.av,rnd_s,Int.reduceAdd,Int.reduceSub,decide_true,decide_false,i64_1,i64_2,i64_3,i64_4,true_and,Int.one_mul,Int.cast_ofNat_Int,Int.reduceToNat,Nat.zero_mul,Nat.reduceMul,Nat.zero_add,Nat.mul_one,List.getElem?_cons_zero,List.getElem?_cons_succ,vZ,Int.reduceEq,Int.reduceNe,Int.reduceLT,Int.reduceLE,Nat.reduceEqDiff,Nat.reduceAdd,reduceIte,reduceCtorEq,Nat.reduceLT,Nat.reduceLeDiff,Nat.reduceShiftRight,Nat.reduceMod]
 refine WL_cutW (envOf [(2,.int .i64 more),(3,.ptr 3 0 0),(4,.ptr 4 0 0),(7,.ptr 7 0 0),(8,.int .i64 (bestN m x.b x.h)),(10,.sl (vecs (m.cone x.b x.h (bestN m x.b x.h+more)))),(12,.int .i64 0)],stOf [(3,⟨26,12,[m.av]⟩),(4,⟨31,7,[x.av]⟩),(7,⟨22,3,[(bestV m x.b x.h).av]⟩)]) rfl ?_ (TW_9 m x more H hE)
 refine weakX [] (of_decide_eq_true rfl) (of_decide_eq_true rfl) ?_
 (simp only [TM.av,TS.av,V3.av,vcW,vZ,Int.reduceEq,Int.reduceNe,Int.reduceLT,Int.reduceLE,Nat.reduceEqDiff,Nat.reduceAdd,reduceIte,reduceCtorEq,Nat.reduceLT,Nat.reduceLeDiff,Nat.reduceShiftRight,Nat.reduceMod])
 (repeat' first | exact trivial | (with_reducible first | exact RnB.fxB (ints_fxB _) | rfl | refine And.intro ?_ ?_) | (with_reducible (first | refine RnB.bb ?_ | refine RnB.nb ?_);simp only [vcW,vZ,Int.reduceEq,Int.reduceNe,Int.reduceLT,Int.reduceLE,Nat.reduceEqDiff,Nat.reduceAdd,reduceIte,reduceCtorEq,Nat.reduceLT,Nat.reduceLeDiff,Nat.reduceShiftRight,Nat.reduceMod]) | (with_reducible first | refine RnB.ii ?_ | refine RnB.app ?_) | (with_reducible refine RnB.fxB ?_;simp only [vcW,vZ,Int.reduceEq,Int.reduceNe,Int.reduceLT,Int.reduceLE,Nat.reduceEqDiff,Nat.reduceAdd,reduceIte,reduceCtorEq,Nat.reduceLT,Nat.reduceLeDiff,Nat.reduceShiftRight,Nat.reduceMod]) | omega)
 all_goals first | rfl | exact RnB.fxB rfl | omega | skip
end Go.Proofs.Ytoiajhogondgcaa

/- What the arguments of the law read as. By an AI agent;nothing here is trusted. -/
namespace Go.Proofs.Ytoiajhogondgcaa
open Go.Av

theorem Rd_map {P:Program} {t:TypeId} {A B:Type} {av:A→AV} {ok:A→Prop} {bv:B→AV} {okb:B→Prop} (h:Rd P t av ok) (g:∀ a,ok a→∃ b,okb b∧bv b=av a):Rd P t bv okb:=fun H enc W fuel cs x hx=>by
 obtain ⟨a,ha,hc⟩:=h H enc W fuel cs x hx
 obtain ⟨b,hb,e⟩:=g a ha
 exact ⟨b,hb,by rw [e];exact hc⟩
theorem rdI:Rd Try.prog 3 (AV.int .i64) (fun n=>I64 n):=Rd_i64 Try.underlying3
theorem rdV3:Rd Try.prog 22 V3.av (fun _=>True) :=
 Rd_map (Rd_array (s:=1) Try.underlying22 rdI (by kernel_rfl) (by kernel_rfl) (fun _=>rfl)) (fun l h=>by
  match l,h.1 with
  | [x,y,z],_=>exact ⟨⟨x,y,z⟩,trivial,rfl⟩)
theorem rdTH:Rd Try.prog 49 TH.av (fun _=>True) :=
 Rd_map (Rd_struct (s:=5) Try.underlying49 (RdF_cons (s:=3) rdV3 rfl (by kernel_rfl) (fun _=>rfl) (RdF_cons (s:=1) rdI rfl (by kernel_rfl) (fun _=>rfl) (RdF_cons (s:=1) rdI rfl (by kernel_rfl) (fun _=>rfl) (RdF_nil _)))) (by kernel_rfl) (fun _=>rfl))
  (fun a _=>⟨⟨a.1,a.2.1,a.2.2.1⟩,trivial,rfl⟩)
theorem rdTB:Rd Try.prog 28 TB.av (fun _=>True) :=
 Rd_map (Rd_struct (s:=6) Try.underlying28 (RdF_cons (s:=3) rdV3 rfl (by kernel_rfl) (fun _=>rfl) (RdF_cons (s:=3) rdV3 rfl (by kernel_rfl) (fun _=>rfl) (RdF_nil _))) (by kernel_rfl) (fun _=>rfl))
  (fun a _=>⟨⟨a.1,a.2.1⟩,trivial,rfl⟩)
theorem rdTHs:Rd Try.prog 29 (fun l=>.sl (hitsL l)) (fun l=>l.length≤maxLen) :=
 Rd_map (Rd_slice (s:=5) Try.underlying29 rdTH (by kernel_rfl) (by decide) (fun _=>rfl) (fun _ h=>h)) (fun l h=>⟨l,h.1,rfl⟩)
def TS.cells (x:TS):List AV:=[.int .i64 x.b.lo.x,.int .i64 x.b.lo.y,.int .i64 x.b.lo.z,.int .i64 x.b.hi.x,.int .i64 x.b.hi.y,.int .i64 x.b.hi.z,.sl (hitsL x.h)]
theorem rdTS:Rd Try.prog 31 (fun x:TS=>.agg x.cells) (fun x=>x.h.length≤maxLen) :=
 Rd_map (Rd_struct (s:=7) Try.underlying31 (RdF_cons (s:=6) rdTB rfl (by kernel_rfl) (fun _=>rfl) (RdF_cons (s:=1) rdTHs rfl (by kernel_rfl) (fun _=>rfl) (RdF_nil _))) (by kernel_rfl) (fun _=>rfl))
  (fun a h=>⟨⟨a.1,a.2.1⟩,h.2.1,rfl⟩)
theorem rdRg:Rd Try.prog 24 (fun p:Int × Int=>.agg [.int .i64 p.1,.int .i64 p.2]) (fun _=>True) :=
 Rd_map (Rd_struct (s:=2) Try.underlying24 (RdF_cons (s:=1) rdI rfl (by kernel_rfl) (fun _=>rfl) (RdF_cons (s:=1) rdI rfl (by kernel_rfl) (fun _=>rfl) (RdF_nil _))) (by kernel_rfl) (fun _=>rfl))
  (fun a _=>⟨(a.1,a.2.1),trivial,rfl⟩)
def TM.cells (m:TM):List AV:=[.int .i64 m.px,.int .i64 m.py,.int .i64 m.pz,.int .i64 m.t,.int .i64 m.k,.int .i64 m.lo,.int .i64 m.hi,.int .i64 m.li,.int .i64 m.ea,.int .i64 m.la,.int .i64 m.no,.int .i64 m.mi]
theorem rdTM:Rd Try.prog 26 (fun m:TM=>.agg m.cells) (fun _=>True) :=
 Rd_map (Rd_struct (s:=12) Try.underlying26 (RdF_cons (s:=3) rdV3 rfl (by kernel_rfl) (fun _=>rfl) (RdF_cons (s:=1) rdI rfl (by kernel_rfl) (fun _=>rfl) (RdF_cons (s:=1) rdI rfl (by kernel_rfl) (fun _=>rfl) (RdF_cons (s:=2) rdRg rfl (by kernel_rfl) (fun _=>rfl) (RdF_cons (s:=1) rdI rfl (by kernel_rfl) (fun _=>rfl) (RdF_cons (s:=1) rdI rfl (by kernel_rfl) (fun _=>rfl) (RdF_cons (s:=1) rdI rfl (by kernel_rfl) (fun _=>rfl) (RdF_cons (s:=1) rdI rfl (by kernel_rfl) (fun _=>rfl) (RdF_cons (s:=1) rdI rfl (by kernel_rfl) (fun _=>rfl) (RdF_nil _)))))))))) (by kernel_rfl) (fun _=>rfl))
  (fun a _=>⟨⟨a.1.x,a.1.y,a.1.z,a.2.1,a.2.2.1,a.2.2.2.1.1,a.2.2.2.1.2,a.2.2.2.2.1,a.2.2.2.2.2.1,a.2.2.2.2.2.2.1,a.2.2.2.2.2.2.2.1,a.2.2.2.2.2.2.2.2.1⟩,trivial,rfl⟩)
end Go.Proofs.Ytoiajhogondgcaa

