/- First times: the walk. By an AI agent; nothing here is trusted. -/
import Derived.Test.YtoiajhogondgcaaDoorConTopIceDeployedCardA
import Derived.Test.YtoiajhogondgcaaDoorLayD
import Derived.Test.YtoiajhogondgcaaDoorKode
set_option linter.defProp false
set_option linter.unusedSimpArgs false
set_option linter.unusedVariables false
namespace Go.Proofs.YtoiajhogondgcaaDoor
open Go.Av

def Least (O:Ents) (x:List Nat × Int × Int × Int):Prop :=
 (x.2=(0,0, -1)∧∀ q ∈ O,q.2.2.2 ∉ x.1)∨∃ b ∈ O,x.2=(b.1,b.2.1,b.2.2.1)∧∀ q ∈ O,q.2.2.2 ∈ x.1→b.2.2.1≤q.2.2.1
def left (O:Ents) (S:List Nat):Nat:=(O.filter fun q=>decide (q.2.2.2 ∉ S)).length
theorem left_lt {O:Ents} {S:List Nat} {e:Ent} (he:e ∈ O) (hs:e.2.2.2 ∉ S):left O (S ++ [e.2.2.2])<left O S:=by
 unfold left
 have hsub:(O.filter fun q=>decide (q.2.2.2 ∉ S ++ [e.2.2.2]))=(O.filter fun q=>decide (q.2.2.2 ∉ S)).filter fun q=>decide (q.2.2.2 ≠ e.2.2.2):=by
  rw [List.filter_filter]
  apply List.filter_congr
  intro q _
  by_cases h1:q.2.2.2 ∈ S <;> by_cases h2:q.2.2.2=e.2.2.2 <;> simp [h1,h2]
 rw [hsub]
 refine List.length_filter_lt_length_iff_exists.2 ⟨e,List.mem_filter.2 ⟨he,by simpa using hs⟩,by simp⟩
theorem st_inj {M:Ents} (hn:(M.map Ent.st).Nodup) {a b:Ent} (ha:a ∈ M) (hb:b ∈ M) (h:a.2.2.2=b.2.2.2):a=b:=by
 have h1:=find_st hn ha
 have h2:=find_st hn hb
 rw [h,h2] at h1
 cases h1;rfl
theorem at_preI {α:Type} {L:List α} {f:α→List AV} {pre:List (List AV)} {x:List AV} {rest:List (List AV)} (h:pre ++ x :: rest=L.map f):∃ hk:pre.length<L.length,x=f L[pre.length]:=by
 have hlen:pre.length<L.length:=by have:=congrArg List.length h;simp at this;omega
 refine ⟨hlen,?_⟩
 have:=congrArg (fun l=>l[pre.length]?) h
 simp [hlen] at this
 exact this
theorem nbs_len (c r:Int):(nbs c r 4).length≤4:=by
 have h1:∀ i,(nb1 c r i).length≤1:=fun i=>by unfold nb1;split <;> simp
 have h2:∀ n,(nbs c r n).length≤n:=fun n=>by
  induction n with
  | zero=>simp [nbs]
  | succ n ih=>rw [nbs_succ,List.length_append];have:=h1 n;omega
 exact h2 4
theorem nbs_bd {c r:Int} {n:Int × Int × Int} (h:n ∈ nbs c r 4):4≤n.2.2∧n.2.2≤10:=by
 unfold nbs at h
 obtain ⟨i,_,hi⟩:=List.mem_flatMap.1 h
 unfold nb1 at hi
 split at hi
 ·simp only [List.mem_singleton] at hi
  subst hi
  have h1:=del_bd c r
  have h2:=del_bd (c+sdx i) (r+sdy i)
  simp only
  omega
 ·cases hi
theorem relaxN_succ (A:Ents) (e:Ent) (q:Ents × Nat) (k:Nat) (hk:k<(nbs e.1 e.2.1 4).length):relaxN A e q (k+1)=relax1 A e.2.2.1 (relaxN A e q k) (nbs e.1 e.2.1 4)[k]:=by
 unfold relaxN
 rw [List.take_succ_eq_append_getElem hk,List.foldl_append]
 rfl
theorem relaxN_end (A:Ents) (e:Ent) (q:Ents × Nat):relaxN A e q (nbs e.1 e.2.1 4).length=relaxN A e q 4:=by
 unfold relaxN
 rw [List.take_length,List.take_of_length_le (nbs_len _ _)]
theorem neighbours_s (c r:Int):Sound Tryd.prog 54 [gA,ceA c r] (.fn 76 [.eptr (ceA c r) 0,.eptr gA 0]):=by
 refine sound_W f_ice_neighbours (Nat.le_of_ble_eq_true rfl) ?_
 simp only [c_ice_neighbours,gA,ceA,rnd_s,Int.reduceAdd,Int.reduceSub,decide_true,decide_false,i64_1,i64_2,i64_3,i64_4,true_and,Int.one_mul,Int.cast_ofNat_Int,Int.reduceToNat,Nat.zero_mul,Nat.reduceMul,Nat.zero_add,Nat.mul_one,List.getElem?_cons_zero,List.getElem?_cons_succ,vZ,Int.reduceEq,Int.reduceNe,Int.reduceLT,Int.reduceLE,Nat.reduceEqDiff,Nat.reduceAdd,reduceIte,reduceCtorEq,Nat.reduceLT,Nat.reduceLeDiff,Nat.reduceShiftRight,Nat.reduceMod]
set_option maxHeartbeats 4000000 in
theorem times_s:Sound Tryd.prog 36 [gA,ceA 0 0] (.mo (.map (tm 6).A (tm 6).ca)):=by
 refine sound_W f_ice_times (Nat.le_of_ble_eq_true rfl) ?_
 simp only [c_ice_times,gA,ceA,vcM1,vcM2,vcM3,rnd_s,Int.reduceAdd,Int.reduceSub,decide_true,decide_false,i64_1,i64_2,i64_3,i64_4,true_and,Int.one_mul,Int.cast_ofNat_Int,Int.reduceToNat,Nat.zero_mul,Nat.reduceMul,Nat.zero_add,Nat.mul_one,List.getElem?_cons_zero,List.getElem?_cons_succ,vZ,Int.reduceEq,Int.reduceNe,Int.reduceLT,Int.reduceLE,Nat.reduceEqDiff,Nat.reduceAdd,reduceIte,reduceCtorEq,Nat.reduceLT,Nat.reduceLeDiff,Nat.reduceShiftRight,Nat.reduceMod]
 refine W_loop (t:=.mk) (α:=PSigma fun i:Nat=>i≤6∧(True)) (fun ⟨i,_⟩=>((envOf [(2,.ptr 2 0 0),(3,.ptr 3 0 0),(5,.ptr 5 0 0),(6,.ptr 6 0 0)],stOf [(2,⟨58,3,[gA]⟩),(3,⟨61,2,[ceA 0 0]⟩),(5,⟨81,1,[.mp 17]⟩),(6,⟨81,1,[.mp 18]⟩),(17,mapB (tm i).A (tm i).ca),(18,mapB (tm i).O (tm i).co)]))) (fun i=>6 - i.1) ⟨0,Nat.zero_le _,?_⟩ ?_ (fun ⟨i,hi,hn⟩=>?_)
 ·trivial
 ·refine weakX [(2,some 2)] (of_decide_eq_true rfl) (of_decide_eq_true rfl) ?_
  (simp only [gA,ceA,vcW,vZ,Int.reduceEq,Int.reduceNe,Int.reduceLT,Int.reduceLE,Nat.reduceEqDiff,Nat.reduceAdd,reduceIte,reduceCtorEq,Nat.reduceLT,Nat.reduceLeDiff,Nat.reduceShiftRight,Nat.reduceMod])
  (repeat' first | exact trivial | (with_reducible first | (refine RnB.mm ?_;simp only [vcW,vZ,Int.reduceEq,Int.reduceNe,Int.reduceLT,Int.reduceLE,Nat.reduceEqDiff,Nat.reduceAdd,reduceIte,reduceCtorEq,Nat.reduceLT,Nat.reduceLeDiff,Nat.reduceShiftRight,Nat.reduceMod]) | refine RnB.map (And.intro ?_ ?_) | (refine RnB.iter ?_;simp only [vcW,vZ,Int.reduceEq,Int.reduceNe,Int.reduceLT,Int.reduceLE,Nat.reduceEqDiff,Nat.reduceAdd,reduceIte,reduceCtorEq,Nat.reduceLT,Nat.reduceLeDiff,Nat.reduceShiftRight,Nat.reduceMod])) | (with_reducible first | exact RnB.fxB (ints_fxB _) | rfl | refine And.intro ?_ ?_) | (with_reducible (first | refine RnB.bb ?_ | refine RnB.nb ?_);simp only [vcW,vZ,Int.reduceEq,Int.reduceNe,Int.reduceLT,Int.reduceLE,Nat.reduceEqDiff,Nat.reduceAdd,reduceIte,reduceCtorEq,Nat.reduceLT,Nat.reduceLeDiff,Nat.reduceShiftRight,Nat.reduceMod]) | (with_reducible first | refine RnB.ii ?_ | refine RnB.app ?_) | (with_reducible refine RnB.fxB ?_;simp only [vcW,vZ,Int.reduceEq,Int.reduceNe,Int.reduceLT,Int.reduceLE,Nat.reduceEqDiff,Nat.reduceAdd,reduceIte,reduceCtorEq,Nat.reduceLT,Nat.reduceLeDiff,Nat.reduceShiftRight,Nat.reduceMod]) | omega)
  all_goals first | rfl | skip
 by_cases hi6:i<6
 ·obtain ⟨e,hbest,hg⟩:=tm_good hi6
  have hnext:=tm_next hbest
  dsimp only
  generalize tm i=s at *
  have hlen:decide ((0:Int)<s.O.length)=true:=decide_eq_true (by have:=List.length_pos_of_mem hg.mem;omega)
  simp only [gA,ceA,vcM1,vcM2,vcM3,hlen,rnd_s,Int.reduceAdd,Int.reduceSub,decide_true,decide_false,i64_1,i64_2,i64_3,i64_4,true_and,Int.one_mul,Int.cast_ofNat_Int,Int.reduceToNat,Nat.zero_mul,Nat.reduceMul,Nat.zero_add,Nat.mul_one,List.getElem?_cons_zero,List.getElem?_cons_succ,vZ,Int.reduceEq,Int.reduceNe,Int.reduceLT,Int.reduceLE,Nat.reduceEqDiff,Nat.reduceAdd,reduceIte,reduceCtorEq,Nat.reduceLT,Nat.reduceLeDiff,Nat.reduceShiftRight,Nat.reduceMod]
  refine W_loop (t:=.mk) (α:=PSigma (Least s.O)) (fun ⟨x,_⟩=>(envOf [(2,.ptr 2 0 0),(3,.ptr 3 0 0),(5,.ptr 5 0 0),(6,.ptr 6 0 0),(7,.ptr 7 0 0),(8,.ptr 8 0 0),(26,.mp 26)],stOf [(2,⟨58,3,[gA]⟩),(3,⟨61,2,[ceA 0 0]⟩),(5,⟨81,1,[.mp 17]⟩),(6,⟨81,1,[.mp 18]⟩),(17,mapB s.A s.ca),(18,mapB s.O s.co),(7,⟨61,2,[ceA x.2.1 x.2.2.1]⟩),(8,⟨3,1,[.int .i64 x.2.2.2]⟩),(26,iterB 18 s.co x.1 s.co)])) (fun x=>left s.O x.1.1) ⟨([],0,0, -1),.inl ⟨rfl,by simp⟩⟩ ?_ (fun ⟨⟨S,c,r,v⟩,hx⟩=>?_)
  ·refine weakX [(2,some 2)] (of_decide_eq_true rfl) (of_decide_eq_true rfl) ?_
   (simp only [gA,ceA,vcW,vZ,Int.reduceEq,Int.reduceNe,Int.reduceLT,Int.reduceLE,Nat.reduceEqDiff,Nat.reduceAdd,reduceIte,reduceCtorEq,Nat.reduceLT,Nat.reduceLeDiff,Nat.reduceShiftRight,Nat.reduceMod])
   (repeat' first | exact trivial | (with_reducible first | (refine RnB.mm ?_;simp only [vcW,vZ,Int.reduceEq,Int.reduceNe,Int.reduceLT,Int.reduceLE,Nat.reduceEqDiff,Nat.reduceAdd,reduceIte,reduceCtorEq,Nat.reduceLT,Nat.reduceLeDiff,Nat.reduceShiftRight,Nat.reduceMod]) | refine RnB.map (And.intro ?_ ?_) | (refine RnB.iter ?_;simp only [vcW,vZ,Int.reduceEq,Int.reduceNe,Int.reduceLT,Int.reduceLE,Nat.reduceEqDiff,Nat.reduceAdd,reduceIte,reduceCtorEq,Nat.reduceLT,Nat.reduceLeDiff,Nat.reduceShiftRight,Nat.reduceMod])) | (with_reducible first | exact RnB.fxB (ints_fxB _) | rfl | refine And.intro ?_ ?_) | (with_reducible (first | refine RnB.bb ?_ | refine RnB.nb ?_);simp only [vcW,vZ,Int.reduceEq,Int.reduceNe,Int.reduceLT,Int.reduceLE,Nat.reduceEqDiff,Nat.reduceAdd,reduceIte,reduceCtorEq,Nat.reduceLT,Nat.reduceLeDiff,Nat.reduceShiftRight,Nat.reduceMod]) | (with_reducible first | refine RnB.ii ?_ | refine RnB.app ?_) | (with_reducible refine RnB.fxB ?_;simp only [vcW,vZ,Int.reduceEq,Int.reduceNe,Int.reduceLT,Int.reduceLE,Nat.reduceEqDiff,Nat.reduceAdd,reduceIte,reduceCtorEq,Nat.reduceLT,Nat.reduceLeDiff,Nat.reduceShiftRight,Nat.reduceMod]) | omega)
   all_goals first | rfl | exact ⟨rfl,rfl,rfl,rfl⟩ | skip
  simp only [gA,ceA,vcM1,vcM2,vcM3,rnd_s,Int.reduceAdd,Int.reduceSub,decide_true,decide_false,i64_1,i64_2,i64_3,i64_4,true_and,Int.one_mul,Int.cast_ofNat_Int,Int.reduceToNat,Nat.zero_mul,Nat.reduceMul,Nat.zero_add,Nat.mul_one,List.getElem?_cons_zero,List.getElem?_cons_succ,vZ,Int.reduceEq,Int.reduceNe,Int.reduceLT,Int.reduceLE,Nat.reduceEqDiff,Nat.reduceAdd,reduceIte,reduceCtorEq,Nat.reduceLT,Nat.reduceLeDiff,Nat.reduceShiftRight,Nat.reduceMod]
  refine W_nextm (k:=26) (i:=(18,s.co,S,s.co)) (m:=(s.O,s.co)) rfl rfl rfl (fun q hq=>hg.st q hq) (Nat.le_refl _) (fun hall=>?_) (fun en hen hns=>?_)
  ·have hx':(c,r,v)=(e.1,e.2.1,e.2.2.1):=by
    rcases hx with ⟨_,hno⟩ | ⟨b,hb,hx,hle⟩
    ·exact absurd (hall e hg.mem) (hno e hg.mem)
    ·have h1:=hle e hg.mem (hall e hg.mem)
     have h2:=(hg.least b hb).2 h1
     subst h2
     exact hx
   simp only [Prod.mk.injEq] at hx'
   obtain ⟨rfl,rfl,rfl⟩:=hx'
   have hev:=hg.bd e hg.mem
   have hnb:=neighbours_s e.1 e.2.1
   have hit:=neighbours_1_s e.1 e.2.1 hg.g
   simp only [gA,ceA] at hnb
   simp only [gA,ceA,vcM1,vcM2,vcM3,rnd_s,Int.reduceAdd,Int.reduceSub,decide_true,decide_false,i64_1,i64_2,i64_3,i64_4,true_and,Int.one_mul,Int.cast_ofNat_Int,Int.reduceToNat,Nat.zero_mul,Nat.reduceMul,Nat.zero_add,Nat.mul_one,List.getElem?_cons_zero,List.getElem?_cons_succ,vZ,Int.reduceEq,Int.reduceNe,Int.reduceLT,Int.reduceLE,Nat.reduceEqDiff,Nat.reduceAdd,reduceIte,reduceCtorEq,Nat.reduceLT,Nat.reduceLeDiff,Nat.reduceShiftRight,Nat.reduceMod]
   refine callS_of hnb ?_
   simp only [gA,ceA,vcM1,vcM2,vcM3,rnd_s,Int.reduceAdd,Int.reduceSub,decide_true,decide_false,i64_1,i64_2,i64_3,i64_4,true_and,Int.one_mul,Int.cast_ofNat_Int,Int.reduceToNat,Nat.zero_mul,Nat.reduceMul,Nat.zero_add,Nat.mul_one,List.getElem?_cons_zero,List.getElem?_cons_succ,vZ,Int.reduceEq,Int.reduceNe,Int.reduceLT,Int.reduceLE,Nat.reduceEqDiff,Nat.reduceAdd,reduceIte,reduceCtorEq,Nat.reduceLT,Nat.reduceLeDiff,Nat.reduceShiftRight,Nat.reduceMod]
   refine W_weakR (t:=.mk) (envOf [(2,.ptr 2 0 0),(3,.ptr 3 0 0),(5,.ptr 5 0 0),(6,.ptr 6 0 0),(8,.ptr 8 0 0),(48,.fn 76 [.eptr (ceA e.1 e.2.1) 0,.eptr gA 0])],stOf [(2,⟨58,3,[gA]⟩),(3,⟨61,2,[ceA 0 0]⟩),(5,⟨81,1,[.mp 17]⟩),(6,⟨81,1,[.mp 18]⟩),(17,mapB (s.go e).A (s.go e).ca),(18,mapB (relaxN (s.go e).A e (delM s.O e.1 e.2.1,s.co) 0).1 (relaxN (s.go e).A e (delM s.O e.1 e.2.1,s.co) 0).2),(8,⟨3,1,[.int .i64 e.2.2.1]⟩)]) ?_ ?_
   ·refine weakX [(2,some 2)] (of_decide_eq_true rfl) (of_decide_eq_true rfl) ?_
    (simp only [gA,ceA,vcW,vZ,Int.reduceEq,Int.reduceNe,Int.reduceLT,Int.reduceLE,Nat.reduceEqDiff,Nat.reduceAdd,reduceIte,reduceCtorEq,Nat.reduceLT,Nat.reduceLeDiff,Nat.reduceShiftRight,Nat.reduceMod])
    (repeat' first | exact trivial | (with_reducible first | (refine RnB.mm ?_;simp only [vcW,vZ,Int.reduceEq,Int.reduceNe,Int.reduceLT,Int.reduceLE,Nat.reduceEqDiff,Nat.reduceAdd,reduceIte,reduceCtorEq,Nat.reduceLT,Nat.reduceLeDiff,Nat.reduceShiftRight,Nat.reduceMod]) | refine RnB.map (And.intro ?_ ?_) | (refine RnB.iter ?_;simp only [vcW,vZ,Int.reduceEq,Int.reduceNe,Int.reduceLT,Int.reduceLE,Nat.reduceEqDiff,Nat.reduceAdd,reduceIte,reduceCtorEq,Nat.reduceLT,Nat.reduceLeDiff,Nat.reduceShiftRight,Nat.reduceMod])) | (with_reducible first | exact RnB.fxB (ints_fxB _) | rfl | refine And.intro ?_ ?_) | (with_reducible (first | refine RnB.bb ?_ | refine RnB.nb ?_);simp only [vcW,vZ,Int.reduceEq,Int.reduceNe,Int.reduceLT,Int.reduceLE,Nat.reduceEqDiff,Nat.reduceAdd,reduceIte,reduceCtorEq,Nat.reduceLT,Nat.reduceLeDiff,Nat.reduceShiftRight,Nat.reduceMod]) | (with_reducible first | refine RnB.ii ?_ | refine RnB.app ?_) | (with_reducible refine RnB.fxB ?_;simp only [vcW,vZ,Int.reduceEq,Int.reduceNe,Int.reduceLT,Int.reduceLE,Nat.reduceEqDiff,Nat.reduceAdd,reduceIte,reduceCtorEq,Nat.reduceLT,Nat.reduceLeDiff,Nat.reduceShiftRight,Nat.reduceMod]) | omega)
    all_goals first | rfl | exact ⟨rfl,rfl,rfl,rfl⟩ | skip
   refine W_rf (tt:=.mk) (xs:=(nbs e.1 e.2.1 4).map nbA) rfl (by simp [imm,gA,ceA,immL]) rfl rfl hit (by intro x hx;obtain ⟨p,_,rfl⟩:=List.mem_map.1 hx;rfl) (fun pre=>stOf [(2,⟨58,3,[gA]⟩),(3,⟨61,2,[ceA 0 0]⟩),(5,⟨81,1,[.mp 17]⟩),(6,⟨81,1,[.mp 18]⟩),(17,mapB (s.go e).A (s.go e).ca),(18,mapB (relaxN (s.go e).A e (delM s.O e.1 e.2.1,s.co) pre.length).1 (relaxN (s.go e).A e (delM s.O e.1 e.2.1,s.co) pre.length).2),(8,⟨3,1,[.int .i64 e.2.2.1]⟩)]) (Weak.refl _) (fun pre x rest hsp=>?_) ?_
   ·obtain ⟨hk,rfl⟩:=at_preI hsp
    have hlen1:(pre ++ [nbA (nbs e.1 e.2.1 4)[pre.length]]).length=pre.length+1:=by simp
    have hbd:=nbs_bd (List.getElem_mem hk)
    rw [hlen1,relaxN_succ _ _ _ _ hk]
    generalize (nbs e.1 e.2.1 4)[pre.length]=n at *
    generalize relaxN (s.go e).A e (delM s.O e.1 e.2.1,s.co) pre.length=q at *
    generalize (s.go e).A=A at *
    generalize (s.go e).ca=ca at *
    by_cases hA:(findM A n.1 n.2.1).isSome=true
    ·have hr:relax1 A e.2.2.1 q n=q:=by unfold relax1;rw [if_pos hA]
     simp only [gA,ceA,nbA,hA,hr,vcM1,vcM2,vcM3,rnd_s,Int.reduceAdd,Int.reduceSub,decide_true,decide_false,i64_1,i64_2,i64_3,i64_4,true_and,Int.one_mul,Int.cast_ofNat_Int,Int.reduceToNat,Nat.zero_mul,Nat.reduceMul,Nat.zero_add,Nat.mul_one,List.getElem?_cons_zero,List.getElem?_cons_succ,vZ,Int.reduceEq,Int.reduceNe,Int.reduceLT,Int.reduceLE,Nat.reduceEqDiff,Nat.reduceAdd,reduceIte,reduceCtorEq,Nat.reduceLT,Nat.reduceLeDiff,Nat.reduceShiftRight,Nat.reduceMod]
     refine weakX [(2,some 2)] (of_decide_eq_true rfl) (of_decide_eq_true rfl) ?_
     (simp only [gA,ceA,vcW,vZ,Int.reduceEq,Int.reduceNe,Int.reduceLT,Int.reduceLE,Nat.reduceEqDiff,Nat.reduceAdd,reduceIte,reduceCtorEq,Nat.reduceLT,Nat.reduceLeDiff,Nat.reduceShiftRight,Nat.reduceMod])
     (repeat' first | exact trivial | (with_reducible first | (refine RnB.mm ?_;simp only [vcW,vZ,Int.reduceEq,Int.reduceNe,Int.reduceLT,Int.reduceLE,Nat.reduceEqDiff,Nat.reduceAdd,reduceIte,reduceCtorEq,Nat.reduceLT,Nat.reduceLeDiff,Nat.reduceShiftRight,Nat.reduceMod]) | refine RnB.map (And.intro ?_ ?_) | (refine RnB.iter ?_;simp only [vcW,vZ,Int.reduceEq,Int.reduceNe,Int.reduceLT,Int.reduceLE,Nat.reduceEqDiff,Nat.reduceAdd,reduceIte,reduceCtorEq,Nat.reduceLT,Nat.reduceLeDiff,Nat.reduceShiftRight,Nat.reduceMod])) | (with_reducible first | exact RnB.fxB (ints_fxB _) | rfl | refine And.intro ?_ ?_) | (with_reducible (first | refine RnB.bb ?_ | refine RnB.nb ?_);simp only [vcW,vZ,Int.reduceEq,Int.reduceNe,Int.reduceLT,Int.reduceLE,Nat.reduceEqDiff,Nat.reduceAdd,reduceIte,reduceCtorEq,Nat.reduceLT,Nat.reduceLeDiff,Nat.reduceShiftRight,Nat.reduceMod]) | (with_reducible first | refine RnB.ii ?_ | refine RnB.app ?_) | (with_reducible refine RnB.fxB ?_;simp only [vcW,vZ,Int.reduceEq,Int.reduceNe,Int.reduceLT,Int.reduceLE,Nat.reduceEqDiff,Nat.reduceAdd,reduceIte,reduceCtorEq,Nat.reduceLT,Nat.reduceLeDiff,Nat.reduceShiftRight,Nat.reduceMod]) | omega)
     all_goals first | rfl | exact ⟨rfl,rfl,rfl,rfl⟩ | skip
    have hA':(findM A n.1 n.2.1).isSome=false:=by simpa using hA
    by_cases hO:(findM q.1 n.1 n.2.1).isSome=true
    ·by_cases hlt:e.2.2.1+n.2.2<(findM q.1 n.1 n.2.1).getD 0
     ·have hr:relax1 A e.2.2.1 q n=(setM q.1 q.2 n.1 n.2.1 (e.2.2.1+n.2.2),clkM q.1 q.2 n.1 n.2.1):=by unfold relax1;rw [if_neg hA,if_pos (.inr hlt)]
      have hd:decide (e.2.2.1+n.2.2<(findM q.1 n.1 n.2.1).getD 0)=true:=decide_eq_true hlt
      simp only [gA,ceA,nbA,hA',hO,hr,hd,vcM1,vcM2,vcM3,rnd_s,Int.reduceAdd,Int.reduceSub,decide_true,decide_false,i64_1,i64_2,i64_3,i64_4,true_and,Int.one_mul,Int.cast_ofNat_Int,Int.reduceToNat,Nat.zero_mul,Nat.reduceMul,Nat.zero_add,Nat.mul_one,List.getElem?_cons_zero,List.getElem?_cons_succ,vZ,Int.reduceEq,Int.reduceNe,Int.reduceLT,Int.reduceLE,Nat.reduceEqDiff,Nat.reduceAdd,reduceIte,reduceCtorEq,Nat.reduceLT,Nat.reduceLeDiff,Nat.reduceShiftRight,Nat.reduceMod]
      refine ⟨by unfold I64;omega,?_⟩
      try refine ⟨by unfold I64;omega,?_⟩
      refine weakX [(2,some 2)] (of_decide_eq_true rfl) (of_decide_eq_true rfl) ?_
      (simp only [gA,ceA,vcW,vZ,Int.reduceEq,Int.reduceNe,Int.reduceLT,Int.reduceLE,Nat.reduceEqDiff,Nat.reduceAdd,reduceIte,reduceCtorEq,Nat.reduceLT,Nat.reduceLeDiff,Nat.reduceShiftRight,Nat.reduceMod])
      (repeat' first | exact trivial | (with_reducible first | (refine RnB.mm ?_;simp only [vcW,vZ,Int.reduceEq,Int.reduceNe,Int.reduceLT,Int.reduceLE,Nat.reduceEqDiff,Nat.reduceAdd,reduceIte,reduceCtorEq,Nat.reduceLT,Nat.reduceLeDiff,Nat.reduceShiftRight,Nat.reduceMod]) | refine RnB.map (And.intro ?_ ?_) | (refine RnB.iter ?_;simp only [vcW,vZ,Int.reduceEq,Int.reduceNe,Int.reduceLT,Int.reduceLE,Nat.reduceEqDiff,Nat.reduceAdd,reduceIte,reduceCtorEq,Nat.reduceLT,Nat.reduceLeDiff,Nat.reduceShiftRight,Nat.reduceMod])) | (with_reducible first | exact RnB.fxB (ints_fxB _) | rfl | refine And.intro ?_ ?_) | (with_reducible (first | refine RnB.bb ?_ | refine RnB.nb ?_);simp only [vcW,vZ,Int.reduceEq,Int.reduceNe,Int.reduceLT,Int.reduceLE,Nat.reduceEqDiff,Nat.reduceAdd,reduceIte,reduceCtorEq,Nat.reduceLT,Nat.reduceLeDiff,Nat.reduceShiftRight,Nat.reduceMod]) | (with_reducible first | refine RnB.ii ?_ | refine RnB.app ?_) | (with_reducible refine RnB.fxB ?_;simp only [vcW,vZ,Int.reduceEq,Int.reduceNe,Int.reduceLT,Int.reduceLE,Nat.reduceEqDiff,Nat.reduceAdd,reduceIte,reduceCtorEq,Nat.reduceLT,Nat.reduceLeDiff,Nat.reduceShiftRight,Nat.reduceMod]) | omega)
      all_goals first | rfl | exact ⟨rfl,rfl,rfl,rfl⟩ | skip
     ·have hr:relax1 A e.2.2.1 q n=q:=by unfold relax1;rw [if_neg hA,if_neg (fun h=>h.elim (fun h=>by rw [hO] at h;cases h) hlt)]
      have hd:decide (e.2.2.1+n.2.2<(findM q.1 n.1 n.2.1).getD 0)=false:=decide_eq_false hlt
      simp only [gA,ceA,nbA,hA',hO,hr,hd,vcM1,vcM2,vcM3,rnd_s,Int.reduceAdd,Int.reduceSub,decide_true,decide_false,i64_1,i64_2,i64_3,i64_4,true_and,Int.one_mul,Int.cast_ofNat_Int,Int.reduceToNat,Nat.zero_mul,Nat.reduceMul,Nat.zero_add,Nat.mul_one,List.getElem?_cons_zero,List.getElem?_cons_succ,vZ,Int.reduceEq,Int.reduceNe,Int.reduceLT,Int.reduceLE,Nat.reduceEqDiff,Nat.reduceAdd,reduceIte,reduceCtorEq,Nat.reduceLT,Nat.reduceLeDiff,Nat.reduceShiftRight,Nat.reduceMod]
      refine ⟨by unfold I64;omega,?_⟩
      refine weakX [(2,some 2)] (of_decide_eq_true rfl) (of_decide_eq_true rfl) ?_
      (simp only [gA,ceA,vcW,vZ,Int.reduceEq,Int.reduceNe,Int.reduceLT,Int.reduceLE,Nat.reduceEqDiff,Nat.reduceAdd,reduceIte,reduceCtorEq,Nat.reduceLT,Nat.reduceLeDiff,Nat.reduceShiftRight,Nat.reduceMod])
      (repeat' first | exact trivial | (with_reducible first | (refine RnB.mm ?_;simp only [vcW,vZ,Int.reduceEq,Int.reduceNe,Int.reduceLT,Int.reduceLE,Nat.reduceEqDiff,Nat.reduceAdd,reduceIte,reduceCtorEq,Nat.reduceLT,Nat.reduceLeDiff,Nat.reduceShiftRight,Nat.reduceMod]) | refine RnB.map (And.intro ?_ ?_) | (refine RnB.iter ?_;simp only [vcW,vZ,Int.reduceEq,Int.reduceNe,Int.reduceLT,Int.reduceLE,Nat.reduceEqDiff,Nat.reduceAdd,reduceIte,reduceCtorEq,Nat.reduceLT,Nat.reduceLeDiff,Nat.reduceShiftRight,Nat.reduceMod])) | (with_reducible first | exact RnB.fxB (ints_fxB _) | rfl | refine And.intro ?_ ?_) | (with_reducible (first | refine RnB.bb ?_ | refine RnB.nb ?_);simp only [vcW,vZ,Int.reduceEq,Int.reduceNe,Int.reduceLT,Int.reduceLE,Nat.reduceEqDiff,Nat.reduceAdd,reduceIte,reduceCtorEq,Nat.reduceLT,Nat.reduceLeDiff,Nat.reduceShiftRight,Nat.reduceMod]) | (with_reducible first | refine RnB.ii ?_ | refine RnB.app ?_) | (with_reducible refine RnB.fxB ?_;simp only [vcW,vZ,Int.reduceEq,Int.reduceNe,Int.reduceLT,Int.reduceLE,Nat.reduceEqDiff,Nat.reduceAdd,reduceIte,reduceCtorEq,Nat.reduceLT,Nat.reduceLeDiff,Nat.reduceShiftRight,Nat.reduceMod]) | omega)
      all_goals first | rfl | exact ⟨rfl,rfl,rfl,rfl⟩ | skip
    ·have hO':(findM q.1 n.1 n.2.1).isSome=false:=by simpa using hO
     have hr:relax1 A e.2.2.1 q n=(setM q.1 q.2 n.1 n.2.1 (e.2.2.1+n.2.2),clkM q.1 q.2 n.1 n.2.1):=by unfold relax1;rw [if_neg hA,if_pos (.inl hO')]
     simp only [gA,ceA,nbA,hA',hO',hr,vcM1,vcM2,vcM3,rnd_s,Int.reduceAdd,Int.reduceSub,decide_true,decide_false,i64_1,i64_2,i64_3,i64_4,true_and,Int.one_mul,Int.cast_ofNat_Int,Int.reduceToNat,Nat.zero_mul,Nat.reduceMul,Nat.zero_add,Nat.mul_one,List.getElem?_cons_zero,List.getElem?_cons_succ,vZ,Int.reduceEq,Int.reduceNe,Int.reduceLT,Int.reduceLE,Nat.reduceEqDiff,Nat.reduceAdd,reduceIte,reduceCtorEq,Nat.reduceLT,Nat.reduceLeDiff,Nat.reduceShiftRight,Nat.reduceMod]
     refine ⟨by unfold I64;omega,?_⟩
     refine weakX [(2,some 2)] (of_decide_eq_true rfl) (of_decide_eq_true rfl) ?_
     (simp only [gA,ceA,vcW,vZ,Int.reduceEq,Int.reduceNe,Int.reduceLT,Int.reduceLE,Nat.reduceEqDiff,Nat.reduceAdd,reduceIte,reduceCtorEq,Nat.reduceLT,Nat.reduceLeDiff,Nat.reduceShiftRight,Nat.reduceMod])
     (repeat' first | exact trivial | (with_reducible first | (refine RnB.mm ?_;simp only [vcW,vZ,Int.reduceEq,Int.reduceNe,Int.reduceLT,Int.reduceLE,Nat.reduceEqDiff,Nat.reduceAdd,reduceIte,reduceCtorEq,Nat.reduceLT,Nat.reduceLeDiff,Nat.reduceShiftRight,Nat.reduceMod]) | refine RnB.map (And.intro ?_ ?_) | (refine RnB.iter ?_;simp only [vcW,vZ,Int.reduceEq,Int.reduceNe,Int.reduceLT,Int.reduceLE,Nat.reduceEqDiff,Nat.reduceAdd,reduceIte,reduceCtorEq,Nat.reduceLT,Nat.reduceLeDiff,Nat.reduceShiftRight,Nat.reduceMod])) | (with_reducible first | exact RnB.fxB (ints_fxB _) | rfl | refine And.intro ?_ ?_) | (with_reducible (first | refine RnB.bb ?_ | refine RnB.nb ?_);simp only [vcW,vZ,Int.reduceEq,Int.reduceNe,Int.reduceLT,Int.reduceLE,Nat.reduceEqDiff,Nat.reduceAdd,reduceIte,reduceCtorEq,Nat.reduceLT,Nat.reduceLeDiff,Nat.reduceShiftRight,Nat.reduceMod]) | (with_reducible first | refine RnB.ii ?_ | refine RnB.app ?_) | (with_reducible refine RnB.fxB ?_;simp only [vcW,vZ,Int.reduceEq,Int.reduceNe,Int.reduceLT,Int.reduceLE,Nat.reduceEqDiff,Nat.reduceAdd,reduceIte,reduceCtorEq,Nat.reduceLT,Nat.reduceLeDiff,Nat.reduceShiftRight,Nat.reduceMod]) | omega)
     all_goals first | rfl | exact ⟨rfl,rfl,rfl,rfl⟩ | skip
   ·have hend:relaxN (s.go e).A e (delM s.O e.1 e.2.1,s.co) ((nbs e.1 e.2.1 4).map nbA).length=((s.go e).O,(s.go e).co):=by
     rw [List.length_map,relaxN_end];rfl
    simp only [hend,rnd_s,Int.reduceAdd,Int.reduceSub,decide_true,decide_false,i64_1,i64_2,i64_3,i64_4,true_and,Int.one_mul,Int.cast_ofNat_Int,Int.reduceToNat,Nat.zero_mul,Nat.reduceMul,Nat.zero_add,Nat.mul_one,List.getElem?_cons_zero,List.getElem?_cons_succ,vZ,Int.reduceEq,Int.reduceNe,Int.reduceLT,Int.reduceLE,Nat.reduceEqDiff,Nat.reduceAdd,reduceIte,reduceCtorEq,Nat.reduceLT,Nat.reduceLeDiff,Nat.reduceShiftRight,Nat.reduceMod]
    refine ⟨⟨i+1,by omega,trivial⟩,by simp only;omega,?_⟩
    simp only [hnext]
    refine weakX [(2,some 2)] (of_decide_eq_true rfl) (of_decide_eq_true rfl) ?_
    (simp only [gA,ceA,vcW,vZ,Int.reduceEq,Int.reduceNe,Int.reduceLT,Int.reduceLE,Nat.reduceEqDiff,Nat.reduceAdd,reduceIte,reduceCtorEq,Nat.reduceLT,Nat.reduceLeDiff,Nat.reduceShiftRight,Nat.reduceMod])
    (repeat' first | exact trivial | (with_reducible first | (refine RnB.mm ?_;simp only [vcW,vZ,Int.reduceEq,Int.reduceNe,Int.reduceLT,Int.reduceLE,Nat.reduceEqDiff,Nat.reduceAdd,reduceIte,reduceCtorEq,Nat.reduceLT,Nat.reduceLeDiff,Nat.reduceShiftRight,Nat.reduceMod]) | refine RnB.map (And.intro ?_ ?_) | (refine RnB.iter ?_;simp only [vcW,vZ,Int.reduceEq,Int.reduceNe,Int.reduceLT,Int.reduceLE,Nat.reduceEqDiff,Nat.reduceAdd,reduceIte,reduceCtorEq,Nat.reduceLT,Nat.reduceLeDiff,Nat.reduceShiftRight,Nat.reduceMod])) | (with_reducible first | exact RnB.fxB (ints_fxB _) | rfl | refine And.intro ?_ ?_) | (with_reducible (first | refine RnB.bb ?_ | refine RnB.nb ?_);simp only [vcW,vZ,Int.reduceEq,Int.reduceNe,Int.reduceLT,Int.reduceLE,Nat.reduceEqDiff,Nat.reduceAdd,reduceIte,reduceCtorEq,Nat.reduceLT,Nat.reduceLeDiff,Nat.reduceShiftRight,Nat.reduceMod]) | (with_reducible first | refine RnB.ii ?_ | refine RnB.app ?_) | (with_reducible refine RnB.fxB ?_;simp only [vcW,vZ,Int.reduceEq,Int.reduceNe,Int.reduceLT,Int.reduceLE,Nat.reduceEqDiff,Nat.reduceAdd,reduceIte,reduceCtorEq,Nat.reduceLT,Nat.reduceLeDiff,Nat.reduceShiftRight,Nat.reduceMod]) | omega)
    all_goals first | rfl | exact ⟨rfl,rfl,rfl,rfl⟩ | skip
  ·have hfind:=find_st hg.nd hen
   have hfs:((s.co == s.co)=true):=by simp
   have hen':en ∈ s.O:=hen
   have hns':en.2.2.2 ∉ S:=hns
   have hback:∀ q ∈ s.O,q.2.2.2 ∈ S ++ [en.2.2.2]→q.2.2.2 ∈ S∨q=en:=fun q hq h=>by
    rcases List.mem_append.1 h with h | h
    ·exact .inl h
    ·exact .inr (st_inj hg.nd hq hen' (by simpa using h))
   rcases hx with ⟨hx,hno⟩ | ⟨b,hb,hx,hle⟩
   ·simp only [Prod.mk.injEq] at hx
    obtain ⟨rfl,rfl,rfl⟩:=hx
    simp only [gA,ceA,trueE,hfind,hfs,List.getLast?_concat,vcM1,vcM2,vcM3,rnd_s,Int.reduceAdd,Int.reduceSub,decide_true,decide_false,i64_1,i64_2,i64_3,i64_4,true_and,Int.one_mul,Int.cast_ofNat_Int,Int.reduceToNat,Nat.zero_mul,Nat.reduceMul,Nat.zero_add,Nat.mul_one,List.getElem?_cons_zero,List.getElem?_cons_succ,vZ,Int.reduceEq,Int.reduceNe,Int.reduceLT,Int.reduceLE,Nat.reduceEqDiff,Nat.reduceAdd,reduceIte,reduceCtorEq,Nat.reduceLT,Nat.reduceLeDiff,Nat.reduceShiftRight,Nat.reduceMod]
    refine ⟨⟨(S ++ [en.2.2.2],en.1,en.2.1,en.2.2.1),.inr ⟨en,hen',rfl,fun q hq h=>?_⟩⟩,left_lt hen' hns',?_⟩
    ·rcases hback q hq h with h | rfl
     ·exact absurd h (hno q hq)
     ·exact Int.le_refl _
    refine weakX [(2,some 2)] (of_decide_eq_true rfl) (of_decide_eq_true rfl) ?_
    (simp only [gA,ceA,vcW,vZ,Int.reduceEq,Int.reduceNe,Int.reduceLT,Int.reduceLE,Nat.reduceEqDiff,Nat.reduceAdd,reduceIte,reduceCtorEq,Nat.reduceLT,Nat.reduceLeDiff,Nat.reduceShiftRight,Nat.reduceMod])
    (repeat' first | exact trivial | (with_reducible first | (refine RnB.mm ?_;simp only [vcW,vZ,Int.reduceEq,Int.reduceNe,Int.reduceLT,Int.reduceLE,Nat.reduceEqDiff,Nat.reduceAdd,reduceIte,reduceCtorEq,Nat.reduceLT,Nat.reduceLeDiff,Nat.reduceShiftRight,Nat.reduceMod]) | refine RnB.map (And.intro ?_ ?_) | (refine RnB.iter ?_;simp only [vcW,vZ,Int.reduceEq,Int.reduceNe,Int.reduceLT,Int.reduceLE,Nat.reduceEqDiff,Nat.reduceAdd,reduceIte,reduceCtorEq,Nat.reduceLT,Nat.reduceLeDiff,Nat.reduceShiftRight,Nat.reduceMod])) | (with_reducible first | exact RnB.fxB (ints_fxB _) | rfl | refine And.intro ?_ ?_) | (with_reducible (first | refine RnB.bb ?_ | refine RnB.nb ?_);simp only [vcW,vZ,Int.reduceEq,Int.reduceNe,Int.reduceLT,Int.reduceLE,Nat.reduceEqDiff,Nat.reduceAdd,reduceIte,reduceCtorEq,Nat.reduceLT,Nat.reduceLeDiff,Nat.reduceShiftRight,Nat.reduceMod]) | (with_reducible first | refine RnB.ii ?_ | refine RnB.app ?_) | (with_reducible refine RnB.fxB ?_;simp only [vcW,vZ,Int.reduceEq,Int.reduceNe,Int.reduceLT,Int.reduceLE,Nat.reduceEqDiff,Nat.reduceAdd,reduceIte,reduceCtorEq,Nat.reduceLT,Nat.reduceLeDiff,Nat.reduceShiftRight,Nat.reduceMod]) | omega)
    all_goals first | rfl | exact ⟨rfl,rfl,rfl,rfl⟩ | skip
   ·have hv:v=b.2.2.1:=by simp only [Prod.mk.injEq] at hx;exact hx.2.2
    have hb0:=(hg.bd b hb).1
    have p1:decide (v<0)=false:=decide_eq_false (by omega)
    simp only [gA,ceA,trueE,hfind,hfs,p1,List.getLast?_concat,vcM1,vcM2,vcM3,rnd_s,Int.reduceAdd,Int.reduceSub,decide_true,decide_false,i64_1,i64_2,i64_3,i64_4,true_and,Int.one_mul,Int.cast_ofNat_Int,Int.reduceToNat,Nat.zero_mul,Nat.reduceMul,Nat.zero_add,Nat.mul_one,List.getElem?_cons_zero,List.getElem?_cons_succ,vZ,Int.reduceEq,Int.reduceNe,Int.reduceLT,Int.reduceLE,Nat.reduceEqDiff,Nat.reduceAdd,reduceIte,reduceCtorEq,Nat.reduceLT,Nat.reduceLeDiff,Nat.reduceShiftRight,Nat.reduceMod]
    by_cases hlt:en.2.2.1<v
    ·have p2:decide (en.2.2.1<v)=true:=decide_eq_true hlt
     simp only [p2,gA,ceA,vcM1,vcM2,vcM3,rnd_s,Int.reduceAdd,Int.reduceSub,decide_true,decide_false,i64_1,i64_2,i64_3,i64_4,true_and,Int.one_mul,Int.cast_ofNat_Int,Int.reduceToNat,Nat.zero_mul,Nat.reduceMul,Nat.zero_add,Nat.mul_one,List.getElem?_cons_zero,List.getElem?_cons_succ,vZ,Int.reduceEq,Int.reduceNe,Int.reduceLT,Int.reduceLE,Nat.reduceEqDiff,Nat.reduceAdd,reduceIte,reduceCtorEq,Nat.reduceLT,Nat.reduceLeDiff,Nat.reduceShiftRight,Nat.reduceMod]
     refine ⟨⟨(S ++ [en.2.2.2],en.1,en.2.1,en.2.2.1),.inr ⟨en,hen',rfl,fun q hq h=>?_⟩⟩,left_lt hen' hns',?_⟩
     ·rcases hback q hq h with h | rfl
      ·have:=hle q hq h
       omega
      ·exact Int.le_refl _
     refine weakX [(2,some 2)] (of_decide_eq_true rfl) (of_decide_eq_true rfl) ?_
     (simp only [gA,ceA,vcW,vZ,Int.reduceEq,Int.reduceNe,Int.reduceLT,Int.reduceLE,Nat.reduceEqDiff,Nat.reduceAdd,reduceIte,reduceCtorEq,Nat.reduceLT,Nat.reduceLeDiff,Nat.reduceShiftRight,Nat.reduceMod])
     (repeat' first | exact trivial | (with_reducible first | (refine RnB.mm ?_;simp only [vcW,vZ,Int.reduceEq,Int.reduceNe,Int.reduceLT,Int.reduceLE,Nat.reduceEqDiff,Nat.reduceAdd,reduceIte,reduceCtorEq,Nat.reduceLT,Nat.reduceLeDiff,Nat.reduceShiftRight,Nat.reduceMod]) | refine RnB.map (And.intro ?_ ?_) | (refine RnB.iter ?_;simp only [vcW,vZ,Int.reduceEq,Int.reduceNe,Int.reduceLT,Int.reduceLE,Nat.reduceEqDiff,Nat.reduceAdd,reduceIte,reduceCtorEq,Nat.reduceLT,Nat.reduceLeDiff,Nat.reduceShiftRight,Nat.reduceMod])) | (with_reducible first | exact RnB.fxB (ints_fxB _) | rfl | refine And.intro ?_ ?_) | (with_reducible (first | refine RnB.bb ?_ | refine RnB.nb ?_);simp only [vcW,vZ,Int.reduceEq,Int.reduceNe,Int.reduceLT,Int.reduceLE,Nat.reduceEqDiff,Nat.reduceAdd,reduceIte,reduceCtorEq,Nat.reduceLT,Nat.reduceLeDiff,Nat.reduceShiftRight,Nat.reduceMod]) | (with_reducible first | refine RnB.ii ?_ | refine RnB.app ?_) | (with_reducible refine RnB.fxB ?_;simp only [vcW,vZ,Int.reduceEq,Int.reduceNe,Int.reduceLT,Int.reduceLE,Nat.reduceEqDiff,Nat.reduceAdd,reduceIte,reduceCtorEq,Nat.reduceLT,Nat.reduceLeDiff,Nat.reduceShiftRight,Nat.reduceMod]) | omega)
     all_goals first | rfl | exact ⟨rfl,rfl,rfl,rfl⟩ | skip
    ·have p2:decide (en.2.2.1<v)=false:=decide_eq_false hlt
     simp only [p2,gA,ceA,vcM1,vcM2,vcM3,rnd_s,Int.reduceAdd,Int.reduceSub,decide_true,decide_false,i64_1,i64_2,i64_3,i64_4,true_and,Int.one_mul,Int.cast_ofNat_Int,Int.reduceToNat,Nat.zero_mul,Nat.reduceMul,Nat.zero_add,Nat.mul_one,List.getElem?_cons_zero,List.getElem?_cons_succ,vZ,Int.reduceEq,Int.reduceNe,Int.reduceLT,Int.reduceLE,Nat.reduceEqDiff,Nat.reduceAdd,reduceIte,reduceCtorEq,Nat.reduceLT,Nat.reduceLeDiff,Nat.reduceShiftRight,Nat.reduceMod]
     refine ⟨⟨(S ++ [en.2.2.2],c,r,v),.inr ⟨b,hb,hx,fun q hq h=>?_⟩⟩,left_lt hen' hns',?_⟩
     ·rcases hback q hq h with h | rfl
      ·exact hle q hq h
      ·omega
     refine weakX [(2,some 2)] (of_decide_eq_true rfl) (of_decide_eq_true rfl) ?_
     (simp only [gA,ceA,vcW,vZ,Int.reduceEq,Int.reduceNe,Int.reduceLT,Int.reduceLE,Nat.reduceEqDiff,Nat.reduceAdd,reduceIte,reduceCtorEq,Nat.reduceLT,Nat.reduceLeDiff,Nat.reduceShiftRight,Nat.reduceMod])
     (repeat' first | exact trivial | (with_reducible first | (refine RnB.mm ?_;simp only [vcW,vZ,Int.reduceEq,Int.reduceNe,Int.reduceLT,Int.reduceLE,Nat.reduceEqDiff,Nat.reduceAdd,reduceIte,reduceCtorEq,Nat.reduceLT,Nat.reduceLeDiff,Nat.reduceShiftRight,Nat.reduceMod]) | refine RnB.map (And.intro ?_ ?_) | (refine RnB.iter ?_;simp only [vcW,vZ,Int.reduceEq,Int.reduceNe,Int.reduceLT,Int.reduceLE,Nat.reduceEqDiff,Nat.reduceAdd,reduceIte,reduceCtorEq,Nat.reduceLT,Nat.reduceLeDiff,Nat.reduceShiftRight,Nat.reduceMod])) | (with_reducible first | exact RnB.fxB (ints_fxB _) | rfl | refine And.intro ?_ ?_) | (with_reducible (first | refine RnB.bb ?_ | refine RnB.nb ?_);simp only [vcW,vZ,Int.reduceEq,Int.reduceNe,Int.reduceLT,Int.reduceLE,Nat.reduceEqDiff,Nat.reduceAdd,reduceIte,reduceCtorEq,Nat.reduceLT,Nat.reduceLeDiff,Nat.reduceShiftRight,Nat.reduceMod]) | (with_reducible first | refine RnB.ii ?_ | refine RnB.app ?_) | (with_reducible refine RnB.fxB ?_;simp only [vcW,vZ,Int.reduceEq,Int.reduceNe,Int.reduceLT,Int.reduceLE,Nat.reduceEqDiff,Nat.reduceAdd,reduceIte,reduceCtorEq,Nat.reduceLT,Nat.reduceLeDiff,Nat.reduceShiftRight,Nat.reduceMod]) | omega)
     all_goals first | rfl | exact ⟨rfl,rfl,rfl,rfl⟩ | skip
 ·have:i=6:=by omega
  subst this
  have h0:=tm_end.1
  simp only [gA,ceA,h0,List.length_nil,vcM1,vcM2,vcM3,rnd_s,Int.reduceAdd,Int.reduceSub,decide_true,decide_false,i64_1,i64_2,i64_3,i64_4,true_and,Int.one_mul,Int.cast_ofNat_Int,Int.reduceToNat,Nat.zero_mul,Nat.reduceMul,Nat.zero_add,Nat.mul_one,List.getElem?_cons_zero,List.getElem?_cons_succ,vZ,Int.reduceEq,Int.reduceNe,Int.reduceLT,Int.reduceLE,Nat.reduceEqDiff,Nat.reduceAdd,reduceIte,reduceCtorEq,Nat.reduceLT,Nat.reduceLeDiff,Nat.reduceShiftRight,Nat.reduceMod]
  exact bor_mp 17 (tm 6).A (tm 6).ca 4 _ rfl
end Go.Proofs.YtoiajhogondgcaaDoor

/- First times: all cells;the rows of times. By an AI agent;nothing here is trusted. -/
namespace Go.Proofs.YtoiajhogondgcaaDoor
open Go.Av

def celA (k:Nat):List AV:=[ceA (k % 3:Nat) (k / 3:Nat)]
theorem range_split {n k:Nat} (h:k<n):List.range n=List.range k ++ k :: List.range' (k+1) (n - k - 1):=by
 have h3:=List.range'_append_1 (s:=0) (m:=k) (n:=n - k)
 rw [Nat.zero_add,show k+(n - k)=n by omega] at h3
 rw [List.range_eq_range',List.range_eq_range',← h3,show n - k=(n - k - 1)+1 by omega,List.range'_succ]
 simp
theorem celA_at {i j:Nat} (h:j<3):celA (3 * i+j)=[ceA j i]:=by
 unfold celA
 rw [show (3 * i+j) % 3=j by omega,show (3 * i+j) / 3=i by omega]
theorem cells_1_s:SeqA Tryd.prog 55 [.eptr gA 0] ((List.range 6).map celA):=by
 refine seq_W f_ice_cells_1 (Nat.le_of_ble_eq_true rfl) fun y=>?_
 simp only [c_ice_cells_1,gA,Int.cast_ofNat_Int,Int.reduceToNat,Nat.zero_mul,Nat.reduceMul,Nat.zero_add,Nat.mul_one,List.getElem?_cons_zero,List.getElem?_cons_succ,true_and,vcC,Int.reduceEq,Int.reduceNe,Int.reduceLT,Int.reduceLE,Nat.reduceEqDiff,Nat.reduceAdd,reduceIte,reduceCtorEq,Nat.reduceLT,Nat.reduceLeDiff,eq_self,vcP,WY_skip,WY_reg,WY_regY,WY_seq,WY_cond,WY_block,WY_exit,WY_ret,WY_regT,VY_nil,VY_yld,VY_yldg,VY_ps,seqY_n,seqY_r,seqY_x,blockY_n,blockY_r,blockY_x,isCallvs,isCallv,isY,List.any_cons,List.any_nil,Bool.or_false,Bool.or_true,Bool.false_or,Bool.and_false,Bool.false_and]
 refine WY_loop (α:=PSigma fun i:Nat=>i≤2) (fun i=>((envOf [(0,.yld y),(1,.eptr gA 0),(6,.int .i64 2),(7,.int .i64 i.1)],stOf []),some ((List.range (3 * i.1)).map celA)))
  (fun i=>2 - i.1) ⟨0,by simp⟩ (weakE _ ?_) ?_ (fun ⟨i,hi⟩=>?_)
 ·simp only [gA,vcC,Int.reduceEq,Int.reduceNe,Int.reduceLT,Int.reduceLE,Nat.reduceEqDiff,Nat.reduceAdd,reduceIte,reduceCtorEq,Nat.reduceLT,Nat.reduceLeDiff,eq_self,vcP,WY_skip,WY_reg,WY_regY,WY_seq,WY_cond,WY_block,WY_exit,WY_ret,WY_regT,VY_nil,VY_yld,VY_yldg,VY_ps,seqY_n,seqY_r,seqY_x,blockY_n,blockY_r,blockY_x,isCallvs,isCallv,isY,List.any_cons,List.any_nil,Bool.or_false,Bool.or_true,Bool.false_or,Bool.and_false,Bool.false_and];simp
 ·simp
 simp only [gA,Int.cast_ofNat_Int,Int.reduceToNat,Nat.zero_mul,Nat.reduceMul,Nat.zero_add,Nat.mul_one,List.getElem?_cons_zero,List.getElem?_cons_succ,true_and,vcC,Int.reduceEq,Int.reduceNe,Int.reduceLT,Int.reduceLE,Nat.reduceEqDiff,Nat.reduceAdd,reduceIte,reduceCtorEq,Nat.reduceLT,Nat.reduceLeDiff,eq_self,vcP,WY_skip,WY_reg,WY_regY,WY_seq,WY_cond,WY_block,WY_exit,WY_ret,WY_regT,VY_nil,VY_yld,VY_yldg,VY_ps,seqY_n,seqY_r,seqY_x,blockY_n,blockY_r,blockY_x,isCallvs,isCallv,isY,List.any_cons,List.any_nil,Bool.or_false,Bool.or_true,Bool.false_or,Bool.and_false,Bool.false_and]
 refine brB_split (fun h=>?_) (fun h=>?_)
 ·have h':i<2:=by (simp only [decide_eq_true_eq,decide_eq_false_iff_not,Bool.not_true,I64,Bool.not_eq_true',Bool.not_eq_false',bne_iff_ne,beq_iff_eq,ne_eq] at *;omega)
  simp only [gA,Int.cast_ofNat_Int,Int.reduceToNat,Nat.zero_mul,Nat.reduceMul,Nat.zero_add,Nat.mul_one,List.getElem?_cons_zero,List.getElem?_cons_succ,true_and,vcC,Int.reduceEq,Int.reduceNe,Int.reduceLT,Int.reduceLE,Nat.reduceEqDiff,Nat.reduceAdd,reduceIte,reduceCtorEq,Nat.reduceLT,Nat.reduceLeDiff,eq_self,vcP,WY_skip,WY_reg,WY_regY,WY_seq,WY_cond,WY_block,WY_exit,WY_ret,WY_regT,VY_nil,VY_yld,VY_yldg,VY_ps,seqY_n,seqY_r,seqY_x,blockY_n,blockY_r,blockY_x,isCallvs,isCallv,isY,List.any_cons,List.any_nil,Bool.or_false,Bool.or_true,Bool.false_or,Bool.and_false,Bool.false_and]
  refine WY_loop (α:=PSigma fun j:Nat=>j≤3) (fun j=>((envOf [(0,.yld y),(1,.eptr gA 0),(3,.int .i64 i),(6,.int .i64 2),(7,.int .i64 i),(12,.int .i64 3),(13,.int .i64 j.1)],stOf []),some ((List.range (3 * i+j.1)).map celA)))
   (fun j=>3 - j.1) ⟨0,by simp⟩ (weakE _ ?_) ?_ (fun ⟨j,hj⟩=>?_)
  ·simp only [gA,vcC,Int.reduceEq,Int.reduceNe,Int.reduceLT,Int.reduceLE,Nat.reduceEqDiff,Nat.reduceAdd,reduceIte,reduceCtorEq,Nat.reduceLT,Nat.reduceLeDiff,eq_self,vcP,WY_skip,WY_reg,WY_regY,WY_seq,WY_cond,WY_block,WY_exit,WY_ret,WY_regT,VY_nil,VY_yld,VY_yldg,VY_ps,seqY_n,seqY_r,seqY_x,blockY_n,blockY_r,blockY_x,isCallvs,isCallv,isY,List.any_cons,List.any_nil,Bool.or_false,Bool.or_true,Bool.false_or,Bool.and_false,Bool.false_and];simp
  ·simp
  simp only [gA,Int.cast_ofNat_Int,Int.reduceToNat,Nat.zero_mul,Nat.reduceMul,Nat.zero_add,Nat.mul_one,List.getElem?_cons_zero,List.getElem?_cons_succ,true_and,vcC,Int.reduceEq,Int.reduceNe,Int.reduceLT,Int.reduceLE,Nat.reduceEqDiff,Nat.reduceAdd,reduceIte,reduceCtorEq,Nat.reduceLT,Nat.reduceLeDiff,eq_self,vcP,WY_skip,WY_reg,WY_regY,WY_seq,WY_cond,WY_block,WY_exit,WY_ret,WY_regT,VY_nil,VY_yld,VY_yldg,VY_ps,seqY_n,seqY_r,seqY_x,blockY_n,blockY_r,blockY_x,isCallvs,isCallv,isY,List.any_cons,List.any_nil,Bool.or_false,Bool.or_true,Bool.false_or,Bool.and_false,Bool.false_and]
  refine brB_split (fun h2=>?_) (fun h2=>?_)
  ·have h2':j<3:=by (simp only [decide_eq_true_eq,decide_eq_false_iff_not,Bool.not_true,I64,Bool.not_eq_true',Bool.not_eq_false',bne_iff_ne,beq_iff_eq,ne_eq] at *;omega)
   simp only [gA,Int.cast_ofNat_Int,Int.reduceToNat,Nat.zero_mul,Nat.reduceMul,Nat.zero_add,Nat.mul_one,List.getElem?_cons_zero,List.getElem?_cons_succ,true_and,vcC,Int.reduceEq,Int.reduceNe,Int.reduceLT,Int.reduceLE,Nat.reduceEqDiff,Nat.reduceAdd,reduceIte,reduceCtorEq,Nat.reduceLT,Nat.reduceLeDiff,eq_self,vcP,WY_skip,WY_reg,WY_regY,WY_seq,WY_cond,WY_block,WY_exit,WY_ret,WY_regT,VY_nil,VY_yld,VY_yldg,VY_ps,seqY_n,seqY_r,seqY_x,blockY_n,blockY_r,blockY_x,isCallvs,isCallv,isY,List.any_cons,List.any_nil,Bool.or_false,Bool.or_true,Bool.false_or,Bool.and_false,Bool.false_and]
   have hs:=range_split (n:=6) (k:=3 * i+j) (by omega)
   have hc:=celA_at (i:=i) h2'
   simp only [ceA] at hc
   refine yS_of ((List.range (3 * i+j)).map celA) ((List.range' (3 * i+j+1) (6 - (3 * i+j) - 1)).map celA) rfl ?_ ?_ ?_
   ·rw [hs,List.map_append,List.map_cons,hc]
   ·simp only [deadAll_no,Int.cast_ofNat_Int,Int.reduceToNat,Nat.zero_mul,Nat.reduceMul,Nat.zero_add,Nat.mul_one,List.getElem?_cons_zero,List.getElem?_cons_succ,true_and,vcC,Int.reduceEq,Int.reduceNe,Int.reduceLT,Int.reduceLE,Nat.reduceEqDiff,Nat.reduceAdd,reduceIte,reduceCtorEq,Nat.reduceLT,Nat.reduceLeDiff,eq_self,vcP,WY_skip,WY_reg,WY_regY,WY_seq,WY_cond,WY_block,WY_exit,WY_ret,WY_regT,VY_nil,VY_yld,VY_yldg,VY_ps,seqY_n,seqY_r,seqY_x,blockY_n,blockY_r,blockY_x,isCallvs,isCallv,isY,List.any_cons,List.any_nil,Bool.or_false,Bool.or_true,Bool.false_or,Bool.and_false,Bool.false_and]
    refine ⟨by (simp only [decide_eq_true_eq,decide_eq_false_iff_not,Bool.not_true,I64,Bool.not_eq_true',Bool.not_eq_false',bne_iff_ne,beq_iff_eq,ne_eq] at *;omega),⟨j+1,by omega⟩,by simp only;omega,?_,?_⟩
    ·refine weakX [] (of_decide_eq_true rfl) (of_decide_eq_true rfl) ?_
     (simp only [gA,vcW,vZ,Int.reduceEq,Int.reduceNe,Int.reduceLT,Int.reduceLE,Nat.reduceEqDiff,Nat.reduceAdd,reduceIte,reduceCtorEq,Nat.reduceLT,Nat.reduceLeDiff,Nat.reduceShiftRight,Nat.reduceMod])
     (repeat' first | exact trivial | (with_reducible first | exact RnB.fxB (ints_fxB _) | rfl | refine And.intro ?_ ?_) | (with_reducible (first | refine RnB.bb ?_ | refine RnB.nb ?_);simp only [vcW,vZ,Int.reduceEq,Int.reduceNe,Int.reduceLT,Int.reduceLE,Nat.reduceEqDiff,Nat.reduceAdd,reduceIte,reduceCtorEq,Nat.reduceLT,Nat.reduceLeDiff,Nat.reduceShiftRight,Nat.reduceMod]) | (with_reducible first | refine RnB.ii ?_ | refine RnB.app ?_) | (with_reducible refine RnB.fxB ?_;simp only [vcW,vZ,Int.reduceEq,Int.reduceNe,Int.reduceLT,Int.reduceLE,Nat.reduceEqDiff,Nat.reduceAdd,reduceIte,reduceCtorEq,Nat.reduceLT,Nat.reduceLeDiff,Nat.reduceShiftRight,Nat.reduceMod]) | omega)
     all_goals first | rfl | (simp;done) | skip
    ·simp only [← Nat.add_assoc,List.range_succ,List.map_append,List.map_cons,List.map_nil,hc]
   ·simp only [deadAll_no,Int.cast_ofNat_Int,Int.reduceToNat,Nat.zero_mul,Nat.reduceMul,Nat.zero_add,Nat.mul_one,List.getElem?_cons_zero,List.getElem?_cons_succ,true_and,vcC,Int.reduceEq,Int.reduceNe,Int.reduceLT,Int.reduceLE,Nat.reduceEqDiff,Nat.reduceAdd,reduceIte,reduceCtorEq,Nat.reduceLT,Nat.reduceLeDiff,eq_self,vcP,WY_skip,WY_reg,WY_regY,WY_seq,WY_cond,WY_block,WY_exit,WY_ret,WY_regT,VY_nil,VY_yld,VY_yldg,VY_ps,seqY_n,seqY_r,seqY_x,blockY_n,blockY_r,blockY_x,isCallvs,isCallv,isY,List.any_cons,List.any_nil,Bool.or_false,Bool.or_true,Bool.false_or,Bool.and_false,Bool.false_and];simp
  ·have:j=3:=by (simp only [decide_eq_true_eq,decide_eq_false_iff_not,Bool.not_true,I64,Bool.not_eq_true',Bool.not_eq_false',bne_iff_ne,beq_iff_eq,ne_eq] at *;omega)
   subst this
   simp only [Int.cast_ofNat_Int,Int.reduceToNat,Nat.zero_mul,Nat.reduceMul,Nat.zero_add,Nat.mul_one,List.getElem?_cons_zero,List.getElem?_cons_succ,true_and,vcC,Int.reduceEq,Int.reduceNe,Int.reduceLT,Int.reduceLE,Nat.reduceEqDiff,Nat.reduceAdd,reduceIte,reduceCtorEq,Nat.reduceLT,Nat.reduceLeDiff,eq_self,vcP,WY_skip,WY_reg,WY_regY,WY_seq,WY_cond,WY_block,WY_exit,WY_ret,WY_regT,VY_nil,VY_yld,VY_yldg,VY_ps,seqY_n,seqY_r,seqY_x,blockY_n,blockY_r,blockY_x,isCallvs,isCallv,isY,List.any_cons,List.any_nil,Bool.or_false,Bool.or_true,Bool.false_or,Bool.and_false,Bool.false_and]
   refine ⟨by (simp only [decide_eq_true_eq,decide_eq_false_iff_not,Bool.not_true,I64,Bool.not_eq_true',Bool.not_eq_false',bne_iff_ne,beq_iff_eq,ne_eq] at *;omega),⟨i+1,by omega⟩,by simp only;omega,?_,?_⟩
   ·refine weakX [] (of_decide_eq_true rfl) (of_decide_eq_true rfl) ?_
    (simp only [gA,vcW,vZ,Int.reduceEq,Int.reduceNe,Int.reduceLT,Int.reduceLE,Nat.reduceEqDiff,Nat.reduceAdd,reduceIte,reduceCtorEq,Nat.reduceLT,Nat.reduceLeDiff,Nat.reduceShiftRight,Nat.reduceMod])
    (repeat' first | exact trivial | (with_reducible first | exact RnB.fxB (ints_fxB _) | rfl | refine And.intro ?_ ?_) | (with_reducible (first | refine RnB.bb ?_ | refine RnB.nb ?_);simp only [vcW,vZ,Int.reduceEq,Int.reduceNe,Int.reduceLT,Int.reduceLE,Nat.reduceEqDiff,Nat.reduceAdd,reduceIte,reduceCtorEq,Nat.reduceLT,Nat.reduceLeDiff,Nat.reduceShiftRight,Nat.reduceMod]) | (with_reducible first | refine RnB.ii ?_ | refine RnB.app ?_) | (with_reducible refine RnB.fxB ?_;simp only [vcW,vZ,Int.reduceEq,Int.reduceNe,Int.reduceLT,Int.reduceLE,Nat.reduceEqDiff,Nat.reduceAdd,reduceIte,reduceCtorEq,Nat.reduceLT,Nat.reduceLeDiff,Nat.reduceShiftRight,Nat.reduceMod]) | omega)
    all_goals first | rfl | (simp;done) | skip
   ·rw [Nat.mul_add]
 ·have:i=2:=by (simp only [decide_eq_true_eq,decide_eq_false_iff_not,Bool.not_true,I64,Bool.not_eq_true',Bool.not_eq_false',bne_iff_ne,beq_iff_eq,ne_eq] at *;omega)
  subst this
  simp only [vcC,Int.reduceEq,Int.reduceNe,Int.reduceLT,Int.reduceLE,Nat.reduceEqDiff,Nat.reduceAdd,reduceIte,reduceCtorEq,Nat.reduceLT,Nat.reduceLeDiff,eq_self,vcP,WY_skip,WY_reg,WY_regY,WY_seq,WY_cond,WY_block,WY_exit,WY_ret,WY_regT,VY_nil,VY_yld,VY_yldg,VY_ps,seqY_n,seqY_r,seqY_x,blockY_n,blockY_r,blockY_x,isCallvs,isCallv,isY,List.any_cons,List.any_nil,Bool.or_false,Bool.or_true,Bool.false_or,Bool.and_false,Bool.false_and]
  simp
theorem cells_s:Sound Tryd.prog 37 [gA] (.fn 55 [.eptr gA 0]):=by
 refine sound_W f_ice_cells (Nat.le_of_ble_eq_true rfl) ?_
 simp only [c_ice_cells,gA,rnd_s,Int.reduceAdd,Int.reduceSub,decide_true,decide_false,i64_1,i64_2,i64_3,i64_4,true_and,Int.one_mul,Int.cast_ofNat_Int,Int.reduceToNat,Nat.zero_mul,Nat.reduceMul,Nat.zero_add,Nat.mul_one,List.getElem?_cons_zero,List.getElem?_cons_succ,vZ,Int.reduceEq,Int.reduceNe,Int.reduceLT,Int.reduceLE,Nat.reduceEqDiff,Nat.reduceAdd,reduceIte,reduceCtorEq,Nat.reduceLT,Nat.reduceLeDiff,Nat.reduceShiftRight,Nat.reduceMod]
end Go.Proofs.YtoiajhogondgcaaDoor

/- The rows of first times;the examples of chapter 3. By an AI agent;nothing here is trusted. -/
namespace Go.Proofs.YtoiajhogondgcaaDoor
open Go.Av

def extI:CT:=⟨fun _ _=>none,fun _ _=>none⟩
theorem extI_ok:extI.ok Tryd.prog:=by
 refine ⟨fun _ _ _ h=>?_,fun _ _ _ h=>?_⟩ <;> cases h
def itI:IterT:=fun _ _=>none
theorem itI_ok:∀ g caps xs,itI g caps=some xs→SeqA Tryd.prog g caps xs:=fun _ _ _ h=>by cases h
def owI:FuncId→Bool:=fun _=>false
def tabI:List (Nat × Nat × Nat × MC × List (Nat × Option (Option Nat))):=[(15,6,0,c_law03_Grid,[(0,(some (some 3)))]),(16,40,3,c_ice_SurvivalOf,[(6,none),(7,none)]),(17,27,2,c_ref03_SameTimes,[(4,none)]),(19,15,1,c_ice_first,[(2,none)]),(21,7,2,c_ice_unless,[(4,none)]),(22,15,3,c_ice_within,[(6,none)]),(34,11,1,c_ice_iceErr,[(2,none)]),(38,5,1,c_ice_isPhotons,[(2,none)]),(39,18,2,c_ice_layersErr,[(4,none)]),(40,74,3,c_ice_spread,[(6,none)]),(41,9,1,c_ice_flash,[(2,none)]),(42,26,2,c_base_Ints,[(4,none)]),(53,54,1,c_ice_CheckIce,[(2,none),(3,none)]),(56,9,2,c_slices_ContainsFunc_int_int,[(4,none)]),(57,11,2,c_ice_layersErr_1,[(3,none)]),(70,19,2,c_slices_IndexFunc_api_IceLayer_api_IceLayer,[(4,none)]),(71,19,1,c_ice_CheckIce_1,[(2,none)]),(72,5,1,c_ice_isDelay,[(2,none)]),(73,5,1,c_ice_isPart,[(2,none)]),(74,19,2,c_slices_IndexFunc_int_int,[(4,none)]),(75,6,1,c_ice_CheckIce_2,[(2,none)])]
theorem tabI_ok:∀ f c,lookC tabI f=some c→cFun Tryd.prog f=some c:=by
 refine lookC_ok ?_
 unfold tabI
 simp only [List.forall_mem_cons]
 exact ⟨f_law03_Grid,f_ice_SurvivalOf,f_ref03_SameTimes,f_ice_first,f_ice_unless,f_ice_within,f_ice_iceErr,f_ice_isPhotons,f_ice_layersErr,f_ice_spread,f_ice_flash,f_base_Ints,f_ice_CheckIce,f_slices_ContainsFunc_int_int,f_ice_layersErr_1,f_slices_IndexFunc_api_IceLayer_api_IceLayer,f_ice_CheckIce_1,f_ice_isDelay,f_ice_isPart,f_slices_IndexFunc_int_int,f_ice_CheckIce_2,fun p hp=>by cases hp⟩

noncomputable def runE (f:FuncId) (args:List AV):Option AV:=(callX extI owI itI (lookC tabI) 100 40).v f args
theorem run_s {f:FuncId} {args:List AV} {v:AV} (h:runE f args=some v):Sound Tryd.prog f args v:=(callX_sound extI_ok itI_ok tabI_ok 40).1 _ _ _ h
theorem iceErr_run:runE 34 [gA]=some (.int .i64 0):=by kernel_rfl
theorem Grid_run:runE 15 []=some gA:=by kernel_rfl
theorem Survival_run:runE 16 [gA,.int .i64 100,.sl [.int .i64 0,.int .i64 0]]=some (.tup [.int .i64 82,.int .i64 0]):=by kernel_rfl
def rowsT:AV:=.sl [.sl [.int .i64 0,.int .i64 4,.int .i64 8],.sl [.int .i64 7,.int .i64 11,.int .i64 12]]
theorem Same_run:runE 17 [rowsT,rowsT]=some (.bool true):=by kernel_rfl

def valT (k:Nat):Int:=(findM (tm 6).A (k % 3:Nat) (k / 3:Nat)).getD 0
def row0 (k:Nat):List Int:=(List.range (min k 3)).map valT
def row1 (k:Nat):List Int:=(List.range (k - 3)).map fun i=>valT (3+i)
theorem row0_end:row0 6=[0,4,8]∧row1 6=[7,11,12]:=⟨by kernel_rfl,by kernel_rfl⟩
theorem RnB.m1 {s s':Store} {f:Nat→Option Nat} {ty sz:Nat} {M:Ents} {clk:Nat}:RnB s s' f ⟨ty,sz,[.mo (.map M clk)]⟩ ⟨ty,sz,[.mo (.map M clk)]⟩ :=
 RnB.same fun x hx=>by simp only [List.mem_singleton] at hx;subst hx;rfl
theorem RnB.b2 {s s':Store} {f:Nat→Option Nat} {ty sz k1 l1 k2 l2 k1' l1' k2' l2':Nat} (h:(f k1'=some k1∧l1=l1')∧f k2'=some k2∧l2=l2'):RnB s s' f ⟨ty,sz,[.buf k1 l1,.buf k2 l2]⟩ ⟨ty,sz,[.buf k1' l1',.buf k2' l2']⟩ :=
 RnB.cells ⟨⟨rfl,rfl,rfl,h.1⟩,⟨rfl,rfl,rfl,h.2⟩,trivial⟩
theorem RnB.n2 {s s':Store} {f:Nat→Option Nat} {ty sz k1' l1' k2' l2':Nat} (h:(f k1'=none∧l1'=0∧∃ B,s' k1'=some (some B))∧f k2'=none∧l2'=0∧∃ B,s' k2'=some (some B)):RnB s s' f ⟨ty,sz,[.nils,.nils]⟩ ⟨ty,sz,[.buf k1' l1',.buf k2' l2']⟩ :=
 RnB.cells ⟨⟨rfl,rfl,rfl,h.1⟩,⟨rfl,rfl,rfl,h.2⟩,trivial⟩
theorem row0_lt {k:Nat} (h:k<3):row0 (k+1)=row0 k ++ [valT k]∧row1 (k+1)=row1 k∧(row0 k).length=k:=by
 unfold row0 row1
 rw [show min (k+1) 3=k+1 by omega,show min k 3=k by omega,show k+1 - 3=0 by omega,show k - 3=0 by omega]
 simp [List.range_succ]
theorem row1_lt {k:Nat} (h:¬ k<3):row0 (k+1)=row0 k∧row1 (k+1)=row1 k ++ [valT k]∧(row1 k).length=k - 3:=by
 unfold row0 row1
 rw [show min (k+1) 3=3 by omega,show min k 3=3 by omega,show k+1 - 3=(k - 3)+1 by omega]
 refine ⟨rfl,?_,by simp⟩
 simp only [List.range_succ,List.map_append,List.map_cons,List.map_nil]
 rw [show 3+(k - 3)=k by omega]
theorem scal_mo (o:MObj):scal (.mo o)=false:=rfl
set_option maxHeartbeats 4000000 in
theorem TimesFrom_s:Sound Tryd.prog 14 [gA,ceA 0 0] (.tup [rowsT,.int .i64 0]):=by
 refine sound_W f_ice_TimesFrom (Nat.le_of_ble_eq_true rfl) ?_
 have hI:=run_s iceErr_run
 have hC:=cellErr_s 0 0
 have hT:=times_s
 have hcs:=cells_s
 have hit:=cells_1_s
 have hin:inG 0 0:=by decide
 rw [if_pos hin] at hC
 simp only [gA,ceA] at hI hC hT hcs
 simp only [c_ice_TimesFrom,gA,ceA,vcM1,vcM2,vcM3,rnd_s,Int.reduceAdd,Int.reduceSub,decide_true,decide_false,i64_1,i64_2,i64_3,i64_4,true_and,Int.one_mul,Int.cast_ofNat_Int,Int.reduceToNat,Nat.zero_mul,Nat.reduceMul,Nat.zero_add,Nat.mul_one,List.getElem?_cons_zero,List.getElem?_cons_succ,vZ,Int.reduceEq,Int.reduceNe,Int.reduceLT,Int.reduceLE,Nat.reduceEqDiff,Nat.reduceAdd,reduceIte,reduceCtorEq,Nat.reduceLT,Nat.reduceLeDiff,Nat.reduceShiftRight,Nat.reduceMod]
 refine callS_of hI ?_
 simp only [rnd_s,Int.reduceAdd,Int.reduceSub,decide_true,decide_false,i64_1,i64_2,i64_3,i64_4,true_and,Int.one_mul,Int.cast_ofNat_Int,Int.reduceToNat,Nat.zero_mul,Nat.reduceMul,Nat.zero_add,Nat.mul_one,List.getElem?_cons_zero,List.getElem?_cons_succ,vZ,Int.reduceEq,Int.reduceNe,Int.reduceLT,Int.reduceLE,Nat.reduceEqDiff,Nat.reduceAdd,reduceIte,reduceCtorEq,Nat.reduceLT,Nat.reduceLeDiff,Nat.reduceShiftRight,Nat.reduceMod]
 refine callS_of hC ?_
 simp only [rnd_s,Int.reduceAdd,Int.reduceSub,decide_true,decide_false,i64_1,i64_2,i64_3,i64_4,true_and,Int.one_mul,Int.cast_ofNat_Int,Int.reduceToNat,Nat.zero_mul,Nat.reduceMul,Nat.zero_add,Nat.mul_one,List.getElem?_cons_zero,List.getElem?_cons_succ,vZ,Int.reduceEq,Int.reduceNe,Int.reduceLT,Int.reduceLE,Nat.reduceEqDiff,Nat.reduceAdd,reduceIte,reduceCtorEq,Nat.reduceLT,Nat.reduceLeDiff,Nat.reduceShiftRight,Nat.reduceMod]
 refine callS_of (first2_s _ _) ?_
 simp only [if_false,rnd_s,Int.reduceAdd,Int.reduceSub,decide_true,decide_false,i64_1,i64_2,i64_3,i64_4,true_and,Int.one_mul,Int.cast_ofNat_Int,Int.reduceToNat,Nat.zero_mul,Nat.reduceMul,Nat.zero_add,Nat.mul_one,List.getElem?_cons_zero,List.getElem?_cons_succ,vZ,Int.reduceEq,Int.reduceNe,Int.reduceLT,Int.reduceLE,Nat.reduceEqDiff,Nat.reduceAdd,reduceIte,reduceCtorEq,Nat.reduceLT,Nat.reduceLeDiff,Nat.reduceShiftRight,Nat.reduceMod]
 refine ⟨usedL_buf rfl (ints_imm [_,_]) rfl,?_⟩
 refine callS_of hT ?_
 simp only [scal_mo,vcM1,vcM2,vcM3,rnd_s,Int.reduceAdd,Int.reduceSub,decide_true,decide_false,i64_1,i64_2,i64_3,i64_4,true_and,Int.one_mul,Int.cast_ofNat_Int,Int.reduceToNat,Nat.zero_mul,Nat.reduceMul,Nat.zero_add,Nat.mul_one,List.getElem?_cons_zero,List.getElem?_cons_succ,vZ,Int.reduceEq,Int.reduceNe,Int.reduceLT,Int.reduceLE,Nat.reduceEqDiff,Nat.reduceAdd,reduceIte,reduceCtorEq,Nat.reduceLT,Nat.reduceLeDiff,Nat.reduceShiftRight,Nat.reduceMod]
 refine ⟨by omega,?_⟩
 refine callS_of hcs ?_
 simp only [vcM1,vcM2,vcM3,rnd_s,Int.reduceAdd,Int.reduceSub,decide_true,decide_false,i64_1,i64_2,i64_3,i64_4,true_and,Int.one_mul,Int.cast_ofNat_Int,Int.reduceToNat,Nat.zero_mul,Nat.reduceMul,Nat.zero_add,Nat.mul_one,List.getElem?_cons_zero,List.getElem?_cons_succ,vZ,Int.reduceEq,Int.reduceNe,Int.reduceLT,Int.reduceLE,Nat.reduceEqDiff,Nat.reduceAdd,reduceIte,reduceCtorEq,Nat.reduceLT,Nat.reduceLeDiff,Nat.reduceShiftRight,Nat.reduceMod]
 refine W_weakR (t:=.mk) (envOf [(2,.ptr 2 0 0),(7,.ptr 7 0 0),(8,.ptr 8 0 0),(27,.fn 55 [.eptr gA 0])],stOf [(2,⟨58,3,[gA]⟩),(7,⟨81,1,[.mo (.map (tm 6).A (tm 6).ca)]⟩),(8,⟨53,1,[.buf 25 2]⟩),(25,⟨22,1,[.buf 100 (row0 0).length,.buf 101 (row1 0).length]⟩),(100,⟨3,1,ints (row0 0)⟩),(101,⟨3,1,ints (row1 0)⟩)]) ?_ ?_
 ·refine weakX [(100,none),(101,none)] (of_decide_eq_true rfl) (of_decide_eq_true rfl) ?_
  (simp only [gA,row0,row1,List.range_zero,Nat.zero_min,Nat.zero_sub,List.map_nil,List.length_nil,vcW,vZ,Int.reduceEq,Int.reduceNe,Int.reduceLT,Int.reduceLE,Nat.reduceEqDiff,Nat.reduceAdd,reduceIte,reduceCtorEq,Nat.reduceLT,Nat.reduceLeDiff,Nat.reduceShiftRight,Nat.reduceMod])
  (repeat' first | exact trivial | (with_reducible first | exact RnB.m1 | (refine RnB.b2 ?_;simp only [vcW,vZ,Int.reduceEq,Int.reduceNe,Int.reduceLT,Int.reduceLE,Nat.reduceEqDiff,Nat.reduceAdd,reduceIte,reduceCtorEq,Nat.reduceLT,Nat.reduceLeDiff,Nat.reduceShiftRight,Nat.reduceMod]) | (refine RnB.n2 ?_;simp only [vcW,vZ,Int.reduceEq,Int.reduceNe,Int.reduceLT,Int.reduceLE,Nat.reduceEqDiff,Nat.reduceAdd,reduceIte,reduceCtorEq,Nat.reduceLT,Nat.reduceLeDiff,Nat.reduceShiftRight,Nat.reduceMod]) | (refine RnB.mm ?_;simp only [vcW,vZ,Int.reduceEq,Int.reduceNe,Int.reduceLT,Int.reduceLE,Nat.reduceEqDiff,Nat.reduceAdd,reduceIte,reduceCtorEq,Nat.reduceLT,Nat.reduceLeDiff,Nat.reduceShiftRight,Nat.reduceMod]) | refine RnB.map (And.intro ?_ ?_) | (refine RnB.iter ?_;simp only [vcW,vZ,Int.reduceEq,Int.reduceNe,Int.reduceLT,Int.reduceLE,Nat.reduceEqDiff,Nat.reduceAdd,reduceIte,reduceCtorEq,Nat.reduceLT,Nat.reduceLeDiff,Nat.reduceShiftRight,Nat.reduceMod])) | (with_reducible first | exact RnB.fxB (ints_fxB _) | rfl | refine And.intro ?_ ?_) | (with_reducible (first | refine RnB.bb ?_ | refine RnB.nb ?_);simp only [vcW,vZ,Int.reduceEq,Int.reduceNe,Int.reduceLT,Int.reduceLE,Nat.reduceEqDiff,Nat.reduceAdd,reduceIte,reduceCtorEq,Nat.reduceLT,Nat.reduceLeDiff,Nat.reduceShiftRight,Nat.reduceMod]) | (with_reducible first | refine RnB.ii ?_ | refine RnB.app ?_) | (with_reducible refine RnB.fxB ?_;simp only [vcW,vZ,Int.reduceEq,Int.reduceNe,Int.reduceLT,Int.reduceLE,Nat.reduceEqDiff,Nat.reduceAdd,reduceIte,reduceCtorEq,Nat.reduceLT,Nat.reduceLeDiff,Nat.reduceShiftRight,Nat.reduceMod]) | omega)
  all_goals first | rfl | simp | skip
 refine W_rf (tt:=.mk) (xs:=(List.range 6).map celA) rfl (by simp [imm,gA]) rfl rfl hit (by intro x hx;obtain ⟨p,_,rfl⟩:=List.mem_map.1 hx;rfl) (fun pre=>stOf [(2,⟨58,3,[gA]⟩),(7,⟨81,1,[.mo (.map (tm 6).A (tm 6).ca)]⟩),(8,⟨53,1,[.buf 25 2]⟩),(25,⟨22,1,[.buf 100 (row0 pre.length).length,.buf 101 (row1 pre.length).length]⟩),(100,⟨3,1,ints (row0 pre.length)⟩),(101,⟨3,1,ints (row1 pre.length)⟩)]) (Weak.refl _) (fun pre x rest hsp=>?_) ?_
 ·obtain ⟨hk,hx⟩:=at_preI hsp
  have hk6:pre.length<6:=by simpa using hk
  have hx':x=celA pre.length:=by rw [hx];simp
  subst hx'
  have hlen1:(pre ++ [celA pre.length]).length=pre.length+1:=by simp
  rw [hlen1]
  clear hx hk hlen1 hsp
  generalize pre.length=k at *
  by_cases hk3:k<3
  ·have e1:((k / 3:Nat):Int)=0:=by omega
   obtain ⟨r1,r2,r3⟩:=row0_lt hk3
   have hv:(findM (tm 6).A ((k % 3:Nat):Int) 0).getD 0=valT k:=by unfold valT;rw [e1]
   have hML:1000000000≤maxLen:=by decide
   simp only [celA,ceA,e1,r1,r2,hv,vcM1,vcM2,vcM3,rnd_s,Int.reduceAdd,Int.reduceSub,decide_true,decide_false,i64_1,i64_2,i64_3,i64_4,true_and,Int.one_mul,Int.cast_ofNat_Int,Int.reduceToNat,Nat.zero_mul,Nat.reduceMul,Nat.zero_add,Nat.mul_one,List.getElem?_cons_zero,List.getElem?_cons_succ,vZ,Int.reduceEq,Int.reduceNe,Int.reduceLT,Int.reduceLE,Nat.reduceEqDiff,Nat.reduceAdd,reduceIte,reduceCtorEq,Nat.reduceLT,Nat.reduceLeDiff,Nat.reduceShiftRight,Nat.reduceMod]
   refine ⟨⟨by omega,by omega⟩,?_⟩
   refine weakX [(100,some 41)] (of_decide_eq_true rfl) (of_decide_eq_true rfl) ?_
   (simp only [gA,vcW,vZ,Int.reduceEq,Int.reduceNe,Int.reduceLT,Int.reduceLE,Nat.reduceEqDiff,Nat.reduceAdd,reduceIte,reduceCtorEq,Nat.reduceLT,Nat.reduceLeDiff,Nat.reduceShiftRight,Nat.reduceMod])
   (repeat' first | exact trivial | (with_reducible first | exact RnB.m1 | (refine RnB.b2 ?_;simp only [vcW,vZ,Int.reduceEq,Int.reduceNe,Int.reduceLT,Int.reduceLE,Nat.reduceEqDiff,Nat.reduceAdd,reduceIte,reduceCtorEq,Nat.reduceLT,Nat.reduceLeDiff,Nat.reduceShiftRight,Nat.reduceMod]) | (refine RnB.n2 ?_;simp only [vcW,vZ,Int.reduceEq,Int.reduceNe,Int.reduceLT,Int.reduceLE,Nat.reduceEqDiff,Nat.reduceAdd,reduceIte,reduceCtorEq,Nat.reduceLT,Nat.reduceLeDiff,Nat.reduceShiftRight,Nat.reduceMod]) | (refine RnB.mm ?_;simp only [vcW,vZ,Int.reduceEq,Int.reduceNe,Int.reduceLT,Int.reduceLE,Nat.reduceEqDiff,Nat.reduceAdd,reduceIte,reduceCtorEq,Nat.reduceLT,Nat.reduceLeDiff,Nat.reduceShiftRight,Nat.reduceMod]) | refine RnB.map (And.intro ?_ ?_) | (refine RnB.iter ?_;simp only [vcW,vZ,Int.reduceEq,Int.reduceNe,Int.reduceLT,Int.reduceLE,Nat.reduceEqDiff,Nat.reduceAdd,reduceIte,reduceCtorEq,Nat.reduceLT,Nat.reduceLeDiff,Nat.reduceShiftRight,Nat.reduceMod])) | (with_reducible first | exact RnB.fxB (ints_fxB _) | rfl | refine And.intro ?_ ?_) | (with_reducible (first | refine RnB.bb ?_ | refine RnB.nb ?_);simp only [vcW,vZ,Int.reduceEq,Int.reduceNe,Int.reduceLT,Int.reduceLE,Nat.reduceEqDiff,Nat.reduceAdd,reduceIte,reduceCtorEq,Nat.reduceLT,Nat.reduceLeDiff,Nat.reduceShiftRight,Nat.reduceMod]) | (with_reducible first | refine RnB.ii ?_ | refine RnB.app ?_) | (with_reducible refine RnB.fxB ?_;simp only [vcW,vZ,Int.reduceEq,Int.reduceNe,Int.reduceLT,Int.reduceLE,Nat.reduceEqDiff,Nat.reduceAdd,reduceIte,reduceCtorEq,Nat.reduceLT,Nat.reduceLeDiff,Nat.reduceShiftRight,Nat.reduceMod]) | omega)
   all_goals first | rfl | (simp;done) | exact ints_append _ _ | skip
  ·have e1:((k / 3:Nat):Int)=1:=by omega
   obtain ⟨r1,r2,r3⟩:=row1_lt hk3
   have hv:(findM (tm 6).A ((k % 3:Nat):Int) 1).getD 0=valT k:=by unfold valT;rw [e1]
   have hML:1000000000≤maxLen:=by decide
   simp only [celA,ceA,e1,r1,r2,hv,vcM1,vcM2,vcM3,rnd_s,Int.reduceAdd,Int.reduceSub,decide_true,decide_false,i64_1,i64_2,i64_3,i64_4,true_and,Int.one_mul,Int.cast_ofNat_Int,Int.reduceToNat,Nat.zero_mul,Nat.reduceMul,Nat.zero_add,Nat.mul_one,List.getElem?_cons_zero,List.getElem?_cons_succ,vZ,Int.reduceEq,Int.reduceNe,Int.reduceLT,Int.reduceLE,Nat.reduceEqDiff,Nat.reduceAdd,reduceIte,reduceCtorEq,Nat.reduceLT,Nat.reduceLeDiff,Nat.reduceShiftRight,Nat.reduceMod]
   refine ⟨⟨by omega,by omega⟩,?_⟩
   refine weakX [(101,some 41)] (of_decide_eq_true rfl) (of_decide_eq_true rfl) ?_
   (simp only [gA,vcW,vZ,Int.reduceEq,Int.reduceNe,Int.reduceLT,Int.reduceLE,Nat.reduceEqDiff,Nat.reduceAdd,reduceIte,reduceCtorEq,Nat.reduceLT,Nat.reduceLeDiff,Nat.reduceShiftRight,Nat.reduceMod])
   (repeat' first | exact trivial | (with_reducible first | exact RnB.m1 | (refine RnB.b2 ?_;simp only [vcW,vZ,Int.reduceEq,Int.reduceNe,Int.reduceLT,Int.reduceLE,Nat.reduceEqDiff,Nat.reduceAdd,reduceIte,reduceCtorEq,Nat.reduceLT,Nat.reduceLeDiff,Nat.reduceShiftRight,Nat.reduceMod]) | (refine RnB.n2 ?_;simp only [vcW,vZ,Int.reduceEq,Int.reduceNe,Int.reduceLT,Int.reduceLE,Nat.reduceEqDiff,Nat.reduceAdd,reduceIte,reduceCtorEq,Nat.reduceLT,Nat.reduceLeDiff,Nat.reduceShiftRight,Nat.reduceMod]) | (refine RnB.mm ?_;simp only [vcW,vZ,Int.reduceEq,Int.reduceNe,Int.reduceLT,Int.reduceLE,Nat.reduceEqDiff,Nat.reduceAdd,reduceIte,reduceCtorEq,Nat.reduceLT,Nat.reduceLeDiff,Nat.reduceShiftRight,Nat.reduceMod]) | refine RnB.map (And.intro ?_ ?_) | (refine RnB.iter ?_;simp only [vcW,vZ,Int.reduceEq,Int.reduceNe,Int.reduceLT,Int.reduceLE,Nat.reduceEqDiff,Nat.reduceAdd,reduceIte,reduceCtorEq,Nat.reduceLT,Nat.reduceLeDiff,Nat.reduceShiftRight,Nat.reduceMod])) | (with_reducible first | exact RnB.fxB (ints_fxB _) | rfl | refine And.intro ?_ ?_) | (with_reducible (first | refine RnB.bb ?_ | refine RnB.nb ?_);simp only [vcW,vZ,Int.reduceEq,Int.reduceNe,Int.reduceLT,Int.reduceLE,Nat.reduceEqDiff,Nat.reduceAdd,reduceIte,reduceCtorEq,Nat.reduceLT,Nat.reduceLeDiff,Nat.reduceShiftRight,Nat.reduceMod]) | (with_reducible first | refine RnB.ii ?_ | refine RnB.app ?_) | (with_reducible refine RnB.fxB ?_;simp only [vcW,vZ,Int.reduceEq,Int.reduceNe,Int.reduceLT,Int.reduceLE,Nat.reduceEqDiff,Nat.reduceAdd,reduceIte,reduceCtorEq,Nat.reduceLT,Nat.reduceLeDiff,Nat.reduceShiftRight,Nat.reduceMod]) | omega)
   all_goals first | rfl | (simp;done) | exact ints_append _ _ | skip
 ·simp only [List.length_map,List.length_range,row0_end.1,row0_end.2]
  simp only [vcM1,vcM2,vcM3,rnd_s,Int.reduceAdd,Int.reduceSub,decide_true,decide_false,i64_1,i64_2,i64_3,i64_4,true_and,Int.one_mul,Int.cast_ofNat_Int,Int.reduceToNat,Nat.zero_mul,Nat.reduceMul,Nat.zero_add,Nat.mul_one,List.getElem?_cons_zero,List.getElem?_cons_succ,vZ,Int.reduceEq,Int.reduceNe,Int.reduceLT,Int.reduceLE,Nat.reduceEqDiff,Nat.reduceAdd,reduceIte,reduceCtorEq,Nat.reduceLT,Nat.reduceLeDiff,Nat.reduceShiftRight,Nat.reduceMod]
  clear hI hC hT hcs hit hin
  kernel_rfl
theorem iceShown_s:Sound Tryd.prog 4 [] (.bool true):=by
 refine sound_W f_top_iceShown (Nat.le_of_ble_eq_true rfl) ?_
 have hG:=run_s Grid_run
 have hS:=run_s Survival_run
 have hM:=run_s Same_run
 have hT:=TimesFrom_s
 simp only [gA,ceA,rowsT] at hG hS hM hT
 simp only [c_top_iceShown,rnd_s,Int.reduceAdd,Int.reduceSub,decide_true,decide_false,i64_1,i64_2,i64_3,i64_4,true_and,Int.one_mul,Int.cast_ofNat_Int,Int.reduceToNat,Nat.zero_mul,Nat.reduceMul,Nat.zero_add,Nat.mul_one,List.getElem?_cons_zero,List.getElem?_cons_succ,vZ,Int.reduceEq,Int.reduceNe,Int.reduceLT,Int.reduceLE,Nat.reduceEqDiff,Nat.reduceAdd,reduceIte,reduceCtorEq,Nat.reduceLT,Nat.reduceLeDiff,Nat.reduceShiftRight,Nat.reduceMod]
 refine callS_of hG ?_
 simp only [rnd_s,Int.reduceAdd,Int.reduceSub,decide_true,decide_false,i64_1,i64_2,i64_3,i64_4,true_and,Int.one_mul,Int.cast_ofNat_Int,Int.reduceToNat,Nat.zero_mul,Nat.reduceMul,Nat.zero_add,Nat.mul_one,List.getElem?_cons_zero,List.getElem?_cons_succ,vZ,Int.reduceEq,Int.reduceNe,Int.reduceLT,Int.reduceLE,Nat.reduceEqDiff,Nat.reduceAdd,reduceIte,reduceCtorEq,Nat.reduceLT,Nat.reduceLeDiff,Nat.reduceShiftRight,Nat.reduceMod]
 refine callS_of hT ?_
 simp only [rnd_s,Int.reduceAdd,Int.reduceSub,decide_true,decide_false,i64_1,i64_2,i64_3,i64_4,true_and,Int.one_mul,Int.cast_ofNat_Int,Int.reduceToNat,Nat.zero_mul,Nat.reduceMul,Nat.zero_add,Nat.mul_one,List.getElem?_cons_zero,List.getElem?_cons_succ,vZ,Int.reduceEq,Int.reduceNe,Int.reduceLT,Int.reduceLE,Nat.reduceEqDiff,Nat.reduceAdd,reduceIte,reduceCtorEq,Nat.reduceLT,Nat.reduceLeDiff,Nat.reduceShiftRight,Nat.reduceMod]
 refine callS_of hG ?_
 simp only [rnd_s,Int.reduceAdd,Int.reduceSub,decide_true,decide_false,i64_1,i64_2,i64_3,i64_4,true_and,Int.one_mul,Int.cast_ofNat_Int,Int.reduceToNat,Nat.zero_mul,Nat.reduceMul,Nat.zero_add,Nat.mul_one,List.getElem?_cons_zero,List.getElem?_cons_succ,vZ,Int.reduceEq,Int.reduceNe,Int.reduceLT,Int.reduceLE,Nat.reduceEqDiff,Nat.reduceAdd,reduceIte,reduceCtorEq,Nat.reduceLT,Nat.reduceLeDiff,Nat.reduceShiftRight,Nat.reduceMod]
 refine callS_of hS ?_
 simp only [rnd_s,Int.reduceAdd,Int.reduceSub,decide_true,decide_false,i64_1,i64_2,i64_3,i64_4,true_and,Int.one_mul,Int.cast_ofNat_Int,Int.reduceToNat,Nat.zero_mul,Nat.reduceMul,Nat.zero_add,Nat.mul_one,List.getElem?_cons_zero,List.getElem?_cons_succ,vZ,Int.reduceEq,Int.reduceNe,Int.reduceLT,Int.reduceLE,Nat.reduceEqDiff,Nat.reduceAdd,reduceIte,reduceCtorEq,Nat.reduceLT,Nat.reduceLeDiff,Nat.reduceShiftRight,Nat.reduceMod]
 refine callS_of hM ?_
 simp only [rnd_s,Int.reduceAdd,Int.reduceSub,decide_true,decide_false,i64_1,i64_2,i64_3,i64_4,true_and,Int.one_mul,Int.cast_ofNat_Int,Int.reduceToNat,Nat.zero_mul,Nat.reduceMul,Nat.zero_add,Nat.mul_one,List.getElem?_cons_zero,List.getElem?_cons_succ,vZ,Int.reduceEq,Int.reduceNe,Int.reduceLT,Int.reduceLE,Nat.reduceEqDiff,Nat.reduceAdd,reduceIte,reduceCtorEq,Nat.reduceLT,Nat.reduceLeDiff,Nat.reduceShiftRight,Nat.reduceMod]
end Go.Proofs.YtoiajhogondgcaaDoor

/- TopIceDeployed: what it reads;copies of searches. By an AI agent;nothing here is trusted. -/
namespace Go.Proofs.YtoiajhogondgcaaDoor
open Go.Av

theorem CopySearch_s (s:Se) (hl:s.d.length≤1000000):Sound Tryd.prog 12 [s.av] s.av:=by
 refine sound_W f_ref03_CopySearch (Nat.le_of_ble_eq_true rfl) ?_
 have hm:1000000000≤maxLen:=by decide
 simp only [c_ref03_CopySearch,Se.av,disL_length,rnd_s,Int.reduceAdd,Int.reduceSub,decide_true,decide_false,i64_1,i64_2,i64_3,i64_4,true_and,Int.one_mul,Int.cast_ofNat_Int,Int.reduceToNat,Nat.zero_mul,Nat.reduceMul,Nat.zero_add,Nat.mul_one,List.getElem?_cons_zero,List.getElem?_cons_succ,vZ,Int.reduceEq,Int.reduceNe,Int.reduceLT,Int.reduceLE,Nat.reduceEqDiff,Nat.reduceAdd,reduceIte,reduceCtorEq,Nat.reduceLT,Nat.reduceLeDiff,Nat.reduceShiftRight,Nat.reduceMod]
 refine ⟨newsOk_dis s.d,⟨by omega,by omega⟩,?_⟩
 rw [borB_good _ _ _ _ _ (by simp [disL]) (disL_fx _)]
theorem around_s (n by_:Int) (h1:I64 (n - by_)) (h2:I64 (n+by_)):Sound Tryd.prog 10 [.int .i64 n,.int .i64 by_] (.agg [.int .i64 (n - by_),.int .i64 (n+by_)]):=by
 refine sound_W f_top_around (Nat.le_of_ble_eq_true rfl) ?_
 simp only [c_top_around,rnd_s,Int.reduceAdd,Int.reduceSub,decide_true,decide_false,i64_1,i64_2,i64_3,i64_4,true_and,Int.one_mul,Int.cast_ofNat_Int,Int.reduceToNat,Nat.zero_mul,Nat.reduceMul,Nat.zero_add,Nat.mul_one,List.getElem?_cons_zero,List.getElem?_cons_succ,vZ,Int.reduceEq,Int.reduceNe,Int.reduceLT,Int.reduceLE,Nat.reduceEqDiff,Nat.reduceAdd,reduceIte,reduceCtorEq,Nat.reduceLT,Nat.reduceLeDiff,Nat.reduceShiftRight,Nat.reduceMod]
 exact ⟨h1,h2⟩

structure Sn where
 p:Pl
 k:List Pl
 a:Int
 e:Int
def Sn.av (x:Sn):AV:=.agg [.int .i64 x.p.x,.int .i64 x.p.y,.int .i64 x.p.z,.sl (plsL x.k),.int .i64 x.a,.int .i64 x.e]
def Sn.dist (x:Sn) (q:Pl):Di:=⟨q,max 0 (x.p.sq q - x.e),x.p.sq q+x.e⟩
def Sn.dl (x:Sn) (i:Nat):List Di:=(x.k.take i).map x.dist
def Sn.box (x:Sn):Bx:=⟨x.p.x - x.a,x.p.x+x.a,x.p.y - x.a,x.p.y+x.a,x.p.z - x.a,x.p.z+x.a⟩
structure Sn.Ok (x:Sn):Prop where
 k:x.k.length≤8
 a:0≤x.a∧x.a≤4
 e:0≤x.e∧x.e≤1000
theorem dl_succ (x:Sn) (i:Nat) (h:i<x.k.length):x.dl (i+1)=x.dl i ++ [x.dist x.k[i]]:=by
 unfold Sn.dl
 rw [List.take_succ_eq_append_getElem h,List.map_append];rfl
theorem dl_length (x:Sn) (i:Nat) (h:i≤x.k.length):(x.dl i).length=i:=by
 unfold Sn.dl;simp;omega
theorem Pl.in_mono {p:Pl} (h:p.in 1000):p.in 2000:=by
 obtain ⟨⟨a1,a2⟩,⟨a3,a4⟩,a5,a6⟩:=h
 exact ⟨⟨by omega,by omega⟩,⟨by omega,by omega⟩,by omega,by omega⟩
theorem search_ok {x:Sn} (hx:x.Ok) (hp:x.p.in 1000) (hk:∀ q ∈ x.k,q.in 1000) (i:Nat) (s:Se) (hb:s.b=x.box) (hd:s.d=(x.dl x.k.length).take i):s.Ok∧x.p ∈ s.cand:=by
 have hmem:∀ d ∈ s.d,∃ q ∈ x.k,d=x.dist q:=by
  intro d hd'
  rw [hd] at hd'
  have:=List.mem_of_mem_take hd'
  unfold Sn.dl at this
  rw [List.take_length] at this
  obtain ⟨q,h1,h2⟩:=List.mem_map.1 this
  exact ⟨q,h1,h2.symm⟩
 obtain ⟨hx1,hx2,hx3⟩:=hx
 have hsq:∀ q ∈ x.k,0≤x.p.sq q∧x.p.sq q≤48000000:=fun q hq=>Pl.sq_bd (Pl.in_mono hp) (Pl.in_mono (hk q hq))
 refine ⟨⟨?_,?_,?_⟩,?_⟩
 ·obtain ⟨⟨a1,a2⟩,⟨a3,a4⟩,a5,a6⟩:=hp
  rw [hb]
  exact ⟨⟨by simp only [Sn.box];omega,by simp only [Sn.box];omega,by simp only [Sn.box];omega,by simp only [Sn.box];omega⟩,⟨by simp only [Sn.box];omega,by simp only [Sn.box];omega,by simp only [Sn.box];omega,by simp only [Sn.box];omega⟩,by simp only [Sn.box];omega,by simp only [Sn.box];omega,by simp only [Sn.box];omega,by simp only [Sn.box];omega⟩
 ·rw [hd]
  have:=dl_length x x.k.length (Nat.le_refl _)
  rw [List.length_take];omega
 ·intro d hd'
  obtain ⟨q,hq,rfl⟩:=hmem d hd'
  have:=hsq q hq
  exact ⟨Pl.in_mono (hk q hq),by simp only [Sn.dist];omega,by simp only [Sn.dist];omega,by simp only [Sn.dist];omega⟩
 ·refine cand_mem ?_ ?_ ?_ ?_
  ·rw [hb];simp only [Sn.box];omega
  ·rw [hb];simp only [Sn.box];omega
  ·rw [hb];simp only [Sn.box];omega
  ·rw [List.all_eq_true]
   intro d hd'
   obtain ⟨q,hq,rfl⟩:=hmem d hd'
   have:=hsq q hq
   exact decide_eq_true ⟨by simp only [Sn.dist];omega,by simp only [Sn.dist];omega⟩
theorem RnB.lastc {s s':Store} {f:Nat→Option Nat} {ty sz:Nat} {pre:List AV} {c c':AV} (hp:∀ x ∈ pre,imm x=true∧cell x=true) (hc:cell c'=true) (h:Rn s s' f c c'):RnB s s' f ⟨ty,sz,[.agg (pre ++ [c])]⟩ ⟨ty,sz,[.agg (pre ++ [c'])]⟩:=by
 refine ⟨rfl,rfl,rfl,fun i x x' h1 h2=>?_⟩
 match i,h1,h2 with
 | 0,h1,h2 =>
  cases h1;cases h2
  refine ⟨by simp [cellsOf],fun y hy=>?_,fun o y y' h3 h4=>?_⟩
  ·simp only [cellsOf,List.mem_append,List.mem_singleton] at hy
   rcases hy with hy | rfl
   ·exact (hp y hy).2
   ·exact hc
  ·simp only [cellsOf] at h3 h4
   by_cases ho:o<pre.length
   ·rw [List.getElem?_append_left ho] at h3 h4
    rw [h3] at h4;cases h4
    exact .imm _ (hp y (List.mem_of_getElem? h3)).1
   ·rw [List.getElem?_append_right (by omega)] at h3 h4
    have ho0:o - pre.length=0:=by
     have:=(List.getElem?_eq_some_iff.1 h3).1
     simp at this;omega
    rw [ho0] at h3 h4
    simp at h3 h4
    subst h3;subst h4
    exact h
theorem RnB.nb7 {s s':Store} {f:Nat→Option Nat} {ty sz k' l':Nat} {a b c d e g:Int} (h:f k'=none∧l'=0∧∃ B,s' k'=some (some B)) :
  RnB s s' f ⟨ty,sz,[.agg [.int .i64 a,.int .i64 b,.int .i64 c,.int .i64 d,.int .i64 e,.int .i64 g,.nils]]⟩ ⟨ty,sz,[.agg [.int .i64 a,.int .i64 b,.int .i64 c,.int .i64 d,.int .i64 e,.int .i64 g,.buf k' l']]⟩:=by
 obtain ⟨h1,rfl,B,h2⟩:=h
 exact RnB.lastc (pre:=[.int .i64 a,.int .i64 b,.int .i64 c,.int .i64 d,.int .i64 e,.int .i64 g]) (by intro x hx;simp at hx;rcases hx with rfl | rfl | rfl | rfl | rfl | rfl <;> exact ⟨rfl,rfl⟩) rfl (.virt _ _ h1 h2)
theorem RnB.bb7 {s s':Store} {f:Nat→Option Nat} {ty sz k l k' l':Nat} {a b c d e g:Int} (h:f k'=some k∧l=l') :
  RnB s s' f ⟨ty,sz,[.agg [.int .i64 a,.int .i64 b,.int .i64 c,.int .i64 d,.int .i64 e,.int .i64 g,.buf k l]]⟩ ⟨ty,sz,[.agg [.int .i64 a,.int .i64 b,.int .i64 c,.int .i64 d,.int .i64 e,.int .i64 g,.buf k' l']]⟩:=by
 obtain ⟨h1,rfl⟩:=h
 exact RnB.lastc (pre:=[.int .i64 a,.int .i64 b,.int .i64 c,.int .i64 d,.int .i64 e,.int .i64 g]) (by intro x hx;simp at hx;rcases hx with rfl | rfl | rfl | rfl | rfl | rfl <;> exact ⟨rfl,rfl⟩) rfl (.buf _ _ _ h1)
theorem RnB.fz7 {s s':Store} {f:Nat→Option Nat} {ty sz ty2 sz2 k n:Nat} {es:List AV} {a b c d e g:Int} (hs:s k=some (some ⟨ty2,sz2,es⟩)) (hn:n=es.length) (hg:es.all Go.Av.fx=true) (hf:∀ k',f k' ≠ some k) :
  RnB s s' f ⟨ty,sz,[.agg [.int .i64 a,.int .i64 b,.int .i64 c,.int .i64 d,.int .i64 e,.int .i64 g,.buf k n]]⟩ ⟨ty,sz,[.agg [.int .i64 a,.int .i64 b,.int .i64 c,.int .i64 d,.int .i64 e,.int .i64 g,.sl es]]⟩:=by
 subst hn
 have hz:=Rn.fz (s:=s) (s':=s') (f:=f) k es.length _ hs (Nat.le_refl _) (fun x hx=>(fx_spec (List.all_eq_true.1 hg x hx)).1) hf
 simp only [List.take_length] at hz
 exact RnB.lastc (pre:=[.int .i64 a,.int .i64 b,.int .i64 c,.int .i64 d,.int .i64 e,.int .i64 g]) (by intro x hx;simp at hx;rcases hx with rfl | rfl | rfl | rfl | rfl | rfl <;> exact ⟨rfl,rfl⟩) rfl hz
theorem tk_slice2 (g:Option (Nat × Bool)) (d:Option Nat) (str:Bool) (sz:Nat) (x b:MX) (e:Env):tkM ⟨g,d,.slice str sz x none (some b)⟩ e=some (refs1 (x.ev e) ++ refs1 (b.ev e)):=by simp [tkM,tk,pureOp,xsOf,allocs]
theorem disL_take (l:List Di) (i:Nat):(disL l).take i=disL (l.take i):=by simp [disL]
theorem disL_five (l:List Di):∀ x ∈ disL l,(cellsOf x).length=5:=by
 intro x hx
 obtain ⟨n,_,rfl⟩:=List.mem_map.1 hx
 rfl
end Go.Proofs.YtoiajhogondgcaaDoor

/- The marked code of law functions;printed by a program. By an AI agent;nothing here is trusted. -/
namespace Go.Proofs.YtoiajhogondgcaaDoor
open Go.Av
def cl_top_TopIceDeployed_b6:ML:=(.seq (.seq (.reg 254629497041810760783555711051172270131433549208242031329517556169297662470417089099235360 [mV 294 29,mV 295 24,mO 296 (.len false (.t 295)),mO 297 (.bin .lss (.t 294) (.t 296))] false []) (.cond (.t 297) .skip (.exit 6))) (.seq (.block 7 (.reg 826310688 [mV 300 28,mV 301 300,mG 301 false 302 (.mv (.t 24)),mG 301 false 303 (.mv (.t 29)),mG 301 false 304 (.indexAddr (.t 302) (.t 303) 3),mG 301 false 305 (.load (some 3) (.t 304)),mG 301 false 306 (.fieldAddr (.t 5) 0),mG 301 false 307 (.load (some 3) (.t 306)),mG 301 false 308 (.eqS false [1,1,1] (.t 305) (.t 307)),mO 309 (.pick (.t 301) (.c (.bool true)) (.t 308)),mV 28 309] true [])) (.reg 826310688 [mV 298 29,mO 299 (.bin .add (.t 298) (.c (.int .i64 1))),mV 29 299] false [])))
def cl_top_TopIceDeployed_m4:ML:=(.seq (.reg 62947360 [mO 238 (.load (some 7) (.t 23)),mO 239 (.call 12 [(.t 238)]),mO 240 (.call 11 [(.t 239)]),mV 237 240,mO 241 (.extract (.t 237) 0),mO 242 (.extract (.t 237) 1),mV 24 241,mV 25 242] false []) (.seq (.reg 255885344 [mO 244 (.load (some 7) (.t 23)),mO 245 (.call 12 [(.t 244)]),mO 246 (.call 13 [(.t 245)]),mV 243 246,mO 247 (.extract (.t 243) 0),mO 248 (.extract (.t 243) 1),mO 26 (.alloc 41 6 (.agg [(.int .i64 0),(.int .i64 0),(.int .i64 0),(.int .i64 0),(.int .i64 0),(.int .i64 0)])),⟨none,none,.store 6 (.t 26) (.t 247)⟩,mV 27 248] false []) (.seq (.seq (.reg 15914343565113172548972231940698266883214596825515126958094847260581103904401068038062112 [mV 249 25,mO 250 (.bin .neq (.t 249) (.c (.int .i64 0))),mV 251 250,mG 251 false 252 (.mv (.t 27)),mG 251 false 253 (.bin .neq (.t 252) (.c (.int .i64 0))),mO 254 (.pick (.t 251) (.c (.bool true)) (.t 253)),mV 255 254,mG 255 false 256 (.fieldAddr (.t 5) 0),mG 255 false 257 (.fieldAddr (.t 256) 0),mG 255 false 258 (.load none (.t 257)),mG 255 false 259 (.fieldAddr (.t 26) 0),mG 255 false 260 (.fieldAddr (.t 259) 0),mG 255 false 261 (.load none (.t 260)),mG 255 false 262 (.fieldAddr (.t 26) 0),mG 255 false 263 (.fieldAddr (.t 262) 1),mG 255 false 264 (.load none (.t 263)),mG 255 false 265 (.call 6 [(.t 258),(.t 261),(.t 264)]),mG 255 false 266 (.un .not (.t 265)),mO 267 (.pick (.t 255) (.c (.bool true)) (.t 266)),mV 268 267,mG 268 false 269 (.fieldAddr (.t 5) 0),mG 268 false 270 (.fieldAddr (.t 269) 1),mG 268 false 271 (.load none (.t 270)),mG 268 false 272 (.fieldAddr (.t 26) 2),mG 268 false 273 (.fieldAddr (.t 272) 0),mG 268 false 274 (.load none (.t 273)),mG 268 false 275 (.fieldAddr (.t 26) 2),mG 268 false 276 (.fieldAddr (.t 275) 1),mG 268 false 277 (.load none (.t 276)),mG 268 false 278 (.call 6 [(.t 271),(.t 274),(.t 277)]),mG 268 false 279 (.un .not (.t 278)),mO 280 (.pick (.t 268) (.c (.bool true)) (.t 279)),mV 281 280,mG 281 false 282 (.fieldAddr (.t 5) 0),mG 281 false 283 (.fieldAddr (.t 282) 2),mG 281 false 284 (.load none (.t 283)),mG 281 false 285 (.fieldAddr (.t 26) 4),mG 281 false 286 (.fieldAddr (.t 285) 0),mG 281 false 287 (.load none (.t 286)),mG 281 false 288 (.fieldAddr (.t 26) 4),mG 281 false 289 (.fieldAddr (.t 288) 1),mG 281 false 290 (.load none (.t 289)),mG 281 false 291 (.call 6 [(.t 284),(.t 287),(.t 290)]),mG 281 false 292 (.un .not (.t 291)),mO 293 (.pick (.t 281) (.c (.bool true)) (.t 292))] false []) (.cond (.t 293) (.seq (.reg 64 [mO 6 (.mv (.c (.bool false)))] false []) .ret) .skip)) (.seq (.reg 289439776 [mO 28 (.mv (.c (.bool false)))] false []) (.seq (.seq (.reg 826310688 [mO 29 (.mv (.c (.int .i64 0)))] false []) (.block 6 (.loop cl_top_TopIceDeployed_b6))) (.seq (.reg 4171849679533027504677776769862406473833407270227837441302815640277772901915313574263602053152 [mV 310 28,mO 311 (.un .not (.t 310))] false []) (.cond (.t 311) (.seq (.reg 64 [mO 6 (.mv (.c (.bool false)))] false []) .ret) .skip)))))))
def cl_top_TopIceDeployed_b4:ML:=(.seq (.seq (.reg 53919893334301279589334030174039261347274288845081144962207224725536 [mV 224 22,mO 225 (.bin .geq (.t 224) (.c (.int .i64 0)))] false []) (.cond (.t 225) .skip (.exit 4))) (.seq (.block 5 (.seq (.reg 12615712 [mO 228 (.fieldAddr (.t 15) 0),mO 229 (.load (some 6) (.t 228)),mO 230 (.buildSlice 46 5 0 (.agg [(.int .i64 0),(.int .i64 0),(.int .i64 0),(.int .i64 0),(.int .i64 0)]) []),mO 231 (.fieldAddr (.t 15) 6),mO 232 (.load none (.t 231)),mV 233 22,mO 234 (.slice false 5 (.t 232) none (some (.t 233))),mO 235 (.append 46 5 40 (.agg [(.int .i64 0),(.int .i64 0),(.int .i64 0),(.int .i64 0),(.int .i64 0)]) (.t 230) (.t 234)),mO 236 (.build [(.int .i64 0),(.int .i64 0),(.int .i64 0),(.int .i64 0),(.int .i64 0),(.int .i64 0),.nils] [(0,(6,(.t 229))),(6,(1,(.t 235)))]),mO 23 (.alloc 44 7 (.agg [(.int .i64 0),(.int .i64 0),(.int .i64 0),(.int .i64 0),(.int .i64 0),(.int .i64 0),.nils])),⟨none,none,.store 7 (.t 23) (.t 236)⟩] true [(mO 228 (.fieldAddr (.t 15) 0),mO 230 (.buildSlice 46 5 0 (.agg [(.int .i64 0),(.int .i64 0),(.int .i64 0),(.int .i64 0),(.int .i64 0)]) [])),(mO 229 (.load (some 6) (.t 228)),mO 230 (.buildSlice 46 5 0 (.agg [(.int .i64 0),(.int .i64 0),(.int .i64 0),(.int .i64 0),(.int .i64 0)]) [])),(mO 230 (.buildSlice 46 5 0 (.agg [(.int .i64 0),(.int .i64 0),(.int .i64 0),(.int .i64 0),(.int .i64 0)]) []),mO 231 (.fieldAddr (.t 15) 6)),(mO 230 (.buildSlice 46 5 0 (.agg [(.int .i64 0),(.int .i64 0),(.int .i64 0),(.int .i64 0),(.int .i64 0)]) []),mO 232 (.load none (.t 231))),(mO 228 (.fieldAddr (.t 15) 0),mO 234 (.slice false 5 (.t 232) none (some (.t 233)))),(mO 229 (.load (some 6) (.t 228)),mO 234 (.slice false 5 (.t 232) none (some (.t 233)))),(mO 230 (.buildSlice 46 5 0 (.agg [(.int .i64 0),(.int .i64 0),(.int .i64 0),(.int .i64 0),(.int .i64 0)]) []),mO 234 (.slice false 5 (.t 232) none (some (.t 233)))),(mO 228 (.fieldAddr (.t 15) 0),mO 235 (.append 46 5 40 (.agg [(.int .i64 0),(.int .i64 0),(.int .i64 0),(.int .i64 0),(.int .i64 0)]) (.t 230) (.t 234))),(mO 229 (.load (some 6) (.t 228)),mO 235 (.append 46 5 40 (.agg [(.int .i64 0),(.int .i64 0),(.int .i64 0),(.int .i64 0),(.int .i64 0)]) (.t 230) (.t 234))),(mO 228 (.fieldAddr (.t 15) 0),mO 23 (.alloc 44 7 (.agg [(.int .i64 0),(.int .i64 0),(.int .i64 0),(.int .i64 0),(.int .i64 0),(.int .i64 0),.nils]))),(mO 229 (.load (some 6) (.t 228)),mO 23 (.alloc 44 7 (.agg [(.int .i64 0),(.int .i64 0),(.int .i64 0),(.int .i64 0),(.int .i64 0),(.int .i64 0),.nils]))),(mO 230 (.buildSlice 46 5 0 (.agg [(.int .i64 0),(.int .i64 0),(.int .i64 0),(.int .i64 0),(.int .i64 0)]) []),mO 23 (.alloc 44 7 (.agg [(.int .i64 0),(.int .i64 0),(.int .i64 0),(.int .i64 0),(.int .i64 0),(.int .i64 0),.nils]))),(mO 231 (.fieldAddr (.t 15) 6),mO 23 (.alloc 44 7 (.agg [(.int .i64 0),(.int .i64 0),(.int .i64 0),(.int .i64 0),(.int .i64 0),(.int .i64 0),.nils]))),(mO 232 (.load none (.t 231)),mO 23 (.alloc 44 7 (.agg [(.int .i64 0),(.int .i64 0),(.int .i64 0),(.int .i64 0),(.int .i64 0),(.int .i64 0),.nils]))),(mO 234 (.slice false 5 (.t 232) none (some (.t 233))),mO 23 (.alloc 44 7 (.agg [(.int .i64 0),(.int .i64 0),(.int .i64 0),(.int .i64 0),(.int .i64 0),(.int .i64 0),.nils]))),(mO 235 (.append 46 5 40 (.agg [(.int .i64 0),(.int .i64 0),(.int .i64 0),(.int .i64 0),(.int .i64 0)]) (.t 230) (.t 234)),mO 23 (.alloc 44 7 (.agg [(.int .i64 0),(.int .i64 0),(.int .i64 0),(.int .i64 0),(.int .i64 0),(.int .i64 0),.nils])))]) (.cut cl_top_TopIceDeployed_m4))) (.reg 4227104 [mV 226 22,mO 227 (.bin .sub (.t 226) (.c (.int .i64 1))),mV 22 227] false [])))
def cl_top_TopIceDeployed_b2:ML:=(.seq (.seq (.reg 2854495385411919762116571938898990272765591584 [mV 147 16,mO 148 (.fieldAddr (.t 5) 3),mO 149 (.load none (.t 148)),mO 150 (.len false (.t 149)),mO 151 (.bin .lss (.t 147) (.t 150))] false []) (.cond (.t 151) .skip (.exit 2))) (.seq (.block 3 (.seq (.reg 229408 [mO 154 (.fieldAddr (.t 5) 3),mO 155 (.load none (.t 154)),mV 156 16,mO 157 (.indexAddr (.t 155) (.t 156) 3),mO 158 (.load (some 3) (.t 157)),mO 17 (.alloc 26 3 (.agg [(.int .i64 0),(.int .i64 0),(.int .i64 0)])),⟨none,none,.store 3 (.t 17) (.t 158)⟩] false []) (.seq (.seq (.reg 23945242826029513411849172299223580994042798784348192 [mO 159 (.fieldAddr (.t 17) 0),mO 160 (.load none (.t 159)),mO 161 (.call 6 [(.t 160),(.c (.int .i64 (-1000))),(.c (.int .i64 1000))]),mO 162 (.un .not (.t 161)),mV 163 162,mG 163 false 164 (.fieldAddr (.t 17) 1),mG 163 false 165 (.load none (.t 164)),mG 163 false 166 (.call 6 [(.t 165),(.c (.int .i64 (-1000))),(.c (.int .i64 1000))]),mG 163 false 167 (.un .not (.t 166)),mO 168 (.pick (.t 163) (.c (.bool true)) (.t 167)),mV 169 168,mG 169 false 170 (.fieldAddr (.t 17) 2),mG 169 false 171 (.load none (.t 170)),mG 169 false 172 (.call 6 [(.t 171),(.c (.int .i64 (-1000))),(.c (.int .i64 1000))]),mG 169 false 173 (.un .not (.t 172)),mO 174 (.pick (.t 169) (.c (.bool true)) (.t 173))] false []) (.cond (.t 174) (.seq (.reg 64 [mO 6 (.mv (.c (.bool true)))] false []) .ret) .skip)) (.seq (.reg 2064416 [mO 175 (.fieldAddr (.t 5) 0),mO 176 (.fieldAddr (.t 175) 0),mO 177 (.load none (.t 176)),mO 178 (.fieldAddr (.t 17) 0),mO 179 (.load none (.t 178)),mO 180 (.bin .sub (.t 177) (.t 179)),mO 181 (.fieldAddr (.t 5) 0),mO 182 (.fieldAddr (.t 181) 1),mO 183 (.load none (.t 182)),mO 184 (.fieldAddr (.t 17) 1),mO 185 (.load none (.t 184)),mO 186 (.bin .sub (.t 183) (.t 185)),mO 187 (.fieldAddr (.t 5) 0),mO 188 (.fieldAddr (.t 187) 2),mO 189 (.load none (.t 188)),mO 190 (.fieldAddr (.t 17) 2),mO 191 (.load none (.t 190)),mO 192 (.bin .sub (.t 189) (.t 191)),mV 18 180,mV 19 186,mV 20 192] true []) (.seq (.reg 2326560 [mV 193 18,mV 194 18,mO 195 (.bin .mul (.t 193) (.t 194)),mV 196 19,mV 197 19,mO 198 (.bin .mul (.t 196) (.t 197)),mO 199 (.bin .add (.t 195) (.t 198)),mV 200 20,mV 201 20,mO 202 (.bin .mul (.t 200) (.t 201)),mO 203 (.bin .add (.t 199) (.t 202)),mV 21 203] false []) (.reg 98336 [mO 204 (.fieldAddr (.t 15) 6),mO 205 (.load none (.t 204)),mO 206 (.load (some 3) (.t 17)),mV 207 21,mO 208 (.fieldAddr (.t 5) 5),mO 209 (.load none (.t 208)),mO 210 (.bin .sub (.t 207) (.t 209)),mO 211 (.max [(.c (.int .i64 0)),(.t 210)]),mV 212 21,mO 213 (.fieldAddr (.t 5) 5),mO 214 (.load none (.t 213)),mO 215 (.bin .add (.t 212) (.t 214)),mO 216 (.build [(.int .i64 0),(.int .i64 0)] [(0,(1,(.t 211))),(1,(1,(.t 215)))]),mO 217 (.build [(.int .i64 0),(.int .i64 0),(.int .i64 0),(.int .i64 0),(.int .i64 0)] [(0,(3,(.t 206))),(3,(2,(.t 216)))]),mO 218 (.buildSlice 46 5 1 (.agg [(.int .i64 0),(.int .i64 0),(.int .i64 0),(.int .i64 0),(.int .i64 0)]) [(0,(.t 217))]),mO 219 (.append 46 5 40 (.agg [(.int .i64 0),(.int .i64 0),(.int .i64 0),(.int .i64 0),(.int .i64 0)]) (.t 205) (.t 218)),mO 220 (.fieldAddr (.t 15) 6),⟨none,none,.store 1 (.t 220) (.t 219)⟩] false [])))))) (.reg 98336 [mV 152 16,mO 153 (.bin .add (.t 152) (.c (.int .i64 1))),mV 16 153] false [])))
def cl_top_TopIceDeployed_b0:ML:=(.seq (.seq (.reg 332306998946228968225951765070110752 [mV 115 14,mV 116 13,mO 117 (.len false (.t 116)),mO 118 (.bin .lss (.t 115) (.t 117))] false []) (.cond (.t 118) .skip (.exit 0))) (.seq (.block 1 (.seq (.reg 85070591730234615865843651857942077472 [mV 121 13,mV 122 14,mO 123 (.indexAddr (.t 121) (.t 122) 1),mO 124 (.load none (.t 123)),mO 125 (.call 6 [(.t 124),(.c (.int .i64 (-1000))),(.c (.int .i64 1000))]),mO 126 (.un .not (.t 125))] false []) (.cond (.t 126) (.seq (.reg 64 [mO 6 (.mv (.c (.bool true)))] false []) .ret) .skip))) (.reg 24608 [mV 119 14,mO 120 (.bin .add (.t 119) (.c (.int .i64 1))),mV 14 120] false [])))
def cl_top_TopIceDeployed_10:ML:=(.seq (.reg 64 [mO 6 (.mv (.c (.bool true)))] false []) .ret)
def cl_top_TopIceDeployed_9:ML:=(.seq (.seq (.reg 4227104 [mO 221 (.fieldAddr (.t 15) 6),mO 222 (.load none (.t 221)),mO 223 (.len false (.t 222)),mV 22 223] false []) (.block 4 (.loop cl_top_TopIceDeployed_b4))) (.cut cl_top_TopIceDeployed_10))
def cl_top_TopIceDeployed_8:ML:=(.seq (.seq (.reg 98336 [mO 16 (.mv (.c (.int .i64 0)))] false []) (.block 2 (.loop cl_top_TopIceDeployed_b2))) (.cut cl_top_TopIceDeployed_9))
def cl_top_TopIceDeployed_7:ML:=(.seq (.reg 32800 [mO 127 (.fieldAddr (.t 5) 0),mO 128 (.fieldAddr (.t 127) 0),mO 129 (.load none (.t 128)),mO 130 (.fieldAddr (.t 5) 4),mO 131 (.load none (.t 130)),mO 132 (.call 10 [(.t 129),(.t 131)]),mO 133 (.fieldAddr (.t 5) 0),mO 134 (.fieldAddr (.t 133) 1),mO 135 (.load none (.t 134)),mO 136 (.fieldAddr (.t 5) 4),mO 137 (.load none (.t 136)),mO 138 (.call 10 [(.t 135),(.t 137)]),mO 139 (.fieldAddr (.t 5) 0),mO 140 (.fieldAddr (.t 139) 2),mO 141 (.load none (.t 140)),mO 142 (.fieldAddr (.t 5) 4),mO 143 (.load none (.t 142)),mO 144 (.call 10 [(.t 141),(.t 143)]),mO 145 (.build [(.int .i64 0),(.int .i64 0),(.int .i64 0),(.int .i64 0),(.int .i64 0),(.int .i64 0)] [(0,(2,(.t 132))),(2,(2,(.t 138))),(4,(2,(.t 144)))]),mO 146 (.build [(.int .i64 0),(.int .i64 0),(.int .i64 0),(.int .i64 0),(.int .i64 0),(.int .i64 0),.nils] [(0,(6,(.t 145)))]),mO 15 (.alloc 44 7 (.agg [(.int .i64 0),(.int .i64 0),(.int .i64 0),(.int .i64 0),(.int .i64 0),(.int .i64 0),.nils])),⟨none,none,.store 7 (.t 15) (.t 146)⟩] true [(mO 127 (.fieldAddr (.t 5) 0),mO 15 (.alloc 44 7 (.agg [(.int .i64 0),(.int .i64 0),(.int .i64 0),(.int .i64 0),(.int .i64 0),(.int .i64 0),.nils]))),(mO 128 (.fieldAddr (.t 127) 0),mO 15 (.alloc 44 7 (.agg [(.int .i64 0),(.int .i64 0),(.int .i64 0),(.int .i64 0),(.int .i64 0),(.int .i64 0),.nils]))),(mO 129 (.load none (.t 128)),mO 15 (.alloc 44 7 (.agg [(.int .i64 0),(.int .i64 0),(.int .i64 0),(.int .i64 0),(.int .i64 0),(.int .i64 0),.nils]))),(mO 130 (.fieldAddr (.t 5) 4),mO 15 (.alloc 44 7 (.agg [(.int .i64 0),(.int .i64 0),(.int .i64 0),(.int .i64 0),(.int .i64 0),(.int .i64 0),.nils]))),(mO 131 (.load none (.t 130)),mO 15 (.alloc 44 7 (.agg [(.int .i64 0),(.int .i64 0),(.int .i64 0),(.int .i64 0),(.int .i64 0),(.int .i64 0),.nils]))),(mO 132 (.call 10 [(.t 129),(.t 131)]),mO 15 (.alloc 44 7 (.agg [(.int .i64 0),(.int .i64 0),(.int .i64 0),(.int .i64 0),(.int .i64 0),(.int .i64 0),.nils]))),(mO 133 (.fieldAddr (.t 5) 0),mO 15 (.alloc 44 7 (.agg [(.int .i64 0),(.int .i64 0),(.int .i64 0),(.int .i64 0),(.int .i64 0),(.int .i64 0),.nils]))),(mO 134 (.fieldAddr (.t 133) 1),mO 15 (.alloc 44 7 (.agg [(.int .i64 0),(.int .i64 0),(.int .i64 0),(.int .i64 0),(.int .i64 0),(.int .i64 0),.nils]))),(mO 135 (.load none (.t 134)),mO 15 (.alloc 44 7 (.agg [(.int .i64 0),(.int .i64 0),(.int .i64 0),(.int .i64 0),(.int .i64 0),(.int .i64 0),.nils]))),(mO 136 (.fieldAddr (.t 5) 4),mO 15 (.alloc 44 7 (.agg [(.int .i64 0),(.int .i64 0),(.int .i64 0),(.int .i64 0),(.int .i64 0),(.int .i64 0),.nils]))),(mO 137 (.load none (.t 136)),mO 15 (.alloc 44 7 (.agg [(.int .i64 0),(.int .i64 0),(.int .i64 0),(.int .i64 0),(.int .i64 0),(.int .i64 0),.nils]))),(mO 138 (.call 10 [(.t 135),(.t 137)]),mO 15 (.alloc 44 7 (.agg [(.int .i64 0),(.int .i64 0),(.int .i64 0),(.int .i64 0),(.int .i64 0),(.int .i64 0),.nils]))),(mO 139 (.fieldAddr (.t 5) 0),mO 15 (.alloc 44 7 (.agg [(.int .i64 0),(.int .i64 0),(.int .i64 0),(.int .i64 0),(.int .i64 0),(.int .i64 0),.nils]))),(mO 140 (.fieldAddr (.t 139) 2),mO 15 (.alloc 44 7 (.agg [(.int .i64 0),(.int .i64 0),(.int .i64 0),(.int .i64 0),(.int .i64 0),(.int .i64 0),.nils]))),(mO 141 (.load none (.t 140)),mO 15 (.alloc 44 7 (.agg [(.int .i64 0),(.int .i64 0),(.int .i64 0),(.int .i64 0),(.int .i64 0),(.int .i64 0),.nils]))),(mO 142 (.fieldAddr (.t 5) 4),mO 15 (.alloc 44 7 (.agg [(.int .i64 0),(.int .i64 0),(.int .i64 0),(.int .i64 0),(.int .i64 0),(.int .i64 0),.nils]))),(mO 143 (.load none (.t 142)),mO 15 (.alloc 44 7 (.agg [(.int .i64 0),(.int .i64 0),(.int .i64 0),(.int .i64 0),(.int .i64 0),(.int .i64 0),.nils]))),(mO 144 (.call 10 [(.t 141),(.t 143)]),mO 15 (.alloc 44 7 (.agg [(.int .i64 0),(.int .i64 0),(.int .i64 0),(.int .i64 0),(.int .i64 0),(.int .i64 0),.nils])))]) (.cut cl_top_TopIceDeployed_8))
def cl_top_TopIceDeployed_6:ML:=(.seq (.seq (.reg 24608 [mO 14 (.mv (.c (.int .i64 0)))] false []) (.block 0 (.loop cl_top_TopIceDeployed_b0))) (.cut cl_top_TopIceDeployed_7))
def cl_top_TopIceDeployed:ML:=(.seq (.reg 42 [mO 3 (.box 24 3 (.t 0)),mO 5 (.box 29 6 (.t 2)),mO 6 (.mv (.c (.bool false)))] false []) (.seq (.seq (.reg 2147483690 [mO 30 (.call 4 []),mO 31 (.un .not (.t 30))] false []) (.cond (.t 31) (.seq (.reg 64 [mO 6 (.mv (.c (.bool false)))] false []) .ret) .skip)) (.seq (.seq (.reg 9223372036854775850 [mO 32 (.fieldAddr (.t 3) 0),mO 33 (.load none (.t 32)),mO 34 (.len false (.t 33)),mO 35 (.bin .gtr (.t 34) (.c (.int .i64 20))),mV 36 35,mG 36 false 37 (.load (some 3) (.t 3)),mG 36 false 38 (.call 5 [(.t 37)]),mG 36 false 39 (.bin .neq (.t 38) (.c (.int .i64 0))),mO 40 (.pick (.t 36) (.c (.bool true)) (.t 39)),mV 41 40,mG 41 false 42 (.mv (.t 1)),mG 41 false 43 (.call 6 [(.t 42),(.c (.int .i64 0)),(.c (.int .i64 1000000))]),mG 41 false 44 (.un .not (.t 43)),mO 45 (.pick (.t 41) (.c (.bool true)) (.t 44)),mV 46 45,mG 46 false 47 (.fieldAddr (.t 5) 4),mG 46 false 48 (.load none (.t 47)),mG 46 false 49 (.call 6 [(.t 48),(.c (.int .i64 0)),(.c (.int .i64 4))]),mG 46 false 50 (.un .not (.t 49)),mO 51 (.pick (.t 46) (.c (.bool true)) (.t 50)),mV 52 51,mG 52 false 53 (.fieldAddr (.t 5) 5),mG 52 false 54 (.load none (.t 53)),mG 52 false 55 (.call 6 [(.t 54),(.c (.int .i64 0)),(.c (.int .i64 1000))]),mG 52 false 56 (.un .not (.t 55)),mO 57 (.pick (.t 52) (.c (.bool true)) (.t 56)),mV 58 57,mG 58 false 59 (.fieldAddr (.t 5) 3),mG 58 false 60 (.load none (.t 59)),mG 58 false 61 (.len false (.t 60)),mG 58 false 62 (.bin .gtr (.t 61) (.c (.int .i64 8))),mO 63 (.pick (.t 58) (.c (.bool true)) (.t 62))] false []) (.cond (.t 63) (.seq (.reg 64 [mO 6 (.mv (.c (.bool true)))] false []) .ret) .skip)) (.seq (.reg 426 [mO 65 (.load (some 3) (.t 3)),mO 66 (.call 8 [(.t 65)]),mV 67 1,mO 68 (.call 7 [(.t 66),(.t 67)]),mV 64 68,mO 69 (.extract (.t 64) 0),mO 70 (.extract (.t 64) 1),mV 7 69,mV 8 70] false []) (.seq (.seq (.reg 4722366482869645214122 [mV 71 8,mO 72 (.bin .eql (.t 71) (.c (.int .i64 0)))] false []) (.cond (.t 72) (.seq (.reg 1706 [mO 74 (.load (some 3) (.t 3)),mO 75 (.call 8 [(.t 74)]),mV 76 7,mO 77 (.call 9 [(.t 75),(.t 76)]),mV 73 77,mO 78 (.extract (.t 73) 0),mO 79 (.extract (.t 73) 1),mV 9 78,mV 10 79] false []) (.seq (.reg 7842 [mO 81 (.load (some 3) (.t 3)),mO 82 (.call 8 [(.t 81)]),mV 83 9,mO 84 (.call 7 [(.t 82),(.t 83)]),mV 80 84,mO 85 (.extract (.t 80) 0),mO 86 (.extract (.t 80) 1),mV 11 85,mV 12 86] false []) (.seq (.reg 5070602400912917605986812821536 [mV 87 10,mO 88 (.bin .neq (.t 87) (.c (.int .i64 0))),mV 89 88,mG 89 false 90 (.mv (.t 12)),mG 89 false 91 (.bin .neq (.t 90) (.c (.int .i64 0))),mO 92 (.pick (.t 89) (.c (.bool true)) (.t 91)),mV 93 92,mG 93 false 94 (.mv (.t 9)),mG 93 false 95 (.mv (.t 1)),mG 93 false 96 (.bin .lss (.t 94) (.t 95)),mO 97 (.pick (.t 93) (.c (.bool true)) (.t 96)),mV 98 97,mG 98 false 99 (.mv (.t 11)),mG 98 false 100 (.mv (.t 7)),mG 98 false 101 (.bin .lss (.t 99) (.t 100)),mO 102 (.pick (.t 98) (.c (.bool true)) (.t 101))] false []) (.cond (.t 102) (.seq (.reg 64 [mO 6 (.mv (.c (.bool false)))] false []) .ret) .skip)))) (.seq (.reg 20282409603651670423947251286048 [mV 103 8,mO 104 (.bin .neq (.t 103) (.c (.int .i64 12)))] false []) (.cond (.t 104) (.seq (.reg 64 [mO 6 (.mv (.c (.bool false)))] false []) .ret) .skip)))) (.seq (.reg 8224 [mO 105 (.fieldAddr (.t 5) 0),mO 106 (.fieldAddr (.t 105) 0),mO 107 (.load none (.t 106)),mO 108 (.fieldAddr (.t 5) 0),mO 109 (.fieldAddr (.t 108) 1),mO 110 (.load none (.t 109)),mO 111 (.fieldAddr (.t 5) 0),mO 112 (.fieldAddr (.t 111) 2),mO 113 (.load none (.t 112)),mO 114 (.buildSlice 3 1 3 (.int .i64 0) [(0,(.t 107)),(1,(.t 110)),(2,(.t 113))]),mV 13 114] false []) (.cut cl_top_TopIceDeployed_6)))))))
def c_top_TopIceDeployed:MC:=cl_top_TopIceDeployed.er
theorem f_top_TopIceDeployed:cFun Tryd.prog 3=some (312,3,c_top_TopIceDeployed,[(6,none)]):=by kernel_rfl
theorem e_top_TopIceDeployed:cl_top_TopIceDeployed.er=c_top_TopIceDeployed:=rfl
end Go.Proofs.YtoiajhogondgcaaDoor

/- TopIceDeployed: the searches. By an AI agent;nothing here is trusted. -/
namespace Go.Proofs.YtoiajhogondgcaaDoor
open Go.Av

def eqP (p q:Pl):Bool:=decide (p=q)
theorem eqP_iff (p q:Pl):(decide (p.x=q.x) && (decide (p.y=q.y) && decide (p.z=q.z)))=eqP p q:=by
 unfold eqP
 by_cases h:p=q
 ·subst h;simp
 ·have:¬ (p.x=q.x∧p.y=q.y∧p.z=q.z):=fun g=>h (Pl.ext' g.1 g.2.1 g.2.2)
  simp only [h,decide_false]
  by_cases h1:p.x=q.x <;> by_cases h2:p.y=q.y <;> by_cases h3:p.z=q.z <;> simp_all
set_option maxHeartbeats 8000000 in
set_option maxRecDepth 10000 in
theorem TI_9 (x:Sn) (hx:x.Ok) (hp:x.p.in 1000) (hk:∀ q ∈ x.k,q.in 1000) :
  WL Tryd.prog 312 cl_top_TopIceDeployed_9 (endQ [(6,none)] (.bool true)) (envOf [(5,.ptr 5 0 0),(15,.ptr 15 0 0)]) (stOf [(5,⟨29,6,[x.av]⟩),(15,⟨44,7,[Se.av ⟨x.box,x.dl x.k.length⟩]⟩)]) .mk:=by
 have hn8:=hx.k
 have hdl:=dl_length x x.k.length (Nat.le_refl _)
 obtain ⟨n,hn⟩:∃ n,n=x.k.length:=⟨_,rfl⟩
 obtain ⟨ds,hds⟩:∃ ds,ds=x.dl x.k.length:=⟨_,rfl⟩
 rw [← hds,← hn] at hdl
 rw [← hds]
 have hML:1000000000≤maxLen:=by decide
 simp only [cl_top_TopIceDeployed_9,Sn.av,Se.av,disL_length,hdl,rnd_s,Int.reduceAdd,Int.reduceSub,decide_true,decide_false,i64_1,i64_2,i64_3,i64_4,true_and,Int.one_mul,Int.cast_ofNat_Int,Int.reduceToNat,Nat.zero_mul,Nat.reduceMul,Nat.zero_add,Nat.mul_one,List.getElem?_cons_zero,List.getElem?_cons_succ,vZ,Int.reduceEq,Int.reduceNe,Int.reduceLT,Int.reduceLE,Nat.reduceEqDiff,Nat.reduceAdd,reduceIte,reduceCtorEq,Nat.reduceLT,Nat.reduceLeDiff,Nat.reduceShiftRight,Nat.reduceMod]
 refine WL_loop (t:=.mk) (α:=PSigma fun j:Nat=>j≤n+1) (fun ⟨j,_⟩=>(envOf [(5,.ptr 5 0 0),(15,.ptr 15 0 0),(22,.int .i64 ((n:Int) - j))],stOf [(5,⟨29,6,[x.av]⟩),(15,⟨44,7,[Se.av ⟨x.box,ds⟩]⟩)])) (fun j=>n+1 - j.1) ⟨0,Nat.zero_le _⟩ ?_ (fun ⟨j,hj⟩=>?_)
 ·refine weakX [] (of_decide_eq_true rfl) (of_decide_eq_true rfl) ?_
  (simp only [Sn.av,Se.av,hdl,vcW,vZ,Int.reduceEq,Int.reduceNe,Int.reduceLT,Int.reduceLE,Nat.reduceEqDiff,Nat.reduceAdd,reduceIte,reduceCtorEq,Nat.reduceLT,Nat.reduceLeDiff,Nat.reduceShiftRight,Nat.reduceMod])
  (repeat' first | exact trivial | (with_reducible first | exact RnB.fxB (ints_fxB _) | rfl | refine And.intro ?_ ?_) | (with_reducible (first | refine RnB.bb ?_ | refine RnB.nb ?_);simp only [vcW,vZ,Int.reduceEq,Int.reduceNe,Int.reduceLT,Int.reduceLE,Nat.reduceEqDiff,Nat.reduceAdd,reduceIte,reduceCtorEq,Nat.reduceLT,Nat.reduceLeDiff,Nat.reduceShiftRight,Nat.reduceMod]) | (with_reducible first | refine RnB.ii ?_ | refine RnB.app ?_) | (with_reducible refine RnB.fxB ?_;simp only [vcW,vZ,Int.reduceEq,Int.reduceNe,Int.reduceLT,Int.reduceLE,Nat.reduceEqDiff,Nat.reduceAdd,reduceIte,reduceCtorEq,Nat.reduceLT,Nat.reduceLeDiff,Nat.reduceShiftRight,Nat.reduceMod]) | omega)
  all_goals first | rfl | omega | (simp;done) | skip
 dsimp only
 by_cases hjn:j≤n
 case neg =>
  have h0:decide ((0:Int)≤(n:Int) - j)=false:=decide_eq_false (by omega)
  simp only [cl_top_TopIceDeployed_b4,h0,Sn.av,Se.av,rnd_s,Int.reduceAdd,Int.reduceSub,decide_true,decide_false,i64_1,i64_2,i64_3,i64_4,true_and,Int.one_mul,Int.cast_ofNat_Int,Int.reduceToNat,Nat.zero_mul,Nat.reduceMul,Nat.zero_add,Nat.mul_one,List.getElem?_cons_zero,List.getElem?_cons_succ,vZ,Int.reduceEq,Int.reduceNe,Int.reduceLT,Int.reduceLE,Nat.reduceEqDiff,Nat.reduceAdd,reduceIte,reduceCtorEq,Nat.reduceLT,Nat.reduceLeDiff,Nat.reduceShiftRight,Nat.reduceMod]
  refine WL_cut ?_
  simp only [cl_top_TopIceDeployed_10,rnd_s,Int.reduceAdd,Int.reduceSub,decide_true,decide_false,i64_1,i64_2,i64_3,i64_4,true_and,Int.one_mul,Int.cast_ofNat_Int,Int.reduceToNat,Nat.zero_mul,Nat.reduceMul,Nat.zero_add,Nat.mul_one,List.getElem?_cons_zero,List.getElem?_cons_succ,vZ,Int.reduceEq,Int.reduceNe,Int.reduceLT,Int.reduceLE,Nat.reduceEqDiff,Nat.reduceAdd,reduceIte,reduceCtorEq,Nat.reduceLT,Nat.reduceLeDiff,Nat.reduceShiftRight,Nat.reduceMod]
 have h0:decide ((0:Int)≤(n:Int) - j)=true:=decide_eq_true (by omega)
 have hi:((n:Int) - j).toNat=n - j:=by omega
 have htl:(ds.take (n - j)).length=n - j:=by rw [List.length_take];omega
 simp only [cl_top_TopIceDeployed_b4,h0,hi,Sn.av,Se.av,tk_slice2,disL_take,disL_length,rnd_s,Int.reduceAdd,Int.reduceSub,decide_true,decide_false,i64_1,i64_2,i64_3,i64_4,true_and,Int.one_mul,Int.cast_ofNat_Int,Int.reduceToNat,Nat.zero_mul,Nat.reduceMul,Nat.zero_add,Nat.mul_one,List.getElem?_cons_zero,List.getElem?_cons_succ,vZ,Int.reduceEq,Int.reduceNe,Int.reduceLT,Int.reduceLE,Nat.reduceEqDiff,Nat.reduceAdd,reduceIte,reduceCtorEq,Nat.reduceLT,Nat.reduceLeDiff,Nat.reduceShiftRight,Nat.reduceMod]
 refine ⟨⟨by omega,by omega,disL_five _⟩,newsOk_dis _,⟨by omega,by omega⟩,?_⟩
 obtain ⟨s,hs⟩:∃ s:Se,s=⟨x.box,ds.take (n - j)⟩:=⟨_,rfl⟩
 have hsd:s.d=ds.take (n - j):=by rw [hs]
 obtain ⟨hsO,hmem⟩:=search_ok hx hp hk (n - j) s (by rw [hs]) (by rw [hsd,hds])
 refine WL_cutW (envOf [(5,.ptr 5 0 0),(15,.ptr 15 0 0),(22,.int .i64 ((n:Int) - j)),(23,.ptr 23 0 0)],stOf [(5,⟨29,6,[x.av]⟩),(15,⟨44,7,[Se.av ⟨x.box,ds⟩]⟩),(23,⟨44,7,[s.av]⟩)]) rfl ?_ ?_
 ·rw [hs]
  refine weakX [] (of_decide_eq_true rfl) (of_decide_eq_true rfl) ?_
  (simp only [Sn.av,Se.av,vcW,vZ,Int.reduceEq,Int.reduceNe,Int.reduceLT,Int.reduceLE,Nat.reduceEqDiff,Nat.reduceAdd,reduceIte,reduceCtorEq,Nat.reduceLT,Nat.reduceLeDiff,Nat.reduceShiftRight,Nat.reduceMod])
  refine ⟨RnB.fxB rfl,RnB.fxB rfl,RnB.fz7 rfl (disL_length _).symm (disL_fxB _) fun k' hk'=>?_⟩
  simp only [Go.Av.keyOf] at hk'
  (repeat' split at hk') <;> cases hk'
 have hpos:=List.length_pos_of_mem hmem
 have hPl:=PlacesIn_s s hsO hpos
 have hBo:=BoxOf_s s hsO hpos
 have hCs:=CopySearch_s s (by have:=hsO.n;omega)
 have hmemL:x.p ∈ srt s.cand:=(srt_perm s.cand).mem_iff.2 hmem
 have hL:(srt s.cand).length≤20000:=by
  obtain ⟨m1,m2,m3⟩:=hsO.b.n
  have:=all_len (s:=s) hsO.b s.b.nz 0 0 m3 (by omega) (by omega)
  rw [srt_length]
  have e:s.cand=s.c0 s.b.nz:=rfl
  rw [e];omega
 generalize srt s.cand=L at *
 have bx:=lo_hi (g:=Pl.gx) hmemL
 have by_:=lo_hi (g:=Pl.gy) hmemL
 have bz:=lo_hi (g:=Pl.gz) hmemL
 simp only [Pl.gx] at bx
 simp only [Pl.gy] at by_
 simp only [Pl.gz] at bz
 simp only [Se.av,boxV] at hPl hBo hCs
 simp only [cl_top_TopIceDeployed_m4,Sn.av,Se.av,rnd_s,Int.reduceAdd,Int.reduceSub,decide_true,decide_false,i64_1,i64_2,i64_3,i64_4,true_and,Int.one_mul,Int.cast_ofNat_Int,Int.reduceToNat,Nat.zero_mul,Nat.reduceMul,Nat.zero_add,Nat.mul_one,List.getElem?_cons_zero,List.getElem?_cons_succ,vZ,Int.reduceEq,Int.reduceNe,Int.reduceLT,Int.reduceLE,Nat.reduceEqDiff,Nat.reduceAdd,reduceIte,reduceCtorEq,Nat.reduceLT,Nat.reduceLeDiff,Nat.reduceShiftRight,Nat.reduceMod]
 refine callS_of hCs ?_
 simp only [rnd_s,Int.reduceAdd,Int.reduceSub,decide_true,decide_false,i64_1,i64_2,i64_3,i64_4,true_and,Int.one_mul,Int.cast_ofNat_Int,Int.reduceToNat,Nat.zero_mul,Nat.reduceMul,Nat.zero_add,Nat.mul_one,List.getElem?_cons_zero,List.getElem?_cons_succ,vZ,Int.reduceEq,Int.reduceNe,Int.reduceLT,Int.reduceLE,Nat.reduceEqDiff,Nat.reduceAdd,reduceIte,reduceCtorEq,Nat.reduceLT,Nat.reduceLeDiff,Nat.reduceShiftRight,Nat.reduceMod]
 refine callS_of hPl ?_
 simp only [rnd_s,Int.reduceAdd,Int.reduceSub,decide_true,decide_false,i64_1,i64_2,i64_3,i64_4,true_and,Int.one_mul,Int.cast_ofNat_Int,Int.reduceToNat,Nat.zero_mul,Nat.reduceMul,Nat.zero_add,Nat.mul_one,List.getElem?_cons_zero,List.getElem?_cons_succ,vZ,Int.reduceEq,Int.reduceNe,Int.reduceLT,Int.reduceLE,Nat.reduceEqDiff,Nat.reduceAdd,reduceIte,reduceCtorEq,Nat.reduceLT,Nat.reduceLeDiff,Nat.reduceShiftRight,Nat.reduceMod]
 refine callS_of hCs ?_
 simp only [rnd_s,Int.reduceAdd,Int.reduceSub,decide_true,decide_false,i64_1,i64_2,i64_3,i64_4,true_and,Int.one_mul,Int.cast_ofNat_Int,Int.reduceToNat,Nat.zero_mul,Nat.reduceMul,Nat.zero_add,Nat.mul_one,List.getElem?_cons_zero,List.getElem?_cons_succ,vZ,Int.reduceEq,Int.reduceNe,Int.reduceLT,Int.reduceLE,Nat.reduceEqDiff,Nat.reduceAdd,reduceIte,reduceCtorEq,Nat.reduceLT,Nat.reduceLeDiff,Nat.reduceShiftRight,Nat.reduceMod]
 refine callS_of hBo ?_
 simp only [Sn.av,rnd_s,Int.reduceAdd,Int.reduceSub,decide_true,decide_false,i64_1,i64_2,i64_3,i64_4,true_and,Int.one_mul,Int.cast_ofNat_Int,Int.reduceToNat,Nat.zero_mul,Nat.reduceMul,Nat.zero_add,Nat.mul_one,List.getElem?_cons_zero,List.getElem?_cons_succ,vZ,Int.reduceEq,Int.reduceNe,Int.reduceLT,Int.reduceLE,Nat.reduceEqDiff,Nat.reduceAdd,reduceIte,reduceCtorEq,Nat.reduceLT,Nat.reduceLeDiff,Nat.reduceShiftRight,Nat.reduceMod]
 refine callS_of (Within_s _ _ _) ?_
 simp only [bx,rnd_s,Int.reduceAdd,Int.reduceSub,decide_true,decide_false,i64_1,i64_2,i64_3,i64_4,true_and,Int.one_mul,Int.cast_ofNat_Int,Int.reduceToNat,Nat.zero_mul,Nat.reduceMul,Nat.zero_add,Nat.mul_one,List.getElem?_cons_zero,List.getElem?_cons_succ,vZ,Int.reduceEq,Int.reduceNe,Int.reduceLT,Int.reduceLE,Nat.reduceEqDiff,Nat.reduceAdd,reduceIte,reduceCtorEq,Nat.reduceLT,Nat.reduceLeDiff,Nat.reduceShiftRight,Nat.reduceMod]
 refine callS_of (Within_s _ _ _) ?_
 simp only [by_,rnd_s,Int.reduceAdd,Int.reduceSub,decide_true,decide_false,i64_1,i64_2,i64_3,i64_4,true_and,Int.one_mul,Int.cast_ofNat_Int,Int.reduceToNat,Nat.zero_mul,Nat.reduceMul,Nat.zero_add,Nat.mul_one,List.getElem?_cons_zero,List.getElem?_cons_succ,vZ,Int.reduceEq,Int.reduceNe,Int.reduceLT,Int.reduceLE,Nat.reduceEqDiff,Nat.reduceAdd,reduceIte,reduceCtorEq,Nat.reduceLT,Nat.reduceLeDiff,Nat.reduceShiftRight,Nat.reduceMod]
 refine callS_of (Within_s _ _ _) ?_
 simp only [bz,rnd_s,Int.reduceAdd,Int.reduceSub,decide_true,decide_false,i64_1,i64_2,i64_3,i64_4,true_and,Int.one_mul,Int.cast_ofNat_Int,Int.reduceToNat,Nat.zero_mul,Nat.reduceMul,Nat.zero_add,Nat.mul_one,List.getElem?_cons_zero,List.getElem?_cons_succ,vZ,Int.reduceEq,Int.reduceNe,Int.reduceLT,Int.reduceLE,Nat.reduceEqDiff,Nat.reduceAdd,reduceIte,reduceCtorEq,Nat.reduceLT,Nat.reduceLeDiff,Nat.reduceShiftRight,Nat.reduceMod]
 refine WL_loop (t:=.mk) (α:=PSigma fun i:Nat=>i≤L.length∧(True)) (fun ⟨i,_⟩=>((envOf [(5,.ptr 5 0 0),(15,.ptr 15 0 0),(22,.int .i64 ((n:Int) - j)),(24,.sl (plsL L)),(28,.bool ((L.take i).any fun q=>eqP q x.p)),(29,.int .i64 i)],stOf [(5,⟨29,6,[x.av]⟩),(15,⟨44,7,[Se.av ⟨x.box,ds⟩]⟩)]))) (fun i=>L.length - i.1) ⟨0,Nat.zero_le _,?_⟩ ?_ (fun ⟨i,hi,hn⟩=>?_)
 ·trivial
 ·refine weakX [] (of_decide_eq_true rfl) (of_decide_eq_true rfl) ?_
  (simp only [Sn.av,Se.av,List.take_zero,List.any_nil,vcW,vZ,Int.reduceEq,Int.reduceNe,Int.reduceLT,Int.reduceLE,Nat.reduceEqDiff,Nat.reduceAdd,reduceIte,reduceCtorEq,Nat.reduceLT,Nat.reduceLeDiff,Nat.reduceShiftRight,Nat.reduceMod])
  (repeat' first | exact trivial | (with_reducible first | exact RnB.fxB (ints_fxB _) | rfl | refine And.intro ?_ ?_) | (with_reducible (first | refine RnB.bb ?_ | refine RnB.nb ?_);simp only [vcW,vZ,Int.reduceEq,Int.reduceNe,Int.reduceLT,Int.reduceLE,Nat.reduceEqDiff,Nat.reduceAdd,reduceIte,reduceCtorEq,Nat.reduceLT,Nat.reduceLeDiff,Nat.reduceShiftRight,Nat.reduceMod]) | (with_reducible first | refine RnB.ii ?_ | refine RnB.app ?_) | (with_reducible refine RnB.fxB ?_;simp only [vcW,vZ,Int.reduceEq,Int.reduceNe,Int.reduceLT,Int.reduceLE,Nat.reduceEqDiff,Nat.reduceAdd,reduceIte,reduceCtorEq,Nat.reduceLT,Nat.reduceLeDiff,Nat.reduceShiftRight,Nat.reduceMod]) | omega)
  all_goals first | rfl | (simp;done) | skip
 dsimp only
 by_cases hk6:i<L.length
 case neg =>
  have hiL:i=L.length:=by omega
  subst hiL
  have h1:decide (((L.length:Nat):Int)<L.length)=false:=decide_eq_false (by omega)
  have h2:(L.any fun q=>eqP q x.p)=true:=List.any_eq_true.2 ⟨x.p,hmemL,decide_eq_true rfl⟩
  simp only [cl_top_TopIceDeployed_b6,h1,h2,plsL_length,List.take_length,Sn.av,Se.av,rnd_s,Int.reduceAdd,Int.reduceSub,decide_true,decide_false,i64_1,i64_2,i64_3,i64_4,true_and,Int.one_mul,Int.cast_ofNat_Int,Int.reduceToNat,Nat.zero_mul,Nat.reduceMul,Nat.zero_add,Nat.mul_one,List.getElem?_cons_zero,List.getElem?_cons_succ,vZ,Int.reduceEq,Int.reduceNe,Int.reduceLT,Int.reduceLE,Nat.reduceEqDiff,Nat.reduceAdd,reduceIte,reduceCtorEq,Nat.reduceLT,Nat.reduceLeDiff,Nat.reduceShiftRight,Nat.reduceMod]
  refine ⟨by unfold I64;omega,⟨j+1,by omega⟩,by simp only;omega,?_⟩
  refine weakX [] (of_decide_eq_true rfl) (of_decide_eq_true rfl) ?_
  (simp only [Sn.av,Se.av,vcW,vZ,Int.reduceEq,Int.reduceNe,Int.reduceLT,Int.reduceLE,Nat.reduceEqDiff,Nat.reduceAdd,reduceIte,reduceCtorEq,Nat.reduceLT,Nat.reduceLeDiff,Nat.reduceShiftRight,Nat.reduceMod])
  (repeat' first | exact trivial | (with_reducible first | exact RnB.fxB (ints_fxB _) | rfl | refine And.intro ?_ ?_) | (with_reducible (first | refine RnB.bb ?_ | refine RnB.nb ?_);simp only [vcW,vZ,Int.reduceEq,Int.reduceNe,Int.reduceLT,Int.reduceLE,Nat.reduceEqDiff,Nat.reduceAdd,reduceIte,reduceCtorEq,Nat.reduceLT,Nat.reduceLeDiff,Nat.reduceShiftRight,Nat.reduceMod]) | (with_reducible first | refine RnB.ii ?_ | refine RnB.app ?_) | (with_reducible refine RnB.fxB ?_;simp only [vcW,vZ,Int.reduceEq,Int.reduceNe,Int.reduceLT,Int.reduceLE,Nat.reduceEqDiff,Nat.reduceAdd,reduceIte,reduceCtorEq,Nat.reduceLT,Nat.reduceLeDiff,Nat.reduceShiftRight,Nat.reduceMod]) | omega)
  all_goals first | rfl | omega | (simp;done) | skip
 have h1:decide ((i:Int)<L.length)=true:=decide_eq_true (by omega)
 have hany:((L.take (i+1)).any fun q=>eqP q x.p)=((L.take i).any (fun q=>eqP q x.p) || eqP L[i] x.p):=by
  rw [List.take_succ_eq_append_getElem hk6,List.any_append];simp
 have hEq:=eqP_iff L[i] x.p
 generalize (L.take i).any (fun q=>eqP q x.p)=am at *
 cases am with
 | true =>
  simp only [cl_top_TopIceDeployed_b6,h1,plsL_length,Sn.av,Se.av,rnd_s,Int.reduceAdd,Int.reduceSub,decide_true,decide_false,i64_1,i64_2,i64_3,i64_4,true_and,Int.one_mul,Int.cast_ofNat_Int,Int.reduceToNat,Nat.zero_mul,Nat.reduceMul,Nat.zero_add,Nat.mul_one,List.getElem?_cons_zero,List.getElem?_cons_succ,vZ,Int.reduceEq,Int.reduceNe,Int.reduceLT,Int.reduceLE,Nat.reduceEqDiff,Nat.reduceAdd,reduceIte,reduceCtorEq,Nat.reduceLT,Nat.reduceLeDiff,Nat.reduceShiftRight,Nat.reduceMod]
  refine ⟨by unfold I64;omega,⟨i+1,by omega,trivial⟩,by simp only;omega,?_⟩
  refine weakX [] (of_decide_eq_true rfl) (of_decide_eq_true rfl) ?_
  (simp only [hany,Sn.av,Se.av,vcW,vZ,Int.reduceEq,Int.reduceNe,Int.reduceLT,Int.reduceLE,Nat.reduceEqDiff,Nat.reduceAdd,reduceIte,reduceCtorEq,Nat.reduceLT,Nat.reduceLeDiff,Nat.reduceShiftRight,Nat.reduceMod])
  (repeat' first | exact trivial | (with_reducible first | exact RnB.fxB (ints_fxB _) | rfl | refine And.intro ?_ ?_) | (with_reducible (first | refine RnB.bb ?_ | refine RnB.nb ?_);simp only [vcW,vZ,Int.reduceEq,Int.reduceNe,Int.reduceLT,Int.reduceLE,Nat.reduceEqDiff,Nat.reduceAdd,reduceIte,reduceCtorEq,Nat.reduceLT,Nat.reduceLeDiff,Nat.reduceShiftRight,Nat.reduceMod]) | (with_reducible first | refine RnB.ii ?_ | refine RnB.app ?_) | (with_reducible refine RnB.fxB ?_;simp only [vcW,vZ,Int.reduceEq,Int.reduceNe,Int.reduceLT,Int.reduceLE,Nat.reduceEqDiff,Nat.reduceAdd,reduceIte,reduceCtorEq,Nat.reduceLT,Nat.reduceLeDiff,Nat.reduceShiftRight,Nat.reduceMod]) | omega)
  all_goals first | rfl | omega | (simp;done) | skip
 | false =>
  simp only [cl_top_TopIceDeployed_b6,h1,plsL_length,plsL_get L i hk6,Pl.av,Sn.av,Se.av,hEq,rnd_s,Int.reduceAdd,Int.reduceSub,decide_true,decide_false,i64_1,i64_2,i64_3,i64_4,true_and,Int.one_mul,Int.cast_ofNat_Int,Int.reduceToNat,Nat.zero_mul,Nat.reduceMul,Nat.zero_add,Nat.mul_one,List.getElem?_cons_zero,List.getElem?_cons_succ,vZ,Int.reduceEq,Int.reduceNe,Int.reduceLT,Int.reduceLE,Nat.reduceEqDiff,Nat.reduceAdd,reduceIte,reduceCtorEq,Nat.reduceLT,Nat.reduceLeDiff,Nat.reduceShiftRight,Nat.reduceMod]
  refine ⟨by omega,by unfold I64;omega,⟨i+1,by omega,trivial⟩,by simp only;omega,?_⟩
  refine weakX [] (of_decide_eq_true rfl) (of_decide_eq_true rfl) ?_
  (simp only [hany,Sn.av,Se.av,vcW,vZ,Int.reduceEq,Int.reduceNe,Int.reduceLT,Int.reduceLE,Nat.reduceEqDiff,Nat.reduceAdd,reduceIte,reduceCtorEq,Nat.reduceLT,Nat.reduceLeDiff,Nat.reduceShiftRight,Nat.reduceMod])
  (repeat' first | exact trivial | (with_reducible first | exact RnB.fxB (ints_fxB _) | rfl | refine And.intro ?_ ?_) | (with_reducible (first | refine RnB.bb ?_ | refine RnB.nb ?_);simp only [vcW,vZ,Int.reduceEq,Int.reduceNe,Int.reduceLT,Int.reduceLE,Nat.reduceEqDiff,Nat.reduceAdd,reduceIte,reduceCtorEq,Nat.reduceLT,Nat.reduceLeDiff,Nat.reduceShiftRight,Nat.reduceMod]) | (with_reducible first | refine RnB.ii ?_ | refine RnB.app ?_) | (with_reducible refine RnB.fxB ?_;simp only [vcW,vZ,Int.reduceEq,Int.reduceNe,Int.reduceLT,Int.reduceLE,Nat.reduceEqDiff,Nat.reduceAdd,reduceIte,reduceCtorEq,Nat.reduceLT,Nat.reduceLeDiff,Nat.reduceShiftRight,Nat.reduceMod]) | omega)
  all_goals first | rfl | omega | (simp;done) | skip
end Go.Proofs.YtoiajhogondgcaaDoor

/- TopIceDeployed: the distances. By an AI agent;nothing here is trusted. -/
namespace Go.Proofs.YtoiajhogondgcaaDoor
open Go.Av

set_option maxHeartbeats 8000000 in
set_option maxRecDepth 10000 in
theorem TI_8 (x:Sn) (hx:x.Ok) (hp:x.p.in 1000) :
  WL Tryd.prog 312 cl_top_TopIceDeployed_8 (endQ [(6,none)] (.bool true)) (envOf [(5,.ptr 5 0 0),(15,.ptr 15 0 0)]) (stOf [(5,⟨29,6,[x.av]⟩),(15,⟨44,7,[.agg [.int .i64 x.box.xl,.int .i64 x.box.xh,.int .i64 x.box.yl,.int .i64 x.box.yh,.int .i64 x.box.zl,.int .i64 x.box.zh,.nils]]⟩)]) .mk:=by
 have hn8:=hx.k
 have hML:1000000000≤maxLen:=by decide
 simp only [cl_top_TopIceDeployed_8,Sn.av,rnd_s,Int.reduceAdd,Int.reduceSub,decide_true,decide_false,i64_1,i64_2,i64_3,i64_4,true_and,Int.one_mul,Int.cast_ofNat_Int,Int.reduceToNat,Nat.zero_mul,Nat.reduceMul,Nat.zero_add,Nat.mul_one,List.getElem?_cons_zero,List.getElem?_cons_succ,vZ,Int.reduceEq,Int.reduceNe,Int.reduceLT,Int.reduceLE,Nat.reduceEqDiff,Nat.reduceAdd,reduceIte,reduceCtorEq,Nat.reduceLT,Nat.reduceLeDiff,Nat.reduceShiftRight,Nat.reduceMod]
 refine WL_loop (t:=.mk) (α:=PSigma fun i:Nat=>i≤x.k.length∧(∀ q ∈ x.k.take i,q.in 1000)) (fun ⟨i,_⟩=>((envOf [(5,.ptr 5 0 0),(15,.ptr 15 0 0),(16,.int .i64 i)],stOf [(5,⟨29,6,[x.av]⟩),(15,⟨44,7,[.agg [.int .i64 x.box.xl,.int .i64 x.box.xh,.int .i64 x.box.yl,.int .i64 x.box.yh,.int .i64 x.box.zl,.int .i64 x.box.zh,.buf 200 (x.dl i).length]]⟩),(200,⟨46,5,disL (x.dl i)⟩)]))) (fun i=>x.k.length - i.1) ⟨0,Nat.zero_le _,?_⟩ ?_ (fun ⟨i,hi,hn⟩=>?_)
 ·simp
 ·refine weakX [(200,none)] (of_decide_eq_true rfl) (of_decide_eq_true rfl) ?_
  (simp only [Sn.av,Sn.dl,List.take_zero,List.map_nil,List.length_nil,disL,vcW,vZ,Int.reduceEq,Int.reduceNe,Int.reduceLT,Int.reduceLE,Nat.reduceEqDiff,Nat.reduceAdd,reduceIte,reduceCtorEq,Nat.reduceLT,Nat.reduceLeDiff,Nat.reduceShiftRight,Nat.reduceMod])
  refine ⟨rfl,RnB.fxB rfl,RnB.nb7 ⟨rfl,rfl,_,rfl⟩⟩
 dsimp only
 by_cases hil:i<x.k.length
 case neg =>
  have hie:i=x.k.length:=by omega
  subst hie
  rw [List.take_length] at hn
  have h0:decide (((x.k.length:Nat):Int)<x.k.length)=false:=decide_eq_false (by omega)
  simp only [cl_top_TopIceDeployed_b2,h0,plsL_length,Sn.av,rnd_s,Int.reduceAdd,Int.reduceSub,decide_true,decide_false,i64_1,i64_2,i64_3,i64_4,true_and,Int.one_mul,Int.cast_ofNat_Int,Int.reduceToNat,Nat.zero_mul,Nat.reduceMul,Nat.zero_add,Nat.mul_one,List.getElem?_cons_zero,List.getElem?_cons_succ,vZ,Int.reduceEq,Int.reduceNe,Int.reduceLT,Int.reduceLE,Nat.reduceEqDiff,Nat.reduceAdd,reduceIte,reduceCtorEq,Nat.reduceLT,Nat.reduceLeDiff,Nat.reduceShiftRight,Nat.reduceMod]
  refine WL_cutW (envOf [(5,.ptr 5 0 0),(15,.ptr 15 0 0)],stOf [(5,⟨29,6,[x.av]⟩),(15,⟨44,7,[Se.av ⟨x.box,x.dl x.k.length⟩]⟩)]) rfl ?_ (TI_9 x hx hp hn)
  refine weakX [] (of_decide_eq_true rfl) (of_decide_eq_true rfl) ?_
  (simp only [Sn.av,Se.av,vcW,vZ,Int.reduceEq,Int.reduceNe,Int.reduceLT,Int.reduceLE,Nat.reduceEqDiff,Nat.reduceAdd,reduceIte,reduceCtorEq,Nat.reduceLT,Nat.reduceLeDiff,Nat.reduceShiftRight,Nat.reduceMod])
  refine ⟨RnB.fxB rfl,RnB.fz7 rfl (disL_length _).symm (disL_fxB _) fun k' hk'=>?_⟩
  simp only [Go.Av.keyOf] at hk'
  (repeat' split at hk') <;> cases hk'
 have h0:decide ((i:Int)<x.k.length)=true:=decide_eq_true (by omega)
 have hdl:=dl_length x i (by omega)
 have hds:=dl_succ x i hil
 obtain ⟨q,hq⟩:∃ q,q=x.k[i]:=⟨_,rfl⟩
 rw [← hq] at hds
 have hget:=plsL_get x.k i hil
 rw [← hq] at hget
 simp only [cl_top_TopIceDeployed_b2,h0,plsL_length,hget,Pl.av,Sn.av,rnd_s,Int.reduceAdd,Int.reduceSub,decide_true,decide_false,i64_1,i64_2,i64_3,i64_4,true_and,Int.one_mul,Int.cast_ofNat_Int,Int.reduceToNat,Nat.zero_mul,Nat.reduceMul,Nat.zero_add,Nat.mul_one,List.getElem?_cons_zero,List.getElem?_cons_succ,vZ,Int.reduceEq,Int.reduceNe,Int.reduceLT,Int.reduceLE,Nat.reduceEqDiff,Nat.reduceAdd,reduceIte,reduceCtorEq,Nat.reduceLT,Nat.reduceLeDiff,Nat.reduceShiftRight,Nat.reduceMod]
 refine ⟨by omega,?_⟩
 by_cases hqx : -1000≤q.x∧q.x≤1000
 case neg =>
  have wx:decide (-1000≤q.x∧q.x≤1000)=false:=decide_eq_false hqx
  refine callS_of (Within_s _ _ _) ?_
  simp only [wx,Sn.av,rnd_s,Int.reduceAdd,Int.reduceSub,decide_true,decide_false,i64_1,i64_2,i64_3,i64_4,true_and,Int.one_mul,Int.cast_ofNat_Int,Int.reduceToNat,Nat.zero_mul,Nat.reduceMul,Nat.zero_add,Nat.mul_one,List.getElem?_cons_zero,List.getElem?_cons_succ,vZ,Int.reduceEq,Int.reduceNe,Int.reduceLT,Int.reduceLE,Nat.reduceEqDiff,Nat.reduceAdd,reduceIte,reduceCtorEq,Nat.reduceLT,Nat.reduceLeDiff,Nat.reduceShiftRight,Nat.reduceMod]
 have wx:decide (-1000≤q.x∧q.x≤1000)=true:=decide_eq_true hqx
 refine callS_of (Within_s _ _ _) ?_
 simp only [wx,Sn.av,rnd_s,Int.reduceAdd,Int.reduceSub,decide_true,decide_false,i64_1,i64_2,i64_3,i64_4,true_and,Int.one_mul,Int.cast_ofNat_Int,Int.reduceToNat,Nat.zero_mul,Nat.reduceMul,Nat.zero_add,Nat.mul_one,List.getElem?_cons_zero,List.getElem?_cons_succ,vZ,Int.reduceEq,Int.reduceNe,Int.reduceLT,Int.reduceLE,Nat.reduceEqDiff,Nat.reduceAdd,reduceIte,reduceCtorEq,Nat.reduceLT,Nat.reduceLeDiff,Nat.reduceShiftRight,Nat.reduceMod]
 by_cases hqy : -1000≤q.y∧q.y≤1000
 case neg =>
  have wy:decide (-1000≤q.y∧q.y≤1000)=false:=decide_eq_false hqy
  refine callS_of (Within_s _ _ _) ?_
  simp only [wy,Sn.av,rnd_s,Int.reduceAdd,Int.reduceSub,decide_true,decide_false,i64_1,i64_2,i64_3,i64_4,true_and,Int.one_mul,Int.cast_ofNat_Int,Int.reduceToNat,Nat.zero_mul,Nat.reduceMul,Nat.zero_add,Nat.mul_one,List.getElem?_cons_zero,List.getElem?_cons_succ,vZ,Int.reduceEq,Int.reduceNe,Int.reduceLT,Int.reduceLE,Nat.reduceEqDiff,Nat.reduceAdd,reduceIte,reduceCtorEq,Nat.reduceLT,Nat.reduceLeDiff,Nat.reduceShiftRight,Nat.reduceMod]
 have wy:decide (-1000≤q.y∧q.y≤1000)=true:=decide_eq_true hqy
 refine callS_of (Within_s _ _ _) ?_
 simp only [wy,Sn.av,rnd_s,Int.reduceAdd,Int.reduceSub,decide_true,decide_false,i64_1,i64_2,i64_3,i64_4,true_and,Int.one_mul,Int.cast_ofNat_Int,Int.reduceToNat,Nat.zero_mul,Nat.reduceMul,Nat.zero_add,Nat.mul_one,List.getElem?_cons_zero,List.getElem?_cons_succ,vZ,Int.reduceEq,Int.reduceNe,Int.reduceLT,Int.reduceLE,Nat.reduceEqDiff,Nat.reduceAdd,reduceIte,reduceCtorEq,Nat.reduceLT,Nat.reduceLeDiff,Nat.reduceShiftRight,Nat.reduceMod]
 by_cases hqz : -1000≤q.z∧q.z≤1000
 case neg =>
  have wz:decide (-1000≤q.z∧q.z≤1000)=false:=decide_eq_false hqz
  refine callS_of (Within_s _ _ _) ?_
  simp only [wz,Sn.av,rnd_s,Int.reduceAdd,Int.reduceSub,decide_true,decide_false,i64_1,i64_2,i64_3,i64_4,true_and,Int.one_mul,Int.cast_ofNat_Int,Int.reduceToNat,Nat.zero_mul,Nat.reduceMul,Nat.zero_add,Nat.mul_one,List.getElem?_cons_zero,List.getElem?_cons_succ,vZ,Int.reduceEq,Int.reduceNe,Int.reduceLT,Int.reduceLE,Nat.reduceEqDiff,Nat.reduceAdd,reduceIte,reduceCtorEq,Nat.reduceLT,Nat.reduceLeDiff,Nat.reduceShiftRight,Nat.reduceMod]
 have wz:decide (-1000≤q.z∧q.z≤1000)=true:=decide_eq_true hqz
 refine callS_of (Within_s _ _ _) ?_
 have hq1:q.in 1000:=⟨hqx,hqy,hqz⟩
 have hsq:=Pl.sq_bd (Pl.in_mono hp) (Pl.in_mono hq1)
 obtain ⟨⟨p1,p2⟩,⟨p3,p4⟩,p5,p6⟩:=id hp
 simp only [wz,Sn.av,rnd_s,Int.reduceAdd,Int.reduceSub,decide_true,decide_false,i64_1,i64_2,i64_3,i64_4,true_and,Int.one_mul,Int.cast_ofNat_Int,Int.reduceToNat,Nat.zero_mul,Nat.reduceMul,Nat.zero_add,Nat.mul_one,List.getElem?_cons_zero,List.getElem?_cons_succ,vZ,Int.reduceEq,Int.reduceNe,Int.reduceLT,Int.reduceLE,Nat.reduceEqDiff,Nat.reduceAdd,reduceIte,reduceCtorEq,Nat.reduceLT,Nat.reduceLeDiff,Nat.reduceShiftRight,Nat.reduceMod]
 have m1:=sq_le (a:=x.p.x - q.x) (n:=2000) (by omega) (by omega)
 have m2:=sq_le (a:=x.p.y - q.y) (n:=2000) (by omega) (by omega)
 have m3:=sq_le (a:=x.p.z - q.z) (n:=2000) (by omega) (by omega)
 have he:=hx.e
 have hrec:(x.dist q).av=.agg [.int .i64 q.x,.int .i64 q.y,.int .i64 q.z,.int .i64 (max 0 (x.p.sq q - x.e)),.int .i64 (x.p.sq q+x.e)]:=rfl
 have hsqd:(x.p.x - q.x) * (x.p.x - q.x)+(x.p.y - q.y) * (x.p.y - q.y)+(x.p.z - q.z) * (x.p.z - q.z)=x.p.sq q:=rfl
 refine ⟨by unfold I64;omega,by unfold I64;omega,by unfold I64;omega,by unfold I64;omega,by unfold I64;omega,by unfold I64;omega,by unfold I64;omega,by unfold I64;omega,by unfold I64;omega,by unfold I64;omega,⟨(disL_length _).symm,by omega,by omega⟩,by unfold I64;omega,⟨i+1,by omega,?_⟩,by simp only;omega,?_⟩
 ·intro r hr
  rw [List.take_succ_eq_append_getElem hil,List.mem_append,List.mem_singleton,← hq] at hr
  rcases hr with hr | rfl
  ·exact hn r hr
  ·exact hq1
 have hda:disL (x.dl i ++ [x.dist q])=disL (x.dl i) ++ [(x.dist q).av]:=by simp [disL]
 have hfx:(disL (x.dl i) ++ [(x.dist q).av]).all Go.Av.fx=true:=by rw [← hda];exact disL_fxB _
 refine weakX [(200,some 219)] (of_decide_eq_true rfl) (of_decide_eq_true rfl) ?_
 (simp only [hds,hda,List.length_append,List.length_singleton,Sn.av,hsqd,← hrec,vcW,vZ,Int.reduceEq,Int.reduceNe,Int.reduceLT,Int.reduceLE,Nat.reduceEqDiff,Nat.reduceAdd,reduceIte,reduceCtorEq,Nat.reduceLT,Nat.reduceLeDiff,Nat.reduceShiftRight,Nat.reduceMod])
 refine ⟨by omega,RnB.fxB rfl,RnB.bb7 ⟨rfl,rfl⟩,RnB.fxB hfx⟩
set_option maxHeartbeats 8000000 in
set_option maxRecDepth 10000 in
theorem TI_7 (x:Sn) (hx:x.Ok) (hp:x.p.in 1000) :
  WL Tryd.prog 312 cl_top_TopIceDeployed_7 (endQ [(6,none)] (.bool true)) (envOf [(5,.ptr 5 0 0)]) (stOf [(5,⟨29,6,[x.av]⟩)]) .mk:=by
 obtain ⟨⟨p1,p2⟩,⟨p3,p4⟩,p5,p6⟩:=id hp
 have ha:=hx.a
 simp only [cl_top_TopIceDeployed_7,Sn.av,rnd_s,Int.reduceAdd,Int.reduceSub,decide_true,decide_false,i64_1,i64_2,i64_3,i64_4,true_and,Int.one_mul,Int.cast_ofNat_Int,Int.reduceToNat,Nat.zero_mul,Nat.reduceMul,Nat.zero_add,Nat.mul_one,List.getElem?_cons_zero,List.getElem?_cons_succ,vZ,Int.reduceEq,Int.reduceNe,Int.reduceLT,Int.reduceLE,Nat.reduceEqDiff,Nat.reduceAdd,reduceIte,reduceCtorEq,Nat.reduceLT,Nat.reduceLeDiff,Nat.reduceShiftRight,Nat.reduceMod]
 refine callS_of (around_s _ _ (by unfold I64;omega) (by unfold I64;omega)) ?_
 simp only [Sn.av,rnd_s,Int.reduceAdd,Int.reduceSub,decide_true,decide_false,i64_1,i64_2,i64_3,i64_4,true_and,Int.one_mul,Int.cast_ofNat_Int,Int.reduceToNat,Nat.zero_mul,Nat.reduceMul,Nat.zero_add,Nat.mul_one,List.getElem?_cons_zero,List.getElem?_cons_succ,vZ,Int.reduceEq,Int.reduceNe,Int.reduceLT,Int.reduceLE,Nat.reduceEqDiff,Nat.reduceAdd,reduceIte,reduceCtorEq,Nat.reduceLT,Nat.reduceLeDiff,Nat.reduceShiftRight,Nat.reduceMod]
 refine callS_of (around_s _ _ (by unfold I64;omega) (by unfold I64;omega)) ?_
 simp only [Sn.av,rnd_s,Int.reduceAdd,Int.reduceSub,decide_true,decide_false,i64_1,i64_2,i64_3,i64_4,true_and,Int.one_mul,Int.cast_ofNat_Int,Int.reduceToNat,Nat.zero_mul,Nat.reduceMul,Nat.zero_add,Nat.mul_one,List.getElem?_cons_zero,List.getElem?_cons_succ,vZ,Int.reduceEq,Int.reduceNe,Int.reduceLT,Int.reduceLE,Nat.reduceEqDiff,Nat.reduceAdd,reduceIte,reduceCtorEq,Nat.reduceLT,Nat.reduceLeDiff,Nat.reduceShiftRight,Nat.reduceMod]
 refine callS_of (around_s _ _ (by unfold I64;omega) (by unfold I64;omega)) ?_
 simp only [Sn.av,rnd_s,Int.reduceAdd,Int.reduceSub,decide_true,decide_false,i64_1,i64_2,i64_3,i64_4,true_and,Int.one_mul,Int.cast_ofNat_Int,Int.reduceToNat,Nat.zero_mul,Nat.reduceMul,Nat.zero_add,Nat.mul_one,List.getElem?_cons_zero,List.getElem?_cons_succ,vZ,Int.reduceEq,Int.reduceNe,Int.reduceLT,Int.reduceLE,Nat.reduceEqDiff,Nat.reduceAdd,reduceIte,reduceCtorEq,Nat.reduceLT,Nat.reduceLeDiff,Nat.reduceShiftRight,Nat.reduceMod]
 refine WL_cutW (envOf [(5,.ptr 5 0 0),(15,.ptr 15 0 0)],stOf [(5,⟨29,6,[x.av]⟩),(15,⟨44,7,[.agg [.int .i64 x.box.xl,.int .i64 x.box.xh,.int .i64 x.box.yl,.int .i64 x.box.yh,.int .i64 x.box.zl,.int .i64 x.box.zh,.nils]]⟩)]) rfl ?_ (TI_8 x hx hp)
 refine weakX [] (of_decide_eq_true rfl) (of_decide_eq_true rfl) ?_
 (simp only [Sn.av,Sn.box,vcW,vZ,Int.reduceEq,Int.reduceNe,Int.reduceLT,Int.reduceLE,Nat.reduceEqDiff,Nat.reduceAdd,reduceIte,reduceCtorEq,Nat.reduceLT,Nat.reduceLeDiff,Nat.reduceShiftRight,Nat.reduceMod])
 exact ⟨RnB.fxB rfl,RnB.same fun y hy=>by simp at hy;subst hy;rfl⟩
set_option maxHeartbeats 8000000 in
set_option maxRecDepth 10000 in
theorem TI_6 (x:Sn) (hx:x.Ok) :
  WL Tryd.prog 312 cl_top_TopIceDeployed_6 (endQ [(6,none)] (.bool true)) (envOf [(5,.ptr 5 0 0),(13,.buf 114 3)]) (stOf [(5,⟨29,6,[x.av]⟩),(114,⟨3,1,ints [x.p.x,x.p.y,x.p.z]⟩)]) .mk:=by
 have hML:1000000000≤maxLen:=by decide
 simp only [cl_top_TopIceDeployed_6,Sn.av,rnd_s,Int.reduceAdd,Int.reduceSub,decide_true,decide_false,i64_1,i64_2,i64_3,i64_4,true_and,Int.one_mul,Int.cast_ofNat_Int,Int.reduceToNat,Nat.zero_mul,Nat.reduceMul,Nat.zero_add,Nat.mul_one,List.getElem?_cons_zero,List.getElem?_cons_succ,vZ,Int.reduceEq,Int.reduceNe,Int.reduceLT,Int.reduceLE,Nat.reduceEqDiff,Nat.reduceAdd,reduceIte,reduceCtorEq,Nat.reduceLT,Nat.reduceLeDiff,Nat.reduceShiftRight,Nat.reduceMod]
 refine WL_loop (t:=.mk) (α:=PSigma fun i:Nat=>i≤3∧(∀ q ∈ [x.p.x,x.p.y,x.p.z].take i, -1000≤q∧q≤1000)) (fun ⟨i,_⟩=>((envOf [(5,.ptr 5 0 0),(13,.buf 114 3),(14,.int .i64 i)],stOf [(5,⟨29,6,[x.av]⟩),(114,⟨3,1,ints [x.p.x,x.p.y,x.p.z]⟩)]))) (fun i=>3 - i.1) ⟨0,Nat.zero_le _,?_⟩ ?_ (fun ⟨i,hi,hn⟩=>?_)
 ·simp
 ·refine weakX [] (of_decide_eq_true rfl) (of_decide_eq_true rfl) ?_
  (simp only [Sn.av,vcW,vZ,Int.reduceEq,Int.reduceNe,Int.reduceLT,Int.reduceLE,Nat.reduceEqDiff,Nat.reduceAdd,reduceIte,reduceCtorEq,Nat.reduceLT,Nat.reduceLeDiff,Nat.reduceShiftRight,Nat.reduceMod])
  exact ⟨rfl,RnB.fxB rfl,RnB.fxB rfl⟩
 dsimp only
 by_cases hil:i<3
 case neg =>
  have hie:i=3:=by omega
  subst hie
  have hin:x.p.in 1000:=by
   have h1:=hn x.p.x (by simp)
   have h2:=hn x.p.y (by simp)
   have h3:=hn x.p.z (by simp)
   exact ⟨h1,h2,h3⟩
  have h0:decide (((3:Nat):Int)<3)=false:=rfl
  simp only [cl_top_TopIceDeployed_b0,h0,Sn.av,rnd_s,Int.reduceAdd,Int.reduceSub,decide_true,decide_false,i64_1,i64_2,i64_3,i64_4,true_and,Int.one_mul,Int.cast_ofNat_Int,Int.reduceToNat,Nat.zero_mul,Nat.reduceMul,Nat.zero_add,Nat.mul_one,List.getElem?_cons_zero,List.getElem?_cons_succ,vZ,Int.reduceEq,Int.reduceNe,Int.reduceLT,Int.reduceLE,Nat.reduceEqDiff,Nat.reduceAdd,reduceIte,reduceCtorEq,Nat.reduceLT,Nat.reduceLeDiff,Nat.reduceShiftRight,Nat.reduceMod]
  refine WL_cutW (envOf [(5,.ptr 5 0 0)],stOf [(5,⟨29,6,[x.av]⟩)]) rfl ?_ (TI_7 x hx hin)
  refine weakX [] (of_decide_eq_true rfl) (of_decide_eq_true rfl) ?_
  (simp only [Sn.av,vcW,vZ,Int.reduceEq,Int.reduceNe,Int.reduceLT,Int.reduceLE,Nat.reduceEqDiff,Nat.reduceAdd,reduceIte,reduceCtorEq,Nat.reduceLT,Nat.reduceLeDiff,Nat.reduceShiftRight,Nat.reduceMod])
  exact RnB.fxB rfl
 have h0:decide ((i:Int)<3)=true:=decide_eq_true (by omega)
 obtain ⟨n,hq⟩:∃ n,n=[x.p.x,x.p.y,x.p.z][i]:=⟨_,rfl⟩
 have hget:(ints [x.p.x,x.p.y,x.p.z])[i]?=some (.int .i64 n):=by
  rw [hq]
  match i,hil with
  | 0,_=>rfl
  | 1,_=>rfl
  | 2,_=>rfl
 simp only [cl_top_TopIceDeployed_b0,h0,hget,Sn.av,rnd_s,Int.reduceAdd,Int.reduceSub,decide_true,decide_false,i64_1,i64_2,i64_3,i64_4,true_and,Int.one_mul,Int.cast_ofNat_Int,Int.reduceToNat,Nat.zero_mul,Nat.reduceMul,Nat.zero_add,Nat.mul_one,List.getElem?_cons_zero,List.getElem?_cons_succ,vZ,Int.reduceEq,Int.reduceNe,Int.reduceLT,Int.reduceLE,Nat.reduceEqDiff,Nat.reduceAdd,reduceIte,reduceCtorEq,Nat.reduceLT,Nat.reduceLeDiff,Nat.reduceShiftRight,Nat.reduceMod]
 refine ⟨⟨by omega,by omega⟩,?_⟩
 by_cases hqx : -1000≤n∧n≤1000
 case neg =>
  have wx:decide (-1000≤n∧n≤1000)=false:=decide_eq_false hqx
  refine callS_of (Within_s _ _ _) ?_
  simp only [wx,Sn.av,rnd_s,Int.reduceAdd,Int.reduceSub,decide_true,decide_false,i64_1,i64_2,i64_3,i64_4,true_and,Int.one_mul,Int.cast_ofNat_Int,Int.reduceToNat,Nat.zero_mul,Nat.reduceMul,Nat.zero_add,Nat.mul_one,List.getElem?_cons_zero,List.getElem?_cons_succ,vZ,Int.reduceEq,Int.reduceNe,Int.reduceLT,Int.reduceLE,Nat.reduceEqDiff,Nat.reduceAdd,reduceIte,reduceCtorEq,Nat.reduceLT,Nat.reduceLeDiff,Nat.reduceShiftRight,Nat.reduceMod]
 have wx:decide (-1000≤n∧n≤1000)=true:=decide_eq_true hqx
 refine callS_of (Within_s _ _ _) ?_
 simp only [wx,Sn.av,rnd_s,Int.reduceAdd,Int.reduceSub,decide_true,decide_false,i64_1,i64_2,i64_3,i64_4,true_and,Int.one_mul,Int.cast_ofNat_Int,Int.reduceToNat,Nat.zero_mul,Nat.reduceMul,Nat.zero_add,Nat.mul_one,List.getElem?_cons_zero,List.getElem?_cons_succ,vZ,Int.reduceEq,Int.reduceNe,Int.reduceLT,Int.reduceLE,Nat.reduceEqDiff,Nat.reduceAdd,reduceIte,reduceCtorEq,Nat.reduceLT,Nat.reduceLeDiff,Nat.reduceShiftRight,Nat.reduceMod]
 refine ⟨by unfold I64;omega,⟨i+1,by omega,?_⟩,by simp only;omega,?_⟩
 ·intro r hr
  rw [List.take_succ_eq_append_getElem (by exact hil),List.mem_append,List.mem_singleton,← hq] at hr
  rcases hr with hr | rfl
  ·exact hn r hr
  ·exact hqx
 refine weakX [] (of_decide_eq_true rfl) (of_decide_eq_true rfl) ?_
 (simp only [Sn.av,vcW,vZ,Int.reduceEq,Int.reduceNe,Int.reduceLT,Int.reduceLE,Nat.reduceEqDiff,Nat.reduceAdd,reduceIte,reduceCtorEq,Nat.reduceLT,Nat.reduceLeDiff,Nat.reduceShiftRight,Nat.reduceMod])
 exact ⟨by omega,RnB.fxB rfl,RnB.fxB rfl⟩
set_option maxHeartbeats 8000000 in
set_option maxRecDepth 10000 in
theorem Top_s (h:Hole) (pace:Int) (x:Sn):Sound Tryd.prog 3 [h.av,.int .i64 pace,x.av] (.bool true):=by
 refine sound_WL f_top_TopIceDeployed e_top_TopIceDeployed (Nat.le_of_ble_eq_true rfl) ?_
 have hML:1000000000≤maxLen:=by decide
 have hRe:=refHoleErr_s h
 simp only [Hole.av] at hRe
 simp only [cl_top_TopIceDeployed,Hole.av,Sn.av,rnd_s,Int.reduceAdd,Int.reduceSub,decide_true,decide_false,i64_1,i64_2,i64_3,i64_4,true_and,Int.one_mul,Int.cast_ofNat_Int,Int.reduceToNat,Nat.zero_mul,Nat.reduceMul,Nat.zero_add,Nat.mul_one,List.getElem?_cons_zero,List.getElem?_cons_succ,vZ,Int.reduceEq,Int.reduceNe,Int.reduceLT,Int.reduceLE,Nat.reduceEqDiff,Nat.reduceAdd,reduceIte,reduceCtorEq,Nat.reduceLT,Nat.reduceLeDiff,Nat.reduceShiftRight,Nat.reduceMod]
 refine callS_of iceShown_s ?_
 simp only [Hole.av,Sn.av,rnd_s,Int.reduceAdd,Int.reduceSub,decide_true,decide_false,i64_1,i64_2,i64_3,i64_4,true_and,Int.one_mul,Int.cast_ofNat_Int,Int.reduceToNat,Nat.zero_mul,Nat.reduceMul,Nat.zero_add,Nat.mul_one,List.getElem?_cons_zero,List.getElem?_cons_succ,vZ,Int.reduceEq,Int.reduceNe,Int.reduceLT,Int.reduceLE,Nat.reduceEqDiff,Nat.reduceAdd,reduceIte,reduceCtorEq,Nat.reduceLT,Nat.reduceLeDiff,Nat.reduceShiftRight,Nat.reduceMod]
 by_cases q1:20<h.w.length
 case pos =>
  have g1:decide ((20:Int)<h.w.length)=true:=decide_eq_true (by omega)
  simp only [g1,Hole.av,Sn.av,rnd_s,Int.reduceAdd,Int.reduceSub,decide_true,decide_false,i64_1,i64_2,i64_3,i64_4,true_and,Int.one_mul,Int.cast_ofNat_Int,Int.reduceToNat,Nat.zero_mul,Nat.reduceMul,Nat.zero_add,Nat.mul_one,List.getElem?_cons_zero,List.getElem?_cons_succ,vZ,Int.reduceEq,Int.reduceNe,Int.reduceLT,Int.reduceLE,Nat.reduceEqDiff,Nat.reduceAdd,reduceIte,reduceCtorEq,Nat.reduceLT,Nat.reduceLeDiff,Nat.reduceShiftRight,Nat.reduceMod]
 have g1:decide ((20:Int)<h.w.length)=false:=decide_eq_false (by omega)
 simp only [g1,Hole.av,Sn.av,rnd_s,Int.reduceAdd,Int.reduceSub,decide_true,decide_false,i64_1,i64_2,i64_3,i64_4,true_and,Int.one_mul,Int.cast_ofNat_Int,Int.reduceToNat,Nat.zero_mul,Nat.reduceMul,Nat.zero_add,Nat.mul_one,List.getElem?_cons_zero,List.getElem?_cons_succ,vZ,Int.reduceEq,Int.reduceNe,Int.reduceLT,Int.reduceLE,Nat.reduceEqDiff,Nat.reduceAdd,reduceIte,reduceCtorEq,Nat.reduceLT,Nat.reduceLeDiff,Nat.reduceShiftRight,Nat.reduceMod]
 by_cases q2:h.err.2=0
 case neg =>
  have g2:decide (h.err.2=0)=false:=decide_eq_false q2
  refine callS_of hRe ?_
  simp only [g2,Hole.av,Sn.av,rnd_s,Int.reduceAdd,Int.reduceSub,decide_true,decide_false,i64_1,i64_2,i64_3,i64_4,true_and,Int.one_mul,Int.cast_ofNat_Int,Int.reduceToNat,Nat.zero_mul,Nat.reduceMul,Nat.zero_add,Nat.mul_one,List.getElem?_cons_zero,List.getElem?_cons_succ,vZ,Int.reduceEq,Int.reduceNe,Int.reduceLT,Int.reduceLE,Nat.reduceEqDiff,Nat.reduceAdd,reduceIte,reduceCtorEq,Nat.reduceLT,Nat.reduceLeDiff,Nat.reduceShiftRight,Nat.reduceMod]
 have ho:=Hole.ok_of q2
 have g2:decide (h.err.2=0)=true:=decide_eq_true q2
 refine callS_of hRe ?_
 simp only [g2,Hole.av,Sn.av,rnd_s,Int.reduceAdd,Int.reduceSub,decide_true,decide_false,i64_1,i64_2,i64_3,i64_4,true_and,Int.one_mul,Int.cast_ofNat_Int,Int.reduceToNat,Nat.zero_mul,Nat.reduceMul,Nat.zero_add,Nat.mul_one,List.getElem?_cons_zero,List.getElem?_cons_succ,vZ,Int.reduceEq,Int.reduceNe,Int.reduceLT,Int.reduceLE,Nat.reduceEqDiff,Nat.reduceAdd,reduceIte,reduceCtorEq,Nat.reduceLT,Nat.reduceLeDiff,Nat.reduceShiftRight,Nat.reduceMod]
 by_cases q3:0≤pace∧pace≤1000000
 case neg =>
  have g3:decide (0≤pace∧pace≤1000000)=false:=decide_eq_false q3
  refine callS_of (Within_s _ _ _) ?_
  simp only [g3,Hole.av,Sn.av,rnd_s,Int.reduceAdd,Int.reduceSub,decide_true,decide_false,i64_1,i64_2,i64_3,i64_4,true_and,Int.one_mul,Int.cast_ofNat_Int,Int.reduceToNat,Nat.zero_mul,Nat.reduceMul,Nat.zero_add,Nat.mul_one,List.getElem?_cons_zero,List.getElem?_cons_succ,vZ,Int.reduceEq,Int.reduceNe,Int.reduceLT,Int.reduceLE,Nat.reduceEqDiff,Nat.reduceAdd,reduceIte,reduceCtorEq,Nat.reduceLT,Nat.reduceLeDiff,Nat.reduceShiftRight,Nat.reduceMod]
 have g3:decide (0≤pace∧pace≤1000000)=true:=decide_eq_true q3
 refine callS_of (Within_s _ _ _) ?_
 simp only [g3,Hole.av,Sn.av,rnd_s,Int.reduceAdd,Int.reduceSub,decide_true,decide_false,i64_1,i64_2,i64_3,i64_4,true_and,Int.one_mul,Int.cast_ofNat_Int,Int.reduceToNat,Nat.zero_mul,Nat.reduceMul,Nat.zero_add,Nat.mul_one,List.getElem?_cons_zero,List.getElem?_cons_succ,vZ,Int.reduceEq,Int.reduceNe,Int.reduceLT,Int.reduceLE,Nat.reduceEqDiff,Nat.reduceAdd,reduceIte,reduceCtorEq,Nat.reduceLT,Nat.reduceLeDiff,Nat.reduceShiftRight,Nat.reduceMod]
 by_cases q4:0≤x.a∧x.a≤4
 case neg =>
  have g4:decide (0≤x.a∧x.a≤4)=false:=decide_eq_false q4
  refine callS_of (Within_s _ _ _) ?_
  simp only [g4,Hole.av,Sn.av,rnd_s,Int.reduceAdd,Int.reduceSub,decide_true,decide_false,i64_1,i64_2,i64_3,i64_4,true_and,Int.one_mul,Int.cast_ofNat_Int,Int.reduceToNat,Nat.zero_mul,Nat.reduceMul,Nat.zero_add,Nat.mul_one,List.getElem?_cons_zero,List.getElem?_cons_succ,vZ,Int.reduceEq,Int.reduceNe,Int.reduceLT,Int.reduceLE,Nat.reduceEqDiff,Nat.reduceAdd,reduceIte,reduceCtorEq,Nat.reduceLT,Nat.reduceLeDiff,Nat.reduceShiftRight,Nat.reduceMod]
 have g4:decide (0≤x.a∧x.a≤4)=true:=decide_eq_true q4
 refine callS_of (Within_s _ _ _) ?_
 simp only [g4,Hole.av,Sn.av,rnd_s,Int.reduceAdd,Int.reduceSub,decide_true,decide_false,i64_1,i64_2,i64_3,i64_4,true_and,Int.one_mul,Int.cast_ofNat_Int,Int.reduceToNat,Nat.zero_mul,Nat.reduceMul,Nat.zero_add,Nat.mul_one,List.getElem?_cons_zero,List.getElem?_cons_succ,vZ,Int.reduceEq,Int.reduceNe,Int.reduceLT,Int.reduceLE,Nat.reduceEqDiff,Nat.reduceAdd,reduceIte,reduceCtorEq,Nat.reduceLT,Nat.reduceLeDiff,Nat.reduceShiftRight,Nat.reduceMod]
 by_cases q5:0≤x.e∧x.e≤1000
 case neg =>
  have g5:decide (0≤x.e∧x.e≤1000)=false:=decide_eq_false q5
  refine callS_of (Within_s _ _ _) ?_
  simp only [g5,Hole.av,Sn.av,rnd_s,Int.reduceAdd,Int.reduceSub,decide_true,decide_false,i64_1,i64_2,i64_3,i64_4,true_and,Int.one_mul,Int.cast_ofNat_Int,Int.reduceToNat,Nat.zero_mul,Nat.reduceMul,Nat.zero_add,Nat.mul_one,List.getElem?_cons_zero,List.getElem?_cons_succ,vZ,Int.reduceEq,Int.reduceNe,Int.reduceLT,Int.reduceLE,Nat.reduceEqDiff,Nat.reduceAdd,reduceIte,reduceCtorEq,Nat.reduceLT,Nat.reduceLeDiff,Nat.reduceShiftRight,Nat.reduceMod]
 have g5:decide (0≤x.e∧x.e≤1000)=true:=decide_eq_true q5
 refine callS_of (Within_s _ _ _) ?_
 by_cases q6:8<x.k.length
 case pos =>
  have g6:decide ((8:Int)<x.k.length)=true:=decide_eq_true (by omega)
  simp only [g5,g6,plsL_length,Hole.av,Sn.av,rnd_s,Int.reduceAdd,Int.reduceSub,decide_true,decide_false,i64_1,i64_2,i64_3,i64_4,true_and,Int.one_mul,Int.cast_ofNat_Int,Int.reduceToNat,Nat.zero_mul,Nat.reduceMul,Nat.zero_add,Nat.mul_one,List.getElem?_cons_zero,List.getElem?_cons_succ,vZ,Int.reduceEq,Int.reduceNe,Int.reduceLT,Int.reduceLE,Nat.reduceEqDiff,Nat.reduceAdd,reduceIte,reduceCtorEq,Nat.reduceLT,Nat.reduceLeDiff,Nat.reduceShiftRight,Nat.reduceMod]
 have g6:decide ((8:Int)<x.k.length)=false:=decide_eq_false (by omega)
 have hx:x.Ok:=⟨by omega,q4,q5⟩
 have hcp:=CopyHole_s h (by omega) (by have:=ho.eq;omega)
 have hLs:=LatestStart_s h ho pace q3
 have hlat:=ho.lat q3 h.w.length (Nat.le_refl _)
 have hlaw:=ho.law q3
 generalize h.lat pace h.w.length=lat at *
 simp only [Hole.av] at hcp hLs
 simp only [g5,g6,plsL_length,Hole.av,Sn.av,rnd_s,Int.reduceAdd,Int.reduceSub,decide_true,decide_false,i64_1,i64_2,i64_3,i64_4,true_and,Int.one_mul,Int.cast_ofNat_Int,Int.reduceToNat,Nat.zero_mul,Nat.reduceMul,Nat.zero_add,Nat.mul_one,List.getElem?_cons_zero,List.getElem?_cons_succ,vZ,Int.reduceEq,Int.reduceNe,Int.reduceLT,Int.reduceLE,Nat.reduceEqDiff,Nat.reduceAdd,reduceIte,reduceCtorEq,Nat.reduceLT,Nat.reduceLeDiff,Nat.reduceShiftRight,Nat.reduceMod]
 refine callS_of hcp ?_
 simp only [Hole.av,Sn.av,rnd_s,Int.reduceAdd,Int.reduceSub,decide_true,decide_false,i64_1,i64_2,i64_3,i64_4,true_and,Int.one_mul,Int.cast_ofNat_Int,Int.reduceToNat,Nat.zero_mul,Nat.reduceMul,Nat.zero_add,Nat.mul_one,List.getElem?_cons_zero,List.getElem?_cons_succ,vZ,Int.reduceEq,Int.reduceNe,Int.reduceLT,Int.reduceLE,Nat.reduceEqDiff,Nat.reduceAdd,reduceIte,reduceCtorEq,Nat.reduceLT,Nat.reduceLeDiff,Nat.reduceShiftRight,Nat.reduceMod]
 refine callS_of hLs ?_
 by_cases h0:lat<0
 case pos =>
  simp only [h0,Hole.av,Sn.av,rnd_s,Int.reduceAdd,Int.reduceSub,decide_true,decide_false,i64_1,i64_2,i64_3,i64_4,true_and,Int.one_mul,Int.cast_ofNat_Int,Int.reduceToNat,Nat.zero_mul,Nat.reduceMul,Nat.zero_add,Nat.mul_one,List.getElem?_cons_zero,List.getElem?_cons_succ,vZ,Int.reduceEq,Int.reduceNe,Int.reduceLT,Int.reduceLE,Nat.reduceEqDiff,Nat.reduceAdd,reduceIte,reduceCtorEq,Nat.reduceLT,Nat.reduceLeDiff,Nat.reduceShiftRight,Nat.reduceMod]
  refine WL_cutW (envOf [(5,.ptr 5 0 0),(13,.buf 114 3)],stOf [(5,⟨29,6,[x.av]⟩),(114,⟨3,1,ints [x.p.x,x.p.y,x.p.z]⟩)]) rfl ?_ (TI_6 x hx)
  refine weakX [] (of_decide_eq_true rfl) (of_decide_eq_true rfl) ?_
  (simp only [Sn.av,vcW,vZ,Int.reduceEq,Int.reduceNe,Int.reduceLT,Int.reduceLE,Nat.reduceEqDiff,Nat.reduceAdd,reduceIte,reduceCtorEq,Nat.reduceLT,Nat.reduceLeDiff,Nat.reduceShiftRight,Nat.reduceMod])
  exact ⟨RnB.fxB rfl,RnB.fxB rfl⟩
 obtain ⟨w1,w2,w3,w4⟩:=hlaw (by omega)
 have hSp:=SlowestPace_s h ho lat (by omega) w1
 generalize h.slow lat h.w.length=sl at *
 have hLs2:=LatestStart_s h ho sl (by omega)
 generalize h.lat sl h.w.length=lat2 at *
 have h1:¬ lat2<0:=by omega
 have d1:decide (sl<pace)=false:=decide_eq_false (by omega)
 have d2:decide (lat2<lat)=false:=decide_eq_false (by omega)
 simp only [Hole.av] at hSp hLs2
 simp only [h0,Hole.av,Sn.av,rnd_s,Int.reduceAdd,Int.reduceSub,decide_true,decide_false,i64_1,i64_2,i64_3,i64_4,true_and,Int.one_mul,Int.cast_ofNat_Int,Int.reduceToNat,Nat.zero_mul,Nat.reduceMul,Nat.zero_add,Nat.mul_one,List.getElem?_cons_zero,List.getElem?_cons_succ,vZ,Int.reduceEq,Int.reduceNe,Int.reduceLT,Int.reduceLE,Nat.reduceEqDiff,Nat.reduceAdd,reduceIte,reduceCtorEq,Nat.reduceLT,Nat.reduceLeDiff,Nat.reduceShiftRight,Nat.reduceMod]
 refine callS_of hcp ?_
 simp only [Hole.av,Sn.av,rnd_s,Int.reduceAdd,Int.reduceSub,decide_true,decide_false,i64_1,i64_2,i64_3,i64_4,true_and,Int.one_mul,Int.cast_ofNat_Int,Int.reduceToNat,Nat.zero_mul,Nat.reduceMul,Nat.zero_add,Nat.mul_one,List.getElem?_cons_zero,List.getElem?_cons_succ,vZ,Int.reduceEq,Int.reduceNe,Int.reduceLT,Int.reduceLE,Nat.reduceEqDiff,Nat.reduceAdd,reduceIte,reduceCtorEq,Nat.reduceLT,Nat.reduceLeDiff,Nat.reduceShiftRight,Nat.reduceMod]
 refine callS_of hSp ?_
 simp only [Hole.av,Sn.av,rnd_s,Int.reduceAdd,Int.reduceSub,decide_true,decide_false,i64_1,i64_2,i64_3,i64_4,true_and,Int.one_mul,Int.cast_ofNat_Int,Int.reduceToNat,Nat.zero_mul,Nat.reduceMul,Nat.zero_add,Nat.mul_one,List.getElem?_cons_zero,List.getElem?_cons_succ,vZ,Int.reduceEq,Int.reduceNe,Int.reduceLT,Int.reduceLE,Nat.reduceEqDiff,Nat.reduceAdd,reduceIte,reduceCtorEq,Nat.reduceLT,Nat.reduceLeDiff,Nat.reduceShiftRight,Nat.reduceMod]
 refine callS_of hcp ?_
 simp only [Hole.av,Sn.av,rnd_s,Int.reduceAdd,Int.reduceSub,decide_true,decide_false,i64_1,i64_2,i64_3,i64_4,true_and,Int.one_mul,Int.cast_ofNat_Int,Int.reduceToNat,Nat.zero_mul,Nat.reduceMul,Nat.zero_add,Nat.mul_one,List.getElem?_cons_zero,List.getElem?_cons_succ,vZ,Int.reduceEq,Int.reduceNe,Int.reduceLT,Int.reduceLE,Nat.reduceEqDiff,Nat.reduceAdd,reduceIte,reduceCtorEq,Nat.reduceLT,Nat.reduceLeDiff,Nat.reduceShiftRight,Nat.reduceMod]
 refine callS_of hLs2 ?_
 simp only [h1,d1,d2,Hole.av,Sn.av,rnd_s,Int.reduceAdd,Int.reduceSub,decide_true,decide_false,i64_1,i64_2,i64_3,i64_4,true_and,Int.one_mul,Int.cast_ofNat_Int,Int.reduceToNat,Nat.zero_mul,Nat.reduceMul,Nat.zero_add,Nat.mul_one,List.getElem?_cons_zero,List.getElem?_cons_succ,vZ,Int.reduceEq,Int.reduceNe,Int.reduceLT,Int.reduceLE,Nat.reduceEqDiff,Nat.reduceAdd,reduceIte,reduceCtorEq,Nat.reduceLT,Nat.reduceLeDiff,Nat.reduceShiftRight,Nat.reduceMod]
 refine WL_cutW (envOf [(5,.ptr 5 0 0),(13,.buf 114 3)],stOf [(5,⟨29,6,[x.av]⟩),(114,⟨3,1,ints [x.p.x,x.p.y,x.p.z]⟩)]) rfl ?_ (TI_6 x hx)
 refine weakX [] (of_decide_eq_true rfl) (of_decide_eq_true rfl) ?_
 (simp only [Sn.av,vcW,vZ,Int.reduceEq,Int.reduceNe,Int.reduceLT,Int.reduceLE,Nat.reduceEqDiff,Nat.reduceAdd,reduceIte,reduceCtorEq,Nat.reduceLT,Nat.reduceLeDiff,Nat.reduceShiftRight,Nat.reduceMod])
 exact ⟨RnB.fxB rfl,RnB.fxB rfl⟩
end Go.Proofs.YtoiajhogondgcaaDoor

/- What the arguments of the law read as. By an AI agent;nothing here is trusted. -/
namespace Go.Proofs.YtoiajhogondgcaaDoor
open Go.Av

theorem Rd_map {P:Program} {t:TypeId} {A B:Type} {av:A→AV} {ok:A→Prop} {bv:B→AV} {okb:B→Prop} (h:Rd P t av ok) (g:∀ a,ok a→∃ b,okb b∧bv b=av a):Rd P t bv okb:=fun H enc W fuel cs x hx=>by
 obtain ⟨a,ha,hc⟩:=h H enc W fuel cs x hx
 obtain ⟨b,hb,e⟩:=g a ha
 exact ⟨b,hb,by rw [e];exact hc⟩
theorem rdI:Rd Tryd.prog 3 (AV.int .i64) (fun n=>I64 n):=Rd_i64 Tryd.underlying3
theorem rdIs:Rd Tryd.prog 22 (fun l=>.sl (ints l)) (fun l=>l.length≤maxLen) :=
 Rd_map (Rd_slice (s:=1) Tryd.underlying22 rdI (by kernel_rfl) (by decide) (fun _=>rfl) (fun _ _=>rfl)) (fun l h=>⟨l,h.1,rfl⟩)
def Hole.cells (h:Hole):List AV:=[.sl (ints h.w),.sl (ints h.s),.int .i64 h.need]
theorem rdHole:Rd Tryd.prog 24 (fun h:Hole=>.agg h.cells) (fun _=>True) :=
 Rd_map (Rd_struct (s:=3) Tryd.underlying24 (RdF_cons (s:=1) rdIs rfl (by kernel_rfl) (fun _=>rfl) (RdF_cons (s:=1) rdIs rfl (by kernel_rfl) (fun _=>rfl) (RdF_cons (s:=1) rdI rfl (by kernel_rfl) (fun _=>rfl) (RdF_nil _)))) (by kernel_rfl) (fun _=>rfl))
  (fun a _=>⟨⟨a.1,a.2.1,a.2.2.1⟩,trivial,rfl⟩)
theorem rdPl:Rd Tryd.prog 26 Pl.av (fun _=>True) :=
 Rd_map (Rd_struct (s:=3) Tryd.underlying26 (RdF_cons (s:=1) rdI rfl (by kernel_rfl) (fun _=>rfl) (RdF_cons (s:=1) rdI rfl (by kernel_rfl) (fun _=>rfl) (RdF_cons (s:=1) rdI rfl (by kernel_rfl) (fun _=>rfl) (RdF_nil _)))) (by kernel_rfl) (fun _=>rfl))
  (fun a _=>⟨⟨a.1,a.2.1,a.2.2.1⟩,trivial,rfl⟩)
theorem rdPls:Rd Tryd.prog 27 (fun l=>.sl (plsL l)) (fun l=>l.length≤maxLen) :=
 Rd_map (Rd_slice (s:=3) Tryd.underlying27 rdPl (by kernel_rfl) (by decide) (fun _=>rfl) (fun _ h=>h)) (fun l h=>⟨l,h.1,rfl⟩)
def Sn.cells (x:Sn):List AV:=[.int .i64 x.p.x,.int .i64 x.p.y,.int .i64 x.p.z,.sl (plsL x.k),.int .i64 x.a,.int .i64 x.e]
theorem rdSn:Rd Tryd.prog 29 (fun x:Sn=>.agg x.cells) (fun _=>True) :=
 Rd_map (Rd_struct (s:=6) Tryd.underlying29 (RdF_cons (s:=3) rdPl rfl (by kernel_rfl) (fun _=>rfl) (RdF_cons (s:=1) rdPls rfl (by kernel_rfl) (fun _=>rfl) (RdF_cons (s:=1) rdI rfl (by kernel_rfl) (fun _=>rfl) (RdF_cons (s:=1) rdI rfl (by kernel_rfl) (fun _=>rfl) (RdF_nil _))))) (by kernel_rfl) (fun _=>rfl))
  (fun a _=>⟨⟨a.1,a.2.1,a.2.2.1,a.2.2.2.1⟩,trivial,rfl⟩)
end Go.Proofs.YtoiajhogondgcaaDoor

