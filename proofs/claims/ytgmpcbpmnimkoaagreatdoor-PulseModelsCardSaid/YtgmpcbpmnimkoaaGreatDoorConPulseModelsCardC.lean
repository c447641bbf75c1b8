/- The solution for a set of ticks. By an AI agent; nothing here is trusted. -/
import Derived.Test.YtgmpcbpmnimkoaaGreatDoorConPulseModelsCardB
import Derived.Test.YtgmpcbpmnimkoaaGreatDoorConPulseModelsCardA
import Derived.Test.YtgmpcbpmnimkoaaGreatDoorLayC
import Derived.Test.YtgmpcbpmnimkoaaGreatDoorLayD
import Derived.Test.YtgmpcbpmnimkoaaGreatDoorKode
set_option linter.defProp false
set_option linter.unusedSimpArgs false
set_option linter.unusedVariables false
namespace Go.Proofs.YtgmpcbpmnimkoaaGreatDoor
open Go.Av

def ntA (T:List Nat):List Int:=T.map fun k:Nat=>(k:Int)
theorem ntA_len (T:List Nat):(ntA T).length=T.length:=by simp [ntA]
theorem ntA_get (T:List Nat) (i:Nat) (h:i<T.length):(ints (ntA T))[i]?=some (.int .i64 (T[i]:Int)):=by simp [ntA,ints,h]
def sqQ (G:List (List Int)) (T:List Nat) (k j:Nat):List Int:=(T.take j).map fun m=>ent G k m
def sqP (G:List (List Int)) (T:List Nat) (i:Nat):List (List Int):=(T.take i).map fun k=>sqQ G T k T.length
theorem sqQ_succ (G:List (List Int)) (T:List Nat) (k:Nat) {j:Nat} (h:j<T.length):sqQ G T k (j+1)=sqQ G T k j ++ [ent G k T[j]]:=by
 unfold sqQ;rw [List.take_succ_eq_append_getElem h,List.map_append];rfl
theorem sqP_succ (G:List (List Int)) (T:List Nat) {i:Nat} (h:i<T.length):sqP G T (i+1)=sqP G T i ++ [sqQ G T T[i] T.length]:=by
 unfold sqP;rw [List.take_succ_eq_append_getElem h,List.map_append];rfl
theorem sqQ_len (G:List (List Int)) (T:List Nat) (k:Nat) {j:Nat} (h:j≤T.length):(sqQ G T k j).length=j:=by unfold sqQ;rw [List.length_map,List.length_take_of_le h]
theorem sqP_len (G:List (List Int)) (T:List Nat) {i:Nat} (h:i≤T.length):(sqP G T i).length=i:=by unfold sqP;rw [List.length_map,List.length_take_of_le h]
def rpP (G:List (List Int)) (H:List Int) (T:List Nat) (n i:Nat):List (List Int):=(T.take i).map fun k=>(sqQ G T k T.length).set n (H.getD k 0)
theorem rpP_len (G:List (List Int)) (H:List Int) (T:List Nat) (n:Nat) {i:Nat} (h:i≤T.length):(rpP G H T n i).length=i:=by unfold rpP;rw [List.length_map,List.length_take_of_le h]
theorem rpP_succ (G:List (List Int)) (H:List Int) (T:List Nat) (n:Nat) {i:Nat} (h:i<T.length):rpP G H T n (i+1)=rpP G H T n i ++ [(sqQ G T T[i] T.length).set n (H.getD T[i] 0)]:=by
 unfold rpP;rw [List.take_succ_eq_append_getElem h,List.map_append];rfl
def slP (G:List (List Int)) (H:List Int) (T:List Nat):Nat→List (Bool × Nat)
 | 0=>List.replicate H.length (false,0)
 | n+1=>(slP G H T n).set (T.getD n 0) (dtP T.length (rpP G H T n T.length))
theorem slP_len (G:List (List Int)) (H:List Int) (T:List Nat):∀ n,(slP G H T n).length=H.length
 | 0=>by simp [slP]
 | n+1=>by rw [slP,List.length_set,slP_len G H T n]
theorem w2s_set (P:List (Bool × Nat)) (i:Nat) (p:Bool × Nat):(w2s P).set i (wdA p.1 p.2)=w2s (P.set i p):=by simp [w2s,List.map_set]
theorem mkOk_w (n:Nat):mkOk 3 (List.replicate n (AV.agg [.bool false,.int .u64 0,.int .u64 0])):=by
 intro x hx
 rw [List.eq_of_mem_replicate hx]
 exact ⟨rfl,rfl,by decide⟩
theorem w2s_zero (n:Nat):List.replicate n (AV.agg [.bool false,.int .u64 0,.int .u64 0])=w2s (List.replicate n (false,0)):=by
 simp [w2s,wdA]
structure SlB (G:List (List Int)) (H:List Int) (T:List Nat) (GM RM:Nat):Prop where
 g:∀ r c,(ent G r c).natAbs≤GM
 h:∀ k,(H.getD k 0).natAbs≤RM
 gl:G.length=H.length∧H.length≤5∧∀ r ∈ G,r.length=H.length
 t:∀ k ∈ T,k<H.length
 tl:T.length≤5
 m:1≤GM∧GM≤RM∧RM≤1000000000000000000
 b:prB T.length (fun _=>RM)<170141183460469231731687303715884105728
theorem bnd_sq {G:List (List Int)} {H:List Int} {T:List Nat} {GM RM:Nat} (B:SlB G H T GM RM):bnd T.length (sqP G T T.length) fun _=>GM:=by
 intro r c hr hc
 have e:ent (sqP G T T.length) r c=ent G T[r] T[c]:=by
  unfold ent sqP sqQ
  rw [List.take_length]
  simp [hr,hc,ent]
 rw [e]
 exact B.g _ _
theorem ent_rp {G:List (List Int)} {H:List Int} {T:List Nat} {n r c:Nat} (hr:r<T.length) (hc:c<T.length):ent (rpP G H T n T.length) r c=if c=n then H.getD (T.getD r 0) 0 else ent G (T.getD r 0) (T.getD c 0):=by
 unfold ent rpP sqQ
 rw [List.take_length]
 have e1:T.getD r 0=T[r]:=by rw [List.getD_eq_getElem?_getD,List.getElem?_eq_getElem hr];rfl
 have e2:T.getD c 0=T[c]:=by rw [List.getD_eq_getElem?_getD,List.getElem?_eq_getElem hc];rfl
 rw [e1,e2]
 simp only [List.getD_eq_getElem?_getD,List.getElem?_map,List.getElem?_eq_getElem hr,Option.map_some,Option.getD_some,List.getElem?_set,List.length_map]
 by_cases e:n=c
 ·subst e;rw [if_pos rfl,if_pos hc,if_pos rfl];rfl
 ·rw [if_neg e,if_neg (fun q=>e q.symm)];simp [hc,ent]
theorem ent_sq {G:List (List Int)} {T:List Nat} {r c:Nat} (hr:r<T.length) (hc:c<T.length):ent (sqP G T T.length) r c=ent G (T.getD r 0) (T.getD c 0):=by
 unfold ent sqP sqQ
 rw [List.take_length]
 simp [hr,hc,ent]
theorem bnd_rp {G:List (List Int)} {H:List Int} {T:List Nat} {GM RM:Nat} (B:SlB G H T GM RM) (n:Nat):bnd T.length (rpP G H T n T.length) fun c=>if c=n then RM else GM:=by
 intro r c hr hc
 rw [ent_rp hr hc]
 simp only
 split
 ·exact B.h _
 ·exact B.g _ _
theorem prB_mono:∀ {n:Nat} {A B:Nat→Nat},(∀ c,c<n→A c≤B c)→prB n A≤prB n B
 | 0,_,_,_=>Nat.le_refl _
 | n+1,A,B,h=>Nat.mul_le_mul_left _ (Nat.mul_le_mul (h 0 (by omega)) (prB_mono fun c hc=>h (c+1) (by omega)))
theorem sq_mem {G:List (List Int)} {T:List Nat} {r:List Int} {i:Nat} (h:r ∈ sqP G T i):r.length=T.length:=by
 obtain ⟨k,_,rfl⟩:=List.mem_map.1 h
 exact sqQ_len _ _ _ (Nat.le_refl _)
theorem rp_mem {G:List (List Int)} {H:List Int} {T:List Nat} {r:List Int} {n i:Nat} (h:r ∈ rpP G H T n i):r.length=T.length:=by
 obtain ⟨k,_,rfl⟩:=List.mem_map.1 h
 rw [List.length_set]
 exact sqQ_len _ _ _ (Nat.le_refl _)
theorem det_sq {G:List (List Int)} {H:List Int} {T:List Nat} {GM RM:Nat} (B:SlB G H T GM RM):Sound Tryz.prog 184 [.sl (lls (sqP G T T.length))] (wdA (dtP T.length (sqP G T T.length)).1 (dtP T.length (sqP G T T.length)).2):=by
 refine determinant_s T.length _ (fun _=>GM) (by have:=B.tl;omega) (sqP_len _ _ (Nat.le_refl _)) (fun r hr=>by rw [sq_mem hr];have:=B.tl;omega) (bnd_sq B) (fun c _=>B.m.1) ?_ (fun c _=>by have:=B.m;omega)
 exact Nat.lt_of_le_of_lt (prB_mono fun c _=>B.m.2.1) B.b
theorem det_rp {G:List (List Int)} {H:List Int} {T:List Nat} {GM RM:Nat} (B:SlB G H T GM RM) (n:Nat):Sound Tryz.prog 184 [.sl (lls (rpP G H T n T.length))] (wdA (dtP T.length (rpP G H T n T.length)).1 (dtP T.length (rpP G H T n T.length)).2):=by
 have hm:=B.m
 refine determinant_s T.length _ (fun c=>if c=n then RM else GM) (by have:=B.tl;omega) (rpP_len _ _ _ _ (Nat.le_refl _)) (fun r hr=>by rw [rp_mem hr];have:=B.tl;omega) (bnd_rp B n) (fun c _=>by split <;> omega) ?_ (fun c _=>by split <;> omega)
 exact Nat.lt_of_le_of_lt (prB_mono fun c _=>by split <;> omega) B.b
set_option maxHeartbeats 4000000 in
theorem solved_s {G:List (List Int)} {H:List Int} {T:List Nat} {GM RM:Nat} (B:SlB G H T GM RM) :
  Sound Tryz.prog 94 [.agg [.sl (lls G),.sl (ints H)],.sl (ints (ntA T))] (.tup [wdA (dtP T.length (sqP G T T.length)).1 (dtP T.length (sqP G T T.length)).2,.sl (w2s (slP G H T T.length))]):=by
 refine sound_W f_pulse_problem_solved (Nat.le_of_ble_eq_true rfl) ?_
 have hmax:=maxLen_big
 have hD:=det_sq B
 have hR:=det_rp B
 obtain ⟨bg,bh,⟨bl1,bl2,bl3⟩,bt,btl,bm,bb⟩:=B
 obtain ⟨D,hDd⟩:∃ D,D=dtP T.length (sqP G T T.length):=⟨_,rfl⟩
 rw [← hDd] at hD ⊢
 have htb:∀ i (h:i<T.length),T[i]<H.length:=fun i h=>bt _ (List.getElem_mem h)
 have hgk:∀ k (h:k<H.length),∃ g:List Int,(lls G)[k]?=some (.sl (ints g))∧g.length=H.length∧∀ m (hm:m<H.length),(ints g)[m]?=some (.int .i64 (ent G k m)):=fun k h=>by
  refine ⟨G[k]'(by omega),lls_get G k (by omega),bl3 _ (List.getElem_mem _),fun m hm=>?_⟩
  have hlm:m<(G[k]'(by omega)).length:=by rw [bl3 _ (List.getElem_mem _)];exact hm
  rw [ints_get _ m hlm]
  unfold ent
  rw [List.getD_eq_getElem?_getD,List.getD_eq_getElem?_getD,List.getElem?_eq_getElem (show k<G.length by omega),Option.getD_some,List.getElem?_eq_getElem hlm];rfl
 unfold wdA at hD ⊢
 simp only [c_pulse_problem_solved,ntA_len,ints_length,vZ,Int.reduceEq,Int.reduceNe,Int.reduceLT,Int.reduceLE,Nat.reduceEqDiff,Nat.reduceAdd,reduceIte,reduceCtorEq,Nat.reduceLT,Nat.reduceLeDiff,Nat.reduceShiftRight,Nat.reduceMod]
 refine W_loop (t:=.mk) (α:=PSigma fun i:Nat=>i≤T.length) (fun ⟨i,_⟩=>(envOf [(1,.sl (ints (ntA T))),(2,.ptr 2 0 0),(4,.ptr 4 0 0),(5,.nils),(6,.buf 100 i),(17,.sl (ints (ntA T))),(18,.int .i64 T.length),(19,.int .i64 i)],stOf [(2,⟨151,2,[.agg [.sl (lls G),.sl (ints H)]]⟩),(4,⟨157,3,[.agg [.bool false,.int .u64 0,.int .u64 0]]⟩),(100,⟨22,1,lls (sqP G T i)⟩)])) (fun x=>T.length - x.1) ⟨0,Nat.zero_le _⟩ ?_ (fun ⟨i,hiS⟩=>?_)
 ·have z:lls (sqP G T 0)=[]:=rfl
  refine weakX [(100,none)] (of_decide_eq_true rfl) (of_decide_eq_true rfl) ?_
  (simp only [z,vcW,vZ,Int.reduceEq,Int.reduceNe,Int.reduceLT,Int.reduceLE,Nat.reduceEqDiff,Nat.reduceAdd,reduceIte,reduceCtorEq,Nat.reduceLT,Nat.reduceLeDiff,Nat.reduceShiftRight,Nat.reduceMod])
  (repeat' first | exact trivial | (with_reducible first | exact RnB.fxB (ints_fxB _) | rfl | refine And.intro ?_ ?_) | (with_reducible (first | refine RnB.bb ?_ | refine RnB.nb ?_);simp only [vcW,vZ,Int.reduceEq,Int.reduceNe,Int.reduceLT,Int.reduceLE,Nat.reduceEqDiff,Nat.reduceAdd,reduceIte,reduceCtorEq,Nat.reduceLT,Nat.reduceLeDiff,Nat.reduceShiftRight,Nat.reduceMod]) | (with_reducible first | refine RnB.ii ?_ | refine RnB.app ?_) | (with_reducible refine RnB.fxB ?_;simp only [vcW,vZ,Int.reduceEq,Int.reduceNe,Int.reduceLT,Int.reduceLE,Nat.reduceEqDiff,Nat.reduceAdd,reduceIte,reduceCtorEq,Nat.reduceLT,Nat.reduceLeDiff,Nat.reduceShiftRight,Nat.reduceMod]) | omega)
 ·dsimp only at hiS ⊢
  by_cases h':i<T.length
  ·have hc1:(i:Int)<T.length:=by omega
   obtain ⟨g,hg1,hg2,hg3⟩:=hgk T[i] (htb i h')
   simp only [hc1,ntA_get T i h',vZ,Int.reduceEq,Int.reduceNe,Int.reduceLT,Int.reduceLE,Nat.reduceEqDiff,Nat.reduceAdd,reduceIte,reduceCtorEq,Nat.reduceLT,Nat.reduceLeDiff,Nat.reduceShiftRight,Nat.reduceMod]
   (repeat (with_reducible refine And.intro ?_ ?_;focus (first | omega | (unfold I64;omega))))
   refine W_loop (t:=.mk) (α:=PSigma fun j:Nat=>j≤T.length) (fun ⟨j,_⟩=>(envOf [(1,.sl (ints (ntA T))),(2,.ptr 2 0 0),(4,.ptr 4 0 0),(5,.nils),(6,.buf 100 i),(8,.int .i64 (T[i]:Int)),(9,.buf 101 j),(17,.sl (ints (ntA T))),(18,.int .i64 T.length),(19,.int .i64 i),(23,.sl (ints (ntA T))),(24,.int .i64 T.length),(25,.int .i64 j)],stOf [(2,⟨151,2,[.agg [.sl (lls G),.sl (ints H)]]⟩),(4,⟨157,3,[.agg [.bool false,.int .u64 0,.int .u64 0]]⟩),(100,⟨22,1,lls (sqP G T i)⟩),(101,⟨3,1,ints (sqQ G T T[i] j)⟩)])) (fun x=>T.length - x.1) ⟨0,Nat.zero_le _⟩ ?_ (fun ⟨j,hjS⟩=>?_)
   ·have z:ints (sqQ G T T[i] 0)=[]:=rfl
    refine weakX [(101,none)] (of_decide_eq_true rfl) (of_decide_eq_true rfl) ?_
    (simp only [z,ints_length,ntA_len,vcW,vZ,Int.reduceEq,Int.reduceNe,Int.reduceLT,Int.reduceLE,Nat.reduceEqDiff,Nat.reduceAdd,reduceIte,reduceCtorEq,Nat.reduceLT,Nat.reduceLeDiff,Nat.reduceShiftRight,Nat.reduceMod])
    repeat' (with_reducible refine And.intro ?_ ?_)
    try any_goals (with_reducible exact RnB.fxB (lls_fxB _))
    (repeat' first | exact trivial | (with_reducible first | exact RnB.fxB (ints_fxB _) | rfl | refine And.intro ?_ ?_) | (with_reducible (first | refine RnB.bb ?_ | refine RnB.nb ?_);simp only [vcW,vZ,Int.reduceEq,Int.reduceNe,Int.reduceLT,Int.reduceLE,Nat.reduceEqDiff,Nat.reduceAdd,reduceIte,reduceCtorEq,Nat.reduceLT,Nat.reduceLeDiff,Nat.reduceShiftRight,Nat.reduceMod]) | (with_reducible first | refine RnB.ii ?_ | refine RnB.app ?_) | (with_reducible refine RnB.fxB ?_;simp only [vcW,vZ,Int.reduceEq,Int.reduceNe,Int.reduceLT,Int.reduceLE,Nat.reduceEqDiff,Nat.reduceAdd,reduceIte,reduceCtorEq,Nat.reduceLT,Nat.reduceLeDiff,Nat.reduceShiftRight,Nat.reduceMod]) | omega)
   ·dsimp only at hjS ⊢
    by_cases h2:j<T.length
    ·have hc2:(j:Int)<T.length:=by omega
     have hs:=sqQ_succ G T T[i] h2
     have hsl:=sqQ_len G T T[i] (j:=j) (by omega)
     have hgm:=hg3 T[j] (htb j h2)
     simp only [hc2,ntA_get T j h2,hg1,hgm,ints_length,hsl,vZ,Int.reduceEq,Int.reduceNe,Int.reduceLT,Int.reduceLE,Nat.reduceEqDiff,Nat.reduceAdd,reduceIte,reduceCtorEq,Nat.reduceLT,Nat.reduceLeDiff,Nat.reduceShiftRight,Nat.reduceMod]
     refine ⟨by omega,by omega,by omega,⟨by omega,by omega⟩,by unfold I64;omega,⟨j+1,h2⟩,by simp only;omega,?_⟩
     refine weakX [(101,some 39)] (of_decide_eq_true rfl) (of_decide_eq_true rfl) ?_
     (simp only [hs,vcW,vZ,Int.reduceEq,Int.reduceNe,Int.reduceLT,Int.reduceLE,Nat.reduceEqDiff,Nat.reduceAdd,reduceIte,reduceCtorEq,Nat.reduceLT,Nat.reduceLeDiff,Nat.reduceShiftRight,Nat.reduceMod])
     repeat' (with_reducible refine And.intro ?_ ?_)
     try any_goals (with_reducible exact RnB.fxB (lls_fxB _))
     (repeat' first | exact trivial | (with_reducible first | exact RnB.fxB (ints_fxB _) | rfl | refine And.intro ?_ ?_) | (with_reducible (first | refine RnB.bb ?_ | refine RnB.nb ?_);simp only [vcW,vZ,Int.reduceEq,Int.reduceNe,Int.reduceLT,Int.reduceLE,Nat.reduceEqDiff,Nat.reduceAdd,reduceIte,reduceCtorEq,Nat.reduceLT,Nat.reduceLeDiff,Nat.reduceShiftRight,Nat.reduceMod]) | (with_reducible first | refine RnB.ii ?_ | refine RnB.app ?_) | (with_reducible refine RnB.fxB ?_;simp only [vcW,vZ,Int.reduceEq,Int.reduceNe,Int.reduceLT,Int.reduceLE,Nat.reduceEqDiff,Nat.reduceAdd,reduceIte,reduceCtorEq,Nat.reduceLT,Nat.reduceLeDiff,Nat.reduceShiftRight,Nat.reduceMod]) | omega)
    ·have hjl:j=T.length:=by omega
     subst hjl
     have hc2:¬ (T.length:Int)<T.length:=by omega
     have hs:=sqP_succ G T h'
     simp only [hc2,vZ,Int.reduceEq,Int.reduceNe,Int.reduceLT,Int.reduceLE,Nat.reduceEqDiff,Nat.reduceAdd,reduceIte,reduceCtorEq,Nat.reduceLT,Nat.reduceLeDiff,Nat.reduceShiftRight,Nat.reduceMod]
     refine ⟨⟨by rw [lls_length,sqP_len _ _ hiS],by omega,by omega⟩,by unfold I64;omega,⟨i+1,h'⟩,by simp only;omega,?_⟩
     refine weakX [(100,some 44)] (of_decide_eq_true rfl) (of_decide_eq_true rfl) ?_
     (simp only [vcW,vZ,Int.reduceEq,Int.reduceNe,Int.reduceLT,Int.reduceLE,Nat.reduceEqDiff,Nat.reduceAdd,reduceIte,reduceCtorEq,Nat.reduceLT,Nat.reduceLeDiff,Nat.reduceShiftRight,Nat.reduceMod])
     repeat' (with_reducible refine And.intro ?_ ?_)
     try any_goals exact RnB.snocZ (k:=101) rfl (by rw [sqQ_len _ _ _ (Nat.le_refl _)]) (keyOf_ne rfl) (by rw [hs])
     (repeat' first | exact trivial | (with_reducible first | exact RnB.fxB (ints_fxB _) | rfl | refine And.intro ?_ ?_) | (with_reducible (first | refine RnB.bb ?_ | refine RnB.nb ?_);simp only [vcW,vZ,Int.reduceEq,Int.reduceNe,Int.reduceLT,Int.reduceLE,Nat.reduceEqDiff,Nat.reduceAdd,reduceIte,reduceCtorEq,Nat.reduceLT,Nat.reduceLeDiff,Nat.reduceShiftRight,Nat.reduceMod]) | (with_reducible first | refine RnB.ii ?_ | refine RnB.app ?_) | (with_reducible refine RnB.fxB ?_;simp only [vcW,vZ,Int.reduceEq,Int.reduceNe,Int.reduceLT,Int.reduceLE,Nat.reduceEqDiff,Nat.reduceAdd,reduceIte,reduceCtorEq,Nat.reduceLT,Nat.reduceLeDiff,Nat.reduceShiftRight,Nat.reduceMod]) | omega)
  ·have hil:i=T.length:=by omega
   subst hil
   have hc1:¬ (T.length:Int)<T.length:=by omega
   simp only [hc1,vZ,Int.reduceEq,Int.reduceNe,Int.reduceLT,Int.reduceLE,Nat.reduceEqDiff,Nat.reduceAdd,reduceIte,reduceCtorEq,Nat.reduceLT,Nat.reduceLeDiff,Nat.reduceShiftRight,Nat.reduceMod]
   rw [borB_good _ _ _ _ _ (by rw [lls_length,sqP_len _ _ (Nat.le_refl _)]) (List.all_eq_true.1 (lls_fxB _))]
   refine callS_of hD ?_
   simp only [ints_length,vZ,Int.reduceEq,Int.reduceNe,Int.reduceLT,Int.reduceLE,Nat.reduceEqDiff,Nat.reduceAdd,reduceIte,reduceCtorEq,Nat.reduceLT,Nat.reduceLeDiff,Nat.reduceShiftRight,Nat.reduceMod]
   refine ⟨usedL_buf rfl (lls_immT _ _) rfl,⟨by omega,by omega,by omega⟩,mkOk_w _,?_⟩
   rw [w2s_zero]
   have hslP:=slP_len G H T
   refine W_loop (t:=.mk) (α:=PSigma fun n:Nat=>n≤T.length) (fun ⟨n,_⟩=>(envOf [(1,.sl (ints (ntA T))),(2,.ptr 2 0 0),(4,.ptr 4 0 0),(5,.buf 101 H.length),(6,.buf 100 T.length),(52,.sl (ints (ntA T))),(53,.int .i64 T.length),(54,.int .i64 n)],stOf [(2,⟨151,2,[.agg [.sl (lls G),.sl (ints H)]]⟩),(4,⟨157,3,[wdA D.1 D.2]⟩),(100,⟨22,1,lls (sqP G T T.length)⟩),(101,⟨157,3,w2s (slP G H T n)⟩)])) (fun x=>T.length - x.1) ⟨0,Nat.zero_le _⟩ ?_ (fun ⟨n,hnT⟩=>?_)
   ·have z:w2s (slP G H T 0)=w2s (List.replicate H.length (false,0)):=rfl
    refine weakX [(100,some 100),(101,some 51)] (of_decide_eq_true rfl) (of_decide_eq_true rfl) ?_
    (simp only [z,wdA,ntA_len,ints_length,vcW,vZ,Int.reduceEq,Int.reduceNe,Int.reduceLT,Int.reduceLE,Nat.reduceEqDiff,Nat.reduceAdd,reduceIte,reduceCtorEq,Nat.reduceLT,Nat.reduceLeDiff,Nat.reduceShiftRight,Nat.reduceMod])
    repeat' (with_reducible refine And.intro ?_ ?_)
    try any_goals (with_reducible exact RnB.fxB (lls_fxB _))
    try any_goals (with_reducible exact RnB.fxB (w2s_fxB _))
    (repeat' first | exact trivial | (with_reducible first | exact RnB.fxB (ints_fxB _) | rfl | refine And.intro ?_ ?_) | (with_reducible (first | refine RnB.bb ?_ | refine RnB.nb ?_);simp only [vcW,vZ,Int.reduceEq,Int.reduceNe,Int.reduceLT,Int.reduceLE,Nat.reduceEqDiff,Nat.reduceAdd,reduceIte,reduceCtorEq,Nat.reduceLT,Nat.reduceLeDiff,Nat.reduceShiftRight,Nat.reduceMod]) | (with_reducible first | refine RnB.ii ?_ | refine RnB.app ?_) | (with_reducible refine RnB.fxB ?_;simp only [vcW,vZ,Int.reduceEq,Int.reduceNe,Int.reduceLT,Int.reduceLE,Nat.reduceEqDiff,Nat.reduceAdd,reduceIte,reduceCtorEq,Nat.reduceLT,Nat.reduceLeDiff,Nat.reduceShiftRight,Nat.reduceMod]) | omega)
   ·dsimp only at hnT ⊢
    by_cases h3:n<T.length
    ·have hc3:(n:Int)<T.length:=by omega
     unfold wdA
     simp only [hc3,ntA_get T n h3,vZ,Int.reduceEq,Int.reduceNe,Int.reduceLT,Int.reduceLE,Nat.reduceEqDiff,Nat.reduceAdd,reduceIte,reduceCtorEq,Nat.reduceLT,Nat.reduceLeDiff,Nat.reduceShiftRight,Nat.reduceMod]
     (repeat (with_reducible refine And.intro ?_ ?_;focus (first | omega | (unfold I64;omega))))
     refine W_loop (t:=.mk) (α:=PSigma fun i:Nat=>i≤T.length) (fun ⟨i,_⟩=>(envOf [(1,.sl (ints (ntA T))),(2,.ptr 2 0 0),(4,.ptr 4 0 0),(5,.buf 101 H.length),(6,.buf 100 T.length),(12,.int .i64 n),(13,.int .i64 (T[n]:Int)),(14,.buf 102 i),(52,.sl (ints (ntA T))),(53,.int .i64 T.length),(54,.int .i64 n),(59,.buf 100 T.length),(60,.int .i64 T.length),(61,.int .i64 i)],stOf [(2,⟨151,2,[.agg [.sl (lls G),.sl (ints H)]]⟩),(4,⟨157,3,[wdA D.1 D.2]⟩),(100,⟨22,1,lls (sqP G T T.length)⟩),(101,⟨157,3,w2s (slP G H T n)⟩),(102,⟨22,1,lls (rpP G H T n i)⟩)])) (fun x=>T.length - x.1) ⟨0,Nat.zero_le _⟩ ?_ (fun ⟨i,hiT⟩=>?_)
     ·have z:lls (rpP G H T n 0)=[]:=rfl
      refine weakX [(102,none)] (of_decide_eq_true rfl) (of_decide_eq_true rfl) ?_
      (simp only [z,wdA,vcW,vZ,Int.reduceEq,Int.reduceNe,Int.reduceLT,Int.reduceLE,Nat.reduceEqDiff,Nat.reduceAdd,reduceIte,reduceCtorEq,Nat.reduceLT,Nat.reduceLeDiff,Nat.reduceShiftRight,Nat.reduceMod])
      repeat' (with_reducible refine And.intro ?_ ?_)
      try any_goals (with_reducible exact RnB.fxB (lls_fxB _))
      try any_goals (with_reducible exact RnB.fxB (w2s_fxB _))
      (repeat' first | exact trivial | (with_reducible first | exact RnB.fxB (ints_fxB _) | rfl | refine And.intro ?_ ?_) | (with_reducible (first | refine RnB.bb ?_ | refine RnB.nb ?_);simp only [vcW,vZ,Int.reduceEq,Int.reduceNe,Int.reduceLT,Int.reduceLE,Nat.reduceEqDiff,Nat.reduceAdd,reduceIte,reduceCtorEq,Nat.reduceLT,Nat.reduceLeDiff,Nat.reduceShiftRight,Nat.reduceMod]) | (with_reducible first | refine RnB.ii ?_ | refine RnB.app ?_) | (with_reducible refine RnB.fxB ?_;simp only [vcW,vZ,Int.reduceEq,Int.reduceNe,Int.reduceLT,Int.reduceLE,Nat.reduceEqDiff,Nat.reduceAdd,reduceIte,reduceCtorEq,Nat.reduceLT,Nat.reduceLeDiff,Nat.reduceShiftRight,Nat.reduceMod]) | omega)
     ·dsimp only at hiT ⊢
      by_cases h4:i<T.length
      ·have hc4:(i:Int)<T.length:=by omega
       have hsl:(sqP G T T.length).length=T.length:=sqP_len _ _ (Nat.le_refl _)
       have hrow:(lls (sqP G T T.length))[i]?=some (.sl (ints (sqQ G T T[i] T.length))):=by
        rw [lls_get _ i (by omega)];simp [sqP]
       have hql:=sqQ_len G T T[i] (Nat.le_refl T.length)
       have hti:=htb i h4
       have hHd:H.getD T[i] 0=H[T[i]]:=getD_at _
       have hHg:(ints H)[T[i]]?=some (.int .i64 H[T[i]]):=ints_get H _ hti
       rw [← hHd] at hHg
       have hC:=Clone_o (sqQ G T T[i] T.length) (by omega)
       have hset:(ints (sqQ G T T[i] T.length)).set n (.int .i64 (H.getD T[i] 0))=ints ((sqQ G T T[i] T.length).set n (H.getD T[i] 0)):=ints_st _ _ _
       have hng:=ints_get (sqQ G T T[i] T.length) n (by omega)
       have hs:=rpP_succ G H T n h4
       have hrl:=rpP_len G H T n hiT
       unfold wdA
       simp only [hc4,hrow,lls_length,hsl,vZ,Int.reduceEq,Int.reduceNe,Int.reduceLT,Int.reduceLE,Nat.reduceEqDiff,Nat.reduceAdd,reduceIte,reduceCtorEq,Nat.reduceLT,Nat.reduceLeDiff,Nat.reduceShiftRight,Nat.reduceMod]
       refine ⟨⟨by omega,Nat.le_refl _⟩,?_⟩
       refine callS_own hC rfl ?_
       have hil':((ints (sqQ G T T[i] T.length)).length:Nat)=T.length:=by rw [ints_length];exact hql
       simp only [hql,ownS_ints,hil',ntA_get T i h4,hHg,hng,hset,vZ,Int.reduceEq,Int.reduceNe,Int.reduceLT,Int.reduceLE,Nat.reduceEqDiff,Nat.reduceAdd,reduceIte,reduceCtorEq,Nat.reduceLT,Nat.reduceLeDiff,Nat.reduceShiftRight,Nat.reduceMod]
       refine ⟨by omega,by omega,⟨by omega,by omega,Nat.le_refl _⟩,⟨by rw [lls_length,hrl],by omega,by omega⟩,by unfold I64;omega,⟨i+1,h4⟩,by simp only;omega,?_⟩
       refine weakX [(102,some 82)] (of_decide_eq_true rfl) (of_decide_eq_true rfl) ?_
       (simp only [wdA,vcW,vZ,Int.reduceEq,Int.reduceNe,Int.reduceLT,Int.reduceLE,Nat.reduceEqDiff,Nat.reduceAdd,reduceIte,reduceCtorEq,Nat.reduceLT,Nat.reduceLeDiff,Nat.reduceShiftRight,Nat.reduceMod])
       repeat' (with_reducible refine And.intro ?_ ?_)
       try any_goals (with_reducible exact RnB.fxB (lls_fxB _))
       try any_goals (with_reducible exact RnB.fxB (w2s_fxB _))
       try any_goals exact RnB.snocZ (k:=67) rfl (by rw [List.length_set];exact hql.symm) (keyOf_ne rfl) (by rw [hs])
       (repeat' first | exact trivial | (with_reducible first | exact RnB.fxB (ints_fxB _) | rfl | refine And.intro ?_ ?_) | (with_reducible (first | refine RnB.bb ?_ | refine RnB.nb ?_);simp only [vcW,vZ,Int.reduceEq,Int.reduceNe,Int.reduceLT,Int.reduceLE,Nat.reduceEqDiff,Nat.reduceAdd,reduceIte,reduceCtorEq,Nat.reduceLT,Nat.reduceLeDiff,Nat.reduceShiftRight,Nat.reduceMod]) | (with_reducible first | refine RnB.ii ?_ | refine RnB.app ?_) | (with_reducible refine RnB.fxB ?_;simp only [vcW,vZ,Int.reduceEq,Int.reduceNe,Int.reduceLT,Int.reduceLE,Nat.reduceEqDiff,Nat.reduceAdd,reduceIte,reduceCtorEq,Nat.reduceLT,Nat.reduceLeDiff,Nat.reduceShiftRight,Nat.reduceMod]) | omega)
       all_goals trace_state
      ·have hil:i=T.length:=by omega
       subst hil
       have hc4:¬ (T.length:Int)<T.length:=by omega
       have hR':=hR n
       have hnx:slP G H T (n+1)=(slP G H T n).set T[n] (dtP T.length (rpP G H T n T.length)):=by
        rw [slP,List.getD_eq_getElem?_getD,List.getElem?_eq_getElem h3];rfl
       obtain ⟨E,hE⟩:∃ E,E=dtP T.length (rpP G H T n T.length):=⟨_,rfl⟩
       rw [← hE] at hnx hR'
       unfold wdA at hR' ⊢
       simp only [hc4,vZ,Int.reduceEq,Int.reduceNe,Int.reduceLT,Int.reduceLE,Nat.reduceEqDiff,Nat.reduceAdd,reduceIte,reduceCtorEq,Nat.reduceLT,Nat.reduceLeDiff,Nat.reduceShiftRight,Nat.reduceMod]
       rw [borB_good _ _ _ _ _ (by rw [lls_length,rpP_len _ _ _ _ (Nat.le_refl _)]) (List.all_eq_true.1 (lls_fxB _))]
       refine callS_of hR' ?_
       have hwl:(w2s (slP G H T n)).length=H.length:=by rw [w2s_length];exact hslP n
       have htn:=htb n h3
       have hel:=w2s_get (slP G H T n) T[n] (by rw [hslP n];exact htn)
       have hst:=w2s_set (slP G H T n) T[n] E
       rw [← hnx] at hst
       unfold wdA at hel hst
       simp only [hwl,hel,hst,vZ,Int.reduceEq,Int.reduceNe,Int.reduceLT,Int.reduceLE,Nat.reduceEqDiff,Nat.reduceAdd,reduceIte,reduceCtorEq,Nat.reduceLT,Nat.reduceLeDiff,Nat.reduceShiftRight,Nat.reduceMod]
       refine ⟨⟨by omega,by omega,Nat.le_refl _⟩,by unfold I64;omega,⟨n+1,h3⟩,by simp only;omega,?_⟩
       refine weakX [(100,some 100),(101,some 101)] (of_decide_eq_true rfl) (of_decide_eq_true rfl) ?_
       (simp only [wdA,vcW,vZ,Int.reduceEq,Int.reduceNe,Int.reduceLT,Int.reduceLE,Nat.reduceEqDiff,Nat.reduceAdd,reduceIte,reduceCtorEq,Nat.reduceLT,Nat.reduceLeDiff,Nat.reduceShiftRight,Nat.reduceMod])
       repeat' (with_reducible refine And.intro ?_ ?_)
       try any_goals (with_reducible exact RnB.fxB (lls_fxB _))
       try any_goals (with_reducible exact RnB.fxB (w2s_fxB _))
       (repeat' first | exact trivial | (with_reducible first | exact RnB.fxB (ints_fxB _) | rfl | refine And.intro ?_ ?_) | (with_reducible (first | refine RnB.bb ?_ | refine RnB.nb ?_);simp only [vcW,vZ,Int.reduceEq,Int.reduceNe,Int.reduceLT,Int.reduceLE,Nat.reduceEqDiff,Nat.reduceAdd,reduceIte,reduceCtorEq,Nat.reduceLT,Nat.reduceLeDiff,Nat.reduceShiftRight,Nat.reduceMod]) | (with_reducible first | refine RnB.ii ?_ | refine RnB.app ?_) | (with_reducible refine RnB.fxB ?_;simp only [vcW,vZ,Int.reduceEq,Int.reduceNe,Int.reduceLT,Int.reduceLE,Nat.reduceEqDiff,Nat.reduceAdd,reduceIte,reduceCtorEq,Nat.reduceLT,Nat.reduceLeDiff,Nat.reduceShiftRight,Nat.reduceMod]) | omega)
       all_goals trace_state
    ·have hnl:n=T.length:=by omega
     subst hnl
     have hc3:¬ (T.length:Int)<T.length:=by omega
     unfold wdA
     simp only [hc3,vZ,Int.reduceEq,Int.reduceNe,Int.reduceLT,Int.reduceLE,Nat.reduceEqDiff,Nat.reduceAdd,reduceIte,reduceCtorEq,Nat.reduceLT,Nat.reduceLeDiff,Nat.reduceShiftRight,Nat.reduceMod]
     rw [borB_good _ _ _ _ _ (by rw [w2s_length,hslP]) (List.all_eq_true.1 (w2s_fxB _))]
end Go.Proofs.YtgmpcbpmnimkoaaGreatDoor

/- The common divisor of numbers of 128 bits. By an AI agent;nothing here is trusted. -/
namespace Go.Proofs.YtgmpcbpmnimkoaaGreatDoor
open Go.Av

theorem gcd_half_l {x y:Nat} (hx:x % 2=0) (hy:y % 2=1):Nat.gcd (x / 2) y=Nat.gcd x y:=by
 have h2:Nat.Coprime 2 y:=by
  have:Nat.gcd 2 y=Nat.gcd (y % 2) 2:=Nat.gcd_rec 2 y
  unfold Nat.Coprime;rw [this,hy];rfl
 have e:x=2 * (x / 2):=by omega
 conv=>rhs;rw [e]
 exact (Nat.Coprime.gcd_mul_left_cancel (x / 2) h2).symm
theorem gcd_half_r {x y:Nat} (hx:x % 2=1) (hy:y % 2=0):Nat.gcd x (y / 2)=Nat.gcd x y:=by
 rw [Nat.gcd_comm,gcd_half_l hy hx,Nat.gcd_comm]
theorem gcd_sub_r {x y:Nat} (h:x≤y):Nat.gcd x (y - x)=Nat.gcd x y:=by
 have:=Nat.gcd_add_self_right x (y - x)
 rw [← this];congr 1;omega
theorem mod_low (n:Nat):n % 18446744073709551616 % 2=n % 2:=by omega
theorem common_s (a b:Bool) (m n:Nat) (hm:W128 m) (hn:W128 n) (hmn:W128 (m+n)):Sound Tryz.prog 187 [wdA a m,wdA b n] (wdA false (Nat.gcd m n)):=by
 refine sound_W f_pulse_common (Nat.le_of_ble_eq_true rfl) ?_
 have hs1:=size_s a m
 have hs2:=size_s b n
 have hz1:=isZero_s false m hm
 have hz2:=isZero_s false n hn
 unfold W128 at hmn hm hn
 unfold wdA at hs1 hs2 hz1 hz2 ⊢
 simp only [c_pulse_common,vZ,Int.reduceEq,Int.reduceNe,Int.reduceLT,Int.reduceLE,Nat.reduceEqDiff,Nat.reduceAdd,reduceIte,reduceCtorEq,Nat.reduceLT,Nat.reduceLeDiff,Nat.reduceShiftRight,Nat.reduceMod]
 refine callS_of hs1 ?_
 simp only [vZ,Int.reduceEq,Int.reduceNe,Int.reduceLT,Int.reduceLE,Nat.reduceEqDiff,Nat.reduceAdd,reduceIte,reduceCtorEq,Nat.reduceLT,Nat.reduceLeDiff,Nat.reduceShiftRight,Nat.reduceMod]
 refine callS_of hs2 ?_
 simp only [vZ,Int.reduceEq,Int.reduceNe,Int.reduceLT,Int.reduceLE,Nat.reduceEqDiff,Nat.reduceAdd,reduceIte,reduceCtorEq,Nat.reduceLT,Nat.reduceLeDiff,Nat.reduceShiftRight,Nat.reduceMod]
 refine callS_of hz1 ?_
 by_cases m0:m=0
 ·have hg:Nat.gcd m n=n:=by rw [m0,Nat.gcd_zero_left]
  rw [decide_eq_true m0,hg]
  simp only [vZ,Int.reduceEq,Int.reduceNe,Int.reduceLT,Int.reduceLE,Nat.reduceEqDiff,Nat.reduceAdd,reduceIte,reduceCtorEq,Nat.reduceLT,Nat.reduceLeDiff,Nat.reduceShiftRight,Nat.reduceMod]
 rw [decide_eq_false m0]
 simp only [vZ,Int.reduceEq,Int.reduceNe,Int.reduceLT,Int.reduceLE,Nat.reduceEqDiff,Nat.reduceAdd,reduceIte,reduceCtorEq,Nat.reduceLT,Nat.reduceLeDiff,Nat.reduceShiftRight,Nat.reduceMod]
 refine callS_of hz2 ?_
 by_cases n0:n=0
 ·have hg:Nat.gcd m n=m:=by rw [n0,Nat.gcd_zero_right]
  rw [decide_eq_true n0,hg]
  simp only [vZ,Int.reduceEq,Int.reduceNe,Int.reduceLT,Int.reduceLE,Nat.reduceEqDiff,Nat.reduceAdd,reduceIte,reduceCtorEq,Nat.reduceLT,Nat.reduceLeDiff,Nat.reduceShiftRight,Nat.reduceMod]
 rw [decide_eq_false n0]
 have low:∀ x:Nat,x % 18446744073709551616<18446744073709551616:=fun x=>Nat.mod_lt _ (by omega)
 simp only [vZ,Int.reduceEq,Int.reduceNe,Int.reduceLT,Int.reduceLE,Nat.reduceEqDiff,Nat.reduceAdd,reduceIte,reduceCtorEq,Nat.reduceLT,Nat.reduceLeDiff,Nat.reduceShiftRight,Nat.reduceMod]
 refine W_loop (t:=.mk) (α:=PSigma fun p:Nat × Nat × Nat=>p.1 * 2 ^ p.2.2=m∧p.2.1 * 2 ^ p.2.2=n) (fun ⟨p,_⟩=>(envOf [(2,.ptr 2 0 0),(3,.ptr 3 0 0),(4,.ptr 4 0 0),(5,.int .i64 p.2.2)],stOf [(2,⟨157,3,[wdA false p.1]⟩),(3,⟨157,3,[wdA false p.2.1]⟩),(4,⟨157,3,[.agg [.bool false,.int .u64 0,.int .u64 0]]⟩)])) (fun x=>x.1.1) ⟨(m,n,0),by simp,by simp⟩ ?_ (fun ⟨⟨x,y,k⟩,hx,hy⟩=>?_)
 ·skip
  refine weakX [] (of_decide_eq_true rfl) (of_decide_eq_true rfl) ?_
  (simp only [wdA,vcW,vZ,Int.reduceEq,Int.reduceNe,Int.reduceLT,Int.reduceLE,Nat.reduceEqDiff,Nat.reduceAdd,reduceIte,reduceCtorEq,Nat.reduceLT,Nat.reduceLeDiff,Nat.reduceShiftRight,Nat.reduceMod])
  (repeat' first | exact trivial | (with_reducible first | exact RnB.fxB (ints_fxB _) | rfl | refine And.intro ?_ ?_) | (with_reducible (first | refine RnB.bb ?_ | refine RnB.nb ?_);simp only [vcW,vZ,Int.reduceEq,Int.reduceNe,Int.reduceLT,Int.reduceLE,Nat.reduceEqDiff,Nat.reduceAdd,reduceIte,reduceCtorEq,Nat.reduceLT,Nat.reduceLeDiff,Nat.reduceShiftRight,Nat.reduceMod]) | (with_reducible first | refine RnB.ii ?_ | refine RnB.app ?_) | (with_reducible refine RnB.fxB ?_;simp only [vcW,vZ,Int.reduceEq,Int.reduceNe,Int.reduceLT,Int.reduceLE,Nat.reduceEqDiff,Nat.reduceAdd,reduceIte,reduceCtorEq,Nat.reduceLT,Nat.reduceLeDiff,Nat.reduceShiftRight,Nat.reduceMod]) | omega)
 ·dsimp only at hx hy ⊢
  have hk2:1≤2 ^ k:=Nat.one_le_two_pow
  have hxm:x≤m:=by rw [← hx];exact Nat.le_mul_of_pos_right _ hk2
  have hyn:y≤n:=by rw [← hy];exact Nat.le_mul_of_pos_right _ hk2
  have hx0:0<x:=by
   rcases Nat.eq_zero_or_pos x with h | h
   ·rw [h,Nat.zero_mul] at hx;omega
   ·exact h
  have hy0:0<y:=by
   rcases Nat.eq_zero_or_pos y with h | h
   ·rw [h,Nat.zero_mul] at hy;omega
   ·exact h
  have hk:k<128:=by
   refine Classical.byContradiction fun h=>?_
   have h1:2 ^ 128≤2 ^ k:=Nat.pow_le_pow_right (by omega) (by omega)
   have h2:2 ^ k≤m:=by rw [← hx];exact Nat.le_mul_of_pos_left _ hx0
   have h3:(2:Nat) ^ 128=340282366920938463463374607431768211456:=by decide
   omega
  have ho:=or_g _ _ (low x) (low y)
  have ha:=and_1 _ (show (x % 18446744073709551616 ||| y % 18446744073709551616)<2 ^ 64 from Nat.or_lt_two_pow (low x) (low y))
  have hp:=or_par (x % 18446744073709551616) (y % 18446744073709551616)
  rw [mod_low,mod_low] at hp
  have hh1:=half_s false x (by unfold W128;omega)
  have hh2:=half_s false y (by unfold W128;omega)
  by_cases hev:x % 2=0∧y % 2=0
  ·have hc:(((x % 18446744073709551616 ||| y % 18446744073709551616) % 2:Nat):Int)=0:=by rw [hp.2 hev];rfl
   unfold wdA at hh1 hh2 ⊢
   simp only [ho,ha,hc,vZ,Int.reduceEq,Int.reduceNe,Int.reduceLT,Int.reduceLE,Nat.reduceEqDiff,Nat.reduceAdd,reduceIte,reduceCtorEq,Nat.reduceLT,Nat.reduceLeDiff,Nat.reduceShiftRight,Nat.reduceMod]
   refine callS_of hh1 ?_
   simp only [vZ,Int.reduceEq,Int.reduceNe,Int.reduceLT,Int.reduceLE,Nat.reduceEqDiff,Nat.reduceAdd,reduceIte,reduceCtorEq,Nat.reduceLT,Nat.reduceLeDiff,Nat.reduceShiftRight,Nat.reduceMod]
   refine callS_of hh2 ?_
   simp only [vZ,Int.reduceEq,Int.reduceNe,Int.reduceLT,Int.reduceLE,Nat.reduceEqDiff,Nat.reduceAdd,reduceIte,reduceCtorEq,Nat.reduceLT,Nat.reduceLeDiff,Nat.reduceShiftRight,Nat.reduceMod]
   (repeat (with_reducible refine And.intro ?_ ?_;focus (first | omega | (unfold I64;omega))))
   refine ⟨⟨(x / 2,y / 2,k+1),?_,?_⟩,by simp only;omega,?_⟩
   ·simp only;rw [← hx,Nat.pow_succ,Nat.mul_comm (2 ^ k) 2,← Nat.mul_assoc];congr 1;omega
   ·simp only;rw [← hy,Nat.pow_succ,Nat.mul_comm (2 ^ k) 2,← Nat.mul_assoc];congr 1;omega
   ·refine weakX [] (of_decide_eq_true rfl) (of_decide_eq_true rfl) ?_
    (simp only [wdA,vcW,vZ,Int.reduceEq,Int.reduceNe,Int.reduceLT,Int.reduceLE,Nat.reduceEqDiff,Nat.reduceAdd,reduceIte,reduceCtorEq,Nat.reduceLT,Nat.reduceLeDiff,Nat.reduceShiftRight,Nat.reduceMod])
    (repeat' first | exact trivial | (with_reducible first | exact RnB.fxB (ints_fxB _) | rfl | refine And.intro ?_ ?_) | (with_reducible (first | refine RnB.bb ?_ | refine RnB.nb ?_);simp only [vcW,vZ,Int.reduceEq,Int.reduceNe,Int.reduceLT,Int.reduceLE,Nat.reduceEqDiff,Nat.reduceAdd,reduceIte,reduceCtorEq,Nat.reduceLT,Nat.reduceLeDiff,Nat.reduceShiftRight,Nat.reduceMod]) | (with_reducible first | refine RnB.ii ?_ | refine RnB.app ?_) | (with_reducible refine RnB.fxB ?_;simp only [vcW,vZ,Int.reduceEq,Int.reduceNe,Int.reduceLT,Int.reduceLE,Nat.reduceEqDiff,Nat.reduceAdd,reduceIte,reduceCtorEq,Nat.reduceLT,Nat.reduceLeDiff,Nat.reduceShiftRight,Nat.reduceMod]) | omega)
  ·have hc:¬ (((x % 18446744073709551616 ||| y % 18446744073709551616) % 2:Nat):Int)=0:=fun h=>hev (hp.1 (by omega))
   have hgc:Nat.gcd m n=Nat.gcd x y * 2 ^ k:=by rw [← hx,← hy,Nat.gcd_mul_right]
   obtain ⟨g,hg⟩:∃ g,g=Nat.gcd x y:=⟨_,rfl⟩
   rw [← hg] at hgc
   have hgm:g * 2 ^ k≤m:=by rw [← hgc];exact Nat.gcd_le_left _ (by omega)
   rw [hgc]
   unfold wdA
   simp only [ho,ha,hc,vZ,Int.reduceEq,Int.reduceNe,Int.reduceLT,Int.reduceLE,Nat.reduceEqDiff,Nat.reduceAdd,reduceIte,reduceCtorEq,Nat.reduceLT,Nat.reduceLeDiff,Nat.reduceShiftRight,Nat.reduceMod]
   refine W_loop (t:=.mk) (α:=PSigma fun p:Nat × Nat=>Nat.gcd p.1 p.2=g∧0<p.1∧p.1+p.2≤m+n∧(p.1 % 2=1∨p.2 % 2=1)) (fun ⟨p,_⟩=>(envOf [(2,.ptr 2 0 0),(3,.ptr 3 0 0),(4,.ptr 4 0 0),(5,.int .i64 k)],stOf [(2,⟨157,3,[wdA false p.1]⟩),(3,⟨157,3,[wdA false p.2]⟩),(4,⟨157,3,[.agg [.bool false,.int .u64 0,.int .u64 0]]⟩)])) (fun x=>x.1.1+x.1.2) ⟨(x,y),hg.symm,hx0,by simp only;omega,by simp only;omega⟩ ?_ (fun ⟨⟨u,v⟩,ug,u0,us,up⟩=>?_)
   ·refine weakX [] (of_decide_eq_true rfl) (of_decide_eq_true rfl) ?_
    (simp only [wdA,vcW,vZ,Int.reduceEq,Int.reduceNe,Int.reduceLT,Int.reduceLE,Nat.reduceEqDiff,Nat.reduceAdd,reduceIte,reduceCtorEq,Nat.reduceLT,Nat.reduceLeDiff,Nat.reduceShiftRight,Nat.reduceMod])
    (repeat' first | exact trivial | (with_reducible first | exact RnB.fxB (ints_fxB _) | rfl | refine And.intro ?_ ?_) | (with_reducible (first | refine RnB.bb ?_ | refine RnB.nb ?_);simp only [vcW,vZ,Int.reduceEq,Int.reduceNe,Int.reduceLT,Int.reduceLE,Nat.reduceEqDiff,Nat.reduceAdd,reduceIte,reduceCtorEq,Nat.reduceLT,Nat.reduceLeDiff,Nat.reduceShiftRight,Nat.reduceMod]) | (with_reducible first | refine RnB.ii ?_ | refine RnB.app ?_) | (with_reducible refine RnB.fxB ?_;simp only [vcW,vZ,Int.reduceEq,Int.reduceNe,Int.reduceLT,Int.reduceLE,Nat.reduceEqDiff,Nat.reduceAdd,reduceIte,reduceCtorEq,Nat.reduceLT,Nat.reduceLeDiff,Nat.reduceShiftRight,Nat.reduceMod]) | omega)
   ·dsimp only at ug u0 us up ⊢
    have hzv:=isZero_s false v (by unfold W128;omega)
    unfold wdA at hzv ⊢
    simp only [vZ,Int.reduceEq,Int.reduceNe,Int.reduceLT,Int.reduceLE,Nat.reduceEqDiff,Nat.reduceAdd,reduceIte,reduceCtorEq,Nat.reduceLT,Nat.reduceLeDiff,Nat.reduceShiftRight,Nat.reduceMod]
    refine callS_of hzv ?_
    by_cases v0:v=0
    ·rw [decide_eq_true v0]
     have hug:u=g:=by rw [← ug,v0,Nat.gcd_zero_right]
     rw [hug]
     simp only [vZ,Int.reduceEq,Int.reduceNe,Int.reduceLT,Int.reduceLE,Nat.reduceEqDiff,Nat.reduceAdd,reduceIte,reduceCtorEq,Nat.reduceLT,Nat.reduceLeDiff,Nat.reduceShiftRight,Nat.reduceMod]
     refine W_loop (t:=.mk) (α:=PSigma fun j:Nat=>j≤k) (fun ⟨j,_⟩=>(envOf [(2,.ptr 2 0 0),(4,.ptr 4 0 0),(53,.int .i64 k),(54,.int .i64 j)],stOf [(2,⟨157,3,[wdA false (g * 2 ^ j)]⟩),(4,⟨157,3,[.agg [.bool false,.int .u64 0,.int .u64 0]]⟩)])) (fun x=>k - x.1) ⟨0,Nat.zero_le _⟩ ?_ (fun ⟨j,hj⟩=>?_)
     ·refine weakX [] (of_decide_eq_true rfl) (of_decide_eq_true rfl) ?_
      (simp only [wdA,Nat.pow_zero,Nat.mul_one,vcW,vZ,Int.reduceEq,Int.reduceNe,Int.reduceLT,Int.reduceLE,Nat.reduceEqDiff,Nat.reduceAdd,reduceIte,reduceCtorEq,Nat.reduceLT,Nat.reduceLeDiff,Nat.reduceShiftRight,Nat.reduceMod])
      (repeat' first | exact trivial | (with_reducible first | exact RnB.fxB (ints_fxB _) | rfl | refine And.intro ?_ ?_) | (with_reducible (first | refine RnB.bb ?_ | refine RnB.nb ?_);simp only [vcW,vZ,Int.reduceEq,Int.reduceNe,Int.reduceLT,Int.reduceLE,Nat.reduceEqDiff,Nat.reduceAdd,reduceIte,reduceCtorEq,Nat.reduceLT,Nat.reduceLeDiff,Nat.reduceShiftRight,Nat.reduceMod]) | (with_reducible first | refine RnB.ii ?_ | refine RnB.app ?_) | (with_reducible refine RnB.fxB ?_;simp only [vcW,vZ,Int.reduceEq,Int.reduceNe,Int.reduceLT,Int.reduceLE,Nat.reduceEqDiff,Nat.reduceAdd,reduceIte,reduceCtorEq,Nat.reduceLT,Nat.reduceLeDiff,Nat.reduceShiftRight,Nat.reduceMod]) | omega)
     ·dsimp only at hj ⊢
      by_cases hjk:j<k
      ·have hjk':(j:Int)<k:=by omega
       have hdb:g * 2 ^ j+g * 2 ^ j=g * 2 ^ (j+1):=by rw [Nat.pow_succ,← Nat.mul_assoc];omega
       have hle:g * 2 ^ (j+1)≤g * 2 ^ k:=Nat.mul_le_mul_left _ (Nat.pow_le_pow_right (by omega) (by omega))
       have ht:=twice_s false (g * 2 ^ j) (by unfold W128;omega)
       rw [hdb] at ht
       unfold wdA at ht ⊢
       simp only [hjk',vZ,Int.reduceEq,Int.reduceNe,Int.reduceLT,Int.reduceLE,Nat.reduceEqDiff,Nat.reduceAdd,reduceIte,reduceCtorEq,Nat.reduceLT,Nat.reduceLeDiff,Nat.reduceShiftRight,Nat.reduceMod]
       refine callS_of ht ?_
       simp only [vZ,Int.reduceEq,Int.reduceNe,Int.reduceLT,Int.reduceLE,Nat.reduceEqDiff,Nat.reduceAdd,reduceIte,reduceCtorEq,Nat.reduceLT,Nat.reduceLeDiff,Nat.reduceShiftRight,Nat.reduceMod]
       (repeat (with_reducible refine And.intro ?_ ?_;focus (first | omega | (unfold I64;omega))))
       refine ⟨⟨j+1,hjk⟩,by simp only;omega,?_⟩
       refine weakX [] (of_decide_eq_true rfl) (of_decide_eq_true rfl) ?_
       (simp only [wdA,vcW,vZ,Int.reduceEq,Int.reduceNe,Int.reduceLT,Int.reduceLE,Nat.reduceEqDiff,Nat.reduceAdd,reduceIte,reduceCtorEq,Nat.reduceLT,Nat.reduceLeDiff,Nat.reduceShiftRight,Nat.reduceMod])
       (repeat' first | exact trivial | (with_reducible first | exact RnB.fxB (ints_fxB _) | rfl | refine And.intro ?_ ?_) | (with_reducible (first | refine RnB.bb ?_ | refine RnB.nb ?_);simp only [vcW,vZ,Int.reduceEq,Int.reduceNe,Int.reduceLT,Int.reduceLE,Nat.reduceEqDiff,Nat.reduceAdd,reduceIte,reduceCtorEq,Nat.reduceLT,Nat.reduceLeDiff,Nat.reduceShiftRight,Nat.reduceMod]) | (with_reducible first | refine RnB.ii ?_ | refine RnB.app ?_) | (with_reducible refine RnB.fxB ?_;simp only [vcW,vZ,Int.reduceEq,Int.reduceNe,Int.reduceLT,Int.reduceLE,Nat.reduceEqDiff,Nat.reduceAdd,reduceIte,reduceCtorEq,Nat.reduceLT,Nat.reduceLeDiff,Nat.reduceShiftRight,Nat.reduceMod]) | omega)
      ·have hjk':¬ (j:Int)<k:=by omega
       have:j=k:=by omega
       subst this
       unfold wdA
       simp only [hjk',vZ,Int.reduceEq,Int.reduceNe,Int.reduceLT,Int.reduceLE,Nat.reduceEqDiff,Nat.reduceAdd,reduceIte,reduceCtorEq,Nat.reduceLT,Nat.reduceLeDiff,Nat.reduceShiftRight,Nat.reduceMod]
    ·rw [decide_eq_false v0]
     simp only [vZ,Int.reduceEq,Int.reduceNe,Int.reduceLT,Int.reduceLE,Nat.reduceEqDiff,Nat.reduceAdd,reduceIte,reduceCtorEq,Nat.reduceLT,Nat.reduceLeDiff,Nat.reduceShiftRight,Nat.reduceMod]
     refine W_loop (t:=.mk) (α:=PSigma fun u':Nat=>Nat.gcd u' v=g∧0<u'∧u'≤u∧(u' % 2=1∨v % 2=1)) (fun ⟨u',_⟩=>(envOf [(2,.ptr 2 0 0),(3,.ptr 3 0 0),(4,.ptr 4 0 0),(5,.int .i64 k)],stOf [(2,⟨157,3,[wdA false u']⟩),(3,⟨157,3,[wdA false v]⟩),(4,⟨157,3,[.agg [.bool false,.int .u64 0,.int .u64 0]]⟩)])) (fun x=>x.1) ⟨u,ug,u0,Nat.le_refl _,up⟩ ?_ (fun ⟨u',ug',u0',us',up'⟩=>?_)
     ·refine weakX [] (of_decide_eq_true rfl) (of_decide_eq_true rfl) ?_
      (simp only [wdA,vcW,vZ,Int.reduceEq,Int.reduceNe,Int.reduceLT,Int.reduceLE,Nat.reduceEqDiff,Nat.reduceAdd,reduceIte,reduceCtorEq,Nat.reduceLT,Nat.reduceLeDiff,Nat.reduceShiftRight,Nat.reduceMod])
      (repeat' first | exact trivial | (with_reducible first | exact RnB.fxB (ints_fxB _) | rfl | refine And.intro ?_ ?_) | (with_reducible (first | refine RnB.bb ?_ | refine RnB.nb ?_);simp only [vcW,vZ,Int.reduceEq,Int.reduceNe,Int.reduceLT,Int.reduceLE,Nat.reduceEqDiff,Nat.reduceAdd,reduceIte,reduceCtorEq,Nat.reduceLT,Nat.reduceLeDiff,Nat.reduceShiftRight,Nat.reduceMod]) | (with_reducible first | refine RnB.ii ?_ | refine RnB.app ?_) | (with_reducible refine RnB.fxB ?_;simp only [vcW,vZ,Int.reduceEq,Int.reduceNe,Int.reduceLT,Int.reduceLE,Nat.reduceEqDiff,Nat.reduceAdd,reduceIte,reduceCtorEq,Nat.reduceLT,Nat.reduceLeDiff,Nat.reduceShiftRight,Nat.reduceMod]) | omega)
     ·dsimp only at ug' u0' us' up' ⊢
      have ha:=and_1 _ (low u')
      rw [mod_low] at ha
      by_cases hu:u' % 2=0
      ·have hc:((u' % 2:Nat):Int)=0:=by omega
       have hh:=half_s false u' (by unfold W128;omega)
       unfold wdA at hh ⊢
       simp only [ha,hc,vZ,Int.reduceEq,Int.reduceNe,Int.reduceLT,Int.reduceLE,Nat.reduceEqDiff,Nat.reduceAdd,reduceIte,reduceCtorEq,Nat.reduceLT,Nat.reduceLeDiff,Nat.reduceShiftRight,Nat.reduceMod]
       refine callS_of hh ?_
       simp only [vZ,Int.reduceEq,Int.reduceNe,Int.reduceLT,Int.reduceLE,Nat.reduceEqDiff,Nat.reduceAdd,reduceIte,reduceCtorEq,Nat.reduceLT,Nat.reduceLeDiff,Nat.reduceShiftRight,Nat.reduceMod]
       refine ⟨⟨u' / 2,by rw [gcd_half_l hu (by omega)];exact ug',by omega,by omega,by omega⟩,by simp only;omega,?_⟩
       refine weakX [] (of_decide_eq_true rfl) (of_decide_eq_true rfl) ?_
       (simp only [wdA,vcW,vZ,Int.reduceEq,Int.reduceNe,Int.reduceLT,Int.reduceLE,Nat.reduceEqDiff,Nat.reduceAdd,reduceIte,reduceCtorEq,Nat.reduceLT,Nat.reduceLeDiff,Nat.reduceShiftRight,Nat.reduceMod])
       (repeat' first | exact trivial | (with_reducible first | exact RnB.fxB (ints_fxB _) | rfl | refine And.intro ?_ ?_) | (with_reducible (first | refine RnB.bb ?_ | refine RnB.nb ?_);simp only [vcW,vZ,Int.reduceEq,Int.reduceNe,Int.reduceLT,Int.reduceLE,Nat.reduceEqDiff,Nat.reduceAdd,reduceIte,reduceCtorEq,Nat.reduceLT,Nat.reduceLeDiff,Nat.reduceShiftRight,Nat.reduceMod]) | (with_reducible first | refine RnB.ii ?_ | refine RnB.app ?_) | (with_reducible refine RnB.fxB ?_;simp only [vcW,vZ,Int.reduceEq,Int.reduceNe,Int.reduceLT,Int.reduceLE,Nat.reduceEqDiff,Nat.reduceAdd,reduceIte,reduceCtorEq,Nat.reduceLT,Nat.reduceLeDiff,Nat.reduceShiftRight,Nat.reduceMod]) | omega)
      ·have hc:¬ ((u' % 2:Nat):Int)=0:=by omega
       unfold wdA
       simp only [ha,hc,vZ,Int.reduceEq,Int.reduceNe,Int.reduceLT,Int.reduceLE,Nat.reduceEqDiff,Nat.reduceAdd,reduceIte,reduceCtorEq,Nat.reduceLT,Nat.reduceLeDiff,Nat.reduceShiftRight,Nat.reduceMod]
       refine W_loop (t:=.mk) (α:=PSigma fun v':Nat=>Nat.gcd u' v'=g∧0<v'∧v'≤v) (fun ⟨v',_⟩=>(envOf [(2,.ptr 2 0 0),(3,.ptr 3 0 0),(4,.ptr 4 0 0),(5,.int .i64 k)],stOf [(2,⟨157,3,[wdA false u']⟩),(3,⟨157,3,[wdA false v']⟩),(4,⟨157,3,[.agg [.bool false,.int .u64 0,.int .u64 0]]⟩)])) (fun x=>x.1) ⟨v,ug',by omega,Nat.le_refl _⟩ ?_ (fun ⟨v',vg',v0',vs'⟩=>?_)
       ·refine weakX [] (of_decide_eq_true rfl) (of_decide_eq_true rfl) ?_
        (simp only [wdA,vcW,vZ,Int.reduceEq,Int.reduceNe,Int.reduceLT,Int.reduceLE,Nat.reduceEqDiff,Nat.reduceAdd,reduceIte,reduceCtorEq,Nat.reduceLT,Nat.reduceLeDiff,Nat.reduceShiftRight,Nat.reduceMod])
        (repeat' first | exact trivial | (with_reducible first | exact RnB.fxB (ints_fxB _) | rfl | refine And.intro ?_ ?_) | (with_reducible (first | refine RnB.bb ?_ | refine RnB.nb ?_);simp only [vcW,vZ,Int.reduceEq,Int.reduceNe,Int.reduceLT,Int.reduceLE,Nat.reduceEqDiff,Nat.reduceAdd,reduceIte,reduceCtorEq,Nat.reduceLT,Nat.reduceLeDiff,Nat.reduceShiftRight,Nat.reduceMod]) | (with_reducible first | refine RnB.ii ?_ | refine RnB.app ?_) | (with_reducible refine RnB.fxB ?_;simp only [vcW,vZ,Int.reduceEq,Int.reduceNe,Int.reduceLT,Int.reduceLE,Nat.reduceEqDiff,Nat.reduceAdd,reduceIte,reduceCtorEq,Nat.reduceLT,Nat.reduceLeDiff,Nat.reduceShiftRight,Nat.reduceMod]) | omega)
       ·dsimp only at vg' v0' vs' ⊢
        have hb:=and_1 _ (low v')
        rw [mod_low] at hb
        by_cases hv:v' % 2=0
        ·have hd:((v' % 2:Nat):Int)=0:=by omega
         have hh:=half_s false v' (by unfold W128;omega)
         unfold wdA at hh ⊢
         simp only [hb,hd,vZ,Int.reduceEq,Int.reduceNe,Int.reduceLT,Int.reduceLE,Nat.reduceEqDiff,Nat.reduceAdd,reduceIte,reduceCtorEq,Nat.reduceLT,Nat.reduceLeDiff,Nat.reduceShiftRight,Nat.reduceMod]
         refine callS_of hh ?_
         simp only [vZ,Int.reduceEq,Int.reduceNe,Int.reduceLT,Int.reduceLE,Nat.reduceEqDiff,Nat.reduceAdd,reduceIte,reduceCtorEq,Nat.reduceLT,Nat.reduceLeDiff,Nat.reduceShiftRight,Nat.reduceMod]
         refine ⟨⟨v' / 2,by rw [gcd_half_r (by omega) hv];exact vg',by omega,by omega⟩,by simp only;omega,?_⟩
         refine weakX [] (of_decide_eq_true rfl) (of_decide_eq_true rfl) ?_
         (simp only [wdA,vcW,vZ,Int.reduceEq,Int.reduceNe,Int.reduceLT,Int.reduceLE,Nat.reduceEqDiff,Nat.reduceAdd,reduceIte,reduceCtorEq,Nat.reduceLT,Nat.reduceLeDiff,Nat.reduceShiftRight,Nat.reduceMod])
         (repeat' first | exact trivial | (with_reducible first | exact RnB.fxB (ints_fxB _) | rfl | refine And.intro ?_ ?_) | (with_reducible (first | refine RnB.bb ?_ | refine RnB.nb ?_);simp only [vcW,vZ,Int.reduceEq,Int.reduceNe,Int.reduceLT,Int.reduceLE,Nat.reduceEqDiff,Nat.reduceAdd,reduceIte,reduceCtorEq,Nat.reduceLT,Nat.reduceLeDiff,Nat.reduceShiftRight,Nat.reduceMod]) | (with_reducible first | refine RnB.ii ?_ | refine RnB.app ?_) | (with_reducible refine RnB.fxB ?_;simp only [vcW,vZ,Int.reduceEq,Int.reduceNe,Int.reduceLT,Int.reduceLE,Nat.reduceEqDiff,Nat.reduceAdd,reduceIte,reduceCtorEq,Nat.reduceLT,Nat.reduceLeDiff,Nat.reduceShiftRight,Nat.reduceMod]) | omega)
        ·have hd:¬ ((v' % 2:Nat):Int)=0:=by omega
         have hL:=isLess_s false false v' u'
         have hN:=fun z=>negated_s false z
         have hP:∀ p q:Nat,q≤p→p≤m+n→Sound Tryz.prog 106 [wdA false p,wdA true q] (wdA false (p - q)):=fun p q h1 h2=>by
          have:=plus_other_s false p q (by unfold W128;omega) (by unfold W128;omega)
          rw [if_neg (by omega)] at this
          exact this
         by_cases hlt:v'<u'
         ·rw [decide_eq_true hlt] at hL
          have hP1:=hP u' v' (by omega) (by omega)
          have hN1:Sound Tryz.prog 185 [wdA false v'] (wdA true v'):=negated_s false v'
          unfold wdA at hL hP1 hN1 ⊢
          simp only [hb,hd,vZ,Int.reduceEq,Int.reduceNe,Int.reduceLT,Int.reduceLE,Nat.reduceEqDiff,Nat.reduceAdd,reduceIte,reduceCtorEq,Nat.reduceLT,Nat.reduceLeDiff,Nat.reduceShiftRight,Nat.reduceMod]
          refine callS_of hL ?_
          simp only [vZ,Int.reduceEq,Int.reduceNe,Int.reduceLT,Int.reduceLE,Nat.reduceEqDiff,Nat.reduceAdd,reduceIte,reduceCtorEq,Nat.reduceLT,Nat.reduceLeDiff,Nat.reduceShiftRight,Nat.reduceMod]
          refine callS_of hN1 ?_
          simp only [vZ,Int.reduceEq,Int.reduceNe,Int.reduceLT,Int.reduceLE,Nat.reduceEqDiff,Nat.reduceAdd,reduceIte,reduceCtorEq,Nat.reduceLT,Nat.reduceLeDiff,Nat.reduceShiftRight,Nat.reduceMod]
          refine callS_of hP1 ?_
          simp only [vZ,Int.reduceEq,Int.reduceNe,Int.reduceLT,Int.reduceLE,Nat.reduceEqDiff,Nat.reduceAdd,reduceIte,reduceCtorEq,Nat.reduceLT,Nat.reduceLeDiff,Nat.reduceShiftRight,Nat.reduceMod]
          refine ⟨⟨(v',u' - v'),?_,v0',by simp only;omega,by simp only;omega⟩,by simp only;omega,?_⟩
          ·simp only;rw [gcd_sub_r (by omega),Nat.gcd_comm];exact vg'
          ·refine weakX [] (of_decide_eq_true rfl) (of_decide_eq_true rfl) ?_
           (simp only [wdA,vcW,vZ,Int.reduceEq,Int.reduceNe,Int.reduceLT,Int.reduceLE,Nat.reduceEqDiff,Nat.reduceAdd,reduceIte,reduceCtorEq,Nat.reduceLT,Nat.reduceLeDiff,Nat.reduceShiftRight,Nat.reduceMod])
           (repeat' first | exact trivial | (with_reducible first | exact RnB.fxB (ints_fxB _) | rfl | refine And.intro ?_ ?_) | (with_reducible (first | refine RnB.bb ?_ | refine RnB.nb ?_);simp only [vcW,vZ,Int.reduceEq,Int.reduceNe,Int.reduceLT,Int.reduceLE,Nat.reduceEqDiff,Nat.reduceAdd,reduceIte,reduceCtorEq,Nat.reduceLT,Nat.reduceLeDiff,Nat.reduceShiftRight,Nat.reduceMod]) | (with_reducible first | refine RnB.ii ?_ | refine RnB.app ?_) | (with_reducible refine RnB.fxB ?_;simp only [vcW,vZ,Int.reduceEq,Int.reduceNe,Int.reduceLT,Int.reduceLE,Nat.reduceEqDiff,Nat.reduceAdd,reduceIte,reduceCtorEq,Nat.reduceLT,Nat.reduceLeDiff,Nat.reduceShiftRight,Nat.reduceMod]) | omega)
         ·rw [decide_eq_false hlt] at hL
          have hP1:=hP v' u' (by omega) (by omega)
          have hN1:Sound Tryz.prog 185 [wdA false u'] (wdA true u'):=negated_s false u'
          unfold wdA at hL hP1 hN1 ⊢
          simp only [hb,hd,vZ,Int.reduceEq,Int.reduceNe,Int.reduceLT,Int.reduceLE,Nat.reduceEqDiff,Nat.reduceAdd,reduceIte,reduceCtorEq,Nat.reduceLT,Nat.reduceLeDiff,Nat.reduceShiftRight,Nat.reduceMod]
          refine callS_of hL ?_
          simp only [vZ,Int.reduceEq,Int.reduceNe,Int.reduceLT,Int.reduceLE,Nat.reduceEqDiff,Nat.reduceAdd,reduceIte,reduceCtorEq,Nat.reduceLT,Nat.reduceLeDiff,Nat.reduceShiftRight,Nat.reduceMod]
          refine callS_of hN1 ?_
          simp only [vZ,Int.reduceEq,Int.reduceNe,Int.reduceLT,Int.reduceLE,Nat.reduceEqDiff,Nat.reduceAdd,reduceIte,reduceCtorEq,Nat.reduceLT,Nat.reduceLeDiff,Nat.reduceShiftRight,Nat.reduceMod]
          refine callS_of hP1 ?_
          simp only [vZ,Int.reduceEq,Int.reduceNe,Int.reduceLT,Int.reduceLE,Nat.reduceEqDiff,Nat.reduceAdd,reduceIte,reduceCtorEq,Nat.reduceLT,Nat.reduceLeDiff,Nat.reduceShiftRight,Nat.reduceMod]
          refine ⟨⟨(u',v' - u'),?_,u0',by simp only;omega,by simp only;omega⟩,by simp only;omega,?_⟩
          ·simp only;rw [gcd_sub_r (by omega)];exact vg'
          ·refine weakX [] (of_decide_eq_true rfl) (of_decide_eq_true rfl) ?_
           (simp only [wdA,vcW,vZ,Int.reduceEq,Int.reduceNe,Int.reduceLT,Int.reduceLE,Nat.reduceEqDiff,Nat.reduceAdd,reduceIte,reduceCtorEq,Nat.reduceLT,Nat.reduceLeDiff,Nat.reduceShiftRight,Nat.reduceMod])
           (repeat' first | exact trivial | (with_reducible first | exact RnB.fxB (ints_fxB _) | rfl | refine And.intro ?_ ?_) | (with_reducible (first | refine RnB.bb ?_ | refine RnB.nb ?_);simp only [vcW,vZ,Int.reduceEq,Int.reduceNe,Int.reduceLT,Int.reduceLE,Nat.reduceEqDiff,Nat.reduceAdd,reduceIte,reduceCtorEq,Nat.reduceLT,Nat.reduceLeDiff,Nat.reduceShiftRight,Nat.reduceMod]) | (with_reducible first | refine RnB.ii ?_ | refine RnB.app ?_) | (with_reducible refine RnB.fxB ?_;simp only [vcW,vZ,Int.reduceEq,Int.reduceNe,Int.reduceLT,Int.reduceLE,Nat.reduceEqDiff,Nat.reduceAdd,reduceIte,reduceCtorEq,Nat.reduceLT,Nat.reduceLeDiff,Nat.reduceShiftRight,Nat.reduceMod]) | omega)
end Go.Proofs.YtgmpcbpmnimkoaaGreatDoor

/- The examples of chapter 2,by running the abstract code;an iterator from the end on. By an AI agent;nothing here is trusted. -/
namespace Go.Proofs.YtgmpcbpmnimkoaaGreatDoor
open Go.Av

def w128 (p:Bool × Int × Int):AV:=.agg [.bool p.1,.int .u64 p.2.1,.int .u64 p.2.2]
def w128s (l:List (Bool × Int × Int)):List AV:=l.map w128
theorem w128s_length (l:List (Bool × Int × Int)):(w128s l).length=l.length:=by simp [w128s]
theorem w128s_get (l:List (Bool × Int × Int)) (i:Nat) (h:i<l.length):(w128s l)[i]?=some (.agg [.bool l[i].1,.int .u64 l[i].2.1,.int .u64 l[i].2.2]):=by
 simp [w128s,w128,h]
def backL (l:List (Bool × Int × Int)):Nat→List (List AV)
 | 0=>[]
 | k+1=>backL l k ++ [[.int .i64 ((l.length:Int) - 1 - k),w128 (l.getD (l.length - 1 - k) default)]]
theorem backL_le (l:List (Bool × Int × Int)) (k n:Nat) (h:k≤n):∃ r,backL l n=backL l k ++ r:=by
 obtain ⟨m,rfl⟩:=Nat.exists_eq_add_of_le h
 induction m with
 | zero=>exact ⟨[],by simp⟩
 | succ m ih =>
  obtain ⟨r,hr⟩:=ih (by omega)
  exact ⟨r ++ [[.int .i64 ((l.length:Int) - 1 - (k+m:Nat)),w128 (l.getD (l.length - 1 - (k+m)) default)]],by rw [← Nat.add_assoc,backL,hr,List.append_assoc]⟩
theorem deadAll_no:deadAll noStore=noStore:=rfl
theorem backward_s (l:List (Bool × Int × Int)) (hl:l.length≤1000000):SeqA Tryz.prog 252 [.eptr (.sl (w128s l)) 0] (backL l l.length):=by
 refine seq_W f_slices_Backward_pulse_wide_pulse_wide_1 (Nat.le_of_ble_eq_true rfl) fun y=>?_
 simp only [c_slices_Backward_pulse_wide_pulse_wide_1,w128s_length,vcC,Int.reduceEq,Int.reduceNe,Int.reduceLT,Int.reduceLE,Nat.reduceEqDiff,Nat.reduceAdd,reduceIte,reduceCtorEq,Nat.reduceLT,Nat.reduceLeDiff,eq_self,vcP,WY_skip,WY_reg,WY_regY,WY_seq,WY_cond,WY_block,WY_exit,WY_ret,VY_nil,VY_yld,VY_yldg,VY_ps,seqY_n,seqY_r,seqY_x,blockY_n,blockY_r,blockY_x,isCallvs,isCallv,isY,List.any_cons,List.any_nil,Bool.or_false,Bool.or_true,Bool.false_or,Bool.and_false,Bool.false_and]
 refine ⟨by unfold I64;omega,?_⟩
 refine WY_loop (α:=PSigma fun k:Nat=>k≤l.length) (fun k=>((envOf [(0,.yld y),(1,.eptr (.sl (w128s l)) 0),(3,.int .i64 ((l.length:Int) - 1 - k.1))],noStore),some (backL l k.1)))
  (fun k=>l.length - k.1) ⟨0,by simp⟩ (weakE _ ?_) ?_ (fun ⟨k,hk⟩=>?_)
 ·simp only [vcC,Int.reduceEq,Int.reduceNe,Int.reduceLT,Int.reduceLE,Nat.reduceEqDiff,Nat.reduceAdd,reduceIte,reduceCtorEq,Nat.reduceLT,Nat.reduceLeDiff,eq_self,vcP,WY_skip,WY_reg,WY_regY,WY_seq,WY_cond,WY_block,WY_exit,WY_ret,VY_nil,VY_yld,VY_yldg,VY_ps,seqY_n,seqY_r,seqY_x,blockY_n,blockY_r,blockY_x,isCallvs,isCallv,isY,List.any_cons,List.any_nil,Bool.or_false,Bool.or_true,Bool.false_or,Bool.and_false,Bool.false_and];simp
 ·simp [backL]
 ·simp only [vcC,Int.reduceEq,Int.reduceNe,Int.reduceLT,Int.reduceLE,Nat.reduceEqDiff,Nat.reduceAdd,reduceIte,reduceCtorEq,Nat.reduceLT,Nat.reduceLeDiff,eq_self,vcP,WY_skip,WY_reg,WY_regY,WY_seq,WY_cond,WY_block,WY_exit,WY_ret,VY_nil,VY_yld,VY_yldg,VY_ps,seqY_n,seqY_r,seqY_x,blockY_n,blockY_r,blockY_x,isCallvs,isCallv,isY,List.any_cons,List.any_nil,Bool.or_false,Bool.or_true,Bool.false_or,Bool.and_false,Bool.false_and]
  refine brB_split (fun h=>?_) (fun h=>?_)
  ·have h':k<l.length:=by simp only [decide_eq_true_eq] at h;omega
   have h2:((l.length:Int) - 1 - k).toNat=l.length - 1 - k:=by omega
   have hg:=w128s_get l (l.length - 1 - k) (by omega)
   simp only [h2,hg,vcC,Int.reduceEq,Int.reduceNe,Int.reduceLT,Int.reduceLE,Nat.reduceEqDiff,Nat.reduceAdd,reduceIte,reduceCtorEq,Nat.reduceLT,Nat.reduceLeDiff,eq_self,vcP,WY_skip,WY_reg,WY_regY,WY_seq,WY_cond,WY_block,WY_exit,WY_ret,VY_nil,VY_yld,VY_yldg,VY_ps,seqY_n,seqY_r,seqY_x,blockY_n,blockY_r,blockY_x,isCallvs,isCallv,isY,List.any_cons,List.any_nil,Bool.or_false,Bool.or_true,Bool.false_or,Bool.and_false,Bool.false_and]
   refine ⟨by omega,?_⟩
   obtain ⟨rest,hrest⟩:=backL_le l (k+1) l.length h'
   rw [backL,w128,show l.getD (l.length - 1 - k) default=l[l.length - 1 - k]'(by omega) by simp [List.getD,List.getElem?_eq_getElem (show l.length - 1 - k<l.length by omega)]] at hrest
   refine yS_of (backL l k) rest rfl ?_ ?_ ?_
   ·rw [hrest];simp
   ·simp only [deadAll_no,vcC,Int.reduceEq,Int.reduceNe,Int.reduceLT,Int.reduceLE,Nat.reduceEqDiff,Nat.reduceAdd,reduceIte,reduceCtorEq,Nat.reduceLT,Nat.reduceLeDiff,eq_self,vcP,WY_skip,WY_reg,WY_regY,WY_seq,WY_cond,WY_block,WY_exit,WY_ret,VY_nil,VY_yld,VY_yldg,VY_ps,seqY_n,seqY_r,seqY_x,blockY_n,blockY_r,blockY_x,isCallvs,isCallv,isY,List.any_cons,List.any_nil,Bool.or_false,Bool.or_true,Bool.false_or,Bool.and_false,Bool.false_and]
    refine ⟨by unfold I64;omega,⟨k+1,h'⟩,by simp only;omega,weakE _ ?_,?_⟩
    ·simp only [vcC,Int.reduceEq,Int.reduceNe,Int.reduceLT,Int.reduceLE,Nat.reduceEqDiff,Nat.reduceAdd,reduceIte,reduceCtorEq,Nat.reduceLT,Nat.reduceLeDiff,eq_self,vcP,WY_skip,WY_reg,WY_regY,WY_seq,WY_cond,WY_block,WY_exit,WY_ret,VY_nil,VY_yld,VY_yldg,VY_ps,seqY_n,seqY_r,seqY_x,blockY_n,blockY_r,blockY_x,isCallvs,isCallv,isY,List.any_cons,List.any_nil,Bool.or_false,Bool.or_true,Bool.false_or,Bool.and_false,Bool.false_and]
     simp only [AV.int.injEq,true_and,and_true]
     omega
    ·simp only [backL,w128,show l.getD (l.length - 1 - k) default=l[l.length - 1 - k]'(by omega) by simp [List.getD,List.getElem?_eq_getElem (show l.length - 1 - k<l.length by omega)]]
   ·simp only [deadAll_no,vcC,Int.reduceEq,Int.reduceNe,Int.reduceLT,Int.reduceLE,Nat.reduceEqDiff,Nat.reduceAdd,reduceIte,reduceCtorEq,Nat.reduceLT,Nat.reduceLeDiff,eq_self,vcP,WY_skip,WY_reg,WY_regY,WY_seq,WY_cond,WY_block,WY_exit,WY_ret,VY_nil,VY_yld,VY_yldg,VY_ps,seqY_n,seqY_r,seqY_x,blockY_n,blockY_r,blockY_x,isCallvs,isCallv,isY,List.any_cons,List.any_nil,Bool.or_false,Bool.or_true,Bool.false_or,Bool.and_false,Bool.false_and];simp
  ·simp only [vcC,Int.reduceEq,Int.reduceNe,Int.reduceLT,Int.reduceLE,Nat.reduceEqDiff,Nat.reduceAdd,reduceIte,reduceCtorEq,Nat.reduceLT,Nat.reduceLeDiff,eq_self,vcP,WY_skip,WY_reg,WY_regY,WY_seq,WY_cond,WY_block,WY_exit,WY_ret,VY_nil,VY_yld,VY_yldg,VY_ps,seqY_n,seqY_r,seqY_x,blockY_n,blockY_r,blockY_x,isCallvs,isCallv,isY,List.any_cons,List.any_nil,Bool.or_false,Bool.or_true,Bool.false_or,Bool.and_false,Bool.false_and]
   have:k=l.length:=by simp only [decide_eq_false_iff_not,Bool.not_true] at h;omega
   subst this
   simp

def unw:AV→Option (Bool × Int × Int)
 | .agg [.bool a,.int .u64 b,.int .u64 c]=>some (a,b,c)
 | _=>none
def unws:List AV→Option (List (Bool × Int × Int))
 | []=>some []
 | x :: l=>match unw x,unws l with
  | some n,some m=>some (n :: m)
  | _,_=>none
theorem unws_some:∀ {l:List AV} {m:List (Bool × Int × Int)},unws l=some m→l=w128s m
 | [],m,h=>by cases h;rfl
 | x :: l,m,h=>by
  simp only [unws] at h
  split at h
  ·rename_i n k h1 h2
   cases h
   rw [unws_some h2]
   unfold unw at h1
   split at h1
   ·cases h1;rfl
   ·cases h1
  ·cases h
def unint:AV→Option Int
 | .int .i64 n=>some n
 | _=>none
def unints:List AV→Option (List Int)
 | []=>some []
 | x :: l=>match unint x,unints l with
  | some n,some m=>some (n :: m)
  | _,_=>none
theorem unints_some:∀ {l:List AV} {m:List Int},unints l=some m→l=ints m
 | [],m,h=>by cases h;rfl
 | x :: l,m,h=>by
  simp only [unints] at h
  split at h
  ·rename_i n k h1 h2
   cases h
   rw [unints_some h2]
   unfold unint at h1
   split at h1
   ·cases h1;rfl
   ·cases h1
  ·cases h

def itP:IterT:=fun g caps=>if g=252 then (match caps with
 | [.eptr (.sl es) 0]=>(match unws es with
  | some l=>if l.length≤1000000 then some (backL l l.length) else none
  | none=>none)
 | _=>none) else none
theorem itP_ok:∀ g caps xs,itP g caps=some xs→SeqA Tryz.prog g caps xs:=by
 intro g caps xs h
 unfold itP at h
 split at h
 ·rename_i hg
  subst hg
  split at h
  ·rename_i es
   split at h
   ·rename_i l hl
    split at h
    ·rename_i hc
     cases h
     rw [unws_some hl]
     exact backward_s l hc
    ·cases h
   ·cases h
  ·cases h
 ·cases h
def extV:CallT:=fun f a =>
 if f=170 then (match a with
  | [.sl es]=>(match unints es with
   | some l=>if l.length≤1000000 then some (.sl es) else none
   | none=>none)
  | _=>none)
 else if f=191 then (match a with
  | [.int .u64 x,.int .u64 y,.int .u64 c]=>if 0≤x∧0≤y∧0≤c∧c≤1 then some (.tup [.int .u64 ((x+y+c) % 18446744073709551616),.int .u64 ((x+y+c) / 18446744073709551616)]) else none
  | _=>none)
 else if f=192 then (match a with
  | [.int .u64 x,.int .u64 y,.int .u64 c]=>if 0≤x∧0≤y∧0≤c∧c≤1 then some (.tup [.int .u64 (((x.toNat+18446744073709551616 - y.toNat - c.toNat) % 18446744073709551616:Nat):Int),.int .u64 ((if x.toNat<y.toNat+c.toNat then 1 else 0:Nat):Int)]) else none
  | _=>none)
 else none
theorem extV_ok:∀ f a v,extV f a=some v→Sound Tryz.prog f a v:=by
 intro f a v h
 unfold extV at h
 split at h
 ·rename_i hf
  subst hf
  split at h
  ·rename_i es
   split at h
   ·rename_i l hl
    split at h
    ·rename_i hc
     cases h
     rw [unints_some hl]
     exact Clone_s l (by omega)
    ·cases h
   ·cases h
  ·cases h
 ·split at h
  ·rename_i hf
   subst hf
   split at h
   ·rename_i x y c
    split at h
    ·rename_i hc
     cases h
     exact Add64_s x y c hc.1 hc.2.1 hc.2.2
    ·cases h
   ·cases h
  ·split at h
   ·rename_i hf
    subst hf
    split at h
    ·rename_i x y c
     split at h
     ·rename_i hc
      cases h
      have:=Sub64_s x.toNat y.toNat c.toNat (by omega)
      rw [show ((x.toNat:Nat):Int)=x by omega,show ((y.toNat:Nat):Int)=y by omega,show ((c.toNat:Nat):Int)=c by omega] at this
      exact this
     ·cases h
    ·cases h
   ·cases h
def extO:OwnT:=fun f a=>if f=170 then (match a with
  | [.sl es]=>(match unints es with
   | some l=>if l.length≤1000000 then some (3,1,es) else none
   | none=>none)
  | _=>none) else none
theorem extO_ok:∀ f a q,extO f a=some q→SoundO Tryz.prog f a q.1 q.2.1 q.2.2:=by
 intro f a q h
 unfold extO at h
 split at h
 ·rename_i hf
  subst hf
  split at h
  ·rename_i es
   split at h
   ·rename_i l hl
    split at h
    ·rename_i hc
     cases h
     rw [unints_some hl]
     exact Clone_o l (by omega)
    ·cases h
   ·cases h
  ·cases h
 ·cases h
def extP:CT:=⟨extV,extO⟩
theorem extP_ok:extP.ok Tryz.prog:=⟨extV_ok,extO_ok⟩
def owP:FuncId→Bool:=fun f=>decide (f=170) || decide (f=120)
def tabP:List (Nat × Nat × Nat × MC × List (Nat × Option (Option Nat))):=[(11,91,0,c_law02_awake,[(0,none)]),(89,47,2,c_pulse_KeptAfter,[(4,none),(5,none)]),(16,6,1,c_base_CopyInts,[(2,none)]),(90,65,1,c_pulse_GainOf,[(2,(some (some 2))),(3,none)]),(82,12,2,c_pulse_Restored,[(4,none),(5,none)]),(57,6,1,c_ref02_Wave,[(2,(some (some 1)))]),(34,26,2,c_base_Ints,[(4,none)]),(14,58,2,c_pulse_FitOf,[(4,(some (some 2))),(5,none)]),(88,3,0,c_law02_Template,[(0,(some (some 2)))]),(23,41,3,c_pulse_ErrorOf,[(6,(some (some 2))),(7,none)]),(117,15,1,c_pulse_first,[(2,none)]),(178,30,1,c_pulse_timesErr,[(2,none)]),(119,7,2,c_pulse_unless,[(4,none)]),(179,5,1,c_pulse_isTick,[(2,none)]),(114,9,2,c_slices_ContainsFunc_int_int,[(4,none)]),(180,6,1,c_pulse_GainOf_1,[(2,none)]),(116,15,3,c_pulse_within,[(6,none)]),(181,25,1,c_slices_Max_int_int,[(2,none)]),(130,17,1,c_pulse_sum,[(2,none)]),(175,28,2,c_pulse_lowest,[(4,(some (some 2))),(5,none)]),(174,60,3,c_pulse_droop,[(6,none),(7,none)]),(217,24,1,c_pulse_samplesErr,[(2,none),(3,none)]),(151,11,1,c_pulse_sampled,[(2,none)]),(227,16,2,c_pulse_floor,[(4,none)]),(152,21,1,c_pulse_fitErr,[(2,none)]),(176,5,1,c_pulse_isSample,[(2,none)]),(91,22,2,c_pulse_fittedErr,[(4,none)]),(92,55,2,c_pulse_problemOf,[(4,(some (some 2)))]),(93,8,1,c_math_bits_TrailingZeros,[(2,none)]),(94,92,2,c_pulse_problem_solved,[(4,(some (some 3))),(5,none)]),(95,56,3,c_pulse_problem_isBest,[(6,none)]),(96,62,2,c_pulse_reduced,[(4,(some (some 2))),(5,none)]),(104,21,3,c_pulse_bothErr,[(6,none)]),(105,35,3,c_pulse_differences,[(6,none)]),(106,57,2,c_pulse_wide_plus,[(4,(some (some 3)))]),(107,11,1,c_pulse_wideOf,[(2,(some (some 3)))]),(108,33,2,c_pulse_wide_times,[(4,(some (some 3)))]),(109,39,1,c_pulse_wide_text,[(2,none)]),(197,19,2,c_slices_IndexFunc_int_int,[(4,none)]),(127,15,2,c_pulse_divisor,[(4,none)]),(226,12,1,c_pulse_droopErr,[(2,none)]),(250,6,1,c_pulse_samplesErr_1,[(2,none)]),(218,6,1,c_pulse_fitErr_1,[(2,none)]),(199,10,2,c_pulse_isSized,[(4,none)]),(118,32,1,c_pulse_templateErr,[(2,none)]),(120,47,2,c_pulse_model,[(4,none)]),(128,30,3,c_pulse_against,[(6,none)]),(182,14,1,c_math_bits_TrailingZeros32,[(2,none)]),(183,14,1,c_math_bits_TrailingZeros64,[(2,none)]),(184,57,1,c_pulse_determinant,[(2,(some (some 3)))]),(185,11,1,c_pulse_wide_negated,[(2,(some (some 3)))]),(186,9,1,c_pulse_wide_sign,[(2,none)]),(187,60,2,c_pulse_common,[(4,(some (some 3)))]),(188,51,2,c_pulse_wide_over,[(4,(some (some 3)))]),(131,24,2,c_pulse_wide_isLess,[(4,none)]),(193,51,2,c_math_bits_Mul64,[(4,none),(5,none)]),(194,135,3,c_math_bits_Div64,[(6,none),(7,none)]),(195,8,2,c_strconv_FormatUint,[(4,none)]),(198,6,1,c_pulse_templateErr_1,[(2,none)]),(200,5,1,c_pulse_templateErr_2,[(2,none)]),(228,11,1,c_pulse_wide_isZero,[(2,none)]),(229,8,1,c_pulse_wide_size,[(2,(some (some 3)))]),(230,16,1,c_pulse_wide_half,[(2,(some (some 3)))]),(231,6,1,c_pulse_wide_twice,[(2,(some (some 3)))]),(232,4,1,c_slices_Backward_pulse_wide_pulse_wide,[(2,none)]),(233,6,1,c_math_bits_LeadingZeros64,[(2,none)]),(234,32,2,c_internal_strconv_FormatUint,[(4,none)]),(252,19,2,c_slices_Backward_pulse_wide_pulse_wide_1,[]),(253,25,1,c_math_bits_Len64,[(2,none)]),(254,15,1,c_internal_strconv_small,[(2,none)]),(255,15,1,c_internal_strconv_numDigits,[(2,none)]),(256,167,2,c_internal_strconv_formatBase10,[]),(257,102,5,c_internal_strconv_formatBits,[(10,none),(11,none)]),(270,6,1,c_internal_strconv_log10Pow2,[(2,none)]),(271,4,1,c_internal_strconv_bool2_int,[(2,none)]),(272,8,1,c_internal_strconv_isPowerOfTwo,[(2,none)])]
theorem tabP_ok:∀ f c,lookC tabP f=some c→cFun Tryz.prog f=some c:=by
 refine lookC_ok ?_
 unfold tabP
 simp only [List.forall_mem_cons]
 exact ⟨f_law02_awake,f_pulse_KeptAfter,f_base_CopyInts,f_pulse_GainOf,f_pulse_Restored,f_ref02_Wave,f_base_Ints,f_pulse_FitOf,f_law02_Template,f_pulse_ErrorOf,f_pulse_first,f_pulse_timesErr,f_pulse_unless,f_pulse_isTick,f_slices_ContainsFunc_int_int,f_pulse_GainOf_1,f_pulse_within,f_slices_Max_int_int,f_pulse_sum,f_pulse_lowest,f_pulse_droop,f_pulse_samplesErr,f_pulse_sampled,f_pulse_floor,f_pulse_fitErr,f_pulse_isSample,f_pulse_fittedErr,f_pulse_problemOf,f_math_bits_TrailingZeros,f_pulse_problem_solved,f_pulse_problem_isBest,f_pulse_reduced,f_pulse_bothErr,f_pulse_differences,f_pulse_wide_plus,f_pulse_wideOf,f_pulse_wide_times,f_pulse_wide_text,f_slices_IndexFunc_int_int,f_pulse_divisor,f_pulse_droopErr,f_pulse_samplesErr_1,f_pulse_fitErr_1,f_pulse_isSized,f_pulse_templateErr,f_pulse_model,f_pulse_against,f_math_bits_TrailingZeros32,f_math_bits_TrailingZeros64,f_pulse_determinant,f_pulse_wide_negated,f_pulse_wide_sign,f_pulse_common,f_pulse_wide_over,f_pulse_wide_isLess,f_math_bits_Mul64,f_math_bits_Div64,f_strconv_FormatUint,f_pulse_templateErr_1,f_pulse_templateErr_2,f_pulse_wide_isZero,f_pulse_wide_size,f_pulse_wide_half,f_pulse_wide_twice,f_slices_Backward_pulse_wide_pulse_wide,f_math_bits_LeadingZeros64,f_internal_strconv_FormatUint,f_slices_Backward_pulse_wide_pulse_wide_1,f_math_bits_Len64,f_internal_strconv_small,f_internal_strconv_numDigits,f_internal_strconv_formatBase10,f_internal_strconv_formatBits,f_internal_strconv_log10Pow2,f_internal_strconv_bool2_int,f_internal_strconv_isPowerOfTwo,fun p hp=>by cases hp⟩
end Go.Proofs.YtgmpcbpmnimkoaaGreatDoor

/- Quotients of numbers of 128 bits. By an AI agent;nothing here is trusted. -/
namespace Go.Proofs.YtgmpcbpmnimkoaaGreatDoor
open Go.Av

theorem Backward_s (l:List (Bool × Int × Int)):Sound Tryz.prog 232 [.sl (w128s l)] (.fn 252 [.eptr (.sl (w128s l)) 0]):=by
 refine sound_W f_slices_Backward_pulse_wide_pulse_wide (Nat.le_of_ble_eq_true rfl) ?_
 simp only [c_slices_Backward_pulse_wide_pulse_wide,vZ,Int.reduceEq,Int.reduceNe,Int.reduceLT,Int.reduceLE,Nat.reduceEqDiff,Nat.reduceAdd,reduceIte,reduceCtorEq,Nat.reduceLT,Nat.reduceLeDiff,Nat.reduceShiftRight,Nat.reduceMod]
def pwl (d n:Nat):List (Bool × Int × Int):=(List.range n).map fun i=>(false,((d * 2 ^ i / 18446744073709551616:Nat):Int),((d * 2 ^ i % 18446744073709551616:Nat):Int))
theorem pwl_len (d n:Nat):(pwl d n).length=n:=by simp [pwl]
theorem pwl_get (d n i:Nat) (h:i<n):(w128s (pwl d n))[i]?=some (wdA false (d * 2 ^ i)):=by
 simp [w128s,pwl,w128,wdA,h]
theorem pwl_getD (d n i:Nat) (h:i<n):w128 ((pwl d n).getD i default)=wdA false (d * 2 ^ i):=by
 simp [pwl,w128,wdA,h,List.getD]
theorem w128s_imm (l:List (Bool × Int × Int)):(w128s l).all imm=true:=List.all_eq_true.2 fun x hx=>by
 obtain ⟨y,_,rfl⟩:=List.mem_map.1 hx;rfl
theorem pwl_succ (d n:Nat):w128s (pwl d n) ++ [wdA false (d * 2 ^ n)]=w128s (pwl d (n+1)):=by
 simp [w128s,pwl,w128,wdA,List.range_succ]
theorem pwl_fxB (d n:Nat):(w128s (pwl d n)).all fx=true:=List.all_eq_true.2 fun x hx=>by
 obtain ⟨y,_,rfl⟩:=List.mem_map.1 hx;rfl
def ovS (m d n:Nat):Nat→Nat × Nat
 | 0=>(m,0)
 | j+1=>let p:=ovS m d n j
  if p.1<d * 2 ^ (n - 1 - j) then (p.1,p.2+p.2) else (p.1 - d * 2 ^ (n - 1 - j),p.2+p.2+1)
theorem ovS_inv {m d n:Nat} (hn:m<d * 2 ^ n):∀ j,j≤n→(ovS m d n j).2 * (d * 2 ^ (n - j))+(ovS m d n j).1=m∧(ovS m d n j).1<d * 2 ^ (n - j)
 | 0,_=>by simp [ovS,hn]
 | j+1,h=>by
  obtain ⟨h1,h2⟩:=ovS_inv hn j (by omega)
  have e:n - j=(n - 1 - j)+1:=by omega
  have e2:n - (j+1)=n - 1 - j:=by omega
  rw [e2]
  have hd:d * 2 ^ (n - j)=2 * (d * 2 ^ (n - 1 - j)):=by rw [e,Nat.pow_succ];grind
  rw [hd] at h1 h2
  obtain ⟨D,hD⟩:∃ D,D=d * 2 ^ (n - 1 - j):=⟨_,rfl⟩
  rw [← hD] at h1 h2 ⊢
  unfold ovS
  simp only [← hD]
  clear hD hd
  generalize ovS m d n j=p at *
  obtain ⟨r,q⟩:=p
  simp only at h1 h2 ⊢
  by_cases g:r<D
  ·rw [if_pos g];simp only;constructor
   ·grind
   ·exact g
  ·rw [if_neg g];simp only;constructor
   ·have:r - D+D=r:=by omega
    grind
   ·omega
theorem ovS_end {m d n:Nat} (hn:m<d * 2 ^ n) (hd:0<d):(ovS m d n n).2=m / d:=by
 obtain ⟨h1,h2⟩:=ovS_inv hn n (Nat.le_refl _)
 rw [Nat.sub_self,Nat.pow_zero,Nat.mul_one] at h1 h2
 obtain ⟨p,hp⟩:∃ p,p=ovS m d n n:=⟨_,rfl⟩
 rw [← hp] at h1 h2 ⊢
 rw [← h1,Nat.add_comm,Nat.add_mul_div_right _ _ hd,Nat.div_eq_of_lt h2,Nat.zero_add]
theorem ovS_le {m d n:Nat} (hn:m<d * 2 ^ n) (hd:0<d) {j:Nat} (hj:j≤n):(ovS m d n j).1≤m∧(ovS m d n j).2≤m:=by
 obtain ⟨h1,h2⟩:=ovS_inv hn j hj
 have:(ovS m d n j).2≤(ovS m d n j).2 * (d * 2 ^ (n - j)):=Nat.le_mul_of_pos_right _ (Nat.mul_pos hd (Nat.two_pow_pos _))
 omega
theorem backL_len (l:List (Bool × Int × Int)):∀ n,(backL l n).length=n
 | 0=>rfl
 | n+1=>by rw [backL,List.length_append,backL_len l n];rfl
theorem backL_get (l:List (Bool × Int × Int)):∀ {n j:Nat} (h:j<(backL l n).length),(backL l n)[j]=[.int .i64 ((l.length:Int) - 1 - j),w128 (l.getD (l.length - 1 - j) default)]
 | 0,j,h=>by simp [backL] at h
 | n+1,j,h=>by
  rw [backL_len] at h
  by_cases e:j<n
  ·have:=backL_get l (n:=n) (j:=j) (by rw [backL_len];exact e)
   rw [← this]
   simp only [backL]
   exact List.getElem_append_left _
  ·have:j=n:=by omega
   subst this
   simp only [backL]
   rw [List.getElem_append_right (by rw [backL_len];exact Nat.le_refl _)]
   simp [backL_len]
theorem at_prefix2 {β:Type} {L pre:List β} {x:β} {rest:List β} (h:pre ++ x :: rest=L):∃ hk:pre.length<L.length,x=L[pre.length]:=by
 subst h
 exact ⟨by simp,by simp⟩
theorem over_s (a:Bool) (m d:Nat) (hm:W128 (m+m)) (hd:0<d) (hdd:W128 (d+d)):Sound Tryz.prog 188 [wdA a m,wdA false d] (wdA false (m / d)):=by
 refine sound_W f_pulse_wide_over (Nat.le_of_ble_eq_true rfl) ?_
 have hs1:=size_s a m
 unfold W128 at hm hdd
 have hmax:=maxLen_big
 have hpos:∀ i:Nat,0<2 ^ i:=Nat.two_pow_pos
 unfold wdA at hs1 ⊢
 simp only [c_pulse_wide_over,vZ,Int.reduceEq,Int.reduceNe,Int.reduceLT,Int.reduceLE,Nat.reduceEqDiff,Nat.reduceAdd,reduceIte,reduceCtorEq,Nat.reduceLT,Nat.reduceLeDiff,Nat.reduceShiftRight,Nat.reduceMod]
 refine callS_of hs1 ?_
 simp only [vZ,Int.reduceEq,Int.reduceNe,Int.reduceLT,Int.reduceLE,Nat.reduceEqDiff,Nat.reduceAdd,reduceIte,reduceCtorEq,Nat.reduceLT,Nat.reduceLeDiff,Nat.reduceShiftRight,Nat.reduceMod]
 refine W_loop (t:=.mk) (α:=PSigma fun i:Nat=>d * 2 ^ i≤m∨i=0) (fun ⟨i,_⟩=>(envOf [(2,.ptr 2 0 0),(4,.ptr 4 0 0),(5,.ptr 5 0 0),(6,.buf 100 (i+1))],stOf [(2,⟨157,3,[wdA false m]⟩),(4,⟨157,3,[.agg [.bool false,.int .u64 0,.int .u64 0]]⟩),(5,⟨157,3,[.agg [.bool false,.int .u64 0,.int .u64 0]]⟩),(100,⟨157,3,w128s (pwl d (i+1))⟩)])) (fun x=>m - x.1) ⟨0,Or.inr rfl⟩ ?_ (fun ⟨i,hi⟩=>?_)
 ·have z:w128s (pwl d (0+1))=[wdA false d]:=by simp [pwl,w128s,w128,wdA]
  refine weakX [(100,some 12)] (of_decide_eq_true rfl) (of_decide_eq_true rfl) ?_
  (simp only [z,wdA,vcW,vZ,Int.reduceEq,Int.reduceNe,Int.reduceLT,Int.reduceLE,Nat.reduceEqDiff,Nat.reduceAdd,reduceIte,reduceCtorEq,Nat.reduceLT,Nat.reduceLeDiff,Nat.reduceShiftRight,Nat.reduceMod])
  (repeat' first | exact trivial | (with_reducible first | exact RnB.fxB (ints_fxB _) | rfl | refine And.intro ?_ ?_) | (with_reducible (first | refine RnB.bb ?_ | refine RnB.nb ?_);simp only [vcW,vZ,Int.reduceEq,Int.reduceNe,Int.reduceLT,Int.reduceLE,Nat.reduceEqDiff,Nat.reduceAdd,reduceIte,reduceCtorEq,Nat.reduceLT,Nat.reduceLeDiff,Nat.reduceShiftRight,Nat.reduceMod]) | (with_reducible first | refine RnB.ii ?_ | refine RnB.app ?_) | (with_reducible refine RnB.fxB ?_;simp only [vcW,vZ,Int.reduceEq,Int.reduceNe,Int.reduceLT,Int.reduceLE,Nat.reduceEqDiff,Nat.reduceAdd,reduceIte,reduceCtorEq,Nat.reduceLT,Nat.reduceLeDiff,Nat.reduceShiftRight,Nat.reduceMod]) | omega)
 ·dsimp only at hi ⊢
  have hle:d * 2 ^ i≤m∨d * 2 ^ i=d:=by
   rcases hi with h | h
   ·exact .inl h
   ·right;rw [h,Nat.pow_zero,Nat.mul_one]
  have hsu:d * 2 ^ i+d * 2 ^ i=d * 2 ^ (i+1):=by rw [Nat.pow_succ,← Nat.mul_assoc];omega
  have him:i≤127:=by
   refine Classical.byContradiction fun h=>?_
   have h1:2 ^ 128≤2 ^ i:=Nat.pow_le_pow_right (by omega) (by omega)
   have h2:2 ^ i≤d * 2 ^ i:=Nat.le_mul_of_pos_left _ hd
   have h3:(2:Nat) ^ 128=340282366920938463463374607431768211456:=by decide
   omega
  have ht:=twice_s false (d * 2 ^ i) (by unfold W128;omega)
  have hL:=isLess_s false false m (d * 2 ^ i+d * 2 ^ i)
  have hg:=pwl_get d (i+1) i (by omega)
  have hwl:(w128s (pwl d (i+1))).length=i+1:=by rw [w128s_length,pwl_len]
  have hix:(((i+1:Nat):Int) - 1).toNat=i:=by omega
  rw [hsu] at ht hL
  unfold wdA at ht hL hg ⊢
  by_cases hlt:m<d * 2 ^ (i+1)
  ·rw [decide_eq_true hlt] at hL
   simp only [hg,hwl,hix,vZ,Int.reduceEq,Int.reduceNe,Int.reduceLT,Int.reduceLE,Nat.reduceEqDiff,Nat.reduceAdd,reduceIte,reduceCtorEq,Nat.reduceLT,Nat.reduceLeDiff,Nat.reduceShiftRight,Nat.reduceMod]
   (repeat (with_reducible refine And.intro ?_ ?_;focus (first | omega | (unfold I64;omega))))
   refine callS_of ht ?_
   simp only [vZ,Int.reduceEq,Int.reduceNe,Int.reduceLT,Int.reduceLE,Nat.reduceEqDiff,Nat.reduceAdd,reduceIte,reduceCtorEq,Nat.reduceLT,Nat.reduceLeDiff,Nat.reduceShiftRight,Nat.reduceMod]
   refine callS_of hL ?_
   simp only [vZ,Int.reduceEq,Int.reduceNe,Int.reduceLT,Int.reduceLE,Nat.reduceEqDiff,Nat.reduceAdd,reduceIte,reduceCtorEq,Nat.reduceLT,Nat.reduceLeDiff,Nat.reduceShiftRight,Nat.reduceMod]
   rw [borB_good _ _ _ _ _ hwl.symm (List.all_eq_true.1 (pwl_fxB d (i+1)))]
   refine callS_of (Backward_s (pwl d (i+1))) ?_
   simp only [vZ,Int.reduceEq,Int.reduceNe,Int.reduceLT,Int.reduceLE,Nat.reduceEqDiff,Nat.reduceAdd,reduceIte,reduceCtorEq,Nat.reduceLT,Nat.reduceLeDiff,Nat.reduceShiftRight,Nat.reduceMod]
   obtain ⟨st,hst⟩:∃ st:List (List AV)→Store,st=fun pre=>stOf [(2,⟨157,3,[wdA false (ovS m d (i+1) pre.length).1]⟩),(4,⟨157,3,[.agg [.bool false,.int .u64 0,.int .u64 0]]⟩),(5,⟨157,3,[wdA false (ovS m d (i+1) pre.length).2]⟩)]:=⟨_,rfl⟩
   refine W_weakR (t:=.mk) (envOf [(2,.ptr 2 0 0),(4,.ptr 4 0 0),(5,.ptr 5 0 0),(34,.fn 252 [.eptr (.sl (w128s (pwl d (i+1)))) 0])],st []) ?_ ?_
   ·subst hst
    have z:wdA false (ovS m d (i+1) 0).2=.agg [.bool false,.int .u64 0,.int .u64 0]:=by simp [ovS,wdA]
    have z2:wdA false (ovS m d (i+1) 0).1=.agg [.bool false,.int .u64 ((m / 18446744073709551616:Nat):Int),.int .u64 ((m % 18446744073709551616:Nat):Int)]:=by simp [ovS,wdA]
    refine weakX [] (of_decide_eq_true rfl) (of_decide_eq_true rfl) ?_
    (simp only [z,z2,vcX,w128s_imm,vcW,vZ,Int.reduceEq,Int.reduceNe,Int.reduceLT,Int.reduceLE,Nat.reduceEqDiff,Nat.reduceAdd,reduceIte,reduceCtorEq,Nat.reduceLT,Nat.reduceLeDiff,Nat.reduceShiftRight,Nat.reduceMod])
    (repeat' first | exact trivial | (with_reducible first | exact RnB.fxB (ints_fxB _) | rfl | refine And.intro ?_ ?_) | (with_reducible (first | refine RnB.bb ?_ | refine RnB.nb ?_);simp only [vcW,vZ,Int.reduceEq,Int.reduceNe,Int.reduceLT,Int.reduceLE,Nat.reduceEqDiff,Nat.reduceAdd,reduceIte,reduceCtorEq,Nat.reduceLT,Nat.reduceLeDiff,Nat.reduceShiftRight,Nat.reduceMod]) | (with_reducible first | refine RnB.ii ?_ | refine RnB.app ?_) | (with_reducible refine RnB.fxB ?_;simp only [vcW,vZ,Int.reduceEq,Int.reduceNe,Int.reduceLT,Int.reduceLE,Nat.reduceEqDiff,Nat.reduceAdd,reduceIte,reduceCtorEq,Nat.reduceLT,Nat.reduceLeDiff,Nat.reduceShiftRight,Nat.reduceMod]) | omega)
   ·have hps:∀ x ∈ backL (pwl d (i+1)) (pwl d (i+1)).length,x.length=[35,36].length:=fun x hx=>by
     obtain ⟨j,hj,rfl⟩:=List.getElem_of_mem hx
     rw [backL_get _ hj];rfl
    refine W_rf (tt:=.mk) (xs:=backL (pwl d (i+1)) (pwl d (i+1)).length) rfl (by simp [imm]) rfl rfl (backward_s _ (by rw [pwl_len];omega)) hps st (Weak.refl _) (fun pre x rest hsp=>?_) ?_
    ·obtain ⟨hk,hx⟩:=at_prefix2 hsp
     rw [backL_get _ hk] at hx
     rw [backL_len,pwl_len] at hk
     rw [pwl_len,pwl_getD _ _ _ (by omega)] at hx
     subst hx
     have hstp:st (pre ++ [[.int .i64 (((i+1:Nat):Int) - 1 - pre.length),wdA false (d * 2 ^ (i+1 - 1 - pre.length))]])=stOf [(2,⟨157,3,[wdA false (ovS m d (i+1) (pre.length+1)).1]⟩),(4,⟨157,3,[.agg [.bool false,.int .u64 0,.int .u64 0]]⟩),(5,⟨157,3,[wdA false (ovS m d (i+1) (pre.length+1)).2]⟩)]:=by
      rw [hst];simp only [List.length_append,List.length_cons,List.length_nil]
     rw [hstp]
     have hso:st pre=stOf [(2,⟨157,3,[wdA false (ovS m d (i+1) pre.length).1]⟩),(4,⟨157,3,[.agg [.bool false,.int .u64 0,.int .u64 0]]⟩),(5,⟨157,3,[wdA false (ovS m d (i+1) pre.length).2]⟩)]:=by
      rw [hst]
     rw [hso]
     have hinv:=ovS_inv hlt pre.length (by omega)
     have hle2:=ovS_le hlt hd (j:=pre.length) (by omega)
     have hle3:=ovS_le hlt hd (j:=pre.length+1) (by omega)
     have hstep:ovS m d (i+1) (pre.length+1)=if (ovS m d (i+1) pre.length).1<d * 2 ^ (i+1 - 1 - pre.length) then ((ovS m d (i+1) pre.length).1,(ovS m d (i+1) pre.length).2+(ovS m d (i+1) pre.length).2) else ((ovS m d (i+1) pre.length).1 - d * 2 ^ (i+1 - 1 - pre.length),(ovS m d (i+1) pre.length).2+(ovS m d (i+1) pre.length).2+1):=rfl
     generalize ovS m d (i+1) (pre.length+1)=Q at *
     generalize ovS m d (i+1) pre.length=P at *
     generalize d * 2 ^ (i+1 - 1 - pre.length)=D at *
     obtain ⟨r,q⟩:=P
     simp only at hinv hle2 hle3 hstep
     have htw:=twice_s false q (by unfold W128;omega)
     have hL2:=isLess_s false false r D
     by_cases g:r<D
     ·rw [if_pos g] at hstep
      subst hstep
      rw [decide_eq_true g] at hL2
      unfold wdA at htw hL2 ⊢
      simp only [vZ,Int.reduceEq,Int.reduceNe,Int.reduceLT,Int.reduceLE,Nat.reduceEqDiff,Nat.reduceAdd,reduceIte,reduceCtorEq,Nat.reduceLT,Nat.reduceLeDiff,Nat.reduceShiftRight,Nat.reduceMod]
      refine callS_of htw ?_
      simp only [vZ,Int.reduceEq,Int.reduceNe,Int.reduceLT,Int.reduceLE,Nat.reduceEqDiff,Nat.reduceAdd,reduceIte,reduceCtorEq,Nat.reduceLT,Nat.reduceLeDiff,Nat.reduceShiftRight,Nat.reduceMod]
      refine callS_of hL2 ?_
      simp only [vZ,Int.reduceEq,Int.reduceNe,Int.reduceLT,Int.reduceLE,Nat.reduceEqDiff,Nat.reduceAdd,reduceIte,reduceCtorEq,Nat.reduceLT,Nat.reduceLeDiff,Nat.reduceShiftRight,Nat.reduceMod]
      refine weakX [] (of_decide_eq_true rfl) (of_decide_eq_true rfl) ?_
      (simp only [vcW,vZ,Int.reduceEq,Int.reduceNe,Int.reduceLT,Int.reduceLE,Nat.reduceEqDiff,Nat.reduceAdd,reduceIte,reduceCtorEq,Nat.reduceLT,Nat.reduceLeDiff,Nat.reduceShiftRight,Nat.reduceMod])
      (repeat' first | exact trivial | (with_reducible first | exact RnB.fxB (ints_fxB _) | rfl | refine And.intro ?_ ?_) | (with_reducible (first | refine RnB.bb ?_ | refine RnB.nb ?_);simp only [vcW,vZ,Int.reduceEq,Int.reduceNe,Int.reduceLT,Int.reduceLE,Nat.reduceEqDiff,Nat.reduceAdd,reduceIte,reduceCtorEq,Nat.reduceLT,Nat.reduceLeDiff,Nat.reduceShiftRight,Nat.reduceMod]) | (with_reducible first | refine RnB.ii ?_ | refine RnB.app ?_) | (with_reducible refine RnB.fxB ?_;simp only [vcW,vZ,Int.reduceEq,Int.reduceNe,Int.reduceLT,Int.reduceLE,Nat.reduceEqDiff,Nat.reduceAdd,reduceIte,reduceCtorEq,Nat.reduceLT,Nat.reduceLeDiff,Nat.reduceShiftRight,Nat.reduceMod]) | omega)
     ·rw [if_neg g] at hstep
      subst hstep
      simp only at hle3
      rw [decide_eq_false g] at hL2
      have hN1:Sound Tryz.prog 185 [wdA false D] (wdA true D):=negated_s false D
      have hP1:Sound Tryz.prog 106 [wdA false r,wdA true D] (wdA false (r - D)):=by
       have:=plus_other_s false r D (by unfold W128;omega) (by unfold W128;omega)
       rw [if_neg (by omega)] at this
       exact this
      have hO:=pwideOf_s 1 (by unfold S63;omega)
      have hP2:=plus_same_s false (q+q) 1 (by unfold W128;omega)
      have e1:(1:Int).natAbs=1:=rfl
      have e2:decide ((1:Int)<0)=false:=rfl
      rw [e1,e2] at hO
      unfold wdA at htw hL2 hN1 hP1 hO hP2 ⊢
      simp only [vZ,Int.reduceEq,Int.reduceNe,Int.reduceLT,Int.reduceLE,Nat.reduceEqDiff,Nat.reduceAdd,reduceIte,reduceCtorEq,Nat.reduceLT,Nat.reduceLeDiff,Nat.reduceShiftRight,Nat.reduceMod]
      refine callS_of htw ?_
      simp only [vZ,Int.reduceEq,Int.reduceNe,Int.reduceLT,Int.reduceLE,Nat.reduceEqDiff,Nat.reduceAdd,reduceIte,reduceCtorEq,Nat.reduceLT,Nat.reduceLeDiff,Nat.reduceShiftRight,Nat.reduceMod]
      refine callS_of hL2 ?_
      simp only [vZ,Int.reduceEq,Int.reduceNe,Int.reduceLT,Int.reduceLE,Nat.reduceEqDiff,Nat.reduceAdd,reduceIte,reduceCtorEq,Nat.reduceLT,Nat.reduceLeDiff,Nat.reduceShiftRight,Nat.reduceMod]
      refine callS_of hN1 ?_
      simp only [vZ,Int.reduceEq,Int.reduceNe,Int.reduceLT,Int.reduceLE,Nat.reduceEqDiff,Nat.reduceAdd,reduceIte,reduceCtorEq,Nat.reduceLT,Nat.reduceLeDiff,Nat.reduceShiftRight,Nat.reduceMod]
      refine callS_of hP1 ?_
      simp only [vZ,Int.reduceEq,Int.reduceNe,Int.reduceLT,Int.reduceLE,Nat.reduceEqDiff,Nat.reduceAdd,reduceIte,reduceCtorEq,Nat.reduceLT,Nat.reduceLeDiff,Nat.reduceShiftRight,Nat.reduceMod]
      refine callS_of hO ?_
      simp only [vZ,Int.reduceEq,Int.reduceNe,Int.reduceLT,Int.reduceLE,Nat.reduceEqDiff,Nat.reduceAdd,reduceIte,reduceCtorEq,Nat.reduceLT,Nat.reduceLeDiff,Nat.reduceShiftRight,Nat.reduceMod]
      refine callS_of hP2 ?_
      simp only [vZ,Int.reduceEq,Int.reduceNe,Int.reduceLT,Int.reduceLE,Nat.reduceEqDiff,Nat.reduceAdd,reduceIte,reduceCtorEq,Nat.reduceLT,Nat.reduceLeDiff,Nat.reduceShiftRight,Nat.reduceMod]
      refine weakX [] (of_decide_eq_true rfl) (of_decide_eq_true rfl) ?_
      (simp only [vcW,vZ,Int.reduceEq,Int.reduceNe,Int.reduceLT,Int.reduceLE,Nat.reduceEqDiff,Nat.reduceAdd,reduceIte,reduceCtorEq,Nat.reduceLT,Nat.reduceLeDiff,Nat.reduceShiftRight,Nat.reduceMod])
      (repeat' first | exact trivial | (with_reducible first | exact RnB.fxB (ints_fxB _) | rfl | refine And.intro ?_ ?_) | (with_reducible (first | refine RnB.bb ?_ | refine RnB.nb ?_);simp only [vcW,vZ,Int.reduceEq,Int.reduceNe,Int.reduceLT,Int.reduceLE,Nat.reduceEqDiff,Nat.reduceAdd,reduceIte,reduceCtorEq,Nat.reduceLT,Nat.reduceLeDiff,Nat.reduceShiftRight,Nat.reduceMod]) | (with_reducible first | refine RnB.ii ?_ | refine RnB.app ?_) | (with_reducible refine RnB.fxB ?_;simp only [vcW,vZ,Int.reduceEq,Int.reduceNe,Int.reduceLT,Int.reduceLE,Nat.reduceEqDiff,Nat.reduceAdd,reduceIte,reduceCtorEq,Nat.reduceLT,Nat.reduceLeDiff,Nat.reduceShiftRight,Nat.reduceMod]) | omega)
    ·have hend:=ovS_end hlt hd
     rw [pwl_len]
     have hso:st (backL (pwl d (i+1)) (i+1))=stOf [(2,⟨157,3,[wdA false (ovS m d (i+1) (i+1)).1]⟩),(4,⟨157,3,[.agg [.bool false,.int .u64 0,.int .u64 0]]⟩),(5,⟨157,3,[wdA false (m / d)]⟩)]:=by
      rw [hst];simp only [backL_len,hend]
     rw [hso]
     unfold wdA
     simp only [vZ,Int.reduceEq,Int.reduceNe,Int.reduceLT,Int.reduceLE,Nat.reduceEqDiff,Nat.reduceAdd,reduceIte,reduceCtorEq,Nat.reduceLT,Nat.reduceLeDiff,Nat.reduceShiftRight,Nat.reduceMod]
  ·rw [decide_eq_false hlt] at hL
   simp only [hg,hwl,hix,vZ,Int.reduceEq,Int.reduceNe,Int.reduceLT,Int.reduceLE,Nat.reduceEqDiff,Nat.reduceAdd,reduceIte,reduceCtorEq,Nat.reduceLT,Nat.reduceLeDiff,Nat.reduceShiftRight,Nat.reduceMod]
   (repeat (with_reducible refine And.intro ?_ ?_;focus (first | omega | (unfold I64;omega))))
   refine callS_of ht ?_
   simp only [vZ,Int.reduceEq,Int.reduceNe,Int.reduceLT,Int.reduceLE,Nat.reduceEqDiff,Nat.reduceAdd,reduceIte,reduceCtorEq,Nat.reduceLT,Nat.reduceLeDiff,Nat.reduceShiftRight,Nat.reduceMod]
   refine callS_of hL ?_
   simp only [hg,hwl,hix,vZ,Int.reduceEq,Int.reduceNe,Int.reduceLT,Int.reduceLE,Nat.reduceEqDiff,Nat.reduceAdd,reduceIte,reduceCtorEq,Nat.reduceLT,Nat.reduceLeDiff,Nat.reduceShiftRight,Nat.reduceMod]
   (repeat (with_reducible refine And.intro ?_ ?_;focus (first | omega | (unfold I64;omega))))
   refine callS_of ht ?_
   simp only [hwl,vZ,Int.reduceEq,Int.reduceNe,Int.reduceLT,Int.reduceLE,Nat.reduceEqDiff,Nat.reduceAdd,reduceIte,reduceCtorEq,Nat.reduceLT,Nat.reduceLeDiff,Nat.reduceShiftRight,Nat.reduceMod]
   (repeat (with_reducible refine And.intro ?_ ?_;focus (first | omega | (unfold I64;omega))))
   have hl2:=Nat.lt_two_pow_self (n:=i+1)
   have hl3:2 ^ (i+1)≤d * 2 ^ (i+1):=Nat.le_mul_of_pos_left _ hd
   have hsuc:=pwl_succ d (i+1)
   unfold wdA at hsuc
   refine ⟨⟨i+1,Or.inl (by omega)⟩,by simp only;omega,?_⟩
   refine weakX [(100,some 32)] (of_decide_eq_true rfl) (of_decide_eq_true rfl) ?_
   (simp only [wdA,hsuc,vcW,vZ,Int.reduceEq,Int.reduceNe,Int.reduceLT,Int.reduceLE,Nat.reduceEqDiff,Nat.reduceAdd,reduceIte,reduceCtorEq,Nat.reduceLT,Nat.reduceLeDiff,Nat.reduceShiftRight,Nat.reduceMod])
   (repeat' first | exact trivial | (with_reducible first | exact RnB.fxB (ints_fxB _) | rfl | refine And.intro ?_ ?_) | (with_reducible (first | refine RnB.bb ?_ | refine RnB.nb ?_);simp only [vcW,vZ,Int.reduceEq,Int.reduceNe,Int.reduceLT,Int.reduceLE,Nat.reduceEqDiff,Nat.reduceAdd,reduceIte,reduceCtorEq,Nat.reduceLT,Nat.reduceLeDiff,Nat.reduceShiftRight,Nat.reduceMod]) | (with_reducible first | refine RnB.ii ?_ | refine RnB.app ?_) | (with_reducible refine RnB.fxB ?_;simp only [vcW,vZ,Int.reduceEq,Int.reduceNe,Int.reduceLT,Int.reduceLE,Nat.reduceEqDiff,Nat.reduceAdd,reduceIte,reduceCtorEq,Nat.reduceLT,Nat.reduceLeDiff,Nat.reduceShiftRight,Nat.reduceMod]) | omega)
   all_goals exact RnB.fxB (pwl_fxB _ _)
end Go.Proofs.YtgmpcbpmnimkoaaGreatDoor

/- A solution in lowest terms. By an AI agent;nothing here is trusted. -/
namespace Go.Proofs.YtgmpcbpmnimkoaaGreatDoor
open Go.Av

def gcA (D:Bool × Nat) (P:List (Bool × Nat)):Nat:=Lin.gcds D.2 (P.map (·.2))
def qtL (D:Bool × Nat) (P:List (Bool × Nat)):List Nat:=(D :: P).map fun p=>p.2 / gcA D P
def smallQ (D:Bool × Nat) (P:List (Bool × Nat)):Bool:=(qtL D P).all fun n=>decide (n≤1000000000000)
def rdA (D:Bool × Nat) (P:List (Bool × Nat)):List AV:=if smallQ D P then [.agg [.int .i64 ((qtL D P).getD 0 0:Nat),.sl (ints (ntA ((qtL D P).drop 1)))],.int .i64 0] else [.agg [.int .i64 0,.sl []],.int .i64 8]
theorem qtL_len (D:Bool × Nat) (P:List (Bool × Nat)):(qtL D P).length=P.length+1:=by simp [qtL]
theorem gcds_app2 (d:Nat) (a:List Nat) (x:Nat):Lin.gcds d (a ++ [x])=Nat.gcd (Lin.gcds d a) x:=by simp [Lin.gcds,List.foldl_append]
theorem newsOk_w (P:List (Bool × Nat)):newsOk 3 (w2s P):=by
 intro x hx
 obtain ⟨p,_,rfl⟩:=List.mem_map.1 hx
 exact ⟨rfl,rfl⟩
theorem ntA_snoc (T:List Nat) (n:Nat):ntA (T ++ [n])=ntA T ++ [(n:Int)]:=by simp [ntA]
set_option maxHeartbeats 4000000 in
theorem reduced_s {D:Bool × Nat} {P:List (Bool × Nat)} (hDs:D.1=false) (hD0:0<D.2) (hD:D.2<170141183460469231731687303715884105728) (hP:∀ p ∈ P,p.2<170141183460469231731687303715884105728) (hl:P.length≤5) :
  Sound Tryz.prog 96 [wdA D.1 D.2,.sl (w2s P)] (.tup (rdA D P)):=by
 refine sound_W f_pulse_reduced (Nat.le_of_ble_eq_true rfl) ?_
 have hmax:=maxLen_big
 have hg:∀ i,Lin.gcds D.2 ((P.take i).map (·.2))≤D.2:=fun i=>Nat.le_of_dvd hD0 (Lin.gcds_dvd _ _)
 unfold wdA
 simp only [c_pulse_reduced,w2s_length,vZ,Int.reduceEq,Int.reduceNe,Int.reduceLT,Int.reduceLE,Nat.reduceEqDiff,Nat.reduceAdd,reduceIte,reduceCtorEq,Nat.reduceLT,Nat.reduceLeDiff,Nat.reduceShiftRight,Nat.reduceMod]
 refine W_loop (t:=.mk) (α:=PSigma fun i:Nat=>i≤P.length) (fun ⟨i,_⟩=>(envOf [(1,.sl (w2s P)),(2,.ptr 2 0 0),(4,.ptr 4 0 0),(5,.int .i64 0),(6,.ptr 6 0 0),(14,.sl (w2s P)),(15,.int .i64 P.length),(16,.int .i64 i)],stOf [(2,⟨157,3,[wdA D.1 D.2]⟩),(4,⟨29,2,[.agg [.int .i64 0,.nils]]⟩),(6,⟨157,3,[wdA false (Lin.gcds D.2 ((P.take i).map (·.2)))]⟩)])) (fun x=>P.length - x.1) ⟨0,Nat.zero_le _⟩ ?_ (fun ⟨i,hiS⟩=>?_)
 ·have z:Lin.gcds D.2 []=D.2:=rfl
  refine weakX [] (of_decide_eq_true rfl) (of_decide_eq_true rfl) ?_
  (simp only [z,vcW,vZ,Int.reduceEq,Int.reduceNe,Int.reduceLT,Int.reduceLE,Nat.reduceEqDiff,Nat.reduceAdd,reduceIte,reduceCtorEq,Nat.reduceLT,Nat.reduceLeDiff,Nat.reduceShiftRight,Nat.reduceMod])
  repeat' (with_reducible refine And.intro ?_ ?_)
  try any_goals (with_reducible exact RnB.wide)
  all_goals try (simp only [wdA,hDs,vcW,vZ,Int.reduceEq,Int.reduceNe,Int.reduceLT,Int.reduceLE,Nat.reduceEqDiff,Nat.reduceAdd,reduceIte,reduceCtorEq,Nat.reduceLT,Nat.reduceLeDiff,Nat.reduceShiftRight,Nat.reduceMod])
  (repeat' first | exact trivial | (with_reducible first | exact RnB.fxB (ints_fxB _) | rfl | refine And.intro ?_ ?_) | (with_reducible (first | refine RnB.bb ?_ | refine RnB.nb ?_);simp only [vcW,vZ,Int.reduceEq,Int.reduceNe,Int.reduceLT,Int.reduceLE,Nat.reduceEqDiff,Nat.reduceAdd,reduceIte,reduceCtorEq,Nat.reduceLT,Nat.reduceLeDiff,Nat.reduceShiftRight,Nat.reduceMod]) | (with_reducible first | refine RnB.ii ?_ | refine RnB.app ?_) | (with_reducible refine RnB.fxB ?_;simp only [vcW,vZ,Int.reduceEq,Int.reduceNe,Int.reduceLT,Int.reduceLE,Nat.reduceEqDiff,Nat.reduceAdd,reduceIte,reduceCtorEq,Nat.reduceLT,Nat.reduceLeDiff,Nat.reduceShiftRight,Nat.reduceMod]) | omega)
  all_goals trace_state
 ·dsimp only at hiS ⊢
  by_cases h':i<P.length
  ·have hc1:(i:Int)<P.length:=by omega
   have hpi:=hP _ (List.getElem_mem h')
   have hgi:=hg i
   have hnx:Lin.gcds D.2 ((P.take (i+1)).map (·.2))=Nat.gcd (Lin.gcds D.2 ((P.take i).map (·.2))) P[i].2:=by
    rw [List.take_succ_eq_append_getElem h',List.map_append];exact gcds_app2 _ _ _
   have hget:=w2s_get P i h'
   generalize Lin.gcds D.2 ((P.take i).map (·.2))=g at *
   obtain ⟨p,hp⟩:∃ p,p=P[i]:=⟨_,rfl⟩
   rw [← hp] at hpi hnx hget
   have hC:=common_s false p.1 g p.2 (by unfold W128;omega) (by unfold W128;omega) (by unfold W128;omega)
   rw [← hnx] at hC
   unfold wdA at hC hget ⊢
   simp only [hc1,hget,vZ,Int.reduceEq,Int.reduceNe,Int.reduceLT,Int.reduceLE,Nat.reduceEqDiff,Nat.reduceAdd,reduceIte,reduceCtorEq,Nat.reduceLT,Nat.reduceLeDiff,Nat.reduceShiftRight,Nat.reduceMod]
   (repeat (with_reducible refine And.intro ?_ ?_;focus (first | omega | (unfold I64;omega))))
   refine callS_of hC ?_
   simp only [vZ,Int.reduceEq,Int.reduceNe,Int.reduceLT,Int.reduceLE,Nat.reduceEqDiff,Nat.reduceAdd,reduceIte,reduceCtorEq,Nat.reduceLT,Nat.reduceLeDiff,Nat.reduceShiftRight,Nat.reduceMod]
   (repeat (with_reducible refine And.intro ?_ ?_;focus (first | omega | (unfold I64;omega))))
   refine ⟨⟨i+1,h'⟩,by simp only;omega,?_⟩
   refine weakX [] (of_decide_eq_true rfl) (of_decide_eq_true rfl) ?_
   (simp only [wdA,vcW,vZ,Int.reduceEq,Int.reduceNe,Int.reduceLT,Int.reduceLE,Nat.reduceEqDiff,Nat.reduceAdd,reduceIte,reduceCtorEq,Nat.reduceLT,Nat.reduceLeDiff,Nat.reduceShiftRight,Nat.reduceMod])
   repeat' (with_reducible refine And.intro ?_ ?_)
   try any_goals (with_reducible exact RnB.wide)
   (repeat' first | exact trivial | (with_reducible first | exact RnB.fxB (ints_fxB _) | rfl | refine And.intro ?_ ?_) | (with_reducible (first | refine RnB.bb ?_ | refine RnB.nb ?_);simp only [vcW,vZ,Int.reduceEq,Int.reduceNe,Int.reduceLT,Int.reduceLE,Nat.reduceEqDiff,Nat.reduceAdd,reduceIte,reduceCtorEq,Nat.reduceLT,Nat.reduceLeDiff,Nat.reduceShiftRight,Nat.reduceMod]) | (with_reducible first | refine RnB.ii ?_ | refine RnB.app ?_) | (with_reducible refine RnB.fxB ?_;simp only [vcW,vZ,Int.reduceEq,Int.reduceNe,Int.reduceLT,Int.reduceLE,Nat.reduceEqDiff,Nat.reduceAdd,reduceIte,reduceCtorEq,Nat.reduceLT,Nat.reduceLeDiff,Nat.reduceShiftRight,Nat.reduceMod]) | omega)
   all_goals trace_state
  ·have hil:i=P.length:=by omega
   subst hil
   have hc1:¬ (P.length:Int)<P.length:=by omega
   have hgf:Lin.gcds D.2 ((P.take P.length).map (·.2))=gcA D P:=by rw [List.take_length];rfl
   have hgl:=hg P.length
   rw [hgf] at hgl ⊢
   have hg0:0<gcA D P:=Nat.pos_of_dvd_of_pos (Lin.gcds_dvd _ _) hD0
   have hql:=qtL_len D P
   have hq:∀ i (h:i<P.length+1),(qtL D P)[i]'(by omega)=((D :: P)[i]'(by simp;omega)).2 / gcA D P:=fun i h=>by simp only [qtL,List.getElem_map]
   have hrd:rdA D P=if smallQ D P then [.agg [.int .i64 ((qtL D P).getD 0 0:Nat),.sl (ints (ntA ((qtL D P).drop 1)))],.int .i64 0] else [.agg [.int .i64 0,.sl []],.int .i64 8]:=rfl
   have hsm:smallQ D P=(qtL D P).all fun n=>decide (n≤1000000000000):=rfl
   rw [hrd]
   obtain ⟨Q,hQ⟩:∃ Q,Q=qtL D P:=⟨_,rfl⟩
   have hqx:∀ i (h:i<P.length+1) (h2:i<Q.length),Q[i]=((D :: P)[i]'(by simp;omega)).2 / gcA D P:=fun i h h2=>by subst hQ;exact hq i h
   rw [← hQ] at hql hsm ⊢
   generalize gcA D P=g at *
   unfold wdA
   simp only [hc1,vZ,Int.reduceEq,Int.reduceNe,Int.reduceLT,Int.reduceLE,Nat.reduceEqDiff,Nat.reduceAdd,reduceIte,reduceCtorEq,Nat.reduceLT,Nat.reduceLeDiff,Nat.reduceShiftRight,Nat.reduceMod]
   refine ⟨newsOk_w P,⟨by rw [w2s_length];omega,by rw [w2s_length];omega⟩,?_⟩
   refine W_loop (t:=.mk) (α:=PSigma fun i:Nat=>i≤P.length+1∧(Q.take i).all (fun n=>decide (n≤1000000000000))=true) (fun ⟨i,_⟩=>(envOf [(4,.ptr 4 0 0),(5,.int .i64 0),(6,.ptr 6 0 0),(9,.ptr 9 0 0),(27,.buf 100 (P.length+1)),(28,.int .i64 (P.length+1:Nat)),(29,.int .i64 i)],stOf [(4,⟨29,2,[.agg [.int .i64 0,.nils]]⟩),(6,⟨157,3,[wdA false g]⟩),(9,⟨29,2,[.agg [.int .i64 ((Q.take i).getD 0 0:Nat),.buf 101 (i - 1)]]⟩),(100,⟨157,3,w2s (D :: P)⟩),(101,⟨3,1,ints (ntA ((Q.take i).drop 1))⟩)])) (fun x=>P.length+1 - x.1) ⟨0,Nat.zero_le _,rfl⟩ ?_ (fun ⟨i,hiS,hal⟩=>?_)
   ·have z:ints (ntA (List.drop 1 []))=[]:=rfl
    have z2:((([]:List Nat).getD 0 0:Nat):Int)=0:=rfl
    have z3:w2s (D :: P)=wdA D.1 D.2 :: w2s P:=rfl
    have z4:1+(w2s P).length=P.length+1:=by rw [w2s_length];omega
    have z5:0 - 1=0:=rfl
    refine weakX [(100,some 27),(101,none)] (of_decide_eq_true rfl) (of_decide_eq_true rfl) ?_
    (simp only [z,z2,z3,z4,z5,wdA,vcW,vZ,Int.reduceEq,Int.reduceNe,Int.reduceLT,Int.reduceLE,Nat.reduceEqDiff,Nat.reduceAdd,reduceIte,reduceCtorEq,Nat.reduceLT,Nat.reduceLeDiff,Nat.reduceShiftRight,Nat.reduceMod])
    repeat' (with_reducible refine And.intro ?_ ?_)
    try any_goals (with_reducible exact RnB.wide)
    try any_goals exact RnB.agg2 rfl rfl rfl rfl (.imm _ rfl) (.virt 101 _ rfl rfl)
    try any_goals (with_reducible exact RnB.fxB (w2s_fxB (D :: P)))
    (repeat' first | exact trivial | (with_reducible first | exact RnB.fxB (ints_fxB _) | rfl | refine And.intro ?_ ?_) | (with_reducible (first | refine RnB.bb ?_ | refine RnB.nb ?_);simp only [vcW,vZ,Int.reduceEq,Int.reduceNe,Int.reduceLT,Int.reduceLE,Nat.reduceEqDiff,Nat.reduceAdd,reduceIte,reduceCtorEq,Nat.reduceLT,Nat.reduceLeDiff,Nat.reduceShiftRight,Nat.reduceMod]) | (with_reducible first | refine RnB.ii ?_ | refine RnB.app ?_) | (with_reducible refine RnB.fxB ?_;simp only [vcW,vZ,Int.reduceEq,Int.reduceNe,Int.reduceLT,Int.reduceLE,Nat.reduceEqDiff,Nat.reduceAdd,reduceIte,reduceCtorEq,Nat.reduceLT,Nat.reduceLeDiff,Nat.reduceShiftRight,Nat.reduceMod]) | omega)
    all_goals exact w2s_fxB P
   ·dsimp only at hiS hal ⊢
    by_cases h':i<P.length+1
    ·have hc1:(i:Int)<(P.length+1:Nat):=by omega
     have hDP:i<(D :: P).length:=by simp;omega
     have hget:=w2s_get (D :: P) i hDP
     have hwl:(w2s (D :: P)).length=P.length+1:=by rw [w2s_length];rfl
     have hqi:=hqx i h' (by omega)
     have hpb:((D :: P)[i]).2<170141183460469231731687303715884105728:=by
      rcases List.mem_cons.1 (List.getElem_mem hDP) with e | e
      ·rw [e];exact hD
      ·exact hP _ e
     obtain ⟨p,hp⟩:∃ p,p=(D :: P)[i]:=⟨_,rfl⟩
     rw [← hp] at hget hpb hqi
     have hO:=over_s p.1 p.2 g (by unfold W128;omega) hg0 (by unfold W128;omega)
     have hQl:i<Q.length:=by omega
     obtain ⟨q,hqd⟩:∃ q,q=p.2 / g:=⟨_,rfl⟩
     have hqle:q≤p.2:=by rw [hqd];exact Nat.div_le_self _ _
     rw [← hqd] at hqi hO
     have hO':Sound Tryz.prog 188 [wdA p.1 p.2,wdA false g] (wdA false q):=hO
     unfold wdA at hO' hget ⊢
     have hbig:¬ (q / 18446744073709551616=0∧q % 18446744073709551616≤1000000000000)→smallQ D P=false:=fun h=>by
      rw [hsm,List.all_eq_false]
      exact ⟨Q[i],List.getElem_mem hQl,by rw [hqi];simp;omega⟩
     simp only [hc1,hget,hwl,vZ,Int.reduceEq,Int.reduceNe,Int.reduceLT,Int.reduceLE,Nat.reduceEqDiff,Nat.reduceAdd,reduceIte,reduceCtorEq,Nat.reduceLT,Nat.reduceLeDiff,Nat.reduceShiftRight,Nat.reduceMod]
     (repeat (with_reducible refine And.intro ?_ ?_;focus (first | omega | (unfold I64;omega))))
     refine callS_of hO' ?_
     by_cases q1:q / 18446744073709551616=0
     case neg =>
      have q1':¬ ((q / 18446744073709551616:Nat):Int)=0:=by omega
      rw [hbig (fun h=>q1 h.1)]
      simp only [q1',vZ,Int.reduceEq,Int.reduceNe,Int.reduceLT,Int.reduceLE,Nat.reduceEqDiff,Nat.reduceAdd,reduceIte,reduceCtorEq,Nat.reduceLT,Nat.reduceLeDiff,Nat.reduceShiftRight,Nat.reduceMod]
     have q1':((q / 18446744073709551616:Nat):Int)=0:=by omega
     by_cases q2:q % 18446744073709551616≤1000000000000
     case neg =>
      have q2':(1000000000000:Int)<((q % 18446744073709551616:Nat):Int):=by omega
      rw [hbig (fun h=>q2 h.2)]
      simp only [q1',q2',vZ,Int.reduceEq,Int.reduceNe,Int.reduceLT,Int.reduceLE,Nat.reduceEqDiff,Nat.reduceAdd,reduceIte,reduceCtorEq,Nat.reduceLT,Nat.reduceLeDiff,Nat.reduceShiftRight,Nat.reduceMod]
     have q2':¬ (1000000000000:Int)<(q:Int):=by omega
     have hqm:q % 18446744073709551616=q:=by omega
     have hts:Q.take (i+1)=Q.take i ++ [q]:=by rw [List.take_succ_eq_append_getElem hQl,hqi]
     have hal2:(Q.take (i+1)).all (fun n=>decide (n≤1000000000000))=true:=by rw [hts,List.all_append,hal];simp;omega
     by_cases h0:i=0
     ·have h0':(i:Int)=0:=by omega
      subst h0
      have hz0:((0:Nat):Int)=0:=rfl
      have t1:Q.take 1=[q]:=hts
      have t2:(([q]:List Nat).getD 0 0)=q:=rfl
      have t3:List.drop 1 ([q]:List Nat)=[]:=rfl
      have t4:(0:Nat) - 1=0:=rfl
      have t5:1 - 1=0:=rfl
      have t6:ints (ntA [])=[]:=rfl
      have t7:List.drop 1 ([]:List Nat)=[]:=rfl
      have t8:(0:Int)+1=1:=rfl
      have t9:((1:Nat):Int)=1:=rfl
      simp only [q1',q2',hqm,hz0,vZ,Int.reduceEq,Int.reduceNe,Int.reduceLT,Int.reduceLE,Nat.reduceEqDiff,Nat.reduceAdd,reduceIte,reduceCtorEq,Nat.reduceLT,Nat.reduceLeDiff,Nat.reduceShiftRight,Nat.reduceMod]
      refine ⟨by unfold I64;omega,by unfold I64;omega,⟨1,by omega,hal2⟩,by simp only;omega,?_⟩
      refine weakX [(100,some 100),(101,some 101)] (of_decide_eq_true rfl) (of_decide_eq_true rfl) ?_
      (simp only [t1,t2,t3,t4,t5,t6,t7,t8,t9,wdA,vcW,vZ,Int.reduceEq,Int.reduceNe,Int.reduceLT,Int.reduceLE,Nat.reduceEqDiff,Nat.reduceAdd,reduceIte,reduceCtorEq,Nat.reduceLT,Nat.reduceLeDiff,Nat.reduceShiftRight,Nat.reduceMod])
      repeat' (with_reducible refine And.intro ?_ ?_)
      try any_goals (with_reducible exact RnB.wide)
      try any_goals exact RnB.agg2 rfl rfl rfl rfl (.imm _ rfl) (.buf 101 101 _ rfl)
      try any_goals (with_reducible exact RnB.fxB (w2s_fxB (D :: P)))
      (repeat' first | exact trivial | (with_reducible first | exact RnB.fxB (ints_fxB _) | rfl | refine And.intro ?_ ?_) | (with_reducible (first | refine RnB.bb ?_ | refine RnB.nb ?_);simp only [vcW,vZ,Int.reduceEq,Int.reduceNe,Int.reduceLT,Int.reduceLE,Nat.reduceEqDiff,Nat.reduceAdd,reduceIte,reduceCtorEq,Nat.reduceLT,Nat.reduceLeDiff,Nat.reduceShiftRight,Nat.reduceMod]) | (with_reducible first | refine RnB.ii ?_ | refine RnB.app ?_) | (with_reducible refine RnB.fxB ?_;simp only [vcW,vZ,Int.reduceEq,Int.reduceNe,Int.reduceLT,Int.reduceLE,Nat.reduceEqDiff,Nat.reduceAdd,reduceIte,reduceCtorEq,Nat.reduceLT,Nat.reduceLeDiff,Nat.reduceShiftRight,Nat.reduceMod]) | omega)
      all_goals trace_state
     ·have h0':¬ (i:Int)=0:=by omega
      have hl1:((Q.take i).drop 1).length=i - 1:=by rw [List.length_drop,List.length_take];omega
      have hl2:(ntA ((Q.take i).drop 1)).length=i - 1:=by rw [ntA_len];exact hl1
      have hd1:(Q.take (i+1)).drop 1=(Q.take i).drop 1 ++ [q]:=by
       rw [hts,List.drop_append_of_le_length (by rw [List.length_take];omega)]
      have hd2:ints (ntA ((Q.take (i+1)).drop 1))=ints (ntA ((Q.take i).drop 1)) ++ [.int .i64 q]:=by rw [hd1,ntA_snoc,ints_append];rfl
      have hd3:(Q.take (i+1)).getD 0 0=(Q.take i).getD 0 0:=by
       rw [hts,List.getD_eq_getElem?_getD,List.getD_eq_getElem?_getD,List.getElem?_append_left (by rw [List.length_take];omega)]
      have hd4:i - 1+1=i:=by omega
      have hd5:i+1 - 1=i:=by omega
      simp only [q1',q2',hqm,h0',ints_length,hl2,vZ,Int.reduceEq,Int.reduceNe,Int.reduceLT,Int.reduceLE,Nat.reduceEqDiff,Nat.reduceAdd,reduceIte,reduceCtorEq,Nat.reduceLT,Nat.reduceLeDiff,Nat.reduceShiftRight,Nat.reduceMod]
      refine ⟨by unfold I64;omega,⟨by omega,by omega⟩,by unfold I64;omega,⟨i+1,by omega,hal2⟩,by simp only;omega,?_⟩
      refine weakX [(100,some 100),(101,some 58)] (of_decide_eq_true rfl) (of_decide_eq_true rfl) ?_
      (simp only [hd2,hd3,hd4,hd5,wdA,vcW,vZ,Int.reduceEq,Int.reduceNe,Int.reduceLT,Int.reduceLE,Nat.reduceEqDiff,Nat.reduceAdd,reduceIte,reduceCtorEq,Nat.reduceLT,Nat.reduceLeDiff,Nat.reduceShiftRight,Nat.reduceMod])
      repeat' (with_reducible refine And.intro ?_ ?_)
      try any_goals (with_reducible exact RnB.wide)
      try any_goals exact RnB.agg2 rfl rfl rfl rfl (.imm _ rfl) (.buf 58 101 _ rfl)
      try any_goals (with_reducible exact RnB.fxB (w2s_fxB (D :: P)))
      (repeat' first | exact trivial | (with_reducible first | exact RnB.fxB (ints_fxB _) | rfl | refine And.intro ?_ ?_) | (with_reducible (first | refine RnB.bb ?_ | refine RnB.nb ?_);simp only [vcW,vZ,Int.reduceEq,Int.reduceNe,Int.reduceLT,Int.reduceLE,Nat.reduceEqDiff,Nat.reduceAdd,reduceIte,reduceCtorEq,Nat.reduceLT,Nat.reduceLeDiff,Nat.reduceShiftRight,Nat.reduceMod]) | (with_reducible first | refine RnB.ii ?_ | refine RnB.app ?_) | (with_reducible refine RnB.fxB ?_;simp only [vcW,vZ,Int.reduceEq,Int.reduceNe,Int.reduceLT,Int.reduceLE,Nat.reduceEqDiff,Nat.reduceAdd,reduceIte,reduceCtorEq,Nat.reduceLT,Nat.reduceLeDiff,Nat.reduceShiftRight,Nat.reduceMod]) | omega)
      all_goals (rw [ints_append];rfl)
    ·have hil:i=P.length+1:=by omega
     subst hil
     have hc1:¬ ((P.length+1:Nat):Int)<(P.length+1:Nat):=by omega
     have hta:Q.take (P.length+1)=Q:=List.take_of_length_le (by omega)
     rw [hta] at hal
     rw [hsm,hal,if_pos rfl,hta]
     unfold wdA
     simp only [hc1,vZ,Int.reduceEq,Int.reduceNe,Int.reduceLT,Int.reduceLE,Nat.reduceEqDiff,Nat.reduceAdd,reduceIte,reduceCtorEq,Nat.reduceLT,Nat.reduceLeDiff,Nat.reduceShiftRight,Nat.reduceMod]
     rw [borB_good _ _ _ _ _ (by rw [ints_length,ntA_len,List.length_drop];omega) (ints_fx _)]
end Go.Proofs.YtgmpcbpmnimkoaaGreatDoor

/- The ticks of a set. By an AI agent;nothing here is trusted. -/
namespace Go.Proofs.YtgmpcbpmnimkoaaGreatDoor
open Go.Av

def tk5 (s:Nat):List Nat:=(List.range 5).filter fun k=>s.testBit k
def tabZ:List (Nat × Nat × Nat × MC × List (Nat × Option (Option Nat))):=[(93,8,1,c_math_bits_TrailingZeros,[(2,none)]),(183,14,1,c_math_bits_TrailingZeros64,[(2,none)])]
theorem tabZ_ok:∀ f c,lookC tabZ f=some c→cFun Tryz.prog f=some c:=by
 refine lookC_ok ?_
 intro p hp
 simp only [tabZ,List.mem_cons,List.not_mem_nil,or_false] at hp
 rcases hp with rfl | rfl
 ·exact f_math_bits_TrailingZeros
 ·exact f_math_bits_TrailingZeros64
noncomputable def runZ (r:Nat):Option Int:=match callN (fun _ _=>none) (fun _ _=>none) (lookC tabZ) 40 5 93 [.int .u64 (r:Int)] with
 | some (.int .i64 n)=>some n
 | _=>none
theorem runZ_s {r:Nat} {n:Int} (h:runZ r=some n):Sound Tryz.prog 93 [.int .u64 (r:Int)] (.int .i64 n):=by
 unfold runZ at h
 split at h
 ·rename_i m hm
  injection h with h
  subst h
  exact callN_sound (fun f a v h=>by cases h) (fun g c x h=>by cases h) tabZ_ok 5 _ _ _ hm
 ·cases h
theorem zeros_run:((List.range 31).all fun r=>decide (runZ (r+1)=some (((tk5 (r+1)).getD 0 0:Nat):Int)))=true:=by kernel_rfl
theorem zeros_s {r:Nat} (h0:0<r) (h:r<32):Sound Tryz.prog 93 [.int .u64 (r:Int)] (.int .i64 ((tk5 r).getD 0 0:Nat)):=by
 have h1:=List.all_eq_true.1 zeros_run (r - 1) (List.mem_range.2 (by omega))
 rw [show r - 1+1=r by omega] at h1
 exact runZ_s (of_decide_eq_true h1)
theorem tk5_run:((List.range 31).all fun r=>decide (tk5 (r+1)=(tk5 (r+1)).getD 0 0 :: tk5 ((r+1) &&& r)) && decide ((r+1) &&& r<r+1))=true:=by decide +kernel
theorem tk5_step {r:Nat} (h0:0<r) (h:r<32):tk5 r=(tk5 r).getD 0 0 :: tk5 (r &&& (r - 1))∧r &&& (r - 1)<r:=by
 have h1:=List.all_eq_true.1 tk5_run (r - 1) (List.mem_range.2 (by omega))
 rw [Bool.and_eq_true,show r - 1+1=r by omega] at h1
 exact ⟨of_decide_eq_true h1.1,of_decide_eq_true h1.2⟩
theorem tk5_tk:((List.range 6).all fun S=>(List.range (2 ^ S)).all fun s=>decide (tk5 s=Lin.ticks S fun k=>s.testBit k))=true:=by decide +kernel
theorem tk5_eq {S s:Nat} (hS:S≤5) (hs:s<2 ^ S):tk5 s=Lin.ticks S fun k=>s.testBit k:=by
 have h1:=List.all_eq_true.1 tk5_tk S (List.mem_range.2 (by omega))
 have h2:=List.all_eq_true.1 h1 s (List.mem_range.2 hs)
 exact of_decide_eq_true h2
theorem and_g (x y:Nat) (hx:x<18446744073709551616) (hy:y<18446744073709551616):IntKind.u64.wrap ((((BitVec.ofInt IntKind.u64.bits (x:Int)) &&& (BitVec.ofInt IntKind.u64.bits (y:Int))).toNat:Nat):Int)=((x &&& y:Nat):Int):=by
 have e1:∀ x:Nat,x<18446744073709551616→(BitVec.ofInt IntKind.u64.bits (x:Int)).toNat=x:=fun x hx=>by
  rw [BitVec.toNat_ofInt]
  show ((x:Int) % ((2 ^ 64:Nat):Int)).toNat=x
  omega
 rw [BitVec.toNat_and,e1 _ hx,e1 _ hy]
 have:x &&& y≤x:=Nat.and_le_left
 exact u64_wrap (by omega)
end Go.Proofs.YtgmpcbpmnimkoaaGreatDoor

/- The fit of samples. By an AI agent;nothing here is trusted. -/
namespace Go.Proofs.YtgmpcbpmnimkoaaGreatDoor
open Go.Av

theorem ent_gm {items:List Int} {S r c:Nat} (hr:r<S) (hc:c<S):ent (gmP items S S) r c=Lin.gr items (S+items.length - 1) r c:=by
 unfold ent gmP gmQ
 simp [hr,hc]
theorem gr_bd {items:List Int} (hi:∀ x ∈ items, -100≤x∧x≤100) (N r c:Nat) : -(N * 10000:Int)≤Lin.gr items N r c∧Lin.gr items N r c≤N * 10000:=by
 unfold Lin.gr
 refine Lin.smI_bd fun n _=>?_
 exact prod_bd (M:=100) (by omega) (itm_bd hi n r) (itm_bd hi n c)
theorem getD_none {G:List (List Int)} {r:Nat} (h:G.length≤r):G.getD r []=[]:=by rw [List.getD_eq_getElem?_getD,List.getElem?_eq_none h];rfl
theorem getD_row {G:List (List Int)} {r:Nat} (h:r<G.length):G.getD r []=G[r]:=by rw [List.getD_eq_getElem?_getD,List.getElem?_eq_getElem h];rfl
theorem ent_lo {G:List (List Int)} {r c n:Nat} (hG:G.length=n) (hr:∀ g ∈ G,g.length=n) (h:¬ (r<n∧c<n)):ent G r c=0:=by
 unfold ent
 by_cases h1:r<n
 ·have:c ≥ n:=by omega
  rw [getD_row (show r<G.length by omega),List.getD_eq_getElem?_getD,List.getElem?_eq_none (by rw [hr _ (List.getElem_mem _)];exact this)];rfl
 ·rw [getD_none (by omega)];rfl
theorem gm_mem {items:List Int} {S:Nat} {g:List Int} (h:g ∈ gmP items S S):g.length=S:=by
 obtain ⟨k,_,rfl⟩:=List.mem_map.1 h
 exact gmQ_len _ _ _ _
theorem prB_5 {n:Nat} (h:n≤5):prB n (fun _=>6000000)<170141183460469231731687303715884105728:=by
 match n,h with
 | 0,_=>decide
 | 1,_=>decide
 | 2,_=>decide
 | 3,_=>decide
 | 4,_=>decide
 | 5,_=>decide
theorem prB_g {n:Nat} (h:n≤5):prB n (fun _=>100000)≤1200000000000000000000000000:=by
 match n,h with
 | 0,_=>decide
 | 1,_=>decide
 | 2,_=>decide
 | 3,_=>decide
 | 4,_=>decide
 | 5,_=>decide
theorem prB_r {n j:Nat} (h:n≤5) (hj:j<n):prB n (fun c=>if c=j then 6000000 else 100000)≤72000000000000000000000000000:=by
 have key:((List.range 6).all fun n=>(List.range n).all fun j=>decide (prB n (fun c=>if c=j then 6000000 else 100000)≤72000000000000000000000000000))=true:=by decide +kernel
 have h1:=List.all_eq_true.1 key n (List.mem_range.2 (by omega))
 have h2:=List.all_eq_true.1 h1 j (List.mem_range.2 hj)
 exact of_decide_eq_true h2
structure FtB (items l:List Int) (S:Nat):Prop where
 i1:1≤items.length
 i6:items.length≤6
 ib:∀ x ∈ items, -100≤x∧x≤100
 ne:∃ x ∈ items,x ≠ 0
 s5:1≤S∧S≤5
 lb:∀ x ∈ l, -10000≤x∧x≤10000
 ll:l.length=S+items.length - 1
theorem FtB.eb {items l:List Int} {S:Nat} (F:FtB items l S) (r c:Nat):(ent (gmP items S S) r c).natAbs≤100000:=by
 by_cases h:r<S∧c<S
 ·rw [ent_gm h.1 h.2]
  have h1:=gr_bd F.ib (S+items.length - 1) r c
  have h2:=F.i6
  have h3:=F.s5
  omega
 ·rw [ent_lo (gmP_len _ _ _) (fun g hg=>gm_mem hg) h];decide
theorem FtB.rb {items l:List Int} {S:Nat} (F:FtB items l S) (k:Nat):((rhP items l S).getD k 0).natAbs≤6000000:=by
 by_cases h:k<S
 ·rw [getD_at (by rw [rhP_len];exact h)]
  unfold rhP
  rw [List.getElem_map,List.getElem_range]
  have h1:=agT_bd (M:=10000) (by omega) F.ib F.lb k items.length
  have h2:=F.i6
  omega
 ·rw [List.getD_eq_getElem?_getD,List.getElem?_eq_none (by rw [rhP_len];omega)];decide
theorem tk5_lt {S s:Nat} (hS:S≤5) (hs:s<2 ^ S):∀ k ∈ tk5 s,k<S:=fun k hk=>by
 rw [tk5_eq hS hs] at hk
 exact (Lin.ticks_lt hk).1
theorem tk5_len (s:Nat):(tk5 s).length≤5:=by
 unfold tk5
 have:=List.length_filter_le (fun k=>s.testBit k) (List.range 5)
 simpa using this
theorem FtB.sl {items l:List Int} {S:Nat} (F:FtB items l S) {s:Nat} (hs:s<2 ^ S):SlB (gmP items S S) (rhP items l S) (tk5 s) 100000 6000000:=by
 refine ⟨F.eb,F.rb,⟨by rw [gmP_len,rhP_len],by rw [rhP_len];exact F.s5.2,fun g hg=>by rw [gm_mem hg,rhP_len]⟩,fun k hk=>by rw [rhP_len];exact tk5_lt F.s5.2 hs k hk,tk5_len s,⟨by omega,by omega,by omega⟩,prB_5 (tk5_len s)⟩
def dnS (items:List Int) (S s:Nat):Bool × Nat:=dtP (tk5 s).length (sqP (gmP items S S) (tk5 s) (tk5 s).length)
def ptS (items l:List Int) (S s:Nat):List (Bool × Nat):=slP (gmP items S S) (rhP items l S) (tk5 s) (tk5 s).length
def bsS (items l:List Int) (S s:Nat):Bool:=isB (dnS items S s) (ptS items l S s) (gmP items S S) (rhP items l S)
theorem FtB.db {items l:List Int} {S:Nat} (F:FtB items l S) {s:Nat} (hs:s<2 ^ S):(dnS items S s).2≤1200000000000000000000000000:=by
 have h1:=bnd_sq (F.sl hs)
 exact Nat.le_trans (dtP_le (sqP_len _ _ (Nat.le_refl _)) h1) (prB_g (tk5_len s))
theorem slP_le {G:List (List Int)} {H:List Int} {T:List Nat} {PM:Nat} (h:∀ n,n<T.length→(dtP T.length (rpP G H T n T.length)).2≤PM):∀ n,n≤T.length→∀ x ∈ slP G H T n,x.2≤PM
 | 0,_,x,hx=>by
  rw [slP] at hx
  rw [(List.mem_replicate.1 hx).2];exact Nat.zero_le _
 | n+1,hn,x,hx=>by
  rw [slP] at hx
  rcases List.mem_or_eq_of_mem_set hx with e | e
  ·exact slP_le h n (by omega) x e
  ·rw [e];exact h n (by omega)
theorem FtB.pb {items l:List Int} {S:Nat} (F:FtB items l S) {s:Nat} (hs:s<2 ^ S):∀ x ∈ ptS items l S s,x.2≤72000000000000000000000000000:=by
 refine slP_le (fun n hn=>?_) _ (Nat.le_refl _)
 exact Nat.le_trans (dtP_le (rpP_len _ _ _ _ (Nat.le_refl _)) (bnd_rp (F.sl hs) n)) (prB_r (tk5_len s) hn)
theorem ptS_len (items l:List Int) (S s:Nat):(ptS items l S s).length=S:=by unfold ptS;rw [slP_len,rhP_len]
theorem FtB.bd {items l:List Int} {S:Nat} (F:FtB items l S) {s:Nat} (hs:s<2 ^ S):BdB (dnS items S s) (ptS items l S s) (gmP items S S) (rhP items l S) 1200000000000000000000000000 72000000000000000000000000000 6000000 100000:=by
 refine ⟨F.db hs,F.pb hs,fun x hx=>?_,fun g hg=>⟨by rw [gm_mem hg,ptS_len],fun x hx=>?_⟩,⟨by rw [ptS_len,gmP_len],by rw [rhP_len,gmP_len],by rw [gmP_len];exact F.s5.2⟩,by decide,by decide⟩
 ·obtain ⟨k,hk,rfl⟩:=List.getElem_of_mem hx
  have:=F.rb k
  rw [getD_at hk] at this;exact this
 ·obtain ⟨k,hk,rfl⟩:=List.getElem_of_mem hg
  obtain ⟨c,hc,rfl⟩:=List.getElem_of_mem hx
  have:=F.eb k c
  unfold ent at this
  rw [getD_row hk,getD_at hc] at this
  exact this
theorem FtB.dpos {items l:List Int} {S:Nat} (F:FtB items l S) {s:Nat} (hs:s<2 ^ S):0<vl (dnS items S s):=by
 have hT:=tk5_eq F.s5.2 hs
 have h1:=Lin.posD.det (Lin.eqA_posD (items:=items) (S:=S) F.ne fun k=>s.testBit k)
 rw [← hT] at h1
 have h2:vl (dnS items S s)=Lin.dtI (tk5 s).length (ent (sqP (gmP items S S) (tk5 s) (tk5 s).length)):=dtP_vl _ _ (sqP_len _ _ (Nat.le_refl _))
 have h3:((vl (dnS items S s):Int):Rat)=Lin.dt (tk5 s).length (Lin.eqA items S (tk5 s)):=by
  rw [h2,Lin.dtI_cast]
  refine Lin.dt_congr fun r c hr hc=>?_
  have e1:(tk5 s).getD r 0<S:=by
   rw [List.getD_eq_getElem?_getD,List.getElem?_eq_getElem hr];exact tk5_lt F.s5.2 hs _ (List.getElem_mem hr)
  have e2:(tk5 s).getD c 0<S:=by
   rw [List.getD_eq_getElem?_getD,List.getElem?_eq_getElem hc];exact tk5_lt F.s5.2 hs _ (List.getElem_mem hc)
  rw [ent_sq hr hc,ent_gm e1 e2];rfl
 rw [← h3] at h1
 exact_mod_cast h1
theorem vl_pos {p:Bool × Nat} (h:0<vl p):p.1=false∧0<p.2:=by
 obtain ⟨b,n⟩:=p
 unfold vl wdV at h
 cases b
 ·simp at h ⊢;omega
 ·simp at h;omega
def fdS (items l:List Int) (S:Nat):Option Nat:=(List.range (2 ^ S)).find? (bsS items l S)
def ftR (items l:List Int) (S:Nat):Option Nat→List AV
 | some s=>rdA (dnS items S s) (ptS items l S s)
 | none=>[.agg [.int .i64 0,.sl []],.int .i64 8]
def ftA (items:List Int) (shifts:Int) (l:List Int):List AV:=if fdE items shifts l ≠ 0 then [.agg [.int .i64 0,.sl []],.int .i64 (fdE items shifts l)] else ftR items l shifts.toNat (fdS items l shifts.toNat)
theorem fdE_ok {items:List Int} {shifts:Int} {l:List Int} (h:fdE items shifts l=0):FtB items l shifts.toNat∧((shifts.toNat:Nat):Int)=shifts:=by
 unfold fdE at h
 split at h
 ·rename_i g;exact absurd h g
 ·rename_i g
  split at h
  ·rename_i g2;exact absurd h g2
  ·rename_i g2
   split at h
   ·rename_i g3
    obtain ⟨⟨a1,a2⟩,a3,a4,a5⟩:=teE_ok (items:=items) (shifts:=shifts) (by omega)
    have hs:smE l=0:=by omega
    exact ⟨⟨a1,a2,a3,a4,by omega,(smE_ok hs).2.2,by omega⟩,by omega⟩
   ·cases h
end Go.Proofs.YtgmpcbpmnimkoaaGreatDoor

/- What the fit is,in plain Lean. By an AI agent;nothing here is trusted. -/
namespace Go.Proofs.YtgmpcbpmnimkoaaGreatDoor
open Go.Av

theorem getD_set_eq {α:Type} {l:List α} {i:Nat} {x d:α} (h:i<l.length):(l.set i x).getD i d=x:=by
 rw [List.getD_eq_getElem?_getD,List.getElem?_set_self h];rfl
theorem getD_set_ne {α:Type} {l:List α} {i j:Nat} {x d:α} (h:i ≠ j):(l.set i x).getD j d=l.getD j d:=by
 rw [List.getD_eq_getElem?_getD,List.getD_eq_getElem?_getD,List.getElem?_set_ne h]
theorem slP_at {G:List (List Int)} {H:List Int} {T:List Nat} (hT:∀ r c,r<c→c<T.length→T.getD r 0<T.getD c 0) (hl:∀ r,r<T.length→T.getD r 0<H.length) :
  ∀ n,n≤T.length→∀ j,j<n→(slP G H T n).getD (T.getD j 0) (false,0)=dtP T.length (rpP G H T j T.length)
 | 0,_,j,h=>by omega
 | n+1,hn,j,h=>by
  rw [slP]
  by_cases e:j=n
  ·subst e
   exact getD_set_eq (by rw [slP_len];exact hl j (by omega))
  ·have:=hT j n (by omega) (by omega)
   rw [getD_set_ne (by omega)]
   exact slP_at hT hl n (by omega) j (by omega)
theorem slP_no {G:List (List Int)} {H:List Int} {T:List Nat} {k:Nat} (hk:∀ r,r<T.length→T.getD r 0 ≠ k):∀ n,n≤T.length→(slP G H T n).getD k (false,0)=(false,0)
 | 0,_=>by
  rw [slP]
  by_cases h:k<H.length
  ·rw [List.getD_eq_getElem?_getD,List.getElem?_replicate,if_pos h];rfl
  ·rw [List.getD_eq_getElem?_getD,List.getElem?_eq_none (by simp;omega)];rfl
 | n+1,hn=>by
  rw [slP,getD_set_ne (hk n (by omega))]
  exact slP_no hk n (by omega)
theorem zdiv (d:Rat):0 / d=0:=by rw [Rat.div_def,Rat.zero_mul]
theorem divnn {a d:Rat} (ha:0≤a) (hd:0<d):0≤a / d:=by
 refine Classical.byContradiction fun h=>?_
 have h1:=Rat.not_le.1 h
 have e:a=(a / d) * d:=by grind
 have:=Rat.mul_pos hd (show 0 < -(a / d) by grind)
 grind
def smR (l:List Int) (n:Nat):Rat:=((l.getD n 0:Int):Rat)
theorem rh_cast {items l:List Int} {S k:Nat} (F:FtB items l S) (hk:k<S):(((rhP items l S).getD k 0:Int):Rat)=Lin.rhs items S (smR l) k:=by
 rw [getD_at (by rw [rhP_len];exact hk)]
 unfold rhP
 rw [List.getElem_map,List.getElem_range,← smI_ag (N:=S+items.length - 1) (by have:=F.i1;omega) F.i1,Lin.smI_cast]
 unfold Lin.rhs smR
 exact Lin.sm_congr fun n _=>Rat.intCast_mul _ _
def xS (items l:List Int) (S s k:Nat):Rat:=((vl ((ptS items l S s).getD k (false,0)):Int):Rat) / ((vl (dnS items S s):Int):Rat)
theorem d_ne {items l:List Int} {S:Nat} (F:FtB items l S) {s:Nat} (hs:s<2 ^ S):0<((vl (dnS items S s):Int):Rat):=by
 have:=F.dpos hs
 exact_mod_cast this
theorem dn_cast {items l:List Int} {S:Nat} (F:FtB items l S) {s:Nat} (hs:s<2 ^ S):((vl (dnS items S s):Int):Rat)=Lin.dt (tk5 s).length (Lin.eqA items S (tk5 s)):=by
 have h2:vl (dnS items S s)=Lin.dtI (tk5 s).length (ent (sqP (gmP items S S) (tk5 s) (tk5 s).length)):=dtP_vl _ _ (sqP_len _ _ (Nat.le_refl _))
 rw [h2,Lin.dtI_cast]
 refine Lin.dt_congr fun r c hr hc=>?_
 have e1:(tk5 s).getD r 0<S:=by
  rw [List.getD_eq_getElem?_getD,List.getElem?_eq_getElem hr];exact tk5_lt F.s5.2 hs _ (List.getElem_mem hr)
 have e2:(tk5 s).getD c 0<S:=by
  rw [List.getD_eq_getElem?_getD,List.getElem?_eq_getElem hc];exact tk5_lt F.s5.2 hs _ (List.getElem_mem hc)
 rw [ent_sq hr hc,ent_gm e1 e2];rfl
theorem x_spread {items l:List Int} {S:Nat} (F:FtB items l S) {s:Nat} (hs:s<2 ^ S):∃ y:Nat→Rat,
  (∀ r,r<(Lin.ticks S fun k=>s.testBit k).length→Lin.sm (Lin.ticks S fun k=>s.testBit k).length (fun c=>Lin.eqA items S (Lin.ticks S fun k=>s.testBit k) r c * y c)=Lin.rhs items S (smR l) ((Lin.ticks S fun k=>s.testBit k).getD r 0)) ∧
  ∀ k,k<S→xS items l S s k=Lin.spread (fun k=>s.testBit k) y k:=by
 have hT:=tk5_eq F.s5.2 hs
 have hd:=d_ne F hs
 have hdc:=dn_cast F hs
 have hpt:ptS items l S s=slP (gmP items S S) (rhP items l S) (tk5 s) (tk5 s).length:=rfl
 unfold xS
 rw [hpt]
 generalize dnS items S s=D at *
 rw [hT] at hdc hpt ⊢
 obtain ⟨p,hp⟩:∃ p:Nat→Bool,p=fun k=>s.testBit k:=⟨_,rfl⟩
 rw [← hp] at hdc hpt ⊢
 have hpos:=Lin.eqA_posD (items:=items) (S:=S) F.ne p
 obtain ⟨y,hy⟩:=Lin.solvable hpos.triv fun r=>Lin.rhs items S (smR l) ((Lin.ticks S p).getD r 0)
 refine ⟨y,hy,fun k hk=>?_⟩
 unfold Lin.spread
 have hlt:∀ r,r<(Lin.ticks S p).length→(Lin.ticks S p).getD r 0<S:=fun r hr=>(Lin.ticks_lt (Lin.ticks_getD hr)).1
 cases hpk:p k with
 | false =>
  have:(slP (gmP items S S) (rhP items l S) (Lin.ticks S p) (Lin.ticks S p).length).getD k (false,0)=(false,0):=by
   refine slP_no (fun r hr e=>?_) _ (Nat.le_refl _)
   have:=(Lin.ticks_lt (Lin.ticks_getD hr)).2
   rw [e,hpk] at this;cases this
  rw [this]
  show ((0:Int):Rat) / _=_
  have e0:((0:Int):Rat)=0:=rfl
  rw [e0,zdiv];simp
 | true =>
  obtain ⟨h1,h2⟩:=Lin.ticks_at hk hpk
  rw [if_pos rfl]
  have e1:(slP (gmP items S S) (rhP items l S) (Lin.ticks S p) (Lin.ticks S p).length).getD k (false,0)=dtP (Lin.ticks S p).length (rpP (gmP items S S) (rhP items l S) (Lin.ticks S p) (Lin.tix p k) (Lin.ticks S p).length):=by
   have:=slP_at (G:=gmP items S S) (H:=rhP items l S) (T:=Lin.ticks S p) (fun r c a b=>Lin.ticks_asc a b) (fun r hr=>by rw [rhP_len];exact hlt r hr) _ (Nat.le_refl _) _ h1
   rw [h2] at this;exact this
  have e2:((vl (dtP (Lin.ticks S p).length (rpP (gmP items S S) (rhP items l S) (Lin.ticks S p) (Lin.tix p k) (Lin.ticks S p).length)):Int):Rat)=y (Lin.tix p k) * Lin.dt (Lin.ticks S p).length (Lin.eqA items S (Lin.ticks S p)):=by
   rw [← Lin.cramer _ _ _ hy h1,dtP_vl _ _ (rpP_len _ _ _ _ (Nat.le_refl _)),Lin.dtI_cast]
   refine Lin.dt_congr fun r c hr hc=>?_
   rw [ent_rp hr hc]
   unfold Lin.setc
   split
   ·exact rh_cast F (hlt r hr)
   ·rw [ent_gm (hlt r hr) (hlt c hc)];rfl
  rw [e1,e2,hdc]
  rw [hdc] at hd
  generalize Lin.dt (Lin.ticks S p).length (Lin.eqA items S (Lin.ticks S p))=d at *
  grind
theorem bs_best {items l:List Int} {S:Nat} (F:FtB items l S) {s:Nat} (hs:s<2 ^ S):bsS items l S s=true ↔ Lin.best items S (S+items.length - 1) (smR l) (xS items l S s):=by
 obtain ⟨y,hy,hx⟩:=x_spread F hs
 have hd:=d_ne F hs
 have hb:=Lin.spread_best (items:=items) (S:=S) (s:=smR l) hy
 have hbx:Lin.best items S (S+items.length - 1) (smR l) (xS items l S s) ↔ Lin.best items S (S+items.length - 1) (smR l) (Lin.spread (fun k=>s.testBit k) y):=by
  have hg:∀ k,Lin.grad items S (S+items.length - 1) (smR l) (xS items l S s) k=Lin.grad items S (S+items.length - 1) (smR l) (Lin.spread (fun k=>s.testBit k) y) k:=fun k=>by
   rw [Lin.grad_eq,Lin.grad_eq]
   congr 1
   exact Lin.sm_congr fun m hm=>by rw [hx m hm]
  constructor
  ·intro h k hk
   have:=h k hk
   rw [hx k hk,hg k] at this;exact this
  ·intro h k hk
   have:=h k hk
   rw [hx k hk,hg k];exact this
 rw [hbx,hb]
 have hg:∀ k,k<S→((rsV (dnS items S s) (ptS items l S s) ((rhP items l S).getD k 0) ((gmP items S S).getD k []) (ptS items l S s).length:Int):Rat)=((vl (dnS items S s):Int):Rat) * Lin.grad items S (S+items.length - 1) (smR l) (Lin.spread (fun k=>s.testBit k) y) k:=fun k hk=>by
  unfold rsV
  rw [ptS_len,Rat.intCast_sub,Rat.intCast_mul,rh_cast F hk,Lin.smI_cast,Lin.grad_eq]
  have e:Lin.sm S (fun j=>((vl ((ptS items l S s).getD j (false,0)) * ((gmP items S S).getD k []).getD j 0:Int):Rat))=((vl (dnS items S s):Int):Rat) * Lin.sm S fun m=>((Lin.gr items (S+items.length - 1) k m:Int):Rat) * Lin.spread (fun k=>s.testBit k) y m:=by
   rw [← Lin.sm_mul]
   refine Lin.sm_congr fun m hm=>?_
   have e1:((gmP items S S).getD k []).getD m 0=Lin.gr items (S+items.length - 1) k m:=ent_gm hk hm
   rw [e1,Rat.intCast_mul,← hx m hm]
   unfold xS
   generalize ((vl (dnS items S s):Int):Rat)=d at *
   grind
  rw [e]
  grind
 unfold bsS isB
 rw [List.all_eq_true]
 constructor
 ·intro h k hk
  have h1:=h k (List.mem_range.2 (by rw [gmP_len];exact hk))
  unfold okB at h1
  rw [Bool.and_eq_true,decide_eq_true_eq,decide_eq_true_eq] at h1
  have h2:=hg k hk
  have h3:((rsV (dnS items S s) (ptS items l S s) ((rhP items l S).getD k 0) ((gmP items S S).getD k []) (ptS items l S s).length:Int):Rat)≤0:=by exact_mod_cast h1.2
  have h4:(0:Rat)≤((vl ((ptS items l S s).getD k (false,0)):Int):Rat):=by exact_mod_cast h1.1
  rw [h2] at h3
  have h5:=hx k hk
  unfold xS at h5
  constructor
  ·rw [← h5]
   exact divnn h4 hd
  ·generalize ((vl (dnS items S s):Int):Rat)=d at *
   refine Classical.byContradiction fun hn=>?_
   have:=Rat.mul_pos hd (Rat.not_le.1 hn)
   grind
 ·intro h k hk
  have hk':k<S:=by have:=List.mem_range.1 hk;rw [gmP_len] at this;exact this
  obtain ⟨h1,h2⟩:=h k hk'
  unfold okB
  rw [Bool.and_eq_true,decide_eq_true_eq,decide_eq_true_eq]
  have h5:=hx k hk'
  unfold xS at h5
  constructor
  ·have h4:(0:Rat)≤((vl ((ptS items l S s).getD k (false,0)):Int):Rat):=by
    rw [← h5] at h1
    generalize ((vl ((ptS items l S s).getD k (false,0)):Int):Rat)=v at *
    generalize ((vl (dnS items S s):Int):Rat)=d at *
    have e:v=(v / d) * d:=by grind
    rw [e];exact Rat.mul_nonneg h1 (Rat.le_of_lt hd)
   exact_mod_cast h4
  ·have h3:((rsV (dnS items S s) (ptS items l S s) ((rhP items l S).getD k 0) ((gmP items S S).getD k []) (ptS items l S s).length:Int):Rat)≤0:=by
    rw [hg k hk']
    generalize ((vl (dnS items S s):Int):Rat)=d at *
    refine Classical.byContradiction fun hn=>?_
    have h6:=Rat.not_le.1 hn
    have:=Rat.mul_nonneg (Rat.le_of_lt hd) (show 0 ≤ -Lin.grad items S (S+items.length - 1) (smR l) (Lin.spread (fun k=>s.testBit k) y) k by grind)
    grind
   exact_mod_cast h3
end Go.Proofs.YtgmpcbpmnimkoaaGreatDoor

/- The marked code of law functions;printed by a program. By an AI agent;nothing here is trusted. -/
namespace Go.Proofs.YtgmpcbpmnimkoaaGreatDoor
open Go.Av
def cl_ref02_solved_b12:ML:=(.seq (.seq (.reg 174224571863520493293247799005065331606784 [mV 131 22,mV 132 20,mO 133 (.len false (.t 132)),mO 134 (.bin .lss (.t 131) (.t 133)),mV 135 134,mG 135 true 136 (.mv (.t 21)),mO 137 (.pick (.t 135) (.t 136) (.c (.bool false)))] false []) (.cond (.t 137) .skip (.exit 12))) (.seq (.block 13 (.reg 7341312 [mV 140 10,mV 141 8,mV 142 22,mO 143 (.indexAddr (.t 141) (.t 142) 1),mO 144 (.load none (.t 143)),mV 145 20,mV 146 22,mO 147 (.indexAddr (.t 145) (.t 146) 4),mO 148 (.load (some 4) (.t 147)),mO 149 (.indexAddr (.t 140) (.t 144) 4),⟨none,none,.store 4 (.t 149) (.t 148)⟩] true [])) (.reg 7341312 [mV 138 22,mO 139 (.bin .add (.t 138) (.c (.int .i64 1))),mV 22 139] false [])))
def cl_ref02_solved_b10:ML:=(.seq (.seq (.reg 79228162514264337593544766730 [mV 93 19,mV 94 1,mO 95 (.len false (.t 94)),mO 96 (.bin .lss (.t 93) (.t 95))] false []) (.cond (.t 96) .skip (.exit 10))) (.seq (.block 11 (.reg 816394 [mV 99 18,mV 100 1,mV 101 19,mO 102 (.indexAddr (.t 100) (.t 101) 1),mO 103 (.load none (.t 102)),mO 104 (.load (some 2) (.t 3)),mV 105 19,mV 106 8,mV 107 13,mO 108 (.indexAddr (.t 106) (.t 107) 1),mO 109 (.load none (.t 108)),mO 110 (.bin .sub (.t 105) (.t 109)),mO 111 (.call 97 [(.t 104),(.t 110)]),mO 112 (.bin .mul (.t 103) (.t 111)),mO 113 (.bin .add (.t 99) (.t 112)),mV 18 113] true [])) (.reg 816394 [mV 97 19,mO 98 (.bin .add (.t 97) (.c (.int .i64 1))),mV 19 98] false [])))
def cl_ref02_solved_b8:ML:=(.seq (.seq (.reg 73786976294838465802 [mV 63 17,mV 64 1,mO 65 (.len false (.t 64)),mO 66 (.bin .lss (.t 63) (.t 65))] false []) (.cond (.t 66) .skip (.exit 8))) (.seq (.block 9 (.reg 259338 [mV 69 16,mO 70 (.load (some 2) (.t 3)),mV 71 17,mV 72 8,mV 73 13,mO 74 (.indexAddr (.t 72) (.t 73) 1),mO 75 (.load none (.t 74)),mO 76 (.bin .sub (.t 71) (.t 75)),mO 77 (.call 97 [(.t 70),(.t 76)]),mO 78 (.load (some 2) (.t 3)),mV 79 17,mV 80 8,mV 81 15,mO 82 (.indexAddr (.t 80) (.t 81) 1),mO 83 (.load none (.t 82)),mO 84 (.bin .sub (.t 79) (.t 83)),mO 85 (.call 97 [(.t 78),(.t 84)]),mO 86 (.bin .mul (.t 77) (.t 85)),mO 87 (.bin .add (.t 69) (.t 86)),mV 16 87] true [])) (.reg 259338 [mV 67 17,mO 68 (.bin .add (.t 67) (.c (.int .i64 1))),mV 17 68] false [])))
def cl_ref02_solved_b6:ML:=(.seq (.seq (.reg 1152921504606909706 [mV 57 15,mV 58 8,mO 59 (.len false (.t 58)),mO 60 (.bin .lss (.t 57) (.t 59))] false []) (.cond (.t 60) .skip (.exit 6))) (.seq (.block 7 (.seq (.reg 128266 [mO 16 (.mv (.c (.int .i64 0)))] false []) (.seq (.seq (.reg 259338 [mO 17 (.mv (.c (.int .i64 0)))] false []) (.block 8 (.loop cl_ref02_solved_b8))) (.reg 62730 [mV 88 14,mV 89 16,mO 90 (.call 126 [(.t 89)]),mO 91 (.buildSlice 187 4 1 (.agg [(.int .i64 0),.nils,(.int .i64 0),.nils]) [(0,(.t 90))]),mO 92 (.append 187 4 64 (.agg [(.int .i64 0),.nils,(.int .i64 0),.nils]) (.t 88) (.t 91)),mV 14 92] false [])))) (.reg 62730 [mV 61 15,mO 62 (.bin .add (.t 61) (.c (.int .i64 1))),mV 15 62] false [])))
def cl_ref02_solved_b4:ML:=(.seq (.seq (.reg 18014398509495562 [mV 51 13,mV 52 8,mO 53 (.len false (.t 52)),mO 54 (.bin .lss (.t 51) (.t 53))] false []) (.cond (.t 54) .skip (.exit 4))) (.seq (.block 5 (.seq (.reg 29962 [mO 14 (.mv (.c .nils))] false []) (.seq (.seq (.reg 62730 [mO 15 (.mv (.c (.int .i64 0)))] false []) (.block 6 (.loop cl_ref02_solved_b6))) (.seq (.reg 292106 [mO 18 (.mv (.c (.int .i64 0)))] false []) (.seq (.seq (.reg 816394 [mO 19 (.mv (.c (.int .i64 0)))] false []) (.block 10 (.loop cl_ref02_solved_b10))) (.reg 13578 [mV 114 12,mV 115 14,mV 116 18,mO 117 (.call 126 [(.t 116)]),mO 118 (.buildSlice 187 4 1 (.agg [(.int .i64 0),.nils,(.int .i64 0),.nils]) [(0,(.t 117))]),mO 119 (.append 187 4 64 (.agg [(.int .i64 0),.nils,(.int .i64 0),.nils]) (.t 115) (.t 118)),mO 120 (.buildSlice 182 1 1 .nils [(0,(.t 119))]),mO 121 (.append 182 1 24 .nils (.t 114) (.t 120)),mV 12 121] false [])))))) (.reg 13578 [mV 55 13,mO 56 (.bin .add (.t 55) (.c (.int .i64 1))),mV 13 56] false [])))
def cl_ref02_solved_b2:ML:=(.seq (.seq (.reg 17592186047754 [mV 41 11,mO 42 (.fieldAddr (.t 3) 1),mO 43 (.load none (.t 42)),mO 44 (.bin .lss (.t 41) (.t 43))] false []) (.cond (.t 44) .skip (.exit 2))) (.seq (.block 3 (.reg 3338 [mV 47 10,mV 48 11,mO 49 (.call 126 [(.c (.int .i64 0))]),mO 50 (.indexAddr (.t 47) (.t 48) 4),⟨none,none,.store 4 (.t 50) (.t 49)⟩] false [])) (.reg 3338 [mV 45 11,mO 46 (.bin .add (.t 45) (.c (.int .i64 1))),mV 11 46] false [])))
def cl_ref02_solved_b0:ML:=(.seq (.seq (.reg 67109646 [mV 23 9,mO 24 (.fieldAddr (.t 3) 1),mO 25 (.load none (.t 24)),mO 26 (.bin .lss (.t 23) (.t 25))] false []) (.cond (.t 26) .skip (.exit 0))) (.seq (.block 1 (.seq (.reg 8589935374 [mV 29 2,mV 30 9,mO 31 (.bin .shr (.t 29) (.t 30)),mO 32 (.bin .and (.t 31) (.c (.int .i64 1))),mO 33 (.bin .eql (.t 32) (.c (.int .i64 1)))] false []) (.cond (.t 33) (.reg 782 [mV 34 8,mV 35 9,mO 36 (.buildSlice 3 1 1 (.int .i64 0) [(0,(.t 35))]),mO 37 (.append 3 1 8 (.int .i64 0) (.t 34) (.t 36)),mV 8 37] false []) .skip))) (.reg 782 [mV 27 9,mO 28 (.bin .add (.t 27) (.c (.int .i64 1))),mV 9 28] false [])))
def cl_ref02_solved_10:ML:=(.seq (.reg 192 [mV 150 10,mV 151 21,mV 6 150,mV 7 151] false []) .ret)
def cl_ref02_solved_9:ML:=(.seq (.seq (.reg 7341312 [mO 22 (.mv (.c (.int .i64 0)))] false []) (.block 12 (.loop cl_ref02_solved_b12))) (.cut cl_ref02_solved_10))
def cl_ref02_solved_7:ML:=(.seq (.seq (.reg 21267647932558653966460912964485518592 [mV 122 8,mO 123 (.len false (.t 122)),mO 124 (.bin .eql (.t 123) (.c (.int .i64 0)))] false []) (.cond (.t 124) (.seq (.reg 192 [mV 125 10,mV 6 125,mO 7 (.mv (.c (.bool true)))] false []) .ret) .skip)) (.seq (.reg 3147008 [mV 127 12,mO 128 (.call 201 [(.t 127)]),mV 126 128,mO 129 (.extract (.t 126) 0),mO 130 (.extract (.t 126) 1),mV 20 129,mV 21 130] false []) (.cut cl_ref02_solved_9)))
def cl_ref02_solved_6:ML:=(.seq (.seq (.reg 13578 [mO 13 (.mv (.c (.int .i64 0)))] false []) (.block 4 (.loop cl_ref02_solved_b4))) (.cut cl_ref02_solved_7))
def cl_ref02_solved_5:ML:=(.seq (.reg 5386 [mO 12 (.mv (.c .nils))] false []) (.cut cl_ref02_solved_6))
def cl_ref02_solved_4:ML:=(.seq (.seq (.reg 3338 [mO 11 (.mv (.c (.int .i64 0)))] false []) (.block 2 (.loop cl_ref02_solved_b2))) (.cut cl_ref02_solved_5))
def cl_ref02_solved_3:ML:=(.seq (.reg 1290 [mO 38 (.fieldAddr (.t 3) 1),mO 39 (.load none (.t 38)),mO 40 (.makeSlice 187 4 64 (.agg [(.int .i64 0),.nils,(.int .i64 0),.nils]) (.t 39) (.t 39)),mV 10 40] false []) (.cut cl_ref02_solved_4))
def cl_ref02_solved_2:ML:=(.seq (.seq (.reg 782 [mO 9 (.mv (.c (.int .i64 0)))] false []) (.block 0 (.loop cl_ref02_solved_b0))) (.cut cl_ref02_solved_3))
def cl_ref02_solved:ML:=(.seq (.reg 14 [mO 3 (.box 24 2 (.t 0)),mO 6 (.mv (.c .nils)),mO 7 (.mv (.c (.bool false)))] false []) (.seq (.reg 270 [mO 8 (.mv (.c .nils))] false []) (.cut cl_ref02_solved_2)))
def c_ref02_solved:MC:=cl_ref02_solved.er
theorem f_ref02_solved:cFun Tryz.prog 121=some (152,3,c_ref02_solved,[(6,none),(7,none)]):=by kernel_rfl
theorem e_ref02_solved:cl_ref02_solved.er=c_ref02_solved:=rfl
def cl_ref02_isBest_b4:ML:=(.seq (.seq (.reg 549755817870 [mV 36 11,mO 37 (.fieldAddr (.t 3) 1),mO 38 (.load none (.t 37)),mO 39 (.bin .lss (.t 36) (.t 38))] false []) (.cond (.t 39) .skip (.exit 4))) (.seq (.block 5 (.reg 3982 [mO 42 (.load (some 4) (.t 10)),mV 43 2,mV 44 11,mO 45 (.indexAddr (.t 43) (.t 44) 4),mO 46 (.load (some 4) (.t 45)),mO 47 (.load (some 2) (.t 3)),mV 48 9,mV 49 11,mO 50 (.bin .sub (.t 48) (.t 49)),mO 51 (.call 97 [(.t 47),(.t 50)]),mO 52 (.call 126 [(.t 51)]),mO 53 (.call 125 [(.t 46),(.t 52)]),mO 54 (.call 203 [(.t 42),(.t 53)]),⟨none,none,.store 4 (.t 10) (.t 54)⟩] true [])) (.reg 3982 [mV 40 11,mO 41 (.bin .add (.t 40) (.c (.int .i64 1))),mV 11 41] false [])))
def cl_ref02_isBest_b2:ML:=(.seq (.seq (.reg 268436366 [mV 25 9,mV 26 1,mO 27 (.len false (.t 26)),mO 28 (.bin .lss (.t 25) (.t 27))] false []) (.cond (.t 28) .skip (.exit 2))) (.seq (.block 3 (.seq (.reg 1934 [mV 31 1,mV 32 9,mO 33 (.indexAddr (.t 31) (.t 32) 1),mO 34 (.load none (.t 33)),mO 35 (.call 126 [(.t 34)]),mO 10 (.alloc 187 4 (.agg [(.int .i64 0),.nils,(.int .i64 0),.nils])),⟨none,none,.store 4 (.t 10) (.t 35)⟩] false []) (.seq (.seq (.reg 3982 [mO 11 (.mv (.c (.int .i64 0)))] false []) (.block 4 (.loop cl_ref02_isBest_b4))) (.reg 910 [mO 55 (.load (some 4) (.t 8)),mO 56 (.load (some 4) (.t 10)),mO 57 (.load (some 2) (.t 3)),mV 58 9,mV 59 7,mO 60 (.bin .sub (.t 58) (.t 59)),mO 61 (.call 97 [(.t 57),(.t 60)]),mO 62 (.call 126 [(.t 61)]),mO 63 (.call 125 [(.t 56),(.t 62)]),mO 64 (.call 204 [(.t 55),(.t 63)]),⟨none,none,.store 4 (.t 8) (.t 64)⟩] true [])))) (.reg 910 [mV 29 9,mO 30 (.bin .add (.t 29) (.c (.int .i64 1))),mV 9 30] false [])))
def cl_ref02_isBest_b0:ML:=(.seq (.seq (.reg 32910 [mV 12 7,mO 13 (.fieldAddr (.t 3) 1),mO 14 (.load none (.t 13)),mO 15 (.bin .lss (.t 12) (.t 14))] false []) (.cond (.t 15) .skip (.exit 0))) (.seq (.block 1 (.seq (.seq (.reg 8388750 [mV 18 2,mV 19 7,mO 20 (.indexAddr (.t 18) (.t 19) 4),mO 21 (.load (some 4) (.t 20)),mO 22 (.call 202 [(.t 21)]),mO 23 (.bin .lss (.t 22) (.c (.int .i64 0)))] false []) (.cond (.t 23) (.seq (.reg 64 [mO 6 (.mv (.c (.bool false)))] false []) .ret) .skip)) (.seq (.reg 398 [mO 24 (.call 126 [(.c (.int .i64 0))]),mO 8 (.alloc 187 4 (.agg [(.int .i64 0),.nils,(.int .i64 0),.nils])),⟨none,none,.store 4 (.t 8) (.t 24)⟩] false []) (.seq (.seq (.reg 910 [mO 9 (.mv (.c (.int .i64 0)))] false []) (.block 2 (.loop cl_ref02_isBest_b2))) (.seq (.reg 147573952589676413070 [mO 65 (.load (some 4) (.t 8)),mO 66 (.call 202 [(.t 65)]),mO 67 (.bin .gtr (.t 66) (.c (.int .i64 0)))] false []) (.cond (.t 67) (.seq (.reg 64 [mO 6 (.mv (.c (.bool false)))] false []) .ret) .skip)))))) (.reg 142 [mV 16 7,mO 17 (.bin .add (.t 16) (.c (.int .i64 1))),mV 7 17] false [])))
def cl_ref02_isBest_2:ML:=(.seq (.reg 64 [mO 6 (.mv (.c (.bool true)))] false []) .ret)
def cl_ref02_isBest_1:ML:=(.seq (.seq (.reg 142 [mO 7 (.mv (.c (.int .i64 0)))] false []) (.block 0 (.loop cl_ref02_isBest_b0))) (.cut cl_ref02_isBest_2))
def cl_ref02_isBest:ML:=(.seq (.reg 14 [mO 3 (.box 24 2 (.t 0)),mO 6 (.mv (.c (.bool false)))] false []) (.cut cl_ref02_isBest_1))
def c_ref02_isBest:MC:=cl_ref02_isBest.er
theorem f_ref02_isBest:cFun Tryz.prog 122=some (68,3,c_ref02_isBest,[(6,none)]):=by kernel_rfl
theorem e_ref02_isBest:cl_ref02_isBest.er=c_ref02_isBest:=rfl
def cl_ref02_Fit_b4:ML:=(.seq (.seq (.reg 302231454903657293703312 [mV 75 14,mV 76 7,mO 77 (.len false (.t 76)),mO 78 (.bin .lss (.t 75) (.t 77))] false []) (.cond (.t 78) .skip (.exit 4))) (.seq (.block 5 (.seq (.reg 125072 [mV 82 7,mV 83 14,mO 84 (.indexAddr (.t 82) (.t 83) 4),mO 85 (.load (some 4) (.t 84)),mV 86 11,mO 87 (.call 126 [(.t 86)]),mO 88 (.call 125 [(.t 85),(.t 87)]),mO 89 (.call 124 [(.t 88)]),mO 90 (.call 110 [(.t 89)]),mV 81 90,mO 91 (.extract (.t 81) 0),mO 92 (.extract (.t 81) 1),mV 15 91,mV 16 92] true []) (.seq (.seq (.reg 316912650057057350374175860880 [mV 93 16,mO 94 (.un .not (.t 93)),mV 95 94,mG 95 false 96 (.mv (.t 15)),mG 95 false 97 (.bin .gtr (.t 96) (.c (.int .i64 1000000000000))),mO 98 (.pick (.t 95) (.c (.bool true)) (.t 97))] false []) (.cond (.t 98) (.seq (.reg 48 [mO 99 (.build [(.int .i64 0),.nils] []),⟨none,none,.store 2 (.t 4) (.t 99)⟩,mO 5 (.mv (.c (.bool false)))] false []) .ret) .skip)) (.reg 26768 [mO 100 (.fieldAddr (.t 13) 1),mO 101 (.load none (.t 100)),mV 102 15,mO 103 (.buildSlice 3 1 1 (.int .i64 0) [(0,(.t 102))]),mO 104 (.append 3 1 8 (.int .i64 0) (.t 101) (.t 103)),mO 105 (.fieldAddr (.t 13) 1),⟨none,none,.store 1 (.t 105) (.t 104)⟩] false [])))) (.reg 26768 [mV 79 14,mO 80 (.bin .add (.t 79) (.c (.int .i64 1))),mV 14 80] false [])))
def cl_ref02_Fit_b2:ML:=(.seq (.seq (.reg 17592186046096 [mV 41 10,mV 42 7,mO 43 (.len false (.t 42)),mO 44 (.bin .lss (.t 41) (.t 43))] false []) (.cond (.t 44) .skip (.exit 2))) (.seq (.block 3 (.reg 1680 [mO 47 (.load (some 2) (.t 9)),mV 48 7,mV 49 10,mO 50 (.indexAddr (.t 48) (.t 49) 4),mO 51 (.fieldAddr (.t 50) 2),mO 52 (.load (some 2) (.t 51)),mO 53 (.call 123 [(.t 47),(.t 52)]),mO 54 (.field (.t 53) 0 (some 2)),mV 55 7,mV 56 10,mO 57 (.indexAddr (.t 55) (.t 56) 4),mO 58 (.fieldAddr (.t 57) 2),mO 59 (.load (some 2) (.t 58)),mO 60 (.call 20 [(.t 54),(.t 59)]),⟨none,none,.store 2 (.t 9) (.t 60)⟩] true [])) (.reg 1680 [mV 45 10,mO 46 (.bin .add (.t 45) (.c (.int .i64 1))),mV 10 46] false [])))
def cl_ref02_Fit_b0:ML:=(.seq (.seq (.reg 2097238 [mV 17 6,mO 18 (.fieldAddr (.t 2) 1),mO 19 (.load none (.t 18)),mO 20 (.bin .shl (.c (.int .i64 1)) (.t 19)),mO 21 (.bin .lss (.t 17) (.t 20))] false []) (.cond (.t 21) .skip (.exit 0))) (.seq (.block 1 (.seq (.reg 470 [mO 25 (.load (some 2) (.t 2)),mV 26 1,mV 27 6,mO 28 (.call 121 [(.t 25),(.t 26),(.t 27)]),mV 24 28,mO 29 (.extract (.t 24) 0),mO 30 (.extract (.t 24) 1),mV 7 29,mV 8 30] false []) (.seq (.seq (.reg 549755814102 [mV 31 8,mO 32 (.un .not (.t 31)),mV 33 32,mG 33 false 34 (.load (some 2) (.t 2)),mG 33 false 35 (.mv (.t 1)),mG 33 false 36 (.mv (.t 7)),mG 33 false 37 (.call 122 [(.t 34),(.t 35),(.t 36)]),mG 33 false 38 (.un .not (.t 37)),mO 39 (.pick (.t 33) (.c (.bool true)) (.t 38))] false []) (.cond (.t 39) (.exit 1) .skip)) (.seq (.reg 656 [mO 40 (.call 19 [(.c (.int .i64 1))]),mO 9 (.alloc 38 2 (.agg [(.int .i64 0),.nils])),⟨none,none,.store 2 (.t 9) (.t 40)⟩] false []) (.seq (.seq (.reg 1680 [mO 10 (.mv (.c (.int .i64 0)))] false []) (.block 2 (.loop cl_ref02_Fit_b2))) (.seq (.reg 6288 [mO 62 (.load (some 2) (.t 9)),mO 63 (.call 110 [(.t 62)]),mV 61 63,mO 64 (.extract (.t 61) 0),mO 65 (.extract (.t 61) 1),mV 11 64,mV 12 65] false []) (.seq (.seq (.reg 2361183241434822609040 [mV 66 12,mO 67 (.un .not (.t 66)),mV 68 67,mG 68 false 69 (.mv (.t 11)),mG 68 false 70 (.bin .gtr (.t 69) (.c (.int .i64 1000000000000))),mO 71 (.pick (.t 68) (.c (.bool true)) (.t 70))] false []) (.cond (.t 71) (.seq (.reg 48 [mO 72 (.build [(.int .i64 0),.nils] []),⟨none,none,.store 2 (.t 4) (.t 72)⟩,mO 5 (.mv (.c (.bool false)))] false []) .ret) .skip)) (.seq (.reg 10384 [mV 73 11,mO 74 (.build [(.int .i64 0),.nils] [(0,(1,(.t 73)))]),mO 13 (.alloc 29 2 (.agg [(.int .i64 0),.nils])),⟨none,none,.store 2 (.t 13) (.t 74)⟩] false []) (.seq (.seq (.reg 26768 [mO 14 (.mv (.c (.int .i64 0)))] false []) (.block 4 (.loop cl_ref02_Fit_b4))) (.seq (.reg 48 [mO 106 (.load (some 2) (.t 13)),⟨none,none,.store 2 (.t 4) (.t 106)⟩,mO 5 (.mv (.c (.bool true)))] false []) .ret)))))))))) (.reg 86 [mV 22 6,mO 23 (.bin .add (.t 22) (.c (.int .i64 1))),mV 6 23] false [])))
def cl_ref02_Fit_2:ML:=(.seq (.reg 48 [mO 107 (.build [(.int .i64 0),.nils] []),⟨none,none,.store 2 (.t 4) (.t 107)⟩,mO 5 (.mv (.c (.bool false)))] false []) .ret)
def cl_ref02_Fit_1:ML:=(.seq (.seq (.reg 86 [mO 6 (.mv (.c (.int .i64 0)))] false []) (.block 0 (.loop cl_ref02_Fit_b0))) (.cut cl_ref02_Fit_2))
def cl_ref02_Fit:ML:=(.seq (.reg 22 [mO 2 (.box 24 2 (.t 0)),mO 4 (.alloc 29 2 (.agg [(.int .i64 0),.nils])),mO 5 (.mv (.c (.bool false)))] false []) (.cut cl_ref02_Fit_1))
def c_ref02_Fit:MC:=cl_ref02_Fit.er
theorem f_ref02_Fit:cFun Tryz.prog 36=some (108,2,c_ref02_Fit,[(4,(some (some 2))),(5,none)]):=by kernel_rfl
theorem e_ref02_Fit:cl_ref02_Fit.er=c_ref02_Fit:=rfl
end Go.Proofs.YtgmpcbpmnimkoaaGreatDoor

/- The reference's equations of a set: contract. Printed by gensd.py. By an AI agent;nothing here is trusted. -/
namespace Go.Proofs.YtgmpcbpmnimkoaaGreatDoor
open Go.Av

def zfl (S k:Nat):List AV:=rqs (fun _=>0) k ++ List.replicate (S - k) (.agg [.int .i64 0,.nils,.int .i64 0,.nils])
theorem zfl_length {S k:Nat} (h:k≤S):(zfl S k).length=S:=by simp [zfl,rqs];omega
theorem zfl_0 (S:Nat):zfl S 0=List.replicate S (.agg [.int .i64 0,.nils,.int .i64 0,.nils]):=by simp [zfl,rqs]
theorem zfl_all (S:Nat):zfl S S=rqs (fun _=>0) S:=by simp [zfl]
theorem zfl_get {S k:Nat} (h:k<S):(zfl S k)[k]?=some (.agg [.int .i64 0,.nils,.int .i64 0,.nils]):=by
 unfold zfl
 rw [List.getElem?_append_right (by rw [rqs_length];exact Nat.le_refl _),rqs_length,Nat.sub_self,List.getElem?_replicate,if_pos (by omega)]
theorem zfl_set {S k:Nat} (h:k<S):(zfl S k).set k (rq 0)=zfl S (k+1):=by
 unfold zfl
 rw [List.set_append_right _ _ (by rw [rqs_length];exact Nat.le_refl _),rqs_length,Nat.sub_self,← rqs_snoc]
 have e:S - k=(S - (k+1))+1:=by omega
 rw [e,List.replicate_succ]
 simp
theorem zfl_good (S k:Nat):∀ x ∈ zfl S k,good x=true:=by
 intro x hx
 unfold zfl at hx
 rcases List.mem_append.1 hx with h | h
 ·obtain ⟨j,_,rfl⟩:=List.mem_map.1 h;rfl
 ·rw [List.eq_of_mem_replicate h];rfl
theorem mkOk_zfl (S:Nat):mkOk 4 (List.replicate S (AV.agg [.int .i64 0,.nils,.int .i64 0,.nils])):=by
 intro x hx
 rw [List.eq_of_mem_replicate hx]
 exact ⟨rfl,rfl,rfl⟩
theorem bit_run:((List.range 32).all fun s=>(List.range 5).all fun k=>decide (IntKind.i64.wrap ((((BitVec.ofInt IntKind.i64.bits ((s:Int).fdiv (2 ^ min k IntKind.i64.bits))) &&& (BitVec.ofInt IntKind.i64.bits 1)).toNat:Nat):Int)=if s.testBit k then 1 else 0))=true:=by decide +kernel
theorem bit_i {s k:Nat} (hs:s<32) (hk:k<5):IntKind.i64.wrap ((((BitVec.ofInt IntKind.i64.bits ((s:Int).fdiv (2 ^ min k IntKind.i64.bits))) &&& (BitVec.ofInt IntKind.i64.bits 1)).toNat:Nat):Int)=if s.testBit k then 1 else 0 :=
 of_decide_eq_true (List.all_eq_true.1 (List.all_eq_true.1 bit_run s (List.mem_range.2 hs)) k (List.mem_range.2 hk))
def sdA (items l:List Int) (S:Nat) (T:List Nat) (r c:Nat):Rat:=if c<T.length then ((Lin.gr items l.length (T.getD r 0) (T.getD c 0):Int):Rat) else ((Lin.smI l.length fun n=>l.getD n 0 * Lin.itm items n (T.getD r 0):Int):Rat)
theorem rls_snoc (i:Nat) (R:Nat→List AV):rls i R ++ [.sl (R i)]=rls (i+1) R:=by simp [rls,List.range_succ]
theorem rls_fxB (i:Nat) (R:Nat→List AV):(rls i R).all Go.Av.fx=true:=List.all_eq_true.2 fun x hx=>by
 obtain ⟨k,_,rfl⟩:=List.mem_map.1 hx;rfl
theorem rls_imm (i:Nat) (R:Nat→List AV):(rls i R).all imm=true:=List.all_eq_true.2 fun x hx=>by
 obtain ⟨k,_,rfl⟩:=List.mem_map.1 hx;rfl
theorem RnB.snocR {s s':Store} {f:Nat→Option Nat} {ty sz i k n t1:Nat} {R:Nat→List AV} {r es:List AV} (hs:s k=some (some ⟨t1,4,r⟩)) (hr:∀ x ∈ r,Go.Av.fx x=true) (hn:n=r.length) (hf:∀ k',f k' ≠ some k) (hR:R i=r) (he:es=rls (i+1) R) :
  RnB s s' f ⟨ty,sz,rls i R ++ [.buf k n]⟩ ⟨ty,sz,es⟩:=by
 subst he hn hR
 rw [← rls_snoc]
 refine RnB.snocX (RnB.fxB (rls_fxB i R)) ⟨rfl,fun d hd=>?_,fun o d d' k1 k2=>?_⟩
 ·simp only [cellsOf,List.mem_cons,List.not_mem_nil,or_false] at hd
  subst hd;rfl
 ·match o with
  | 0 =>
   simp [cellsOf] at k1 k2;subst k1;subst k2
   have h:=Rn.fz (s':=s') (f:=f) k (R i).length _ hs (Nat.le_refl _) (fun x hx=>(fx_spec (hr x hx)).1) hf
   have e:(R i).take (R i).length=R i:=List.take_of_length_le (Nat.le_refl _)
   simp only [e] at h
   exact h
  | o+1=>simp [cellsOf] at k1
theorem FtB.smb {items l:List Int} {S:Nat} (F:FtB items l S) (a b n:Nat) (hn:n≤l.length) : -100000000≤Lin.smI n (fun n=>Lin.itm items n a * Lin.itm items n b)∧Lin.smI n (fun n=>Lin.itm items n a * Lin.itm items n b)≤100000000:=by
 have h:=gr_bd F.ib n a b
 have h1:=F.ll
 have h2:=F.i6
 have h3:=F.s5
 unfold Lin.gr at h
 omega
theorem FtB.smr {items l:List Int} {S:Nat} (F:FtB items l S) (a n:Nat) (hn:n≤l.length) : -100000000≤Lin.smI n (fun n=>l.getD n 0 * Lin.itm items n a)∧Lin.smI n (fun n=>l.getD n 0 * Lin.itm items n a)≤100000000:=by
 have h:=Lin.smI_bd (n:=n) (f:=fun n=>l.getD n 0 * Lin.itm items n a) (M:=1000000) fun i hi=>by
  have h1:=itm_bd F.ib i a
  have h2 : -10000≤l.getD i 0∧l.getD i 0≤10000:=by
   rw [getD_at (by omega)];exact F.lb _ (List.getElem_mem (by omega))
  have:=Lin.abs_mul (A:=10000) (B:=100) h2 h1
  omega
 have h1:=F.ll
 have h2:=F.i6
 have h3:=F.s5
 omega

set_option maxHeartbeats 4000000 in
theorem Sd_b0 {items l:List Int} {S:Nat} (F:FtB items l S) {s k:Nat} (hs:s<32) (p:Nat→Bool) (hp:∀ k,p k=s.testBit k) (hk:k≤S) :
  WL Tryz.prog 152 cl_ref02_solved_b0 (fun ex e' s'=>match ex with | .normal=>∃ z:PSigma (fun k:Nat=>k≤S),S - z.1<S - k∧Weak (e',s') ((fun k:Nat=>(envOf [(1,.sl (ints l)),(2,.int .i64 (s:Nat)),(3,.ptr 3 0 0),(8,.buf 100 (Lin.ticks k p).length),(9,.int .i64 (k:Nat))],stOf [(3,⟨24,2,[.agg [.sl (ints items),.int .i64 S]]⟩),(100,⟨3,1,ints (ntA (Lin.ticks k p))⟩)])) z.1) | .exit xid=>xid=0∧s'=stOf [(3,⟨24,2,[.agg [.sl (ints items),.int .i64 S]]⟩),(100,⟨3,1,ints (ntA (Lin.ticks S p))⟩)]∧e' 1=.sl (ints l)∧e' 3=.ptr 3 0 0∧e' 8=.buf 100 (Lin.ticks S p).length | _=>False) (envOf [(1,.sl (ints l)),(2,.int .i64 (s:Nat)),(3,.ptr 3 0 0),(8,.buf 100 (Lin.ticks k p).length),(9,.int .i64 (k:Nat))]) (stOf [(3,⟨24,2,[.agg [.sl (ints items),.int .i64 S]]⟩),(100,⟨3,1,ints (ntA (Lin.ticks k p))⟩)]) .mk:=by
 have hmax:=maxLen_big
 have hs5:=F.s5
 have hlen:(Lin.ticks k p).length≤k:=by have:=List.length_filter_le p (List.range k);rw [List.length_range] at this;exact this
 by_cases h':k<S
 ·have hc1:(k:Int)<S:=by omega
  have hb:=bit_i hs (show k<5 by omega)
  have hts:=Lin.ticks_succ k p
  rw [← hp] at hb
  cases hpk:p k with
  | true =>
   rw [hpk,if_pos rfl] at hb hts
   have hia:ints (ntA (Lin.ticks (k+1) p))=ints (ntA (Lin.ticks k p)) ++ [.int .i64 (k:Int)]:=by rw [hts,ntA_snoc,ints_append];rfl
   have hl1:(Lin.ticks (k+1) p).length=(Lin.ticks k p).length+1:=by rw [hts];simp
   simp only [cl_ref02_solved_b0,hc1,hb,ints_length,ntA_len,vZ,Int.reduceEq,Int.reduceNe,Int.reduceLT,Int.reduceLE,Nat.reduceEqDiff,Nat.reduceAdd,reduceIte,reduceCtorEq,Nat.reduceLT,Nat.reduceLeDiff,Nat.reduceShiftRight,Nat.reduceMod]
   refine ⟨by omega,⟨by omega,by omega⟩,by unfold I64;omega,⟨k+1,h'⟩,by simp only;omega,?_⟩
   refine weakX [(100,some 37)] (of_decide_eq_true rfl) (of_decide_eq_true rfl) ?_
   (simp only [hl1,vcW,vZ,Int.reduceEq,Int.reduceNe,Int.reduceLT,Int.reduceLE,Nat.reduceEqDiff,Nat.reduceAdd,reduceIte,reduceCtorEq,Nat.reduceLT,Nat.reduceLeDiff,Nat.reduceShiftRight,Nat.reduceMod])
   (repeat' first | exact trivial | (with_reducible first | exact RnB.fxB (ints_fxB _) | rfl | refine And.intro ?_ ?_) | (with_reducible (first | refine RnB.bb ?_ | refine RnB.nb ?_);simp only [vcW,vZ,Int.reduceEq,Int.reduceNe,Int.reduceLT,Int.reduceLE,Nat.reduceEqDiff,Nat.reduceAdd,reduceIte,reduceCtorEq,Nat.reduceLT,Nat.reduceLeDiff,Nat.reduceShiftRight,Nat.reduceMod]) | (with_reducible first | refine RnB.ii ?_ | refine RnB.app ?_) | (with_reducible refine RnB.fxB ?_;simp only [vcW,vZ,Int.reduceEq,Int.reduceNe,Int.reduceLT,Int.reduceLE,Nat.reduceEqDiff,Nat.reduceAdd,reduceIte,reduceCtorEq,Nat.reduceLT,Nat.reduceLeDiff,Nat.reduceShiftRight,Nat.reduceMod]) | omega)
   all_goals first | omega | (rw [hia,ints_append];rfl)
  | false =>
   rw [hpk] at hb hts
   simp only [Bool.false_eq_true,if_false,List.append_nil] at hb hts
   simp only [cl_ref02_solved_b0,hc1,hb,ints_length,ntA_len,vZ,Int.reduceEq,Int.reduceNe,Int.reduceLT,Int.reduceLE,Nat.reduceEqDiff,Nat.reduceAdd,reduceIte,reduceCtorEq,Nat.reduceLT,Nat.reduceLeDiff,Nat.reduceShiftRight,Nat.reduceMod]
   refine ⟨by omega,by unfold I64;omega,⟨k+1,h'⟩,by simp only;omega,?_⟩
   refine weakX [] (of_decide_eq_true rfl) (of_decide_eq_true rfl) ?_
   (simp only [hts,vcW,vZ,Int.reduceEq,Int.reduceNe,Int.reduceLT,Int.reduceLE,Nat.reduceEqDiff,Nat.reduceAdd,reduceIte,reduceCtorEq,Nat.reduceLT,Nat.reduceLeDiff,Nat.reduceShiftRight,Nat.reduceMod])
   (repeat' first | exact trivial | (with_reducible first | exact RnB.fxB (ints_fxB _) | rfl | refine And.intro ?_ ?_) | (with_reducible (first | refine RnB.bb ?_ | refine RnB.nb ?_);simp only [vcW,vZ,Int.reduceEq,Int.reduceNe,Int.reduceLT,Int.reduceLE,Nat.reduceEqDiff,Nat.reduceAdd,reduceIte,reduceCtorEq,Nat.reduceLT,Nat.reduceLeDiff,Nat.reduceShiftRight,Nat.reduceMod]) | (with_reducible first | refine RnB.ii ?_ | refine RnB.app ?_) | (with_reducible refine RnB.fxB ?_;simp only [vcW,vZ,Int.reduceEq,Int.reduceNe,Int.reduceLT,Int.reduceLE,Nat.reduceEqDiff,Nat.reduceAdd,reduceIte,reduceCtorEq,Nat.reduceLT,Nat.reduceLeDiff,Nat.reduceShiftRight,Nat.reduceMod]) | omega)
   all_goals omega
 ·have hkS:k=S:=by omega
  subst hkS
  have hc1:¬ (k:Int)<k:=by omega
  simp only [cl_ref02_solved_b0,hc1,vZ,Int.reduceEq,Int.reduceNe,Int.reduceLT,Int.reduceLE,Nat.reduceEqDiff,Nat.reduceAdd,reduceIte,reduceCtorEq,Nat.reduceLT,Nat.reduceLeDiff,Nat.reduceShiftRight,Nat.reduceMod]
theorem RatioInt_0:Sound Tryz.prog 126 [.int .i64 0] (rq 0):=by
 have h:=RatioInt_q 0 (by unfold I64;omega)
 have e:((0:Int):Rat)=0:=rfl
 rw [e] at h;exact h
set_option maxHeartbeats 4000000 in
theorem Sd_b2 {items l:List Int} {S:Nat} (F:FtB items l S) {T:List Nat} (hT:T.length≤5) (hTl:∀ k ∈ T,k<S) {k:Nat} (hk:k≤S) :
  WL Tryz.prog 152 cl_ref02_solved_b2 (fun ex e' s'=>match ex with | .normal=>∃ z:PSigma (fun k:Nat=>k≤S),S - z.1<S - k∧Weak (e',s') ((fun k:Nat=>(envOf [(1,.sl (ints l)),(3,.ptr 3 0 0),(8,.buf 100 T.length),(10,.buf 101 S),(11,.int .i64 (k:Nat))],stOf [(3,⟨24,2,[.agg [.sl (ints items),.int .i64 S]]⟩),(100,⟨3,1,ints (ntA T)⟩),(101,⟨187,4,zfl S k⟩)])) z.1) | .exit xid=>xid=2∧s'=stOf [(3,⟨24,2,[.agg [.sl (ints items),.int .i64 S]]⟩),(100,⟨3,1,ints (ntA T)⟩),(101,⟨187,4,rqs (fun _=>0) S⟩)]∧e' 1=.sl (ints l)∧e' 3=.ptr 3 0 0∧e' 8=.buf 100 T.length∧e' 10=.buf 101 S | _=>False) (envOf [(1,.sl (ints l)),(3,.ptr 3 0 0),(8,.buf 100 T.length),(10,.buf 101 S),(11,.int .i64 (k:Nat))]) (stOf [(3,⟨24,2,[.agg [.sl (ints items),.int .i64 S]]⟩),(100,⟨3,1,ints (ntA T)⟩),(101,⟨187,4,zfl S k⟩)]) .mk:=by
 have hs5:=F.s5
 by_cases h':k<S
 ·have hc1:(k:Int)<S:=by omega
  have hz:=zfl_get h'
  have hzl:=zfl_length (S:=S) (k:=k) hk
  have hzs:=zfl_set h'
  have hR:=RatioInt_0
  rw [rq_hr] at hzs hR
  simp only [cl_ref02_solved_b2,hc1,hzl,hz,vZ,Int.reduceEq,Int.reduceNe,Int.reduceLT,Int.reduceLE,Nat.reduceEqDiff,Nat.reduceAdd,reduceIte,reduceCtorEq,Nat.reduceLT,Nat.reduceLeDiff,Nat.reduceShiftRight,Nat.reduceMod]
  refine callS_of hR ?_
  simp only [hzl,hz,hzs,vZ,Int.reduceEq,Int.reduceNe,Int.reduceLT,Int.reduceLE,Nat.reduceEqDiff,Nat.reduceAdd,reduceIte,reduceCtorEq,Nat.reduceLT,Nat.reduceLeDiff,Nat.reduceShiftRight,Nat.reduceMod]
  refine ⟨⟨by omega,by omega,Nat.le_refl _⟩,by unfold I64;omega,⟨k+1,h'⟩,by simp only;omega,?_⟩
  refine weakX [] (of_decide_eq_true rfl) (of_decide_eq_true rfl) ?_
  (simp only [vcW,vZ,Int.reduceEq,Int.reduceNe,Int.reduceLT,Int.reduceLE,Nat.reduceEqDiff,Nat.reduceAdd,reduceIte,reduceCtorEq,Nat.reduceLT,Nat.reduceLeDiff,Nat.reduceShiftRight,Nat.reduceMod])
  repeat' (with_reducible refine And.intro ?_ ?_)
  try any_goals (exact RnB.same (zfl_good _ _))
  (repeat' first | exact trivial | (with_reducible first | exact RnB.fxB (ints_fxB _) | rfl | refine And.intro ?_ ?_) | (with_reducible (first | refine RnB.bb ?_ | refine RnB.nb ?_);simp only [vcW,vZ,Int.reduceEq,Int.reduceNe,Int.reduceLT,Int.reduceLE,Nat.reduceEqDiff,Nat.reduceAdd,reduceIte,reduceCtorEq,Nat.reduceLT,Nat.reduceLeDiff,Nat.reduceShiftRight,Nat.reduceMod]) | (with_reducible first | refine RnB.ii ?_ | refine RnB.app ?_) | (with_reducible refine RnB.fxB ?_;simp only [vcW,vZ,Int.reduceEq,Int.reduceNe,Int.reduceLT,Int.reduceLE,Nat.reduceEqDiff,Nat.reduceAdd,reduceIte,reduceCtorEq,Nat.reduceLT,Nat.reduceLeDiff,Nat.reduceShiftRight,Nat.reduceMod]) | omega)
  all_goals omega
 ·have hkS:k=S:=by omega
  subst hkS
  have hc1:¬ (k:Int)<k:=by omega
  have hz:=zfl_all k
  simp only [cl_ref02_solved_b2,hc1,hz,vZ,Int.reduceEq,Int.reduceNe,Int.reduceLT,Int.reduceLE,Nat.reduceEqDiff,Nat.reduceAdd,reduceIte,reduceCtorEq,Nat.reduceLT,Nat.reduceLeDiff,Nat.reduceShiftRight,Nat.reduceMod]
set_option maxHeartbeats 4000000 in
theorem Sd_b8 {items l:List Int} {S:Nat} (F:FtB items l S) {T:List Nat} (hT:T.length≤5) (hTl:∀ k ∈ T,k<S) {i j n:Nat} (hi:i<T.length) (hj:j<T.length) (hn:n≤l.length) :
  WL Tryz.prog 152 cl_ref02_solved_b8 (fun ex e' s'=>match ex with | .normal=>∃ z:PSigma (fun n:Nat=>n≤l.length),l.length - z.1<l.length - n∧Weak (e',s') ((fun n:Nat=>(envOf [(1,.sl (ints l)),(3,.ptr 3 0 0),(8,.buf 100 T.length),(10,.buf 101 S),(12,.buf 102 i),(13,.int .i64 (i:Nat)),(14,.buf 103 j),(15,.int .i64 (j:Nat)),(16,.int .i64 (Lin.smI n fun n=>Lin.itm items n (T.getD i 0) * Lin.itm items n (T.getD j 0))),(17,.int .i64 (n:Nat))],stOf [(3,⟨24,2,[.agg [.sl (ints items),.int .i64 S]]⟩),(100,⟨3,1,ints (ntA T)⟩),(101,⟨187,4,rqs (fun _=>0) S⟩),(102,⟨182,1,rls i fun r=>rqs (sdA items l S T r) (T.length+1)⟩),(103,⟨187,4,rqs (sdA items l S T i) j⟩)])) z.1) | .exit xid=>xid=8∧s'=stOf [(3,⟨24,2,[.agg [.sl (ints items),.int .i64 S]]⟩),(100,⟨3,1,ints (ntA T)⟩),(101,⟨187,4,rqs (fun _=>0) S⟩),(102,⟨182,1,rls i fun r=>rqs (sdA items l S T r) (T.length+1)⟩),(103,⟨187,4,rqs (sdA items l S T i) j⟩)]∧e' 1=.sl (ints l)∧e' 3=.ptr 3 0 0∧e' 8=.buf 100 T.length∧e' 10=.buf 101 S∧e' 12=.buf 102 i∧e' 13=.int .i64 (i:Nat)∧e' 14=.buf 103 j∧e' 15=.int .i64 (j:Nat)∧e' 16=.int .i64 (Lin.smI l.length fun n=>Lin.itm items n (T.getD i 0) * Lin.itm items n (T.getD j 0)) | _=>False) (envOf [(1,.sl (ints l)),(3,.ptr 3 0 0),(8,.buf 100 T.length),(10,.buf 101 S),(12,.buf 102 i),(13,.int .i64 (i:Nat)),(14,.buf 103 j),(15,.int .i64 (j:Nat)),(16,.int .i64 (Lin.smI n fun n=>Lin.itm items n (T.getD i 0) * Lin.itm items n (T.getD j 0))),(17,.int .i64 (n:Nat))]) (stOf [(3,⟨24,2,[.agg [.sl (ints items),.int .i64 S]]⟩),(100,⟨3,1,ints (ntA T)⟩),(101,⟨187,4,rqs (fun _=>0) S⟩),(102,⟨182,1,rls i fun r=>rqs (sdA items l S T r) (T.length+1)⟩),(103,⟨187,4,rqs (sdA items l S T i) j⟩)]) .mk:=by
 have hs5:=F.s5
 have hi6:=F.i6
 have hll:=F.ll
 have hTi:=hTl _ (List.getElem_mem hi)
 have hTj:=hTl _ (List.getElem_mem hj)
 by_cases h':n<l.length
 ·have hc1:(n:Int)<l.length:=by omega
  have g1:=ntA_get T i hi
  have g2:=ntA_get T j hj
  have e1:T.getD i 0=T[i]:=by simp [List.getD,hi]
  have e2:T.getD j 0=T[j]:=by simp [List.getD,hj]
  have hI1:=item_s items (S:Int) ((n:Int) - (T[i]:Nat)) (by omega)
  have hI2:=item_s items (S:Int) ((n:Int) - (T[j]:Nat)) (by omega)
  rw [itI_nat] at hI1 hI2
  have b1:=itm_bd F.ib n T[i]
  have b2:=itm_bd F.ib n T[j]
  have b3:=Lin.abs_mul (A:=100) (B:=100) b1 b2
  have b4:=F.smb (T.getD i 0) (T.getD j 0) n hn
  have b5:=F.smb (T.getD i 0) (T.getD j 0) (n+1) h'
  have hsm:Lin.smI (n+1) (fun n=>Lin.itm items n (T.getD i 0) * Lin.itm items n (T.getD j 0))=Lin.smI n (fun n=>Lin.itm items n (T.getD i 0) * Lin.itm items n (T.getD j 0))+Lin.itm items n T[i] * Lin.itm items n T[j]:=by rw [Lin.smI,e1,e2]
  rw [hsm] at b5
  unfold tplA at hI1 hI2
  generalize Lin.itm items n T[i]=x at *
  generalize Lin.itm items n T[j]=y at *
  simp only [cl_ref02_solved_b8,hc1,ints_length,ntA_len,g1,g2,vZ,Int.reduceEq,Int.reduceNe,Int.reduceLT,Int.reduceLE,Nat.reduceEqDiff,Nat.reduceAdd,reduceIte,reduceCtorEq,Nat.reduceLT,Nat.reduceLeDiff,Nat.reduceShiftRight,Nat.reduceMod]
  (repeat (with_reducible refine And.intro ?_ ?_;focus (first | omega | (unfold I64;omega))))
  refine callS_of hI1 ?_
  simp only [ints_length,ntA_len,g1,g2,vZ,Int.reduceEq,Int.reduceNe,Int.reduceLT,Int.reduceLE,Nat.reduceEqDiff,Nat.reduceAdd,reduceIte,reduceCtorEq,Nat.reduceLT,Nat.reduceLeDiff,Nat.reduceShiftRight,Nat.reduceMod]
  (repeat (with_reducible refine And.intro ?_ ?_;focus (first | omega | (unfold I64;omega))))
  refine callS_of hI2 ?_
  simp only [vZ,Int.reduceEq,Int.reduceNe,Int.reduceLT,Int.reduceLE,Nat.reduceEqDiff,Nat.reduceAdd,reduceIte,reduceCtorEq,Nat.reduceLT,Nat.reduceLeDiff,Nat.reduceShiftRight,Nat.reduceMod]
  refine ⟨by unfold I64;omega,by unfold I64;omega,by unfold I64;omega,⟨n+1,h'⟩,by simp only;omega,?_⟩
  refine weakX [] (of_decide_eq_true rfl) (of_decide_eq_true rfl) ?_
  (simp only [hsm,vcW,vZ,Int.reduceEq,Int.reduceNe,Int.reduceLT,Int.reduceLE,Nat.reduceEqDiff,Nat.reduceAdd,reduceIte,reduceCtorEq,Nat.reduceLT,Nat.reduceLeDiff,Nat.reduceShiftRight,Nat.reduceMod])
  repeat' (with_reducible refine And.intro ?_ ?_)
  try any_goals (with_reducible first | exact RnB.fxB (rqs_fxB _ _) | exact RnB.fxB (rls_fxB _ _))
  (repeat' first | exact trivial | (with_reducible first | exact RnB.fxB (ints_fxB _) | rfl | refine And.intro ?_ ?_) | (with_reducible (first | refine RnB.bb ?_ | refine RnB.nb ?_);simp only [vcW,vZ,Int.reduceEq,Int.reduceNe,Int.reduceLT,Int.reduceLE,Nat.reduceEqDiff,Nat.reduceAdd,reduceIte,reduceCtorEq,Nat.reduceLT,Nat.reduceLeDiff,Nat.reduceShiftRight,Nat.reduceMod]) | (with_reducible first | refine RnB.ii ?_ | refine RnB.app ?_) | (with_reducible refine RnB.fxB ?_;simp only [vcW,vZ,Int.reduceEq,Int.reduceNe,Int.reduceLT,Int.reduceLE,Nat.reduceEqDiff,Nat.reduceAdd,reduceIte,reduceCtorEq,Nat.reduceLT,Nat.reduceLeDiff,Nat.reduceShiftRight,Nat.reduceMod]) | omega)
  all_goals trace_state
 ·have hnl:n=l.length:=by omega
  subst hnl
  have hc1:¬ (l.length:Int)<l.length:=by omega
  simp only [cl_ref02_solved_b8,hc1,ints_length,vZ,Int.reduceEq,Int.reduceNe,Int.reduceLT,Int.reduceLE,Nat.reduceEqDiff,Nat.reduceAdd,reduceIte,reduceCtorEq,Nat.reduceLT,Nat.reduceLeDiff,Nat.reduceShiftRight,Nat.reduceMod]
theorem sdA_lo {items l:List Int} {S:Nat} {T:List Nat} {r c:Nat} (h:c<T.length):sdA items l S T r c=((Lin.smI l.length fun n=>Lin.itm items n (T.getD r 0) * Lin.itm items n (T.getD c 0):Int):Rat):=by unfold sdA;rw [if_pos h];rfl
theorem sdA_hi {items l:List Int} {S:Nat} {T:List Nat} {r:Nat}:sdA items l S T r T.length=((Lin.smI l.length fun n=>l.getD n 0 * Lin.itm items n (T.getD r 0):Int):Rat):=by unfold sdA;rw [if_neg (by omega)]
set_option maxHeartbeats 4000000 in
theorem Sd_b6 {items l:List Int} {S:Nat} (F:FtB items l S) {T:List Nat} (hT:T.length≤5) (hTl:∀ k ∈ T,k<S) {i j:Nat} (hi:i<T.length) (hj:j≤T.length) :
  WL Tryz.prog 152 cl_ref02_solved_b6 (fun ex e' s'=>match ex with | .normal=>∃ z:PSigma (fun j:Nat=>j≤T.length),T.length - z.1<T.length - j∧Weak (e',s') ((fun j:Nat=>(envOf [(1,.sl (ints l)),(3,.ptr 3 0 0),(8,.buf 100 T.length),(10,.buf 101 S),(12,.buf 102 i),(13,.int .i64 (i:Nat)),(14,.buf 103 j),(15,.int .i64 (j:Nat))],stOf [(3,⟨24,2,[.agg [.sl (ints items),.int .i64 S]]⟩),(100,⟨3,1,ints (ntA T)⟩),(101,⟨187,4,rqs (fun _=>0) S⟩),(102,⟨182,1,rls i fun r=>rqs (sdA items l S T r) (T.length+1)⟩),(103,⟨187,4,rqs (sdA items l S T i) j⟩)])) z.1) | .exit xid=>xid=6∧s'=stOf [(3,⟨24,2,[.agg [.sl (ints items),.int .i64 S]]⟩),(100,⟨3,1,ints (ntA T)⟩),(101,⟨187,4,rqs (fun _=>0) S⟩),(102,⟨182,1,rls i fun r=>rqs (sdA items l S T r) (T.length+1)⟩),(103,⟨187,4,rqs (sdA items l S T i) T.length⟩)]∧e' 1=.sl (ints l)∧e' 3=.ptr 3 0 0∧e' 8=.buf 100 T.length∧e' 10=.buf 101 S∧e' 12=.buf 102 i∧e' 13=.int .i64 (i:Nat)∧e' 14=.buf 103 T.length | _=>False) (envOf [(1,.sl (ints l)),(3,.ptr 3 0 0),(8,.buf 100 T.length),(10,.buf 101 S),(12,.buf 102 i),(13,.int .i64 (i:Nat)),(14,.buf 103 j),(15,.int .i64 (j:Nat))]) (stOf [(3,⟨24,2,[.agg [.sl (ints items),.int .i64 S]]⟩),(100,⟨3,1,ints (ntA T)⟩),(101,⟨187,4,rqs (fun _=>0) S⟩),(102,⟨182,1,rls i fun r=>rqs (sdA items l S T r) (T.length+1)⟩),(103,⟨187,4,rqs (sdA items l S T i) j⟩)]) .mk:=by
 have hmax:=maxLen_big
 by_cases h':j<T.length
 ·have hc1:(j:Int)<T.length:=by omega
  have b:=F.smb (T.getD i 0) (T.getD j 0) l.length (Nat.le_refl _)
  have hR:=RatioInt_q (Lin.smI l.length fun n=>Lin.itm items n (T.getD i 0) * Lin.itm items n (T.getD j 0)) (by unfold I64;omega)
  rw [← sdA_lo (S:=S) h'] at hR
  have hsn:=rqs_snoc (sdA items l S T i) j
  have z:(Lin.smI 0 fun n=>Lin.itm items n (T.getD i 0) * Lin.itm items n (T.getD j 0))=0:=rfl
  rw [rq_hr] at hR hsn
  simp only [cl_ref02_solved_b6,hc1,ints_length,ntA_len,vZ,Int.reduceEq,Int.reduceNe,Int.reduceLT,Int.reduceLE,Nat.reduceEqDiff,Nat.reduceAdd,reduceIte,reduceCtorEq,Nat.reduceLT,Nat.reduceLeDiff,Nat.reduceShiftRight,Nat.reduceMod]
  refine WL_loopZ (α:=PSigma fun n:Nat=>n≤l.length) (fun ⟨n,_⟩=>(envOf [(1,.sl (ints l)),(3,.ptr 3 0 0),(8,.buf 100 T.length),(10,.buf 101 S),(12,.buf 102 i),(13,.int .i64 (i:Nat)),(14,.buf 103 j),(15,.int .i64 (j:Nat)),(16,.int .i64 (Lin.smI n fun n=>Lin.itm items n (T.getD i 0) * Lin.itm items n (T.getD j 0))),(17,.int .i64 (n:Nat))],stOf [(3,⟨24,2,[.agg [.sl (ints items),.int .i64 S]]⟩),(100,⟨3,1,ints (ntA T)⟩),(101,⟨187,4,rqs (fun _=>0) S⟩),(102,⟨182,1,rls i fun r=>rqs (sdA items l S T r) (T.length+1)⟩),(103,⟨187,4,rqs (sdA items l S T i) j⟩)])) (fun x=>l.length - x.1) ⟨0,Nat.zero_le _⟩ 8
   (fun e' s'=>s'=stOf [(3,⟨24,2,[.agg [.sl (ints items),.int .i64 S]]⟩),(100,⟨3,1,ints (ntA T)⟩),(101,⟨187,4,rqs (fun _=>0) S⟩),(102,⟨182,1,rls i fun r=>rqs (sdA items l S T r) (T.length+1)⟩),(103,⟨187,4,rqs (sdA items l S T i) j⟩)]∧e' 1=.sl (ints l)∧e' 3=.ptr 3 0 0∧e' 8=.buf 100 T.length∧e' 10=.buf 101 S∧e' 12=.buf 102 i∧e' 13=.int .i64 (i:Nat)∧e' 14=.buf 103 j∧e' 15=.int .i64 (j:Nat)∧e' 16=.int .i64 (Lin.smI l.length fun n=>Lin.itm items n (T.getD i 0) * Lin.itm items n (T.getD j 0))) ?_ (fun ⟨n,hn⟩=>Sd_b8 F hT hTl hi h' hn) (fun e' s' h=>?_)
  ·refine weakX [] (of_decide_eq_true rfl) (of_decide_eq_true rfl) ?_
   (simp only [z,vcW,vZ,Int.reduceEq,Int.reduceNe,Int.reduceLT,Int.reduceLE,Nat.reduceEqDiff,Nat.reduceAdd,reduceIte,reduceCtorEq,Nat.reduceLT,Nat.reduceLeDiff,Nat.reduceShiftRight,Nat.reduceMod])
   repeat' (with_reducible refine And.intro ?_ ?_)
   try any_goals (with_reducible first | exact RnB.fxB (rqs_fxB _ _) | exact RnB.fxB (rls_fxB _ _))
   (repeat' first | exact trivial | (with_reducible first | exact RnB.fxB (ints_fxB _) | rfl | refine And.intro ?_ ?_) | (with_reducible (first | refine RnB.bb ?_ | refine RnB.nb ?_);simp only [vcW,vZ,Int.reduceEq,Int.reduceNe,Int.reduceLT,Int.reduceLE,Nat.reduceEqDiff,Nat.reduceAdd,reduceIte,reduceCtorEq,Nat.reduceLT,Nat.reduceLeDiff,Nat.reduceShiftRight,Nat.reduceMod]) | (with_reducible first | refine RnB.ii ?_ | refine RnB.app ?_) | (with_reducible refine RnB.fxB ?_;simp only [vcW,vZ,Int.reduceEq,Int.reduceNe,Int.reduceLT,Int.reduceLE,Nat.reduceEqDiff,Nat.reduceAdd,reduceIte,reduceCtorEq,Nat.reduceLT,Nat.reduceLeDiff,Nat.reduceShiftRight,Nat.reduceMod]) | omega)
   all_goals rfl
  ·obtain ⟨hs,h1,h3,h8,h10,h12,h13,h14,h15,h16⟩:=h
   subst hs
   simp only [h1,h3,h8,h10,h12,h13,h14,h15,h16,vZ,Int.reduceEq,Int.reduceNe,Int.reduceLT,Int.reduceLE,Nat.reduceEqDiff,Nat.reduceAdd,reduceIte,reduceCtorEq,Nat.reduceLT,Nat.reduceLeDiff,Nat.reduceShiftRight,Nat.reduceMod]
   refine callS_of hR ?_
   simp only [h1,h3,h8,h10,h12,h13,h14,h15,h16,rqs_length,hsn,vZ,Int.reduceEq,Int.reduceNe,Int.reduceLT,Int.reduceLE,Nat.reduceEqDiff,Nat.reduceAdd,reduceIte,reduceCtorEq,Nat.reduceLT,Nat.reduceLeDiff,Nat.reduceShiftRight,Nat.reduceMod]
   refine ⟨⟨by omega,by omega⟩,by unfold I64;omega,⟨j+1,h'⟩,by simp only;omega,?_⟩
   refine weakX [(103,some 92)] (of_decide_eq_true rfl) (of_decide_eq_true rfl) ?_
   (simp only [h1,h3,h8,h10,h12,h13,h14,h15,h16,vcW,vZ,Int.reduceEq,Int.reduceNe,Int.reduceLT,Int.reduceLE,Nat.reduceEqDiff,Nat.reduceAdd,reduceIte,reduceCtorEq,Nat.reduceLT,Nat.reduceLeDiff,Nat.reduceShiftRight,Nat.reduceMod])
   repeat' (with_reducible refine And.intro ?_ ?_)
   try any_goals (with_reducible first | exact RnB.fxB (rqs_fxB _ _) | exact RnB.fxB (rls_fxB _ _))
   (repeat' first | exact trivial | (with_reducible first | exact RnB.fxB (ints_fxB _) | rfl | refine And.intro ?_ ?_) | (with_reducible (first | refine RnB.bb ?_ | refine RnB.nb ?_);simp only [vcW,vZ,Int.reduceEq,Int.reduceNe,Int.reduceLT,Int.reduceLE,Nat.reduceEqDiff,Nat.reduceAdd,reduceIte,reduceCtorEq,Nat.reduceLT,Nat.reduceLeDiff,Nat.reduceShiftRight,Nat.reduceMod]) | (with_reducible first | refine RnB.ii ?_ | refine RnB.app ?_) | (with_reducible refine RnB.fxB ?_;simp only [vcW,vZ,Int.reduceEq,Int.reduceNe,Int.reduceLT,Int.reduceLE,Nat.reduceEqDiff,Nat.reduceAdd,reduceIte,reduceCtorEq,Nat.reduceLT,Nat.reduceLeDiff,Nat.reduceShiftRight,Nat.reduceMod]) | omega)
   all_goals trace_state
 ·have hjT:j=T.length:=by omega
  subst hjT
  have hc1:¬ (T.length:Int)<T.length:=by omega
  simp only [cl_ref02_solved_b6,hc1,ints_length,ntA_len,vZ,Int.reduceEq,Int.reduceNe,Int.reduceLT,Int.reduceLE,Nat.reduceEqDiff,Nat.reduceAdd,reduceIte,reduceCtorEq,Nat.reduceLT,Nat.reduceLeDiff,Nat.reduceShiftRight,Nat.reduceMod]
set_option maxHeartbeats 4000000 in
theorem Sd_b10 {items l:List Int} {S:Nat} (F:FtB items l S) {T:List Nat} (hT:T.length≤5) (hTl:∀ k ∈ T,k<S) {i n:Nat} (hi:i<T.length) (hn:n≤l.length) :
  WL Tryz.prog 152 cl_ref02_solved_b10 (fun ex e' s'=>match ex with | .normal=>∃ z:PSigma (fun n:Nat=>n≤l.length),l.length - z.1<l.length - n∧Weak (e',s') ((fun n:Nat=>(envOf [(1,.sl (ints l)),(3,.ptr 3 0 0),(8,.buf 100 T.length),(10,.buf 101 S),(12,.buf 102 i),(13,.int .i64 (i:Nat)),(14,.buf 103 T.length),(18,.int .i64 (Lin.smI n fun n=>l.getD n 0 * Lin.itm items n (T.getD i 0))),(19,.int .i64 (n:Nat))],stOf [(3,⟨24,2,[.agg [.sl (ints items),.int .i64 S]]⟩),(100,⟨3,1,ints (ntA T)⟩),(101,⟨187,4,rqs (fun _=>0) S⟩),(102,⟨182,1,rls i fun r=>rqs (sdA items l S T r) (T.length+1)⟩),(103,⟨187,4,rqs (sdA items l S T i) T.length⟩)])) z.1) | .exit xid=>xid=10∧s'=stOf [(3,⟨24,2,[.agg [.sl (ints items),.int .i64 S]]⟩),(100,⟨3,1,ints (ntA T)⟩),(101,⟨187,4,rqs (fun _=>0) S⟩),(102,⟨182,1,rls i fun r=>rqs (sdA items l S T r) (T.length+1)⟩),(103,⟨187,4,rqs (sdA items l S T i) T.length⟩)]∧e' 1=.sl (ints l)∧e' 3=.ptr 3 0 0∧e' 8=.buf 100 T.length∧e' 10=.buf 101 S∧e' 12=.buf 102 i∧e' 13=.int .i64 (i:Nat)∧e' 14=.buf 103 T.length∧e' 18=.int .i64 (Lin.smI l.length fun n=>l.getD n 0 * Lin.itm items n (T.getD i 0)) | _=>False) (envOf [(1,.sl (ints l)),(3,.ptr 3 0 0),(8,.buf 100 T.length),(10,.buf 101 S),(12,.buf 102 i),(13,.int .i64 (i:Nat)),(14,.buf 103 T.length),(18,.int .i64 (Lin.smI n fun n=>l.getD n 0 * Lin.itm items n (T.getD i 0))),(19,.int .i64 (n:Nat))]) (stOf [(3,⟨24,2,[.agg [.sl (ints items),.int .i64 S]]⟩),(100,⟨3,1,ints (ntA T)⟩),(101,⟨187,4,rqs (fun _=>0) S⟩),(102,⟨182,1,rls i fun r=>rqs (sdA items l S T r) (T.length+1)⟩),(103,⟨187,4,rqs (sdA items l S T i) T.length⟩)]) .mk:=by
 have hs5:=F.s5
 have hi6:=F.i6
 have hll:=F.ll
 have hTi:=hTl _ (List.getElem_mem hi)
 by_cases h':n<l.length
 ·have hc1:(n:Int)<l.length:=by omega
  have g1:=ntA_get T i hi
  have gl:=ints_get l n h'
  have e1:T.getD i 0=T[i]:=by simp [List.getD,hi]
  have e2:=getD_at h'
  have hI1:=item_s items (S:Int) ((n:Int) - (T[i]:Nat)) (by omega)
  rw [itI_nat] at hI1
  have b1:=itm_bd F.ib n T[i]
  have b2:=F.lb _ (List.getElem_mem h')
  have b3:=Lin.abs_mul (A:=10000) (B:=100) b2 b1
  have b4:=F.smr (T.getD i 0) n hn
  have b5:=F.smr (T.getD i 0) (n+1) h'
  have hsm:Lin.smI (n+1) (fun n=>l.getD n 0 * Lin.itm items n (T.getD i 0))=Lin.smI n (fun n=>l.getD n 0 * Lin.itm items n (T.getD i 0))+l[n] * Lin.itm items n T[i]:=by rw [Lin.smI,e1,e2]
  rw [hsm] at b5
  unfold tplA at hI1
  generalize Lin.itm items n T[i]=x at *
  generalize l[n]=y at *
  simp only [cl_ref02_solved_b10,hc1,ints_length,ntA_len,g1,gl,vZ,Int.reduceEq,Int.reduceNe,Int.reduceLT,Int.reduceLE,Nat.reduceEqDiff,Nat.reduceAdd,reduceIte,reduceCtorEq,Nat.reduceLT,Nat.reduceLeDiff,Nat.reduceShiftRight,Nat.reduceMod]
  (repeat (with_reducible refine And.intro ?_ ?_;focus (first | omega | (unfold I64;omega))))
  refine callS_of hI1 ?_
  simp only [vZ,Int.reduceEq,Int.reduceNe,Int.reduceLT,Int.reduceLE,Nat.reduceEqDiff,Nat.reduceAdd,reduceIte,reduceCtorEq,Nat.reduceLT,Nat.reduceLeDiff,Nat.reduceShiftRight,Nat.reduceMod]
  refine ⟨by unfold I64;omega,by unfold I64;omega,by unfold I64;omega,⟨n+1,h'⟩,by simp only;omega,?_⟩
  refine weakX [] (of_decide_eq_true rfl) (of_decide_eq_true rfl) ?_
  (simp only [hsm,vcW,vZ,Int.reduceEq,Int.reduceNe,Int.reduceLT,Int.reduceLE,Nat.reduceEqDiff,Nat.reduceAdd,reduceIte,reduceCtorEq,Nat.reduceLT,Nat.reduceLeDiff,Nat.reduceShiftRight,Nat.reduceMod])
  repeat' (with_reducible refine And.intro ?_ ?_)
  try any_goals (with_reducible first | exact RnB.fxB (rqs_fxB _ _) | exact RnB.fxB (rls_fxB _ _))
  (repeat' first | exact trivial | (with_reducible first | exact RnB.fxB (ints_fxB _) | rfl | refine And.intro ?_ ?_) | (with_reducible (first | refine RnB.bb ?_ | refine RnB.nb ?_);simp only [vcW,vZ,Int.reduceEq,Int.reduceNe,Int.reduceLT,Int.reduceLE,Nat.reduceEqDiff,Nat.reduceAdd,reduceIte,reduceCtorEq,Nat.reduceLT,Nat.reduceLeDiff,Nat.reduceShiftRight,Nat.reduceMod]) | (with_reducible first | refine RnB.ii ?_ | refine RnB.app ?_) | (with_reducible refine RnB.fxB ?_;simp only [vcW,vZ,Int.reduceEq,Int.reduceNe,Int.reduceLT,Int.reduceLE,Nat.reduceEqDiff,Nat.reduceAdd,reduceIte,reduceCtorEq,Nat.reduceLT,Nat.reduceLeDiff,Nat.reduceShiftRight,Nat.reduceMod]) | omega)
  all_goals trace_state
 ·have hnl:n=l.length:=by omega
  subst hnl
  have hc1:¬ (l.length:Int)<l.length:=by omega
  simp only [cl_ref02_solved_b10,hc1,ints_length,vZ,Int.reduceEq,Int.reduceNe,Int.reduceLT,Int.reduceLE,Nat.reduceEqDiff,Nat.reduceAdd,reduceIte,reduceCtorEq,Nat.reduceLT,Nat.reduceLeDiff,Nat.reduceShiftRight,Nat.reduceMod]
set_option maxHeartbeats 4000000 in
theorem Sd_b4 {items l:List Int} {S:Nat} (F:FtB items l S) {T:List Nat} (hT:T.length≤5) (hTl:∀ k ∈ T,k<S) {i:Nat} (hi:i≤T.length) :
  WL Tryz.prog 152 cl_ref02_solved_b4 (fun ex e' s'=>match ex with | .normal=>∃ z:PSigma (fun i:Nat=>i≤T.length),T.length - z.1<T.length - i∧Weak (e',s') ((fun i:Nat=>(envOf [(1,.sl (ints l)),(3,.ptr 3 0 0),(8,.buf 100 T.length),(10,.buf 101 S),(12,.buf 102 i),(13,.int .i64 (i:Nat))],stOf [(3,⟨24,2,[.agg [.sl (ints items),.int .i64 S]]⟩),(100,⟨3,1,ints (ntA T)⟩),(101,⟨187,4,rqs (fun _=>0) S⟩),(102,⟨182,1,rls i fun r=>rqs (sdA items l S T r) (T.length+1)⟩)])) z.1) | .exit xid=>xid=4∧s'=stOf [(3,⟨24,2,[.agg [.sl (ints items),.int .i64 S]]⟩),(100,⟨3,1,ints (ntA T)⟩),(101,⟨187,4,rqs (fun _=>0) S⟩),(102,⟨182,1,rls T.length fun r=>rqs (sdA items l S T r) (T.length+1)⟩)]∧e' 8=.buf 100 T.length∧e' 10=.buf 101 S∧e' 12=.buf 102 T.length | _=>False) (envOf [(1,.sl (ints l)),(3,.ptr 3 0 0),(8,.buf 100 T.length),(10,.buf 101 S),(12,.buf 102 i),(13,.int .i64 (i:Nat))]) (stOf [(3,⟨24,2,[.agg [.sl (ints items),.int .i64 S]]⟩),(100,⟨3,1,ints (ntA T)⟩),(101,⟨187,4,rqs (fun _=>0) S⟩),(102,⟨182,1,rls i fun r=>rqs (sdA items l S T r) (T.length+1)⟩)]) .mk:=by
 have hmax:=maxLen_big
 by_cases h':i<T.length
 ·have hc1:(i:Int)<T.length:=by omega
  simp only [cl_ref02_solved_b4,hc1,ints_length,ntA_len,vZ,Int.reduceEq,Int.reduceNe,Int.reduceLT,Int.reduceLE,Nat.reduceEqDiff,Nat.reduceAdd,reduceIte,reduceCtorEq,Nat.reduceLT,Nat.reduceLeDiff,Nat.reduceShiftRight,Nat.reduceMod]
  refine WL_loopZ (α:=PSigma fun j:Nat=>j≤T.length) (fun ⟨j,_⟩=>(envOf [(1,.sl (ints l)),(3,.ptr 3 0 0),(8,.buf 100 T.length),(10,.buf 101 S),(12,.buf 102 i),(13,.int .i64 (i:Nat)),(14,.buf 103 j),(15,.int .i64 (j:Nat))],stOf [(3,⟨24,2,[.agg [.sl (ints items),.int .i64 S]]⟩),(100,⟨3,1,ints (ntA T)⟩),(101,⟨187,4,rqs (fun _=>0) S⟩),(102,⟨182,1,rls i fun r=>rqs (sdA items l S T r) (T.length+1)⟩),(103,⟨187,4,rqs (sdA items l S T i) j⟩)])) (fun x=>T.length - x.1) ⟨0,Nat.zero_le _⟩ 6
   (fun e' s'=>s'=stOf [(3,⟨24,2,[.agg [.sl (ints items),.int .i64 S]]⟩),(100,⟨3,1,ints (ntA T)⟩),(101,⟨187,4,rqs (fun _=>0) S⟩),(102,⟨182,1,rls i fun r=>rqs (sdA items l S T r) (T.length+1)⟩),(103,⟨187,4,rqs (sdA items l S T i) T.length⟩)]∧e' 1=.sl (ints l)∧e' 3=.ptr 3 0 0∧e' 8=.buf 100 T.length∧e' 10=.buf 101 S∧e' 12=.buf 102 i∧e' 13=.int .i64 (i:Nat)∧e' 14=.buf 103 T.length) ?_ (fun ⟨j,hj⟩=>Sd_b6 F hT hTl h' hj) (fun e' s' h=>?_)
  ·have z:rqs (sdA items l S T i) 0=[]:=rfl
   refine weakX [(103,none)] (of_decide_eq_true rfl) (of_decide_eq_true rfl) ?_
   (simp only [z,vcW,vZ,Int.reduceEq,Int.reduceNe,Int.reduceLT,Int.reduceLE,Nat.reduceEqDiff,Nat.reduceAdd,reduceIte,reduceCtorEq,Nat.reduceLT,Nat.reduceLeDiff,Nat.reduceShiftRight,Nat.reduceMod])
   repeat' (with_reducible refine And.intro ?_ ?_)
   try any_goals (with_reducible first | exact RnB.fxB (rqs_fxB _ _) | exact RnB.fxB (rls_fxB _ _))
   (repeat' first | exact trivial | (with_reducible first | exact RnB.fxB (ints_fxB _) | rfl | refine And.intro ?_ ?_) | (with_reducible (first | refine RnB.bb ?_ | refine RnB.nb ?_);simp only [vcW,vZ,Int.reduceEq,Int.reduceNe,Int.reduceLT,Int.reduceLE,Nat.reduceEqDiff,Nat.reduceAdd,reduceIte,reduceCtorEq,Nat.reduceLT,Nat.reduceLeDiff,Nat.reduceShiftRight,Nat.reduceMod]) | (with_reducible first | refine RnB.ii ?_ | refine RnB.app ?_) | (with_reducible refine RnB.fxB ?_;simp only [vcW,vZ,Int.reduceEq,Int.reduceNe,Int.reduceLT,Int.reduceLE,Nat.reduceEqDiff,Nat.reduceAdd,reduceIte,reduceCtorEq,Nat.reduceLT,Nat.reduceLeDiff,Nat.reduceShiftRight,Nat.reduceMod]) | omega)
   all_goals trace_state
  ·obtain ⟨hs,h1,h3,h8,h10,h12,h13,h14⟩:=h
   subst hs
   have z:(Lin.smI 0 fun n=>l.getD n 0 * Lin.itm items n (T.getD i 0))=0:=rfl
   simp only [h1,h3,h8,h10,h12,h13,h14,vZ,Int.reduceEq,Int.reduceNe,Int.reduceLT,Int.reduceLE,Nat.reduceEqDiff,Nat.reduceAdd,reduceIte,reduceCtorEq,Nat.reduceLT,Nat.reduceLeDiff,Nat.reduceShiftRight,Nat.reduceMod]
   refine WL_loopZ (α:=PSigma fun n:Nat=>n≤l.length) (fun ⟨n,_⟩=>(envOf [(1,.sl (ints l)),(3,.ptr 3 0 0),(8,.buf 100 T.length),(10,.buf 101 S),(12,.buf 102 i),(13,.int .i64 (i:Nat)),(14,.buf 103 T.length),(18,.int .i64 (Lin.smI n fun n=>l.getD n 0 * Lin.itm items n (T.getD i 0))),(19,.int .i64 (n:Nat))],stOf [(3,⟨24,2,[.agg [.sl (ints items),.int .i64 S]]⟩),(100,⟨3,1,ints (ntA T)⟩),(101,⟨187,4,rqs (fun _=>0) S⟩),(102,⟨182,1,rls i fun r=>rqs (sdA items l S T r) (T.length+1)⟩),(103,⟨187,4,rqs (sdA items l S T i) T.length⟩)])) (fun x=>l.length - x.1) ⟨0,Nat.zero_le _⟩ 10
    (fun e' s'=>s'=stOf [(3,⟨24,2,[.agg [.sl (ints items),.int .i64 S]]⟩),(100,⟨3,1,ints (ntA T)⟩),(101,⟨187,4,rqs (fun _=>0) S⟩),(102,⟨182,1,rls i fun r=>rqs (sdA items l S T r) (T.length+1)⟩),(103,⟨187,4,rqs (sdA items l S T i) T.length⟩)]∧e' 1=.sl (ints l)∧e' 3=.ptr 3 0 0∧e' 8=.buf 100 T.length∧e' 10=.buf 101 S∧e' 12=.buf 102 i∧e' 13=.int .i64 (i:Nat)∧e' 14=.buf 103 T.length∧e' 18=.int .i64 (Lin.smI l.length fun n=>l.getD n 0 * Lin.itm items n (T.getD i 0))) ?_ (fun ⟨n,hn⟩=>Sd_b10 F hT hTl h' hn) (fun e2 s2 h=>?_)
   ·refine weakX [] (of_decide_eq_true rfl) (of_decide_eq_true rfl) ?_
    (simp only [h1,h3,h8,h10,h12,h13,h14,z,vcW,vZ,Int.reduceEq,Int.reduceNe,Int.reduceLT,Int.reduceLE,Nat.reduceEqDiff,Nat.reduceAdd,reduceIte,reduceCtorEq,Nat.reduceLT,Nat.reduceLeDiff,Nat.reduceShiftRight,Nat.reduceMod])
    repeat' (with_reducible refine And.intro ?_ ?_)
    try any_goals (with_reducible first | exact RnB.fxB (rqs_fxB _ _) | exact RnB.fxB (rls_fxB _ _))
    (repeat' first | exact trivial | (with_reducible first | exact RnB.fxB (ints_fxB _) | rfl | refine And.intro ?_ ?_) | (with_reducible (first | refine RnB.bb ?_ | refine RnB.nb ?_);simp only [vcW,vZ,Int.reduceEq,Int.reduceNe,Int.reduceLT,Int.reduceLE,Nat.reduceEqDiff,Nat.reduceAdd,reduceIte,reduceCtorEq,Nat.reduceLT,Nat.reduceLeDiff,Nat.reduceShiftRight,Nat.reduceMod]) | (with_reducible first | refine RnB.ii ?_ | refine RnB.app ?_) | (with_reducible refine RnB.fxB ?_;simp only [vcW,vZ,Int.reduceEq,Int.reduceNe,Int.reduceLT,Int.reduceLE,Nat.reduceEqDiff,Nat.reduceAdd,reduceIte,reduceCtorEq,Nat.reduceLT,Nat.reduceLeDiff,Nat.reduceShiftRight,Nat.reduceMod]) | omega)
    all_goals trace_state
   ·obtain ⟨hs,g1,g3,g8,g10,g12,g13,g14,g18⟩:=h
    subst hs
    have b:=F.smr (T.getD i 0) l.length (Nat.le_refl _)
    have hR:=RatioInt_q (Lin.smI l.length fun n=>l.getD n 0 * Lin.itm items n (T.getD i 0)) (by unfold I64;omega)
    rw [← sdA_hi (S:=S)] at hR
    have hsn:=rqs_snoc (sdA items l S T i) T.length
    rw [rq_hr] at hR hsn
    simp only [g1,g3,g8,g10,g12,g13,g14,g18,vZ,Int.reduceEq,Int.reduceNe,Int.reduceLT,Int.reduceLE,Nat.reduceEqDiff,Nat.reduceAdd,reduceIte,reduceCtorEq,Nat.reduceLT,Nat.reduceLeDiff,Nat.reduceShiftRight,Nat.reduceMod]
    refine callS_of hR ?_
    simp only [g1,g3,g8,g10,g12,g13,g14,g18,rqs_length,rls_length,hsn,vZ,Int.reduceEq,Int.reduceNe,Int.reduceLT,Int.reduceLE,Nat.reduceEqDiff,Nat.reduceAdd,reduceIte,reduceCtorEq,Nat.reduceLT,Nat.reduceLeDiff,Nat.reduceShiftRight,Nat.reduceMod]
    refine ⟨⟨by omega,by omega⟩,⟨by omega,by omega⟩,by unfold I64;omega,⟨i+1,h'⟩,by simp only;omega,?_⟩
    refine weakX [(102,some 121)] (of_decide_eq_true rfl) (of_decide_eq_true rfl) ?_
    (simp only [g1,g3,g8,g10,g12,g13,g14,g18,rls_length,vcW,vZ,Int.reduceEq,Int.reduceNe,Int.reduceLT,Int.reduceLE,Nat.reduceEqDiff,Nat.reduceAdd,reduceIte,reduceCtorEq,Nat.reduceLT,Nat.reduceLeDiff,Nat.reduceShiftRight,Nat.reduceMod])
    repeat' (with_reducible refine And.intro ?_ ?_)
    try any_goals (with_reducible first | exact RnB.fxB (rqs_fxB _ _) | exact RnB.fxB (rls_fxB _ _))
    try any_goals exact RnB.snocR (R:=fun r=>rqs (sdA items l S T r) (T.length+1)) (k:=119) rfl (rqs_fx _ _) (by rw [rqs_length]) (keyOf_ne rfl) rfl rfl
    (repeat' first | exact trivial | (with_reducible first | exact RnB.fxB (ints_fxB _) | rfl | refine And.intro ?_ ?_) | (with_reducible (first | refine RnB.bb ?_ | refine RnB.nb ?_);simp only [vcW,vZ,Int.reduceEq,Int.reduceNe,Int.reduceLT,Int.reduceLE,Nat.reduceEqDiff,Nat.reduceAdd,reduceIte,reduceCtorEq,Nat.reduceLT,Nat.reduceLeDiff,Nat.reduceShiftRight,Nat.reduceMod]) | (with_reducible first | refine RnB.ii ?_ | refine RnB.app ?_) | (with_reducible refine RnB.fxB ?_;simp only [vcW,vZ,Int.reduceEq,Int.reduceNe,Int.reduceLT,Int.reduceLE,Nat.reduceEqDiff,Nat.reduceAdd,reduceIte,reduceCtorEq,Nat.reduceLT,Nat.reduceLeDiff,Nat.reduceShiftRight,Nat.reduceMod]) | omega)
    all_goals trace_state
 ·have hiT:i=T.length:=by omega
  subst hiT
  have hc1:¬ (T.length:Int)<T.length:=by omega
  simp only [cl_ref02_solved_b4,hc1,ints_length,ntA_len,vZ,Int.reduceEq,Int.reduceNe,Int.reduceLT,Int.reduceLE,Nat.reduceEqDiff,Nat.reduceAdd,reduceIte,reduceCtorEq,Nat.reduceLT,Nat.reduceLeDiff,Nat.reduceShiftRight,Nat.reduceMod]
def sdF (T:List Nat) (y:Nat→Rat):Nat→Nat→Rat
 | 0=>fun _=>0
 | i+1=>fun k=>if k=T.getD i 0 then y i else sdF T y i k
theorem sdF_spread {p:Nat→Bool} {S:Nat} {y:Nat→Rat} {k:Nat}:∀ i,i≤(Lin.ticks S p).length→sdF (Lin.ticks S p) y i k=if ∃ j,j<i∧(Lin.ticks S p).getD j 0=k then y (Lin.tix p k) else 0
 | 0,_=>by rw [if_neg (fun ⟨j,hj,_⟩=>by omega)];rfl
 | i+1,h=>by
  rw [sdF]
  dsimp only
  by_cases e:k=(Lin.ticks S p).getD i 0
  ·rw [if_pos e,if_pos ⟨i,by omega,e.symm⟩,e,Lin.tix_ticks (by omega)]
  ·rw [if_neg e,sdF_spread i (by omega)]
   by_cases g:∃ j,j<i∧(Lin.ticks S p).getD j 0=k
   ·obtain ⟨j,h1,h2⟩:=g
    rw [if_pos ⟨j,h1,h2⟩,if_pos ⟨j,by omega,h2⟩]
   ·rw [if_neg g,if_neg]
    rintro ⟨j,h1,h2⟩
    by_cases hji:j=i
    ·subst hji;exact e h2.symm
    ·exact g ⟨j,by omega,h2⟩
theorem sdF_all {p:Nat→Bool} {S:Nat} {y:Nat→Rat} {k:Nat} (hk:k<S):sdF (Lin.ticks S p) y (Lin.ticks S p).length k=Lin.spread p y k:=by
 rw [sdF_spread _ (Nat.le_refl _)]
 unfold Lin.spread
 by_cases hp:p k=true
 ·obtain ⟨h1,h2⟩:=Lin.ticks_at hk hp
  rw [if_pos hp,if_pos ⟨_,h1,h2⟩]
 ·rw [if_neg hp,if_neg]
  rintro ⟨j,h1,h2⟩
  have:=(Lin.ticks_lt (Lin.ticks_getD h1)).2
  rw [h2] at this
  exact hp this
set_option maxHeartbeats 4000000 in
theorem Sd_b12 {S:Nat} {T:List Nat} (hTl:∀ k ∈ T,k<S) (hT:T.length≤5) (y:Nat→Rat) {i:Nat} (hi:i≤T.length) :
  WL Tryz.prog 152 cl_ref02_solved_b12 (fun ex e' s'=>match ex with | .normal=>∃ z:PSigma (fun i:Nat=>i≤T.length),T.length - z.1<T.length - i∧Weak (e',s') ((fun i:Nat=>(envOf [(8,.buf 100 T.length),(10,.buf 101 S),(20,.sl (rqs y T.length)),(21,.bool true),(22,.int .i64 (i:Nat))],stOf [(100,⟨3,1,ints (ntA T)⟩),(101,⟨187,4,rqs (sdF T y i) S⟩)])) z.1) | .exit xid=>xid=12∧s'=stOf [(100,⟨3,1,ints (ntA T)⟩),(101,⟨187,4,rqs (sdF T y T.length) S⟩)]∧e' 10=.buf 101 S∧e' 21=.bool true | _=>False) (envOf [(8,.buf 100 T.length),(10,.buf 101 S),(20,.sl (rqs y T.length)),(21,.bool true),(22,.int .i64 (i:Nat))]) (stOf [(100,⟨3,1,ints (ntA T)⟩),(101,⟨187,4,rqs (sdF T y i) S⟩)]) .mk:=by
 by_cases h':i<T.length
 ·have hc1:(i:Int)<T.length:=by omega
  have g1:=ntA_get T i h'
  have hTi:=hTl _ (List.getElem_mem h')
  have e1:T.getD i 0=T[i]:=by simp [List.getD,h']
  have gy:=rqs_get (f:=y) (n:=T.length) h'
  have go:=rqs_get (f:=sdF T y i) (n:=S) hTi
  have hset:=rqs_set (f:=sdF T y i) (n:=S) (k:=T[i]) (y i)
  have hst:(fun j=>if j=T[i] then y i else sdF T y i j)=sdF T y (i+1):=by funext j;rw [sdF,e1]
  rw [hst,rq_hr] at hset
  simp only [cl_ref02_solved_b12,hc1,ints_length,ntA_len,rqs_length,g1,gy,go,hset,vZ,Int.reduceEq,Int.reduceNe,Int.reduceLT,Int.reduceLE,Nat.reduceEqDiff,Nat.reduceAdd,reduceIte,reduceCtorEq,Nat.reduceLT,Nat.reduceLeDiff,Nat.reduceShiftRight,Nat.reduceMod]
  (repeat (with_reducible refine And.intro ?_ ?_;focus (first | omega | (unfold I64;omega))))
  refine ⟨⟨i+1,h'⟩,by simp only;omega,?_⟩
  refine weakX [] (of_decide_eq_true rfl) (of_decide_eq_true rfl) ?_
  (simp only [vcW,vZ,Int.reduceEq,Int.reduceNe,Int.reduceLT,Int.reduceLE,Nat.reduceEqDiff,Nat.reduceAdd,reduceIte,reduceCtorEq,Nat.reduceLT,Nat.reduceLeDiff,Nat.reduceShiftRight,Nat.reduceMod])
  repeat' (with_reducible refine And.intro ?_ ?_)
  try any_goals (with_reducible first | exact RnB.fxB (rqs_fxB _ _) | exact RnB.fxB (rls_fxB _ _))
  (repeat' first | exact trivial | (with_reducible first | exact RnB.fxB (ints_fxB _) | rfl | refine And.intro ?_ ?_) | (with_reducible (first | refine RnB.bb ?_ | refine RnB.nb ?_);simp only [vcW,vZ,Int.reduceEq,Int.reduceNe,Int.reduceLT,Int.reduceLE,Nat.reduceEqDiff,Nat.reduceAdd,reduceIte,reduceCtorEq,Nat.reduceLT,Nat.reduceLeDiff,Nat.reduceShiftRight,Nat.reduceMod]) | (with_reducible first | refine RnB.ii ?_ | refine RnB.app ?_) | (with_reducible refine RnB.fxB ?_;simp only [vcW,vZ,Int.reduceEq,Int.reduceNe,Int.reduceLT,Int.reduceLE,Nat.reduceEqDiff,Nat.reduceAdd,reduceIte,reduceCtorEq,Nat.reduceLT,Nat.reduceLeDiff,Nat.reduceShiftRight,Nat.reduceMod]) | omega)
  all_goals trace_state
 ·have hiT:i=T.length:=by omega
  subst hiT
  have hc1:¬ (T.length:Int)<T.length:=by omega
  simp only [cl_ref02_solved_b12,hc1,rqs_length,vZ,Int.reduceEq,Int.reduceNe,Int.reduceLT,Int.reduceLE,Nat.reduceEqDiff,Nat.reduceAdd,reduceIte,reduceCtorEq,Nat.reduceLT,Nat.reduceLeDiff,Nat.reduceShiftRight,Nat.reduceMod]
set_option maxHeartbeats 4000000 in
theorem solved_ref_s {items l:List Int} {S:Nat} (F:FtB items l S) {s:Nat} (hs:s<2 ^ S):Sound Tryz.prog 121 [tplA items (S:Int),.sl (ints l),.int .i64 (s:Nat)] (.tup [.sl (rqs (xS items l S s) S),.bool true]):=by
 refine sound_WL f_ref02_solved e_ref02_solved (Nat.le_of_ble_eq_true rfl) ?_
 have hmax:=maxLen_big
 have hs5:=F.s5
 have hll:=F.ll
 have hi6:=F.i6
 have h32:s<32:=Nat.lt_of_lt_of_le hs (show 2 ^ S≤2 ^ 5 from Nat.pow_le_pow_right (by omega) hs5.2)
 obtain ⟨y,hy,hx⟩:=x_spread F hs
 obtain ⟨p,hp⟩:∃ p:Nat→Bool,p=fun k=>s.testBit k:=⟨_,rfl⟩
 rw [← hp] at hy hx
 have hpk:∀ k,p k=s.testBit k:=fun k=>by rw [hp]
 have hTp:=Lin.eqA_posD (items:=items) (S:=S) F.ne p
 have hTlt:∀ k ∈ Lin.ticks S p,k<S:=fun k hk=>(Lin.ticks_lt hk).1
 have hT5:(Lin.ticks S p).length≤5:=by have:=List.length_filter_le p (List.range S);rw [List.length_range] at this;exact Nat.le_trans this hs5.2
 have hres:rqs (sdF (Lin.ticks S p) y (Lin.ticks S p).length) S=rqs (xS items l S s) S:=rqs_congr fun k hk=>by rw [sdF_all hk,hx k hk]
 have hN:S+items.length - 1=l.length:=hll.symm
 have hent:∀ r c,c<(Lin.ticks S p).length→sdA items l S (Lin.ticks S p) r c=Lin.eqA items S (Lin.ticks S p) r c:=fun r c hc=>by
  unfold sdA Lin.eqA;rw [if_pos hc,hN]
 have hrt:∀ r,sdA items l S (Lin.ticks S p) r (Lin.ticks S p).length=Lin.rhs items S (smR l) ((Lin.ticks S p).getD r 0):=fun r=>by
  rw [sdA_hi,Lin.smI_cast]
  unfold Lin.rhs smR
  rw [hN]
  exact Lin.sm_congr fun n _=>Rat.intCast_mul _ _
 have hSol:=Solve_s (n:=(Lin.ticks S p).length) hT5 (A:=sdA items l S (Lin.ticks S p)) (y:=y)
  (fun r m hr hm=>by
   unfold sdA
   split
   ·have:=F.smb ((Lin.ticks S p).getD r 0) ((Lin.ticks S p).getD m 0) l.length (Nat.le_refl _)
    exact qB_int (by unfold Lin.gr;omega) (by omega)
   ·have:=F.smr ((Lin.ticks S p).getD r 0) l.length (Nat.le_refl _)
    exact qB_int (by omega) (by omega))
  (fun x hxx=>hTp.triv x fun r hr=>by
   have:=hxx r hr
   rw [Lin.sm_congr fun c hc=>by rw [hent r c hc]] at this
   exact this)
  (fun r hr=>by
   rw [hrt,← hy r hr]
   exact Lin.sm_congr fun c hc=>by rw [hent r c hc])
 clear hy hx hTp hent hrt
 unfold tplA
 simp only [cl_ref02_solved,vZ,Int.reduceEq,Int.reduceNe,Int.reduceLT,Int.reduceLE,Nat.reduceEqDiff,Nat.reduceAdd,reduceIte,reduceCtorEq,Nat.reduceLT,Nat.reduceLeDiff,Nat.reduceShiftRight,Nat.reduceMod]
 refine WL_cut ?_
 simp only [cl_ref02_solved_2,vZ,Int.reduceEq,Int.reduceNe,Int.reduceLT,Int.reduceLE,Nat.reduceEqDiff,Nat.reduceAdd,reduceIte,reduceCtorEq,Nat.reduceLT,Nat.reduceLeDiff,Nat.reduceShiftRight,Nat.reduceMod]
 refine WL_loopZ (α:=PSigma fun k:Nat=>k≤S) (fun ⟨k,_⟩=>(envOf [(1,.sl (ints l)),(2,.int .i64 (s:Nat)),(3,.ptr 3 0 0),(8,.buf 100 (Lin.ticks k p).length),(9,.int .i64 (k:Nat))],stOf [(3,⟨24,2,[.agg [.sl (ints items),.int .i64 S]]⟩),(100,⟨3,1,ints (ntA (Lin.ticks k p))⟩)])) (fun x=>S - x.1) ⟨0,Nat.zero_le _⟩ 0
  (fun e' s'=>s'=stOf [(3,⟨24,2,[.agg [.sl (ints items),.int .i64 S]]⟩),(100,⟨3,1,ints (ntA (Lin.ticks S p))⟩)]∧e' 1=.sl (ints l)∧e' 3=.ptr 3 0 0∧e' 8=.buf 100 (Lin.ticks S p).length) ?_ (fun ⟨k,hk⟩=>Sd_b0 F h32 p hpk hk) (fun e' s' h=>?_)
 ·have z:ints (ntA (Lin.ticks 0 p))=[]:=rfl
  have z2:(Lin.ticks 0 p).length=0:=rfl
  refine weakX [(100,none)] (of_decide_eq_true rfl) (of_decide_eq_true rfl) ?_
  (simp only [z,z2,vcW,vZ,Int.reduceEq,Int.reduceNe,Int.reduceLT,Int.reduceLE,Nat.reduceEqDiff,Nat.reduceAdd,reduceIte,reduceCtorEq,Nat.reduceLT,Nat.reduceLeDiff,Nat.reduceShiftRight,Nat.reduceMod])
  (repeat' first | exact trivial | (with_reducible first | exact RnB.fxB (ints_fxB _) | rfl | refine And.intro ?_ ?_) | (with_reducible (first | refine RnB.bb ?_ | refine RnB.nb ?_);simp only [vcW,vZ,Int.reduceEq,Int.reduceNe,Int.reduceLT,Int.reduceLE,Nat.reduceEqDiff,Nat.reduceAdd,reduceIte,reduceCtorEq,Nat.reduceLT,Nat.reduceLeDiff,Nat.reduceShiftRight,Nat.reduceMod]) | (with_reducible first | refine RnB.ii ?_ | refine RnB.app ?_) | (with_reducible refine RnB.fxB ?_;simp only [vcW,vZ,Int.reduceEq,Int.reduceNe,Int.reduceLT,Int.reduceLE,Nat.reduceEqDiff,Nat.reduceAdd,reduceIte,reduceCtorEq,Nat.reduceLT,Nat.reduceLeDiff,Nat.reduceShiftRight,Nat.reduceMod]) | omega)
  all_goals trace_state
 ·obtain ⟨hst,h1,h3,h8⟩:=h
  subst hst
  obtain ⟨T,hT⟩:∃ T,T=Lin.ticks S p:=⟨_,rfl⟩
  rw [← hT] at hTlt hT5 hres hSol h8 ⊢
  clear hT
  have hz0:=zfl_0 S
  simp only [h1,h3,h8,vZ,Int.reduceEq,Int.reduceNe,Int.reduceLT,Int.reduceLE,Nat.reduceEqDiff,Nat.reduceAdd,reduceIte,reduceCtorEq,Nat.reduceLT,Nat.reduceLeDiff,Nat.reduceShiftRight,Nat.reduceMod]
  refine WL_cut ?_
  simp only [cl_ref02_solved_3,h1,h3,h8,← hz0,vZ,Int.reduceEq,Int.reduceNe,Int.reduceLT,Int.reduceLE,Nat.reduceEqDiff,Nat.reduceAdd,reduceIte,reduceCtorEq,Nat.reduceLT,Nat.reduceLeDiff,Nat.reduceShiftRight,Nat.reduceMod]
  refine ⟨by omega,by rw [hz0];exact mkOk_zfl S,?_⟩
  refine WL_cut ?_
  simp only [cl_ref02_solved_4,h1,h3,h8,vZ,Int.reduceEq,Int.reduceNe,Int.reduceLT,Int.reduceLE,Nat.reduceEqDiff,Nat.reduceAdd,reduceIte,reduceCtorEq,Nat.reduceLT,Nat.reduceLeDiff,Nat.reduceShiftRight,Nat.reduceMod]
  refine WL_loopZ (α:=PSigma fun k:Nat=>k≤S) (fun ⟨k,_⟩=>(envOf [(1,.sl (ints l)),(3,.ptr 3 0 0),(8,.buf 100 T.length),(10,.buf 101 S),(11,.int .i64 (k:Nat))],stOf [(3,⟨24,2,[.agg [.sl (ints items),.int .i64 S]]⟩),(100,⟨3,1,ints (ntA T)⟩),(101,⟨187,4,zfl S k⟩)])) (fun x=>S - x.1) ⟨0,Nat.zero_le _⟩ 2
   (fun e' s'=>s'=stOf [(3,⟨24,2,[.agg [.sl (ints items),.int .i64 S]]⟩),(100,⟨3,1,ints (ntA T)⟩),(101,⟨187,4,rqs (fun _=>0) S⟩)]∧e' 1=.sl (ints l)∧e' 3=.ptr 3 0 0∧e' 8=.buf 100 T.length∧e' 10=.buf 101 S) ?_ (fun ⟨k,hk⟩=>Sd_b2 F hT5 hTlt hk) (fun e2 s2 h=>?_)
  ·refine weakX [(101,some 40)] (of_decide_eq_true rfl) (of_decide_eq_true rfl) ?_
   (simp only [h1,h3,h8,vcW,vZ,Int.reduceEq,Int.reduceNe,Int.reduceLT,Int.reduceLE,Nat.reduceEqDiff,Nat.reduceAdd,reduceIte,reduceCtorEq,Nat.reduceLT,Nat.reduceLeDiff,Nat.reduceShiftRight,Nat.reduceMod])
   repeat' (with_reducible refine And.intro ?_ ?_)
   try any_goals (exact RnB.same (zfl_good _ _))
   (repeat' first | exact trivial | (with_reducible first | exact RnB.fxB (ints_fxB _) | rfl | refine And.intro ?_ ?_) | (with_reducible (first | refine RnB.bb ?_ | refine RnB.nb ?_);simp only [vcW,vZ,Int.reduceEq,Int.reduceNe,Int.reduceLT,Int.reduceLE,Nat.reduceEqDiff,Nat.reduceAdd,reduceIte,reduceCtorEq,Nat.reduceLT,Nat.reduceLeDiff,Nat.reduceShiftRight,Nat.reduceMod]) | (with_reducible first | refine RnB.ii ?_ | refine RnB.app ?_) | (with_reducible refine RnB.fxB ?_;simp only [vcW,vZ,Int.reduceEq,Int.reduceNe,Int.reduceLT,Int.reduceLE,Nat.reduceEqDiff,Nat.reduceAdd,reduceIte,reduceCtorEq,Nat.reduceLT,Nat.reduceLeDiff,Nat.reduceShiftRight,Nat.reduceMod]) | omega)
   all_goals trace_state
  ·obtain ⟨hst,g1,g3,g8,g10⟩:=h
   subst hst
   simp only [g1,g3,g8,g10,vZ,Int.reduceEq,Int.reduceNe,Int.reduceLT,Int.reduceLE,Nat.reduceEqDiff,Nat.reduceAdd,reduceIte,reduceCtorEq,Nat.reduceLT,Nat.reduceLeDiff,Nat.reduceShiftRight,Nat.reduceMod]
   refine WL_cut ?_
   simp only [cl_ref02_solved_5,g1,g3,g8,g10,vZ,Int.reduceEq,Int.reduceNe,Int.reduceLT,Int.reduceLE,Nat.reduceEqDiff,Nat.reduceAdd,reduceIte,reduceCtorEq,Nat.reduceLT,Nat.reduceLeDiff,Nat.reduceShiftRight,Nat.reduceMod]
   refine WL_cut ?_
   simp only [cl_ref02_solved_6,g1,g3,g8,g10,vZ,Int.reduceEq,Int.reduceNe,Int.reduceLT,Int.reduceLE,Nat.reduceEqDiff,Nat.reduceAdd,reduceIte,reduceCtorEq,Nat.reduceLT,Nat.reduceLeDiff,Nat.reduceShiftRight,Nat.reduceMod]
   refine WL_loopZ (α:=PSigma fun i:Nat=>i≤T.length) (fun ⟨i,_⟩=>(envOf [(1,.sl (ints l)),(3,.ptr 3 0 0),(8,.buf 100 T.length),(10,.buf 101 S),(12,.buf 102 i),(13,.int .i64 (i:Nat))],stOf [(3,⟨24,2,[.agg [.sl (ints items),.int .i64 S]]⟩),(100,⟨3,1,ints (ntA T)⟩),(101,⟨187,4,rqs (fun _=>0) S⟩),(102,⟨182,1,rls i fun r=>rqs (sdA items l S T r) (T.length+1)⟩)])) (fun x=>T.length - x.1) ⟨0,Nat.zero_le _⟩ 4
    (fun e' s'=>s'=stOf [(3,⟨24,2,[.agg [.sl (ints items),.int .i64 S]]⟩),(100,⟨3,1,ints (ntA T)⟩),(101,⟨187,4,rqs (fun _=>0) S⟩),(102,⟨182,1,rls T.length fun r=>rqs (sdA items l S T r) (T.length+1)⟩)]∧e' 8=.buf 100 T.length∧e' 10=.buf 101 S∧e' 12=.buf 102 T.length) ?_ (fun ⟨i,hi⟩=>Sd_b4 F hT5 hTlt hi) (fun e3 s3 h=>?_)
   ·have z:rls 0 (fun r=>rqs (sdA items l S T r) (T.length+1))=[]:=rfl
    refine weakX [(102,none)] (of_decide_eq_true rfl) (of_decide_eq_true rfl) ?_
    (simp only [g1,g3,g8,g10,z,vcW,vZ,Int.reduceEq,Int.reduceNe,Int.reduceLT,Int.reduceLE,Nat.reduceEqDiff,Nat.reduceAdd,reduceIte,reduceCtorEq,Nat.reduceLT,Nat.reduceLeDiff,Nat.reduceShiftRight,Nat.reduceMod])
    repeat' (with_reducible refine And.intro ?_ ?_)
    try any_goals (with_reducible first | exact RnB.fxB (rqs_fxB _ _) | exact RnB.fxB (rls_fxB _ _))
    (repeat' first | exact trivial | (with_reducible first | exact RnB.fxB (ints_fxB _) | rfl | refine And.intro ?_ ?_) | (with_reducible (first | refine RnB.bb ?_ | refine RnB.nb ?_);simp only [vcW,vZ,Int.reduceEq,Int.reduceNe,Int.reduceLT,Int.reduceLE,Nat.reduceEqDiff,Nat.reduceAdd,reduceIte,reduceCtorEq,Nat.reduceLT,Nat.reduceLeDiff,Nat.reduceShiftRight,Nat.reduceMod]) | (with_reducible first | refine RnB.ii ?_ | refine RnB.app ?_) | (with_reducible refine RnB.fxB ?_;simp only [vcW,vZ,Int.reduceEq,Int.reduceNe,Int.reduceLT,Int.reduceLE,Nat.reduceEqDiff,Nat.reduceAdd,reduceIte,reduceCtorEq,Nat.reduceLT,Nat.reduceLeDiff,Nat.reduceShiftRight,Nat.reduceMod]) | omega)
    all_goals trace_state
   ·obtain ⟨hst,k8,k10,k12⟩:=h
    subst hst
    simp only [k8,k10,k12,vZ,Int.reduceEq,Int.reduceNe,Int.reduceLT,Int.reduceLE,Nat.reduceEqDiff,Nat.reduceAdd,reduceIte,reduceCtorEq,Nat.reduceLT,Nat.reduceLeDiff,Nat.reduceShiftRight,Nat.reduceMod]
    refine WL_cut ?_
    by_cases hT0:T.length=0
    ·have hTz:((T.length:Nat):Int)=0:=by omega
     have hr0:rqs (sdF T y T.length) S=rqs (fun _=>0) S:=by rw [hT0];rfl
     rw [hr0] at hres
     simp only [cl_ref02_solved_7,k8,k10,k12,hTz,vZ,Int.reduceEq,Int.reduceNe,Int.reduceLT,Int.reduceLE,Nat.reduceEqDiff,Nat.reduceAdd,reduceIte,reduceCtorEq,Nat.reduceLT,Nat.reduceLeDiff,Nat.reduceShiftRight,Nat.reduceMod]
     rw [borB_good _ _ _ _ _ (by rw [rqs_length]) (rqs_fx _ _),hres]
    ·have hTz:¬ ((T.length:Nat):Int)=0:=by omega
     simp only [cl_ref02_solved_7,k8,k10,k12,hTz,rls_length,vZ,Int.reduceEq,Int.reduceNe,Int.reduceLT,Int.reduceLE,Nat.reduceEqDiff,Nat.reduceAdd,reduceIte,reduceCtorEq,Nat.reduceLT,Nat.reduceLeDiff,Nat.reduceShiftRight,Nat.reduceMod]
     rw [borB_good _ _ _ _ _ (by rw [rls_length]) (List.all_eq_true.1 (rls_fxB _ _))]
     refine callS_of hSol ?_
     simp only [vcX,rls_imm,k8,k10,k12,vZ,Int.reduceEq,Int.reduceNe,Int.reduceLT,Int.reduceLE,Nat.reduceEqDiff,Nat.reduceAdd,reduceIte,reduceCtorEq,Nat.reduceLT,Nat.reduceLeDiff,Nat.reduceShiftRight,Nat.reduceMod]
     refine WL_cut ?_
     simp only [cl_ref02_solved_9,k8,k10,k12,vZ,Int.reduceEq,Int.reduceNe,Int.reduceLT,Int.reduceLE,Nat.reduceEqDiff,Nat.reduceAdd,reduceIte,reduceCtorEq,Nat.reduceLT,Nat.reduceLeDiff,Nat.reduceShiftRight,Nat.reduceMod]
     refine WL_loopZ (α:=PSigma fun i:Nat=>i≤T.length) (fun ⟨i,_⟩=>(envOf [(8,.buf 100 T.length),(10,.buf 101 S),(20,.sl (rqs y T.length)),(21,.bool true),(22,.int .i64 (i:Nat))],stOf [(100,⟨3,1,ints (ntA T)⟩),(101,⟨187,4,rqs (sdF T y i) S⟩)])) (fun x=>T.length - x.1) ⟨0,Nat.zero_le _⟩ 12
      (fun e' s'=>s'=stOf [(100,⟨3,1,ints (ntA T)⟩),(101,⟨187,4,rqs (sdF T y T.length) S⟩)]∧e' 10=.buf 101 S∧e' 21=.bool true) ?_ (fun ⟨i,hi⟩=>Sd_b12 hTlt hT5 y hi) (fun e4 s4 h=>?_)
     ·have z:rqs (sdF T y 0) S=rqs (fun _=>0) S:=rfl
      refine weakX [] (of_decide_eq_true rfl) (of_decide_eq_true rfl) ?_
      (simp only [k8,k10,k12,z,vcX,rls_imm,vcW,vZ,Int.reduceEq,Int.reduceNe,Int.reduceLT,Int.reduceLE,Nat.reduceEqDiff,Nat.reduceAdd,reduceIte,reduceCtorEq,Nat.reduceLT,Nat.reduceLeDiff,Nat.reduceShiftRight,Nat.reduceMod])
      repeat' (with_reducible refine And.intro ?_ ?_)
      try any_goals (with_reducible first | exact RnB.fxB (rqs_fxB _ _) | exact RnB.fxB (rls_fxB _ _))
      (repeat' first | exact trivial | (with_reducible first | exact RnB.fxB (ints_fxB _) | rfl | refine And.intro ?_ ?_) | (with_reducible (first | refine RnB.bb ?_ | refine RnB.nb ?_);simp only [vcW,vZ,Int.reduceEq,Int.reduceNe,Int.reduceLT,Int.reduceLE,Nat.reduceEqDiff,Nat.reduceAdd,reduceIte,reduceCtorEq,Nat.reduceLT,Nat.reduceLeDiff,Nat.reduceShiftRight,Nat.reduceMod]) | (with_reducible first | refine RnB.ii ?_ | refine RnB.app ?_) | (with_reducible refine RnB.fxB ?_;simp only [vcW,vZ,Int.reduceEq,Int.reduceNe,Int.reduceLT,Int.reduceLE,Nat.reduceEqDiff,Nat.reduceAdd,reduceIte,reduceCtorEq,Nat.reduceLT,Nat.reduceLeDiff,Nat.reduceShiftRight,Nat.reduceMod]) | omega)
      all_goals trace_state
     ·obtain ⟨hst,m10,m21⟩:=h
      subst hst
      simp only [m10,m21,vZ,Int.reduceEq,Int.reduceNe,Int.reduceLT,Int.reduceLE,Nat.reduceEqDiff,Nat.reduceAdd,reduceIte,reduceCtorEq,Nat.reduceLT,Nat.reduceLeDiff,Nat.reduceShiftRight,Nat.reduceMod]
      refine WL_cut ?_
      simp only [cl_ref02_solved_10,m10,m21,vZ,Int.reduceEq,Int.reduceNe,Int.reduceLT,Int.reduceLE,Nat.reduceEqDiff,Nat.reduceAdd,reduceIte,reduceCtorEq,Nat.reduceLT,Nat.reduceLeDiff,Nat.reduceShiftRight,Nat.reduceMod]
      rw [borB_good _ _ _ _ _ (by rw [rqs_length]) (rqs_fx _ _),hres]
end Go.Proofs.YtgmpcbpmnimkoaaGreatDoor

