/- The solution for a set of ticks. By an AI agent; nothing here is trusted. -/
import Derived.Test.YtpaklfjlbocfcaaGreatDoorConTopPulseBestCardB
import Derived.Test.YtpaklfjlbocfcaaGreatDoorConTopPulseBestCardA
import Derived.Test.YtpaklfjlbocfcaaGreatDoorLayC
import Derived.Test.YtpaklfjlbocfcaaGreatDoorLayD
import Derived.Test.YtpaklfjlbocfcaaGreatDoorKode
import Derived.Test.YtpaklfjlbocfcaaGreatDoorProg
import Derived.Shelf.Strconv.AtoiAll
import Derived.Shelf.LaysM
import Derived.Shelf.LaysC
import Derived.Shelf.Strings.OnBuilder
import Derived.Lib.Join
import Derived.Lib.Bytealg
import Derived.Shelf.Strings.Search3
import Derived.RangeFuncKeeps
import Derived.WalkKit
import Derived.OwnWalkIn
import Derived.TacticsInMore
import Derived.LoopIn
import Derived.WalkSpells
set_option linter.defProp false
set_option linter.unusedSimpArgs false
set_option linter.unusedVariables false
namespace Go.Proofs.YtpaklfjlbocfcaaGreatDoor
open Go.Av

def ntA (T:List Nat):List Int:=T.map fun k:Nat=>(k:Int)
theorem ntA_len (T:List Nat):(ntA T).length=T.length:=by simp [ntA]
theorem ntA_get (T:List Nat) (i:Nat) (h:i<T.length):(ints (ntA T))[i]?=some (.int .i64 (T[i]:Int)):=by simp [ntA,ints,h]
def sqQ (G:List (List Int)) (T:List Nat) (k j:Nat):List Int:=(T.take j).map fun m=>ent G k m
def sqP (G:List (List Int)) (T:List Nat) (i:Nat):List (List Int):=(T.take i).map fun k=>sqQ G T k T.length
theorem sqQ_succ (G:List (List Int)) (T:List Nat) (k:Nat) {j:Nat} (h:j<T.length):sqQ G T k (j+1)=sqQ G T k j ++ [ent G k T[j]]:=by
 unfold sqQ;rw [List.take_succ_eq_append_getElem h,List.map_append];rfl
theorem sqP_succ (G:List (List Int)) (T:List Nat) {i:Nat} (h:i<T.length):sqP G T (i+1)=sqP G T i ++ [sqQ G T T[i] T.length]:=by
 unfold sqP;rw [List.take_succ_eq_append_getElem h,List.map_append];rfl
theorem sqQ_len (G:List (List Int)) (T:List Nat) (k:Nat) {j:Nat} (h:j≤T.length):(sqQ G T k j).length=j:=by unfold sqQ;rw [List.length_map,List.length_take_of_le h]
theorem sqP_len (G:List (List Int)) (T:List Nat) {i:Nat} (h:i≤T.length):(sqP G T i).length=i:=by unfold sqP;rw [List.length_map,List.length_take_of_le h]
def rpP (G:List (List Int)) (H:List Int) (T:List Nat) (n i:Nat):List (List Int):=(T.take i).map fun k=>(sqQ G T k T.length).set n (H.getD k 0)
theorem rpP_len (G:List (List Int)) (H:List Int) (T:List Nat) (n:Nat) {i:Nat} (h:i≤T.length):(rpP G H T n i).length=i:=by unfold rpP;rw [List.length_map,List.length_take_of_le h]
theorem rpP_succ (G:List (List Int)) (H:List Int) (T:List Nat) (n:Nat) {i:Nat} (h:i<T.length):rpP G H T n (i+1)=rpP G H T n i ++ [(sqQ G T T[i] T.length).set n (H.getD T[i] 0)]:=by
 unfold rpP;rw [List.take_succ_eq_append_getElem h,List.map_append];rfl
def slP (G:List (List Int)) (H:List Int) (T:List Nat):Nat→List (Bool × Nat)
 | 0=>List.replicate H.length (false,0)
 | n+1=>(slP G H T n).set (T.getD n 0) (dtP T.length (rpP G H T n T.length))
theorem slP_len (G:List (List Int)) (H:List Int) (T:List Nat):∀ n,(slP G H T n).length=H.length
 | 0=>by simp [slP]
 | n+1=>by rw [slP,List.length_set,slP_len G H T n]
theorem w2s_set (P:List (Bool × Nat)) (i:Nat) (p:Bool × Nat):(w2s P).set i (wdA p.1 p.2)=w2s (P.set i p):=by simp [w2s,List.map_set]
theorem mkOk_w (n:Nat):mkOk 3 (List.replicate n (AV.agg [.bool false,.int .u64 0,.int .u64 0])):=by
 intro x hx
 rw [List.eq_of_mem_replicate hx]
 exact ⟨rfl,rfl,by decide⟩
theorem w2s_zero (n:Nat):List.replicate n (AV.agg [.bool false,.int .u64 0,.int .u64 0])=w2s (List.replicate n (false,0)):=by
 simp [w2s,wdA]
structure SlB (G:List (List Int)) (H:List Int) (T:List Nat) (GM RM:Nat):Prop where
 g:∀ r c,(ent G r c).natAbs≤GM
 h:∀ k,(H.getD k 0).natAbs≤RM
 gl:G.length=H.length∧H.length≤5∧∀ r ∈ G,r.length=H.length
 t:∀ k ∈ T,k<H.length
 tl:T.length≤5
 m:1≤GM∧GM≤RM∧RM≤1000000000000000000
 b:prB T.length (fun _=>RM)<170141183460469231731687303715884105728
theorem bnd_sq {G:List (List Int)} {H:List Int} {T:List Nat} {GM RM:Nat} (B:SlB G H T GM RM):bnd T.length (sqP G T T.length) fun _=>GM:=by
 intro r c hr hc
 have e:ent (sqP G T T.length) r c=ent G T[r] T[c]:=by
  unfold ent sqP sqQ
  rw [List.take_length]
  simp [hr,hc,ent]
 rw [e]
 exact B.g _ _
theorem ent_rp {G:List (List Int)} {H:List Int} {T:List Nat} {n r c:Nat} (hr:r<T.length) (hc:c<T.length):ent (rpP G H T n T.length) r c=if c=n then H.getD (T.getD r 0) 0 else ent G (T.getD r 0) (T.getD c 0):=by
 unfold ent rpP sqQ
 rw [List.take_length]
 have e1:T.getD r 0=T[r]:=by rw [List.getD_eq_getElem?_getD,List.getElem?_eq_getElem hr];rfl
 have e2:T.getD c 0=T[c]:=by rw [List.getD_eq_getElem?_getD,List.getElem?_eq_getElem hc];rfl
 rw [e1,e2]
 simp only [List.getD_eq_getElem?_getD,List.getElem?_map,List.getElem?_eq_getElem hr,Option.map_some,Option.getD_some,List.getElem?_set,List.length_map]
 by_cases e:n=c
 ·subst e;rw [if_pos rfl,if_pos hc,if_pos rfl];rfl
 ·rw [if_neg e,if_neg (fun q=>e q.symm)];simp [hc,ent]
theorem ent_sq {G:List (List Int)} {T:List Nat} {r c:Nat} (hr:r<T.length) (hc:c<T.length):ent (sqP G T T.length) r c=ent G (T.getD r 0) (T.getD c 0):=by
 unfold ent sqP sqQ
 rw [List.take_length]
 simp [hr,hc,ent]
theorem bnd_rp {G:List (List Int)} {H:List Int} {T:List Nat} {GM RM:Nat} (B:SlB G H T GM RM) (n:Nat):bnd T.length (rpP G H T n T.length) fun c=>if c=n then RM else GM:=by
 intro r c hr hc
 rw [ent_rp hr hc]
 simp only
 split
 ·exact B.h _
 ·exact B.g _ _
theorem prB_mono:∀ {n:Nat} {A B:Nat→Nat},(∀ c,c<n→A c≤B c)→prB n A≤prB n B
 | 0,_,_,_=>Nat.le_refl _
 | n+1,A,B,h=>Nat.mul_le_mul_left _ (Nat.mul_le_mul (h 0 (by omega)) (prB_mono fun c hc=>h (c+1) (by omega)))
theorem sq_mem {G:List (List Int)} {T:List Nat} {r:List Int} {i:Nat} (h:r ∈ sqP G T i):r.length=T.length:=by
 obtain ⟨k,_,rfl⟩:=List.mem_map.1 h
 exact sqQ_len _ _ _ (Nat.le_refl _)
theorem rp_mem {G:List (List Int)} {H:List Int} {T:List Nat} {r:List Int} {n i:Nat} (h:r ∈ rpP G H T n i):r.length=T.length:=by
 obtain ⟨k,_,rfl⟩:=List.mem_map.1 h
 rw [List.length_set]
 exact sqQ_len _ _ _ (Nat.le_refl _)
theorem det_sq {G:List (List Int)} {H:List Int} {T:List Nat} {GM RM:Nat} (B:SlB G H T GM RM):Sound Tryz.prog 178 [.sl (lls (sqP G T T.length))] (wdA (dtP T.length (sqP G T T.length)).1 (dtP T.length (sqP G T T.length)).2):=by
 refine determinant_s T.length _ (fun _=>GM) (by have:=B.tl;omega) (sqP_len _ _ (Nat.le_refl _)) (fun r hr=>by rw [sq_mem hr];have:=B.tl;omega) (bnd_sq B) (fun c _=>B.m.1) ?_ (fun c _=>by have:=B.m;omega)
 exact Nat.lt_of_le_of_lt (prB_mono fun c _=>B.m.2.1) B.b
theorem det_rp {G:List (List Int)} {H:List Int} {T:List Nat} {GM RM:Nat} (B:SlB G H T GM RM) (n:Nat):Sound Tryz.prog 178 [.sl (lls (rpP G H T n T.length))] (wdA (dtP T.length (rpP G H T n T.length)).1 (dtP T.length (rpP G H T n T.length)).2):=by
 have hm:=B.m
 refine determinant_s T.length _ (fun c=>if c=n then RM else GM) (by have:=B.tl;omega) (rpP_len _ _ _ _ (Nat.le_refl _)) (fun r hr=>by rw [rp_mem hr];have:=B.tl;omega) (bnd_rp B n) (fun c _=>by split <;> omega) ?_ (fun c _=>by split <;> omega)
 exact Nat.lt_of_le_of_lt (prB_mono fun c _=>by split <;> omega) B.b
set_option maxHeartbeats 4000000 in
theorem solved_s {G:List (List Int)} {H:List Int} {T:List Nat} {GM RM:Nat} (B:SlB G H T GM RM) :
  Sound Tryz.prog 128 [.agg [.sl (lls G),.sl (ints H)],.sl (ints (ntA T))] (.tup [wdA (dtP T.length (sqP G T T.length)).1 (dtP T.length (sqP G T T.length)).2,.sl (w2s (slP G H T T.length))]):=by
 refine sound_W f_pulse_problem_solved (Nat.le_of_ble_eq_true rfl) ?_
 have hmax:=maxLen_big
 have hD:=det_sq B
 have hR:=det_rp B
 obtain ⟨bg,bh,⟨bl1,bl2,bl3⟩,bt,btl,bm,bb⟩:=B
 obtain ⟨D,hDd⟩:∃ D,D=dtP T.length (sqP G T T.length):=⟨_,rfl⟩
 rw [← hDd] at hD ⊢
 have htb:∀ i (h:i<T.length),T[i]<H.length:=fun i h=>bt _ (List.getElem_mem h)
 have hgk:∀ k (h:k<H.length),∃ g:List Int,(lls G)[k]?=some (.sl (ints g))∧g.length=H.length∧∀ m (hm:m<H.length),(ints g)[m]?=some (.int .i64 (ent G k m)):=fun k h=>by
  refine ⟨G[k]'(by omega),lls_get G k (by omega),bl3 _ (List.getElem_mem _),fun m hm=>?_⟩
  have hlm:m<(G[k]'(by omega)).length:=by rw [bl3 _ (List.getElem_mem _)];exact hm
  rw [ints_get _ m hlm]
  unfold ent
  rw [List.getD_eq_getElem?_getD,List.getD_eq_getElem?_getD,List.getElem?_eq_getElem (show k<G.length by omega),Option.getD_some,List.getElem?_eq_getElem hlm];rfl
 unfold wdA at hD ⊢
 simp only [c_pulse_problem_solved,ntA_len,ints_length,vZ,Int.reduceEq,Int.reduceNe,Int.reduceLT,Int.reduceLE,Nat.reduceEqDiff,Nat.reduceAdd,reduceIte,reduceCtorEq,Nat.reduceLT,Nat.reduceLeDiff,Nat.reduceShiftRight,Nat.reduceMod]
 refine W_loop (t:=.mk) (α:=PSigma fun i:Nat=>i≤T.length) (fun ⟨i,_⟩=>(envOf [(1,.sl (ints (ntA T))),(2,.ptr 2 0 0),(4,.ptr 4 0 0),(5,.nils),(6,.buf 100 i),(17,.sl (ints (ntA T))),(18,.int .i64 T.length),(19,.int .i64 i)],stOf [(2,⟨182,2,[.agg [.sl (lls G),.sl (ints H)]]⟩),(4,⟨188,3,[.agg [.bool false,.int .u64 0,.int .u64 0]]⟩),(100,⟨45,1,lls (sqP G T i)⟩)])) (fun x=>T.length - x.1) ⟨0,Nat.zero_le _⟩ ?_ (fun ⟨i,hiS⟩=>?_)
 ·have z:lls (sqP G T 0)=[]:=rfl
  refine weakX [(100,none)] (of_decide_eq_true rfl) (of_decide_eq_true rfl) ?_
  (simp only [z,vcW,vZ,Int.reduceEq,Int.reduceNe,Int.reduceLT,Int.reduceLE,Nat.reduceEqDiff,Nat.reduceAdd,reduceIte,reduceCtorEq,Nat.reduceLT,Nat.reduceLeDiff,Nat.reduceShiftRight,Nat.reduceMod])
  (repeat' first | exact trivial | (with_reducible first | exact RnB.fxB (ints_fxB _) | rfl | refine And.intro ?_ ?_) | (with_reducible (first | refine RnB.bb ?_ | refine RnB.nb ?_);simp only [vcW,vZ,Int.reduceEq,Int.reduceNe,Int.reduceLT,Int.reduceLE,Nat.reduceEqDiff,Nat.reduceAdd,reduceIte,reduceCtorEq,Nat.reduceLT,Nat.reduceLeDiff,Nat.reduceShiftRight,Nat.reduceMod]) | (with_reducible first | refine RnB.ii ?_ | refine RnB.app ?_) | (with_reducible refine RnB.fxB ?_;simp only [vcW,vZ,Int.reduceEq,Int.reduceNe,Int.reduceLT,Int.reduceLE,Nat.reduceEqDiff,Nat.reduceAdd,reduceIte,reduceCtorEq,Nat.reduceLT,Nat.reduceLeDiff,Nat.reduceShiftRight,Nat.reduceMod]) | omega)
 ·dsimp only at hiS ⊢
  by_cases h':i<T.length
  ·have hc1:(i:Int)<T.length:=by omega
   obtain ⟨g,hg1,hg2,hg3⟩:=hgk T[i] (htb i h')
   simp only [hc1,ntA_get T i h',vZ,Int.reduceEq,Int.reduceNe,Int.reduceLT,Int.reduceLE,Nat.reduceEqDiff,Nat.reduceAdd,reduceIte,reduceCtorEq,Nat.reduceLT,Nat.reduceLeDiff,Nat.reduceShiftRight,Nat.reduceMod]
   (repeat (with_reducible refine And.intro ?_ ?_;focus (first | omega | (unfold I64;omega))))
   refine W_loop (t:=.mk) (α:=PSigma fun j:Nat=>j≤T.length) (fun ⟨j,_⟩=>(envOf [(1,.sl (ints (ntA T))),(2,.ptr 2 0 0),(4,.ptr 4 0 0),(5,.nils),(6,.buf 100 i),(8,.int .i64 (T[i]:Int)),(9,.buf 101 j),(17,.sl (ints (ntA T))),(18,.int .i64 T.length),(19,.int .i64 i),(23,.sl (ints (ntA T))),(24,.int .i64 T.length),(25,.int .i64 j)],stOf [(2,⟨182,2,[.agg [.sl (lls G),.sl (ints H)]]⟩),(4,⟨188,3,[.agg [.bool false,.int .u64 0,.int .u64 0]]⟩),(100,⟨45,1,lls (sqP G T i)⟩),(101,⟨3,1,ints (sqQ G T T[i] j)⟩)])) (fun x=>T.length - x.1) ⟨0,Nat.zero_le _⟩ ?_ (fun ⟨j,hjS⟩=>?_)
   ·have z:ints (sqQ G T T[i] 0)=[]:=rfl
    refine weakX [(101,none)] (of_decide_eq_true rfl) (of_decide_eq_true rfl) ?_
    (simp only [z,ints_length,ntA_len,vcW,vZ,Int.reduceEq,Int.reduceNe,Int.reduceLT,Int.reduceLE,Nat.reduceEqDiff,Nat.reduceAdd,reduceIte,reduceCtorEq,Nat.reduceLT,Nat.reduceLeDiff,Nat.reduceShiftRight,Nat.reduceMod])
    repeat' (with_reducible refine And.intro ?_ ?_)
    try any_goals (with_reducible exact RnB.fxB (lls_fxB _))
    (repeat' first | exact trivial | (with_reducible first | exact RnB.fxB (ints_fxB _) | rfl | refine And.intro ?_ ?_) | (with_reducible (first | refine RnB.bb ?_ | refine RnB.nb ?_);simp only [vcW,vZ,Int.reduceEq,Int.reduceNe,Int.reduceLT,Int.reduceLE,Nat.reduceEqDiff,Nat.reduceAdd,reduceIte,reduceCtorEq,Nat.reduceLT,Nat.reduceLeDiff,Nat.reduceShiftRight,Nat.reduceMod]) | (with_reducible first | refine RnB.ii ?_ | refine RnB.app ?_) | (with_reducible refine RnB.fxB ?_;simp only [vcW,vZ,Int.reduceEq,Int.reduceNe,Int.reduceLT,Int.reduceLE,Nat.reduceEqDiff,Nat.reduceAdd,reduceIte,reduceCtorEq,Nat.reduceLT,Nat.reduceLeDiff,Nat.reduceShiftRight,Nat.reduceMod]) | omega)
   ·dsimp only at hjS ⊢
    by_cases h2:j<T.length
    ·have hc2:(j:Int)<T.length:=by omega
     have hs:=sqQ_succ G T T[i] h2
     have hsl:=sqQ_len G T T[i] (j:=j) (by omega)
     have hgm:=hg3 T[j] (htb j h2)
     simp only [hc2,ntA_get T j h2,hg1,hgm,ints_length,hsl,vZ,Int.reduceEq,Int.reduceNe,Int.reduceLT,Int.reduceLE,Nat.reduceEqDiff,Nat.reduceAdd,reduceIte,reduceCtorEq,Nat.reduceLT,Nat.reduceLeDiff,Nat.reduceShiftRight,Nat.reduceMod]
     refine ⟨by omega,by omega,by omega,⟨by omega,by omega⟩,by unfold I64;omega,⟨j+1,h2⟩,by simp only;omega,?_⟩
     refine weakX [(101,some 39)] (of_decide_eq_true rfl) (of_decide_eq_true rfl) ?_
     (simp only [hs,vcW,vZ,Int.reduceEq,Int.reduceNe,Int.reduceLT,Int.reduceLE,Nat.reduceEqDiff,Nat.reduceAdd,reduceIte,reduceCtorEq,Nat.reduceLT,Nat.reduceLeDiff,Nat.reduceShiftRight,Nat.reduceMod])
     repeat' (with_reducible refine And.intro ?_ ?_)
     try any_goals (with_reducible exact RnB.fxB (lls_fxB _))
     (repeat' first | exact trivial | (with_reducible first | exact RnB.fxB (ints_fxB _) | rfl | refine And.intro ?_ ?_) | (with_reducible (first | refine RnB.bb ?_ | refine RnB.nb ?_);simp only [vcW,vZ,Int.reduceEq,Int.reduceNe,Int.reduceLT,Int.reduceLE,Nat.reduceEqDiff,Nat.reduceAdd,reduceIte,reduceCtorEq,Nat.reduceLT,Nat.reduceLeDiff,Nat.reduceShiftRight,Nat.reduceMod]) | (with_reducible first | refine RnB.ii ?_ | refine RnB.app ?_) | (with_reducible refine RnB.fxB ?_;simp only [vcW,vZ,Int.reduceEq,Int.reduceNe,Int.reduceLT,Int.reduceLE,Nat.reduceEqDiff,Nat.reduceAdd,reduceIte,reduceCtorEq,Nat.reduceLT,Nat.reduceLeDiff,Nat.reduceShiftRight,Nat.reduceMod]) | omega)
    ·have hjl:j=T.length:=by omega
     subst hjl
     have hc2:¬ (T.length:Int)<T.length:=by omega
     have hs:=sqP_succ G T h'
     simp only [hc2,vZ,Int.reduceEq,Int.reduceNe,Int.reduceLT,Int.reduceLE,Nat.reduceEqDiff,Nat.reduceAdd,reduceIte,reduceCtorEq,Nat.reduceLT,Nat.reduceLeDiff,Nat.reduceShiftRight,Nat.reduceMod]
     refine ⟨⟨by rw [lls_length,sqP_len _ _ hiS],by omega,by omega⟩,by unfold I64;omega,⟨i+1,h'⟩,by simp only;omega,?_⟩
     refine weakX [(100,some 44)] (of_decide_eq_true rfl) (of_decide_eq_true rfl) ?_
     (simp only [vcW,vZ,Int.reduceEq,Int.reduceNe,Int.reduceLT,Int.reduceLE,Nat.reduceEqDiff,Nat.reduceAdd,reduceIte,reduceCtorEq,Nat.reduceLT,Nat.reduceLeDiff,Nat.reduceShiftRight,Nat.reduceMod])
     repeat' (with_reducible refine And.intro ?_ ?_)
     try any_goals exact RnB.snocZ (k:=101) rfl (by rw [sqQ_len _ _ _ (Nat.le_refl _)]) (keyOf_ne rfl) (by rw [hs])
     (repeat' first | exact trivial | (with_reducible first | exact RnB.fxB (ints_fxB _) | rfl | refine And.intro ?_ ?_) | (with_reducible (first | refine RnB.bb ?_ | refine RnB.nb ?_);simp only [vcW,vZ,Int.reduceEq,Int.reduceNe,Int.reduceLT,Int.reduceLE,Nat.reduceEqDiff,Nat.reduceAdd,reduceIte,reduceCtorEq,Nat.reduceLT,Nat.reduceLeDiff,Nat.reduceShiftRight,Nat.reduceMod]) | (with_reducible first | refine RnB.ii ?_ | refine RnB.app ?_) | (with_reducible refine RnB.fxB ?_;simp only [vcW,vZ,Int.reduceEq,Int.reduceNe,Int.reduceLT,Int.reduceLE,Nat.reduceEqDiff,Nat.reduceAdd,reduceIte,reduceCtorEq,Nat.reduceLT,Nat.reduceLeDiff,Nat.reduceShiftRight,Nat.reduceMod]) | omega)
  ·have hil:i=T.length:=by omega
   subst hil
   have hc1:¬ (T.length:Int)<T.length:=by omega
   simp only [hc1,vZ,Int.reduceEq,Int.reduceNe,Int.reduceLT,Int.reduceLE,Nat.reduceEqDiff,Nat.reduceAdd,reduceIte,reduceCtorEq,Nat.reduceLT,Nat.reduceLeDiff,Nat.reduceShiftRight,Nat.reduceMod]
   rw [borB_good _ _ _ _ _ (by rw [lls_length,sqP_len _ _ (Nat.le_refl _)]) (List.all_eq_true.1 (lls_fxB _))]
   refine callS_of hD ?_
   simp only [ints_length,vZ,Int.reduceEq,Int.reduceNe,Int.reduceLT,Int.reduceLE,Nat.reduceEqDiff,Nat.reduceAdd,reduceIte,reduceCtorEq,Nat.reduceLT,Nat.reduceLeDiff,Nat.reduceShiftRight,Nat.reduceMod]
   refine ⟨usedL_buf rfl (lls_immT _ _) rfl,⟨by omega,by omega,by omega⟩,mkOk_w _,?_⟩
   rw [w2s_zero]
   have hslP:=slP_len G H T
   refine W_loop (t:=.mk) (α:=PSigma fun n:Nat=>n≤T.length) (fun ⟨n,_⟩=>(envOf [(1,.sl (ints (ntA T))),(2,.ptr 2 0 0),(4,.ptr 4 0 0),(5,.buf 101 H.length),(6,.buf 100 T.length),(52,.sl (ints (ntA T))),(53,.int .i64 T.length),(54,.int .i64 n)],stOf [(2,⟨182,2,[.agg [.sl (lls G),.sl (ints H)]]⟩),(4,⟨188,3,[wdA D.1 D.2]⟩),(100,⟨45,1,lls (sqP G T T.length)⟩),(101,⟨188,3,w2s (slP G H T n)⟩)])) (fun x=>T.length - x.1) ⟨0,Nat.zero_le _⟩ ?_ (fun ⟨n,hnT⟩=>?_)
   ·have z:w2s (slP G H T 0)=w2s (List.replicate H.length (false,0)):=rfl
    refine weakX [(100,some 100),(101,some 51)] (of_decide_eq_true rfl) (of_decide_eq_true rfl) ?_
    (simp only [z,wdA,ntA_len,ints_length,vcW,vZ,Int.reduceEq,Int.reduceNe,Int.reduceLT,Int.reduceLE,Nat.reduceEqDiff,Nat.reduceAdd,reduceIte,reduceCtorEq,Nat.reduceLT,Nat.reduceLeDiff,Nat.reduceShiftRight,Nat.reduceMod])
    repeat' (with_reducible refine And.intro ?_ ?_)
    try any_goals (with_reducible exact RnB.fxB (lls_fxB _))
    try any_goals (with_reducible exact RnB.fxB (w2s_fxB _))
    (repeat' first | exact trivial | (with_reducible first | exact RnB.fxB (ints_fxB _) | rfl | refine And.intro ?_ ?_) | (with_reducible (first | refine RnB.bb ?_ | refine RnB.nb ?_);simp only [vcW,vZ,Int.reduceEq,Int.reduceNe,Int.reduceLT,Int.reduceLE,Nat.reduceEqDiff,Nat.reduceAdd,reduceIte,reduceCtorEq,Nat.reduceLT,Nat.reduceLeDiff,Nat.reduceShiftRight,Nat.reduceMod]) | (with_reducible first | refine RnB.ii ?_ | refine RnB.app ?_) | (with_reducible refine RnB.fxB ?_;simp only [vcW,vZ,Int.reduceEq,Int.reduceNe,Int.reduceLT,Int.reduceLE,Nat.reduceEqDiff,Nat.reduceAdd,reduceIte,reduceCtorEq,Nat.reduceLT,Nat.reduceLeDiff,Nat.reduceShiftRight,Nat.reduceMod]) | omega)
   ·dsimp only at hnT ⊢
    by_cases h3:n<T.length
    ·have hc3:(n:Int)<T.length:=by omega
     unfold wdA
     simp only [hc3,ntA_get T n h3,vZ,Int.reduceEq,Int.reduceNe,Int.reduceLT,Int.reduceLE,Nat.reduceEqDiff,Nat.reduceAdd,reduceIte,reduceCtorEq,Nat.reduceLT,Nat.reduceLeDiff,Nat.reduceShiftRight,Nat.reduceMod]
     (repeat (with_reducible refine And.intro ?_ ?_;focus (first | omega | (unfold I64;omega))))
     refine W_loop (t:=.mk) (α:=PSigma fun i:Nat=>i≤T.length) (fun ⟨i,_⟩=>(envOf [(1,.sl (ints (ntA T))),(2,.ptr 2 0 0),(4,.ptr 4 0 0),(5,.buf 101 H.length),(6,.buf 100 T.length),(12,.int .i64 n),(13,.int .i64 (T[n]:Int)),(14,.buf 102 i),(52,.sl (ints (ntA T))),(53,.int .i64 T.length),(54,.int .i64 n),(59,.buf 100 T.length),(60,.int .i64 T.length),(61,.int .i64 i)],stOf [(2,⟨182,2,[.agg [.sl (lls G),.sl (ints H)]]⟩),(4,⟨188,3,[wdA D.1 D.2]⟩),(100,⟨45,1,lls (sqP G T T.length)⟩),(101,⟨188,3,w2s (slP G H T n)⟩),(102,⟨45,1,lls (rpP G H T n i)⟩)])) (fun x=>T.length - x.1) ⟨0,Nat.zero_le _⟩ ?_ (fun ⟨i,hiT⟩=>?_)
     ·have z:lls (rpP G H T n 0)=[]:=rfl
      refine weakX [(102,none)] (of_decide_eq_true rfl) (of_decide_eq_true rfl) ?_
      (simp only [z,wdA,vcW,vZ,Int.reduceEq,Int.reduceNe,Int.reduceLT,Int.reduceLE,Nat.reduceEqDiff,Nat.reduceAdd,reduceIte,reduceCtorEq,Nat.reduceLT,Nat.reduceLeDiff,Nat.reduceShiftRight,Nat.reduceMod])
      repeat' (with_reducible refine And.intro ?_ ?_)
      try any_goals (with_reducible exact RnB.fxB (lls_fxB _))
      try any_goals (with_reducible exact RnB.fxB (w2s_fxB _))
      (repeat' first | exact trivial | (with_reducible first | exact RnB.fxB (ints_fxB _) | rfl | refine And.intro ?_ ?_) | (with_reducible (first | refine RnB.bb ?_ | refine RnB.nb ?_);simp only [vcW,vZ,Int.reduceEq,Int.reduceNe,Int.reduceLT,Int.reduceLE,Nat.reduceEqDiff,Nat.reduceAdd,reduceIte,reduceCtorEq,Nat.reduceLT,Nat.reduceLeDiff,Nat.reduceShiftRight,Nat.reduceMod]) | (with_reducible first | refine RnB.ii ?_ | refine RnB.app ?_) | (with_reducible refine RnB.fxB ?_;simp only [vcW,vZ,Int.reduceEq,Int.reduceNe,Int.reduceLT,Int.reduceLE,Nat.reduceEqDiff,Nat.reduceAdd,reduceIte,reduceCtorEq,Nat.reduceLT,Nat.reduceLeDiff,Nat.reduceShiftRight,Nat.reduceMod]) | omega)
     ·dsimp only at hiT ⊢
      by_cases h4:i<T.length
      ·have hc4:(i:Int)<T.length:=by omega
       have hsl:(sqP G T T.length).length=T.length:=sqP_len _ _ (Nat.le_refl _)
       have hrow:(lls (sqP G T T.length))[i]?=some (.sl (ints (sqQ G T T[i] T.length))):=by
        rw [lls_get _ i (by omega)];simp [sqP]
       have hql:=sqQ_len G T T[i] (Nat.le_refl T.length)
       have hti:=htb i h4
       have hHd:H.getD T[i] 0=H[T[i]]:=getD_at _
       have hHg:(ints H)[T[i]]?=some (.int .i64 H[T[i]]):=ints_get H _ hti
       rw [← hHd] at hHg
       have hC:=Clone_o (sqQ G T T[i] T.length) (by omega)
       have hset:(ints (sqQ G T T[i] T.length)).set n (.int .i64 (H.getD T[i] 0))=ints ((sqQ G T T[i] T.length).set n (H.getD T[i] 0)):=ints_st _ _ _
       have hng:=ints_get (sqQ G T T[i] T.length) n (by omega)
       have hs:=rpP_succ G H T n h4
       have hrl:=rpP_len G H T n hiT
       unfold wdA
       simp only [hc4,hrow,lls_length,hsl,vZ,Int.reduceEq,Int.reduceNe,Int.reduceLT,Int.reduceLE,Nat.reduceEqDiff,Nat.reduceAdd,reduceIte,reduceCtorEq,Nat.reduceLT,Nat.reduceLeDiff,Nat.reduceShiftRight,Nat.reduceMod]
       refine ⟨⟨by omega,Nat.le_refl _⟩,?_⟩
       refine callS_own hC rfl ?_
       have hil':((ints (sqQ G T T[i] T.length)).length:Nat)=T.length:=by rw [ints_length];exact hql
       simp only [hql,ownS_ints,hil',ntA_get T i h4,hHg,hng,hset,vZ,Int.reduceEq,Int.reduceNe,Int.reduceLT,Int.reduceLE,Nat.reduceEqDiff,Nat.reduceAdd,reduceIte,reduceCtorEq,Nat.reduceLT,Nat.reduceLeDiff,Nat.reduceShiftRight,Nat.reduceMod]
       refine ⟨by omega,by omega,⟨by omega,by omega,Nat.le_refl _⟩,⟨by rw [lls_length,hrl],by omega,by omega⟩,by unfold I64;omega,⟨i+1,h4⟩,by simp only;omega,?_⟩
       refine weakX [(102,some 82)] (of_decide_eq_true rfl) (of_decide_eq_true rfl) ?_
       (simp only [wdA,vcW,vZ,Int.reduceEq,Int.reduceNe,Int.reduceLT,Int.reduceLE,Nat.reduceEqDiff,Nat.reduceAdd,reduceIte,reduceCtorEq,Nat.reduceLT,Nat.reduceLeDiff,Nat.reduceShiftRight,Nat.reduceMod])
       repeat' (with_reducible refine And.intro ?_ ?_)
       try any_goals (with_reducible exact RnB.fxB (lls_fxB _))
       try any_goals (with_reducible exact RnB.fxB (w2s_fxB _))
       try any_goals exact RnB.snocZ (k:=67) rfl (by rw [List.length_set];exact hql.symm) (keyOf_ne rfl) (by rw [hs])
       (repeat' first | exact trivial | (with_reducible first | exact RnB.fxB (ints_fxB _) | rfl | refine And.intro ?_ ?_) | (with_reducible (first | refine RnB.bb ?_ | refine RnB.nb ?_);simp only [vcW,vZ,Int.reduceEq,Int.reduceNe,Int.reduceLT,Int.reduceLE,Nat.reduceEqDiff,Nat.reduceAdd,reduceIte,reduceCtorEq,Nat.reduceLT,Nat.reduceLeDiff,Nat.reduceShiftRight,Nat.reduceMod]) | (with_reducible first | refine RnB.ii ?_ | refine RnB.app ?_) | (with_reducible refine RnB.fxB ?_;simp only [vcW,vZ,Int.reduceEq,Int.reduceNe,Int.reduceLT,Int.reduceLE,Nat.reduceEqDiff,Nat.reduceAdd,reduceIte,reduceCtorEq,Nat.reduceLT,Nat.reduceLeDiff,Nat.reduceShiftRight,Nat.reduceMod]) | omega)
       all_goals trace_state
      ·have hil:i=T.length:=by omega
       subst hil
       have hc4:¬ (T.length:Int)<T.length:=by omega
       have hR':=hR n
       have hnx:slP G H T (n+1)=(slP G H T n).set T[n] (dtP T.length (rpP G H T n T.length)):=by
        rw [slP,List.getD_eq_getElem?_getD,List.getElem?_eq_getElem h3];rfl
       obtain ⟨E,hE⟩:∃ E,E=dtP T.length (rpP G H T n T.length):=⟨_,rfl⟩
       rw [← hE] at hnx hR'
       unfold wdA at hR' ⊢
       simp only [hc4,vZ,Int.reduceEq,Int.reduceNe,Int.reduceLT,Int.reduceLE,Nat.reduceEqDiff,Nat.reduceAdd,reduceIte,reduceCtorEq,Nat.reduceLT,Nat.reduceLeDiff,Nat.reduceShiftRight,Nat.reduceMod]
       rw [borB_good _ _ _ _ _ (by rw [lls_length,rpP_len _ _ _ _ (Nat.le_refl _)]) (List.all_eq_true.1 (lls_fxB _))]
       refine callS_of hR' ?_
       have hwl:(w2s (slP G H T n)).length=H.length:=by rw [w2s_length];exact hslP n
       have htn:=htb n h3
       have hel:=w2s_get (slP G H T n) T[n] (by rw [hslP n];exact htn)
       have hst:=w2s_set (slP G H T n) T[n] E
       rw [← hnx] at hst
       unfold wdA at hel hst
       simp only [hwl,hel,hst,vZ,Int.reduceEq,Int.reduceNe,Int.reduceLT,Int.reduceLE,Nat.reduceEqDiff,Nat.reduceAdd,reduceIte,reduceCtorEq,Nat.reduceLT,Nat.reduceLeDiff,Nat.reduceShiftRight,Nat.reduceMod]
       refine ⟨⟨by omega,by omega,Nat.le_refl _⟩,by unfold I64;omega,⟨n+1,h3⟩,by simp only;omega,?_⟩
       refine weakX [(100,some 100),(101,some 101)] (of_decide_eq_true rfl) (of_decide_eq_true rfl) ?_
       (simp only [wdA,vcW,vZ,Int.reduceEq,Int.reduceNe,Int.reduceLT,Int.reduceLE,Nat.reduceEqDiff,Nat.reduceAdd,reduceIte,reduceCtorEq,Nat.reduceLT,Nat.reduceLeDiff,Nat.reduceShiftRight,Nat.reduceMod])
       repeat' (with_reducible refine And.intro ?_ ?_)
       try any_goals (with_reducible exact RnB.fxB (lls_fxB _))
       try any_goals (with_reducible exact RnB.fxB (w2s_fxB _))
       (repeat' first | exact trivial | (with_reducible first | exact RnB.fxB (ints_fxB _) | rfl | refine And.intro ?_ ?_) | (with_reducible (first | refine RnB.bb ?_ | refine RnB.nb ?_);simp only [vcW,vZ,Int.reduceEq,Int.reduceNe,Int.reduceLT,Int.reduceLE,Nat.reduceEqDiff,Nat.reduceAdd,reduceIte,reduceCtorEq,Nat.reduceLT,Nat.reduceLeDiff,Nat.reduceShiftRight,Nat.reduceMod]) | (with_reducible first | refine RnB.ii ?_ | refine RnB.app ?_) | (with_reducible refine RnB.fxB ?_;simp only [vcW,vZ,Int.reduceEq,Int.reduceNe,Int.reduceLT,Int.reduceLE,Nat.reduceEqDiff,Nat.reduceAdd,reduceIte,reduceCtorEq,Nat.reduceLT,Nat.reduceLeDiff,Nat.reduceShiftRight,Nat.reduceMod]) | omega)
       all_goals trace_state
    ·have hnl:n=T.length:=by omega
     subst hnl
     have hc3:¬ (T.length:Int)<T.length:=by omega
     unfold wdA
     simp only [hc3,vZ,Int.reduceEq,Int.reduceNe,Int.reduceLT,Int.reduceLE,Nat.reduceEqDiff,Nat.reduceAdd,reduceIte,reduceCtorEq,Nat.reduceLT,Nat.reduceLeDiff,Nat.reduceShiftRight,Nat.reduceMod]
     rw [borB_good _ _ _ _ _ (by rw [w2s_length,hslP]) (List.all_eq_true.1 (w2s_fxB _))]
end Go.Proofs.YtpaklfjlbocfcaaGreatDoor

/- The common divisor of numbers of 128 bits. By an AI agent;nothing here is trusted. -/
namespace Go.Proofs.YtpaklfjlbocfcaaGreatDoor
open Go.Av

theorem gcd_half_l {x y:Nat} (hx:x % 2=0) (hy:y % 2=1):Nat.gcd (x / 2) y=Nat.gcd x y:=by
 have h2:Nat.Coprime 2 y:=by
  have:Nat.gcd 2 y=Nat.gcd (y % 2) 2:=Nat.gcd_rec 2 y
  unfold Nat.Coprime;rw [this,hy];rfl
 have e:x=2 * (x / 2):=by omega
 conv=>rhs;rw [e]
 exact (Nat.Coprime.gcd_mul_left_cancel (x / 2) h2).symm
theorem gcd_half_r {x y:Nat} (hx:x % 2=1) (hy:y % 2=0):Nat.gcd x (y / 2)=Nat.gcd x y:=by
 rw [Nat.gcd_comm,gcd_half_l hy hx,Nat.gcd_comm]
theorem gcd_sub_r {x y:Nat} (h:x≤y):Nat.gcd x (y - x)=Nat.gcd x y:=by
 have:=Nat.gcd_add_self_right x (y - x)
 rw [← this];congr 1;omega
theorem mod_low (n:Nat):n % 18446744073709551616 % 2=n % 2:=by omega
theorem common_s (a b:Bool) (m n:Nat) (hm:W128 m) (hn:W128 n) (hmn:W128 (m+n)):Sound Tryz.prog 181 [wdA a m,wdA b n] (wdA false (Nat.gcd m n)):=by
 refine sound_W f_pulse_common (Nat.le_of_ble_eq_true rfl) ?_
 have hs1:=size_s a m
 have hs2:=size_s b n
 have hz1:=isZero_s false m hm
 have hz2:=isZero_s false n hn
 unfold W128 at hmn hm hn
 unfold wdA at hs1 hs2 hz1 hz2 ⊢
 simp only [c_pulse_common,vZ,Int.reduceEq,Int.reduceNe,Int.reduceLT,Int.reduceLE,Nat.reduceEqDiff,Nat.reduceAdd,reduceIte,reduceCtorEq,Nat.reduceLT,Nat.reduceLeDiff,Nat.reduceShiftRight,Nat.reduceMod]
 refine callS_of hs1 ?_
 simp only [vZ,Int.reduceEq,Int.reduceNe,Int.reduceLT,Int.reduceLE,Nat.reduceEqDiff,Nat.reduceAdd,reduceIte,reduceCtorEq,Nat.reduceLT,Nat.reduceLeDiff,Nat.reduceShiftRight,Nat.reduceMod]
 refine callS_of hs2 ?_
 simp only [vZ,Int.reduceEq,Int.reduceNe,Int.reduceLT,Int.reduceLE,Nat.reduceEqDiff,Nat.reduceAdd,reduceIte,reduceCtorEq,Nat.reduceLT,Nat.reduceLeDiff,Nat.reduceShiftRight,Nat.reduceMod]
 refine callS_of hz1 ?_
 by_cases m0:m=0
 ·have hg:Nat.gcd m n=n:=by rw [m0,Nat.gcd_zero_left]
  rw [decide_eq_true m0,hg]
  simp only [vZ,Int.reduceEq,Int.reduceNe,Int.reduceLT,Int.reduceLE,Nat.reduceEqDiff,Nat.reduceAdd,reduceIte,reduceCtorEq,Nat.reduceLT,Nat.reduceLeDiff,Nat.reduceShiftRight,Nat.reduceMod]
 rw [decide_eq_false m0]
 simp only [vZ,Int.reduceEq,Int.reduceNe,Int.reduceLT,Int.reduceLE,Nat.reduceEqDiff,Nat.reduceAdd,reduceIte,reduceCtorEq,Nat.reduceLT,Nat.reduceLeDiff,Nat.reduceShiftRight,Nat.reduceMod]
 refine callS_of hz2 ?_
 by_cases n0:n=0
 ·have hg:Nat.gcd m n=m:=by rw [n0,Nat.gcd_zero_right]
  rw [decide_eq_true n0,hg]
  simp only [vZ,Int.reduceEq,Int.reduceNe,Int.reduceLT,Int.reduceLE,Nat.reduceEqDiff,Nat.reduceAdd,reduceIte,reduceCtorEq,Nat.reduceLT,Nat.reduceLeDiff,Nat.reduceShiftRight,Nat.reduceMod]
 rw [decide_eq_false n0]
 have low:∀ x:Nat,x % 18446744073709551616<18446744073709551616:=fun x=>Nat.mod_lt _ (by omega)
 simp only [vZ,Int.reduceEq,Int.reduceNe,Int.reduceLT,Int.reduceLE,Nat.reduceEqDiff,Nat.reduceAdd,reduceIte,reduceCtorEq,Nat.reduceLT,Nat.reduceLeDiff,Nat.reduceShiftRight,Nat.reduceMod]
 refine W_loop (t:=.mk) (α:=PSigma fun p:Nat × Nat × Nat=>p.1 * 2 ^ p.2.2=m∧p.2.1 * 2 ^ p.2.2=n) (fun ⟨p,_⟩=>(envOf [(2,.ptr 2 0 0),(3,.ptr 3 0 0),(4,.ptr 4 0 0),(5,.int .i64 p.2.2)],stOf [(2,⟨188,3,[wdA false p.1]⟩),(3,⟨188,3,[wdA false p.2.1]⟩),(4,⟨188,3,[.agg [.bool false,.int .u64 0,.int .u64 0]]⟩)])) (fun x=>x.1.1) ⟨(m,n,0),by simp,by simp⟩ ?_ (fun ⟨⟨x,y,k⟩,hx,hy⟩=>?_)
 ·skip
  refine weakX [] (of_decide_eq_true rfl) (of_decide_eq_true rfl) ?_
  (simp only [wdA,vcW,vZ,Int.reduceEq,Int.reduceNe,Int.reduceLT,Int.reduceLE,Nat.reduceEqDiff,Nat.reduceAdd,reduceIte,reduceCtorEq,Nat.reduceLT,Nat.reduceLeDiff,Nat.reduceShiftRight,Nat.reduceMod])
  (repeat' first | exact trivial | (with_reducible first | exact RnB.fxB (ints_fxB _) | rfl | refine And.intro ?_ ?_) | (with_reducible (first | refine RnB.bb ?_ | refine RnB.nb ?_);simp only [vcW,vZ,Int.reduceEq,Int.reduceNe,Int.reduceLT,Int.reduceLE,Nat.reduceEqDiff,Nat.reduceAdd,reduceIte,reduceCtorEq,Nat.reduceLT,Nat.reduceLeDiff,Nat.reduceShiftRight,Nat.reduceMod]) | (with_reducible first | refine RnB.ii ?_ | refine RnB.app ?_) | (with_reducible refine RnB.fxB ?_;simp only [vcW,vZ,Int.reduceEq,Int.reduceNe,Int.reduceLT,Int.reduceLE,Nat.reduceEqDiff,Nat.reduceAdd,reduceIte,reduceCtorEq,Nat.reduceLT,Nat.reduceLeDiff,Nat.reduceShiftRight,Nat.reduceMod]) | omega)
 ·dsimp only at hx hy ⊢
  have hk2:1≤2 ^ k:=Nat.one_le_two_pow
  have hxm:x≤m:=by rw [← hx];exact Nat.le_mul_of_pos_right _ hk2
  have hyn:y≤n:=by rw [← hy];exact Nat.le_mul_of_pos_right _ hk2
  have hx0:0<x:=by
   rcases Nat.eq_zero_or_pos x with h | h
   ·rw [h,Nat.zero_mul] at hx;omega
   ·exact h
  have hy0:0<y:=by
   rcases Nat.eq_zero_or_pos y with h | h
   ·rw [h,Nat.zero_mul] at hy;omega
   ·exact h
  have hk:k<128:=by
   refine Classical.byContradiction fun h=>?_
   have h1:2 ^ 128≤2 ^ k:=Nat.pow_le_pow_right (by omega) (by omega)
   have h2:2 ^ k≤m:=by rw [← hx];exact Nat.le_mul_of_pos_left _ hx0
   have h3:(2:Nat) ^ 128=340282366920938463463374607431768211456:=by decide
   omega
  have ho:=or_g _ _ (low x) (low y)
  have ha:=and_1 _ (show (x % 18446744073709551616 ||| y % 18446744073709551616)<2 ^ 64 from Nat.or_lt_two_pow (low x) (low y))
  have hp:=or_par (x % 18446744073709551616) (y % 18446744073709551616)
  rw [mod_low,mod_low] at hp
  have hh1:=half_s false x (by unfold W128;omega)
  have hh2:=half_s false y (by unfold W128;omega)
  by_cases hev:x % 2=0∧y % 2=0
  ·have hc:(((x % 18446744073709551616 ||| y % 18446744073709551616) % 2:Nat):Int)=0:=by rw [hp.2 hev];rfl
   unfold wdA at hh1 hh2 ⊢
   simp only [ho,ha,hc,vZ,Int.reduceEq,Int.reduceNe,Int.reduceLT,Int.reduceLE,Nat.reduceEqDiff,Nat.reduceAdd,reduceIte,reduceCtorEq,Nat.reduceLT,Nat.reduceLeDiff,Nat.reduceShiftRight,Nat.reduceMod]
   refine callS_of hh1 ?_
   simp only [vZ,Int.reduceEq,Int.reduceNe,Int.reduceLT,Int.reduceLE,Nat.reduceEqDiff,Nat.reduceAdd,reduceIte,reduceCtorEq,Nat.reduceLT,Nat.reduceLeDiff,Nat.reduceShiftRight,Nat.reduceMod]
   refine callS_of hh2 ?_
   simp only [vZ,Int.reduceEq,Int.reduceNe,Int.reduceLT,Int.reduceLE,Nat.reduceEqDiff,Nat.reduceAdd,reduceIte,reduceCtorEq,Nat.reduceLT,Nat.reduceLeDiff,Nat.reduceShiftRight,Nat.reduceMod]
   (repeat (with_reducible refine And.intro ?_ ?_;focus (first | omega | (unfold I64;omega))))
   refine ⟨⟨(x / 2,y / 2,k+1),?_,?_⟩,by simp only;omega,?_⟩
   ·simp only;rw [← hx,Nat.pow_succ,Nat.mul_comm (2 ^ k) 2,← Nat.mul_assoc];congr 1;omega
   ·simp only;rw [← hy,Nat.pow_succ,Nat.mul_comm (2 ^ k) 2,← Nat.mul_assoc];congr 1;omega
   ·refine weakX [] (of_decide_eq_true rfl) (of_decide_eq_true rfl) ?_
    (simp only [wdA,vcW,vZ,Int.reduceEq,Int.reduceNe,Int.reduceLT,Int.reduceLE,Nat.reduceEqDiff,Nat.reduceAdd,reduceIte,reduceCtorEq,Nat.reduceLT,Nat.reduceLeDiff,Nat.reduceShiftRight,Nat.reduceMod])
    (repeat' first | exact trivial | (with_reducible first | exact RnB.fxB (ints_fxB _) | rfl | refine And.intro ?_ ?_) | (with_reducible (first | refine RnB.bb ?_ | refine RnB.nb ?_);simp only [vcW,vZ,Int.reduceEq,Int.reduceNe,Int.reduceLT,Int.reduceLE,Nat.reduceEqDiff,Nat.reduceAdd,reduceIte,reduceCtorEq,Nat.reduceLT,Nat.reduceLeDiff,Nat.reduceShiftRight,Nat.reduceMod]) | (with_reducible first | refine RnB.ii ?_ | refine RnB.app ?_) | (with_reducible refine RnB.fxB ?_;simp only [vcW,vZ,Int.reduceEq,Int.reduceNe,Int.reduceLT,Int.reduceLE,Nat.reduceEqDiff,Nat.reduceAdd,reduceIte,reduceCtorEq,Nat.reduceLT,Nat.reduceLeDiff,Nat.reduceShiftRight,Nat.reduceMod]) | omega)
  ·have hc:¬ (((x % 18446744073709551616 ||| y % 18446744073709551616) % 2:Nat):Int)=0:=fun h=>hev (hp.1 (by omega))
   have hgc:Nat.gcd m n=Nat.gcd x y * 2 ^ k:=by rw [← hx,← hy,Nat.gcd_mul_right]
   obtain ⟨g,hg⟩:∃ g,g=Nat.gcd x y:=⟨_,rfl⟩
   rw [← hg] at hgc
   have hgm:g * 2 ^ k≤m:=by rw [← hgc];exact Nat.gcd_le_left _ (by omega)
   rw [hgc]
   unfold wdA
   simp only [ho,ha,hc,vZ,Int.reduceEq,Int.reduceNe,Int.reduceLT,Int.reduceLE,Nat.reduceEqDiff,Nat.reduceAdd,reduceIte,reduceCtorEq,Nat.reduceLT,Nat.reduceLeDiff,Nat.reduceShiftRight,Nat.reduceMod]
   refine W_loop (t:=.mk) (α:=PSigma fun p:Nat × Nat=>Nat.gcd p.1 p.2=g∧0<p.1∧p.1+p.2≤m+n∧(p.1 % 2=1∨p.2 % 2=1)) (fun ⟨p,_⟩=>(envOf [(2,.ptr 2 0 0),(3,.ptr 3 0 0),(4,.ptr 4 0 0),(5,.int .i64 k)],stOf [(2,⟨188,3,[wdA false p.1]⟩),(3,⟨188,3,[wdA false p.2]⟩),(4,⟨188,3,[.agg [.bool false,.int .u64 0,.int .u64 0]]⟩)])) (fun x=>x.1.1+x.1.2) ⟨(x,y),hg.symm,hx0,by simp only;omega,by simp only;omega⟩ ?_ (fun ⟨⟨u,v⟩,ug,u0,us,up⟩=>?_)
   ·refine weakX [] (of_decide_eq_true rfl) (of_decide_eq_true rfl) ?_
    (simp only [wdA,vcW,vZ,Int.reduceEq,Int.reduceNe,Int.reduceLT,Int.reduceLE,Nat.reduceEqDiff,Nat.reduceAdd,reduceIte,reduceCtorEq,Nat.reduceLT,Nat.reduceLeDiff,Nat.reduceShiftRight,Nat.reduceMod])
    (repeat' first | exact trivial | (with_reducible first | exact RnB.fxB (ints_fxB _) | rfl | refine And.intro ?_ ?_) | (with_reducible (first | refine RnB.bb ?_ | refine RnB.nb ?_);simp only [vcW,vZ,Int.reduceEq,Int.reduceNe,Int.reduceLT,Int.reduceLE,Nat.reduceEqDiff,Nat.reduceAdd,reduceIte,reduceCtorEq,Nat.reduceLT,Nat.reduceLeDiff,Nat.reduceShiftRight,Nat.reduceMod]) | (with_reducible first | refine RnB.ii ?_ | refine RnB.app ?_) | (with_reducible refine RnB.fxB ?_;simp only [vcW,vZ,Int.reduceEq,Int.reduceNe,Int.reduceLT,Int.reduceLE,Nat.reduceEqDiff,Nat.reduceAdd,reduceIte,reduceCtorEq,Nat.reduceLT,Nat.reduceLeDiff,Nat.reduceShiftRight,Nat.reduceMod]) | omega)
   ·dsimp only at ug u0 us up ⊢
    have hzv:=isZero_s false v (by unfold W128;omega)
    unfold wdA at hzv ⊢
    simp only [vZ,Int.reduceEq,Int.reduceNe,Int.reduceLT,Int.reduceLE,Nat.reduceEqDiff,Nat.reduceAdd,reduceIte,reduceCtorEq,Nat.reduceLT,Nat.reduceLeDiff,Nat.reduceShiftRight,Nat.reduceMod]
    refine callS_of hzv ?_
    by_cases v0:v=0
    ·rw [decide_eq_true v0]
     have hug:u=g:=by rw [← ug,v0,Nat.gcd_zero_right]
     rw [hug]
     simp only [vZ,Int.reduceEq,Int.reduceNe,Int.reduceLT,Int.reduceLE,Nat.reduceEqDiff,Nat.reduceAdd,reduceIte,reduceCtorEq,Nat.reduceLT,Nat.reduceLeDiff,Nat.reduceShiftRight,Nat.reduceMod]
     refine W_loop (t:=.mk) (α:=PSigma fun j:Nat=>j≤k) (fun ⟨j,_⟩=>(envOf [(2,.ptr 2 0 0),(4,.ptr 4 0 0),(53,.int .i64 k),(54,.int .i64 j)],stOf [(2,⟨188,3,[wdA false (g * 2 ^ j)]⟩),(4,⟨188,3,[.agg [.bool false,.int .u64 0,.int .u64 0]]⟩)])) (fun x=>k - x.1) ⟨0,Nat.zero_le _⟩ ?_ (fun ⟨j,hj⟩=>?_)
     ·refine weakX [] (of_decide_eq_true rfl) (of_decide_eq_true rfl) ?_
      (simp only [wdA,Nat.pow_zero,Nat.mul_one,vcW,vZ,Int.reduceEq,Int.reduceNe,Int.reduceLT,Int.reduceLE,Nat.reduceEqDiff,Nat.reduceAdd,reduceIte,reduceCtorEq,Nat.reduceLT,Nat.reduceLeDiff,Nat.reduceShiftRight,Nat.reduceMod])
      (repeat' first | exact trivial | (with_reducible first | exact RnB.fxB (ints_fxB _) | rfl | refine And.intro ?_ ?_) | (with_reducible (first | refine RnB.bb ?_ | refine RnB.nb ?_);simp only [vcW,vZ,Int.reduceEq,Int.reduceNe,Int.reduceLT,Int.reduceLE,Nat.reduceEqDiff,Nat.reduceAdd,reduceIte,reduceCtorEq,Nat.reduceLT,Nat.reduceLeDiff,Nat.reduceShiftRight,Nat.reduceMod]) | (with_reducible first | refine RnB.ii ?_ | refine RnB.app ?_) | (with_reducible refine RnB.fxB ?_;simp only [vcW,vZ,Int.reduceEq,Int.reduceNe,Int.reduceLT,Int.reduceLE,Nat.reduceEqDiff,Nat.reduceAdd,reduceIte,reduceCtorEq,Nat.reduceLT,Nat.reduceLeDiff,Nat.reduceShiftRight,Nat.reduceMod]) | omega)
     ·dsimp only at hj ⊢
      by_cases hjk:j<k
      ·have hjk':(j:Int)<k:=by omega
       have hdb:g * 2 ^ j+g * 2 ^ j=g * 2 ^ (j+1):=by rw [Nat.pow_succ,← Nat.mul_assoc];omega
       have hle:g * 2 ^ (j+1)≤g * 2 ^ k:=Nat.mul_le_mul_left _ (Nat.pow_le_pow_right (by omega) (by omega))
       have ht:=twice_s false (g * 2 ^ j) (by unfold W128;omega)
       rw [hdb] at ht
       unfold wdA at ht ⊢
       simp only [hjk',vZ,Int.reduceEq,Int.reduceNe,Int.reduceLT,Int.reduceLE,Nat.reduceEqDiff,Nat.reduceAdd,reduceIte,reduceCtorEq,Nat.reduceLT,Nat.reduceLeDiff,Nat.reduceShiftRight,Nat.reduceMod]
       refine callS_of ht ?_
       simp only [vZ,Int.reduceEq,Int.reduceNe,Int.reduceLT,Int.reduceLE,Nat.reduceEqDiff,Nat.reduceAdd,reduceIte,reduceCtorEq,Nat.reduceLT,Nat.reduceLeDiff,Nat.reduceShiftRight,Nat.reduceMod]
       (repeat (with_reducible refine And.intro ?_ ?_;focus (first | omega | (unfold I64;omega))))
       refine ⟨⟨j+1,hjk⟩,by simp only;omega,?_⟩
       refine weakX [] (of_decide_eq_true rfl) (of_decide_eq_true rfl) ?_
       (simp only [wdA,vcW,vZ,Int.reduceEq,Int.reduceNe,Int.reduceLT,Int.reduceLE,Nat.reduceEqDiff,Nat.reduceAdd,reduceIte,reduceCtorEq,Nat.reduceLT,Nat.reduceLeDiff,Nat.reduceShiftRight,Nat.reduceMod])
       (repeat' first | exact trivial | (with_reducible first | exact RnB.fxB (ints_fxB _) | rfl | refine And.intro ?_ ?_) | (with_reducible (first | refine RnB.bb ?_ | refine RnB.nb ?_);simp only [vcW,vZ,Int.reduceEq,Int.reduceNe,Int.reduceLT,Int.reduceLE,Nat.reduceEqDiff,Nat.reduceAdd,reduceIte,reduceCtorEq,Nat.reduceLT,Nat.reduceLeDiff,Nat.reduceShiftRight,Nat.reduceMod]) | (with_reducible first | refine RnB.ii ?_ | refine RnB.app ?_) | (with_reducible refine RnB.fxB ?_;simp only [vcW,vZ,Int.reduceEq,Int.reduceNe,Int.reduceLT,Int.reduceLE,Nat.reduceEqDiff,Nat.reduceAdd,reduceIte,reduceCtorEq,Nat.reduceLT,Nat.reduceLeDiff,Nat.reduceShiftRight,Nat.reduceMod]) | omega)
      ·have hjk':¬ (j:Int)<k:=by omega
       have:j=k:=by omega
       subst this
       unfold wdA
       simp only [hjk',vZ,Int.reduceEq,Int.reduceNe,Int.reduceLT,Int.reduceLE,Nat.reduceEqDiff,Nat.reduceAdd,reduceIte,reduceCtorEq,Nat.reduceLT,Nat.reduceLeDiff,Nat.reduceShiftRight,Nat.reduceMod]
    ·rw [decide_eq_false v0]
     simp only [vZ,Int.reduceEq,Int.reduceNe,Int.reduceLT,Int.reduceLE,Nat.reduceEqDiff,Nat.reduceAdd,reduceIte,reduceCtorEq,Nat.reduceLT,Nat.reduceLeDiff,Nat.reduceShiftRight,Nat.reduceMod]
     refine W_loop (t:=.mk) (α:=PSigma fun u':Nat=>Nat.gcd u' v=g∧0<u'∧u'≤u∧(u' % 2=1∨v % 2=1)) (fun ⟨u',_⟩=>(envOf [(2,.ptr 2 0 0),(3,.ptr 3 0 0),(4,.ptr 4 0 0),(5,.int .i64 k)],stOf [(2,⟨188,3,[wdA false u']⟩),(3,⟨188,3,[wdA false v]⟩),(4,⟨188,3,[.agg [.bool false,.int .u64 0,.int .u64 0]]⟩)])) (fun x=>x.1) ⟨u,ug,u0,Nat.le_refl _,up⟩ ?_ (fun ⟨u',ug',u0',us',up'⟩=>?_)
     ·refine weakX [] (of_decide_eq_true rfl) (of_decide_eq_true rfl) ?_
      (simp only [wdA,vcW,vZ,Int.reduceEq,Int.reduceNe,Int.reduceLT,Int.reduceLE,Nat.reduceEqDiff,Nat.reduceAdd,reduceIte,reduceCtorEq,Nat.reduceLT,Nat.reduceLeDiff,Nat.reduceShiftRight,Nat.reduceMod])
      (repeat' first | exact trivial | (with_reducible first | exact RnB.fxB (ints_fxB _) | rfl | refine And.intro ?_ ?_) | (with_reducible (first | refine RnB.bb ?_ | refine RnB.nb ?_);simp only [vcW,vZ,Int.reduceEq,Int.reduceNe,Int.reduceLT,Int.reduceLE,Nat.reduceEqDiff,Nat.reduceAdd,reduceIte,reduceCtorEq,Nat.reduceLT,Nat.reduceLeDiff,Nat.reduceShiftRight,Nat.reduceMod]) | (with_reducible first | refine RnB.ii ?_ | refine RnB.app ?_) | (with_reducible refine RnB.fxB ?_;simp only [vcW,vZ,Int.reduceEq,Int.reduceNe,Int.reduceLT,Int.reduceLE,Nat.reduceEqDiff,Nat.reduceAdd,reduceIte,reduceCtorEq,Nat.reduceLT,Nat.reduceLeDiff,Nat.reduceShiftRight,Nat.reduceMod]) | omega)
     ·dsimp only at ug' u0' us' up' ⊢
      have ha:=and_1 _ (low u')
      rw [mod_low] at ha
      by_cases hu:u' % 2=0
      ·have hc:((u' % 2:Nat):Int)=0:=by omega
       have hh:=half_s false u' (by unfold W128;omega)
       unfold wdA at hh ⊢
       simp only [ha,hc,vZ,Int.reduceEq,Int.reduceNe,Int.reduceLT,Int.reduceLE,Nat.reduceEqDiff,Nat.reduceAdd,reduceIte,reduceCtorEq,Nat.reduceLT,Nat.reduceLeDiff,Nat.reduceShiftRight,Nat.reduceMod]
       refine callS_of hh ?_
       simp only [vZ,Int.reduceEq,Int.reduceNe,Int.reduceLT,Int.reduceLE,Nat.reduceEqDiff,Nat.reduceAdd,reduceIte,reduceCtorEq,Nat.reduceLT,Nat.reduceLeDiff,Nat.reduceShiftRight,Nat.reduceMod]
       refine ⟨⟨u' / 2,by rw [gcd_half_l hu (by omega)];exact ug',by omega,by omega,by omega⟩,by simp only;omega,?_⟩
       refine weakX [] (of_decide_eq_true rfl) (of_decide_eq_true rfl) ?_
       (simp only [wdA,vcW,vZ,Int.reduceEq,Int.reduceNe,Int.reduceLT,Int.reduceLE,Nat.reduceEqDiff,Nat.reduceAdd,reduceIte,reduceCtorEq,Nat.reduceLT,Nat.reduceLeDiff,Nat.reduceShiftRight,Nat.reduceMod])
       (repeat' first | exact trivial | (with_reducible first | exact RnB.fxB (ints_fxB _) | rfl | refine And.intro ?_ ?_) | (with_reducible (first | refine RnB.bb ?_ | refine RnB.nb ?_);simp only [vcW,vZ,Int.reduceEq,Int.reduceNe,Int.reduceLT,Int.reduceLE,Nat.reduceEqDiff,Nat.reduceAdd,reduceIte,reduceCtorEq,Nat.reduceLT,Nat.reduceLeDiff,Nat.reduceShiftRight,Nat.reduceMod]) | (with_reducible first | refine RnB.ii ?_ | refine RnB.app ?_) | (with_reducible refine RnB.fxB ?_;simp only [vcW,vZ,Int.reduceEq,Int.reduceNe,Int.reduceLT,Int.reduceLE,Nat.reduceEqDiff,Nat.reduceAdd,reduceIte,reduceCtorEq,Nat.reduceLT,Nat.reduceLeDiff,Nat.reduceShiftRight,Nat.reduceMod]) | omega)
      ·have hc:¬ ((u' % 2:Nat):Int)=0:=by omega
       unfold wdA
       simp only [ha,hc,vZ,Int.reduceEq,Int.reduceNe,Int.reduceLT,Int.reduceLE,Nat.reduceEqDiff,Nat.reduceAdd,reduceIte,reduceCtorEq,Nat.reduceLT,Nat.reduceLeDiff,Nat.reduceShiftRight,Nat.reduceMod]
       refine W_loop (t:=.mk) (α:=PSigma fun v':Nat=>Nat.gcd u' v'=g∧0<v'∧v'≤v) (fun ⟨v',_⟩=>(envOf [(2,.ptr 2 0 0),(3,.ptr 3 0 0),(4,.ptr 4 0 0),(5,.int .i64 k)],stOf [(2,⟨188,3,[wdA false u']⟩),(3,⟨188,3,[wdA false v']⟩),(4,⟨188,3,[.agg [.bool false,.int .u64 0,.int .u64 0]]⟩)])) (fun x=>x.1) ⟨v,ug',by omega,Nat.le_refl _⟩ ?_ (fun ⟨v',vg',v0',vs'⟩=>?_)
       ·refine weakX [] (of_decide_eq_true rfl) (of_decide_eq_true rfl) ?_
        (simp only [wdA,vcW,vZ,Int.reduceEq,Int.reduceNe,Int.reduceLT,Int.reduceLE,Nat.reduceEqDiff,Nat.reduceAdd,reduceIte,reduceCtorEq,Nat.reduceLT,Nat.reduceLeDiff,Nat.reduceShiftRight,Nat.reduceMod])
        (repeat' first | exact trivial | (with_reducible first | exact RnB.fxB (ints_fxB _) | rfl | refine And.intro ?_ ?_) | (with_reducible (first | refine RnB.bb ?_ | refine RnB.nb ?_);simp only [vcW,vZ,Int.reduceEq,Int.reduceNe,Int.reduceLT,Int.reduceLE,Nat.reduceEqDiff,Nat.reduceAdd,reduceIte,reduceCtorEq,Nat.reduceLT,Nat.reduceLeDiff,Nat.reduceShiftRight,Nat.reduceMod]) | (with_reducible first | refine RnB.ii ?_ | refine RnB.app ?_) | (with_reducible refine RnB.fxB ?_;simp only [vcW,vZ,Int.reduceEq,Int.reduceNe,Int.reduceLT,Int.reduceLE,Nat.reduceEqDiff,Nat.reduceAdd,reduceIte,reduceCtorEq,Nat.reduceLT,Nat.reduceLeDiff,Nat.reduceShiftRight,Nat.reduceMod]) | omega)
       ·dsimp only at vg' v0' vs' ⊢
        have hb:=and_1 _ (low v')
        rw [mod_low] at hb
        by_cases hv:v' % 2=0
        ·have hd:((v' % 2:Nat):Int)=0:=by omega
         have hh:=half_s false v' (by unfold W128;omega)
         unfold wdA at hh ⊢
         simp only [hb,hd,vZ,Int.reduceEq,Int.reduceNe,Int.reduceLT,Int.reduceLE,Nat.reduceEqDiff,Nat.reduceAdd,reduceIte,reduceCtorEq,Nat.reduceLT,Nat.reduceLeDiff,Nat.reduceShiftRight,Nat.reduceMod]
         refine callS_of hh ?_
         simp only [vZ,Int.reduceEq,Int.reduceNe,Int.reduceLT,Int.reduceLE,Nat.reduceEqDiff,Nat.reduceAdd,reduceIte,reduceCtorEq,Nat.reduceLT,Nat.reduceLeDiff,Nat.reduceShiftRight,Nat.reduceMod]
         refine ⟨⟨v' / 2,by rw [gcd_half_r (by omega) hv];exact vg',by omega,by omega⟩,by simp only;omega,?_⟩
         refine weakX [] (of_decide_eq_true rfl) (of_decide_eq_true rfl) ?_
         (simp only [wdA,vcW,vZ,Int.reduceEq,Int.reduceNe,Int.reduceLT,Int.reduceLE,Nat.reduceEqDiff,Nat.reduceAdd,reduceIte,reduceCtorEq,Nat.reduceLT,Nat.reduceLeDiff,Nat.reduceShiftRight,Nat.reduceMod])
         (repeat' first | exact trivial | (with_reducible first | exact RnB.fxB (ints_fxB _) | rfl | refine And.intro ?_ ?_) | (with_reducible (first | refine RnB.bb ?_ | refine RnB.nb ?_);simp only [vcW,vZ,Int.reduceEq,Int.reduceNe,Int.reduceLT,Int.reduceLE,Nat.reduceEqDiff,Nat.reduceAdd,reduceIte,reduceCtorEq,Nat.reduceLT,Nat.reduceLeDiff,Nat.reduceShiftRight,Nat.reduceMod]) | (with_reducible first | refine RnB.ii ?_ | refine RnB.app ?_) | (with_reducible refine RnB.fxB ?_;simp only [vcW,vZ,Int.reduceEq,Int.reduceNe,Int.reduceLT,Int.reduceLE,Nat.reduceEqDiff,Nat.reduceAdd,reduceIte,reduceCtorEq,Nat.reduceLT,Nat.reduceLeDiff,Nat.reduceShiftRight,Nat.reduceMod]) | omega)
        ·have hd:¬ ((v' % 2:Nat):Int)=0:=by omega
         have hL:=isLess_s false false v' u'
         have hN:=fun z=>negated_s false z
         have hP:∀ p q:Nat,q≤p→p≤m+n→Sound Tryz.prog 133 [wdA false p,wdA true q] (wdA false (p - q)):=fun p q h1 h2=>by
          have:=plus_other_s false p q (by unfold W128;omega) (by unfold W128;omega)
          rw [if_neg (by omega)] at this
          exact this
         by_cases hlt:v'<u'
         ·rw [decide_eq_true hlt] at hL
          have hP1:=hP u' v' (by omega) (by omega)
          have hN1:Sound Tryz.prog 179 [wdA false v'] (wdA true v'):=negated_s false v'
          unfold wdA at hL hP1 hN1 ⊢
          simp only [hb,hd,vZ,Int.reduceEq,Int.reduceNe,Int.reduceLT,Int.reduceLE,Nat.reduceEqDiff,Nat.reduceAdd,reduceIte,reduceCtorEq,Nat.reduceLT,Nat.reduceLeDiff,Nat.reduceShiftRight,Nat.reduceMod]
          refine callS_of hL ?_
          simp only [vZ,Int.reduceEq,Int.reduceNe,Int.reduceLT,Int.reduceLE,Nat.reduceEqDiff,Nat.reduceAdd,reduceIte,reduceCtorEq,Nat.reduceLT,Nat.reduceLeDiff,Nat.reduceShiftRight,Nat.reduceMod]
          refine callS_of hN1 ?_
          simp only [vZ,Int.reduceEq,Int.reduceNe,Int.reduceLT,Int.reduceLE,Nat.reduceEqDiff,Nat.reduceAdd,reduceIte,reduceCtorEq,Nat.reduceLT,Nat.reduceLeDiff,Nat.reduceShiftRight,Nat.reduceMod]
          refine callS_of hP1 ?_
          simp only [vZ,Int.reduceEq,Int.reduceNe,Int.reduceLT,Int.reduceLE,Nat.reduceEqDiff,Nat.reduceAdd,reduceIte,reduceCtorEq,Nat.reduceLT,Nat.reduceLeDiff,Nat.reduceShiftRight,Nat.reduceMod]
          refine ⟨⟨(v',u' - v'),?_,v0',by simp only;omega,by simp only;omega⟩,by simp only;omega,?_⟩
          ·simp only;rw [gcd_sub_r (by omega),Nat.gcd_comm];exact vg'
          ·refine weakX [] (of_decide_eq_true rfl) (of_decide_eq_true rfl) ?_
           (simp only [wdA,vcW,vZ,Int.reduceEq,Int.reduceNe,Int.reduceLT,Int.reduceLE,Nat.reduceEqDiff,Nat.reduceAdd,reduceIte,reduceCtorEq,Nat.reduceLT,Nat.reduceLeDiff,Nat.reduceShiftRight,Nat.reduceMod])
           (repeat' first | exact trivial | (with_reducible first | exact RnB.fxB (ints_fxB _) | rfl | refine And.intro ?_ ?_) | (with_reducible (first | refine RnB.bb ?_ | refine RnB.nb ?_);simp only [vcW,vZ,Int.reduceEq,Int.reduceNe,Int.reduceLT,Int.reduceLE,Nat.reduceEqDiff,Nat.reduceAdd,reduceIte,reduceCtorEq,Nat.reduceLT,Nat.reduceLeDiff,Nat.reduceShiftRight,Nat.reduceMod]) | (with_reducible first | refine RnB.ii ?_ | refine RnB.app ?_) | (with_reducible refine RnB.fxB ?_;simp only [vcW,vZ,Int.reduceEq,Int.reduceNe,Int.reduceLT,Int.reduceLE,Nat.reduceEqDiff,Nat.reduceAdd,reduceIte,reduceCtorEq,Nat.reduceLT,Nat.reduceLeDiff,Nat.reduceShiftRight,Nat.reduceMod]) | omega)
         ·rw [decide_eq_false hlt] at hL
          have hP1:=hP v' u' (by omega) (by omega)
          have hN1:Sound Tryz.prog 179 [wdA false u'] (wdA true u'):=negated_s false u'
          unfold wdA at hL hP1 hN1 ⊢
          simp only [hb,hd,vZ,Int.reduceEq,Int.reduceNe,Int.reduceLT,Int.reduceLE,Nat.reduceEqDiff,Nat.reduceAdd,reduceIte,reduceCtorEq,Nat.reduceLT,Nat.reduceLeDiff,Nat.reduceShiftRight,Nat.reduceMod]
          refine callS_of hL ?_
          simp only [vZ,Int.reduceEq,Int.reduceNe,Int.reduceLT,Int.reduceLE,Nat.reduceEqDiff,Nat.reduceAdd,reduceIte,reduceCtorEq,Nat.reduceLT,Nat.reduceLeDiff,Nat.reduceShiftRight,Nat.reduceMod]
          refine callS_of hN1 ?_
          simp only [vZ,Int.reduceEq,Int.reduceNe,Int.reduceLT,Int.reduceLE,Nat.reduceEqDiff,Nat.reduceAdd,reduceIte,reduceCtorEq,Nat.reduceLT,Nat.reduceLeDiff,Nat.reduceShiftRight,Nat.reduceMod]
          refine callS_of hP1 ?_
          simp only [vZ,Int.reduceEq,Int.reduceNe,Int.reduceLT,Int.reduceLE,Nat.reduceEqDiff,Nat.reduceAdd,reduceIte,reduceCtorEq,Nat.reduceLT,Nat.reduceLeDiff,Nat.reduceShiftRight,Nat.reduceMod]
          refine ⟨⟨(u',v' - u'),?_,u0',by simp only;omega,by simp only;omega⟩,by simp only;omega,?_⟩
          ·simp only;rw [gcd_sub_r (by omega)];exact vg'
          ·refine weakX [] (of_decide_eq_true rfl) (of_decide_eq_true rfl) ?_
           (simp only [wdA,vcW,vZ,Int.reduceEq,Int.reduceNe,Int.reduceLT,Int.reduceLE,Nat.reduceEqDiff,Nat.reduceAdd,reduceIte,reduceCtorEq,Nat.reduceLT,Nat.reduceLeDiff,Nat.reduceShiftRight,Nat.reduceMod])
           (repeat' first | exact trivial | (with_reducible first | exact RnB.fxB (ints_fxB _) | rfl | refine And.intro ?_ ?_) | (with_reducible (first | refine RnB.bb ?_ | refine RnB.nb ?_);simp only [vcW,vZ,Int.reduceEq,Int.reduceNe,Int.reduceLT,Int.reduceLE,Nat.reduceEqDiff,Nat.reduceAdd,reduceIte,reduceCtorEq,Nat.reduceLT,Nat.reduceLeDiff,Nat.reduceShiftRight,Nat.reduceMod]) | (with_reducible first | refine RnB.ii ?_ | refine RnB.app ?_) | (with_reducible refine RnB.fxB ?_;simp only [vcW,vZ,Int.reduceEq,Int.reduceNe,Int.reduceLT,Int.reduceLE,Nat.reduceEqDiff,Nat.reduceAdd,reduceIte,reduceCtorEq,Nat.reduceLT,Nat.reduceLeDiff,Nat.reduceShiftRight,Nat.reduceMod]) | omega)
end Go.Proofs.YtpaklfjlbocfcaaGreatDoor

/- The examples of chapter 2,by running the abstract code;an iterator from the end on. By an AI agent;nothing here is trusted. -/
namespace Go.Proofs.YtpaklfjlbocfcaaGreatDoor
open Go.Av

def w128 (p:Bool × Int × Int):AV:=.agg [.bool p.1,.int .u64 p.2.1,.int .u64 p.2.2]
def w128s (l:List (Bool × Int × Int)):List AV:=l.map w128
theorem w128s_length (l:List (Bool × Int × Int)):(w128s l).length=l.length:=by simp [w128s]
theorem w128s_get (l:List (Bool × Int × Int)) (i:Nat) (h:i<l.length):(w128s l)[i]?=some (.agg [.bool l[i].1,.int .u64 l[i].2.1,.int .u64 l[i].2.2]):=by
 simp [w128s,w128,h]
def backL (l:List (Bool × Int × Int)):Nat→List (List AV)
 | 0=>[]
 | k+1=>backL l k ++ [[.int .i64 ((l.length:Int) - 1 - k),w128 (l.getD (l.length - 1 - k) default)]]
theorem backL_le (l:List (Bool × Int × Int)) (k n:Nat) (h:k≤n):∃ r,backL l n=backL l k ++ r:=by
 obtain ⟨m,rfl⟩:=Nat.exists_eq_add_of_le h
 induction m with
 | zero=>exact ⟨[],by simp⟩
 | succ m ih =>
  obtain ⟨r,hr⟩:=ih (by omega)
  exact ⟨r ++ [[.int .i64 ((l.length:Int) - 1 - (k+m:Nat)),w128 (l.getD (l.length - 1 - (k+m)) default)]],by rw [← Nat.add_assoc,backL,hr,List.append_assoc]⟩
theorem deadAll_no:deadAll noStore=noStore:=rfl
theorem backward_s (l:List (Bool × Int × Int)) (hl:l.length≤1000000):SeqA Tryz.prog 222 [.eptr (.sl (w128s l)) 0] (backL l l.length):=by
 refine seq_W f_slices_Backward_pulse_wide_pulse_wide_1 (Nat.le_of_ble_eq_true rfl) fun y=>?_
 simp only [c_slices_Backward_pulse_wide_pulse_wide_1,w128s_length,vcC,Int.reduceEq,Int.reduceNe,Int.reduceLT,Int.reduceLE,Nat.reduceEqDiff,Nat.reduceAdd,reduceIte,reduceCtorEq,Nat.reduceLT,Nat.reduceLeDiff,eq_self,vcP,WY_skip,WY_reg,WY_regY,WY_seq,WY_cond,WY_block,WY_exit,WY_ret,VY_nil,VY_yld,VY_yldg,VY_ps,seqY_n,seqY_r,seqY_x,blockY_n,blockY_r,blockY_x,isCallvs,isCallv,isY,List.any_cons,List.any_nil,Bool.or_false,Bool.or_true,Bool.false_or,Bool.and_false,Bool.false_and]
 refine ⟨by unfold I64;omega,?_⟩
 refine WY_loop (α:=PSigma fun k:Nat=>k≤l.length) (fun k=>((envOf [(0,.yld y),(1,.eptr (.sl (w128s l)) 0),(3,.int .i64 ((l.length:Int) - 1 - k.1))],noStore),some (backL l k.1)))
  (fun k=>l.length - k.1) ⟨0,by simp⟩ (weakE _ ?_) ?_ (fun ⟨k,hk⟩=>?_)
 ·simp only [vcC,Int.reduceEq,Int.reduceNe,Int.reduceLT,Int.reduceLE,Nat.reduceEqDiff,Nat.reduceAdd,reduceIte,reduceCtorEq,Nat.reduceLT,Nat.reduceLeDiff,eq_self,vcP,WY_skip,WY_reg,WY_regY,WY_seq,WY_cond,WY_block,WY_exit,WY_ret,VY_nil,VY_yld,VY_yldg,VY_ps,seqY_n,seqY_r,seqY_x,blockY_n,blockY_r,blockY_x,isCallvs,isCallv,isY,List.any_cons,List.any_nil,Bool.or_false,Bool.or_true,Bool.false_or,Bool.and_false,Bool.false_and];simp
 ·simp [backL]
 ·simp only [vcC,Int.reduceEq,Int.reduceNe,Int.reduceLT,Int.reduceLE,Nat.reduceEqDiff,Nat.reduceAdd,reduceIte,reduceCtorEq,Nat.reduceLT,Nat.reduceLeDiff,eq_self,vcP,WY_skip,WY_reg,WY_regY,WY_seq,WY_cond,WY_block,WY_exit,WY_ret,VY_nil,VY_yld,VY_yldg,VY_ps,seqY_n,seqY_r,seqY_x,blockY_n,blockY_r,blockY_x,isCallvs,isCallv,isY,List.any_cons,List.any_nil,Bool.or_false,Bool.or_true,Bool.false_or,Bool.and_false,Bool.false_and]
  refine brB_split (fun h=>?_) (fun h=>?_)
  ·have h':k<l.length:=by simp only [decide_eq_true_eq] at h;omega
   have h2:((l.length:Int) - 1 - k).toNat=l.length - 1 - k:=by omega
   have hg:=w128s_get l (l.length - 1 - k) (by omega)
   simp only [h2,hg,vcC,Int.reduceEq,Int.reduceNe,Int.reduceLT,Int.reduceLE,Nat.reduceEqDiff,Nat.reduceAdd,reduceIte,reduceCtorEq,Nat.reduceLT,Nat.reduceLeDiff,eq_self,vcP,WY_skip,WY_reg,WY_regY,WY_seq,WY_cond,WY_block,WY_exit,WY_ret,VY_nil,VY_yld,VY_yldg,VY_ps,seqY_n,seqY_r,seqY_x,blockY_n,blockY_r,blockY_x,isCallvs,isCallv,isY,List.any_cons,List.any_nil,Bool.or_false,Bool.or_true,Bool.false_or,Bool.and_false,Bool.false_and]
   refine ⟨by omega,?_⟩
   obtain ⟨rest,hrest⟩:=backL_le l (k+1) l.length h'
   rw [backL,w128,show l.getD (l.length - 1 - k) default=l[l.length - 1 - k]'(by omega) by simp [List.getD,List.getElem?_eq_getElem (show l.length - 1 - k<l.length by omega)]] at hrest
   refine yS_of (backL l k) rest rfl ?_ ?_ ?_
   ·rw [hrest];simp
   ·simp only [deadAll_no,vcC,Int.reduceEq,Int.reduceNe,Int.reduceLT,Int.reduceLE,Nat.reduceEqDiff,Nat.reduceAdd,reduceIte,reduceCtorEq,Nat.reduceLT,Nat.reduceLeDiff,eq_self,vcP,WY_skip,WY_reg,WY_regY,WY_seq,WY_cond,WY_block,WY_exit,WY_ret,VY_nil,VY_yld,VY_yldg,VY_ps,seqY_n,seqY_r,seqY_x,blockY_n,blockY_r,blockY_x,isCallvs,isCallv,isY,List.any_cons,List.any_nil,Bool.or_false,Bool.or_true,Bool.false_or,Bool.and_false,Bool.false_and]
    refine ⟨by unfold I64;omega,⟨k+1,h'⟩,by simp only;omega,weakE _ ?_,?_⟩
    ·simp only [vcC,Int.reduceEq,Int.reduceNe,Int.reduceLT,Int.reduceLE,Nat.reduceEqDiff,Nat.reduceAdd,reduceIte,reduceCtorEq,Nat.reduceLT,Nat.reduceLeDiff,eq_self,vcP,WY_skip,WY_reg,WY_regY,WY_seq,WY_cond,WY_block,WY_exit,WY_ret,VY_nil,VY_yld,VY_yldg,VY_ps,seqY_n,seqY_r,seqY_x,blockY_n,blockY_r,blockY_x,isCallvs,isCallv,isY,List.any_cons,List.any_nil,Bool.or_false,Bool.or_true,Bool.false_or,Bool.and_false,Bool.false_and]
     simp only [AV.int.injEq,true_and,and_true]
     omega
    ·simp only [backL,w128,show l.getD (l.length - 1 - k) default=l[l.length - 1 - k]'(by omega) by simp [List.getD,List.getElem?_eq_getElem (show l.length - 1 - k<l.length by omega)]]
   ·simp only [deadAll_no,vcC,Int.reduceEq,Int.reduceNe,Int.reduceLT,Int.reduceLE,Nat.reduceEqDiff,Nat.reduceAdd,reduceIte,reduceCtorEq,Nat.reduceLT,Nat.reduceLeDiff,eq_self,vcP,WY_skip,WY_reg,WY_regY,WY_seq,WY_cond,WY_block,WY_exit,WY_ret,VY_nil,VY_yld,VY_yldg,VY_ps,seqY_n,seqY_r,seqY_x,blockY_n,blockY_r,blockY_x,isCallvs,isCallv,isY,List.any_cons,List.any_nil,Bool.or_false,Bool.or_true,Bool.false_or,Bool.and_false,Bool.false_and];simp
  ·simp only [vcC,Int.reduceEq,Int.reduceNe,Int.reduceLT,Int.reduceLE,Nat.reduceEqDiff,Nat.reduceAdd,reduceIte,reduceCtorEq,Nat.reduceLT,Nat.reduceLeDiff,eq_self,vcP,WY_skip,WY_reg,WY_regY,WY_seq,WY_cond,WY_block,WY_exit,WY_ret,VY_nil,VY_yld,VY_yldg,VY_ps,seqY_n,seqY_r,seqY_x,blockY_n,blockY_r,blockY_x,isCallvs,isCallv,isY,List.any_cons,List.any_nil,Bool.or_false,Bool.or_true,Bool.false_or,Bool.and_false,Bool.false_and]
   have:k=l.length:=by simp only [decide_eq_false_iff_not,Bool.not_true] at h;omega
   subst this
   simp

def unw:AV→Option (Bool × Int × Int)
 | .agg [.bool a,.int .u64 b,.int .u64 c]=>some (a,b,c)
 | _=>none
def unws:List AV→Option (List (Bool × Int × Int))
 | []=>some []
 | x :: l=>match unw x,unws l with
  | some n,some m=>some (n :: m)
  | _,_=>none
theorem unws_some:∀ {l:List AV} {m:List (Bool × Int × Int)},unws l=some m→l=w128s m
 | [],m,h=>by cases h;rfl
 | x :: l,m,h=>by
  simp only [unws] at h
  split at h
  ·rename_i n k h1 h2
   cases h
   rw [unws_some h2]
   unfold unw at h1
   split at h1
   ·cases h1;rfl
   ·cases h1
  ·cases h
def unint:AV→Option Int
 | .int .i64 n=>some n
 | _=>none
def unints:List AV→Option (List Int)
 | []=>some []
 | x :: l=>match unint x,unints l with
  | some n,some m=>some (n :: m)
  | _,_=>none
theorem unints_some:∀ {l:List AV} {m:List Int},unints l=some m→l=ints m
 | [],m,h=>by cases h;rfl
 | x :: l,m,h=>by
  simp only [unints] at h
  split at h
  ·rename_i n k h1 h2
   cases h
   rw [unints_some h2]
   unfold unint at h1
   split at h1
   ·cases h1;rfl
   ·cases h1
  ·cases h

def itP:IterT:=fun g caps=>if g=222 then (match caps with
 | [.eptr (.sl es) 0]=>(match unws es with
  | some l=>if l.length≤1000000 then some (backL l l.length) else none
  | none=>none)
 | _=>none) else none
theorem itP_ok:∀ g caps xs,itP g caps=some xs→SeqA Tryz.prog g caps xs:=by
 intro g caps xs h
 unfold itP at h
 split at h
 ·rename_i hg
  subst hg
  split at h
  ·rename_i es
   split at h
   ·rename_i l hl
    split at h
    ·rename_i hc
     cases h
     rw [unws_some hl]
     exact backward_s l hc
    ·cases h
   ·cases h
  ·cases h
 ·cases h
def extV:CallT:=fun f a =>
 if f=112 then (match a with
  | [.sl es]=>(match unints es with
   | some l=>if l.length≤1000000 then some (.sl es) else none
   | none=>none)
  | _=>none)
 else if f=183 then (match a with
  | [.int .u64 x,.int .u64 y,.int .u64 c]=>if 0≤x∧0≤y∧0≤c∧c≤1 then some (.tup [.int .u64 ((x+y+c) % 18446744073709551616),.int .u64 ((x+y+c) / 18446744073709551616)]) else none
  | _=>none)
 else if f=184 then (match a with
  | [.int .u64 x,.int .u64 y,.int .u64 c]=>if 0≤x∧0≤y∧0≤c∧c≤1 then some (.tup [.int .u64 (((x.toNat+18446744073709551616 - y.toNat - c.toNat) % 18446744073709551616:Nat):Int),.int .u64 ((if x.toNat<y.toNat+c.toNat then 1 else 0:Nat):Int)]) else none
  | _=>none)
 else none
theorem extV_ok:∀ f a v,extV f a=some v→Sound Tryz.prog f a v:=by
 intro f a v h
 unfold extV at h
 split at h
 ·rename_i hf
  subst hf
  split at h
  ·rename_i es
   split at h
   ·rename_i l hl
    split at h
    ·rename_i hc
     cases h
     rw [unints_some hl]
     exact Clone_s l (by omega)
    ·cases h
   ·cases h
  ·cases h
 ·split at h
  ·rename_i hf
   subst hf
   split at h
   ·rename_i x y c
    split at h
    ·rename_i hc
     cases h
     exact Add64_s x y c hc.1 hc.2.1 hc.2.2
    ·cases h
   ·cases h
  ·split at h
   ·rename_i hf
    subst hf
    split at h
    ·rename_i x y c
     split at h
     ·rename_i hc
      cases h
      have:=Sub64_s x.toNat y.toNat c.toNat (by omega)
      rw [show ((x.toNat:Nat):Int)=x by omega,show ((y.toNat:Nat):Int)=y by omega,show ((c.toNat:Nat):Int)=c by omega] at this
      exact this
     ·cases h
    ·cases h
   ·cases h
def extO:OwnT:=fun f a=>if f=112 then (match a with
  | [.sl es]=>(match unints es with
   | some l=>if l.length≤1000000 then some (3,1,es) else none
   | none=>none)
  | _=>none) else none
theorem extO_ok:∀ f a q,extO f a=some q→SoundO Tryz.prog f a q.1 q.2.1 q.2.2:=by
 intro f a q h
 unfold extO at h
 split at h
 ·rename_i hf
  subst hf
  split at h
  ·rename_i es
   split at h
   ·rename_i l hl
    split at h
    ·rename_i hc
     cases h
     rw [unints_some hl]
     exact Clone_o l (by omega)
    ·cases h
   ·cases h
  ·cases h
 ·cases h
def extP:CT:=⟨extV,extO⟩
theorem extP_ok:extP.ok Tryz.prog:=⟨extV_ok,extO_ok⟩
def owP:FuncId→Bool:=fun f=>decide (f=112) || decide (f=122)
end Go.Proofs.YtpaklfjlbocfcaaGreatDoor

/- Quotients of numbers of 128 bits. By an AI agent;nothing here is trusted. -/
namespace Go.Proofs.YtpaklfjlbocfcaaGreatDoor
open Go.Av

theorem Backward_s (l:List (Bool × Int × Int)):Sound Tryz.prog 207 [.sl (w128s l)] (.fn 222 [.eptr (.sl (w128s l)) 0]):=by
 refine sound_W f_slices_Backward_pulse_wide_pulse_wide (Nat.le_of_ble_eq_true rfl) ?_
 simp only [c_slices_Backward_pulse_wide_pulse_wide,vZ,Int.reduceEq,Int.reduceNe,Int.reduceLT,Int.reduceLE,Nat.reduceEqDiff,Nat.reduceAdd,reduceIte,reduceCtorEq,Nat.reduceLT,Nat.reduceLeDiff,Nat.reduceShiftRight,Nat.reduceMod]
def pwl (d n:Nat):List (Bool × Int × Int):=(List.range n).map fun i=>(false,((d * 2 ^ i / 18446744073709551616:Nat):Int),((d * 2 ^ i % 18446744073709551616:Nat):Int))
theorem pwl_len (d n:Nat):(pwl d n).length=n:=by simp [pwl]
theorem pwl_get (d n i:Nat) (h:i<n):(w128s (pwl d n))[i]?=some (wdA false (d * 2 ^ i)):=by
 simp [w128s,pwl,w128,wdA,h]
theorem pwl_getD (d n i:Nat) (h:i<n):w128 ((pwl d n).getD i default)=wdA false (d * 2 ^ i):=by
 simp [pwl,w128,wdA,h,List.getD]
theorem w128s_imm (l:List (Bool × Int × Int)):(w128s l).all imm=true:=List.all_eq_true.2 fun x hx=>by
 obtain ⟨y,_,rfl⟩:=List.mem_map.1 hx;rfl
theorem pwl_succ (d n:Nat):w128s (pwl d n) ++ [wdA false (d * 2 ^ n)]=w128s (pwl d (n+1)):=by
 simp [w128s,pwl,w128,wdA,List.range_succ]
theorem pwl_fxB (d n:Nat):(w128s (pwl d n)).all fx=true:=List.all_eq_true.2 fun x hx=>by
 obtain ⟨y,_,rfl⟩:=List.mem_map.1 hx;rfl
def ovS (m d n:Nat):Nat→Nat × Nat
 | 0=>(m,0)
 | j+1=>let p:=ovS m d n j
  if p.1<d * 2 ^ (n - 1 - j) then (p.1,p.2+p.2) else (p.1 - d * 2 ^ (n - 1 - j),p.2+p.2+1)
theorem ovS_inv {m d n:Nat} (hn:m<d * 2 ^ n):∀ j,j≤n→(ovS m d n j).2 * (d * 2 ^ (n - j))+(ovS m d n j).1=m∧(ovS m d n j).1<d * 2 ^ (n - j)
 | 0,_=>by simp [ovS,hn]
 | j+1,h=>by
  obtain ⟨h1,h2⟩:=ovS_inv hn j (by omega)
  have e:n - j=(n - 1 - j)+1:=by omega
  have e2:n - (j+1)=n - 1 - j:=by omega
  rw [e2]
  have hd:d * 2 ^ (n - j)=2 * (d * 2 ^ (n - 1 - j)):=by rw [e,Nat.pow_succ];grind
  rw [hd] at h1 h2
  obtain ⟨D,hD⟩:∃ D,D=d * 2 ^ (n - 1 - j):=⟨_,rfl⟩
  rw [← hD] at h1 h2 ⊢
  unfold ovS
  simp only [← hD]
  clear hD hd
  generalize ovS m d n j=p at *
  obtain ⟨r,q⟩:=p
  simp only at h1 h2 ⊢
  by_cases g:r<D
  ·rw [if_pos g];simp only;constructor
   ·grind
   ·exact g
  ·rw [if_neg g];simp only;constructor
   ·have:r - D+D=r:=by omega
    grind
   ·omega
theorem ovS_end {m d n:Nat} (hn:m<d * 2 ^ n) (hd:0<d):(ovS m d n n).2=m / d:=by
 obtain ⟨h1,h2⟩:=ovS_inv hn n (Nat.le_refl _)
 rw [Nat.sub_self,Nat.pow_zero,Nat.mul_one] at h1 h2
 obtain ⟨p,hp⟩:∃ p,p=ovS m d n n:=⟨_,rfl⟩
 rw [← hp] at h1 h2 ⊢
 rw [← h1,Nat.add_comm,Nat.add_mul_div_right _ _ hd,Nat.div_eq_of_lt h2,Nat.zero_add]
theorem ovS_le {m d n:Nat} (hn:m<d * 2 ^ n) (hd:0<d) {j:Nat} (hj:j≤n):(ovS m d n j).1≤m∧(ovS m d n j).2≤m:=by
 obtain ⟨h1,h2⟩:=ovS_inv hn j hj
 have:(ovS m d n j).2≤(ovS m d n j).2 * (d * 2 ^ (n - j)):=Nat.le_mul_of_pos_right _ (Nat.mul_pos hd (Nat.two_pow_pos _))
 omega
theorem backL_len (l:List (Bool × Int × Int)):∀ n,(backL l n).length=n
 | 0=>rfl
 | n+1=>by rw [backL,List.length_append,backL_len l n];rfl
theorem backL_get (l:List (Bool × Int × Int)):∀ {n j:Nat} (h:j<(backL l n).length),(backL l n)[j]=[.int .i64 ((l.length:Int) - 1 - j),w128 (l.getD (l.length - 1 - j) default)]
 | 0,j,h=>by simp [backL] at h
 | n+1,j,h=>by
  rw [backL_len] at h
  by_cases e:j<n
  ·have:=backL_get l (n:=n) (j:=j) (by rw [backL_len];exact e)
   rw [← this]
   simp only [backL]
   exact List.getElem_append_left _
  ·have:j=n:=by omega
   subst this
   simp only [backL]
   rw [List.getElem_append_right (by rw [backL_len];exact Nat.le_refl _)]
   simp [backL_len]
theorem at_prefix2 {β:Type} {L pre:List β} {x:β} {rest:List β} (h:pre ++ x :: rest=L):∃ hk:pre.length<L.length,x=L[pre.length]:=by
 subst h
 exact ⟨by simp,by simp⟩
theorem over_s (a:Bool) (m d:Nat) (hm:W128 (m+m)) (hd:0<d) (hdd:W128 (d+d)):Sound Tryz.prog 182 [wdA a m,wdA false d] (wdA false (m / d)):=by
 refine sound_W f_pulse_wide_over (Nat.le_of_ble_eq_true rfl) ?_
 have hs1:=size_s a m
 unfold W128 at hm hdd
 have hmax:=maxLen_big
 have hpos:∀ i:Nat,0<2 ^ i:=Nat.two_pow_pos
 unfold wdA at hs1 ⊢
 simp only [c_pulse_wide_over,vZ,Int.reduceEq,Int.reduceNe,Int.reduceLT,Int.reduceLE,Nat.reduceEqDiff,Nat.reduceAdd,reduceIte,reduceCtorEq,Nat.reduceLT,Nat.reduceLeDiff,Nat.reduceShiftRight,Nat.reduceMod]
 refine callS_of hs1 ?_
 simp only [vZ,Int.reduceEq,Int.reduceNe,Int.reduceLT,Int.reduceLE,Nat.reduceEqDiff,Nat.reduceAdd,reduceIte,reduceCtorEq,Nat.reduceLT,Nat.reduceLeDiff,Nat.reduceShiftRight,Nat.reduceMod]
 refine W_loop (t:=.mk) (α:=PSigma fun i:Nat=>d * 2 ^ i≤m∨i=0) (fun ⟨i,_⟩=>(envOf [(2,.ptr 2 0 0),(4,.ptr 4 0 0),(5,.ptr 5 0 0),(6,.buf 100 (i+1))],stOf [(2,⟨188,3,[wdA false m]⟩),(4,⟨188,3,[.agg [.bool false,.int .u64 0,.int .u64 0]]⟩),(5,⟨188,3,[.agg [.bool false,.int .u64 0,.int .u64 0]]⟩),(100,⟨188,3,w128s (pwl d (i+1))⟩)])) (fun x=>m - x.1) ⟨0,Or.inr rfl⟩ ?_ (fun ⟨i,hi⟩=>?_)
 ·have z:w128s (pwl d (0+1))=[wdA false d]:=by simp [pwl,w128s,w128,wdA]
  refine weakX [(100,some 12)] (of_decide_eq_true rfl) (of_decide_eq_true rfl) ?_
  (simp only [z,wdA,vcW,vZ,Int.reduceEq,Int.reduceNe,Int.reduceLT,Int.reduceLE,Nat.reduceEqDiff,Nat.reduceAdd,reduceIte,reduceCtorEq,Nat.reduceLT,Nat.reduceLeDiff,Nat.reduceShiftRight,Nat.reduceMod])
  (repeat' first | exact trivial | (with_reducible first | exact RnB.fxB (ints_fxB _) | rfl | refine And.intro ?_ ?_) | (with_reducible (first | refine RnB.bb ?_ | refine RnB.nb ?_);simp only [vcW,vZ,Int.reduceEq,Int.reduceNe,Int.reduceLT,Int.reduceLE,Nat.reduceEqDiff,Nat.reduceAdd,reduceIte,reduceCtorEq,Nat.reduceLT,Nat.reduceLeDiff,Nat.reduceShiftRight,Nat.reduceMod]) | (with_reducible first | refine RnB.ii ?_ | refine RnB.app ?_) | (with_reducible refine RnB.fxB ?_;simp only [vcW,vZ,Int.reduceEq,Int.reduceNe,Int.reduceLT,Int.reduceLE,Nat.reduceEqDiff,Nat.reduceAdd,reduceIte,reduceCtorEq,Nat.reduceLT,Nat.reduceLeDiff,Nat.reduceShiftRight,Nat.reduceMod]) | omega)
 ·dsimp only at hi ⊢
  have hle:d * 2 ^ i≤m∨d * 2 ^ i=d:=by
   rcases hi with h | h
   ·exact .inl h
   ·right;rw [h,Nat.pow_zero,Nat.mul_one]
  have hsu:d * 2 ^ i+d * 2 ^ i=d * 2 ^ (i+1):=by rw [Nat.pow_succ,← Nat.mul_assoc];omega
  have him:i≤127:=by
   refine Classical.byContradiction fun h=>?_
   have h1:2 ^ 128≤2 ^ i:=Nat.pow_le_pow_right (by omega) (by omega)
   have h2:2 ^ i≤d * 2 ^ i:=Nat.le_mul_of_pos_left _ hd
   have h3:(2:Nat) ^ 128=340282366920938463463374607431768211456:=by decide
   omega
  have ht:=twice_s false (d * 2 ^ i) (by unfold W128;omega)
  have hL:=isLess_s false false m (d * 2 ^ i+d * 2 ^ i)
  have hg:=pwl_get d (i+1) i (by omega)
  have hwl:(w128s (pwl d (i+1))).length=i+1:=by rw [w128s_length,pwl_len]
  have hix:(((i+1:Nat):Int) - 1).toNat=i:=by omega
  rw [hsu] at ht hL
  unfold wdA at ht hL hg ⊢
  by_cases hlt:m<d * 2 ^ (i+1)
  ·rw [decide_eq_true hlt] at hL
   simp only [hg,hwl,hix,vZ,Int.reduceEq,Int.reduceNe,Int.reduceLT,Int.reduceLE,Nat.reduceEqDiff,Nat.reduceAdd,reduceIte,reduceCtorEq,Nat.reduceLT,Nat.reduceLeDiff,Nat.reduceShiftRight,Nat.reduceMod]
   (repeat (with_reducible refine And.intro ?_ ?_;focus (first | omega | (unfold I64;omega))))
   refine callS_of ht ?_
   simp only [vZ,Int.reduceEq,Int.reduceNe,Int.reduceLT,Int.reduceLE,Nat.reduceEqDiff,Nat.reduceAdd,reduceIte,reduceCtorEq,Nat.reduceLT,Nat.reduceLeDiff,Nat.reduceShiftRight,Nat.reduceMod]
   refine callS_of hL ?_
   simp only [vZ,Int.reduceEq,Int.reduceNe,Int.reduceLT,Int.reduceLE,Nat.reduceEqDiff,Nat.reduceAdd,reduceIte,reduceCtorEq,Nat.reduceLT,Nat.reduceLeDiff,Nat.reduceShiftRight,Nat.reduceMod]
   rw [borB_good _ _ _ _ _ hwl.symm (List.all_eq_true.1 (pwl_fxB d (i+1)))]
   refine callS_of (Backward_s (pwl d (i+1))) ?_
   simp only [vZ,Int.reduceEq,Int.reduceNe,Int.reduceLT,Int.reduceLE,Nat.reduceEqDiff,Nat.reduceAdd,reduceIte,reduceCtorEq,Nat.reduceLT,Nat.reduceLeDiff,Nat.reduceShiftRight,Nat.reduceMod]
   obtain ⟨st,hst⟩:∃ st:List (List AV)→Store,st=fun pre=>stOf [(2,⟨188,3,[wdA false (ovS m d (i+1) pre.length).1]⟩),(4,⟨188,3,[.agg [.bool false,.int .u64 0,.int .u64 0]]⟩),(5,⟨188,3,[wdA false (ovS m d (i+1) pre.length).2]⟩)]:=⟨_,rfl⟩
   refine W_weakR (t:=.mk) (envOf [(2,.ptr 2 0 0),(4,.ptr 4 0 0),(5,.ptr 5 0 0),(34,.fn 222 [.eptr (.sl (w128s (pwl d (i+1)))) 0])],st []) ?_ ?_
   ·subst hst
    have z:wdA false (ovS m d (i+1) 0).2=.agg [.bool false,.int .u64 0,.int .u64 0]:=by simp [ovS,wdA]
    have z2:wdA false (ovS m d (i+1) 0).1=.agg [.bool false,.int .u64 ((m / 18446744073709551616:Nat):Int),.int .u64 ((m % 18446744073709551616:Nat):Int)]:=by simp [ovS,wdA]
    refine weakX [] (of_decide_eq_true rfl) (of_decide_eq_true rfl) ?_
    (simp only [z,z2,vcX,w128s_imm,vcW,vZ,Int.reduceEq,Int.reduceNe,Int.reduceLT,Int.reduceLE,Nat.reduceEqDiff,Nat.reduceAdd,reduceIte,reduceCtorEq,Nat.reduceLT,Nat.reduceLeDiff,Nat.reduceShiftRight,Nat.reduceMod])
    (repeat' first | exact trivial | (with_reducible first | exact RnB.fxB (ints_fxB _) | rfl | refine And.intro ?_ ?_) | (with_reducible (first | refine RnB.bb ?_ | refine RnB.nb ?_);simp only [vcW,vZ,Int.reduceEq,Int.reduceNe,Int.reduceLT,Int.reduceLE,Nat.reduceEqDiff,Nat.reduceAdd,reduceIte,reduceCtorEq,Nat.reduceLT,Nat.reduceLeDiff,Nat.reduceShiftRight,Nat.reduceMod]) | (with_reducible first | refine RnB.ii ?_ | refine RnB.app ?_) | (with_reducible refine RnB.fxB ?_;simp only [vcW,vZ,Int.reduceEq,Int.reduceNe,Int.reduceLT,Int.reduceLE,Nat.reduceEqDiff,Nat.reduceAdd,reduceIte,reduceCtorEq,Nat.reduceLT,Nat.reduceLeDiff,Nat.reduceShiftRight,Nat.reduceMod]) | omega)
   ·have hps:∀ x ∈ backL (pwl d (i+1)) (pwl d (i+1)).length,x.length=[35,36].length:=fun x hx=>by
     obtain ⟨j,hj,rfl⟩:=List.getElem_of_mem hx
     rw [backL_get _ hj];rfl
    refine W_rf (tt:=.mk) (xs:=backL (pwl d (i+1)) (pwl d (i+1)).length) rfl (by simp [imm]) rfl rfl (backward_s _ (by rw [pwl_len];omega)) hps st (Weak.refl _) (fun pre x rest hsp=>?_) ?_
    ·obtain ⟨hk,hx⟩:=at_prefix2 hsp
     rw [backL_get _ hk] at hx
     rw [backL_len,pwl_len] at hk
     rw [pwl_len,pwl_getD _ _ _ (by omega)] at hx
     subst hx
     have hstp:st (pre ++ [[.int .i64 (((i+1:Nat):Int) - 1 - pre.length),wdA false (d * 2 ^ (i+1 - 1 - pre.length))]])=stOf [(2,⟨188,3,[wdA false (ovS m d (i+1) (pre.length+1)).1]⟩),(4,⟨188,3,[.agg [.bool false,.int .u64 0,.int .u64 0]]⟩),(5,⟨188,3,[wdA false (ovS m d (i+1) (pre.length+1)).2]⟩)]:=by
      rw [hst];simp only [List.length_append,List.length_cons,List.length_nil]
     rw [hstp]
     have hso:st pre=stOf [(2,⟨188,3,[wdA false (ovS m d (i+1) pre.length).1]⟩),(4,⟨188,3,[.agg [.bool false,.int .u64 0,.int .u64 0]]⟩),(5,⟨188,3,[wdA false (ovS m d (i+1) pre.length).2]⟩)]:=by
      rw [hst]
     rw [hso]
     have hinv:=ovS_inv hlt pre.length (by omega)
     have hle2:=ovS_le hlt hd (j:=pre.length) (by omega)
     have hle3:=ovS_le hlt hd (j:=pre.length+1) (by omega)
     have hstep:ovS m d (i+1) (pre.length+1)=if (ovS m d (i+1) pre.length).1<d * 2 ^ (i+1 - 1 - pre.length) then ((ovS m d (i+1) pre.length).1,(ovS m d (i+1) pre.length).2+(ovS m d (i+1) pre.length).2) else ((ovS m d (i+1) pre.length).1 - d * 2 ^ (i+1 - 1 - pre.length),(ovS m d (i+1) pre.length).2+(ovS m d (i+1) pre.length).2+1):=rfl
     generalize ovS m d (i+1) (pre.length+1)=Q at *
     generalize ovS m d (i+1) pre.length=P at *
     generalize d * 2 ^ (i+1 - 1 - pre.length)=D at *
     obtain ⟨r,q⟩:=P
     simp only at hinv hle2 hle3 hstep
     have htw:=twice_s false q (by unfold W128;omega)
     have hL2:=isLess_s false false r D
     by_cases g:r<D
     ·rw [if_pos g] at hstep
      subst hstep
      rw [decide_eq_true g] at hL2
      unfold wdA at htw hL2 ⊢
      simp only [vZ,Int.reduceEq,Int.reduceNe,Int.reduceLT,Int.reduceLE,Nat.reduceEqDiff,Nat.reduceAdd,reduceIte,reduceCtorEq,Nat.reduceLT,Nat.reduceLeDiff,Nat.reduceShiftRight,Nat.reduceMod]
      refine callS_of htw ?_
      simp only [vZ,Int.reduceEq,Int.reduceNe,Int.reduceLT,Int.reduceLE,Nat.reduceEqDiff,Nat.reduceAdd,reduceIte,reduceCtorEq,Nat.reduceLT,Nat.reduceLeDiff,Nat.reduceShiftRight,Nat.reduceMod]
      refine callS_of hL2 ?_
      simp only [vZ,Int.reduceEq,Int.reduceNe,Int.reduceLT,Int.reduceLE,Nat.reduceEqDiff,Nat.reduceAdd,reduceIte,reduceCtorEq,Nat.reduceLT,Nat.reduceLeDiff,Nat.reduceShiftRight,Nat.reduceMod]
      refine weakX [] (of_decide_eq_true rfl) (of_decide_eq_true rfl) ?_
      (simp only [vcW,vZ,Int.reduceEq,Int.reduceNe,Int.reduceLT,Int.reduceLE,Nat.reduceEqDiff,Nat.reduceAdd,reduceIte,reduceCtorEq,Nat.reduceLT,Nat.reduceLeDiff,Nat.reduceShiftRight,Nat.reduceMod])
      (repeat' first | exact trivial | (with_reducible first | exact RnB.fxB (ints_fxB _) | rfl | refine And.intro ?_ ?_) | (with_reducible (first | refine RnB.bb ?_ | refine RnB.nb ?_);simp only [vcW,vZ,Int.reduceEq,Int.reduceNe,Int.reduceLT,Int.reduceLE,Nat.reduceEqDiff,Nat.reduceAdd,reduceIte,reduceCtorEq,Nat.reduceLT,Nat.reduceLeDiff,Nat.reduceShiftRight,Nat.reduceMod]) | (with_reducible first | refine RnB.ii ?_ | refine RnB.app ?_) | (with_reducible refine RnB.fxB ?_;simp only [vcW,vZ,Int.reduceEq,Int.reduceNe,Int.reduceLT,Int.reduceLE,Nat.reduceEqDiff,Nat.reduceAdd,reduceIte,reduceCtorEq,Nat.reduceLT,Nat.reduceLeDiff,Nat.reduceShiftRight,Nat.reduceMod]) | omega)
     ·rw [if_neg g] at hstep
      subst hstep
      simp only at hle3
      rw [decide_eq_false g] at hL2
      have hN1:Sound Tryz.prog 179 [wdA false D] (wdA true D):=negated_s false D
      have hP1:Sound Tryz.prog 133 [wdA false r,wdA true D] (wdA false (r - D)):=by
       have:=plus_other_s false r D (by unfold W128;omega) (by unfold W128;omega)
       rw [if_neg (by omega)] at this
       exact this
      have hO:=pwideOf_s 1 (by unfold S63;omega)
      have hP2:=plus_same_s false (q+q) 1 (by unfold W128;omega)
      have e1:(1:Int).natAbs=1:=rfl
      have e2:decide ((1:Int)<0)=false:=rfl
      rw [e1,e2] at hO
      unfold wdA at htw hL2 hN1 hP1 hO hP2 ⊢
      simp only [vZ,Int.reduceEq,Int.reduceNe,Int.reduceLT,Int.reduceLE,Nat.reduceEqDiff,Nat.reduceAdd,reduceIte,reduceCtorEq,Nat.reduceLT,Nat.reduceLeDiff,Nat.reduceShiftRight,Nat.reduceMod]
      refine callS_of htw ?_
      simp only [vZ,Int.reduceEq,Int.reduceNe,Int.reduceLT,Int.reduceLE,Nat.reduceEqDiff,Nat.reduceAdd,reduceIte,reduceCtorEq,Nat.reduceLT,Nat.reduceLeDiff,Nat.reduceShiftRight,Nat.reduceMod]
      refine callS_of hL2 ?_
      simp only [vZ,Int.reduceEq,Int.reduceNe,Int.reduceLT,Int.reduceLE,Nat.reduceEqDiff,Nat.reduceAdd,reduceIte,reduceCtorEq,Nat.reduceLT,Nat.reduceLeDiff,Nat.reduceShiftRight,Nat.reduceMod]
      refine callS_of hN1 ?_
      simp only [vZ,Int.reduceEq,Int.reduceNe,Int.reduceLT,Int.reduceLE,Nat.reduceEqDiff,Nat.reduceAdd,reduceIte,reduceCtorEq,Nat.reduceLT,Nat.reduceLeDiff,Nat.reduceShiftRight,Nat.reduceMod]
      refine callS_of hP1 ?_
      simp only [vZ,Int.reduceEq,Int.reduceNe,Int.reduceLT,Int.reduceLE,Nat.reduceEqDiff,Nat.reduceAdd,reduceIte,reduceCtorEq,Nat.reduceLT,Nat.reduceLeDiff,Nat.reduceShiftRight,Nat.reduceMod]
      refine callS_of hO ?_
      simp only [vZ,Int.reduceEq,Int.reduceNe,Int.reduceLT,Int.reduceLE,Nat.reduceEqDiff,Nat.reduceAdd,reduceIte,reduceCtorEq,Nat.reduceLT,Nat.reduceLeDiff,Nat.reduceShiftRight,Nat.reduceMod]
      refine callS_of hP2 ?_
      simp only [vZ,Int.reduceEq,Int.reduceNe,Int.reduceLT,Int.reduceLE,Nat.reduceEqDiff,Nat.reduceAdd,reduceIte,reduceCtorEq,Nat.reduceLT,Nat.reduceLeDiff,Nat.reduceShiftRight,Nat.reduceMod]
      refine weakX [] (of_decide_eq_true rfl) (of_decide_eq_true rfl) ?_
      (simp only [vcW,vZ,Int.reduceEq,Int.reduceNe,Int.reduceLT,Int.reduceLE,Nat.reduceEqDiff,Nat.reduceAdd,reduceIte,reduceCtorEq,Nat.reduceLT,Nat.reduceLeDiff,Nat.reduceShiftRight,Nat.reduceMod])
      (repeat' first | exact trivial | (with_reducible first | exact RnB.fxB (ints_fxB _) | rfl | refine And.intro ?_ ?_) | (with_reducible (first | refine RnB.bb ?_ | refine RnB.nb ?_);simp only [vcW,vZ,Int.reduceEq,Int.reduceNe,Int.reduceLT,Int.reduceLE,Nat.reduceEqDiff,Nat.reduceAdd,reduceIte,reduceCtorEq,Nat.reduceLT,Nat.reduceLeDiff,Nat.reduceShiftRight,Nat.reduceMod]) | (with_reducible first | refine RnB.ii ?_ | refine RnB.app ?_) | (with_reducible refine RnB.fxB ?_;simp only [vcW,vZ,Int.reduceEq,Int.reduceNe,Int.reduceLT,Int.reduceLE,Nat.reduceEqDiff,Nat.reduceAdd,reduceIte,reduceCtorEq,Nat.reduceLT,Nat.reduceLeDiff,Nat.reduceShiftRight,Nat.reduceMod]) | omega)
    ·have hend:=ovS_end hlt hd
     rw [pwl_len]
     have hso:st (backL (pwl d (i+1)) (i+1))=stOf [(2,⟨188,3,[wdA false (ovS m d (i+1) (i+1)).1]⟩),(4,⟨188,3,[.agg [.bool false,.int .u64 0,.int .u64 0]]⟩),(5,⟨188,3,[wdA false (m / d)]⟩)]:=by
      rw [hst];simp only [backL_len,hend]
     rw [hso]
     unfold wdA
     simp only [vZ,Int.reduceEq,Int.reduceNe,Int.reduceLT,Int.reduceLE,Nat.reduceEqDiff,Nat.reduceAdd,reduceIte,reduceCtorEq,Nat.reduceLT,Nat.reduceLeDiff,Nat.reduceShiftRight,Nat.reduceMod]
  ·rw [decide_eq_false hlt] at hL
   simp only [hg,hwl,hix,vZ,Int.reduceEq,Int.reduceNe,Int.reduceLT,Int.reduceLE,Nat.reduceEqDiff,Nat.reduceAdd,reduceIte,reduceCtorEq,Nat.reduceLT,Nat.reduceLeDiff,Nat.reduceShiftRight,Nat.reduceMod]
   (repeat (with_reducible refine And.intro ?_ ?_;focus (first | omega | (unfold I64;omega))))
   refine callS_of ht ?_
   simp only [vZ,Int.reduceEq,Int.reduceNe,Int.reduceLT,Int.reduceLE,Nat.reduceEqDiff,Nat.reduceAdd,reduceIte,reduceCtorEq,Nat.reduceLT,Nat.reduceLeDiff,Nat.reduceShiftRight,Nat.reduceMod]
   refine callS_of hL ?_
   simp only [hg,hwl,hix,vZ,Int.reduceEq,Int.reduceNe,Int.reduceLT,Int.reduceLE,Nat.reduceEqDiff,Nat.reduceAdd,reduceIte,reduceCtorEq,Nat.reduceLT,Nat.reduceLeDiff,Nat.reduceShiftRight,Nat.reduceMod]
   (repeat (with_reducible refine And.intro ?_ ?_;focus (first | omega | (unfold I64;omega))))
   refine callS_of ht ?_
   simp only [hwl,vZ,Int.reduceEq,Int.reduceNe,Int.reduceLT,Int.reduceLE,Nat.reduceEqDiff,Nat.reduceAdd,reduceIte,reduceCtorEq,Nat.reduceLT,Nat.reduceLeDiff,Nat.reduceShiftRight,Nat.reduceMod]
   (repeat (with_reducible refine And.intro ?_ ?_;focus (first | omega | (unfold I64;omega))))
   have hl2:=Nat.lt_two_pow_self (n:=i+1)
   have hl3:2 ^ (i+1)≤d * 2 ^ (i+1):=Nat.le_mul_of_pos_left _ hd
   have hsuc:=pwl_succ d (i+1)
   unfold wdA at hsuc
   refine ⟨⟨i+1,Or.inl (by omega)⟩,by simp only;omega,?_⟩
   refine weakX [(100,some 32)] (of_decide_eq_true rfl) (of_decide_eq_true rfl) ?_
   (simp only [wdA,hsuc,vcW,vZ,Int.reduceEq,Int.reduceNe,Int.reduceLT,Int.reduceLE,Nat.reduceEqDiff,Nat.reduceAdd,reduceIte,reduceCtorEq,Nat.reduceLT,Nat.reduceLeDiff,Nat.reduceShiftRight,Nat.reduceMod])
   (repeat' first | exact trivial | (with_reducible first | exact RnB.fxB (ints_fxB _) | rfl | refine And.intro ?_ ?_) | (with_reducible (first | refine RnB.bb ?_ | refine RnB.nb ?_);simp only [vcW,vZ,Int.reduceEq,Int.reduceNe,Int.reduceLT,Int.reduceLE,Nat.reduceEqDiff,Nat.reduceAdd,reduceIte,reduceCtorEq,Nat.reduceLT,Nat.reduceLeDiff,Nat.reduceShiftRight,Nat.reduceMod]) | (with_reducible first | refine RnB.ii ?_ | refine RnB.app ?_) | (with_reducible refine RnB.fxB ?_;simp only [vcW,vZ,Int.reduceEq,Int.reduceNe,Int.reduceLT,Int.reduceLE,Nat.reduceEqDiff,Nat.reduceAdd,reduceIte,reduceCtorEq,Nat.reduceLT,Nat.reduceLeDiff,Nat.reduceShiftRight,Nat.reduceMod]) | omega)
   all_goals exact RnB.fxB (pwl_fxB _ _)
end Go.Proofs.YtpaklfjlbocfcaaGreatDoor

/- A solution in lowest terms. By an AI agent;nothing here is trusted. -/
namespace Go.Proofs.YtpaklfjlbocfcaaGreatDoor
open Go.Av

def gcA (D:Bool × Nat) (P:List (Bool × Nat)):Nat:=Lin.gcds D.2 (P.map (·.2))
def qtL (D:Bool × Nat) (P:List (Bool × Nat)):List Nat:=(D :: P).map fun p=>p.2 / gcA D P
def smallQ (D:Bool × Nat) (P:List (Bool × Nat)):Bool:=(qtL D P).all fun n=>decide (n≤1000000000000)
def rdA (D:Bool × Nat) (P:List (Bool × Nat)):List AV:=if smallQ D P then [.agg [.int .i64 ((qtL D P).getD 0 0:Nat),.sl (ints (ntA ((qtL D P).drop 1)))],.int .i64 0] else [.agg [.int .i64 0,.sl []],.int .i64 8]
theorem qtL_len (D:Bool × Nat) (P:List (Bool × Nat)):(qtL D P).length=P.length+1:=by simp [qtL]
theorem gcds_app2 (d:Nat) (a:List Nat) (x:Nat):Lin.gcds d (a ++ [x])=Nat.gcd (Lin.gcds d a) x:=by simp [Lin.gcds,List.foldl_append]
theorem newsOk_w (P:List (Bool × Nat)):newsOk 3 (w2s P):=by
 intro x hx
 obtain ⟨p,_,rfl⟩:=List.mem_map.1 hx
 exact ⟨rfl,rfl⟩
theorem ntA_snoc (T:List Nat) (n:Nat):ntA (T ++ [n])=ntA T ++ [(n:Int)]:=by simp [ntA]
set_option maxHeartbeats 4000000 in
theorem reduced_s {D:Bool × Nat} {P:List (Bool × Nat)} (hDs:D.1=false) (hD0:0<D.2) (hD:D.2<170141183460469231731687303715884105728) (hP:∀ p ∈ P,p.2<170141183460469231731687303715884105728) (hl:P.length≤5) :
  Sound Tryz.prog 130 [wdA D.1 D.2,.sl (w2s P)] (.tup (rdA D P)):=by
 refine sound_W f_pulse_reduced (Nat.le_of_ble_eq_true rfl) ?_
 have hmax:=maxLen_big
 have hg:∀ i,Lin.gcds D.2 ((P.take i).map (·.2))≤D.2:=fun i=>Nat.le_of_dvd hD0 (Lin.gcds_dvd _ _)
 unfold wdA
 simp only [c_pulse_reduced,w2s_length,vZ,Int.reduceEq,Int.reduceNe,Int.reduceLT,Int.reduceLE,Nat.reduceEqDiff,Nat.reduceAdd,reduceIte,reduceCtorEq,Nat.reduceLT,Nat.reduceLeDiff,Nat.reduceShiftRight,Nat.reduceMod]
 refine W_loop (t:=.mk) (α:=PSigma fun i:Nat=>i≤P.length) (fun ⟨i,_⟩=>(envOf [(1,.sl (w2s P)),(2,.ptr 2 0 0),(4,.ptr 4 0 0),(5,.int .i64 0),(6,.ptr 6 0 0),(14,.sl (w2s P)),(15,.int .i64 P.length),(16,.int .i64 i)],stOf [(2,⟨188,3,[wdA D.1 D.2]⟩),(4,⟨47,2,[.agg [.int .i64 0,.nils]]⟩),(6,⟨188,3,[wdA false (Lin.gcds D.2 ((P.take i).map (·.2)))]⟩)])) (fun x=>P.length - x.1) ⟨0,Nat.zero_le _⟩ ?_ (fun ⟨i,hiS⟩=>?_)
 ·have z:Lin.gcds D.2 []=D.2:=rfl
  refine weakX [] (of_decide_eq_true rfl) (of_decide_eq_true rfl) ?_
  (simp only [z,vcW,vZ,Int.reduceEq,Int.reduceNe,Int.reduceLT,Int.reduceLE,Nat.reduceEqDiff,Nat.reduceAdd,reduceIte,reduceCtorEq,Nat.reduceLT,Nat.reduceLeDiff,Nat.reduceShiftRight,Nat.reduceMod])
  repeat' (with_reducible refine And.intro ?_ ?_)
  try any_goals (with_reducible exact RnB.wide)
  all_goals try (simp only [wdA,hDs,vcW,vZ,Int.reduceEq,Int.reduceNe,Int.reduceLT,Int.reduceLE,Nat.reduceEqDiff,Nat.reduceAdd,reduceIte,reduceCtorEq,Nat.reduceLT,Nat.reduceLeDiff,Nat.reduceShiftRight,Nat.reduceMod])
  (repeat' first | exact trivial | (with_reducible first | exact RnB.fxB (ints_fxB _) | rfl | refine And.intro ?_ ?_) | (with_reducible (first | refine RnB.bb ?_ | refine RnB.nb ?_);simp only [vcW,vZ,Int.reduceEq,Int.reduceNe,Int.reduceLT,Int.reduceLE,Nat.reduceEqDiff,Nat.reduceAdd,reduceIte,reduceCtorEq,Nat.reduceLT,Nat.reduceLeDiff,Nat.reduceShiftRight,Nat.reduceMod]) | (with_reducible first | refine RnB.ii ?_ | refine RnB.app ?_) | (with_reducible refine RnB.fxB ?_;simp only [vcW,vZ,Int.reduceEq,Int.reduceNe,Int.reduceLT,Int.reduceLE,Nat.reduceEqDiff,Nat.reduceAdd,reduceIte,reduceCtorEq,Nat.reduceLT,Nat.reduceLeDiff,Nat.reduceShiftRight,Nat.reduceMod]) | omega)
  all_goals trace_state
 ·dsimp only at hiS ⊢
  by_cases h':i<P.length
  ·have hc1:(i:Int)<P.length:=by omega
   have hpi:=hP _ (List.getElem_mem h')
   have hgi:=hg i
   have hnx:Lin.gcds D.2 ((P.take (i+1)).map (·.2))=Nat.gcd (Lin.gcds D.2 ((P.take i).map (·.2))) P[i].2:=by
    rw [List.take_succ_eq_append_getElem h',List.map_append];exact gcds_app2 _ _ _
   have hget:=w2s_get P i h'
   generalize Lin.gcds D.2 ((P.take i).map (·.2))=g at *
   obtain ⟨p,hp⟩:∃ p,p=P[i]:=⟨_,rfl⟩
   rw [← hp] at hpi hnx hget
   have hC:=common_s false p.1 g p.2 (by unfold W128;omega) (by unfold W128;omega) (by unfold W128;omega)
   rw [← hnx] at hC
   unfold wdA at hC hget ⊢
   simp only [hc1,hget,vZ,Int.reduceEq,Int.reduceNe,Int.reduceLT,Int.reduceLE,Nat.reduceEqDiff,Nat.reduceAdd,reduceIte,reduceCtorEq,Nat.reduceLT,Nat.reduceLeDiff,Nat.reduceShiftRight,Nat.reduceMod]
   (repeat (with_reducible refine And.intro ?_ ?_;focus (first | omega | (unfold I64;omega))))
   refine callS_of hC ?_
   simp only [vZ,Int.reduceEq,Int.reduceNe,Int.reduceLT,Int.reduceLE,Nat.reduceEqDiff,Nat.reduceAdd,reduceIte,reduceCtorEq,Nat.reduceLT,Nat.reduceLeDiff,Nat.reduceShiftRight,Nat.reduceMod]
   (repeat (with_reducible refine And.intro ?_ ?_;focus (first | omega | (unfold I64;omega))))
   refine ⟨⟨i+1,h'⟩,by simp only;omega,?_⟩
   refine weakX [] (of_decide_eq_true rfl) (of_decide_eq_true rfl) ?_
   (simp only [wdA,vcW,vZ,Int.reduceEq,Int.reduceNe,Int.reduceLT,Int.reduceLE,Nat.reduceEqDiff,Nat.reduceAdd,reduceIte,reduceCtorEq,Nat.reduceLT,Nat.reduceLeDiff,Nat.reduceShiftRight,Nat.reduceMod])
   repeat' (with_reducible refine And.intro ?_ ?_)
   try any_goals (with_reducible exact RnB.wide)
   (repeat' first | exact trivial | (with_reducible first | exact RnB.fxB (ints_fxB _) | rfl | refine And.intro ?_ ?_) | (with_reducible (first | refine RnB.bb ?_ | refine RnB.nb ?_);simp only [vcW,vZ,Int.reduceEq,Int.reduceNe,Int.reduceLT,Int.reduceLE,Nat.reduceEqDiff,Nat.reduceAdd,reduceIte,reduceCtorEq,Nat.reduceLT,Nat.reduceLeDiff,Nat.reduceShiftRight,Nat.reduceMod]) | (with_reducible first | refine RnB.ii ?_ | refine RnB.app ?_) | (with_reducible refine RnB.fxB ?_;simp only [vcW,vZ,Int.reduceEq,Int.reduceNe,Int.reduceLT,Int.reduceLE,Nat.reduceEqDiff,Nat.reduceAdd,reduceIte,reduceCtorEq,Nat.reduceLT,Nat.reduceLeDiff,Nat.reduceShiftRight,Nat.reduceMod]) | omega)
   all_goals trace_state
  ·have hil:i=P.length:=by omega
   subst hil
   have hc1:¬ (P.length:Int)<P.length:=by omega
   have hgf:Lin.gcds D.2 ((P.take P.length).map (·.2))=gcA D P:=by rw [List.take_length];rfl
   have hgl:=hg P.length
   rw [hgf] at hgl ⊢
   have hg0:0<gcA D P:=Nat.pos_of_dvd_of_pos (Lin.gcds_dvd _ _) hD0
   have hql:=qtL_len D P
   have hq:∀ i (h:i<P.length+1),(qtL D P)[i]'(by omega)=((D :: P)[i]'(by simp;omega)).2 / gcA D P:=fun i h=>by simp only [qtL,List.getElem_map]
   have hrd:rdA D P=if smallQ D P then [.agg [.int .i64 ((qtL D P).getD 0 0:Nat),.sl (ints (ntA ((qtL D P).drop 1)))],.int .i64 0] else [.agg [.int .i64 0,.sl []],.int .i64 8]:=rfl
   have hsm:smallQ D P=(qtL D P).all fun n=>decide (n≤1000000000000):=rfl
   rw [hrd]
   obtain ⟨Q,hQ⟩:∃ Q,Q=qtL D P:=⟨_,rfl⟩
   have hqx:∀ i (h:i<P.length+1) (h2:i<Q.length),Q[i]=((D :: P)[i]'(by simp;omega)).2 / gcA D P:=fun i h h2=>by subst hQ;exact hq i h
   rw [← hQ] at hql hsm ⊢
   generalize gcA D P=g at *
   unfold wdA
   simp only [hc1,vZ,Int.reduceEq,Int.reduceNe,Int.reduceLT,Int.reduceLE,Nat.reduceEqDiff,Nat.reduceAdd,reduceIte,reduceCtorEq,Nat.reduceLT,Nat.reduceLeDiff,Nat.reduceShiftRight,Nat.reduceMod]
   refine ⟨newsOk_w P,⟨by rw [w2s_length];omega,by rw [w2s_length];omega⟩,?_⟩
   refine W_loop (t:=.mk) (α:=PSigma fun i:Nat=>i≤P.length+1∧(Q.take i).all (fun n=>decide (n≤1000000000000))=true) (fun ⟨i,_⟩=>(envOf [(4,.ptr 4 0 0),(5,.int .i64 0),(6,.ptr 6 0 0),(9,.ptr 9 0 0),(27,.buf 100 (P.length+1)),(28,.int .i64 (P.length+1:Nat)),(29,.int .i64 i)],stOf [(4,⟨47,2,[.agg [.int .i64 0,.nils]]⟩),(6,⟨188,3,[wdA false g]⟩),(9,⟨47,2,[.agg [.int .i64 ((Q.take i).getD 0 0:Nat),.buf 101 (i - 1)]]⟩),(100,⟨188,3,w2s (D :: P)⟩),(101,⟨3,1,ints (ntA ((Q.take i).drop 1))⟩)])) (fun x=>P.length+1 - x.1) ⟨0,Nat.zero_le _,rfl⟩ ?_ (fun ⟨i,hiS,hal⟩=>?_)
   ·have z:ints (ntA (List.drop 1 []))=[]:=rfl
    have z2:((([]:List Nat).getD 0 0:Nat):Int)=0:=rfl
    have z3:w2s (D :: P)=wdA D.1 D.2 :: w2s P:=rfl
    have z4:1+(w2s P).length=P.length+1:=by rw [w2s_length];omega
    have z5:0 - 1=0:=rfl
    refine weakX [(100,some 27),(101,none)] (of_decide_eq_true rfl) (of_decide_eq_true rfl) ?_
    (simp only [z,z2,z3,z4,z5,wdA,vcW,vZ,Int.reduceEq,Int.reduceNe,Int.reduceLT,Int.reduceLE,Nat.reduceEqDiff,Nat.reduceAdd,reduceIte,reduceCtorEq,Nat.reduceLT,Nat.reduceLeDiff,Nat.reduceShiftRight,Nat.reduceMod])
    repeat' (with_reducible refine And.intro ?_ ?_)
    try any_goals (with_reducible exact RnB.wide)
    try any_goals exact RnB.agg2 rfl rfl rfl rfl (.imm _ rfl) (.virt 101 _ rfl rfl)
    try any_goals (with_reducible exact RnB.fxB (w2s_fxB (D :: P)))
    (repeat' first | exact trivial | (with_reducible first | exact RnB.fxB (ints_fxB _) | rfl | refine And.intro ?_ ?_) | (with_reducible (first | refine RnB.bb ?_ | refine RnB.nb ?_);simp only [vcW,vZ,Int.reduceEq,Int.reduceNe,Int.reduceLT,Int.reduceLE,Nat.reduceEqDiff,Nat.reduceAdd,reduceIte,reduceCtorEq,Nat.reduceLT,Nat.reduceLeDiff,Nat.reduceShiftRight,Nat.reduceMod]) | (with_reducible first | refine RnB.ii ?_ | refine RnB.app ?_) | (with_reducible refine RnB.fxB ?_;simp only [vcW,vZ,Int.reduceEq,Int.reduceNe,Int.reduceLT,Int.reduceLE,Nat.reduceEqDiff,Nat.reduceAdd,reduceIte,reduceCtorEq,Nat.reduceLT,Nat.reduceLeDiff,Nat.reduceShiftRight,Nat.reduceMod]) | omega)
    all_goals exact w2s_fxB P
   ·dsimp only at hiS hal ⊢
    by_cases h':i<P.length+1
    ·have hc1:(i:Int)<(P.length+1:Nat):=by omega
     have hDP:i<(D :: P).length:=by simp;omega
     have hget:=w2s_get (D :: P) i hDP
     have hwl:(w2s (D :: P)).length=P.length+1:=by rw [w2s_length];rfl
     have hqi:=hqx i h' (by omega)
     have hpb:((D :: P)[i]).2<170141183460469231731687303715884105728:=by
      rcases List.mem_cons.1 (List.getElem_mem hDP) with e | e
      ·rw [e];exact hD
      ·exact hP _ e
     obtain ⟨p,hp⟩:∃ p,p=(D :: P)[i]:=⟨_,rfl⟩
     rw [← hp] at hget hpb hqi
     have hO:=over_s p.1 p.2 g (by unfold W128;omega) hg0 (by unfold W128;omega)
     have hQl:i<Q.length:=by omega
     obtain ⟨q,hqd⟩:∃ q,q=p.2 / g:=⟨_,rfl⟩
     have hqle:q≤p.2:=by rw [hqd];exact Nat.div_le_self _ _
     rw [← hqd] at hqi hO
     have hO':Sound Tryz.prog 182 [wdA p.1 p.2,wdA false g] (wdA false q):=hO
     unfold wdA at hO' hget ⊢
     have hbig:¬ (q / 18446744073709551616=0∧q % 18446744073709551616≤1000000000000)→smallQ D P=false:=fun h=>by
      rw [hsm,List.all_eq_false]
      exact ⟨Q[i],List.getElem_mem hQl,by rw [hqi];simp;omega⟩
     simp only [hc1,hget,hwl,vZ,Int.reduceEq,Int.reduceNe,Int.reduceLT,Int.reduceLE,Nat.reduceEqDiff,Nat.reduceAdd,reduceIte,reduceCtorEq,Nat.reduceLT,Nat.reduceLeDiff,Nat.reduceShiftRight,Nat.reduceMod]
     (repeat (with_reducible refine And.intro ?_ ?_;focus (first | omega | (unfold I64;omega))))
     refine callS_of hO' ?_
     by_cases q1:q / 18446744073709551616=0
     case neg =>
      have q1':¬ ((q / 18446744073709551616:Nat):Int)=0:=by omega
      rw [hbig (fun h=>q1 h.1)]
      simp only [q1',vZ,Int.reduceEq,Int.reduceNe,Int.reduceLT,Int.reduceLE,Nat.reduceEqDiff,Nat.reduceAdd,reduceIte,reduceCtorEq,Nat.reduceLT,Nat.reduceLeDiff,Nat.reduceShiftRight,Nat.reduceMod]
     have q1':((q / 18446744073709551616:Nat):Int)=0:=by omega
     by_cases q2:q % 18446744073709551616≤1000000000000
     case neg =>
      have q2':(1000000000000:Int)<((q % 18446744073709551616:Nat):Int):=by omega
      rw [hbig (fun h=>q2 h.2)]
      simp only [q1',q2',vZ,Int.reduceEq,Int.reduceNe,Int.reduceLT,Int.reduceLE,Nat.reduceEqDiff,Nat.reduceAdd,reduceIte,reduceCtorEq,Nat.reduceLT,Nat.reduceLeDiff,Nat.reduceShiftRight,Nat.reduceMod]
     have q2':¬ (1000000000000:Int)<(q:Int):=by omega
     have hqm:q % 18446744073709551616=q:=by omega
     have hts:Q.take (i+1)=Q.take i ++ [q]:=by rw [List.take_succ_eq_append_getElem hQl,hqi]
     have hal2:(Q.take (i+1)).all (fun n=>decide (n≤1000000000000))=true:=by rw [hts,List.all_append,hal];simp;omega
     by_cases h0:i=0
     ·have h0':(i:Int)=0:=by omega
      subst h0
      have hz0:((0:Nat):Int)=0:=rfl
      have t1:Q.take 1=[q]:=hts
      have t2:(([q]:List Nat).getD 0 0)=q:=rfl
      have t3:List.drop 1 ([q]:List Nat)=[]:=rfl
      have t4:(0:Nat) - 1=0:=rfl
      have t5:1 - 1=0:=rfl
      have t6:ints (ntA [])=[]:=rfl
      have t7:List.drop 1 ([]:List Nat)=[]:=rfl
      have t8:(0:Int)+1=1:=rfl
      have t9:((1:Nat):Int)=1:=rfl
      simp only [q1',q2',hqm,hz0,vZ,Int.reduceEq,Int.reduceNe,Int.reduceLT,Int.reduceLE,Nat.reduceEqDiff,Nat.reduceAdd,reduceIte,reduceCtorEq,Nat.reduceLT,Nat.reduceLeDiff,Nat.reduceShiftRight,Nat.reduceMod]
      refine ⟨by unfold I64;omega,by unfold I64;omega,⟨1,by omega,hal2⟩,by simp only;omega,?_⟩
      refine weakX [(100,some 100),(101,some 101)] (of_decide_eq_true rfl) (of_decide_eq_true rfl) ?_
      (simp only [t1,t2,t3,t4,t5,t6,t7,t8,t9,wdA,vcW,vZ,Int.reduceEq,Int.reduceNe,Int.reduceLT,Int.reduceLE,Nat.reduceEqDiff,Nat.reduceAdd,reduceIte,reduceCtorEq,Nat.reduceLT,Nat.reduceLeDiff,Nat.reduceShiftRight,Nat.reduceMod])
      repeat' (with_reducible refine And.intro ?_ ?_)
      try any_goals (with_reducible exact RnB.wide)
      try any_goals exact RnB.agg2 rfl rfl rfl rfl (.imm _ rfl) (.buf 101 101 _ rfl)
      try any_goals (with_reducible exact RnB.fxB (w2s_fxB (D :: P)))
      (repeat' first | exact trivial | (with_reducible first | exact RnB.fxB (ints_fxB _) | rfl | refine And.intro ?_ ?_) | (with_reducible (first | refine RnB.bb ?_ | refine RnB.nb ?_);simp only [vcW,vZ,Int.reduceEq,Int.reduceNe,Int.reduceLT,Int.reduceLE,Nat.reduceEqDiff,Nat.reduceAdd,reduceIte,reduceCtorEq,Nat.reduceLT,Nat.reduceLeDiff,Nat.reduceShiftRight,Nat.reduceMod]) | (with_reducible first | refine RnB.ii ?_ | refine RnB.app ?_) | (with_reducible refine RnB.fxB ?_;simp only [vcW,vZ,Int.reduceEq,Int.reduceNe,Int.reduceLT,Int.reduceLE,Nat.reduceEqDiff,Nat.reduceAdd,reduceIte,reduceCtorEq,Nat.reduceLT,Nat.reduceLeDiff,Nat.reduceShiftRight,Nat.reduceMod]) | omega)
      all_goals trace_state
     ·have h0':¬ (i:Int)=0:=by omega
      have hl1:((Q.take i).drop 1).length=i - 1:=by rw [List.length_drop,List.length_take];omega
      have hl2:(ntA ((Q.take i).drop 1)).length=i - 1:=by rw [ntA_len];exact hl1
      have hd1:(Q.take (i+1)).drop 1=(Q.take i).drop 1 ++ [q]:=by
       rw [hts,List.drop_append_of_le_length (by rw [List.length_take];omega)]
      have hd2:ints (ntA ((Q.take (i+1)).drop 1))=ints (ntA ((Q.take i).drop 1)) ++ [.int .i64 q]:=by rw [hd1,ntA_snoc,ints_append];rfl
      have hd3:(Q.take (i+1)).getD 0 0=(Q.take i).getD 0 0:=by
       rw [hts,List.getD_eq_getElem?_getD,List.getD_eq_getElem?_getD,List.getElem?_append_left (by rw [List.length_take];omega)]
      have hd4:i - 1+1=i:=by omega
      have hd5:i+1 - 1=i:=by omega
      simp only [q1',q2',hqm,h0',ints_length,hl2,vZ,Int.reduceEq,Int.reduceNe,Int.reduceLT,Int.reduceLE,Nat.reduceEqDiff,Nat.reduceAdd,reduceIte,reduceCtorEq,Nat.reduceLT,Nat.reduceLeDiff,Nat.reduceShiftRight,Nat.reduceMod]
      refine ⟨by unfold I64;omega,⟨by omega,by omega⟩,by unfold I64;omega,⟨i+1,by omega,hal2⟩,by simp only;omega,?_⟩
      refine weakX [(100,some 100),(101,some 58)] (of_decide_eq_true rfl) (of_decide_eq_true rfl) ?_
      (simp only [hd2,hd3,hd4,hd5,wdA,vcW,vZ,Int.reduceEq,Int.reduceNe,Int.reduceLT,Int.reduceLE,Nat.reduceEqDiff,Nat.reduceAdd,reduceIte,reduceCtorEq,Nat.reduceLT,Nat.reduceLeDiff,Nat.reduceShiftRight,Nat.reduceMod])
      repeat' (with_reducible refine And.intro ?_ ?_)
      try any_goals (with_reducible exact RnB.wide)
      try any_goals exact RnB.agg2 rfl rfl rfl rfl (.imm _ rfl) (.buf 58 101 _ rfl)
      try any_goals (with_reducible exact RnB.fxB (w2s_fxB (D :: P)))
      (repeat' first | exact trivial | (with_reducible first | exact RnB.fxB (ints_fxB _) | rfl | refine And.intro ?_ ?_) | (with_reducible (first | refine RnB.bb ?_ | refine RnB.nb ?_);simp only [vcW,vZ,Int.reduceEq,Int.reduceNe,Int.reduceLT,Int.reduceLE,Nat.reduceEqDiff,Nat.reduceAdd,reduceIte,reduceCtorEq,Nat.reduceLT,Nat.reduceLeDiff,Nat.reduceShiftRight,Nat.reduceMod]) | (with_reducible first | refine RnB.ii ?_ | refine RnB.app ?_) | (with_reducible refine RnB.fxB ?_;simp only [vcW,vZ,Int.reduceEq,Int.reduceNe,Int.reduceLT,Int.reduceLE,Nat.reduceEqDiff,Nat.reduceAdd,reduceIte,reduceCtorEq,Nat.reduceLT,Nat.reduceLeDiff,Nat.reduceShiftRight,Nat.reduceMod]) | omega)
      all_goals (rw [ints_append];rfl)
    ·have hil:i=P.length+1:=by omega
     subst hil
     have hc1:¬ ((P.length+1:Nat):Int)<(P.length+1:Nat):=by omega
     have hta:Q.take (P.length+1)=Q:=List.take_of_length_le (by omega)
     rw [hta] at hal
     rw [hsm,hal,if_pos rfl,hta]
     unfold wdA
     simp only [hc1,vZ,Int.reduceEq,Int.reduceNe,Int.reduceLT,Int.reduceLE,Nat.reduceEqDiff,Nat.reduceAdd,reduceIte,reduceCtorEq,Nat.reduceLT,Nat.reduceLeDiff,Nat.reduceShiftRight,Nat.reduceMod]
     rw [borB_good _ _ _ _ _ (by rw [ints_length,ntA_len,List.length_drop];omega) (ints_fx _)]
end Go.Proofs.YtpaklfjlbocfcaaGreatDoor

/- The ticks of a set. By an AI agent;nothing here is trusted. -/
namespace Go.Proofs.YtpaklfjlbocfcaaGreatDoor
open Go.Av

def tk5 (s:Nat):List Nat:=(List.range 5).filter fun k=>s.testBit k
def tabZ:List (Nat × Nat × Nat × MC × List (Nat × Option (Option Nat))):=[(127,8,1,c_math_bits_TrailingZeros,[(2,none)]),(177,14,1,c_math_bits_TrailingZeros64,[(2,none)])]
theorem tabZ_ok:∀ f c,lookC tabZ f=some c→cFun Tryz.prog f=some c:=by
 refine lookC_ok ?_
 intro p hp
 simp only [tabZ,List.mem_cons,List.not_mem_nil,or_false] at hp
 rcases hp with rfl | rfl
 ·exact f_math_bits_TrailingZeros
 ·exact f_math_bits_TrailingZeros64
noncomputable def runZ (r:Nat):Option Int:=match callN (fun _ _=>none) (fun _ _=>none) (lookC tabZ) 40 5 127 [.int .u64 (r:Int)] with
 | some (.int .i64 n)=>some n
 | _=>none
theorem runZ_s {r:Nat} {n:Int} (h:runZ r=some n):Sound Tryz.prog 127 [.int .u64 (r:Int)] (.int .i64 n):=by
 unfold runZ at h
 split at h
 ·rename_i m hm
  injection h with h
  subst h
  exact callN_sound (fun f a v h=>by cases h) (fun g c x h=>by cases h) tabZ_ok 5 _ _ _ hm
 ·cases h
theorem zeros_run:((List.range 31).all fun r=>decide (runZ (r+1)=some (((tk5 (r+1)).getD 0 0:Nat):Int)))=true:=by kernel_rfl
theorem zeros_s {r:Nat} (h0:0<r) (h:r<32):Sound Tryz.prog 127 [.int .u64 (r:Int)] (.int .i64 ((tk5 r).getD 0 0:Nat)):=by
 have h1:=List.all_eq_true.1 zeros_run (r - 1) (List.mem_range.2 (by omega))
 rw [show r - 1+1=r by omega] at h1
 exact runZ_s (of_decide_eq_true h1)
theorem tk5_run:((List.range 31).all fun r=>decide (tk5 (r+1)=(tk5 (r+1)).getD 0 0 :: tk5 ((r+1) &&& r)) && decide ((r+1) &&& r<r+1))=true:=by decide +kernel
theorem tk5_step {r:Nat} (h0:0<r) (h:r<32):tk5 r=(tk5 r).getD 0 0 :: tk5 (r &&& (r - 1))∧r &&& (r - 1)<r:=by
 have h1:=List.all_eq_true.1 tk5_run (r - 1) (List.mem_range.2 (by omega))
 rw [Bool.and_eq_true,show r - 1+1=r by omega] at h1
 exact ⟨of_decide_eq_true h1.1,of_decide_eq_true h1.2⟩
theorem tk5_tk:((List.range 6).all fun S=>(List.range (2 ^ S)).all fun s=>decide (tk5 s=Lin.ticks S fun k=>s.testBit k))=true:=by decide +kernel
theorem tk5_eq {S s:Nat} (hS:S≤5) (hs:s<2 ^ S):tk5 s=Lin.ticks S fun k=>s.testBit k:=by
 have h1:=List.all_eq_true.1 tk5_tk S (List.mem_range.2 (by omega))
 have h2:=List.all_eq_true.1 h1 s (List.mem_range.2 hs)
 exact of_decide_eq_true h2
theorem and_g (x y:Nat) (hx:x<18446744073709551616) (hy:y<18446744073709551616):IntKind.u64.wrap ((((BitVec.ofInt IntKind.u64.bits (x:Int)) &&& (BitVec.ofInt IntKind.u64.bits (y:Int))).toNat:Nat):Int)=((x &&& y:Nat):Int):=by
 have e1:∀ x:Nat,x<18446744073709551616→(BitVec.ofInt IntKind.u64.bits (x:Int)).toNat=x:=fun x hx=>by
  rw [BitVec.toNat_ofInt]
  show ((x:Int) % ((2 ^ 64:Nat):Int)).toNat=x
  omega
 rw [BitVec.toNat_and,e1 _ hx,e1 _ hy]
 have:x &&& y≤x:=Nat.and_le_left
 exact u64_wrap (by omega)
end Go.Proofs.YtpaklfjlbocfcaaGreatDoor

/- The fit of samples. By an AI agent;nothing here is trusted. -/
namespace Go.Proofs.YtpaklfjlbocfcaaGreatDoor
open Go.Av

theorem ent_gm {items:List Int} {S r c:Nat} (hr:r<S) (hc:c<S):ent (gmP items S S) r c=Lin.gr items (S+items.length - 1) r c:=by
 unfold ent gmP gmQ
 simp [hr,hc]
theorem gr_bd {items:List Int} (hi:∀ x ∈ items, -100≤x∧x≤100) (N r c:Nat) : -(N * 10000:Int)≤Lin.gr items N r c∧Lin.gr items N r c≤N * 10000:=by
 unfold Lin.gr
 refine Lin.smI_bd fun n _=>?_
 exact prod_bd (M:=100) (by omega) (itm_bd hi n r) (itm_bd hi n c)
theorem getD_none {G:List (List Int)} {r:Nat} (h:G.length≤r):G.getD r []=[]:=by rw [List.getD_eq_getElem?_getD,List.getElem?_eq_none h];rfl
theorem getD_row {G:List (List Int)} {r:Nat} (h:r<G.length):G.getD r []=G[r]:=by rw [List.getD_eq_getElem?_getD,List.getElem?_eq_getElem h];rfl
theorem ent_lo {G:List (List Int)} {r c n:Nat} (hG:G.length=n) (hr:∀ g ∈ G,g.length=n) (h:¬ (r<n∧c<n)):ent G r c=0:=by
 unfold ent
 by_cases h1:r<n
 ·have:c ≥ n:=by omega
  rw [getD_row (show r<G.length by omega),List.getD_eq_getElem?_getD,List.getElem?_eq_none (by rw [hr _ (List.getElem_mem _)];exact this)];rfl
 ·rw [getD_none (by omega)];rfl
theorem gm_mem {items:List Int} {S:Nat} {g:List Int} (h:g ∈ gmP items S S):g.length=S:=by
 obtain ⟨k,_,rfl⟩:=List.mem_map.1 h
 exact gmQ_len _ _ _ _
theorem prB_5 {n:Nat} (h:n≤5):prB n (fun _=>6000000)<170141183460469231731687303715884105728:=by
 match n,h with
 | 0,_=>decide
 | 1,_=>decide
 | 2,_=>decide
 | 3,_=>decide
 | 4,_=>decide
 | 5,_=>decide
theorem prB_g {n:Nat} (h:n≤5):prB n (fun _=>100000)≤1200000000000000000000000000:=by
 match n,h with
 | 0,_=>decide
 | 1,_=>decide
 | 2,_=>decide
 | 3,_=>decide
 | 4,_=>decide
 | 5,_=>decide
theorem prB_r {n j:Nat} (h:n≤5) (hj:j<n):prB n (fun c=>if c=j then 6000000 else 100000)≤72000000000000000000000000000:=by
 have key:((List.range 6).all fun n=>(List.range n).all fun j=>decide (prB n (fun c=>if c=j then 6000000 else 100000)≤72000000000000000000000000000))=true:=by decide +kernel
 have h1:=List.all_eq_true.1 key n (List.mem_range.2 (by omega))
 have h2:=List.all_eq_true.1 h1 j (List.mem_range.2 hj)
 exact of_decide_eq_true h2
structure FtB (items l:List Int) (S:Nat):Prop where
 i1:1≤items.length
 i6:items.length≤6
 ib:∀ x ∈ items, -100≤x∧x≤100
 ne:∃ x ∈ items,x ≠ 0
 s5:1≤S∧S≤5
 lb:∀ x ∈ l, -10000≤x∧x≤10000
 ll:l.length=S+items.length - 1
theorem FtB.eb {items l:List Int} {S:Nat} (F:FtB items l S) (r c:Nat):(ent (gmP items S S) r c).natAbs≤100000:=by
 by_cases h:r<S∧c<S
 ·rw [ent_gm h.1 h.2]
  have h1:=gr_bd F.ib (S+items.length - 1) r c
  have h2:=F.i6
  have h3:=F.s5
  omega
 ·rw [ent_lo (gmP_len _ _ _) (fun g hg=>gm_mem hg) h];decide
theorem FtB.rb {items l:List Int} {S:Nat} (F:FtB items l S) (k:Nat):((rhP items l S).getD k 0).natAbs≤6000000:=by
 by_cases h:k<S
 ·rw [getD_at (by rw [rhP_len];exact h)]
  unfold rhP
  rw [List.getElem_map,List.getElem_range]
  have h1:=agT_bd (M:=10000) (by omega) F.ib F.lb k items.length
  have h2:=F.i6
  omega
 ·rw [List.getD_eq_getElem?_getD,List.getElem?_eq_none (by rw [rhP_len];omega)];decide
theorem tk5_lt {S s:Nat} (hS:S≤5) (hs:s<2 ^ S):∀ k ∈ tk5 s,k<S:=fun k hk=>by
 rw [tk5_eq hS hs] at hk
 exact (Lin.ticks_lt hk).1
theorem tk5_len (s:Nat):(tk5 s).length≤5:=by
 unfold tk5
 have:=List.length_filter_le (fun k=>s.testBit k) (List.range 5)
 simpa using this
theorem FtB.sl {items l:List Int} {S:Nat} (F:FtB items l S) {s:Nat} (hs:s<2 ^ S):SlB (gmP items S S) (rhP items l S) (tk5 s) 100000 6000000:=by
 refine ⟨F.eb,F.rb,⟨by rw [gmP_len,rhP_len],by rw [rhP_len];exact F.s5.2,fun g hg=>by rw [gm_mem hg,rhP_len]⟩,fun k hk=>by rw [rhP_len];exact tk5_lt F.s5.2 hs k hk,tk5_len s,⟨by omega,by omega,by omega⟩,prB_5 (tk5_len s)⟩
def dnS (items:List Int) (S s:Nat):Bool × Nat:=dtP (tk5 s).length (sqP (gmP items S S) (tk5 s) (tk5 s).length)
def ptS (items l:List Int) (S s:Nat):List (Bool × Nat):=slP (gmP items S S) (rhP items l S) (tk5 s) (tk5 s).length
def bsS (items l:List Int) (S s:Nat):Bool:=isB (dnS items S s) (ptS items l S s) (gmP items S S) (rhP items l S)
theorem FtB.db {items l:List Int} {S:Nat} (F:FtB items l S) {s:Nat} (hs:s<2 ^ S):(dnS items S s).2≤1200000000000000000000000000:=by
 have h1:=bnd_sq (F.sl hs)
 exact Nat.le_trans (dtP_le (sqP_len _ _ (Nat.le_refl _)) h1) (prB_g (tk5_len s))
theorem slP_le {G:List (List Int)} {H:List Int} {T:List Nat} {PM:Nat} (h:∀ n,n<T.length→(dtP T.length (rpP G H T n T.length)).2≤PM):∀ n,n≤T.length→∀ x ∈ slP G H T n,x.2≤PM
 | 0,_,x,hx=>by
  rw [slP] at hx
  rw [(List.mem_replicate.1 hx).2];exact Nat.zero_le _
 | n+1,hn,x,hx=>by
  rw [slP] at hx
  rcases List.mem_or_eq_of_mem_set hx with e | e
  ·exact slP_le h n (by omega) x e
  ·rw [e];exact h n (by omega)
theorem FtB.pb {items l:List Int} {S:Nat} (F:FtB items l S) {s:Nat} (hs:s<2 ^ S):∀ x ∈ ptS items l S s,x.2≤72000000000000000000000000000:=by
 refine slP_le (fun n hn=>?_) _ (Nat.le_refl _)
 exact Nat.le_trans (dtP_le (rpP_len _ _ _ _ (Nat.le_refl _)) (bnd_rp (F.sl hs) n)) (prB_r (tk5_len s) hn)
theorem ptS_len (items l:List Int) (S s:Nat):(ptS items l S s).length=S:=by unfold ptS;rw [slP_len,rhP_len]
theorem FtB.bd {items l:List Int} {S:Nat} (F:FtB items l S) {s:Nat} (hs:s<2 ^ S):BdB (dnS items S s) (ptS items l S s) (gmP items S S) (rhP items l S) 1200000000000000000000000000 72000000000000000000000000000 6000000 100000:=by
 refine ⟨F.db hs,F.pb hs,fun x hx=>?_,fun g hg=>⟨by rw [gm_mem hg,ptS_len],fun x hx=>?_⟩,⟨by rw [ptS_len,gmP_len],by rw [rhP_len,gmP_len],by rw [gmP_len];exact F.s5.2⟩,by decide,by decide⟩
 ·obtain ⟨k,hk,rfl⟩:=List.getElem_of_mem hx
  have:=F.rb k
  rw [getD_at hk] at this;exact this
 ·obtain ⟨k,hk,rfl⟩:=List.getElem_of_mem hg
  obtain ⟨c,hc,rfl⟩:=List.getElem_of_mem hx
  have:=F.eb k c
  unfold ent at this
  rw [getD_row hk,getD_at hc] at this
  exact this
theorem FtB.dpos {items l:List Int} {S:Nat} (F:FtB items l S) {s:Nat} (hs:s<2 ^ S):0<vl (dnS items S s):=by
 have hT:=tk5_eq F.s5.2 hs
 have h1:=Lin.posD.det (Lin.eqA_posD (items:=items) (S:=S) F.ne fun k=>s.testBit k)
 rw [← hT] at h1
 have h2:vl (dnS items S s)=Lin.dtI (tk5 s).length (ent (sqP (gmP items S S) (tk5 s) (tk5 s).length)):=dtP_vl _ _ (sqP_len _ _ (Nat.le_refl _))
 have h3:((vl (dnS items S s):Int):Rat)=Lin.dt (tk5 s).length (Lin.eqA items S (tk5 s)):=by
  rw [h2,Lin.dtI_cast]
  refine Lin.dt_congr fun r c hr hc=>?_
  have e1:(tk5 s).getD r 0<S:=by
   rw [List.getD_eq_getElem?_getD,List.getElem?_eq_getElem hr];exact tk5_lt F.s5.2 hs _ (List.getElem_mem hr)
  have e2:(tk5 s).getD c 0<S:=by
   rw [List.getD_eq_getElem?_getD,List.getElem?_eq_getElem hc];exact tk5_lt F.s5.2 hs _ (List.getElem_mem hc)
  rw [ent_sq hr hc,ent_gm e1 e2];rfl
 rw [← h3] at h1
 exact_mod_cast h1
theorem vl_pos {p:Bool × Nat} (h:0<vl p):p.1=false∧0<p.2:=by
 obtain ⟨b,n⟩:=p
 unfold vl wdV at h
 cases b
 ·simp at h ⊢;omega
 ·simp at h;omega
def fdS (items l:List Int) (S:Nat):Option Nat:=(List.range (2 ^ S)).find? (bsS items l S)
def ftR (items l:List Int) (S:Nat):Option Nat→List AV
 | some s=>rdA (dnS items S s) (ptS items l S s)
 | none=>[.agg [.int .i64 0,.sl []],.int .i64 8]
def ftA (items:List Int) (shifts:Int) (l:List Int):List AV:=if fdE items shifts l ≠ 0 then [.agg [.int .i64 0,.sl []],.int .i64 (fdE items shifts l)] else ftR items l shifts.toNat (fdS items l shifts.toNat)
theorem fdE_ok {items:List Int} {shifts:Int} {l:List Int} (h:fdE items shifts l=0):FtB items l shifts.toNat∧((shifts.toNat:Nat):Int)=shifts:=by
 unfold fdE at h
 split at h
 ·rename_i g;exact absurd h g
 ·rename_i g
  split at h
  ·rename_i g2;exact absurd h g2
  ·rename_i g2
   split at h
   ·rename_i g3
    obtain ⟨⟨a1,a2⟩,a3,a4,a5⟩:=teE_ok (items:=items) (shifts:=shifts) (by omega)
    have hs:smE l=0:=by omega
    exact ⟨⟨a1,a2,a3,a4,by omega,(smE_ok hs).2.2,by omega⟩,by omega⟩
   ·cases h
end Go.Proofs.YtpaklfjlbocfcaaGreatDoor

/- What the fit is,in plain Lean. By an AI agent;nothing here is trusted. -/
namespace Go.Proofs.YtpaklfjlbocfcaaGreatDoor
open Go.Av

theorem getD_set_eq {α:Type} {l:List α} {i:Nat} {x d:α} (h:i<l.length):(l.set i x).getD i d=x:=by
 rw [List.getD_eq_getElem?_getD,List.getElem?_set_self h];rfl
theorem getD_set_ne {α:Type} {l:List α} {i j:Nat} {x d:α} (h:i ≠ j):(l.set i x).getD j d=l.getD j d:=by
 rw [List.getD_eq_getElem?_getD,List.getD_eq_getElem?_getD,List.getElem?_set_ne h]
theorem slP_at {G:List (List Int)} {H:List Int} {T:List Nat} (hT:∀ r c,r<c→c<T.length→T.getD r 0<T.getD c 0) (hl:∀ r,r<T.length→T.getD r 0<H.length) :
  ∀ n,n≤T.length→∀ j,j<n→(slP G H T n).getD (T.getD j 0) (false,0)=dtP T.length (rpP G H T j T.length)
 | 0,_,j,h=>by omega
 | n+1,hn,j,h=>by
  rw [slP]
  by_cases e:j=n
  ·subst e
   exact getD_set_eq (by rw [slP_len];exact hl j (by omega))
  ·have:=hT j n (by omega) (by omega)
   rw [getD_set_ne (by omega)]
   exact slP_at hT hl n (by omega) j (by omega)
theorem slP_no {G:List (List Int)} {H:List Int} {T:List Nat} {k:Nat} (hk:∀ r,r<T.length→T.getD r 0 ≠ k):∀ n,n≤T.length→(slP G H T n).getD k (false,0)=(false,0)
 | 0,_=>by
  rw [slP]
  by_cases h:k<H.length
  ·rw [List.getD_eq_getElem?_getD,List.getElem?_replicate,if_pos h];rfl
  ·rw [List.getD_eq_getElem?_getD,List.getElem?_eq_none (by simp;omega)];rfl
 | n+1,hn=>by
  rw [slP,getD_set_ne (hk n (by omega))]
  exact slP_no hk n (by omega)
theorem zdiv (d:Rat):0 / d=0:=by rw [Rat.div_def,Rat.zero_mul]
theorem divnn {a d:Rat} (ha:0≤a) (hd:0<d):0≤a / d:=by
 refine Classical.byContradiction fun h=>?_
 have h1:=Rat.not_le.1 h
 have e:a=(a / d) * d:=by grind
 have:=Rat.mul_pos hd (show 0 < -(a / d) by grind)
 grind
def smR (l:List Int) (n:Nat):Rat:=((l.getD n 0:Int):Rat)
theorem rh_cast {items l:List Int} {S k:Nat} (F:FtB items l S) (hk:k<S):(((rhP items l S).getD k 0:Int):Rat)=Lin.rhs items S (smR l) k:=by
 rw [getD_at (by rw [rhP_len];exact hk)]
 unfold rhP
 rw [List.getElem_map,List.getElem_range,← smI_ag (N:=S+items.length - 1) (by have:=F.i1;omega) F.i1,Lin.smI_cast]
 unfold Lin.rhs smR
 exact Lin.sm_congr fun n _=>Rat.intCast_mul _ _
def xS (items l:List Int) (S s k:Nat):Rat:=((vl ((ptS items l S s).getD k (false,0)):Int):Rat) / ((vl (dnS items S s):Int):Rat)
theorem d_ne {items l:List Int} {S:Nat} (F:FtB items l S) {s:Nat} (hs:s<2 ^ S):0<((vl (dnS items S s):Int):Rat):=by
 have:=F.dpos hs
 exact_mod_cast this
theorem dn_cast {items l:List Int} {S:Nat} (F:FtB items l S) {s:Nat} (hs:s<2 ^ S):((vl (dnS items S s):Int):Rat)=Lin.dt (tk5 s).length (Lin.eqA items S (tk5 s)):=by
 have h2:vl (dnS items S s)=Lin.dtI (tk5 s).length (ent (sqP (gmP items S S) (tk5 s) (tk5 s).length)):=dtP_vl _ _ (sqP_len _ _ (Nat.le_refl _))
 rw [h2,Lin.dtI_cast]
 refine Lin.dt_congr fun r c hr hc=>?_
 have e1:(tk5 s).getD r 0<S:=by
  rw [List.getD_eq_getElem?_getD,List.getElem?_eq_getElem hr];exact tk5_lt F.s5.2 hs _ (List.getElem_mem hr)
 have e2:(tk5 s).getD c 0<S:=by
  rw [List.getD_eq_getElem?_getD,List.getElem?_eq_getElem hc];exact tk5_lt F.s5.2 hs _ (List.getElem_mem hc)
 rw [ent_sq hr hc,ent_gm e1 e2];rfl
theorem x_spread {items l:List Int} {S:Nat} (F:FtB items l S) {s:Nat} (hs:s<2 ^ S):∃ y:Nat→Rat,
  (∀ r,r<(Lin.ticks S fun k=>s.testBit k).length→Lin.sm (Lin.ticks S fun k=>s.testBit k).length (fun c=>Lin.eqA items S (Lin.ticks S fun k=>s.testBit k) r c * y c)=Lin.rhs items S (smR l) ((Lin.ticks S fun k=>s.testBit k).getD r 0)) ∧
  ∀ k,k<S→xS items l S s k=Lin.spread (fun k=>s.testBit k) y k:=by
 have hT:=tk5_eq F.s5.2 hs
 have hd:=d_ne F hs
 have hdc:=dn_cast F hs
 have hpt:ptS items l S s=slP (gmP items S S) (rhP items l S) (tk5 s) (tk5 s).length:=rfl
 unfold xS
 rw [hpt]
 generalize dnS items S s=D at *
 rw [hT] at hdc hpt ⊢
 obtain ⟨p,hp⟩:∃ p:Nat→Bool,p=fun k=>s.testBit k:=⟨_,rfl⟩
 rw [← hp] at hdc hpt ⊢
 have hpos:=Lin.eqA_posD (items:=items) (S:=S) F.ne p
 obtain ⟨y,hy⟩:=Lin.solvable hpos.triv fun r=>Lin.rhs items S (smR l) ((Lin.ticks S p).getD r 0)
 refine ⟨y,hy,fun k hk=>?_⟩
 unfold Lin.spread
 have hlt:∀ r,r<(Lin.ticks S p).length→(Lin.ticks S p).getD r 0<S:=fun r hr=>(Lin.ticks_lt (Lin.ticks_getD hr)).1
 cases hpk:p k with
 | false =>
  have:(slP (gmP items S S) (rhP items l S) (Lin.ticks S p) (Lin.ticks S p).length).getD k (false,0)=(false,0):=by
   refine slP_no (fun r hr e=>?_) _ (Nat.le_refl _)
   have:=(Lin.ticks_lt (Lin.ticks_getD hr)).2
   rw [e,hpk] at this;cases this
  rw [this]
  show ((0:Int):Rat) / _=_
  have e0:((0:Int):Rat)=0:=rfl
  rw [e0,zdiv];simp
 | true =>
  obtain ⟨h1,h2⟩:=Lin.ticks_at hk hpk
  rw [if_pos rfl]
  have e1:(slP (gmP items S S) (rhP items l S) (Lin.ticks S p) (Lin.ticks S p).length).getD k (false,0)=dtP (Lin.ticks S p).length (rpP (gmP items S S) (rhP items l S) (Lin.ticks S p) (Lin.tix p k) (Lin.ticks S p).length):=by
   have:=slP_at (G:=gmP items S S) (H:=rhP items l S) (T:=Lin.ticks S p) (fun r c a b=>Lin.ticks_asc a b) (fun r hr=>by rw [rhP_len];exact hlt r hr) _ (Nat.le_refl _) _ h1
   rw [h2] at this;exact this
  have e2:((vl (dtP (Lin.ticks S p).length (rpP (gmP items S S) (rhP items l S) (Lin.ticks S p) (Lin.tix p k) (Lin.ticks S p).length)):Int):Rat)=y (Lin.tix p k) * Lin.dt (Lin.ticks S p).length (Lin.eqA items S (Lin.ticks S p)):=by
   rw [← Lin.cramer _ _ _ hy h1,dtP_vl _ _ (rpP_len _ _ _ _ (Nat.le_refl _)),Lin.dtI_cast]
   refine Lin.dt_congr fun r c hr hc=>?_
   rw [ent_rp hr hc]
   unfold Lin.setc
   split
   ·exact rh_cast F (hlt r hr)
   ·rw [ent_gm (hlt r hr) (hlt c hc)];rfl
  rw [e1,e2,hdc]
  rw [hdc] at hd
  generalize Lin.dt (Lin.ticks S p).length (Lin.eqA items S (Lin.ticks S p))=d at *
  grind
theorem bs_best {items l:List Int} {S:Nat} (F:FtB items l S) {s:Nat} (hs:s<2 ^ S):bsS items l S s=true ↔ Lin.best items S (S+items.length - 1) (smR l) (xS items l S s):=by
 obtain ⟨y,hy,hx⟩:=x_spread F hs
 have hd:=d_ne F hs
 have hb:=Lin.spread_best (items:=items) (S:=S) (s:=smR l) hy
 have hbx:Lin.best items S (S+items.length - 1) (smR l) (xS items l S s) ↔ Lin.best items S (S+items.length - 1) (smR l) (Lin.spread (fun k=>s.testBit k) y):=by
  have hg:∀ k,Lin.grad items S (S+items.length - 1) (smR l) (xS items l S s) k=Lin.grad items S (S+items.length - 1) (smR l) (Lin.spread (fun k=>s.testBit k) y) k:=fun k=>by
   rw [Lin.grad_eq,Lin.grad_eq]
   congr 1
   exact Lin.sm_congr fun m hm=>by rw [hx m hm]
  constructor
  ·intro h k hk
   have:=h k hk
   rw [hx k hk,hg k] at this;exact this
  ·intro h k hk
   have:=h k hk
   rw [hx k hk,hg k];exact this
 rw [hbx,hb]
 have hg:∀ k,k<S→((rsV (dnS items S s) (ptS items l S s) ((rhP items l S).getD k 0) ((gmP items S S).getD k []) (ptS items l S s).length:Int):Rat)=((vl (dnS items S s):Int):Rat) * Lin.grad items S (S+items.length - 1) (smR l) (Lin.spread (fun k=>s.testBit k) y) k:=fun k hk=>by
  unfold rsV
  rw [ptS_len,Rat.intCast_sub,Rat.intCast_mul,rh_cast F hk,Lin.smI_cast,Lin.grad_eq]
  have e:Lin.sm S (fun j=>((vl ((ptS items l S s).getD j (false,0)) * ((gmP items S S).getD k []).getD j 0:Int):Rat))=((vl (dnS items S s):Int):Rat) * Lin.sm S fun m=>((Lin.gr items (S+items.length - 1) k m:Int):Rat) * Lin.spread (fun k=>s.testBit k) y m:=by
   rw [← Lin.sm_mul]
   refine Lin.sm_congr fun m hm=>?_
   have e1:((gmP items S S).getD k []).getD m 0=Lin.gr items (S+items.length - 1) k m:=ent_gm hk hm
   rw [e1,Rat.intCast_mul,← hx m hm]
   unfold xS
   generalize ((vl (dnS items S s):Int):Rat)=d at *
   grind
  rw [e]
  grind
 unfold bsS isB
 rw [List.all_eq_true]
 constructor
 ·intro h k hk
  have h1:=h k (List.mem_range.2 (by rw [gmP_len];exact hk))
  unfold okB at h1
  rw [Bool.and_eq_true,decide_eq_true_eq,decide_eq_true_eq] at h1
  have h2:=hg k hk
  have h3:((rsV (dnS items S s) (ptS items l S s) ((rhP items l S).getD k 0) ((gmP items S S).getD k []) (ptS items l S s).length:Int):Rat)≤0:=by exact_mod_cast h1.2
  have h4:(0:Rat)≤((vl ((ptS items l S s).getD k (false,0)):Int):Rat):=by exact_mod_cast h1.1
  rw [h2] at h3
  have h5:=hx k hk
  unfold xS at h5
  constructor
  ·rw [← h5]
   exact divnn h4 hd
  ·generalize ((vl (dnS items S s):Int):Rat)=d at *
   refine Classical.byContradiction fun hn=>?_
   have:=Rat.mul_pos hd (Rat.not_le.1 hn)
   grind
 ·intro h k hk
  have hk':k<S:=by have:=List.mem_range.1 hk;rw [gmP_len] at this;exact this
  obtain ⟨h1,h2⟩:=h k hk'
  unfold okB
  rw [Bool.and_eq_true,decide_eq_true_eq,decide_eq_true_eq]
  have h5:=hx k hk'
  unfold xS at h5
  constructor
  ·have h4:(0:Rat)≤((vl ((ptS items l S s).getD k (false,0)):Int):Rat):=by
    rw [← h5] at h1
    generalize ((vl ((ptS items l S s).getD k (false,0)):Int):Rat)=v at *
    generalize ((vl (dnS items S s):Int):Rat)=d at *
    have e:v=(v / d) * d:=by grind
    rw [e];exact Rat.mul_nonneg h1 (Rat.le_of_lt hd)
   exact_mod_cast h4
  ·have h3:((rsV (dnS items S s) (ptS items l S s) ((rhP items l S).getD k 0) ((gmP items S S).getD k []) (ptS items l S s).length:Int):Rat)≤0:=by
    rw [hg k hk']
    generalize ((vl (dnS items S s):Int):Rat)=d at *
    refine Classical.byContradiction fun hn=>?_
    have h6:=Rat.not_le.1 hn
    have:=Rat.mul_nonneg (Rat.le_of_lt hd) (show 0 ≤ -Lin.grad items S (S+items.length - 1) (smR l) (Lin.spread (fun k=>s.testBit k) y) k by grind)
    grind
   exact_mod_cast h3
end Go.Proofs.YtpaklfjlbocfcaaGreatDoor

/- What the fit that is found is. By an AI agent;nothing here is trusted. -/
namespace Go.Proofs.YtpaklfjlbocfcaaGreatDoor
open Go.Av

theorem gcds_div {g:Nat}:∀ (l:List Nat) {d:Nat},g ∣ d→(∀ x ∈ l,g ∣ x)→Lin.gcds (d / g) (l.map fun x=>x / g)=Lin.gcds d l / g
 | [],_,_,_=>rfl
 | x :: l,d,hd,hl=>by
  have h1:Lin.gcds (d / g) ((x :: l).map fun x=>x / g)=Lin.gcds (Nat.gcd (d / g) (x / g)) (l.map fun x=>x / g):=rfl
  have h2:Lin.gcds d (x :: l)=Lin.gcds (Nat.gcd d x) l:=rfl
  have hx:=hl x (by simp)
  rw [h1,h2,Nat.gcd_div hd hx]
  exact gcds_div l (Nat.dvd_gcd hd hx) fun y hy=>hl y (by simp [hy])
theorem ntA_abs (T:List Nat):(ntA T).map Int.natAbs=T:=by
 unfold ntA
 rw [List.map_map]
 conv=>rhs;rw [← List.map_id T]
 exact List.map_congr_left fun x _=>by simp
def den0 (D:Bool × Nat) (P:List (Bool × Nat)):Int:=((qtL D P).getD 0 0:Nat)
def chs0 (D:Bool × Nat) (P:List (Bool × Nat)):List Int:=ntA ((qtL D P).drop 1)
theorem den0_eq (D:Bool × Nat) (P:List (Bool × Nat)):den0 D P=((D.2 / gcA D P:Nat):Int):=rfl
theorem chs0_eq (D:Bool × Nat) (P:List (Bool × Nat)):chs0 D P=ntA ((P.map (·.2)).map fun x=>x / gcA D P):=by
 unfold chs0 qtL
 rw [List.map_cons,List.drop_one,List.tail_cons,List.map_map];rfl
theorem chs0_len (D:Bool × Nat) (P:List (Bool × Nat)):(chs0 D P).length=P.length:=by rw [chs0_eq,ntA_len];simp
theorem chs0_get (D:Bool × Nat) (P:List (Bool × Nat)) {k:Nat} (h:k<P.length):(chs0 D P).getD k 0=(((P.getD k (false,0)).2 / gcA D P:Nat):Int):=by
 rw [chs0_eq]
 unfold ntA
 rw [List.getD_eq_getElem?_getD,List.getD_eq_getElem?_getD,List.getElem?_eq_getElem h]
 simp [h]
theorem gcA_one {D:Bool × Nat} {P:List (Bool × Nat)} (h0:0<D.2):gcF (den0 D P) (chs0 D P)=1:=by
 unfold gcF
 rw [den0_eq,chs0_eq,ntA_abs]
 have hg:0<gcA D P:=Nat.pos_of_dvd_of_pos (Lin.gcds_dvd _ _) h0
 have:((D.2 / gcA D P:Nat):Int).natAbs=D.2 / gcA D P:=rfl
 rw [this,gcds_div (g:=gcA D P) _ (Lin.gcds_dvd _ _) (fun x hx=>Lin.gcds_mem hx)]
 show gcA D P / gcA D P=1
 exact Nat.div_self hg
def ratF (den:Int) (ch:List Int) (k:Nat):Rat:=((ch.getD k 0:Int):Rat) / ((den:Int):Rat)
theorem ft_best {items l:List Int} {S:Nat} (F:FtB items l S) {s:Nat} (hs:s<2 ^ S) (hbest:Lin.best items S (S+items.length - 1) (smR l) (xS items l S s)) :
  Lin.best items S (S+items.length - 1) (smR l) (ratF (den0 (dnS items S s) (ptS items l S s)) (chs0 (dnS items S s) (ptS items l S s))):=by
 have hx:∀ k,k<S→ratF (den0 (dnS items S s) (ptS items l S s)) (chs0 (dnS items S s) (ptS items l S s)) k=xS items l S s k:=fun k hk=>by
  have hd:=d_ne F hs
  have hk2:k<(ptS items l S s).length:=by rw [ptS_len];exact hk
  have hnn:=(hbest k hk).1
  obtain ⟨d1,d2⟩:=vl_pos (F.dpos hs)
  unfold ratF
  rw [chs0_get _ _ hk2,den0_eq]
  unfold xS at hnn ⊢
  have hgD:gcA (dnS items S s) (ptS items l S s) ∣ (dnS items S s).2:=Lin.gcds_dvd _ _
  have hgP:gcA (dnS items S s) (ptS items l S s) ∣ ((ptS items l S s).getD k (false,0)).2:=Lin.gcds_mem (by
   rw [List.getD_eq_getElem?_getD,List.getElem?_eq_getElem hk2]
   exact List.mem_map.2 ⟨_,List.getElem_mem hk2,rfl⟩)
  have hg0:0<gcA (dnS items S s) (ptS items l S s):=Nat.pos_of_dvd_of_pos hgD d2
  generalize gcA (dnS items S s) (ptS items l S s)=g at *
  have hvD:vl (dnS items S s)=((dnS items S s).2:Int):=by
   unfold vl wdV;rw [d1];rfl
  have hvP:vl ((ptS items l S s).getD k (false,0))=(((ptS items l S s).getD k (false,0)).2:Int):=by
   have h1:=vl_abs ((ptS items l S s).getD k (false,0))
   have h2:0≤vl ((ptS items l S s).getD k (false,0)):=by
    have h3:(0:Rat)≤((vl ((ptS items l S s).getD k (false,0)):Int):Rat):=by
     generalize ((vl ((ptS items l S s).getD k (false,0)):Int):Rat)=v at *
     generalize ((vl (dnS items S s):Int):Rat)=d at *
     have e:v=(v / d) * d:=by grind
     rw [e];exact Rat.mul_nonneg hnn (Rat.le_of_lt hd)
    exact_mod_cast h3
   omega
  rw [hvP]
  rw [hvD] at hd ⊢
  clear hvP hvD hnn
  generalize ((ptS items l S s).getD k (false,0)).2=p at *
  generalize (dnS items S s).2=d at *
  obtain ⟨a,rfl⟩:=hgD
  obtain ⟨b,rfl⟩:=hgP
  rw [Nat.mul_div_cancel_left _ hg0,Nat.mul_div_cancel_left _ hg0]
  have ha:0<a:=Nat.pos_of_mul_pos_left d2
  have e1:(((g * b:Nat):Int):Rat)=((g:Int):Rat) * ((b:Int):Rat):=by rw [Int.natCast_mul,Rat.intCast_mul]
  have e2:(((g * a:Nat):Int):Rat)=((g:Int):Rat) * ((a:Int):Rat):=by rw [Int.natCast_mul,Rat.intCast_mul]
  rw [e1,e2]
  have g1:((g:Int):Rat) ≠ 0:=by
   have:(0:Rat)<((g:Int):Rat):=by exact_mod_cast hg0
   grind
  have a1:((a:Int):Rat) ≠ 0:=by
   have:(0:Rat)<((a:Int):Rat):=by exact_mod_cast ha
   grind
  generalize ((g:Int):Rat)=g' at *
  generalize ((a:Int):Rat)=a' at *
  generalize ((b:Int):Rat)=b' at *
  grind
 intro k hk
 have hg:Lin.grad items S (S+items.length - 1) (smR l) (ratF (den0 (dnS items S s) (ptS items l S s)) (chs0 (dnS items S s) (ptS items l S s))) k=Lin.grad items S (S+items.length - 1) (smR l) (xS items l S s) k:=by
  rw [Lin.grad_eq,Lin.grad_eq]
  congr 1
  exact Lin.sm_congr fun m hm=>by rw [hx m hm]
 rw [hg,hx k hk]
 exact hbest k hk
end Go.Proofs.YtpaklfjlbocfcaaGreatDoor

/- The error of a fit;fits of samples times a number. By an AI agent;nothing here is trusted. -/
namespace Go.Proofs.YtpaklfjlbocfcaaGreatDoor
open Go.Av

theorem mdT_smI (items ch:List Int) (n:Nat):∀ k,mdT items ch n k=Lin.smI k fun k=>ch.getD k 0 * Lin.itm items n k
 | 0=>rfl
 | k+1=>by rw [mdT_itm,Lin.smI,mdT_smI items ch n k]
theorem md_cast {items ch:List Int} {den:Int} (hd:1≤den) (S n:Nat):((mdT items ch n S:Int):Rat)=((den:Int):Rat) * Lin.md items S (ratF den ch) n:=by
 have h0:(0:Rat)<((den:Int):Rat):=by exact_mod_cast (show (0:Int)<den by omega)
 rw [mdT_smI,Lin.smI_cast]
 unfold Lin.md
 rw [← Lin.sm_mul]
 refine Lin.sm_congr fun k _=>?_
 rw [Rat.intCast_mul]
 unfold ratF
 generalize ((den:Int):Rat)=d at *
 grind
end Go.Proofs.YtpaklfjlbocfcaaGreatDoor

/- The best fit: what is accepted,and what is found,in plain Lean. By an AI agent;nothing here is trusted. -/
namespace Go.Proofs.YtpaklfjlbocfcaaGreatDoor
open Go.Av

theorem FitIn.sN {items l:List Int} {shifts:Int} {ch:List Int} {den:Int} (F:FitIn items l shifts ch den):shifts.toNat=ch.length∧shifts.toNat+items.length - 1=l.length:=by
 have:=F.cl;have:=F.ll;have:=F.s5;have:=F.i1;omega
theorem FitIn.d0 {items l:List Int} {shifts:Int} {ch:List Int} {den:Int} (F:FitIn items l shifts ch den):(0:Rat)<((den:Int):Rat):=by
 exact_mod_cast (show (0:Int)<den by have:=F.db;omega)
theorem same_fit {items l:List Int} {shifts:Int} {ch ch2:List Int} {den:Int} (hd1:1≤den) (hl:ch.length=ch2.length) (F2:FitIn items l shifts ch2 1) (hg:gcF den ch=1)
  (h1:Lin.best items shifts.toNat (shifts.toNat+items.length - 1) (smR l) (ratF den ch)) (h2:Lin.best items shifts.toNat (shifts.toNat+items.length - 1) (smR l) (ratF 1 ch2)):den=1∧ch=ch2:=by
 have hu:=Lin.best_uniq rfl F2.ne h1 h2
 have hd:(0:Rat)<((den:Int):Rat):=by exact_mod_cast (show (0:Int)<den by omega)
 obtain ⟨s3,_⟩:=F2.sN
 have hk:∀ k,k<ch.length→ch.getD k 0=ch2.getD k 0 * den:=fun k hk=>by
  have:=hu k (by omega)
  unfold ratF at this
  have e1:((1:Int):Rat)=1:=rfl
  rw [e1] at this
  have h3:((ch.getD k 0:Int):Rat)=((ch2.getD k 0 * den:Int):Rat):=by
   rw [Rat.intCast_mul]
   generalize ((den:Int):Rat)=d at *
   grind
  exact_mod_cast h3
 have hdv:den.natAbs ∣ gcF den ch:=by
  have hall:∀ (L:List Nat) (a:Nat),den.natAbs ∣ a→(∀ x ∈ L,den.natAbs ∣ x)→den.natAbs ∣ Lin.gcds a L:=by
   intro L
   induction L with
   | nil=>intro a h _;exact h
   | cons x L ih=>intro a h hL;exact ih (Nat.gcd a x) (Nat.dvd_gcd h (hL x (by simp))) fun y hy=>hL y (by simp [hy])
  refine hall _ _ (Nat.dvd_refl _) fun x hx=>?_
  obtain ⟨c,hc,rfl⟩:=List.mem_map.1 hx
  obtain ⟨k,hk',rfl⟩:=List.getElem_of_mem hc
  have:=hk k hk'
  rw [getD_at hk'] at this
  rw [this,Int.natAbs_mul]
  exact Nat.dvd_mul_left _ _
 rw [hg] at hdv
 have hd2:den=1:=by
  have:=Nat.dvd_one.1 hdv
  omega
 refine ⟨hd2,?_⟩
 apply List.ext_getElem
 ·omega
 ·intro k a1 a2
  have:=hk k a1
  rw [getD_at a1,getD_at a2,hd2,Int.mul_one] at this
  exact this
theorem bits_at (q:Nat→Bool):∀ S,∃ s,s<2 ^ S∧∀ k,s.testBit k=(decide (k<S) && q k)
 | 0=>⟨0,by simp,fun k=>by simp⟩
 | S+1=>by
  obtain ⟨s,h1,h2⟩:=bits_at q S
  have hp:2 ^ (S+1)=2 ^ S+2 ^ S:=by rw [Nat.pow_succ];omega
  cases hq:q S with
  | false =>
   refine ⟨s,by omega,fun k=>?_⟩
   rw [h2]
   by_cases e:k=S
   ·subst e;simp [hq]
   ·congr 1;exact decide_eq_decide.2 ⟨fun h=>by omega,fun h=>by omega⟩
  | true =>
   refine ⟨2 ^ S ||| s,Nat.or_lt_two_pow (by omega) (by omega),fun k=>?_⟩
   rw [Nat.testBit_or,Nat.testBit_two_pow,h2]
   by_cases e:S=k
   ·subst e;simp [hq]
   ·rw [decide_eq_false e,Bool.false_or]
    congr 1;exact decide_eq_decide.2 ⟨fun h=>by omega,fun h=>by omega⟩
theorem found_model6 {items cs:List Int} {shifts:Int} (h:fdE items shifts (mdA items cs)=0) (hc:(cs.length:Int)=shifts) (hb:∀ x ∈ cs,0≤x∧x≤1000000) :
  ftA items shifts (mdA items cs)=[.agg [.int .i64 1,.sl (ints cs)],.int .i64 0]:=by
 obtain ⟨F,hS⟩:=fdE_ok h
 have Fo:FitIn items (mdA items cs) shifts cs 1:=⟨F.i1,F.i6,F.ib,F.ne,by have:=F.s5;omega,F.lb,by have:=F.ll;have:=F.s5;have:=F.i1;omega,hc,fun x hx=>by have:=hb x hx;omega,by omega⟩
 have hSl:shifts.toNat=cs.length:=by omega
 have hsm:∀ n,n<shifts.toNat+items.length - 1→smR (mdA items cs) n - Lin.md items shifts.toNat (ratF 1 cs) n=0:=fun n hn=>by
  have hml:=mdA_len items cs
  have e:=md_cast (items:=items) (ch:=cs) (den:=1) (by omega) shifts.toNat n
  have e1:((1:Int):Rat)=1:=rfl
  rw [e1] at e
  unfold smR
  rw [getD_at (by omega),mdA_get,← hSl,e];grind
 have hbest:Lin.best items shifts.toNat (shifts.toNat+items.length - 1) (smR (mdA items cs)) (ratF 1 cs):=fun k hk=>by
  have hg:Lin.grad items shifts.toNat (shifts.toNat+items.length - 1) (smR (mdA items cs)) (ratF 1 cs) k=0:=by
   unfold Lin.grad
   exact Lin.sm_none fun n hn=>by rw [hsm n hn,Rat.zero_mul]
  refine ⟨?_,by rw [hg];exact Rat.le_refl,by rw [hg,Rat.mul_zero]⟩
  unfold ratF
  refine divnn ?_ (by decide)
  rw [getD_at (by omega)]
  exact_mod_cast (hb _ (List.getElem_mem (by omega))).1
 obtain ⟨s,hs,hbit⟩:=bits_at (fun k=>decide (ratF 1 cs k ≠ 0)) shifts.toNat
 have hp:(fun k=>s.testBit k)=fun k=>decide (ratF 1 cs k ≠ 0):=by
  funext k
  rw [hbit]
  by_cases hk:k<shifts.toNat
  ·rw [decide_eq_true hk,Bool.true_and]
  ·rw [decide_eq_false hk,Bool.false_and]
   have:ratF 1 cs k=0:=by
    unfold ratF
    rw [List.getD_eq_getElem?_getD,List.getElem?_eq_none (by omega)]
    exact zdiv _
   rw [this];rfl
 obtain ⟨y,hy,hx⟩:=x_spread F hs
 rw [hp] at hy hx
 have hf:=Lin.best_found hbest F.ne hy
 have hbs:bsS items (mdA items cs) shifts.toNat s=true:=by
  rw [bs_best F hs]
  have hxe:∀ k,k<shifts.toNat→xS items (mdA items cs) shifts.toNat s k=ratF 1 cs k:=fun k hk=>(hx k hk).trans (hf k hk)
  intro k hk
  have hg:Lin.grad items shifts.toNat (shifts.toNat+items.length - 1) (smR (mdA items cs)) (xS items (mdA items cs) shifts.toNat s) k=Lin.grad items shifts.toNat (shifts.toNat+items.length - 1) (smR (mdA items cs)) (ratF 1 cs) k:=by
   rw [Lin.grad_eq,Lin.grad_eq]
   congr 1
   exact Lin.sm_congr fun m hm=>by rw [hxe m hm]
  rw [hg,hxe k hk]
  exact hbest k hk
 unfold ftA
 rw [if_neg (by omega)]
 cases hfd:fdS items (mdA items cs) shifts.toNat with
 | none =>
  unfold fdS at hfd
  rw [List.find?_eq_none] at hfd
  exact absurd hbs (hfd s (List.mem_range.2 hs))
 | some t =>
  unfold fdS at hfd
  rw [List.find?_range_eq_some] at hfd
  obtain ⟨htb,ht,_⟩:=hfd
  have ht:=List.mem_range.1 ht
  have hb2:=ft_best F ht ((bs_best F ht).1 htb)
  obtain ⟨d1,d2⟩:=vl_pos (F.dpos ht)
  have hone:=gcA_one (P:=ptS items (mdA items cs) shifts.toNat t) d2
  have hd1:0<(dnS items shifts.toNat t).2 / gcA (dnS items shifts.toNat t) (ptS items (mdA items cs) shifts.toNat t):=Nat.div_pos (Nat.le_of_dvd d2 (Lin.gcds_dvd _ _)) (Nat.pos_of_dvd_of_pos (Lin.gcds_dvd _ _) d2)
  obtain ⟨k1,k2⟩:=same_fit (by rw [den0_eq];omega) (by rw [chs0_len,ptS_len];omega) Fo hone hb2 hbest
  have hsq:smallQ (dnS items shifts.toNat t) (ptS items (mdA items cs) shifts.toNat t)=true:=by
   unfold smallQ
   rw [List.all_eq_true]
   intro n hn
   refine decide_eq_true ?_
   have hqe:qtL (dnS items shifts.toNat t) (ptS items (mdA items cs) shifts.toNat t)=(dnS items shifts.toNat t).2 / gcA (dnS items shifts.toNat t) (ptS items (mdA items cs) shifts.toNat t) :: (qtL (dnS items shifts.toNat t) (ptS items (mdA items cs) shifts.toNat t)).drop 1:=rfl
   rw [hqe] at hn
   rcases List.mem_cons.1 hn with e | e
   ·rw [den0_eq] at k1;omega
   ·have:(n:Int) ∈ chs0 (dnS items shifts.toNat t) (ptS items (mdA items cs) shifts.toNat t):=List.mem_map.2 ⟨n,e,rfl⟩
    rw [k2] at this
    have:=hb _ this
    omega
  show rdA (dnS items shifts.toNat t) (ptS items (mdA items cs) shifts.toNat t)=_
  unfold rdA
  rw [if_pos hsq]
  show [AV.agg [.int .i64 (den0 (dnS items shifts.toNat t) (ptS items (mdA items cs) shifts.toNat t)),.sl (ints (chs0 (dnS items shifts.toNat t) (ptS items (mdA items cs) shifts.toNat t)))],.int .i64 0]=_
  rw [k1,k2]
end Go.Proofs.YtpaklfjlbocfcaaGreatDoor

/- The fit of samples: contract. By an AI agent;nothing here is trusted. -/
namespace Go.Proofs.YtpaklfjlbocfcaaGreatDoor
open Go.Av

theorem find_at {p:Nat→Bool} {n s:Nat} (h:s<n) (hp:p s=true) (hn:∀ k,k<s→p k=false):(List.range n).find? p=some s:=by
 rw [List.find?_range_eq_some]
 exact ⟨hp,List.mem_range.2 h,fun j hj=>by rw [hn j hj];rfl⟩
theorem find_no {p:Nat→Bool} {n:Nat} (hn:∀ k,k<n→p k=false):(List.range n).find? p=none:=by
 rw [List.find?_eq_none]
 intro x hx
 rw [hn x (List.mem_range.1 hx)];decide
theorem tk5_0:tk5 0=[]:=by decide
set_option maxHeartbeats 4000000 in
theorem FitOf_s (items:List Int) (shifts:Int) (l:List Int) (hi:items.length<4000000000000000000) (hl:l.length<4000000000000000000) :
  Sound Tryz.prog 62 [tplA items shifts,.sl (ints l)] (.tup (ftA items shifts l)):=by
 refine sound_W f_pulse_FitOf (Nat.le_of_ble_eq_true rfl) ?_
 have hE:=fittedErr_s items shifts l hi hl
 have hmax:=maxLen_big
 unfold tplA at hE
 by_cases hf:fdE items shifts l=0
 case neg =>
  have hr:ftA items shifts l=[.agg [.int .i64 0,.sl []],.int .i64 (fdE items shifts l)]:=by unfold ftA;rw [if_pos hf]
  rw [hr]
  simp only [c_pulse_FitOf,tplA,vZ,Int.reduceEq,Int.reduceNe,Int.reduceLT,Int.reduceLE,Nat.reduceEqDiff,Nat.reduceAdd,reduceIte,reduceCtorEq,Nat.reduceLT,Nat.reduceLeDiff,Nat.reduceShiftRight,Nat.reduceMod]
  refine callS_of hE ?_
  simp only [hf,vZ,Int.reduceEq,Int.reduceNe,Int.reduceLT,Int.reduceLE,Nat.reduceEqDiff,Nat.reduceAdd,reduceIte,reduceCtorEq,Nat.reduceLT,Nat.reduceLeDiff,Nat.reduceShiftRight,Nat.reduceMod]
 obtain ⟨F,hS⟩:=fdE_ok hf
 have hr:ftA items shifts l=ftR items l shifts.toNat (fdS items l shifts.toNat):=by unfold ftA;rw [if_neg (by omega)]
 rw [hr]
 clear hr
 obtain ⟨S,hSd⟩:∃ S,S=shifts.toNat:=⟨_,rfl⟩
 rw [← hSd] at F hS ⊢
 subst hS
 clear hSd
 have hP:=problemOf_s F.i1 F.i6 F.s5 F.ib F.lb F.ll
 unfold tplA at hP
 have hsh:IntKind.u64.wrap ((1:Int) * 2 ^ min S IntKind.u64.bits)=((2 ^ S:Nat):Int):=by
  have:=shl_u 1 S (by have:=F.s5;omega)
  rw [Nat.one_mul] at this
  have h2:2 ^ S≤2 ^ 5:=Nat.pow_le_pow_right (by omega) F.s5.2
  have h3:(2:Nat) ^ 5=32:=rfl
  rw [Nat.mod_eq_of_lt (by omega)] at this
  exact this
 have h32:2 ^ S≤32:=by
  have h2:2 ^ S≤2 ^ 5:=Nat.pow_le_pow_right (by omega) F.s5.2
  have h3:(2:Nat) ^ 5=32:=rfl
  omega
 simp only [c_pulse_FitOf,tplA,vZ,Int.reduceEq,Int.reduceNe,Int.reduceLT,Int.reduceLE,Nat.reduceEqDiff,Nat.reduceAdd,reduceIte,reduceCtorEq,Nat.reduceLT,Nat.reduceLeDiff,Nat.reduceShiftRight,Nat.reduceMod]
 refine callS_of hE ?_
 simp only [hf,vZ,Int.reduceEq,Int.reduceNe,Int.reduceLT,Int.reduceLE,Nat.reduceEqDiff,Nat.reduceAdd,reduceIte,reduceCtorEq,Nat.reduceLT,Nat.reduceLeDiff,Nat.reduceShiftRight,Nat.reduceMod]
 refine callS_of hP ?_
 simp only [hsh,vZ,Int.reduceEq,Int.reduceNe,Int.reduceLT,Int.reduceLE,Nat.reduceEqDiff,Nat.reduceAdd,reduceIte,reduceCtorEq,Nat.reduceLT,Nat.reduceLeDiff,Nat.reduceShiftRight,Nat.reduceMod]
 refine ⟨by omega,?_⟩
 have hGl:=gmP_len items S S
 have hHl:=rhP_len items l S
 obtain ⟨G,hG⟩:∃ G,G=gmP items S S:=⟨_,rfl⟩
 obtain ⟨H,hH⟩:∃ H,H=rhP items l S:=⟨_,rfl⟩
 refine W_loop (t:=.mk) (α:=PSigma fun s:Nat=>s≤2 ^ S∧∀ k,k<s→bsS items l S k=false) (fun ⟨s,_⟩=>(envOf [(1,.sl (ints l)),(2,.ptr 2 0 0),(4,.ptr 4 0 0),(5,.int .i64 0),(7,.ptr 7 0 0),(25,.int .u64 (2 ^ S:Nat)),(26,.int .u64 s)],stOf [(2,⟨102,2,[.agg [.sl (ints items),.int .i64 S]]⟩),(4,⟨47,2,[.agg [.int .i64 0,.nils]]⟩),(7,⟨182,2,[.agg [.sl (lls (gmP items S S)),.sl (ints (rhP items l S))]]⟩)])) (fun x=>2 ^ S - x.1) ⟨0,Nat.zero_le _,fun k h=>by omega⟩ ?_ (fun ⟨s,hsS,hno⟩=>?_)
 ·refine weakX [] (of_decide_eq_true rfl) (of_decide_eq_true rfl) ?_
  (simp only [vcW,vZ,Int.reduceEq,Int.reduceNe,Int.reduceLT,Int.reduceLE,Nat.reduceEqDiff,Nat.reduceAdd,reduceIte,reduceCtorEq,Nat.reduceLT,Nat.reduceLeDiff,Nat.reduceShiftRight,Nat.reduceMod])
  repeat' (with_reducible refine And.intro ?_ ?_)
  try any_goals (with_reducible exact RnB.wide)
  (repeat' first | exact trivial | (with_reducible first | exact RnB.fxB (ints_fxB _) | rfl | refine And.intro ?_ ?_) | (with_reducible (first | refine RnB.bb ?_ | refine RnB.nb ?_);simp only [vcW,vZ,Int.reduceEq,Int.reduceNe,Int.reduceLT,Int.reduceLE,Nat.reduceEqDiff,Nat.reduceAdd,reduceIte,reduceCtorEq,Nat.reduceLT,Nat.reduceLeDiff,Nat.reduceShiftRight,Nat.reduceMod]) | (with_reducible first | refine RnB.ii ?_ | refine RnB.app ?_) | (with_reducible refine RnB.fxB ?_;simp only [vcW,vZ,Int.reduceEq,Int.reduceNe,Int.reduceLT,Int.reduceLE,Nat.reduceEqDiff,Nat.reduceAdd,reduceIte,reduceCtorEq,Nat.reduceLT,Nat.reduceLeDiff,Nat.reduceShiftRight,Nat.reduceMod]) | omega)
  all_goals trace_state
 ·dsimp only at hsS hno ⊢
  by_cases h':s<2 ^ S
  ·have hc1:(s:Int)<(2 ^ S:Nat):=by omega
   have hSol:=solved_s (F.sl h')
   have hBst:=isBest_s (F.bd h')
   obtain ⟨d1,d2⟩:=vl_pos (F.dpos h')
   have hDb:=F.db h'
   have hPb:=F.pb h'
   have hPl:=ptS_len items l S s
   have hRed:=reduced_s d1 d2 (by omega) (fun p hp=>by have:=hPb p hp;omega) (by rw [hPl];exact F.s5.2)
   have hDe:dnS items S s=dtP (tk5 s).length (sqP (gmP items S S) (tk5 s) (tk5 s).length):=rfl
   have hPe:ptS items l S s=slP (gmP items S S) (rhP items l S) (tk5 s) (tk5 s).length:=rfl
   have hBe:bsS items l S s=isB (dnS items S s) (ptS items l S s) (gmP items S S) (rhP items l S):=rfl
   rw [← hDe,← hPe] at hSol
   rw [← hBe] at hBst
   simp only [hc1,vZ,Int.reduceEq,Int.reduceNe,Int.reduceLT,Int.reduceLE,Nat.reduceEqDiff,Nat.reduceAdd,reduceIte,reduceCtorEq,Nat.reduceLT,Nat.reduceLeDiff,Nat.reduceShiftRight,Nat.reduceMod]
   refine W_loop (t:=.mk) (α:=PSigma fun q:Nat × List Nat=>q.1≤s∧q.2 ++ tk5 q.1=tk5 s) (fun ⟨q,_⟩=>(envOf [(1,.sl (ints l)),(2,.ptr 2 0 0),(4,.ptr 4 0 0),(5,.int .i64 0),(7,.ptr 7 0 0),(9,.buf 101 q.2.length),(10,.int .u64 q.1),(25,.int .u64 (2 ^ S:Nat)),(26,.int .u64 s)],stOf [(2,⟨102,2,[.agg [.sl (ints items),.int .i64 S]]⟩),(4,⟨47,2,[.agg [.int .i64 0,.nils]]⟩),(7,⟨182,2,[.agg [.sl (lls (gmP items S S)),.sl (ints (rhP items l S))]]⟩),(101,⟨3,1,ints (ntA q.2)⟩)])) (fun x=>x.1.1) ⟨(s,[]),Nat.le_refl _,rfl⟩ ?_ (fun ⟨⟨r,pre⟩,hrs,hpre⟩=>?_)
   ·have z:ints (ntA [])=[]:=rfl
    refine weakX [(101,none)] (of_decide_eq_true rfl) (of_decide_eq_true rfl) ?_
    (simp only [z,vcW,vZ,Int.reduceEq,Int.reduceNe,Int.reduceLT,Int.reduceLE,Nat.reduceEqDiff,Nat.reduceAdd,reduceIte,reduceCtorEq,Nat.reduceLT,Nat.reduceLeDiff,Nat.reduceShiftRight,Nat.reduceMod])
    repeat' (with_reducible refine And.intro ?_ ?_)
    try any_goals (with_reducible exact RnB.wide)
    (repeat' first | exact trivial | (with_reducible first | exact RnB.fxB (ints_fxB _) | rfl | refine And.intro ?_ ?_) | (with_reducible (first | refine RnB.bb ?_ | refine RnB.nb ?_);simp only [vcW,vZ,Int.reduceEq,Int.reduceNe,Int.reduceLT,Int.reduceLE,Nat.reduceEqDiff,Nat.reduceAdd,reduceIte,reduceCtorEq,Nat.reduceLT,Nat.reduceLeDiff,Nat.reduceShiftRight,Nat.reduceMod]) | (with_reducible first | refine RnB.ii ?_ | refine RnB.app ?_) | (with_reducible refine RnB.fxB ?_;simp only [vcW,vZ,Int.reduceEq,Int.reduceNe,Int.reduceLT,Int.reduceLE,Nat.reduceEqDiff,Nat.reduceAdd,reduceIte,reduceCtorEq,Nat.reduceLT,Nat.reduceLeDiff,Nat.reduceShiftRight,Nat.reduceMod]) | omega)
    all_goals trace_state
   ·dsimp only at hrs hpre ⊢
    have hpl:pre.length≤5:=by
     have h1:=tk5_len s
     rw [← hpre,List.length_append] at h1;omega
    by_cases r0:r=0
    ·subst r0
     have hz:((0:Nat):Int)=0:=rfl
     rw [tk5_0,List.append_nil] at hpre
     subst hpre
     simp only [hz,vZ,Int.reduceEq,Int.reduceNe,Int.reduceLT,Int.reduceLE,Nat.reduceEqDiff,Nat.reduceAdd,reduceIte,reduceCtorEq,Nat.reduceLT,Nat.reduceLeDiff,Nat.reduceShiftRight,Nat.reduceMod]
     rw [borB_good _ _ _ _ _ (by rw [ints_length,ntA_len]) (ints_fx _)]
     obtain ⟨D,hDd⟩:∃ D,D=dnS items S s:=⟨_,rfl⟩
     obtain ⟨P,hPd⟩:∃ P,P=ptS items l S s:=⟨_,rfl⟩
     have hftR:ftR items l S (some s)=rdA D P:=by rw [hDd,hPd];rfl
     rw [← hDd,← hPd] at hSol hBst hRed
     refine callS_of hSol ?_
     clear hSol hDe hPe hBe hDd hPd
     unfold wdA at hBst hRed ⊢
     simp only [vcX,ntA_len,vZ,Int.reduceEq,Int.reduceNe,Int.reduceLT,Int.reduceLE,Nat.reduceEqDiff,Nat.reduceAdd,reduceIte,reduceCtorEq,Nat.reduceLT,Nat.reduceLeDiff,Nat.reduceShiftRight,Nat.reduceMod]
     refine callS_of hBst ?_
     cases hb:bsS items l S s with
     | true =>
      have hfd:fdS items l S=some s:=find_at h' hb hno
      rw [hfd,hftR]
      unfold rdA at hRed ⊢
      split at hRed
      ·rename_i g
       rw [if_pos g]
       simp only [vcX,vZ,Int.reduceEq,Int.reduceNe,Int.reduceLT,Int.reduceLE,Nat.reduceEqDiff,Nat.reduceAdd,reduceIte,reduceCtorEq,Nat.reduceLT,Nat.reduceLeDiff,Nat.reduceShiftRight,Nat.reduceMod]
       refine callS_of hRed ?_
       simp only [vcX,vZ,Int.reduceEq,Int.reduceNe,Int.reduceLT,Int.reduceLE,Nat.reduceEqDiff,Nat.reduceAdd,reduceIte,reduceCtorEq,Nat.reduceLT,Nat.reduceLeDiff,Nat.reduceShiftRight,Nat.reduceMod]
      ·rename_i g
       rw [if_neg g]
       simp only [vcX,vZ,Int.reduceEq,Int.reduceNe,Int.reduceLT,Int.reduceLE,Nat.reduceEqDiff,Nat.reduceAdd,reduceIte,reduceCtorEq,Nat.reduceLT,Nat.reduceLeDiff,Nat.reduceShiftRight,Nat.reduceMod]
       refine callS_of hRed ?_
       simp only [vcX,vZ,Int.reduceEq,Int.reduceNe,Int.reduceLT,Int.reduceLE,Nat.reduceEqDiff,Nat.reduceAdd,reduceIte,reduceCtorEq,Nat.reduceLT,Nat.reduceLeDiff,Nat.reduceShiftRight,Nat.reduceMod]
     | false =>
      simp only [vZ,Int.reduceEq,Int.reduceNe,Int.reduceLT,Int.reduceLE,Nat.reduceEqDiff,Nat.reduceAdd,reduceIte,reduceCtorEq,Nat.reduceLT,Nat.reduceLeDiff,Nat.reduceShiftRight,Nat.reduceMod]
      refine ⟨⟨s+1,by omega,fun k hk=>?_⟩,by simp only;omega,?_⟩
      ·by_cases e:k=s
       ·subst e;exact hb
       ·exact hno k (by omega)
      ·refine weakX [] (of_decide_eq_true rfl) (of_decide_eq_true rfl) ?_
       (simp only [vcX,vcW,vZ,Int.reduceEq,Int.reduceNe,Int.reduceLT,Int.reduceLE,Nat.reduceEqDiff,Nat.reduceAdd,reduceIte,reduceCtorEq,Nat.reduceLT,Nat.reduceLeDiff,Nat.reduceShiftRight,Nat.reduceMod])
       repeat' (with_reducible refine And.intro ?_ ?_)
       try any_goals (with_reducible exact RnB.wide)
       (repeat' first | exact trivial | (with_reducible first | exact RnB.fxB (ints_fxB _) | rfl | refine And.intro ?_ ?_) | (with_reducible (first | refine RnB.bb ?_ | refine RnB.nb ?_);simp only [vcW,vZ,Int.reduceEq,Int.reduceNe,Int.reduceLT,Int.reduceLE,Nat.reduceEqDiff,Nat.reduceAdd,reduceIte,reduceCtorEq,Nat.reduceLT,Nat.reduceLeDiff,Nat.reduceShiftRight,Nat.reduceMod]) | (with_reducible first | refine RnB.ii ?_ | refine RnB.app ?_) | (with_reducible refine RnB.fxB ?_;simp only [vcW,vZ,Int.reduceEq,Int.reduceNe,Int.reduceLT,Int.reduceLE,Nat.reduceEqDiff,Nat.reduceAdd,reduceIte,reduceCtorEq,Nat.reduceLT,Nat.reduceLeDiff,Nat.reduceShiftRight,Nat.reduceMod]) | omega)
       all_goals exact add_u s 1 (by omega)
    ·have r0':¬ (r:Int)=0:=by omega
     obtain ⟨k1,k2⟩:=tk5_step (r:=r) (by omega) (by omega)
     have hZ:=zeros_s (r:=r) (by omega) (by omega)
     have hsb:IntKind.u64.wrap ((r:Int) - 1)=((r - 1:Nat):Int):=by
      have:=sub_u r 1 (by omega) (by omega);exact this
     have han:=and_g r (r - 1) (by omega) (by omega)
     obtain ⟨z,hzd⟩:∃ z,z=(tk5 r).getD 0 0:=⟨_,rfl⟩
     rw [← hzd] at k1 hZ
     have hsn:=ntA_snoc pre z
     simp only [r0',ints_length,ntA_len,vZ,Int.reduceEq,Int.reduceNe,Int.reduceLT,Int.reduceLE,Nat.reduceEqDiff,Nat.reduceAdd,reduceIte,reduceCtorEq,Nat.reduceLT,Nat.reduceLeDiff,Nat.reduceShiftRight,Nat.reduceMod]
     refine callS_of hZ ?_
     simp only [ints_length,ntA_len,hsb,han,vZ,Int.reduceEq,Int.reduceNe,Int.reduceLT,Int.reduceLE,Nat.reduceEqDiff,Nat.reduceAdd,reduceIte,reduceCtorEq,Nat.reduceLT,Nat.reduceLeDiff,Nat.reduceShiftRight,Nat.reduceMod]
     refine ⟨⟨by omega,by omega⟩,⟨(r &&& (r - 1),pre ++ [z]),by simp only;omega,by simp only;rw [List.append_assoc];rw [k1] at hpre;exact hpre⟩,k2,?_⟩
     refine weakX [(101,some 40)] (of_decide_eq_true rfl) (of_decide_eq_true rfl) ?_
     (simp only [hsn,List.length_append,vcW,vZ,Int.reduceEq,Int.reduceNe,Int.reduceLT,Int.reduceLE,Nat.reduceEqDiff,Nat.reduceAdd,reduceIte,reduceCtorEq,Nat.reduceLT,Nat.reduceLeDiff,Nat.reduceShiftRight,Nat.reduceMod])
     repeat' (with_reducible refine And.intro ?_ ?_)
     try any_goals (with_reducible exact RnB.wide)
     (repeat' first | exact trivial | (with_reducible first | exact RnB.fxB (ints_fxB _) | rfl | refine And.intro ?_ ?_) | (with_reducible (first | refine RnB.bb ?_ | refine RnB.nb ?_);simp only [vcW,vZ,Int.reduceEq,Int.reduceNe,Int.reduceLT,Int.reduceLE,Nat.reduceEqDiff,Nat.reduceAdd,reduceIte,reduceCtorEq,Nat.reduceLT,Nat.reduceLeDiff,Nat.reduceShiftRight,Nat.reduceMod]) | (with_reducible first | refine RnB.ii ?_ | refine RnB.app ?_) | (with_reducible refine RnB.fxB ?_;simp only [vcW,vZ,Int.reduceEq,Int.reduceNe,Int.reduceLT,Int.reduceLE,Nat.reduceEqDiff,Nat.reduceAdd,reduceIte,reduceCtorEq,Nat.reduceLT,Nat.reduceLeDiff,Nat.reduceShiftRight,Nat.reduceMod]) | omega)
     all_goals trace_state
  ·have hil:s=2 ^ S:=by omega
   subst hil
   have hc1:¬ ((2 ^ S:Nat):Int)<(2 ^ S:Nat):=by omega
   have hfd:fdS items l S=none:=find_no hno
   rw [hfd,ftR]
   simp only [hc1,vZ,Int.reduceEq,Int.reduceNe,Int.reduceLT,Int.reduceLE,Nat.reduceEqDiff,Nat.reduceAdd,reduceIte,reduceCtorEq,Nat.reduceLT,Nat.reduceLeDiff,Nat.reduceShiftRight,Nat.reduceMod]
end Go.Proofs.YtpaklfjlbocfcaaGreatDoor

/- Contracts: the model of whole charges;which charges are whole;equal fits. By an AI agent;nothing here is trusted. -/
namespace Go.Proofs.YtpaklfjlbocfcaaGreatDoor
open Go.Av

def whl (n:Int):Bool:=decide (0≤n∧n≤1000)
theorem Modelled_1_s (n:Int):Sound Tryz.prog 117 [.int .i64 n] (.bool (!whl n)):=by
 refine sound_W f_pulse_Modelled_1 (Nat.le_of_ble_eq_true rfl) ?_
 simp only [c_pulse_Modelled_1,vZ,Int.reduceEq,Int.reduceNe,Int.reduceLT,Int.reduceLE,Nat.reduceEqDiff,Nat.reduceAdd,reduceIte,reduceCtorEq,Nat.reduceLT,Nat.reduceLeDiff,Nat.reduceShiftRight,Nat.reduceMod]
 refine callS_of (within_s _ _ _) ?_
 simp only [whl,vZ,Int.reduceEq,Int.reduceNe,Int.reduceLT,Int.reduceLE,Nat.reduceEqDiff,Nat.reduceAdd,reduceIte,reduceCtorEq,Nat.reduceLT,Nat.reduceLeDiff,Nat.reduceShiftRight,Nat.reduceMod]
def moE (items:List Int) (shifts:Int) (ch:List Int):Int:=if teE items shifts ≠ 0 then teE items shifts else if (ch.length:Int)=shifts then (if ch.all whl then 0 else 2) else 10
def moO (items:List Int) (shifts:Int) (ch:List Int):List Int:=if moE items shifts ch=0 then mdA items ch else []
theorem moE_ok {items ch:List Int} {shifts:Int} (h:moE items shifts ch=0):teE items shifts=0∧(ch.length:Int)=shifts∧∀ x ∈ ch,0≤x∧x≤1000:=by
 unfold moE at h
 split at h
 ·rename_i g;exact absurd h g
 ·rename_i g
  split at h
  ·rename_i g2
   split at h
   ·rename_i g3
    exact ⟨by omega,g2,fun x hx=>of_decide_eq_true (List.all_eq_true.1 g3 x hx)⟩
   ·cases h
  ·cases h
theorem Modelled_s (items:List Int) (shifts:Int) (ch:List Int) (hi:items.length<4000000000000000000) (hl:ch.length<4000000000000000000) :
  Sound Tryz.prog 57 [tplA items shifts,.sl (ints ch)] (.tup [.sl (ints (moO items shifts ch)),.int .i64 (moE items shifts ch)]):=by
 refine sound_W f_pulse_Modelled (Nat.le_of_ble_eq_true rfl) ?_
 have hT:=templateErr_s items shifts hi
 unfold tplA at hT
 have hall:(!ch.any fun n=>!whl n)=ch.all whl:=by rw [List.not_any_eq_all_not];simp only [Bool.not_not]
 have hv:(if teE items shifts ≠ 0 then teE items shifts else if (if decide ((ch.length:Int)=shifts)=true then (0:Int) else 10) ≠ 0 then (if decide ((ch.length:Int)=shifts)=true then (0:Int) else 10) else if ch.all whl=true then (0:Int) else 2)=moE items shifts ch:=by
  unfold moE
  by_cases h1:teE items shifts=0
  ·rw [if_neg (by omega),if_neg (show ¬ teE items shifts ≠ 0 by omega)]
   by_cases h2:(ch.length:Int)=shifts
   ·simp [h2]
   ·simp [h2]
  ·rw [if_pos h1,if_pos h1]
 have hF:=first3_s (teE items shifts) (if decide ((ch.length:Int)=shifts)=true then (0:Int) else 10) (if ch.all whl=true then (0:Int) else 2)
 rw [hv] at hF
 simp only [c_pulse_Modelled,tplA,vZ,Int.reduceEq,Int.reduceNe,Int.reduceLT,Int.reduceLE,Nat.reduceEqDiff,Nat.reduceAdd,reduceIte,reduceCtorEq,Nat.reduceLT,Nat.reduceLeDiff,Nat.reduceShiftRight,Nat.reduceMod]
 refine callS_of (contFunc_int_s ch _ [] (fun n=>!whl n) hl (by simp) (fun x _=>Modelled_1_s x)) ?_
 simp only [vZ,Int.reduceEq,Int.reduceNe,Int.reduceLT,Int.reduceLE,Nat.reduceEqDiff,Nat.reduceAdd,reduceIte,reduceCtorEq,Nat.reduceLT,Nat.reduceLeDiff,Nat.reduceShiftRight,Nat.reduceMod]
 refine callS_of hT ?_
 simp only [vZ,Int.reduceEq,Int.reduceNe,Int.reduceLT,Int.reduceLE,Nat.reduceEqDiff,Nat.reduceAdd,reduceIte,reduceCtorEq,Nat.reduceLT,Nat.reduceLeDiff,Nat.reduceShiftRight,Nat.reduceMod]
 refine callS_of (unless_s _ _) ?_
 simp only [hall,vZ,Int.reduceEq,Int.reduceNe,Int.reduceLT,Int.reduceLE,Nat.reduceEqDiff,Nat.reduceAdd,reduceIte,reduceCtorEq,Nat.reduceLT,Nat.reduceLeDiff,Nat.reduceShiftRight,Nat.reduceMod]
 refine callS_of (unless_s _ _) ?_
 simp only [hall,vZ,Int.reduceEq,Int.reduceNe,Int.reduceLT,Int.reduceLE,Nat.reduceEqDiff,Nat.reduceAdd,reduceIte,reduceCtorEq,Nat.reduceLT,Nat.reduceLeDiff,Nat.reduceShiftRight,Nat.reduceMod]
 refine callS_of hF ?_
 by_cases hm:moE items shifts ch=0
 case neg =>
  have ho:moO items shifts ch=[]:=by unfold moO;rw [if_neg hm]
  have z:ints []=[]:=rfl
  rw [ho]
  simp only [hm,z,vZ,Int.reduceEq,Int.reduceNe,Int.reduceLT,Int.reduceLE,Nat.reduceEqDiff,Nat.reduceAdd,reduceIte,reduceCtorEq,Nat.reduceLT,Nat.reduceLeDiff,Nat.reduceShiftRight,Nat.reduceMod]
  intro _ k hk;simp [refsL,refs,upd] at hk;subst hk;simp [upd]
 have ho:moO items shifts ch=mdA items ch:=by unfold moO;rw [if_pos hm]
 obtain ⟨t1,t2,t3⟩:=moE_ok hm
 obtain ⟨⟨a1,a2⟩,a3,_,a5⟩:=teE_ok t1
 have hM:=model_s (items:=items) (ch:=ch) shifts (C:=1000) a1 a2 (by omega) (by omega) a3 (fun x hx=>by have:=t3 x hx;omega)
 unfold tplA at hM
 rw [ho]
 simp only [hm,vZ,Int.reduceEq,Int.reduceNe,Int.reduceLT,Int.reduceLE,Nat.reduceEqDiff,Nat.reduceAdd,reduceIte,reduceCtorEq,Nat.reduceLT,Nat.reduceLeDiff,Nat.reduceShiftRight,Nat.reduceMod]
 refine ⟨by intro _ k hk;simp [refsL,refs,upd] at hk;subst hk;simp [upd],?_⟩
 refine callS_own hM rfl ?_
 simp only [ownS_ints,hm,vZ,Int.reduceEq,Int.reduceNe,Int.reduceLT,Int.reduceLE,Nat.reduceEqDiff,Nat.reduceAdd,reduceIte,reduceCtorEq,Nat.reduceLT,Nat.reduceLeDiff,Nat.reduceShiftRight,Nat.reduceMod]
 rw [borB_good _ _ _ _ _ (by rw [ints_length]) (ints_fx _)]
def crE (shifts:Int) (ch:List Int):Int:=if (ch.length:Int)=shifts then (if ch.all whl then 0 else 2) else 10
theorem ChargesErr_s (items:List Int) (shifts:Int) (ch:List Int) (h5:shifts≤5):Sound Tryz.prog 55 [tplA items shifts,.sl (ints ch)] (.int .i64 (crE shifts ch)):=by
 refine sound_W f_ref02_ChargesErr (Nat.le_of_ble_eq_true rfl) ?_
 by_cases h1:(ch.length:Int)=shifts
 case neg =>
  have he:crE shifts ch=10:=by unfold crE;rw [if_neg h1]
  rw [he]
  simp only [c_ref02_ChargesErr,tplA,h1,vZ,Int.reduceEq,Int.reduceNe,Int.reduceLT,Int.reduceLE,Nat.reduceEqDiff,Nat.reduceAdd,reduceIte,reduceCtorEq,Nat.reduceLT,Nat.reduceLeDiff,Nat.reduceShiftRight,Nat.reduceMod]
 have hcr:crE shifts ch=if ch.all whl then 0 else 2:=by unfold crE;rw [if_pos h1]
 rw [hcr]
 subst h1
 simp only [c_ref02_ChargesErr,tplA,vZ,Int.reduceEq,Int.reduceNe,Int.reduceLT,Int.reduceLE,Nat.reduceEqDiff,Nat.reduceAdd,reduceIte,reduceCtorEq,Nat.reduceLT,Nat.reduceLeDiff,Nat.reduceShiftRight,Nat.reduceMod]
 refine W_loop (t:=.mk) (α:=PSigma fun i:Nat=>i≤ch.length∧(ch.take i).all whl=true) (fun ⟨i,_⟩=>(envOf [(1,.sl (ints ch)),(5,.int .i64 i)],stOf [])) (fun p=>ch.length - p.1) ⟨0,Nat.zero_le _,rfl⟩ ?_ (fun ⟨i,hi,hn⟩=>?_)
 ·refine weakX [] (of_decide_eq_true rfl) (of_decide_eq_true rfl) ?_
  (simp only [vcW,vZ,Int.reduceEq,Int.reduceNe,Int.reduceLT,Int.reduceLE,Nat.reduceEqDiff,Nat.reduceAdd,reduceIte,reduceCtorEq,Nat.reduceLT,Nat.reduceLeDiff,Nat.reduceShiftRight,Nat.reduceMod])
  (repeat' first | exact trivial | (with_reducible first | exact RnB.fxB (ints_fxB _) | rfl | refine And.intro ?_ ?_) | (with_reducible (first | refine RnB.bb ?_ | refine RnB.nb ?_);simp only [vcW,vZ,Int.reduceEq,Int.reduceNe,Int.reduceLT,Int.reduceLE,Nat.reduceEqDiff,Nat.reduceAdd,reduceIte,reduceCtorEq,Nat.reduceLT,Nat.reduceLeDiff,Nat.reduceShiftRight,Nat.reduceMod]) | (with_reducible first | refine RnB.ii ?_ | refine RnB.app ?_) | (with_reducible refine RnB.fxB ?_;simp only [vcW,vZ,Int.reduceEq,Int.reduceNe,Int.reduceLT,Int.reduceLE,Nat.reduceEqDiff,Nat.reduceAdd,reduceIte,reduceCtorEq,Nat.reduceLT,Nat.reduceLeDiff,Nat.reduceShiftRight,Nat.reduceMod]) | omega)
 ·dsimp only at hi hn ⊢
  by_cases h':i<ch.length
  ·have h3:(i:Int)<ch.length:=by omega
   have ht:(ch.take (i+1)).all whl=((ch.take i).all whl && whl ch[i]):=by rw [List.take_succ_eq_append_getElem h',List.all_append];simp
   simp only [h3,ints_get ch i h',vZ,Int.reduceEq,Int.reduceNe,Int.reduceLT,Int.reduceLE,Nat.reduceEqDiff,Nat.reduceAdd,reduceIte,reduceCtorEq,Nat.reduceLT,Nat.reduceLeDiff,Nat.reduceShiftRight,Nat.reduceMod]
   (repeat (with_reducible refine And.intro ?_ ?_;focus (first | omega | (unfold I64;omega))))
   refine callS_of (Within_s _ _ _) ?_
   by_cases hw:0≤ch[i]∧ch[i]≤1000
   ·have hwt:whl ch[i]=true:=decide_eq_true hw
    simp only [hw,vZ,Int.reduceEq,Int.reduceNe,Int.reduceLT,Int.reduceLE,Nat.reduceEqDiff,Nat.reduceAdd,reduceIte,reduceCtorEq,Nat.reduceLT,Nat.reduceLeDiff,Nat.reduceShiftRight,Nat.reduceMod]
    (repeat (with_reducible refine And.intro ?_ ?_;focus (first | omega | (unfold I64;omega))))
    refine ⟨⟨i+1,h',by rw [ht,hn,hwt];rfl⟩,by simp only;omega,?_⟩
    refine weakX [] (of_decide_eq_true rfl) (of_decide_eq_true rfl) ?_
    (simp only [vcW,vZ,Int.reduceEq,Int.reduceNe,Int.reduceLT,Int.reduceLE,Nat.reduceEqDiff,Nat.reduceAdd,reduceIte,reduceCtorEq,Nat.reduceLT,Nat.reduceLeDiff,Nat.reduceShiftRight,Nat.reduceMod])
    (repeat' first | exact trivial | (with_reducible first | exact RnB.fxB (ints_fxB _) | rfl | refine And.intro ?_ ?_) | (with_reducible (first | refine RnB.bb ?_ | refine RnB.nb ?_);simp only [vcW,vZ,Int.reduceEq,Int.reduceNe,Int.reduceLT,Int.reduceLE,Nat.reduceEqDiff,Nat.reduceAdd,reduceIte,reduceCtorEq,Nat.reduceLT,Nat.reduceLeDiff,Nat.reduceShiftRight,Nat.reduceMod]) | (with_reducible first | refine RnB.ii ?_ | refine RnB.app ?_) | (with_reducible refine RnB.fxB ?_;simp only [vcW,vZ,Int.reduceEq,Int.reduceNe,Int.reduceLT,Int.reduceLE,Nat.reduceEqDiff,Nat.reduceAdd,reduceIte,reduceCtorEq,Nat.reduceLT,Nat.reduceLeDiff,Nat.reduceShiftRight,Nat.reduceMod]) | omega)
   ·have hwt:whl ch[i]=false:=decide_eq_false hw
    have hf:ch.all whl=false:=by
     rw [List.all_eq_false];exact ⟨ch[i],List.getElem_mem h',by rw [hwt];decide⟩
    simp only [hw,hf,vZ,Int.reduceEq,Int.reduceNe,Int.reduceLT,Int.reduceLE,Nat.reduceEqDiff,Nat.reduceAdd,reduceIte,reduceCtorEq,Nat.reduceLT,Nat.reduceLeDiff,Nat.reduceShiftRight,Nat.reduceMod]
  ·have h3:¬ (i:Int)<ch.length:=by omega
   have hil:i=ch.length:=by omega
   subst hil
   rw [List.take_length] at hn
   simp only [h3,hn,vZ,Int.reduceEq,Int.reduceNe,Int.reduceLT,Int.reduceLE,Nat.reduceEqDiff,Nat.reduceAdd,reduceIte,reduceCtorEq,Nat.reduceLT,Nat.reduceLeDiff,Nat.reduceShiftRight,Nat.reduceMod]
theorem SameFit_s (d1 d2:Int) (c1 c2:List Int) (h:c1.length≤1000000000):Sound Tryz.prog 34 [fitA d1 c1,fitA d2 c2] (.bool (decide (d1=d2∧c1=c2))):=by
 refine sound_W f_ref02_SameFit (Nat.le_of_ble_eq_true rfl) ?_
 have hI:=Ints_s c1 c2 h
 by_cases e:d1=d2
 ·subst e
  have hr:decide (d1=d1∧c1=c2)=decide (c1=c2):=by simp
  rw [hr]
  simp only [c_ref02_SameFit,fitA,vZ,Int.reduceEq,Int.reduceNe,Int.reduceLT,Int.reduceLE,Nat.reduceEqDiff,Nat.reduceAdd,reduceIte,reduceCtorEq,Nat.reduceLT,Nat.reduceLeDiff,Nat.reduceShiftRight,Nat.reduceMod]
  refine callS_of hI ?_
  simp only [vZ,Int.reduceEq,Int.reduceNe,Int.reduceLT,Int.reduceLE,Nat.reduceEqDiff,Nat.reduceAdd,reduceIte,reduceCtorEq,Nat.reduceLT,Nat.reduceLeDiff,Nat.reduceShiftRight,Nat.reduceMod]
 ·have hr:decide (d1=d2∧c1=c2)=false:=by simp [e]
  rw [hr]
  simp only [c_ref02_SameFit,fitA,e,vZ,Int.reduceEq,Int.reduceNe,Int.reduceLT,Int.reduceLE,Nat.reduceEqDiff,Nat.reduceAdd,reduceIte,reduceCtorEq,Nat.reduceLT,Nat.reduceLeDiff,Nat.reduceShiftRight,Nat.reduceMod]
end Go.Proofs.YtpaklfjlbocfcaaGreatDoor

/- From photons to photons: the plain law. By an AI agent;nothing here is trusted. -/
namespace Go.Proofs.YtpaklfjlbocfcaaGreatDoor
open Go.Av

theorem drpE_08 {d:Droop} (hd:d.ok) {up:Bool} {l:List Int} (h:smE l=0):drpE d up l=0∨drpE d up l=8:=by
 unfold drpE
 rw [if_pos hd,if_pos h]
 split <;> simp
theorem jE2_08 {hi lo:List Int} {full fac:Int} (h:jE hi lo full fac=0):jE2 hi lo full fac=0∨jE2 hi lo full fac=8:=by
 unfold jE2
 rw [if_neg (by simpa using h)]
 split <;> simp
def hiL (m:List Int):List Int:=m.map fun x=>min 60 (3 * x)
def tri (l:List Int):List Int:=l.map fun x=>3 * x
theorem jl_tri (m:List Int):∀ i,i≤m.length→jl (hiL m) m 60 3 i=(tri m).take i
 | 0,_=>rfl
 | i+1,h=>by
  have hi:i<m.length:=h
  rw [jl,jl_tri m i (by omega),List.take_succ_eq_append_getElem (by simp [tri];omega)]
  congr 2
  unfold jv hiL tri
  rw [List.getD_eq_getElem?_getD,List.getD_eq_getElem?_getD,List.getElem?_eq_getElem (by simpa using hi),List.getElem?_eq_getElem hi]
  simp only [Option.getD_some,List.getElem_map]
  split <;> omega
theorem hi_len (m:List Int):(hiL m).length=m.length:=by simp [hiL]
theorem tri_len (m:List Int):(tri m).length=m.length:=by simp [tri]
theorem jO_tri {m:List Int} (h:jE2 (hiL m) m 60 3=0):jO (hiL m) m 60 3=tri m:=by
 unfold jO
 rw [if_pos h,hi_len,jl_tri m _ (Nat.le_refl _),List.take_of_length_le (by rw [tri_len];exact Nat.le_refl _)]
theorem mdT_tri (items ch:List Int) (n:Nat):∀ k,mdT items (tri ch) n k=3 * mdT items ch n k
 | 0=>rfl
 | k+1=>by
  rw [mdT,mdT,mdT_tri items ch n k,Int.mul_add]
  congr 1
  split
  ·have:(tri ch).getD k 0=3 * ch.getD k 0:=by
    unfold tri
    rw [List.getD_eq_getElem?_getD,List.getD_eq_getElem?_getD,List.getElem?_map]
    cases ch[k]? <;> simp
   rw [this,Int.mul_assoc]
  ·rfl
theorem mdA_tri (items ch:List Int):mdA items (tri ch)=tri (mdA items ch):=by
 refine List.ext_getElem (by rw [mdA_len,tri_len,tri_len,mdA_len]) fun i h1 h2=>?_
 have e:(tri (mdA items ch))[i]=3 * (mdA items ch)[i]'(by rw [tri_len] at h2;exact h2):=by simp [tri]
 rw [mdA_get _ _ h1,tri_len,mdT_tri,e,mdA_get]
theorem smE_of' {l:List Int} (h1:1≤l.length∧l.length≤24) (h2:l.all smp=true):smE l=0:=by
 unfold smE
 rw [if_neg (by omega),if_neg (by omega),if_pos h2]
theorem jE2_sm {hi lo:List Int} {full fac:Int} (h:jE2 hi lo full fac=0):smE (jl hi lo full fac hi.length)=0:=by
 unfold jE2 at h
 split at h
 ·rename_i g;exact absurd h g
 ·rename_i g
  split at h
  ·rename_i g2
   have h1:=smE_ok (jE_ok (by simpa using g)).1
   exact smE_of' (by rw [jl_len];exact ⟨h1.1,h1.2.1⟩) g2
  ·cases h
theorem fdE_of {items:List Int} {shifts:Int} {l:List Int} (h1:teE items shifts=0) (h2:smE l=0) (h3:(l.length:Int)=shifts+items.length - 1):fdE items shifts l=0:=by
 unfold fdE
 rw [if_neg (by simpa using h1),if_neg (by simpa using h2),if_pos h3]
theorem sqN_zeros:∀ (l:List Int),(∀ x ∈ l,x=0)→sqN l=0
 | [],_=>rfl
 | x :: l,h=>by
  rw [sqN,sqN_zeros l fun y hy=>h y (by simp [hy]),h x (by simp)];rfl
theorem dfL_model (items ch:List Int):sqN (dfL items (mdA items ch) ch 1)=0:=by
 refine sqN_zeros _ fun x hx=>?_
 unfold dfL at hx
 obtain ⟨n,hn,rfl⟩:=List.mem_map.1 hx
 have hn':=List.mem_range.1 hn
 rw [getD_at hn',mdA_get _ _ hn'];omega
theorem phot_one {ch:List Int}:photL 1 1 ch=ch:=by
 unfold photL
 conv=>rhs;rw [← List.map_id ch]
 refine List.map_congr_left fun x _=>?_
 simp only [id]
 omega
theorem low_one (n:Int):lowN n 1=n∧lowD n 1=1:=by
 unfold lowN lowD lowG
 have:Int.gcd n 1=1:=by simp
 rw [this]
 simp
def sumR (f:Nat→Int) (N:Nat):Int:=((List.range N).map f).sum
theorem sumR_succ (f:Nat→Int) (N:Nat):sumR f (N+1)=sumR f N+f N:=by simp [sumR,List.range_succ]
theorem sumR_add (f g:Nat→Int):∀ N,sumR (fun n=>f n+g n) N=sumR f N+sumR g N
 | 0=>by simp [sumR]
 | N+1=>by rw [sumR_succ,sumR_succ,sumR_succ,sumR_add f g N];omega
theorem sumR_zero:∀ N,sumR (fun _=>0) N=0
 | 0=>rfl
 | N+1=>by rw [sumR_succ,sumR_zero N];rfl
theorem sumR_item (items:List Int) (c:Int) (k:Nat):∀ N,sumR (fun n=>if k≤n∧n - k<items.length then c * items.getD (n - k) 0 else 0) N=c * (items.take (N - k)).sum
 | 0=>by simp [sumR]
 | N+1=>by
  rw [sumR_succ,sumR_item items c k N]
  by_cases h:k≤N∧N - k<items.length
  ·rw [if_pos h,show N+1 - k=(N - k)+1 by omega,List.take_succ_eq_append_getElem h.2,List.sum_append,Int.mul_add,getD_at h.2]
   simp
  ·rw [if_neg h]
   by_cases h1:k≤N
   ·rw [List.take_of_length_le (by omega),List.take_of_length_le (by omega)];omega
   ·rw [show N+1 - k=N - k by omega];omega
theorem sumR_md (items ch:List Int) (N:Nat):∀ k,k≤ch.length→k+items.length≤N+1→sumR (fun n=>mdT items ch n k) N=(ch.take k).sum * items.sum
 | 0,_,_=>by
  have:(fun n=>mdT items ch n 0)=fun _=>0:=rfl
  rw [this,sumR_zero];simp
 | k+1,h,hN=>by
  have e:(fun n=>mdT items ch n (k+1))=fun n=>mdT items ch n k+(if k≤n∧n - k<items.length then ch.getD k 0 * items.getD (n - k) 0 else 0):=rfl
  have hk:k<ch.length:=h
  rw [e,sumR_add,sumR_md items ch N k (by omega) (by omega),sumR_item,List.take_of_length_le (show items.length≤N - k by omega),List.take_succ_eq_append_getElem hk,List.sum_append,Int.add_mul,getD_at hk]
  simp
theorem md_sum (items ch:List Int) (hi:1≤items.length) (hc:1≤ch.length):(mdA items ch).sum=ch.sum * items.sum:=by
 have e:mdA items ch=(List.range (ch.length+items.length - 1)).map fun n=>mdT items ch n ch.length:=by
  refine List.ext_getElem (by rw [mdA_len];simp) fun i h1 h2=>?_
  rw [mdA_get _ _ h1];simp
 rw [e]
 have:=sumR_md items ch (ch.length+items.length - 1) ch.length (Nat.le_refl _) (by omega)
 unfold sumR at this
 rw [this,List.take_length]
end Go.Proofs.YtpaklfjlbocfcaaGreatDoor

/- The marked code of law functions;printed by a program. By an AI agent;nothing here is trusted. -/
namespace Go.Proofs.YtpaklfjlbocfcaaGreatDoor
open Go.Av
def cl_top_TopPulseBest_b2:ML:=(.seq (.seq (.reg 62165404551223330269422781018352605012557018849668464680057997111644937126609621614594 [mV 282 35,mV 283 1,mO 284 (.len false (.t 283)),mO 285 (.bin .lss (.t 282) (.t 284))] false []) (.cond (.t 285) .skip (.exit 2))) (.seq (.block 3 (.seq (.reg 509258994083621521567111422102344540262867098416484062659035112338595324940834219495522306 [mO 288 (.fieldAddr (.t 33) 1),mO 289 (.load none (.t 288)),mV 290 35,mO 291 (.indexAddr (.t 289) (.t 290) 1),mO 292 (.load none (.t 291)),mV 293 1,mV 294 35,mO 295 (.indexAddr (.t 293) (.t 294) 1),mO 296 (.load none (.t 295)),mO 297 (.bin .mul (.c (.int .i64 3)) (.t 296)),mO 298 (.bin .neq (.t 292) (.t 297))] true []) (.cond (.t 298) (.seq (.reg 64 [mO 6 (.mv (.c (.bool false)))] false []) .ret) .skip))) (.reg 42949672962 [mV 286 35,mO 287 (.bin .add (.t 286) (.c (.int .i64 1))),mV 35 287] false [])))
def cl_top_TopPulseBest_b0:ML:=(.seq (.seq (.reg 13479973333575319897333507543509815336818572211270286240553684172938 [mV 220 30,mV 221 7,mO 222 (.len false (.t 221)),mO 223 (.bin .lss (.t 220) (.t 222))] false []) (.cond (.t 223) .skip (.exit 0))) (.seq (.block 1 (.reg 1879048330 [mV 226 28,mV 227 7,mV 228 30,mO 229 (.indexAddr (.t 227) (.t 228) 1),mO 230 (.load none (.t 229)),mO 231 (.bin .mul (.c (.int .i64 3)) (.t 230)),mO 232 (.min [(.c (.int .i64 60)),(.t 231)]),mO 233 (.buildSlice 3 1 1 (.int .i64 0) [(0,(.t 232))]),mO 234 (.append 3 1 8 (.int .i64 0) (.t 226) (.t 233)),mV 235 29,mV 236 7,mV 237 30,mO 238 (.indexAddr (.t 236) (.t 237) 1),mO 239 (.load none (.t 238)),mO 240 (.buildSlice 3 1 1 (.int .i64 0) [(0,(.t 239))]),mO 241 (.append 3 1 8 (.int .i64 0) (.t 235) (.t 240)),mV 28 234,mV 29 241] true [(mO 233 (.buildSlice 3 1 1 (.int .i64 0) [(0,(.t 232))]),mO 238 (.indexAddr (.t 236) (.t 237) 1)),(mO 234 (.append 3 1 8 (.int .i64 0) (.t 226) (.t 233)),mO 238 (.indexAddr (.t 236) (.t 237) 1)),(mO 233 (.buildSlice 3 1 1 (.int .i64 0) [(0,(.t 232))]),mO 239 (.load none (.t 238))),(mO 234 (.append 3 1 8 (.int .i64 0) (.t 226) (.t 233)),mO 239 (.load none (.t 238))),(mO 229 (.indexAddr (.t 227) (.t 228) 1),mO 240 (.buildSlice 3 1 1 (.int .i64 0) [(0,(.t 239))])),(mO 230 (.load none (.t 229)),mO 240 (.buildSlice 3 1 1 (.int .i64 0) [(0,(.t 239))])),(mO 233 (.buildSlice 3 1 1 (.int .i64 0) [(0,(.t 232))]),mO 240 (.buildSlice 3 1 1 (.int .i64 0) [(0,(.t 239))])),(mO 234 (.append 3 1 8 (.int .i64 0) (.t 226) (.t 233)),mO 240 (.buildSlice 3 1 1 (.int .i64 0) [(0,(.t 239))]))])) (.reg 1879048330 [mV 224 30,mO 225 (.bin .add (.t 224) (.c (.int .i64 1))),mV 30 225] false [])))
def cl_top_TopPulseBest_29:ML:=(.seq (.reg 64 [mO 6 (.mv (.c (.bool true)))] false []) .ret)
def cl_top_TopPulseBest_28:ML:=(.seq (.seq (.reg 42949672962 [mO 35 (.mv (.c (.int .i64 0)))] false []) (.block 2 (.loop cl_top_TopPulseBest_b2))) (.cut cl_top_TopPulseBest_29))
def cl_top_TopPulseBest_23:ML:=(.seq (.seq (.reg 28269553036454149273332760011886696253239742350009903329945699221487222794 [mV 242 28,mO 243 (.call 35 [(.t 242)]),mO 244 (.bin .neq (.t 243) (.c (.int .i64 0)))] false []) (.cond (.t 244) (.seq (.reg 64 [mO 6 (.mv (.c (.bool true)))] false []) .ret) .skip)) (.seq (.reg 6442450954 [mV 246 28,mO 247 (.call 24 [(.t 246)]),mV 248 29,mO 249 (.call 24 [(.t 248)]),mO 250 (.build [(.int .i64 0),(.int .i64 0)] [(0,(1,(.c (.int .i64 60)))),(1,(1,(.c (.int .i64 3))))]),mO 251 (.call 69 [(.t 247),(.t 249),(.t 250)]),mV 245 251,mO 252 (.extract (.t 245) 0),mO 253 (.extract (.t 245) 1),mO 31 (.alloc 51 1 (.agg [.nils])),⟨none,none,.store 1 (.t 31) (.t 252)⟩,mV 32 253] false []) (.seq (.seq (.reg 57896044618658097711785492504343953926634992332820282019728792003963007270922 [mV 254 32,mO 255 (.bin .neq (.t 254) (.c (.int .i64 0)))] false []) (.cond (.t 255) (.seq (.reg 64 [mV 256 32,mO 257 (.bin .eql (.t 256) (.c (.int .i64 8))),mV 6 257] false []) .ret) .skip)) (.seq (.reg 25769803778 [mO 259 (.load (some 2) (.t 3)),mO 260 (.call 58 [(.t 259)]),mO 261 (.fieldAddr (.t 31) 0),mO 262 (.load none (.t 261)),mO 263 (.call 49 [(.t 262)]),mO 264 (.call 62 [(.t 260),(.t 263)]),mV 258 264,mO 265 (.extract (.t 258) 0),mO 266 (.extract (.t 258) 1),mO 33 (.alloc 47 2 (.agg [(.int .i64 0),.nils])),⟨none,none,.store 2 (.t 33) (.t 265)⟩,mV 34 266] true [(mO 259 (.load (some 2) (.t 3)),mO 33 (.alloc 47 2 (.agg [(.int .i64 0),.nils]))),(mO 260 (.call 58 [(.t 259)]),mO 33 (.alloc 47 2 (.agg [(.int .i64 0),.nils]))),(mO 261 (.fieldAddr (.t 31) 0),mO 33 (.alloc 47 2 (.agg [(.int .i64 0),.nils]))),(mO 262 (.load none (.t 261)),mO 33 (.alloc 47 2 (.agg [(.int .i64 0),.nils]))),(mO 263 (.call 49 [(.t 262)]),mO 33 (.alloc 47 2 (.agg [(.int .i64 0),.nils]))),(mO 264 (.call 62 [(.t 260),(.t 263)]),mO 33 (.alloc 47 2 (.agg [(.int .i64 0),.nils])))]) (.seq (.seq (.reg 3885337784451458141838923813647037813284813678104279042503624819477808570419006930946 [mV 267 34,mO 268 (.bin .neq (.t 267) (.c (.int .i64 0))),mV 269 268,mG 269 false 270 (.fieldAddr (.t 33) 0),mG 269 false 271 (.load none (.t 270)),mG 269 false 272 (.bin .neq (.t 271) (.c (.int .i64 1))),mO 273 (.pick (.t 269) (.c (.bool true)) (.t 272)),mV 274 273,mG 274 false 275 (.fieldAddr (.t 33) 1),mG 274 false 276 (.load none (.t 275)),mG 274 false 277 (.len false (.t 276)),mG 274 false 278 (.mv (.t 1)),mG 274 false 279 (.len false (.t 278)),mG 274 false 280 (.bin .neq (.t 277) (.t 279)),mO 281 (.pick (.t 274) (.c (.bool true)) (.t 280))] false []) (.cond (.t 281) (.seq (.reg 64 [mO 6 (.mv (.c (.bool false)))] false []) .ret) .skip)) (.cut cl_top_TopPulseBest_28))))))
def cl_top_TopPulseBest_22:ML:=(.seq (.seq (.reg 1879048330 [mO 30 (.mv (.c (.int .i64 0)))] false []) (.block 0 (.loop cl_top_TopPulseBest_b0))) (.cut cl_top_TopPulseBest_23))
def cl_top_TopPulseBest:ML:=(.seq (.reg 42 [mO 3 (.box 102 2 (.t 0)),mO 5 (.box 104 2 (.t 2)),mO 6 (.mv (.c (.bool false)))] false []) (.seq (.seq (.reg 137438953514 [mO 36 (.call 53 []),mO 37 (.un .not (.t 36))] false []) (.cond (.t 37) (.seq (.reg 64 [mO 6 (.mv (.c (.bool false)))] false []) .ret) .skip)) (.seq (.seq (.reg 2251799813685290 [mO 38 (.load (some 2) (.t 3)),mO 39 (.call 54 [(.t 38)]),mO 40 (.bin .neq (.t 39) (.c (.int .i64 0))),mV 41 40,mG 41 false 42 (.load (some 2) (.t 3)),mG 41 false 43 (.mv (.t 1)),mG 41 false 44 (.call 55 [(.t 42),(.t 43)]),mG 41 false 45 (.bin .neq (.t 44) (.c (.int .i64 0))),mO 46 (.pick (.t 41) (.c (.bool true)) (.t 45)),mV 47 46,mG 47 false 48 (.load (some 2) (.t 5)),mG 47 false 49 (.call 56 [(.t 48)]),mG 47 false 50 (.bin .neq (.t 49) (.c (.int .i64 0))),mO 51 (.pick (.t 47) (.c (.bool true)) (.t 50))] false []) (.cond (.t 51) (.seq (.reg 64 [mO 6 (.mv (.c (.bool true)))] false []) .ret) .skip)) (.seq (.reg 426 [mO 53 (.load (some 2) (.t 3)),mO 54 (.call 58 [(.t 53)]),mV 55 1,mO 56 (.call 49 [(.t 55)]),mO 57 (.call 57 [(.t 54),(.t 56)]),mV 52 57,mO 58 (.extract (.t 52) 0),mO 59 (.extract (.t 52) 1),mV 7 58,mV 8 59] false []) (.seq (.seq (.reg 590295810358705651882 [mV 60 8,mO 61 (.bin .neq (.t 60) (.c (.int .i64 0))),mV 62 61,mG 62 false 63 (.mv (.t 7)),mG 62 false 64 (.load (some 2) (.t 3)),mG 62 false 65 (.mv (.t 1)),mG 62 false 66 (.call 59 [(.t 64),(.t 65)]),mG 62 false 67 (.call 33 [(.t 63),(.t 66)]),mG 62 false 68 (.un .not (.t 67)),mO 69 (.pick (.t 62) (.c (.bool true)) (.t 68))] false []) (.cond (.t 69) (.seq (.reg 64 [mO 6 (.mv (.c (.bool false)))] false []) .ret) .skip)) (.seq (.seq (.reg 4722366482869645213866 [mV 70 7,mO 71 (.call 35 [(.t 70)]),mO 72 (.bin .neq (.t 71) (.c (.int .i64 0)))] false []) (.cond (.t 72) (.seq (.reg 64 [mO 6 (.mv (.c (.bool true)))] false []) .ret) .skip)) (.seq (.reg 1706 [mO 74 (.load (some 2) (.t 5)),mV 75 7,mO 76 (.call 49 [(.t 75)]),mO 77 (.call 60 [(.t 74),(.t 76)]),mV 73 77,mO 78 (.extract (.t 73) 0),mO 79 (.extract (.t 73) 1),mO 9 (.alloc 51 1 (.agg [.nils])),⟨none,none,.store 1 (.t 9) (.t 78)⟩,mV 10 79] true [(mO 74 (.load (some 2) (.t 5)),mO 9 (.alloc 51 1 (.agg [.nils]))),(mO 76 (.call 49 [(.t 75)]),mO 9 (.alloc 51 1 (.agg [.nils]))),(mO 77 (.call 60 [(.t 74),(.t 76)]),mO 9 (.alloc 51 1 (.agg [.nils])))]) (.seq (.seq (.reg 2417851639229258349414058 [mV 80 10,mO 81 (.bin .neq (.t 80) (.c (.int .i64 0)))] false []) (.cond (.t 81) (.seq (.reg 64 [mV 82 10,mO 83 (.bin .eql (.t 82) (.c (.int .i64 8))),mV 6 83] false []) .ret) .skip)) (.seq (.reg 6826 [mO 85 (.fieldAddr (.t 9) 0),mO 86 (.load none (.t 85)),mO 87 (.call 24 [(.t 86)]),mO 88 (.call 23 [(.t 87)]),mO 89 (.call 27 [(.t 88)]),mV 84 89,mO 90 (.extract (.t 84) 0),mO 91 (.extract (.t 84) 1),mO 11 (.alloc 51 1 (.agg [.nils])),⟨none,none,.store 1 (.t 11) (.t 90)⟩,mV 12 91] false []) (.seq (.seq (.reg 2535301200456458802993406412970 [mV 92 12,mO 93 (.bin .neq (.t 92) (.c (.int .i64 0))),mV 94 93,mG 94 false 95 (.fieldAddr (.t 11) 0),mG 94 false 96 (.load none (.t 95)),mG 94 false 97 (.fieldAddr (.t 9) 0),mG 94 false 98 (.load none (.t 97)),mG 94 false 99 (.call 33 [(.t 96),(.t 98)]),mG 94 false 100 (.un .not (.t 99)),mO 101 (.pick (.t 94) (.c (.bool true)) (.t 100))] false []) (.cond (.t 101) (.seq (.reg 64 [mO 6 (.mv (.c (.bool false)))] false []) .ret) .skip)) (.seq (.reg 24714 [mO 103 (.load (some 2) (.t 5)),mO 104 (.load (some 1) (.t 11)),mO 105 (.call 61 [(.t 103),(.t 104)]),mV 102 105,mO 106 (.extract (.t 102) 0),mO 107 (.extract (.t 102) 1),mV 13 106,mV 14 107] false []) (.seq (.seq (.reg 41538374868278621028243970633769098 [mV 108 14,mO 109 (.bin .neq (.t 108) (.c (.int .i64 0))),mV 110 109,mG 110 false 111 (.mv (.t 13)),mG 110 false 112 (.mv (.t 7)),mG 110 false 113 (.call 33 [(.t 111),(.t 112)]),mG 110 false 114 (.un .not (.t 113)),mO 115 (.pick (.t 110) (.c (.bool true)) (.t 114))] false []) (.cond (.t 115) (.seq (.reg 64 [mO 6 (.mv (.c (.bool false)))] false []) .ret) .skip)) (.seq (.reg 98442 [mO 117 (.load (some 2) (.t 3)),mO 118 (.call 58 [(.t 117)]),mV 119 13,mO 120 (.call 49 [(.t 119)]),mO 121 (.call 62 [(.t 118),(.t 120)]),mV 116 121,mO 122 (.extract (.t 116) 0),mO 123 (.extract (.t 116) 1),mO 15 (.alloc 47 2 (.agg [(.int .i64 0),.nils])),⟨none,none,.store 2 (.t 15) (.t 122)⟩,mV 16 123] false []) (.seq (.reg 229514 [mV 124 1,mO 125 (.call 49 [(.t 124)]),mO 126 (.build [(.int .i64 0),.nils] [(0,(1,(.c (.int .i64 1)))),(1,(1,(.t 125)))]),mO 17 (.alloc 47 2 (.agg [(.int .i64 0),.nils])),⟨none,none,.store 2 (.t 17) (.t 126)⟩] false []) (.seq (.seq (.reg 21778071482940061661655974875633165697162 [mV 127 16,mO 128 (.bin .neq (.t 127) (.c (.int .i64 0))),mV 129 128,mG 129 false 130 (.load (some 2) (.t 15)),mG 129 false 131 (.load (some 2) (.t 17)),mG 129 false 132 (.call 34 [(.t 130),(.t 131)]),mG 129 false 133 (.un .not (.t 132)),mO 134 (.pick (.t 129) (.c (.bool true)) (.t 133))] false []) (.cond (.t 134) (.seq (.reg 64 [mO 6 (.mv (.c (.bool false)))] false []) .ret) .skip)) (.seq (.reg 950410 [mO 136 (.load (some 2) (.t 15)),mO 137 (.call 26 [(.t 136)]),mO 138 (.call 25 [(.t 137)]),mO 139 (.call 28 [(.t 138)]),mV 135 139,mO 140 (.extract (.t 135) 0),mO 141 (.extract (.t 135) 1),mO 18 (.alloc 47 2 (.agg [(.int .i64 0),.nils])),⟨none,none,.store 2 (.t 18) (.t 140)⟩,mV 19 141] false []) (.seq (.reg 4096138 [mO 143 (.load (some 2) (.t 3)),mO 144 (.call 58 [(.t 143)]),mV 145 7,mO 146 (.call 49 [(.t 145)]),mO 147 (.load (some 2) (.t 15)),mO 148 (.call 26 [(.t 147)]),mO 149 (.call 63 [(.t 144),(.t 146),(.t 148)]),mV 142 149,mO 150 (.extract (.t 142) 0),mO 151 (.extract (.t 142) 1),mO 20 (.alloc 115 2 (.agg [(.str []),(.int .i64 0)])),⟨none,none,.store 2 (.t 20) (.t 150)⟩,mV 21 151] true [(mO 143 (.load (some 2) (.t 3)),mO 20 (.alloc 115 2 (.agg [(.str []),(.int .i64 0)]))),(mO 144 (.call 58 [(.t 143)]),mO 20 (.alloc 115 2 (.agg [(.str []),(.int .i64 0)]))),(mO 146 (.call 49 [(.t 145)]),mO 20 (.alloc 115 2 (.agg [(.str []),(.int .i64 0)]))),(mO 147 (.load (some 2) (.t 15)),mO 20 (.alloc 115 2 (.agg [(.str []),(.int .i64 0)]))),(mO 148 (.call 26 [(.t 147)]),mO 20 (.alloc 115 2 (.agg [(.str []),(.int .i64 0)]))),(mO 149 (.call 63 [(.t 144),(.t 146),(.t 148)]),mO 20 (.alloc 115 2 (.agg [(.str []),(.int .i64 0)])))]) (.seq (.reg 16679050 [mO 153 (.load (some 2) (.t 15)),mO 154 (.call 26 [(.t 153)]),mO 155 (.call 64 [(.t 154)]),mV 152 155,mO 156 (.extract (.t 152) 0),mO 157 (.extract (.t 152) 1),mO 22 (.alloc 76 2 (.agg [(.int .i64 0),(.int .i64 0)])),⟨none,none,.store 2 (.t 22) (.t 156)⟩,mV 23 157] false []) (.seq (.reg 67010698 [mO 159 (.load (some 2) (.t 15)),mO 160 (.call 26 [(.t 159)]),mO 161 (.call 65 [(.t 160),(.c (.int .i64 1))]),mV 158 161,mO 162 (.extract (.t 158) 0),mO 163 (.extract (.t 158) 1),mV 24 162,mV 25 163] false []) (.seq (.reg 268304522 [mO 165 (.load (some 2) (.t 3)),mO 166 (.call 58 [(.t 165)]),mV 167 7,mO 168 (.call 49 [(.t 167)]),mO 169 (.load (some 2) (.t 15)),mO 170 (.build [(.int .i64 0),.nils,(.int .i64 0)] [(0,(2,(.t 169)))]),mO 171 (.call 66 [(.t 166),(.t 168),(.t 170)]),mV 164 171,mO 172 (.extract (.t 164) 0),mO 173 (.extract (.t 164) 1),mV 26 172,mV 27 173] true []) (.seq (.seq (.reg 842498333348457493583344221469363458551160763204392890034487820426 [mV 174 19,mO 175 (.bin .neq (.t 174) (.c (.int .i64 0))),mV 176 175,mG 176 false 177 (.load (some 2) (.t 18)),mG 176 false 178 (.load (some 2) (.t 17)),mG 176 false 179 (.call 34 [(.t 177),(.t 178)]),mG 176 false 180 (.un .not (.t 179)),mO 181 (.pick (.t 176) (.c (.bool true)) (.t 180)),mV 182 181,mG 182 false 183 (.mv (.t 21)),mG 182 false 184 (.bin .neq (.t 183) (.c (.int .i64 0))),mO 185 (.pick (.t 182) (.c (.bool true)) (.t 184)),mV 186 185,mG 186 false 187 (.load (some 2) (.t 20)),mG 186 false 188 (.build [(.str []),(.int .i64 0)] [(0,(1,(.c (.str [48])))),(1,(1,(.c (.int .i64 1))))]),mG 186 false 189 (.eqS true [2,1] (.t 187) (.t 188)),mO 190 (.pick (.t 186) (.c (.bool true)) (.t 189)),mV 191 190,mG 191 false 192 (.mv (.t 23)),mG 191 false 193 (.bin .neq (.t 192) (.c (.int .i64 0))),mO 194 (.pick (.t 191) (.c (.bool true)) (.t 193)),mV 195 194,mG 195 false 196 (.load (some 2) (.t 22)),mG 195 false 197 (.mv (.t 1)),mG 195 false 198 (.call 68 [(.t 197)]),mG 195 false 199 (.call 67 [(.t 198)]),mG 195 false 200 (.eqS true [1,1] (.t 196) (.t 199)),mO 201 (.pick (.t 195) (.c (.bool true)) (.t 200)),mV 202 201,mG 202 false 203 (.mv (.t 25)),mG 202 false 204 (.bin .neq (.t 203) (.c (.int .i64 0))),mO 205 (.pick (.t 202) (.c (.bool true)) (.t 204)),mV 206 205,mG 206 false 207 (.mv (.t 24)),mG 206 false 208 (.mv (.t 1)),mG 206 false 209 (.call 33 [(.t 207),(.t 208)]),mG 206 false 210 (.un .not (.t 209)),mO 211 (.pick (.t 206) (.c (.bool true)) (.t 210)),mV 212 211,mG 212 false 213 (.mv (.t 27)),mG 212 false 214 (.bin .neq (.t 213) (.c (.int .i64 0))),mO 215 (.pick (.t 212) (.c (.bool true)) (.t 214)),mV 216 215,mG 216 false 217 (.mv (.t 26)),mG 216 false 218 (.un .not (.t 217)),mO 219 (.pick (.t 216) (.c (.bool true)) (.t 218))] true []) (.cond (.t 219) (.seq (.reg 64 [mO 6 (.mv (.c (.bool false)))] false []) .ret) .skip)) (.seq (.reg 805306506 [mO 28 (.mv (.c .nils)),mO 29 (.mv (.c .nils))] false []) (.cut cl_top_TopPulseBest_22)))))))))))))))))))))))
def c_top_TopPulseBest:MC:=cl_top_TopPulseBest.er
theorem f_top_TopPulseBest:cFun Tryz.prog 6=some (299,3,c_top_TopPulseBest,[(6,none)]):=by kernel_rfl
theorem e_top_TopPulseBest:cl_top_TopPulseBest.er=c_top_TopPulseBest:=rfl
end Go.Proofs.YtpaklfjlbocfcaaGreatDoor

/- The examples of chapter 2 hold,as the tops ask;beside the ground of the chapter. By an AI agent;nothing here is trusted. -/
namespace Go.Proofs.YtpaklfjlbocfcaaGreatDoor
open Go.Av
def tabT:List (Nat × Nat × Nat × MC × List (Nat × Option (Option Nat))):=[(53,40,0,c_top_pulseShown,[(0,none)]),(49,6,1,c_base_CopyInts,[(2,none)]),(33,26,2,c_base_Ints,[(4,none)]),(61,12,2,c_pulse_Restored,[(4,none),(5,none)]),(24,6,1,c_ref02_Wave,[(2,(some (some 1)))]),(62,58,2,c_pulse_FitOf,[(4,(some (some 2))),(5,none)]),(87,3,0,c_law02_Template,[(0,(some (some 2)))]),(119,15,1,c_pulse_first,[(2,none)]),(92,11,1,c_pulse_sampled,[(2,none)]),(121,7,2,c_pulse_unless,[(4,none)]),(140,5,1,c_pulse_isSample,[(2,none)]),(113,9,2,c_slices_ContainsFunc_int_int,[(4,none)]),(118,15,3,c_pulse_within,[(6,none)]),(124,60,3,c_pulse_droop,[(6,none),(7,none)]),(125,22,2,c_pulse_fittedErr,[(4,none)]),(126,55,2,c_pulse_problemOf,[(4,(some (some 2)))]),(127,8,1,c_math_bits_TrailingZeros,[(2,none)]),(128,92,2,c_pulse_problem_solved,[(4,(some (some 3))),(5,none)]),(129,56,3,c_pulse_problem_isBest,[(6,none)]),(130,62,2,c_pulse_reduced,[(4,(some (some 2))),(5,none)]),(159,24,1,c_pulse_samplesErr,[(2,none),(3,none)]),(171,10,2,c_pulse_isSized,[(4,none)]),(168,19,2,c_slices_IndexFunc_int_int,[(4,none)]),(173,12,1,c_pulse_droopErr,[(2,none)]),(174,16,2,c_pulse_floor,[(4,none)]),(120,32,1,c_pulse_templateErr,[(2,none)]),(122,47,2,c_pulse_model,[(4,none)]),(175,30,3,c_pulse_against,[(6,none)]),(176,14,1,c_math_bits_TrailingZeros32,[(2,none)]),(177,14,1,c_math_bits_TrailingZeros64,[(2,none)]),(178,57,1,c_pulse_determinant,[(2,(some (some 3)))]),(135,33,2,c_pulse_wide_times,[(4,(some (some 3)))]),(133,57,2,c_pulse_wide_plus,[(4,(some (some 3)))]),(179,11,1,c_pulse_wide_negated,[(2,(some (some 3)))]),(180,9,1,c_pulse_wide_sign,[(2,none)]),(181,60,2,c_pulse_common,[(4,(some (some 3)))]),(182,51,2,c_pulse_wide_over,[(4,(some (some 3)))]),(201,6,1,c_pulse_samplesErr_1,[(2,none)]),(170,6,1,c_pulse_templateErr_1,[(2,none)]),(172,5,1,c_pulse_templateErr_2,[(2,none)]),(134,11,1,c_pulse_wideOf,[(2,(some (some 3)))]),(185,51,2,c_math_bits_Mul64,[(4,none),(5,none)]),(139,24,2,c_pulse_wide_isLess,[(4,none)]),(203,11,1,c_pulse_wide_isZero,[(2,none)]),(204,8,1,c_pulse_wide_size,[(2,(some (some 3)))]),(205,16,1,c_pulse_wide_half,[(2,(some (some 3)))]),(206,6,1,c_pulse_wide_twice,[(2,(some (some 3)))]),(207,4,1,c_slices_Backward_pulse_wide_pulse_wide,[(2,none)]),(222,19,2,c_slices_Backward_pulse_wide_pulse_wide_1,[])]
theorem tabT_ok:∀ f c,lookC tabT f=some c→cFun Tryz.prog f=some c:=by
 refine lookC_ok ?_
 unfold tabT
 simp only [List.forall_mem_cons]
 exact ⟨f_top_pulseShown,f_base_CopyInts,f_base_Ints,f_pulse_Restored,f_ref02_Wave,f_pulse_FitOf,f_law02_Template,f_pulse_first,f_pulse_sampled,f_pulse_unless,f_pulse_isSample,f_slices_ContainsFunc_int_int,f_pulse_within,f_pulse_droop,f_pulse_fittedErr,f_pulse_problemOf,f_math_bits_TrailingZeros,f_pulse_problem_solved,f_pulse_problem_isBest,f_pulse_reduced,f_pulse_samplesErr,f_pulse_isSized,f_slices_IndexFunc_int_int,f_pulse_droopErr,f_pulse_floor,f_pulse_templateErr,f_pulse_model,f_pulse_against,f_math_bits_TrailingZeros32,f_math_bits_TrailingZeros64,f_pulse_determinant,f_pulse_wide_times,f_pulse_wide_plus,f_pulse_wide_negated,f_pulse_wide_sign,f_pulse_common,f_pulse_wide_over,f_pulse_samplesErr_1,f_pulse_templateErr_1,f_pulse_templateErr_2,f_pulse_wideOf,f_math_bits_Mul64,f_pulse_wide_isLess,f_pulse_wide_isZero,f_pulse_wide_size,f_pulse_wide_half,f_pulse_wide_twice,f_slices_Backward_pulse_wide_pulse_wide,f_slices_Backward_pulse_wide_pulse_wide_1,fun p hp=>by cases hp⟩
theorem pulseShown_run:(callX extP owP itP (lookC tabT) 100 40).v 53 []=some (.bool true):=by kernel_rfl
theorem pulseShown_s:Sound Tryz.prog 53 [] (.bool true):=(callX_sound extP_ok itP_ok tabT_ok 40).1 _ _ _ pulseShown_run
end Go.Proofs.YtpaklfjlbocfcaaGreatDoor

/- Contracts off the shelf: strconv.Atoi at every string. By an AI agent;nothing here is trusted. -/
namespace Go.Proofs.YtpaklfjlbocfcaaGreatDoor
open Go.Av
open Go.RowKit (Below)

def atoiV (s:List UInt8):AV:=match Lib.atoiAll s with
 | .ok v=>.tup [.int .i64 v,.nili]
 | .range=>.tup [.int .i64 (Lib.atoiSat s),.ifc]
 | _=>.tup [.int .i64 0,.ifc]
theorem err_of {ok:Nat→Prop} {w:World} (hG:GOk ok w) {g:Nat} (hg:g ∈ gErr):∃ ev,w.cell? ⟨g,0,none⟩=some ev∧(ev=.nilIface∨∃ te pe,ev=.iface te pe):=by
 obtain ⟨_,cur,ty,fr,te,pe,h1,h2⟩:=hG.2 g hg
 refine ⟨.iface te pe,?_,.inr ⟨te,pe,rfl⟩⟩
 rw [cell_of_heap h1];exact h2
theorem vr_pair {h:Array Obj} {ok:Nat→Prop} {ρ:Nat→Option Nat} {σ:Store} {x y:AV} {u v:Value} (h1:VR h ok ρ σ x u) (h2:VR h ok ρ σ y v):VR h ok ρ σ (.tup [x,y]) (.tuple #[u,v]):=by
 refine .tup _ _ rfl fun i c hc=>?_
 match i with
 | 0=>simp at hc;subst hc;exact h1
 | 1=>simp at hc;subst hc;exact h2
 | i+2=>simp at hc
theorem Atoi_s (s:List UInt8) (hs:s.length≤1000000):Sound Tryz.prog 149 [.str s] (atoiV s):=by
 intro w ok cargs hok hG hlen hargs
 rw [args_1 (by simpa using hlen) (vr_str (hargs 0 _ rfl))]
 refine .inr ⟨callFunc_enter Tryz.func149 (by kernel_rfl) rfl _,?_⟩
 have hsz:(⟨s.toArray⟩:ByteArray).size≤1000000:=by simpa [ByteArray.size] using hs
 unfold atoiV
 cases h:Lib.atoiAll s with
 | ok v =>
  refine (Any.strconv_Atoi_ok sh_n172 ⟨s.toArray⟩ (by omega) v (by simpa using h) w).mono fun e w' ⟨he,hw⟩=>⟨_,he,?_,vr_pair (.int _ _) .nili⟩
  rcases hw with hw | ⟨t,hw⟩ <;> rw [hw]
  ·exact Below.refl _ _
  ·exact Lib.bytesWorld_below _ _ _
 | range =>
  obtain ⟨ev,g1,g2⟩:=err_of hG (g:=6) (by simp [gErr])
  refine (Any.strconv_Atoi_range sh_n172 ⟨s.toArray⟩ (by omega) (by simpa using h) ev w g1 g2).mono fun e w' ⟨N,he,h1,h2,h3⟩=>⟨_,he,h3,?_⟩
  exact vr_pair (.int _ _) (.ifc _ _)
 | _ =>
  obtain ⟨ev,g1,g2⟩:=err_of hG (g:=5) (by simp [gErr])
  exact (Any.strconv_Atoi_syntax sh_n172 ⟨s.toArray⟩ (by omega) (by simpa using h) ev w g1 g2).mono fun e w' ⟨N,he,h1,h2,h3⟩=>⟨_,he,h3,vr_pair (.int _ _) (.ifc _ _)⟩
end Go.Proofs.YtpaklfjlbocfcaaGreatDoor

/- Off the library's shelf: the layings of strings.Index,Join,TrimPrefix. Printed by lays.py. By an AI agent;nothing here is trusted. -/
namespace Go.Proofs.YtpaklfjlbocfcaaGreatDoor
def sjRen:Go.Shelf.Ren:=⟨fun x=>match x with | 143=>198 | 156=>77 | 165=>146 | 166=>147 | 169=>148 | 217=>231 | 219=>220 | 224=>233 | 225=>232 | 240=>192 | 241=>193 | 266=>240 | 267=>234 | 276=>212 | 277=>213 | 314=>241 | n=>n,fun x=>match x with | 0=>0 | 3=>3 | 4=>4 | 5=>5 | 9=>9 | 20=>20 | 31=>138 | 37=>207 | 46=>184 | 51=>230 | 70=>206 | 72=>209 | 75=>212 | 76=>213 | 80=>198 | 127=>242 | 146=>288 | 164=>255 | n=>n,fun x=>match x with | 1=>4 | n=>n⟩
set_option maxRecDepth 100000 in
theorem sj_f143:Tryz.prog.funcs[sjRen.f 143]?=some (Go.Proofs.Body.n143 sjRen):=by kernel_rfl
set_option maxRecDepth 100000 in
theorem sj_f217:Tryz.prog.funcs[sjRen.f 217]?=some (Go.Proofs.Body.n217 sjRen):=by kernel_rfl
set_option maxRecDepth 100000 in
theorem sj_f219:Tryz.prog.funcs[sjRen.f 219]?=some (Go.Proofs.Body.n219 sjRen):=by kernel_rfl
set_option maxRecDepth 100000 in
theorem sj_f224:Tryz.prog.funcs[sjRen.f 224]?=some (Go.Proofs.Body.n224 sjRen):=by kernel_rfl
set_option maxRecDepth 100000 in
theorem sj_f225:Tryz.prog.funcs[sjRen.f 225]?=some (Go.Proofs.Body.n225 sjRen):=by kernel_rfl
set_option maxRecDepth 100000 in
theorem sj_f266:Tryz.prog.funcs[sjRen.f 266]?=some (Go.Proofs.Body.n266 sjRen):=by kernel_rfl
set_option maxRecDepth 100000 in
theorem sj_f267:Tryz.prog.funcs[sjRen.f 267]?=some (Go.Proofs.Body.n267 sjRen):=by kernel_rfl
set_option maxRecDepth 100000 in
theorem sj_f314:Tryz.prog.funcs[sjRen.f 314]?=some (Go.Proofs.Body.n314 sjRen):=by kernel_rfl
set_option maxRecDepth 100000 in
theorem sj_f156:Tryz.prog.funcs[sjRen.f 156]?=some (Go.Proofs.Body.n156 sjRen):=by kernel_rfl
set_option maxRecDepth 100000 in
theorem sj_f165:Tryz.prog.funcs[sjRen.f 165]?=some (Go.Proofs.Body.n165 sjRen):=by kernel_rfl
set_option maxRecDepth 100000 in
theorem sj_f166:Tryz.prog.funcs[sjRen.f 166]?=some (Go.Proofs.Body.n166 sjRen):=by kernel_rfl
set_option maxRecDepth 100000 in
theorem sj_f169:Tryz.prog.funcs[sjRen.f 169]?=some (Go.Proofs.Body.n169 sjRen):=by kernel_rfl
set_option maxRecDepth 100000 in
theorem sj_f240:Tryz.prog.funcs[sjRen.f 240]?=some (Go.Proofs.Body.n240 sjRen):=by kernel_rfl
set_option maxRecDepth 100000 in
theorem sj_f241:Tryz.prog.funcs[sjRen.f 241]?=some (Go.Proofs.Body.n241 sjRen):=by kernel_rfl
set_option maxRecDepth 100000 in
theorem sj_f276:Tryz.prog.funcs[sjRen.f 276]?=some (Go.Proofs.Body.n276 sjRen):=by kernel_rfl
set_option maxRecDepth 100000 in
theorem sj_f277:Tryz.prog.funcs[sjRen.f 277]?=some (Go.Proofs.Body.n277 sjRen):=by kernel_rfl
theorem sj_n143:Go.Proofs.Lays.n143 Tryz.prog sjRen :=
 {mixed:=by kernel_rfl,
  f143:=sj_f143,
  f217:=sj_f217,
  f219:=sj_f219,
  f224:=sj_f224,
  f225:=sj_f225,
  f266:=sj_f266,
  f267:=sj_f267,
  f314:=sj_f314,
  t3:=Tryz.underlying3,
  a3:=Tryz.isAgg3,
  z3:=Tryz.sizeOf3,
  v3:=Tryz.zeroValue3,
  t4:=Tryz.underlying4,
  a4:=Tryz.isAgg4,
  z4:=Tryz.sizeOf4,
  v4:=Tryz.zeroValue4,
  t5:=Tryz.underlying5,
  a5:=Tryz.isAgg5,
  z5:=Tryz.sizeOf5,
  v5:=Tryz.zeroValue5,
  t9:=Tryz.underlying9,
  a9:=Tryz.isAgg9,
  z9:=Tryz.sizeOf9,
  v9:=Tryz.zeroValue9,
  t46:=Tryz.underlying184,
  a46:=Tryz.isAgg184,
  z46:=Tryz.sizeOf184,
  v46:=Tryz.zeroValue184,
  t51:=Tryz.underlying230,
  a51:=Tryz.isAgg230,
  z51:=Tryz.sizeOf230,
  v51:=Tryz.zeroValue230,
  t146:=Tryz.underlying288,
  a146:=Tryz.isAgg288,
  z146:=Tryz.sizeOf288,
  v146:=Tryz.zeroValue288,
  g1:=by kernel_rfl }
theorem sj_n156:Go.Proofs.Lays.n156 Tryz.prog sjRen :=
 {mixed:=by kernel_rfl,
  f156:=sj_f156,
  f165:=sj_f165,
  f166:=sj_f166,
  f169:=sj_f169,
  f240:=sj_f240,
  f241:=sj_f241,
  f276:=sj_f276,
  f277:=sj_f277,
  t0:=Tryz.underlying0,
  a0:=Tryz.isAgg0,
  z0:=Tryz.sizeOf0,
  v0:=Tryz.zeroValue0,
  t3:=Tryz.underlying3,
  a3:=Tryz.isAgg3,
  z3:=Tryz.sizeOf3,
  v3:=Tryz.zeroValue3,
  t4:=Tryz.underlying4,
  a4:=Tryz.isAgg4,
  z4:=Tryz.sizeOf4,
  v4:=Tryz.zeroValue4,
  t9:=Tryz.underlying9,
  a9:=Tryz.isAgg9,
  z9:=Tryz.sizeOf9,
  v9:=Tryz.zeroValue9,
  t20:=Tryz.underlying20,
  a20:=Tryz.isAgg20,
  z20:=Tryz.sizeOf20,
  v20:=Tryz.zeroValue20,
  t31:=Tryz.underlying138,
  a31:=Tryz.isAgg138,
  z31:=Tryz.sizeOf138,
  v31:=Tryz.zeroValue138,
  t37:=Tryz.underlying207,
  a37:=Tryz.isAgg207,
  z37:=Tryz.sizeOf207,
  v37:=Tryz.zeroValue207,
  t70:=Tryz.underlying206,
  a70:=Tryz.isAgg206,
  z70:=Tryz.sizeOf206,
  v70:=Tryz.zeroValue206,
  t72:=Tryz.underlying209,
  a72:=Tryz.isAgg209,
  z72:=Tryz.sizeOf209,
  v72:=Tryz.zeroValue209,
  t75:=Tryz.underlying212,
  a75:=Tryz.isAgg212,
  z75:=Tryz.sizeOf212,
  v75:=Tryz.zeroValue212,
  t76:=Tryz.underlying213,
  a76:=Tryz.isAgg213,
  z76:=Tryz.sizeOf213,
  v76:=Tryz.zeroValue213,
  t127:=Tryz.underlying242,
  a127:=Tryz.isAgg242,
  z127:=Tryz.sizeOf242,
  v127:=Tryz.zeroValue242,
  t164:=Tryz.underlying255,
  a164:=Tryz.isAgg255,
  z164:=Tryz.sizeOf255,
  v164:=Tryz.zeroValue255 }
end Go.Proofs.YtpaklfjlbocfcaaGreatDoor

/- Contracts off the shelf: strings.Join. By an AI agent;nothing here is trusted. -/
namespace Go.Proofs.YtpaklfjlbocfcaaGreatDoor
open Go.Av
open Go.RowKit (Below)

theorem sjB:Builder.Extra Tryz.prog sjRen where
 sizeBuilder:=by kernel_rfl
 liesBuilder:=by kernel_rfl
 t5:=Tryz.underlying5
 a5:=Tryz.isAgg5
 z5:=Tryz.sizeOf5
 v5:=Tryz.zeroValue5
 infoByte:=by kernel_rfl
 cellsByte:=by kernel_rfl
 sizeByte:=by kernel_rfl
 neB5:=by decide
theorem ba_list (xs:List (List UInt8)):(xs.map fun x=>(⟨x.toArray⟩:ByteArray)).map (·.data.toList)=xs:=by
 induction xs with
 | nil=>rfl
 | cons x l ih=>simp only [List.map_cons,ih]
theorem Join_s (xs:List (List UInt8)) (sep:List UInt8) (hx:xs.length≤1000000) (hj:(Lib.join xs sep).length≤140737488355328):Sound Tryz.prog 77 [.sl (xs.map .str),.str sep] (.str (Lib.join xs sep)):=by
 intro w ok cargs hok hG hlen hargs
 have h0:=hargs 0 _ rfl
 have h1:=vr_str (hargs 1 _ rfl)
 obtain ⟨sv,hsv⟩:∃ sv,sv=cargs.getD 0 undef:=⟨_,rfl⟩
 rw [← hsv] at h0
 rw [args_2 (by simpa using hlen) hsv.symm h1]
 clear hargs hsv h1
 refine .inr ⟨callFunc_enter Tryz.func77 (by kernel_rfl) rfl _,?_⟩
 have hd:Lib.join ((xs.map fun x=>(⟨x.toArray⟩:ByteArray)).map (·.data.toList)) sep=Lib.join xs sep:=by rw [ba_list]
 generalize hes:xs.map AV.str=es at h0
 cases h0 with
 | sl0 A cap =>
  have hxs:xs=[]:=by cases xs <;> simp at hes ⊢
  subst hxs
  exact (Any.strings_Join_none sj_n156 sjB A cap ⟨sep.toArray⟩ w).mono fun e w' ⟨he,hw⟩=>⟨_,he,hw ▸ Below.refl _ _,.str _ _ (by simp [Lib.join])⟩
 | sl _ b off sz cap cur ty fr vals ho hcap hb hs hc hvv =>
  subst hes
  have hlt:b<w.heap.size:=(Array.getElem?_eq_some_iff.1 hb).1
  have:=Any.strings_Join sj_n156 sjB b off cap (xs.map fun x=>(⟨x.toArray⟩:ByteArray)) ⟨sep.toArray⟩ w ?_ hlt (by simpa using Nat.le_trans hx (by decide)) (by simpa using hcap) (by rw [ba_list];exact hj)
  ·rw [ba_list] at this
   simp only [List.length_map] at this ⊢
   exact this.mono fun e w' ⟨he,hw⟩=>⟨_,he,hw,.str _ _ (by simp)⟩
  ·intro j x hjx
   rw [List.getElem?_map] at hjx
   cases hy:xs[j]? with
   | none=>rw [hy] at hjx;cases hjx
   | some y =>
    rw [hy] at hjx
    simp at hjx;subst hjx
    have hm:(xs.map AV.str)[j]?=some (.str y):=by rw [List.getElem?_map,hy];rfl
    have hz:=(hs j _ hm).1
    have hc0:=hc j _ 0 (.str y) hm rfl
    have hv0:=hvv j _ 0 (.str y) hm rfl
    have hsz:sz=1:=by simpa [cellsOf] using hz.symm
    subst hsz
    rw [vr_str hv0] at hc0
    rw [cell_of_heap hb]
    simpa using hc0
end Go.Proofs.YtpaklfjlbocfcaaGreatDoor

/- Strings cut at a byte,joined,and read as numbers,in plain Lean. By an AI agent;nothing here is trusted. -/
namespace Go.Lin
open Go.Lib

def cut (c:UInt8):List UInt8→List (List UInt8)
 | []=>[[]]
 | x :: r=>if x=c then [] :: cut c r else (x :: (cut c r).headD []) :: (cut c r).tail
theorem cut_ne (c:UInt8) (s:List UInt8):cut c s ≠ []:=by
 cases s with
 | nil=>simp [cut]
 | cons x r=>unfold cut;split <;> simp
theorem cut_ht (c:UInt8) (s:List UInt8):(cut c s).headD [] :: (cut c s).tail=cut c s:=by
 have:=cut_ne c s
 cases h:cut c s with
 | nil=>exact absurd h this
 | cons a b=>rfl
theorem cut_no {c:UInt8}:∀ {s:List UInt8},(∀ x ∈ s,x ≠ c)→cut c s=[s]
 | [],_=>rfl
 | x :: r,h=>by
  have hr:=cut_no (c:=c) (s:=r) fun y hy=>h y (List.mem_cons_of_mem _ hy)
  unfold cut
  rw [if_neg (h x (by simp)),hr];rfl
theorem cut_app {c:UInt8}:∀ {p:List UInt8},(∀ x ∈ p,x ≠ c)→∀ r,cut c (p ++ c :: r)=p :: cut c r
 | [],_,r=>by rw [List.nil_append,cut,if_pos rfl]
 | x :: p,h,r=>by
  have hr:=cut_app (c:=c) (p:=p) (fun y hy=>h y (List.mem_cons_of_mem _ hy)) r
  rw [List.cons_append,cut,if_neg (h x (by simp)),hr];rfl
theorem cut_len {c:UInt8}:∀ {s:List UInt8},∀ p ∈ cut c s,p.length≤s.length
 | [],p,hp=>by rw [cut,List.mem_singleton] at hp;subst hp;exact Nat.le_refl _
 | y :: r,p,hp=>by
  have ih:=cut_len (c:=c) (s:=r)
  unfold cut at hp
  split at hp
  ·rcases List.mem_cons.1 hp with rfl | hp
   ·simp
   ·have:=ih p hp;simp;omega
  ·rcases List.mem_cons.1 hp with rfl | hp
   ·have:=ih ((cut c r).headD []) (by rw [← cut_ht c r];exact List.mem_cons_self)
    simp only [List.length_cons];omega
   ·have:=ih p (List.mem_of_mem_tail hp);simp only [List.length_cons];omega
theorem cut_num (c:UInt8):∀ s:List UInt8,(cut c s).length≤s.length+1
 | []=>by simp [cut]
 | y :: r=>by
  have ih:=cut_num c r
  unfold cut
  split
  ·simp;omega
  ·simp;omega
theorem idx_cases (c:UInt8):∀ s:List UInt8,(indexByte s c = -1∧∀ x ∈ s,x ≠ c)∨(0≤indexByte s c∧∃ p r,s=p ++ c :: r∧(p.length:Int)=indexByte s c∧∀ x ∈ p,x ≠ c)
 | []=>.inl ⟨rfl,fun x hx=>by cases hx⟩
 | b :: l=>by
  unfold indexByte
  by_cases hb:b=c
  ·subst hb
   right
   simp only [beq_self_eq_true,if_true]
   exact ⟨by omega,[],l,rfl,rfl,fun x hx=>by cases hx⟩
  ·have hb':(b == c)=false:=by simpa using hb
   rw [hb']
   rcases idx_cases c l with ⟨h1,h2⟩ | ⟨h1,p,r,h2,h3,h4⟩
   ·left
    have e:(if false=true then (0:Int) else if (indexByte l c == -1)=true then -1 else indexByte l c+1) = -1:=by rw [h1];rfl
    refine ⟨e,fun x hx=>?_⟩
    rcases List.mem_cons.1 hx with rfl | hx
    ·exact hb
    ·exact h2 x hx
   ·right
    have hne:(indexByte l c == -1)=false:=by
     have:indexByte l c ≠ -1:=by omega
     simpa using this
    simp only [hne,Bool.false_eq_true,if_false]
    refine ⟨by omega,b :: p,r,by rw [h2];rfl,by simp;omega,fun x hx=>?_⟩
    rcases List.mem_cons.1 hx with rfl | hx
    ·exact hb
    ·exact h4 x hx
theorem cut_join (c:UInt8):∀ (w:List UInt8) (ws:List (List UInt8)),(∀ v ∈ w :: ws,∀ x ∈ v,x ≠ c)→cut c (join (w :: ws) [c])=w :: ws
 | w,[],h=>by rw [join_one];exact cut_no (h w (by simp))
 | w,v :: ws,h=>by
  have ih:=cut_join c v ws fun u hu=>h u (List.mem_cons_of_mem _ hu)
  have e:join (w :: v :: ws) [c]=w ++ c :: join (v :: ws) [c]:=by
   rw [join_cons,join_cons];simp [joinTail]
  rw [e,cut_app (h w (by simp)),ih]
def numU (neg:Bool) (k:Nat) (w:List UInt8):Option Int:=if w.head?=some 45∧neg=false then none else numW k w
def nums (neg:Bool) (k:Nat):List (List UInt8)→Option (List Int)
 | []=>some []
 | w :: r=>match numU neg k w,nums neg k r with
  | some n,some l=>some (n :: l)
  | _,_=>none
theorem nums_len {neg:Bool} {k:Nat}:∀ {ws:List (List UInt8)} {l:List Int},nums neg k ws=some l→l.length=ws.length
 | [],l,h=>by simp [nums] at h;subst h;rfl
 | w :: r,l,h=>by
  unfold nums at h
  split at h
  ·rename_i h2
   injection h with h;subst h
   simp [nums_len h2]
  ·cases h
theorem nums_snoc {neg:Bool} {k:Nat} {w:List UInt8} {n:Int}:∀ {ws:List (List UInt8)} {l:List Int},nums neg k ws=some l→numU neg k w=some n→nums neg k (ws ++ [w])=some (l ++ [n])
 | [],l,h,h1=>by simp [nums] at h;subst h;simp [nums,h1]
 | v :: r,l,h,h1=>by
  unfold nums at h
  split at h
  ·rename_i a b hm1 hm2
   injection h with h;subst h
   rw [List.cons_append,nums,hm1,nums_snoc hm2 h1];rfl
  ·cases h
theorem nums_none {neg:Bool} {k:Nat} {w:List UInt8} (h:numU neg k w=none) (r:List (List UInt8)):∀ (ws:List (List UInt8)),nums neg k (ws ++ w :: r)=none
 | []=>by rw [List.nil_append,nums,h]
 | v :: ws=>by
  rw [List.cons_append,nums,nums_none h r ws]
  split
  ·rename_i h2;cases h2
  ·rfl
theorem head_itoa (n:Int):(itoa n).head?=some 45 ↔ n<0:=by
 unfold itoa
 by_cases hn:n<0
 ·rw [if_pos hn];simp [hn]
 ·rw [if_neg hn]
  obtain ⟨c,r,h1⟩:∃ c r,decDigits n.toNat=c :: r:=List.exists_cons_of_ne_nil (dec_ne _)
  have hc:isDig c=true:=by have:=dec_dig n.toNat;rw [h1] at this;simp at this;exact this.1
  have:=not45 hc
  rw [h1];simp [this,hn]
theorem dec_lt {u k:Nat} (h:(decDigits u).length≤k):u<10 ^ k:=by
 rw [decDigits_length] at h
 exact Nat.lt_of_lt_of_le (lt_pow_nDigits u) (Nat.pow_le_pow_right (by omega) h)
theorem numU_atoi {neg:Bool} {k:Nat} (hk:k≤18) {w:List UInt8} {n:Int}:numU neg k w=some n ↔ atoiAll w=.ok n∧(neg=true∨0≤n)∧itoa n=w∧(decDigits n.natAbs).length≤k:=by
 unfold numU
 constructor
 ·intro h
  split at h
  ·cases h
  ·rename_i hn
   obtain ⟨h1,h2⟩:=itoa_numW h
   have h3:=dec_lt h2
   have h4:(10:Nat) ^ k≤10 ^ 18:=Nat.pow_le_pow_right (by omega) hk
   refine ⟨by rw [h1];exact atoi_itoa (by omega),?_,h1.symm,h2⟩
   rw [h1,head_itoa] at hn
   cases neg with
   | true=>exact .inl rfl
   | false=>right;exact Int.not_lt.1 fun g=>hn ⟨g,rfl⟩
 ·rintro ⟨_,h2,rfl,h4⟩
  rw [if_neg]
  ·exact numW_itoa h4
  ·rw [head_itoa]
   rintro ⟨g1,g2⟩
   rcases h2 with h2 | h2
   ·rw [h2] at g2;cases g2
   ·omega
theorem itoa_trim (n:Int):trimPrefix (itoa n) [45]=decDigits n.natAbs:=by
 unfold trimPrefix hasPrefix
 by_cases hn:n<0
 ·unfold itoa;rw [if_pos hn];simp
 ·have h1:=head_itoa n
  have h2:([45]:List UInt8).isPrefixOf (itoa n)=false:=by
   cases he:itoa n with
   | nil=>rfl
   | cons c r =>
    rw [he] at h1
    simp only [List.head?_cons,Option.some.injEq] at h1
    have:¬ c=45:=fun h=>hn (h1.1 h)
    simp only [List.isPrefixOf,Bool.and_true,beq_eq_false_iff_ne,ne_eq]
    exact fun h=>this h.symm
  rw [h2]
  unfold itoa
  rw [if_neg hn]
  show decDigits n.toNat=_
  congr 1;omega
theorem itoa_bytes (n:Int):∀ x ∈ itoa n,x=45∨isDig x=true:=by
 intro x hx
 have hd:∀ u,∀ x ∈ decDigits u,isDig x=true:=fun u=>List.all_eq_true.1 (dec_dig u)
 unfold itoa at hx
 split at hx
 ·rcases List.mem_cons.1 hx with rfl | hx
  ·exact .inl rfl
  ·exact .inr (hd _ x hx)
 ·exact .inr (hd _ x hx)
theorem itoa_no (n:Int) {c:UInt8} (h1:c ≠ 45) (h2:isDig c=false):∀ x ∈ itoa n,x ≠ c:=by
 intro x hx e
 subst e
 rcases itoa_bytes n x hx with h | h
 ·exact h1 h
 ·rw [h2] at h;cases h
theorem nums_itoa {neg:Bool} {k:Nat}:∀ {l:List Int},(∀ n ∈ l,(neg=true∨0≤n)∧(decDigits n.natAbs).length≤k)→nums neg k (l.map itoa)=some l
 | [],_=>rfl
 | n :: l,h=>by
  have h1:numU neg k (itoa n)=some n:=by
   obtain ⟨g1,g2⟩:=h n (by simp)
   unfold numU
   rw [if_neg,numW_itoa g2]
   rw [head_itoa]
   rintro ⟨e1,e2⟩
   rcases g1 with g1 | g1
   ·rw [g1] at e2;cases e2
   ·omega
  rw [List.map_cons,nums,h1,nums_itoa (l:=l) fun m hm=>h m (List.mem_cons_of_mem _ hm)]
theorem dec_len_lt {u k:Nat} (hk:0<k) (h:u<10 ^ k):(decDigits u).length≤k:=by
 rw [decDigits_length]
 induction k generalizing u with
 | zero=>omega
 | succ k ih =>
  by_cases h10:u<10
  ·rw [nDigits_small h10];omega
  ·rw [nDigits_big h10]
   have hk':0<k:=by
    refine Nat.pos_of_ne_zero fun e=>?_
    subst e;omega
   have:u / 10<10 ^ k:=by rw [Nat.pow_succ] at h;omega
   have:=ih hk' this
   omega
theorem cut_words {c:UInt8} (h1:c ≠ 45) (h2:isDig c=false) (n:Int) (l:List Int):cut c (join ((n :: l).map itoa) [c])=(n :: l).map itoa:=by
 rw [List.map_cons]
 refine cut_join c _ _ fun v hv=>?_
 rcases List.mem_cons.1 hv with rfl | hv
 ·exact itoa_no n h1 h2
 ·obtain ⟨m,_,rfl⟩:=List.mem_map.1 hv
  exact itoa_no m h1 h2
end Go.Lin

/- Contracts: numbers as words. By an AI agent;nothing here is trusted. -/
namespace Go.Proofs.YtpaklfjlbocfcaaGreatDoor
open Go.Av

def strs (l:List (List UInt8)):List AV:=l.map .str
theorem maxLen_str:4000000000000≤maxLen:=by decide
theorem strs_length (l:List (List UInt8)):(strs l).length=l.length:=List.length_map _
theorem strs_append (l m:List (List UInt8)):strs (l ++ m)=strs l ++ strs m:=List.map_append
theorem strs_fx (l:List (List UInt8)):∀ x ∈ strs l,fx x=true:=by
 intro x hx
 obtain ⟨y,_,rfl⟩:=List.mem_map.1 hx
 rfl
theorem strs_fxB (l:List (List UInt8)):(strs l).all Go.Av.fx=true:=List.all_eq_true.2 (strs_fx l)
theorem itoa_le {n:Int} (h:I64 n):(Lib.itoa n).length≤20:=by
 have h1:(Lib.decDigits n.natAbs).length≤19:=Lin.dec_len_lt (by decide) (by unfold I64 at h;omega)
 have h2:(Lib.decDigits n.toNat).length≤19:=Lin.dec_len_lt (by decide) (by unfold I64 at h;omega)
 unfold Lib.itoa
 split <;> simp <;> omega
theorem join_le (c:UInt8) (m:Nat):∀ ws:List (List UInt8),(∀ w ∈ ws,w.length≤m)→(Lib.join ws [c]).length≤ws.length * (m+1)
 | [],_=>by simp [Lib.join]
 | w :: ws,h=>by
  rw [Lib.join_cons]
  have h1:=h w (by simp)
  have:∀ l:List (List UInt8),(∀ w ∈ l,w.length≤m)→(Lib.joinTail [c] l).length≤l.length * (m+1):=by
   intro l
   induction l with
   | nil=>intro _;simp [Lib.joinTail]
   | cons x l ih =>
    intro hl
    have:=ih fun y hy=>hl y (by simp [hy])
    have hx:=hl x (by simp)
    simp only [Lib.joinTail,List.map_cons,List.flatten_cons,List.length_append,List.length_cons,List.length_nil,Nat.add_mul] at this ⊢
    omega
  have h2:=this ws fun y hy=>h y (by simp [hy])
  simp only [List.length_append,List.length_cons,Nat.add_mul]
  omega
end Go.Proofs.YtpaklfjlbocfcaaGreatDoor

/- strings.SplitSeq at one byte: what its closure yields. By an AI agent;nothing here is trusted. -/
namespace Go.Proofs.YtpaklfjlbocfcaaGreatDoor
open Go.Av
open Go.RowKit
attribute [local go_sem] Oper.semAt_some

theorem ba_cut (l x:List UInt8) (i j:Nat) (h:(l.drop i).take (j - i)=x):(⟨l.toArray⟩:ByteArray).extract i j=⟨x.toArray⟩:=by
 apply ByteArray.ext
 rw [ByteArray.data_extract]
 simp only [List.extract_toArray,List.extract_eq_take_drop]
 rw [h]
theorem wrap64_id {n:Int} (h : -9223372036854775808≤n∧n≤9223372036854775807):wrap64 n=n:=by
 unfold wrap64
 omega
set_option maxRecDepth 100000 in
theorem split1 (F:Fence) (hro:F.round=none) (hf0:F.fn 196) (hf1:F.fn 198) (l:Nat) (c:UInt8) (s:List UInt8) (hs:s.length≤1000000) (J:List (List UInt8)→List UInt8→World→Prop) (Jx:World→Prop) (b1 b2 b3:Nat)
  (hcell:∀ pre r w,J pre r w→w.cell? ⟨b1,0,none⟩=some (.string ⟨#[c]⟩)∧w.cell? ⟨b2,0,none⟩=some (.string ⟨r.toArray⟩)∧w.frozen? ⟨b2,0,none⟩=false∧w.cell? ⟨b3,0,none⟩=some (.int .i64 0))
  (hset:∀ pre r w r',J pre r w→J pre r' (w.setCell ⟨b2,0,none⟩ (.string ⟨r'.toArray⟩)))
  (hround:∀ pre x rest r w,pre ++ x :: rest=Lin.cut c s→J pre r w→∃ fn tmps assign body,(Instr.yield l #[.string ⟨x.toArray⟩]).run Tryz.prog w=.ok (.round l fn tmps assign body) w∧∀ rm,RoundIn F rm Tryz.prog l fn tmps assign body w fun en w'=>(en=.returned (.bool true)∧J (pre ++ [x]) r w')∨(en=.returned (.bool false)∧Jx w'))
  (hidx:∀ (n:Nat) (r:ByteArray) (w:World),CallsIn F n Tryz.prog 198 #[.string r,.string ⟨#[c]⟩] w fun e w'=>e=.returned (.int .i64 (Lib.indexByte r.data.toList c))∧w'=w)
  (W:World) (h0:J [] s W) :
  CallsIn F 1 Tryz.prog 196 #[.func (.yield l) #[] #[],.pointer (some ⟨b1,0,none⟩),.pointer (some ⟨b2,0,none⟩),.pointer (some ⟨b3,0,none⟩)] W fun e W'=>(∃ v,e=.returned v)∧((∃ r,J (Lin.cut c s) r W')∨Jx W'):=by
 refine callsIn_of_wp Tryz.func196 rfl hf0 ?_ hro
 simp only [Tryz.ntmps196,List.size_toArray,List.length_cons,List.length_nil,Nat.reduceAdd,Nat.reduceSub,Array.replicate_succ,Array.replicate_zero,List.push_toArray,List.append_toArray,List.nil_append,List.cons_append]
 obtain ⟨c1,c2,c3,c4⟩:=hcell _ _ _ h0
 have t9:=Tryz.underlying9;have a9:=Tryz.isAgg9;have z9:=Tryz.sizeOf9;have v9:=Tryz.zeroValue9;have u9:=run_underlying Tryz.underlying9
 have t3:=Tryz.underlying3;have a3:=Tryz.isAgg3;have z3:=Tryz.sizeOf3;have v3:=Tryz.zeroValue3;have u3:=run_underlying Tryz.underlying3
 have t4:=Tryz.underlying4;have a4:=Tryz.isAgg4;have z4:=Tryz.sizeOf4;have v4:=Tryz.zeroValue4;have u4:=run_underlying Tryz.underlying4
 gi_wp2
 trace_state
 gi_loopw [7] (fun _ wr=>∃ (pre:List (List UInt8)) (r:List UInt8),pre ++ Lin.cut c r=Lin.cut c s∧r.length≤s.length∧J pre r wr)
  (fun _ wr=>match wr.cell? ⟨b2,0,none⟩ with | some (.string b)=>b.size | _=>0)
 case atStart=>exact ⟨[],s,rfl,Nat.le_refl _,h0⟩
 case round =>
  obtain ⟨pre,r,hpre,hrl,hJ⟩:=hrel
  obtain ⟨d1,d2,d3,d4⟩:=hcell _ _ _ hJ
  rcases Lin.idx_cases c r with ⟨i1,i2⟩ | ⟨i1,p,r',i2,i3,i4⟩
  ·have hI:∀ (n:Nat) (w:World),CallsIn F n Tryz.prog 198 #[.string ⟨r.toArray⟩,.string ⟨#[c]⟩] w fun e w'=>e=.returned (.int .i64 (-1))∧w'=w:=fun n w=>(hidx n _ w).mono fun e w' ⟨h1,h2⟩=>⟨by rw [h1,i1],h2⟩
   rw [Lin.cut_no i2] at hpre
   obtain ⟨fn,tmps,assign,body,hy,hR⟩:=hround pre r [] r wr hpre hJ
   gi_wp2_with (gi_at_call 198;refine (hI _ _).mono ?_;rintro e w' ⟨rfl,rfl⟩)
   refine (hR _).mono ?_
   rintro e W' (⟨rfl,hJ'⟩ | ⟨rfl,hx⟩)
   ·gi_wp2
    go_end0
    exact ⟨⟨_,rfl⟩,.inl ⟨_,by rw [← hpre];exact hJ'⟩⟩
   ·gi_wp2
    go_end0
    exact ⟨⟨_,rfl⟩,.inr hx⟩
  ·subst i2
   have hpl:p.length+1+r'.length≤1000000:=by simp at hrl;omega
   have hI:∀ (n:Nat) (w:World),CallsIn F n Tryz.prog 198 #[.string ⟨(p ++ c :: r').toArray⟩,.string ⟨#[c]⟩] w fun e w'=>e=.returned (.int .i64 (p.length:Int))∧w'=w:=fun n w=>(hidx n _ w).mono fun e w' ⟨h1,h2⟩=>⟨by rw [h1,i3],h2⟩
   have hcut:Lin.cut c (p ++ c :: r')=p :: Lin.cut c r':=Lin.cut_app i4 r'
   rw [hcut] at hpre
   obtain ⟨fn,tmps,assign,body,hy,hR⟩:=hround pre p _ (p ++ c :: r') wr hpre hJ
   have he1:(⟨(p ++ c :: r').toArray⟩:ByteArray).extract 0 p.length=⟨p.toArray⟩:=ba_cut _ _ _ _ (by simp)
   have he2:(⟨(p ++ c :: r').toArray⟩:ByteArray).extract (p.length+1) (p.length+(r'.length+1))=⟨r'.toArray⟩:=ba_cut _ _ _ _ (by
    rw [show p ++ c :: r'=(p ++ [c]) ++ r' by simp,List.drop_left' (by simp)]
    exact List.take_of_length_le (by omega))
   have q1:wrap64 (p.length:Int)=(p.length:Int):=wrap64_id (by omega)
   have q2:wrap64 ((p.length:Int)+1)=(p.length:Int)+1:=wrap64_id (by omega)
   have q3:((p.length:Int)+1).toNat=p.length+1:=by omega
   have hpre2:(pre ++ [p]) ++ Lin.cut c r'=Lin.cut c s:=by rw [← hpre];simp
   clear hpre hcut i1 i3
   gi_wp2_with (gi_at_call 198;refine (hI _ _).mono ?_;rintro e w' ⟨rfl,rfl⟩)
   refine (hR _).mono ?_
   rintro e W' (⟨rfl,hJ'⟩ | ⟨rfl,hx⟩)
   ·obtain ⟨d1',d2',d3',d4'⟩:=hcell _ _ _ hJ'
    gi_wp2
    go_roundw
    case rel=>exact ⟨pre ++ [p],r',hpre2,by simp at hrl;omega,hset _ _ _ r' hJ'⟩
    case measure =>
     obtain ⟨_,e2,_⟩:=hcell _ _ _ (hset _ _ _ r' hJ')
     rw [e2,d2]
     simp [ByteArray.size]
     omega
   ·gi_wp2
    refine bodyPost_ret (results_none rfl _ _ _) rfl ?_
    exact ⟨⟨_,rfl⟩,.inr hx⟩
end Go.Proofs.YtpaklfjlbocfcaaGreatDoor

/- strings.SplitSeq at one byte: the call. By an AI agent;nothing here is trusted. -/
namespace Go.Proofs.YtpaklfjlbocfcaaGreatDoor
open Go.Av
open Go.RowKit

set_option maxHeartbeats 1000000 in
set_option maxRecDepth 100000 in
theorem SplitSeq_any (c:UInt8) (s:List UInt8) (w:World):Calls Tryz.prog 80 #[.string ⟨s.toArray⟩,.string ⟨#[c]⟩] w fun e w'=>∃ b1 b2 b3,
  e=.returned (.func (.func 196) #[] #[.pointer (some ⟨b1,0,none⟩),.pointer (some ⟨b2,0,none⟩),.pointer (some ⟨b3,0,none⟩)])∧(w.heap.size≤b1∧w.heap.size≤b2∧w.heap.size≤b3)∧(b2 ≠ b1∧b2 ≠ b3∧b1 ≠ b3) ∧
  w'.heap[b1]?=some (.cells #[.string ⟨#[c]⟩] 9 (0,0))∧w'.heap[b2]?=some (.cells #[.string ⟨s.toArray⟩] 9 (0,0))∧w'.heap[b3]?=some (.cells #[.int .i64 0] 3 (0,0))∧Below w.heap.size w w':=by
 have t9:=Tryz.underlying9;have a9:=Tryz.isAgg9;have z9:=Tryz.sizeOf9;have v9:=Tryz.zeroValue9;have u9:=run_underlying Tryz.underlying9
 have t3:=Tryz.underlying3;have a3:=Tryz.isAgg3;have z3:=Tryz.sizeOf3;have v3:=Tryz.zeroValue3;have u3:=run_underlying Tryz.underlying3
 have e213:∀ args w,(callFunc 150 args).run Tryz.prog w=.ok (.enter 150 args) w:=enters_of Tryz.func150 (by kernel_rfl) rfl
 go_enter Tryz.func80,Tryz.ntmps80
 go_wp2
 go_ret
 refine ⟨w.heap.size+1,w.heap.size,w.heap.size+1+1,rfl,⟨by omega,by omega,by omega⟩,⟨by omega,by omega,by omega⟩,?_,?_,?_,?_⟩
 ·exact (Below.heap_alloc _ _ _ (by rw [World.size_alloc,World.size_alloc];omega)).trans (by have:=World.alloc_heap_new (w.alloc (.cells #[.string ⟨s.toArray⟩] 9)) (.cells #[.string ⟨#[c]⟩] 9);rwa [World.size_alloc] at this)
 ·exact (Below.heap_alloc _ _ _ (by rw [World.size_alloc,World.size_alloc];omega)).trans ((Below.heap_alloc _ _ _ (by rw [World.size_alloc];omega)).trans (World.alloc_heap_new w _))
 ·have:=World.alloc_heap_new ((w.alloc (.cells #[.string ⟨s.toArray⟩] 9)).alloc (.cells #[.string ⟨#[c]⟩] 9)) (.cells #[.int .i64 0] 3)
  rwa [World.size_alloc,World.size_alloc] at this
 ·exact (((Below.refl _ w).alloc (Nat.le_refl _) _).alloc (by rw [World.size_alloc];omega) _).alloc (by rw [World.size_alloc,World.size_alloc];omega) _
theorem SplitSeq_s (c:UInt8) (s:List UInt8):SoundC Tryz.prog 80 [.str s,.str [c]] 196 [(9,.str [c]),(9,.str s),(3,.int .i64 0)]:=by
 refine ⟨⟨by simp,fun p hp=>?_⟩,?_⟩
 ·simp only [List.mem_cons,List.not_mem_nil,or_false] at hp
  rcases hp with rfl | rfl | rfl <;> exact ⟨rfl,rfl⟩
 ·intro w ok cargs hok hG hlen hargs
  rw [args_2 (by simpa using hlen) (vr_str (hargs 0 _ rfl)) (vr_str (hargs 1 _ rfl))]
  refine .inr ⟨callFunc_enter Tryz.func80 (by kernel_rfl) rfl _,(SplitSeq_any c s w).mono fun e w' ⟨b1,b2,b3,he,⟨h1,h2,h3⟩,⟨n1,n2,n3⟩,c1,c2,c3,hB⟩=>⟨_,he,hB,[b1,b2,b3],rfl,?_⟩⟩
  refine ⟨⟨h1,by simp;exact ⟨fun h=>n1 h.symm,n3⟩,_,_,c1,rfl,.str _ _ rfl⟩,⟨h2,by simp;exact n2,_,_,c2,rfl,.str _ _ (by simp)⟩,⟨h3,by simp,_,_,c3,rfl,.int _ _⟩,trivial⟩
end Go.Proofs.YtpaklfjlbocfcaaGreatDoor

