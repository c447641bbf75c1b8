/- Determinants. By an AI agent; nothing here is trusted. -/
import Derived.Test.YtpaklfjlbocfcaaGreatDoorConTopPulseBestCardA
import Derived.Test.YtpaklfjlbocfcaaGreatDoorLayD
import Derived.Test.YtpaklfjlbocfcaaGreatDoorKode
import Derived.Test.YtpaklfjlbocfcaaGreatDoorLayA
import Derived.Lib.ItoaNum
import Derived.Lib.AtoiAll
import Derived.Shelf.Slices.Clone
set_option linter.defProp false
set_option linter.unusedSimpArgs false
set_option linter.unusedVariables false
namespace Go.Proofs.YtpaklfjlbocfcaaGreatDoor
open Go.Av

def lls (R:List (List Int)):List AV:=R.map fun r=>.sl (ints r)
theorem lls_length (R:List (List Int)):(lls R).length=R.length:=by simp [lls]
theorem lls_get (R:List (List Int)) (i:Nat) (h:i<R.length):(lls R)[i]?=some (.sl (ints R[i])):=by simp [lls,h]
theorem lls_snoc (R:List (List Int)) (r:List Int):lls R ++ [.sl (ints r)]=lls (R ++ [r]):=by simp [lls]
theorem lls_fxB (R:List (List Int)):(lls R).all fx=true:=List.all_eq_true.2 fun x hx=>by
 obtain ⟨y,_,rfl⟩:=List.mem_map.1 hx;rfl
theorem lls_immT (R:List (List Int)) (n:Nat):((lls R).take n).all imm=true:=List.all_eq_true.2 fun x hx=>by
 obtain ⟨y,_,rfl⟩:=List.mem_map.1 (List.mem_of_mem_take hx);rfl
def ent (R:List (List Int)) (r c:Nat):Int:=(R.getD r []).getD c 0
def mnr (R:List (List Int)) (i:Nat):List (List Int):=(R.eraseIdx i).map List.tail
def dtS (f:Nat→Bool × Nat) (R:List (List Int)):Nat→Bool × Nat
 | 0=>(false,0)
 | i+1=>if ent R i 0=0 then dtS f R i else plP (dtS f R i) (if i % 2=1 then ngP (tmP (f i) (ent R i 0)) else tmP (f i) (ent R i 0))
def dtP:Nat→List (List Int)→Bool × Nat
 | 0,_=>(false,1)
 | n+1,R=>dtS (fun i=>dtP n (mnr R i)) R (n+1)
theorem dtS_vl (f:Nat→Bool × Nat) (R:List (List Int)):∀ i,vl (dtS f R i)=Lin.smI i fun i=>Lin.sgI i * ent R i 0 * vl (f i)
 | 0=>rfl
 | i+1=>by
  rw [dtS,Lin.smI,← dtS_vl f R i]
  by_cases h:ent R i 0=0
  ·rw [if_pos h,h];simp
  ·rw [if_neg h,vl_pl]
   unfold Lin.sgI
   by_cases g:i % 2=1
   ·rw [if_pos g,if_neg (by omega),vl_ng,vl_tm];grind
   ·rw [if_neg g,if_pos (by omega),vl_tm];grind
theorem ent_mnr (R:List (List Int)) (i r c:Nat) (hr:r+1<R.length) (hi:i<R.length):ent (mnr R i) r c=ent R (Lin.skip i r) (c+1):=by
 unfold ent mnr Lin.skip
 have hl:(R.eraseIdx i).length=R.length - 1:=List.length_eraseIdx_of_lt hi
 have h1:((R.eraseIdx i).map List.tail).getD r []=((R.eraseIdx i)[r]'(by omega)).tail:=by
  rw [List.getD_eq_getElem?_getD,List.getElem?_map,List.getElem?_eq_getElem (show r<(R.eraseIdx i).length by omega)]
  rfl
 rw [h1,List.getElem_eraseIdx]
 split
 ·rw [List.getD_eq_getElem?_getD,List.getD_eq_getElem?_getD,List.getD_eq_getElem?_getD,List.getElem?_eq_getElem (show r<R.length by omega),List.getElem?_tail];rfl
 ·rw [List.getD_eq_getElem?_getD,List.getD_eq_getElem?_getD,List.getD_eq_getElem?_getD,List.getElem?_eq_getElem (show r+1<R.length by omega),List.getElem?_tail];rfl
theorem mnr_len (R:List (List Int)) (i:Nat) (hi:i<R.length):(mnr R i).length=R.length - 1:=by
 unfold mnr;rw [List.length_map];exact List.length_eraseIdx_of_lt hi
theorem mnr_mem {R:List (List Int)} {i:Nat} {r:List Int} (h:r ∈ mnr R i):∃ q ∈ R,r=q.tail:=by
 obtain ⟨q,hq,rfl⟩:=List.mem_map.1 h
 exact ⟨q,List.mem_of_mem_eraseIdx hq,rfl⟩
theorem dtP_vl:∀ (n:Nat) (R:List (List Int)),R.length=n→vl (dtP n R)=Lin.dtI n (ent R)
 | 0,_,_=>rfl
 | n+1,R,h=>by
  rw [dtP,dtS_vl,Lin.dtI]
  refine Lin.smI_congr fun i hi=>?_
  rw [dtP_vl n (mnr R i) (by rw [mnr_len R i (by omega)];omega)]
  congr 1
  exact Lin.dtI_congr fun r c hr _=>ent_mnr R i r c (by omega) (by omega)
def prB:Nat→(Nat→Nat)→Nat
 | 0,_=>1
 | n+1,B=>(n+1) * (B 0 * prB n fun c=>B (c+1))
def bnd (n:Nat) (R:List (List Int)) (B:Nat→Nat):Prop:=∀ r c,r<n→c<n→(ent R r c).natAbs≤B c
theorem bnd.mnr {n:Nat} {R:List (List Int)} {B:Nat→Nat} (h:bnd (n+1) R B) (hl:R.length=n+1) {i:Nat} (hi:i<n+1):bnd n (mnr R i) fun c=>B (c+1):=fun r c hr hc=>by
 rw [ent_mnr R i r c (by omega) (by omega)]
 exact h _ _ (Lin.skip_lt hr) (by omega)
theorem plP_le (p q:Bool × Nat):(plP p q).2≤p.2+q.2:=by
 unfold plP
 split
 ·exact Nat.le_refl _
 ·split <;> simp <;> omega
theorem dtS_le {f:Nat→Bool × Nat} {R:List (List Int)} {M b:Nat}:∀ {i:Nat},(∀ k,k<i→(f k).2≤M∧(ent R k 0).natAbs≤b)→(dtS f R i).2≤i * (b * M)
 | 0,_=>Nat.zero_le _
 | i+1,h=>by
  have h1:=dtS_le (i:=i) fun k hk=>h k (by omega)
  obtain ⟨h2,h3⟩:=h i (by omega)
  have h4:(f i).2 * (ent R i 0).natAbs≤M * b:=Nat.mul_le_mul h2 h3
  rw [dtS,Nat.succ_mul]
  rw [Nat.mul_comm M b] at h4
  split
  ·omega
  ·refine Nat.le_trans (plP_le _ _) ?_
   split
   ·show _+(tmP (f i) (ent R i 0)).2≤_
    have:(tmP (f i) (ent R i 0)).2=(f i).2 * (ent R i 0).natAbs:=rfl
    omega
   ·have:(tmP (f i) (ent R i 0)).2=(f i).2 * (ent R i 0).natAbs:=rfl
    omega
theorem dtP_le:∀ {n:Nat} {R:List (List Int)} {B:Nat→Nat},R.length=n→bnd n R B→(dtP n R).2≤prB n B
 | 0,_,_,_,_=>Nat.le_refl _
 | n+1,R,B,h,hb=>by
  rw [dtP,prB]
  exact dtS_le fun k hk=>⟨dtP_le (by rw [mnr_len R k (by omega)];omega) (hb.mnr h hk),hb k 0 hk (by omega)⟩
def mj (R:List (List Int)) (i j:Nat):List (List Int):=((R.take j).eraseIdx i).map List.tail
theorem mj_all (R:List (List Int)) (i:Nat):mj R i R.length=mnr R i:=by unfold mj mnr;rw [List.take_length]
theorem mj_same (R:List (List Int)) {i:Nat} (h:i<R.length):mj R i (i+1)=mj R i i:=by
 unfold mj
 have hT:(R.take i).length=i:=List.length_take_of_le (by omega)
 have e:R.take (i+1)=R.take i ++ [R[i]]:=List.take_succ_eq_append_getElem h
 rw [e]
 generalize R.take i=T at *
 rw [List.eraseIdx_append_of_length_le (by omega),hT,Nat.sub_self,List.eraseIdx_of_length_le (l:=T) (by omega)]
 show List.map List.tail (T ++ [])=_
 rw [List.append_nil]
theorem mj_next (R:List (List Int)) {i j:Nat} (h:j<R.length) (hn:j ≠ i):mj R i (j+1)=mj R i j ++ [R[j].tail]:=by
 unfold mj
 have hT:(R.take j).length=j:=List.length_take_of_le (by omega)
 have e:R.take (j+1)=R.take j ++ [R[j]]:=List.take_succ_eq_append_getElem h
 rw [e]
 generalize R.take j=T at *
 by_cases e:i<j
 ·rw [List.eraseIdx_append_of_lt_length (by omega),List.map_append];rfl
 ·rw [List.eraseIdx_append_of_length_le (by omega),hT,List.eraseIdx_of_length_le (l:=T) (by omega)]
  obtain ⟨k,hk⟩:∃ k,i - j=k+1:=⟨i - j - 1,by omega⟩
  rw [hk,List.map_append];rfl
theorem mj_len (R:List (List Int)) (i j:Nat):(mj R i j).length≤j:=by
 unfold mj;rw [List.length_map]
 exact Nat.le_trans (List.length_eraseIdx_le _ _) (by simp;omega)
theorem ints_tail (l:List Int):(ints l).drop (Int.toNat 1)=ints l.tail:=by cases l <;> rfl
theorem determinant_s:∀ (n:Nat) (R:List (List Int)) (B:Nat→Nat),n≤10→R.length=n→(∀ r ∈ R,n≤r.length∧r.length≤1000)→bnd n R B→(∀ c,c<n→1≤B c)→prB n B<170141183460469231731687303715884105728→(∀ c,c<n→B c≤1000000000000000000) →
  Sound Tryz.prog 178 [.sl (lls R)] (wdA (dtP n R).1 (dtP n R).2):=by
 intro n
 induction n with
 | zero =>
  intro R B _ hl _ _ _ _ _
  refine sound_W f_pulse_determinant (Nat.le_of_ble_eq_true rfl) ?_
  have hl':(R.length:Int)=0:=by omega
  have hO:=pwideOf_s 1 (by unfold S63;omega)
  have e1:wdA (decide ((1:Int)<0)) (1:Int).natAbs=.agg [.bool false,.int .u64 0,.int .u64 1]:=rfl
  have e2:wdA (dtP 0 R).1 (dtP 0 R).2=.agg [.bool false,.int .u64 0,.int .u64 1]:=by simp [dtP,wdA]
  rw [e1] at hO
  rw [e2]
  simp only [c_pulse_determinant,lls_length,hl',vZ,Int.reduceEq,Int.reduceNe,Int.reduceLT,Int.reduceLE,Nat.reduceEqDiff,Nat.reduceAdd,reduceIte,reduceCtorEq,Nat.reduceLT,Nat.reduceLeDiff,Nat.reduceShiftRight,Nat.reduceMod]
  refine callS_of hO ?_
  simp only [vZ,Int.reduceEq,Int.reduceNe,Int.reduceLT,Int.reduceLE,Nat.reduceEqDiff,Nat.reduceAdd,reduceIte,reduceCtorEq,Nat.reduceLT,Nat.reduceLeDiff,Nat.reduceShiftRight,Nat.reduceMod]
 | succ n ih =>
  intro R B hn10 hl hR hb hB1 hP hB2
  refine sound_W f_pulse_determinant (Nat.le_of_ble_eq_true rfl) ?_
  have hl':¬ (R.length:Int)=0:=by omega
  have hmax:=maxLen_big
  have hstep:(prB n fun c=>B (c+1))≤prB (n+1) B:=by
   rw [prB]
   exact Nat.le_trans (Nat.le_mul_of_pos_left _ (hB1 0 (by omega))) (Nat.le_mul_of_pos_left _ (by omega))
  have hdet:∀ i,i<n+1→Sound Tryz.prog 178 [.sl (lls (mnr R i))] (wdA (dtP n (mnr R i)).1 (dtP n (mnr R i)).2):=fun i hi=>by
   refine ih (mnr R i) (fun c=>B (c+1)) (by omega) (by rw [mnr_len R i (by omega)];omega) (fun r hr=>?_) (hb.mnr hl hi) (fun c hc=>hB1 _ (by omega)) ?_ (fun c hc=>hB2 _ (by omega))
   ·obtain ⟨q,hq,rfl⟩:=mnr_mem hr
    have:=hR q hq
    rw [List.length_tail];omega
   ·omega
  simp only [c_pulse_determinant,lls_length,hl',vZ,Int.reduceEq,Int.reduceNe,Int.reduceLT,Int.reduceLE,Nat.reduceEqDiff,Nat.reduceAdd,reduceIte,reduceCtorEq,Nat.reduceLT,Nat.reduceLeDiff,Nat.reduceShiftRight,Nat.reduceMod]
  refine W_loop (t:=.mk) (α:=PSigma fun i:Nat=>i≤R.length) (fun ⟨i,_⟩=>(envOf [(0,.sl (lls R)),(2,.ptr 2 0 0),(3,.ptr 3 0 0),(14,.sl (lls R)),(15,.int .i64 R.length),(16,.int .i64 i)],stOf [(2,⟨188,3,[.agg [.bool false,.int .u64 0,.int .u64 0]]⟩),(3,⟨188,3,[wdA (dtS (fun i=>dtP n (mnr R i)) R i).1 (dtS (fun i=>dtP n (mnr R i)) R i).2]⟩)])) (fun x=>R.length - x.1) ⟨0,Nat.zero_le _⟩ ?_ (fun ⟨i,hi⟩=>?_)
  ·have z:wdA (dtS (fun i=>dtP n (mnr R i)) R 0).1 (dtS (fun i=>dtP n (mnr R i)) R 0).2=.agg [.bool false,.int .u64 0,.int .u64 0]:=by simp [dtS,wdA]
   refine weakX [] (of_decide_eq_true rfl) (of_decide_eq_true rfl) ?_
   (simp only [z,vcW,vZ,Int.reduceEq,Int.reduceNe,Int.reduceLT,Int.reduceLE,Nat.reduceEqDiff,Nat.reduceAdd,reduceIte,reduceCtorEq,Nat.reduceLT,Nat.reduceLeDiff,Nat.reduceShiftRight,Nat.reduceMod])
   (repeat' first | exact trivial | (with_reducible first | exact RnB.fxB (ints_fxB _) | rfl | refine And.intro ?_ ?_) | (with_reducible (first | refine RnB.bb ?_ | refine RnB.nb ?_);simp only [vcW,vZ,Int.reduceEq,Int.reduceNe,Int.reduceLT,Int.reduceLE,Nat.reduceEqDiff,Nat.reduceAdd,reduceIte,reduceCtorEq,Nat.reduceLT,Nat.reduceLeDiff,Nat.reduceShiftRight,Nat.reduceMod]) | (with_reducible first | refine RnB.ii ?_ | refine RnB.app ?_) | (with_reducible refine RnB.fxB ?_;simp only [vcW,vZ,Int.reduceEq,Int.reduceNe,Int.reduceLT,Int.reduceLE,Nat.reduceEqDiff,Nat.reduceAdd,reduceIte,reduceCtorEq,Nat.reduceLT,Nat.reduceLeDiff,Nat.reduceShiftRight,Nat.reduceMod]) | omega)
  ·dsimp only at hi ⊢
   by_cases h':i<R.length
   ·have hc1:(i:Int)<R.length:=by omega
    have hri:=hR _ (List.getElem_mem h')
    have hent:R[i][0]'(by omega)=ent R i 0:=by
     unfold ent
     rw [List.getD_eq_getElem?_getD,List.getD_eq_getElem?_getD,List.getElem?_eq_getElem h',Option.getD_some,List.getElem?_eq_getElem (by omega)];rfl
    have hg0:(ints R[i])[Int.toNat 0]?=some (.int .i64 (R[i][0]'(by omega))):=ints_get R[i] 0 (by omega)
    rw [hent] at hg0
    have hnx:dtS (fun i=>dtP n (mnr R i)) R (i+1)=if ent R i 0=0 then dtS (fun i=>dtP n (mnr R i)) R i else plP (dtS (fun i=>dtP n (mnr R i)) R i) (if i % 2=1 then ngP (tmP (dtP n (mnr R i)) (ent R i 0)) else tmP (dtP n (mnr R i)) (ent R i 0)):=rfl
    have hD:=hdet i (by omega)
    have hD2:(dtP n (mnr R i)).2≤prB n fun c=>B (c+1):=dtP_le (by rw [mnr_len R i h'];omega) (hb.mnr hl (by omega))
    have hacc:(dtS (fun i=>dtP n (mnr R i)) R i).2≤i * (B 0 * prB n fun c=>B (c+1)):=dtS_le fun k hk=>⟨dtP_le (by rw [mnr_len R k (by omega)];omega) (hb.mnr hl (by omega)),hb k 0 (by omega) (by omega)⟩
    have hent0:(ent R i 0).natAbs≤B 0:=hb i 0 (by omega) (by omega)
    have hB0:=hB2 0 (by omega)
    have hprod:(dtP n (mnr R i)).2 * (ent R i 0).natAbs≤B 0 * prB n fun c=>B (c+1):=by rw [Nat.mul_comm];exact Nat.mul_le_mul hent0 hD2
    have hone:i * (B 0 * prB n fun c=>B (c+1))+(B 0 * prB n fun c=>B (c+1))≤prB (n+1) B:=by
     rw [prB,← Nat.succ_mul];exact Nat.mul_le_mul_right _ (by omega)
    have hDle:(prB n fun c=>B (c+1))≤B 0 * prB n fun c=>B (c+1):=Nat.le_mul_of_pos_left _ (hB1 0 (by omega))
    generalize (B 0 * prB n fun c=>B (c+1))=X at *
    generalize prB (n+1) B=Y at *
    obtain ⟨A1,hA1⟩:∃ A,A=dtS (fun i=>dtP n (mnr R i)) R i:=⟨_,rfl⟩
    rw [← hA1] at hnx hacc ⊢
    by_cases hz:ent R i 0=0
    ·rw [if_pos hz] at hnx
     simp only [hc1,lls_get R i h',hg0,hz,vZ,Int.reduceEq,Int.reduceNe,Int.reduceLT,Int.reduceLE,Nat.reduceEqDiff,Nat.reduceAdd,reduceIte,reduceCtorEq,Nat.reduceLT,Nat.reduceLeDiff,Nat.reduceShiftRight,Nat.reduceMod]
     (repeat (with_reducible refine And.intro ?_ ?_;focus (first | omega | (unfold I64;omega))))
     refine ⟨⟨i+1,h'⟩,by simp only;omega,?_⟩
     refine weakX [] (of_decide_eq_true rfl) (of_decide_eq_true rfl) ?_
     (simp only [hnx,wdA,vcW,vZ,Int.reduceEq,Int.reduceNe,Int.reduceLT,Int.reduceLE,Nat.reduceEqDiff,Nat.reduceAdd,reduceIte,reduceCtorEq,Nat.reduceLT,Nat.reduceLeDiff,Nat.reduceShiftRight,Nat.reduceMod])
     (repeat' first | exact trivial | (with_reducible first | exact RnB.fxB (ints_fxB _) | rfl | refine And.intro ?_ ?_) | (with_reducible (first | refine RnB.bb ?_ | refine RnB.nb ?_);simp only [vcW,vZ,Int.reduceEq,Int.reduceNe,Int.reduceLT,Int.reduceLE,Nat.reduceEqDiff,Nat.reduceAdd,reduceIte,reduceCtorEq,Nat.reduceLT,Nat.reduceLeDiff,Nat.reduceShiftRight,Nat.reduceMod]) | (with_reducible first | refine RnB.ii ?_ | refine RnB.app ?_) | (with_reducible refine RnB.fxB ?_;simp only [vcW,vZ,Int.reduceEq,Int.reduceNe,Int.reduceLT,Int.reduceLE,Nat.reduceEqDiff,Nat.reduceAdd,reduceIte,reduceCtorEq,Nat.reduceLT,Nat.reduceLeDiff,Nat.reduceShiftRight,Nat.reduceMod]) | omega)
    ·rw [if_neg hz] at hnx
     simp only [hc1,lls_get R i h',hg0,hz,vZ,Int.reduceEq,Int.reduceNe,Int.reduceLT,Int.reduceLE,Nat.reduceEqDiff,Nat.reduceAdd,reduceIte,reduceCtorEq,Nat.reduceLT,Nat.reduceLeDiff,Nat.reduceShiftRight,Nat.reduceMod]
     refine ⟨by omega,?_⟩
     refine W_loop (t:=.mk) (α:=PSigma fun j:Nat=>j≤R.length) (fun ⟨j,_⟩=>(envOf [(0,.sl (lls R)),(2,.ptr 2 0 0),(3,.ptr 3 0 0),(4,.int .i64 i),(5,.sl (ints R[i])),(6,.buf 101 (mj R i j).length),(14,.sl (lls R)),(15,.int .i64 R.length),(16,.int .i64 i),(25,.sl (lls R)),(26,.int .i64 R.length),(27,.int .i64 j)],stOf [(2,⟨188,3,[.agg [.bool false,.int .u64 0,.int .u64 0]]⟩),(3,⟨188,3,[wdA A1.1 A1.2]⟩),(101,⟨45,1,lls (mj R i j)⟩)])) (fun x=>R.length - x.1) ⟨0,Nat.zero_le _⟩ ?_ (fun ⟨j,hj⟩=>?_)
     ·have z:mj R i 0=[]:=by simp [mj]
      have z2:lls []=[]:=rfl
      refine weakX [(101,none)] (of_decide_eq_true rfl) (of_decide_eq_true rfl) ?_
      (simp only [z,z2,lls_length,wdA,vcW,vZ,Int.reduceEq,Int.reduceNe,Int.reduceLT,Int.reduceLE,Nat.reduceEqDiff,Nat.reduceAdd,reduceIte,reduceCtorEq,Nat.reduceLT,Nat.reduceLeDiff,Nat.reduceShiftRight,Nat.reduceMod])
      (repeat' first | exact trivial | (with_reducible first | exact RnB.fxB (ints_fxB _) | rfl | refine And.intro ?_ ?_) | (with_reducible (first | refine RnB.bb ?_ | refine RnB.nb ?_);simp only [vcW,vZ,Int.reduceEq,Int.reduceNe,Int.reduceLT,Int.reduceLE,Nat.reduceEqDiff,Nat.reduceAdd,reduceIte,reduceCtorEq,Nat.reduceLT,Nat.reduceLeDiff,Nat.reduceShiftRight,Nat.reduceMod]) | (with_reducible first | refine RnB.ii ?_ | refine RnB.app ?_) | (with_reducible refine RnB.fxB ?_;simp only [vcW,vZ,Int.reduceEq,Int.reduceNe,Int.reduceLT,Int.reduceLE,Nat.reduceEqDiff,Nat.reduceAdd,reduceIte,reduceCtorEq,Nat.reduceLT,Nat.reduceLeDiff,Nat.reduceShiftRight,Nat.reduceMod]) | omega)
     ·dsimp only at hj ⊢
      by_cases hjl:j<R.length
      ·have hc2:(j:Int)<R.length:=by omega
       have hrj:=hR _ (List.getElem_mem hjl)
       have hml:=mj_len R i j
       by_cases hji:j=i
       ·subst hji
        have hsame:mj R j (j+1)=mj R j j:=mj_same R h'
        simp only [hc2,lls_get R j hjl,vZ,Int.reduceEq,Int.reduceNe,Int.reduceLT,Int.reduceLE,Nat.reduceEqDiff,Nat.reduceAdd,reduceIte,reduceCtorEq,Nat.reduceLT,Nat.reduceLeDiff,Nat.reduceShiftRight,Nat.reduceMod]
        (repeat (with_reducible refine And.intro ?_ ?_;focus (first | omega | (unfold I64;omega))))
        refine ⟨⟨j+1,hjl⟩,by simp only;omega,?_⟩
        refine weakX [(101,some 101)] (of_decide_eq_true rfl) (of_decide_eq_true rfl) ?_
        (simp only [hsame,lls_length,wdA,vcW,vZ,Int.reduceEq,Int.reduceNe,Int.reduceLT,Int.reduceLE,Nat.reduceEqDiff,Nat.reduceAdd,reduceIte,reduceCtorEq,Nat.reduceLT,Nat.reduceLeDiff,Nat.reduceShiftRight,Nat.reduceMod])
        (repeat' first | exact trivial | (with_reducible first | exact RnB.fxB (ints_fxB _) | rfl | refine And.intro ?_ ?_) | (with_reducible (first | refine RnB.bb ?_ | refine RnB.nb ?_);simp only [vcW,vZ,Int.reduceEq,Int.reduceNe,Int.reduceLT,Int.reduceLE,Nat.reduceEqDiff,Nat.reduceAdd,reduceIte,reduceCtorEq,Nat.reduceLT,Nat.reduceLeDiff,Nat.reduceShiftRight,Nat.reduceMod]) | (with_reducible first | refine RnB.ii ?_ | refine RnB.app ?_) | (with_reducible refine RnB.fxB ?_;simp only [vcW,vZ,Int.reduceEq,Int.reduceNe,Int.reduceLT,Int.reduceLE,Nat.reduceEqDiff,Nat.reduceAdd,reduceIte,reduceCtorEq,Nat.reduceLT,Nat.reduceLeDiff,Nat.reduceShiftRight,Nat.reduceMod]) | omega)
        all_goals exact RnB.fxB (lls_fxB _)
       ·have hji':¬ (j:Int)=i:=by omega
        have hnext:=mj_next R hjl hji
        have hsn:=lls_snoc (mj R i j) R[j].tail
        rw [← hnext] at hsn
        have hln:(mj R i (j+1)).length=(mj R i j).length+1:=by rw [hnext];simp
        have hcell:∀ x:AV,x ∈ ints R[j]→(cellsOf x).length=1:=fun x hx=>by
         obtain ⟨q,_,rfl⟩:=List.mem_map.1 hx;rfl
        simp only [hc2,lls_get R j hjl,hji',ints_tail,vZ,Int.reduceEq,Int.reduceNe,Int.reduceLT,Int.reduceLE,Nat.reduceEqDiff,Nat.reduceAdd,reduceIte,reduceCtorEq,Nat.reduceLT,Nat.reduceLeDiff,Nat.reduceShiftRight,Nat.reduceMod]
        refine ⟨by omega,⟨by omega,hcell⟩,⟨by rw [lls_length],by omega,by omega⟩,by unfold I64;omega,⟨j+1,hjl⟩,by simp only;omega,?_⟩
        refine weakX [(101,some 39)] (of_decide_eq_true rfl) (of_decide_eq_true rfl) ?_
        (simp only [hln,hsn,ints_tail,wdA,vcW,vZ,Int.reduceEq,Int.reduceNe,Int.reduceLT,Int.reduceLE,Nat.reduceEqDiff,Nat.reduceAdd,reduceIte,reduceCtorEq,Nat.reduceLT,Nat.reduceLeDiff,Nat.reduceShiftRight,Nat.reduceMod])
        (repeat' first | exact trivial | (with_reducible first | exact RnB.fxB (ints_fxB _) | rfl | refine And.intro ?_ ?_) | (with_reducible (first | refine RnB.bb ?_ | refine RnB.nb ?_);simp only [vcW,vZ,Int.reduceEq,Int.reduceNe,Int.reduceLT,Int.reduceLE,Nat.reduceEqDiff,Nat.reduceAdd,reduceIte,reduceCtorEq,Nat.reduceLT,Nat.reduceLeDiff,Nat.reduceShiftRight,Nat.reduceMod]) | (with_reducible first | refine RnB.ii ?_ | refine RnB.app ?_) | (with_reducible refine RnB.fxB ?_;simp only [vcW,vZ,Int.reduceEq,Int.reduceNe,Int.reduceLT,Int.reduceLE,Nat.reduceEqDiff,Nat.reduceAdd,reduceIte,reduceCtorEq,Nat.reduceLT,Nat.reduceLeDiff,Nat.reduceShiftRight,Nat.reduceMod]) | omega)
        all_goals first | exact RnB.fxB (lls_fxB _) | skip
      ·have hjl':j=R.length:=by omega
       subst hjl'
       have hc2:¬ (R.length:Int)<R.length:=by omega
       rw [mj_all]
       have hlen:(mnr R i).length=n:=by rw [mnr_len R i h'];omega
       unfold wdA at hD ⊢
       simp only [hc2,vZ,Int.reduceEq,Int.reduceNe,Int.reduceLT,Int.reduceLE,Nat.reduceEqDiff,Nat.reduceAdd,reduceIte,reduceCtorEq,Nat.reduceLT,Nat.reduceLeDiff,Nat.reduceShiftRight,Nat.reduceMod]
       rw [borB_good _ _ _ _ _ (by rw [lls_length]) (List.all_eq_true.1 (lls_fxB _))]
       refine callS_of hD ?_
       obtain ⟨P,hPd⟩:∃ P,P=dtP n (mnr R i):=⟨_,rfl⟩
       rw [← hPd] at hprod hD2 hnx ⊢
       have hT:=tmP_s P (ent R i 0) (by unfold S63;omega) (by unfold W128;omega) (by unfold W128;omega)
       have hTn:(tmP P (ent R i 0)).2=P.2 * (ent R i 0).natAbs:=rfl
       obtain ⟨T,hTd⟩:∃ T,T=tmP P (ent R i 0):=⟨_,rfl⟩
       rw [← hTd] at hT hTn hnx
       unfold wdA at hT
       simp only [hg0,vZ,Int.reduceEq,Int.reduceNe,Int.reduceLT,Int.reduceLE,Nat.reduceEqDiff,Nat.reduceAdd,reduceIte,reduceCtorEq,Nat.reduceLT,Nat.reduceLeDiff,Nat.reduceShiftRight,Nat.reduceMod]
       refine ⟨usedL_buf rfl (lls_immT _ _) rfl,?_⟩
       refine callS_of hT ?_
       have hpar:(i:Int).tmod 2=((i % 2:Nat):Int):=rfl
       by_cases ho:i % 2=1
       ·rw [if_pos ho] at hnx
        have ho':((i % 2:Nat):Int)=1:=by omega
        have hN:=ngP_s T
        have hA:=plP_s A1 (ngP T) (by unfold W128;show A1.2+T.2<_;omega)
        unfold wdA at hN hA
        simp only [hpar,ho',vZ,Int.reduceEq,Int.reduceNe,Int.reduceLT,Int.reduceLE,Nat.reduceEqDiff,Nat.reduceAdd,reduceIte,reduceCtorEq,Nat.reduceLT,Nat.reduceLeDiff,Nat.reduceShiftRight,Nat.reduceMod]
        refine callS_of hN ?_
        simp only [vZ,Int.reduceEq,Int.reduceNe,Int.reduceLT,Int.reduceLE,Nat.reduceEqDiff,Nat.reduceAdd,reduceIte,reduceCtorEq,Nat.reduceLT,Nat.reduceLeDiff,Nat.reduceShiftRight,Nat.reduceMod]
        refine callS_of hA ?_
        simp only [vZ,Int.reduceEq,Int.reduceNe,Int.reduceLT,Int.reduceLE,Nat.reduceEqDiff,Nat.reduceAdd,reduceIte,reduceCtorEq,Nat.reduceLT,Nat.reduceLeDiff,Nat.reduceShiftRight,Nat.reduceMod]
        (repeat (with_reducible refine And.intro ?_ ?_;focus (first | omega | (unfold I64;omega))))
        refine ⟨⟨i+1,h'⟩,by simp only;omega,?_⟩
        refine weakX [] (of_decide_eq_true rfl) (of_decide_eq_true rfl) ?_
        (simp only [hnx,wdA,vcW,vZ,Int.reduceEq,Int.reduceNe,Int.reduceLT,Int.reduceLE,Nat.reduceEqDiff,Nat.reduceAdd,reduceIte,reduceCtorEq,Nat.reduceLT,Nat.reduceLeDiff,Nat.reduceShiftRight,Nat.reduceMod])
        (repeat' first | exact trivial | (with_reducible first | exact RnB.fxB (ints_fxB _) | rfl | refine And.intro ?_ ?_) | (with_reducible (first | refine RnB.bb ?_ | refine RnB.nb ?_);simp only [vcW,vZ,Int.reduceEq,Int.reduceNe,Int.reduceLT,Int.reduceLE,Nat.reduceEqDiff,Nat.reduceAdd,reduceIte,reduceCtorEq,Nat.reduceLT,Nat.reduceLeDiff,Nat.reduceShiftRight,Nat.reduceMod]) | (with_reducible first | refine RnB.ii ?_ | refine RnB.app ?_) | (with_reducible refine RnB.fxB ?_;simp only [vcW,vZ,Int.reduceEq,Int.reduceNe,Int.reduceLT,Int.reduceLE,Nat.reduceEqDiff,Nat.reduceAdd,reduceIte,reduceCtorEq,Nat.reduceLT,Nat.reduceLeDiff,Nat.reduceShiftRight,Nat.reduceMod]) | omega)
       ·rw [if_neg ho] at hnx
        have ho':¬ ((i % 2:Nat):Int)=1:=by omega
        have hA:=plP_s A1 T (by unfold W128;omega)
        unfold wdA at hA
        simp only [hpar,ho',vZ,Int.reduceEq,Int.reduceNe,Int.reduceLT,Int.reduceLE,Nat.reduceEqDiff,Nat.reduceAdd,reduceIte,reduceCtorEq,Nat.reduceLT,Nat.reduceLeDiff,Nat.reduceShiftRight,Nat.reduceMod]
        refine callS_of hA ?_
        simp only [vZ,Int.reduceEq,Int.reduceNe,Int.reduceLT,Int.reduceLE,Nat.reduceEqDiff,Nat.reduceAdd,reduceIte,reduceCtorEq,Nat.reduceLT,Nat.reduceLeDiff,Nat.reduceShiftRight,Nat.reduceMod]
        (repeat (with_reducible refine And.intro ?_ ?_;focus (first | omega | (unfold I64;omega))))
        refine ⟨⟨i+1,h'⟩,by simp only;omega,?_⟩
        refine weakX [] (of_decide_eq_true rfl) (of_decide_eq_true rfl) ?_
        (simp only [hnx,wdA,vcW,vZ,Int.reduceEq,Int.reduceNe,Int.reduceLT,Int.reduceLE,Nat.reduceEqDiff,Nat.reduceAdd,reduceIte,reduceCtorEq,Nat.reduceLT,Nat.reduceLeDiff,Nat.reduceShiftRight,Nat.reduceMod])
        (repeat' first | exact trivial | (with_reducible first | exact RnB.fxB (ints_fxB _) | rfl | refine And.intro ?_ ?_) | (with_reducible (first | refine RnB.bb ?_ | refine RnB.nb ?_);simp only [vcW,vZ,Int.reduceEq,Int.reduceNe,Int.reduceLT,Int.reduceLE,Nat.reduceEqDiff,Nat.reduceAdd,reduceIte,reduceCtorEq,Nat.reduceLT,Nat.reduceLeDiff,Nat.reduceShiftRight,Nat.reduceMod]) | (with_reducible first | refine RnB.ii ?_ | refine RnB.app ?_) | (with_reducible refine RnB.fxB ?_;simp only [vcW,vZ,Int.reduceEq,Int.reduceNe,Int.reduceLT,Int.reduceLE,Nat.reduceEqDiff,Nat.reduceAdd,reduceIte,reduceCtorEq,Nat.reduceLT,Nat.reduceLeDiff,Nat.reduceShiftRight,Nat.reduceMod]) | omega)
   ·have hil:i=R.length:=by omega
    subst hil
    have hc1:¬ (R.length:Int)<R.length:=by omega
    have he:dtP (n+1) R=dtS (fun i=>dtP n (mnr R i)) R R.length:=by rw [dtP,hl]
    rw [he]
    generalize dtS (fun i=>dtP n (mnr R i)) R R.length=Q
    unfold wdA
    simp only [hc1,vZ,Int.reduceEq,Int.reduceNe,Int.reduceLT,Int.reduceLE,Nat.reduceEqDiff,Nat.reduceAdd,reduceIte,reduceCtorEq,Nat.reduceLT,Nat.reduceLeDiff,Nat.reduceShiftRight,Nat.reduceMod]
end Go.Proofs.YtpaklfjlbocfcaaGreatDoor

/- The marked code of law functions;printed by a program. By an AI agent;nothing here is trusted. -/
namespace Go.Proofs.YtpaklfjlbocfcaaGreatDoor
open Go.Av
def cl_pulse_fittedErr:ML:=(.seq (.reg 6 [mO 2 (.box 102 2 (.t 0)),mO 4 (.mv (.c (.int .i64 0)))] false []) (.seq (.regW 16 [mO 5 (.load (some 2) (.t 2)),mO 6 (.call 120 [(.t 5)]),mV 7 1,mO 8 (.call 92 [(.t 7)]),mV 9 1,mO 10 (.len false (.t 9)),mO 11 (.fieldAddr (.t 2) 1),mO 12 (.load none (.t 11)),mO 13 (.fieldAddr (.t 2) 0),mO 14 (.load none (.t 13)),mO 15 (.len false (.t 14)),mO 16 (.bin .add (.t 12) (.t 15)),mO 17 (.bin .sub (.t 16) (.c (.int .i64 1))),mO 18 (.bin .eql (.t 10) (.t 17)),mO 19 (.call 121 [(.t 18),(.c (.int .i64 13))]),mO 20 (.buildSlice 32 1 3 (.int .i64 0) [(0,(.t 6)),(1,(.t 8)),(2,(.t 19))]),mO 21 (.call 119 [(.t 20)]),mV 4 21] true []) .ret))
theorem e_pulse_fittedErr:cl_pulse_fittedErr.er=c_pulse_fittedErr:=rfl
end Go.Proofs.YtpaklfjlbocfcaaGreatDoor

/- Templates: their errors,and those of samples for them. By an AI agent;nothing here is trusted. -/
namespace Go.Proofs.YtpaklfjlbocfcaaGreatDoor
open Go.Av

def tplA (items:List Int) (shifts:Int):AV:=.agg [.sl (ints items),.int .i64 shifts]
def itm (n:Int):Bool:=decide (-100≤n∧n≤100)
def teE (items:List Int) (shifts:Int):Int:=if items.length=0 then 10 else if 6<items.length then 8 else if items.all itm=false then 2 else if items.all (fun n=>decide (n=0)) then 11 else if 1≤shifts∧shifts≤5 then 0 else 2
theorem teE_ok {items:List Int} {shifts:Int} (h:teE items shifts=0):(1≤items.length∧items.length≤6)∧(∀ x ∈ items, -100≤x∧x≤100)∧(∃ x ∈ items,x ≠ 0)∧(1≤shifts∧shifts≤5):=by
 unfold teE at h
 split at h
 ·cases h
 ·split at h
  ·cases h
  ·split at h
   ·cases h
   ·split at h
    ·cases h
    ·split at h
     ·rename_i h1 h2 h3 h4 h5
      refine ⟨by omega,fun x hx=>?_,?_,h5⟩
      ·have:=List.all_eq_true.1 (by simpa using h3) x hx
       simpa [itm] using this
      ·have h4':(items.all fun n=>decide (n=0))=false:=by simpa using h4
       rw [List.all_eq_false] at h4'
       obtain ⟨x,hx,hx2⟩:=h4'
       exact ⟨x,hx,by simpa using hx2⟩
     ·cases h
theorem first5_s (a b c d e:Int):Sound Tryz.prog 119 [.sl [.int .i64 a,.int .i64 b,.int .i64 c,.int .i64 d,.int .i64 e]] (.int .i64 (if a ≠ 0 then a else if b ≠ 0 then b else if c ≠ 0 then c else if d ≠ 0 then d else e)):=by
 have h:=first_s [a,b,c,d,e] (by simp)
 have hv:firstErr [a,b,c,d,e]=if a ≠ 0 then a else if b ≠ 0 then b else if c ≠ 0 then c else if d ≠ 0 then d else e:=by
  unfold firstErr
  simp only [List.find?_cons,List.find?_nil]
  by_cases h1:a=0 <;> by_cases h2:b=0 <;> by_cases h3:c=0 <;> by_cases h4:d=0 <;> by_cases h5:e=0 <;> simp [h1,h2,h3,h4,h5]
 rw [hv] at h
 exact h
theorem templateErr_1_s (n:Int):Sound Tryz.prog 170 [.int .i64 n] (.bool (!itm n)):=by
 refine sound_W f_pulse_templateErr_1 (Nat.le_of_ble_eq_true rfl) ?_
 simp only [c_pulse_templateErr_1,vZ,Int.reduceEq,Int.reduceNe,Int.reduceLT,Int.reduceLE,Nat.reduceEqDiff,Nat.reduceAdd,reduceIte,reduceCtorEq,Nat.reduceLT,Nat.reduceLeDiff,Nat.reduceShiftRight,Nat.reduceMod]
 refine callS_of (isSized_s _ _ (by unfold S63;omega)) ?_
 simp only [vZ,Int.reduceEq,Int.reduceNe,Int.reduceLT,Int.reduceLE,Nat.reduceEqDiff,Nat.reduceAdd,reduceIte,reduceCtorEq,Nat.reduceLT,Nat.reduceLeDiff,Nat.reduceShiftRight,Nat.reduceMod]
 rfl
theorem templateErr_2_s (n:Int):Sound Tryz.prog 172 [.int .i64 n] (.bool (!decide (n=0))):=by
 refine sound_W f_pulse_templateErr_2 (Nat.le_of_ble_eq_true rfl) ?_
 simp only [c_pulse_templateErr_2,vZ,Int.reduceEq,Int.reduceNe,Int.reduceLT,Int.reduceLE,Nat.reduceEqDiff,Nat.reduceAdd,reduceIte,reduceCtorEq,Nat.reduceLT,Nat.reduceLeDiff,Nat.reduceShiftRight,Nat.reduceMod]
theorem templateErr_s (items:List Int) (shifts:Int) (hl:items.length<4000000000000000000):Sound Tryz.prog 120 [tplA items shifts] (.int .i64 (teE items shifts)):=by
 refine sound_W f_pulse_templateErr (Nat.le_of_ble_eq_true rfl) ?_
 have h1:=contFunc_int_s items 170 [] (fun n=>!itm n) hl (by simp) (fun x _=>templateErr_1_s x)
 have h2:=contFunc_int_s items 172 [] (fun n=>!decide (n=0)) hl (by simp) (fun x _=>templateErr_2_s x)
 rw [← List.not_all_eq_any_not] at h1 h2
 simp only [c_pulse_templateErr,tplA,vZ,Int.reduceEq,Int.reduceNe,Int.reduceLT,Int.reduceLE,Nat.reduceEqDiff,Nat.reduceAdd,reduceIte,reduceCtorEq,Nat.reduceLT,Nat.reduceLeDiff,Nat.reduceShiftRight,Nat.reduceMod]
 refine callS_of h1 ?_
 simp only [vZ,Int.reduceEq,Int.reduceNe,Int.reduceLT,Int.reduceLE,Nat.reduceEqDiff,Nat.reduceAdd,reduceIte,reduceCtorEq,Nat.reduceLT,Nat.reduceLeDiff,Nat.reduceShiftRight,Nat.reduceMod]
 refine callS_of h2 ?_
 simp only [vZ,Int.reduceEq,Int.reduceNe,Int.reduceLT,Int.reduceLE,Nat.reduceEqDiff,Nat.reduceAdd,reduceIte,reduceCtorEq,Nat.reduceLT,Nat.reduceLeDiff,Nat.reduceShiftRight,Nat.reduceMod]
 refine callS_of (unless_s _ _) ?_
 simp only [vZ,Int.reduceEq,Int.reduceNe,Int.reduceLT,Int.reduceLE,Nat.reduceEqDiff,Nat.reduceAdd,reduceIte,reduceCtorEq,Nat.reduceLT,Nat.reduceLeDiff,Nat.reduceShiftRight,Nat.reduceMod]
 refine callS_of (unless_s _ _) ?_
 simp only [vZ,Int.reduceEq,Int.reduceNe,Int.reduceLT,Int.reduceLE,Nat.reduceEqDiff,Nat.reduceAdd,reduceIte,reduceCtorEq,Nat.reduceLT,Nat.reduceLeDiff,Nat.reduceShiftRight,Nat.reduceMod]
 refine callS_of (unless_s _ _) ?_
 simp only [vZ,Int.reduceEq,Int.reduceNe,Int.reduceLT,Int.reduceLE,Nat.reduceEqDiff,Nat.reduceAdd,reduceIte,reduceCtorEq,Nat.reduceLT,Nat.reduceLeDiff,Nat.reduceShiftRight,Nat.reduceMod]
 refine callS_of (unless_s _ _) ?_
 simp only [vZ,Int.reduceEq,Int.reduceNe,Int.reduceLT,Int.reduceLE,Nat.reduceEqDiff,Nat.reduceAdd,reduceIte,reduceCtorEq,Nat.reduceLT,Nat.reduceLeDiff,Nat.reduceShiftRight,Nat.reduceMod]
 refine callS_of (within_s _ _ _) ?_
 simp only [vZ,Int.reduceEq,Int.reduceNe,Int.reduceLT,Int.reduceLE,Nat.reduceEqDiff,Nat.reduceAdd,reduceIte,reduceCtorEq,Nat.reduceLT,Nat.reduceLeDiff,Nat.reduceShiftRight,Nat.reduceMod]
 refine callS_of (unless_s _ _) ?_
 simp only [vZ,Int.reduceEq,Int.reduceNe,Int.reduceLT,Int.reduceLE,Nat.reduceEqDiff,Nat.reduceAdd,reduceIte,reduceCtorEq,Nat.reduceLT,Nat.reduceLeDiff,Nat.reduceShiftRight,Nat.reduceMod]
 refine callS_of (first5_s _ _ _ _ _) ?_
 simp only [vZ,Int.reduceEq,Int.reduceNe,Int.reduceLT,Int.reduceLE,Nat.reduceEqDiff,Nat.reduceAdd,reduceIte,reduceCtorEq,Nat.reduceLT,Nat.reduceLeDiff,Nat.reduceShiftRight,Nat.reduceMod]
 refine ⟨by intro _ k hk;simp [refsL,refs,upd] at hk;subst hk;simp [upd],?_⟩
 congr 1
 unfold teE
 by_cases e1:items.length=0
 ·have e1':¬ (0:Int)<items.length:=by omega
  simp [e1,e1']
 ·have e1':(0:Int)<items.length:=by omega
  by_cases e2:6<items.length
  ·have e2':¬ (items.length:Int)≤6:=by omega
   simp [e1,e1',e2,e2']
  ·have e2':(items.length:Int)≤6:=by omega
   cases e3:items.all itm <;> cases e4:(items.all fun n=>decide (n=0)) <;> by_cases e5:1≤shifts∧shifts≤5 <;> simp [e1,e1',e2,e2',e3,e4,e5]
end Go.Proofs.YtpaklfjlbocfcaaGreatDoor

/- Samples for a template: their error,with a sum that may wrap. By an AI agent;nothing here is trusted. -/
namespace Go.Proofs.YtpaklfjlbocfcaaGreatDoor
open Go.Av

def fdE (items:List Int) (shifts:Int) (l:List Int):Int:=if teE items shifts ≠ 0 then teE items shifts else if smE l ≠ 0 then smE l else if (l.length:Int)=shifts+items.length - 1 then 0 else 13
theorem i64_wrap {n:Int} (h : -9223372036854775808≤n∧n≤9223372036854775807):IntKind.i64.wrap n=n:=wrap_i64 (by unfold I64;omega)
theorem fittedErr_s (items:List Int) (shifts:Int) (l:List Int) (h1:items.length<4000000000000000000) (h2:l.length<4000000000000000000):Sound Tryz.prog 125 [tplA items shifts,.sl (ints l)] (.int .i64 (fdE items shifts l)):=by
 refine sound_WL f_pulse_fittedErr e_pulse_fittedErr (Nat.le_of_ble_eq_true rfl) ?_
 have hT:=templateErr_s items shifts h1
 unfold tplA at hT
 simp only [cl_pulse_fittedErr,tplA,vZ,Int.reduceEq,Int.reduceNe,Int.reduceLT,Int.reduceLE,Nat.reduceEqDiff,Nat.reduceAdd,reduceIte,reduceCtorEq,Nat.reduceLT,Nat.reduceLeDiff,Nat.reduceShiftRight,Nat.reduceMod]
 refine callS_of hT ?_
 simp only [vZ,Int.reduceEq,Int.reduceNe,Int.reduceLT,Int.reduceLE,Nat.reduceEqDiff,Nat.reduceAdd,reduceIte,reduceCtorEq,Nat.reduceLT,Nat.reduceLeDiff,Nat.reduceShiftRight,Nat.reduceMod]
 refine callS_of (sampled_s l h2) ?_
 simp only [vZ,Int.reduceEq,Int.reduceNe,Int.reduceLT,Int.reduceLE,Nat.reduceEqDiff,Nat.reduceAdd,reduceIte,reduceCtorEq,Nat.reduceLT,Nat.reduceLeDiff,Nat.reduceShiftRight,Nat.reduceMod]
 refine callS_of (unless_s _ _) ?_
 simp only [vZ,Int.reduceEq,Int.reduceNe,Int.reduceLT,Int.reduceLE,Nat.reduceEqDiff,Nat.reduceAdd,reduceIte,reduceCtorEq,Nat.reduceLT,Nat.reduceLeDiff,Nat.reduceShiftRight,Nat.reduceMod]
 refine callS_of (first3_s _ _ _) ?_
 simp only [vZ,Int.reduceEq,Int.reduceNe,Int.reduceLT,Int.reduceLE,Nat.reduceEqDiff,Nat.reduceAdd,reduceIte,reduceCtorEq,Nat.reduceLT,Nat.reduceLeDiff,Nat.reduceShiftRight,Nat.reduceMod]
 refine ⟨by intro _ k hk;simp [refsL,refs,upd] at hk;subst hk;simp [upd],?_⟩
 congr 1
 unfold fdE
 by_cases hE:teE items shifts=0
 ·obtain ⟨⟨a1,a2⟩,_,_,a3⟩:=teE_ok hE
  have w1:IntKind.i64.wrap (shifts+items.length)=shifts+items.length:=i64_wrap (by omega)
  have w2:IntKind.i64.wrap (shifts+items.length - 1)=shifts+items.length - 1:=i64_wrap (by omega)
  simp only [w1,w2,hE,ne_eq,not_true_eq_false,if_false,decide_eq_true_eq]
 ·simp only [hE,ne_eq,not_false_eq_true,if_true]
end Go.Proofs.YtpaklfjlbocfcaaGreatDoor

/- The model of charges,and what stands against a template. By an AI agent;nothing here is trusted. -/
namespace Go.Proofs.YtpaklfjlbocfcaaGreatDoor
open Go.Av

def agT (items l:List Int) (k:Nat):Nat→Int
 | 0=>0
 | j+1=>agT items l k j+items.getD j 0 * l.getD (k+j) 0
theorem prod_bd {a b M:Int} (hM:0≤M) (h1 : -100≤a∧a≤100) (h2 : -M≤b∧b≤M) : -(100 * M)≤a * b∧a * b≤100 * M:=by
 by_cases ha:0≤a
 ·have:=mul_abs (s:=b) (k:=a) (K:=100) ⟨ha,h1.2⟩ hM h2
  rw [Int.mul_comm b a,Int.mul_comm M 100] at this;exact this
 ·have:=mul_abs (s:=b) (k := -a) (K:=100) ⟨by omega,by omega⟩ hM h2
  rw [Int.mul_neg,Int.mul_comm b a,Int.mul_comm M 100] at this;omega
theorem agT_bd {items l:List Int} {M:Int} (hM:0≤M) (hi:∀ x ∈ items, -100≤x∧x≤100) (hl:∀ x ∈ l, -M≤x∧x≤M) (k:Nat):∀ j, -(100 * M * j)≤agT items l k j∧agT items l k j≤100 * M * j
 | 0=>by simp [agT]
 | j+1=>by
  have ih:=agT_bd hM hi hl k j
  have h1 : -100≤items.getD j 0∧items.getD j 0≤100:=by
   by_cases h:j<items.length
   ·rw [getD_at h];exact hi _ (List.getElem_mem h)
   ·simp [List.getD,List.getElem?_eq_none (Nat.le_of_not_lt h)]
  have h2 : -M≤l.getD (k+j) 0∧l.getD (k+j) 0≤M:=by
   by_cases h:k+j<l.length
   ·rw [getD_at h];exact hl _ (List.getElem_mem h)
   ·simp [List.getD,List.getElem?_eq_none (Nat.le_of_not_lt h)];omega
  have h3:=prod_bd hM h1 h2
  have h4:100 * M * ((j+1:Nat):Int)=100 * M * j+100 * M:=by rw [show ((j+1:Nat):Int)=(j:Int)+1 by omega,Int.mul_add,Int.mul_one]
  rw [agT,h4]
  omega
theorem against_s {items l:List Int} (shifts:Int) {k:Nat} {M:Int} (h6:items.length≤6) (hM:0≤M∧M≤12000000000000000) (hi:∀ x ∈ items, -100≤x∧x≤100) (hl:∀ x ∈ l, -M≤x∧x≤M) (hk:k+items.length≤l.length) (hk5:k≤5) :
  Sound Tryz.prog 175 [tplA items shifts,.sl (ints l),.int .i64 k] (.int .i64 (agT items l k items.length)):=by
 refine sound_W f_pulse_against (Nat.le_of_ble_eq_true rfl) ?_
 have hb:=agT_bd hM.1 hi hl k
 have hbb:∀ j:Nat,j≤6 → -7200000000000000000≤agT items l k j∧agT items l k j≤7200000000000000000:=fun j hj=>by
  have h1:=hb j
  have h2:100 * M * (j:Int)≤1200000000000000000 * 6:=Int.mul_le_mul (by omega) (by omega) (by omega) (by omega)
  omega
 simp only [c_pulse_against,tplA,vZ,Int.reduceEq,Int.reduceNe,Int.reduceLT,Int.reduceLE,Nat.reduceEqDiff,Nat.reduceAdd,reduceIte,reduceCtorEq,Nat.reduceLT,Nat.reduceLeDiff,Nat.reduceShiftRight,Nat.reduceMod]
 refine W_loop (t:=.mk) (α:=PSigma fun j:Nat=>j≤items.length) (fun ⟨j,_⟩=>(envOf [(1,.sl (ints l)),(2,.int .i64 k),(7,.int .i64 (agT items l k j)),(11,.sl (ints items)),(12,.int .i64 items.length),(13,.int .i64 j)],stOf [])) (fun p=>items.length - p.1) ⟨0,Nat.zero_le _⟩ ?_ (fun ⟨j,hj⟩=>?_)
 ·have z:agT items l k 0=0:=rfl
  refine weakX [] (of_decide_eq_true rfl) (of_decide_eq_true rfl) ?_
  (simp only [z,vcW,vZ,Int.reduceEq,Int.reduceNe,Int.reduceLT,Int.reduceLE,Nat.reduceEqDiff,Nat.reduceAdd,reduceIte,reduceCtorEq,Nat.reduceLT,Nat.reduceLeDiff,Nat.reduceShiftRight,Nat.reduceMod])
  (repeat' first | exact trivial | (with_reducible first | exact RnB.fxB (ints_fxB _) | rfl | refine And.intro ?_ ?_) | (with_reducible (first | refine RnB.bb ?_ | refine RnB.nb ?_);simp only [vcW,vZ,Int.reduceEq,Int.reduceNe,Int.reduceLT,Int.reduceLE,Nat.reduceEqDiff,Nat.reduceAdd,reduceIte,reduceCtorEq,Nat.reduceLT,Nat.reduceLeDiff,Nat.reduceShiftRight,Nat.reduceMod]) | (with_reducible first | refine RnB.ii ?_ | refine RnB.app ?_) | (with_reducible refine RnB.fxB ?_;simp only [vcW,vZ,Int.reduceEq,Int.reduceNe,Int.reduceLT,Int.reduceLE,Nat.reduceEqDiff,Nat.reduceAdd,reduceIte,reduceCtorEq,Nat.reduceLT,Nat.reduceLeDiff,Nat.reduceShiftRight,Nat.reduceMod]) | omega)
 ·dsimp only at hj ⊢
  by_cases h':j<items.length
  ·have h5:(j:Int)<items.length:=by omega
   have hs:agT items l k (j+1)=agT items l k j+items[j] * l[k+j]:=by rw [agT,getD_at h',getD_at (show k+j<l.length by omega)]
   have b1:=hbb j (by omega)
   have b2:=hbb (j+1) (by omega)
   rw [hs] at b2
   have hp:=prod_bd hM.1 (hi items[j] (List.getElem_mem h')) (hl (l[k+j]'(by omega)) (List.getElem_mem _))
   have hkj:(k:Int)+j=((k+j:Nat):Int):=by omega
   have hkl:((k+j:Nat):Int)<l.length:=by omega
   simp only [h5,ints_get items j h',hkj,ints_get l (k+j) (by omega),hkl,vZ,Int.reduceEq,Int.reduceNe,Int.reduceLT,Int.reduceLE,Nat.reduceEqDiff,Nat.reduceAdd,reduceIte,reduceCtorEq,Nat.reduceLT,Nat.reduceLeDiff,Nat.reduceShiftRight,Nat.reduceMod]
   (repeat (with_reducible refine And.intro ?_ ?_;focus (first | omega | (unfold I64;omega))))
   refine ⟨⟨j+1,h'⟩,by simp only;omega,?_⟩
   refine weakX [] (of_decide_eq_true rfl) (of_decide_eq_true rfl) ?_
   (simp only [hs,vcW,vZ,Int.reduceEq,Int.reduceNe,Int.reduceLT,Int.reduceLE,Nat.reduceEqDiff,Nat.reduceAdd,reduceIte,reduceCtorEq,Nat.reduceLT,Nat.reduceLeDiff,Nat.reduceShiftRight,Nat.reduceMod])
   (repeat' first | exact trivial | (with_reducible first | exact RnB.fxB (ints_fxB _) | rfl | refine And.intro ?_ ?_) | (with_reducible (first | refine RnB.bb ?_ | refine RnB.nb ?_);simp only [vcW,vZ,Int.reduceEq,Int.reduceNe,Int.reduceLT,Int.reduceLE,Nat.reduceEqDiff,Nat.reduceAdd,reduceIte,reduceCtorEq,Nat.reduceLT,Nat.reduceLeDiff,Nat.reduceShiftRight,Nat.reduceMod]) | (with_reducible first | refine RnB.ii ?_ | refine RnB.app ?_) | (with_reducible refine RnB.fxB ?_;simp only [vcW,vZ,Int.reduceEq,Int.reduceNe,Int.reduceLT,Int.reduceLE,Nat.reduceEqDiff,Nat.reduceAdd,reduceIte,reduceCtorEq,Nat.reduceLT,Nat.reduceLeDiff,Nat.reduceShiftRight,Nat.reduceMod]) | omega)
  ·have h5:¬ (j:Int)<items.length:=by omega
   have hin:j=items.length:=by omega
   subst hin
   simp only [h5,vZ,Int.reduceEq,Int.reduceNe,Int.reduceLT,Int.reduceLE,Nat.reduceEqDiff,Nat.reduceAdd,reduceIte,reduceCtorEq,Nat.reduceLT,Nat.reduceLeDiff,Nat.reduceShiftRight,Nat.reduceMod]
end Go.Proofs.YtpaklfjlbocfcaaGreatDoor

/- The model of charges,and differences. By an AI agent;nothing here is trusted. -/
namespace Go.Proofs.YtpaklfjlbocfcaaGreatDoor
open Go.Av

def mdT (items ch:List Int) (n:Nat):Nat→Int
 | 0=>0
 | k+1=>mdT items ch n k+(if k≤n∧n - k<items.length then ch.getD k 0 * items.getD (n - k) 0 else 0)
def mdP (items ch:List Int) (n k j:Nat):Int:=mdT items ch n k+(if k≤n∧n - k<j then ch.getD k 0 * items.getD (n - k) 0 else 0)
def mdL (items ch:List Int) (k j:Nat):List Int:=(List.range (ch.length+items.length - 1)).map fun n=>mdP items ch n k j
theorem mdL_len (items ch:List Int) (k j:Nat):(mdL items ch k j).length=ch.length+items.length - 1:=by simp [mdL]
theorem mdL_get (items ch:List Int) (k j:Nat) {n:Nat} (h:n<(mdL items ch k j).length):(mdL items ch k j)[n]=mdP items ch n k j:=by simp [mdL]
theorem mdP_0 (items ch:List Int) (n k:Nat):mdP items ch n k 0=mdT items ch n k:=by unfold mdP;rw [if_neg (by omega),Int.add_zero]
theorem mdP_next (items ch:List Int) (n k:Nat):mdP items ch n k items.length=mdT items ch n (k+1):=rfl
theorem mdP_succ (items ch:List Int) (n k j:Nat):mdP items ch n k (j+1)=mdP items ch n k j+(if n=k+j then ch.getD k 0 * items.getD j 0 else 0):=by
 unfold mdP
 by_cases e:n=k+j
 ·subst e
  rw [if_pos (by omega),if_neg (by omega),if_pos rfl,Nat.add_sub_cancel_left,Int.add_zero]
 ·rw [if_neg e,Int.add_zero]
  congr 1
  by_cases h:k≤n∧n - k<j
  ·rw [if_pos h,if_pos (by omega)]
  ·rw [if_neg h,if_neg (by omega)]
theorem mdL_set (items ch:List Int) {k j:Nat} (h:k+j<ch.length+items.length - 1):mdL items ch k (j+1)=(mdL items ch k j).set (k+j) (mdP items ch (k+j) k j+ch.getD k 0 * items.getD j 0):=by
 apply List.ext_getElem
 ·rw [List.length_set,mdL_len,mdL_len]
 ·intro n h1 h2
  rw [mdL_get,List.getElem_set,mdP_succ]
  by_cases e:k+j=n
  ·subst e;rw [if_pos rfl,if_pos rfl]
  ·rw [if_neg e,if_neg (fun q=>e q.symm),mdL_get,Int.add_zero]
end Go.Proofs.YtpaklfjlbocfcaaGreatDoor

/- Digits to the base 10^9,in plain Lean. By an AI agent;nothing here is trusted. -/
namespace Go.Proofs.YtpaklfjlbocfcaaGreatDoor
open Go.Av

end Go.Proofs.YtpaklfjlbocfcaaGreatDoor

/- Contracts: digits added,subtracted,compared. By an AI agent;nothing here is trusted. -/
namespace Go.Proofs.YtpaklfjlbocfcaaGreatDoor
open Go.Av

end Go.Proofs.YtpaklfjlbocfcaaGreatDoor

/- Contracts: digits subtracted and compared. By an AI agent;nothing here is trusted. -/
namespace Go.Proofs.YtpaklfjlbocfcaaGreatDoor
open Go.Av

end Go.Proofs.YtpaklfjlbocfcaaGreatDoor

/- Contracts: wide numbers added,subtracted,compared. By an AI agent;nothing here is trusted. -/
namespace Go.Proofs.YtpaklfjlbocfcaaGreatDoor
open Go.Av

end Go.Proofs.YtpaklfjlbocfcaaGreatDoor

/- Contracts: wide numbers of ints,and multiplied. By an AI agent;nothing here is trusted. -/
namespace Go.Proofs.YtpaklfjlbocfcaaGreatDoor
open Go.Av

theorem nilsGood:∀ x ∈ [AV.agg [.int .i64 0,.nils]],good x=true:=fun x hx=>by rw [List.mem_singleton.1 hx];rfl
theorem RnB.wide {s s':Store} {f:Nat→Option Nat} {ty sz:Nat}:RnB s s' f ⟨ty,sz,[AV.agg [.int .i64 0,.nils]]⟩ ⟨ty,sz,[AV.agg [.int .i64 0,.nils]]⟩:=RnB.same (B:=⟨ty,sz,[AV.agg [.int .i64 0,.nils]]⟩) nilsGood
end Go.Proofs.YtpaklfjlbocfcaaGreatDoor

/- Contracts: wide numbers multiplied. By an AI agent;nothing here is trusted. -/
namespace Go.Proofs.YtpaklfjlbocfcaaGreatDoor
open Go.Av

theorem mkOk_z (N:Nat):mkOk 1 (List.replicate N (AV.int .i64 0)):=by
 intro x hx
 rw [List.eq_of_mem_replicate hx]
 exact ⟨rfl,rfl,by decide⟩
theorem ints_z (n:Nat):List.replicate n (AV.int .i64 0)=ints (List.replicate n 0):=by simp [ints]
theorem ints_st (l:List Int) (k:Nat) (n:Int):(ints l).set k (.int .i64 n)=ints (l.set k n):=by simp [ints,List.map_set]
end Go.Proofs.YtpaklfjlbocfcaaGreatDoor

/- Contracts: the model of charges,differences,both errors. By an AI agent;nothing here is trusted. -/
namespace Go.Proofs.YtpaklfjlbocfcaaGreatDoor
open Go.Av

def oEnd (t ty sz:Nat) (es:List AV):Exit→Env→Store→Prop:=fun x e s=>(x=.normal∨x=.ret)∧ownV e s t ty sz es
theorem oEnd_n (t ty sz:Nat) (es:List AV) (e:Env) (s:Store):oEnd t ty sz es .normal e s=ownV e s t ty sz es:=propext ⟨fun h=>h.2,fun h=>⟨.inl rfl,h⟩⟩
theorem oEnd_r (t ty sz:Nat) (es:List AV) (e:Env) (s:Store):oEnd t ty sz es .ret e s=ownV e s t ty sz es:=propext ⟨fun h=>h.2,fun h=>⟨.inr rfl,h⟩⟩
theorem soundO_W {P:Program} {f:FuncId} {nt np t:Nat} {m:MC} (hF:cFun P f=some (nt,np,m,[(t,none)])) {args:List AV} (hla:args.length≤nt) {ty sz:Nat} {es:List AV} (hsz:0<sz)
  (h:W P nt m (oEnd t ty sz es) (argE args) noStore .mk):SoundO P f args ty sz es:=soundO_of hF hla hsz (W_sound h)
theorem ownV_i {e:Env} {s:Store} {t ty sz:Nat} {es:List AV} (k:Nat) (n:Nat) (h1:e t=.buf k n) (h2:n=es.length) (h3:s k=some (some ⟨ty,sz,es⟩)) (h4:es.all imm=true):ownV e s t ty sz es:=⟨k,by rw [← h2];exact h1,h3,h4⟩
theorem it_bd {items:List Int} (hi:∀ x ∈ items, -100≤x∧x≤100) (j:Nat) : -100≤items.getD j 0∧items.getD j 0≤100:=by
 by_cases h:j<items.length
 ·rw [getD_at h];exact hi _ (List.getElem_mem h)
 ·simp [List.getD,List.getElem?_eq_none (Nat.le_of_not_lt h)]
theorem ch_bd {ch:List Int} {C:Int} (hC:0≤C) (hc:∀ x ∈ ch, -C≤x∧x≤C) (k:Nat) : -C≤ch.getD k 0∧ch.getD k 0≤C:=by
 by_cases h:k<ch.length
 ·rw [getD_at h];exact hc _ (List.getElem_mem h)
 ·simp [List.getD,List.getElem?_eq_none (Nat.le_of_not_lt h)];omega
theorem mdT_bd {items ch:List Int} {C:Int} (hC:0≤C) (hi:∀ x ∈ items, -100≤x∧x≤100) (hc:∀ x ∈ ch, -C≤x∧x≤C) (n:Nat):∀ k, -(100 * C * k)≤mdT items ch n k∧mdT items ch n k≤100 * C * k
 | 0=>by simp [mdT]
 | k+1=>by
  have ih:=mdT_bd hC hi hc n k
  have h4:100 * C * ((k+1:Nat):Int)=100 * C * k+100 * C:=by rw [show ((k+1:Nat):Int)=(k:Int)+1 by omega,Int.mul_add,Int.mul_one]
  rw [mdT,h4]
  split
  ·have:=prod_bd hC (it_bd hi (n - k)) (ch_bd hC hc k)
   rw [Int.mul_comm (items.getD (n - k) 0)] at this;omega
  ·have:0≤100 * C:=by omega
   omega
theorem mdP_bd {items ch:List Int} {C:Int} (hC:0≤C) (hi:∀ x ∈ items, -100≤x∧x≤100) (hc:∀ x ∈ ch, -C≤x∧x≤C) (n k j:Nat) : -(100 * C * (k+1:Nat))≤mdP items ch n k j∧mdP items ch n k j≤100 * C * (k+1:Nat):=by
 have ih:=mdT_bd hC hi hc n k
 have h4:100 * C * ((k+1:Nat):Int)=100 * C * k+100 * C:=by rw [show ((k+1:Nat):Int)=(k:Int)+1 by omega,Int.mul_add,Int.mul_one]
 rw [mdP,h4]
 split
 ·have:=prod_bd hC (it_bd hi (n - k)) (ch_bd hC hc k)
  rw [Int.mul_comm (items.getD (n - k) 0)] at this;omega
 ·have:0≤100 * C:=by omega
  omega
theorem mdL_0 (items ch:List Int):mdL items ch 0 0=List.replicate (ch.length+items.length - 1) 0:=by
 apply List.ext_getElem
 ·simp [mdL]
 ·intro n h1 h2
  rw [mdL_get,mdP_0];simp [mdT]
theorem mdL_next (items ch:List Int) (k:Nat):mdL items ch k items.length=mdL items ch (k+1) 0:=by
 unfold mdL
 refine List.map_congr_left fun n _=>?_
 rw [mdP_next,mdP_0]
def mdA (items ch:List Int):List Int:=mdL items ch ch.length 0
theorem mdA_len (items ch:List Int):(mdA items ch).length=ch.length+items.length - 1:=mdL_len _ _ _ _
theorem mdA_get (items ch:List Int) {n:Nat} (h:n<(mdA items ch).length):(mdA items ch)[n]=mdT items ch n ch.length :=
 (mdL_get items ch ch.length 0 h).trans (mdP_0 _ _ _ _)
set_option maxHeartbeats 4000000 in
theorem model_s {items ch:List Int} (shifts:Int) {C:Int} (h1:1≤items.length) (h6:items.length≤6) (h8:ch.length≤8) (hC:0≤C∧C≤1000000000000) (hi:∀ x ∈ items, -100≤x∧x≤100) (hc:∀ x ∈ ch, -C≤x∧x≤C) :
  SoundO Tryz.prog 122 [tplA items shifts,.sl (ints ch)] 3 1 (ints (mdA items ch)):=by
 refine soundO_W f_pulse_model (Nat.le_of_ble_eq_true rfl) (by decide) ?_
 have hmax:=maxLen_big
 have hb:∀ n k j:Nat,k≤8 → -900000000000000≤mdP items ch n k j∧mdP items ch n k j≤900000000000000:=fun n k j hk=>by
  have h:=mdP_bd hC.1 hi hc n k j
  have h2:100 * C * ((k+1:Nat):Int)≤100000000000000 * 9:=Int.mul_le_mul (by omega) (by omega) (by omega) (by omega)
  omega
 obtain ⟨M,hM⟩:∃ M,M=ch.length+items.length - 1:=⟨_,rfl⟩
 have hMi:(ch.length:Int)+items.length - 1=(M:Int):=by omega
 simp only [c_pulse_model,tplA,hMi,vZ,Int.reduceEq,Int.reduceNe,Int.reduceLT,Int.reduceLE,Nat.reduceEqDiff,Nat.reduceAdd,reduceIte,reduceCtorEq,Nat.reduceLT,Nat.reduceLeDiff,Nat.reduceShiftRight,Nat.reduceMod]
 (repeat (with_reducible refine And.intro ?_ ?_;focus (first | omega | (unfold I64;omega))))
 refine ⟨mkOk_z _,?_⟩
 have hl0:mdL items ch 0 0=List.replicate M 0:=by rw [hM];exact mdL_0 _ _
 rw [ints_z,← hl0]
 refine W_loop (t:=.mk) (α:=PSigma fun i:Nat=>i≤ch.length) (fun ⟨i,_⟩=>(envOf [(2,.ptr 2 0 0),(5,.buf 100 M),(18,.sl (ints ch)),(19,.int .i64 ch.length),(20,.int .i64 i)],stOf [(2,⟨102,2,[.agg [.sl (ints items),.int .i64 shifts]]⟩),(100,⟨3,1,ints (mdL items ch i 0)⟩)])) (fun x=>ch.length - x.1) ⟨0,Nat.zero_le _⟩ ?_ (fun ⟨i,hin⟩=>?_)
 ·refine weakX [(100,some 17)] (of_decide_eq_true rfl) (of_decide_eq_true rfl) ?_
  (simp only [vcW,vZ,Int.reduceEq,Int.reduceNe,Int.reduceLT,Int.reduceLE,Nat.reduceEqDiff,Nat.reduceAdd,reduceIte,reduceCtorEq,Nat.reduceLT,Nat.reduceLeDiff,Nat.reduceShiftRight,Nat.reduceMod])
  (repeat' first | exact trivial | (with_reducible first | exact RnB.fxB (ints_fxB _) | rfl | refine And.intro ?_ ?_) | (with_reducible (first | refine RnB.bb ?_ | refine RnB.nb ?_);simp only [vcW,vZ,Int.reduceEq,Int.reduceNe,Int.reduceLT,Int.reduceLE,Nat.reduceEqDiff,Nat.reduceAdd,reduceIte,reduceCtorEq,Nat.reduceLT,Nat.reduceLeDiff,Nat.reduceShiftRight,Nat.reduceMod]) | (with_reducible first | refine RnB.ii ?_ | refine RnB.app ?_) | (with_reducible refine RnB.fxB ?_;simp only [vcW,vZ,Int.reduceEq,Int.reduceNe,Int.reduceLT,Int.reduceLE,Nat.reduceEqDiff,Nat.reduceAdd,reduceIte,reduceCtorEq,Nat.reduceLT,Nat.reduceLeDiff,Nat.reduceShiftRight,Nat.reduceMod]) | omega)
 ·dsimp only at hin ⊢
  by_cases h':i<ch.length
  ·have hc1:(i:Int)<ch.length:=by omega
   simp only [hc1,ints_get ch i h',vZ,Int.reduceEq,Int.reduceNe,Int.reduceLT,Int.reduceLE,Nat.reduceEqDiff,Nat.reduceAdd,reduceIte,reduceCtorEq,Nat.reduceLT,Nat.reduceLeDiff,Nat.reduceShiftRight,Nat.reduceMod]
   (repeat (with_reducible refine And.intro ?_ ?_;focus (first | omega | (unfold I64;omega))))
   refine W_loop (t:=.mk) (α:=PSigma fun j:Nat=>j≤items.length) (fun ⟨j,_⟩=>(envOf [(2,.ptr 2 0 0),(5,.buf 100 M),(6,.int .i64 i),(7,.int .i64 ch[i]),(18,.sl (ints ch)),(19,.int .i64 ch.length),(20,.int .i64 i),(26,.sl (ints items)),(27,.int .i64 items.length),(28,.int .i64 j)],stOf [(2,⟨102,2,[.agg [.sl (ints items),.int .i64 shifts]]⟩),(100,⟨3,1,ints (mdL items ch i j)⟩)])) (fun x=>items.length - x.1) ⟨0,Nat.zero_le _⟩ ?_ (fun ⟨j,hjn⟩=>?_)
   ·refine weakX [(100,some 100)] (of_decide_eq_true rfl) (of_decide_eq_true rfl) ?_
    (simp only [vcW,vZ,Int.reduceEq,Int.reduceNe,Int.reduceLT,Int.reduceLE,Nat.reduceEqDiff,Nat.reduceAdd,reduceIte,reduceCtorEq,Nat.reduceLT,Nat.reduceLeDiff,Nat.reduceShiftRight,Nat.reduceMod])
    (repeat' first | exact trivial | (with_reducible first | exact RnB.fxB (ints_fxB _) | rfl | refine And.intro ?_ ?_) | (with_reducible (first | refine RnB.bb ?_ | refine RnB.nb ?_);simp only [vcW,vZ,Int.reduceEq,Int.reduceNe,Int.reduceLT,Int.reduceLE,Nat.reduceEqDiff,Nat.reduceAdd,reduceIte,reduceCtorEq,Nat.reduceLT,Nat.reduceLeDiff,Nat.reduceShiftRight,Nat.reduceMod]) | (with_reducible first | refine RnB.ii ?_ | refine RnB.app ?_) | (with_reducible refine RnB.fxB ?_;simp only [vcW,vZ,Int.reduceEq,Int.reduceNe,Int.reduceLT,Int.reduceLE,Nat.reduceEqDiff,Nat.reduceAdd,reduceIte,reduceCtorEq,Nat.reduceLT,Nat.reduceLeDiff,Nat.reduceShiftRight,Nat.reduceMod]) | omega)
   ·dsimp only at hjn ⊢
    by_cases h2:j<items.length
    ·have hc2:(j:Int)<items.length:=by omega
     have hlen:=mdL_len items ch i j
     have hij:i+j<(mdL items ch i j).length:=by omega
     have hij2:(i:Int)+j=((i+j:Nat):Int):=by omega
     have b1:=hb (i+j) i j (by omega)
     have b2:=hb (i+j) i (j+1) (by omega)
     have hgl:=mdL_get items ch i j hij
     have hset:=mdL_set items ch (k:=i) (j:=j) (by omega)
     have hP:=mdP_succ items ch (i+j) i j
     rw [if_pos rfl] at hP
     rw [getD_at h',getD_at h2] at hset hP
     have hp:=prod_bd hC.1 (hi items[j] (List.getElem_mem h2)) (hc ch[i] (List.getElem_mem h'))
     rw [Int.mul_comm items[j]] at hp
     have gw:=ints_get (mdL items ch i j) (i+j) hij
     rw [hgl] at gw
     have hst:(ints (mdL items ch i j)).set (i+j) (.int .i64 (mdP items ch (i+j) i j+ch[i] * items[j]))=ints (mdL items ch i (j+1)):=by rw [ints_st,hset]
     have hlM:(i+j:Nat)<M:=by omega
     have hlM':((i+j:Nat):Int)<M:=by omega
     simp only [hc2,ints_get items j h2,hij2,gw,ints_length,hlen,vZ,Int.reduceEq,Int.reduceNe,Int.reduceLT,Int.reduceLE,Nat.reduceEqDiff,Nat.reduceAdd,reduceIte,reduceCtorEq,Nat.reduceLT,Nat.reduceLeDiff,Nat.reduceShiftRight,Nat.reduceMod]
     (repeat (with_reducible refine And.intro ?_ ?_;focus (first | omega | (unfold I64;omega))))
     refine ⟨⟨j+1,h2⟩,by simp only;omega,?_⟩
     refine weakX [(100,some 100)] (of_decide_eq_true rfl) (of_decide_eq_true rfl) ?_
     (simp only [vcW,vZ,Int.reduceEq,Int.reduceNe,Int.reduceLT,Int.reduceLE,Nat.reduceEqDiff,Nat.reduceAdd,reduceIte,reduceCtorEq,Nat.reduceLT,Nat.reduceLeDiff,Nat.reduceShiftRight,Nat.reduceMod])
     (repeat' first | exact trivial | (with_reducible first | exact RnB.fxB (ints_fxB _) | rfl | refine And.intro ?_ ?_) | (with_reducible (first | refine RnB.bb ?_ | refine RnB.nb ?_);simp only [vcW,vZ,Int.reduceEq,Int.reduceNe,Int.reduceLT,Int.reduceLE,Nat.reduceEqDiff,Nat.reduceAdd,reduceIte,reduceCtorEq,Nat.reduceLT,Nat.reduceLeDiff,Nat.reduceShiftRight,Nat.reduceMod]) | (with_reducible first | refine RnB.ii ?_ | refine RnB.app ?_) | (with_reducible refine RnB.fxB ?_;simp only [vcW,vZ,Int.reduceEq,Int.reduceNe,Int.reduceLT,Int.reduceLE,Nat.reduceEqDiff,Nat.reduceAdd,reduceIte,reduceCtorEq,Nat.reduceLT,Nat.reduceLeDiff,Nat.reduceShiftRight,Nat.reduceMod]) | omega)
     all_goals exact RnB.eq hst (by rw [hst];exact ints_fxB _)
    ·have hjl:j=items.length:=by omega
     subst hjl
     have hc2:¬ (items.length:Int)<items.length:=by omega
     have hn:=mdL_next items ch i
     simp only [hc2,vZ,Int.reduceEq,Int.reduceNe,Int.reduceLT,Int.reduceLE,Nat.reduceEqDiff,Nat.reduceAdd,reduceIte,reduceCtorEq,Nat.reduceLT,Nat.reduceLeDiff,Nat.reduceShiftRight,Nat.reduceMod]
     (repeat (with_reducible refine And.intro ?_ ?_;focus (first | omega | (unfold I64;omega))))
     refine ⟨⟨i+1,h'⟩,by simp only;omega,?_⟩
     refine weakX [(100,some 100)] (of_decide_eq_true rfl) (of_decide_eq_true rfl) ?_
     (simp only [vcW,vZ,Int.reduceEq,Int.reduceNe,Int.reduceLT,Int.reduceLE,Nat.reduceEqDiff,Nat.reduceAdd,reduceIte,reduceCtorEq,Nat.reduceLT,Nat.reduceLeDiff,Nat.reduceShiftRight,Nat.reduceMod])
     (repeat' first | exact trivial | (with_reducible first | exact RnB.fxB (ints_fxB _) | rfl | refine And.intro ?_ ?_) | (with_reducible (first | refine RnB.bb ?_ | refine RnB.nb ?_);simp only [vcW,vZ,Int.reduceEq,Int.reduceNe,Int.reduceLT,Int.reduceLE,Nat.reduceEqDiff,Nat.reduceAdd,reduceIte,reduceCtorEq,Nat.reduceLT,Nat.reduceLeDiff,Nat.reduceShiftRight,Nat.reduceMod]) | (with_reducible first | refine RnB.ii ?_ | refine RnB.app ?_) | (with_reducible refine RnB.fxB ?_;simp only [vcW,vZ,Int.reduceEq,Int.reduceNe,Int.reduceLT,Int.reduceLE,Nat.reduceEqDiff,Nat.reduceAdd,reduceIte,reduceCtorEq,Nat.reduceLT,Nat.reduceLeDiff,Nat.reduceShiftRight,Nat.reduceMod]) | omega)
     all_goals exact RnB.eq (congrArg ints hn) (by rw [hn];exact ints_fxB _)
  ·have hil:i=ch.length:=by omega
   subst hil
   have hc1:¬ (ch.length:Int)<ch.length:=by omega
   have hlM:M=(ints (mdA items ch)).length:=by rw [ints_length,mdA_len];exact hM
   simp only [hc1,oEnd_r,vZ,Int.reduceEq,Int.reduceNe,Int.reduceLT,Int.reduceLE,Nat.reduceEqDiff,Nat.reduceAdd,reduceIte,reduceCtorEq,Nat.reduceLT,Nat.reduceLeDiff,Nat.reduceShiftRight,Nat.reduceMod]
   exact ownV_i 100 M rfl hlM rfl (Go.Av.ints_imm _)
end Go.Proofs.YtpaklfjlbocfcaaGreatDoor

/- The equations of ticks,in plain Lean. By an AI agent;nothing here is trusted. -/
namespace Go.Lin

def ticks (S:Nat) (p:Nat→Bool):List Nat:=(List.range S).filter p
theorem ticks_succ (S:Nat) (p:Nat→Bool):ticks (S+1) p=ticks S p ++ if p S then [S] else []:=by
 unfold ticks;rw [List.range_succ,List.filter_append];congr 1
 cases h:p S <;> simp [h]
theorem ticks_lt {S:Nat} {p:Nat→Bool} {k:Nat} (h:k ∈ ticks S p):k<S∧p k=true:=by
 unfold ticks at h;rw [List.mem_filter,List.mem_range] at h;exact h
theorem getD_app_l {l m:List Nat} {i d:Nat} (h:i<l.length):(l ++ m).getD i d=l.getD i d:=by simp [List.getD,List.getElem?_append_left h]
theorem getD_last {l:List Nat} {x d:Nat}:(l ++ [x]).getD l.length d=x:=by simp [List.getD]
theorem sm_ticks {p:Nat→Bool} {f:Nat→Rat}:∀ S,(∀ k,k<S→p k=false→f k=0)→sm S f=sm (ticks S p).length fun i=>f ((ticks S p).getD i 0)
 | 0,_=>rfl
 | S+1,h=>by
  have ih:=sm_ticks (p:=p) (f:=f) S fun k hk=>h k (by omega)
  rw [sm_succ,ticks_succ]
  cases hp:p S with
  | true =>
   simp only [if_true,List.length_append,List.length_singleton]
   rw [sm_succ,getD_last,ih]
   congr 1
   exact sm_congr fun i hi=>by rw [getD_app_l hi]
  | false =>
   simp only [Bool.false_eq_true,if_false,List.append_nil]
   rw [h S (by omega) hp,ih];grind
theorem ticks_getD {S:Nat} {p:Nat→Bool} {i:Nat} (h:i<(ticks S p).length):(ticks S p).getD i 0 ∈ ticks S p:=by
 rw [List.getD_eq_getElem?_getD,List.getElem?_eq_getElem h];exact List.getElem_mem h
theorem ticks_asc {p:Nat→Bool}:∀ {S r c:Nat},r<c→c<(ticks S p).length→(ticks S p).getD r 0<(ticks S p).getD c 0
 | 0,r,c,_,hc=>by simp [ticks] at hc
 | S+1,r,c,h,hc=>by
  rw [ticks_succ] at hc ⊢
  cases hp:p S with
  | true =>
   simp only [hp,if_true,List.length_append,List.length_singleton] at hc ⊢
   by_cases e:c=(ticks S p).length
   ·subst e
    rw [getD_last,getD_app_l h]
    exact (ticks_lt (ticks_getD h)).1
   ·rw [getD_app_l (by omega),getD_app_l (by omega)]
    exact ticks_asc h (by omega)
  | false =>
   simp only [hp,Bool.false_eq_true,if_false,List.append_nil] at hc ⊢
   exact ticks_asc h hc
def tix (p:Nat→Bool) (k:Nat):Nat:=(ticks k p).length
theorem ticks_at {p:Nat→Bool}:∀ {S k:Nat},k<S→p k=true→tix p k<(ticks S p).length∧(ticks S p).getD (tix p k) 0=k
 | 0,k,h,_=>by omega
 | S+1,k,h,hp=>by
  rw [ticks_succ]
  by_cases e:k=S
  ·subst e
   simp only [hp,if_true,List.length_append,List.length_singleton]
   exact ⟨by unfold tix;omega,getD_last⟩
  ·obtain ⟨h1,h2⟩:=ticks_at (S:=S) (k:=k) (by omega) hp
   exact ⟨by rw [List.length_append];omega,by rw [getD_app_l h1];exact h2⟩
theorem tix_ticks {S:Nat} {p:Nat→Bool} {i:Nat} (h:i<(ticks S p).length):tix p ((ticks S p).getD i 0)=i:=by
 have hm:=ticks_lt (ticks_getD h)
 obtain ⟨h1,h2⟩:=ticks_at hm.1 hm.2
 rcases Nat.lt_trichotomy (tix p ((ticks S p).getD i 0)) i with g | g | g
 ·have:=ticks_asc g h;omega
 ·exact g
 ·have:=ticks_asc g h1;omega

section
variable (items:List Int) (S:Nat) (s:Nat→Rat)
def rhs (k:Nat):Rat:=sm (S+items.length - 1) fun n=>s n * ((itm items n k:Int):Rat)
def eqA (T:List Nat) (r c:Nat):Rat:=((gr items (S+items.length - 1) (T.getD r 0) (T.getD c 0):Int):Rat)
variable {items S s}

theorem grad_eq (x:Nat→Rat) (k:Nat):grad items S (S+items.length - 1) s x k=rhs items S s k - sm S fun m=>((gr items (S+items.length - 1) k m:Int):Rat) * x m:=by
 unfold grad rhs
 have e:∀ n,(s n - md items S x n) * ((itm items n k:Int):Rat)=s n * ((itm items n k:Int):Rat) - sm S fun m=>x m * (((itm items n k:Int):Rat) * ((itm items n m:Int):Rat)):=fun n=>by
  have:(sm S fun m=>x m * (((itm items n k:Int):Rat) * ((itm items n m:Int):Rat)))=sm S fun m=>((itm items n k:Int):Rat) * (x m * ((itm items n m:Int):Rat)):=sm_congr fun m _=>by grind
  rw [this,sm_mul];unfold md;grind
 simp only [e]
 rw [sm_sub,sm_swap]
 congr 1
 refine sm_congr fun m _=>?_
 rw [sm_mul,gr,smI_cast,Rat.mul_comm]
 congr 1
 exact sm_congr fun n _=>(Rat.intCast_mul _ _).symm
def spread (p:Nat→Bool) (y:Nat→Rat) (k:Nat):Rat:=if p k then y (tix p k) else 0
theorem spread_sum (p:Nat→Bool) (y g:Nat→Rat):sm S (fun m=>g m * spread p y m)=sm (ticks S p).length fun c=>g ((ticks S p).getD c 0) * y c:=by
 rw [sm_ticks (p:=p) S (fun k _ hp=>by unfold spread;rw [hp];simp only [Bool.false_eq_true,if_false];grind)]
 refine sm_congr fun c hc=>?_
 unfold spread
 rw [(ticks_lt (ticks_getD hc)).2,if_pos rfl,tix_ticks hc]
theorem spread_grad {p:Nat→Bool} {y:Nat→Rat} (hy:∀ r,r<(ticks S p).length→sm (ticks S p).length (fun c=>eqA items S (ticks S p) r c * y c)=rhs items S s ((ticks S p).getD r 0))
  {k:Nat} (hk:k<S) (hp:p k=true):grad items S (S+items.length - 1) s (spread p y) k=0:=by
 obtain ⟨h1,h2⟩:=ticks_at hk hp
 rw [grad_eq,spread_sum]
 have:=hy _ h1
 unfold eqA at this
 rw [h2] at this
 rw [this];grind
theorem eqA_posD (hne:∃ x ∈ items,x ≠ 0) (p:Nat→Bool):posD (ticks S p).length (eqA items S (ticks S p)) :=
 gram_posD hne (fun r hr=>(ticks_lt (ticks_getD hr)).1) (fun r c h hc=>ticks_asc h hc)
theorem spread_best {p:Nat→Bool} {y:Nat→Rat} (hy:∀ r,r<(ticks S p).length→sm (ticks S p).length (fun c=>eqA items S (ticks S p) r c * y c)=rhs items S s ((ticks S p).getD r 0)) :
  best items S (S+items.length - 1) s (spread p y) ↔ ∀ k,k<S→0≤spread p y k∧grad items S (S+items.length - 1) s (spread p y) k≤0:=by
 constructor
 ·exact fun h k hk=>⟨(h k hk).1,(h k hk).2.1⟩
 ·intro h k hk
  refine ⟨(h k hk).1,(h k hk).2,?_⟩
  cases hp:p k with
  | true=>rw [spread_grad hy hk hp];grind
  | false=>unfold spread;rw [hp];simp only [Bool.false_eq_true,if_false];grind
theorem best_found {x:Nat→Rat} (hx:best items S (S+items.length - 1) s x) (hne:∃ z ∈ items,z ≠ 0) {y:Nat→Rat}
  (hy:∀ r,r<(ticks S fun k=>decide (x k ≠ 0)).length→sm (ticks S fun k=>decide (x k ≠ 0)).length (fun c=>eqA items S (ticks S fun k=>decide (x k ≠ 0)) r c * y c)=rhs items S s ((ticks S fun k=>decide (x k ≠ 0)).getD r 0)) :
  ∀ k,k<S→spread (fun k=>decide (x k ≠ 0)) y k=x k:=by
 have hT:=(eqA_posD (S:=S) hne fun k=>decide (x k ≠ 0)).triv
 have hx2:∀ r,r<(ticks S fun k=>decide (x k ≠ 0)).length→sm (ticks S fun k=>decide (x k ≠ 0)).length (fun c=>eqA items S (ticks S fun k=>decide (x k ≠ 0)) r c * x ((ticks S fun k=>decide (x k ≠ 0)).getD c 0))=rhs items S s ((ticks S fun k=>decide (x k ≠ 0)).getD r 0):=by
  intro r hr
  have hm:=ticks_lt (ticks_getD hr)
  have h0:=(hx _ hm.1).2.2
  have hne':x ((ticks S fun k=>decide (x k ≠ 0)).getD r 0) ≠ 0:=by simpa using hm.2
  have h1:grad items S (S+items.length - 1) s x ((ticks S fun k=>decide (x k ≠ 0)).getD r 0)=0:=by
   rcases Rat.mul_eq_zero.1 h0 with h | h
   ·exact absurd h hne'
   ·exact h
  rw [grad_eq] at h1
  rw [sm_ticks (p:=fun k=>decide (x k ≠ 0)) S (fun k _ hp=>by
   have:x k=0:=by simpa using hp
   rw [this];grind)] at h1
  unfold eqA
  grind
 intro k hk
 unfold spread
 split
 ·rename_i hp
  obtain ⟨h1,h2⟩:=ticks_at (p:=fun k=>decide (x k ≠ 0)) hk hp
  have:=hT (fun c=>y c - x ((ticks S fun k=>decide (x k ≠ 0)).getD c 0)) (fun r hr=>by
   have e:sm (ticks S fun k=>decide (x k ≠ 0)).length (fun c=>eqA items S (ticks S fun k=>decide (x k ≠ 0)) r c * (y c - x ((ticks S fun k=>decide (x k ≠ 0)).getD c 0)))=sm (ticks S fun k=>decide (x k ≠ 0)).length (fun c=>eqA items S (ticks S fun k=>decide (x k ≠ 0)) r c * y c) - sm (ticks S fun k=>decide (x k ≠ 0)).length (fun c=>eqA items S (ticks S fun k=>decide (x k ≠ 0)) r c * x ((ticks S fun k=>decide (x k ≠ 0)).getD c 0)):=by
    rw [← sm_sub];exact sm_congr fun c _=>by grind
   rw [e,hy r hr,hx2 r hr];grind) _ h1
  simp only [h2] at this
  grind
 ·rename_i hp
  have:x k=0:=by simpa using hp
  exact this.symm
end
end Go.Lin

/- Contracts: differences,both errors,the fit that is accepted. By an AI agent;nothing here is trusted. -/
namespace Go.Proofs.YtpaklfjlbocfcaaGreatDoor
open Go.Av

theorem CallsF.mono {P:Program} {f:FuncId} {args:Array Value} {w:World} {R R':Value→World→Prop} (h:CallsF P f args w R) (hr:∀ v w',R v w'→R' v w'):CallsF P f args w R':=by
 rcases h with ⟨v,w',h1,h2⟩ | ⟨h1,h2⟩
 ·exact .inl ⟨v,w',h1,hr v w' h2⟩
 ·exact .inr ⟨h1,h2.mono fun e w' ⟨v,he,hv⟩=>⟨v,he,hr v w' hv⟩⟩
theorem SoundO.sl {P:Program} {f:FuncId} {args:List AV} {ty sz:Nat} {es:List AV} (h:SoundO P f args ty sz es) (hi:∀ x ∈ es,imm x=true):Sound P f args (.sl es):=by
 intro w ok cargs hok hG hl ha
 refine CallsF.mono (h.2 w ok cargs hok hG hl ha) fun cv w' ⟨hb,ho⟩=>⟨hb,?_⟩
 rcases ho with ⟨rfl,a,rfl⟩ | ⟨b,cap,cur,rfl,h1,h2,h3,h4,h5,h6⟩
 ·exact .sl0 _ _
 ·refine .sl es b 0 sz cap cur ty (0,0) (fun i o=>cur.getD (i * sz+o) undef) (.inr ⟨h1,(Array.getElem?_eq_some_iff.1 h2).1⟩) h3 h2 (fun i x hx=>⟨(h6 i x hx).1,(h6 i x hx).2.1,hi x (List.mem_of_getElem? hx)⟩) (fun i x o c hx hc=>?_) (fun i x o c hx hc=>?_)
  ·obtain ⟨cv,p,q⟩:=(h6 i x hx).2.2 o c hc
   rw [Nat.zero_add,p]
   simp [Array.getD_eq_getD_getElem?,p]
  ·obtain ⟨cv,p,q⟩:=(h6 i x hx).2.2 o c hc
   have:cur.getD (i * sz+o) undef=cv:=by simp [Array.getD_eq_getD_getElem?,p]
   rw [this]
   exact q.mono (fun _ h=>h.1) (fun _ _=>rfl) (Goes.empty _ _ _ _ _)
theorem ints_immM (l:List Int):∀ x ∈ ints l,imm x=true:=fun x hx=>by
 obtain ⟨n,_,rfl⟩:=List.mem_map.1 hx;rfl

theorem ownS_ints (l:List Int) (ks:List Nat) (s:Store):ownS (ints l) ks s=s:=by
 have:scalE (ints l)=true:=List.all_eq_true.2 fun x hx=>by
  obtain ⟨n,_,rfl⟩:=List.mem_map.1 hx;rfl
 unfold ownS;rw [if_pos this]
def dfL (items l ch:List Int) (den:Int):List Int:=(List.range (mdA items ch).length).map fun n=>l.getD n 0 * den - mdT items ch n ch.length
def dfK (items l ch:List Int) (den:Int) (i:Nat):List Int:=(List.range (mdA items ch).length).map fun n=>if n<i then l.getD n 0 * den - mdT items ch n ch.length else mdT items ch n ch.length
theorem dfL_len (items l ch:List Int) (den:Int):(dfL items l ch den).length=(mdA items ch).length:=by simp [dfL]
theorem dfK_len (items l ch:List Int) (den:Int) (i:Nat):(dfK items l ch den i).length=(mdA items ch).length:=by simp [dfK]
theorem dfK_0 (items l ch:List Int) (den:Int):dfK items l ch den 0=mdA items ch:=by
 apply List.ext_getElem
 ·exact dfK_len _ _ _ _ _
 ·intro n h1 h2;rw [mdA_get];simp [dfK]
theorem dfK_set (items l ch:List Int) (den:Int) {i:Nat} (h:i<(mdA items ch).length):(dfK items l ch den i).set i (l.getD i 0 * den - mdT items ch i ch.length)=dfK items l ch den (i+1):=by
 apply List.ext_getElem
 ·rw [List.length_set,dfK_len,dfK_len]
 ·intro n h1 h2
  rw [List.getElem_set]
  simp only [dfK,List.getElem_map,List.getElem_range]
  by_cases e:i=n
  ·subst e;rw [if_pos rfl,if_pos (by omega)]
  ·rw [if_neg e]
   by_cases e2:n<i
   ·rw [if_pos e2,if_pos (by omega)]
   ·rw [if_neg e2,if_neg (by omega)]
theorem dfK_all (items l ch:List Int) (den:Int) {i:Nat} (h:(mdA items ch).length≤i):dfK items l ch den i=dfL items l ch den:=by
 unfold dfK dfL
 refine List.map_congr_left fun n hn=>?_
 rw [List.mem_range] at hn
 rw [if_pos (by omega)]
theorem dfK_at (items l ch:List Int) (den:Int) {i:Nat} (h:i<(dfK items l ch den i).length):(dfK items l ch den i)[i]=mdT items ch i ch.length:=by simp [dfK]

structure FitIn (items l:List Int) (shifts:Int) (ch:List Int) (den:Int):Prop where
 i1:1≤items.length
 i6:items.length≤6
 ib:∀ x ∈ items, -100≤x∧x≤100
 ne:∃ x ∈ items,x ≠ 0
 s5:1≤shifts∧shifts≤5
 lb:∀ x ∈ l, -10000≤x∧x≤10000
 ll:(l.length:Int)=shifts+items.length - 1
 cl:(ch.length:Int)=shifts
 cb:∀ x ∈ ch,0≤x∧x≤1000000000000
 db:1≤den∧den≤1000000000000

theorem FitIn.cb2 {items l:List Int} {shifts:Int} {ch:List Int} {den:Int} (h:FitIn items l shifts ch den):∀ x ∈ ch, -1000000000000≤x∧x≤1000000000000:=fun x hx=>⟨by have:=(h.cb x hx).1;omega,(h.cb x hx).2⟩
theorem FitIn.mlen {items l:List Int} {shifts:Int} {ch:List Int} {den:Int} (h:FitIn items l shifts ch den):(mdA items ch).length=l.length:=by
 have:=h.ll;have:=h.cl;have:=h.i1;rw [mdA_len];omega
theorem FitIn.l10 {items l:List Int} {shifts:Int} {ch:List Int} {den:Int} (h:FitIn items l shifts ch den):l.length≤10:=by
 have:=h.ll;have:=h.i6;have:=h.s5;omega
theorem FitIn.mb {items l:List Int} {shifts:Int} {ch:List Int} {den:Int} (h:FitIn items l shifts ch den) (n:Nat) : -500000000000000≤mdT items ch n ch.length∧mdT items ch n ch.length≤500000000000000:=by
 have h1:=mdT_bd (C:=1000000000000) (by omega) h.ib h.cb2 n ch.length
 have h2:=h.cl;have h3:=h.s5
 omega
theorem FitIn.lb2 {items l:List Int} {shifts:Int} {ch:List Int} {den:Int} (h:FitIn items l shifts ch den) (n:Nat) : -10000≤l.getD n 0∧l.getD n 0≤10000:=by
 by_cases hn:n<l.length
 ·rw [getD_at hn];exact h.lb _ (List.getElem_mem hn)
 ·simp [List.getD,List.getElem?_eq_none (Nat.le_of_not_lt hn)]
theorem FitIn.pb {items l:List Int} {shifts:Int} {ch:List Int} {den:Int} (h:FitIn items l shifts ch den) (n:Nat) : -10000000000000000≤l.getD n 0 * den∧l.getD n 0 * den≤10000000000000000:=by
 have h1:=h.lb2 n
 have h2:=h.db
 have:=mul_abs (s:=l.getD n 0) (k:=den) (M:=10000) (K:=1000000000000) ⟨by omega,h2.2⟩ (by omega) h1
 omega
theorem FitIn.dfb {items l:List Int} {shifts:Int} {ch:List Int} {den:Int} (h:FitIn items l shifts ch den):∀ x ∈ dfL items l ch den, -10500000000000000≤x∧x≤10500000000000000:=by
 intro x hx
 unfold dfL at hx
 obtain ⟨n,_,rfl⟩:=List.mem_map.1 hx
 have h1:=h.pb n
 have h2:=h.mb n
 omega

theorem differences_o {items l:List Int} {shifts:Int} {ch:List Int} {den:Int} (h:FitIn items l shifts ch den) :
  SoundO Tryz.prog 132 [tplA items shifts,.sl (ints l),fitA den ch] 3 1 (ints (dfL items l ch den)):=by
 refine soundO_W f_pulse_differences (Nat.le_of_ble_eq_true rfl) (by decide) ?_
 have hm:=model_s shifts h.i1 h.i6 (by have:=h.cl;have:=h.s5;omega) (C:=1000000000000) (by omega) h.ib h.cb2
 have hml:=h.mlen
 have hl10:=h.l10
 unfold tplA at hm
 have hmax:=maxLen_big
 simp only [c_pulse_differences,tplA,fitA,vZ,Int.reduceEq,Int.reduceNe,Int.reduceLT,Int.reduceLE,Nat.reduceEqDiff,Nat.reduceAdd,reduceIte,reduceCtorEq,Nat.reduceLT,Nat.reduceLeDiff,Nat.reduceShiftRight,Nat.reduceMod]
 refine callS_own hm rfl ?_
 simp only [ownS_ints,ints_length,hml,vZ,Int.reduceEq,Int.reduceNe,Int.reduceLT,Int.reduceLE,Nat.reduceEqDiff,Nat.reduceAdd,reduceIte,reduceCtorEq,Nat.reduceLT,Nat.reduceLeDiff,Nat.reduceShiftRight,Nat.reduceMod]
 rw [← dfK_0 items l ch den]
 refine W_loop (t:=.mk) (α:=PSigma fun i:Nat=>i≤l.length) (fun ⟨i,_⟩=>(envOf [(5,.ptr 5 0 0),(7,.buf 100 l.length),(14,.sl (ints l)),(15,.int .i64 l.length),(16,.int .i64 i)],stOf [(5,⟨47,2,[.agg [.int .i64 den,.sl (ints ch)]]⟩),(100,⟨3,1,ints (dfK items l ch den i)⟩)])) (fun x=>l.length - x.1) ⟨0,Nat.zero_le _⟩ ?_ (fun ⟨i,hin⟩=>?_)
 ·refine weakX [(100,some 13)] (of_decide_eq_true rfl) (of_decide_eq_true rfl) ?_
  (simp only [vcW,vZ,Int.reduceEq,Int.reduceNe,Int.reduceLT,Int.reduceLE,Nat.reduceEqDiff,Nat.reduceAdd,reduceIte,reduceCtorEq,Nat.reduceLT,Nat.reduceLeDiff,Nat.reduceShiftRight,Nat.reduceMod])
  (repeat' first | exact trivial | (with_reducible first | exact RnB.fxB (ints_fxB _) | rfl | refine And.intro ?_ ?_) | (with_reducible (first | refine RnB.bb ?_ | refine RnB.nb ?_);simp only [vcW,vZ,Int.reduceEq,Int.reduceNe,Int.reduceLT,Int.reduceLE,Nat.reduceEqDiff,Nat.reduceAdd,reduceIte,reduceCtorEq,Nat.reduceLT,Nat.reduceLeDiff,Nat.reduceShiftRight,Nat.reduceMod]) | (with_reducible first | refine RnB.ii ?_ | refine RnB.app ?_) | (with_reducible refine RnB.fxB ?_;simp only [vcW,vZ,Int.reduceEq,Int.reduceNe,Int.reduceLT,Int.reduceLE,Nat.reduceEqDiff,Nat.reduceAdd,reduceIte,reduceCtorEq,Nat.reduceLT,Nat.reduceLeDiff,Nat.reduceShiftRight,Nat.reduceMod]) | omega)
 ·dsimp only at hin ⊢
  have hlen:=dfK_len items l ch den i
  by_cases h':i<l.length
  ·have hc1:(i:Int)<l.length:=by omega
   have hi2:i<(dfK items l ch den i).length:=by omega
   have gw:=ints_get (dfK items l ch den i) i hi2
   rw [dfK_at] at gw
   have b1:=h.pb i
   have b2:=h.mb i
   have hst:(ints (dfK items l ch den i)).set i (.int .i64 (l[i] * den - mdT items ch i ch.length))=ints (dfK items l ch den (i+1)):=by
    rw [ints_st,← dfK_set items l ch den (by omega),getD_at h']
   rw [getD_at h'] at b1
   simp only [hc1,ints_get l i h',gw,ints_length,hlen,hml,vZ,Int.reduceEq,Int.reduceNe,Int.reduceLT,Int.reduceLE,Nat.reduceEqDiff,Nat.reduceAdd,reduceIte,reduceCtorEq,Nat.reduceLT,Nat.reduceLeDiff,Nat.reduceShiftRight,Nat.reduceMod]
   (repeat (with_reducible refine And.intro ?_ ?_;focus (first | omega | (unfold I64;omega))))
   refine ⟨⟨i+1,h'⟩,by simp only;omega,?_⟩
   refine weakX [(100,some 100)] (of_decide_eq_true rfl) (of_decide_eq_true rfl) ?_
   (simp only [vcW,vZ,Int.reduceEq,Int.reduceNe,Int.reduceLT,Int.reduceLE,Nat.reduceEqDiff,Nat.reduceAdd,reduceIte,reduceCtorEq,Nat.reduceLT,Nat.reduceLeDiff,Nat.reduceShiftRight,Nat.reduceMod])
   (repeat' first | exact trivial | (with_reducible first | exact RnB.fxB (ints_fxB _) | rfl | refine And.intro ?_ ?_) | (with_reducible (first | refine RnB.bb ?_ | refine RnB.nb ?_);simp only [vcW,vZ,Int.reduceEq,Int.reduceNe,Int.reduceLT,Int.reduceLE,Nat.reduceEqDiff,Nat.reduceAdd,reduceIte,reduceCtorEq,Nat.reduceLT,Nat.reduceLeDiff,Nat.reduceShiftRight,Nat.reduceMod]) | (with_reducible first | refine RnB.ii ?_ | refine RnB.app ?_) | (with_reducible refine RnB.fxB ?_;simp only [vcW,vZ,Int.reduceEq,Int.reduceNe,Int.reduceLT,Int.reduceLE,Nat.reduceEqDiff,Nat.reduceAdd,reduceIte,reduceCtorEq,Nat.reduceLT,Nat.reduceLeDiff,Nat.reduceShiftRight,Nat.reduceMod]) | omega)
   all_goals exact RnB.eq hst (by rw [hst];exact ints_fxB _)
  ·have hil:i=l.length:=by omega
   subst hil
   have hc1:¬ (l.length:Int)<l.length:=by omega
   have hall:=dfK_all items l ch den (i:=l.length) (by omega)
   have hE:l.length=(ints (dfL items l ch den)).length:=by rw [ints_length,dfL_len,hml]
   simp only [hc1,oEnd_n,oEnd_r,hall,vZ,Int.reduceEq,Int.reduceNe,Int.reduceLT,Int.reduceLE,Nat.reduceEqDiff,Nat.reduceAdd,reduceIte,reduceCtorEq,Nat.reduceLT,Nat.reduceLeDiff,Nat.reduceShiftRight,Nat.reduceMod]
   exact ownV_i 100 l.length rfl hE rfl (Go.Av.ints_imm _)
theorem differences_s {items l:List Int} {shifts:Int} {ch:List Int} {den:Int} (h:FitIn items l shifts ch den) :
  Sound Tryz.prog 132 [tplA items shifts,.sl (ints l),fitA den ch] (.sl (ints (dfL items l ch den))):=SoundO.sl (differences_o h) (ints_immM _)

def beE (items:List Int) (shifts:Int) (l:List Int) (den:Int) (ch:List Int):Int:=if fdE items shifts l ≠ 0 then fdE items shifts l else if fE den ch ≠ 0 then fE den ch else if (ch.length:Int)=shifts then 0 else 10
theorem beE_ok {items:List Int} {shifts:Int} {l:List Int} {den:Int} {ch:List Int} (h:beE items shifts l den ch=0):FitIn items l shifts ch den:=by
 unfold beE at h
 split at h
 ·rename_i h1;exact absurd h h1
 ·rename_i h1
  split at h
  ·rename_i h2;exact absurd h h2
  ·rename_i h2
   split at h
   ·rename_i h3
    have h1':fdE items shifts l=0:=by omega
    have h2':fE den ch=0:=by omega
    unfold fdE at h1'
    split at h1'
    ·rename_i g;exact absurd h1' g
    ·rename_i g
     split at h1'
     ·rename_i g2;exact absurd h1' g2
     ·rename_i g2
      split at h1'
      ·rename_i g3
       obtain ⟨⟨a1,a2⟩,a3,a4,a5⟩:=teE_ok (items:=items) (shifts:=shifts) (by omega)
       obtain ⟨b1,b2,b3⟩:=fE_ok h2'
       have hs:smE l=0:=by omega
       exact ⟨a1,a2,a3,a4,a5,(smE_ok hs).2.2,g3,h3,b3,b1⟩
      ·cases h1'
   ·cases h
theorem bothErr_s (items:List Int) (shifts:Int) (l:List Int) (den:Int) (ch:List Int) (h1:items.length<4000000000000000000) (h2:l.length<4000000000000000000) (h3:ch.length<4000000000000000000) :
  Sound Tryz.prog 131 [tplA items shifts,.sl (ints l),fitA den ch] (.int .i64 (beE items shifts l den ch)):=by
 refine sound_W f_pulse_bothErr (Nat.le_of_ble_eq_true rfl) ?_
 have hF:=fittedErr_s items shifts l h1 h2
 have hG:=fitErr_s den ch h3
 unfold tplA at hF
 unfold fitA at hG
 simp only [c_pulse_bothErr,tplA,fitA,vZ,Int.reduceEq,Int.reduceNe,Int.reduceLT,Int.reduceLE,Nat.reduceEqDiff,Nat.reduceAdd,reduceIte,reduceCtorEq,Nat.reduceLT,Nat.reduceLeDiff,Nat.reduceShiftRight,Nat.reduceMod]
 refine callS_of hF ?_
 simp only [vZ,Int.reduceEq,Int.reduceNe,Int.reduceLT,Int.reduceLE,Nat.reduceEqDiff,Nat.reduceAdd,reduceIte,reduceCtorEq,Nat.reduceLT,Nat.reduceLeDiff,Nat.reduceShiftRight,Nat.reduceMod]
 refine callS_of hG ?_
 simp only [vZ,Int.reduceEq,Int.reduceNe,Int.reduceLT,Int.reduceLE,Nat.reduceEqDiff,Nat.reduceAdd,reduceIte,reduceCtorEq,Nat.reduceLT,Nat.reduceLeDiff,Nat.reduceShiftRight,Nat.reduceMod]
 refine callS_of (unless_s _ _) ?_
 simp only [vZ,Int.reduceEq,Int.reduceNe,Int.reduceLT,Int.reduceLE,Nat.reduceEqDiff,Nat.reduceAdd,reduceIte,reduceCtorEq,Nat.reduceLT,Nat.reduceLeDiff,Nat.reduceShiftRight,Nat.reduceMod]
 refine callS_of (first3_s _ _ _) ?_
 simp only [vZ,Int.reduceEq,Int.reduceNe,Int.reduceLT,Int.reduceLE,Nat.reduceEqDiff,Nat.reduceAdd,reduceIte,reduceCtorEq,Nat.reduceLT,Nat.reduceLeDiff,Nat.reduceShiftRight,Nat.reduceMod]
 refine ⟨by intro _ k hk;simp [refsL,refs,upd] at hk;subst hk;simp [upd],?_⟩
 unfold beE
 by_cases e:(ch.length:Int)=shifts <;> simp [e]
end Go.Proofs.YtpaklfjlbocfcaaGreatDoor

/- Contracts: which fit is accepted. By an AI agent;nothing here is trusted. -/
namespace Go.Proofs.YtpaklfjlbocfcaaGreatDoor
open Go.Av

def gcF (den:Int) (ch:List Int):Nat:=Lin.gcds den.natAbs (ch.map Int.natAbs)
end Go.Proofs.YtpaklfjlbocfcaaGreatDoor

/- The contract of bits.Div64,the first digit and the whole. By an AI agent;nothing here is trusted. -/
namespace Go.Proofs.YtpaklfjlbocfcaaGreatDoor
open Go.Av

theorem div_mid {e:Env} {s:Store} {Y k yn1 yn0 U un1 un0 q1 u21:Nat} {v:AV} (h2:e 2=.int .u64 Y) (h8:e 8=.int .u64 k) (h9:e 9=.int .u64 yn1) (h10:e 10=.int .u64 yn0) (h11:e 11=.int .u64 U) (h13:e 13=.int .u64 un1) (h14:e 14=.int .u64 un0) (h15:e 15=.int .u64 q1)
  (hs:s=stOf []) (hY:Y=yn1 * 4294967296+yn0) (hY64:Y<18446744073709551616) (hn0:yn0<4294967296) (hn1:2147483648≤yn1) (h0:un0<4294967296) (hk:k≤64) (hu:U * 4294967296+un1=q1 * Y+u21) (hu21:u21<Y)
  (htail:∀ (e:Env) (s:Store) (q0 R2:Nat),e 2=.int .u64 Y→e 8=.int .u64 k→e 14=.int .u64 un0→e 15=.int .u64 q1→e 17=.int .u64 u21→e 18=.int .u64 q0→u21 * 4294967296+un0=q0 * Y+R2→R2<Y→q0<4294967296 →
   WL Tryz.prog 135 cl_math_bits_Div64_19 (endQ [(6,none),(7,none)] v) e s .mk) :
  WL Tryz.prog 135 cl_math_bits_Div64_15 (endQ [(6,none),(7,none)] v) e s .mk:=by
 subst hs
 have w3:IntKind.u64.wrap (IntKind.u64.wrap (IntKind.u64.wrap ((U:Int) * 4294967296)+(un1:Int)) - IntKind.u64.wrap ((q1:Int) * (Y:Int)))=(u21:Int):=by
  have:=wrap3 (U * 4294967296) un1 (q1 * Y) u21 hu (by omega)
  rw [Int.natCast_mul,Int.natCast_mul] at this
  exact this
 have hq:u21 / yn1≤u21:=Nat.div_le_self _ _
 have w4:IntKind.u64.wrap ((u21:Int).tdiv yn1)=((u21 / yn1:Nat):Int):=tdiv_u _ _ (Nat.lt_of_le_of_lt hq (by omega))
 have hdm:=Nat.div_add_mod u21 yn1
 have hml:=Nat.mod_lt u21 (show yn1 > 0 by omega)
 have hlo:(u21 * 4294967296+un0) / (yn1 * 4294967296+yn0)≤u21 / yn1:=Lin.guess_top (by omega) (by omega) h0
 rw [Nat.mul_comm] at hdm
 have hy32:yn1<4294967296:=by omega
 generalize u21 / yn1=q at *
 generalize u21 % yn1=r at *
 have w5:IntKind.u64.wrap ((q:Int) * yn1)=((q * yn1:Nat):Int):=mul_u _ _ (by omega)
 have w6:IntKind.u64.wrap ((u21:Int) - ((q * yn1:Nat):Int))=(r:Int):=by
  rw [sub_u _ _ (by omega) (by omega)];congr 1;omega
 have hyn:¬ (yn1:Int)=0:=by omega
 simp only [cl_math_bits_Div64_15,h2,h8,h9,h10,h11,h13,h14,h15,w3,w4,w5,w6,hyn,ne_eq,not_false_eq_true,vZ,Int.reduceEq,Int.reduceNe,Int.reduceLT,Int.reduceLE,Nat.reduceEqDiff,Nat.reduceAdd,reduceIte,reduceCtorEq,Nat.reduceLT,Nat.reduceLeDiff,Nat.reduceShiftRight,Nat.reduceMod]
 refine WL_cutW (envOf [(2,.int .u64 Y),(8,.int .u64 k),(9,.int .u64 yn1),(10,.int .u64 yn0),(14,.int .u64 un0),(15,.int .u64 q1),(16,.int .u64 r),(17,.int .u64 u21),(18,.int .u64 q)],stOf []) rfl ?_ (div_two hY hY64 hn0 hn1 hu21 h0 hk htail q r hdm (by omega) hlo)
 refine weakX [] (of_decide_eq_true rfl) (of_decide_eq_true rfl) ?_
 (simp only [h2,h8,h9,h10,h11,h13,h14,h15,vcW,vZ,Int.reduceEq,Int.reduceNe,Int.reduceLT,Int.reduceLE,Nat.reduceEqDiff,Nat.reduceAdd,reduceIte,reduceCtorEq,Nat.reduceLT,Nat.reduceLeDiff,Nat.reduceShiftRight,Nat.reduceMod])
 (repeat' first | exact trivial | (with_reducible first | exact RnB.fxB (ints_fxB _) | rfl | refine And.intro ?_ ?_) | (with_reducible (first | refine RnB.bb ?_ | refine RnB.nb ?_);simp only [vcW,vZ,Int.reduceEq,Int.reduceNe,Int.reduceLT,Int.reduceLE,Nat.reduceEqDiff,Nat.reduceAdd,reduceIte,reduceCtorEq,Nat.reduceLT,Nat.reduceLeDiff,Nat.reduceShiftRight,Nat.reduceMod]) | (with_reducible first | refine RnB.ii ?_ | refine RnB.app ?_) | (with_reducible refine RnB.fxB ?_;simp only [vcW,vZ,Int.reduceEq,Int.reduceNe,Int.reduceLT,Int.reduceLE,Nat.reduceEqDiff,Nat.reduceAdd,reduceIte,reduceCtorEq,Nat.reduceLT,Nat.reduceLeDiff,Nat.reduceShiftRight,Nat.reduceMod]) | omega)
theorem div_one {Y k yn1 yn0 U un1 un0:Nat} {v:AV} (hY:Y=yn1 * 4294967296+yn0) (hY64:Y<18446744073709551616) (hn0:yn0<4294967296) (hn1:2147483648≤yn1) (hU:U<Y) (h1:un1<4294967296) (h0:un0<4294967296) (hk:k≤64)
  (htail:∀ (e:Env) (s:Store) (q1 u21 q0 R2:Nat),e 2=.int .u64 Y→e 8=.int .u64 k→e 14=.int .u64 un0→e 15=.int .u64 q1→e 17=.int .u64 u21→e 18=.int .u64 q0→U * 4294967296+un1=q1 * Y+u21→q1<4294967296→u21 * 4294967296+un0=q0 * Y+R2→R2<Y→q0<4294967296 →
   WL Tryz.prog 135 cl_math_bits_Div64_19 (endQ [(6,none),(7,none)] v) e s .mk) (q r:Nat) (hqr:q * yn1+r=U) (hr:r<4294967296) (hlo:(U * 4294967296+un1) / (yn1 * 4294967296+yn0)≤q) :
  WL Tryz.prog 135 cl_math_bits_Div64_14 (endQ [(6,none),(7,none)] v) (envOf [(2,.int .u64 Y),(8,.int .u64 k),(9,.int .u64 yn1),(10,.int .u64 yn0),(11,.int .u64 U),(13,.int .u64 un1),(14,.int .u64 un0),(15,.int .u64 q),(16,.int .u64 r)]) (stOf []) .mk:=by
 have hfin:∀ q:Nat,q=(U * 4294967296+un1) / (yn1 * 4294967296+yn0)→∃ R2,U * 4294967296+un1=q * Y+R2∧R2<Y∧q<4294967296:=by
  intro q hq
  rw [← hY] at hq
  have e1:=Nat.div_add_mod (U * 4294967296+un1) Y
  have e2:=Nat.mod_lt (U * 4294967296+un1) (show 0<Y by omega)
  rw [← hq,Nat.mul_comm Y q] at e1
  refine ⟨_,e1.symm,e2,?_⟩
  rw [hq,Nat.div_lt_iff_lt_mul (by omega)]
  have:(U+1) * 4294967296≤Y * 4294967296:=Nat.mul_le_mul_right _ hU
  omega
 have hend:∀ (e:Env) (s:Store) (q:Nat),q=(U * 4294967296+un1) / (yn1 * 4294967296+yn0)→e 2=.int .u64 Y→e 8=.int .u64 k→e 9=.int .u64 yn1→e 10=.int .u64 yn0→e 11=.int .u64 U→e 13=.int .u64 un1→e 14=.int .u64 un0→e 15=.int .u64 q→s=stOf [] →
   WL Tryz.prog 135 cl_math_bits_Div64_15 (endQ [(6,none),(7,none)] v) e s .mk:=by
  intro e s q hq g2 g8 g9 g10 g11 g13 g14 g15 gs
  obtain ⟨R,f1,f2,f3⟩:=hfin q hq
  exact div_mid g2 g8 g9 g10 g11 g13 g14 g15 gs hY hY64 hn0 hn1 h0 hk f1 f2 fun e s q0 R2 a2 a8 a14 a15 a17 a18 b1 b2 b3=>htail e s q R q0 R2 a2 a8 a14 a15 a17 a18 f1 f3 b1 b2 b3
 have hq33:q * yn1≤U:=by omega
 simp only [cl_math_bits_Div64_14,vZ,Int.reduceEq,Int.reduceNe,Int.reduceLT,Int.reduceLE,Nat.reduceEqDiff,Nat.reduceAdd,reduceIte,reduceCtorEq,Nat.reduceLT,Nat.reduceLeDiff,Nat.reduceShiftRight,Nat.reduceMod]
 refine WL_loop (t:=.mk) (α:=PSigma fun p:Nat × Nat=>p.1 * yn1+p.2=U∧p.2<4294967296∧(U * 4294967296+un1) / (yn1 * 4294967296+yn0)≤p.1) (fun ⟨p,_⟩=>(envOf [(2,.int .u64 Y),(8,.int .u64 k),(9,.int .u64 yn1),(10,.int .u64 yn0),(11,.int .u64 U),(13,.int .u64 un1),(14,.int .u64 un0),(15,.int .u64 p.1),(16,.int .u64 p.2)],stOf [])) (fun x=>x.1.1) ⟨(q,r),hqr,hr,hlo⟩ ?_ (fun ⟨⟨q,r⟩,hqr,hr,hlo⟩=>?_)
 ·refine weakX [] (of_decide_eq_true rfl) (of_decide_eq_true rfl) ?_
  (simp only [vcW,vZ,Int.reduceEq,Int.reduceNe,Int.reduceLT,Int.reduceLE,Nat.reduceEqDiff,Nat.reduceAdd,reduceIte,reduceCtorEq,Nat.reduceLT,Nat.reduceLeDiff,Nat.reduceShiftRight,Nat.reduceMod])
  (repeat' first | exact trivial | (with_reducible first | exact RnB.fxB (ints_fxB _) | rfl | refine And.intro ?_ ?_) | (with_reducible (first | refine RnB.bb ?_ | refine RnB.nb ?_);simp only [vcW,vZ,Int.reduceEq,Int.reduceNe,Int.reduceLT,Int.reduceLE,Nat.reduceEqDiff,Nat.reduceAdd,reduceIte,reduceCtorEq,Nat.reduceLT,Nat.reduceLeDiff,Nat.reduceShiftRight,Nat.reduceMod]) | (with_reducible first | refine RnB.ii ?_ | refine RnB.app ?_) | (with_reducible refine RnB.fxB ?_;simp only [vcW,vZ,Int.reduceEq,Int.reduceNe,Int.reduceLT,Int.reduceLE,Nat.reduceEqDiff,Nat.reduceAdd,reduceIte,reduceCtorEq,Nat.reduceLT,Nat.reduceLeDiff,Nat.reduceShiftRight,Nat.reduceMod]) | omega)
 ·dsimp only at hqr hr hlo ⊢
  have hqu:q≤U:=Nat.le_trans (Nat.le_mul_of_pos_right q (by omega)) (show q * yn1≤U by omega)
  have go:(4294967296≤q∨r * 4294967296+un1<q * yn0)→q ≠ 0∧(q - 1) * yn1+(r+yn1)=U∧(U * 4294967296+un1) / (yn1 * 4294967296+yn0)≤q - 1:=by
   intro h
   have h1:=Lin.digit_more hn0 (by omega) h1 (by omega) hqr h
   have hq0:q ≠ 0:=fun e=>by rw [e] at h1;exact Nat.not_lt_zero _ h1
   refine ⟨hq0,?_,Nat.le_sub_one_of_lt h1⟩
   have:(q - 1+1) * yn1=(q - 1) * yn1+yn1:=Nat.succ_mul _ _
   rw [show q - 1+1=q from Nat.succ_pred_eq_of_ne_zero hq0] at this
   omega
  have w5:q ≠ 0→IntKind.u64.wrap ((q:Int) - 1)=((q - 1:Nat):Int):=fun h=>by rw [show (1:Int)=((1:Nat):Int) by rfl];exact sub_u _ _ (by omega) (by omega)
  have w6:IntKind.u64.wrap ((r:Int)+(yn1:Int))=((r+yn1:Nat):Int):=add_u _ _ (by omega)
  have next:(4294967296≤q∨r * 4294967296+un1<q * yn0)→¬ 4294967296≤r+yn1→(q - 1) * yn1+(r+yn1)=U∧r+yn1<4294967296∧(U * 4294967296+un1) / (yn1 * 4294967296+yn0)≤q - 1:=fun h h'=>⟨(go h).2.1,by omega,(go h).2.2⟩
  have brk:(4294967296≤q∨r * 4294967296+un1<q * yn0)→4294967296≤r+yn1→q - 1=(U * 4294967296+un1) / (yn1 * 4294967296+yn0):=fun h h'=>Lin.digit_ok hn0 (by omega) (go h).2.1 (go h).2.2 (Lin.digit_brk hn0 (by omega) (by omega) (go h).2.1 h')
  by_cases g1:4294967296≤q
  ·have g1':(4294967296:Int)≤q:=by omega
   have hq0:=(go (.inl g1)).1
   by_cases g2:4294967296≤r+yn1
   ·have g2':(4294967296:Int)≤((r+yn1:Nat):Int):=by omega
    have hb:=brk (.inl g1) g2
    simp only [g1',w5 hq0,w6,g2',vZ,Int.reduceEq,Int.reduceNe,Int.reduceLT,Int.reduceLE,Nat.reduceEqDiff,Nat.reduceAdd,reduceIte,reduceCtorEq,Nat.reduceLT,Nat.reduceLeDiff,Nat.reduceShiftRight,Nat.reduceMod]
    exact WL_cut (hend _ _ (q - 1) hb rfl rfl rfl rfl rfl rfl rfl rfl rfl)
   ·have g2':¬ (4294967296:Int)≤((r+yn1:Nat):Int):=by omega
    simp only [g1',w5 hq0,w6,g2',vZ,Int.reduceEq,Int.reduceNe,Int.reduceLT,Int.reduceLE,Nat.reduceEqDiff,Nat.reduceAdd,reduceIte,reduceCtorEq,Nat.reduceLT,Nat.reduceLeDiff,Nat.reduceShiftRight,Nat.reduceMod]
    refine ⟨⟨(q - 1,r+yn1),next (.inl g1) g2⟩,by simp only;omega,?_⟩
    refine weakX [] (of_decide_eq_true rfl) (of_decide_eq_true rfl) ?_
    (simp only [vcW,vZ,Int.reduceEq,Int.reduceNe,Int.reduceLT,Int.reduceLE,Nat.reduceEqDiff,Nat.reduceAdd,reduceIte,reduceCtorEq,Nat.reduceLT,Nat.reduceLeDiff,Nat.reduceShiftRight,Nat.reduceMod])
    (repeat' first | exact trivial | (with_reducible first | exact RnB.fxB (ints_fxB _) | rfl | refine And.intro ?_ ?_) | (with_reducible (first | refine RnB.bb ?_ | refine RnB.nb ?_);simp only [vcW,vZ,Int.reduceEq,Int.reduceNe,Int.reduceLT,Int.reduceLE,Nat.reduceEqDiff,Nat.reduceAdd,reduceIte,reduceCtorEq,Nat.reduceLT,Nat.reduceLeDiff,Nat.reduceShiftRight,Nat.reduceMod]) | (with_reducible first | refine RnB.ii ?_ | refine RnB.app ?_) | (with_reducible refine RnB.fxB ?_;simp only [vcW,vZ,Int.reduceEq,Int.reduceNe,Int.reduceLT,Int.reduceLE,Nat.reduceEqDiff,Nat.reduceAdd,reduceIte,reduceCtorEq,Nat.reduceLT,Nat.reduceLeDiff,Nat.reduceShiftRight,Nat.reduceMod]) | omega)
  ·have g1':¬ (4294967296:Int)≤q:=by omega
   obtain ⟨v1,v2,v3⟩:=dig_facts (yn1:=yn1) (u:=U) hn0 h1 hr (show q<4294967296 by omega)
   by_cases g3:r * 4294967296+un1<q * yn0
   ·have g3':((4294967296 * r+un1:Nat):Int)<((q * yn0:Nat):Int):=by omega
    have hq0:=(go (.inr g3)).1
    by_cases g2:4294967296≤r+yn1
    ·have g2':(4294967296:Int)≤((r+yn1:Nat):Int):=by omega
     have hb:=brk (.inr g3) g2
     simp only [g1',v1,v2,v3,g3',w5 hq0,w6,g2',vZ,Int.reduceEq,Int.reduceNe,Int.reduceLT,Int.reduceLE,Nat.reduceEqDiff,Nat.reduceAdd,reduceIte,reduceCtorEq,Nat.reduceLT,Nat.reduceLeDiff,Nat.reduceShiftRight,Nat.reduceMod]
     exact WL_cut (hend _ _ (q - 1) hb rfl rfl rfl rfl rfl rfl rfl rfl rfl)
    ·have g2':¬ (4294967296:Int)≤((r+yn1:Nat):Int):=by omega
     simp only [g1',v1,v2,v3,g3',w5 hq0,w6,g2',vZ,Int.reduceEq,Int.reduceNe,Int.reduceLT,Int.reduceLE,Nat.reduceEqDiff,Nat.reduceAdd,reduceIte,reduceCtorEq,Nat.reduceLT,Nat.reduceLeDiff,Nat.reduceShiftRight,Nat.reduceMod]
     refine ⟨⟨(q - 1,r+yn1),next (.inr g3) g2⟩,by simp only;omega,?_⟩
     refine weakX [] (of_decide_eq_true rfl) (of_decide_eq_true rfl) ?_
     (simp only [vcW,vZ,Int.reduceEq,Int.reduceNe,Int.reduceLT,Int.reduceLE,Nat.reduceEqDiff,Nat.reduceAdd,reduceIte,reduceCtorEq,Nat.reduceLT,Nat.reduceLeDiff,Nat.reduceShiftRight,Nat.reduceMod])
     (repeat' first | exact trivial | (with_reducible first | exact RnB.fxB (ints_fxB _) | rfl | refine And.intro ?_ ?_) | (with_reducible (first | refine RnB.bb ?_ | refine RnB.nb ?_);simp only [vcW,vZ,Int.reduceEq,Int.reduceNe,Int.reduceLT,Int.reduceLE,Nat.reduceEqDiff,Nat.reduceAdd,reduceIte,reduceCtorEq,Nat.reduceLT,Nat.reduceLeDiff,Nat.reduceShiftRight,Nat.reduceMod]) | (with_reducible first | refine RnB.ii ?_ | refine RnB.app ?_) | (with_reducible refine RnB.fxB ?_;simp only [vcW,vZ,Int.reduceEq,Int.reduceNe,Int.reduceLT,Int.reduceLE,Nat.reduceEqDiff,Nat.reduceAdd,reduceIte,reduceCtorEq,Nat.reduceLT,Nat.reduceLeDiff,Nat.reduceShiftRight,Nat.reduceMod]) | omega)
   ·have g3':¬ ((4294967296 * r+un1:Nat):Int)<((q * yn0:Nat):Int):=by omega
    have hb:=Lin.digit_ok hn0 (by omega) hqr hlo (show q * yn0≤r * 4294967296+un1 by omega)
    simp only [g1',v1,v2,v3,g3',vZ,Int.reduceEq,Int.reduceNe,Int.reduceLT,Int.reduceLE,Nat.reduceEqDiff,Nat.reduceAdd,reduceIte,reduceCtorEq,Nat.reduceLT,Nat.reduceLeDiff,Nat.reduceShiftRight,Nat.reduceMod]
    exact WL_cut (hend _ _ q hb rfl rfl rfl rfl rfl rfl rfl rfl rfl)
theorem bitLen_ok {y:Nat} (h0:y ≠ 0) (hy:y<18446744073709551616):Lib.bitLen y≤64∧2 ^ 63≤y * 2 ^ (64 - Lib.bitLen y)∧y * 2 ^ (64 - Lib.bitLen y)<2 ^ 64:=by
 obtain ⟨h1,h2,h3⟩:=Lib.bitLenAux_bounds 64 y (by omega) h0
 have e:Lib.bitLenAux 64 y=Lib.bitLen y:=rfl
 rw [e] at h1 h2 h3
 have h4:Lib.bitLen y≤64:=by
  refine Classical.byContradiction fun hn=>?_
  have:2 ^ 64≤2 ^ (Lib.bitLen y - 1):=Nat.pow_le_pow_right (by omega) (by omega)
  omega
 have hp:0<2 ^ (64 - Lib.bitLen y):=Nat.pow_pos (by decide)
 refine ⟨h4,?_,?_⟩
 ·have:2 ^ (Lib.bitLen y - 1) * 2 ^ (64 - Lib.bitLen y)≤y * 2 ^ (64 - Lib.bitLen y):=Nat.mul_le_mul_right _ h2
  rw [← Nat.pow_add,show Lib.bitLen y - 1+(64 - Lib.bitLen y)=63 by omega] at this
  exact this
 ·have:y * 2 ^ (64 - Lib.bitLen y)<2 ^ Lib.bitLen y * 2 ^ (64 - Lib.bitLen y):=(Nat.mul_lt_mul_right hp).2 h3
  rw [← Nat.pow_add,show Lib.bitLen y+(64 - Lib.bitLen y)=64 by omega] at this
  exact this
theorem two_limbs {U un1 un0 L:Nat} (h:4294967296 * un1+un0=L):U * 18446744073709551616+L=(U * 4294967296+un1) * 4294967296+un0:=by omega
theorem Div64_s (hi lo y:Nat) (hlo:lo<18446744073709551616) (hy:y<18446744073709551616) (h:hi<y):Sound Tryz.prog 186 [.int .u64 hi,.int .u64 lo,.int .u64 y]
  (.tup [.int .u64 (((hi * 18446744073709551616+lo) / y:Nat):Int),.int .u64 (((hi * 18446744073709551616+lo) % y:Nat):Int)]):=by
 refine sound_WL f_math_bits_Div64 e_math_bits_Div64 (Nat.le_of_ble_eq_true rfl) ?_
 have g1:¬ (y:Int)=0:=by omega
 have g2:¬ (y:Int)≤hi:=by omega
 by_cases h0:hi=0
 ·subst h0
  have w1:IntKind.u64.wrap ((lo:Int).tdiv y)=((lo / y:Nat):Int):=tdiv_u _ _ (Nat.lt_of_le_of_lt (Nat.div_le_self _ _) hlo)
  have w2:=tmod_u lo y
  rw [Nat.zero_mul,Nat.zero_add]
  have g2':¬ (y:Int)≤0:=by omega
  simp only [cl_math_bits_Div64,g1,g2',w1,w2,ne_eq,not_false_eq_true,Int.natCast_zero,vZ,Int.reduceEq,Int.reduceNe,Int.reduceLT,Int.reduceLE,Nat.reduceEqDiff,Nat.reduceAdd,reduceIte,reduceCtorEq,Nat.reduceLT,Nat.reduceLeDiff,Nat.reduceShiftRight,Nat.reduceMod]
 ·have g3:¬ (hi:Int)=0:=by omega
  obtain ⟨b1,b2,b3⟩:=bitLen_ok (show y ≠ 0 by omega) hy
  have hLZ:=LeadingZeros64_s y hy b1
  have hs63:64 - Lib.bitLen y≤64:=by omega
  generalize 64 - Lib.bitLen y=k at *
  have hp:0<2 ^ k:=Nat.pow_pos (by decide)
  have hsh:=Lin.shift_hi hi lo k hs63
  have hkk:2 ^ k * 2 ^ (64 - k)=18446744073709551616:=by rw [← Nat.pow_add,show k+(64 - k)=64 by omega]
  have hb4:lo / 2 ^ (64 - k)<2 ^ k:=by
   rw [Nat.div_lt_iff_lt_mul (Nat.pow_pos (by decide)),hkk];exact hlo
  have hHy:(hi+1) * 2 ^ k≤y * 2 ^ k:=Nat.mul_le_mul_right _ h
  rw [Nat.add_mul,Nat.one_mul] at hHy
  have hdv:2 ^ k ∣ hi * 2 ^ k:=Nat.dvd_mul_left _ _
  have ws:IntKind.u64.wrap (k:Int)=(k:Int):=u64_wrap (by omega)
  have wY:=shl_u y k hs63
  have wA:=shl_u hi k hs63
  have wr:IntKind.u64.wrap (64 - (k:Int))=((64 - k:Nat):Int):=by rw [show (64:Int)=((64:Nat):Int) by rfl];exact sub_u _ _ hs63 (by omega)
  have wB:=shr_u lo (64 - k) (by omega)
  have wL:=shl_u lo k hs63
  have hLlt:=Nat.mod_lt (lo * 2 ^ k) (show 18446744073709551616 > 0 by omega)
  rw [Nat.mod_eq_of_lt (show y * 2 ^ k<18446744073709551616 by omega)] at wY
  rw [Nat.mod_eq_of_lt (show hi * 2 ^ k<18446744073709551616 by omega)] at wA
  have wU:=or_u (hi * 2 ^ k) (lo / 2 ^ (64 - k)) k hs63 hdv hb4 (by omega)
  obtain ⟨Y,hYd⟩:∃ Y,Y=y * 2 ^ k:=⟨_,rfl⟩
  obtain ⟨U,hUd⟩:∃ U,U=hi * 2 ^ k+lo / 2 ^ (64 - k):=⟨_,rfl⟩
  obtain ⟨L,hLd⟩:∃ L,L=lo * 2 ^ k % 18446744073709551616:=⟨_,rfl⟩
  rw [← hUd,← hLd] at hsh
  rw [← hYd] at wY b2 b3 hHy
  rw [← hUd] at wU
  rw [← hLd] at wL hLlt
  have hUY:U<Y:=by omega
  have s1:=shr32 Y
  have a1:=and32 Y (by omega)
  have s2:=shr32 L
  have a2:=and32 L (by omega)
  have eY:=Nat.div_add_mod Y 4294967296
  have eL:=Nat.div_add_mod L 4294967296
  have lY:=Nat.mod_lt Y (show 4294967296 > 0 by omega)
  have lL:=Nat.mod_lt L (show 4294967296 > 0 by omega)
  obtain ⟨yn1,hyn1⟩:∃ a,a=Y / 4294967296:=⟨_,rfl⟩
  obtain ⟨yn0,hyn0⟩:∃ a,a=Y % 4294967296:=⟨_,rfl⟩
  obtain ⟨un1,hun1⟩:∃ a,a=L / 4294967296:=⟨_,rfl⟩
  obtain ⟨un0,hun0⟩:∃ a,a=L % 4294967296:=⟨_,rfl⟩
  rw [← hyn1] at s1 eY
  rw [← hyn0] at a1 eY lY
  rw [← hun1] at s2 eL
  rw [← hun0] at a2 eL lL
  have hn1:2147483648≤yn1:=by omega
  have hq:=Nat.div_le_self U yn1
  have w7:IntKind.u64.wrap ((U:Int).tdiv yn1)=((U / yn1:Nat):Int):=tdiv_u _ _ (Nat.lt_of_le_of_lt hq (by omega))
  have hdm:=Nat.div_add_mod U yn1
  have hml:=Nat.mod_lt U (show yn1 > 0 by omega)
  have hgt:(U * 4294967296+un1) / (yn1 * 4294967296+yn0)≤U / yn1:=Lin.guess_top (by omega) (by omega) (by omega)
  rw [Nat.mul_comm] at hdm
  generalize U / yn1=q at *
  generalize U % yn1=r at *
  have w8:IntKind.u64.wrap ((q:Int) * yn1)=((q * yn1:Nat):Int):=mul_u _ _ (by omega)
  have w9:IntKind.u64.wrap ((U:Int) - ((q * yn1:Nat):Int))=(r:Int):=by
   rw [sub_u _ _ (by omega) (by omega)];congr 1;omega
  have hyn:¬ (yn1:Int)=0:=by omega
  have hk0:(0:Int)≤(k:Int):=by omega
  have hk1:(0:Int)≤((64 - k:Nat):Int):=by omega
  simp only [cl_math_bits_Div64,g1,g2,g3,vZ,Int.reduceEq,Int.reduceNe,Int.reduceLT,Int.reduceLE,Nat.reduceEqDiff,Nat.reduceAdd,reduceIte,reduceCtorEq,Nat.reduceLT,Nat.reduceLeDiff,Nat.reduceShiftRight,Nat.reduceMod]
  refine callS_of hLZ ?_
  simp only [ws,wY,s1,a1,wA,wr,wB,wU,wL,s2,a2,w7,w8,w9,hyn,hk0,hk1,ne_eq,not_false_eq_true,vZ,Int.reduceEq,Int.reduceNe,Int.reduceLT,Int.reduceLE,Nat.reduceEqDiff,Nat.reduceAdd,reduceIte,reduceCtorEq,Nat.reduceLT,Nat.reduceLeDiff,Nat.reduceShiftRight,Nat.reduceMod]
  refine WL_cutW (envOf [(2,.int .u64 Y),(8,.int .u64 k),(9,.int .u64 yn1),(10,.int .u64 yn0),(11,.int .u64 U),(13,.int .u64 un1),(14,.int .u64 un0),(15,.int .u64 q),(16,.int .u64 r)],stOf []) rfl ?_
   (div_one (Y:=Y) (k:=k) (by omega) (by omega) (by omega) hn1 hUY (by omega) (by omega) hs63 ?_ q r hdm (by omega) hgt)
  ·refine weakX [] (of_decide_eq_true rfl) (of_decide_eq_true rfl) ?_
   (simp only [vcW,vZ,Int.reduceEq,Int.reduceNe,Int.reduceLT,Int.reduceLE,Nat.reduceEqDiff,Nat.reduceAdd,reduceIte,reduceCtorEq,Nat.reduceLT,Nat.reduceLeDiff,Nat.reduceShiftRight,Nat.reduceMod])
   (repeat' first | exact trivial | (with_reducible first | exact RnB.fxB (ints_fxB _) | rfl | refine And.intro ?_ ?_) | (with_reducible (first | refine RnB.bb ?_ | refine RnB.nb ?_);simp only [vcW,vZ,Int.reduceEq,Int.reduceNe,Int.reduceLT,Int.reduceLE,Nat.reduceEqDiff,Nat.reduceAdd,reduceIte,reduceCtorEq,Nat.reduceLT,Nat.reduceLeDiff,Nat.reduceShiftRight,Nat.reduceMod]) | (with_reducible first | refine RnB.ii ?_ | refine RnB.app ?_) | (with_reducible refine RnB.fxB ?_;simp only [vcW,vZ,Int.reduceEq,Int.reduceNe,Int.reduceLT,Int.reduceLE,Nat.reduceEqDiff,Nat.reduceAdd,reduceIte,reduceCtorEq,Nat.reduceLT,Nat.reduceLeDiff,Nat.reduceShiftRight,Nat.reduceMod]) | omega)
  ·intro e s q1 u21 q0 R2 a2 a8 a14 a15 a17 a18 f1 f2 f3 f4 f5
   have hN:(hi * 18446744073709551616+lo) * 2 ^ k=(U * 4294967296+un1) * 4294967296+un0:=by
    rw [hsh]
    exact two_limbs eL
   obtain ⟨k1,k2⟩:=Lin.knuth (N:=hi * 18446744073709551616+lo) (y:=y) (s:=k) (by omega) hYd hN f1 f3 f4
   have hQ64:q1 * 4294967296+q0<18446744073709551616:=by omega
   exact div_tail a2 a8 a14 a15 a17 a18 hs63 k1.symm (by rw [k1];exact hQ64) f3 (by omega) k2.symm
end Go.Proofs.YtpaklfjlbocfcaaGreatDoor

/- Numerals,in plain Lean. By an AI agent;nothing here is trusted. -/
namespace Go.Lin
open Go.Lib

def pad:Nat→Nat→List UInt8
 | 0,_=>[]
 | k+1,r=>pad k (r / 10) ++ [UInt8.ofNat (48+r % 10)]
theorem pad_len:∀ k r,(pad k r).length=k
 | 0,_=>rfl
 | k+1,r=>by rw [pad,List.length_append,pad_len];rfl
theorem dec_pad:∀ (k q r:Nat),0<q→r<10 ^ k→decDigits (q * 10 ^ k+r)=decDigits q ++ pad k r
 | 0,q,r,_,hr=>by
  have:r=0:=by simpa using hr
  subst this;simp [pad]
 | k+1,q,r,hq,hr=>by
  have hp:1≤10 ^ k:=Nat.one_le_pow _ _ (by decide)
  have hb:¬ q * 10 ^ (k+1)+r<10:=by
   have:1 * 10 ^ (k+1)≤q * 10 ^ (k+1):=Nat.mul_le_mul_right _ hq
   rw [Nat.pow_succ] at this ⊢
   omega
  have e1:(q * 10 ^ (k+1)+r) / 10=q * 10 ^ k+r / 10:=by rw [Nat.pow_succ,← Nat.mul_assoc];omega
  have e2:(q * 10 ^ (k+1)+r) % 10=r % 10:=by rw [Nat.pow_succ,← Nat.mul_assoc];omega
  rw [decDigits,dif_neg hb,e1,e2,dec_pad k q (r / 10) hq (by rw [Nat.pow_succ] at hr;omega),pad,List.append_assoc]
theorem dec_split (k n:Nat) (h:10 ^ k≤n):decDigits n=decDigits (n / 10 ^ k) ++ pad k (n % 10 ^ k):=by
 have hp:0<10 ^ k:=Nat.pow_pos (by decide)
 have:=dec_pad k (n / 10 ^ k) (n % 10 ^ k) (Nat.div_pos h hp) (Nat.mod_lt _ hp)
 rwa [Nat.div_add_mod'] at this
theorem dec_one:decDigits 1=[49]:=by rw [decDigits];rfl
theorem dec_drop (k r:Nat) (h:r<10 ^ k):(decDigits (10 ^ k+r)).drop 1=pad k r:=by
 have:=dec_pad k 1 r (by decide) h
 rw [Nat.one_mul] at this
 rw [this,dec_one];rfl
end Go.Lin

/- Numerals and what they spell,in plain Lean. By an AI agent;nothing here is trusted. -/
namespace Go.Lin
open Go.Lib

def isDig (c:UInt8):Bool:=decide (48≤c.toNat) && decide (c.toNat≤57)
def val (l:List UInt8):Nat:=l.foldl (fun a c=>a * 10+(c.toNat - 48)) 0
theorem val_snoc (l:List UInt8) (c:UInt8):val (l ++ [c])=val l * 10+(c.toNat - 48):=by simp [val,List.foldl_append]
theorem dig_ofNat {d:Nat} (h:d<10):(UInt8.ofNat (48+d)).toNat=48+d:=by
 rw [UInt8.toNat_ofNat'];omega
theorem dig_of {c:UInt8} (h:isDig c=true):c=UInt8.ofNat (48+(c.toNat - 48)):=by
 unfold isDig at h
 simp only [Bool.and_eq_true,decide_eq_true_eq] at h
 apply UInt8.toNat_inj.1
 rw [dig_ofNat (by omega)];omega
theorem dec_ne (u:Nat):decDigits u ≠ []:=by
 rw [decDigits];split <;> simp
theorem dec_dig:∀ u,(decDigits u).all isDig=true:=by
 intro u
 induction u using Nat.strongRecOn with
 | ind u ih =>
  rw [decDigits]
  split
  ·rename_i h
   simp only [isDig,List.all_cons,List.all_nil,Bool.and_true,dig_ofNat h,Bool.and_eq_true,decide_eq_true_eq];omega
  ·rename_i h
   simp only [List.all_append,ih (u / 10) (by omega),List.all_cons,List.all_nil,Bool.true_and,Bool.and_true]
   simp only [isDig,dig_ofNat (show u % 10<10 by omega),Bool.and_eq_true,decide_eq_true_eq];omega
theorem val_dec:∀ u,val (decDigits u)=u:=by
 intro u
 induction u using Nat.strongRecOn with
 | ind u ih =>
  rw [decDigits]
  split
  ·rename_i h
   simp only [val,List.foldl_cons,List.foldl_nil,dig_ofNat h];omega
  ·rename_i h
   rw [val_snoc,ih (u / 10) (by omega),dig_ofNat (by omega)];omega
theorem dec_head {u:Nat} (h:0<u):∃ c r,decDigits u=c :: r∧c.toNat ≠ 48:=by
 induction u using Nat.strongRecOn with
 | ind u ih =>
  rw [decDigits]
  split
  ·rename_i h'
   exact ⟨_,[],rfl,by rw [dig_ofNat h'];omega⟩
  ·rename_i h'
   obtain ⟨c,r,h1,h2⟩:=ih (u / 10) (by omega) (by omega)
   exact ⟨c,r ++ [UInt8.ofNat (48+u % 10)],by rw [h1];rfl,h2⟩
theorem dec_val:∀ (r:List UInt8) (c:UInt8),(c :: r).all isDig=true→(c.toNat ≠ 48∨r=[])→decDigits (val (c :: r))=c :: r:=by
 intro r
 generalize hr:r.reverse=s
 induction s generalizing r with
 | nil =>
  have:r=[]:=by simpa using hr
  subst this
  intro c h _
  simp only [List.all_cons,List.all_nil,Bool.and_true] at h
  have hv:val [c]=c.toNat - 48:=by simp [val]
  have h':=h
  unfold isDig at h'
  simp only [Bool.and_eq_true,decide_eq_true_eq] at h'
  rw [hv,decDigits,dif_pos (by omega),← dig_of h]
 | cons x s ih =>
  have:r=s.reverse ++ [x]:=by rw [← List.reverse_cons,← hr,List.reverse_reverse]
  subst this
  intro c h hc
  have hc':c.toNat ≠ 48:=hc.resolve_right (by simp)
  have e:c :: (s.reverse ++ [x])=(c :: s.reverse) ++ [x]:=rfl
  rw [e] at h ⊢
  simp only [List.all_append,List.all_cons,List.all_nil,Bool.and_true,Bool.and_eq_true] at h
  have h1:=ih s.reverse (List.reverse_reverse s) c (by simp only [List.all_cons,Bool.and_eq_true];exact h.1) (.inl hc')
  have hx:=h.2
  unfold isDig at hx
  simp only [Bool.and_eq_true,decide_eq_true_eq] at hx
  have hpos:0<val (c :: s.reverse):=by
   refine Nat.pos_of_ne_zero fun h0=>?_
   rw [h0,decDigits] at h1
   simp only [Nat.lt_irrefl,show (0:Nat)<10 by omega,dif_pos] at h1
   injection h1 with h1 _
   apply hc'
   rw [← h1];decide
  rw [val_snoc,decDigits,dif_neg (by omega)]
  have e1:(val (c :: s.reverse) * 10+(x.toNat - 48)) / 10=val (c :: s.reverse):=by omega
  have e2:(val (c :: s.reverse) * 10+(x.toNat - 48)) % 10=x.toNat - 48:=by omega
  rw [e1,e2,h1,← dig_of h.2]

def numD (k:Nat) (one:Bool) (ds:List UInt8):Option Nat:=if ds=[]∨k<ds.length∨(ds.head?=some 48∧one=true)∨ds.all isDig=false then none else some (val ds)
def numW (k:Nat) (w:List UInt8):Option Int:=if w.head?=some 45 then (numD k true w.tail).map fun (v:Nat) => -(v:Int) else (numD k (decide (1<w.length)) w).map fun (v:Nat)=>(v:Int)
theorem not45 {c:UInt8} (h:isDig c=true):c ≠ 45:=by
 intro e;subst e;revert h;decide
theorem numD_dec {k u:Nat} {one:Bool} (h:(decDigits u).length≤k) (h1:0<u∨one=false):numD k one (decDigits u)=some u:=by
 unfold numD
 rw [if_neg,val_dec]
 rintro (g | g | g | g)
 ·exact dec_ne _ g
 ·omega
 ·rcases h1 with h1 | h1
  ·obtain ⟨c,r,g1,g2⟩:=dec_head h1
   rw [g1] at g;simp at g;apply g2;rw [g.1];decide
  ·rw [h1] at g;exact absurd g.2 (by decide)
 ·rw [dec_dig] at g;cases g
theorem dec_numD {k u:Nat} {one:Bool} {ds:List UInt8} (h:numD k one ds=some u) (h1:one=decide (1<ds.length)∨one=true):ds=decDigits u∧ds.length≤k∧(one=true→0<u):=by
 unfold numD at h
 split at h
 ·cases h
 ·rename_i hn
  injection h with h
  cases ds with
  | nil=>exact absurd (.inl rfl) hn
  | cons c r =>
   have hd:(c :: r).all isDig=true:=by
    cases e:(c :: r).all isDig with
    | true=>rfl
    | false=>exact absurd (.inr (.inr (.inr e))) hn
   have hc:c.toNat ≠ 48∨r=[]:=by
    by_cases e:c.toNat=48
    ·right
     have ec:c=48:=UInt8.toNat_inj.1 e
     cases r with
     | nil=>rfl
     | cons x r=>exact absurd (.inr (.inr (.inl ⟨by rw [ec];rfl,by rcases h1 with h1 | h1 <;> simp [h1]⟩))) hn
    ·exact .inl e
   have hv:=dec_val r c hd hc
   refine ⟨by rw [← h,hv],Nat.le_of_not_lt fun g=>hn (.inr (.inl g)),fun ho=>?_⟩
   refine Nat.pos_of_ne_zero fun h0=>?_
   rw [h,h0,decDigits] at hv
   simp only [show (0:Nat)<10 by omega,dif_pos] at hv
   injection hv with g1 _
   exact hn (.inr (.inr (.inl ⟨by rw [← g1];rfl,ho⟩)))
theorem numW_itoa {k:Nat} {n:Int} (h:(decDigits n.natAbs).length≤k):numW k (itoa n)=some n:=by
 unfold itoa numW
 by_cases hn:n<0
 ·rw [if_pos hn,if_pos (by rfl),List.tail_cons,numD_dec h (.inl (by omega))]
  simp only [Option.map_some];congr 1;omega
 ·rw [if_neg hn,show n.toNat=n.natAbs by omega]
  obtain ⟨c,r,h1⟩:∃ c r,decDigits n.natAbs=c :: r:=List.exists_cons_of_ne_nil (dec_ne _)
  have hc:isDig c=true:=by have:=dec_dig n.natAbs;rw [h1] at this;simp at this;exact this.1
  have hd:¬ (decDigits n.natAbs).head?=some 45:=by rw [h1];simp;exact not45 hc
  rw [if_neg hd,numD_dec h]
  ·simp only [Option.map_some];congr 1;omega
  ·by_cases h0:0<n.natAbs
   ·exact .inl h0
   ·right
    have:n.natAbs=0:=by omega
    rw [this,decDigits];rfl
theorem itoa_numW {k:Nat} {w:List UInt8} {n:Int} (h:numW k w=some n):w=itoa n∧(decDigits n.natAbs).length≤k:=by
 unfold numW at h
 by_cases hw:w.head?=some 45
 ·rw [if_pos hw] at h
  obtain ⟨r,rfl⟩:∃ r,w=45 :: r:=by
   cases w with
   | nil=>cases hw
   | cons c r=>simp at hw;exact ⟨r,by rw [hw]⟩
  obtain ⟨u,h1,h2⟩:=Option.map_eq_some_iff.1 h
  obtain ⟨g1,g2,g3⟩:=dec_numD h1 (.inr rfl)
  have g3:=g3 rfl
  rw [List.tail_cons] at g1 g2
  have e:n.natAbs=u:=by omega
  rw [e]
  refine ⟨?_,by rw [← g1];exact g2⟩
  unfold itoa;rw [if_pos (by omega),e,g1]
 ·rw [if_neg hw] at h
  obtain ⟨u,h1,h2⟩:=Option.map_eq_some_iff.1 h
  obtain ⟨g1,g2,_⟩:=dec_numD h1 (.inl rfl)
  have e:n.natAbs=u:=by omega
  rw [e]
  refine ⟨?_,by rw [← g1];exact g2⟩
  unfold itoa;rw [if_neg (by omega),show n.toNat=u by omega,g1]

theorem parse_dig:∀ (l:List UInt8) (acc:Nat),l.all isDig=true→acc * 10 ^ l.length+val l<10000000000000000000→parseUint10 acc l=.ok (acc * 10 ^ l.length+val l)
 | [],acc,_,_=>by simp [parseUint10,val]
 | c :: r,acc,h,hb=>by
  simp only [List.all_cons,Bool.and_eq_true] at h
  have hc:=h.1
  unfold isDig at hc
  simp only [Bool.and_eq_true,decide_eq_true_eq] at hc
  have hv:∀ (r:List UInt8) (a:Nat),r.foldl (fun a c=>a * 10+(c.toNat - 48)) a=a * 10 ^ r.length+val r:=by
   intro r
   induction r with
   | nil=>intro a;simp [val]
   | cons x r ih =>
    intro a
    have e:val (x :: r)=(x.toNat - 48) * 10 ^ r.length+val r:=by
     show List.foldl _ (0 * 10+(x.toNat - 48)) r=_
     rw [ih];simp
    rw [List.foldl_cons,ih,e,List.length_cons,Nat.pow_succ,Nat.add_mul]
    rw [show a * (10 ^ r.length * 10)=a * 10 * 10 ^ r.length by rw [Nat.mul_comm (10 ^ r.length) 10,← Nat.mul_assoc]]
    omega
  have e:acc * 10 ^ (c :: r).length+val (c :: r)=(acc * 10+(c.toNat - 48)) * 10 ^ r.length+val r:=by
   rw [← hv,← hv];rfl
  rw [e] at hb ⊢
  have hp:1≤10 ^ r.length:=Nat.one_le_pow _ _ (by decide)
  have hle:acc * 10+(c.toNat - 48)≤(acc * 10+(c.toNat - 48)) * 10 ^ r.length:=Nat.le_mul_of_pos_right _ hp
  have ih:=parse_dig r (acc * 10+(c.toNat - 48)) h.2 hb
  simp only [parseUint10]
  rw [if_pos ⟨hc.1,hc.2⟩,if_neg (by omega),if_neg (by omega)]
  exact ih
theorem atoi_itoa {n:Int} (h:n.natAbs<9000000000000000000):atoiAll (itoa n)=.ok n:=by
 have hp:=parse_dig (decDigits n.natAbs) 0 (dec_dig _) (by rw [val_dec];omega)
 rw [val_dec,Nat.zero_mul,Nat.zero_add] at hp
 obtain ⟨c,r,h1⟩:∃ c r,decDigits n.natAbs=c :: r:=List.exists_cons_of_ne_nil (dec_ne _)
 have hc:isDig c=true:=by have:=dec_dig n.natAbs;rw [h1] at this;simp at this;exact this.1
 unfold isDig at hc
 simp only [Bool.and_eq_true,decide_eq_true_eq] at hc
 unfold itoa
 by_cases hn:n<0
 ·rw [if_pos hn]
  have e45:(45:UInt8).toNat=45:=by decide
  simp only [atoiAll,e45,or_true,if_true,parseMag,if_neg (dec_ne _),hp,not_true_eq_false,false_and,if_false,true_and]
  rw [if_neg (by omega)]
  congr 1;omega
 ·rw [if_neg hn,show n.toNat=n.natAbs by omega,h1]
  rw [h1] at hp
  have g1:¬ (c.toNat=43∨c.toNat=45):=by omega
  have g2:¬ c.toNat=45:=by omega
  have hm:parseMag (c :: r)=.ok n.natAbs:=by unfold parseMag;rw [if_neg (by simp)];exact hp
  unfold atoiAll
  have g3:¬ c.toNat=43:=by omega
  simp only [g3,hm,g2,or_self,not_false_eq_true,true_and,false_and,if_false]
  rw [if_neg (by omega)]
  congr 1;omega
end Go.Lin

/- Contracts: digits of a number of 128 bits,the error of a fit,what is kept. By an AI agent;nothing here is trusted. -/
namespace Go.Proofs.YtpaklfjlbocfcaaGreatDoor
open Go.Av

theorem dec_len {n:Nat} (h:n<10 ^ 50):(Lib.decDigits n).length≤50:=by
 rw [Lib.decDigits_length]
 refine Classical.byContradiction fun hn=>?_
 have key:∀ k u:Nat,k<Lib.nDigits u→10 ^ k≤u∨k=0:=by
  intro k
  induction k with
  | zero=>exact fun _ _=>.inr rfl
  | succ k ih =>
   intro u hu
   by_cases h10:u<10
   ·rw [Lib.nDigits_small h10] at hu;omega
   ·rw [Lib.nDigits_big h10] at hu
    left
    rcases ih (u / 10) (by omega) with g | g
    ·rw [Nat.pow_succ];omega
    ·subst g;omega
 rcases key 50 n (by omega) with g | g
 ·omega
 ·cases g
set_option maxHeartbeats 2000000 in
theorem text_s:∀ (n:Nat) (b:Bool),W128 n→Sound Tryz.prog 136 [wdA b n] (.str (Lib.decDigits n)):=by
 intro n
 induction n using Nat.strongRecOn with
 | ind n ih =>
  intro b hn
  refine sound_W f_pulse_wide_text (Nat.le_of_ble_eq_true rfl) ?_
  have hn':=hn
  unfold W128 at hn
  have eN:=Nat.div_add_mod n 18446744073709551616
  have lL:=Nat.mod_lt n (show 18446744073709551616 > 0 by omega)
  have hD1:Sound Tryz.prog 186 [.int .u64 0,.int .u64 ((n / 18446744073709551616:Nat):Int),.int .u64 1000000000000000000] _:=Div64_s 0 (n / 18446744073709551616) 1000000000000000000 (by omega) (by omega) (by omega)
  rw [Nat.zero_mul,Nat.zero_add] at hD1
  have hD2:Sound Tryz.prog 186 [.int .u64 ((n / 18446744073709551616 % 1000000000000000000:Nat):Int),.int .u64 ((n % 18446744073709551616:Nat):Int),.int .u64 1000000000000000000] _:=Div64_s (n / 18446744073709551616 % 1000000000000000000) (n % 18446744073709551616) 1000000000000000000 lL (by omega) (Nat.mod_lt _ (by omega))
  have eM:=Nat.div_add_mod (n / 18446744073709551616) 1000000000000000000
  have lM:=Nat.mod_lt (n / 18446744073709551616) (show 1000000000000000000 > 0 by omega)
  have eR:=Nat.div_add_mod (n / 18446744073709551616 % 1000000000000000000 * 18446744073709551616+n % 18446744073709551616) 1000000000000000000
  have lR:=Nat.mod_lt (n / 18446744073709551616 % 1000000000000000000 * 18446744073709551616+n % 18446744073709551616) (show 1000000000000000000 > 0 by omega)
  unfold wdA
  generalize n / 18446744073709551616=H at *
  generalize n % 18446744073709551616=L at *
  generalize H / 1000000000000000000=qh at *
  generalize H % 1000000000000000000=rh at *
  have hql:(rh * 18446744073709551616+L) / 1000000000000000000<18446744073709551616:=by omega
  generalize (rh * 18446744073709551616+L) / 1000000000000000000=ql at *
  generalize (rh * 18446744073709551616+L) % 1000000000000000000=low at *
  have en:n=(qh * 18446744073709551616+ql) * 1000000000000000000+low:=by omega
  have hq:n / 1000000000000000000=qh * 18446744073709551616+ql:=by omega
  have hr:n % 1000000000000000000=low:=by omega
  by_cases hz:qh=0∧ql=0
  ·obtain ⟨rfl,rfl⟩:=hz
   have hlow:low=n:=by omega
   simp only [c_pulse_wide_text,vZ,Int.reduceEq,Int.reduceNe,Int.reduceLT,Int.reduceLE,Nat.reduceEqDiff,Nat.reduceAdd,reduceIte,reduceCtorEq,Nat.reduceLT,Nat.reduceLeDiff,Nat.reduceShiftRight,Nat.reduceMod]
   refine callS_of hD1 ?_
   simp only [vZ,Int.reduceEq,Int.reduceNe,Int.reduceLT,Int.reduceLE,Nat.reduceEqDiff,Nat.reduceAdd,reduceIte,reduceCtorEq,Nat.reduceLT,Nat.reduceLeDiff,Nat.reduceShiftRight,Nat.reduceMod]
   refine callS_of hD2 ?_
   simp only [Int.natCast_zero,vZ,Int.reduceEq,Int.reduceNe,Int.reduceLT,Int.reduceLE,Nat.reduceEqDiff,Nat.reduceAdd,reduceIte,reduceCtorEq,Nat.reduceLT,Nat.reduceLeDiff,Nat.reduceShiftRight,Nat.reduceMod]
   refine callS_of (FormatUint_s low (by omega)) ?_
   simp only [hlow,vZ,Int.reduceEq,Int.reduceNe,Int.reduceLT,Int.reduceLE,Nat.reduceEqDiff,Nat.reduceAdd,reduceIte,reduceCtorEq,Nat.reduceLT,Nat.reduceLeDiff,Nat.reduceShiftRight,Nat.reduceMod]
  ·have hz':¬ ((qh:Int)=0∧(ql:Int)=0):=by omega
   have hpos:0<n / 1000000000000000000:=by omega
   have hsp:=Lin.dec_split 18 n (by have:(10:Nat) ^ 18=1000000000000000000:=(by decide);omega)
   have e18:(10:Nat) ^ 18=1000000000000000000:=by decide
   rw [e18] at hsp
   have hdr:=Lin.dec_drop 18 low (by rw [e18];omega)
   rw [e18] at hdr
   have hT:=ih (n / 1000000000000000000) (by omega) false (by unfold W128;omega)
   have d1:(n / 1000000000000000000) / 18446744073709551616=qh:=by omega
   have d2:(n / 1000000000000000000) % 18446744073709551616=ql:=by omega
   unfold wdA at hT
   rw [d1,d2] at hT
   obtain ⟨F,hFd⟩:∃ F,F=1000000000000000000+low:=⟨_,rfl⟩
   rw [← hFd] at hdr
   obtain ⟨m,hmd⟩:∃ m,m=n / 1000000000000000000:=⟨_,rfl⟩
   rw [← hmd] at hsp hT hpos
   have hF:=FormatUint_s F (by omega)
   have wF:IntKind.u64.wrap (1000000000000000000+(low:Int))=(F:Int):=by rw [u64_wrap (by omega)];omega
   have hl1:1≤(Lib.decDigits F).length:=by
    have:=Lin.dec_ne F
    cases h:Lib.decDigits F with
    | nil=>exact absurd h this
    | cons a r=>simp
   have hl2:(Lib.decDigits m).length≤50:=dec_len (by have:(340282366920938463463374607431768211456:Nat)<10 ^ 50:=(by decide);omega)
   have hl3:(Lin.pad 18 low).length=18:=Lin.pad_len 18 low
   have htk:((Lib.decDigits F).take (Lib.decDigits F).length).drop 1=Lin.pad 18 low:=by rw [List.take_length,hdr]
   rw [hr] at hsp
   rw [hsp]
   clear hsp hmd hFd eN eM eR lR hq hr d1 d2 en ih
   by_cases g1:qh=0
   ·have g2:¬ ql=0:=fun h=>hz ⟨g1,h⟩
    have g2':¬ (ql:Int)=0:=by omega
    subst g1
    simp only [c_pulse_wide_text,vZ,Int.reduceEq,Int.reduceNe,Int.reduceLT,Int.reduceLE,Nat.reduceEqDiff,Nat.reduceAdd,reduceIte,reduceCtorEq,Nat.reduceLT,Nat.reduceLeDiff,Nat.reduceShiftRight,Nat.reduceMod]
    refine callS_of hD1 ?_
    simp only [vZ,Int.reduceEq,Int.reduceNe,Int.reduceLT,Int.reduceLE,Nat.reduceEqDiff,Nat.reduceAdd,reduceIte,reduceCtorEq,Nat.reduceLT,Nat.reduceLeDiff,Nat.reduceShiftRight,Nat.reduceMod]
    refine callS_of hD2 ?_
    simp only [Int.natCast_zero,g2',wF,vZ,Int.reduceEq,Int.reduceNe,Int.reduceLT,Int.reduceLE,Nat.reduceEqDiff,Nat.reduceAdd,reduceIte,reduceCtorEq,Nat.reduceLT,Nat.reduceLeDiff,Nat.reduceShiftRight,Nat.reduceMod]
    refine callS_of hF ?_
    simp only [htk,List.take_length,hdr,vZ,Int.reduceEq,Int.reduceNe,Int.reduceLT,Int.reduceLE,Nat.reduceEqDiff,Nat.reduceAdd,reduceIte,reduceCtorEq,Nat.reduceLT,Nat.reduceLeDiff,Nat.reduceShiftRight,Nat.reduceMod]
    (repeat (with_reducible refine And.intro ?_ ?_;focus (first | omega | (unfold I64;omega))))
    refine callS_of hT ?_
    simp only [show Int.toNat 1=1 from rfl,hdr,hl3,vZ,Int.reduceEq,Int.reduceNe,Int.reduceLT,Int.reduceLE,Nat.reduceEqDiff,Nat.reduceAdd,reduceIte,reduceCtorEq,Nat.reduceLT,Nat.reduceLeDiff,Nat.reduceShiftRight,Nat.reduceMod]
    omega
   ·have g1':¬ (qh:Int)=0:=by omega
    simp only [c_pulse_wide_text,vZ,Int.reduceEq,Int.reduceNe,Int.reduceLT,Int.reduceLE,Nat.reduceEqDiff,Nat.reduceAdd,reduceIte,reduceCtorEq,Nat.reduceLT,Nat.reduceLeDiff,Nat.reduceShiftRight,Nat.reduceMod]
    refine callS_of hD1 ?_
    simp only [vZ,Int.reduceEq,Int.reduceNe,Int.reduceLT,Int.reduceLE,Nat.reduceEqDiff,Nat.reduceAdd,reduceIte,reduceCtorEq,Nat.reduceLT,Nat.reduceLeDiff,Nat.reduceShiftRight,Nat.reduceMod]
    refine callS_of hD2 ?_
    simp only [g1',wF,vZ,Int.reduceEq,Int.reduceNe,Int.reduceLT,Int.reduceLE,Nat.reduceEqDiff,Nat.reduceAdd,reduceIte,reduceCtorEq,Nat.reduceLT,Nat.reduceLeDiff,Nat.reduceShiftRight,Nat.reduceMod]
    refine callS_of hF ?_
    simp only [htk,List.take_length,hdr,vZ,Int.reduceEq,Int.reduceNe,Int.reduceLT,Int.reduceLE,Nat.reduceEqDiff,Nat.reduceAdd,reduceIte,reduceCtorEq,Nat.reduceLT,Nat.reduceLeDiff,Nat.reduceShiftRight,Nat.reduceMod]
    (repeat (with_reducible refine And.intro ?_ ?_;focus (first | omega | (unfold I64;omega))))
    refine callS_of hT ?_
    simp only [show Int.toNat 1=1 from rfl,hdr,hl3,vZ,Int.reduceEq,Int.reduceNe,Int.reduceLT,Int.reduceLE,Nat.reduceEqDiff,Nat.reduceAdd,reduceIte,reduceCtorEq,Nat.reduceLT,Nat.reduceLeDiff,Nat.reduceShiftRight,Nat.reduceMod]
    omega
end Go.Proofs.YtpaklfjlbocfcaaGreatDoor

/- Contracts: the error of a fit,what is kept. By an AI agent;nothing here is trusted. -/
namespace Go.Proofs.YtpaklfjlbocfcaaGreatDoor
open Go.Av

def sqN:List Int→Nat
 | []=>0
 | x :: l=>x.natAbs * x.natAbs+sqN l
theorem sqN_app:∀ (l m:List Int),sqN (l ++ m)=sqN l+sqN m
 | [],m=>by simp [sqN]
 | x :: l,m=>by rw [List.cons_append,sqN,sqN,sqN_app l m];omega
theorem sqN_next (l:List Int) {i:Nat} (h:i<l.length):sqN (l.take (i+1))=sqN (l.take i)+l[i].natAbs * l[i].natAbs:=by
 rw [List.take_succ_eq_append_getElem h,sqN_app];simp [sqN]
theorem sqN_bd:∀ {l:List Int},(∀ x ∈ l, -10500000000000000≤x∧x≤10500000000000000)→sqN l≤l.length * 110250000000000000000000000000000
 | [],_=>by simp [sqN]
 | x :: l,h=>by
  have h1:=sqN_bd (l:=l) fun y hy=>h y (by simp [hy])
  have h2:=h x (by simp)
  have h3:x.natAbs * x.natAbs≤10500000000000000 * 10500000000000000:=Nat.mul_le_mul (by omega) (by omega)
  rw [sqN,List.length_cons,Nat.add_mul]
  omega
def erA (items:List Int) (shifts:Int) (l:List Int) (den:Int) (ch:List Int):List AV:=if beE items shifts l den ch ≠ 0 then [.agg [.str [],.int .i64 0],.int .i64 (beE items shifts l den ch)] else [.agg [.str (Lib.decDigits (sqN (dfL items l ch den))),.int .i64 den],.int .i64 0]
theorem ErrorOf_s (items:List Int) (shifts:Int) (l:List Int) (den:Int) (ch:List Int) (h1:items.length<4000000000000000000) (h2:l.length<4000000000000000000) (h3:ch.length<4000000000000000000) :
  Sound Tryz.prog 63 [tplA items shifts,.sl (ints l),fitA den ch] (.tup (erA items shifts l den ch)):=by
 refine sound_W f_pulse_ErrorOf (Nat.le_of_ble_eq_true rfl) ?_
 have hB:=bothErr_s items shifts l den ch h1 h2 h3
 unfold tplA fitA at hB
 simp only [c_pulse_ErrorOf,tplA,fitA,vZ,Int.reduceEq,Int.reduceNe,Int.reduceLT,Int.reduceLE,Nat.reduceEqDiff,Nat.reduceAdd,reduceIte,reduceCtorEq,Nat.reduceLT,Nat.reduceLeDiff,Nat.reduceShiftRight,Nat.reduceMod]
 refine callS_of hB ?_
 by_cases hE:beE items shifts l den ch=0
 case neg =>
  have hr:erA items shifts l den ch=[.agg [.str [],.int .i64 0],.int .i64 (beE items shifts l den ch)]:=by unfold erA;rw [if_pos hE]
  rw [hr]
  simp only [hE,vZ,Int.reduceEq,Int.reduceNe,Int.reduceLT,Int.reduceLE,Nat.reduceEqDiff,Nat.reduceAdd,reduceIte,reduceCtorEq,Nat.reduceLT,Nat.reduceLeDiff,Nat.reduceShiftRight,Nat.reduceMod]
 have F:=beE_ok hE
 have hr:erA items shifts l den ch=[.agg [.str (Lib.decDigits (sqN (dfL items l ch den))),.int .i64 den],.int .i64 0]:=by unfold erA;rw [if_neg (by omega)]
 rw [hr]
 have hD:=differences_s F
 unfold tplA fitA at hD
 simp only [hE,vZ,Int.reduceEq,Int.reduceNe,Int.reduceLT,Int.reduceLE,Nat.reduceEqDiff,Nat.reduceAdd,reduceIte,reduceCtorEq,Nat.reduceLT,Nat.reduceLeDiff,Nat.reduceShiftRight,Nat.reduceMod]
 refine callS_of hD ?_
 have hb:=F.dfb
 have hlen:(dfL items l ch den).length≤10:=by rw [dfL_len,F.mlen];exact F.l10
 generalize dfL items l ch den=L at *
 have hle:∀ i:Nat,sqN (L.take i)≤1102500000000000000000000000000000:=fun i=>by
  have:=sqN_bd (l:=L.take i) fun x hx=>hb x (List.mem_of_mem_take hx)
  have h2:(L.take i).length≤10:=by simp;omega
  omega
 simp only [vZ,Int.reduceEq,Int.reduceNe,Int.reduceLT,Int.reduceLE,Nat.reduceEqDiff,Nat.reduceAdd,reduceIte,reduceCtorEq,Nat.reduceLT,Nat.reduceLeDiff,Nat.reduceShiftRight,Nat.reduceMod]
 refine W_loop (t:=.mk) (α:=PSigma fun i:Nat=>i≤L.length) (fun ⟨i,_⟩=>(envOf [(5,.ptr 5 0 0),(6,.ptr 6 0 0),(7,.int .i64 0),(9,.ptr 9 0 0),(23,.sl (ints L)),(24,.int .i64 L.length),(25,.int .i64 i)],stOf [(5,⟨47,2,[.agg [.int .i64 den,.sl (ints ch)]]⟩),(6,⟨115,2,[.agg [.str [],.int .i64 0]]⟩),(9,⟨188,3,[wdA false (sqN (L.take i))]⟩)])) (fun x=>L.length - x.1) ⟨0,Nat.zero_le _⟩ ?_ (fun ⟨i,hin⟩=>?_)
 ·have e0:wdA false (sqN [])=.agg [.bool false,.int .u64 0,.int .u64 0]:=rfl
  refine weakX [] (of_decide_eq_true rfl) (of_decide_eq_true rfl) ?_
  (simp only [e0,vcW,vZ,Int.reduceEq,Int.reduceNe,Int.reduceLT,Int.reduceLE,Nat.reduceEqDiff,Nat.reduceAdd,reduceIte,reduceCtorEq,Nat.reduceLT,Nat.reduceLeDiff,Nat.reduceShiftRight,Nat.reduceMod])
  (repeat' first | exact trivial | (with_reducible first | exact RnB.fxB (ints_fxB _) | rfl | refine And.intro ?_ ?_) | (with_reducible (first | refine RnB.bb ?_ | refine RnB.nb ?_);simp only [vcW,vZ,Int.reduceEq,Int.reduceNe,Int.reduceLT,Int.reduceLE,Nat.reduceEqDiff,Nat.reduceAdd,reduceIte,reduceCtorEq,Nat.reduceLT,Nat.reduceLeDiff,Nat.reduceShiftRight,Nat.reduceMod]) | (with_reducible first | refine RnB.ii ?_ | refine RnB.app ?_) | (with_reducible refine RnB.fxB ?_;simp only [vcW,vZ,Int.reduceEq,Int.reduceNe,Int.reduceLT,Int.reduceLE,Nat.reduceEqDiff,Nat.reduceAdd,reduceIte,reduceCtorEq,Nat.reduceLT,Nat.reduceLeDiff,Nat.reduceShiftRight,Nat.reduceMod]) | omega)
 ·dsimp only at hin ⊢
  by_cases h':i<L.length
  ·have hc1:(i:Int)<L.length:=by omega
   have hxb:=hb _ (List.getElem_mem h')
   have hx63:S63 L[i]:=by unfold S63;omega
   have hW:=pwideOf_s L[i] hx63
   have hsq:L[i].natAbs * L[i].natAbs≤10500000000000000 * 10500000000000000:=Nat.mul_le_mul (by omega) (by omega)
   have hT:=times_s (decide (L[i]<0)) L[i].natAbs L[i] hx63 (by unfold W128;omega) (by unfold W128;omega)
   have hbb:(decide (L[i]<0) != decide (L[i]<0))=false:=by cases decide (L[i]<0) <;> rfl
   rw [hbb] at hT
   have hn:=sqN_next L h'
   have hle1:=hle i
   have hle2:=hle (i+1)
   have hP:=plus_same_s false (sqN (L.take i)) (L[i].natAbs * L[i].natAbs) (by unfold W128;omega)
   rw [← hn] at hP
   unfold wdA at hW hT hP ⊢
   simp only [hc1,ints_get L i h',vZ,Int.reduceEq,Int.reduceNe,Int.reduceLT,Int.reduceLE,Nat.reduceEqDiff,Nat.reduceAdd,reduceIte,reduceCtorEq,Nat.reduceLT,Nat.reduceLeDiff,Nat.reduceShiftRight,Nat.reduceMod]
   (repeat (with_reducible refine And.intro ?_ ?_;focus (first | omega | (unfold I64;omega))))
   refine callS_of hW ?_
   simp only [vZ,Int.reduceEq,Int.reduceNe,Int.reduceLT,Int.reduceLE,Nat.reduceEqDiff,Nat.reduceAdd,reduceIte,reduceCtorEq,Nat.reduceLT,Nat.reduceLeDiff,Nat.reduceShiftRight,Nat.reduceMod]
   refine callS_of hT ?_
   simp only [vZ,Int.reduceEq,Int.reduceNe,Int.reduceLT,Int.reduceLE,Nat.reduceEqDiff,Nat.reduceAdd,reduceIte,reduceCtorEq,Nat.reduceLT,Nat.reduceLeDiff,Nat.reduceShiftRight,Nat.reduceMod]
   refine callS_of hP ?_
   simp only [vZ,Int.reduceEq,Int.reduceNe,Int.reduceLT,Int.reduceLE,Nat.reduceEqDiff,Nat.reduceAdd,reduceIte,reduceCtorEq,Nat.reduceLT,Nat.reduceLeDiff,Nat.reduceShiftRight,Nat.reduceMod]
   (repeat (with_reducible refine And.intro ?_ ?_;focus (first | omega | (unfold I64;omega))))
   refine ⟨⟨i+1,h'⟩,by simp only;omega,?_⟩
   refine weakX [] (of_decide_eq_true rfl) (of_decide_eq_true rfl) ?_
   (simp only [vcW,vZ,Int.reduceEq,Int.reduceNe,Int.reduceLT,Int.reduceLE,Nat.reduceEqDiff,Nat.reduceAdd,reduceIte,reduceCtorEq,Nat.reduceLT,Nat.reduceLeDiff,Nat.reduceShiftRight,Nat.reduceMod])
   (repeat' first | exact trivial | (with_reducible first | exact RnB.fxB (ints_fxB _) | rfl | refine And.intro ?_ ?_) | (with_reducible (first | refine RnB.bb ?_ | refine RnB.nb ?_);simp only [vcW,vZ,Int.reduceEq,Int.reduceNe,Int.reduceLT,Int.reduceLE,Nat.reduceEqDiff,Nat.reduceAdd,reduceIte,reduceCtorEq,Nat.reduceLT,Nat.reduceLeDiff,Nat.reduceShiftRight,Nat.reduceMod]) | (with_reducible first | refine RnB.ii ?_ | refine RnB.app ?_) | (with_reducible refine RnB.fxB ?_;simp only [vcW,vZ,Int.reduceEq,Int.reduceNe,Int.reduceLT,Int.reduceLE,Nat.reduceEqDiff,Nat.reduceAdd,reduceIte,reduceCtorEq,Nat.reduceLT,Nat.reduceLeDiff,Nat.reduceShiftRight,Nat.reduceMod]) | omega)
  ·have hil:i=L.length:=by omega
   subst hil
   have hc1:¬ (L.length:Int)<L.length:=by omega
   rw [List.take_length]
   have hle1:=hle L.length
   rw [List.take_length] at hle1
   have hX:=text_s (sqN L) false (by unfold W128;omega)
   unfold wdA at hX ⊢
   simp only [hc1,vZ,Int.reduceEq,Int.reduceNe,Int.reduceLT,Int.reduceLE,Nat.reduceEqDiff,Nat.reduceAdd,reduceIte,reduceCtorEq,Nat.reduceLT,Nat.reduceLeDiff,Nat.reduceShiftRight,Nat.reduceMod]
   refine callS_of hX ?_
   simp only [vZ,Int.reduceEq,Int.reduceNe,Int.reduceLT,Int.reduceLE,Nat.reduceEqDiff,Nat.reduceAdd,reduceIte,reduceCtorEq,Nat.reduceLT,Nat.reduceLeDiff,Nat.reduceShiftRight,Nat.reduceMod]

def keptB (items l:List Int) (den:Int) (ch:List Int) (pc:Int):Bool:=decide ((l.sum * den - ch.sum * items.sum).natAbs * 100≤(l.sum * den).natAbs * pc.natAbs)
def ikE (items:List Int) (shifts:Int) (l:List Int) (den:Int) (ch:List Int) (pc:Int):Int:=if beE items shifts l den ch ≠ 0 then beE items shifts l den ch else if 0≤pc∧pc≤100 then 0 else 2
theorem FitIn.sums {items l:List Int} {shifts:Int} {ch:List Int} {den:Int} (F:FitIn items l shifts ch den):(sumOk l∧sumOk ch∧sumOk items)∧(-100000≤l.sum∧l.sum≤100000)∧(0≤ch.sum∧ch.sum≤5000000000000)∧(-600≤items.sum∧items.sum≤600) ∧
  (-100000000000000000≤l.sum * den∧l.sum * den≤100000000000000000)∧(-3000000000000000≤ch.sum * items.sum∧ch.sum * items.sum≤3000000000000000):=by
 have hl10:=F.l10
 have hi6:=F.i6
 have hc5:ch.length≤5:=by have:=F.cl;have:=F.s5;omega
 have a1:=sum_abs (m:=10000) (by omega) F.lb
 have a2:=sum_abs (m:=1000000000000) (by omega) F.cb2
 have a3:=sum_abs (m:=100) (by omega) F.ib
 have a4:0≤ch.sum:=by
  have:∀ {l:List Int},(∀ x ∈ l,0≤x)→0≤l.sum:=by
   intro l
   induction l with
   | nil=>intro _;decide
   | cons x l ih=>intro h;rw [List.sum_cons];have:=h x (by simp);have:=ih fun y hy=>h y (by simp [hy]);omega
  exact this fun x hx=>(F.cb x hx).1
 have hd:=F.db
 have b1:=mul_abs (s:=l.sum) (k:=den) (M:=100000) (K:=1000000000000) ⟨by omega,hd.2⟩ (by omega) (by omega)
 have b2:=mul_abs (s:=items.sum) (k:=ch.sum) (M:=600) (K:=5000000000000) ⟨a4,by omega⟩ (by omega) (by omega)
 rw [Int.mul_comm items.sum ch.sum] at b2
 exact ⟨⟨sumOk_of (by omega) (fun x hx=>by have:=F.lb x hx;omega),sumOk_of (by omega) F.cb2,sumOk_of (by omega) (fun x hx=>by have:=F.ib x hx;omega)⟩,by omega,by omega,by omega,by omega,by omega⟩
theorem IsKept_s (items:List Int) (shifts:Int) (l:List Int) (den:Int) (ch:List Int) (pc:Int) (h1:items.length<4000000000000000000) (h2:l.length<4000000000000000000) (h3:ch.length<4000000000000000000) :
  Sound Tryz.prog 66 [tplA items shifts,.sl (ints l),.agg [.int .i64 den,.sl (ints ch),.int .i64 pc]] (.tup [.bool (decide (ikE items shifts l den ch pc=0) && keptB items l den ch pc),.int .i64 (ikE items shifts l den ch pc)]):=by
 refine sound_W f_pulse_IsKept (Nat.le_of_ble_eq_true rfl) ?_
 have hB:=bothErr_s items shifts l den ch h1 h2 h3
 unfold tplA fitA at hB
 have hF:=first2_s (beE items shifts l den ch) (if 0≤pc∧pc≤100 then 0 else 2)
 have hv:(if beE items shifts l den ch ≠ 0 then beE items shifts l den ch else if 0≤pc∧pc≤100 then 0 else 2)=ikE items shifts l den ch pc:=rfl
 rw [hv] at hF
 have hU:=unless_s (decide (0≤pc∧pc≤100)) 2
 simp only [decide_eq_true_eq] at hU
 simp only [c_pulse_IsKept,tplA,vZ,Int.reduceEq,Int.reduceNe,Int.reduceLT,Int.reduceLE,Nat.reduceEqDiff,Nat.reduceAdd,reduceIte,reduceCtorEq,Nat.reduceLT,Nat.reduceLeDiff,Nat.reduceShiftRight,Nat.reduceMod]
 refine callS_of hB ?_
 simp only [vZ,Int.reduceEq,Int.reduceNe,Int.reduceLT,Int.reduceLE,Nat.reduceEqDiff,Nat.reduceAdd,reduceIte,reduceCtorEq,Nat.reduceLT,Nat.reduceLeDiff,Nat.reduceShiftRight,Nat.reduceMod]
 refine callS_of (within_s _ _ _) ?_
 simp only [vZ,Int.reduceEq,Int.reduceNe,Int.reduceLT,Int.reduceLE,Nat.reduceEqDiff,Nat.reduceAdd,reduceIte,reduceCtorEq,Nat.reduceLT,Nat.reduceLeDiff,Nat.reduceShiftRight,Nat.reduceMod]
 refine callS_of hU ?_
 simp only [vZ,Int.reduceEq,Int.reduceNe,Int.reduceLT,Int.reduceLE,Nat.reduceEqDiff,Nat.reduceAdd,reduceIte,reduceCtorEq,Nat.reduceLT,Nat.reduceLeDiff,Nat.reduceShiftRight,Nat.reduceMod]
 refine callS_of hF ?_
 by_cases hE:ikE items shifts l den ch pc=0
 case neg =>
  simp only [hE,vZ,Int.reduceEq,Int.reduceNe,Int.reduceLT,Int.reduceLE,Nat.reduceEqDiff,Nat.reduceAdd,reduceIte,reduceCtorEq,Nat.reduceLT,Nat.reduceLeDiff,Nat.reduceShiftRight,Nat.reduceMod]
  intro _ k hk;simp [refsL,refs,upd] at hk;subst hk;simp [upd]
 have hb0:beE items shifts l den ch=0:=by
  unfold ikE at hE
  split at hE
  ·rename_i h;exact absurd hE h
  ·omega
 have hpc:0≤pc∧pc≤100:=by
  unfold ikE at hE
  rw [if_neg (by omega)] at hE
  split at hE
  ·assumption
  ·cases hE
 have F:=beE_ok hb0
 obtain ⟨⟨s1,s2,s3⟩,r1,r2,r3,r4,r5⟩:=F.sums
 have hl10:=F.l10
 have hi6:=F.i6
 have hc5:ch.length≤5:=by have:=F.cl;have:=F.s5;omega
 have hS1:=sum_s l (by omega) s1
 have hS2:=sum_s ch (by omega) s2
 have hS3:=sum_s items (by omega) s3
 have hdb:=F.db
 have hk:keptB items l den ch pc=!decide ((l.sum * den).natAbs * pc.natAbs<(l.sum * den - ch.sum * items.sum).natAbs * 100):=by
  unfold keptB;rw [← decide_not];congr 1;exact propext ⟨fun h=>by omega,fun h=>by omega⟩
 have hW1:=pwideOf_s (l.sum * den - ch.sum * items.sum) (by unfold S63;omega)
 have hW2:=pwideOf_s (l.sum * den) (by unfold S63;omega)
 have hT1:=times_s (decide (l.sum * den - ch.sum * items.sum<0)) (l.sum * den - ch.sum * items.sum).natAbs 100 (by unfold S63;omega) (by unfold W128;have:(100:Int).natAbs=100:=rfl;rw [this];omega) (by unfold W128;omega)
 have hpn:pc.natAbs≤100:=by omega
 have hml:(l.sum * den).natAbs * pc.natAbs≤100000000000000000 * 100:=Nat.mul_le_mul (by omega) hpn
 have hT2:=times_s (decide (l.sum * den<0)) (l.sum * den).natAbs pc (by unfold S63;omega) (by unfold W128;omega) (by unfold W128;omega)
 have hL:=isLess_s (decide (l.sum * den<0) != decide (pc<0)) (decide (l.sum * den - ch.sum * items.sum<0)) ((l.sum * den).natAbs * pc.natAbs) ((l.sum * den - ch.sum * items.sum).natAbs * (100:Int).natAbs)
 have e100:(100:Int).natAbs=100:=rfl
 rw [e100] at hL hT1
 unfold wdA at hW1 hW2 hT1 hT2 hL
 simp only [hE,vZ,Int.reduceEq,Int.reduceNe,Int.reduceLT,Int.reduceLE,Nat.reduceEqDiff,Nat.reduceAdd,reduceIte,reduceCtorEq,Nat.reduceLT,Nat.reduceLeDiff,Nat.reduceShiftRight,Nat.reduceMod]
 refine ⟨by intro _ k hk;simp [refsL,refs,upd] at hk;subst hk;simp [upd],?_⟩
 refine callS_of hS1 ?_
 simp only [vZ,Int.reduceEq,Int.reduceNe,Int.reduceLT,Int.reduceLE,Nat.reduceEqDiff,Nat.reduceAdd,reduceIte,reduceCtorEq,Nat.reduceLT,Nat.reduceLeDiff,Nat.reduceShiftRight,Nat.reduceMod]
 (repeat (with_reducible refine And.intro ?_ ?_;focus (first | omega | (unfold I64;omega))))
 refine callS_of hS2 ?_
 simp only [vZ,Int.reduceEq,Int.reduceNe,Int.reduceLT,Int.reduceLE,Nat.reduceEqDiff,Nat.reduceAdd,reduceIte,reduceCtorEq,Nat.reduceLT,Nat.reduceLeDiff,Nat.reduceShiftRight,Nat.reduceMod]
 refine callS_of hS3 ?_
 simp only [vZ,Int.reduceEq,Int.reduceNe,Int.reduceLT,Int.reduceLE,Nat.reduceEqDiff,Nat.reduceAdd,reduceIte,reduceCtorEq,Nat.reduceLT,Nat.reduceLeDiff,Nat.reduceShiftRight,Nat.reduceMod]
 (repeat (with_reducible refine And.intro ?_ ?_;focus (first | omega | (unfold I64;omega))))
 refine callS_of hW1 ?_
 simp only [vZ,Int.reduceEq,Int.reduceNe,Int.reduceLT,Int.reduceLE,Nat.reduceEqDiff,Nat.reduceAdd,reduceIte,reduceCtorEq,Nat.reduceLT,Nat.reduceLeDiff,Nat.reduceShiftRight,Nat.reduceMod]
 refine callS_of hT1 ?_
 simp only [vZ,Int.reduceEq,Int.reduceNe,Int.reduceLT,Int.reduceLE,Nat.reduceEqDiff,Nat.reduceAdd,reduceIte,reduceCtorEq,Nat.reduceLT,Nat.reduceLeDiff,Nat.reduceShiftRight,Nat.reduceMod]
 (repeat (with_reducible refine And.intro ?_ ?_;focus (first | omega | (unfold I64;omega))))
 refine callS_of hW2 ?_
 simp only [vZ,Int.reduceEq,Int.reduceNe,Int.reduceLT,Int.reduceLE,Nat.reduceEqDiff,Nat.reduceAdd,reduceIte,reduceCtorEq,Nat.reduceLT,Nat.reduceLeDiff,Nat.reduceShiftRight,Nat.reduceMod]
 refine callS_of hT2 ?_
 simp only [vZ,Int.reduceEq,Int.reduceNe,Int.reduceLT,Int.reduceLE,Nat.reduceEqDiff,Nat.reduceAdd,reduceIte,reduceCtorEq,Nat.reduceLT,Nat.reduceLeDiff,Nat.reduceShiftRight,Nat.reduceMod]
 refine callS_of hL ?_
 simp only [hk,hE,vZ,Int.reduceEq,Int.reduceNe,Int.reduceLT,Int.reduceLE,Nat.reduceEqDiff,Nat.reduceAdd,reduceIte,reduceCtorEq,Nat.reduceLT,Nat.reduceLeDiff,Nat.reduceShiftRight,Nat.reduceMod]
end Go.Proofs.YtpaklfjlbocfcaaGreatDoor

/- Contracts of the reference: templates,items,the model,differences. By an AI agent;nothing here is trusted. -/
namespace Go.Proofs.YtpaklfjlbocfcaaGreatDoor
open Go.Av

theorem CopyTemplate_s (items:List Int) (shifts:Int) (hl:items.length≤1000000000):Sound Tryz.prog 58 [tplA items shifts] (tplA items shifts):=by
 refine sound_W f_ref02_CopyTemplate (Nat.le_of_ble_eq_true rfl) ?_
 simp only [c_ref02_CopyTemplate,tplA,vZ,Int.reduceEq,Int.reduceNe,Int.reduceLT,Int.reduceLE,Nat.reduceEqDiff,Nat.reduceAdd,reduceIte,reduceCtorEq,Nat.reduceLT,Nat.reduceLeDiff,Nat.reduceShiftRight,Nat.reduceMod]
 refine callS_of (CopyInts_s items hl) ?_
 simp only [vZ,Int.reduceEq,Int.reduceNe,Int.reduceLT,Int.reduceLE,Nat.reduceEqDiff,Nat.reduceAdd,reduceIte,reduceCtorEq,Nat.reduceLT,Nat.reduceLeDiff,Nat.reduceShiftRight,Nat.reduceMod]
theorem TemplateErr_s (items:List Int) (shifts:Int):Sound Tryz.prog 54 [tplA items shifts] (.int .i64 (teE items shifts)):=by
 refine sound_W f_ref02_TemplateErr (Nat.le_of_ble_eq_true rfl) ?_
 by_cases h0:items.length=0
 ·have he:teE items shifts=10:=by unfold teE;rw [if_pos h0]
  have h0':(items.length:Int)=0:=by omega
  rw [he]
  simp only [c_ref02_TemplateErr,tplA,h0',vZ,Int.reduceEq,Int.reduceNe,Int.reduceLT,Int.reduceLE,Nat.reduceEqDiff,Nat.reduceAdd,reduceIte,reduceCtorEq,Nat.reduceLT,Nat.reduceLeDiff,Nat.reduceShiftRight,Nat.reduceMod]
 have h0':¬ (items.length:Int)=0:=by omega
 by_cases h6:6<items.length
 ·have he:teE items shifts=8:=by unfold teE;rw [if_neg h0,if_pos h6]
  have h6':(6:Int)<items.length:=by omega
  rw [he]
  simp only [c_ref02_TemplateErr,tplA,h0',h6',vZ,Int.reduceEq,Int.reduceNe,Int.reduceLT,Int.reduceLE,Nat.reduceEqDiff,Nat.reduceAdd,reduceIte,reduceCtorEq,Nat.reduceLT,Nat.reduceLeDiff,Nat.reduceShiftRight,Nat.reduceMod]
 have h6':¬ (6:Int)<items.length:=by omega
 simp only [c_ref02_TemplateErr,tplA,h0',h6',vZ,Int.reduceEq,Int.reduceNe,Int.reduceLT,Int.reduceLE,Nat.reduceEqDiff,Nat.reduceAdd,reduceIte,reduceCtorEq,Nat.reduceLT,Nat.reduceLeDiff,Nat.reduceShiftRight,Nat.reduceMod]
 refine W_loop (t:=.mk) (α:=PSigma fun i:Nat=>i≤items.length∧(items.take i).all itm=true) (fun ⟨i,_⟩=>(envOf [(1,.ptr 1 0 0),(3,.bool ((items.take i).all fun n=>decide (n=0))),(4,.int .i64 i)],stOf [(1,⟨102,2,[.agg [.sl (ints items),.int .i64 shifts]]⟩)])) (fun p=>items.length - p.1) ⟨0,Nat.zero_le _,rfl⟩ ?_ (fun ⟨i,hi,hn⟩=>?_)
 ·refine weakX [] (of_decide_eq_true rfl) (of_decide_eq_true rfl) ?_
  (simp only [vcW,vZ,Int.reduceEq,Int.reduceNe,Int.reduceLT,Int.reduceLE,Nat.reduceEqDiff,Nat.reduceAdd,reduceIte,reduceCtorEq,Nat.reduceLT,Nat.reduceLeDiff,Nat.reduceShiftRight,Nat.reduceMod])
  (repeat' first | exact trivial | (with_reducible first | exact RnB.fxB (ints_fxB _) | rfl | refine And.intro ?_ ?_) | (with_reducible (first | refine RnB.bb ?_ | refine RnB.nb ?_);simp only [vcW,vZ,Int.reduceEq,Int.reduceNe,Int.reduceLT,Int.reduceLE,Nat.reduceEqDiff,Nat.reduceAdd,reduceIte,reduceCtorEq,Nat.reduceLT,Nat.reduceLeDiff,Nat.reduceShiftRight,Nat.reduceMod]) | (with_reducible first | refine RnB.ii ?_ | refine RnB.app ?_) | (with_reducible refine RnB.fxB ?_;simp only [vcW,vZ,Int.reduceEq,Int.reduceNe,Int.reduceLT,Int.reduceLE,Nat.reduceEqDiff,Nat.reduceAdd,reduceIte,reduceCtorEq,Nat.reduceLT,Nat.reduceLeDiff,Nat.reduceShiftRight,Nat.reduceMod]) | omega)
 ·dsimp only at hi hn ⊢
  by_cases h':i<items.length
  ·have h3:(i:Int)<items.length:=by omega
   have ht:∀ p:Int→Bool,(items.take (i+1)).all p=((items.take i).all p && p items[i]):=fun p=>by rw [List.take_succ_eq_append_getElem h',List.all_append];simp
   by_cases hw : -100≤items[i]∧items[i]≤100
   ·have hitm:itm items[i]=true:=by unfold itm;simpa using hw
    cases hz:(items.take i).all fun n=>decide (n=0)
    all_goals
     have hz1:=ht fun n=>decide (n=0)
     rw [hz] at hz1
     try rw [Bool.true_and] at hz1
     try rw [Bool.false_and] at hz1
     simp only [h3,ints_get items i h',vZ,Int.reduceEq,Int.reduceNe,Int.reduceLT,Int.reduceLE,Nat.reduceEqDiff,Nat.reduceAdd,reduceIte,reduceCtorEq,Nat.reduceLT,Nat.reduceLeDiff,Nat.reduceShiftRight,Nat.reduceMod]
     (repeat (with_reducible refine And.intro ?_ ?_;focus (first | omega | (unfold I64;omega))))
     refine callS_of (Within_s _ _ _) ?_
     simp only [hw,ints_get items i h',vZ,Int.reduceEq,Int.reduceNe,Int.reduceLT,Int.reduceLE,Nat.reduceEqDiff,Nat.reduceAdd,reduceIte,reduceCtorEq,Nat.reduceLT,Nat.reduceLeDiff,Nat.reduceShiftRight,Nat.reduceMod]
     (repeat (with_reducible refine And.intro ?_ ?_;focus (first | omega | (unfold I64;omega))))
     refine ⟨⟨i+1,h',by rw [ht,hn,hitm];rfl⟩,by simp only;omega,?_⟩
     refine weakX [] (of_decide_eq_true rfl) (of_decide_eq_true rfl) ?_
     (simp only [hz1,vcW,vZ,Int.reduceEq,Int.reduceNe,Int.reduceLT,Int.reduceLE,Nat.reduceEqDiff,Nat.reduceAdd,reduceIte,reduceCtorEq,Nat.reduceLT,Nat.reduceLeDiff,Nat.reduceShiftRight,Nat.reduceMod])
     (repeat' first | exact trivial | (with_reducible first | exact RnB.fxB (ints_fxB _) | rfl | refine And.intro ?_ ?_) | (with_reducible (first | refine RnB.bb ?_ | refine RnB.nb ?_);simp only [vcW,vZ,Int.reduceEq,Int.reduceNe,Int.reduceLT,Int.reduceLE,Nat.reduceEqDiff,Nat.reduceAdd,reduceIte,reduceCtorEq,Nat.reduceLT,Nat.reduceLeDiff,Nat.reduceShiftRight,Nat.reduceMod]) | (with_reducible first | refine RnB.ii ?_ | refine RnB.app ?_) | (with_reducible refine RnB.fxB ?_;simp only [vcW,vZ,Int.reduceEq,Int.reduceNe,Int.reduceLT,Int.reduceLE,Nat.reduceEqDiff,Nat.reduceAdd,reduceIte,reduceCtorEq,Nat.reduceLT,Nat.reduceLeDiff,Nat.reduceShiftRight,Nat.reduceMod]) | omega)
   ·have hitm:itm items[i]=false:=by unfold itm;simpa using hw
    have he:teE items shifts=2:=by
     unfold teE
     rw [if_neg h0,if_neg h6,if_pos]
     rw [List.all_eq_false]
     exact ⟨items[i],List.getElem_mem h',by rw [hitm];decide⟩
    simp only [h3,ints_get items i h',vZ,Int.reduceEq,Int.reduceNe,Int.reduceLT,Int.reduceLE,Nat.reduceEqDiff,Nat.reduceAdd,reduceIte,reduceCtorEq,Nat.reduceLT,Nat.reduceLeDiff,Nat.reduceShiftRight,Nat.reduceMod]
    (repeat (with_reducible refine And.intro ?_ ?_;focus (first | omega | (unfold I64;omega))))
    refine callS_of (Within_s _ _ _) ?_
    simp only [hw,he,vZ,Int.reduceEq,Int.reduceNe,Int.reduceLT,Int.reduceLE,Nat.reduceEqDiff,Nat.reduceAdd,reduceIte,reduceCtorEq,Nat.reduceLT,Nat.reduceLeDiff,Nat.reduceShiftRight,Nat.reduceMod]
  ·have h3:¬ (i:Int)<items.length:=by omega
   have hil:i=items.length:=by omega
   subst hil
   rw [List.take_length] at *
   cases hz:items.all fun n=>decide (n=0)
   ·simp only [h3,vZ,Int.reduceEq,Int.reduceNe,Int.reduceLT,Int.reduceLE,Nat.reduceEqDiff,Nat.reduceAdd,reduceIte,reduceCtorEq,Nat.reduceLT,Nat.reduceLeDiff,Nat.reduceShiftRight,Nat.reduceMod]
    refine callS_of (Within_s _ _ _) ?_
    by_cases hs:1≤shifts∧shifts≤5
    ·have he:teE items shifts=0:=by unfold teE;rw [if_neg h0,if_neg h6,if_neg (by rw [hn];decide),if_neg (by rw [hz];decide),if_pos hs]
     simp only [hs,he,vZ,Int.reduceEq,Int.reduceNe,Int.reduceLT,Int.reduceLE,Nat.reduceEqDiff,Nat.reduceAdd,reduceIte,reduceCtorEq,Nat.reduceLT,Nat.reduceLeDiff,Nat.reduceShiftRight,Nat.reduceMod]
    ·have he:teE items shifts=2:=by unfold teE;rw [if_neg h0,if_neg h6,if_neg (by rw [hn];decide),if_neg (by rw [hz];decide),if_neg hs]
     simp only [hs,he,vZ,Int.reduceEq,Int.reduceNe,Int.reduceLT,Int.reduceLE,Nat.reduceEqDiff,Nat.reduceAdd,reduceIte,reduceCtorEq,Nat.reduceLT,Nat.reduceLeDiff,Nat.reduceShiftRight,Nat.reduceMod]
   ·have he:teE items shifts=11:=by unfold teE;rw [if_neg h0,if_neg h6,if_neg (by rw [hn];decide),if_pos hz]
    simp only [h3,he,vZ,Int.reduceEq,Int.reduceNe,Int.reduceLT,Int.reduceLE,Nat.reduceEqDiff,Nat.reduceAdd,reduceIte,reduceCtorEq,Nat.reduceLT,Nat.reduceLeDiff,Nat.reduceShiftRight,Nat.reduceMod]
def itI (items:List Int) (z:Int):Int:=if 0≤z∧z≤(items.length:Int) - 1 then items.getD z.toNat 0 else 0
theorem itI_nat (items:List Int) (n k:Nat):itI items ((n:Int) - k)=Lin.itm items n k:=by
 unfold itI Lin.itm
 by_cases h:k≤n∧n - k<items.length
 ·rw [if_pos h,if_pos (by omega)];congr 1;omega
 ·rw [if_neg h,if_neg (by omega)]
theorem item_s (items:List Int) (shifts z:Int) (hl:items.length<1000000):Sound Tryz.prog 123 [tplA items shifts,.int .i64 z] (.int .i64 (itI items z)):=by
 refine sound_W f_ref02_item (Nat.le_of_ble_eq_true rfl) ?_
 simp only [c_ref02_item,tplA,vZ,Int.reduceEq,Int.reduceNe,Int.reduceLT,Int.reduceLE,Nat.reduceEqDiff,Nat.reduceAdd,reduceIte,reduceCtorEq,Nat.reduceLT,Nat.reduceLeDiff,Nat.reduceShiftRight,Nat.reduceMod]
 (repeat (with_reducible refine And.intro ?_ ?_;focus (first | omega | (unfold I64;omega))))
 refine callS_of (Within_s _ _ _) ?_
 by_cases h:0≤z∧z≤(items.length:Int) - 1
 ·have hz:z.toNat<items.length:=by omega
  have he:itI items z=items[z.toNat]:=by unfold itI;rw [if_pos h,getD_at hz]
  simp only [h,ints_get items z.toNat hz,he,vZ,Int.reduceEq,Int.reduceNe,Int.reduceLT,Int.reduceLE,Nat.reduceEqDiff,Nat.reduceAdd,reduceIte,reduceCtorEq,Nat.reduceLT,Nat.reduceLeDiff,Nat.reduceShiftRight,Nat.reduceMod]
 ·have he:itI items z=0:=by unfold itI;rw [if_neg h]
  simp only [h,he,vZ,Int.reduceEq,Int.reduceNe,Int.reduceLT,Int.reduceLE,Nat.reduceEqDiff,Nat.reduceAdd,reduceIte,reduceCtorEq,Nat.reduceLT,Nat.reduceLeDiff,Nat.reduceShiftRight,Nat.reduceMod]
end Go.Proofs.YtpaklfjlbocfcaaGreatDoor

/- Contracts of the reference: the model,differences,the accepted fit,squares. By an AI agent;nothing here is trusted. -/
namespace Go.Proofs.YtpaklfjlbocfcaaGreatDoor
open Go.Av

theorem mdT_itm (items ch:List Int) (n k:Nat):mdT items ch n (k+1)=mdT items ch n k+ch.getD k 0 * Lin.itm items n k:=by
 rw [mdT]
 unfold Lin.itm
 split
 ·rfl
 ·rw [Int.mul_zero]
theorem itm_bd {items:List Int} (hi:∀ x ∈ items, -100≤x∧x≤100) (n k:Nat) : -100≤Lin.itm items n k∧Lin.itm items n k≤100:=by
 unfold Lin.itm
 split
 ·exact it_bd hi _
 ·omega
theorem itm_lo {items:List Int} {n k:Nat} (h:n<k):Lin.itm items n k=0:=by unfold Lin.itm;rw [if_neg (by omega)]
theorem itm_hi {items:List Int} {n k:Nat} (h:k+items.length≤n):Lin.itm items n k=0:=by unfold Lin.itm;rw [if_neg (by omega)]
theorem ag_sum (items l:List Int) (k:Nat):∀ N,Lin.smI N (fun n=>l.getD n 0 * Lin.itm items n k)=if N≤k then 0 else if N≤k+items.length then agT items l k (N - k) else agT items l k items.length
 | 0=>by rw [if_pos (by omega)];rfl
 | N+1=>by
  rw [Lin.smI,ag_sum items l k N]
  by_cases h1:N<k
  ·rw [if_pos (by omega),if_pos (by omega),itm_lo h1];omega
  ·by_cases h2:N<k+items.length
   ·rw [if_neg (show ¬ N+1≤k by omega),if_pos (show N+1≤k+items.length by omega),show N+1 - k=(N - k)+1 by omega,agT]
    have e:l.getD N 0 * Lin.itm items N k=items.getD (N - k) 0 * l.getD (k+(N - k)) 0:=by
     unfold Lin.itm;rw [if_pos ⟨by omega,by omega⟩,Int.mul_comm,show k+(N - k)=N by omega]
    rw [e]
    congr 1
    by_cases h3:N≤k
    ·rw [if_pos h3,show N - k=0 by omega];rfl
    ·rw [if_neg h3,if_pos (by omega)]
   ·rw [if_neg (show ¬ N+1≤k by omega),if_neg (show ¬ N+1≤k+items.length by omega),itm_hi (by omega),Int.mul_zero,Int.add_zero]
    by_cases h3:N≤k
    ·have:items.length=0:=by omega
     rw [if_pos h3,this];rfl
    ·rw [if_neg h3]
     by_cases h4:N≤k+items.length
     ·rw [if_pos h4];congr 1;omega
     ·rw [if_neg h4]
theorem mdA_eq (items ch:List Int):mdA items ch=(List.range (mdA items ch).length).map fun n=>mdT items ch n ch.length:=by
 apply List.ext_getElem
 ·simp
 ·intro n h1 h2;rw [mdA_get];simp
def mdU (items ch:List Int) (n:Nat):List Int:=(List.range n).map fun n=>mdT items ch n ch.length
theorem mdU_succ (items ch:List Int) (n:Nat):mdU items ch (n+1)=mdU items ch n ++ [mdT items ch n ch.length]:=by unfold mdU;rw [List.range_succ,List.map_append];rfl
theorem mdU_len (items ch:List Int) (n:Nat):(mdU items ch n).length=n:=by simp [mdU]
set_option maxHeartbeats 2000000 in
theorem Model_o {items ch:List Int} {shifts:Int} {C:Int} (h1:1≤items.length) (h6:items.length≤6) (hs:(ch.length:Int)=shifts) (h8:1≤ch.length∧ch.length≤8) (hC:0≤C∧C≤1000000000000) (hi:∀ x ∈ items, -100≤x∧x≤100) (hc:∀ x ∈ ch, -C≤x∧x≤C) :
  SoundO Tryz.prog 59 [tplA items shifts,.sl (ints ch)] 3 1 (ints (mdA items ch)):=by
 refine soundO_W f_ref02_Model (Nat.le_of_ble_eq_true rfl) (by decide) ?_
 subst hs
 have hmax:=maxLen_big
 have hb:∀ n k:Nat,k≤8 → -900000000000000≤mdT items ch n k∧mdT items ch n k≤900000000000000:=fun n k hk=>by
  have h:=mdT_bd hC.1 hi hc n k
  have h2:100 * C * (k:Int)≤100000000000000 * 8:=Int.mul_le_mul (by omega) (by omega) (by omega) (by omega)
  omega
 obtain ⟨M,hM⟩:∃ M,M=ch.length+items.length - 1:=⟨_,rfl⟩
 have hMi:(ch.length:Int)+items.length - 1=(M:Int):=by omega
 simp only [c_ref02_Model,tplA,vZ,Int.reduceEq,Int.reduceNe,Int.reduceLT,Int.reduceLE,Nat.reduceEqDiff,Nat.reduceAdd,reduceIte,reduceCtorEq,Nat.reduceLT,Nat.reduceLeDiff,Nat.reduceShiftRight,Nat.reduceMod]
 refine W_loop (t:=.mk) (α:=PSigma fun i:Nat=>i≤M) (fun ⟨i,_⟩=>(envOf [(1,.sl (ints ch)),(2,.ptr 2 0 0),(5,.buf 100 i),(6,.int .i64 i)],stOf [(2,⟨102,2,[.agg [.sl (ints items),.int .i64 ch.length]]⟩),(100,⟨3,1,ints (mdU items ch i)⟩)])) (fun x=>M - x.1) ⟨0,Nat.zero_le _⟩ ?_ (fun ⟨i,hin⟩=>?_)
 ·have z:ints (mdU items ch 0)=[]:=rfl
  refine weakX [(100,none)] (of_decide_eq_true rfl) (of_decide_eq_true rfl) ?_
  (simp only [z,vcW,vZ,Int.reduceEq,Int.reduceNe,Int.reduceLT,Int.reduceLE,Nat.reduceEqDiff,Nat.reduceAdd,reduceIte,reduceCtorEq,Nat.reduceLT,Nat.reduceLeDiff,Nat.reduceShiftRight,Nat.reduceMod])
  (repeat' first | exact trivial | (with_reducible first | exact RnB.fxB (ints_fxB _) | rfl | refine And.intro ?_ ?_) | (with_reducible (first | refine RnB.bb ?_ | refine RnB.nb ?_);simp only [vcW,vZ,Int.reduceEq,Int.reduceNe,Int.reduceLT,Int.reduceLE,Nat.reduceEqDiff,Nat.reduceAdd,reduceIte,reduceCtorEq,Nat.reduceLT,Nat.reduceLeDiff,Nat.reduceShiftRight,Nat.reduceMod]) | (with_reducible first | refine RnB.ii ?_ | refine RnB.app ?_) | (with_reducible refine RnB.fxB ?_;simp only [vcW,vZ,Int.reduceEq,Int.reduceNe,Int.reduceLT,Int.reduceLE,Nat.reduceEqDiff,Nat.reduceAdd,reduceIte,reduceCtorEq,Nat.reduceLT,Nat.reduceLeDiff,Nat.reduceShiftRight,Nat.reduceMod]) | omega)
 ·dsimp only at hin ⊢
  have hlU:=mdU_len items ch i
  by_cases h':i<M
  ·have hc1:(i:Int)<M:=by omega
   simp only [hMi,hc1,vZ,Int.reduceEq,Int.reduceNe,Int.reduceLT,Int.reduceLE,Nat.reduceEqDiff,Nat.reduceAdd,reduceIte,reduceCtorEq,Nat.reduceLT,Nat.reduceLeDiff,Nat.reduceShiftRight,Nat.reduceMod]
   (repeat (with_reducible refine And.intro ?_ ?_;focus (first | omega | (unfold I64;omega))))
   refine W_loop (t:=.mk) (α:=PSigma fun k:Nat=>k≤ch.length) (fun ⟨k,_⟩=>(envOf [(1,.sl (ints ch)),(2,.ptr 2 0 0),(5,.buf 100 i),(6,.int .i64 i),(7,.int .i64 (mdT items ch i k)),(8,.int .i64 k)],stOf [(2,⟨102,2,[.agg [.sl (ints items),.int .i64 ch.length]]⟩),(100,⟨3,1,ints (mdU items ch i)⟩)])) (fun x=>ch.length - x.1) ⟨0,Nat.zero_le _⟩ ?_ (fun ⟨k,hk⟩=>?_)
   ·have z:mdT items ch i 0=0:=rfl
    refine weakX [(100,some 100)] (of_decide_eq_true rfl) (of_decide_eq_true rfl) ?_
    (simp only [z,vcW,vZ,Int.reduceEq,Int.reduceNe,Int.reduceLT,Int.reduceLE,Nat.reduceEqDiff,Nat.reduceAdd,reduceIte,reduceCtorEq,Nat.reduceLT,Nat.reduceLeDiff,Nat.reduceShiftRight,Nat.reduceMod])
    (repeat' first | exact trivial | (with_reducible first | exact RnB.fxB (ints_fxB _) | rfl | refine And.intro ?_ ?_) | (with_reducible (first | refine RnB.bb ?_ | refine RnB.nb ?_);simp only [vcW,vZ,Int.reduceEq,Int.reduceNe,Int.reduceLT,Int.reduceLE,Nat.reduceEqDiff,Nat.reduceAdd,reduceIte,reduceCtorEq,Nat.reduceLT,Nat.reduceLeDiff,Nat.reduceShiftRight,Nat.reduceMod]) | (with_reducible first | refine RnB.ii ?_ | refine RnB.app ?_) | (with_reducible refine RnB.fxB ?_;simp only [vcW,vZ,Int.reduceEq,Int.reduceNe,Int.reduceLT,Int.reduceLE,Nat.reduceEqDiff,Nat.reduceAdd,reduceIte,reduceCtorEq,Nat.reduceLT,Nat.reduceLeDiff,Nat.reduceShiftRight,Nat.reduceMod]) | omega)
   ·dsimp only at hk ⊢
    by_cases h2:k<ch.length
    ·have hc2:(k:Int)<ch.length:=by omega
     have hI:=item_s items (ch.length:Int) ((i:Int) - k) (by omega)
     rw [itI_nat] at hI
     unfold tplA at hI
     have hn:=mdT_itm items ch i k
     rw [getD_at h2] at hn
     have b1:=hb i k (by omega)
     have b2:=hb i (k+1) (by omega)
     have b3:=itm_bd hi i k
     have b4:=hc ch[k] (List.getElem_mem h2)
     have b5:=prod_bd hC.1 b3 b4
     rw [Int.mul_comm (Lin.itm items i k)] at b5
     simp only [hc2,ints_get ch k h2,vZ,Int.reduceEq,Int.reduceNe,Int.reduceLT,Int.reduceLE,Nat.reduceEqDiff,Nat.reduceAdd,reduceIte,reduceCtorEq,Nat.reduceLT,Nat.reduceLeDiff,Nat.reduceShiftRight,Nat.reduceMod]
     (repeat (with_reducible refine And.intro ?_ ?_;focus (first | omega | (unfold I64;omega))))
     refine callS_of hI ?_
     simp only [vZ,Int.reduceEq,Int.reduceNe,Int.reduceLT,Int.reduceLE,Nat.reduceEqDiff,Nat.reduceAdd,reduceIte,reduceCtorEq,Nat.reduceLT,Nat.reduceLeDiff,Nat.reduceShiftRight,Nat.reduceMod]
     (repeat (with_reducible refine And.intro ?_ ?_;focus (first | omega | (unfold I64;omega))))
     refine ⟨⟨k+1,h2⟩,by simp only;omega,?_⟩
     refine weakX [(100,some 100)] (of_decide_eq_true rfl) (of_decide_eq_true rfl) ?_
     (simp only [hn,vcW,vZ,Int.reduceEq,Int.reduceNe,Int.reduceLT,Int.reduceLE,Nat.reduceEqDiff,Nat.reduceAdd,reduceIte,reduceCtorEq,Nat.reduceLT,Nat.reduceLeDiff,Nat.reduceShiftRight,Nat.reduceMod])
     (repeat' first | exact trivial | (with_reducible first | exact RnB.fxB (ints_fxB _) | rfl | refine And.intro ?_ ?_) | (with_reducible (first | refine RnB.bb ?_ | refine RnB.nb ?_);simp only [vcW,vZ,Int.reduceEq,Int.reduceNe,Int.reduceLT,Int.reduceLE,Nat.reduceEqDiff,Nat.reduceAdd,reduceIte,reduceCtorEq,Nat.reduceLT,Nat.reduceLeDiff,Nat.reduceShiftRight,Nat.reduceMod]) | (with_reducible first | refine RnB.ii ?_ | refine RnB.app ?_) | (with_reducible refine RnB.fxB ?_;simp only [vcW,vZ,Int.reduceEq,Int.reduceNe,Int.reduceLT,Int.reduceLE,Nat.reduceEqDiff,Nat.reduceAdd,reduceIte,reduceCtorEq,Nat.reduceLT,Nat.reduceLeDiff,Nat.reduceShiftRight,Nat.reduceMod]) | omega)
    ·have hkl:k=ch.length:=by omega
     subst hkl
     have hc2:¬ (ch.length:Int)<ch.length:=by omega
     have hia:ints (mdU items ch (i+1))=ints (mdU items ch i) ++ [.int .i64 (mdT items ch i ch.length)]:=by rw [mdU_succ,ints_append];rfl
     simp only [hc2,ints_length,hlU,vZ,Int.reduceEq,Int.reduceNe,Int.reduceLT,Int.reduceLE,Nat.reduceEqDiff,Nat.reduceAdd,reduceIte,reduceCtorEq,Nat.reduceLT,Nat.reduceLeDiff,Nat.reduceShiftRight,Nat.reduceMod]
     (repeat (with_reducible refine And.intro ?_ ?_;focus (first | omega | (unfold I64;omega))))
     refine ⟨⟨i+1,h'⟩,by simp only;omega,?_⟩
     refine weakX [(100,some 41)] (of_decide_eq_true rfl) (of_decide_eq_true rfl) ?_
     (simp only [hia,ints_length,hlU,vcW,vZ,Int.reduceEq,Int.reduceNe,Int.reduceLT,Int.reduceLE,Nat.reduceEqDiff,Nat.reduceAdd,reduceIte,reduceCtorEq,Nat.reduceLT,Nat.reduceLeDiff,Nat.reduceShiftRight,Nat.reduceMod])
     (repeat' first | exact trivial | (with_reducible first | exact RnB.fxB (ints_fxB _) | rfl | refine And.intro ?_ ?_) | (with_reducible (first | refine RnB.bb ?_ | refine RnB.nb ?_);simp only [vcW,vZ,Int.reduceEq,Int.reduceNe,Int.reduceLT,Int.reduceLE,Nat.reduceEqDiff,Nat.reduceAdd,reduceIte,reduceCtorEq,Nat.reduceLT,Nat.reduceLeDiff,Nat.reduceShiftRight,Nat.reduceMod]) | (with_reducible first | refine RnB.ii ?_ | refine RnB.app ?_) | (with_reducible refine RnB.fxB ?_;simp only [vcW,vZ,Int.reduceEq,Int.reduceNe,Int.reduceLT,Int.reduceLE,Nat.reduceEqDiff,Nat.reduceAdd,reduceIte,reduceCtorEq,Nat.reduceLT,Nat.reduceLeDiff,Nat.reduceShiftRight,Nat.reduceMod]) | omega)
     all_goals first | exact hia.symm | exact RnB.fxB (by rw [← hia];exact ints_fxB _) | (rw [ints_append];rfl)
  ·have hil:i=M:=by omega
   subst hil
   have hc1:¬ (i:Int)<i:=by omega
   have hE:mdU items ch i=mdA items ch:=by
    have hl:(mdA items ch).length=i:=by rw [mdA_len];exact hM.symm
    rw [mdA_eq,hl];rfl
   have hE2:i=(ints (mdA items ch)).length:=by rw [ints_length,← hE,mdU_len]
   simp only [hMi,hc1,oEnd_n,oEnd_r,hE,vZ,Int.reduceEq,Int.reduceNe,Int.reduceLT,Int.reduceLE,Nat.reduceEqDiff,Nat.reduceAdd,reduceIte,reduceCtorEq,Nat.reduceLT,Nat.reduceLeDiff,Nat.reduceShiftRight,Nat.reduceMod]
   refine ⟨by unfold I64;omega,by unfold I64;omega,?_⟩
   exact ownV_i 100 i rfl hE2 rfl (Go.Av.ints_imm _)
theorem Model_s {items ch:List Int} {shifts:Int} {C:Int} (h1:1≤items.length) (h6:items.length≤6) (hs:(ch.length:Int)=shifts) (h8:1≤ch.length∧ch.length≤8) (hC:0≤C∧C≤1000000000000) (hi:∀ x ∈ items, -100≤x∧x≤100) (hc:∀ x ∈ ch, -C≤x∧x≤C) :
  Sound Tryz.prog 59 [tplA items shifts,.sl (ints ch)] (.sl (ints (mdA items ch))):=SoundO.sl (Model_o h1 h6 hs h8 hC hi hc) (ints_immM _)
end Go.Proofs.YtpaklfjlbocfcaaGreatDoor

/- Contracts: wide numbers divided,rounded down. By an AI agent;nothing here is trusted. -/
namespace Go.Proofs.YtpaklfjlbocfcaaGreatDoor
open Go.Av

end Go.Proofs.YtpaklfjlbocfcaaGreatDoor

/- Contracts: sizes and divisors of wide numbers. By an AI agent;nothing here is trusted. -/
namespace Go.Proofs.YtpaklfjlbocfcaaGreatDoor
open Go.Av

end Go.Proofs.YtpaklfjlbocfcaaGreatDoor

/- Contracts: ratios in lowest terms. By an AI agent;nothing here is trusted. -/
namespace Go.Proofs.YtpaklfjlbocfcaaGreatDoor
open Go.Av

end Go.Proofs.YtpaklfjlbocfcaaGreatDoor

/- Contracts: ratios added,multiplied,compared. By an AI agent;nothing here is trusted. -/
namespace Go.Proofs.YtpaklfjlbocfcaaGreatDoor
open Go.Av

end Go.Proofs.YtpaklfjlbocfcaaGreatDoor

/- Ratios of fractions;lowest terms,in plain Lean. By an AI agent;nothing here is trusted. -/
namespace Go.Proofs.YtpaklfjlbocfcaaGreatDoor
open Go.Av

end Go.Proofs.YtpaklfjlbocfcaaGreatDoor

/- Contracts: ratios as rational numbers. By an AI agent;nothing here is trusted. -/
namespace Go.Proofs.YtpaklfjlbocfcaaGreatDoor
open Go.Av

end Go.Proofs.YtpaklfjlbocfcaaGreatDoor

/- Contracts of the reference: the accepted fit,squares,digits,what is kept. By an AI agent;nothing here is trusted. -/
namespace Go.Proofs.YtpaklfjlbocfcaaGreatDoor
open Go.Av

theorem smI_ag {items l:List Int} {k N:Nat} (h:k+items.length≤N) (h1:1≤items.length):Lin.smI N (fun n=>l.getD n 0 * Lin.itm items n k)=agT items l k items.length:=by
 rw [ag_sum,if_neg (by omega)]
 by_cases e:N≤k+items.length
 ·rw [if_pos e,show N - k=items.length by omega]
 ·rw [if_neg e]
end Go.Proofs.YtpaklfjlbocfcaaGreatDoor

/- The problem of a template and samples. By an AI agent;nothing here is trusted. -/
namespace Go.Proofs.YtpaklfjlbocfcaaGreatDoor
open Go.Av

section
variable {s s':Store} {f:Nat→Option Nat} {ty sz:Nat}
theorem keyOf_ne {l:List (Nat × Option Nat × Blk)} {z:Nat} (h:(l.all fun p=>p.2.1 != some z)=true):∀ k',Av.keyOf l k' ≠ some z:=by
 induction l with
 | nil=>intro k' h2;cases h2
 | cons p l ih =>
  intro k' h2
  rw [List.all_cons,Bool.and_eq_true] at h
  obtain ⟨a,o,B⟩:=p
  unfold Av.keyOf at h2
  split at h2
  ·subst h2;simp at h
  ·exact ih h.2 k' h2
theorem RnB.snocX {a a':List AV} {x x':AV} (h1:RnB s s' f ⟨ty,sz,a⟩ ⟨ty,sz,a'⟩) (h2:(cellsOf x').length=(cellsOf x).length∧cellsOk x'∧∀ (o:Nat) (c c':AV),(cellsOf x)[o]?=some c→(cellsOf x')[o]?=some c'→Rn s s' f c c') :
  RnB s s' f ⟨ty,sz,a ++ [x]⟩ ⟨ty,sz,a' ++ [x']⟩:=by
 obtain ⟨_,_,g3,g4⟩:=h1
 simp only at g3 g4
 refine ⟨rfl,rfl,by simp [g3],fun i y y' k1 k2=>?_⟩
 simp only at k1 k2
 by_cases hi:i<a.length
 ·rw [List.getElem?_append_left hi] at k1
  rw [List.getElem?_append_left (by omega)] at k2
  exact g4 i y y' k1 k2
 ·have hi':i=a.length:=by
   have:=(List.getElem?_eq_some_iff.1 k1).1
   simp at this;omega
  rw [List.getElem?_append_right (by omega),show i - a.length=0 by omega] at k1
  rw [List.getElem?_append_right (by omega),show i - a'.length=0 by omega] at k2
  cases k1;cases k2
  exact h2
theorem RnB.snocZ {R:List (List Int)} {r:List Int} {k n t1:Nat} {es:List AV} (hs:s k=some (some ⟨t1,1,ints r⟩)) (hn:n=r.length) (hf:∀ k',f k' ≠ some k) (he:es=lls (R ++ [r])) :
  RnB s s' f ⟨ty,sz,lls R ++ [.buf k n]⟩ ⟨ty,sz,es⟩:=by
 subst he hn
 rw [← lls_snoc]
 refine RnB.snocX (RnB.fxB (lls_fxB R)) ⟨rfl,fun d hd=>?_,fun o d d' k1 k2=>?_⟩
 ·simp only [cellsOf,List.mem_cons,List.not_mem_nil,or_false] at hd
  subst hd;rfl
 ·match o with
  | 0 =>
   simp [cellsOf] at k1 k2;subst k1;subst k2
   have h:=Rn.fz (s':=s') (f:=f) k r.length _ hs (by simp [ints_length]) (fun x hx=>(fx_spec (ints_fx _ x hx)).1) hf
   have e:(ints r).take r.length=ints r:=List.take_of_length_le (by simp [ints_length])
   simp only [e] at h
   exact h
  | o+1=>simp [cellsOf] at k1
theorem RnB.agg2 {c d c' d':AV} (e:cellsOf (.agg [c,d])=[c,d]) (e':cellsOf (.agg [c',d'])=[c',d']) (hc:cell c'=true) (hd:cell d'=true) (h:Rn s s' f c c') (h2:Rn s s' f d d') :
  RnB s s' f ⟨ty,sz,[.agg [c,d]]⟩ ⟨ty,sz,[.agg [c',d']]⟩:=by
 refine ⟨rfl,rfl,rfl,fun i x x' h1 h2'=>?_⟩
 cases i with
 | zero =>
  simp at h1 h2';subst h1;subst h2'
  refine ⟨by rw [e,e'];rfl,fun q hq=>?_,fun o q q' k3 k4=>?_⟩
  ·rw [e'] at hq;simp at hq;rcases hq with rfl | rfl
   ·exact hc
   ·exact hd
  ·rw [e] at k3;rw [e'] at k4
   match o with
   | 0=>simp at k3 k4;subst k3;subst k4;exact h
   | 1=>simp at k3 k4;subst k3;subst k4;exact h2
   | o+2=>simp at k3
 | succ i=>simp at h1
end

theorem RnB.nil2 {s s':Store} {f:Nat→Option Nat} {ty sz:Nat}:RnB s s' f ⟨ty,sz,[.agg [.nils,.nils]]⟩ ⟨ty,sz,[.agg [.nils,.nils]]⟩:=RnB.same fun x hx=>by
 simp at hx;subst hx;rfl
def unitL (S k:Nat):List Int:=(List.replicate S 0).set k 1
theorem unitL_len (S k:Nat):(unitL S k).length=S:=by simp [unitL]
theorem unitL_get (S k m:Nat) (h:m<S):(unitL S k).getD m 0=if m=k then 1 else 0:=by
 unfold unitL
 rw [List.getD_eq_getElem?_getD,List.getElem?_set,List.length_replicate]
 by_cases e:k=m
 ·subst e;simp [h]
 ·rw [if_neg e,if_neg (fun q=>e q.symm)];simp [h]
theorem unitL_bd (S k:Nat):∀ x ∈ unitL S k, -1≤x∧x≤1:=by
 intro x hx
 unfold unitL at hx
 rcases List.mem_or_eq_of_mem_set hx with h | h
 ·rw [(List.mem_replicate.1 h).2];omega
 ·omega
theorem mdT_unit (items:List Int) (S k n:Nat):∀ j,j≤S→mdT items (unitL S k) n j=if k<j then Lin.itm items n k else 0
 | 0,_=>rfl
 | j+1,h=>by
  rw [mdT_itm,mdT_unit items S k n j (by omega),unitL_get S k j (by omega)]
  by_cases e:j=k
  ·subst e;rw [if_neg (by omega),if_pos rfl,if_pos (by omega)];omega
  ·rw [if_neg e]
   by_cases g:k<j
   ·rw [if_pos g,if_pos (by omega)];omega
   ·rw [if_neg g,if_neg (by omega)];omega
theorem tick_get (items:List Int) {S k n:Nat} (hk:k<S) (hn:n<S+items.length - 1):(mdA items (unitL S k)).getD n 0=Lin.itm items n k:=by
 have hl:(mdA items (unitL S k)).length=S+items.length - 1:=by rw [mdA_len,unitL_len]
 rw [getD_at (by omega),mdA_get,unitL_len,mdT_unit items S k n S (Nat.le_refl _),if_pos hk]
theorem tick_ag (items:List Int) {S k j:Nat} (hk:k<S) (hj:j<S) (h1:1≤items.length):agT items (mdA items (unitL S k)) j items.length=Lin.gr items (S+items.length - 1) k j:=by
 rw [← smI_ag (N:=S+items.length - 1) (by omega) h1]
 unfold Lin.gr
 exact Lin.smI_congr fun n hn=>by rw [tick_get items hk hn]
def gmQ (items:List Int) (S k j:Nat):List Int:=(List.range j).map fun m=>Lin.gr items (S+items.length - 1) k m
def gmP (items:List Int) (S i:Nat):List (List Int):=(List.range i).map fun k=>gmQ items S k S
def rhP (items l:List Int) (i:Nat):List Int:=(List.range i).map fun k=>agT items l k items.length
theorem gmQ_len (items:List Int) (S k j:Nat):(gmQ items S k j).length=j:=by simp [gmQ]
theorem gmP_len (items:List Int) (S i:Nat):(gmP items S i).length=i:=by simp [gmP]
theorem rhP_len (items l:List Int) (i:Nat):(rhP items l i).length=i:=by simp [rhP]
theorem gmQ_succ (items:List Int) (S k j:Nat):gmQ items S k (j+1)=gmQ items S k j ++ [Lin.gr items (S+items.length - 1) k j]:=by simp [gmQ,List.range_succ]
theorem gmP_succ (items:List Int) (S i:Nat):gmP items S (i+1)=gmP items S i ++ [gmQ items S i S]:=by simp [gmP,List.range_succ]
theorem rhP_succ (items l:List Int) (i:Nat):rhP items l (i+1)=rhP items l i ++ [agT items l i items.length]:=by simp [rhP,List.range_succ]
theorem set_unit (S k:Nat):(ints (List.replicate S 0)).set k (.int .i64 1)=ints (unitL S k):=by rw [ints_st];rfl

set_option maxHeartbeats 2000000 in
theorem problemOf_s {items l:List Int} {S:Nat} (h1:1≤items.length) (h6:items.length≤6) (hS:1≤S∧S≤5) (hi:∀ x ∈ items, -100≤x∧x≤100) (hl:∀ x ∈ l, -10000≤x∧x≤10000) (hll:l.length=S+items.length - 1) :
  Sound Tryz.prog 126 [tplA items (S:Int),.sl (ints l)] (.agg [.sl (lls (gmP items S S)),.sl (ints (rhP items l S))]):=by
 refine sound_W f_pulse_problemOf (Nat.le_of_ble_eq_true rfl) ?_
 have hmax:=maxLen_big
 have hmod:∀ k,SoundO Tryz.prog 122 [tplA items (S:Int),.sl (ints (unitL S k))] 3 1 (ints (mdA items (unitL S k))):=fun k=>model_s (S:Int) (C:=1) h1 h6 (by rw [unitL_len];omega) (by omega) hi (unitL_bd S k)
 have hml:∀ k,(mdA items (unitL S k)).length=S+items.length - 1:=fun k=>by rw [mdA_len,unitL_len]
 have hmb:∀ k,k<S→∀ x ∈ mdA items (unitL S k), -100≤x∧x≤100:=fun k hk x hx=>by
  obtain ⟨n,hn,rfl⟩:=List.getElem_of_mem hx
  have:=tick_get items hk (show n<S+items.length - 1 by rw [← hml k];exact hn)
  rw [getD_at hn] at this
  rw [this];exact itm_bd hi n k
 have hag:∀ k j,k<S→j<S→Sound Tryz.prog 175 [tplA items (S:Int),.sl (ints (mdA items (unitL S k))),.int .i64 j] (.int .i64 (Lin.gr items (S+items.length - 1) k j)):=fun k j hk hj=>by
  have:=against_s (S:Int) (k:=j) (M:=100) h6 (by omega) hi (hmb k hk) (by rw [hml];omega) (by omega)
  rw [tick_ag items hk hj h1] at this
  exact this
 have hag2:∀ j,j<S→Sound Tryz.prog 175 [tplA items (S:Int),.sl (ints l),.int .i64 j] (.int .i64 (agT items l j items.length)):=fun j hj=>against_s (S:Int) (k:=j) (M:=10000) h6 (by omega) hi hl (by omega) (by omega)
 unfold tplA at hmod hag hag2
 simp only [c_pulse_problemOf,tplA,vZ,Int.reduceEq,Int.reduceNe,Int.reduceLT,Int.reduceLE,Nat.reduceEqDiff,Nat.reduceAdd,reduceIte,reduceCtorEq,Nat.reduceLT,Nat.reduceLeDiff,Nat.reduceShiftRight,Nat.reduceMod]
 refine W_loop (t:=.mk) (α:=PSigma fun i:Nat=>i≤S) (fun ⟨i,_⟩=>(envOf [(1,.sl (ints l)),(2,.ptr 2 0 0),(4,.ptr 4 0 0),(5,.ptr 5 0 0),(12,.int .i64 S),(13,.int .i64 i)],stOf [(2,⟨102,2,[.agg [.sl (ints items),.int .i64 S]]⟩),(4,⟨182,2,[.agg [.nils,.nils]]⟩),(5,⟨182,2,[.agg [.buf 100 i,.buf 101 i]]⟩),(100,⟨45,1,lls (gmP items S i)⟩),(101,⟨3,1,ints (rhP items l i)⟩)])) (fun x=>S - x.1) ⟨0,Nat.zero_le _⟩ ?_ (fun ⟨i,hiS⟩=>?_)
 ·have z1:lls (gmP items S 0)=[]:=rfl
  have z2:ints (rhP items l 0)=[]:=rfl
  refine weakX [(100,none),(101,none)] (of_decide_eq_true rfl) (of_decide_eq_true rfl) ?_
  (simp only [z1,z2,vcW,vZ,Int.reduceEq,Int.reduceNe,Int.reduceLT,Int.reduceLE,Nat.reduceEqDiff,Nat.reduceAdd,reduceIte,reduceCtorEq,Nat.reduceLT,Nat.reduceLeDiff,Nat.reduceShiftRight,Nat.reduceMod])
  repeat' (with_reducible refine And.intro ?_ ?_)
  try any_goals (with_reducible exact RnB.nil2)
  try any_goals (with_reducible exact RnB.agg2 rfl rfl rfl rfl (.virt 100 _ rfl rfl) (.virt 101 _ rfl rfl))
  (repeat' first | exact trivial | (with_reducible first | exact RnB.fxB (ints_fxB _) | rfl | refine And.intro ?_ ?_) | (with_reducible (first | refine RnB.bb ?_ | refine RnB.nb ?_);simp only [vcW,vZ,Int.reduceEq,Int.reduceNe,Int.reduceLT,Int.reduceLE,Nat.reduceEqDiff,Nat.reduceAdd,reduceIte,reduceCtorEq,Nat.reduceLT,Nat.reduceLeDiff,Nat.reduceShiftRight,Nat.reduceMod]) | (with_reducible first | refine RnB.ii ?_ | refine RnB.app ?_) | (with_reducible refine RnB.fxB ?_;simp only [vcW,vZ,Int.reduceEq,Int.reduceNe,Int.reduceLT,Int.reduceLE,Nat.reduceEqDiff,Nat.reduceAdd,reduceIte,reduceCtorEq,Nat.reduceLT,Nat.reduceLeDiff,Nat.reduceShiftRight,Nat.reduceMod]) | omega)
 ·dsimp only at hiS ⊢
  by_cases h':i<S
  ·have hc1:(i:Int)<S:=by omega
   have hz:List.replicate S (AV.int .i64 0)=ints (List.replicate S 0):=ints_z S
   have hgz:(ints (List.replicate S 0))[i]?=some (.int .i64 0):=by rw [ints_get _ i (by simp;omega)];simp
   have hzl:(ints (List.replicate S (0:Int))).length=S:=by simp [ints]
   have hM:=hmod i
   simp only [hc1,hz,hgz,set_unit,hzl,vZ,Int.reduceEq,Int.reduceNe,Int.reduceLT,Int.reduceLE,Nat.reduceEqDiff,Nat.reduceAdd,reduceIte,reduceCtorEq,Nat.reduceLT,Nat.reduceLeDiff,Nat.reduceShiftRight,Nat.reduceMod]
   refine ⟨by omega,⟨by rw [← hz];exact mkOk_z _,?_⟩⟩
   refine ⟨⟨by omega,Nat.le_refl _⟩,?_⟩
   rw [borB_good _ _ _ _ _ (by rw [ints_length,unitL_len]) (ints_fx _)]
   refine callS_own hM rfl ?_
   obtain ⟨T,hT⟩:∃ T,T=mdA items (unitL S i):=⟨_,rfl⟩
   have hag':∀ j,j<S→Sound Tryz.prog 175 [.agg [.sl (ints items),.int .i64 S],.sl (ints T),.int .i64 j] (.int .i64 (Lin.gr items (S+items.length - 1) i j)):=fun j hj=>by rw [hT];exact hag i j h' hj
   rw [← hT]
   have hTl:T.length=S+items.length - 1:=by rw [hT];exact hml i
   simp only [ownS_ints,ints_length,vZ,Int.reduceEq,Int.reduceNe,Int.reduceLT,Int.reduceLE,Nat.reduceEqDiff,Nat.reduceAdd,reduceIte,reduceCtorEq,Nat.reduceLT,Nat.reduceLeDiff,Nat.reduceShiftRight,Nat.reduceMod]
   refine W_loop (t:=.mk) (α:=PSigma fun j:Nat=>j≤S) (fun ⟨j,_⟩=>(envOf [(1,.sl (ints l)),(2,.ptr 2 0 0),(4,.ptr 4 0 0),(5,.ptr 5 0 0),(6,.int .i64 i),(8,.buf 102 T.length),(9,.buf 103 j),(12,.int .i64 S),(13,.int .i64 i),(26,.int .i64 S),(27,.int .i64 j)],stOf [(2,⟨102,2,[.agg [.sl (ints items),.int .i64 S]]⟩),(4,⟨182,2,[.agg [.nils,.nils]]⟩),(5,⟨182,2,[.agg [.buf 100 i,.buf 101 i]]⟩),(100,⟨45,1,lls (gmP items S i)⟩),(101,⟨3,1,ints (rhP items l i)⟩),(102,⟨3,1,ints T⟩),(103,⟨3,1,ints (gmQ items S i j)⟩)])) (fun x=>S - x.1) ⟨0,Nat.zero_le _⟩ ?_ (fun ⟨j,hjS⟩=>?_)
   ·have z:ints (gmQ items S i 0)=[]:=rfl
    refine weakX [(102,some 24),(103,none)] (of_decide_eq_true rfl) (of_decide_eq_true rfl) ?_
    (simp only [z,vcW,vZ,Int.reduceEq,Int.reduceNe,Int.reduceLT,Int.reduceLE,Nat.reduceEqDiff,Nat.reduceAdd,reduceIte,reduceCtorEq,Nat.reduceLT,Nat.reduceLeDiff,Nat.reduceShiftRight,Nat.reduceMod])
    repeat' (with_reducible refine And.intro ?_ ?_)
    try any_goals (with_reducible exact RnB.nil2)
    try any_goals (with_reducible exact RnB.agg2 rfl rfl rfl rfl (.buf 100 100 _ rfl) (.buf 101 101 _ rfl))
    try any_goals (with_reducible exact RnB.fxB (lls_fxB _))
    (repeat' first | exact trivial | (with_reducible first | exact RnB.fxB (ints_fxB _) | rfl | refine And.intro ?_ ?_) | (with_reducible (first | refine RnB.bb ?_ | refine RnB.nb ?_);simp only [vcW,vZ,Int.reduceEq,Int.reduceNe,Int.reduceLT,Int.reduceLE,Nat.reduceEqDiff,Nat.reduceAdd,reduceIte,reduceCtorEq,Nat.reduceLT,Nat.reduceLeDiff,Nat.reduceShiftRight,Nat.reduceMod]) | (with_reducible first | refine RnB.ii ?_ | refine RnB.app ?_) | (with_reducible refine RnB.fxB ?_;simp only [vcW,vZ,Int.reduceEq,Int.reduceNe,Int.reduceLT,Int.reduceLE,Nat.reduceEqDiff,Nat.reduceAdd,reduceIte,reduceCtorEq,Nat.reduceLT,Nat.reduceLeDiff,Nat.reduceShiftRight,Nat.reduceMod]) | omega)
   ·dsimp only at hjS ⊢
    by_cases h2:j<S
    ·have hc2:(j:Int)<S:=by omega
     simp only [hc2,vZ,Int.reduceEq,Int.reduceNe,Int.reduceLT,Int.reduceLE,Nat.reduceEqDiff,Nat.reduceAdd,reduceIte,reduceCtorEq,Nat.reduceLT,Nat.reduceLeDiff,Nat.reduceShiftRight,Nat.reduceMod]
     rw [borB_good _ _ _ _ _ (by rw [ints_length]) (ints_fx _)]
     refine callS_of (hag' j h2) ?_
     have hgl:=gmQ_len items S i j
     have hgs:=gmQ_succ items S i j
     simp only [ints_length,hgl,vZ,Int.reduceEq,Int.reduceNe,Int.reduceLT,Int.reduceLE,Nat.reduceEqDiff,Nat.reduceAdd,reduceIte,reduceCtorEq,Nat.reduceLT,Nat.reduceLeDiff,Nat.reduceShiftRight,Nat.reduceMod]
     (repeat (with_reducible refine And.intro ?_ ?_;focus (first | omega | (unfold I64;omega))))
     refine ⟨⟨j+1,h2⟩,by simp only;omega,?_⟩
     refine weakX [(103,some 36)] (of_decide_eq_true rfl) (of_decide_eq_true rfl) ?_
     (simp only [ints_length,hgl,hgs,vcW,vZ,Int.reduceEq,Int.reduceNe,Int.reduceLT,Int.reduceLE,Nat.reduceEqDiff,Nat.reduceAdd,reduceIte,reduceCtorEq,Nat.reduceLT,Nat.reduceLeDiff,Nat.reduceShiftRight,Nat.reduceMod])
     repeat' (with_reducible refine And.intro ?_ ?_)
     try any_goals (with_reducible exact RnB.nil2)
     try any_goals (with_reducible exact RnB.agg2 rfl rfl rfl rfl (.buf 100 100 _ rfl) (.buf 101 101 _ rfl))
     try any_goals (with_reducible exact RnB.fxB (lls_fxB _))
     (repeat' first | exact trivial | (with_reducible first | exact RnB.fxB (ints_fxB _) | rfl | refine And.intro ?_ ?_) | (with_reducible (first | refine RnB.bb ?_ | refine RnB.nb ?_);simp only [vcW,vZ,Int.reduceEq,Int.reduceNe,Int.reduceLT,Int.reduceLE,Nat.reduceEqDiff,Nat.reduceAdd,reduceIte,reduceCtorEq,Nat.reduceLT,Nat.reduceLeDiff,Nat.reduceShiftRight,Nat.reduceMod]) | (with_reducible first | refine RnB.ii ?_ | refine RnB.app ?_) | (with_reducible refine RnB.fxB ?_;simp only [vcW,vZ,Int.reduceEq,Int.reduceNe,Int.reduceLT,Int.reduceLE,Nat.reduceEqDiff,Nat.reduceAdd,reduceIte,reduceCtorEq,Nat.reduceLT,Nat.reduceLeDiff,Nat.reduceShiftRight,Nat.reduceMod]) | omega)
     all_goals trace_state
    ·have hjl:j=S:=by omega
     subst hjl
     have hc2:¬ (j:Int)<j:=by omega
     have hsn:=gmP_succ items j i
     have hrs:=rhP_succ items l i
     simp only [hc2,vZ,Int.reduceEq,Int.reduceNe,Int.reduceLT,Int.reduceLE,Nat.reduceEqDiff,Nat.reduceAdd,reduceIte,reduceCtorEq,Nat.reduceLT,Nat.reduceLeDiff,Nat.reduceShiftRight,Nat.reduceMod]
     refine ⟨⟨by rw [lls_length,gmP_len],by omega,by omega⟩,?_⟩
     refine callS_of (hag2 i h') ?_
     simp only [ints_length,rhP_len,vZ,Int.reduceEq,Int.reduceNe,Int.reduceLT,Int.reduceLE,Nat.reduceEqDiff,Nat.reduceAdd,reduceIte,reduceCtorEq,Nat.reduceLT,Nat.reduceLeDiff,Nat.reduceShiftRight,Nat.reduceMod]
     refine ⟨⟨by omega,by omega⟩,by unfold I64;omega,⟨i+1,by omega⟩,by simp only;omega,?_⟩
     refine weakX [(100,some 42),(101,some 50)] (of_decide_eq_true rfl) (of_decide_eq_true rfl) ?_
     (simp only [hrs,vcW,vZ,Int.reduceEq,Int.reduceNe,Int.reduceLT,Int.reduceLE,Nat.reduceEqDiff,Nat.reduceAdd,reduceIte,reduceCtorEq,Nat.reduceLT,Nat.reduceLeDiff,Nat.reduceShiftRight,Nat.reduceMod])
     repeat' (with_reducible refine And.intro ?_ ?_)
     try any_goals (with_reducible exact RnB.nil2)
     try any_goals (with_reducible exact RnB.agg2 rfl rfl rfl rfl (.buf 42 100 _ rfl) (.buf 50 101 _ rfl))
     try any_goals exact RnB.snocZ (k:=103) rfl (by rw [gmQ_len]) (keyOf_ne rfl) (by rw [hsn])
     (repeat' first | exact trivial | (with_reducible first | exact RnB.fxB (ints_fxB _) | rfl | refine And.intro ?_ ?_) | (with_reducible (first | refine RnB.bb ?_ | refine RnB.nb ?_);simp only [vcW,vZ,Int.reduceEq,Int.reduceNe,Int.reduceLT,Int.reduceLE,Nat.reduceEqDiff,Nat.reduceAdd,reduceIte,reduceCtorEq,Nat.reduceLT,Nat.reduceLeDiff,Nat.reduceShiftRight,Nat.reduceMod]) | (with_reducible first | refine RnB.ii ?_ | refine RnB.app ?_) | (with_reducible refine RnB.fxB ?_;simp only [vcW,vZ,Int.reduceEq,Int.reduceNe,Int.reduceLT,Int.reduceLE,Nat.reduceEqDiff,Nat.reduceAdd,reduceIte,reduceCtorEq,Nat.reduceLT,Nat.reduceLeDiff,Nat.reduceShiftRight,Nat.reduceMod]) | omega)
     all_goals trace_state
  ·have hil:i=S:=by omega
   subst hil
   have hc1:¬ (i:Int)<i:=by omega
   simp only [hc1,vZ,Int.reduceEq,Int.reduceNe,Int.reduceLT,Int.reduceLE,Nat.reduceEqDiff,Nat.reduceAdd,reduceIte,reduceCtorEq,Nat.reduceLT,Nat.reduceLeDiff,Nat.reduceShiftRight,Nat.reduceMod]
   rw [borB_good _ _ _ _ _ (by rw [lls_length,gmP_len]) (List.all_eq_true.1 (lls_fxB _)),borB_good _ _ _ _ _ (by rw [ints_length,rhP_len]) (ints_fx _)]
end Go.Proofs.YtpaklfjlbocfcaaGreatDoor

/- Whether a solution is the best one. By an AI agent;nothing here is trusted. -/
namespace Go.Proofs.YtpaklfjlbocfcaaGreatDoor
open Go.Av

def w2s (P:List (Bool × Nat)):List AV:=P.map fun p=>wdA p.1 p.2
theorem w2s_length (P:List (Bool × Nat)):(w2s P).length=P.length:=by simp [w2s]
theorem w2s_get (P:List (Bool × Nat)) (i:Nat) (h:i<P.length):(w2s P)[i]?=some (wdA P[i].1 P[i].2):=by simp [w2s,h]
theorem w2s_fxB (P:List (Bool × Nat)):(w2s P).all fx=true:=List.all_eq_true.2 fun x hx=>by
 obtain ⟨y,_,rfl⟩:=List.mem_map.1 hx;rfl
def rsP (D:Bool × Nat) (P:List (Bool × Nat)) (h:Int) (g:List Int):Nat→Bool × Nat
 | 0=>tmP D h
 | j+1=>plP (rsP D P h g j) (ngP (tmP (P.getD j (false,0)) (g.getD j 0)))
def rsV (D:Bool × Nat) (P:List (Bool × Nat)) (h:Int) (g:List Int) (n:Nat):Int:=vl D * h - Lin.smI n fun j=>vl (P.getD j (false,0)) * g.getD j 0
theorem rsP_vl (D:Bool × Nat) (P:List (Bool × Nat)) (h:Int) (g:List Int):∀ j,vl (rsP D P h g j)=rsV D P h g j
 | 0=>by unfold rsV;rw [rsP,vl_tm,Lin.smI];omega
 | j+1=>by
  have:=rsP_vl D P h g j
  unfold rsV at this ⊢
  rw [rsP,vl_pl,vl_ng,vl_tm,this,Lin.smI];omega
structure BdB (D:Bool × Nat) (P:List (Bool × Nat)) (G:List (List Int)) (H:List Int) (DM PM RM GM:Nat):Prop where
 d:D.2≤DM
 p:∀ x ∈ P,x.2≤PM
 h:∀ x ∈ H,x.natAbs≤RM
 g:∀ r ∈ G,r.length=P.length∧∀ x ∈ r,x.natAbs≤GM
 l:P.length=G.length∧H.length=G.length∧G.length≤5
 b:DM * RM+5 * (PM * GM)<170141183460469231731687303715884105728
 s:DM<170141183460469231731687303715884105728∧PM<170141183460469231731687303715884105728∧RM≤1000000000000000000∧GM≤1000000000000000000
theorem rsP_le {D:Bool × Nat} {P:List (Bool × Nat)} {h:Int} {g:List Int} {DM PM RM GM:Nat} (hD:D.2≤DM) (hP:∀ x ∈ P,x.2≤PM) (hh:h.natAbs≤RM) (hg:∀ x ∈ g,x.natAbs≤GM):∀ j,j≤P.length→j≤g.length→(rsP D P h g j).2≤DM * RM+j * (PM * GM)
 | 0,_,_=>by
  rw [Nat.zero_mul,Nat.add_zero]
  exact Nat.mul_le_mul hD hh
 | j+1,h1,h2=>by
  have ih:=rsP_le hD hP hh hg j (by omega) (by omega)
  rw [rsP,Nat.succ_mul]
  refine Nat.le_trans (plP_le _ _) ?_
  have e:(ngP (tmP (P.getD j (false,0)) (g.getD j 0))).2=(P.getD j (false,0)).2 * (g.getD j 0).natAbs:=rfl
  rw [e,getD_at (show j<g.length by omega),List.getD_eq_getElem?_getD,List.getElem?_eq_getElem (show j<P.length by omega),Option.getD_some]
  have:=Nat.mul_le_mul (hP _ (List.getElem_mem (show j<P.length by omega))) (hg _ (List.getElem_mem (show j<g.length by omega)))
  omega
def okB (D:Bool × Nat) (P:List (Bool × Nat)) (G:List (List Int)) (H:List Int) (k:Nat):Bool:=decide (0≤vl (P.getD k (false,0))) && decide (rsV D P (H.getD k 0) (G.getD k []) P.length≤0)
def isB (D:Bool × Nat) (P:List (Bool × Nat)) (G:List (List Int)) (H:List Int):Bool:=(List.range G.length).all fun k=>okB D P G H k
theorem isB_no {D:Bool × Nat} {P:List (Bool × Nat)} {G:List (List Int)} {H:List Int} {k:Nat} (h:k<G.length) (hk:okB D P G H k=false):isB D P G H=false:=by
 unfold isB
 rw [List.all_eq_false]
 exact ⟨k,List.mem_range.2 h,by rw [hk];decide⟩
theorem isB_yes {D:Bool × Nat} {P:List (Bool × Nat)} {G:List (List Int)} {H:List Int} (h:∀ k,k<G.length→okB D P G H k=true):isB D P G H=true:=by
 unfold isB
 rw [List.all_eq_true]
 exact fun k hk=>h k (List.mem_range.1 hk)
theorem sign_lt (x:Int):(x.sign<0)=(x<0):=by
 rcases Int.lt_trichotomy x 0 with g | g | g
 ·rw [Int.sign_eq_neg_one_of_neg g];simp [g]
 ·rw [g];simp
 ·rw [Int.sign_eq_one_of_pos g];simp;omega
theorem sign_gt (x:Int):(0<x.sign)=(0<x):=by
 rcases Int.lt_trichotomy x 0 with g | g | g
 ·rw [Int.sign_eq_neg_one_of_neg g];simp;omega
 ·rw [g];simp
 ·rw [Int.sign_eq_one_of_pos g];simp [g]

set_option maxHeartbeats 2000000 in
theorem isBest_s {D:Bool × Nat} {P:List (Bool × Nat)} {G:List (List Int)} {H:List Int} {DM PM RM GM:Nat} (B:BdB D P G H DM PM RM GM) :
  Sound Tryz.prog 129 [.agg [.sl (lls G),.sl (ints H)],wdA D.1 D.2,.sl (w2s P)] (.bool (isB D P G H)):=by
 refine sound_W f_pulse_problem_isBest (Nat.le_of_ble_eq_true rfl) ?_
 obtain ⟨b1,b2,b3,b4,⟨b5,b6,b7⟩,b8,b9,b10,b11,b12⟩:=B
 have hmax:=maxLen_big
 unfold wdA
 simp only [c_pulse_problem_isBest,lls_length,vZ,Int.reduceEq,Int.reduceNe,Int.reduceLT,Int.reduceLE,Nat.reduceEqDiff,Nat.reduceAdd,reduceIte,reduceCtorEq,Nat.reduceLT,Nat.reduceLeDiff,Nat.reduceShiftRight,Nat.reduceMod]
 refine W_loop (t:=.mk) (α:=PSigma fun i:Nat=>i≤G.length∧∀ k,k<i→okB D P G H k=true) (fun ⟨i,_⟩=>(envOf [(2,.sl (w2s P)),(3,.ptr 3 0 0),(4,.ptr 4 0 0),(13,.sl (lls G)),(14,.int .i64 G.length),(15,.int .i64 i)],stOf [(3,⟨182,2,[.agg [.sl (lls G),.sl (ints H)]]⟩),(4,⟨188,3,[wdA D.1 D.2]⟩)])) (fun x=>G.length - x.1) ⟨0,Nat.zero_le _,fun k hk=>by omega⟩ ?_ (fun ⟨i,hiS,hno⟩=>?_)
 ·refine weakX [] (of_decide_eq_true rfl) (of_decide_eq_true rfl) ?_
  (simp only [wdA,vcW,vZ,Int.reduceEq,Int.reduceNe,Int.reduceLT,Int.reduceLE,Nat.reduceEqDiff,Nat.reduceAdd,reduceIte,reduceCtorEq,Nat.reduceLT,Nat.reduceLeDiff,Nat.reduceShiftRight,Nat.reduceMod])
  (repeat' first | exact trivial | (with_reducible first | exact RnB.fxB (ints_fxB _) | rfl | refine And.intro ?_ ?_) | (with_reducible (first | refine RnB.bb ?_ | refine RnB.nb ?_);simp only [vcW,vZ,Int.reduceEq,Int.reduceNe,Int.reduceLT,Int.reduceLE,Nat.reduceEqDiff,Nat.reduceAdd,reduceIte,reduceCtorEq,Nat.reduceLT,Nat.reduceLeDiff,Nat.reduceShiftRight,Nat.reduceMod]) | (with_reducible first | refine RnB.ii ?_ | refine RnB.app ?_) | (with_reducible refine RnB.fxB ?_;simp only [vcW,vZ,Int.reduceEq,Int.reduceNe,Int.reduceLT,Int.reduceLE,Nat.reduceEqDiff,Nat.reduceAdd,reduceIte,reduceCtorEq,Nat.reduceLT,Nat.reduceLeDiff,Nat.reduceShiftRight,Nat.reduceMod]) | omega)
 ·dsimp only at hiS hno ⊢
  by_cases h':i<G.length
  ·have hc1:(i:Int)<G.length:=by omega
   obtain ⟨r1,r2⟩:=b4 _ (List.getElem_mem h')
   have hh:=b3 _ (List.getElem_mem (show i<H.length by omega))
   have hHd:H.getD i 0=H[i]:=getD_at _
   have hGd:G.getD i []=G[i]:=by rw [List.getD_eq_getElem?_getD,List.getElem?_eq_getElem h'];rfl
   obtain ⟨g,hg⟩:∃ g,g=G[i]:=⟨_,rfl⟩
   obtain ⟨y,hy⟩:∃ y,y=H[i]'(by omega):=⟨_,rfl⟩
   have hgr:(lls G)[i]?=some (.sl (ints g)):=by rw [hg];exact lls_get G i h'
   have hhr:(ints H)[i]?=some (.int .i64 y):=by rw [hy];exact ints_get H i (by omega)
   rw [← hg] at r1 r2 hGd
   rw [← hy] at hh hHd
   have hle:∀ j:Nat,j≤P.length→(rsP D P y g j).2<170141183460469231731687303715884105728:=fun j hj=>by
    have h1:=rsP_le b1 b2 hh r2 j hj (by omega)
    have h2:j * (PM * GM)≤5 * (PM * GM):=Nat.mul_le_mul_right _ (by omega)
    omega
   have h0:=hle 0 (by omega)
   have hT:=tmP_s D y (by unfold S63;omega) (by unfold W128;show (rsP D P y g 0).2<_;omega) (by unfold W128;omega)
   have hT':Sound Tryz.prog 135 [wdA D.1 D.2,.int .i64 y] (wdA (rsP D P y g 0).1 (rsP D P y g 0).2):=hT
   unfold wdA at hT' ⊢
   simp only [hc1,hgr,hhr,vZ,Int.reduceEq,Int.reduceNe,Int.reduceLT,Int.reduceLE,Nat.reduceEqDiff,Nat.reduceAdd,reduceIte,reduceCtorEq,Nat.reduceLT,Nat.reduceLeDiff,Nat.reduceShiftRight,Nat.reduceMod]
   (repeat (with_reducible refine And.intro ?_ ?_;focus (first | omega | (unfold I64;omega))))
   refine callS_of hT' ?_
   simp only [vZ,Int.reduceEq,Int.reduceNe,Int.reduceLT,Int.reduceLE,Nat.reduceEqDiff,Nat.reduceAdd,reduceIte,reduceCtorEq,Nat.reduceLT,Nat.reduceLeDiff,Nat.reduceShiftRight,Nat.reduceMod]
   refine W_loop (t:=.mk) (α:=PSigma fun j:Nat=>j≤P.length) (fun ⟨j,_⟩=>(envOf [(2,.sl (w2s P)),(3,.ptr 3 0 0),(4,.ptr 4 0 0),(7,.int .i64 i),(8,.sl (ints g)),(9,.ptr 9 0 0),(13,.sl (lls G)),(14,.int .i64 G.length),(15,.int .i64 i),(27,.sl (w2s P)),(28,.int .i64 P.length),(29,.int .i64 j)],stOf [(3,⟨182,2,[.agg [.sl (lls G),.sl (ints H)]]⟩),(4,⟨188,3,[wdA D.1 D.2]⟩),(9,⟨188,3,[wdA (rsP D P y g j).1 (rsP D P y g j).2]⟩)])) (fun x=>P.length - x.1) ⟨0,Nat.zero_le _⟩ ?_ (fun ⟨j,hjS⟩=>?_)
   ·refine weakX [] (of_decide_eq_true rfl) (of_decide_eq_true rfl) ?_
    (simp only [w2s_length,wdA,vcW,vZ,Int.reduceEq,Int.reduceNe,Int.reduceLT,Int.reduceLE,Nat.reduceEqDiff,Nat.reduceAdd,reduceIte,reduceCtorEq,Nat.reduceLT,Nat.reduceLeDiff,Nat.reduceShiftRight,Nat.reduceMod])
    (repeat' first | exact trivial | (with_reducible first | exact RnB.fxB (ints_fxB _) | rfl | refine And.intro ?_ ?_) | (with_reducible (first | refine RnB.bb ?_ | refine RnB.nb ?_);simp only [vcW,vZ,Int.reduceEq,Int.reduceNe,Int.reduceLT,Int.reduceLE,Nat.reduceEqDiff,Nat.reduceAdd,reduceIte,reduceCtorEq,Nat.reduceLT,Nat.reduceLeDiff,Nat.reduceShiftRight,Nat.reduceMod]) | (with_reducible first | refine RnB.ii ?_ | refine RnB.app ?_) | (with_reducible refine RnB.fxB ?_;simp only [vcW,vZ,Int.reduceEq,Int.reduceNe,Int.reduceLT,Int.reduceLE,Nat.reduceEqDiff,Nat.reduceAdd,reduceIte,reduceCtorEq,Nat.reduceLT,Nat.reduceLeDiff,Nat.reduceShiftRight,Nat.reduceMod]) | omega)
   ·dsimp only at hjS ⊢
    by_cases h2:j<P.length
    ·have hc2:(j:Int)<P.length:=by omega
     have hPd:P.getD j (false,0)=P[j]:=by rw [List.getD_eq_getElem?_getD,List.getElem?_eq_getElem h2];rfl
     have hp:=b2 _ (List.getElem_mem h2)
     obtain ⟨p,hpd⟩:∃ p,p=P[j]:=⟨_,rfl⟩
     have hpg:(w2s P)[j]?=some (wdA p.1 p.2):=by rw [hpd];exact w2s_get P j h2
     rw [← hpd] at hp hPd
     obtain ⟨z,hz⟩:∃ z,z=g[j]'(by omega):=⟨_,rfl⟩
     have hzb:=r2 _ (List.getElem_mem (show j<g.length by omega))
     have hzg:(ints g)[j]?=some (.int .i64 z):=by rw [hz];exact ints_get g j (by omega)
     have hgd:g.getD j 0=g[j]'(by omega):=getD_at _
     rw [← hz] at hzb hgd
     have hnx:rsP D P y g (j+1)=plP (rsP D P y g j) (ngP (tmP p z)):=by rw [rsP,hPd,hgd]
     have hl1:=hle j (by omega)
     have hpz:p.2 * z.natAbs≤PM * GM:=Nat.mul_le_mul hp hzb
     have hM1:=tmP_s p z (by unfold S63;omega) (by unfold W128;omega) (by unfold W128;omega)
     have hM2:=ngP_s (tmP p z)
     have hM3:=plP_s (rsP D P y g j) (ngP (tmP p z)) (by unfold W128;have:(ngP (tmP p z)).2=p.2 * z.natAbs:=rfl;omega)
     rw [← hnx] at hM3
     unfold wdA at hM1 hM2 hM3 hpg ⊢
     simp only [hc2,hpg,hzg,vZ,Int.reduceEq,Int.reduceNe,Int.reduceLT,Int.reduceLE,Nat.reduceEqDiff,Nat.reduceAdd,reduceIte,reduceCtorEq,Nat.reduceLT,Nat.reduceLeDiff,Nat.reduceShiftRight,Nat.reduceMod]
     (repeat (with_reducible refine And.intro ?_ ?_;focus (first | omega | (unfold I64;omega))))
     refine callS_of hM1 ?_
     simp only [vZ,Int.reduceEq,Int.reduceNe,Int.reduceLT,Int.reduceLE,Nat.reduceEqDiff,Nat.reduceAdd,reduceIte,reduceCtorEq,Nat.reduceLT,Nat.reduceLeDiff,Nat.reduceShiftRight,Nat.reduceMod]
     refine callS_of hM2 ?_
     simp only [vZ,Int.reduceEq,Int.reduceNe,Int.reduceLT,Int.reduceLE,Nat.reduceEqDiff,Nat.reduceAdd,reduceIte,reduceCtorEq,Nat.reduceLT,Nat.reduceLeDiff,Nat.reduceShiftRight,Nat.reduceMod]
     refine callS_of hM3 ?_
     simp only [vZ,Int.reduceEq,Int.reduceNe,Int.reduceLT,Int.reduceLE,Nat.reduceEqDiff,Nat.reduceAdd,reduceIte,reduceCtorEq,Nat.reduceLT,Nat.reduceLeDiff,Nat.reduceShiftRight,Nat.reduceMod]
     (repeat (with_reducible refine And.intro ?_ ?_;focus (first | omega | (unfold I64;omega))))
     refine ⟨⟨j+1,h2⟩,by simp only;omega,?_⟩
     refine weakX [] (of_decide_eq_true rfl) (of_decide_eq_true rfl) ?_
     (simp only [wdA,vcW,vZ,Int.reduceEq,Int.reduceNe,Int.reduceLT,Int.reduceLE,Nat.reduceEqDiff,Nat.reduceAdd,reduceIte,reduceCtorEq,Nat.reduceLT,Nat.reduceLeDiff,Nat.reduceShiftRight,Nat.reduceMod])
     (repeat' first | exact trivial | (with_reducible first | exact RnB.fxB (ints_fxB _) | rfl | refine And.intro ?_ ?_) | (with_reducible (first | refine RnB.bb ?_ | refine RnB.nb ?_);simp only [vcW,vZ,Int.reduceEq,Int.reduceNe,Int.reduceLT,Int.reduceLE,Nat.reduceEqDiff,Nat.reduceAdd,reduceIte,reduceCtorEq,Nat.reduceLT,Nat.reduceLeDiff,Nat.reduceShiftRight,Nat.reduceMod]) | (with_reducible first | refine RnB.ii ?_ | refine RnB.app ?_) | (with_reducible refine RnB.fxB ?_;simp only [vcW,vZ,Int.reduceEq,Int.reduceNe,Int.reduceLT,Int.reduceLE,Nat.reduceEqDiff,Nat.reduceAdd,reduceIte,reduceCtorEq,Nat.reduceLT,Nat.reduceLeDiff,Nat.reduceShiftRight,Nat.reduceMod]) | omega)
    ·have hjl:j=P.length:=by omega
     subst hjl
     have hc2:¬ (P.length:Int)<P.length:=by omega
     have hiP:i<P.length:=by omega
     have hPd:P.getD i (false,0)=P[i]:=by rw [List.getD_eq_getElem?_getD,List.getElem?_eq_getElem hiP];rfl
     have hp:=b2 _ (List.getElem_mem hiP)
     obtain ⟨p,hpd⟩:∃ p,p=P[i]:=⟨_,rfl⟩
     have hpg:(w2s P)[i]?=some (wdA p.1 p.2):=by rw [hpd];exact w2s_get P i hiP
     rw [← hpd] at hp hPd
     have hl1:=hle P.length (by omega)
     have hrv:=rsP_vl D P y g P.length
     have hok:okB D P G H i=(decide (0≤vl p) && decide (rsV D P y g P.length≤0)):=by unfold okB;rw [hPd,hHd,hGd]
     have hS1:=sign_s p (by unfold W128;omega)
     have hS2:=sign_s (rsP D P y g P.length) (by unfold W128;omega)
     rw [hrv] at hS2
     generalize rsV D P y g P.length=V at *
     unfold wdA at hS1 hS2 hpg ⊢
     simp only [hc2,hpg,vZ,Int.reduceEq,Int.reduceNe,Int.reduceLT,Int.reduceLE,Nat.reduceEqDiff,Nat.reduceAdd,reduceIte,reduceCtorEq,Nat.reduceLT,Nat.reduceLeDiff,Nat.reduceShiftRight,Nat.reduceMod]
     (repeat (with_reducible refine And.intro ?_ ?_;focus (first | omega | (unfold I64;omega))))
     refine callS_of hS1 ?_
     by_cases q1:vl p<0
     ·have hb:=isB_no h' (by rw [hok,decide_eq_false (show ¬ 0≤vl p by omega),Bool.false_and])
      simp only [sign_lt,q1,hb,vZ,Int.reduceEq,Int.reduceNe,Int.reduceLT,Int.reduceLE,Nat.reduceEqDiff,Nat.reduceAdd,reduceIte,reduceCtorEq,Nat.reduceLT,Nat.reduceLeDiff,Nat.reduceShiftRight,Nat.reduceMod]
     ·simp only [sign_lt,q1,vZ,Int.reduceEq,Int.reduceNe,Int.reduceLT,Int.reduceLE,Nat.reduceEqDiff,Nat.reduceAdd,reduceIte,reduceCtorEq,Nat.reduceLT,Nat.reduceLeDiff,Nat.reduceShiftRight,Nat.reduceMod]
      refine callS_of hS2 ?_
      by_cases q2:0<V
      ·have hb:=isB_no h' (by rw [hok,decide_eq_false (show ¬ V≤0 by omega),Bool.and_false])
       simp only [sign_gt,q2,hb,vZ,Int.reduceEq,Int.reduceNe,Int.reduceLT,Int.reduceLE,Nat.reduceEqDiff,Nat.reduceAdd,reduceIte,reduceCtorEq,Nat.reduceLT,Nat.reduceLeDiff,Nat.reduceShiftRight,Nat.reduceMod]
      ·simp only [sign_gt,q2,vZ,Int.reduceEq,Int.reduceNe,Int.reduceLT,Int.reduceLE,Nat.reduceEqDiff,Nat.reduceAdd,reduceIte,reduceCtorEq,Nat.reduceLT,Nat.reduceLeDiff,Nat.reduceShiftRight,Nat.reduceMod]
       (repeat (with_reducible refine And.intro ?_ ?_;focus (first | omega | (unfold I64;omega))))
       refine ⟨⟨i+1,by omega,fun k hk=>?_⟩,by simp only;omega,?_⟩
       ·by_cases e:k=i
        ·subst e;rw [hok];simp;omega
        ·exact hno k (by omega)
       ·refine weakX [] (of_decide_eq_true rfl) (of_decide_eq_true rfl) ?_
        (simp only [wdA,vcW,vZ,Int.reduceEq,Int.reduceNe,Int.reduceLT,Int.reduceLE,Nat.reduceEqDiff,Nat.reduceAdd,reduceIte,reduceCtorEq,Nat.reduceLT,Nat.reduceLeDiff,Nat.reduceShiftRight,Nat.reduceMod])
        (repeat' first | exact trivial | (with_reducible first | exact RnB.fxB (ints_fxB _) | rfl | refine And.intro ?_ ?_) | (with_reducible (first | refine RnB.bb ?_ | refine RnB.nb ?_);simp only [vcW,vZ,Int.reduceEq,Int.reduceNe,Int.reduceLT,Int.reduceLE,Nat.reduceEqDiff,Nat.reduceAdd,reduceIte,reduceCtorEq,Nat.reduceLT,Nat.reduceLeDiff,Nat.reduceShiftRight,Nat.reduceMod]) | (with_reducible first | refine RnB.ii ?_ | refine RnB.app ?_) | (with_reducible refine RnB.fxB ?_;simp only [vcW,vZ,Int.reduceEq,Int.reduceNe,Int.reduceLT,Int.reduceLE,Nat.reduceEqDiff,Nat.reduceAdd,reduceIte,reduceCtorEq,Nat.reduceLT,Nat.reduceLeDiff,Nat.reduceShiftRight,Nat.reduceMod]) | omega)
  ·have hil:i=G.length:=by omega
   subst hil
   have hc1:¬ (G.length:Int)<G.length:=by omega
   rw [isB_yes hno]
   unfold wdA
   simp only [hc1,vZ,Int.reduceEq,Int.reduceNe,Int.reduceLT,Int.reduceLE,Nat.reduceEqDiff,Nat.reduceAdd,reduceIte,reduceCtorEq,Nat.reduceLT,Nat.reduceLeDiff,Nat.reduceShiftRight,Nat.reduceMod]
end Go.Proofs.YtpaklfjlbocfcaaGreatDoor

/- Contracts off the library's shelf: slices.Clone. By an AI agent;nothing here is trusted. -/
namespace Go.Proofs.YtpaklfjlbocfcaaGreatDoor
open Go.Av
open Go.RowKit (Below)

def cloneRen:Go.Shelf.Ren:=⟨fun x=>match x with | 15=>112 | n=>n,fun x=>match x with | 22=>45 | 3=>3 | 4=>4 | n=>n,fun x=>x⟩
set_option maxRecDepth 100000 in
theorem cloneFn:Tryz.prog.funcs[cloneRen.f 15]?=some (Go.Proofs.Body2.n15 cloneRen):=by kernel_rfl
theorem cloneLay:Go.Proofs.Lays2.n15 Tryz.prog cloneRen :=
 {mixed:=by kernel_rfl,f15:=cloneFn,
  t3:=Tryz.underlying3,a3:=Tryz.isAgg3,z3:=Tryz.sizeOf3,v3:=Tryz.zeroValue3,t4:=Tryz.underlying4,
  a4:=Tryz.isAgg4,z4:=Tryz.sizeOf4,v4:=Tryz.zeroValue4,t22:=Tryz.underlying45,a22:=Tryz.isAgg45,
  z22:=Tryz.sizeOf45,v22:=Tryz.zeroValue45,i3:=by kernel_rfl }

theorem ints_at {l:List Int} {i:Nat} {x:AV} (h:(ints l)[i]?=some x):∃ hi:i<l.length,x=.int .i64 l[i]:=by
 have hi:i<l.length:=by
  have:=(List.getElem?_eq_some_iff.1 h).1
  rw [ints_length] at this;exact this
 rw [ints_get l i hi] at h
 exact ⟨hi,by injection h with h;exact h.symm⟩
theorem own_sl {w':World} {B:Nat} {e:TypeId} {v:Value} {l:List Int} {ok:Nat→Prop} (h:w'.ownsRow B e 1 v l.length (l.map (Value.int .i64))) :
  VR w'.heap (fun b=>ok b∨(B≤b∧b<w'.heap.size)) noPlace noStore (.sl (ints l)) v:=by
 obtain ⟨_,h⟩:=h
 rcases h with ⟨rfl,hn⟩ | ⟨g,cap,cur,rfl,hg,hb,hn,hcap,hcur,hx⟩
 ·have:l=[]:=List.eq_nil_of_length_eq_zero hn
  subst this
  exact .sl0 none 0
 ·have hlen:(ints l).length=l.length:=ints_length l
  rw [← hlen] at hn ⊢
  refine .sl (ints l) g 0 1 cap cur e (0,0) (fun i _=>.int .i64 (l.getD i 0)) (.inr ⟨hg,(Array.getElem?_eq_some_iff.1 hb).1⟩) hn hb ?_ ?_ ?_
  ·intro i x hi
   obtain ⟨_,rfl⟩:=ints_at hi
   exact ⟨rfl,fun c hc=>by rw [List.mem_singleton.1 hc];rfl,rfl⟩
  ·intro i x o c hi ho
   obtain ⟨hil,rfl⟩:=ints_at hi
   have h0:o=0:=by
    cases o with
    | zero=>rfl
    | succ o=>simp [cellsOf] at ho
   subst h0
   have h1:(cur.toList.take (l.length * 1))[i]?=(l.map (Value.int .i64))[i]?:=by rw [hx]
   rw [List.getElem?_take,if_pos (by omega),Array.getElem?_toList,List.getElem?_map,List.getElem?_eq_getElem hil] at h1
   show cur[0+i * 1+0]?=some (.int .i64 (l.getD i 0))
   rw [show 0+i * 1+0=i by omega,h1]
   simp [List.getD,List.getElem?_eq_getElem hil]
  ·intro i x o c hi ho
   obtain ⟨hil,rfl⟩:=ints_at hi
   cases o with
   | zero =>
    simp [cellsOf] at ho
    subst ho
    show VR _ _ _ _ _ (.int .i64 (l.getD i 0))
    rw [show l.getD i 0=l[i] by simp [List.getD,List.getElem?_eq_getElem hil]]
    exact .int _ _
   | succ o=>simp [cellsOf] at ho

theorem Clone_s (l:List Int) (hl:l.length≤1000000000):Sound Tryz.prog 112 [.sl (ints l)] (.sl (ints l)):=by
 intro w ok cargs hok _ hlen hargs
 have h0:=hargs 0 _ rfl
 have hc1:cargs=#[cargs.getD 0 undef]:=by
  apply Array.ext
  ·simpa using hlen
  ·intro i h1 h2
   simp at h2
   subst h2
   simp [Array.getD,h1]
 rw [hc1]
 generalize cargs.getD 0 undef=v at h0
 have hin:∀ v,(callFunc 112 #[v]).run Tryz.prog w=.ok (.enter 112 #[v]) w:=fun v =>
  Go.Av.callFunc_enter Tryz.func112 (by kernel_rfl) rfl #[v]
 cases l with
 | nil =>
  have h1:VR w.heap ok noPlace noStore (.sl []) v:=h0
  show CallsF _ _ _ _ fun cv w'=>Below w.heap.size w w'∧VR w'.heap (fun b=>ok b∨(w.heap.size≤b∧b<w'.heap.size)) noPlace noStore (.sl (ints [])) cv
  cases h1 with
  | sl0 a cap =>
   cases a with
   | none =>
    refine .inr ⟨hin _,(Any.slices_Clone_int_nil cloneLay 0 cap w).mono fun e w' ⟨he,hw⟩=>⟨_,he,?_,?_⟩⟩
    ·rw [hw];exact Below.refl _ _
    ·exact .sl0 none 0
   | some a =>
    refine .inr ⟨hin _,(Any.slices_Clone_int_zero cloneLay a cap w).mono fun e w' ⟨v',he,ho,_,hB⟩=>⟨v',he,hB,?_⟩⟩
    exact own_sl (l:=[]) ho
  | sl _ b off s cap cur ty fr vals hok' hcap hb hs hc hv =>
   refine .inr ⟨hin _,(Any.slices_Clone_int_zero cloneLay ⟨b,off,none⟩ cap w).mono fun e w' ⟨v',he,ho,_,hB⟩=>⟨v',he,hB,?_⟩⟩
   exact own_sl (l:=[]) ho
 | cons x r =>
  have hpos:0<(x :: r).length:=by simp
  generalize x :: r=l at *
  generalize hes:ints l=es at h0
  cases h0 with
  | sl0 a cap=>rw [← ints_length,hes] at hpos;simp at hpos
  | sl _ b off s cap cur ty fr vals hok' hcap hb hs hc hv =>
   subst hes
   have hs1:s=1:=(hs 0 _ (ints_get l 0 hpos)).1.symm
   subst hs1
   have hcell:∀ j,j<l.length→w.cell? ⟨b,off+j,none⟩=some (.int .i64 (l.getD j 0)):=by
    intro j hj
    have h1:=hc j _ 0 _ (ints_get l j hj) rfl
    have h2:=hv j _ 0 _ (ints_get l j hj) rfl
    generalize vals j 0=u at h1 h2
    cases h2
    rw [show off+j * 1+0=off+j by omega] at h1
    simp [World.cell?,hb,h1,List.getD,List.getElem?_eq_getElem hj]
   have hlen:(ints l).length=l.length:=ints_length l
   rw [hlen]
   refine .inr ⟨hin _,(Any.slices_Clone_int cloneLay b off l.length cap l w (Nat.le_refl _) (by omega) hcell).mono fun e w' ⟨v',he,ho,_,hB⟩=>⟨v',he,hB,?_⟩⟩
   rw [List.take_length] at ho
   exact own_sl ho

theorem own_o {w w':World} {ok:Nat→Prop} {e:Nat} {v:Value} {l:List Int} (h:w'.ownsRow w.heap.size e 1 v l.length (l.map (Value.int .i64))):OwnR w w' ok e 1 (ints l) v:=by
 obtain ⟨_,h⟩:=h
 rcases h with ⟨rfl,hn⟩ | ⟨g,cap,cur,rfl,hg,hb,hn,hcap,hcur,hx⟩
 ·have:l=[]:=List.eq_nil_of_length_eq_zero hn
  subst this
  exact .inl ⟨rfl,none,rfl⟩
 ·have hlen:(ints l).length=l.length:=ints_length l
  rw [← hlen] at hn ⊢
  refine .inr ⟨g,cap,cur,rfl,hg,hb,hn,hcap,hcur,fun i x hi=>?_⟩
  obtain ⟨hil,rfl⟩:=ints_at hi
  refine ⟨rfl,fun c hc=>by rw [List.mem_singleton.1 hc];rfl,fun o c ho=>?_⟩
  cases o with
  | zero =>
   simp [cellsOf] at ho
   subst ho
   have h1:(cur.toList.take (l.length * 1))[i]?=(l.map (Value.int .i64))[i]?:=by rw [hx]
   rw [List.getElem?_take,if_pos (by omega),Array.getElem?_toList,List.getElem?_map,List.getElem?_eq_getElem hil] at h1
   exact ⟨_,by rw [show i * 1+0=i by omega];exact h1,.int _ _⟩
  | succ o=>simp [cellsOf] at ho
theorem Clone_o (l:List Int) (hl:l.length≤1000000000):SoundO Tryz.prog 112 [.sl (ints l)] 3 1 (ints l):=by
 refine ⟨by omega,?_⟩
 intro w ok cargs hok _ hlen hargs
 have h0:=hargs 0 _ rfl
 have hc1:cargs=#[cargs.getD 0 undef]:=by
  apply Array.ext
  ·simpa using hlen
  ·intro i h1 h2
   simp at h2
   subst h2
   simp [Array.getD,h1]
 rw [hc1]
 generalize cargs.getD 0 undef=v at h0
 have hin:∀ v,(callFunc 112 #[v]).run Tryz.prog w=.ok (.enter 112 #[v]) w:=fun v =>
  Go.Av.callFunc_enter Tryz.func112 (by kernel_rfl) rfl #[v]
 cases l with
 | nil =>
  have h1:VR w.heap ok noPlace noStore (.sl []) v:=h0
  show CallsF _ _ _ _ fun cv w'=>Below w.heap.size w w'∧OwnR w w' ok 3 1 (ints []) cv
  cases h1 with
  | sl0 a cap =>
   cases a with
   | none =>
    refine .inr ⟨hin _,(Any.slices_Clone_int_nil cloneLay 0 cap w).mono fun e w' ⟨he,hw⟩=>⟨_,he,?_,?_⟩⟩
    ·rw [hw];exact Below.refl _ _
    ·exact .inl ⟨rfl,none,rfl⟩
   | some a =>
    refine .inr ⟨hin _,(Any.slices_Clone_int_zero cloneLay a cap w).mono fun e w' ⟨v',he,ho,_,hB⟩=>⟨v',he,hB,?_⟩⟩
    exact own_o (l:=[]) ho
  | sl _ b off s cap cur ty fr vals hok' hcap hb hs hc hv =>
   refine .inr ⟨hin _,(Any.slices_Clone_int_zero cloneLay ⟨b,off,none⟩ cap w).mono fun e w' ⟨v',he,ho,_,hB⟩=>⟨v',he,hB,?_⟩⟩
   exact own_o (l:=[]) ho
 | cons x r =>
  have hpos:0<(x :: r).length:=by simp
  generalize x :: r=l at *
  generalize hes:ints l=es at h0
  cases h0 with
  | sl0 a cap=>rw [← ints_length,hes] at hpos;simp at hpos
  | sl _ b off s cap cur ty fr vals hok' hcap hb hs hc hv =>
   subst hes
   have hs1:s=1:=(hs 0 _ (ints_get l 0 hpos)).1.symm
   subst hs1
   have hcell:∀ j,j<l.length→w.cell? ⟨b,off+j,none⟩=some (.int .i64 (l.getD j 0)):=by
    intro j hj
    have h1:=hc j _ 0 _ (ints_get l j hj) rfl
    have h2:=hv j _ 0 _ (ints_get l j hj) rfl
    generalize vals j 0=u at h1 h2
    cases h2
    rw [show off+j * 1+0=off+j by omega] at h1
    simp [World.cell?,hb,h1,List.getD,List.getElem?_eq_getElem hj]
   have hlen:(ints l).length=l.length:=ints_length l
   rw [hlen]
   refine .inr ⟨hin _,(Any.slices_Clone_int cloneLay b off l.length cap l w (Nat.le_refl _) (by omega) hcell).mono fun e w' ⟨v',he,ho,_,hB⟩=>⟨v',he,hB,?_⟩⟩
   rw [List.take_length] at ho
   exact own_o ho
end Go.Proofs.YtpaklfjlbocfcaaGreatDoor

