/- The reference's test of charges: contract. Printed by genis.py. By an AI agent; nothing here is trusted. -/
import Derived.Test.YtgmpcbpmnimkoaaGreatDoorConPulseModelsCardC
import Derived.Test.YtgmpcbpmnimkoaaGreatDoorConPulseModelsCardB
import Derived.Test.YtgmpcbpmnimkoaaGreatDoorConPulseModelsCardA
import Derived.Test.YtgmpcbpmnimkoaaGreatDoorLayD
import Derived.Test.YtgmpcbpmnimkoaaGreatDoorKode
import Derived.Lib.ItoaMem
set_option linter.defProp false
set_option linter.unusedSimpArgs false
set_option linter.unusedVariables false
namespace Go.Proofs.YtgmpcbpmnimkoaaGreatDoor
open Go.Av

def XB:Nat:=100000000000000000000000000000
def ofT (items l:List Int) (x:Nat→Rat) (n i:Nat):Rat:=smR l n - Lin.sm i fun k=>x k * ((Lin.itm items n k:Int):Rat)
def grT (items l:List Int) (S:Nat) (x:Nat→Rat) (k n:Nat):Rat:=Lin.sm n fun n=>(smR l n - Lin.md items S x n) * ((Lin.itm items n k:Int):Rat)
theorem ofT_succ (items l:List Int) (x:Nat→Rat) (n i:Nat):ofT items l x n (i+1)=ofT items l x n i - x i * ((Lin.itm items n i:Int):Rat):=by
 unfold ofT;rw [Lin.sm_succ];grind
theorem ofT_0 (items l:List Int) (x:Nat→Rat) (n:Nat):ofT items l x n 0=smR l n:=by unfold ofT;rw [Lin.sm_zero];grind
theorem grT_succ (items l:List Int) (S:Nat) (x:Nat→Rat) (k n:Nat):grT items l S x k (n+1)=grT items l S x k n+ofT items l x n S * ((Lin.itm items n k:Int):Rat):=rfl
def OB:Nat→Nat
 | 0=>10000
 | i+1=>2 * (OB i * (XB * 100))
def GB:Nat→Nat
 | 0=>1
 | n+1=>2 * (GB n * (OB 5 * 100))
theorem OB_mono {i:Nat}:∀ {d:Nat},OB i≤OB (i+d)
 | 0=>Nat.le_refl _
 | d+1=>by
  have h:=OB_mono (i:=i) (d:=d)
  have e:OB (i+(d+1))=2 * (OB (i+d) * (XB * 100)):=rfl
  have:OB (i+d) * 1≤OB (i+d) * (XB * 100):=Nat.mul_le_mul_left _ (by decide)
  rw [e];omega
theorem GB_mono {i:Nat}:∀ {d:Nat},GB i≤GB (i+d)
 | 0=>Nat.le_refl _
 | d+1=>by
  have h:=GB_mono (i:=i) (d:=d)
  have e:GB (i+(d+1))=2 * (GB (i+d) * (OB 5 * 100)):=rfl
  have:GB (i+d) * 1≤GB (i+d) * (OB 5 * 100):=Nat.mul_le_mul_left _ (by decide +kernel)
  rw [e];omega
theorem OB_5:OB 5 * 100<1000000000 ^ 1000:=by decide +kernel
theorem GB_10:GB 10<1000000000 ^ 1000:=by decide +kernel
theorem OB_ok {i:Nat} (h:i≤5) {q:Rat} (hq:qB (OB i) q):qOk 1000 q:=by
 obtain ⟨d,hd⟩:=Nat.exists_eq_add_of_le h
 refine qB_ok (qB_more hq (Nat.le_trans ?_ (Nat.le_mul_of_pos_right _ (show 0<100 by omega)))) OB_5
 rw [hd];exact OB_mono
theorem GB_ok {i:Nat} (h:i≤10) {q:Rat} (hq:qB (GB i) q):qOk 1000 q:=by
 obtain ⟨d,hd⟩:=Nat.exists_eq_add_of_le h
 refine qB_ok (qB_more hq ?_) GB_10
 rw [hd];exact GB_mono
theorem itm_q {items:List Int} (hi:∀ x ∈ items, -100≤x∧x≤100) (n k:Nat):qB 100 ((Lin.itm items n k:Int):Rat):=by
 have:=itm_bd hi n k
 exact qB_int (by omega) (by omega)
theorem ofT_B {items l:List Int} {S:Nat} (F:FtB items l S) {x:Nat→Rat} (hx:∀ k,k<S→qB XB (x k)) {n:Nat} (hn:n<l.length):∀ i,i≤S→qB (OB i) (ofT items l x n i)
 | 0,_=>by
  rw [ofT_0]
  unfold smR
  have:=F.lb _ (List.getElem_mem hn)
  rw [getD_at hn]
  exact qB_int (by show _≤10000;omega) (by show _≤10000;omega)
 | i+1,h=>by
  rw [ofT_succ]
  exact qB_sub (ofT_B F hx hn i (by omega)) (qB_mul (hx i (by omega)) (itm_q F.ib n i))
theorem grT_B {items l:List Int} {S:Nat} (F:FtB items l S) {x:Nat→Rat} (hx:∀ k,k<S→qB XB (x k)) (k:Nat):∀ n,n≤l.length→qB (GB n) (grT items l S x k n)
 | 0,_=>by
  have e:grT items l S x k 0=((0:Int):Rat):=rfl
  rw [e];exact qB_int (by decide) (by decide)
 | n+1,h=>by
  rw [grT_succ]
  have h5:=F.s5
  have hO:=ofT_B F hx (n:=n) (by omega) S (Nat.le_refl _)
  obtain ⟨d,hd⟩:=Nat.exists_eq_add_of_le h5.2
  exact qB_add (grT_B F hx k n (by omega)) (qB_mul (qB_more hO (by rw [hd];exact OB_mono)) (itm_q F.ib n k))

set_option maxHeartbeats 4000000 in
theorem Is_b4 {items l:List Int} {S:Nat} (F:FtB items l S) {x:Nat→Rat} (hx:∀ k,k<S→qB XB (x k)) {k n i:Nat} (hk:k<S) (hn:n<l.length) (hi:i≤S) :
  WL Tryz.prog 68 cl_ref02_isBest_b4 (fun ex e' s'=>match ex with | .normal=>∃ z:PSigma (fun i:Nat=>i≤S),S - z.1<S - i∧Weak (e',s') ((fun i:Nat=>(envOf [(1,.sl (ints l)),(2,.sl (rqs x S)),(3,.ptr 3 0 0),(7,.int .i64 (k:Nat)),(8,.ptr 8 0 0),(9,.int .i64 (n:Nat)),(10,.ptr 10 0 0),(11,.int .i64 (i:Nat))],stOf [(3,⟨24,2,[.agg [.sl (ints items),.int .i64 S]]⟩),(8,⟨187,4,[rq (grT items l S x k n)]⟩),(10,⟨187,4,[rq (ofT items l x n i)]⟩)])) z.1) | .exit xid=>xid=4∧s'=stOf [(3,⟨24,2,[.agg [.sl (ints items),.int .i64 S]]⟩),(8,⟨187,4,[rq (grT items l S x k n)]⟩),(10,⟨187,4,[rq (ofT items l x n S)]⟩)]∧e' 1=.sl (ints l)∧e' 2=.sl (rqs x S)∧e' 3=.ptr 3 0 0∧e' 7=.int .i64 (k:Nat)∧e' 8=.ptr 8 0 0∧e' 9=.int .i64 (n:Nat)∧e' 10=.ptr 10 0 0 | _=>False) (envOf [(1,.sl (ints l)),(2,.sl (rqs x S)),(3,.ptr 3 0 0),(7,.int .i64 (k:Nat)),(8,.ptr 8 0 0),(9,.int .i64 (n:Nat)),(10,.ptr 10 0 0),(11,.int .i64 (i:Nat))]) (stOf [(3,⟨24,2,[.agg [.sl (ints items),.int .i64 S]]⟩),(8,⟨187,4,[rq (grT items l S x k n)]⟩),(10,⟨187,4,[rq (ofT items l x n i)]⟩)]) .mk:=by
 have hs5:=F.s5
 have hi6:=F.i6
 have hll:=F.ll
 by_cases h':i<S
 ·have hc1:(i:Int)<S:=by omega
  have gx:=rqs_get (f:=x) (n:=S) h'
  have hI:=item_s items (S:Int) ((n:Int) - (i:Nat)) (by omega)
  rw [itI_nat] at hI
  have b1:=itm_bd F.ib n i
  have bq:=itm_q F.ib n i
  have hR:=RatioInt_q (Lin.itm items n i) (by unfold I64;omega)
  have hO:=ofT_B F hx hn i (by omega)
  have hO1:=ofT_B F hx hn (i+1) h'
  have hXM:=qB_mul (hx i h') bq
  have okx:qOk 1000 (x i):=qB_ok (hx i h') (Nat.lt_of_le_of_lt (show XB≤OB 5 * 100 by decide +kernel) OB_5)
  have oki:qOk 1000 ((Lin.itm items n i:Int):Rat):=qB_ok bq (Nat.lt_of_le_of_lt (show 100≤OB 5 * 100 by decide +kernel) OB_5)
  have okm:qOk 1000 (x i * ((Lin.itm items n i:Int):Rat)):=qB_ok hXM (Nat.lt_of_le_of_lt (show XB * 100≤OB 5 * 100 by decide +kernel) OB_5)
  have hM:=RatioMul_q okx oki
  have hS:=RatioSub_q (OB_ok (by omega) hO) okm
  rw [← ofT_succ] at hS
  unfold tplA at hI
  rw [rq_hr] at hR
  rw [rq_hr,rq_hr,rq_hr] at hM hS
  generalize Lin.itm items n i=y at *
  simp only [cl_ref02_isBest_b4,hc1,rq_hr,gx,vZ,Int.reduceEq,Int.reduceNe,Int.reduceLT,Int.reduceLE,Nat.reduceEqDiff,Nat.reduceAdd,reduceIte,reduceCtorEq,Nat.reduceLT,Nat.reduceLeDiff,Nat.reduceShiftRight,Nat.reduceMod]
  (repeat (with_reducible refine And.intro ?_ ?_;focus (first | omega | (unfold I64;omega))))
  refine callS_of hI ?_
  simp only [vZ,Int.reduceEq,Int.reduceNe,Int.reduceLT,Int.reduceLE,Nat.reduceEqDiff,Nat.reduceAdd,reduceIte,reduceCtorEq,Nat.reduceLT,Nat.reduceLeDiff,Nat.reduceShiftRight,Nat.reduceMod]
  refine callS_of hR ?_
  simp only [vZ,Int.reduceEq,Int.reduceNe,Int.reduceLT,Int.reduceLE,Nat.reduceEqDiff,Nat.reduceAdd,reduceIte,reduceCtorEq,Nat.reduceLT,Nat.reduceLeDiff,Nat.reduceShiftRight,Nat.reduceMod]
  refine callS_of hM ?_
  simp only [vZ,Int.reduceEq,Int.reduceNe,Int.reduceLT,Int.reduceLE,Nat.reduceEqDiff,Nat.reduceAdd,reduceIte,reduceCtorEq,Nat.reduceLT,Nat.reduceLeDiff,Nat.reduceShiftRight,Nat.reduceMod]
  refine callS_of hS ?_
  simp only [vZ,Int.reduceEq,Int.reduceNe,Int.reduceLT,Int.reduceLE,Nat.reduceEqDiff,Nat.reduceAdd,reduceIte,reduceCtorEq,Nat.reduceLT,Nat.reduceLeDiff,Nat.reduceShiftRight,Nat.reduceMod]
  refine ⟨by unfold I64;omega,⟨i+1,h'⟩,by simp only;omega,?_⟩
  refine weakX [] (of_decide_eq_true rfl) (of_decide_eq_true rfl) ?_
  (simp only [rq_hr,vcW,vZ,Int.reduceEq,Int.reduceNe,Int.reduceLT,Int.reduceLE,Nat.reduceEqDiff,Nat.reduceAdd,reduceIte,reduceCtorEq,Nat.reduceLT,Nat.reduceLeDiff,Nat.reduceShiftRight,Nat.reduceMod])
  repeat' (with_reducible refine And.intro ?_ ?_)
  (repeat' first | exact trivial | (with_reducible first | exact RnB.fxB (ints_fxB _) | rfl | refine And.intro ?_ ?_) | (with_reducible (first | refine RnB.bb ?_ | refine RnB.nb ?_);simp only [vcW,vZ,Int.reduceEq,Int.reduceNe,Int.reduceLT,Int.reduceLE,Nat.reduceEqDiff,Nat.reduceAdd,reduceIte,reduceCtorEq,Nat.reduceLT,Nat.reduceLeDiff,Nat.reduceShiftRight,Nat.reduceMod]) | (with_reducible first | refine RnB.ii ?_ | refine RnB.app ?_) | (with_reducible refine RnB.fxB ?_;simp only [vcW,vZ,Int.reduceEq,Int.reduceNe,Int.reduceLT,Int.reduceLE,Nat.reduceEqDiff,Nat.reduceAdd,reduceIte,reduceCtorEq,Nat.reduceLT,Nat.reduceLeDiff,Nat.reduceShiftRight,Nat.reduceMod]) | omega)
  all_goals trace_state
 ·have hiS:i=S:=by omega
  subst hiS
  have hc1:¬ (i:Int)<i:=by omega
  simp only [cl_ref02_isBest_b4,hc1,vZ,Int.reduceEq,Int.reduceNe,Int.reduceLT,Int.reduceLE,Nat.reduceEqDiff,Nat.reduceAdd,reduceIte,reduceCtorEq,Nat.reduceLT,Nat.reduceLeDiff,Nat.reduceShiftRight,Nat.reduceMod]
set_option maxHeartbeats 4000000 in
theorem Is_b2 {items l:List Int} {S:Nat} (F:FtB items l S) {x:Nat→Rat} (hx:∀ k,k<S→qB XB (x k)) {k n:Nat} (hk:k<S) (hn:n≤l.length) :
  WL Tryz.prog 68 cl_ref02_isBest_b2 (fun ex e' s'=>match ex with | .normal=>∃ z:PSigma (fun n:Nat=>n≤l.length),l.length - z.1<l.length - n∧Weak (e',s') ((fun n:Nat=>(envOf [(1,.sl (ints l)),(2,.sl (rqs x S)),(3,.ptr 3 0 0),(7,.int .i64 (k:Nat)),(8,.ptr 8 0 0),(9,.int .i64 (n:Nat))],stOf [(3,⟨24,2,[.agg [.sl (ints items),.int .i64 S]]⟩),(8,⟨187,4,[rq (grT items l S x k n)]⟩)])) z.1) | .exit xid=>xid=2∧s'=stOf [(3,⟨24,2,[.agg [.sl (ints items),.int .i64 S]]⟩),(8,⟨187,4,[rq (grT items l S x k l.length)]⟩)]∧e' 1=.sl (ints l)∧e' 2=.sl (rqs x S)∧e' 3=.ptr 3 0 0∧e' 7=.int .i64 (k:Nat)∧e' 8=.ptr 8 0 0 | _=>False) (envOf [(1,.sl (ints l)),(2,.sl (rqs x S)),(3,.ptr 3 0 0),(7,.int .i64 (k:Nat)),(8,.ptr 8 0 0),(9,.int .i64 (n:Nat))]) (stOf [(3,⟨24,2,[.agg [.sl (ints items),.int .i64 S]]⟩),(8,⟨187,4,[rq (grT items l S x k n)]⟩)]) .mk:=by
 have hs5:=F.s5
 have hi6:=F.i6
 have hll:=F.ll
 by_cases h':n<l.length
 ·have hc1:(n:Int)<l.length:=by omega
  have gl:=ints_get l n h'
  have hlb:=F.lb _ (List.getElem_mem h')
  have hR:=RatioInt_q l[n] (by unfold I64;omega)
  have e0:((l[n]:Int):Rat)=ofT items l x n 0:=by rw [ofT_0];unfold smR;rw [getD_at h']
  rw [e0,rq_hr] at hR
  simp only [cl_ref02_isBest_b2,hc1,ints_length,gl,vZ,Int.reduceEq,Int.reduceNe,Int.reduceLT,Int.reduceLE,Nat.reduceEqDiff,Nat.reduceAdd,reduceIte,reduceCtorEq,Nat.reduceLT,Nat.reduceLeDiff,Nat.reduceShiftRight,Nat.reduceMod]
  refine ⟨by omega,?_⟩
  refine callS_of hR ?_
  simp only [vZ,Int.reduceEq,Int.reduceNe,Int.reduceLT,Int.reduceLE,Nat.reduceEqDiff,Nat.reduceAdd,reduceIte,reduceCtorEq,Nat.reduceLT,Nat.reduceLeDiff,Nat.reduceShiftRight,Nat.reduceMod]
  refine WL_loopZ (α:=PSigma fun i:Nat=>i≤S) (fun ⟨i,_⟩=>(envOf [(1,.sl (ints l)),(2,.sl (rqs x S)),(3,.ptr 3 0 0),(7,.int .i64 (k:Nat)),(8,.ptr 8 0 0),(9,.int .i64 (n:Nat)),(10,.ptr 10 0 0),(11,.int .i64 (i:Nat))],stOf [(3,⟨24,2,[.agg [.sl (ints items),.int .i64 S]]⟩),(8,⟨187,4,[rq (grT items l S x k n)]⟩),(10,⟨187,4,[rq (ofT items l x n i)]⟩)])) (fun x=>S - x.1) ⟨0,Nat.zero_le _⟩ 4
   (fun e' s'=>s'=stOf [(3,⟨24,2,[.agg [.sl (ints items),.int .i64 S]]⟩),(8,⟨187,4,[rq (grT items l S x k n)]⟩),(10,⟨187,4,[rq (ofT items l x n S)]⟩)]∧e' 1=.sl (ints l)∧e' 2=.sl (rqs x S)∧e' 3=.ptr 3 0 0∧e' 7=.int .i64 (k:Nat)∧e' 8=.ptr 8 0 0∧e' 9=.int .i64 (n:Nat)∧e' 10=.ptr 10 0 0) ?_ (fun ⟨i,hi⟩=>Is_b4 F hx hk h' hi) (fun e' s' h=>?_)
  ·refine weakX [] (of_decide_eq_true rfl) (of_decide_eq_true rfl) ?_
   (simp only [rq_hr,vcW,vZ,Int.reduceEq,Int.reduceNe,Int.reduceLT,Int.reduceLE,Nat.reduceEqDiff,Nat.reduceAdd,reduceIte,reduceCtorEq,Nat.reduceLT,Nat.reduceLeDiff,Nat.reduceShiftRight,Nat.reduceMod])
   repeat' (with_reducible refine And.intro ?_ ?_)
   (repeat' first | exact trivial | (with_reducible first | exact RnB.fxB (ints_fxB _) | rfl | refine And.intro ?_ ?_) | (with_reducible (first | refine RnB.bb ?_ | refine RnB.nb ?_);simp only [vcW,vZ,Int.reduceEq,Int.reduceNe,Int.reduceLT,Int.reduceLE,Nat.reduceEqDiff,Nat.reduceAdd,reduceIte,reduceCtorEq,Nat.reduceLT,Nat.reduceLeDiff,Nat.reduceShiftRight,Nat.reduceMod]) | (with_reducible first | refine RnB.ii ?_ | refine RnB.app ?_) | (with_reducible refine RnB.fxB ?_;simp only [vcW,vZ,Int.reduceEq,Int.reduceNe,Int.reduceLT,Int.reduceLE,Nat.reduceEqDiff,Nat.reduceAdd,reduceIte,reduceCtorEq,Nat.reduceLT,Nat.reduceLeDiff,Nat.reduceShiftRight,Nat.reduceMod]) | omega)
   all_goals trace_state
  ·obtain ⟨hst,h1,h2,h3,h7,h8,h9,h10⟩:=h
   subst hst
   have hI:=item_s items (S:Int) ((n:Int) - (k:Nat)) (by omega)
   rw [itI_nat] at hI
   have b1:=itm_bd F.ib n k
   have bq:=itm_q F.ib n k
   have hR2:=RatioInt_q (Lin.itm items n k) (by unfold I64;omega)
   have hO:=ofT_B F hx h' S (Nat.le_refl _)
   have hG:=grT_B F hx k n hn
   have oki:qOk 1000 ((Lin.itm items n k:Int):Rat):=qB_ok bq (Nat.lt_of_le_of_lt (show 100≤OB 5 * 100 by decide +kernel) OB_5)
   have hO5:qB (OB 5) (ofT items l x n S):=by
    obtain ⟨d,hd⟩:=Nat.exists_eq_add_of_le hs5.2
    exact qB_more hO (by rw [hd];exact OB_mono)
   have hM:=RatioMul_q (OB_ok hs5.2 hO) oki
   have hA:=RatioAdd_q (GB_ok (by omega) hG) (qB_ok (qB_mul hO5 bq) OB_5)
   rw [← grT_succ] at hA
   unfold tplA at hI
   rw [rq_hr] at hR2
   rw [rq_hr,rq_hr,rq_hr] at hM hA
   generalize Lin.itm items n k=z at *
   simp only [h1,h2,h3,h7,h8,h9,h10,rq_hr,vZ,Int.reduceEq,Int.reduceNe,Int.reduceLT,Int.reduceLE,Nat.reduceEqDiff,Nat.reduceAdd,reduceIte,reduceCtorEq,Nat.reduceLT,Nat.reduceLeDiff,Nat.reduceShiftRight,Nat.reduceMod]
   (repeat (with_reducible refine And.intro ?_ ?_;focus (first | omega | (unfold I64;omega))))
   refine callS_of hI ?_
   simp only [vZ,Int.reduceEq,Int.reduceNe,Int.reduceLT,Int.reduceLE,Nat.reduceEqDiff,Nat.reduceAdd,reduceIte,reduceCtorEq,Nat.reduceLT,Nat.reduceLeDiff,Nat.reduceShiftRight,Nat.reduceMod]
   refine callS_of hR2 ?_
   simp only [vZ,Int.reduceEq,Int.reduceNe,Int.reduceLT,Int.reduceLE,Nat.reduceEqDiff,Nat.reduceAdd,reduceIte,reduceCtorEq,Nat.reduceLT,Nat.reduceLeDiff,Nat.reduceShiftRight,Nat.reduceMod]
   refine callS_of hM ?_
   simp only [vZ,Int.reduceEq,Int.reduceNe,Int.reduceLT,Int.reduceLE,Nat.reduceEqDiff,Nat.reduceAdd,reduceIte,reduceCtorEq,Nat.reduceLT,Nat.reduceLeDiff,Nat.reduceShiftRight,Nat.reduceMod]
   refine callS_of hA ?_
   simp only [h1,h2,h3,h7,h8,h9,h10,vZ,Int.reduceEq,Int.reduceNe,Int.reduceLT,Int.reduceLE,Nat.reduceEqDiff,Nat.reduceAdd,reduceIte,reduceCtorEq,Nat.reduceLT,Nat.reduceLeDiff,Nat.reduceShiftRight,Nat.reduceMod]
   refine ⟨by unfold I64;omega,⟨n+1,h'⟩,by simp only;omega,?_⟩
   refine weakX [] (of_decide_eq_true rfl) (of_decide_eq_true rfl) ?_
   (simp only [h1,h2,h3,h7,h8,h9,h10,rq_hr,vcW,vZ,Int.reduceEq,Int.reduceNe,Int.reduceLT,Int.reduceLE,Nat.reduceEqDiff,Nat.reduceAdd,reduceIte,reduceCtorEq,Nat.reduceLT,Nat.reduceLeDiff,Nat.reduceShiftRight,Nat.reduceMod])
   repeat' (with_reducible refine And.intro ?_ ?_)
   (repeat' first | exact trivial | (with_reducible first | exact RnB.fxB (ints_fxB _) | rfl | refine And.intro ?_ ?_) | (with_reducible (first | refine RnB.bb ?_ | refine RnB.nb ?_);simp only [vcW,vZ,Int.reduceEq,Int.reduceNe,Int.reduceLT,Int.reduceLE,Nat.reduceEqDiff,Nat.reduceAdd,reduceIte,reduceCtorEq,Nat.reduceLT,Nat.reduceLeDiff,Nat.reduceShiftRight,Nat.reduceMod]) | (with_reducible first | refine RnB.ii ?_ | refine RnB.app ?_) | (with_reducible refine RnB.fxB ?_;simp only [vcW,vZ,Int.reduceEq,Int.reduceNe,Int.reduceLT,Int.reduceLE,Nat.reduceEqDiff,Nat.reduceAdd,reduceIte,reduceCtorEq,Nat.reduceLT,Nat.reduceLeDiff,Nat.reduceShiftRight,Nat.reduceMod]) | omega)
   all_goals trace_state
 ·have hnl:n=l.length:=by omega
  subst hnl
  have hc1:¬ (l.length:Int)<l.length:=by omega
  simp only [cl_ref02_isBest_b2,hc1,ints_length,vZ,Int.reduceEq,Int.reduceNe,Int.reduceLT,Int.reduceLE,Nat.reduceEqDiff,Nat.reduceAdd,reduceIte,reduceCtorEq,Nat.reduceLT,Nat.reduceLeDiff,Nat.reduceShiftRight,Nat.reduceMod]
def isT (items l:List Int) (S:Nat) (x:Nat→Rat) (k:Nat):Bool:=(List.range k).all fun k=>decide (0≤x k) && decide (grT items l S x k l.length≤0)
theorem isT_succ (items l:List Int) (S:Nat) (x:Nat→Rat) (k:Nat):isT items l S x (k+1)=(isT items l S x k && (decide (0≤x k) && decide (grT items l S x k l.length≤0))):=by unfold isT;rw [List.range_succ,List.all_append];simp
theorem isT_no {items l:List Int} {S:Nat} {x:Nat→Rat} {k:Nat} (hk:k<S) (h:(decide (0≤x k) && decide (grT items l S x k l.length≤0))=false):isT items l S x S=false:=by
 cases hc:isT items l S x S with
 | false=>rfl
 | true =>
  have:=List.all_eq_true.1 hc k (List.mem_range.2 hk)
  rw [h] at this;exact this.symm
theorem sg_lt (q:Rat):(decide ((if q<0 then (-1:Int) else if 0<q then 1 else 0)<0))=!decide (0≤q):=by
 by_cases h1:q<0
 ·rw [if_pos h1];have:¬ 0≤q:=by grind
  simp [this]
 ·have h3:0≤q:=by grind
  rw [if_neg h1]
  by_cases h2:0<q
  ·rw [if_pos h2];simp [h3]
  ·rw [if_neg h2];simp [h3]
theorem sg_gt (q:Rat):(decide (0<(if q<0 then (-1:Int) else if 0<q then 1 else 0)))=!decide (q≤0):=by
 by_cases h1:q<0
 ·rw [if_pos h1];have:q≤0:=by grind
  simp [this]
 ·rw [if_neg h1]
  by_cases h2:0<q
  ·rw [if_pos h2];have:¬ q≤0:=by grind
   simp [this]
  ·rw [if_neg h2];have:q≤0:=by grind
   simp [this]
set_option maxHeartbeats 4000000 in
theorem isBest_ref_s {items l:List Int} {S:Nat} (F:FtB items l S) {x:Nat→Rat} (hx:∀ k,k<S→qB XB (x k)):Sound Tryz.prog 122 [tplA items (S:Int),.sl (ints l),.sl (rqs x S)] (.bool (isT items l S x S)):=by
 refine sound_WL f_ref02_isBest e_ref02_isBest (Nat.le_of_ble_eq_true rfl) ?_
 have hs5:=F.s5
 unfold tplA
 simp only [cl_ref02_isBest,vZ,Int.reduceEq,Int.reduceNe,Int.reduceLT,Int.reduceLE,Nat.reduceEqDiff,Nat.reduceAdd,reduceIte,reduceCtorEq,Nat.reduceLT,Nat.reduceLeDiff,Nat.reduceShiftRight,Nat.reduceMod]
 refine WL_cut ?_
 simp only [cl_ref02_isBest_1,vZ,Int.reduceEq,Int.reduceNe,Int.reduceLT,Int.reduceLE,Nat.reduceEqDiff,Nat.reduceAdd,reduceIte,reduceCtorEq,Nat.reduceLT,Nat.reduceLeDiff,Nat.reduceShiftRight,Nat.reduceMod]
 refine WL_loop (t:=.mk) (α:=PSigma fun k:Nat=>k≤S∧isT items l S x k=true) (fun ⟨k,_⟩=>(envOf [(1,.sl (ints l)),(2,.sl (rqs x S)),(3,.ptr 3 0 0),(7,.int .i64 (k:Nat))],stOf [(3,⟨24,2,[.agg [.sl (ints items),.int .i64 S]]⟩)])) (fun x=>S - x.1) ⟨0,Nat.zero_le _,rfl⟩ ?_ (fun ⟨k,hkS,hkt⟩=>?_)
 ·refine weakX [] (of_decide_eq_true rfl) (of_decide_eq_true rfl) ?_
  (simp only [vcW,vZ,Int.reduceEq,Int.reduceNe,Int.reduceLT,Int.reduceLE,Nat.reduceEqDiff,Nat.reduceAdd,reduceIte,reduceCtorEq,Nat.reduceLT,Nat.reduceLeDiff,Nat.reduceShiftRight,Nat.reduceMod])
  repeat' (with_reducible refine And.intro ?_ ?_)
  (repeat' first | exact trivial | (with_reducible first | exact RnB.fxB (ints_fxB _) | rfl | refine And.intro ?_ ?_) | (with_reducible (first | refine RnB.bb ?_ | refine RnB.nb ?_);simp only [vcW,vZ,Int.reduceEq,Int.reduceNe,Int.reduceLT,Int.reduceLE,Nat.reduceEqDiff,Nat.reduceAdd,reduceIte,reduceCtorEq,Nat.reduceLT,Nat.reduceLeDiff,Nat.reduceShiftRight,Nat.reduceMod]) | (with_reducible first | refine RnB.ii ?_ | refine RnB.app ?_) | (with_reducible refine RnB.fxB ?_;simp only [vcW,vZ,Int.reduceEq,Int.reduceNe,Int.reduceLT,Int.reduceLE,Nat.reduceEqDiff,Nat.reduceAdd,reduceIte,reduceCtorEq,Nat.reduceLT,Nat.reduceLeDiff,Nat.reduceShiftRight,Nat.reduceMod]) | omega)
  all_goals trace_state
 ·dsimp only at hkS hkt ⊢
  by_cases h':k<S
  ·have hc1:(k:Int)<S:=by omega
   have gx:=rqs_get (f:=x) (n:=S) h'
   have hSx:=RatioSign_q (x k)
   have hsx:=sg_lt (x k)
   rw [rq_hr] at hSx
   cases hx0:decide (0≤x k) with
   | false =>
    rw [hx0] at hsx
    have hno:=isT_no (items:=items) (l:=l) (x:=x) h' (by rw [hx0];rfl)
    simp only [cl_ref02_isBest_b0,hc1,gx,hno,vZ,Int.reduceEq,Int.reduceNe,Int.reduceLT,Int.reduceLE,Nat.reduceEqDiff,Nat.reduceAdd,reduceIte,reduceCtorEq,Nat.reduceLT,Nat.reduceLeDiff,Nat.reduceShiftRight,Nat.reduceMod]
    (repeat (with_reducible refine And.intro ?_ ?_;focus (first | omega | (unfold I64;omega))))
    refine callS_of hSx ?_
    simp only [hsx,vZ,Int.reduceEq,Int.reduceNe,Int.reduceLT,Int.reduceLE,Nat.reduceEqDiff,Nat.reduceAdd,reduceIte,reduceCtorEq,Nat.reduceLT,Nat.reduceLeDiff,Nat.reduceShiftRight,Nat.reduceMod]
    rw [hno]
   | true =>
    rw [hx0] at hsx
    have hR:=RatioInt_0
    have e0:(0:Rat)=grT items l S x k 0:=rfl
    rw [e0,rq_hr] at hR
    simp only [cl_ref02_isBest_b0,hc1,gx,vZ,Int.reduceEq,Int.reduceNe,Int.reduceLT,Int.reduceLE,Nat.reduceEqDiff,Nat.reduceAdd,reduceIte,reduceCtorEq,Nat.reduceLT,Nat.reduceLeDiff,Nat.reduceShiftRight,Nat.reduceMod]
    (repeat (with_reducible refine And.intro ?_ ?_;focus (first | omega | (unfold I64;omega))))
    refine callS_of hSx ?_
    simp only [hsx,vZ,Int.reduceEq,Int.reduceNe,Int.reduceLT,Int.reduceLE,Nat.reduceEqDiff,Nat.reduceAdd,reduceIte,reduceCtorEq,Nat.reduceLT,Nat.reduceLeDiff,Nat.reduceShiftRight,Nat.reduceMod]
    refine callS_of hR ?_
    simp only [vZ,Int.reduceEq,Int.reduceNe,Int.reduceLT,Int.reduceLE,Nat.reduceEqDiff,Nat.reduceAdd,reduceIte,reduceCtorEq,Nat.reduceLT,Nat.reduceLeDiff,Nat.reduceShiftRight,Nat.reduceMod]
    refine WL_loopZ (α:=PSigma fun n:Nat=>n≤l.length) (fun ⟨n,_⟩=>(envOf [(1,.sl (ints l)),(2,.sl (rqs x S)),(3,.ptr 3 0 0),(7,.int .i64 (k:Nat)),(8,.ptr 8 0 0),(9,.int .i64 (n:Nat))],stOf [(3,⟨24,2,[.agg [.sl (ints items),.int .i64 S]]⟩),(8,⟨187,4,[rq (grT items l S x k n)]⟩)])) (fun x=>l.length - x.1) ⟨0,Nat.zero_le _⟩ 2
     (fun e' s'=>s'=stOf [(3,⟨24,2,[.agg [.sl (ints items),.int .i64 S]]⟩),(8,⟨187,4,[rq (grT items l S x k l.length)]⟩)]∧e' 1=.sl (ints l)∧e' 2=.sl (rqs x S)∧e' 3=.ptr 3 0 0∧e' 7=.int .i64 (k:Nat)∧e' 8=.ptr 8 0 0) ?_ (fun ⟨n,hn⟩=>Is_b2 F hx h' hn) (fun e' s' h=>?_)
    ·refine weakX [] (of_decide_eq_true rfl) (of_decide_eq_true rfl) ?_
     (simp only [rq_hr,vcW,vZ,Int.reduceEq,Int.reduceNe,Int.reduceLT,Int.reduceLE,Nat.reduceEqDiff,Nat.reduceAdd,reduceIte,reduceCtorEq,Nat.reduceLT,Nat.reduceLeDiff,Nat.reduceShiftRight,Nat.reduceMod])
     repeat' (with_reducible refine And.intro ?_ ?_)
     (repeat' first | exact trivial | (with_reducible first | exact RnB.fxB (ints_fxB _) | rfl | refine And.intro ?_ ?_) | (with_reducible (first | refine RnB.bb ?_ | refine RnB.nb ?_);simp only [vcW,vZ,Int.reduceEq,Int.reduceNe,Int.reduceLT,Int.reduceLE,Nat.reduceEqDiff,Nat.reduceAdd,reduceIte,reduceCtorEq,Nat.reduceLT,Nat.reduceLeDiff,Nat.reduceShiftRight,Nat.reduceMod]) | (with_reducible first | refine RnB.ii ?_ | refine RnB.app ?_) | (with_reducible refine RnB.fxB ?_;simp only [vcW,vZ,Int.reduceEq,Int.reduceNe,Int.reduceLT,Int.reduceLE,Nat.reduceEqDiff,Nat.reduceAdd,reduceIte,reduceCtorEq,Nat.reduceLT,Nat.reduceLeDiff,Nat.reduceShiftRight,Nat.reduceMod]) | omega)
     all_goals trace_state
    ·obtain ⟨hst,h1,h2,h3,h7,h8⟩:=h
     subst hst
     have hSg:=RatioSign_q (grT items l S x k l.length)
     have hsg:=sg_gt (grT items l S x k l.length)
     rw [rq_hr] at hSg
     cases hg0:decide (grT items l S x k l.length≤0) with
     | false =>
      rw [hg0] at hsg
      have hno:=isT_no (items:=items) (l:=l) (x:=x) h' (by rw [hg0,hx0];rfl)
      simp only [h1,h2,h3,h7,h8,rq_hr,hno,vZ,Int.reduceEq,Int.reduceNe,Int.reduceLT,Int.reduceLE,Nat.reduceEqDiff,Nat.reduceAdd,reduceIte,reduceCtorEq,Nat.reduceLT,Nat.reduceLeDiff,Nat.reduceShiftRight,Nat.reduceMod]
      refine callS_of hSg ?_
      simp only [hsg,vZ,Int.reduceEq,Int.reduceNe,Int.reduceLT,Int.reduceLE,Nat.reduceEqDiff,Nat.reduceAdd,reduceIte,reduceCtorEq,Nat.reduceLT,Nat.reduceLeDiff,Nat.reduceShiftRight,Nat.reduceMod]
      rw [hno]
     | true =>
      rw [hg0] at hsg
      simp only [h1,h2,h3,h7,h8,rq_hr,vZ,Int.reduceEq,Int.reduceNe,Int.reduceLT,Int.reduceLE,Nat.reduceEqDiff,Nat.reduceAdd,reduceIte,reduceCtorEq,Nat.reduceLT,Nat.reduceLeDiff,Nat.reduceShiftRight,Nat.reduceMod]
      refine callS_of hSg ?_
      simp only [hsg,h1,h2,h3,h7,h8,vZ,Int.reduceEq,Int.reduceNe,Int.reduceLT,Int.reduceLE,Nat.reduceEqDiff,Nat.reduceAdd,reduceIte,reduceCtorEq,Nat.reduceLT,Nat.reduceLeDiff,Nat.reduceShiftRight,Nat.reduceMod]
      refine ⟨by unfold I64;omega,⟨k+1,by omega,by rw [isT_succ,hkt,hx0,hg0];rfl⟩,by simp only;omega,?_⟩
      refine weakX [] (of_decide_eq_true rfl) (of_decide_eq_true rfl) ?_
      (simp only [h1,h2,h3,h7,h8,vcW,vZ,Int.reduceEq,Int.reduceNe,Int.reduceLT,Int.reduceLE,Nat.reduceEqDiff,Nat.reduceAdd,reduceIte,reduceCtorEq,Nat.reduceLT,Nat.reduceLeDiff,Nat.reduceShiftRight,Nat.reduceMod])
      repeat' (with_reducible refine And.intro ?_ ?_)
      (repeat' first | exact trivial | (with_reducible first | exact RnB.fxB (ints_fxB _) | rfl | refine And.intro ?_ ?_) | (with_reducible (first | refine RnB.bb ?_ | refine RnB.nb ?_);simp only [vcW,vZ,Int.reduceEq,Int.reduceNe,Int.reduceLT,Int.reduceLE,Nat.reduceEqDiff,Nat.reduceAdd,reduceIte,reduceCtorEq,Nat.reduceLT,Nat.reduceLeDiff,Nat.reduceShiftRight,Nat.reduceMod]) | (with_reducible first | refine RnB.ii ?_ | refine RnB.app ?_) | (with_reducible refine RnB.fxB ?_;simp only [vcW,vZ,Int.reduceEq,Int.reduceNe,Int.reduceLT,Int.reduceLE,Nat.reduceEqDiff,Nat.reduceAdd,reduceIte,reduceCtorEq,Nat.reduceLT,Nat.reduceLeDiff,Nat.reduceShiftRight,Nat.reduceMod]) | omega)
      all_goals trace_state
  ·have hkl:k=S:=by omega
   subst hkl
   have hc1:¬ (k:Int)<k:=by omega
   simp only [cl_ref02_isBest_b0,hc1,hkt,vZ,Int.reduceEq,Int.reduceNe,Int.reduceLT,Int.reduceLE,Nat.reduceEqDiff,Nat.reduceAdd,reduceIte,reduceCtorEq,Nat.reduceLT,Nat.reduceLeDiff,Nat.reduceShiftRight,Nat.reduceMod]
   refine WL_cut ?_
   simp only [cl_ref02_isBest_2,vZ,Int.reduceEq,Int.reduceNe,Int.reduceLT,Int.reduceLE,Nat.reduceEqDiff,Nat.reduceAdd,reduceIte,reduceCtorEq,Nat.reduceLT,Nat.reduceLeDiff,Nat.reduceShiftRight,Nat.reduceMod]
   rw [hkt]
end Go.Proofs.YtgmpcbpmnimkoaaGreatDoor

/- What the fit that is found is. By an AI agent;nothing here is trusted. -/
namespace Go.Proofs.YtgmpcbpmnimkoaaGreatDoor
open Go.Av

def den0 (D:Bool × Nat) (P:List (Bool × Nat)):Int:=((qtL D P).getD 0 0:Nat)
def chs0 (D:Bool × Nat) (P:List (Bool × Nat)):List Int:=ntA ((qtL D P).drop 1)
theorem den0_eq (D:Bool × Nat) (P:List (Bool × Nat)):den0 D P=((D.2 / gcA D P:Nat):Int):=rfl
theorem chs0_eq (D:Bool × Nat) (P:List (Bool × Nat)):chs0 D P=ntA ((P.map (·.2)).map fun x=>x / gcA D P):=by
 unfold chs0 qtL
 rw [List.map_cons,List.drop_one,List.tail_cons,List.map_map];rfl
theorem chs0_len (D:Bool × Nat) (P:List (Bool × Nat)):(chs0 D P).length=P.length:=by rw [chs0_eq,ntA_len];simp
theorem chs0_get (D:Bool × Nat) (P:List (Bool × Nat)) {k:Nat} (h:k<P.length):(chs0 D P).getD k 0=(((P.getD k (false,0)).2 / gcA D P:Nat):Int):=by
 rw [chs0_eq]
 unfold ntA
 rw [List.getD_eq_getElem?_getD,List.getD_eq_getElem?_getD,List.getElem?_eq_getElem h]
 simp [h]
theorem small_le {D:Bool × Nat} {P:List (Bool × Nat)} (h:smallQ D P=true):den0 D P≤1000000000000∧∀ x ∈ chs0 D P,0≤x∧x≤1000000000000:=by
 unfold smallQ at h
 rw [List.all_eq_true] at h
 constructor
 ·have h1:=h (D.2 / gcA D P) (by unfold qtL;simp)
  have:=of_decide_eq_true h1
  rw [den0_eq];omega
 ·intro x hx
  unfold chs0 ntA at hx
  obtain ⟨n,hn,rfl⟩:=List.mem_map.1 hx
  have:=of_decide_eq_true (h n (List.mem_of_mem_drop hn))
  omega
end Go.Proofs.YtgmpcbpmnimkoaaGreatDoor

/- Contracts of the reference: squares,numerals of wide numbers,what is kept. By an AI agent;nothing here is trusted. -/
namespace Go.Proofs.YtgmpcbpmnimkoaaGreatDoor
open Go.Av

theorem e92:(1000000000:Nat) ^ 2=1000000000000000000:=by decide
theorem pow9 {k:Nat} (h:k≤2):(1000000000:Int) ^ k≤1000000000000000000:=by
 have h1:(1000000000:Nat) ^ k≤1000000000 ^ 2:=Nat.pow_le_pow_right (by omega) h
 rw [e92] at h1
 have h2:(1000000000:Int) ^ k=((1000000000 ^ k:Nat):Int):=by simp
 rw [h2];omega
theorem dg_two {n:Nat} (h:n<1000000000000000000):(dg n).length≤2:=dg_len (k:=2) (by rw [e92];exact h)
theorem dg_three {n:Nat} (h:¬ n<1000000000000000000):2<(dg n).length:=by
 refine Classical.byContradiction fun hn=>h ?_
 have h1:=dVal_lt (okD_dg n)
 rw [dVal_dg] at h1
 have h2:=pow9 (k:=(dg n).length) (by omega)
 omega
theorem WideInt_s (v:Int):Sound Tryz.prog 110 [wideA v] (.tup [.int .i64 (if v.natAbs<1000000000000000000 then v else 0),.bool (decide (v.natAbs<1000000000000000000))]):=by
 refine sound_W f_base_WideInt (Nat.le_of_ble_eq_true rfl) ?_
 rw [wide_hr]
 by_cases h:v.natAbs<1000000000000000000
 case neg =>
  have h3:(2:Int)<(dg v.natAbs).length:=by have:=dg_three h;omega
  rw [if_neg h]
  simp only [c_base_WideInt,h3,h,vZ,Int.reduceEq,Int.reduceNe,Int.reduceLT,Int.reduceLE,Nat.reduceEqDiff,Nat.reduceAdd,reduceIte,reduceCtorEq,Nat.reduceLT,Nat.reduceLeDiff,Nat.reduceShiftRight,Nat.reduceMod]
 have h2:=dg_two h
 have h3:¬ (2:Int)<(dg v.natAbs).length:=by omega
 have hv:=dVal_dg v.natAbs
 have ho:=okD_dg v.natAbs
 have hsv:v.sign * (v.natAbs:Int)=v:=Int.sign_mul_natAbs v
 rw [if_pos h]
 generalize dg v.natAbs=l at *
 have hbd:∀ k,0≤dVal (l.drop k)∧dVal (l.drop k)<1000000000000000000:=fun k=>by
  have ok:okD (l.drop k):=fun d hd=>ho d (List.mem_of_mem_drop hd)
  refine ⟨dVal_nonneg ok,?_⟩
  have h1:=dVal_lt ok
  have h2:=pow9 (k:=(l.drop k).length) (by rw [List.length_drop];omega)
  omega
 simp only [c_base_WideInt,h3,h,vZ,Int.reduceEq,Int.reduceNe,Int.reduceLT,Int.reduceLE,Nat.reduceEqDiff,Nat.reduceAdd,reduceIte,reduceCtorEq,Nat.reduceLT,Nat.reduceLeDiff,Nat.reduceShiftRight,Nat.reduceMod]
 (repeat (with_reducible refine And.intro ?_ ?_;focus (first | omega | (unfold I64;omega))))
 refine W_loop (t:=.mk) (α:=PSigma fun i:Nat=>i≤l.length) (fun ⟨i,_⟩=>(envOf [(1,.ptr 1 0 0),(4,.int .i64 (dVal (l.drop (l.length - i)))),(5,.int .i64 ((l.length:Int) - 1 - i))],stOf [(1,⟨38,2,[.agg [.int .i64 v.sign,.sl (ints l)]]⟩)])) (fun x=>l.length - x.1) ⟨0,Nat.zero_le _⟩ ?_ (fun ⟨i,hin⟩=>?_)
 ·have e0:dVal (l.drop (l.length - 0))=0:=by rw [Nat.sub_zero,List.drop_length];rfl
  have e1:(l.length:Int) - 1 - (0:Nat)=(l.length:Int) - 1:=by omega
  refine weakX [] (of_decide_eq_true rfl) (of_decide_eq_true rfl) ?_
  (simp only [e0,e1,vcW,vZ,Int.reduceEq,Int.reduceNe,Int.reduceLT,Int.reduceLE,Nat.reduceEqDiff,Nat.reduceAdd,reduceIte,reduceCtorEq,Nat.reduceLT,Nat.reduceLeDiff,Nat.reduceShiftRight,Nat.reduceMod])
  (repeat' first | exact trivial | (with_reducible first | exact RnB.fxB (ints_fxB _) | rfl | refine And.intro ?_ ?_) | (with_reducible (first | refine RnB.bb ?_ | refine RnB.nb ?_);simp only [vcW,vZ,Int.reduceEq,Int.reduceNe,Int.reduceLT,Int.reduceLE,Nat.reduceEqDiff,Nat.reduceAdd,reduceIte,reduceCtorEq,Nat.reduceLT,Nat.reduceLeDiff,Nat.reduceShiftRight,Nat.reduceMod]) | (with_reducible first | refine RnB.ii ?_ | refine RnB.app ?_) | (with_reducible refine RnB.fxB ?_;simp only [vcW,vZ,Int.reduceEq,Int.reduceNe,Int.reduceLT,Int.reduceLE,Nat.reduceEqDiff,Nat.reduceAdd,reduceIte,reduceCtorEq,Nat.reduceLT,Nat.reduceLeDiff,Nat.reduceShiftRight,Nat.reduceMod]) | omega)
 ·dsimp only at hin ⊢
  by_cases h':i<l.length
  ·have hc1:(0:Int)≤(l.length:Int) - 1 - i:=by omega
   have hj:l.length - 1 - i<l.length:=by omega
   have hji:(l.length:Int) - 1 - i=((l.length - 1 - i:Nat):Int):=by omega
   have hg:=ints_get l (l.length - 1 - i) hj
   have hdr:l.drop (l.length - (i+1))=l[l.length - 1 - i] :: l.drop (l.length - i):=by
    rw [show l.length - (i+1)=l.length - 1 - i by omega,List.drop_eq_getElem_cons hj]
    congr 2;omega
   have hb1:=hbd (l.length - i)
   have hb2:=hbd (l.length - (i+1))
   have hoj:=ho _ (List.getElem_mem hj)
   have hnx:dVal (l.drop (l.length - i)) * 1000000000+l[l.length - 1 - i]=dVal (l.drop (l.length - (i+1))):=by rw [hdr,dVal];omega
   have e2:((l.length - 1 - i:Nat):Int) - 1=(l.length:Int) - 1 - ((i+1:Nat):Int):=by omega
   rw [hji] at hc1 ⊢
   generalize l[l.length - 1 - i]=dd at *
   simp only [hc1,hg,hnx,e2,vZ,Int.reduceEq,Int.reduceNe,Int.reduceLT,Int.reduceLE,Nat.reduceEqDiff,Nat.reduceAdd,reduceIte,reduceCtorEq,Nat.reduceLT,Nat.reduceLeDiff,Nat.reduceShiftRight,Nat.reduceMod]
   (repeat (with_reducible refine And.intro ?_ ?_;focus (first | omega | (unfold I64;omega))))
   refine ⟨⟨i+1,h'⟩,by simp only;omega,?_⟩
   refine weakX [] (of_decide_eq_true rfl) (of_decide_eq_true rfl) ?_
   (simp only [vcW,vZ,Int.reduceEq,Int.reduceNe,Int.reduceLT,Int.reduceLE,Nat.reduceEqDiff,Nat.reduceAdd,reduceIte,reduceCtorEq,Nat.reduceLT,Nat.reduceLeDiff,Nat.reduceShiftRight,Nat.reduceMod])
   (repeat' first | exact trivial | (with_reducible first | exact RnB.fxB (ints_fxB _) | rfl | refine And.intro ?_ ?_) | (with_reducible (first | refine RnB.bb ?_ | refine RnB.nb ?_);simp only [vcW,vZ,Int.reduceEq,Int.reduceNe,Int.reduceLT,Int.reduceLE,Nat.reduceEqDiff,Nat.reduceAdd,reduceIte,reduceCtorEq,Nat.reduceLT,Nat.reduceLeDiff,Nat.reduceShiftRight,Nat.reduceMod]) | (with_reducible first | refine RnB.ii ?_ | refine RnB.app ?_) | (with_reducible refine RnB.fxB ?_;simp only [vcW,vZ,Int.reduceEq,Int.reduceNe,Int.reduceLT,Int.reduceLE,Nat.reduceEqDiff,Nat.reduceAdd,reduceIte,reduceCtorEq,Nat.reduceLT,Nat.reduceLeDiff,Nat.reduceShiftRight,Nat.reduceMod]) | omega)
  ·have hil:i=l.length:=by omega
   subst hil
   have hc1:¬ (0:Int)≤(l.length:Int) - 1 - l.length:=by omega
   have hb1:=hbd 0
   rw [List.drop_zero,hv] at hb1
   rw [Nat.sub_self,List.drop_zero,hv]
   simp only [hc1,hsv,h,vZ,Int.reduceEq,Int.reduceNe,Int.reduceLT,Int.reduceLE,Nat.reduceEqDiff,Nat.reduceAdd,reduceIte,reduceCtorEq,Nat.reduceLT,Nat.reduceLeDiff,Nat.reduceShiftRight,Nat.reduceMod]
   unfold I64;omega
end Go.Proofs.YtgmpcbpmnimkoaaGreatDoor

/- Contracts of the reference: digits of wide numbers. By an AI agent;nothing here is trusted. -/
namespace Go.Proofs.YtgmpcbpmnimkoaaGreatDoor
open Go.Av

end Go.Proofs.YtgmpcbpmnimkoaaGreatDoor

/- The reference's fit: contract. By an AI agent;nothing here is trusted. -/
namespace Go.Proofs.YtgmpcbpmnimkoaaGreatDoor
open Go.Av

theorem is_bs {items l:List Int} {S:Nat} (F:FtB items l S) {s:Nat} (hs:s<2 ^ S):isT items l S (xS items l S s) S=bsS items l S s:=by
 obtain ⟨y,hy,hx⟩:=x_spread F hs
 have hsb:=Lin.spread_best (items:=items) (S:=S) (s:=smR l) hy
 have hN:S+items.length - 1=l.length:=F.ll.symm
 have hg:∀ k,Lin.grad items S (S+items.length - 1) (smR l) (xS items l S s) k=Lin.grad items S (S+items.length - 1) (smR l) (Lin.spread (fun k=>s.testBit k) y) k:=fun k=>by
  rw [Lin.grad_eq,Lin.grad_eq]
  congr 1
  exact Lin.sm_congr fun m hm=>by rw [hx m hm]
 have h1:isT items l S (xS items l S s) S=true ↔ ∀ k,k<S→0≤xS items l S s k∧Lin.grad items S (S+items.length - 1) (smR l) (xS items l S s) k≤0:=by
  unfold isT
  rw [List.all_eq_true]
  constructor
  ·intro h k hk
   have:=h k (List.mem_range.2 hk)
   rw [Bool.and_eq_true,decide_eq_true_eq,decide_eq_true_eq] at this
   rw [hN];exact this
  ·intro h k hk
   have:=h k (List.mem_range.1 hk)
   rw [hN] at this
   rw [Bool.and_eq_true,decide_eq_true_eq,decide_eq_true_eq]
   exact this
 have h2:isT items l S (xS items l S s) S=true ↔ bsS items l S s=true:=by
  rw [h1,bs_best F hs]
  constructor
  ·intro h
   have hb:=hsb.2 fun k hk=>by
    have:=h k hk
    rw [hg k,hx k hk] at this;exact this
   intro k hk
   have:=hb k hk
   rw [hg k,hx k hk];exact this
  ·exact fun h k hk=>⟨(h k hk).1,(h k hk).2.1⟩
 cases h3:bsS items l S s with
 | true=>exact h2.2 h3
 | false =>
  cases h4:isT items l S (xS items l S s) S with
  | false=>rfl
  | true=>rw [h2.1 h4] at h3;cases h3
def pN (items l:List Int) (S s k:Nat):Nat:=((ptS items l S s).getD k (false,0)).2
theorem xS_nat {items l:List Int} {S:Nat} (F:FtB items l S) {s:Nat} (hs:s<2 ^ S) (hb:bsS items l S s=true) {k:Nat} (hk:k<S):xS items l S s k=Rat.divInt (pN items l S s k:Int) ((dnS items S s).2:Int):=by
 have hbest:=((bs_best F hs).1 hb k hk).1
 have hd:=d_ne F hs
 obtain ⟨d1,d2⟩:=vl_pos (F.dpos hs)
 have hvD:vl (dnS items S s)=((dnS items S s).2:Int):=by
  unfold vl wdV;rw [d1];rfl
 have hvP:vl ((ptS items l S s).getD k (false,0))=(pN items l S s k:Int):=by
  unfold pN
  have h1:=vl_abs ((ptS items l S s).getD k (false,0))
  have h2:0≤vl ((ptS items l S s).getD k (false,0)):=by
   have h3:(0:Rat)≤((vl ((ptS items l S s).getD k (false,0)):Int):Rat):=by
    unfold xS at hbest
    generalize ((vl ((ptS items l S s).getD k (false,0)):Int):Rat)=v at *
    generalize ((vl (dnS items S s):Int):Rat)=d at *
    have e:v=(v / d) * d:=by grind
    rw [e];exact Rat.mul_nonneg hbest (Rat.le_of_lt hd)
   exact_mod_cast h3
  omega
 unfold xS
 rw [hvP,hvD,Rat.divInt_eq_div]
theorem xS_B {items l:List Int} {S:Nat} (F:FtB items l S) {s:Nat} (hs:s<2 ^ S) {k:Nat} (hk:k<S):qB XB (xS items l S s k):=by
 have hP:=F.pb hs
 have hD:=F.db hs
 have hd:=F.dpos hs
 have hpk:((ptS items l S s).getD k (false,0)).2≤72000000000000000000000000000:=by
  rw [List.getD_eq_getElem?_getD,List.getElem?_eq_getElem (by rw [ptS_len];exact hk)]
  exact hP _ (List.getElem_mem _)
 have h1:=vl_abs ((ptS items l S s).getD k (false,0))
 have h2:=vl_abs (dnS items S s)
 have e:xS items l S s k=Rat.divInt (vl ((ptS items l S s).getD k (false,0))) (vl (dnS items S s)):=by unfold xS;rw [Rat.divInt_eq_div]
 have:=divInt_le (vl ((ptS items l S s).getD k (false,0))) (vl (dnS items S s)) (by omega)
 rw [← e] at this
 unfold XB
 exact ⟨by omega,by omega⟩
theorem den_lcm {D p:Nat} (h:0<D):(Rat.divInt (p:Int) (D:Int)).den=D / Nat.gcd D p:=by
 rw [Rat.den_divInt,if_neg (by omega)]
 rfl
theorem lcm_num {L x:Nat} (hx:0<x):(Rat.divInt (L:Int) (x:Int)).num * (x:Int)=((Nat.lcm L x:Nat):Int):=by
 rw [Rat.num_divInt,Int.sign_eq_one_of_pos (by omega),Int.one_mul,Int.gcd_comm]
 have e:((Int.gcd (L:Int) (x:Int):Nat):Int)=((Nat.gcd L x:Nat):Int):=rfl
 rw [e,← Int.natCast_ediv,← Int.natCast_mul]
 congr 1
 unfold Nat.lcm
 rw [Nat.mul_comm,← Nat.mul_div_assoc _ (Nat.gcd_dvd_left L x),Nat.mul_comm]
def lcT (items l:List Int) (S s i:Nat):Nat:=Lin.lcms (dnS items S s).2 1 (((ptS items l S s).map (·.2)).take i)
theorem lcT_succ {items l:List Int} {S s i:Nat} (hi:i<S):lcT items l S s (i+1)=Nat.lcm (lcT items l S s i) ((dnS items S s).2 / Nat.gcd (dnS items S s).2 (pN items l S s i)):=by
 unfold lcT
 have hl:i<((ptS items l S s).map (·.2)).length:=by rw [List.length_map,ptS_len];exact hi
 rw [List.take_succ_eq_append_getElem hl]
 unfold Lin.lcms
 rw [List.foldl_append]
 have:((ptS items l S s).map (·.2))[i]=pN items l S s i:=by
  unfold pN
  rw [List.getElem_map,List.getD_eq_getElem?_getD,List.getElem?_eq_getElem (by rw [ptS_len];exact hi)];rfl
 rw [this];rfl
theorem lcms_take {d:Nat} (hd:0<d) (L:List Nat) (i:Nat):0<Lin.lcms d 1 (L.take i)∧Lin.lcms d 1 (L.take i)≤d:=by
 rw [Lin.lcms_one hd]
 have h:=Lin.gcds_dvd (L.take i) d
 have h2:0<Lin.gcds d (L.take i):=Nat.pos_of_dvd_of_pos h hd
 exact ⟨Nat.div_pos (Nat.le_of_dvd hd h) h2,Nat.div_le_self _ _⟩
theorem lcT_all {items l:List Int} {S s:Nat} (hd:0<(dnS items S s).2):((lcT items l S s S:Nat):Int)=den0 (dnS items S s) (ptS items l S s):=by
 rw [den0_eq]
 unfold lcT gcA
 rw [List.take_of_length_le (by rw [List.length_map,ptS_len];exact Nat.le_refl _),Lin.lcms_one hd]
theorem part_q {D p g:Nat} (hg:g ∣ D) (hp:g ∣ p) (hD:0<D):Rat.divInt (p:Int) (D:Int) * (((D / g:Nat):Int):Rat)=(((p / g:Nat):Int):Rat):=by
 obtain ⟨a,rfl⟩:=hg
 obtain ⟨b,rfl⟩:=hp
 have hg0:0<g:=Nat.pos_of_mul_pos_right hD
 have ha0:0<a:=Nat.pos_of_mul_pos_left hD
 rw [Nat.mul_div_cancel_left _ hg0,Nat.mul_div_cancel_left _ hg0,Rat.divInt_eq_div,Int.natCast_mul,Int.natCast_mul,Rat.intCast_mul,Rat.intCast_mul]
 have g1:((g:Int):Rat) ≠ 0:=by
  have:(0:Rat)<((g:Int):Rat):=by exact_mod_cast hg0
  grind
 have a1:((a:Int):Rat) ≠ 0:=by
  have:(0:Rat)<((a:Int):Rat):=by exact_mod_cast ha0
  grind
 generalize ((g:Int):Rat)=g' at *
 generalize ((a:Int):Rat)=a' at *
 generalize ((b:Int):Rat)=b' at *
 grind
theorem RatioFloor_q {q:Rat} (h:qOk 1000 q):Sound Tryz.prog 124 [rq q] (wideA (q.num / (q.den:Int))):=by
 refine sound_W f_base_RatioFloor (Nat.le_of_ble_eq_true rfl) ?_
 have hF:=WideFloor_s q.num q.den (by have:=q.den_nz;omega) (wOk_more h.1 (by omega)) (wOk_more h.2 (by omega))
 rw [wide_hr,wide_hr,wide_hr] at hF
 rw [rq_hr,wide_hr]
 simp only [c_base_RatioFloor,vZ,Int.reduceEq,Int.reduceNe,Int.reduceLT,Int.reduceLE,Nat.reduceEqDiff,Nat.reduceAdd,reduceIte,reduceCtorEq,Nat.reduceLT,Nat.reduceLeDiff,Nat.reduceShiftRight,Nat.reduceMod]
 refine callS_of hF ?_
 simp only [vZ,Int.reduceEq,Int.reduceNe,Int.reduceLT,Int.reduceLE,Nat.reduceEqDiff,Nat.reduceAdd,reduceIte,reduceCtorEq,Nat.reduceLT,Nat.reduceLeDiff,Nat.reduceShiftRight,Nat.reduceMod]
end Go.Proofs.YtgmpcbpmnimkoaaGreatDoor

/- The fit of samples: contract. By an AI agent;nothing here is trusted. -/
namespace Go.Proofs.YtgmpcbpmnimkoaaGreatDoor
open Go.Av

theorem find_at {p:Nat→Bool} {n s:Nat} (h:s<n) (hp:p s=true) (hn:∀ k,k<s→p k=false):(List.range n).find? p=some s:=by
 rw [List.find?_range_eq_some]
 exact ⟨hp,List.mem_range.2 h,fun j hj=>by rw [hn j hj];rfl⟩
theorem find_no {p:Nat→Bool} {n:Nat} (hn:∀ k,k<n→p k=false):(List.range n).find? p=none:=by
 rw [List.find?_eq_none]
 intro x hx
 rw [hn x (List.mem_range.1 hx)];decide
theorem tk5_0:tk5 0=[]:=by decide
set_option maxHeartbeats 4000000 in
theorem FitOf_s (items:List Int) (shifts:Int) (l:List Int) (hi:items.length<4000000000000000000) (hl:l.length<4000000000000000000) :
  Sound Tryz.prog 14 [tplA items shifts,.sl (ints l)] (.tup (ftA items shifts l)):=by
 refine sound_W f_pulse_FitOf (Nat.le_of_ble_eq_true rfl) ?_
 have hE:=fittedErr_s items shifts l hi hl
 have hmax:=maxLen_big
 unfold tplA at hE
 by_cases hf:fdE items shifts l=0
 case neg =>
  have hr:ftA items shifts l=[.agg [.int .i64 0,.sl []],.int .i64 (fdE items shifts l)]:=by unfold ftA;rw [if_pos hf]
  rw [hr]
  simp only [c_pulse_FitOf,tplA,vZ,Int.reduceEq,Int.reduceNe,Int.reduceLT,Int.reduceLE,Nat.reduceEqDiff,Nat.reduceAdd,reduceIte,reduceCtorEq,Nat.reduceLT,Nat.reduceLeDiff,Nat.reduceShiftRight,Nat.reduceMod]
  refine callS_of hE ?_
  simp only [hf,vZ,Int.reduceEq,Int.reduceNe,Int.reduceLT,Int.reduceLE,Nat.reduceEqDiff,Nat.reduceAdd,reduceIte,reduceCtorEq,Nat.reduceLT,Nat.reduceLeDiff,Nat.reduceShiftRight,Nat.reduceMod]
 obtain ⟨F,hS⟩:=fdE_ok hf
 have hr:ftA items shifts l=ftR items l shifts.toNat (fdS items l shifts.toNat):=by unfold ftA;rw [if_neg (by omega)]
 rw [hr]
 clear hr
 obtain ⟨S,hSd⟩:∃ S,S=shifts.toNat:=⟨_,rfl⟩
 rw [← hSd] at F hS ⊢
 subst hS
 clear hSd
 have hP:=problemOf_s F.i1 F.i6 F.s5 F.ib F.lb F.ll
 unfold tplA at hP
 have hsh:IntKind.u64.wrap ((1:Int) * 2 ^ min S IntKind.u64.bits)=((2 ^ S:Nat):Int):=by
  have:=shl_u 1 S (by have:=F.s5;omega)
  rw [Nat.one_mul] at this
  have h2:2 ^ S≤2 ^ 5:=Nat.pow_le_pow_right (by omega) F.s5.2
  have h3:(2:Nat) ^ 5=32:=rfl
  rw [Nat.mod_eq_of_lt (by omega)] at this
  exact this
 have h32:2 ^ S≤32:=by
  have h2:2 ^ S≤2 ^ 5:=Nat.pow_le_pow_right (by omega) F.s5.2
  have h3:(2:Nat) ^ 5=32:=rfl
  omega
 simp only [c_pulse_FitOf,tplA,vZ,Int.reduceEq,Int.reduceNe,Int.reduceLT,Int.reduceLE,Nat.reduceEqDiff,Nat.reduceAdd,reduceIte,reduceCtorEq,Nat.reduceLT,Nat.reduceLeDiff,Nat.reduceShiftRight,Nat.reduceMod]
 refine callS_of hE ?_
 simp only [hf,vZ,Int.reduceEq,Int.reduceNe,Int.reduceLT,Int.reduceLE,Nat.reduceEqDiff,Nat.reduceAdd,reduceIte,reduceCtorEq,Nat.reduceLT,Nat.reduceLeDiff,Nat.reduceShiftRight,Nat.reduceMod]
 refine callS_of hP ?_
 simp only [hsh,vZ,Int.reduceEq,Int.reduceNe,Int.reduceLT,Int.reduceLE,Nat.reduceEqDiff,Nat.reduceAdd,reduceIte,reduceCtorEq,Nat.reduceLT,Nat.reduceLeDiff,Nat.reduceShiftRight,Nat.reduceMod]
 refine ⟨by omega,?_⟩
 have hGl:=gmP_len items S S
 have hHl:=rhP_len items l S
 obtain ⟨G,hG⟩:∃ G,G=gmP items S S:=⟨_,rfl⟩
 obtain ⟨H,hH⟩:∃ H,H=rhP items l S:=⟨_,rfl⟩
 refine W_loop (t:=.mk) (α:=PSigma fun s:Nat=>s≤2 ^ S∧∀ k,k<s→bsS items l S k=false) (fun ⟨s,_⟩=>(envOf [(1,.sl (ints l)),(2,.ptr 2 0 0),(4,.ptr 4 0 0),(5,.int .i64 0),(7,.ptr 7 0 0),(25,.int .u64 (2 ^ S:Nat)),(26,.int .u64 s)],stOf [(2,⟨24,2,[.agg [.sl (ints items),.int .i64 S]]⟩),(4,⟨29,2,[.agg [.int .i64 0,.nils]]⟩),(7,⟨151,2,[.agg [.sl (lls (gmP items S S)),.sl (ints (rhP items l S))]]⟩)])) (fun x=>2 ^ S - x.1) ⟨0,Nat.zero_le _,fun k h=>by omega⟩ ?_ (fun ⟨s,hsS,hno⟩=>?_)
 ·refine weakX [] (of_decide_eq_true rfl) (of_decide_eq_true rfl) ?_
  (simp only [vcW,vZ,Int.reduceEq,Int.reduceNe,Int.reduceLT,Int.reduceLE,Nat.reduceEqDiff,Nat.reduceAdd,reduceIte,reduceCtorEq,Nat.reduceLT,Nat.reduceLeDiff,Nat.reduceShiftRight,Nat.reduceMod])
  repeat' (with_reducible refine And.intro ?_ ?_)
  try any_goals (with_reducible exact RnB.wide)
  (repeat' first | exact trivial | (with_reducible first | exact RnB.fxB (ints_fxB _) | rfl | refine And.intro ?_ ?_) | (with_reducible (first | refine RnB.bb ?_ | refine RnB.nb ?_);simp only [vcW,vZ,Int.reduceEq,Int.reduceNe,Int.reduceLT,Int.reduceLE,Nat.reduceEqDiff,Nat.reduceAdd,reduceIte,reduceCtorEq,Nat.reduceLT,Nat.reduceLeDiff,Nat.reduceShiftRight,Nat.reduceMod]) | (with_reducible first | refine RnB.ii ?_ | refine RnB.app ?_) | (with_reducible refine RnB.fxB ?_;simp only [vcW,vZ,Int.reduceEq,Int.reduceNe,Int.reduceLT,Int.reduceLE,Nat.reduceEqDiff,Nat.reduceAdd,reduceIte,reduceCtorEq,Nat.reduceLT,Nat.reduceLeDiff,Nat.reduceShiftRight,Nat.reduceMod]) | omega)
  all_goals trace_state
 ·dsimp only at hsS hno ⊢
  by_cases h':s<2 ^ S
  ·have hc1:(s:Int)<(2 ^ S:Nat):=by omega
   have hSol:=solved_s (F.sl h')
   have hBst:=isBest_s (F.bd h')
   obtain ⟨d1,d2⟩:=vl_pos (F.dpos h')
   have hDb:=F.db h'
   have hPb:=F.pb h'
   have hPl:=ptS_len items l S s
   have hRed:=reduced_s d1 d2 (by omega) (fun p hp=>by have:=hPb p hp;omega) (by rw [hPl];exact F.s5.2)
   have hDe:dnS items S s=dtP (tk5 s).length (sqP (gmP items S S) (tk5 s) (tk5 s).length):=rfl
   have hPe:ptS items l S s=slP (gmP items S S) (rhP items l S) (tk5 s) (tk5 s).length:=rfl
   have hBe:bsS items l S s=isB (dnS items S s) (ptS items l S s) (gmP items S S) (rhP items l S):=rfl
   rw [← hDe,← hPe] at hSol
   rw [← hBe] at hBst
   simp only [hc1,vZ,Int.reduceEq,Int.reduceNe,Int.reduceLT,Int.reduceLE,Nat.reduceEqDiff,Nat.reduceAdd,reduceIte,reduceCtorEq,Nat.reduceLT,Nat.reduceLeDiff,Nat.reduceShiftRight,Nat.reduceMod]
   refine W_loop (t:=.mk) (α:=PSigma fun q:Nat × List Nat=>q.1≤s∧q.2 ++ tk5 q.1=tk5 s) (fun ⟨q,_⟩=>(envOf [(1,.sl (ints l)),(2,.ptr 2 0 0),(4,.ptr 4 0 0),(5,.int .i64 0),(7,.ptr 7 0 0),(9,.buf 101 q.2.length),(10,.int .u64 q.1),(25,.int .u64 (2 ^ S:Nat)),(26,.int .u64 s)],stOf [(2,⟨24,2,[.agg [.sl (ints items),.int .i64 S]]⟩),(4,⟨29,2,[.agg [.int .i64 0,.nils]]⟩),(7,⟨151,2,[.agg [.sl (lls (gmP items S S)),.sl (ints (rhP items l S))]]⟩),(101,⟨3,1,ints (ntA q.2)⟩)])) (fun x=>x.1.1) ⟨(s,[]),Nat.le_refl _,rfl⟩ ?_ (fun ⟨⟨r,pre⟩,hrs,hpre⟩=>?_)
   ·have z:ints (ntA [])=[]:=rfl
    refine weakX [(101,none)] (of_decide_eq_true rfl) (of_decide_eq_true rfl) ?_
    (simp only [z,vcW,vZ,Int.reduceEq,Int.reduceNe,Int.reduceLT,Int.reduceLE,Nat.reduceEqDiff,Nat.reduceAdd,reduceIte,reduceCtorEq,Nat.reduceLT,Nat.reduceLeDiff,Nat.reduceShiftRight,Nat.reduceMod])
    repeat' (with_reducible refine And.intro ?_ ?_)
    try any_goals (with_reducible exact RnB.wide)
    (repeat' first | exact trivial | (with_reducible first | exact RnB.fxB (ints_fxB _) | rfl | refine And.intro ?_ ?_) | (with_reducible (first | refine RnB.bb ?_ | refine RnB.nb ?_);simp only [vcW,vZ,Int.reduceEq,Int.reduceNe,Int.reduceLT,Int.reduceLE,Nat.reduceEqDiff,Nat.reduceAdd,reduceIte,reduceCtorEq,Nat.reduceLT,Nat.reduceLeDiff,Nat.reduceShiftRight,Nat.reduceMod]) | (with_reducible first | refine RnB.ii ?_ | refine RnB.app ?_) | (with_reducible refine RnB.fxB ?_;simp only [vcW,vZ,Int.reduceEq,Int.reduceNe,Int.reduceLT,Int.reduceLE,Nat.reduceEqDiff,Nat.reduceAdd,reduceIte,reduceCtorEq,Nat.reduceLT,Nat.reduceLeDiff,Nat.reduceShiftRight,Nat.reduceMod]) | omega)
    all_goals trace_state
   ·dsimp only at hrs hpre ⊢
    have hpl:pre.length≤5:=by
     have h1:=tk5_len s
     rw [← hpre,List.length_append] at h1;omega
    by_cases r0:r=0
    ·subst r0
     have hz:((0:Nat):Int)=0:=rfl
     rw [tk5_0,List.append_nil] at hpre
     subst hpre
     simp only [hz,vZ,Int.reduceEq,Int.reduceNe,Int.reduceLT,Int.reduceLE,Nat.reduceEqDiff,Nat.reduceAdd,reduceIte,reduceCtorEq,Nat.reduceLT,Nat.reduceLeDiff,Nat.reduceShiftRight,Nat.reduceMod]
     rw [borB_good _ _ _ _ _ (by rw [ints_length,ntA_len]) (ints_fx _)]
     obtain ⟨D,hDd⟩:∃ D,D=dnS items S s:=⟨_,rfl⟩
     obtain ⟨P,hPd⟩:∃ P,P=ptS items l S s:=⟨_,rfl⟩
     have hftR:ftR items l S (some s)=rdA D P:=by rw [hDd,hPd];rfl
     rw [← hDd,← hPd] at hSol hBst hRed
     refine callS_of hSol ?_
     clear hSol hDe hPe hBe hDd hPd
     unfold wdA at hBst hRed ⊢
     simp only [vcX,ntA_len,vZ,Int.reduceEq,Int.reduceNe,Int.reduceLT,Int.reduceLE,Nat.reduceEqDiff,Nat.reduceAdd,reduceIte,reduceCtorEq,Nat.reduceLT,Nat.reduceLeDiff,Nat.reduceShiftRight,Nat.reduceMod]
     refine callS_of hBst ?_
     cases hb:bsS items l S s with
     | true =>
      have hfd:fdS items l S=some s:=find_at h' hb hno
      rw [hfd,hftR]
      unfold rdA at hRed ⊢
      split at hRed
      ·rename_i g
       rw [if_pos g]
       simp only [vcX,vZ,Int.reduceEq,Int.reduceNe,Int.reduceLT,Int.reduceLE,Nat.reduceEqDiff,Nat.reduceAdd,reduceIte,reduceCtorEq,Nat.reduceLT,Nat.reduceLeDiff,Nat.reduceShiftRight,Nat.reduceMod]
       refine callS_of hRed ?_
       simp only [vcX,vZ,Int.reduceEq,Int.reduceNe,Int.reduceLT,Int.reduceLE,Nat.reduceEqDiff,Nat.reduceAdd,reduceIte,reduceCtorEq,Nat.reduceLT,Nat.reduceLeDiff,Nat.reduceShiftRight,Nat.reduceMod]
      ·rename_i g
       rw [if_neg g]
       simp only [vcX,vZ,Int.reduceEq,Int.reduceNe,Int.reduceLT,Int.reduceLE,Nat.reduceEqDiff,Nat.reduceAdd,reduceIte,reduceCtorEq,Nat.reduceLT,Nat.reduceLeDiff,Nat.reduceShiftRight,Nat.reduceMod]
       refine callS_of hRed ?_
       simp only [vcX,vZ,Int.reduceEq,Int.reduceNe,Int.reduceLT,Int.reduceLE,Nat.reduceEqDiff,Nat.reduceAdd,reduceIte,reduceCtorEq,Nat.reduceLT,Nat.reduceLeDiff,Nat.reduceShiftRight,Nat.reduceMod]
     | false =>
      simp only [vZ,Int.reduceEq,Int.reduceNe,Int.reduceLT,Int.reduceLE,Nat.reduceEqDiff,Nat.reduceAdd,reduceIte,reduceCtorEq,Nat.reduceLT,Nat.reduceLeDiff,Nat.reduceShiftRight,Nat.reduceMod]
      refine ⟨⟨s+1,by omega,fun k hk=>?_⟩,by simp only;omega,?_⟩
      ·by_cases e:k=s
       ·subst e;exact hb
       ·exact hno k (by omega)
      ·refine weakX [] (of_decide_eq_true rfl) (of_decide_eq_true rfl) ?_
       (simp only [vcX,vcW,vZ,Int.reduceEq,Int.reduceNe,Int.reduceLT,Int.reduceLE,Nat.reduceEqDiff,Nat.reduceAdd,reduceIte,reduceCtorEq,Nat.reduceLT,Nat.reduceLeDiff,Nat.reduceShiftRight,Nat.reduceMod])
       repeat' (with_reducible refine And.intro ?_ ?_)
       try any_goals (with_reducible exact RnB.wide)
       (repeat' first | exact trivial | (with_reducible first | exact RnB.fxB (ints_fxB _) | rfl | refine And.intro ?_ ?_) | (with_reducible (first | refine RnB.bb ?_ | refine RnB.nb ?_);simp only [vcW,vZ,Int.reduceEq,Int.reduceNe,Int.reduceLT,Int.reduceLE,Nat.reduceEqDiff,Nat.reduceAdd,reduceIte,reduceCtorEq,Nat.reduceLT,Nat.reduceLeDiff,Nat.reduceShiftRight,Nat.reduceMod]) | (with_reducible first | refine RnB.ii ?_ | refine RnB.app ?_) | (with_reducible refine RnB.fxB ?_;simp only [vcW,vZ,Int.reduceEq,Int.reduceNe,Int.reduceLT,Int.reduceLE,Nat.reduceEqDiff,Nat.reduceAdd,reduceIte,reduceCtorEq,Nat.reduceLT,Nat.reduceLeDiff,Nat.reduceShiftRight,Nat.reduceMod]) | omega)
       all_goals exact add_u s 1 (by omega)
    ·have r0':¬ (r:Int)=0:=by omega
     obtain ⟨k1,k2⟩:=tk5_step (r:=r) (by omega) (by omega)
     have hZ:=zeros_s (r:=r) (by omega) (by omega)
     have hsb:IntKind.u64.wrap ((r:Int) - 1)=((r - 1:Nat):Int):=by
      have:=sub_u r 1 (by omega) (by omega);exact this
     have han:=and_g r (r - 1) (by omega) (by omega)
     obtain ⟨z,hzd⟩:∃ z,z=(tk5 r).getD 0 0:=⟨_,rfl⟩
     rw [← hzd] at k1 hZ
     have hsn:=ntA_snoc pre z
     simp only [r0',ints_length,ntA_len,vZ,Int.reduceEq,Int.reduceNe,Int.reduceLT,Int.reduceLE,Nat.reduceEqDiff,Nat.reduceAdd,reduceIte,reduceCtorEq,Nat.reduceLT,Nat.reduceLeDiff,Nat.reduceShiftRight,Nat.reduceMod]
     refine callS_of hZ ?_
     simp only [ints_length,ntA_len,hsb,han,vZ,Int.reduceEq,Int.reduceNe,Int.reduceLT,Int.reduceLE,Nat.reduceEqDiff,Nat.reduceAdd,reduceIte,reduceCtorEq,Nat.reduceLT,Nat.reduceLeDiff,Nat.reduceShiftRight,Nat.reduceMod]
     refine ⟨⟨by omega,by omega⟩,⟨(r &&& (r - 1),pre ++ [z]),by simp only;omega,by simp only;rw [List.append_assoc];rw [k1] at hpre;exact hpre⟩,k2,?_⟩
     refine weakX [(101,some 40)] (of_decide_eq_true rfl) (of_decide_eq_true rfl) ?_
     (simp only [hsn,List.length_append,vcW,vZ,Int.reduceEq,Int.reduceNe,Int.reduceLT,Int.reduceLE,Nat.reduceEqDiff,Nat.reduceAdd,reduceIte,reduceCtorEq,Nat.reduceLT,Nat.reduceLeDiff,Nat.reduceShiftRight,Nat.reduceMod])
     repeat' (with_reducible refine And.intro ?_ ?_)
     try any_goals (with_reducible exact RnB.wide)
     (repeat' first | exact trivial | (with_reducible first | exact RnB.fxB (ints_fxB _) | rfl | refine And.intro ?_ ?_) | (with_reducible (first | refine RnB.bb ?_ | refine RnB.nb ?_);simp only [vcW,vZ,Int.reduceEq,Int.reduceNe,Int.reduceLT,Int.reduceLE,Nat.reduceEqDiff,Nat.reduceAdd,reduceIte,reduceCtorEq,Nat.reduceLT,Nat.reduceLeDiff,Nat.reduceShiftRight,Nat.reduceMod]) | (with_reducible first | refine RnB.ii ?_ | refine RnB.app ?_) | (with_reducible refine RnB.fxB ?_;simp only [vcW,vZ,Int.reduceEq,Int.reduceNe,Int.reduceLT,Int.reduceLE,Nat.reduceEqDiff,Nat.reduceAdd,reduceIte,reduceCtorEq,Nat.reduceLT,Nat.reduceLeDiff,Nat.reduceShiftRight,Nat.reduceMod]) | omega)
     all_goals trace_state
  ·have hil:s=2 ^ S:=by omega
   subst hil
   have hc1:¬ ((2 ^ S:Nat):Int)<(2 ^ S:Nat):=by omega
   have hfd:fdS items l S=none:=find_no hno
   rw [hfd,ftR]
   simp only [hc1,vZ,Int.reduceEq,Int.reduceNe,Int.reduceLT,Int.reduceLE,Nat.reduceEqDiff,Nat.reduceAdd,reduceIte,reduceCtorEq,Nat.reduceLT,Nat.reduceLeDiff,Nat.reduceShiftRight,Nat.reduceMod]
end Go.Proofs.YtgmpcbpmnimkoaaGreatDoor

/- The reference's fit: contract. By an AI agent;nothing here is trusted. -/
namespace Go.Proofs.YtgmpcbpmnimkoaaGreatDoor
open Go.Av

theorem wOk_30 {k:Nat} {v:Int} (hk:4≤k) (h:v.natAbs≤100000000000000000000000000000):wOk k v :=
 wOk_more (k:=4) (wOk_of (Nat.lt_of_le_of_lt h (by decide))) hk
def rfA (items l:List Int) (S:Nat):Option Nat→List AV
 | some s=>if smallQ (dnS items S s) (ptS items l S s) then [.agg [.int .i64 (den0 (dnS items S s) (ptS items l S s)),.sl (ints (chs0 (dnS items S s) (ptS items l S s)))],.bool true] else [.agg [.int .i64 0,.sl []],.bool false]
 | none=>[.agg [.int .i64 0,.sl []],.bool false]
set_option maxHeartbeats 4000000 in
theorem Ft_b2 {items l:List Int} {S:Nat} (F:FtB items l S) {s i:Nat} (hs:s<2 ^ S) (hb:bsS items l S s=true) (hi:i≤S) {Bf:Blk} :
  WL Tryz.prog 108 cl_ref02_Fit_b2 (fun ex e' s'=>match ex with
   | .normal=>∃ z:PSigma (fun i:Nat=>i≤S),S - z.1<S - i∧Weak (e',s') ((fun i:Nat=>(envOf [(4,.ptr 4 0 0),(7,.sl (rqs (xS items l S s) S)),(9,.ptr 9 0 0),(10,.int .i64 (i:Nat))],stOf [(4,⟨29,2,[.agg [.int .i64 0,.nils]]⟩),(9,⟨38,2,[wideA (lcT items l S s i:Nat)]⟩)])) z.1)
   | .exit xid=>xid=2∧s'=stOf [(4,⟨29,2,[.agg [.int .i64 0,.nils]]⟩),(9,⟨38,2,[wideA (lcT items l S s S:Nat)]⟩)]∧e' 4=.ptr 4 0 0∧e' 7=.sl (rqs (xS items l S s) S)∧e' 9=.ptr 9 0 0
   | _=>False) (envOf [(4,.ptr 4 0 0),(7,.sl (rqs (xS items l S s) S)),(9,.ptr 9 0 0),(10,.int .i64 (i:Nat))]) (stOf [(4,⟨29,2,[.agg [.int .i64 0,.nils]]⟩),(9,⟨38,2,[wideA (lcT items l S s i:Nat)]⟩)]) .mk:=by
 have hs5:=F.s5
 by_cases h':i<S
 ·have hc1:(i:Int)<S:=by omega
  have gx:=rqs_get (f:=xS items l S s) (n:=S) h'
  obtain ⟨_,d2⟩:=vl_pos (F.dpos hs)
  have hDb:=F.db hs
  have hden:(xS items l S s i).den=(dnS items S s).2 / Nat.gcd (dnS items S s).2 (pN items l S s i):=by rw [xS_nat F hs hb h',den_lcm d2]
  have hdp:0<(xS items l S s i).den:=(xS items l S s i).den_pos
  have hdl:(xS items l S s i).den≤(dnS items S s).2:=by rw [hden];exact Nat.div_le_self _ _
  have hL:=lcms_take d2 ((ptS items l S s).map (·.2)) i
  have hL1:=lcms_take d2 ((ptS items l S s).map (·.2)) (i+1)
  have hn:=lcT_succ (items:=items) (l:=l) (s:=s) h'
  rw [← hden] at hn
  have eL:lcT items l S s i=Lin.lcms (dnS items S s).2 1 (((ptS items l S s).map (·.2)).take i):=rfl
  have eL1:lcT items l S s (i+1)=Lin.lcms (dnS items S s).2 1 (((ptS items l S s).map (·.2)).take (i+1)):=rfl
  rw [← eL] at hL
  rw [← eL1] at hL1
  have hnum:=lcm_num (L:=lcT items l S s i) hdp
  rw [← hn] at hnum
  have hMk:=RatioMake_q (lcT items l S s i:Nat) ((xS items l S s i).den:Int) (by omega) (wOk_30 (by omega) (by omega)) (wOk_30 (by omega) (by omega))
  have hnl:=(divInt_le ((lcT items l S s i:Nat):Int) ((xS items l S s i).den:Int) (by omega)).1
  have hMu:=WideMul_s (Rat.divInt (lcT items l S s i:Nat) ((xS items l S s i).den:Int)).num ((xS items l S s i).den:Int) (wOk_30 (by omega) (by omega)) (wOk_30 (by omega) (by omega))
  rw [hnum] at hMu
  clear hnum hn eL eL1 hL hL1 hden hdl
  generalize Rat.divInt (lcT items l S s i:Nat) ((xS items l S s i).den:Int)=q at *
  rw [wide_hr,wide_hr,rq_hr] at hMk
  rw [wide_hr,wide_hr,wide_hr] at hMu
  simp only [cl_ref02_Fit_b2,hc1,rqs_length,gx,wide_hr,vZ,Int.reduceEq,Int.reduceNe,Int.reduceLT,Int.reduceLE,Nat.reduceEqDiff,Nat.reduceAdd,reduceIte,reduceCtorEq,Nat.reduceLT,Nat.reduceLeDiff,Nat.reduceShiftRight,Nat.reduceMod]
  (repeat (with_reducible refine And.intro ?_ ?_;focus (first | omega | (unfold I64;omega))))
  refine callS_of hMk ?_
  simp only [gx,vZ,Int.reduceEq,Int.reduceNe,Int.reduceLT,Int.reduceLE,Nat.reduceEqDiff,Nat.reduceAdd,reduceIte,reduceCtorEq,Nat.reduceLT,Nat.reduceLeDiff,Nat.reduceShiftRight,Nat.reduceMod]
  (repeat (with_reducible refine And.intro ?_ ?_;focus (first | omega | (unfold I64;omega))))
  refine callS_of hMu ?_
  simp only [vZ,Int.reduceEq,Int.reduceNe,Int.reduceLT,Int.reduceLE,Nat.reduceEqDiff,Nat.reduceAdd,reduceIte,reduceCtorEq,Nat.reduceLT,Nat.reduceLeDiff,Nat.reduceShiftRight,Nat.reduceMod]
  refine ⟨by unfold I64;omega,⟨i+1,h'⟩,by simp only;omega,?_⟩
  refine weakX [] (of_decide_eq_true rfl) (of_decide_eq_true rfl) ?_
  (simp only [wide_hr,vcW,vZ,Int.reduceEq,Int.reduceNe,Int.reduceLT,Int.reduceLE,Nat.reduceEqDiff,Nat.reduceAdd,reduceIte,reduceCtorEq,Nat.reduceLT,Nat.reduceLeDiff,Nat.reduceShiftRight,Nat.reduceMod])
  repeat' (with_reducible refine And.intro ?_ ?_)
  try any_goals (with_reducible exact RnB.wide)
  (repeat' first | exact trivial | (with_reducible first | exact RnB.fxB (ints_fxB _) | rfl | refine And.intro ?_ ?_) | (with_reducible (first | refine RnB.bb ?_ | refine RnB.nb ?_);simp only [vcW,vZ,Int.reduceEq,Int.reduceNe,Int.reduceLT,Int.reduceLE,Nat.reduceEqDiff,Nat.reduceAdd,reduceIte,reduceCtorEq,Nat.reduceLT,Nat.reduceLeDiff,Nat.reduceShiftRight,Nat.reduceMod]) | (with_reducible first | refine RnB.ii ?_ | refine RnB.app ?_) | (with_reducible refine RnB.fxB ?_;simp only [vcW,vZ,Int.reduceEq,Int.reduceNe,Int.reduceLT,Int.reduceLE,Nat.reduceEqDiff,Nat.reduceAdd,reduceIte,reduceCtorEq,Nat.reduceLT,Nat.reduceLeDiff,Nat.reduceShiftRight,Nat.reduceMod]) | omega)
  all_goals trace_state
 ·have hiS:i=S:=by omega
  subst hiS
  have hc1:¬ (i:Int)<i:=by omega
  simp only [cl_ref02_Fit_b2,hc1,rqs_length,vZ,Int.reduceEq,Int.reduceNe,Int.reduceLT,Int.reduceLE,Nat.reduceEqDiff,Nat.reduceAdd,reduceIte,reduceCtorEq,Nat.reduceLT,Nat.reduceLeDiff,Nat.reduceShiftRight,Nat.reduceMod]
theorem shl_run:((List.range 6).all fun S=>decide (IntKind.i64.wrap ((1:Int) * 2 ^ min S IntKind.i64.bits)=((2 ^ S:Nat):Int)))=true:=by decide +kernel
theorem shl_i {S:Nat} (h:S≤5):IntKind.i64.wrap ((1:Int) * 2 ^ min S IntKind.i64.bits)=((2 ^ S:Nat):Int):=of_decide_eq_true (List.all_eq_true.1 shl_run S (List.mem_range.2 (by omega)))
theorem chs_take {D:Bool × Nat} {P:List (Bool × Nat)} {i:Nat} (h:i<P.length):(chs0 D P).take (i+1)=(chs0 D P).take i ++ [((((P.getD i (false,0)).2 / gcA D P:Nat)):Int)]:=by
 have hl:i<(chs0 D P).length:=by rw [chs0_len];exact h
 rw [List.take_succ_eq_append_getElem hl]
 have:=chs0_get D P h
 rw [getD_at hl] at this
 rw [this]
set_option maxHeartbeats 8000000 in
theorem Ft_b4 {items l:List Int} {S:Nat} (F:FtB items l S) {s:Nat} (hs:s<2 ^ S) (hb:bsS items l S s=true) (hd12:(dnS items S s).2 / gcA (dnS items S s) (ptS items l S s)≤1000000000000) {i:Nat} (hi:i≤S)
  (hsm:∀ k,k<i→pN items l S s k / gcA (dnS items S s) (ptS items l S s)≤1000000000000) {Q:Exit→Env→Store→Prop} (hr0:smallQ (dnS items S s) (ptS items l S s)=false→∀ e s',e 4=.ptr 4 0 0→e 5=.bool false→s' 4=some (some ⟨29,2,[.agg [.int .i64 0,.nils]]⟩)→Q .ret e s')
  (hex:(∀ k,k<S→pN items l S s k / gcA (dnS items S s) (ptS items l S s)≤1000000000000)→∀ e',e' 4=.ptr 4 0 0→e' 13=.ptr 13 0 0→Q (.exit 4) e' (stOf [(4,⟨29,2,[.agg [.int .i64 0,.nils]]⟩),(13,⟨29,2,[.agg [.int .i64 ((dnS items S s).2 / gcA (dnS items S s) (ptS items l S s):Nat),.buf 100 S]]⟩),(100,⟨3,1,ints ((chs0 (dnS items S s) (ptS items l S s)).take S)⟩)])) :
  WL Tryz.prog 108 cl_ref02_Fit_b4 (fun ex e' s'=>match ex with
   | .normal=>∃ z:PSigma (fun i:Nat=>i≤S∧∀ k,k<i→pN items l S s k / gcA (dnS items S s) (ptS items l S s)≤1000000000000),S - z.1<S - i∧Weak (e',s') ((fun i:Nat=>(envOf [(4,.ptr 4 0 0),(7,.sl (rqs (xS items l S s) S)),(11,.int .i64 ((dnS items S s).2 / gcA (dnS items S s) (ptS items l S s):Nat)),(13,.ptr 13 0 0),(14,.int .i64 (i:Nat))],stOf [(4,⟨29,2,[.agg [.int .i64 0,.nils]]⟩),(13,⟨29,2,[.agg [.int .i64 ((dnS items S s).2 / gcA (dnS items S s) (ptS items l S s):Nat),.buf 100 i]]⟩),(100,⟨3,1,ints ((chs0 (dnS items S s) (ptS items l S s)).take i)⟩)])) z.1)
   | ex=>Q ex e' s') (envOf [(4,.ptr 4 0 0),(7,.sl (rqs (xS items l S s) S)),(11,.int .i64 ((dnS items S s).2 / gcA (dnS items S s) (ptS items l S s):Nat)),(13,.ptr 13 0 0),(14,.int .i64 (i:Nat))])
    (stOf [(4,⟨29,2,[.agg [.int .i64 0,.nils]]⟩),(13,⟨29,2,[.agg [.int .i64 ((dnS items S s).2 / gcA (dnS items S s) (ptS items l S s):Nat),.buf 100 i]]⟩),(100,⟨3,1,ints ((chs0 (dnS items S s) (ptS items l S s)).take i)⟩)]) .mk:=by
 have hs5:=F.s5
 have hmax:=maxLen_big
 by_cases h':i<S
 ·have hc1:(i:Int)<S:=by omega
  have gx:=rqs_get (f:=xS items l S s) (n:=S) h'
  obtain ⟨_,d2⟩:=vl_pos (F.dpos hs)
  have hpl:i<(ptS items l S s).length:=by rw [ptS_len];exact h'
  have hgD:gcA (dnS items S s) (ptS items l S s) ∣ (dnS items S s).2:=Lin.gcds_dvd _ _
  have hgP:gcA (dnS items S s) (ptS items l S s) ∣ pN items l S s i:=Lin.gcds_mem (by
   unfold pN
   rw [List.getD_eq_getElem?_getD,List.getElem?_eq_getElem hpl]
   exact List.mem_map.2 ⟨_,List.getElem_mem hpl,rfl⟩)
  have hq:=part_q hgD hgP d2
  rw [← xS_nat F hs hb h'] at hq
  have hpb:pN items l S s i≤72000000000000000000000000000:=by
   unfold pN
   rw [List.getD_eq_getElem?_getD,List.getElem?_eq_getElem hpl]
   exact F.pb hs _ (List.getElem_mem hpl)
  have hct:=chs_take (D:=dnS items S s) hpl
  have hcl:((chs0 (dnS items S s) (ptS items l S s)).take i).length=i:=by rw [List.length_take,chs0_len,ptS_len];omega
  have hpe:((ptS items l S s).getD i (false,0)).2=pN items l S s i:=rfl
  rw [hpe] at hct
  have hnb:smallQ (dnS items S s) (ptS items l S s)=true→pN items l S s i / gcA (dnS items S s) (ptS items l S s)≤1000000000000:=fun h=>by
   have:=(small_le h).2 _ (List.getElem_mem (show i<(chs0 (dnS items S s) (ptS items l S s)).length by rw [chs0_len];exact hpl))
   have e:=chs0_get (dnS items S s) (ptS items l S s) hpl
   rw [getD_at (by rw [chs0_len];exact hpl)] at e
   rw [e,hpe] at this
   omega
  have hpl2:pN items l S s i / gcA (dnS items S s) (ptS items l S s)≤pN items l S s i:=Nat.div_le_self _ _
  generalize (dnS items S s).2 / gcA (dnS items S s) (ptS items l S s)=D at *
  obtain ⟨p,hpd⟩:∃ p,p=pN items l S s i / gcA (dnS items S s) (ptS items l S s):=⟨_,rfl⟩
  rw [← hpd] at hq hct hnb hpl2
  have hRi:=RatioInt_q (D:Int) (by unfold I64;omega)
  have hxb:=xS_B F hs h'
  have okx:qOk 1000 (xS items l S s i):=qB_ok hxb (Nat.lt_of_le_of_lt (show XB≤OB 5 * 100 by decide +kernel) OB_5)
  have okd:qOk 1000 ((D:Int):Rat):=qB_ok (qB_int (M:=XB) (by unfold XB;omega) (by decide)) (Nat.lt_of_le_of_lt (show XB≤OB 5 * 100 by decide +kernel) OB_5)
  have okp:qOk 1000 ((p:Int):Rat):=qB_ok (qB_int (M:=XB) (by unfold XB;omega) (by decide)) (Nat.lt_of_le_of_lt (show XB≤OB 5 * 100 by decide +kernel) OB_5)
  have hM:=RatioMul_q okx okd
  rw [hq] at hM
  have hFl:=RatioFloor_q okp
  have hpi:(((p:Int):Rat)).num / ((((p:Int):Rat)).den:Int)=(p:Int):=by
   rw [Rat.num_intCast,Rat.den_intCast];simp
  rw [hpi] at hFl
  have hWi:=WideInt_s (p:Int)
  rw [wide_hr] at hFl hWi
  rw [rq_hr] at hRi hFl
  rw [rq_hr,rq_hr,rq_hr] at hM
  by_cases hp18:p<1000000000000000000
  ·have hw1:((p:Int)).natAbs<1000000000000000000:=by omega
   rw [if_pos hw1,decide_eq_true hw1] at hWi
   by_cases hp12:p≤1000000000000
   ·have hc2:¬ (1000000000000:Int)<p:=by omega
    simp only [cl_ref02_Fit_b4,hc1,rqs_length,gx,vZ,Int.reduceEq,Int.reduceNe,Int.reduceLT,Int.reduceLE,Nat.reduceEqDiff,Nat.reduceAdd,reduceIte,reduceCtorEq,Nat.reduceLT,Nat.reduceLeDiff,Nat.reduceShiftRight,Nat.reduceMod]
    (repeat (with_reducible refine And.intro ?_ ?_;focus (first | omega | (unfold I64;omega))))
    refine callS_of hRi ?_
    simp only [vZ,Int.reduceEq,Int.reduceNe,Int.reduceLT,Int.reduceLE,Nat.reduceEqDiff,Nat.reduceAdd,reduceIte,reduceCtorEq,Nat.reduceLT,Nat.reduceLeDiff,Nat.reduceShiftRight,Nat.reduceMod]
    refine callS_of hM ?_
    simp only [vZ,Int.reduceEq,Int.reduceNe,Int.reduceLT,Int.reduceLE,Nat.reduceEqDiff,Nat.reduceAdd,reduceIte,reduceCtorEq,Nat.reduceLT,Nat.reduceLeDiff,Nat.reduceShiftRight,Nat.reduceMod]
    refine callS_of hFl ?_
    simp only [vZ,Int.reduceEq,Int.reduceNe,Int.reduceLT,Int.reduceLE,Nat.reduceEqDiff,Nat.reduceAdd,reduceIte,reduceCtorEq,Nat.reduceLT,Nat.reduceLeDiff,Nat.reduceShiftRight,Nat.reduceMod]
    refine callS_of hWi ?_
    simp only [hc2,ints_length,hcl,vZ,Int.reduceEq,Int.reduceNe,Int.reduceLT,Int.reduceLE,Nat.reduceEqDiff,Nat.reduceAdd,reduceIte,reduceCtorEq,Nat.reduceLT,Nat.reduceLeDiff,Nat.reduceShiftRight,Nat.reduceMod]
    refine ⟨⟨by omega,by omega⟩,by unfold I64;omega,⟨i+1,h',fun k hk=>?_⟩,by simp only;omega,?_⟩
    ·by_cases e:k=i
     ·subst e;rw [← hpd];exact hp12
     ·exact hsm k (by omega)
    ·refine weakX [(100,some 104)] (of_decide_eq_true rfl) (of_decide_eq_true rfl) ?_
     (simp only [ints_length,hcl,vcW,vZ,Int.reduceEq,Int.reduceNe,Int.reduceLT,Int.reduceLE,Nat.reduceEqDiff,Nat.reduceAdd,reduceIte,reduceCtorEq,Nat.reduceLT,Nat.reduceLeDiff,Nat.reduceShiftRight,Nat.reduceMod])
     repeat' (with_reducible refine And.intro ?_ ?_)
     try any_goals (with_reducible exact RnB.wide)
     try any_goals (with_reducible exact RnB.agg2 rfl rfl rfl rfl (.imm _ rfl) (.buf 104 100 _ rfl))
     (repeat' first | exact trivial | (with_reducible first | exact RnB.fxB (ints_fxB _) | rfl | refine And.intro ?_ ?_) | (with_reducible (first | refine RnB.bb ?_ | refine RnB.nb ?_);simp only [vcW,vZ,Int.reduceEq,Int.reduceNe,Int.reduceLT,Int.reduceLE,Nat.reduceEqDiff,Nat.reduceAdd,reduceIte,reduceCtorEq,Nat.reduceLT,Nat.reduceLeDiff,Nat.reduceShiftRight,Nat.reduceMod]) | (with_reducible first | refine RnB.ii ?_ | refine RnB.app ?_) | (with_reducible refine RnB.fxB ?_;simp only [vcW,vZ,Int.reduceEq,Int.reduceNe,Int.reduceLT,Int.reduceLE,Nat.reduceEqDiff,Nat.reduceAdd,reduceIte,reduceCtorEq,Nat.reduceLT,Nat.reduceLeDiff,Nat.reduceShiftRight,Nat.reduceMod]) | omega)
     all_goals (rw [hct,ints_append];try rfl)
   ·have hc2:(1000000000000:Int)<p:=by omega
    have hno:smallQ (dnS items S s) (ptS items l S s)=false:=by
     cases hc:smallQ (dnS items S s) (ptS items l S s) with
     | false=>rfl
     | true=>exact absurd (hnb hc) hp12
    simp only [cl_ref02_Fit_b4,hc1,rqs_length,gx,vZ,Int.reduceEq,Int.reduceNe,Int.reduceLT,Int.reduceLE,Nat.reduceEqDiff,Nat.reduceAdd,reduceIte,reduceCtorEq,Nat.reduceLT,Nat.reduceLeDiff,Nat.reduceShiftRight,Nat.reduceMod]
    (repeat (with_reducible refine And.intro ?_ ?_;focus (first | omega | (unfold I64;omega))))
    refine callS_of hRi ?_
    simp only [vZ,Int.reduceEq,Int.reduceNe,Int.reduceLT,Int.reduceLE,Nat.reduceEqDiff,Nat.reduceAdd,reduceIte,reduceCtorEq,Nat.reduceLT,Nat.reduceLeDiff,Nat.reduceShiftRight,Nat.reduceMod]
    refine callS_of hM ?_
    simp only [vZ,Int.reduceEq,Int.reduceNe,Int.reduceLT,Int.reduceLE,Nat.reduceEqDiff,Nat.reduceAdd,reduceIte,reduceCtorEq,Nat.reduceLT,Nat.reduceLeDiff,Nat.reduceShiftRight,Nat.reduceMod]
    refine callS_of hFl ?_
    simp only [vZ,Int.reduceEq,Int.reduceNe,Int.reduceLT,Int.reduceLE,Nat.reduceEqDiff,Nat.reduceAdd,reduceIte,reduceCtorEq,Nat.reduceLT,Nat.reduceLeDiff,Nat.reduceShiftRight,Nat.reduceMod]
    refine callS_of hWi ?_
    simp only [hc2,vZ,Int.reduceEq,Int.reduceNe,Int.reduceLT,Int.reduceLE,Nat.reduceEqDiff,Nat.reduceAdd,reduceIte,reduceCtorEq,Nat.reduceLT,Nat.reduceLeDiff,Nat.reduceShiftRight,Nat.reduceMod]
    exact hr0 hno _ _ rfl rfl rfl
  ·have hw1:¬ ((p:Int)).natAbs<1000000000000000000:=by omega
   rw [if_neg hw1,decide_eq_false hw1] at hWi
   have hno:smallQ (dnS items S s) (ptS items l S s)=false:=by
    cases hc:smallQ (dnS items S s) (ptS items l S s) with
    | false=>rfl
    | true=>have:=hnb hc;omega
   simp only [cl_ref02_Fit_b4,hc1,rqs_length,gx,vZ,Int.reduceEq,Int.reduceNe,Int.reduceLT,Int.reduceLE,Nat.reduceEqDiff,Nat.reduceAdd,reduceIte,reduceCtorEq,Nat.reduceLT,Nat.reduceLeDiff,Nat.reduceShiftRight,Nat.reduceMod]
   (repeat (with_reducible refine And.intro ?_ ?_;focus (first | omega | (unfold I64;omega))))
   refine callS_of hRi ?_
   simp only [vZ,Int.reduceEq,Int.reduceNe,Int.reduceLT,Int.reduceLE,Nat.reduceEqDiff,Nat.reduceAdd,reduceIte,reduceCtorEq,Nat.reduceLT,Nat.reduceLeDiff,Nat.reduceShiftRight,Nat.reduceMod]
   refine callS_of hM ?_
   simp only [vZ,Int.reduceEq,Int.reduceNe,Int.reduceLT,Int.reduceLE,Nat.reduceEqDiff,Nat.reduceAdd,reduceIte,reduceCtorEq,Nat.reduceLT,Nat.reduceLeDiff,Nat.reduceShiftRight,Nat.reduceMod]
   refine callS_of hFl ?_
   simp only [vZ,Int.reduceEq,Int.reduceNe,Int.reduceLT,Int.reduceLE,Nat.reduceEqDiff,Nat.reduceAdd,reduceIte,reduceCtorEq,Nat.reduceLT,Nat.reduceLeDiff,Nat.reduceShiftRight,Nat.reduceMod]
   refine callS_of hWi ?_
   simp only [vZ,Int.reduceEq,Int.reduceNe,Int.reduceLT,Int.reduceLE,Nat.reduceEqDiff,Nat.reduceAdd,reduceIte,reduceCtorEq,Nat.reduceLT,Nat.reduceLeDiff,Nat.reduceShiftRight,Nat.reduceMod]
   exact hr0 hno _ _ rfl rfl rfl
 ·have hiS:i=S:=by omega
  subst hiS
  have hc1:¬ (i:Int)<i:=by omega
  simp only [cl_ref02_Fit_b4,hc1,rqs_length,vZ,Int.reduceEq,Int.reduceNe,Int.reduceLT,Int.reduceLE,Nat.reduceEqDiff,Nat.reduceAdd,reduceIte,reduceCtorEq,Nat.reduceLT,Nat.reduceLeDiff,Nat.reduceShiftRight,Nat.reduceMod]
  exact hex hsm _ rfl rfl
end Go.Proofs.YtgmpcbpmnimkoaaGreatDoor

/- The reference's fit: contract,whole. By an AI agent;nothing here is trusted. -/
namespace Go.Proofs.YtgmpcbpmnimkoaaGreatDoor
open Go.Av

theorem small_iff {items l:List Int} {S s:Nat}:smallQ (dnS items S s) (ptS items l S s)=true ↔ (dnS items S s).2 / gcA (dnS items S s) (ptS items l S s)≤1000000000000∧∀ k,k<S→pN items l S s k / gcA (dnS items S s) (ptS items l S s)≤1000000000000:=by
 have hpl:=ptS_len items l S s
 unfold smallQ qtL
 generalize gcA (dnS items S s) (ptS items l S s)=g
 rw [List.map_cons,List.all_cons,Bool.and_eq_true,decide_eq_true_eq,List.all_eq_true]
 refine and_congr Iff.rfl ⟨fun h k hk=>?_,fun h n hn=>?_⟩
 ·have hkl:k<(ptS items l S s).length:=by omega
  have:=h _ (List.mem_map.2 ⟨_,List.getElem_mem hkl,rfl⟩)
  unfold pN
  rw [List.getD_eq_getElem?_getD,List.getElem?_eq_getElem hkl]
  exact of_decide_eq_true this
 ·obtain ⟨p,hp,rfl⟩:=List.mem_map.1 hn
  obtain ⟨k,hk,rfl⟩:=List.getElem_of_mem hp
  have:=h k (by omega)
  unfold pN at this
  rw [List.getD_eq_getElem?_getD,List.getElem?_eq_getElem hk] at this
  exact decide_eq_true this
set_option maxHeartbeats 8000000 in
theorem refFit_s {items l:List Int} {S:Nat} (F:FtB items l S):Sound Tryz.prog 36 [tplA items (S:Int),.sl (ints l)] (.tup (rfA items l S (fdS items l S))):=by
 refine sound_WL f_ref02_Fit e_ref02_Fit (Nat.le_of_ble_eq_true rfl) ?_
 have hmax:=maxLen_big
 have hs5:=F.s5
 have hsh:=shl_i hs5.2
 have h32:2 ^ S≤32:=by
  have h2:2 ^ S≤2 ^ 5:=Nat.pow_le_pow_right (by omega) hs5.2
  have h3:(2:Nat) ^ 5=32:=rfl
  omega
 unfold tplA
 simp only [cl_ref02_Fit,vZ,Int.reduceEq,Int.reduceNe,Int.reduceLT,Int.reduceLE,Nat.reduceEqDiff,Nat.reduceAdd,reduceIte,reduceCtorEq,Nat.reduceLT,Nat.reduceLeDiff,Nat.reduceShiftRight,Nat.reduceMod]
 refine WL_cut ?_
 simp only [cl_ref02_Fit_1,vZ,Int.reduceEq,Int.reduceNe,Int.reduceLT,Int.reduceLE,Nat.reduceEqDiff,Nat.reduceAdd,reduceIte,reduceCtorEq,Nat.reduceLT,Nat.reduceLeDiff,Nat.reduceShiftRight,Nat.reduceMod]
 refine WL_loop (t:=.mk) (α:=PSigma fun s:Nat=>s≤2 ^ S∧∀ k,k<s→bsS items l S k=false) (fun ⟨s,_⟩=>(envOf [(1,.sl (ints l)),(2,.ptr 2 0 0),(4,.ptr 4 0 0),(6,.int .i64 (s:Nat))],stOf [(2,⟨24,2,[.agg [.sl (ints items),.int .i64 S]]⟩),(4,⟨29,2,[.agg [.int .i64 0,.nils]]⟩)])) (fun x=>2 ^ S - x.1) ⟨0,Nat.zero_le _,fun k hk=>by omega⟩ ?_ (fun ⟨s,hsS,hno⟩=>?_)
 ·refine weakX [] (of_decide_eq_true rfl) (of_decide_eq_true rfl) ?_
  (simp only [vcW,vZ,Int.reduceEq,Int.reduceNe,Int.reduceLT,Int.reduceLE,Nat.reduceEqDiff,Nat.reduceAdd,reduceIte,reduceCtorEq,Nat.reduceLT,Nat.reduceLeDiff,Nat.reduceShiftRight,Nat.reduceMod])
  repeat' (with_reducible refine And.intro ?_ ?_)
  try any_goals (with_reducible exact RnB.wide)
  (repeat' first | exact trivial | (with_reducible first | exact RnB.fxB (ints_fxB _) | rfl | refine And.intro ?_ ?_) | (with_reducible (first | refine RnB.bb ?_ | refine RnB.nb ?_);simp only [vcW,vZ,Int.reduceEq,Int.reduceNe,Int.reduceLT,Int.reduceLE,Nat.reduceEqDiff,Nat.reduceAdd,reduceIte,reduceCtorEq,Nat.reduceLT,Nat.reduceLeDiff,Nat.reduceShiftRight,Nat.reduceMod]) | (with_reducible first | refine RnB.ii ?_ | refine RnB.app ?_) | (with_reducible refine RnB.fxB ?_;simp only [vcW,vZ,Int.reduceEq,Int.reduceNe,Int.reduceLT,Int.reduceLE,Nat.reduceEqDiff,Nat.reduceAdd,reduceIte,reduceCtorEq,Nat.reduceLT,Nat.reduceLeDiff,Nat.reduceShiftRight,Nat.reduceMod]) | omega)
 ·dsimp only at hsS hno ⊢
  by_cases h':s<2 ^ S
  ·have hc1:(s:Int)<(2 ^ S:Nat):=by omega
   have hSol:=solved_ref_s F h'
   have hIs:=isBest_ref_s F (x:=xS items l S s) fun k hk=>xS_B F h' hk
   rw [is_bs F h'] at hIs
   unfold tplA at hSol hIs
   obtain ⟨_,d2⟩:=vl_pos (F.dpos h')
   have hDb:=F.db h'
   cases hb:bsS items l S s with
   | false =>
    rw [hb] at hIs
    simp only [cl_ref02_Fit_b0,hsh,hc1,vZ,Int.reduceEq,Int.reduceNe,Int.reduceLT,Int.reduceLE,Nat.reduceEqDiff,Nat.reduceAdd,reduceIte,reduceCtorEq,Nat.reduceLT,Nat.reduceLeDiff,Nat.reduceShiftRight,Nat.reduceMod]
    (repeat (with_reducible refine And.intro ?_ ?_;focus (first | omega | (unfold I64;omega))))
    refine callS_of hSol ?_
    simp only [vZ,Int.reduceEq,Int.reduceNe,Int.reduceLT,Int.reduceLE,Nat.reduceEqDiff,Nat.reduceAdd,reduceIte,reduceCtorEq,Nat.reduceLT,Nat.reduceLeDiff,Nat.reduceShiftRight,Nat.reduceMod]
    refine callS_of hIs ?_
    simp only [vZ,Int.reduceEq,Int.reduceNe,Int.reduceLT,Int.reduceLE,Nat.reduceEqDiff,Nat.reduceAdd,reduceIte,reduceCtorEq,Nat.reduceLT,Nat.reduceLeDiff,Nat.reduceShiftRight,Nat.reduceMod]
    refine ⟨by unfold I64;omega,⟨s+1,by omega,fun k hk=>?_⟩,by simp only;omega,?_⟩
    ·by_cases e:k=s
     ·subst e;exact hb
     ·exact hno k (by omega)
    ·refine weakX [] (of_decide_eq_true rfl) (of_decide_eq_true rfl) ?_
     (simp only [vcW,vZ,Int.reduceEq,Int.reduceNe,Int.reduceLT,Int.reduceLE,Nat.reduceEqDiff,Nat.reduceAdd,reduceIte,reduceCtorEq,Nat.reduceLT,Nat.reduceLeDiff,Nat.reduceShiftRight,Nat.reduceMod])
     repeat' (with_reducible refine And.intro ?_ ?_)
     try any_goals (with_reducible exact RnB.wide)
     (repeat' first | exact trivial | (with_reducible first | exact RnB.fxB (ints_fxB _) | rfl | refine And.intro ?_ ?_) | (with_reducible (first | refine RnB.bb ?_ | refine RnB.nb ?_);simp only [vcW,vZ,Int.reduceEq,Int.reduceNe,Int.reduceLT,Int.reduceLE,Nat.reduceEqDiff,Nat.reduceAdd,reduceIte,reduceCtorEq,Nat.reduceLT,Nat.reduceLeDiff,Nat.reduceShiftRight,Nat.reduceMod]) | (with_reducible first | refine RnB.ii ?_ | refine RnB.app ?_) | (with_reducible refine RnB.fxB ?_;simp only [vcW,vZ,Int.reduceEq,Int.reduceNe,Int.reduceLT,Int.reduceLE,Nat.reduceEqDiff,Nat.reduceAdd,reduceIte,reduceCtorEq,Nat.reduceLT,Nat.reduceLeDiff,Nat.reduceShiftRight,Nat.reduceMod]) | omega)
   | true =>
    rw [hb] at hIs
    have hfd:fdS items l S=some s:=find_at h' hb hno
    have hall:=lcT_all (items:=items) (l:=l) (S:=S) (s:=s) d2
    rw [den0_eq] at hall
    have hle:(dnS items S s).2 / gcA (dnS items S s) (ptS items l S s)≤(dnS items S s).2:=Nat.div_le_self _ _
    have hct:(chs0 (dnS items S s) (ptS items l S s)).take S=chs0 (dnS items S s) (ptS items l S s):=List.take_of_length_le (by rw [chs0_len,ptS_len];exact Nat.le_refl _)
    have hcl:(chs0 (dnS items S s) (ptS items l S s)).length=S:=by rw [chs0_len,ptS_len]
    have hsi:=small_iff (items:=items) (l:=l) (S:=S) (s:=s)
    have hb4:=fun (hd12:(dnS items S s).2 / gcA (dnS items S s) (ptS items l S s)≤1000000000000) (i:Nat) (hi:i≤S) hsm Q hr0 hex=>Ft_b4 F h' hb hd12 hi hsm (Q:=Q) hr0 hex
    have hW1:=WideOf_s 1 (by unfold I64;omega)
    have hlc0:lcT items l S s 0=1:=rfl
    have h1c:((1:Nat):Int)=1:=rfl
    have hWi:=WideInt_s (lcT items l S s S:Nat)
    rw [hfd]
    unfold rfA
    rw [hall] at hWi
    rw [wide_hr] at hWi hW1
    simp only [cl_ref02_Fit_b0,hsh,hc1,vZ,Int.reduceEq,Int.reduceNe,Int.reduceLT,Int.reduceLE,Nat.reduceEqDiff,Nat.reduceAdd,reduceIte,reduceCtorEq,Nat.reduceLT,Nat.reduceLeDiff,Nat.reduceShiftRight,Nat.reduceMod]
    (repeat (with_reducible refine And.intro ?_ ?_;focus (first | omega | (unfold I64;omega))))
    refine callS_of hSol ?_
    simp only [vZ,Int.reduceEq,Int.reduceNe,Int.reduceLT,Int.reduceLE,Nat.reduceEqDiff,Nat.reduceAdd,reduceIte,reduceCtorEq,Nat.reduceLT,Nat.reduceLeDiff,Nat.reduceShiftRight,Nat.reduceMod]
    refine callS_of hIs ?_
    simp only [vZ,Int.reduceEq,Int.reduceNe,Int.reduceLT,Int.reduceLE,Nat.reduceEqDiff,Nat.reduceAdd,reduceIte,reduceCtorEq,Nat.reduceLT,Nat.reduceLeDiff,Nat.reduceShiftRight,Nat.reduceMod]
    refine callS_of hW1 ?_
    simp only [vZ,Int.reduceEq,Int.reduceNe,Int.reduceLT,Int.reduceLE,Nat.reduceEqDiff,Nat.reduceAdd,reduceIte,reduceCtorEq,Nat.reduceLT,Nat.reduceLeDiff,Nat.reduceShiftRight,Nat.reduceMod]
    refine WL_loopZ (α:=PSigma fun i:Nat=>i≤S) (fun ⟨i,_⟩=>(envOf [(4,.ptr 4 0 0),(7,.sl (rqs (xS items l S s) S)),(9,.ptr 9 0 0),(10,.int .i64 (i:Nat))],stOf [(4,⟨29,2,[.agg [.int .i64 0,.nils]]⟩),(9,⟨38,2,[wideA (lcT items l S s i:Nat)]⟩)])) (fun x=>S - x.1) ⟨0,Nat.zero_le _⟩ 2
     (fun e' s'=>s'=stOf [(4,⟨29,2,[.agg [.int .i64 0,.nils]]⟩),(9,⟨38,2,[wideA (lcT items l S s S:Nat)]⟩)]∧e' 4=.ptr 4 0 0∧e' 7=.sl (rqs (xS items l S s) S)∧e' 9=.ptr 9 0 0) ?_ (fun ⟨i,hi⟩=>Ft_b2 (Bf:=⟨0,0,[]⟩) F h' hb hi) (fun e1 s1 h=>?_)
    ·refine weakX [] (of_decide_eq_true rfl) (of_decide_eq_true rfl) ?_
     (simp only [hlc0,wide_hr,h1c,vcW,vZ,Int.reduceEq,Int.reduceNe,Int.reduceLT,Int.reduceLE,Nat.reduceEqDiff,Nat.reduceAdd,reduceIte,reduceCtorEq,Nat.reduceLT,Nat.reduceLeDiff,Nat.reduceShiftRight,Nat.reduceMod])
     repeat' (with_reducible refine And.intro ?_ ?_)
     try any_goals (with_reducible exact RnB.wide)
     (repeat' first | exact trivial | (with_reducible first | exact RnB.fxB (ints_fxB _) | rfl | refine And.intro ?_ ?_) | (with_reducible (first | refine RnB.bb ?_ | refine RnB.nb ?_);simp only [vcW,vZ,Int.reduceEq,Int.reduceNe,Int.reduceLT,Int.reduceLE,Nat.reduceEqDiff,Nat.reduceAdd,reduceIte,reduceCtorEq,Nat.reduceLT,Nat.reduceLeDiff,Nat.reduceShiftRight,Nat.reduceMod]) | (with_reducible first | refine RnB.ii ?_ | refine RnB.app ?_) | (with_reducible refine RnB.fxB ?_;simp only [vcW,vZ,Int.reduceEq,Int.reduceNe,Int.reduceLT,Int.reduceLE,Nat.reduceEqDiff,Nat.reduceAdd,reduceIte,reduceCtorEq,Nat.reduceLT,Nat.reduceLeDiff,Nat.reduceShiftRight,Nat.reduceMod]) | omega)
     all_goals trace_state
    ·obtain ⟨hst,g4,g7,g9⟩:=h
     subst hst
     rw [hall]
     obtain ⟨D,hD⟩:∃ D,D=(dnS items S s).2 / gcA (dnS items S s) (ptS items l S s):=⟨_,rfl⟩
     rw [← hD] at hWi hb4 hsi hle ⊢
     simp only [g4,g7,g9,wide_hr,vZ,Int.reduceEq,Int.reduceNe,Int.reduceLT,Int.reduceLE,Nat.reduceEqDiff,Nat.reduceAdd,reduceIte,reduceCtorEq,Nat.reduceLT,Nat.reduceLeDiff,Nat.reduceShiftRight,Nat.reduceMod]
     refine callS_of hWi ?_
     by_cases hd18:((D:Int)).natAbs<1000000000000000000
     ·by_cases hd12:D≤1000000000000
      ·have hc2:¬ (1000000000000:Int)<D:=by omega
       simp only [g4,g7,g9,hc2,hd18,vZ,Int.reduceEq,Int.reduceNe,Int.reduceLT,Int.reduceLE,Nat.reduceEqDiff,Nat.reduceAdd,reduceIte,reduceCtorEq,Nat.reduceLT,Nat.reduceLeDiff,Nat.reduceShiftRight,Nat.reduceMod]
       refine WL_loop (t:=.mk) (α:=PSigma fun i:Nat=>i≤S∧∀ k,k<i→pN items l S s k / gcA (dnS items S s) (ptS items l S s)≤1000000000000) (fun ⟨i,_⟩=>(envOf [(4,.ptr 4 0 0),(7,.sl (rqs (xS items l S s) S)),(11,.int .i64 (D:Nat)),(13,.ptr 13 0 0),(14,.int .i64 (i:Nat))],stOf [(4,⟨29,2,[.agg [.int .i64 0,.nils]]⟩),(13,⟨29,2,[.agg [.int .i64 (D:Nat),.buf 100 i]]⟩),(100,⟨3,1,ints ((chs0 (dnS items S s) (ptS items l S s)).take i)⟩)])) (fun x=>S - x.1) ⟨0,Nat.zero_le _,fun k hk=>by omega⟩ ?_ (fun ⟨i,hi,hsm⟩=>hb4 hd12 i hi hsm _ (fun hn e s' e4 e5 es=>?_) (fun hsm2 e' e4 e13=>?_))
       ·refine weakX [(100,none)] (of_decide_eq_true rfl) (of_decide_eq_true rfl) ?_
        (simp only [g4,g7,vcW,vZ,Int.reduceEq,Int.reduceNe,Int.reduceLT,Int.reduceLE,Nat.reduceEqDiff,Nat.reduceAdd,reduceIte,reduceCtorEq,Nat.reduceLT,Nat.reduceLeDiff,Nat.reduceShiftRight,Nat.reduceMod])
        repeat' (with_reducible refine And.intro ?_ ?_)
        try any_goals (with_reducible exact RnB.wide)
        try any_goals (with_reducible exact RnB.agg2 rfl rfl rfl rfl (.imm _ rfl) (.virt 100 _ rfl rfl))
        (repeat' first | exact trivial | (with_reducible first | exact RnB.fxB (ints_fxB _) | rfl | refine And.intro ?_ ?_) | (with_reducible (first | refine RnB.bb ?_ | refine RnB.nb ?_);simp only [vcW,vZ,Int.reduceEq,Int.reduceNe,Int.reduceLT,Int.reduceLE,Nat.reduceEqDiff,Nat.reduceAdd,reduceIte,reduceCtorEq,Nat.reduceLT,Nat.reduceLeDiff,Nat.reduceShiftRight,Nat.reduceMod]) | (with_reducible first | refine RnB.ii ?_ | refine RnB.app ?_) | (with_reducible refine RnB.fxB ?_;simp only [vcW,vZ,Int.reduceEq,Int.reduceNe,Int.reduceLT,Int.reduceLE,Nat.reduceEqDiff,Nat.reduceAdd,reduceIte,reduceCtorEq,Nat.reduceLT,Nat.reduceLeDiff,Nat.reduceShiftRight,Nat.reduceMod]) | omega)
       ·rw [hn]
        simp only [e4,e5,es,vZ,Int.reduceEq,Int.reduceNe,Int.reduceLT,Int.reduceLE,Nat.reduceEqDiff,Nat.reduceAdd,reduceIte,reduceCtorEq,Nat.reduceLT,Nat.reduceLeDiff,Nat.reduceShiftRight,Nat.reduceMod]
       ·have hyes:smallQ (dnS items S s) (ptS items l S s)=true:=hsi.2 ⟨hd12,hsm2⟩
        rw [hyes,hct]
        simp only [e4,e13,vZ,Int.reduceEq,Int.reduceNe,Int.reduceLT,Int.reduceLE,Nat.reduceEqDiff,Nat.reduceAdd,reduceIte,reduceCtorEq,Nat.reduceLT,Nat.reduceLeDiff,Nat.reduceShiftRight,Nat.reduceMod]
        rw [borB_good _ _ _ _ _ (by rw [ints_length,hcl]) (ints_fx _),hD];rfl
      ·have hc2:(1000000000000:Int)<D:=by omega
       have hno:smallQ (dnS items S s) (ptS items l S s)=false:=by
        cases hc:smallQ (dnS items S s) (ptS items l S s) with
        | false=>rfl
        | true=>exact absurd (hsi.1 hc).1 hd12
       rw [hno]
       simp only [g4,g7,g9,hc2,hd18,vZ,Int.reduceEq,Int.reduceNe,Int.reduceLT,Int.reduceLE,Nat.reduceEqDiff,Nat.reduceAdd,reduceIte,reduceCtorEq,Nat.reduceLT,Nat.reduceLeDiff,Nat.reduceShiftRight,Nat.reduceMod]
     ·have hno:smallQ (dnS items S s) (ptS items l S s)=false:=by
       cases hc:smallQ (dnS items S s) (ptS items l S s) with
       | false=>rfl
       | true=>have:=(hsi.1 hc).1;omega
      rw [hno]
      simp only [g4,g7,g9,hd18,vZ,Int.reduceEq,Int.reduceNe,Int.reduceLT,Int.reduceLE,Nat.reduceEqDiff,Nat.reduceAdd,reduceIte,reduceCtorEq,Nat.reduceLT,Nat.reduceLeDiff,Nat.reduceShiftRight,Nat.reduceMod]
  ·have hil:s=2 ^ S:=by omega
   subst hil
   have hc1:¬ ((2 ^ S:Nat):Int)<(2 ^ S:Nat):=by omega
   have hfd:fdS items l S=none:=find_no hno
   rw [hfd,rfA]
   simp only [cl_ref02_Fit_b0,hsh,hc1,vZ,Int.reduceEq,Int.reduceNe,Int.reduceLT,Int.reduceLE,Nat.reduceEqDiff,Nat.reduceAdd,reduceIte,reduceCtorEq,Nat.reduceLT,Nat.reduceLeDiff,Nat.reduceShiftRight,Nat.reduceMod]
   refine ⟨by omega,WL_cut ?_⟩
   simp only [cl_ref02_Fit_2,vZ,Int.reduceEq,Int.reduceNe,Int.reduceLT,Int.reduceLE,Nat.reduceEqDiff,Nat.reduceAdd,reduceIte,reduceCtorEq,Nat.reduceLT,Nat.reduceLeDiff,Nat.reduceShiftRight,Nat.reduceMod]
end Go.Proofs.YtgmpcbpmnimkoaaGreatDoor

/- The examples of chapter 2 hold. By an AI agent;nothing here is trusted. -/
namespace Go.Proofs.YtgmpcbpmnimkoaaGreatDoor
open Go.Av
theorem awake_run:(callX extP owP itP (lookC tabP) 100 40).v 11 []=some (.bool true):=by kernel_rfl
theorem awake_s:Sound Tryz.prog 11 [] (.bool true):=(callX_sound extP_ok itP_ok tabP_ok 40).1 _ _ _ awake_run
end Go.Proofs.YtgmpcbpmnimkoaaGreatDoor

/- The error of a fit;fits of samples times a number. By an AI agent;nothing here is trusted. -/
namespace Go.Proofs.YtgmpcbpmnimkoaaGreatDoor
open Go.Av

end Go.Proofs.YtgmpcbpmnimkoaaGreatDoor

/- The best fit: what is accepted,and what is found,in plain Lean. By an AI agent;nothing here is trusted. -/
namespace Go.Proofs.YtgmpcbpmnimkoaaGreatDoor
open Go.Av

theorem FitIn.d0 {items l:List Int} {shifts:Int} {ch:List Int} {den:Int} (F:FitIn items l shifts ch den):(0:Rat)<((den:Int):Rat):=by
 exact_mod_cast (show (0:Int)<den by have:=F.db;omega)
end Go.Proofs.YtgmpcbpmnimkoaaGreatDoor

/- Contracts: the model of whole charges;which charges are whole;equal fits. By an AI agent;nothing here is trusted. -/
namespace Go.Proofs.YtgmpcbpmnimkoaaGreatDoor
open Go.Av

def whl (n:Int):Bool:=decide (0≤n∧n≤1000)
theorem Modelled_1_s (n:Int):Sound Tryz.prog 115 [.int .i64 n] (.bool (!whl n)):=by
 refine sound_W f_pulse_Modelled_1 (Nat.le_of_ble_eq_true rfl) ?_
 simp only [c_pulse_Modelled_1,vZ,Int.reduceEq,Int.reduceNe,Int.reduceLT,Int.reduceLE,Nat.reduceEqDiff,Nat.reduceAdd,reduceIte,reduceCtorEq,Nat.reduceLT,Nat.reduceLeDiff,Nat.reduceShiftRight,Nat.reduceMod]
 refine callS_of (within_s _ _ _) ?_
 simp only [whl,vZ,Int.reduceEq,Int.reduceNe,Int.reduceLT,Int.reduceLE,Nat.reduceEqDiff,Nat.reduceAdd,reduceIte,reduceCtorEq,Nat.reduceLT,Nat.reduceLeDiff,Nat.reduceShiftRight,Nat.reduceMod]
def moE (items:List Int) (shifts:Int) (ch:List Int):Int:=if teE items shifts ≠ 0 then teE items shifts else if (ch.length:Int)=shifts then (if ch.all whl then 0 else 2) else 10
def moO (items:List Int) (shifts:Int) (ch:List Int):List Int:=if moE items shifts ch=0 then mdA items ch else []
theorem moE_ok {items ch:List Int} {shifts:Int} (h:moE items shifts ch=0):teE items shifts=0∧(ch.length:Int)=shifts∧∀ x ∈ ch,0≤x∧x≤1000:=by
 unfold moE at h
 split at h
 ·rename_i g;exact absurd h g
 ·rename_i g
  split at h
  ·rename_i g2
   split at h
   ·rename_i g3
    exact ⟨by omega,g2,fun x hx=>of_decide_eq_true (List.all_eq_true.1 g3 x hx)⟩
   ·cases h
  ·cases h
theorem Modelled_s (items:List Int) (shifts:Int) (ch:List Int) (hi:items.length<4000000000000000000) (hl:ch.length<4000000000000000000) :
  Sound Tryz.prog 31 [tplA items shifts,.sl (ints ch)] (.tup [.sl (ints (moO items shifts ch)),.int .i64 (moE items shifts ch)]):=by
 refine sound_W f_pulse_Modelled (Nat.le_of_ble_eq_true rfl) ?_
 have hT:=templateErr_s items shifts hi
 unfold tplA at hT
 have hall:(!ch.any fun n=>!whl n)=ch.all whl:=by rw [List.not_any_eq_all_not];simp only [Bool.not_not]
 have hv:(if teE items shifts ≠ 0 then teE items shifts else if (if decide ((ch.length:Int)=shifts)=true then (0:Int) else 10) ≠ 0 then (if decide ((ch.length:Int)=shifts)=true then (0:Int) else 10) else if ch.all whl=true then (0:Int) else 2)=moE items shifts ch:=by
  unfold moE
  by_cases h1:teE items shifts=0
  ·rw [if_neg (by omega),if_neg (show ¬ teE items shifts ≠ 0 by omega)]
   by_cases h2:(ch.length:Int)=shifts
   ·simp [h2]
   ·simp [h2]
  ·rw [if_pos h1,if_pos h1]
 have hF:=first3_s (teE items shifts) (if decide ((ch.length:Int)=shifts)=true then (0:Int) else 10) (if ch.all whl=true then (0:Int) else 2)
 rw [hv] at hF
 simp only [c_pulse_Modelled,tplA,vZ,Int.reduceEq,Int.reduceNe,Int.reduceLT,Int.reduceLE,Nat.reduceEqDiff,Nat.reduceAdd,reduceIte,reduceCtorEq,Nat.reduceLT,Nat.reduceLeDiff,Nat.reduceShiftRight,Nat.reduceMod]
 refine callS_of (contFunc_int_s ch _ [] (fun n=>!whl n) hl (by simp) (fun x _=>Modelled_1_s x)) ?_
 simp only [vZ,Int.reduceEq,Int.reduceNe,Int.reduceLT,Int.reduceLE,Nat.reduceEqDiff,Nat.reduceAdd,reduceIte,reduceCtorEq,Nat.reduceLT,Nat.reduceLeDiff,Nat.reduceShiftRight,Nat.reduceMod]
 refine callS_of hT ?_
 simp only [vZ,Int.reduceEq,Int.reduceNe,Int.reduceLT,Int.reduceLE,Nat.reduceEqDiff,Nat.reduceAdd,reduceIte,reduceCtorEq,Nat.reduceLT,Nat.reduceLeDiff,Nat.reduceShiftRight,Nat.reduceMod]
 refine callS_of (unless_s _ _) ?_
 simp only [hall,vZ,Int.reduceEq,Int.reduceNe,Int.reduceLT,Int.reduceLE,Nat.reduceEqDiff,Nat.reduceAdd,reduceIte,reduceCtorEq,Nat.reduceLT,Nat.reduceLeDiff,Nat.reduceShiftRight,Nat.reduceMod]
 refine callS_of (unless_s _ _) ?_
 simp only [hall,vZ,Int.reduceEq,Int.reduceNe,Int.reduceLT,Int.reduceLE,Nat.reduceEqDiff,Nat.reduceAdd,reduceIte,reduceCtorEq,Nat.reduceLT,Nat.reduceLeDiff,Nat.reduceShiftRight,Nat.reduceMod]
 refine callS_of hF ?_
 by_cases hm:moE items shifts ch=0
 case neg =>
  have ho:moO items shifts ch=[]:=by unfold moO;rw [if_neg hm]
  have z:ints []=[]:=rfl
  rw [ho]
  simp only [hm,z,vZ,Int.reduceEq,Int.reduceNe,Int.reduceLT,Int.reduceLE,Nat.reduceEqDiff,Nat.reduceAdd,reduceIte,reduceCtorEq,Nat.reduceLT,Nat.reduceLeDiff,Nat.reduceShiftRight,Nat.reduceMod]
  intro _ k hk;simp [refsL,refs,upd] at hk;subst hk;simp [upd]
 have ho:moO items shifts ch=mdA items ch:=by unfold moO;rw [if_pos hm]
 obtain ⟨t1,t2,t3⟩:=moE_ok hm
 obtain ⟨⟨a1,a2⟩,a3,_,a5⟩:=teE_ok t1
 have hM:=model_s (items:=items) (ch:=ch) shifts (C:=1000) a1 a2 (by omega) (by omega) a3 (fun x hx=>by have:=t3 x hx;omega)
 unfold tplA at hM
 rw [ho]
 simp only [hm,vZ,Int.reduceEq,Int.reduceNe,Int.reduceLT,Int.reduceLE,Nat.reduceEqDiff,Nat.reduceAdd,reduceIte,reduceCtorEq,Nat.reduceLT,Nat.reduceLeDiff,Nat.reduceShiftRight,Nat.reduceMod]
 refine ⟨by intro _ k hk;simp [refsL,refs,upd] at hk;subst hk;simp [upd],?_⟩
 refine callS_own hM rfl ?_
 simp only [ownS_ints,hm,vZ,Int.reduceEq,Int.reduceNe,Int.reduceLT,Int.reduceLE,Nat.reduceEqDiff,Nat.reduceAdd,reduceIte,reduceCtorEq,Nat.reduceLT,Nat.reduceLeDiff,Nat.reduceShiftRight,Nat.reduceMod]
 rw [borB_good _ _ _ _ _ (by rw [ints_length]) (ints_fx _)]
def crE (shifts:Int) (ch:List Int):Int:=if (ch.length:Int)=shifts then (if ch.all whl then 0 else 2) else 10
theorem ChargesErr_s (items:List Int) (shifts:Int) (ch:List Int) (h5:shifts≤5):Sound Tryz.prog 33 [tplA items shifts,.sl (ints ch)] (.int .i64 (crE shifts ch)):=by
 refine sound_W f_ref02_ChargesErr (Nat.le_of_ble_eq_true rfl) ?_
 by_cases h1:(ch.length:Int)=shifts
 case neg =>
  have he:crE shifts ch=10:=by unfold crE;rw [if_neg h1]
  rw [he]
  simp only [c_ref02_ChargesErr,tplA,h1,vZ,Int.reduceEq,Int.reduceNe,Int.reduceLT,Int.reduceLE,Nat.reduceEqDiff,Nat.reduceAdd,reduceIte,reduceCtorEq,Nat.reduceLT,Nat.reduceLeDiff,Nat.reduceShiftRight,Nat.reduceMod]
 have hcr:crE shifts ch=if ch.all whl then 0 else 2:=by unfold crE;rw [if_pos h1]
 rw [hcr]
 subst h1
 simp only [c_ref02_ChargesErr,tplA,vZ,Int.reduceEq,Int.reduceNe,Int.reduceLT,Int.reduceLE,Nat.reduceEqDiff,Nat.reduceAdd,reduceIte,reduceCtorEq,Nat.reduceLT,Nat.reduceLeDiff,Nat.reduceShiftRight,Nat.reduceMod]
 refine W_loop (t:=.mk) (α:=PSigma fun i:Nat=>i≤ch.length∧(ch.take i).all whl=true) (fun ⟨i,_⟩=>(envOf [(1,.sl (ints ch)),(5,.int .i64 i)],stOf [])) (fun p=>ch.length - p.1) ⟨0,Nat.zero_le _,rfl⟩ ?_ (fun ⟨i,hi,hn⟩=>?_)
 ·refine weakX [] (of_decide_eq_true rfl) (of_decide_eq_true rfl) ?_
  (simp only [vcW,vZ,Int.reduceEq,Int.reduceNe,Int.reduceLT,Int.reduceLE,Nat.reduceEqDiff,Nat.reduceAdd,reduceIte,reduceCtorEq,Nat.reduceLT,Nat.reduceLeDiff,Nat.reduceShiftRight,Nat.reduceMod])
  (repeat' first | exact trivial | (with_reducible first | exact RnB.fxB (ints_fxB _) | rfl | refine And.intro ?_ ?_) | (with_reducible (first | refine RnB.bb ?_ | refine RnB.nb ?_);simp only [vcW,vZ,Int.reduceEq,Int.reduceNe,Int.reduceLT,Int.reduceLE,Nat.reduceEqDiff,Nat.reduceAdd,reduceIte,reduceCtorEq,Nat.reduceLT,Nat.reduceLeDiff,Nat.reduceShiftRight,Nat.reduceMod]) | (with_reducible first | refine RnB.ii ?_ | refine RnB.app ?_) | (with_reducible refine RnB.fxB ?_;simp only [vcW,vZ,Int.reduceEq,Int.reduceNe,Int.reduceLT,Int.reduceLE,Nat.reduceEqDiff,Nat.reduceAdd,reduceIte,reduceCtorEq,Nat.reduceLT,Nat.reduceLeDiff,Nat.reduceShiftRight,Nat.reduceMod]) | omega)
 ·dsimp only at hi hn ⊢
  by_cases h':i<ch.length
  ·have h3:(i:Int)<ch.length:=by omega
   have ht:(ch.take (i+1)).all whl=((ch.take i).all whl && whl ch[i]):=by rw [List.take_succ_eq_append_getElem h',List.all_append];simp
   simp only [h3,ints_get ch i h',vZ,Int.reduceEq,Int.reduceNe,Int.reduceLT,Int.reduceLE,Nat.reduceEqDiff,Nat.reduceAdd,reduceIte,reduceCtorEq,Nat.reduceLT,Nat.reduceLeDiff,Nat.reduceShiftRight,Nat.reduceMod]
   (repeat (with_reducible refine And.intro ?_ ?_;focus (first | omega | (unfold I64;omega))))
   refine callS_of (Within_s _ _ _) ?_
   by_cases hw:0≤ch[i]∧ch[i]≤1000
   ·have hwt:whl ch[i]=true:=decide_eq_true hw
    simp only [hw,vZ,Int.reduceEq,Int.reduceNe,Int.reduceLT,Int.reduceLE,Nat.reduceEqDiff,Nat.reduceAdd,reduceIte,reduceCtorEq,Nat.reduceLT,Nat.reduceLeDiff,Nat.reduceShiftRight,Nat.reduceMod]
    (repeat (with_reducible refine And.intro ?_ ?_;focus (first | omega | (unfold I64;omega))))
    refine ⟨⟨i+1,h',by rw [ht,hn,hwt];rfl⟩,by simp only;omega,?_⟩
    refine weakX [] (of_decide_eq_true rfl) (of_decide_eq_true rfl) ?_
    (simp only [vcW,vZ,Int.reduceEq,Int.reduceNe,Int.reduceLT,Int.reduceLE,Nat.reduceEqDiff,Nat.reduceAdd,reduceIte,reduceCtorEq,Nat.reduceLT,Nat.reduceLeDiff,Nat.reduceShiftRight,Nat.reduceMod])
    (repeat' first | exact trivial | (with_reducible first | exact RnB.fxB (ints_fxB _) | rfl | refine And.intro ?_ ?_) | (with_reducible (first | refine RnB.bb ?_ | refine RnB.nb ?_);simp only [vcW,vZ,Int.reduceEq,Int.reduceNe,Int.reduceLT,Int.reduceLE,Nat.reduceEqDiff,Nat.reduceAdd,reduceIte,reduceCtorEq,Nat.reduceLT,Nat.reduceLeDiff,Nat.reduceShiftRight,Nat.reduceMod]) | (with_reducible first | refine RnB.ii ?_ | refine RnB.app ?_) | (with_reducible refine RnB.fxB ?_;simp only [vcW,vZ,Int.reduceEq,Int.reduceNe,Int.reduceLT,Int.reduceLE,Nat.reduceEqDiff,Nat.reduceAdd,reduceIte,reduceCtorEq,Nat.reduceLT,Nat.reduceLeDiff,Nat.reduceShiftRight,Nat.reduceMod]) | omega)
   ·have hwt:whl ch[i]=false:=decide_eq_false hw
    have hf:ch.all whl=false:=by
     rw [List.all_eq_false];exact ⟨ch[i],List.getElem_mem h',by rw [hwt];decide⟩
    simp only [hw,hf,vZ,Int.reduceEq,Int.reduceNe,Int.reduceLT,Int.reduceLE,Nat.reduceEqDiff,Nat.reduceAdd,reduceIte,reduceCtorEq,Nat.reduceLT,Nat.reduceLeDiff,Nat.reduceShiftRight,Nat.reduceMod]
  ·have h3:¬ (i:Int)<ch.length:=by omega
   have hil:i=ch.length:=by omega
   subst hil
   rw [List.take_length] at hn
   simp only [h3,hn,vZ,Int.reduceEq,Int.reduceNe,Int.reduceLT,Int.reduceLE,Nat.reduceEqDiff,Nat.reduceAdd,reduceIte,reduceCtorEq,Nat.reduceLT,Nat.reduceLeDiff,Nat.reduceShiftRight,Nat.reduceMod]
theorem SameFit_s (d1 d2:Int) (c1 c2:List Int) (h:c1.length≤1000000000):Sound Tryz.prog 35 [fitA d1 c1,fitA d2 c2] (.bool (decide (d1=d2∧c1=c2))):=by
 refine sound_W f_ref02_SameFit (Nat.le_of_ble_eq_true rfl) ?_
 have hI:=Ints_s c1 c2 h
 by_cases e:d1=d2
 ·subst e
  have hr:decide (d1=d1∧c1=c2)=decide (c1=c2):=by simp
  rw [hr]
  simp only [c_ref02_SameFit,fitA,vZ,Int.reduceEq,Int.reduceNe,Int.reduceLT,Int.reduceLE,Nat.reduceEqDiff,Nat.reduceAdd,reduceIte,reduceCtorEq,Nat.reduceLT,Nat.reduceLeDiff,Nat.reduceShiftRight,Nat.reduceMod]
  refine callS_of hI ?_
  simp only [vZ,Int.reduceEq,Int.reduceNe,Int.reduceLT,Int.reduceLE,Nat.reduceEqDiff,Nat.reduceAdd,reduceIte,reduceCtorEq,Nat.reduceLT,Nat.reduceLeDiff,Nat.reduceShiftRight,Nat.reduceMod]
 ·have hr:decide (d1=d2∧c1=c2)=false:=by simp [e]
  rw [hr]
  simp only [c_ref02_SameFit,fitA,e,vZ,Int.reduceEq,Int.reduceNe,Int.reduceLT,Int.reduceLE,Nat.reduceEqDiff,Nat.reduceAdd,reduceIte,reduceCtorEq,Nat.reduceLT,Nat.reduceLeDiff,Nat.reduceShiftRight,Nat.reduceMod]
end Go.Proofs.YtgmpcbpmnimkoaaGreatDoor

/- The marked code of law functions;printed by a program. By an AI agent;nothing here is trusted. -/
namespace Go.Proofs.YtgmpcbpmnimkoaaGreatDoor
open Go.Av
def cl_law02_PulseModels:ML:=(.seq (.reg 14 [mO 3 (.box 24 2 (.t 0)),mO 6 (.mv (.c (.bool false)))] false []) (.seq (.seq (.reg 32782 [mO 14 (.call 11 []),mO 15 (.un .not (.t 14))] false []) (.cond (.t 15) (.seq (.reg 64 [mO 6 (.mv (.c (.bool false)))] false []) .ret) .skip)) (.seq (.seq (.reg 268435470 [mV 16 2,mO 17 (.call 29 [(.t 16)]),mO 18 (.un .not (.t 17)),mV 19 18,mG 19 false 20 (.load (some 2) (.t 3)),mG 19 false 21 (.call 30 [(.t 20)]),mG 19 false 22 (.un .not (.t 21)),mO 23 (.pick (.t 19) (.c (.bool true)) (.t 22)),mV 24 23,mG 24 false 25 (.mv (.t 1)),mG 24 false 26 (.len false (.t 25)),mG 24 false 27 (.bin .gtr (.t 26) (.c (.int .i64 8))),mO 28 (.pick (.t 24) (.c (.bool true)) (.t 27))] false []) (.cond (.t 28) (.seq (.reg 64 [mO 6 (.mv (.c (.bool true)))] false []) .ret) .skip)) (.seq (.reg 398 [mO 30 (.load (some 2) (.t 3)),mO 31 (.call 15 [(.t 30)]),mV 32 1,mO 33 (.call 16 [(.t 32)]),mO 34 (.call 31 [(.t 31),(.t 33)]),mV 29 34,mO 35 (.extract (.t 29) 0),mO 36 (.extract (.t 29) 1),mV 7 35,mV 8 36] false []) (.seq (.reg 1934 [mO 38 (.load (some 2) (.t 3)),mO 39 (.call 15 [(.t 38)]),mV 40 2,mO 41 (.call 16 [(.t 40)]),mO 42 (.call 14 [(.t 39),(.t 41)]),mV 37 42,mO 43 (.extract (.t 37) 0),mO 44 (.extract (.t 37) 1),mO 9 (.alloc 29 2 (.agg [(.int .i64 0),.nils])),⟨none,none,.store 2 (.t 9) (.t 43)⟩,mV 10 44] false []) (.seq (.reg 3982 [mO 45 (.load (some 2) (.t 3)),mO 46 (.call 32 [(.t 45)]),mV 11 46] false []) (.seq (.seq (.reg 281474976714638 [mV 47 11,mO 48 (.bin .eql (.t 47) (.c (.int .i64 0)))] false []) (.cond (.t 48) (.reg 3982 [mO 49 (.load (some 2) (.t 3)),mV 50 1,mO 51 (.call 33 [(.t 49),(.t 50)]),mV 11 51] false []) .skip)) (.seq (.seq (.reg 604462909807314587354636 [mV 52 11,mO 53 (.bin .neq (.t 52) (.c (.int .i64 0))),mV 54 53,mG 54 true 55 (.mv (.t 8)),mG 54 true 56 (.mv (.t 11)),mG 54 true 57 (.bin .neq (.t 55) (.t 56)),mG 54 true 58 (.mv (.t 57)),mG 58 false 59 (.mv (.t 7)),mG 58 false 60 (.len false (.t 59)),mG 58 false 61 (.bin .neq (.t 60) (.c (.int .i64 0))),mG 54 true 62 (.pick (.t 58) (.c (.bool true)) (.t 61)),mO 63 (.pick (.t 54) (.t 62) (.c (.bool false))),mV 64 63,mG 64 false 65 (.mv (.t 11)),mG 64 false 66 (.bin .eql (.t 65) (.c (.int .i64 0))),mG 64 false 67 (.mv (.t 66)),mG 67 true 68 (.mv (.t 8)),mG 67 true 69 (.bin .neq (.t 68) (.c (.int .i64 0))),mG 67 true 70 (.mv (.t 69)),mG 70 false 71 (.mv (.t 7)),mG 70 false 72 (.load (some 2) (.t 3)),mG 70 false 73 (.mv (.t 1)),mG 70 false 74 (.call 18 [(.t 72),(.t 73)]),mG 70 false 75 (.call 34 [(.t 71),(.t 74)]),mG 70 false 76 (.un .not (.t 75)),mG 67 true 77 (.pick (.t 70) (.c (.bool true)) (.t 76)),mG 64 false 78 (.pick (.t 67) (.t 77) (.c (.bool false))),mO 79 (.pick (.t 64) (.c (.bool true)) (.t 78))] false []) (.cond (.t 79) (.seq (.reg 64 [mO 6 (.mv (.c (.bool false)))] false []) .ret) .skip)) (.seq (.seq (.reg 3596 [mO 80 (.load (some 2) (.t 3)),mV 81 2,mO 82 (.call 12 [(.t 80),(.t 81)]),mV 11 82] false []) (.seq (.reg 19342813113834066795302412 [mV 83 11,mO 84 (.bin .neq (.t 83) (.c (.int .i64 0)))] false []) (.cond (.t 84) (.seq (.reg 64 [mV 85 10,mV 86 11,mO 87 (.bin .eql (.t 85) (.t 86)),mV 88 87,mG 88 true 89 (.load (some 2) (.t 9)),mG 88 true 90 (.build [(.int .i64 0),.nils] []),mG 88 true 91 (.call 35 [(.t 89),(.t 90)]),mO 92 (.pick (.t 88) (.t 91) (.c (.bool false))),mV 6 92] false []) .ret) .skip))) (.seq (.reg 13824 [mO 94 (.load (some 2) (.t 3)),mV 95 2,mO 96 (.call 36 [(.t 94),(.t 95)]),mV 93 96,mO 97 (.extract (.t 93) 0),mO 98 (.extract (.t 93) 1),mO 12 (.alloc 29 2 (.agg [(.int .i64 0),.nils])),⟨none,none,.store 2 (.t 12) (.t 97)⟩,mV 13 98] false []) (.seq (.reg 64 [mV 99 13,mV 100 99,mG 100 true 101 (.mv (.t 10)),mG 100 true 102 (.bin .eql (.t 101) (.c (.int .i64 0))),mO 103 (.pick (.t 100) (.t 102) (.c (.bool false))),mV 104 103,mG 104 true 105 (.load (some 2) (.t 9)),mG 104 true 106 (.load (some 2) (.t 12)),mG 104 true 107 (.call 35 [(.t 105),(.t 106)]),mO 108 (.pick (.t 104) (.t 107) (.c (.bool false))),mV 109 108,mG 109 false 110 (.mv (.t 13)),mG 109 false 111 (.un .not (.t 110)),mG 109 false 112 (.mv (.t 111)),mG 112 true 113 (.mv (.t 10)),mG 112 true 114 (.bin .eql (.t 113) (.c (.int .i64 8))),mG 109 false 115 (.pick (.t 112) (.t 114) (.c (.bool false))),mG 109 false 116 (.mv (.t 115)),mG 116 true 117 (.load (some 2) (.t 9)),mG 116 true 118 (.build [(.int .i64 0),.nils] []),mG 116 true 119 (.call 35 [(.t 117),(.t 118)]),mG 109 false 120 (.pick (.t 116) (.t 119) (.c (.bool false))),mO 121 (.pick (.t 109) (.c (.bool true)) (.t 120)),mV 6 121] false []) .ret)))))))))))
def c_law02_PulseModels:MC:=cl_law02_PulseModels.er
theorem f_law02_PulseModels:cFun Tryz.prog 4=some (122,3,c_law02_PulseModels,[(6,none)]):=by kernel_rfl
theorem e_law02_PulseModels:cl_law02_PulseModels.er=c_law02_PulseModels:=rfl
end Go.Proofs.YtgmpcbpmnimkoaaGreatDoor

/- The law PulseModels: it answers true. Printed by genmo.py. By an AI agent;nothing here is trusted. -/
namespace Go.Proofs.YtgmpcbpmnimkoaaGreatDoor
open Go.Av

theorem fits_two (items:List Int) (shifts:Int) (l:List Int):∃ (d0:Int) (p0:List Int) (f:Int),ftA items shifts l=[.agg [.int .i64 d0,.sl (ints p0)],.int .i64 f]∧p0.length≤1000000000∧(fdE items shifts l ≠ 0→d0=0∧p0=[]∧f=fdE items shifts l) ∧
  (fdE items shifts l=0→∃ (ok:Bool) (d1:Int) (p1:List Int),rfA items l shifts.toNat (fdS items l shifts.toNat)=[.agg [.int .i64 d1,.sl (ints p1)],.bool ok]∧((ok=true∧d0=d1∧p0=p1∧f=0)∨(ok=false∧d0=0∧p0=[]∧f=8))):=by
 have z:ints []=[]:=rfl
 by_cases h:fdE items shifts l=0
 case neg=>exact ⟨0,[],fdE items shifts l,by unfold ftA;rw [if_pos h];rfl,by simp,fun _=>⟨rfl,rfl,rfl⟩,fun g=>absurd g h⟩
 have he:ftA items shifts l=ftR items l shifts.toNat (fdS items l shifts.toNat):=by unfold ftA;rw [if_neg (by omega)]
 rw [he]
 cases hs:fdS items l shifts.toNat with
 | none=>exact ⟨0,[],8,rfl,by simp,fun g=>absurd h g,fun _=>⟨false,0,[],rfl,.inr ⟨rfl,rfl,rfl,rfl⟩⟩⟩
 | some s =>
  obtain ⟨F,hS⟩:=fdE_ok h
  have h5:=F.s5
  cases hq:smallQ (dnS items shifts.toNat s) (ptS items l shifts.toNat s) with
  | true =>
   refine ⟨den0 (dnS items shifts.toNat s) (ptS items l shifts.toNat s),chs0 (dnS items shifts.toNat s) (ptS items l shifts.toNat s),0,?_,?_,fun g=>absurd h g,fun _=>⟨true,_,_,?_,.inl ⟨rfl,rfl,rfl,rfl⟩⟩⟩
   ·unfold ftR rdA;dsimp only;rw [if_pos hq];rfl
   ·rw [chs0_len,ptS_len];omega
   ·unfold rfA;dsimp only;rw [if_pos hq]
  | false =>
   refine ⟨0,[],8,?_,by simp,fun g=>absurd h g,fun _=>⟨false,0,[],?_,.inr ⟨rfl,rfl,rfl,rfl⟩⟩⟩
   ·unfold ftR rdA;dsimp only;rw [if_neg (by rw [hq];decide)];rfl
   ·unfold rfA;dsimp only;rw [if_neg (by rw [hq];decide)];rfl
set_option maxHeartbeats 8000000 in
theorem PulseModels_s (items:List Int) (shifts:Int) (cs l:List Int):Sound Tryz.prog 4 [tplA items shifts,.sl (ints cs),.sl (ints l)] (.bool true):=by
 refine sound_WL f_law02_PulseModels e_law02_PulseModels (Nat.le_of_ble_eq_true rfl) ?_
 simp only [cl_law02_PulseModels,tplA,vZ,Int.reduceEq,Int.reduceNe,Int.reduceLT,Int.reduceLE,Nat.reduceEqDiff,Nat.reduceAdd,reduceIte,reduceCtorEq,Nat.reduceLT,Nat.reduceLeDiff,Nat.reduceShiftRight,Nat.reduceMod]
 refine callS_of awake_s ?_
 simp only [vZ,Int.reduceEq,Int.reduceNe,Int.reduceLT,Int.reduceLE,Nat.reduceEqDiff,Nat.reduceAdd,reduceIte,reduceCtorEq,Nat.reduceLT,Nat.reduceLeDiff,Nat.reduceShiftRight,Nat.reduceMod]
 refine callS_of (few_s l) ?_
 by_cases hl:l.length≤26
 case neg=>simp only [hl,vZ,Int.reduceEq,Int.reduceNe,Int.reduceLT,Int.reduceLE,Nat.reduceEqDiff,Nat.reduceAdd,reduceIte,reduceCtorEq,Nat.reduceLT,Nat.reduceLeDiff,Nat.reduceShiftRight,Nat.reduceMod]
 have hfi:=fewItems_s items shifts
 unfold tplA at hfi
 simp only [hl,vZ,Int.reduceEq,Int.reduceNe,Int.reduceLT,Int.reduceLE,Nat.reduceEqDiff,Nat.reduceAdd,reduceIte,reduceCtorEq,Nat.reduceLT,Nat.reduceLeDiff,Nat.reduceShiftRight,Nat.reduceMod]
 refine callS_of hfi ?_
 by_cases hi:items.length≤8
 case neg=>simp only [hi,vZ,Int.reduceEq,Int.reduceNe,Int.reduceLT,Int.reduceLE,Nat.reduceEqDiff,Nat.reduceAdd,reduceIte,reduceCtorEq,Nat.reduceLT,Nat.reduceLeDiff,Nat.reduceShiftRight,Nat.reduceMod]
 by_cases hc:8<cs.length
 ·have hc':(8:Int)<cs.length:=by omega
  simp only [hi,hc',vZ,Int.reduceEq,Int.reduceNe,Int.reduceLT,Int.reduceLE,Nat.reduceEqDiff,Nat.reduceAdd,reduceIte,reduceCtorEq,Nat.reduceLT,Nat.reduceLeDiff,Nat.reduceShiftRight,Nat.reduceMod]
 have hc':¬ (8:Int)<cs.length:=by omega
 have hCT:=CopyTemplate_s items shifts (by omega)
 have hCI:=CopyInts_s l (by omega)
 have hCIc:=CopyInts_s cs (by omega)
 have hMs:=Modelled_s items shifts cs (by omega) (by omega)
 have hFO:=FitOf_s items shifts l (by omega) (by omega)
 have hTE:=TemplateErr_s items shifts
 have hFE:=FittedErr_s items shifts l
 have hRF0:fdE items shifts l=0→Sound Tryz.prog 36 [tplA items shifts,.sl (ints l)] (.tup (rfA items l shifts.toNat (fdS items l shifts.toNat))):=fun h=>by
  obtain ⟨F,hS⟩:=fdE_ok h
  have:=refFit_s F
  rw [hS] at this;exact this
 obtain ⟨d0,p0,f,hft,hp0,hft1,hft2⟩:=fits_two items shifts l
 have hSF0:=SameFit_s 0 0 [] [] (by simp)
 have hsd0:decide ((0:Int)=0∧([]:List Int)=[])=true:=by simp
 have hz:ints []=[]:=rfl
 have hz0:((0:Nat):Int)=0:=rfl
 rw [hsd0] at hSF0
 rw [hft] at hFO
 unfold tplA at hCT hMs hFO hTE hFE hRF0
 unfold fitA at hSF0
 rw [hz] at hSF0
 simp only [hi,hc',vZ,Int.reduceEq,Int.reduceNe,Int.reduceLT,Int.reduceLE,Nat.reduceEqDiff,Nat.reduceAdd,reduceIte,reduceCtorEq,Nat.reduceLT,Nat.reduceLeDiff,Nat.reduceShiftRight,Nat.reduceMod]
 refine callS_of hCT ?_
 simp only [vZ,Int.reduceEq,Int.reduceNe,Int.reduceLT,Int.reduceLE,Nat.reduceEqDiff,Nat.reduceAdd,reduceIte,reduceCtorEq,Nat.reduceLT,Nat.reduceLeDiff,Nat.reduceShiftRight,Nat.reduceMod]
 refine callS_of hCIc ?_
 simp only [vZ,Int.reduceEq,Int.reduceNe,Int.reduceLT,Int.reduceLE,Nat.reduceEqDiff,Nat.reduceAdd,reduceIte,reduceCtorEq,Nat.reduceLT,Nat.reduceLeDiff,Nat.reduceShiftRight,Nat.reduceMod]
 refine callS_of hMs ?_
 simp only [vZ,Int.reduceEq,Int.reduceNe,Int.reduceLT,Int.reduceLE,Nat.reduceEqDiff,Nat.reduceAdd,reduceIte,reduceCtorEq,Nat.reduceLT,Nat.reduceLeDiff,Nat.reduceShiftRight,Nat.reduceMod]
 refine callS_of hCT ?_
 simp only [vZ,Int.reduceEq,Int.reduceNe,Int.reduceLT,Int.reduceLE,Nat.reduceEqDiff,Nat.reduceAdd,reduceIte,reduceCtorEq,Nat.reduceLT,Nat.reduceLeDiff,Nat.reduceShiftRight,Nat.reduceMod]
 refine callS_of hCI ?_
 simp only [vZ,Int.reduceEq,Int.reduceNe,Int.reduceLT,Int.reduceLE,Nat.reduceEqDiff,Nat.reduceAdd,reduceIte,reduceCtorEq,Nat.reduceLT,Nat.reduceLeDiff,Nat.reduceShiftRight,Nat.reduceMod]
 refine callS_of hFO ?_
 simp only [vZ,Int.reduceEq,Int.reduceNe,Int.reduceLT,Int.reduceLE,Nat.reduceEqDiff,Nat.reduceAdd,reduceIte,reduceCtorEq,Nat.reduceLT,Nat.reduceLeDiff,Nat.reduceShiftRight,Nat.reduceMod]
 refine callS_of hTE ?_
 by_cases e2:teE items shifts=0
 case neg =>
  have hmo:moE items shifts cs=teE items shifts:=by unfold moE;rw [if_pos e2]
  have hmO:moO items shifts cs=[]:=by unfold moO;rw [if_neg (by omega)]
  rw [hmo,hmO]
  simp only [e2,hz,hz0,vZ,Int.reduceEq,Int.reduceNe,Int.reduceLT,Int.reduceLE,Nat.reduceEqDiff,Nat.reduceAdd,reduceIte,reduceCtorEq,Nat.reduceLT,Nat.reduceLeDiff,Nat.reduceShiftRight,Nat.reduceMod]
  refine callS_of hFE ?_
  by_cases e1:fdE items shifts l=0
  case neg =>
   obtain ⟨q1,q2,q3⟩:=hft1 e1
   subst q1 q2 q3
   simp only [e1,vZ,Int.reduceEq,Int.reduceNe,Int.reduceLT,Int.reduceLE,Nat.reduceEqDiff,Nat.reduceAdd,reduceIte,reduceCtorEq,Nat.reduceLT,Nat.reduceLeDiff,Nat.reduceShiftRight,Nat.reduceMod]
   refine callS_of hSF0 ?_
   simp only [vZ,Int.reduceEq,Int.reduceNe,Int.reduceLT,Int.reduceLE,Nat.reduceEqDiff,Nat.reduceAdd,reduceIte,reduceCtorEq,Nat.reduceLT,Nat.reduceLeDiff,Nat.reduceShiftRight,Nat.reduceMod]
  obtain ⟨ok,d1,p1,hrf,hcs⟩:=hft2 e1
  have hRF:=hRF0 e1
  rw [hrf] at hRF
  have hSF1:=SameFit_s d0 d1 p0 p1 hp0
  unfold fitA at hSF1
  simp only [e1,vZ,Int.reduceEq,Int.reduceNe,Int.reduceLT,Int.reduceLE,Nat.reduceEqDiff,Nat.reduceAdd,reduceIte,reduceCtorEq,Nat.reduceLT,Nat.reduceLeDiff,Nat.reduceShiftRight,Nat.reduceMod]
  refine callS_of hRF ?_
  cases ok with
  | true =>
   rcases hcs with ⟨_,q1,q2,q3⟩ | ⟨q,_⟩
   ·subst q1 q2 q3
    have hsd:decide (d0=d0∧p0=p0)=true:=by simp
    rw [hsd] at hSF1
    simp only [vZ,Int.reduceEq,Int.reduceNe,Int.reduceLT,Int.reduceLE,Nat.reduceEqDiff,Nat.reduceAdd,reduceIte,reduceCtorEq,Nat.reduceLT,Nat.reduceLeDiff,Nat.reduceShiftRight,Nat.reduceMod]
    refine callS_of hSF1 ?_
    simp only [vZ,Int.reduceEq,Int.reduceNe,Int.reduceLT,Int.reduceLE,Nat.reduceEqDiff,Nat.reduceAdd,reduceIte,reduceCtorEq,Nat.reduceLT,Nat.reduceLeDiff,Nat.reduceShiftRight,Nat.reduceMod]
   ·cases q
  | false =>
   rcases hcs with ⟨q,_⟩ | ⟨_,q1,q2,q3⟩
   ·cases q
   ·subst q1 q2 q3
    simp only [vZ,Int.reduceEq,Int.reduceNe,Int.reduceLT,Int.reduceLE,Nat.reduceEqDiff,Nat.reduceAdd,reduceIte,reduceCtorEq,Nat.reduceLT,Nat.reduceLeDiff,Nat.reduceShiftRight,Nat.reduceMod]
    refine callS_of hSF0 ?_
    simp only [vZ,Int.reduceEq,Int.reduceNe,Int.reduceLT,Int.reduceLE,Nat.reduceEqDiff,Nat.reduceAdd,reduceIte,reduceCtorEq,Nat.reduceLT,Nat.reduceLeDiff,Nat.reduceShiftRight,Nat.reduceMod]
 obtain ⟨⟨a1,a2⟩,a3,a4,a5⟩:=teE_ok e2
 have hCr:=ChargesErr_s items shifts cs (by omega)
 unfold tplA at hCr
 have hmo:moE items shifts cs=crE shifts cs:=by unfold moE crE;rw [if_neg (by omega)]
 rw [hmo]
 simp only [e2,vZ,Int.reduceEq,Int.reduceNe,Int.reduceLT,Int.reduceLE,Nat.reduceEqDiff,Nat.reduceAdd,reduceIte,reduceCtorEq,Nat.reduceLT,Nat.reduceLeDiff,Nat.reduceShiftRight,Nat.reduceMod]
 refine callS_of hCr ?_
 by_cases e3:crE shifts cs=0
 case neg =>
  have hmO:moO items shifts cs=[]:=by unfold moO;rw [if_neg (by omega)]
  rw [hmO]
  simp only [e3,hz,hz0,vZ,Int.reduceEq,Int.reduceNe,Int.reduceLT,Int.reduceLE,Nat.reduceEqDiff,Nat.reduceAdd,reduceIte,reduceCtorEq,Nat.reduceLT,Nat.reduceLeDiff,Nat.reduceShiftRight,Nat.reduceMod]
  refine callS_of hFE ?_
  by_cases e1:fdE items shifts l=0
  case neg =>
   obtain ⟨q1,q2,q3⟩:=hft1 e1
   subst q1 q2 q3
   simp only [e1,vZ,Int.reduceEq,Int.reduceNe,Int.reduceLT,Int.reduceLE,Nat.reduceEqDiff,Nat.reduceAdd,reduceIte,reduceCtorEq,Nat.reduceLT,Nat.reduceLeDiff,Nat.reduceShiftRight,Nat.reduceMod]
   refine callS_of hSF0 ?_
   simp only [vZ,Int.reduceEq,Int.reduceNe,Int.reduceLT,Int.reduceLE,Nat.reduceEqDiff,Nat.reduceAdd,reduceIte,reduceCtorEq,Nat.reduceLT,Nat.reduceLeDiff,Nat.reduceShiftRight,Nat.reduceMod]
  obtain ⟨ok,d1,p1,hrf,hcs⟩:=hft2 e1
  have hRF:=hRF0 e1
  rw [hrf] at hRF
  have hSF1:=SameFit_s d0 d1 p0 p1 hp0
  unfold fitA at hSF1
  simp only [e1,vZ,Int.reduceEq,Int.reduceNe,Int.reduceLT,Int.reduceLE,Nat.reduceEqDiff,Nat.reduceAdd,reduceIte,reduceCtorEq,Nat.reduceLT,Nat.reduceLeDiff,Nat.reduceShiftRight,Nat.reduceMod]
  refine callS_of hRF ?_
  cases ok with
  | true =>
   rcases hcs with ⟨_,q1,q2,q3⟩ | ⟨q,_⟩
   ·subst q1 q2 q3
    have hsd:decide (d0=d0∧p0=p0)=true:=by simp
    rw [hsd] at hSF1
    simp only [vZ,Int.reduceEq,Int.reduceNe,Int.reduceLT,Int.reduceLE,Nat.reduceEqDiff,Nat.reduceAdd,reduceIte,reduceCtorEq,Nat.reduceLT,Nat.reduceLeDiff,Nat.reduceShiftRight,Nat.reduceMod]
    refine callS_of hSF1 ?_
    simp only [vZ,Int.reduceEq,Int.reduceNe,Int.reduceLT,Int.reduceLE,Nat.reduceEqDiff,Nat.reduceAdd,reduceIte,reduceCtorEq,Nat.reduceLT,Nat.reduceLeDiff,Nat.reduceShiftRight,Nat.reduceMod]
   ·cases q
  | false =>
   rcases hcs with ⟨q,_⟩ | ⟨_,q1,q2,q3⟩
   ·cases q
   ·subst q1 q2 q3
    simp only [vZ,Int.reduceEq,Int.reduceNe,Int.reduceLT,Int.reduceLE,Nat.reduceEqDiff,Nat.reduceAdd,reduceIte,reduceCtorEq,Nat.reduceLT,Nat.reduceLeDiff,Nat.reduceShiftRight,Nat.reduceMod]
    refine callS_of hSF0 ?_
    simp only [vZ,Int.reduceEq,Int.reduceNe,Int.reduceLT,Int.reduceLE,Nat.reduceEqDiff,Nat.reduceAdd,reduceIte,reduceCtorEq,Nat.reduceLT,Nat.reduceLeDiff,Nat.reduceShiftRight,Nat.reduceMod]
 have hmO:moO items shifts cs=mdA items cs:=by unfold moO;rw [if_pos (by omega)]
 obtain ⟨_,t2,t3⟩:=moE_ok (items:=items) (shifts:=shifts) (ch:=cs) (by omega)
 have hMd:=Model_s (items:=items) (ch:=cs) (shifts:=shifts) (C:=1000) a1 a2 t2 (by omega) (by omega) a3 (fun x hx=>by have:=t3 x hx;omega)
 have hIn:=Ints_s (mdA items cs) (mdA items cs) (by have:=mdA_len items cs;omega)
 have hdd:decide (mdA items cs=mdA items cs)=true:=by simp
 rw [hdd] at hIn
 unfold tplA at hMd
 rw [hmO]
 simp only [e3,vZ,Int.reduceEq,Int.reduceNe,Int.reduceLT,Int.reduceLE,Nat.reduceEqDiff,Nat.reduceAdd,reduceIte,reduceCtorEq,Nat.reduceLT,Nat.reduceLeDiff,Nat.reduceShiftRight,Nat.reduceMod]
 refine callS_of hMd ?_
 simp only [vZ,Int.reduceEq,Int.reduceNe,Int.reduceLT,Int.reduceLE,Nat.reduceEqDiff,Nat.reduceAdd,reduceIte,reduceCtorEq,Nat.reduceLT,Nat.reduceLeDiff,Nat.reduceShiftRight,Nat.reduceMod]
 refine callS_of hIn ?_
 simp only [vZ,Int.reduceEq,Int.reduceNe,Int.reduceLT,Int.reduceLE,Nat.reduceEqDiff,Nat.reduceAdd,reduceIte,reduceCtorEq,Nat.reduceLT,Nat.reduceLeDiff,Nat.reduceShiftRight,Nat.reduceMod]
 refine callS_of hFE ?_
 by_cases e1:fdE items shifts l=0
 case neg =>
  obtain ⟨q1,q2,q3⟩:=hft1 e1
  subst q1 q2 q3
  simp only [e1,vZ,Int.reduceEq,Int.reduceNe,Int.reduceLT,Int.reduceLE,Nat.reduceEqDiff,Nat.reduceAdd,reduceIte,reduceCtorEq,Nat.reduceLT,Nat.reduceLeDiff,Nat.reduceShiftRight,Nat.reduceMod]
  refine callS_of hSF0 ?_
  simp only [vZ,Int.reduceEq,Int.reduceNe,Int.reduceLT,Int.reduceLE,Nat.reduceEqDiff,Nat.reduceAdd,reduceIte,reduceCtorEq,Nat.reduceLT,Nat.reduceLeDiff,Nat.reduceShiftRight,Nat.reduceMod]
 obtain ⟨ok,d1,p1,hrf,hcs⟩:=hft2 e1
 have hRF:=hRF0 e1
 rw [hrf] at hRF
 have hSF1:=SameFit_s d0 d1 p0 p1 hp0
 unfold fitA at hSF1
 simp only [e1,vZ,Int.reduceEq,Int.reduceNe,Int.reduceLT,Int.reduceLE,Nat.reduceEqDiff,Nat.reduceAdd,reduceIte,reduceCtorEq,Nat.reduceLT,Nat.reduceLeDiff,Nat.reduceShiftRight,Nat.reduceMod]
 refine callS_of hRF ?_
 cases ok with
 | true =>
  rcases hcs with ⟨_,q1,q2,q3⟩ | ⟨q,_⟩
  ·subst q1 q2 q3
   have hsd:decide (d0=d0∧p0=p0)=true:=by simp
   rw [hsd] at hSF1
   simp only [vZ,Int.reduceEq,Int.reduceNe,Int.reduceLT,Int.reduceLE,Nat.reduceEqDiff,Nat.reduceAdd,reduceIte,reduceCtorEq,Nat.reduceLT,Nat.reduceLeDiff,Nat.reduceShiftRight,Nat.reduceMod]
   refine callS_of hSF1 ?_
   simp only [vZ,Int.reduceEq,Int.reduceNe,Int.reduceLT,Int.reduceLE,Nat.reduceEqDiff,Nat.reduceAdd,reduceIte,reduceCtorEq,Nat.reduceLT,Nat.reduceLeDiff,Nat.reduceShiftRight,Nat.reduceMod]
  ·cases q
 | false =>
  rcases hcs with ⟨q,_⟩ | ⟨_,q1,q2,q3⟩
  ·cases q
  ·subst q1 q2 q3
   simp only [vZ,Int.reduceEq,Int.reduceNe,Int.reduceLT,Int.reduceLE,Nat.reduceEqDiff,Nat.reduceAdd,reduceIte,reduceCtorEq,Nat.reduceLT,Nat.reduceLeDiff,Nat.reduceShiftRight,Nat.reduceMod]
   refine callS_of hSF0 ?_
   simp only [vZ,Int.reduceEq,Int.reduceNe,Int.reduceLT,Int.reduceLE,Nat.reduceEqDiff,Nat.reduceAdd,reduceIte,reduceCtorEq,Nat.reduceLT,Nat.reduceLeDiff,Nat.reduceShiftRight,Nat.reduceMod]
end Go.Proofs.YtgmpcbpmnimkoaaGreatDoor

