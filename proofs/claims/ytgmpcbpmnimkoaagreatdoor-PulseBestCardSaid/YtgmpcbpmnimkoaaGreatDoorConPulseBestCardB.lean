/- Contracts: the model of charges, differences, both errors. By an AI agent; nothing here is trusted. -/
import Derived.Test.YtgmpcbpmnimkoaaGreatDoorConPulseBestCardA
import Derived.Test.YtgmpcbpmnimkoaaGreatDoorLayA
import Derived.Lib.ItoaNum
import Derived.Lib.AtoiAll
import Derived.Shelf.Slices.Clone
set_option linter.defProp false
set_option linter.unusedSimpArgs false
set_option linter.unusedVariables false
namespace Go.Proofs.YtgmpcbpmnimkoaaGreatDoor
open Go.Av

def oEnd (t ty sz:Nat) (es:List AV):Exit→Env→Store→Prop:=fun x e s=>(x=.normal∨x=.ret)∧ownV e s t ty sz es
theorem oEnd_n (t ty sz:Nat) (es:List AV) (e:Env) (s:Store):oEnd t ty sz es .normal e s=ownV e s t ty sz es:=propext ⟨fun h=>h.2,fun h=>⟨.inl rfl,h⟩⟩
theorem oEnd_r (t ty sz:Nat) (es:List AV) (e:Env) (s:Store):oEnd t ty sz es .ret e s=ownV e s t ty sz es:=propext ⟨fun h=>h.2,fun h=>⟨.inr rfl,h⟩⟩
theorem soundO_W {P:Program} {f:FuncId} {nt np t:Nat} {m:MC} (hF:cFun P f=some (nt,np,m,[(t,none)])) {args:List AV} (hla:args.length≤nt) {ty sz:Nat} {es:List AV} (hsz:0<sz)
    (h:W P nt m (oEnd t ty sz es) (argE args) noStore .mk):SoundO P f args ty sz es:=soundO_of hF hla hsz (W_sound h)
theorem ownV_i {e:Env} {s:Store} {t ty sz:Nat} {es:List AV} (k:Nat) (n:Nat) (h1:e t=.buf k n) (h2:n=es.length) (h3:s k=some (some ⟨ty,sz,es⟩)) (h4:es.all imm=true):ownV e s t ty sz es:=⟨k,by rw [← h2];exact h1,h3,h4⟩
theorem it_bd {items:List Int} (hi:∀ x ∈ items, -100≤x∧x≤100) (j:Nat) : -100≤items.getD j 0∧items.getD j 0≤100:=by
  by_cases h:j<items.length
  · rw [getD_at h];exact hi _ (List.getElem_mem h)
  · simp [List.getD,List.getElem?_eq_none (Nat.le_of_not_lt h)]
theorem ch_bd {ch:List Int} {C:Int} (hC:0≤C) (hc:∀ x ∈ ch, -C≤x∧x≤C) (k:Nat) : -C≤ch.getD k 0∧ch.getD k 0≤C:=by
  by_cases h:k<ch.length
  · rw [getD_at h];exact hc _ (List.getElem_mem h)
  · simp [List.getD,List.getElem?_eq_none (Nat.le_of_not_lt h)];omega
theorem mdT_bd {items ch:List Int} {C:Int} (hC:0≤C) (hi:∀ x ∈ items, -100≤x∧x≤100) (hc:∀ x ∈ ch, -C≤x∧x≤C) (n:Nat):∀ k, -(100 * C * k)≤mdT items ch n k∧mdT items ch n k≤100 * C * k
  | 0=>by simp [mdT]
  | k+1=>by
    have ih:=mdT_bd hC hi hc n k
    have h4:100 * C * ((k+1:Nat):Int)=100 * C * k+100 * C:=by rw [show ((k+1:Nat):Int)=(k:Int)+1 by omega,Int.mul_add,Int.mul_one]
    rw [mdT,h4]
    split
    · have:=prod_bd hC (it_bd hi (n - k)) (ch_bd hC hc k)
      rw [Int.mul_comm (items.getD (n - k) 0)] at this;omega
    · have:0≤100 * C:=by omega
      omega
theorem mdP_bd {items ch:List Int} {C:Int} (hC:0≤C) (hi:∀ x ∈ items, -100≤x∧x≤100) (hc:∀ x ∈ ch, -C≤x∧x≤C) (n k j:Nat) : -(100 * C * (k+1:Nat))≤mdP items ch n k j∧mdP items ch n k j≤100 * C * (k+1:Nat):=by
  have ih:=mdT_bd hC hi hc n k
  have h4:100 * C * ((k+1:Nat):Int)=100 * C * k+100 * C:=by rw [show ((k+1:Nat):Int)=(k:Int)+1 by omega,Int.mul_add,Int.mul_one]
  rw [mdP,h4]
  split
  · have:=prod_bd hC (it_bd hi (n - k)) (ch_bd hC hc k)
    rw [Int.mul_comm (items.getD (n - k) 0)] at this;omega
  · have:0≤100 * C:=by omega
    omega
theorem mdL_0 (items ch:List Int):mdL items ch 0 0=List.replicate (ch.length+items.length - 1) 0:=by
  apply List.ext_getElem
  · simp [mdL]
  · intro n h1 h2
    rw [mdL_get,mdP_0];simp [mdT]
theorem mdL_next (items ch:List Int) (k:Nat):mdL items ch k items.length=mdL items ch (k+1) 0:=by
  unfold mdL
  refine List.map_congr_left fun n _=>?_
  rw [mdP_next,mdP_0]
def mdA (items ch:List Int):List Int:=mdL items ch ch.length 0
theorem mdA_len (items ch:List Int):(mdA items ch).length=ch.length+items.length - 1:=mdL_len _ _ _ _
theorem mdA_get (items ch:List Int) {n:Nat} (h:n<(mdA items ch).length):(mdA items ch)[n]=mdT items ch n ch.length :=
  (mdL_get items ch ch.length 0 h).trans (mdP_0 _ _ _ _)
set_option maxHeartbeats 4000000 in
theorem model_s {items ch:List Int} (shifts:Int) {C:Int} (h1:1≤items.length) (h6:items.length≤6) (h8:ch.length≤8) (hC:0≤C∧C≤1000000000000) (hi:∀ x ∈ items, -100≤x∧x≤100) (hc:∀ x ∈ ch, -C≤x∧x≤C) :
    SoundO Tryz.prog 120 [tplA items shifts,.sl (ints ch)] 3 1 (ints (mdA items ch)):=by
  refine soundO_W f_pulse_model (Nat.le_of_ble_eq_true rfl) (by decide) ?_
  have hmax:=maxLen_big
  have hb:∀ n k j:Nat,k≤8 → -900000000000000≤mdP items ch n k j∧mdP items ch n k j≤900000000000000:=fun n k j hk=>by
    have h:=mdP_bd hC.1 hi hc n k j
    have h2:100 * C * ((k+1:Nat):Int)≤100000000000000 * 9:=Int.mul_le_mul (by omega) (by omega) (by omega) (by omega)
    omega
  obtain ⟨M,hM⟩:∃ M,M=ch.length+items.length - 1:=⟨_,rfl⟩
  have hMi:(ch.length:Int)+items.length - 1=(M:Int):=by omega
  simp only [c_pulse_model,tplA,hMi,vcV,vcD,Int.reduceEq,Int.reduceNe,Int.reduceLT,Int.reduceLE,Nat.reduceEqDiff,Nat.reduceAdd,reduceIte,reduceCtorEq,Nat.reduceLT,Nat.reduceLeDiff,eq_self,vcP2,Nat.reduceShiftRight,Nat.reduceMod]
  (repeat (with_reducible refine And.intro ?_ ?_;focus (first | omega | (unfold I64;omega))))
  refine ⟨mkOk_z _,?_⟩
  have hl0:mdL items ch 0 0=List.replicate M 0:=by rw [hM];exact mdL_0 _ _
  rw [ints_z,← hl0]
  refine W_loop (t:=.mk) (α:=PSigma fun i:Nat=>i≤ch.length) (fun ⟨i,_⟩=>(envOf [(2,.ptr 2 0 0),(5,.buf 100 M),(18,.sl (ints ch)),(19,.int .i64 ch.length),(20,.int .i64 i)],stOf [(2,⟨24,2,[.agg [.sl (ints items),.int .i64 shifts]]⟩),(100,⟨3,1,ints (mdL items ch i 0)⟩)])) (fun x=>ch.length - x.1) ⟨0,Nat.zero_le _⟩ ?_ (fun ⟨i,hin⟩=>?_)
  · refine weakX [(100,some 17)] (of_decide_eq_true rfl) (of_decide_eq_true rfl) ?_
    (simp only [vcW,vcV,vcD,Int.reduceEq,Int.reduceNe,Int.reduceLT,Int.reduceLE,Nat.reduceEqDiff,Nat.reduceAdd,reduceIte,reduceCtorEq,Nat.reduceLT,Nat.reduceLeDiff,eq_self,vcP2,Nat.reduceShiftRight,Nat.reduceMod])
    (repeat' first | exact trivial | (with_reducible first | exact RnB.fxB (ints_fxB _) | rfl | refine And.intro ?_ ?_) | (with_reducible (first | refine RnB.bb ?_ | refine RnB.nb ?_);simp only [vcW,vcV,vcD,Int.reduceEq,Int.reduceNe,Int.reduceLT,Int.reduceLE,Nat.reduceEqDiff,Nat.reduceAdd,reduceIte,reduceCtorEq,Nat.reduceLT,Nat.reduceLeDiff,eq_self,vcP2,Nat.reduceShiftRight,Nat.reduceMod]) | (with_reducible first | refine RnB.ii ?_ | refine RnB.app ?_) | (with_reducible refine RnB.fxB ?_;simp only [vcW,vcV,vcD,Int.reduceEq,Int.reduceNe,Int.reduceLT,Int.reduceLE,Nat.reduceEqDiff,Nat.reduceAdd,reduceIte,reduceCtorEq,Nat.reduceLT,Nat.reduceLeDiff,eq_self,vcP2,Nat.reduceShiftRight,Nat.reduceMod]) | omega)
  · dsimp only at hin ⊢
    by_cases h':i<ch.length
    · have hc1:(i:Int)<ch.length:=by omega
      simp only [hc1,ints_get ch i h',vcV,vcD,Int.reduceEq,Int.reduceNe,Int.reduceLT,Int.reduceLE,Nat.reduceEqDiff,Nat.reduceAdd,reduceIte,reduceCtorEq,Nat.reduceLT,Nat.reduceLeDiff,eq_self,vcP2,Nat.reduceShiftRight,Nat.reduceMod]
      (repeat (with_reducible refine And.intro ?_ ?_;focus (first | omega | (unfold I64;omega))))
      refine W_loop (t:=.mk) (α:=PSigma fun j:Nat=>j≤items.length) (fun ⟨j,_⟩=>(envOf [(2,.ptr 2 0 0),(5,.buf 100 M),(6,.int .i64 i),(7,.int .i64 ch[i]),(18,.sl (ints ch)),(19,.int .i64 ch.length),(20,.int .i64 i),(26,.sl (ints items)),(27,.int .i64 items.length),(28,.int .i64 j)],stOf [(2,⟨24,2,[.agg [.sl (ints items),.int .i64 shifts]]⟩),(100,⟨3,1,ints (mdL items ch i j)⟩)])) (fun x=>items.length - x.1) ⟨0,Nat.zero_le _⟩ ?_ (fun ⟨j,hjn⟩=>?_)
      · refine weakX [(100,some 100)] (of_decide_eq_true rfl) (of_decide_eq_true rfl) ?_
        (simp only [vcW,vcV,vcD,Int.reduceEq,Int.reduceNe,Int.reduceLT,Int.reduceLE,Nat.reduceEqDiff,Nat.reduceAdd,reduceIte,reduceCtorEq,Nat.reduceLT,Nat.reduceLeDiff,eq_self,vcP2,Nat.reduceShiftRight,Nat.reduceMod])
        (repeat' first | exact trivial | (with_reducible first | exact RnB.fxB (ints_fxB _) | rfl | refine And.intro ?_ ?_) | (with_reducible (first | refine RnB.bb ?_ | refine RnB.nb ?_);simp only [vcW,vcV,vcD,Int.reduceEq,Int.reduceNe,Int.reduceLT,Int.reduceLE,Nat.reduceEqDiff,Nat.reduceAdd,reduceIte,reduceCtorEq,Nat.reduceLT,Nat.reduceLeDiff,eq_self,vcP2,Nat.reduceShiftRight,Nat.reduceMod]) | (with_reducible first | refine RnB.ii ?_ | refine RnB.app ?_) | (with_reducible refine RnB.fxB ?_;simp only [vcW,vcV,vcD,Int.reduceEq,Int.reduceNe,Int.reduceLT,Int.reduceLE,Nat.reduceEqDiff,Nat.reduceAdd,reduceIte,reduceCtorEq,Nat.reduceLT,Nat.reduceLeDiff,eq_self,vcP2,Nat.reduceShiftRight,Nat.reduceMod]) | omega)
      · dsimp only at hjn ⊢
        by_cases h2:j<items.length
        · have hc2:(j:Int)<items.length:=by omega
          have hlen:=mdL_len items ch i j
          have hij:i+j<(mdL items ch i j).length:=by omega
          have hij2:(i:Int)+j=((i+j:Nat):Int):=by omega
          have b1:=hb (i+j) i j (by omega)
          have b2:=hb (i+j) i (j+1) (by omega)
          have hgl:=mdL_get items ch i j hij
          have hset:=mdL_set items ch (k:=i) (j:=j) (by omega)
          have hP:=mdP_succ items ch (i+j) i j
          rw [if_pos rfl] at hP
          rw [getD_at h',getD_at h2] at hset hP
          have hp:=prod_bd hC.1 (hi items[j] (List.getElem_mem h2)) (hc ch[i] (List.getElem_mem h'))
          rw [Int.mul_comm items[j]] at hp
          have gw:=ints_get (mdL items ch i j) (i+j) hij
          rw [hgl] at gw
          have hst:(ints (mdL items ch i j)).set (i+j) (.int .i64 (mdP items ch (i+j) i j+ch[i] * items[j]))=ints (mdL items ch i (j+1)):=by rw [ints_st,hset]
          have hlM:(i+j:Nat)<M:=by omega
          have hlM':((i+j:Nat):Int)<M:=by omega
          simp only [hc2,ints_get items j h2,hij2,gw,ints_length,hlen,vcV,vcD,Int.reduceEq,Int.reduceNe,Int.reduceLT,Int.reduceLE,Nat.reduceEqDiff,Nat.reduceAdd,reduceIte,reduceCtorEq,Nat.reduceLT,Nat.reduceLeDiff,eq_self,vcP2,Nat.reduceShiftRight,Nat.reduceMod]
          (repeat (with_reducible refine And.intro ?_ ?_;focus (first | omega | (unfold I64;omega))))
          refine ⟨⟨j+1,h2⟩,by simp only;omega,?_⟩
          refine weakX [(100,some 100)] (of_decide_eq_true rfl) (of_decide_eq_true rfl) ?_
          (simp only [vcW,vcV,vcD,Int.reduceEq,Int.reduceNe,Int.reduceLT,Int.reduceLE,Nat.reduceEqDiff,Nat.reduceAdd,reduceIte,reduceCtorEq,Nat.reduceLT,Nat.reduceLeDiff,eq_self,vcP2,Nat.reduceShiftRight,Nat.reduceMod])
          (repeat' first | exact trivial | (with_reducible first | exact RnB.fxB (ints_fxB _) | rfl | refine And.intro ?_ ?_) | (with_reducible (first | refine RnB.bb ?_ | refine RnB.nb ?_);simp only [vcW,vcV,vcD,Int.reduceEq,Int.reduceNe,Int.reduceLT,Int.reduceLE,Nat.reduceEqDiff,Nat.reduceAdd,reduceIte,reduceCtorEq,Nat.reduceLT,Nat.reduceLeDiff,eq_self,vcP2,Nat.reduceShiftRight,Nat.reduceMod]) | (with_reducible first | refine RnB.ii ?_ | refine RnB.app ?_) | (with_reducible refine RnB.fxB ?_;simp only [vcW,vcV,vcD,Int.reduceEq,Int.reduceNe,Int.reduceLT,Int.reduceLE,Nat.reduceEqDiff,Nat.reduceAdd,reduceIte,reduceCtorEq,Nat.reduceLT,Nat.reduceLeDiff,eq_self,vcP2,Nat.reduceShiftRight,Nat.reduceMod]) | omega)
          all_goals exact RnB.eq hst (by rw [hst];exact ints_fxB _)
        · have hjl:j=items.length:=by omega
          subst hjl
          have hc2:¬ (items.length:Int)<items.length:=by omega
          have hn:=mdL_next items ch i
          simp only [hc2,vcV,vcD,Int.reduceEq,Int.reduceNe,Int.reduceLT,Int.reduceLE,Nat.reduceEqDiff,Nat.reduceAdd,reduceIte,reduceCtorEq,Nat.reduceLT,Nat.reduceLeDiff,eq_self,vcP2,Nat.reduceShiftRight,Nat.reduceMod]
          (repeat (with_reducible refine And.intro ?_ ?_;focus (first | omega | (unfold I64;omega))))
          refine ⟨⟨i+1,h'⟩,by simp only;omega,?_⟩
          refine weakX [(100,some 100)] (of_decide_eq_true rfl) (of_decide_eq_true rfl) ?_
          (simp only [vcW,vcV,vcD,Int.reduceEq,Int.reduceNe,Int.reduceLT,Int.reduceLE,Nat.reduceEqDiff,Nat.reduceAdd,reduceIte,reduceCtorEq,Nat.reduceLT,Nat.reduceLeDiff,eq_self,vcP2,Nat.reduceShiftRight,Nat.reduceMod])
          (repeat' first | exact trivial | (with_reducible first | exact RnB.fxB (ints_fxB _) | rfl | refine And.intro ?_ ?_) | (with_reducible (first | refine RnB.bb ?_ | refine RnB.nb ?_);simp only [vcW,vcV,vcD,Int.reduceEq,Int.reduceNe,Int.reduceLT,Int.reduceLE,Nat.reduceEqDiff,Nat.reduceAdd,reduceIte,reduceCtorEq,Nat.reduceLT,Nat.reduceLeDiff,eq_self,vcP2,Nat.reduceShiftRight,Nat.reduceMod]) | (with_reducible first | refine RnB.ii ?_ | refine RnB.app ?_) | (with_reducible refine RnB.fxB ?_;simp only [vcW,vcV,vcD,Int.reduceEq,Int.reduceNe,Int.reduceLT,Int.reduceLE,Nat.reduceEqDiff,Nat.reduceAdd,reduceIte,reduceCtorEq,Nat.reduceLT,Nat.reduceLeDiff,eq_self,vcP2,Nat.reduceShiftRight,Nat.reduceMod]) | omega)
          all_goals exact RnB.eq (congrArg ints hn) (by rw [hn];exact ints_fxB _)
    · have hil:i=ch.length:=by omega
      subst hil
      have hc1:¬ (ch.length:Int)<ch.length:=by omega
      have hlM:M=(ints (mdA items ch)).length:=by rw [ints_length,mdA_len];exact hM
      simp only [hc1,oEnd_r,vcV,vcD,Int.reduceEq,Int.reduceNe,Int.reduceLT,Int.reduceLE,Nat.reduceEqDiff,Nat.reduceAdd,reduceIte,reduceCtorEq,Nat.reduceLT,Nat.reduceLeDiff,eq_self,vcP2,Nat.reduceShiftRight,Nat.reduceMod]
      exact ownV_i 100 M rfl hlM rfl (Go.Av.ints_imm _)
end Go.Proofs.YtgmpcbpmnimkoaaGreatDoor

/- The equations of ticks,in plain Lean. By an AI agent;nothing here is trusted. -/
namespace Go.Lin

def ticks (S:Nat) (p:Nat→Bool):List Nat:=(List.range S).filter p
theorem ticks_succ (S:Nat) (p:Nat→Bool):ticks (S+1) p=ticks S p ++ if p S then [S] else []:=by
  unfold ticks;rw [List.range_succ,List.filter_append];congr 1
  cases h:p S <;> simp [h]
theorem ticks_lt {S:Nat} {p:Nat→Bool} {k:Nat} (h:k ∈ ticks S p):k<S∧p k=true:=by
  unfold ticks at h;rw [List.mem_filter,List.mem_range] at h;exact h
theorem getD_app_l {l m:List Nat} {i d:Nat} (h:i<l.length):(l ++ m).getD i d=l.getD i d:=by simp [List.getD,List.getElem?_append_left h]
theorem getD_last {l:List Nat} {x d:Nat}:(l ++ [x]).getD l.length d=x:=by simp [List.getD]
theorem sm_ticks {p:Nat→Bool} {f:Nat→Rat}:∀ S,(∀ k,k<S→p k=false→f k=0)→sm S f=sm (ticks S p).length fun i=>f ((ticks S p).getD i 0)
  | 0,_=>rfl
  | S+1,h=>by
    have ih:=sm_ticks (p:=p) (f:=f) S fun k hk=>h k (by omega)
    rw [sm_succ,ticks_succ]
    cases hp:p S with
    | true =>
      simp only [if_true,List.length_append,List.length_singleton]
      rw [sm_succ,getD_last,ih]
      congr 1
      exact sm_congr fun i hi=>by rw [getD_app_l hi]
    | false =>
      simp only [Bool.false_eq_true,if_false,List.append_nil]
      rw [h S (by omega) hp,ih];grind
theorem ticks_getD {S:Nat} {p:Nat→Bool} {i:Nat} (h:i<(ticks S p).length):(ticks S p).getD i 0 ∈ ticks S p:=by
  rw [List.getD_eq_getElem?_getD,List.getElem?_eq_getElem h];exact List.getElem_mem h
theorem ticks_asc {p:Nat→Bool}:∀ {S r c:Nat},r<c→c<(ticks S p).length→(ticks S p).getD r 0<(ticks S p).getD c 0
  | 0,r,c,_,hc=>by simp [ticks] at hc
  | S+1,r,c,h,hc=>by
    rw [ticks_succ] at hc ⊢
    cases hp:p S with
    | true =>
      simp only [hp,if_true,List.length_append,List.length_singleton] at hc ⊢
      by_cases e:c=(ticks S p).length
      · subst e
        rw [getD_last,getD_app_l h]
        exact (ticks_lt (ticks_getD h)).1
      · rw [getD_app_l (by omega),getD_app_l (by omega)]
        exact ticks_asc h (by omega)
    | false =>
      simp only [hp,Bool.false_eq_true,if_false,List.append_nil] at hc ⊢
      exact ticks_asc h hc
def tix (p:Nat→Bool) (k:Nat):Nat:=(ticks k p).length
theorem ticks_at {p:Nat→Bool}:∀ {S k:Nat},k<S→p k=true→tix p k<(ticks S p).length∧(ticks S p).getD (tix p k) 0=k
  | 0,k,h,_=>by omega
  | S+1,k,h,hp=>by
    rw [ticks_succ]
    by_cases e:k=S
    · subst e
      simp only [hp,if_true,List.length_append,List.length_singleton]
      exact ⟨by unfold tix;omega,getD_last⟩
    · obtain ⟨h1,h2⟩:=ticks_at (S:=S) (k:=k) (by omega) hp
      exact ⟨by rw [List.length_append];omega,by rw [getD_app_l h1];exact h2⟩
theorem tix_ticks {S:Nat} {p:Nat→Bool} {i:Nat} (h:i<(ticks S p).length):tix p ((ticks S p).getD i 0)=i:=by
  have hm:=ticks_lt (ticks_getD h)
  obtain ⟨h1,h2⟩:=ticks_at hm.1 hm.2
  rcases Nat.lt_trichotomy (tix p ((ticks S p).getD i 0)) i with g | g | g
  · have:=ticks_asc g h;omega
  · exact g
  · have:=ticks_asc g h1;omega

section
variable (items:List Int) (S:Nat) (s:Nat→Rat)
def rhs (k:Nat):Rat:=sm (S+items.length - 1) fun n=>s n * ((itm items n k:Int):Rat)
def eqA (T:List Nat) (r c:Nat):Rat:=((gr items (S+items.length - 1) (T.getD r 0) (T.getD c 0):Int):Rat)
variable {items S s}

theorem grad_eq (x:Nat→Rat) (k:Nat):grad items S (S+items.length - 1) s x k=rhs items S s k - sm S fun m=>((gr items (S+items.length - 1) k m:Int):Rat) * x m:=by
  unfold grad rhs
  have e:∀ n,(s n - md items S x n) * ((itm items n k:Int):Rat)=s n * ((itm items n k:Int):Rat) - sm S fun m=>x m * (((itm items n k:Int):Rat) * ((itm items n m:Int):Rat)):=fun n=>by
    have:(sm S fun m=>x m * (((itm items n k:Int):Rat) * ((itm items n m:Int):Rat)))=sm S fun m=>((itm items n k:Int):Rat) * (x m * ((itm items n m:Int):Rat)):=sm_congr fun m _=>by grind
    rw [this,sm_mul];unfold md;grind
  simp only [e]
  rw [sm_sub,sm_swap]
  congr 1
  refine sm_congr fun m _=>?_
  rw [sm_mul,gr,smI_cast,Rat.mul_comm]
  congr 1
  exact sm_congr fun n _=>(Rat.intCast_mul _ _).symm
def spread (p:Nat→Bool) (y:Nat→Rat) (k:Nat):Rat:=if p k then y (tix p k) else 0
theorem spread_sum (p:Nat→Bool) (y g:Nat→Rat):sm S (fun m=>g m * spread p y m)=sm (ticks S p).length fun c=>g ((ticks S p).getD c 0) * y c:=by
  rw [sm_ticks (p:=p) S (fun k _ hp=>by unfold spread;rw [hp];simp only [Bool.false_eq_true,if_false];grind)]
  refine sm_congr fun c hc=>?_
  unfold spread
  rw [(ticks_lt (ticks_getD hc)).2,if_pos rfl,tix_ticks hc]
theorem spread_grad {p:Nat→Bool} {y:Nat→Rat} (hy:∀ r,r<(ticks S p).length→sm (ticks S p).length (fun c=>eqA items S (ticks S p) r c * y c)=rhs items S s ((ticks S p).getD r 0))
    {k:Nat} (hk:k<S) (hp:p k=true):grad items S (S+items.length - 1) s (spread p y) k=0:=by
  obtain ⟨h1,h2⟩:=ticks_at hk hp
  rw [grad_eq,spread_sum]
  have:=hy _ h1
  unfold eqA at this
  rw [h2] at this
  rw [this];grind
theorem eqA_posD (hne:∃ x ∈ items,x ≠ 0) (p:Nat→Bool):posD (ticks S p).length (eqA items S (ticks S p)) :=
  gram_posD hne (fun r hr=>(ticks_lt (ticks_getD hr)).1) (fun r c h hc=>ticks_asc h hc)
theorem spread_best {p:Nat→Bool} {y:Nat→Rat} (hy:∀ r,r<(ticks S p).length→sm (ticks S p).length (fun c=>eqA items S (ticks S p) r c * y c)=rhs items S s ((ticks S p).getD r 0)) :
    best items S (S+items.length - 1) s (spread p y) ↔ ∀ k,k<S→0≤spread p y k∧grad items S (S+items.length - 1) s (spread p y) k≤0:=by
  constructor
  · exact fun h k hk=>⟨(h k hk).1,(h k hk).2.1⟩
  · intro h k hk
    refine ⟨(h k hk).1,(h k hk).2,?_⟩
    cases hp:p k with
    | true=>rw [spread_grad hy hk hp];grind
    | false=>unfold spread;rw [hp];simp only [Bool.false_eq_true,if_false];grind
theorem best_found {x:Nat→Rat} (hx:best items S (S+items.length - 1) s x) (hne:∃ z ∈ items,z ≠ 0) {y:Nat→Rat}
    (hy:∀ r,r<(ticks S fun k=>decide (x k ≠ 0)).length→sm (ticks S fun k=>decide (x k ≠ 0)).length (fun c=>eqA items S (ticks S fun k=>decide (x k ≠ 0)) r c * y c)=rhs items S s ((ticks S fun k=>decide (x k ≠ 0)).getD r 0)) :
    ∀ k,k<S→spread (fun k=>decide (x k ≠ 0)) y k=x k:=by
  have hT:=(eqA_posD (S:=S) hne fun k=>decide (x k ≠ 0)).triv
  have hx2:∀ r,r<(ticks S fun k=>decide (x k ≠ 0)).length→sm (ticks S fun k=>decide (x k ≠ 0)).length (fun c=>eqA items S (ticks S fun k=>decide (x k ≠ 0)) r c * x ((ticks S fun k=>decide (x k ≠ 0)).getD c 0))=rhs items S s ((ticks S fun k=>decide (x k ≠ 0)).getD r 0):=by
    intro r hr
    have hm:=ticks_lt (ticks_getD hr)
    have h0:=(hx _ hm.1).2.2
    have hne':x ((ticks S fun k=>decide (x k ≠ 0)).getD r 0) ≠ 0:=by simpa using hm.2
    have h1:grad items S (S+items.length - 1) s x ((ticks S fun k=>decide (x k ≠ 0)).getD r 0)=0:=by
      rcases Rat.mul_eq_zero.1 h0 with h | h
      · exact absurd h hne'
      · exact h
    rw [grad_eq] at h1
    rw [sm_ticks (p:=fun k=>decide (x k ≠ 0)) S (fun k _ hp=>by
      have:x k=0:=by simpa using hp
      rw [this];grind)] at h1
    unfold eqA
    grind
  intro k hk
  unfold spread
  split
  · rename_i hp
    obtain ⟨h1,h2⟩:=ticks_at (p:=fun k=>decide (x k ≠ 0)) hk hp
    have:=hT (fun c=>y c - x ((ticks S fun k=>decide (x k ≠ 0)).getD c 0)) (fun r hr=>by
      have e:sm (ticks S fun k=>decide (x k ≠ 0)).length (fun c=>eqA items S (ticks S fun k=>decide (x k ≠ 0)) r c * (y c - x ((ticks S fun k=>decide (x k ≠ 0)).getD c 0)))=sm (ticks S fun k=>decide (x k ≠ 0)).length (fun c=>eqA items S (ticks S fun k=>decide (x k ≠ 0)) r c * y c) - sm (ticks S fun k=>decide (x k ≠ 0)).length (fun c=>eqA items S (ticks S fun k=>decide (x k ≠ 0)) r c * x ((ticks S fun k=>decide (x k ≠ 0)).getD c 0)):=by
        rw [← sm_sub];exact sm_congr fun c _=>by grind
      rw [e,hy r hr,hx2 r hr];grind) _ h1
    simp only [h2] at this
    grind
  · rename_i hp
    have:x k=0:=by simpa using hp
    exact this.symm
end
end Go.Lin

/- Contracts: differences,both errors,the fit that is accepted. By an AI agent;nothing here is trusted. -/
namespace Go.Proofs.YtgmpcbpmnimkoaaGreatDoor
open Go.Av

theorem CallsF.mono {P:Program} {f:FuncId} {args:Array Value} {w:World} {R R':Value→World→Prop} (h:CallsF P f args w R) (hr:∀ v w',R v w'→R' v w'):CallsF P f args w R':=by
  rcases h with ⟨v,w',h1,h2⟩ | ⟨h1,h2⟩
  · exact .inl ⟨v,w',h1,hr v w' h2⟩
  · exact .inr ⟨h1,h2.mono fun e w' ⟨v,he,hv⟩=>⟨v,he,hr v w' hv⟩⟩
theorem SoundO.sl {P:Program} {f:FuncId} {args:List AV} {ty sz:Nat} {es:List AV} (h:SoundO P f args ty sz es) (hi:∀ x ∈ es,imm x=true):Sound P f args (.sl es):=by
  intro w ok cargs hok hG hl ha
  refine CallsF.mono (h.2 w ok cargs hok hG hl ha) fun cv w' ⟨hb,ho⟩=>⟨hb,?_⟩
  rcases ho with ⟨rfl,a,rfl⟩ | ⟨b,cap,cur,rfl,h1,h2,h3,h4,h5,h6⟩
  · exact .sl0 _ _
  · refine .sl es b 0 sz cap cur ty (0,0) (fun i o=>cur.getD (i * sz+o) undef) (.inr ⟨h1,(Array.getElem?_eq_some_iff.1 h2).1⟩) h3 h2 (fun i x hx=>⟨(h6 i x hx).1,(h6 i x hx).2.1,hi x (List.mem_of_getElem? hx)⟩) (fun i x o c hx hc=>?_) (fun i x o c hx hc=>?_)
    · obtain ⟨cv,p,q⟩:=(h6 i x hx).2.2 o c hc
      rw [Nat.zero_add,p]
      simp [Array.getD_eq_getD_getElem?,p]
    · obtain ⟨cv,p,q⟩:=(h6 i x hx).2.2 o c hc
      have:cur.getD (i * sz+o) undef=cv:=by simp [Array.getD_eq_getD_getElem?,p]
      rw [this]
      exact q.mono (fun _ h=>h.1) (fun _ _=>rfl) (Goes.empty _ _ _ _ _)
theorem ints_immM (l:List Int):∀ x ∈ ints l,imm x=true:=fun x hx=>by
  obtain ⟨n,_,rfl⟩:=List.mem_map.1 hx;rfl

theorem ownS_ints (l:List Int) (ks:List Nat) (s:Store):ownS (ints l) ks s=s:=by
  have:scalE (ints l)=true:=List.all_eq_true.2 fun x hx=>by
    obtain ⟨n,_,rfl⟩:=List.mem_map.1 hx;rfl
  unfold ownS;rw [if_pos this]
def dfL (items l ch:List Int) (den:Int):List Int:=(List.range (mdA items ch).length).map fun n=>l.getD n 0 * den - mdT items ch n ch.length
def dfK (items l ch:List Int) (den:Int) (i:Nat):List Int:=(List.range (mdA items ch).length).map fun n=>if n<i then l.getD n 0 * den - mdT items ch n ch.length else mdT items ch n ch.length
theorem dfL_len (items l ch:List Int) (den:Int):(dfL items l ch den).length=(mdA items ch).length:=by simp [dfL]
theorem dfK_len (items l ch:List Int) (den:Int) (i:Nat):(dfK items l ch den i).length=(mdA items ch).length:=by simp [dfK]
theorem dfL_get (items l ch:List Int) (den:Int) {n:Nat} (h:n<(dfL items l ch den).length):(dfL items l ch den)[n]=l.getD n 0 * den - mdT items ch n ch.length:=by simp [dfL]
theorem dfK_0 (items l ch:List Int) (den:Int):dfK items l ch den 0=mdA items ch:=by
  apply List.ext_getElem
  · exact dfK_len _ _ _ _ _
  · intro n h1 h2;rw [mdA_get];simp [dfK]
theorem dfK_set (items l ch:List Int) (den:Int) {i:Nat} (h:i<(mdA items ch).length):(dfK items l ch den i).set i (l.getD i 0 * den - mdT items ch i ch.length)=dfK items l ch den (i+1):=by
  apply List.ext_getElem
  · rw [List.length_set,dfK_len,dfK_len]
  · intro n h1 h2
    rw [List.getElem_set]
    simp only [dfK,List.getElem_map,List.getElem_range]
    by_cases e:i=n
    · subst e;rw [if_pos rfl,if_pos (by omega)]
    · rw [if_neg e]
      by_cases e2:n<i
      · rw [if_pos e2,if_pos (by omega)]
      · rw [if_neg e2,if_neg (by omega)]
theorem dfK_all (items l ch:List Int) (den:Int) {i:Nat} (h:(mdA items ch).length≤i):dfK items l ch den i=dfL items l ch den:=by
  unfold dfK dfL
  refine List.map_congr_left fun n hn=>?_
  rw [List.mem_range] at hn
  rw [if_pos (by omega)]
theorem dfK_at (items l ch:List Int) (den:Int) {i:Nat} (h:i<(dfK items l ch den i).length):(dfK items l ch den i)[i]=mdT items ch i ch.length:=by simp [dfK]

structure FitIn (items l:List Int) (shifts:Int) (ch:List Int) (den:Int):Prop where
  i1:1≤items.length
  i6:items.length≤6
  ib:∀ x ∈ items, -100≤x∧x≤100
  ne:∃ x ∈ items,x ≠ 0
  s5:1≤shifts∧shifts≤5
  lb:∀ x ∈ l, -10000≤x∧x≤10000
  ll:(l.length:Int)=shifts+items.length - 1
  cl:(ch.length:Int)=shifts
  cb:∀ x ∈ ch,0≤x∧x≤1000000000000
  db:1≤den∧den≤1000000000000

theorem FitIn.cb2 {items l:List Int} {shifts:Int} {ch:List Int} {den:Int} (h:FitIn items l shifts ch den):∀ x ∈ ch, -1000000000000≤x∧x≤1000000000000:=fun x hx=>⟨by have:=(h.cb x hx).1;omega,(h.cb x hx).2⟩
theorem FitIn.mlen {items l:List Int} {shifts:Int} {ch:List Int} {den:Int} (h:FitIn items l shifts ch den):(mdA items ch).length=l.length:=by
  have:=h.ll;have:=h.cl;have:=h.i1;rw [mdA_len];omega
theorem FitIn.l10 {items l:List Int} {shifts:Int} {ch:List Int} {den:Int} (h:FitIn items l shifts ch den):l.length≤10:=by
  have:=h.ll;have:=h.i6;have:=h.s5;omega
theorem FitIn.mb {items l:List Int} {shifts:Int} {ch:List Int} {den:Int} (h:FitIn items l shifts ch den) (n:Nat) : -500000000000000≤mdT items ch n ch.length∧mdT items ch n ch.length≤500000000000000:=by
  have h1:=mdT_bd (C:=1000000000000) (by omega) h.ib h.cb2 n ch.length
  have h2:=h.cl;have h3:=h.s5
  omega
theorem FitIn.lb2 {items l:List Int} {shifts:Int} {ch:List Int} {den:Int} (h:FitIn items l shifts ch den) (n:Nat) : -10000≤l.getD n 0∧l.getD n 0≤10000:=by
  by_cases hn:n<l.length
  · rw [getD_at hn];exact h.lb _ (List.getElem_mem hn)
  · simp [List.getD,List.getElem?_eq_none (Nat.le_of_not_lt hn)]
theorem FitIn.pb {items l:List Int} {shifts:Int} {ch:List Int} {den:Int} (h:FitIn items l shifts ch den) (n:Nat) : -10000000000000000≤l.getD n 0 * den∧l.getD n 0 * den≤10000000000000000:=by
  have h1:=h.lb2 n
  have h2:=h.db
  have:=mul_abs (s:=l.getD n 0) (k:=den) (M:=10000) (K:=1000000000000) ⟨by omega,h2.2⟩ (by omega) h1
  omega
theorem FitIn.dfb {items l:List Int} {shifts:Int} {ch:List Int} {den:Int} (h:FitIn items l shifts ch den):∀ x ∈ dfL items l ch den, -10500000000000000≤x∧x≤10500000000000000:=by
  intro x hx
  unfold dfL at hx
  obtain ⟨n,_,rfl⟩:=List.mem_map.1 hx
  have h1:=h.pb n
  have h2:=h.mb n
  omega

theorem differences_o {items l:List Int} {shifts:Int} {ch:List Int} {den:Int} (h:FitIn items l shifts ch den) :
    SoundO Tryz.prog 105 [tplA items shifts,.sl (ints l),fitA den ch] 3 1 (ints (dfL items l ch den)):=by
  refine soundO_W f_pulse_differences (Nat.le_of_ble_eq_true rfl) (by decide) ?_
  have hm:=model_s shifts h.i1 h.i6 (by have:=h.cl;have:=h.s5;omega) (C:=1000000000000) (by omega) h.ib h.cb2
  have hml:=h.mlen
  have hl10:=h.l10
  unfold tplA at hm
  have hmax:=maxLen_big
  simp only [c_pulse_differences,tplA,fitA,vcV,vcD,Int.reduceEq,Int.reduceNe,Int.reduceLT,Int.reduceLE,Nat.reduceEqDiff,Nat.reduceAdd,reduceIte,reduceCtorEq,Nat.reduceLT,Nat.reduceLeDiff,eq_self,vcP2,Nat.reduceShiftRight,Nat.reduceMod]
  refine callS_own hm rfl ?_
  simp only [ownS_ints,ints_length,hml,vcV,vcD,Int.reduceEq,Int.reduceNe,Int.reduceLT,Int.reduceLE,Nat.reduceEqDiff,Nat.reduceAdd,reduceIte,reduceCtorEq,Nat.reduceLT,Nat.reduceLeDiff,eq_self,vcP2,Nat.reduceShiftRight,Nat.reduceMod]
  rw [← dfK_0 items l ch den]
  refine W_loop (t:=.mk) (α:=PSigma fun i:Nat=>i≤l.length) (fun ⟨i,_⟩=>(envOf [(5,.ptr 5 0 0),(7,.buf 100 l.length),(14,.sl (ints l)),(15,.int .i64 l.length),(16,.int .i64 i)],stOf [(5,⟨29,2,[.agg [.int .i64 den,.sl (ints ch)]]⟩),(100,⟨3,1,ints (dfK items l ch den i)⟩)])) (fun x=>l.length - x.1) ⟨0,Nat.zero_le _⟩ ?_ (fun ⟨i,hin⟩=>?_)
  · refine weakX [(100,some 13)] (of_decide_eq_true rfl) (of_decide_eq_true rfl) ?_
    (simp only [vcW,vcV,vcD,Int.reduceEq,Int.reduceNe,Int.reduceLT,Int.reduceLE,Nat.reduceEqDiff,Nat.reduceAdd,reduceIte,reduceCtorEq,Nat.reduceLT,Nat.reduceLeDiff,eq_self,vcP2,Nat.reduceShiftRight,Nat.reduceMod])
    (repeat' first | exact trivial | (with_reducible first | exact RnB.fxB (ints_fxB _) | rfl | refine And.intro ?_ ?_) | (with_reducible (first | refine RnB.bb ?_ | refine RnB.nb ?_);simp only [vcW,vcV,vcD,Int.reduceEq,Int.reduceNe,Int.reduceLT,Int.reduceLE,Nat.reduceEqDiff,Nat.reduceAdd,reduceIte,reduceCtorEq,Nat.reduceLT,Nat.reduceLeDiff,eq_self,vcP2,Nat.reduceShiftRight,Nat.reduceMod]) | (with_reducible first | refine RnB.ii ?_ | refine RnB.app ?_) | (with_reducible refine RnB.fxB ?_;simp only [vcW,vcV,vcD,Int.reduceEq,Int.reduceNe,Int.reduceLT,Int.reduceLE,Nat.reduceEqDiff,Nat.reduceAdd,reduceIte,reduceCtorEq,Nat.reduceLT,Nat.reduceLeDiff,eq_self,vcP2,Nat.reduceShiftRight,Nat.reduceMod]) | omega)
  · dsimp only at hin ⊢
    have hlen:=dfK_len items l ch den i
    by_cases h':i<l.length
    · have hc1:(i:Int)<l.length:=by omega
      have hi2:i<(dfK items l ch den i).length:=by omega
      have gw:=ints_get (dfK items l ch den i) i hi2
      rw [dfK_at] at gw
      have b1:=h.pb i
      have b2:=h.mb i
      have hst:(ints (dfK items l ch den i)).set i (.int .i64 (l[i] * den - mdT items ch i ch.length))=ints (dfK items l ch den (i+1)):=by
        rw [ints_st,← dfK_set items l ch den (by omega),getD_at h']
      rw [getD_at h'] at b1
      simp only [hc1,ints_get l i h',gw,ints_length,hlen,hml,vcV,vcD,Int.reduceEq,Int.reduceNe,Int.reduceLT,Int.reduceLE,Nat.reduceEqDiff,Nat.reduceAdd,reduceIte,reduceCtorEq,Nat.reduceLT,Nat.reduceLeDiff,eq_self,vcP2,Nat.reduceShiftRight,Nat.reduceMod]
      (repeat (with_reducible refine And.intro ?_ ?_;focus (first | omega | (unfold I64;omega))))
      refine ⟨⟨i+1,h'⟩,by simp only;omega,?_⟩
      refine weakX [(100,some 100)] (of_decide_eq_true rfl) (of_decide_eq_true rfl) ?_
      (simp only [vcW,vcV,vcD,Int.reduceEq,Int.reduceNe,Int.reduceLT,Int.reduceLE,Nat.reduceEqDiff,Nat.reduceAdd,reduceIte,reduceCtorEq,Nat.reduceLT,Nat.reduceLeDiff,eq_self,vcP2,Nat.reduceShiftRight,Nat.reduceMod])
      (repeat' first | exact trivial | (with_reducible first | exact RnB.fxB (ints_fxB _) | rfl | refine And.intro ?_ ?_) | (with_reducible (first | refine RnB.bb ?_ | refine RnB.nb ?_);simp only [vcW,vcV,vcD,Int.reduceEq,Int.reduceNe,Int.reduceLT,Int.reduceLE,Nat.reduceEqDiff,Nat.reduceAdd,reduceIte,reduceCtorEq,Nat.reduceLT,Nat.reduceLeDiff,eq_self,vcP2,Nat.reduceShiftRight,Nat.reduceMod]) | (with_reducible first | refine RnB.ii ?_ | refine RnB.app ?_) | (with_reducible refine RnB.fxB ?_;simp only [vcW,vcV,vcD,Int.reduceEq,Int.reduceNe,Int.reduceLT,Int.reduceLE,Nat.reduceEqDiff,Nat.reduceAdd,reduceIte,reduceCtorEq,Nat.reduceLT,Nat.reduceLeDiff,eq_self,vcP2,Nat.reduceShiftRight,Nat.reduceMod]) | omega)
      all_goals exact RnB.eq hst (by rw [hst];exact ints_fxB _)
    · have hil:i=l.length:=by omega
      subst hil
      have hc1:¬ (l.length:Int)<l.length:=by omega
      have hall:=dfK_all items l ch den (i:=l.length) (by omega)
      have hE:l.length=(ints (dfL items l ch den)).length:=by rw [ints_length,dfL_len,hml]
      simp only [hc1,oEnd_n,oEnd_r,hall,vcV,vcD,Int.reduceEq,Int.reduceNe,Int.reduceLT,Int.reduceLE,Nat.reduceEqDiff,Nat.reduceAdd,reduceIte,reduceCtorEq,Nat.reduceLT,Nat.reduceLeDiff,eq_self,vcP2,Nat.reduceShiftRight,Nat.reduceMod]
      exact ownV_i 100 l.length rfl hE rfl (Go.Av.ints_imm _)
theorem differences_s {items l:List Int} {shifts:Int} {ch:List Int} {den:Int} (h:FitIn items l shifts ch den) :
    Sound Tryz.prog 105 [tplA items shifts,.sl (ints l),fitA den ch] (.sl (ints (dfL items l ch den))):=SoundO.sl (differences_o h) (ints_immM _)

def beE (items:List Int) (shifts:Int) (l:List Int) (den:Int) (ch:List Int):Int:=if fdE items shifts l ≠ 0 then fdE items shifts l else if fE den ch ≠ 0 then fE den ch else if (ch.length:Int)=shifts then 0 else 10
theorem beE_ok {items:List Int} {shifts:Int} {l:List Int} {den:Int} {ch:List Int} (h:beE items shifts l den ch=0):FitIn items l shifts ch den:=by
  unfold beE at h
  split at h
  · rename_i h1;exact absurd h h1
  · rename_i h1
    split at h
    · rename_i h2;exact absurd h h2
    · rename_i h2
      split at h
      · rename_i h3
        have h1':fdE items shifts l=0:=by omega
        have h2':fE den ch=0:=by omega
        unfold fdE at h1'
        split at h1'
        · rename_i g;exact absurd h1' g
        · rename_i g
          split at h1'
          · rename_i g2;exact absurd h1' g2
          · rename_i g2
            split at h1'
            · rename_i g3
              obtain ⟨⟨a1,a2⟩,a3,a4,a5⟩:=teE_ok (items:=items) (shifts:=shifts) (by omega)
              obtain ⟨b1,b2,b3⟩:=fE_ok h2'
              have hs:smE l=0:=by omega
              exact ⟨a1,a2,a3,a4,a5,(smE_ok hs).2.2,g3,h3,b3,b1⟩
            · cases h1'
      · cases h
theorem bothErr_s (items:List Int) (shifts:Int) (l:List Int) (den:Int) (ch:List Int) (h1:items.length<4000000000000000000) (h2:l.length<4000000000000000000) (h3:ch.length<4000000000000000000) :
    Sound Tryz.prog 104 [tplA items shifts,.sl (ints l),fitA den ch] (.int .i64 (beE items shifts l den ch)):=by
  refine sound_W f_pulse_bothErr (Nat.le_of_ble_eq_true rfl) ?_
  have hF:=fittedErr_s items shifts l h1 h2
  have hG:=fitErr_s den ch h3
  unfold tplA at hF
  unfold fitA at hG
  simp only [c_pulse_bothErr,tplA,fitA,vcV,vcD,Int.reduceEq,Int.reduceNe,Int.reduceLT,Int.reduceLE,Nat.reduceEqDiff,Nat.reduceAdd,reduceIte,reduceCtorEq,Nat.reduceLT,Nat.reduceLeDiff,eq_self,vcP2,Nat.reduceShiftRight,Nat.reduceMod]
  refine callS_of hF ?_
  simp only [vcV,vcD,Int.reduceEq,Int.reduceNe,Int.reduceLT,Int.reduceLE,Nat.reduceEqDiff,Nat.reduceAdd,reduceIte,reduceCtorEq,Nat.reduceLT,Nat.reduceLeDiff,eq_self,vcP2,Nat.reduceShiftRight,Nat.reduceMod]
  refine callS_of hG ?_
  simp only [vcV,vcD,Int.reduceEq,Int.reduceNe,Int.reduceLT,Int.reduceLE,Nat.reduceEqDiff,Nat.reduceAdd,reduceIte,reduceCtorEq,Nat.reduceLT,Nat.reduceLeDiff,eq_self,vcP2,Nat.reduceShiftRight,Nat.reduceMod]
  refine callS_of (unless_s _ _) ?_
  simp only [vcV,vcD,Int.reduceEq,Int.reduceNe,Int.reduceLT,Int.reduceLE,Nat.reduceEqDiff,Nat.reduceAdd,reduceIte,reduceCtorEq,Nat.reduceLT,Nat.reduceLeDiff,eq_self,vcP2,Nat.reduceShiftRight,Nat.reduceMod]
  refine callS_of (first3_s _ _ _) ?_
  simp only [vcV,vcD,Int.reduceEq,Int.reduceNe,Int.reduceLT,Int.reduceLE,Nat.reduceEqDiff,Nat.reduceAdd,reduceIte,reduceCtorEq,Nat.reduceLT,Nat.reduceLeDiff,eq_self,vcP2,Nat.reduceShiftRight,Nat.reduceMod]
  refine ⟨by intro _ k hk;simp [refsL,refs,upd] at hk;subst hk;simp [upd],?_⟩
  unfold beE
  by_cases e:(ch.length:Int)=shifts <;> simp [e]
end Go.Proofs.YtgmpcbpmnimkoaaGreatDoor

/- Contracts: which fit is accepted. By an AI agent;nothing here is trusted. -/
namespace Go.Proofs.YtgmpcbpmnimkoaaGreatDoor
open Go.Av

def gcF (den:Int) (ch:List Int):Nat:=Lin.gcds den.natAbs (ch.map Int.natAbs)
theorem gcds_app (d:Nat) (a:List Nat) (x:Nat):Lin.gcds d (a ++ [x])=Nat.gcd (Lin.gcds d a) x:=by simp [Lin.gcds,List.foldl_append]
theorem gcF_next (den:Int) {ch:List Int} {i:Nat} (h:i<ch.length):gcF den (ch.take (i+1))=Nat.gcd (gcF den (ch.take i)) ch[i].natAbs:=by
  unfold gcF
  rw [List.take_succ_eq_append_getElem h,List.map_append]
  exact gcds_app _ _ _
theorem gcF_le (den:Int) (ch:List Int) (h:0<den):gcF den ch≤den.natAbs:=Nat.le_of_dvd (by omega) (Lin.gcds_dvd _ _)
def grI (items l ch:List Int) (den:Int) (k:Nat):Int:=agT items (dfL items l ch den) k items.length
def ckP (items l ch:List Int) (den:Int) (k:Nat):Bool:=decide (0<grI items l ch den k) || (!decide (grI items l ch den k=0) && decide (0<ch.getD k 0))
def ckA (items l ch:List Int) (den:Int):Int × Int:=match (List.range ch.length).find? (ckP items l ch den) with
  | some k=>((k:Int),19)
  | none=>(0,0)
theorem ckA_some {items l ch:List Int} {den:Int} {i:Nat} (h:i<ch.length) (hp:ckP items l ch den i=true) (hn:∀ k,k<i→ckP items l ch den k=false):ckA items l ch den=((i:Int),19):=by
  unfold ckA
  have:(List.range ch.length).find? (ckP items l ch den)=some i:=by
    rw [List.find?_range_eq_some]
    exact ⟨hp,List.mem_range.2 h,fun j hj=>by rw [hn j hj];rfl⟩
  rw [this]
theorem ckA_none {items l ch:List Int} {den:Int} (hn:∀ k,k<ch.length→ckP items l ch den k=false):ckA items l ch den=(0,0):=by
  unfold ckA
  have:(List.range ch.length).find? (ckP items l ch den)=none:=by
    rw [List.find?_eq_none]
    intro x hx
    rw [hn x (List.mem_range.1 hx)];decide
  rw [this]
def cfA (items:List Int) (shifts:Int) (l:List Int) (den:Int) (ch:List Int):Int × Int:=if beE items shifts l den ch ≠ 0 then (0,beE items shifts l den ch) else if gcF den ch ≠ 1 then (0,3) else ckA items l ch den
theorem CheckFit_s (items:List Int) (shifts:Int) (l:List Int) (den:Int) (ch:List Int) (h1:items.length<4000000000000000000) (h2:l.length<4000000000000000000) (h3:ch.length<4000000000000000000) :
    Sound Tryz.prog 37 [tplA items shifts,.sl (ints l),fitA den ch] (.tup [.int .i64 (cfA items shifts l den ch).1,.int .i64 (cfA items shifts l den ch).2]):=by
  refine sound_W f_pulse_CheckFit (Nat.le_of_ble_eq_true rfl) ?_
  have hB:=bothErr_s items shifts l den ch h1 h2 h3
  unfold tplA fitA at hB
  simp only [c_pulse_CheckFit,tplA,fitA,vcV,vcD,Int.reduceEq,Int.reduceNe,Int.reduceLT,Int.reduceLE,Nat.reduceEqDiff,Nat.reduceAdd,reduceIte,reduceCtorEq,Nat.reduceLT,Nat.reduceLeDiff,eq_self,vcP2,Nat.reduceShiftRight,Nat.reduceMod]
  refine callS_of hB ?_
  by_cases hE:beE items shifts l den ch=0
  case neg =>
    have hr:cfA items shifts l den ch=(0,beE items shifts l den ch):=by unfold cfA;rw [if_pos hE]
    simp only [hE,hr,vcV,vcD,Int.reduceEq,Int.reduceNe,Int.reduceLT,Int.reduceLE,Nat.reduceEqDiff,Nat.reduceAdd,reduceIte,reduceCtorEq,Nat.reduceLT,Nat.reduceLeDiff,eq_self,vcP2,Nat.reduceShiftRight,Nat.reduceMod]
  have F:=beE_ok hE
  have hch5:ch.length≤5:=by have:=F.cl;have:=F.s5;omega
  have hdn:den=((gcF den []:Nat):Int):=by
    have:gcF den []=den.natAbs:=rfl
    rw [this];have:=F.db;omega
  simp only [hE,vcV,vcD,Int.reduceEq,Int.reduceNe,Int.reduceLT,Int.reduceLE,Nat.reduceEqDiff,Nat.reduceAdd,reduceIte,reduceCtorEq,Nat.reduceLT,Nat.reduceLeDiff,eq_self,vcP2,Nat.reduceShiftRight,Nat.reduceMod]
  refine W_loop (t:=.mk) (α:=PSigma fun i:Nat=>i≤ch.length) (fun ⟨i,_⟩=>(envOf [(1,.sl (ints l)),(3,.ptr 3 0 0),(5,.ptr 5 0 0),(9,.int .i64 ((gcF den (ch.take i):Nat):Int)),(26,.sl (ints ch)),(27,.int .i64 ch.length),(28,.int .i64 i)],stOf [(3,⟨24,2,[.agg [.sl (ints items),.int .i64 shifts]]⟩),(5,⟨29,2,[.agg [.int .i64 den,.sl (ints ch)]]⟩)])) (fun x=>ch.length - x.1) ⟨0,Nat.zero_le _⟩ ?_ (fun ⟨i,hin⟩=>?_)
  · refine weakX [] (of_decide_eq_true rfl) (of_decide_eq_true rfl) ?_
    (simp only [← hdn,vcW,vcV,vcD,Int.reduceEq,Int.reduceNe,Int.reduceLT,Int.reduceLE,Nat.reduceEqDiff,Nat.reduceAdd,reduceIte,reduceCtorEq,Nat.reduceLT,Nat.reduceLeDiff,eq_self,vcP2,Nat.reduceShiftRight,Nat.reduceMod])
    (repeat' first | exact trivial | (with_reducible first | exact RnB.fxB (ints_fxB _) | rfl | refine And.intro ?_ ?_) | (with_reducible (first | refine RnB.bb ?_ | refine RnB.nb ?_);simp only [vcW,vcV,vcD,Int.reduceEq,Int.reduceNe,Int.reduceLT,Int.reduceLE,Nat.reduceEqDiff,Nat.reduceAdd,reduceIte,reduceCtorEq,Nat.reduceLT,Nat.reduceLeDiff,eq_self,vcP2,Nat.reduceShiftRight,Nat.reduceMod]) | (with_reducible first | refine RnB.ii ?_ | refine RnB.app ?_) | (with_reducible refine RnB.fxB ?_;simp only [vcW,vcV,vcD,Int.reduceEq,Int.reduceNe,Int.reduceLT,Int.reduceLE,Nat.reduceEqDiff,Nat.reduceAdd,reduceIte,reduceCtorEq,Nat.reduceLT,Nat.reduceLeDiff,eq_self,vcP2,Nat.reduceShiftRight,Nat.reduceMod]) | omega)
  · dsimp only at hin ⊢
    have hdb:=F.db
    have hle:=gcF_le den (ch.take i) (by omega)
    by_cases h':i<ch.length
    · have hc1:(i:Int)<ch.length:=by omega
      have hcb:=F.cb _ (List.getElem_mem h')
      have hd:=divisor_s ((gcF den (ch.take i):Nat):Int) ch[i] (by unfold S63;omega) (by unfold S63;omega)
      have hg:((Int.gcd ((gcF den (ch.take i):Nat):Int) ch[i]:Nat):Int)=((gcF den (ch.take (i+1)):Nat):Int):=by
        rw [gcF_next den h'];rfl
      rw [hg] at hd
      simp only [hc1,ints_get ch i h',vcV,vcD,Int.reduceEq,Int.reduceNe,Int.reduceLT,Int.reduceLE,Nat.reduceEqDiff,Nat.reduceAdd,reduceIte,reduceCtorEq,Nat.reduceLT,Nat.reduceLeDiff,eq_self,vcP2,Nat.reduceShiftRight,Nat.reduceMod]
      (repeat (with_reducible refine And.intro ?_ ?_;focus (first | omega | (unfold I64;omega))))
      refine callS_of hd ?_
      simp only [vcV,vcD,Int.reduceEq,Int.reduceNe,Int.reduceLT,Int.reduceLE,Nat.reduceEqDiff,Nat.reduceAdd,reduceIte,reduceCtorEq,Nat.reduceLT,Nat.reduceLeDiff,eq_self,vcP2,Nat.reduceShiftRight,Nat.reduceMod]
      (repeat (with_reducible refine And.intro ?_ ?_;focus (first | omega | (unfold I64;omega))))
      refine ⟨⟨i+1,h'⟩,by simp only;omega,?_⟩
      refine weakX [] (of_decide_eq_true rfl) (of_decide_eq_true rfl) ?_
      (simp only [vcW,vcV,vcD,Int.reduceEq,Int.reduceNe,Int.reduceLT,Int.reduceLE,Nat.reduceEqDiff,Nat.reduceAdd,reduceIte,reduceCtorEq,Nat.reduceLT,Nat.reduceLeDiff,eq_self,vcP2,Nat.reduceShiftRight,Nat.reduceMod])
      (repeat' first | exact trivial | (with_reducible first | exact RnB.fxB (ints_fxB _) | rfl | refine And.intro ?_ ?_) | (with_reducible (first | refine RnB.bb ?_ | refine RnB.nb ?_);simp only [vcW,vcV,vcD,Int.reduceEq,Int.reduceNe,Int.reduceLT,Int.reduceLE,Nat.reduceEqDiff,Nat.reduceAdd,reduceIte,reduceCtorEq,Nat.reduceLT,Nat.reduceLeDiff,eq_self,vcP2,Nat.reduceShiftRight,Nat.reduceMod]) | (with_reducible first | refine RnB.ii ?_ | refine RnB.app ?_) | (with_reducible refine RnB.fxB ?_;simp only [vcW,vcV,vcD,Int.reduceEq,Int.reduceNe,Int.reduceLT,Int.reduceLE,Nat.reduceEqDiff,Nat.reduceAdd,reduceIte,reduceCtorEq,Nat.reduceLT,Nat.reduceLeDiff,eq_self,vcP2,Nat.reduceShiftRight,Nat.reduceMod]) | omega)
    · have hil:i=ch.length:=by omega
      subst hil
      have hc1:¬ (ch.length:Int)<ch.length:=by omega
      rw [List.take_length] at *
      by_cases hG:gcF den ch=1
      case neg =>
        have hG':¬ ((gcF den ch:Nat):Int)=1:=by omega
        have hr:cfA items shifts l den ch=(0,3):=by unfold cfA;rw [if_neg (by omega),if_pos hG]
        simp only [hc1,hG',hr,vcV,vcD,Int.reduceEq,Int.reduceNe,Int.reduceLT,Int.reduceLE,Nat.reduceEqDiff,Nat.reduceAdd,reduceIte,reduceCtorEq,Nat.reduceLT,Nat.reduceLeDiff,eq_self,vcP2,Nat.reduceShiftRight,Nat.reduceMod]
      have hG':((gcF den ch:Nat):Int)=1:=by omega
      have hr:cfA items shifts l den ch=ckA items l ch den:=by unfold cfA;rw [if_neg (by omega),if_neg (by omega)]
      rw [hr]
      have hD:=differences_s F
      unfold tplA fitA at hD
      simp only [hc1,hG',vcV,vcD,Int.reduceEq,Int.reduceNe,Int.reduceLT,Int.reduceLE,Nat.reduceEqDiff,Nat.reduceAdd,reduceIte,reduceCtorEq,Nat.reduceLT,Nat.reduceLeDiff,eq_self,vcP2,Nat.reduceShiftRight,Nat.reduceMod]
      refine callS_of hD ?_
      simp only [vcV,vcD,Int.reduceEq,Int.reduceNe,Int.reduceLT,Int.reduceLE,Nat.reduceEqDiff,Nat.reduceAdd,reduceIte,reduceCtorEq,Nat.reduceLT,Nat.reduceLeDiff,eq_self,vcP2,Nat.reduceShiftRight,Nat.reduceMod]
      refine W_loop (t:=.mk) (α:=PSigma fun i:Nat=>i≤ch.length∧∀ k,k<i→ckP items l ch den k=false) (fun ⟨i,_⟩=>(envOf [(3,.ptr 3 0 0),(12,.sl (ints (dfL items l ch den))),(43,.sl (ints ch)),(44,.int .i64 ch.length),(45,.int .i64 i)],stOf [(3,⟨24,2,[.agg [.sl (ints items),.int .i64 shifts]]⟩)])) (fun x=>ch.length - x.1) ⟨0,Nat.zero_le _,fun k hk=>absurd hk (Nat.not_lt_zero _)⟩ ?_ (fun ⟨i,hin,hno⟩=>?_)
      · refine weakX [] (of_decide_eq_true rfl) (of_decide_eq_true rfl) ?_
        (simp only [vcW,vcV,vcD,Int.reduceEq,Int.reduceNe,Int.reduceLT,Int.reduceLE,Nat.reduceEqDiff,Nat.reduceAdd,reduceIte,reduceCtorEq,Nat.reduceLT,Nat.reduceLeDiff,eq_self,vcP2,Nat.reduceShiftRight,Nat.reduceMod])
        (repeat' first | exact trivial | (with_reducible first | exact RnB.fxB (ints_fxB _) | rfl | refine And.intro ?_ ?_) | (with_reducible (first | refine RnB.bb ?_ | refine RnB.nb ?_);simp only [vcW,vcV,vcD,Int.reduceEq,Int.reduceNe,Int.reduceLT,Int.reduceLE,Nat.reduceEqDiff,Nat.reduceAdd,reduceIte,reduceCtorEq,Nat.reduceLT,Nat.reduceLeDiff,eq_self,vcP2,Nat.reduceShiftRight,Nat.reduceMod]) | (with_reducible first | refine RnB.ii ?_ | refine RnB.app ?_) | (with_reducible refine RnB.fxB ?_;simp only [vcW,vcV,vcD,Int.reduceEq,Int.reduceNe,Int.reduceLT,Int.reduceLE,Nat.reduceEqDiff,Nat.reduceAdd,reduceIte,reduceCtorEq,Nat.reduceLT,Nat.reduceLeDiff,eq_self,vcP2,Nat.reduceShiftRight,Nat.reduceMod]) | omega)
      · dsimp only at hin ⊢
        by_cases h':i<ch.length
        · have hc2:(i:Int)<ch.length:=by omega
          have hag:=against_s (items:=items) (l:=dfL items l ch den) shifts (k:=i) (M:=10500000000000000) F.i6 (by omega) F.ib F.dfb (by have:=F.mlen;have:=F.ll;have:=F.cl;have:=F.i1;rw [dfL_len];omega) (by omega)
          have hgd:ch.getD i 0=ch[i]:=getD_at h'
          unfold tplA at hag
          simp only [hc2,ints_get ch i h',vcV,vcD,Int.reduceEq,Int.reduceNe,Int.reduceLT,Int.reduceLE,Nat.reduceEqDiff,Nat.reduceAdd,reduceIte,reduceCtorEq,Nat.reduceLT,Nat.reduceLeDiff,eq_self,vcP2,Nat.reduceShiftRight,Nat.reduceMod]
          (repeat (with_reducible refine And.intro ?_ ?_;focus (first | omega | (unfold I64;omega))))
          refine callS_of hag ?_
          have hgi:agT items (dfL items l ch den) i items.length=grI items l ch den i:=rfl
          rw [hgi]
          by_cases q1:0<grI items l ch den i
          · have hp:ckP items l ch den i=true:=by unfold ckP;simp [q1]
            have ha:=ckA_some h' hp hno
            simp only [q1,ha,vcV,vcD,Int.reduceEq,Int.reduceNe,Int.reduceLT,Int.reduceLE,Nat.reduceEqDiff,Nat.reduceAdd,reduceIte,reduceCtorEq,Nat.reduceLT,Nat.reduceLeDiff,eq_self,vcP2,Nat.reduceShiftRight,Nat.reduceMod]
          · by_cases q2:grI items l ch den i=0
            · have hp:ckP items l ch den i=false:=by unfold ckP;simp [q1,q2]
              simp only [q1,q2,vcV,vcD,Int.reduceEq,Int.reduceNe,Int.reduceLT,Int.reduceLE,Nat.reduceEqDiff,Nat.reduceAdd,reduceIte,reduceCtorEq,Nat.reduceLT,Nat.reduceLeDiff,eq_self,vcP2,Nat.reduceShiftRight,Nat.reduceMod]
              (repeat (with_reducible refine And.intro ?_ ?_;focus (first | omega | (unfold I64;omega))))
              refine ⟨⟨i+1,h',fun k hk=>?_⟩,by simp only;omega,?_⟩
              · by_cases e:k=i
                · rw [e];exact hp
                · exact hno k (by omega)
              · refine weakX [] (of_decide_eq_true rfl) (of_decide_eq_true rfl) ?_
                (simp only [vcW,vcV,vcD,Int.reduceEq,Int.reduceNe,Int.reduceLT,Int.reduceLE,Nat.reduceEqDiff,Nat.reduceAdd,reduceIte,reduceCtorEq,Nat.reduceLT,Nat.reduceLeDiff,eq_self,vcP2,Nat.reduceShiftRight,Nat.reduceMod])
                (repeat' first | exact trivial | (with_reducible first | exact RnB.fxB (ints_fxB _) | rfl | refine And.intro ?_ ?_) | (with_reducible (first | refine RnB.bb ?_ | refine RnB.nb ?_);simp only [vcW,vcV,vcD,Int.reduceEq,Int.reduceNe,Int.reduceLT,Int.reduceLE,Nat.reduceEqDiff,Nat.reduceAdd,reduceIte,reduceCtorEq,Nat.reduceLT,Nat.reduceLeDiff,eq_self,vcP2,Nat.reduceShiftRight,Nat.reduceMod]) | (with_reducible first | refine RnB.ii ?_ | refine RnB.app ?_) | (with_reducible refine RnB.fxB ?_;simp only [vcW,vcV,vcD,Int.reduceEq,Int.reduceNe,Int.reduceLT,Int.reduceLE,Nat.reduceEqDiff,Nat.reduceAdd,reduceIte,reduceCtorEq,Nat.reduceLT,Nat.reduceLeDiff,eq_self,vcP2,Nat.reduceShiftRight,Nat.reduceMod]) | omega)
            · by_cases q3:0<ch[i]
              · have hp:ckP items l ch den i=true:=by unfold ckP;rw [hgd];simp [q2,q3]
                have ha:=ckA_some h' hp hno
                simp only [q1,q2,q3,ha,vcV,vcD,Int.reduceEq,Int.reduceNe,Int.reduceLT,Int.reduceLE,Nat.reduceEqDiff,Nat.reduceAdd,reduceIte,reduceCtorEq,Nat.reduceLT,Nat.reduceLeDiff,eq_self,vcP2,Nat.reduceShiftRight,Nat.reduceMod]
              · have hp:ckP items l ch den i=false:=by unfold ckP;rw [hgd];simp [q1,q3]
                simp only [q1,q2,q3,vcV,vcD,Int.reduceEq,Int.reduceNe,Int.reduceLT,Int.reduceLE,Nat.reduceEqDiff,Nat.reduceAdd,reduceIte,reduceCtorEq,Nat.reduceLT,Nat.reduceLeDiff,eq_self,vcP2,Nat.reduceShiftRight,Nat.reduceMod]
                (repeat (with_reducible refine And.intro ?_ ?_;focus (first | omega | (unfold I64;omega))))
                refine ⟨⟨i+1,h',fun k hk=>?_⟩,by simp only;omega,?_⟩
                · by_cases e:k=i
                  · rw [e];exact hp
                  · exact hno k (by omega)
                · refine weakX [] (of_decide_eq_true rfl) (of_decide_eq_true rfl) ?_
                  (simp only [vcW,vcV,vcD,Int.reduceEq,Int.reduceNe,Int.reduceLT,Int.reduceLE,Nat.reduceEqDiff,Nat.reduceAdd,reduceIte,reduceCtorEq,Nat.reduceLT,Nat.reduceLeDiff,eq_self,vcP2,Nat.reduceShiftRight,Nat.reduceMod])
                  (repeat' first | exact trivial | (with_reducible first | exact RnB.fxB (ints_fxB _) | rfl | refine And.intro ?_ ?_) | (with_reducible (first | refine RnB.bb ?_ | refine RnB.nb ?_);simp only [vcW,vcV,vcD,Int.reduceEq,Int.reduceNe,Int.reduceLT,Int.reduceLE,Nat.reduceEqDiff,Nat.reduceAdd,reduceIte,reduceCtorEq,Nat.reduceLT,Nat.reduceLeDiff,eq_self,vcP2,Nat.reduceShiftRight,Nat.reduceMod]) | (with_reducible first | refine RnB.ii ?_ | refine RnB.app ?_) | (with_reducible refine RnB.fxB ?_;simp only [vcW,vcV,vcD,Int.reduceEq,Int.reduceNe,Int.reduceLT,Int.reduceLE,Nat.reduceEqDiff,Nat.reduceAdd,reduceIte,reduceCtorEq,Nat.reduceLT,Nat.reduceLeDiff,eq_self,vcP2,Nat.reduceShiftRight,Nat.reduceMod]) | omega)
        · have hil:i=ch.length:=by omega
          subst hil
          have hc2:¬ (ch.length:Int)<ch.length:=by omega
          have ha:=ckA_none hno
          simp only [hc2,ha,vcV,vcD,Int.reduceEq,Int.reduceNe,Int.reduceLT,Int.reduceLE,Nat.reduceEqDiff,Nat.reduceAdd,reduceIte,reduceCtorEq,Nat.reduceLT,Nat.reduceLeDiff,eq_self,vcP2,Nat.reduceShiftRight,Nat.reduceMod]
end Go.Proofs.YtgmpcbpmnimkoaaGreatDoor

/- The contract of bits.Div64,the first digit and the whole. By an AI agent;nothing here is trusted. -/
namespace Go.Proofs.YtgmpcbpmnimkoaaGreatDoor
open Go.Av

end Go.Proofs.YtgmpcbpmnimkoaaGreatDoor

/- Numerals,in plain Lean. By an AI agent;nothing here is trusted. -/
namespace Go.Lin
open Go.Lib

end Go.Lin

/- Numerals and what they spell,in plain Lean. By an AI agent;nothing here is trusted. -/
namespace Go.Lin
open Go.Lib

def val (l:List UInt8):Nat:=l.foldl (fun a c=>a * 10+(c.toNat - 48)) 0
end Go.Lin

/- Contracts: digits of a number of 128 bits,the error of a fit,what is kept. By an AI agent;nothing here is trusted. -/
namespace Go.Proofs.YtgmpcbpmnimkoaaGreatDoor
open Go.Av

end Go.Proofs.YtgmpcbpmnimkoaaGreatDoor

/- Contracts: the error of a fit,what is kept. By an AI agent;nothing here is trusted. -/
namespace Go.Proofs.YtgmpcbpmnimkoaaGreatDoor
open Go.Av

def sqN:List Int→Nat
  | []=>0
  | x :: l=>x.natAbs * x.natAbs+sqN l
theorem sqN_app:∀ (l m:List Int),sqN (l ++ m)=sqN l+sqN m
  | [],m=>by simp [sqN]
  | x :: l,m=>by rw [List.cons_append,sqN,sqN,sqN_app l m];omega
theorem sqN_next (l:List Int) {i:Nat} (h:i<l.length):sqN (l.take (i+1))=sqN (l.take i)+l[i].natAbs * l[i].natAbs:=by
  rw [List.take_succ_eq_append_getElem h,sqN_app];simp [sqN]
theorem sqN_bd:∀ {l:List Int},(∀ x ∈ l, -10500000000000000≤x∧x≤10500000000000000)→sqN l≤l.length * 110250000000000000000000000000000
  | [],_=>by simp [sqN]
  | x :: l,h=>by
    have h1:=sqN_bd (l:=l) fun y hy=>h y (by simp [hy])
    have h2:=h x (by simp)
    have h3:x.natAbs * x.natAbs≤10500000000000000 * 10500000000000000:=Nat.mul_le_mul (by omega) (by omega)
    rw [sqN,List.length_cons,Nat.add_mul]
    omega
end Go.Proofs.YtgmpcbpmnimkoaaGreatDoor

/- Contracts of the reference: templates,items,the model,differences. By an AI agent;nothing here is trusted. -/
namespace Go.Proofs.YtgmpcbpmnimkoaaGreatDoor
open Go.Av

theorem CopyTemplate_s (items:List Int) (shifts:Int) (hl:items.length≤1000000000):Sound Tryz.prog 15 [tplA items shifts] (tplA items shifts):=by
  refine sound_W f_ref02_CopyTemplate (Nat.le_of_ble_eq_true rfl) ?_
  simp only [c_ref02_CopyTemplate,tplA,vcV,vcD,Int.reduceEq,Int.reduceNe,Int.reduceLT,Int.reduceLE,Nat.reduceEqDiff,Nat.reduceAdd,reduceIte,reduceCtorEq,Nat.reduceLT,Nat.reduceLeDiff,eq_self,vcP2,Nat.reduceShiftRight,Nat.reduceMod]
  refine callS_of (CopyInts_s items hl) ?_
  simp only [vcV,vcD,Int.reduceEq,Int.reduceNe,Int.reduceLT,Int.reduceLE,Nat.reduceEqDiff,Nat.reduceAdd,reduceIte,reduceCtorEq,Nat.reduceLT,Nat.reduceLeDiff,eq_self,vcP2,Nat.reduceShiftRight,Nat.reduceMod]
theorem TemplateErr_s (items:List Int) (shifts:Int):Sound Tryz.prog 32 [tplA items shifts] (.int .i64 (teE items shifts)):=by
  refine sound_W f_ref02_TemplateErr (Nat.le_of_ble_eq_true rfl) ?_
  by_cases h0:items.length=0
  · have he:teE items shifts=10:=by unfold teE;rw [if_pos h0]
    have h0':(items.length:Int)=0:=by omega
    rw [he]
    simp only [c_ref02_TemplateErr,tplA,h0',vcV,vcD,Int.reduceEq,Int.reduceNe,Int.reduceLT,Int.reduceLE,Nat.reduceEqDiff,Nat.reduceAdd,reduceIte,reduceCtorEq,Nat.reduceLT,Nat.reduceLeDiff,eq_self,vcP2,Nat.reduceShiftRight,Nat.reduceMod]
  have h0':¬ (items.length:Int)=0:=by omega
  by_cases h6:6<items.length
  · have he:teE items shifts=8:=by unfold teE;rw [if_neg h0,if_pos h6]
    have h6':(6:Int)<items.length:=by omega
    rw [he]
    simp only [c_ref02_TemplateErr,tplA,h0',h6',vcV,vcD,Int.reduceEq,Int.reduceNe,Int.reduceLT,Int.reduceLE,Nat.reduceEqDiff,Nat.reduceAdd,reduceIte,reduceCtorEq,Nat.reduceLT,Nat.reduceLeDiff,eq_self,vcP2,Nat.reduceShiftRight,Nat.reduceMod]
  have h6':¬ (6:Int)<items.length:=by omega
  simp only [c_ref02_TemplateErr,tplA,h0',h6',vcV,vcD,Int.reduceEq,Int.reduceNe,Int.reduceLT,Int.reduceLE,Nat.reduceEqDiff,Nat.reduceAdd,reduceIte,reduceCtorEq,Nat.reduceLT,Nat.reduceLeDiff,eq_self,vcP2,Nat.reduceShiftRight,Nat.reduceMod]
  refine W_loop (t:=.mk) (α:=PSigma fun i:Nat=>i≤items.length∧(items.take i).all itm=true) (fun ⟨i,_⟩=>(envOf [(1,.ptr 1 0 0),(3,.bool ((items.take i).all fun n=>decide (n=0))),(4,.int .i64 i)],stOf [(1,⟨24,2,[.agg [.sl (ints items),.int .i64 shifts]]⟩)])) (fun p=>items.length - p.1) ⟨0,Nat.zero_le _,rfl⟩ ?_ (fun ⟨i,hi,hn⟩=>?_)
  · refine weakX [] (of_decide_eq_true rfl) (of_decide_eq_true rfl) ?_
    (simp only [vcW,vcV,vcD,Int.reduceEq,Int.reduceNe,Int.reduceLT,Int.reduceLE,Nat.reduceEqDiff,Nat.reduceAdd,reduceIte,reduceCtorEq,Nat.reduceLT,Nat.reduceLeDiff,eq_self,vcP2,Nat.reduceShiftRight,Nat.reduceMod])
    (repeat' first | exact trivial | (with_reducible first | exact RnB.fxB (ints_fxB _) | rfl | refine And.intro ?_ ?_) | (with_reducible (first | refine RnB.bb ?_ | refine RnB.nb ?_);simp only [vcW,vcV,vcD,Int.reduceEq,Int.reduceNe,Int.reduceLT,Int.reduceLE,Nat.reduceEqDiff,Nat.reduceAdd,reduceIte,reduceCtorEq,Nat.reduceLT,Nat.reduceLeDiff,eq_self,vcP2,Nat.reduceShiftRight,Nat.reduceMod]) | (with_reducible first | refine RnB.ii ?_ | refine RnB.app ?_) | (with_reducible refine RnB.fxB ?_;simp only [vcW,vcV,vcD,Int.reduceEq,Int.reduceNe,Int.reduceLT,Int.reduceLE,Nat.reduceEqDiff,Nat.reduceAdd,reduceIte,reduceCtorEq,Nat.reduceLT,Nat.reduceLeDiff,eq_self,vcP2,Nat.reduceShiftRight,Nat.reduceMod]) | omega)
  · dsimp only at hi hn ⊢
    by_cases h':i<items.length
    · have h3:(i:Int)<items.length:=by omega
      have ht:∀ p:Int→Bool,(items.take (i+1)).all p=((items.take i).all p && p items[i]):=fun p=>by rw [List.take_succ_eq_append_getElem h',List.all_append];simp
      by_cases hw : -100≤items[i]∧items[i]≤100
      · have hitm:itm items[i]=true:=by unfold itm;simpa using hw
        cases hz:(items.take i).all fun n=>decide (n=0)
        all_goals
          have hz1:=ht fun n=>decide (n=0)
          rw [hz] at hz1
          try rw [Bool.true_and] at hz1
          try rw [Bool.false_and] at hz1
          simp only [h3,ints_get items i h',vcV,vcD,Int.reduceEq,Int.reduceNe,Int.reduceLT,Int.reduceLE,Nat.reduceEqDiff,Nat.reduceAdd,reduceIte,reduceCtorEq,Nat.reduceLT,Nat.reduceLeDiff,eq_self,vcP2,Nat.reduceShiftRight,Nat.reduceMod]
          (repeat (with_reducible refine And.intro ?_ ?_;focus (first | omega | (unfold I64;omega))))
          refine callS_of (Within_s _ _ _) ?_
          simp only [hw,ints_get items i h',vcV,vcD,Int.reduceEq,Int.reduceNe,Int.reduceLT,Int.reduceLE,Nat.reduceEqDiff,Nat.reduceAdd,reduceIte,reduceCtorEq,Nat.reduceLT,Nat.reduceLeDiff,eq_self,vcP2,Nat.reduceShiftRight,Nat.reduceMod]
          (repeat (with_reducible refine And.intro ?_ ?_;focus (first | omega | (unfold I64;omega))))
          refine ⟨⟨i+1,h',by rw [ht,hn,hitm];rfl⟩,by simp only;omega,?_⟩
          refine weakX [] (of_decide_eq_true rfl) (of_decide_eq_true rfl) ?_
          (simp only [hz1,vcW,vcV,vcD,Int.reduceEq,Int.reduceNe,Int.reduceLT,Int.reduceLE,Nat.reduceEqDiff,Nat.reduceAdd,reduceIte,reduceCtorEq,Nat.reduceLT,Nat.reduceLeDiff,eq_self,vcP2,Nat.reduceShiftRight,Nat.reduceMod])
          (repeat' first | exact trivial | (with_reducible first | exact RnB.fxB (ints_fxB _) | rfl | refine And.intro ?_ ?_) | (with_reducible (first | refine RnB.bb ?_ | refine RnB.nb ?_);simp only [vcW,vcV,vcD,Int.reduceEq,Int.reduceNe,Int.reduceLT,Int.reduceLE,Nat.reduceEqDiff,Nat.reduceAdd,reduceIte,reduceCtorEq,Nat.reduceLT,Nat.reduceLeDiff,eq_self,vcP2,Nat.reduceShiftRight,Nat.reduceMod]) | (with_reducible first | refine RnB.ii ?_ | refine RnB.app ?_) | (with_reducible refine RnB.fxB ?_;simp only [vcW,vcV,vcD,Int.reduceEq,Int.reduceNe,Int.reduceLT,Int.reduceLE,Nat.reduceEqDiff,Nat.reduceAdd,reduceIte,reduceCtorEq,Nat.reduceLT,Nat.reduceLeDiff,eq_self,vcP2,Nat.reduceShiftRight,Nat.reduceMod]) | omega)
      · have hitm:itm items[i]=false:=by unfold itm;simpa using hw
        have he:teE items shifts=2:=by
          unfold teE
          rw [if_neg h0,if_neg h6,if_pos]
          rw [List.all_eq_false]
          exact ⟨items[i],List.getElem_mem h',by rw [hitm];decide⟩
        simp only [h3,ints_get items i h',vcV,vcD,Int.reduceEq,Int.reduceNe,Int.reduceLT,Int.reduceLE,Nat.reduceEqDiff,Nat.reduceAdd,reduceIte,reduceCtorEq,Nat.reduceLT,Nat.reduceLeDiff,eq_self,vcP2,Nat.reduceShiftRight,Nat.reduceMod]
        (repeat (with_reducible refine And.intro ?_ ?_;focus (first | omega | (unfold I64;omega))))
        refine callS_of (Within_s _ _ _) ?_
        simp only [hw,he,vcV,vcD,Int.reduceEq,Int.reduceNe,Int.reduceLT,Int.reduceLE,Nat.reduceEqDiff,Nat.reduceAdd,reduceIte,reduceCtorEq,Nat.reduceLT,Nat.reduceLeDiff,eq_self,vcP2,Nat.reduceShiftRight,Nat.reduceMod]
    · have h3:¬ (i:Int)<items.length:=by omega
      have hil:i=items.length:=by omega
      subst hil
      rw [List.take_length] at *
      cases hz:items.all fun n=>decide (n=0)
      · simp only [h3,vcV,vcD,Int.reduceEq,Int.reduceNe,Int.reduceLT,Int.reduceLE,Nat.reduceEqDiff,Nat.reduceAdd,reduceIte,reduceCtorEq,Nat.reduceLT,Nat.reduceLeDiff,eq_self,vcP2,Nat.reduceShiftRight,Nat.reduceMod]
        refine callS_of (Within_s _ _ _) ?_
        by_cases hs:1≤shifts∧shifts≤5
        · have he:teE items shifts=0:=by unfold teE;rw [if_neg h0,if_neg h6,if_neg (by rw [hn];decide),if_neg (by rw [hz];decide),if_pos hs]
          simp only [hs,he,vcV,vcD,Int.reduceEq,Int.reduceNe,Int.reduceLT,Int.reduceLE,Nat.reduceEqDiff,Nat.reduceAdd,reduceIte,reduceCtorEq,Nat.reduceLT,Nat.reduceLeDiff,eq_self,vcP2,Nat.reduceShiftRight,Nat.reduceMod]
        · have he:teE items shifts=2:=by unfold teE;rw [if_neg h0,if_neg h6,if_neg (by rw [hn];decide),if_neg (by rw [hz];decide),if_neg hs]
          simp only [hs,he,vcV,vcD,Int.reduceEq,Int.reduceNe,Int.reduceLT,Int.reduceLE,Nat.reduceEqDiff,Nat.reduceAdd,reduceIte,reduceCtorEq,Nat.reduceLT,Nat.reduceLeDiff,eq_self,vcP2,Nat.reduceShiftRight,Nat.reduceMod]
      · have he:teE items shifts=11:=by unfold teE;rw [if_neg h0,if_neg h6,if_neg (by rw [hn];decide),if_pos hz]
        simp only [h3,he,vcV,vcD,Int.reduceEq,Int.reduceNe,Int.reduceLT,Int.reduceLE,Nat.reduceEqDiff,Nat.reduceAdd,reduceIte,reduceCtorEq,Nat.reduceLT,Nat.reduceLeDiff,eq_self,vcP2,Nat.reduceShiftRight,Nat.reduceMod]
theorem FittedErr_s (items:List Int) (shifts:Int) (l:List Int):Sound Tryz.prog 12 [tplA items shifts,.sl (ints l)] (.int .i64 (fdE items shifts l)):=by
  refine sound_W f_ref02_FittedErr (Nat.le_of_ble_eq_true rfl) ?_
  have hT:=TemplateErr_s items shifts
  unfold tplA at hT
  simp only [c_ref02_FittedErr,tplA,vcV,vcD,Int.reduceEq,Int.reduceNe,Int.reduceLT,Int.reduceLE,Nat.reduceEqDiff,Nat.reduceAdd,reduceIte,reduceCtorEq,Nat.reduceLT,Nat.reduceLeDiff,eq_self,vcP2,Nat.reduceShiftRight,Nat.reduceMod]
  refine callS_of hT ?_
  by_cases h1:teE items shifts=0
  case neg =>
    have he:fdE items shifts l=teE items shifts:=by unfold fdE;rw [if_pos h1]
    simp only [h1,he,vcV,vcD,Int.reduceEq,Int.reduceNe,Int.reduceLT,Int.reduceLE,Nat.reduceEqDiff,Nat.reduceAdd,reduceIte,reduceCtorEq,Nat.reduceLT,Nat.reduceLeDiff,eq_self,vcP2,Nat.reduceShiftRight,Nat.reduceMod]
  simp only [h1,vcV,vcD,Int.reduceEq,Int.reduceNe,Int.reduceLT,Int.reduceLE,Nat.reduceEqDiff,Nat.reduceAdd,reduceIte,reduceCtorEq,Nat.reduceLT,Nat.reduceLeDiff,eq_self,vcP2,Nat.reduceShiftRight,Nat.reduceMod]
  refine callS_of (SamplesErr_s l) ?_
  by_cases h2:smE l=0
  case neg =>
    have he:fdE items shifts l=smE l:=by unfold fdE;rw [if_neg (by omega),if_pos h2]
    simp only [h2,he,vcV,vcD,Int.reduceEq,Int.reduceNe,Int.reduceLT,Int.reduceLE,Nat.reduceEqDiff,Nat.reduceAdd,reduceIte,reduceCtorEq,Nat.reduceLT,Nat.reduceLeDiff,eq_self,vcP2,Nat.reduceShiftRight,Nat.reduceMod]
  obtain ⟨⟨a1,a2⟩,_,_,a3⟩:=teE_ok h1
  by_cases h3:(l.length:Int)=shifts+items.length - 1
  · have he:fdE items shifts l=0:=by unfold fdE;rw [if_neg (by omega),if_neg (by omega),if_pos h3]
    simp only [h2,← h3,he,vcV,vcD,Int.reduceEq,Int.reduceNe,Int.reduceLT,Int.reduceLE,Nat.reduceEqDiff,Nat.reduceAdd,reduceIte,reduceCtorEq,Nat.reduceLT,Nat.reduceLeDiff,eq_self,vcP2,Nat.reduceShiftRight,Nat.reduceMod]
    (repeat (with_reducible refine And.intro ?_ ?_;focus (first | omega | (unfold I64;omega))))
    all_goals (unfold I64;omega)
  · have he:fdE items shifts l=13:=by unfold fdE;rw [if_neg (by omega),if_neg (by omega),if_neg h3]
    simp only [h2,h3,he,vcV,vcD,Int.reduceEq,Int.reduceNe,Int.reduceLT,Int.reduceLE,Nat.reduceEqDiff,Nat.reduceAdd,reduceIte,reduceCtorEq,Nat.reduceLT,Nat.reduceLeDiff,eq_self,vcP2,Nat.reduceShiftRight,Nat.reduceMod]
    (repeat (with_reducible refine And.intro ?_ ?_;focus (first | omega | (unfold I64;omega))))
    all_goals (unfold I64;omega)

def itI (items:List Int) (z:Int):Int:=if 0≤z∧z≤(items.length:Int) - 1 then items.getD z.toNat 0 else 0
theorem itI_nat (items:List Int) (n k:Nat):itI items ((n:Int) - k)=Lin.itm items n k:=by
  unfold itI Lin.itm
  by_cases h:k≤n∧n - k<items.length
  · rw [if_pos h,if_pos (by omega)];congr 1;omega
  · rw [if_neg h,if_neg (by omega)]
theorem item_s (items:List Int) (shifts z:Int) (hl:items.length<1000000):Sound Tryz.prog 97 [tplA items shifts,.int .i64 z] (.int .i64 (itI items z)):=by
  refine sound_W f_ref02_item (Nat.le_of_ble_eq_true rfl) ?_
  simp only [c_ref02_item,tplA,vcV,vcD,Int.reduceEq,Int.reduceNe,Int.reduceLT,Int.reduceLE,Nat.reduceEqDiff,Nat.reduceAdd,reduceIte,reduceCtorEq,Nat.reduceLT,Nat.reduceLeDiff,eq_self,vcP2,Nat.reduceShiftRight,Nat.reduceMod]
  (repeat (with_reducible refine And.intro ?_ ?_;focus (first | omega | (unfold I64;omega))))
  refine callS_of (Within_s _ _ _) ?_
  by_cases h:0≤z∧z≤(items.length:Int) - 1
  · have hz:z.toNat<items.length:=by omega
    have he:itI items z=items[z.toNat]:=by unfold itI;rw [if_pos h,getD_at hz]
    simp only [h,ints_get items z.toNat hz,he,vcV,vcD,Int.reduceEq,Int.reduceNe,Int.reduceLT,Int.reduceLE,Nat.reduceEqDiff,Nat.reduceAdd,reduceIte,reduceCtorEq,Nat.reduceLT,Nat.reduceLeDiff,eq_self,vcP2,Nat.reduceShiftRight,Nat.reduceMod]
  · have he:itI items z=0:=by unfold itI;rw [if_neg h]
    simp only [h,he,vcV,vcD,Int.reduceEq,Int.reduceNe,Int.reduceLT,Int.reduceLE,Nat.reduceEqDiff,Nat.reduceAdd,reduceIte,reduceCtorEq,Nat.reduceLT,Nat.reduceLeDiff,eq_self,vcP2,Nat.reduceShiftRight,Nat.reduceMod]
end Go.Proofs.YtgmpcbpmnimkoaaGreatDoor

/- Contracts of the reference: the model,differences,the accepted fit,squares. By an AI agent;nothing here is trusted. -/
namespace Go.Proofs.YtgmpcbpmnimkoaaGreatDoor
open Go.Av

theorem mdT_itm (items ch:List Int) (n k:Nat):mdT items ch n (k+1)=mdT items ch n k+ch.getD k 0 * Lin.itm items n k:=by
  rw [mdT]
  unfold Lin.itm
  split
  · rfl
  · rw [Int.mul_zero]
theorem itm_bd {items:List Int} (hi:∀ x ∈ items, -100≤x∧x≤100) (n k:Nat) : -100≤Lin.itm items n k∧Lin.itm items n k≤100:=by
  unfold Lin.itm
  split
  · exact it_bd hi _
  · omega
theorem itm_lo {items:List Int} {n k:Nat} (h:n<k):Lin.itm items n k=0:=by unfold Lin.itm;rw [if_neg (by omega)]
theorem itm_hi {items:List Int} {n k:Nat} (h:k+items.length≤n):Lin.itm items n k=0:=by unfold Lin.itm;rw [if_neg (by omega)]
theorem ag_sum (items l:List Int) (k:Nat):∀ N,Lin.smI N (fun n=>l.getD n 0 * Lin.itm items n k)=if N≤k then 0 else if N≤k+items.length then agT items l k (N - k) else agT items l k items.length
  | 0=>by rw [if_pos (by omega)];rfl
  | N+1=>by
    rw [Lin.smI,ag_sum items l k N]
    by_cases h1:N<k
    · rw [if_pos (by omega),if_pos (by omega),itm_lo h1];omega
    · by_cases h2:N<k+items.length
      · rw [if_neg (show ¬ N+1≤k by omega),if_pos (show N+1≤k+items.length by omega),show N+1 - k=(N - k)+1 by omega,agT]
        have e:l.getD N 0 * Lin.itm items N k=items.getD (N - k) 0 * l.getD (k+(N - k)) 0:=by
          unfold Lin.itm;rw [if_pos ⟨by omega,by omega⟩,Int.mul_comm,show k+(N - k)=N by omega]
        rw [e]
        congr 1
        by_cases h3:N≤k
        · rw [if_pos h3,show N - k=0 by omega];rfl
        · rw [if_neg h3,if_pos (by omega)]
      · rw [if_neg (show ¬ N+1≤k by omega),if_neg (show ¬ N+1≤k+items.length by omega),itm_hi (by omega),Int.mul_zero,Int.add_zero]
        by_cases h3:N≤k
        · have:items.length=0:=by omega
          rw [if_pos h3,this];rfl
        · rw [if_neg h3]
          by_cases h4:N≤k+items.length
          · rw [if_pos h4];congr 1;omega
          · rw [if_neg h4]
theorem mdA_eq (items ch:List Int):mdA items ch=(List.range (mdA items ch).length).map fun n=>mdT items ch n ch.length:=by
  apply List.ext_getElem
  · simp
  · intro n h1 h2;rw [mdA_get];simp
def mdU (items ch:List Int) (n:Nat):List Int:=(List.range n).map fun n=>mdT items ch n ch.length
theorem mdU_succ (items ch:List Int) (n:Nat):mdU items ch (n+1)=mdU items ch n ++ [mdT items ch n ch.length]:=by unfold mdU;rw [List.range_succ,List.map_append];rfl
theorem mdU_len (items ch:List Int) (n:Nat):(mdU items ch n).length=n:=by simp [mdU]
set_option maxHeartbeats 2000000 in
theorem Model_o {items ch:List Int} {shifts:Int} {C:Int} (h1:1≤items.length) (h6:items.length≤6) (hs:(ch.length:Int)=shifts) (h8:1≤ch.length∧ch.length≤8) (hC:0≤C∧C≤1000000000000) (hi:∀ x ∈ items, -100≤x∧x≤100) (hc:∀ x ∈ ch, -C≤x∧x≤C) :
    SoundO Tryz.prog 18 [tplA items shifts,.sl (ints ch)] 3 1 (ints (mdA items ch)):=by
  refine soundO_W f_ref02_Model (Nat.le_of_ble_eq_true rfl) (by decide) ?_
  subst hs
  have hmax:=maxLen_big
  have hb:∀ n k:Nat,k≤8 → -900000000000000≤mdT items ch n k∧mdT items ch n k≤900000000000000:=fun n k hk=>by
    have h:=mdT_bd hC.1 hi hc n k
    have h2:100 * C * (k:Int)≤100000000000000 * 8:=Int.mul_le_mul (by omega) (by omega) (by omega) (by omega)
    omega
  obtain ⟨M,hM⟩:∃ M,M=ch.length+items.length - 1:=⟨_,rfl⟩
  have hMi:(ch.length:Int)+items.length - 1=(M:Int):=by omega
  simp only [c_ref02_Model,tplA,vcV,vcD,Int.reduceEq,Int.reduceNe,Int.reduceLT,Int.reduceLE,Nat.reduceEqDiff,Nat.reduceAdd,reduceIte,reduceCtorEq,Nat.reduceLT,Nat.reduceLeDiff,eq_self,vcP2,Nat.reduceShiftRight,Nat.reduceMod]
  refine W_loop (t:=.mk) (α:=PSigma fun i:Nat=>i≤M) (fun ⟨i,_⟩=>(envOf [(1,.sl (ints ch)),(2,.ptr 2 0 0),(5,.buf 100 i),(6,.int .i64 i)],stOf [(2,⟨24,2,[.agg [.sl (ints items),.int .i64 ch.length]]⟩),(100,⟨3,1,ints (mdU items ch i)⟩)])) (fun x=>M - x.1) ⟨0,Nat.zero_le _⟩ ?_ (fun ⟨i,hin⟩=>?_)
  · have z:ints (mdU items ch 0)=[]:=rfl
    refine weakX [(100,none)] (of_decide_eq_true rfl) (of_decide_eq_true rfl) ?_
    (simp only [z,vcW,vcV,vcD,Int.reduceEq,Int.reduceNe,Int.reduceLT,Int.reduceLE,Nat.reduceEqDiff,Nat.reduceAdd,reduceIte,reduceCtorEq,Nat.reduceLT,Nat.reduceLeDiff,eq_self,vcP2,Nat.reduceShiftRight,Nat.reduceMod])
    (repeat' first | exact trivial | (with_reducible first | exact RnB.fxB (ints_fxB _) | rfl | refine And.intro ?_ ?_) | (with_reducible (first | refine RnB.bb ?_ | refine RnB.nb ?_);simp only [vcW,vcV,vcD,Int.reduceEq,Int.reduceNe,Int.reduceLT,Int.reduceLE,Nat.reduceEqDiff,Nat.reduceAdd,reduceIte,reduceCtorEq,Nat.reduceLT,Nat.reduceLeDiff,eq_self,vcP2,Nat.reduceShiftRight,Nat.reduceMod]) | (with_reducible first | refine RnB.ii ?_ | refine RnB.app ?_) | (with_reducible refine RnB.fxB ?_;simp only [vcW,vcV,vcD,Int.reduceEq,Int.reduceNe,Int.reduceLT,Int.reduceLE,Nat.reduceEqDiff,Nat.reduceAdd,reduceIte,reduceCtorEq,Nat.reduceLT,Nat.reduceLeDiff,eq_self,vcP2,Nat.reduceShiftRight,Nat.reduceMod]) | omega)
  · dsimp only at hin ⊢
    have hlU:=mdU_len items ch i
    by_cases h':i<M
    · have hc1:(i:Int)<M:=by omega
      simp only [hMi,hc1,vcV,vcD,Int.reduceEq,Int.reduceNe,Int.reduceLT,Int.reduceLE,Nat.reduceEqDiff,Nat.reduceAdd,reduceIte,reduceCtorEq,Nat.reduceLT,Nat.reduceLeDiff,eq_self,vcP2,Nat.reduceShiftRight,Nat.reduceMod]
      (repeat (with_reducible refine And.intro ?_ ?_;focus (first | omega | (unfold I64;omega))))
      refine W_loop (t:=.mk) (α:=PSigma fun k:Nat=>k≤ch.length) (fun ⟨k,_⟩=>(envOf [(1,.sl (ints ch)),(2,.ptr 2 0 0),(5,.buf 100 i),(6,.int .i64 i),(7,.int .i64 (mdT items ch i k)),(8,.int .i64 k)],stOf [(2,⟨24,2,[.agg [.sl (ints items),.int .i64 ch.length]]⟩),(100,⟨3,1,ints (mdU items ch i)⟩)])) (fun x=>ch.length - x.1) ⟨0,Nat.zero_le _⟩ ?_ (fun ⟨k,hk⟩=>?_)
      · have z:mdT items ch i 0=0:=rfl
        refine weakX [(100,some 100)] (of_decide_eq_true rfl) (of_decide_eq_true rfl) ?_
        (simp only [z,vcW,vcV,vcD,Int.reduceEq,Int.reduceNe,Int.reduceLT,Int.reduceLE,Nat.reduceEqDiff,Nat.reduceAdd,reduceIte,reduceCtorEq,Nat.reduceLT,Nat.reduceLeDiff,eq_self,vcP2,Nat.reduceShiftRight,Nat.reduceMod])
        (repeat' first | exact trivial | (with_reducible first | exact RnB.fxB (ints_fxB _) | rfl | refine And.intro ?_ ?_) | (with_reducible (first | refine RnB.bb ?_ | refine RnB.nb ?_);simp only [vcW,vcV,vcD,Int.reduceEq,Int.reduceNe,Int.reduceLT,Int.reduceLE,Nat.reduceEqDiff,Nat.reduceAdd,reduceIte,reduceCtorEq,Nat.reduceLT,Nat.reduceLeDiff,eq_self,vcP2,Nat.reduceShiftRight,Nat.reduceMod]) | (with_reducible first | refine RnB.ii ?_ | refine RnB.app ?_) | (with_reducible refine RnB.fxB ?_;simp only [vcW,vcV,vcD,Int.reduceEq,Int.reduceNe,Int.reduceLT,Int.reduceLE,Nat.reduceEqDiff,Nat.reduceAdd,reduceIte,reduceCtorEq,Nat.reduceLT,Nat.reduceLeDiff,eq_self,vcP2,Nat.reduceShiftRight,Nat.reduceMod]) | omega)
      · dsimp only at hk ⊢
        by_cases h2:k<ch.length
        · have hc2:(k:Int)<ch.length:=by omega
          have hI:=item_s items (ch.length:Int) ((i:Int) - k) (by omega)
          rw [itI_nat] at hI
          unfold tplA at hI
          have hn:=mdT_itm items ch i k
          rw [getD_at h2] at hn
          have b1:=hb i k (by omega)
          have b2:=hb i (k+1) (by omega)
          have b3:=itm_bd hi i k
          have b4:=hc ch[k] (List.getElem_mem h2)
          have b5:=prod_bd hC.1 b3 b4
          rw [Int.mul_comm (Lin.itm items i k)] at b5
          simp only [hc2,ints_get ch k h2,vcV,vcD,Int.reduceEq,Int.reduceNe,Int.reduceLT,Int.reduceLE,Nat.reduceEqDiff,Nat.reduceAdd,reduceIte,reduceCtorEq,Nat.reduceLT,Nat.reduceLeDiff,eq_self,vcP2,Nat.reduceShiftRight,Nat.reduceMod]
          (repeat (with_reducible refine And.intro ?_ ?_;focus (first | omega | (unfold I64;omega))))
          refine callS_of hI ?_
          simp only [vcV,vcD,Int.reduceEq,Int.reduceNe,Int.reduceLT,Int.reduceLE,Nat.reduceEqDiff,Nat.reduceAdd,reduceIte,reduceCtorEq,Nat.reduceLT,Nat.reduceLeDiff,eq_self,vcP2,Nat.reduceShiftRight,Nat.reduceMod]
          (repeat (with_reducible refine And.intro ?_ ?_;focus (first | omega | (unfold I64;omega))))
          refine ⟨⟨k+1,h2⟩,by simp only;omega,?_⟩
          refine weakX [(100,some 100)] (of_decide_eq_true rfl) (of_decide_eq_true rfl) ?_
          (simp only [hn,vcW,vcV,vcD,Int.reduceEq,Int.reduceNe,Int.reduceLT,Int.reduceLE,Nat.reduceEqDiff,Nat.reduceAdd,reduceIte,reduceCtorEq,Nat.reduceLT,Nat.reduceLeDiff,eq_self,vcP2,Nat.reduceShiftRight,Nat.reduceMod])
          (repeat' first | exact trivial | (with_reducible first | exact RnB.fxB (ints_fxB _) | rfl | refine And.intro ?_ ?_) | (with_reducible (first | refine RnB.bb ?_ | refine RnB.nb ?_);simp only [vcW,vcV,vcD,Int.reduceEq,Int.reduceNe,Int.reduceLT,Int.reduceLE,Nat.reduceEqDiff,Nat.reduceAdd,reduceIte,reduceCtorEq,Nat.reduceLT,Nat.reduceLeDiff,eq_self,vcP2,Nat.reduceShiftRight,Nat.reduceMod]) | (with_reducible first | refine RnB.ii ?_ | refine RnB.app ?_) | (with_reducible refine RnB.fxB ?_;simp only [vcW,vcV,vcD,Int.reduceEq,Int.reduceNe,Int.reduceLT,Int.reduceLE,Nat.reduceEqDiff,Nat.reduceAdd,reduceIte,reduceCtorEq,Nat.reduceLT,Nat.reduceLeDiff,eq_self,vcP2,Nat.reduceShiftRight,Nat.reduceMod]) | omega)
        · have hkl:k=ch.length:=by omega
          subst hkl
          have hc2:¬ (ch.length:Int)<ch.length:=by omega
          have hia:ints (mdU items ch (i+1))=ints (mdU items ch i) ++ [.int .i64 (mdT items ch i ch.length)]:=by rw [mdU_succ,ints_append];rfl
          simp only [hc2,ints_length,hlU,vcV,vcD,Int.reduceEq,Int.reduceNe,Int.reduceLT,Int.reduceLE,Nat.reduceEqDiff,Nat.reduceAdd,reduceIte,reduceCtorEq,Nat.reduceLT,Nat.reduceLeDiff,eq_self,vcP2,Nat.reduceShiftRight,Nat.reduceMod]
          (repeat (with_reducible refine And.intro ?_ ?_;focus (first | omega | (unfold I64;omega))))
          refine ⟨⟨i+1,h'⟩,by simp only;omega,?_⟩
          refine weakX [(100,some 41)] (of_decide_eq_true rfl) (of_decide_eq_true rfl) ?_
          (simp only [hia,ints_length,hlU,vcW,vcV,vcD,Int.reduceEq,Int.reduceNe,Int.reduceLT,Int.reduceLE,Nat.reduceEqDiff,Nat.reduceAdd,reduceIte,reduceCtorEq,Nat.reduceLT,Nat.reduceLeDiff,eq_self,vcP2,Nat.reduceShiftRight,Nat.reduceMod])
          (repeat' first | exact trivial | (with_reducible first | exact RnB.fxB (ints_fxB _) | rfl | refine And.intro ?_ ?_) | (with_reducible (first | refine RnB.bb ?_ | refine RnB.nb ?_);simp only [vcW,vcV,vcD,Int.reduceEq,Int.reduceNe,Int.reduceLT,Int.reduceLE,Nat.reduceEqDiff,Nat.reduceAdd,reduceIte,reduceCtorEq,Nat.reduceLT,Nat.reduceLeDiff,eq_self,vcP2,Nat.reduceShiftRight,Nat.reduceMod]) | (with_reducible first | refine RnB.ii ?_ | refine RnB.app ?_) | (with_reducible refine RnB.fxB ?_;simp only [vcW,vcV,vcD,Int.reduceEq,Int.reduceNe,Int.reduceLT,Int.reduceLE,Nat.reduceEqDiff,Nat.reduceAdd,reduceIte,reduceCtorEq,Nat.reduceLT,Nat.reduceLeDiff,eq_self,vcP2,Nat.reduceShiftRight,Nat.reduceMod]) | omega)
          all_goals first | exact hia.symm | exact RnB.fxB (by rw [← hia];exact ints_fxB _) | (rw [ints_append];rfl)
    · have hil:i=M:=by omega
      subst hil
      have hc1:¬ (i:Int)<i:=by omega
      have hE:mdU items ch i=mdA items ch:=by
        have hl:(mdA items ch).length=i:=by rw [mdA_len];exact hM.symm
        rw [mdA_eq,hl];rfl
      have hE2:i=(ints (mdA items ch)).length:=by rw [ints_length,← hE,mdU_len]
      simp only [hMi,hc1,oEnd_n,oEnd_r,hE,vcV,vcD,Int.reduceEq,Int.reduceNe,Int.reduceLT,Int.reduceLE,Nat.reduceEqDiff,Nat.reduceAdd,reduceIte,reduceCtorEq,Nat.reduceLT,Nat.reduceLeDiff,eq_self,vcP2,Nat.reduceShiftRight,Nat.reduceMod]
      refine ⟨by unfold I64;omega,by unfold I64;omega,?_⟩
      exact ownV_i 100 i rfl hE2 rfl (Go.Av.ints_imm _)
theorem Off_s {items l:List Int} {shifts:Int} {ch:List Int} {den:Int} (h:FitIn items l shifts ch den) :
    Sound Tryz.prog 129 [tplA items shifts,.sl (ints l),fitA den ch] (.sl (ints (dfL items l ch den))):=by
  refine SoundO.sl (ty:=3) (sz:=1) ?_ (ints_immM _)
  refine soundO_W f_ref02_Off (Nat.le_of_ble_eq_true rfl) (by decide) ?_
  have hm:=Model_o h.i1 h.i6 h.cl (by have:=h.cl;have:=h.s5;omega) (C:=1000000000000) (by omega) h.ib h.cb2
  have hml:=h.mlen
  have hl10:=h.l10
  unfold tplA at hm
  have hmax:=maxLen_big
  simp only [c_ref02_Off,tplA,fitA,vcV,vcD,Int.reduceEq,Int.reduceNe,Int.reduceLT,Int.reduceLE,Nat.reduceEqDiff,Nat.reduceAdd,reduceIte,reduceCtorEq,Nat.reduceLT,Nat.reduceLeDiff,eq_self,vcP2,Nat.reduceShiftRight,Nat.reduceMod]
  refine callS_own hm rfl ?_
  simp only [ownS_ints,ints_length,hml,vcV,vcD,Int.reduceEq,Int.reduceNe,Int.reduceLT,Int.reduceLE,Nat.reduceEqDiff,Nat.reduceAdd,reduceIte,reduceCtorEq,Nat.reduceLT,Nat.reduceLeDiff,eq_self,vcP2,Nat.reduceShiftRight,Nat.reduceMod]
  rw [← dfK_0 items l ch den]
  refine W_loop (t:=.mk) (α:=PSigma fun i:Nat=>i≤l.length) (fun ⟨i,_⟩=>(envOf [(1,.sl (ints l)),(5,.ptr 5 0 0),(7,.buf 100 l.length),(8,.int .i64 i)],stOf [(5,⟨29,2,[.agg [.int .i64 den,.sl (ints ch)]]⟩),(100,⟨3,1,ints (dfK items l ch den i)⟩)])) (fun x=>l.length - x.1) ⟨0,Nat.zero_le _⟩ ?_ (fun ⟨i,hin⟩=>?_)
  · refine weakX [(100,some 12)] (of_decide_eq_true rfl) (of_decide_eq_true rfl) ?_
    (simp only [vcW,vcV,vcD,Int.reduceEq,Int.reduceNe,Int.reduceLT,Int.reduceLE,Nat.reduceEqDiff,Nat.reduceAdd,reduceIte,reduceCtorEq,Nat.reduceLT,Nat.reduceLeDiff,eq_self,vcP2,Nat.reduceShiftRight,Nat.reduceMod])
    (repeat' first | exact trivial | (with_reducible first | exact RnB.fxB (ints_fxB _) | rfl | refine And.intro ?_ ?_) | (with_reducible (first | refine RnB.bb ?_ | refine RnB.nb ?_);simp only [vcW,vcV,vcD,Int.reduceEq,Int.reduceNe,Int.reduceLT,Int.reduceLE,Nat.reduceEqDiff,Nat.reduceAdd,reduceIte,reduceCtorEq,Nat.reduceLT,Nat.reduceLeDiff,eq_self,vcP2,Nat.reduceShiftRight,Nat.reduceMod]) | (with_reducible first | refine RnB.ii ?_ | refine RnB.app ?_) | (with_reducible refine RnB.fxB ?_;simp only [vcW,vcV,vcD,Int.reduceEq,Int.reduceNe,Int.reduceLT,Int.reduceLE,Nat.reduceEqDiff,Nat.reduceAdd,reduceIte,reduceCtorEq,Nat.reduceLT,Nat.reduceLeDiff,eq_self,vcP2,Nat.reduceShiftRight,Nat.reduceMod]) | omega)
  · dsimp only at hin ⊢
    have hlen:=dfK_len items l ch den i
    by_cases h':i<l.length
    · have hc1:(i:Int)<l.length:=by omega
      have hi2:i<(dfK items l ch den i).length:=by omega
      have gw:=ints_get (dfK items l ch den i) i hi2
      rw [dfK_at] at gw
      have b1:=h.pb i
      have b2:=h.mb i
      have hst:(ints (dfK items l ch den i)).set i (.int .i64 (l[i] * den - mdT items ch i ch.length))=ints (dfK items l ch den (i+1)):=by
        rw [ints_st,← dfK_set items l ch den (by omega),getD_at h']
      rw [getD_at h'] at b1
      simp only [hc1,ints_get l i h',gw,ints_length,hlen,hml,vcV,vcD,Int.reduceEq,Int.reduceNe,Int.reduceLT,Int.reduceLE,Nat.reduceEqDiff,Nat.reduceAdd,reduceIte,reduceCtorEq,Nat.reduceLT,Nat.reduceLeDiff,eq_self,vcP2,Nat.reduceShiftRight,Nat.reduceMod]
      (repeat (with_reducible refine And.intro ?_ ?_;focus (first | omega | (unfold I64;omega))))
      refine ⟨⟨i+1,h'⟩,by simp only;omega,?_⟩
      refine weakX [(100,some 100)] (of_decide_eq_true rfl) (of_decide_eq_true rfl) ?_
      (simp only [vcW,vcV,vcD,Int.reduceEq,Int.reduceNe,Int.reduceLT,Int.reduceLE,Nat.reduceEqDiff,Nat.reduceAdd,reduceIte,reduceCtorEq,Nat.reduceLT,Nat.reduceLeDiff,eq_self,vcP2,Nat.reduceShiftRight,Nat.reduceMod])
      (repeat' first | exact trivial | (with_reducible first | exact RnB.fxB (ints_fxB _) | rfl | refine And.intro ?_ ?_) | (with_reducible (first | refine RnB.bb ?_ | refine RnB.nb ?_);simp only [vcW,vcV,vcD,Int.reduceEq,Int.reduceNe,Int.reduceLT,Int.reduceLE,Nat.reduceEqDiff,Nat.reduceAdd,reduceIte,reduceCtorEq,Nat.reduceLT,Nat.reduceLeDiff,eq_self,vcP2,Nat.reduceShiftRight,Nat.reduceMod]) | (with_reducible first | refine RnB.ii ?_ | refine RnB.app ?_) | (with_reducible refine RnB.fxB ?_;simp only [vcW,vcV,vcD,Int.reduceEq,Int.reduceNe,Int.reduceLT,Int.reduceLE,Nat.reduceEqDiff,Nat.reduceAdd,reduceIte,reduceCtorEq,Nat.reduceLT,Nat.reduceLeDiff,eq_self,vcP2,Nat.reduceShiftRight,Nat.reduceMod]) | omega)
      all_goals exact RnB.eq hst (by rw [hst];exact ints_fxB _)
    · have hil:i=l.length:=by omega
      subst hil
      have hc1:¬ (l.length:Int)<l.length:=by omega
      have hall:=dfK_all items l ch den (i:=l.length) (by omega)
      have hE:l.length=(ints (dfL items l ch den)).length:=by rw [ints_length,dfL_len,hml]
      simp only [hc1,oEnd_n,oEnd_r,hall,vcV,vcD,Int.reduceEq,Int.reduceNe,Int.reduceLT,Int.reduceLE,Nat.reduceEqDiff,Nat.reduceAdd,reduceIte,reduceCtorEq,Nat.reduceLT,Nat.reduceLeDiff,eq_self,vcP2,Nat.reduceShiftRight,Nat.reduceMod]
      exact ownV_i 100 l.length rfl hE rfl (Go.Av.ints_imm _)
end Go.Proofs.YtgmpcbpmnimkoaaGreatDoor

/- Contracts: wide numbers divided,rounded down. By an AI agent;nothing here is trusted. -/
namespace Go.Proofs.YtgmpcbpmnimkoaaGreatDoor
open Go.Av

end Go.Proofs.YtgmpcbpmnimkoaaGreatDoor

/- Contracts: sizes and divisors of wide numbers. By an AI agent;nothing here is trusted. -/
namespace Go.Proofs.YtgmpcbpmnimkoaaGreatDoor
open Go.Av

theorem wide_hr (v:Int):wideA v=.agg [.int .i64 v.sign,.sl (ints (dg v.natAbs))]:=rfl
theorem wOk_more {k k':Nat} {v:Int} (h:wOk k v) (hk:k≤k'):wOk k' v:=Nat.le_trans h hk
end Go.Proofs.YtgmpcbpmnimkoaaGreatDoor

/- Contracts: ratios in lowest terms. By an AI agent;nothing here is trusted. -/
namespace Go.Proofs.YtgmpcbpmnimkoaaGreatDoor
open Go.Av

end Go.Proofs.YtgmpcbpmnimkoaaGreatDoor

/- Contracts: ratios added,multiplied,compared. By an AI agent;nothing here is trusted. -/
namespace Go.Proofs.YtgmpcbpmnimkoaaGreatDoor
open Go.Av

end Go.Proofs.YtgmpcbpmnimkoaaGreatDoor

/- Ratios of fractions;lowest terms,in plain Lean. By an AI agent;nothing here is trusted. -/
namespace Go.Proofs.YtgmpcbpmnimkoaaGreatDoor
open Go.Av

end Go.Proofs.YtgmpcbpmnimkoaaGreatDoor

/- Contracts: ratios as rational numbers. By an AI agent;nothing here is trusted. -/
namespace Go.Proofs.YtgmpcbpmnimkoaaGreatDoor
open Go.Av

end Go.Proofs.YtgmpcbpmnimkoaaGreatDoor

/- Contracts of the reference: the accepted fit,squares,digits,what is kept. By an AI agent;nothing here is trusted. -/
namespace Go.Proofs.YtgmpcbpmnimkoaaGreatDoor
open Go.Av

theorem wOk_35 {v:Int} (h:v.natAbs≤100000000000000000000000000000000000):wOk 100000 v :=
  wOk_more (k:=4) (wOk_of (Nat.lt_of_le_of_lt h (by decide))) (by omega)
theorem smI_ag {items l:List Int} {k N:Nat} (h:k+items.length≤N) (h1:1≤items.length):Lin.smI N (fun n=>l.getD n 0 * Lin.itm items n k)=agT items l k items.length:=by
  rw [ag_sum,if_neg (by omega)]
  by_cases e:N≤k+items.length
  · rw [if_pos e,show N - k=items.length by omega]
  · rw [if_neg e]
end Go.Proofs.YtgmpcbpmnimkoaaGreatDoor

/- The problem of a template and samples. By an AI agent;nothing here is trusted. -/
namespace Go.Proofs.YtgmpcbpmnimkoaaGreatDoor
open Go.Av

section
variable {s s':Store} {f:Nat→Option Nat} {ty sz:Nat}
theorem keyOf_ne {l:List (Nat × Option Nat × Blk)} {z:Nat} (h:(l.all fun p=>p.2.1 != some z)=true):∀ k',Av.keyOf l k' ≠ some z:=by
  induction l with
  | nil=>intro k' h2;cases h2
  | cons p l ih =>
    intro k' h2
    rw [List.all_cons,Bool.and_eq_true] at h
    obtain ⟨a,o,B⟩:=p
    unfold Av.keyOf at h2
    split at h2
    · subst h2;simp at h
    · exact ih h.2 k' h2
theorem RnB.snocX {a a':List AV} {x x':AV} (h1:RnB s s' f ⟨ty,sz,a⟩ ⟨ty,sz,a'⟩) (h2:(cellsOf x').length=(cellsOf x).length∧cellsOk x'∧∀ (o:Nat) (c c':AV),(cellsOf x)[o]?=some c→(cellsOf x')[o]?=some c'→Rn s s' f c c') :
    RnB s s' f ⟨ty,sz,a ++ [x]⟩ ⟨ty,sz,a' ++ [x']⟩:=by
  obtain ⟨_,_,g3,g4⟩:=h1
  simp only at g3 g4
  refine ⟨rfl,rfl,by simp [g3],fun i y y' k1 k2=>?_⟩
  simp only at k1 k2
  by_cases hi:i<a.length
  · rw [List.getElem?_append_left hi] at k1
    rw [List.getElem?_append_left (by omega)] at k2
    exact g4 i y y' k1 k2
  · have hi':i=a.length:=by
      have:=(List.getElem?_eq_some_iff.1 k1).1
      simp at this;omega
    rw [List.getElem?_append_right (by omega),show i - a.length=0 by omega] at k1
    rw [List.getElem?_append_right (by omega),show i - a'.length=0 by omega] at k2
    cases k1;cases k2
    exact h2
theorem RnB.snocZ {R:List (List Int)} {r:List Int} {k n t1:Nat} {es:List AV} (hs:s k=some (some ⟨t1,1,ints r⟩)) (hn:n=r.length) (hf:∀ k',f k' ≠ some k) (he:es=lls (R ++ [r])) :
    RnB s s' f ⟨ty,sz,lls R ++ [.buf k n]⟩ ⟨ty,sz,es⟩:=by
  subst he hn
  rw [← lls_snoc]
  refine RnB.snocX (RnB.fxB (lls_fxB R)) ⟨rfl,fun d hd=>?_,fun o d d' k1 k2=>?_⟩
  · simp only [cellsOf,List.mem_cons,List.not_mem_nil,or_false] at hd
    subst hd;rfl
  · match o with
    | 0 =>
      simp [cellsOf] at k1 k2;subst k1;subst k2
      have h:=Rn.fz (s':=s') (f:=f) k r.length _ hs (by simp [ints_length]) (fun x hx=>(fx_spec (ints_fx _ x hx)).1) hf
      have e:(ints r).take r.length=ints r:=List.take_of_length_le (by simp [ints_length])
      simp only [e] at h
      exact h
    | o+1=>simp [cellsOf] at k1
theorem RnB.agg2 {c d c' d':AV} (e:cellsOf (.agg [c,d])=[c,d]) (e':cellsOf (.agg [c',d'])=[c',d']) (hc:cell c'=true) (hd:cell d'=true) (h:Rn s s' f c c') (h2:Rn s s' f d d') :
    RnB s s' f ⟨ty,sz,[.agg [c,d]]⟩ ⟨ty,sz,[.agg [c',d']]⟩:=by
  refine ⟨rfl,rfl,rfl,fun i x x' h1 h2'=>?_⟩
  cases i with
  | zero =>
    simp at h1 h2';subst h1;subst h2'
    refine ⟨by rw [e,e'];rfl,fun q hq=>?_,fun o q q' k3 k4=>?_⟩
    · rw [e'] at hq;simp at hq;rcases hq with rfl | rfl
      · exact hc
      · exact hd
    · rw [e] at k3;rw [e'] at k4
      match o with
      | 0=>simp at k3 k4;subst k3;subst k4;exact h
      | 1=>simp at k3 k4;subst k3;subst k4;exact h2
      | o+2=>simp at k3
  | succ i=>simp at h1
end

theorem RnB.nil2 {s s':Store} {f:Nat→Option Nat} {ty sz:Nat}:RnB s s' f ⟨ty,sz,[.agg [.nils,.nils]]⟩ ⟨ty,sz,[.agg [.nils,.nils]]⟩:=RnB.same fun x hx=>by
  simp at hx;subst hx;rfl
def unitL (S k:Nat):List Int:=(List.replicate S 0).set k 1
theorem unitL_len (S k:Nat):(unitL S k).length=S:=by simp [unitL]
theorem unitL_get (S k m:Nat) (h:m<S):(unitL S k).getD m 0=if m=k then 1 else 0:=by
  unfold unitL
  rw [List.getD_eq_getElem?_getD,List.getElem?_set,List.length_replicate]
  by_cases e:k=m
  · subst e;simp [h]
  · rw [if_neg e,if_neg (fun q=>e q.symm)];simp [h]
theorem unitL_bd (S k:Nat):∀ x ∈ unitL S k, -1≤x∧x≤1:=by
  intro x hx
  unfold unitL at hx
  rcases List.mem_or_eq_of_mem_set hx with h | h
  · rw [(List.mem_replicate.1 h).2];omega
  · omega
theorem mdT_unit (items:List Int) (S k n:Nat):∀ j,j≤S→mdT items (unitL S k) n j=if k<j then Lin.itm items n k else 0
  | 0,_=>rfl
  | j+1,h=>by
    rw [mdT_itm,mdT_unit items S k n j (by omega),unitL_get S k j (by omega)]
    by_cases e:j=k
    · subst e;rw [if_neg (by omega),if_pos rfl,if_pos (by omega)];omega
    · rw [if_neg e]
      by_cases g:k<j
      · rw [if_pos g,if_pos (by omega)];omega
      · rw [if_neg g,if_neg (by omega)];omega
theorem tick_get (items:List Int) {S k n:Nat} (hk:k<S) (hn:n<S+items.length - 1):(mdA items (unitL S k)).getD n 0=Lin.itm items n k:=by
  have hl:(mdA items (unitL S k)).length=S+items.length - 1:=by rw [mdA_len,unitL_len]
  rw [getD_at (by omega),mdA_get,unitL_len,mdT_unit items S k n S (Nat.le_refl _),if_pos hk]
theorem tick_ag (items:List Int) {S k j:Nat} (hk:k<S) (hj:j<S) (h1:1≤items.length):agT items (mdA items (unitL S k)) j items.length=Lin.gr items (S+items.length - 1) k j:=by
  rw [← smI_ag (N:=S+items.length - 1) (by omega) h1]
  unfold Lin.gr
  exact Lin.smI_congr fun n hn=>by rw [tick_get items hk hn]
def gmQ (items:List Int) (S k j:Nat):List Int:=(List.range j).map fun m=>Lin.gr items (S+items.length - 1) k m
def gmP (items:List Int) (S i:Nat):List (List Int):=(List.range i).map fun k=>gmQ items S k S
def rhP (items l:List Int) (i:Nat):List Int:=(List.range i).map fun k=>agT items l k items.length
theorem gmQ_len (items:List Int) (S k j:Nat):(gmQ items S k j).length=j:=by simp [gmQ]
theorem gmP_len (items:List Int) (S i:Nat):(gmP items S i).length=i:=by simp [gmP]
theorem rhP_len (items l:List Int) (i:Nat):(rhP items l i).length=i:=by simp [rhP]
theorem gmQ_succ (items:List Int) (S k j:Nat):gmQ items S k (j+1)=gmQ items S k j ++ [Lin.gr items (S+items.length - 1) k j]:=by simp [gmQ,List.range_succ]
theorem gmP_succ (items:List Int) (S i:Nat):gmP items S (i+1)=gmP items S i ++ [gmQ items S i S]:=by simp [gmP,List.range_succ]
theorem rhP_succ (items l:List Int) (i:Nat):rhP items l (i+1)=rhP items l i ++ [agT items l i items.length]:=by simp [rhP,List.range_succ]
theorem set_unit (S k:Nat):(ints (List.replicate S 0)).set k (.int .i64 1)=ints (unitL S k):=by rw [ints_st];rfl

set_option maxHeartbeats 2000000 in
theorem problemOf_s {items l:List Int} {S:Nat} (h1:1≤items.length) (h6:items.length≤6) (hS:1≤S∧S≤5) (hi:∀ x ∈ items, -100≤x∧x≤100) (hl:∀ x ∈ l, -10000≤x∧x≤10000) (hll:l.length=S+items.length - 1) :
    Sound Tryz.prog 92 [tplA items (S:Int),.sl (ints l)] (.agg [.sl (lls (gmP items S S)),.sl (ints (rhP items l S))]):=by
  refine sound_W f_pulse_problemOf (Nat.le_of_ble_eq_true rfl) ?_
  have hmax:=maxLen_big
  have hmod:∀ k,SoundO Tryz.prog 120 [tplA items (S:Int),.sl (ints (unitL S k))] 3 1 (ints (mdA items (unitL S k))):=fun k=>model_s (S:Int) (C:=1) h1 h6 (by rw [unitL_len];omega) (by omega) hi (unitL_bd S k)
  have hml:∀ k,(mdA items (unitL S k)).length=S+items.length - 1:=fun k=>by rw [mdA_len,unitL_len]
  have hmb:∀ k,k<S→∀ x ∈ mdA items (unitL S k), -100≤x∧x≤100:=fun k hk x hx=>by
    obtain ⟨n,hn,rfl⟩:=List.getElem_of_mem hx
    have:=tick_get items hk (show n<S+items.length - 1 by rw [← hml k];exact hn)
    rw [getD_at hn] at this
    rw [this];exact itm_bd hi n k
  have hag:∀ k j,k<S→j<S→Sound Tryz.prog 128 [tplA items (S:Int),.sl (ints (mdA items (unitL S k))),.int .i64 j] (.int .i64 (Lin.gr items (S+items.length - 1) k j)):=fun k j hk hj=>by
    have:=against_s (S:Int) (k:=j) (M:=100) h6 (by omega) hi (hmb k hk) (by rw [hml];omega) (by omega)
    rw [tick_ag items hk hj h1] at this
    exact this
  have hag2:∀ j,j<S→Sound Tryz.prog 128 [tplA items (S:Int),.sl (ints l),.int .i64 j] (.int .i64 (agT items l j items.length)):=fun j hj=>against_s (S:Int) (k:=j) (M:=10000) h6 (by omega) hi hl (by omega) (by omega)
  unfold tplA at hmod hag hag2
  simp only [c_pulse_problemOf,tplA,vcV,vcD,Int.reduceEq,Int.reduceNe,Int.reduceLT,Int.reduceLE,Nat.reduceEqDiff,Nat.reduceAdd,reduceIte,reduceCtorEq,Nat.reduceLT,Nat.reduceLeDiff,eq_self,vcP2,Nat.reduceShiftRight,Nat.reduceMod]
  refine W_loop (t:=.mk) (α:=PSigma fun i:Nat=>i≤S) (fun ⟨i,_⟩=>(envOf [(1,.sl (ints l)),(2,.ptr 2 0 0),(4,.ptr 4 0 0),(5,.ptr 5 0 0),(12,.int .i64 S),(13,.int .i64 i)],stOf [(2,⟨24,2,[.agg [.sl (ints items),.int .i64 S]]⟩),(4,⟨151,2,[.agg [.nils,.nils]]⟩),(5,⟨151,2,[.agg [.buf 100 i,.buf 101 i]]⟩),(100,⟨22,1,lls (gmP items S i)⟩),(101,⟨3,1,ints (rhP items l i)⟩)])) (fun x=>S - x.1) ⟨0,Nat.zero_le _⟩ ?_ (fun ⟨i,hiS⟩=>?_)
  · have z1:lls (gmP items S 0)=[]:=rfl
    have z2:ints (rhP items l 0)=[]:=rfl
    refine weakX [(100,none),(101,none)] (of_decide_eq_true rfl) (of_decide_eq_true rfl) ?_
    (simp only [z1,z2,vcW,vcV,vcD,Int.reduceEq,Int.reduceNe,Int.reduceLT,Int.reduceLE,Nat.reduceEqDiff,Nat.reduceAdd,reduceIte,reduceCtorEq,Nat.reduceLT,Nat.reduceLeDiff,eq_self,vcP2,Nat.reduceShiftRight,Nat.reduceMod])
    repeat' (with_reducible refine And.intro ?_ ?_)
    try any_goals (with_reducible exact RnB.nil2)
    try any_goals (with_reducible exact RnB.agg2 rfl rfl rfl rfl (.virt 100 _ rfl rfl) (.virt 101 _ rfl rfl))
    (repeat' first | exact trivial | (with_reducible first | exact RnB.fxB (ints_fxB _) | rfl | refine And.intro ?_ ?_) | (with_reducible (first | refine RnB.bb ?_ | refine RnB.nb ?_);simp only [vcW,vcV,vcD,Int.reduceEq,Int.reduceNe,Int.reduceLT,Int.reduceLE,Nat.reduceEqDiff,Nat.reduceAdd,reduceIte,reduceCtorEq,Nat.reduceLT,Nat.reduceLeDiff,eq_self,vcP2,Nat.reduceShiftRight,Nat.reduceMod]) | (with_reducible first | refine RnB.ii ?_ | refine RnB.app ?_) | (with_reducible refine RnB.fxB ?_;simp only [vcW,vcV,vcD,Int.reduceEq,Int.reduceNe,Int.reduceLT,Int.reduceLE,Nat.reduceEqDiff,Nat.reduceAdd,reduceIte,reduceCtorEq,Nat.reduceLT,Nat.reduceLeDiff,eq_self,vcP2,Nat.reduceShiftRight,Nat.reduceMod]) | omega)
  · dsimp only at hiS ⊢
    by_cases h':i<S
    · have hc1:(i:Int)<S:=by omega
      have hz:List.replicate S (AV.int .i64 0)=ints (List.replicate S 0):=ints_z S
      have hgz:(ints (List.replicate S 0))[i]?=some (.int .i64 0):=by rw [ints_get _ i (by simp;omega)];simp
      have hzl:(ints (List.replicate S (0:Int))).length=S:=by simp [ints]
      have hM:=hmod i
      simp only [hc1,hz,hgz,set_unit,hzl,vcV,vcD,Int.reduceEq,Int.reduceNe,Int.reduceLT,Int.reduceLE,Nat.reduceEqDiff,Nat.reduceAdd,reduceIte,reduceCtorEq,Nat.reduceLT,Nat.reduceLeDiff,eq_self,vcP2,Nat.reduceShiftRight,Nat.reduceMod]
      refine ⟨by omega,⟨by rw [← hz];exact mkOk_z _,?_⟩⟩
      refine ⟨⟨by omega,Nat.le_refl _⟩,?_⟩
      rw [borB_good _ _ _ _ _ (by rw [ints_length,unitL_len]) (ints_fx _)]
      refine callS_own hM rfl ?_
      obtain ⟨T,hT⟩:∃ T,T=mdA items (unitL S i):=⟨_,rfl⟩
      have hag':∀ j,j<S→Sound Tryz.prog 128 [.agg [.sl (ints items),.int .i64 S],.sl (ints T),.int .i64 j] (.int .i64 (Lin.gr items (S+items.length - 1) i j)):=fun j hj=>by rw [hT];exact hag i j h' hj
      rw [← hT]
      have hTl:T.length=S+items.length - 1:=by rw [hT];exact hml i
      simp only [ownS_ints,ints_length,vcV,vcD,Int.reduceEq,Int.reduceNe,Int.reduceLT,Int.reduceLE,Nat.reduceEqDiff,Nat.reduceAdd,reduceIte,reduceCtorEq,Nat.reduceLT,Nat.reduceLeDiff,eq_self,vcP2,Nat.reduceShiftRight,Nat.reduceMod]
      refine W_loop (t:=.mk) (α:=PSigma fun j:Nat=>j≤S) (fun ⟨j,_⟩=>(envOf [(1,.sl (ints l)),(2,.ptr 2 0 0),(4,.ptr 4 0 0),(5,.ptr 5 0 0),(6,.int .i64 i),(8,.buf 102 T.length),(9,.buf 103 j),(12,.int .i64 S),(13,.int .i64 i),(26,.int .i64 S),(27,.int .i64 j)],stOf [(2,⟨24,2,[.agg [.sl (ints items),.int .i64 S]]⟩),(4,⟨151,2,[.agg [.nils,.nils]]⟩),(5,⟨151,2,[.agg [.buf 100 i,.buf 101 i]]⟩),(100,⟨22,1,lls (gmP items S i)⟩),(101,⟨3,1,ints (rhP items l i)⟩),(102,⟨3,1,ints T⟩),(103,⟨3,1,ints (gmQ items S i j)⟩)])) (fun x=>S - x.1) ⟨0,Nat.zero_le _⟩ ?_ (fun ⟨j,hjS⟩=>?_)
      · have z:ints (gmQ items S i 0)=[]:=rfl
        refine weakX [(102,some 24),(103,none)] (of_decide_eq_true rfl) (of_decide_eq_true rfl) ?_
        (simp only [z,vcW,vcV,vcD,Int.reduceEq,Int.reduceNe,Int.reduceLT,Int.reduceLE,Nat.reduceEqDiff,Nat.reduceAdd,reduceIte,reduceCtorEq,Nat.reduceLT,Nat.reduceLeDiff,eq_self,vcP2,Nat.reduceShiftRight,Nat.reduceMod])
        repeat' (with_reducible refine And.intro ?_ ?_)
        try any_goals (with_reducible exact RnB.nil2)
        try any_goals (with_reducible exact RnB.agg2 rfl rfl rfl rfl (.buf 100 100 _ rfl) (.buf 101 101 _ rfl))
        try any_goals (with_reducible exact RnB.fxB (lls_fxB _))
        (repeat' first | exact trivial | (with_reducible first | exact RnB.fxB (ints_fxB _) | rfl | refine And.intro ?_ ?_) | (with_reducible (first | refine RnB.bb ?_ | refine RnB.nb ?_);simp only [vcW,vcV,vcD,Int.reduceEq,Int.reduceNe,Int.reduceLT,Int.reduceLE,Nat.reduceEqDiff,Nat.reduceAdd,reduceIte,reduceCtorEq,Nat.reduceLT,Nat.reduceLeDiff,eq_self,vcP2,Nat.reduceShiftRight,Nat.reduceMod]) | (with_reducible first | refine RnB.ii ?_ | refine RnB.app ?_) | (with_reducible refine RnB.fxB ?_;simp only [vcW,vcV,vcD,Int.reduceEq,Int.reduceNe,Int.reduceLT,Int.reduceLE,Nat.reduceEqDiff,Nat.reduceAdd,reduceIte,reduceCtorEq,Nat.reduceLT,Nat.reduceLeDiff,eq_self,vcP2,Nat.reduceShiftRight,Nat.reduceMod]) | omega)
      · dsimp only at hjS ⊢
        by_cases h2:j<S
        · have hc2:(j:Int)<S:=by omega
          simp only [hc2,vcV,vcD,Int.reduceEq,Int.reduceNe,Int.reduceLT,Int.reduceLE,Nat.reduceEqDiff,Nat.reduceAdd,reduceIte,reduceCtorEq,Nat.reduceLT,Nat.reduceLeDiff,eq_self,vcP2,Nat.reduceShiftRight,Nat.reduceMod]
          rw [borB_good _ _ _ _ _ (by rw [ints_length]) (ints_fx _)]
          refine callS_of (hag' j h2) ?_
          have hgl:=gmQ_len items S i j
          have hgs:=gmQ_succ items S i j
          simp only [ints_length,hgl,vcV,vcD,Int.reduceEq,Int.reduceNe,Int.reduceLT,Int.reduceLE,Nat.reduceEqDiff,Nat.reduceAdd,reduceIte,reduceCtorEq,Nat.reduceLT,Nat.reduceLeDiff,eq_self,vcP2,Nat.reduceShiftRight,Nat.reduceMod]
          (repeat (with_reducible refine And.intro ?_ ?_;focus (first | omega | (unfold I64;omega))))
          refine ⟨⟨j+1,h2⟩,by simp only;omega,?_⟩
          refine weakX [(103,some 36)] (of_decide_eq_true rfl) (of_decide_eq_true rfl) ?_
          (simp only [ints_length,hgl,hgs,vcW,vcV,vcD,Int.reduceEq,Int.reduceNe,Int.reduceLT,Int.reduceLE,Nat.reduceEqDiff,Nat.reduceAdd,reduceIte,reduceCtorEq,Nat.reduceLT,Nat.reduceLeDiff,eq_self,vcP2,Nat.reduceShiftRight,Nat.reduceMod])
          repeat' (with_reducible refine And.intro ?_ ?_)
          try any_goals (with_reducible exact RnB.nil2)
          try any_goals (with_reducible exact RnB.agg2 rfl rfl rfl rfl (.buf 100 100 _ rfl) (.buf 101 101 _ rfl))
          try any_goals (with_reducible exact RnB.fxB (lls_fxB _))
          (repeat' first | exact trivial | (with_reducible first | exact RnB.fxB (ints_fxB _) | rfl | refine And.intro ?_ ?_) | (with_reducible (first | refine RnB.bb ?_ | refine RnB.nb ?_);simp only [vcW,vcV,vcD,Int.reduceEq,Int.reduceNe,Int.reduceLT,Int.reduceLE,Nat.reduceEqDiff,Nat.reduceAdd,reduceIte,reduceCtorEq,Nat.reduceLT,Nat.reduceLeDiff,eq_self,vcP2,Nat.reduceShiftRight,Nat.reduceMod]) | (with_reducible first | refine RnB.ii ?_ | refine RnB.app ?_) | (with_reducible refine RnB.fxB ?_;simp only [vcW,vcV,vcD,Int.reduceEq,Int.reduceNe,Int.reduceLT,Int.reduceLE,Nat.reduceEqDiff,Nat.reduceAdd,reduceIte,reduceCtorEq,Nat.reduceLT,Nat.reduceLeDiff,eq_self,vcP2,Nat.reduceShiftRight,Nat.reduceMod]) | omega)
          all_goals trace_state
        · have hjl:j=S:=by omega
          subst hjl
          have hc2:¬ (j:Int)<j:=by omega
          have hsn:=gmP_succ items j i
          have hrs:=rhP_succ items l i
          simp only [hc2,vcV,vcD,Int.reduceEq,Int.reduceNe,Int.reduceLT,Int.reduceLE,Nat.reduceEqDiff,Nat.reduceAdd,reduceIte,reduceCtorEq,Nat.reduceLT,Nat.reduceLeDiff,eq_self,vcP2,Nat.reduceShiftRight,Nat.reduceMod]
          refine ⟨⟨by rw [lls_length,gmP_len],by omega,by omega⟩,?_⟩
          refine callS_of (hag2 i h') ?_
          simp only [ints_length,rhP_len,vcV,vcD,Int.reduceEq,Int.reduceNe,Int.reduceLT,Int.reduceLE,Nat.reduceEqDiff,Nat.reduceAdd,reduceIte,reduceCtorEq,Nat.reduceLT,Nat.reduceLeDiff,eq_self,vcP2,Nat.reduceShiftRight,Nat.reduceMod]
          refine ⟨⟨by omega,by omega⟩,by unfold I64;omega,⟨i+1,by omega⟩,by simp only;omega,?_⟩
          refine weakX [(100,some 42),(101,some 50)] (of_decide_eq_true rfl) (of_decide_eq_true rfl) ?_
          (simp only [hrs,vcW,vcV,vcD,Int.reduceEq,Int.reduceNe,Int.reduceLT,Int.reduceLE,Nat.reduceEqDiff,Nat.reduceAdd,reduceIte,reduceCtorEq,Nat.reduceLT,Nat.reduceLeDiff,eq_self,vcP2,Nat.reduceShiftRight,Nat.reduceMod])
          repeat' (with_reducible refine And.intro ?_ ?_)
          try any_goals (with_reducible exact RnB.nil2)
          try any_goals (with_reducible exact RnB.agg2 rfl rfl rfl rfl (.buf 42 100 _ rfl) (.buf 50 101 _ rfl))
          try any_goals exact RnB.snocZ (k:=103) rfl (by rw [gmQ_len]) (keyOf_ne rfl) (by rw [hsn])
          (repeat' first | exact trivial | (with_reducible first | exact RnB.fxB (ints_fxB _) | rfl | refine And.intro ?_ ?_) | (with_reducible (first | refine RnB.bb ?_ | refine RnB.nb ?_);simp only [vcW,vcV,vcD,Int.reduceEq,Int.reduceNe,Int.reduceLT,Int.reduceLE,Nat.reduceEqDiff,Nat.reduceAdd,reduceIte,reduceCtorEq,Nat.reduceLT,Nat.reduceLeDiff,eq_self,vcP2,Nat.reduceShiftRight,Nat.reduceMod]) | (with_reducible first | refine RnB.ii ?_ | refine RnB.app ?_) | (with_reducible refine RnB.fxB ?_;simp only [vcW,vcV,vcD,Int.reduceEq,Int.reduceNe,Int.reduceLT,Int.reduceLE,Nat.reduceEqDiff,Nat.reduceAdd,reduceIte,reduceCtorEq,Nat.reduceLT,Nat.reduceLeDiff,eq_self,vcP2,Nat.reduceShiftRight,Nat.reduceMod]) | omega)
          all_goals trace_state
    · have hil:i=S:=by omega
      subst hil
      have hc1:¬ (i:Int)<i:=by omega
      simp only [hc1,vcV,vcD,Int.reduceEq,Int.reduceNe,Int.reduceLT,Int.reduceLE,Nat.reduceEqDiff,Nat.reduceAdd,reduceIte,reduceCtorEq,Nat.reduceLT,Nat.reduceLeDiff,eq_self,vcP2,Nat.reduceShiftRight,Nat.reduceMod]
      rw [borB_good _ _ _ _ _ (by rw [lls_length,gmP_len]) (List.all_eq_true.1 (lls_fxB _)),borB_good _ _ _ _ _ (by rw [ints_length,rhP_len]) (ints_fx _)]
end Go.Proofs.YtgmpcbpmnimkoaaGreatDoor

/- Whether a solution is the best one. By an AI agent;nothing here is trusted. -/
namespace Go.Proofs.YtgmpcbpmnimkoaaGreatDoor
open Go.Av

def w2s (P:List (Bool × Nat)):List AV:=P.map fun p=>wdA p.1 p.2
theorem w2s_length (P:List (Bool × Nat)):(w2s P).length=P.length:=by simp [w2s]
theorem w2s_get (P:List (Bool × Nat)) (i:Nat) (h:i<P.length):(w2s P)[i]?=some (wdA P[i].1 P[i].2):=by simp [w2s,h]
theorem w2s_fxB (P:List (Bool × Nat)):(w2s P).all fx=true:=List.all_eq_true.2 fun x hx=>by
  obtain ⟨y,_,rfl⟩:=List.mem_map.1 hx;rfl
def rsP (D:Bool × Nat) (P:List (Bool × Nat)) (h:Int) (g:List Int):Nat→Bool × Nat
  | 0=>tmP D h
  | j+1=>plP (rsP D P h g j) (ngP (tmP (P.getD j (false,0)) (g.getD j 0)))
def rsV (D:Bool × Nat) (P:List (Bool × Nat)) (h:Int) (g:List Int) (n:Nat):Int:=vl D * h - Lin.smI n fun j=>vl (P.getD j (false,0)) * g.getD j 0
theorem rsP_vl (D:Bool × Nat) (P:List (Bool × Nat)) (h:Int) (g:List Int):∀ j,vl (rsP D P h g j)=rsV D P h g j
  | 0=>by unfold rsV;rw [rsP,vl_tm,Lin.smI];omega
  | j+1=>by
    have:=rsP_vl D P h g j
    unfold rsV at this ⊢
    rw [rsP,vl_pl,vl_ng,vl_tm,this,Lin.smI];omega
structure BdB (D:Bool × Nat) (P:List (Bool × Nat)) (G:List (List Int)) (H:List Int) (DM PM RM GM:Nat):Prop where
  d:D.2≤DM
  p:∀ x ∈ P,x.2≤PM
  h:∀ x ∈ H,x.natAbs≤RM
  g:∀ r ∈ G,r.length=P.length∧∀ x ∈ r,x.natAbs≤GM
  l:P.length=G.length∧H.length=G.length∧G.length≤5
  b:DM * RM+5 * (PM * GM)<170141183460469231731687303715884105728
  s:DM<170141183460469231731687303715884105728∧PM<170141183460469231731687303715884105728∧RM≤1000000000000000000∧GM≤1000000000000000000
theorem rsP_le {D:Bool × Nat} {P:List (Bool × Nat)} {h:Int} {g:List Int} {DM PM RM GM:Nat} (hD:D.2≤DM) (hP:∀ x ∈ P,x.2≤PM) (hh:h.natAbs≤RM) (hg:∀ x ∈ g,x.natAbs≤GM):∀ j,j≤P.length→j≤g.length→(rsP D P h g j).2≤DM * RM+j * (PM * GM)
  | 0,_,_=>by
    rw [Nat.zero_mul,Nat.add_zero]
    exact Nat.mul_le_mul hD hh
  | j+1,h1,h2=>by
    have ih:=rsP_le hD hP hh hg j (by omega) (by omega)
    rw [rsP,Nat.succ_mul]
    refine Nat.le_trans (plP_le _ _) ?_
    have e:(ngP (tmP (P.getD j (false,0)) (g.getD j 0))).2=(P.getD j (false,0)).2 * (g.getD j 0).natAbs:=rfl
    rw [e,getD_at (show j<g.length by omega),List.getD_eq_getElem?_getD,List.getElem?_eq_getElem (show j<P.length by omega),Option.getD_some]
    have:=Nat.mul_le_mul (hP _ (List.getElem_mem (show j<P.length by omega))) (hg _ (List.getElem_mem (show j<g.length by omega)))
    omega
def okB (D:Bool × Nat) (P:List (Bool × Nat)) (G:List (List Int)) (H:List Int) (k:Nat):Bool:=decide (0≤vl (P.getD k (false,0))) && decide (rsV D P (H.getD k 0) (G.getD k []) P.length≤0)
def isB (D:Bool × Nat) (P:List (Bool × Nat)) (G:List (List Int)) (H:List Int):Bool:=(List.range G.length).all fun k=>okB D P G H k
theorem isB_no {D:Bool × Nat} {P:List (Bool × Nat)} {G:List (List Int)} {H:List Int} {k:Nat} (h:k<G.length) (hk:okB D P G H k=false):isB D P G H=false:=by
  unfold isB
  rw [List.all_eq_false]
  exact ⟨k,List.mem_range.2 h,by rw [hk];decide⟩
theorem isB_yes {D:Bool × Nat} {P:List (Bool × Nat)} {G:List (List Int)} {H:List Int} (h:∀ k,k<G.length→okB D P G H k=true):isB D P G H=true:=by
  unfold isB
  rw [List.all_eq_true]
  exact fun k hk=>h k (List.mem_range.1 hk)
theorem sign_lt (x:Int):(x.sign<0)=(x<0):=by
  rcases Int.lt_trichotomy x 0 with g | g | g
  · rw [Int.sign_eq_neg_one_of_neg g];simp [g]
  · rw [g];simp
  · rw [Int.sign_eq_one_of_pos g];simp;omega
theorem sign_gt (x:Int):(0<x.sign)=(0<x):=by
  rcases Int.lt_trichotomy x 0 with g | g | g
  · rw [Int.sign_eq_neg_one_of_neg g];simp;omega
  · rw [g];simp
  · rw [Int.sign_eq_one_of_pos g];simp [g]

set_option maxHeartbeats 2000000 in
theorem isBest_s {D:Bool × Nat} {P:List (Bool × Nat)} {G:List (List Int)} {H:List Int} {DM PM RM GM:Nat} (B:BdB D P G H DM PM RM GM) :
    Sound Tryz.prog 95 [.agg [.sl (lls G),.sl (ints H)],wdA D.1 D.2,.sl (w2s P)] (.bool (isB D P G H)):=by
  refine sound_W f_pulse_problem_isBest (Nat.le_of_ble_eq_true rfl) ?_
  obtain ⟨b1,b2,b3,b4,⟨b5,b6,b7⟩,b8,b9,b10,b11,b12⟩:=B
  have hmax:=maxLen_big
  unfold wdA
  simp only [c_pulse_problem_isBest,lls_length,vcV,vcD,Int.reduceEq,Int.reduceNe,Int.reduceLT,Int.reduceLE,Nat.reduceEqDiff,Nat.reduceAdd,reduceIte,reduceCtorEq,Nat.reduceLT,Nat.reduceLeDiff,eq_self,vcP2,Nat.reduceShiftRight,Nat.reduceMod]
  refine W_loop (t:=.mk) (α:=PSigma fun i:Nat=>i≤G.length∧∀ k,k<i→okB D P G H k=true) (fun ⟨i,_⟩=>(envOf [(2,.sl (w2s P)),(3,.ptr 3 0 0),(4,.ptr 4 0 0),(13,.sl (lls G)),(14,.int .i64 G.length),(15,.int .i64 i)],stOf [(3,⟨151,2,[.agg [.sl (lls G),.sl (ints H)]]⟩),(4,⟨157,3,[wdA D.1 D.2]⟩)])) (fun x=>G.length - x.1) ⟨0,Nat.zero_le _,fun k hk=>by omega⟩ ?_ (fun ⟨i,hiS,hno⟩=>?_)
  · refine weakX [] (of_decide_eq_true rfl) (of_decide_eq_true rfl) ?_
    (simp only [wdA,vcW,vcV,vcD,Int.reduceEq,Int.reduceNe,Int.reduceLT,Int.reduceLE,Nat.reduceEqDiff,Nat.reduceAdd,reduceIte,reduceCtorEq,Nat.reduceLT,Nat.reduceLeDiff,eq_self,vcP2,Nat.reduceShiftRight,Nat.reduceMod])
    (repeat' first | exact trivial | (with_reducible first | exact RnB.fxB (ints_fxB _) | rfl | refine And.intro ?_ ?_) | (with_reducible (first | refine RnB.bb ?_ | refine RnB.nb ?_);simp only [vcW,vcV,vcD,Int.reduceEq,Int.reduceNe,Int.reduceLT,Int.reduceLE,Nat.reduceEqDiff,Nat.reduceAdd,reduceIte,reduceCtorEq,Nat.reduceLT,Nat.reduceLeDiff,eq_self,vcP2,Nat.reduceShiftRight,Nat.reduceMod]) | (with_reducible first | refine RnB.ii ?_ | refine RnB.app ?_) | (with_reducible refine RnB.fxB ?_;simp only [vcW,vcV,vcD,Int.reduceEq,Int.reduceNe,Int.reduceLT,Int.reduceLE,Nat.reduceEqDiff,Nat.reduceAdd,reduceIte,reduceCtorEq,Nat.reduceLT,Nat.reduceLeDiff,eq_self,vcP2,Nat.reduceShiftRight,Nat.reduceMod]) | omega)
  · dsimp only at hiS hno ⊢
    by_cases h':i<G.length
    · have hc1:(i:Int)<G.length:=by omega
      obtain ⟨r1,r2⟩:=b4 _ (List.getElem_mem h')
      have hh:=b3 _ (List.getElem_mem (show i<H.length by omega))
      have hHd:H.getD i 0=H[i]:=getD_at _
      have hGd:G.getD i []=G[i]:=by rw [List.getD_eq_getElem?_getD,List.getElem?_eq_getElem h'];rfl
      obtain ⟨g,hg⟩:∃ g,g=G[i]:=⟨_,rfl⟩
      obtain ⟨y,hy⟩:∃ y,y=H[i]'(by omega):=⟨_,rfl⟩
      have hgr:(lls G)[i]?=some (.sl (ints g)):=by rw [hg];exact lls_get G i h'
      have hhr:(ints H)[i]?=some (.int .i64 y):=by rw [hy];exact ints_get H i (by omega)
      rw [← hg] at r1 r2 hGd
      rw [← hy] at hh hHd
      have hle:∀ j:Nat,j≤P.length→(rsP D P y g j).2<170141183460469231731687303715884105728:=fun j hj=>by
        have h1:=rsP_le b1 b2 hh r2 j hj (by omega)
        have h2:j * (PM * GM)≤5 * (PM * GM):=Nat.mul_le_mul_right _ (by omega)
        omega
      have h0:=hle 0 (by omega)
      have hT:=tmP_s D y (by unfold S63;omega) (by unfold W128;show (rsP D P y g 0).2<_;omega) (by unfold W128;omega)
      have hT':Sound Tryz.prog 108 [wdA D.1 D.2,.int .i64 y] (wdA (rsP D P y g 0).1 (rsP D P y g 0).2):=hT
      unfold wdA at hT' ⊢
      simp only [hc1,hgr,hhr,vcV,vcD,Int.reduceEq,Int.reduceNe,Int.reduceLT,Int.reduceLE,Nat.reduceEqDiff,Nat.reduceAdd,reduceIte,reduceCtorEq,Nat.reduceLT,Nat.reduceLeDiff,eq_self,vcP2,Nat.reduceShiftRight,Nat.reduceMod]
      (repeat (with_reducible refine And.intro ?_ ?_;focus (first | omega | (unfold I64;omega))))
      refine callS_of hT' ?_
      simp only [vcV,vcD,Int.reduceEq,Int.reduceNe,Int.reduceLT,Int.reduceLE,Nat.reduceEqDiff,Nat.reduceAdd,reduceIte,reduceCtorEq,Nat.reduceLT,Nat.reduceLeDiff,eq_self,vcP2,Nat.reduceShiftRight,Nat.reduceMod]
      refine W_loop (t:=.mk) (α:=PSigma fun j:Nat=>j≤P.length) (fun ⟨j,_⟩=>(envOf [(2,.sl (w2s P)),(3,.ptr 3 0 0),(4,.ptr 4 0 0),(7,.int .i64 i),(8,.sl (ints g)),(9,.ptr 9 0 0),(13,.sl (lls G)),(14,.int .i64 G.length),(15,.int .i64 i),(27,.sl (w2s P)),(28,.int .i64 P.length),(29,.int .i64 j)],stOf [(3,⟨151,2,[.agg [.sl (lls G),.sl (ints H)]]⟩),(4,⟨157,3,[wdA D.1 D.2]⟩),(9,⟨157,3,[wdA (rsP D P y g j).1 (rsP D P y g j).2]⟩)])) (fun x=>P.length - x.1) ⟨0,Nat.zero_le _⟩ ?_ (fun ⟨j,hjS⟩=>?_)
      · refine weakX [] (of_decide_eq_true rfl) (of_decide_eq_true rfl) ?_
        (simp only [w2s_length,wdA,vcW,vcV,vcD,Int.reduceEq,Int.reduceNe,Int.reduceLT,Int.reduceLE,Nat.reduceEqDiff,Nat.reduceAdd,reduceIte,reduceCtorEq,Nat.reduceLT,Nat.reduceLeDiff,eq_self,vcP2,Nat.reduceShiftRight,Nat.reduceMod])
        (repeat' first | exact trivial | (with_reducible first | exact RnB.fxB (ints_fxB _) | rfl | refine And.intro ?_ ?_) | (with_reducible (first | refine RnB.bb ?_ | refine RnB.nb ?_);simp only [vcW,vcV,vcD,Int.reduceEq,Int.reduceNe,Int.reduceLT,Int.reduceLE,Nat.reduceEqDiff,Nat.reduceAdd,reduceIte,reduceCtorEq,Nat.reduceLT,Nat.reduceLeDiff,eq_self,vcP2,Nat.reduceShiftRight,Nat.reduceMod]) | (with_reducible first | refine RnB.ii ?_ | refine RnB.app ?_) | (with_reducible refine RnB.fxB ?_;simp only [vcW,vcV,vcD,Int.reduceEq,Int.reduceNe,Int.reduceLT,Int.reduceLE,Nat.reduceEqDiff,Nat.reduceAdd,reduceIte,reduceCtorEq,Nat.reduceLT,Nat.reduceLeDiff,eq_self,vcP2,Nat.reduceShiftRight,Nat.reduceMod]) | omega)
      · dsimp only at hjS ⊢
        by_cases h2:j<P.length
        · have hc2:(j:Int)<P.length:=by omega
          have hPd:P.getD j (false,0)=P[j]:=by rw [List.getD_eq_getElem?_getD,List.getElem?_eq_getElem h2];rfl
          have hp:=b2 _ (List.getElem_mem h2)
          obtain ⟨p,hpd⟩:∃ p,p=P[j]:=⟨_,rfl⟩
          have hpg:(w2s P)[j]?=some (wdA p.1 p.2):=by rw [hpd];exact w2s_get P j h2
          rw [← hpd] at hp hPd
          obtain ⟨z,hz⟩:∃ z,z=g[j]'(by omega):=⟨_,rfl⟩
          have hzb:=r2 _ (List.getElem_mem (show j<g.length by omega))
          have hzg:(ints g)[j]?=some (.int .i64 z):=by rw [hz];exact ints_get g j (by omega)
          have hgd:g.getD j 0=g[j]'(by omega):=getD_at _
          rw [← hz] at hzb hgd
          have hnx:rsP D P y g (j+1)=plP (rsP D P y g j) (ngP (tmP p z)):=by rw [rsP,hPd,hgd]
          have hl1:=hle j (by omega)
          have hpz:p.2 * z.natAbs≤PM * GM:=Nat.mul_le_mul hp hzb
          have hM1:=tmP_s p z (by unfold S63;omega) (by unfold W128;omega) (by unfold W128;omega)
          have hM2:=ngP_s (tmP p z)
          have hM3:=plP_s (rsP D P y g j) (ngP (tmP p z)) (by unfold W128;have:(ngP (tmP p z)).2=p.2 * z.natAbs:=rfl;omega)
          rw [← hnx] at hM3
          unfold wdA at hM1 hM2 hM3 hpg ⊢
          simp only [hc2,hpg,hzg,vcV,vcD,Int.reduceEq,Int.reduceNe,Int.reduceLT,Int.reduceLE,Nat.reduceEqDiff,Nat.reduceAdd,reduceIte,reduceCtorEq,Nat.reduceLT,Nat.reduceLeDiff,eq_self,vcP2,Nat.reduceShiftRight,Nat.reduceMod]
          (repeat (with_reducible refine And.intro ?_ ?_;focus (first | omega | (unfold I64;omega))))
          refine callS_of hM1 ?_
          simp only [vcV,vcD,Int.reduceEq,Int.reduceNe,Int.reduceLT,Int.reduceLE,Nat.reduceEqDiff,Nat.reduceAdd,reduceIte,reduceCtorEq,Nat.reduceLT,Nat.reduceLeDiff,eq_self,vcP2,Nat.reduceShiftRight,Nat.reduceMod]
          refine callS_of hM2 ?_
          simp only [vcV,vcD,Int.reduceEq,Int.reduceNe,Int.reduceLT,Int.reduceLE,Nat.reduceEqDiff,Nat.reduceAdd,reduceIte,reduceCtorEq,Nat.reduceLT,Nat.reduceLeDiff,eq_self,vcP2,Nat.reduceShiftRight,Nat.reduceMod]
          refine callS_of hM3 ?_
          simp only [vcV,vcD,Int.reduceEq,Int.reduceNe,Int.reduceLT,Int.reduceLE,Nat.reduceEqDiff,Nat.reduceAdd,reduceIte,reduceCtorEq,Nat.reduceLT,Nat.reduceLeDiff,eq_self,vcP2,Nat.reduceShiftRight,Nat.reduceMod]
          (repeat (with_reducible refine And.intro ?_ ?_;focus (first | omega | (unfold I64;omega))))
          refine ⟨⟨j+1,h2⟩,by simp only;omega,?_⟩
          refine weakX [] (of_decide_eq_true rfl) (of_decide_eq_true rfl) ?_
          (simp only [wdA,vcW,vcV,vcD,Int.reduceEq,Int.reduceNe,Int.reduceLT,Int.reduceLE,Nat.reduceEqDiff,Nat.reduceAdd,reduceIte,reduceCtorEq,Nat.reduceLT,Nat.reduceLeDiff,eq_self,vcP2,Nat.reduceShiftRight,Nat.reduceMod])
          (repeat' first | exact trivial | (with_reducible first | exact RnB.fxB (ints_fxB _) | rfl | refine And.intro ?_ ?_) | (with_reducible (first | refine RnB.bb ?_ | refine RnB.nb ?_);simp only [vcW,vcV,vcD,Int.reduceEq,Int.reduceNe,Int.reduceLT,Int.reduceLE,Nat.reduceEqDiff,Nat.reduceAdd,reduceIte,reduceCtorEq,Nat.reduceLT,Nat.reduceLeDiff,eq_self,vcP2,Nat.reduceShiftRight,Nat.reduceMod]) | (with_reducible first | refine RnB.ii ?_ | refine RnB.app ?_) | (with_reducible refine RnB.fxB ?_;simp only [vcW,vcV,vcD,Int.reduceEq,Int.reduceNe,Int.reduceLT,Int.reduceLE,Nat.reduceEqDiff,Nat.reduceAdd,reduceIte,reduceCtorEq,Nat.reduceLT,Nat.reduceLeDiff,eq_self,vcP2,Nat.reduceShiftRight,Nat.reduceMod]) | omega)
        · have hjl:j=P.length:=by omega
          subst hjl
          have hc2:¬ (P.length:Int)<P.length:=by omega
          have hiP:i<P.length:=by omega
          have hPd:P.getD i (false,0)=P[i]:=by rw [List.getD_eq_getElem?_getD,List.getElem?_eq_getElem hiP];rfl
          have hp:=b2 _ (List.getElem_mem hiP)
          obtain ⟨p,hpd⟩:∃ p,p=P[i]:=⟨_,rfl⟩
          have hpg:(w2s P)[i]?=some (wdA p.1 p.2):=by rw [hpd];exact w2s_get P i hiP
          rw [← hpd] at hp hPd
          have hl1:=hle P.length (by omega)
          have hrv:=rsP_vl D P y g P.length
          have hok:okB D P G H i=(decide (0≤vl p) && decide (rsV D P y g P.length≤0)):=by unfold okB;rw [hPd,hHd,hGd]
          have hS1:=sign_s p (by unfold W128;omega)
          have hS2:=sign_s (rsP D P y g P.length) (by unfold W128;omega)
          rw [hrv] at hS2
          generalize rsV D P y g P.length=V at *
          unfold wdA at hS1 hS2 hpg ⊢
          simp only [hc2,hpg,vcV,vcD,Int.reduceEq,Int.reduceNe,Int.reduceLT,Int.reduceLE,Nat.reduceEqDiff,Nat.reduceAdd,reduceIte,reduceCtorEq,Nat.reduceLT,Nat.reduceLeDiff,eq_self,vcP2,Nat.reduceShiftRight,Nat.reduceMod]
          (repeat (with_reducible refine And.intro ?_ ?_;focus (first | omega | (unfold I64;omega))))
          refine callS_of hS1 ?_
          by_cases q1:vl p<0
          · have hb:=isB_no h' (by rw [hok,decide_eq_false (show ¬ 0≤vl p by omega),Bool.false_and])
            simp only [sign_lt,q1,hb,vcV,vcD,Int.reduceEq,Int.reduceNe,Int.reduceLT,Int.reduceLE,Nat.reduceEqDiff,Nat.reduceAdd,reduceIte,reduceCtorEq,Nat.reduceLT,Nat.reduceLeDiff,eq_self,vcP2,Nat.reduceShiftRight,Nat.reduceMod]
          · simp only [sign_lt,q1,vcV,vcD,Int.reduceEq,Int.reduceNe,Int.reduceLT,Int.reduceLE,Nat.reduceEqDiff,Nat.reduceAdd,reduceIte,reduceCtorEq,Nat.reduceLT,Nat.reduceLeDiff,eq_self,vcP2,Nat.reduceShiftRight,Nat.reduceMod]
            refine callS_of hS2 ?_
            by_cases q2:0<V
            · have hb:=isB_no h' (by rw [hok,decide_eq_false (show ¬ V≤0 by omega),Bool.and_false])
              simp only [sign_gt,q2,hb,vcV,vcD,Int.reduceEq,Int.reduceNe,Int.reduceLT,Int.reduceLE,Nat.reduceEqDiff,Nat.reduceAdd,reduceIte,reduceCtorEq,Nat.reduceLT,Nat.reduceLeDiff,eq_self,vcP2,Nat.reduceShiftRight,Nat.reduceMod]
            · simp only [sign_gt,q2,vcV,vcD,Int.reduceEq,Int.reduceNe,Int.reduceLT,Int.reduceLE,Nat.reduceEqDiff,Nat.reduceAdd,reduceIte,reduceCtorEq,Nat.reduceLT,Nat.reduceLeDiff,eq_self,vcP2,Nat.reduceShiftRight,Nat.reduceMod]
              (repeat (with_reducible refine And.intro ?_ ?_;focus (first | omega | (unfold I64;omega))))
              refine ⟨⟨i+1,by omega,fun k hk=>?_⟩,by simp only;omega,?_⟩
              · by_cases e:k=i
                · subst e;rw [hok];simp;omega
                · exact hno k (by omega)
              · refine weakX [] (of_decide_eq_true rfl) (of_decide_eq_true rfl) ?_
                (simp only [wdA,vcW,vcV,vcD,Int.reduceEq,Int.reduceNe,Int.reduceLT,Int.reduceLE,Nat.reduceEqDiff,Nat.reduceAdd,reduceIte,reduceCtorEq,Nat.reduceLT,Nat.reduceLeDiff,eq_self,vcP2,Nat.reduceShiftRight,Nat.reduceMod])
                (repeat' first | exact trivial | (with_reducible first | exact RnB.fxB (ints_fxB _) | rfl | refine And.intro ?_ ?_) | (with_reducible (first | refine RnB.bb ?_ | refine RnB.nb ?_);simp only [vcW,vcV,vcD,Int.reduceEq,Int.reduceNe,Int.reduceLT,Int.reduceLE,Nat.reduceEqDiff,Nat.reduceAdd,reduceIte,reduceCtorEq,Nat.reduceLT,Nat.reduceLeDiff,eq_self,vcP2,Nat.reduceShiftRight,Nat.reduceMod]) | (with_reducible first | refine RnB.ii ?_ | refine RnB.app ?_) | (with_reducible refine RnB.fxB ?_;simp only [vcW,vcV,vcD,Int.reduceEq,Int.reduceNe,Int.reduceLT,Int.reduceLE,Nat.reduceEqDiff,Nat.reduceAdd,reduceIte,reduceCtorEq,Nat.reduceLT,Nat.reduceLeDiff,eq_self,vcP2,Nat.reduceShiftRight,Nat.reduceMod]) | omega)
    · have hil:i=G.length:=by omega
      subst hil
      have hc1:¬ (G.length:Int)<G.length:=by omega
      rw [isB_yes hno]
      unfold wdA
      simp only [hc1,vcV,vcD,Int.reduceEq,Int.reduceNe,Int.reduceLT,Int.reduceLE,Nat.reduceEqDiff,Nat.reduceAdd,reduceIte,reduceCtorEq,Nat.reduceLT,Nat.reduceLeDiff,eq_self,vcP2,Nat.reduceShiftRight,Nat.reduceMod]
end Go.Proofs.YtgmpcbpmnimkoaaGreatDoor

/- Contracts off the library's shelf: slices.Clone. By an AI agent;nothing here is trusted. -/
namespace Go.Proofs.YtgmpcbpmnimkoaaGreatDoor
open Go.Av
open Go.RowKit (Below)

def cloneRen:Go.Shelf.Ren:=⟨fun x=>match x with | 15=>170 | n=>n,fun x=>match x with | 22=>22 | 3=>3 | 4=>4 | n=>n,fun x=>x⟩
set_option maxRecDepth 100000 in
theorem cloneFn:Tryz.prog.funcs[cloneRen.f 15]?=some (Go.Proofs.Body2.n15 cloneRen):=by kernel_rfl
theorem cloneLay:Go.Proofs.Lays2.n15 Tryz.prog cloneRen :=
  { mixed:=by kernel_rfl,f15:=cloneFn,
    t3:=Tryz.underlying3,a3:=Tryz.isAgg3,z3:=Tryz.sizeOf3,v3:=Tryz.zeroValue3,t4:=Tryz.underlying4,
    a4:=Tryz.isAgg4,z4:=Tryz.sizeOf4,v4:=Tryz.zeroValue4,t22:=Tryz.underlying22,a22:=Tryz.isAgg22,
    z22:=Tryz.sizeOf22,v22:=Tryz.zeroValue22,i3:=by kernel_rfl }

theorem ints_at {l:List Int} {i:Nat} {x:AV} (h:(ints l)[i]?=some x):∃ hi:i<l.length,x=.int .i64 l[i]:=by
  have hi:i<l.length:=by
    have:=(List.getElem?_eq_some_iff.1 h).1
    rw [ints_length] at this;exact this
  rw [ints_get l i hi] at h
  exact ⟨hi,by injection h with h;exact h.symm⟩
theorem own_sl {w':World} {B:Nat} {e:TypeId} {v:Value} {l:List Int} {ok:Nat→Prop} (h:w'.ownsRow B e 1 v l.length (l.map (Value.int .i64))) :
    VR w'.heap (fun b=>ok b∨(B≤b∧b<w'.heap.size)) noPlace noStore (.sl (ints l)) v:=by
  obtain ⟨_,h⟩:=h
  rcases h with ⟨rfl,hn⟩ | ⟨g,cap,cur,rfl,hg,hb,hn,hcap,hcur,hx⟩
  · have:l=[]:=List.eq_nil_of_length_eq_zero hn
    subst this
    exact .sl0 none 0
  · have hlen:(ints l).length=l.length:=ints_length l
    rw [← hlen] at hn ⊢
    refine .sl (ints l) g 0 1 cap cur e (0,0) (fun i _=>.int .i64 (l.getD i 0)) (.inr ⟨hg,(Array.getElem?_eq_some_iff.1 hb).1⟩) hn hb ?_ ?_ ?_
    · intro i x hi
      obtain ⟨_,rfl⟩:=ints_at hi
      exact ⟨rfl,fun c hc=>by rw [List.mem_singleton.1 hc];rfl,rfl⟩
    · intro i x o c hi ho
      obtain ⟨hil,rfl⟩:=ints_at hi
      have h0:o=0:=by
        cases o with
        | zero=>rfl
        | succ o=>simp [cellsOf] at ho
      subst h0
      have h1:(cur.toList.take (l.length * 1))[i]?=(l.map (Value.int .i64))[i]?:=by rw [hx]
      rw [List.getElem?_take,if_pos (by omega),Array.getElem?_toList,List.getElem?_map,List.getElem?_eq_getElem hil] at h1
      show cur[0+i * 1+0]?=some (.int .i64 (l.getD i 0))
      rw [show 0+i * 1+0=i by omega,h1]
      simp [List.getD,List.getElem?_eq_getElem hil]
    · intro i x o c hi ho
      obtain ⟨hil,rfl⟩:=ints_at hi
      cases o with
      | zero =>
        simp [cellsOf] at ho
        subst ho
        show VR _ _ _ _ _ (.int .i64 (l.getD i 0))
        rw [show l.getD i 0=l[i] by simp [List.getD,List.getElem?_eq_getElem hil]]
        exact .int _ _
      | succ o=>simp [cellsOf] at ho

theorem Clone_s (l:List Int) (hl:l.length≤1000000000):Sound Tryz.prog 170 [.sl (ints l)] (.sl (ints l)):=by
  intro w ok cargs hok _ hlen hargs
  have h0:=hargs 0 _ rfl
  have hc1:cargs=#[cargs.getD 0 undef]:=by
    apply Array.ext
    · simpa using hlen
    · intro i h1 h2
      simp at h2
      subst h2
      simp [Array.getD,h1]
  rw [hc1]
  generalize cargs.getD 0 undef=v at h0
  have hin:∀ v,(callFunc 170 #[v]).run Tryz.prog w=.ok (.enter 170 #[v]) w:=fun v =>
    Go.Av.callFunc_enter Tryz.func170 (by kernel_rfl) rfl #[v]
  cases l with
  | nil =>
    have h1:VR w.heap ok noPlace noStore (.sl []) v:=h0
    show CallsF _ _ _ _ fun cv w'=>Below w.heap.size w w'∧VR w'.heap (fun b=>ok b∨(w.heap.size≤b∧b<w'.heap.size)) noPlace noStore (.sl (ints [])) cv
    cases h1 with
    | sl0 a cap =>
      cases a with
      | none =>
        refine .inr ⟨hin _,(Any.slices_Clone_int_nil cloneLay 0 cap w).mono fun e w' ⟨he,hw⟩=>⟨_,he,?_,?_⟩⟩
        · rw [hw];exact Below.refl _ _
        · exact .sl0 none 0
      | some a =>
        refine .inr ⟨hin _,(Any.slices_Clone_int_zero cloneLay a cap w).mono fun e w' ⟨v',he,ho,_,hB⟩=>⟨v',he,hB,?_⟩⟩
        exact own_sl (l:=[]) ho
    | sl _ b off s cap cur ty fr vals hok' hcap hb hs hc hv =>
      refine .inr ⟨hin _,(Any.slices_Clone_int_zero cloneLay ⟨b,off,none⟩ cap w).mono fun e w' ⟨v',he,ho,_,hB⟩=>⟨v',he,hB,?_⟩⟩
      exact own_sl (l:=[]) ho
  | cons x r =>
    have hpos:0<(x :: r).length:=by simp
    generalize x :: r=l at *
    generalize hes:ints l=es at h0
    cases h0 with
    | sl0 a cap=>rw [← ints_length,hes] at hpos;simp at hpos
    | sl _ b off s cap cur ty fr vals hok' hcap hb hs hc hv =>
      subst hes
      have hs1:s=1:=(hs 0 _ (ints_get l 0 hpos)).1.symm
      subst hs1
      have hcell:∀ j,j<l.length→w.cell? ⟨b,off+j,none⟩=some (.int .i64 (l.getD j 0)):=by
        intro j hj
        have h1:=hc j _ 0 _ (ints_get l j hj) rfl
        have h2:=hv j _ 0 _ (ints_get l j hj) rfl
        generalize vals j 0=u at h1 h2
        cases h2
        rw [show off+j * 1+0=off+j by omega] at h1
        simp [World.cell?,hb,h1,List.getD,List.getElem?_eq_getElem hj]
      have hlen:(ints l).length=l.length:=ints_length l
      rw [hlen]
      refine .inr ⟨hin _,(Any.slices_Clone_int cloneLay b off l.length cap l w (Nat.le_refl _) (by omega) hcell).mono fun e w' ⟨v',he,ho,_,hB⟩=>⟨v',he,hB,?_⟩⟩
      rw [List.take_length] at ho
      exact own_sl ho

theorem own_o {w w':World} {ok:Nat→Prop} {e:Nat} {v:Value} {l:List Int} (h:w'.ownsRow w.heap.size e 1 v l.length (l.map (Value.int .i64))):OwnR w w' ok e 1 (ints l) v:=by
  obtain ⟨_,h⟩:=h
  rcases h with ⟨rfl,hn⟩ | ⟨g,cap,cur,rfl,hg,hb,hn,hcap,hcur,hx⟩
  · have:l=[]:=List.eq_nil_of_length_eq_zero hn
    subst this
    exact .inl ⟨rfl,none,rfl⟩
  · have hlen:(ints l).length=l.length:=ints_length l
    rw [← hlen] at hn ⊢
    refine .inr ⟨g,cap,cur,rfl,hg,hb,hn,hcap,hcur,fun i x hi=>?_⟩
    obtain ⟨hil,rfl⟩:=ints_at hi
    refine ⟨rfl,fun c hc=>by rw [List.mem_singleton.1 hc];rfl,fun o c ho=>?_⟩
    cases o with
    | zero =>
      simp [cellsOf] at ho
      subst ho
      have h1:(cur.toList.take (l.length * 1))[i]?=(l.map (Value.int .i64))[i]?:=by rw [hx]
      rw [List.getElem?_take,if_pos (by omega),Array.getElem?_toList,List.getElem?_map,List.getElem?_eq_getElem hil] at h1
      exact ⟨_,by rw [show i * 1+0=i by omega];exact h1,.int _ _⟩
    | succ o=>simp [cellsOf] at ho
theorem Clone_o (l:List Int) (hl:l.length≤1000000000):SoundO Tryz.prog 170 [.sl (ints l)] 3 1 (ints l):=by
  refine ⟨by omega,?_⟩
  intro w ok cargs hok _ hlen hargs
  have h0:=hargs 0 _ rfl
  have hc1:cargs=#[cargs.getD 0 undef]:=by
    apply Array.ext
    · simpa using hlen
    · intro i h1 h2
      simp at h2
      subst h2
      simp [Array.getD,h1]
  rw [hc1]
  generalize cargs.getD 0 undef=v at h0
  have hin:∀ v,(callFunc 170 #[v]).run Tryz.prog w=.ok (.enter 170 #[v]) w:=fun v =>
    Go.Av.callFunc_enter Tryz.func170 (by kernel_rfl) rfl #[v]
  cases l with
  | nil =>
    have h1:VR w.heap ok noPlace noStore (.sl []) v:=h0
    show CallsF _ _ _ _ fun cv w'=>Below w.heap.size w w'∧OwnR w w' ok 3 1 (ints []) cv
    cases h1 with
    | sl0 a cap =>
      cases a with
      | none =>
        refine .inr ⟨hin _,(Any.slices_Clone_int_nil cloneLay 0 cap w).mono fun e w' ⟨he,hw⟩=>⟨_,he,?_,?_⟩⟩
        · rw [hw];exact Below.refl _ _
        · exact .inl ⟨rfl,none,rfl⟩
      | some a =>
        refine .inr ⟨hin _,(Any.slices_Clone_int_zero cloneLay a cap w).mono fun e w' ⟨v',he,ho,_,hB⟩=>⟨v',he,hB,?_⟩⟩
        exact own_o (l:=[]) ho
    | sl _ b off s cap cur ty fr vals hok' hcap hb hs hc hv =>
      refine .inr ⟨hin _,(Any.slices_Clone_int_zero cloneLay ⟨b,off,none⟩ cap w).mono fun e w' ⟨v',he,ho,_,hB⟩=>⟨v',he,hB,?_⟩⟩
      exact own_o (l:=[]) ho
  | cons x r =>
    have hpos:0<(x :: r).length:=by simp
    generalize x :: r=l at *
    generalize hes:ints l=es at h0
    cases h0 with
    | sl0 a cap=>rw [← ints_length,hes] at hpos;simp at hpos
    | sl _ b off s cap cur ty fr vals hok' hcap hb hs hc hv =>
      subst hes
      have hs1:s=1:=(hs 0 _ (ints_get l 0 hpos)).1.symm
      subst hs1
      have hcell:∀ j,j<l.length→w.cell? ⟨b,off+j,none⟩=some (.int .i64 (l.getD j 0)):=by
        intro j hj
        have h1:=hc j _ 0 _ (ints_get l j hj) rfl
        have h2:=hv j _ 0 _ (ints_get l j hj) rfl
        generalize vals j 0=u at h1 h2
        cases h2
        rw [show off+j * 1+0=off+j by omega] at h1
        simp [World.cell?,hb,h1,List.getD,List.getElem?_eq_getElem hj]
      have hlen:(ints l).length=l.length:=ints_length l
      rw [hlen]
      refine .inr ⟨hin _,(Any.slices_Clone_int cloneLay b off l.length cap l w (Nat.le_refl _) (by omega) hcell).mono fun e w' ⟨v',he,ho,_,hB⟩=>⟨v',he,hB,?_⟩⟩
      rw [List.take_length] at ho
      exact own_o ho
end Go.Proofs.YtgmpcbpmnimkoaaGreatDoor

/- The solution for a set of ticks. By an AI agent;nothing here is trusted. -/
namespace Go.Proofs.YtgmpcbpmnimkoaaGreatDoor
open Go.Av

def ntA (T:List Nat):List Int:=T.map fun k:Nat=>(k:Int)
theorem ntA_len (T:List Nat):(ntA T).length=T.length:=by simp [ntA]
theorem ntA_get (T:List Nat) (i:Nat) (h:i<T.length):(ints (ntA T))[i]?=some (.int .i64 (T[i]:Int)):=by simp [ntA,ints,h]
def sqQ (G:List (List Int)) (T:List Nat) (k j:Nat):List Int:=(T.take j).map fun m=>ent G k m
def sqP (G:List (List Int)) (T:List Nat) (i:Nat):List (List Int):=(T.take i).map fun k=>sqQ G T k T.length
theorem sqQ_succ (G:List (List Int)) (T:List Nat) (k:Nat) {j:Nat} (h:j<T.length):sqQ G T k (j+1)=sqQ G T k j ++ [ent G k T[j]]:=by
  unfold sqQ;rw [List.take_succ_eq_append_getElem h,List.map_append];rfl
theorem sqP_succ (G:List (List Int)) (T:List Nat) {i:Nat} (h:i<T.length):sqP G T (i+1)=sqP G T i ++ [sqQ G T T[i] T.length]:=by
  unfold sqP;rw [List.take_succ_eq_append_getElem h,List.map_append];rfl
theorem sqQ_len (G:List (List Int)) (T:List Nat) (k:Nat) {j:Nat} (h:j≤T.length):(sqQ G T k j).length=j:=by unfold sqQ;rw [List.length_map,List.length_take_of_le h]
theorem sqP_len (G:List (List Int)) (T:List Nat) {i:Nat} (h:i≤T.length):(sqP G T i).length=i:=by unfold sqP;rw [List.length_map,List.length_take_of_le h]
def rpP (G:List (List Int)) (H:List Int) (T:List Nat) (n i:Nat):List (List Int):=(T.take i).map fun k=>(sqQ G T k T.length).set n (H.getD k 0)
theorem rpP_len (G:List (List Int)) (H:List Int) (T:List Nat) (n:Nat) {i:Nat} (h:i≤T.length):(rpP G H T n i).length=i:=by unfold rpP;rw [List.length_map,List.length_take_of_le h]
theorem rpP_succ (G:List (List Int)) (H:List Int) (T:List Nat) (n:Nat) {i:Nat} (h:i<T.length):rpP G H T n (i+1)=rpP G H T n i ++ [(sqQ G T T[i] T.length).set n (H.getD T[i] 0)]:=by
  unfold rpP;rw [List.take_succ_eq_append_getElem h,List.map_append];rfl
def slP (G:List (List Int)) (H:List Int) (T:List Nat):Nat→List (Bool × Nat)
  | 0=>List.replicate H.length (false,0)
  | n+1=>(slP G H T n).set (T.getD n 0) (dtP T.length (rpP G H T n T.length))
theorem slP_len (G:List (List Int)) (H:List Int) (T:List Nat):∀ n,(slP G H T n).length=H.length
  | 0=>by simp [slP]
  | n+1=>by rw [slP,List.length_set,slP_len G H T n]
theorem w2s_set (P:List (Bool × Nat)) (i:Nat) (p:Bool × Nat):(w2s P).set i (wdA p.1 p.2)=w2s (P.set i p):=by simp [w2s,List.map_set]
theorem mkOk_w (n:Nat):mkOk 3 (List.replicate n (AV.agg [.bool false,.int .u64 0,.int .u64 0])):=by
  intro x hx
  rw [List.eq_of_mem_replicate hx]
  exact ⟨rfl,rfl,by decide⟩
theorem w2s_zero (n:Nat):List.replicate n (AV.agg [.bool false,.int .u64 0,.int .u64 0])=w2s (List.replicate n (false,0)):=by
  simp [w2s,wdA]
structure SlB (G:List (List Int)) (H:List Int) (T:List Nat) (GM RM:Nat):Prop where
  g:∀ r c,(ent G r c).natAbs≤GM
  h:∀ k,(H.getD k 0).natAbs≤RM
  gl:G.length=H.length∧H.length≤5∧∀ r ∈ G,r.length=H.length
  t:∀ k ∈ T,k<H.length
  tl:T.length≤5
  m:1≤GM∧GM≤RM∧RM≤1000000000000000000
  b:prB T.length (fun _=>RM)<170141183460469231731687303715884105728
theorem bnd_sq {G:List (List Int)} {H:List Int} {T:List Nat} {GM RM:Nat} (B:SlB G H T GM RM):bnd T.length (sqP G T T.length) fun _=>GM:=by
  intro r c hr hc
  have e:ent (sqP G T T.length) r c=ent G T[r] T[c]:=by
    unfold ent sqP sqQ
    rw [List.take_length]
    simp [hr,hc,ent]
  rw [e]
  exact B.g _ _
theorem ent_rp {G:List (List Int)} {H:List Int} {T:List Nat} {n r c:Nat} (hr:r<T.length) (hc:c<T.length):ent (rpP G H T n T.length) r c=if c=n then H.getD (T.getD r 0) 0 else ent G (T.getD r 0) (T.getD c 0):=by
  unfold ent rpP sqQ
  rw [List.take_length]
  have e1:T.getD r 0=T[r]:=by rw [List.getD_eq_getElem?_getD,List.getElem?_eq_getElem hr];rfl
  have e2:T.getD c 0=T[c]:=by rw [List.getD_eq_getElem?_getD,List.getElem?_eq_getElem hc];rfl
  rw [e1,e2]
  simp only [List.getD_eq_getElem?_getD,List.getElem?_map,List.getElem?_eq_getElem hr,Option.map_some,Option.getD_some,List.getElem?_set,List.length_map]
  by_cases e:n=c
  · subst e;rw [if_pos rfl,if_pos hc,if_pos rfl];rfl
  · rw [if_neg e,if_neg (fun q=>e q.symm)];simp [hc,ent]
theorem ent_sq {G:List (List Int)} {T:List Nat} {r c:Nat} (hr:r<T.length) (hc:c<T.length):ent (sqP G T T.length) r c=ent G (T.getD r 0) (T.getD c 0):=by
  unfold ent sqP sqQ
  rw [List.take_length]
  simp [hr,hc,ent]
theorem bnd_rp {G:List (List Int)} {H:List Int} {T:List Nat} {GM RM:Nat} (B:SlB G H T GM RM) (n:Nat):bnd T.length (rpP G H T n T.length) fun c=>if c=n then RM else GM:=by
  intro r c hr hc
  rw [ent_rp hr hc]
  simp only
  split
  · exact B.h _
  · exact B.g _ _
theorem prB_mono:∀ {n:Nat} {A B:Nat→Nat},(∀ c,c<n→A c≤B c)→prB n A≤prB n B
  | 0,_,_,_=>Nat.le_refl _
  | n+1,A,B,h=>Nat.mul_le_mul_left _ (Nat.mul_le_mul (h 0 (by omega)) (prB_mono fun c hc=>h (c+1) (by omega)))
theorem sq_mem {G:List (List Int)} {T:List Nat} {r:List Int} {i:Nat} (h:r ∈ sqP G T i):r.length=T.length:=by
  obtain ⟨k,_,rfl⟩:=List.mem_map.1 h
  exact sqQ_len _ _ _ (Nat.le_refl _)
theorem rp_mem {G:List (List Int)} {H:List Int} {T:List Nat} {r:List Int} {n i:Nat} (h:r ∈ rpP G H T n i):r.length=T.length:=by
  obtain ⟨k,_,rfl⟩:=List.mem_map.1 h
  rw [List.length_set]
  exact sqQ_len _ _ _ (Nat.le_refl _)
theorem det_sq {G:List (List Int)} {H:List Int} {T:List Nat} {GM RM:Nat} (B:SlB G H T GM RM):Sound Tryz.prog 184 [.sl (lls (sqP G T T.length))] (wdA (dtP T.length (sqP G T T.length)).1 (dtP T.length (sqP G T T.length)).2):=by
  refine determinant_s T.length _ (fun _=>GM) (by have:=B.tl;omega) (sqP_len _ _ (Nat.le_refl _)) (fun r hr=>by rw [sq_mem hr];have:=B.tl;omega) (bnd_sq B) (fun c _=>B.m.1) ?_ (fun c _=>by have:=B.m;omega)
  exact Nat.lt_of_le_of_lt (prB_mono fun c _=>B.m.2.1) B.b
theorem det_rp {G:List (List Int)} {H:List Int} {T:List Nat} {GM RM:Nat} (B:SlB G H T GM RM) (n:Nat):Sound Tryz.prog 184 [.sl (lls (rpP G H T n T.length))] (wdA (dtP T.length (rpP G H T n T.length)).1 (dtP T.length (rpP G H T n T.length)).2):=by
  have hm:=B.m
  refine determinant_s T.length _ (fun c=>if c=n then RM else GM) (by have:=B.tl;omega) (rpP_len _ _ _ _ (Nat.le_refl _)) (fun r hr=>by rw [rp_mem hr];have:=B.tl;omega) (bnd_rp B n) (fun c _=>by split <;> omega) ?_ (fun c _=>by split <;> omega)
  exact Nat.lt_of_le_of_lt (prB_mono fun c _=>by split <;> omega) B.b
set_option maxHeartbeats 4000000 in
theorem solved_s {G:List (List Int)} {H:List Int} {T:List Nat} {GM RM:Nat} (B:SlB G H T GM RM) :
    Sound Tryz.prog 94 [.agg [.sl (lls G),.sl (ints H)],.sl (ints (ntA T))] (.tup [wdA (dtP T.length (sqP G T T.length)).1 (dtP T.length (sqP G T T.length)).2,.sl (w2s (slP G H T T.length))]):=by
  refine sound_W f_pulse_problem_solved (Nat.le_of_ble_eq_true rfl) ?_
  have hmax:=maxLen_big
  have hD:=det_sq B
  have hR:=det_rp B
  obtain ⟨bg,bh,⟨bl1,bl2,bl3⟩,bt,btl,bm,bb⟩:=B
  obtain ⟨D,hDd⟩:∃ D,D=dtP T.length (sqP G T T.length):=⟨_,rfl⟩
  rw [← hDd] at hD ⊢
  have htb:∀ i (h:i<T.length),T[i]<H.length:=fun i h=>bt _ (List.getElem_mem h)
  have hgk:∀ k (h:k<H.length),∃ g:List Int,(lls G)[k]?=some (.sl (ints g))∧g.length=H.length∧∀ m (hm:m<H.length),(ints g)[m]?=some (.int .i64 (ent G k m)):=fun k h=>by
    refine ⟨G[k]'(by omega),lls_get G k (by omega),bl3 _ (List.getElem_mem _),fun m hm=>?_⟩
    have hlm:m<(G[k]'(by omega)).length:=by rw [bl3 _ (List.getElem_mem _)];exact hm
    rw [ints_get _ m hlm]
    unfold ent
    rw [List.getD_eq_getElem?_getD,List.getD_eq_getElem?_getD,List.getElem?_eq_getElem (show k<G.length by omega),Option.getD_some,List.getElem?_eq_getElem hlm];rfl
  unfold wdA at hD ⊢
  simp only [c_pulse_problem_solved,ntA_len,ints_length,vcV,vcD,Int.reduceEq,Int.reduceNe,Int.reduceLT,Int.reduceLE,Nat.reduceEqDiff,Nat.reduceAdd,reduceIte,reduceCtorEq,Nat.reduceLT,Nat.reduceLeDiff,eq_self,vcP2,Nat.reduceShiftRight,Nat.reduceMod]
  refine W_loop (t:=.mk) (α:=PSigma fun i:Nat=>i≤T.length) (fun ⟨i,_⟩=>(envOf [(1,.sl (ints (ntA T))),(2,.ptr 2 0 0),(4,.ptr 4 0 0),(5,.nils),(6,.buf 100 i),(17,.sl (ints (ntA T))),(18,.int .i64 T.length),(19,.int .i64 i)],stOf [(2,⟨151,2,[.agg [.sl (lls G),.sl (ints H)]]⟩),(4,⟨157,3,[.agg [.bool false,.int .u64 0,.int .u64 0]]⟩),(100,⟨22,1,lls (sqP G T i)⟩)])) (fun x=>T.length - x.1) ⟨0,Nat.zero_le _⟩ ?_ (fun ⟨i,hiS⟩=>?_)
  · have z:lls (sqP G T 0)=[]:=rfl
    refine weakX [(100,none)] (of_decide_eq_true rfl) (of_decide_eq_true rfl) ?_
    (simp only [z,vcW,vcV,vcD,Int.reduceEq,Int.reduceNe,Int.reduceLT,Int.reduceLE,Nat.reduceEqDiff,Nat.reduceAdd,reduceIte,reduceCtorEq,Nat.reduceLT,Nat.reduceLeDiff,eq_self,vcP2,Nat.reduceShiftRight,Nat.reduceMod])
    (repeat' first | exact trivial | (with_reducible first | exact RnB.fxB (ints_fxB _) | rfl | refine And.intro ?_ ?_) | (with_reducible (first | refine RnB.bb ?_ | refine RnB.nb ?_);simp only [vcW,vcV,vcD,Int.reduceEq,Int.reduceNe,Int.reduceLT,Int.reduceLE,Nat.reduceEqDiff,Nat.reduceAdd,reduceIte,reduceCtorEq,Nat.reduceLT,Nat.reduceLeDiff,eq_self,vcP2,Nat.reduceShiftRight,Nat.reduceMod]) | (with_reducible first | refine RnB.ii ?_ | refine RnB.app ?_) | (with_reducible refine RnB.fxB ?_;simp only [vcW,vcV,vcD,Int.reduceEq,Int.reduceNe,Int.reduceLT,Int.reduceLE,Nat.reduceEqDiff,Nat.reduceAdd,reduceIte,reduceCtorEq,Nat.reduceLT,Nat.reduceLeDiff,eq_self,vcP2,Nat.reduceShiftRight,Nat.reduceMod]) | omega)
  · dsimp only at hiS ⊢
    by_cases h':i<T.length
    · have hc1:(i:Int)<T.length:=by omega
      obtain ⟨g,hg1,hg2,hg3⟩:=hgk T[i] (htb i h')
      simp only [hc1,ntA_get T i h',vcV,vcD,Int.reduceEq,Int.reduceNe,Int.reduceLT,Int.reduceLE,Nat.reduceEqDiff,Nat.reduceAdd,reduceIte,reduceCtorEq,Nat.reduceLT,Nat.reduceLeDiff,eq_self,vcP2,Nat.reduceShiftRight,Nat.reduceMod]
      (repeat (with_reducible refine And.intro ?_ ?_;focus (first | omega | (unfold I64;omega))))
      refine W_loop (t:=.mk) (α:=PSigma fun j:Nat=>j≤T.length) (fun ⟨j,_⟩=>(envOf [(1,.sl (ints (ntA T))),(2,.ptr 2 0 0),(4,.ptr 4 0 0),(5,.nils),(6,.buf 100 i),(8,.int .i64 (T[i]:Int)),(9,.buf 101 j),(17,.sl (ints (ntA T))),(18,.int .i64 T.length),(19,.int .i64 i),(23,.sl (ints (ntA T))),(24,.int .i64 T.length),(25,.int .i64 j)],stOf [(2,⟨151,2,[.agg [.sl (lls G),.sl (ints H)]]⟩),(4,⟨157,3,[.agg [.bool false,.int .u64 0,.int .u64 0]]⟩),(100,⟨22,1,lls (sqP G T i)⟩),(101,⟨3,1,ints (sqQ G T T[i] j)⟩)])) (fun x=>T.length - x.1) ⟨0,Nat.zero_le _⟩ ?_ (fun ⟨j,hjS⟩=>?_)
      · have z:ints (sqQ G T T[i] 0)=[]:=rfl
        refine weakX [(101,none)] (of_decide_eq_true rfl) (of_decide_eq_true rfl) ?_
        (simp only [z,ints_length,ntA_len,vcW,vcV,vcD,Int.reduceEq,Int.reduceNe,Int.reduceLT,Int.reduceLE,Nat.reduceEqDiff,Nat.reduceAdd,reduceIte,reduceCtorEq,Nat.reduceLT,Nat.reduceLeDiff,eq_self,vcP2,Nat.reduceShiftRight,Nat.reduceMod])
        repeat' (with_reducible refine And.intro ?_ ?_)
        try any_goals (with_reducible exact RnB.fxB (lls_fxB _))
        (repeat' first | exact trivial | (with_reducible first | exact RnB.fxB (ints_fxB _) | rfl | refine And.intro ?_ ?_) | (with_reducible (first | refine RnB.bb ?_ | refine RnB.nb ?_);simp only [vcW,vcV,vcD,Int.reduceEq,Int.reduceNe,Int.reduceLT,Int.reduceLE,Nat.reduceEqDiff,Nat.reduceAdd,reduceIte,reduceCtorEq,Nat.reduceLT,Nat.reduceLeDiff,eq_self,vcP2,Nat.reduceShiftRight,Nat.reduceMod]) | (with_reducible first | refine RnB.ii ?_ | refine RnB.app ?_) | (with_reducible refine RnB.fxB ?_;simp only [vcW,vcV,vcD,Int.reduceEq,Int.reduceNe,Int.reduceLT,Int.reduceLE,Nat.reduceEqDiff,Nat.reduceAdd,reduceIte,reduceCtorEq,Nat.reduceLT,Nat.reduceLeDiff,eq_self,vcP2,Nat.reduceShiftRight,Nat.reduceMod]) | omega)
      · dsimp only at hjS ⊢
        by_cases h2:j<T.length
        · have hc2:(j:Int)<T.length:=by omega
          have hs:=sqQ_succ G T T[i] h2
          have hsl:=sqQ_len G T T[i] (j:=j) (by omega)
          have hgm:=hg3 T[j] (htb j h2)
          simp only [hc2,ntA_get T j h2,hg1,hgm,ints_length,hsl,vcV,vcD,Int.reduceEq,Int.reduceNe,Int.reduceLT,Int.reduceLE,Nat.reduceEqDiff,Nat.reduceAdd,reduceIte,reduceCtorEq,Nat.reduceLT,Nat.reduceLeDiff,eq_self,vcP2,Nat.reduceShiftRight,Nat.reduceMod]
          refine ⟨by omega,by omega,by omega,⟨by omega,by omega⟩,by unfold I64;omega,⟨j+1,h2⟩,by simp only;omega,?_⟩
          refine weakX [(101,some 39)] (of_decide_eq_true rfl) (of_decide_eq_true rfl) ?_
          (simp only [hs,vcW,vcV,vcD,Int.reduceEq,Int.reduceNe,Int.reduceLT,Int.reduceLE,Nat.reduceEqDiff,Nat.reduceAdd,reduceIte,reduceCtorEq,Nat.reduceLT,Nat.reduceLeDiff,eq_self,vcP2,Nat.reduceShiftRight,Nat.reduceMod])
          repeat' (with_reducible refine And.intro ?_ ?_)
          try any_goals (with_reducible exact RnB.fxB (lls_fxB _))
          (repeat' first | exact trivial | (with_reducible first | exact RnB.fxB (ints_fxB _) | rfl | refine And.intro ?_ ?_) | (with_reducible (first | refine RnB.bb ?_ | refine RnB.nb ?_);simp only [vcW,vcV,vcD,Int.reduceEq,Int.reduceNe,Int.reduceLT,Int.reduceLE,Nat.reduceEqDiff,Nat.reduceAdd,reduceIte,reduceCtorEq,Nat.reduceLT,Nat.reduceLeDiff,eq_self,vcP2,Nat.reduceShiftRight,Nat.reduceMod]) | (with_reducible first | refine RnB.ii ?_ | refine RnB.app ?_) | (with_reducible refine RnB.fxB ?_;simp only [vcW,vcV,vcD,Int.reduceEq,Int.reduceNe,Int.reduceLT,Int.reduceLE,Nat.reduceEqDiff,Nat.reduceAdd,reduceIte,reduceCtorEq,Nat.reduceLT,Nat.reduceLeDiff,eq_self,vcP2,Nat.reduceShiftRight,Nat.reduceMod]) | omega)
        · have hjl:j=T.length:=by omega
          subst hjl
          have hc2:¬ (T.length:Int)<T.length:=by omega
          have hs:=sqP_succ G T h'
          simp only [hc2,vcV,vcD,Int.reduceEq,Int.reduceNe,Int.reduceLT,Int.reduceLE,Nat.reduceEqDiff,Nat.reduceAdd,reduceIte,reduceCtorEq,Nat.reduceLT,Nat.reduceLeDiff,eq_self,vcP2,Nat.reduceShiftRight,Nat.reduceMod]
          refine ⟨⟨by rw [lls_length,sqP_len _ _ hiS],by omega,by omega⟩,by unfold I64;omega,⟨i+1,h'⟩,by simp only;omega,?_⟩
          refine weakX [(100,some 44)] (of_decide_eq_true rfl) (of_decide_eq_true rfl) ?_
          (simp only [vcW,vcV,vcD,Int.reduceEq,Int.reduceNe,Int.reduceLT,Int.reduceLE,Nat.reduceEqDiff,Nat.reduceAdd,reduceIte,reduceCtorEq,Nat.reduceLT,Nat.reduceLeDiff,eq_self,vcP2,Nat.reduceShiftRight,Nat.reduceMod])
          repeat' (with_reducible refine And.intro ?_ ?_)
          try any_goals exact RnB.snocZ (k:=101) rfl (by rw [sqQ_len _ _ _ (Nat.le_refl _)]) (keyOf_ne rfl) (by rw [hs])
          (repeat' first | exact trivial | (with_reducible first | exact RnB.fxB (ints_fxB _) | rfl | refine And.intro ?_ ?_) | (with_reducible (first | refine RnB.bb ?_ | refine RnB.nb ?_);simp only [vcW,vcV,vcD,Int.reduceEq,Int.reduceNe,Int.reduceLT,Int.reduceLE,Nat.reduceEqDiff,Nat.reduceAdd,reduceIte,reduceCtorEq,Nat.reduceLT,Nat.reduceLeDiff,eq_self,vcP2,Nat.reduceShiftRight,Nat.reduceMod]) | (with_reducible first | refine RnB.ii ?_ | refine RnB.app ?_) | (with_reducible refine RnB.fxB ?_;simp only [vcW,vcV,vcD,Int.reduceEq,Int.reduceNe,Int.reduceLT,Int.reduceLE,Nat.reduceEqDiff,Nat.reduceAdd,reduceIte,reduceCtorEq,Nat.reduceLT,Nat.reduceLeDiff,eq_self,vcP2,Nat.reduceShiftRight,Nat.reduceMod]) | omega)
    · have hil:i=T.length:=by omega
      subst hil
      have hc1:¬ (T.length:Int)<T.length:=by omega
      simp only [hc1,vcV,vcD,Int.reduceEq,Int.reduceNe,Int.reduceLT,Int.reduceLE,Nat.reduceEqDiff,Nat.reduceAdd,reduceIte,reduceCtorEq,Nat.reduceLT,Nat.reduceLeDiff,eq_self,vcP2,Nat.reduceShiftRight,Nat.reduceMod]
      rw [borB_good _ _ _ _ _ (by rw [lls_length,sqP_len _ _ (Nat.le_refl _)]) (List.all_eq_true.1 (lls_fxB _))]
      refine callS_of hD ?_
      simp only [ints_length,vcV,vcD,Int.reduceEq,Int.reduceNe,Int.reduceLT,Int.reduceLE,Nat.reduceEqDiff,Nat.reduceAdd,reduceIte,reduceCtorEq,Nat.reduceLT,Nat.reduceLeDiff,eq_self,vcP2,Nat.reduceShiftRight,Nat.reduceMod]
      refine ⟨usedL_buf rfl (lls_immT _ _) rfl,⟨by omega,by omega,by omega⟩,mkOk_w _,?_⟩
      rw [w2s_zero]
      have hslP:=slP_len G H T
      refine W_loop (t:=.mk) (α:=PSigma fun n:Nat=>n≤T.length) (fun ⟨n,_⟩=>(envOf [(1,.sl (ints (ntA T))),(2,.ptr 2 0 0),(4,.ptr 4 0 0),(5,.buf 101 H.length),(6,.buf 100 T.length),(52,.sl (ints (ntA T))),(53,.int .i64 T.length),(54,.int .i64 n)],stOf [(2,⟨151,2,[.agg [.sl (lls G),.sl (ints H)]]⟩),(4,⟨157,3,[wdA D.1 D.2]⟩),(100,⟨22,1,lls (sqP G T T.length)⟩),(101,⟨157,3,w2s (slP G H T n)⟩)])) (fun x=>T.length - x.1) ⟨0,Nat.zero_le _⟩ ?_ (fun ⟨n,hnT⟩=>?_)
      · have z:w2s (slP G H T 0)=w2s (List.replicate H.length (false,0)):=rfl
        refine weakX [(100,some 100),(101,some 51)] (of_decide_eq_true rfl) (of_decide_eq_true rfl) ?_
        (simp only [z,wdA,ntA_len,ints_length,vcW,vcV,vcD,Int.reduceEq,Int.reduceNe,Int.reduceLT,Int.reduceLE,Nat.reduceEqDiff,Nat.reduceAdd,reduceIte,reduceCtorEq,Nat.reduceLT,Nat.reduceLeDiff,eq_self,vcP2,Nat.reduceShiftRight,Nat.reduceMod])
        repeat' (with_reducible refine And.intro ?_ ?_)
        try any_goals (with_reducible exact RnB.fxB (lls_fxB _))
        try any_goals (with_reducible exact RnB.fxB (w2s_fxB _))
        (repeat' first | exact trivial | (with_reducible first | exact RnB.fxB (ints_fxB _) | rfl | refine And.intro ?_ ?_) | (with_reducible (first | refine RnB.bb ?_ | refine RnB.nb ?_);simp only [vcW,vcV,vcD,Int.reduceEq,Int.reduceNe,Int.reduceLT,Int.reduceLE,Nat.reduceEqDiff,Nat.reduceAdd,reduceIte,reduceCtorEq,Nat.reduceLT,Nat.reduceLeDiff,eq_self,vcP2,Nat.reduceShiftRight,Nat.reduceMod]) | (with_reducible first | refine RnB.ii ?_ | refine RnB.app ?_) | (with_reducible refine RnB.fxB ?_;simp only [vcW,vcV,vcD,Int.reduceEq,Int.reduceNe,Int.reduceLT,Int.reduceLE,Nat.reduceEqDiff,Nat.reduceAdd,reduceIte,reduceCtorEq,Nat.reduceLT,Nat.reduceLeDiff,eq_self,vcP2,Nat.reduceShiftRight,Nat.reduceMod]) | omega)
      · dsimp only at hnT ⊢
        by_cases h3:n<T.length
        · have hc3:(n:Int)<T.length:=by omega
          unfold wdA
          simp only [hc3,ntA_get T n h3,vcV,vcD,Int.reduceEq,Int.reduceNe,Int.reduceLT,Int.reduceLE,Nat.reduceEqDiff,Nat.reduceAdd,reduceIte,reduceCtorEq,Nat.reduceLT,Nat.reduceLeDiff,eq_self,vcP2,Nat.reduceShiftRight,Nat.reduceMod]
          (repeat (with_reducible refine And.intro ?_ ?_;focus (first | omega | (unfold I64;omega))))
          refine W_loop (t:=.mk) (α:=PSigma fun i:Nat=>i≤T.length) (fun ⟨i,_⟩=>(envOf [(1,.sl (ints (ntA T))),(2,.ptr 2 0 0),(4,.ptr 4 0 0),(5,.buf 101 H.length),(6,.buf 100 T.length),(12,.int .i64 n),(13,.int .i64 (T[n]:Int)),(14,.buf 102 i),(52,.sl (ints (ntA T))),(53,.int .i64 T.length),(54,.int .i64 n),(59,.buf 100 T.length),(60,.int .i64 T.length),(61,.int .i64 i)],stOf [(2,⟨151,2,[.agg [.sl (lls G),.sl (ints H)]]⟩),(4,⟨157,3,[wdA D.1 D.2]⟩),(100,⟨22,1,lls (sqP G T T.length)⟩),(101,⟨157,3,w2s (slP G H T n)⟩),(102,⟨22,1,lls (rpP G H T n i)⟩)])) (fun x=>T.length - x.1) ⟨0,Nat.zero_le _⟩ ?_ (fun ⟨i,hiT⟩=>?_)
          · have z:lls (rpP G H T n 0)=[]:=rfl
            refine weakX [(102,none)] (of_decide_eq_true rfl) (of_decide_eq_true rfl) ?_
            (simp only [z,wdA,vcW,vcV,vcD,Int.reduceEq,Int.reduceNe,Int.reduceLT,Int.reduceLE,Nat.reduceEqDiff,Nat.reduceAdd,reduceIte,reduceCtorEq,Nat.reduceLT,Nat.reduceLeDiff,eq_self,vcP2,Nat.reduceShiftRight,Nat.reduceMod])
            repeat' (with_reducible refine And.intro ?_ ?_)
            try any_goals (with_reducible exact RnB.fxB (lls_fxB _))
            try any_goals (with_reducible exact RnB.fxB (w2s_fxB _))
            (repeat' first | exact trivial | (with_reducible first | exact RnB.fxB (ints_fxB _) | rfl | refine And.intro ?_ ?_) | (with_reducible (first | refine RnB.bb ?_ | refine RnB.nb ?_);simp only [vcW,vcV,vcD,Int.reduceEq,Int.reduceNe,Int.reduceLT,Int.reduceLE,Nat.reduceEqDiff,Nat.reduceAdd,reduceIte,reduceCtorEq,Nat.reduceLT,Nat.reduceLeDiff,eq_self,vcP2,Nat.reduceShiftRight,Nat.reduceMod]) | (with_reducible first | refine RnB.ii ?_ | refine RnB.app ?_) | (with_reducible refine RnB.fxB ?_;simp only [vcW,vcV,vcD,Int.reduceEq,Int.reduceNe,Int.reduceLT,Int.reduceLE,Nat.reduceEqDiff,Nat.reduceAdd,reduceIte,reduceCtorEq,Nat.reduceLT,Nat.reduceLeDiff,eq_self,vcP2,Nat.reduceShiftRight,Nat.reduceMod]) | omega)
          · dsimp only at hiT ⊢
            by_cases h4:i<T.length
            · have hc4:(i:Int)<T.length:=by omega
              have hsl:(sqP G T T.length).length=T.length:=sqP_len _ _ (Nat.le_refl _)
              have hrow:(lls (sqP G T T.length))[i]?=some (.sl (ints (sqQ G T T[i] T.length))):=by
                rw [lls_get _ i (by omega)];simp [sqP]
              have hql:=sqQ_len G T T[i] (Nat.le_refl T.length)
              have hti:=htb i h4
              have hHd:H.getD T[i] 0=H[T[i]]:=getD_at _
              have hHg:(ints H)[T[i]]?=some (.int .i64 H[T[i]]):=ints_get H _ hti
              rw [← hHd] at hHg
              have hC:=Clone_o (sqQ G T T[i] T.length) (by omega)
              have hset:(ints (sqQ G T T[i] T.length)).set n (.int .i64 (H.getD T[i] 0))=ints ((sqQ G T T[i] T.length).set n (H.getD T[i] 0)):=ints_st _ _ _
              have hng:=ints_get (sqQ G T T[i] T.length) n (by omega)
              have hs:=rpP_succ G H T n h4
              have hrl:=rpP_len G H T n hiT
              unfold wdA
              simp only [hc4,hrow,lls_length,hsl,vcV,vcD,Int.reduceEq,Int.reduceNe,Int.reduceLT,Int.reduceLE,Nat.reduceEqDiff,Nat.reduceAdd,reduceIte,reduceCtorEq,Nat.reduceLT,Nat.reduceLeDiff,eq_self,vcP2,Nat.reduceShiftRight,Nat.reduceMod]
              refine ⟨⟨by omega,Nat.le_refl _⟩,?_⟩
              refine callS_own hC rfl ?_
              have hil':((ints (sqQ G T T[i] T.length)).length:Nat)=T.length:=by rw [ints_length];exact hql
              simp only [hql,ownS_ints,hil',ntA_get T i h4,hHg,hng,hset,vcV,vcD,Int.reduceEq,Int.reduceNe,Int.reduceLT,Int.reduceLE,Nat.reduceEqDiff,Nat.reduceAdd,reduceIte,reduceCtorEq,Nat.reduceLT,Nat.reduceLeDiff,eq_self,vcP2,Nat.reduceShiftRight,Nat.reduceMod]
              refine ⟨by omega,by omega,⟨by omega,by omega,Nat.le_refl _⟩,⟨by rw [lls_length,hrl],by omega,by omega⟩,by unfold I64;omega,⟨i+1,h4⟩,by simp only;omega,?_⟩
              refine weakX [(102,some 82)] (of_decide_eq_true rfl) (of_decide_eq_true rfl) ?_
              (simp only [wdA,vcW,vcV,vcD,Int.reduceEq,Int.reduceNe,Int.reduceLT,Int.reduceLE,Nat.reduceEqDiff,Nat.reduceAdd,reduceIte,reduceCtorEq,Nat.reduceLT,Nat.reduceLeDiff,eq_self,vcP2,Nat.reduceShiftRight,Nat.reduceMod])
              repeat' (with_reducible refine And.intro ?_ ?_)
              try any_goals (with_reducible exact RnB.fxB (lls_fxB _))
              try any_goals (with_reducible exact RnB.fxB (w2s_fxB _))
              try any_goals exact RnB.snocZ (k:=67) rfl (by rw [List.length_set];exact hql.symm) (keyOf_ne rfl) (by rw [hs])
              (repeat' first | exact trivial | (with_reducible first | exact RnB.fxB (ints_fxB _) | rfl | refine And.intro ?_ ?_) | (with_reducible (first | refine RnB.bb ?_ | refine RnB.nb ?_);simp only [vcW,vcV,vcD,Int.reduceEq,Int.reduceNe,Int.reduceLT,Int.reduceLE,Nat.reduceEqDiff,Nat.reduceAdd,reduceIte,reduceCtorEq,Nat.reduceLT,Nat.reduceLeDiff,eq_self,vcP2,Nat.reduceShiftRight,Nat.reduceMod]) | (with_reducible first | refine RnB.ii ?_ | refine RnB.app ?_) | (with_reducible refine RnB.fxB ?_;simp only [vcW,vcV,vcD,Int.reduceEq,Int.reduceNe,Int.reduceLT,Int.reduceLE,Nat.reduceEqDiff,Nat.reduceAdd,reduceIte,reduceCtorEq,Nat.reduceLT,Nat.reduceLeDiff,eq_self,vcP2,Nat.reduceShiftRight,Nat.reduceMod]) | omega)
              all_goals trace_state
            · have hil:i=T.length:=by omega
              subst hil
              have hc4:¬ (T.length:Int)<T.length:=by omega
              have hR':=hR n
              have hnx:slP G H T (n+1)=(slP G H T n).set T[n] (dtP T.length (rpP G H T n T.length)):=by
                rw [slP,List.getD_eq_getElem?_getD,List.getElem?_eq_getElem h3];rfl
              obtain ⟨E,hE⟩:∃ E,E=dtP T.length (rpP G H T n T.length):=⟨_,rfl⟩
              rw [← hE] at hnx hR'
              unfold wdA at hR' ⊢
              simp only [hc4,vcV,vcD,Int.reduceEq,Int.reduceNe,Int.reduceLT,Int.reduceLE,Nat.reduceEqDiff,Nat.reduceAdd,reduceIte,reduceCtorEq,Nat.reduceLT,Nat.reduceLeDiff,eq_self,vcP2,Nat.reduceShiftRight,Nat.reduceMod]
              rw [borB_good _ _ _ _ _ (by rw [lls_length,rpP_len _ _ _ _ (Nat.le_refl _)]) (List.all_eq_true.1 (lls_fxB _))]
              refine callS_of hR' ?_
              have hwl:(w2s (slP G H T n)).length=H.length:=by rw [w2s_length];exact hslP n
              have htn:=htb n h3
              have hel:=w2s_get (slP G H T n) T[n] (by rw [hslP n];exact htn)
              have hst:=w2s_set (slP G H T n) T[n] E
              rw [← hnx] at hst
              unfold wdA at hel hst
              simp only [hwl,hel,hst,vcV,vcD,Int.reduceEq,Int.reduceNe,Int.reduceLT,Int.reduceLE,Nat.reduceEqDiff,Nat.reduceAdd,reduceIte,reduceCtorEq,Nat.reduceLT,Nat.reduceLeDiff,eq_self,vcP2,Nat.reduceShiftRight,Nat.reduceMod]
              refine ⟨⟨by omega,by omega,Nat.le_refl _⟩,by unfold I64;omega,⟨n+1,h3⟩,by simp only;omega,?_⟩
              refine weakX [(100,some 100),(101,some 101)] (of_decide_eq_true rfl) (of_decide_eq_true rfl) ?_
              (simp only [wdA,vcW,vcV,vcD,Int.reduceEq,Int.reduceNe,Int.reduceLT,Int.reduceLE,Nat.reduceEqDiff,Nat.reduceAdd,reduceIte,reduceCtorEq,Nat.reduceLT,Nat.reduceLeDiff,eq_self,vcP2,Nat.reduceShiftRight,Nat.reduceMod])
              repeat' (with_reducible refine And.intro ?_ ?_)
              try any_goals (with_reducible exact RnB.fxB (lls_fxB _))
              try any_goals (with_reducible exact RnB.fxB (w2s_fxB _))
              (repeat' first | exact trivial | (with_reducible first | exact RnB.fxB (ints_fxB _) | rfl | refine And.intro ?_ ?_) | (with_reducible (first | refine RnB.bb ?_ | refine RnB.nb ?_);simp only [vcW,vcV,vcD,Int.reduceEq,Int.reduceNe,Int.reduceLT,Int.reduceLE,Nat.reduceEqDiff,Nat.reduceAdd,reduceIte,reduceCtorEq,Nat.reduceLT,Nat.reduceLeDiff,eq_self,vcP2,Nat.reduceShiftRight,Nat.reduceMod]) | (with_reducible first | refine RnB.ii ?_ | refine RnB.app ?_) | (with_reducible refine RnB.fxB ?_;simp only [vcW,vcV,vcD,Int.reduceEq,Int.reduceNe,Int.reduceLT,Int.reduceLE,Nat.reduceEqDiff,Nat.reduceAdd,reduceIte,reduceCtorEq,Nat.reduceLT,Nat.reduceLeDiff,eq_self,vcP2,Nat.reduceShiftRight,Nat.reduceMod]) | omega)
              all_goals trace_state
        · have hnl:n=T.length:=by omega
          subst hnl
          have hc3:¬ (T.length:Int)<T.length:=by omega
          unfold wdA
          simp only [hc3,vcV,vcD,Int.reduceEq,Int.reduceNe,Int.reduceLT,Int.reduceLE,Nat.reduceEqDiff,Nat.reduceAdd,reduceIte,reduceCtorEq,Nat.reduceLT,Nat.reduceLeDiff,eq_self,vcP2,Nat.reduceShiftRight,Nat.reduceMod]
          rw [borB_good _ _ _ _ _ (by rw [w2s_length,hslP]) (List.all_eq_true.1 (w2s_fxB _))]
end Go.Proofs.YtgmpcbpmnimkoaaGreatDoor

/- The common divisor of numbers of 128 bits. By an AI agent;nothing here is trusted. -/
namespace Go.Proofs.YtgmpcbpmnimkoaaGreatDoor
open Go.Av

theorem gcd_half_l {x y:Nat} (hx:x % 2=0) (hy:y % 2=1):Nat.gcd (x / 2) y=Nat.gcd x y:=by
  have h2:Nat.Coprime 2 y:=by
    have:Nat.gcd 2 y=Nat.gcd (y % 2) 2:=Nat.gcd_rec 2 y
    unfold Nat.Coprime;rw [this,hy];rfl
  have e:x=2 * (x / 2):=by omega
  conv=>rhs;rw [e]
  exact (Nat.Coprime.gcd_mul_left_cancel (x / 2) h2).symm
theorem gcd_half_r {x y:Nat} (hx:x % 2=1) (hy:y % 2=0):Nat.gcd x (y / 2)=Nat.gcd x y:=by
  rw [Nat.gcd_comm,gcd_half_l hy hx,Nat.gcd_comm]
theorem gcd_sub_r {x y:Nat} (h:x≤y):Nat.gcd x (y - x)=Nat.gcd x y:=by
  have:=Nat.gcd_add_self_right x (y - x)
  rw [← this];congr 1;omega
theorem mod_low (n:Nat):n % 18446744073709551616 % 2=n % 2:=by omega
theorem common_s (a b:Bool) (m n:Nat) (hm:W128 m) (hn:W128 n) (hmn:W128 (m+n)):Sound Tryz.prog 187 [wdA a m,wdA b n] (wdA false (Nat.gcd m n)):=by
  refine sound_W f_pulse_common (Nat.le_of_ble_eq_true rfl) ?_
  have hs1:=size_s a m
  have hs2:=size_s b n
  have hz1:=isZero_s false m hm
  have hz2:=isZero_s false n hn
  unfold W128 at hmn hm hn
  unfold wdA at hs1 hs2 hz1 hz2 ⊢
  simp only [c_pulse_common,vcV,vcD,Int.reduceEq,Int.reduceNe,Int.reduceLT,Int.reduceLE,Nat.reduceEqDiff,Nat.reduceAdd,reduceIte,reduceCtorEq,Nat.reduceLT,Nat.reduceLeDiff,eq_self,vcP2,Nat.reduceShiftRight,Nat.reduceMod]
  refine callS_of hs1 ?_
  simp only [vcV,vcD,Int.reduceEq,Int.reduceNe,Int.reduceLT,Int.reduceLE,Nat.reduceEqDiff,Nat.reduceAdd,reduceIte,reduceCtorEq,Nat.reduceLT,Nat.reduceLeDiff,eq_self,vcP2,Nat.reduceShiftRight,Nat.reduceMod]
  refine callS_of hs2 ?_
  simp only [vcV,vcD,Int.reduceEq,Int.reduceNe,Int.reduceLT,Int.reduceLE,Nat.reduceEqDiff,Nat.reduceAdd,reduceIte,reduceCtorEq,Nat.reduceLT,Nat.reduceLeDiff,eq_self,vcP2,Nat.reduceShiftRight,Nat.reduceMod]
  refine callS_of hz1 ?_
  by_cases m0:m=0
  · have hg:Nat.gcd m n=n:=by rw [m0,Nat.gcd_zero_left]
    rw [decide_eq_true m0,hg]
    simp only [vcV,vcD,Int.reduceEq,Int.reduceNe,Int.reduceLT,Int.reduceLE,Nat.reduceEqDiff,Nat.reduceAdd,reduceIte,reduceCtorEq,Nat.reduceLT,Nat.reduceLeDiff,eq_self,vcP2,Nat.reduceShiftRight,Nat.reduceMod]
  rw [decide_eq_false m0]
  simp only [vcV,vcD,Int.reduceEq,Int.reduceNe,Int.reduceLT,Int.reduceLE,Nat.reduceEqDiff,Nat.reduceAdd,reduceIte,reduceCtorEq,Nat.reduceLT,Nat.reduceLeDiff,eq_self,vcP2,Nat.reduceShiftRight,Nat.reduceMod]
  refine callS_of hz2 ?_
  by_cases n0:n=0
  · have hg:Nat.gcd m n=m:=by rw [n0,Nat.gcd_zero_right]
    rw [decide_eq_true n0,hg]
    simp only [vcV,vcD,Int.reduceEq,Int.reduceNe,Int.reduceLT,Int.reduceLE,Nat.reduceEqDiff,Nat.reduceAdd,reduceIte,reduceCtorEq,Nat.reduceLT,Nat.reduceLeDiff,eq_self,vcP2,Nat.reduceShiftRight,Nat.reduceMod]
  rw [decide_eq_false n0]
  have low:∀ x:Nat,x % 18446744073709551616<18446744073709551616:=fun x=>Nat.mod_lt _ (by omega)
  simp only [vcV,vcD,Int.reduceEq,Int.reduceNe,Int.reduceLT,Int.reduceLE,Nat.reduceEqDiff,Nat.reduceAdd,reduceIte,reduceCtorEq,Nat.reduceLT,Nat.reduceLeDiff,eq_self,vcP2,Nat.reduceShiftRight,Nat.reduceMod]
  refine W_loop (t:=.mk) (α:=PSigma fun p:Nat × Nat × Nat=>p.1 * 2 ^ p.2.2=m∧p.2.1 * 2 ^ p.2.2=n) (fun ⟨p,_⟩=>(envOf [(2,.ptr 2 0 0),(3,.ptr 3 0 0),(4,.ptr 4 0 0),(5,.int .i64 p.2.2)],stOf [(2,⟨157,3,[wdA false p.1]⟩),(3,⟨157,3,[wdA false p.2.1]⟩),(4,⟨157,3,[.agg [.bool false,.int .u64 0,.int .u64 0]]⟩)])) (fun x=>x.1.1) ⟨(m,n,0),by simp,by simp⟩ ?_ (fun ⟨⟨x,y,k⟩,hx,hy⟩=>?_)
  · skip
    refine weakX [] (of_decide_eq_true rfl) (of_decide_eq_true rfl) ?_
    (simp only [wdA,vcW,vcV,vcD,Int.reduceEq,Int.reduceNe,Int.reduceLT,Int.reduceLE,Nat.reduceEqDiff,Nat.reduceAdd,reduceIte,reduceCtorEq,Nat.reduceLT,Nat.reduceLeDiff,eq_self,vcP2,Nat.reduceShiftRight,Nat.reduceMod])
    (repeat' first | exact trivial | (with_reducible first | exact RnB.fxB (ints_fxB _) | rfl | refine And.intro ?_ ?_) | (with_reducible (first | refine RnB.bb ?_ | refine RnB.nb ?_);simp only [vcW,vcV,vcD,Int.reduceEq,Int.reduceNe,Int.reduceLT,Int.reduceLE,Nat.reduceEqDiff,Nat.reduceAdd,reduceIte,reduceCtorEq,Nat.reduceLT,Nat.reduceLeDiff,eq_self,vcP2,Nat.reduceShiftRight,Nat.reduceMod]) | (with_reducible first | refine RnB.ii ?_ | refine RnB.app ?_) | (with_reducible refine RnB.fxB ?_;simp only [vcW,vcV,vcD,Int.reduceEq,Int.reduceNe,Int.reduceLT,Int.reduceLE,Nat.reduceEqDiff,Nat.reduceAdd,reduceIte,reduceCtorEq,Nat.reduceLT,Nat.reduceLeDiff,eq_self,vcP2,Nat.reduceShiftRight,Nat.reduceMod]) | omega)
  · dsimp only at hx hy ⊢
    have hk2:1≤2 ^ k:=Nat.one_le_two_pow
    have hxm:x≤m:=by rw [← hx];exact Nat.le_mul_of_pos_right _ hk2
    have hyn:y≤n:=by rw [← hy];exact Nat.le_mul_of_pos_right _ hk2
    have hx0:0<x:=by
      rcases Nat.eq_zero_or_pos x with h | h
      · rw [h,Nat.zero_mul] at hx;omega
      · exact h
    have hy0:0<y:=by
      rcases Nat.eq_zero_or_pos y with h | h
      · rw [h,Nat.zero_mul] at hy;omega
      · exact h
    have hk:k<128:=by
      refine Classical.byContradiction fun h=>?_
      have h1:2 ^ 128≤2 ^ k:=Nat.pow_le_pow_right (by omega) (by omega)
      have h2:2 ^ k≤m:=by rw [← hx];exact Nat.le_mul_of_pos_left _ hx0
      have h3:(2:Nat) ^ 128=340282366920938463463374607431768211456:=by decide
      omega
    have ho:=or_g _ _ (low x) (low y)
    have ha:=and_1 _ (show (x % 18446744073709551616 ||| y % 18446744073709551616)<2 ^ 64 from Nat.or_lt_two_pow (low x) (low y))
    have hp:=or_par (x % 18446744073709551616) (y % 18446744073709551616)
    rw [mod_low,mod_low] at hp
    have hh1:=half_s false x (by unfold W128;omega)
    have hh2:=half_s false y (by unfold W128;omega)
    by_cases hev:x % 2=0∧y % 2=0
    · have hc:(((x % 18446744073709551616 ||| y % 18446744073709551616) % 2:Nat):Int)=0:=by rw [hp.2 hev];rfl
      unfold wdA at hh1 hh2 ⊢
      simp only [ho,ha,hc,vcV,vcD,Int.reduceEq,Int.reduceNe,Int.reduceLT,Int.reduceLE,Nat.reduceEqDiff,Nat.reduceAdd,reduceIte,reduceCtorEq,Nat.reduceLT,Nat.reduceLeDiff,eq_self,vcP2,Nat.reduceShiftRight,Nat.reduceMod]
      refine callS_of hh1 ?_
      simp only [vcV,vcD,Int.reduceEq,Int.reduceNe,Int.reduceLT,Int.reduceLE,Nat.reduceEqDiff,Nat.reduceAdd,reduceIte,reduceCtorEq,Nat.reduceLT,Nat.reduceLeDiff,eq_self,vcP2,Nat.reduceShiftRight,Nat.reduceMod]
      refine callS_of hh2 ?_
      simp only [vcV,vcD,Int.reduceEq,Int.reduceNe,Int.reduceLT,Int.reduceLE,Nat.reduceEqDiff,Nat.reduceAdd,reduceIte,reduceCtorEq,Nat.reduceLT,Nat.reduceLeDiff,eq_self,vcP2,Nat.reduceShiftRight,Nat.reduceMod]
      (repeat (with_reducible refine And.intro ?_ ?_;focus (first | omega | (unfold I64;omega))))
      refine ⟨⟨(x / 2,y / 2,k+1),?_,?_⟩,by simp only;omega,?_⟩
      · simp only;rw [← hx,Nat.pow_succ,Nat.mul_comm (2 ^ k) 2,← Nat.mul_assoc];congr 1;omega
      · simp only;rw [← hy,Nat.pow_succ,Nat.mul_comm (2 ^ k) 2,← Nat.mul_assoc];congr 1;omega
      · refine weakX [] (of_decide_eq_true rfl) (of_decide_eq_true rfl) ?_
        (simp only [wdA,vcW,vcV,vcD,Int.reduceEq,Int.reduceNe,Int.reduceLT,Int.reduceLE,Nat.reduceEqDiff,Nat.reduceAdd,reduceIte,reduceCtorEq,Nat.reduceLT,Nat.reduceLeDiff,eq_self,vcP2,Nat.reduceShiftRight,Nat.reduceMod])
        (repeat' first | exact trivial | (with_reducible first | exact RnB.fxB (ints_fxB _) | rfl | refine And.intro ?_ ?_) | (with_reducible (first | refine RnB.bb ?_ | refine RnB.nb ?_);simp only [vcW,vcV,vcD,Int.reduceEq,Int.reduceNe,Int.reduceLT,Int.reduceLE,Nat.reduceEqDiff,Nat.reduceAdd,reduceIte,reduceCtorEq,Nat.reduceLT,Nat.reduceLeDiff,eq_self,vcP2,Nat.reduceShiftRight,Nat.reduceMod]) | (with_reducible first | refine RnB.ii ?_ | refine RnB.app ?_) | (with_reducible refine RnB.fxB ?_;simp only [vcW,vcV,vcD,Int.reduceEq,Int.reduceNe,Int.reduceLT,Int.reduceLE,Nat.reduceEqDiff,Nat.reduceAdd,reduceIte,reduceCtorEq,Nat.reduceLT,Nat.reduceLeDiff,eq_self,vcP2,Nat.reduceShiftRight,Nat.reduceMod]) | omega)
    · have hc:¬ (((x % 18446744073709551616 ||| y % 18446744073709551616) % 2:Nat):Int)=0:=fun h=>hev (hp.1 (by omega))
      have hgc:Nat.gcd m n=Nat.gcd x y * 2 ^ k:=by rw [← hx,← hy,Nat.gcd_mul_right]
      obtain ⟨g,hg⟩:∃ g,g=Nat.gcd x y:=⟨_,rfl⟩
      rw [← hg] at hgc
      have hgm:g * 2 ^ k≤m:=by rw [← hgc];exact Nat.gcd_le_left _ (by omega)
      rw [hgc]
      unfold wdA
      simp only [ho,ha,hc,vcV,vcD,Int.reduceEq,Int.reduceNe,Int.reduceLT,Int.reduceLE,Nat.reduceEqDiff,Nat.reduceAdd,reduceIte,reduceCtorEq,Nat.reduceLT,Nat.reduceLeDiff,eq_self,vcP2,Nat.reduceShiftRight,Nat.reduceMod]
      refine W_loop (t:=.mk) (α:=PSigma fun p:Nat × Nat=>Nat.gcd p.1 p.2=g∧0<p.1∧p.1+p.2≤m+n∧(p.1 % 2=1∨p.2 % 2=1)) (fun ⟨p,_⟩=>(envOf [(2,.ptr 2 0 0),(3,.ptr 3 0 0),(4,.ptr 4 0 0),(5,.int .i64 k)],stOf [(2,⟨157,3,[wdA false p.1]⟩),(3,⟨157,3,[wdA false p.2]⟩),(4,⟨157,3,[.agg [.bool false,.int .u64 0,.int .u64 0]]⟩)])) (fun x=>x.1.1+x.1.2) ⟨(x,y),hg.symm,hx0,by simp only;omega,by simp only;omega⟩ ?_ (fun ⟨⟨u,v⟩,ug,u0,us,up⟩=>?_)
      · refine weakX [] (of_decide_eq_true rfl) (of_decide_eq_true rfl) ?_
        (simp only [wdA,vcW,vcV,vcD,Int.reduceEq,Int.reduceNe,Int.reduceLT,Int.reduceLE,Nat.reduceEqDiff,Nat.reduceAdd,reduceIte,reduceCtorEq,Nat.reduceLT,Nat.reduceLeDiff,eq_self,vcP2,Nat.reduceShiftRight,Nat.reduceMod])
        (repeat' first | exact trivial | (with_reducible first | exact RnB.fxB (ints_fxB _) | rfl | refine And.intro ?_ ?_) | (with_reducible (first | refine RnB.bb ?_ | refine RnB.nb ?_);simp only [vcW,vcV,vcD,Int.reduceEq,Int.reduceNe,Int.reduceLT,Int.reduceLE,Nat.reduceEqDiff,Nat.reduceAdd,reduceIte,reduceCtorEq,Nat.reduceLT,Nat.reduceLeDiff,eq_self,vcP2,Nat.reduceShiftRight,Nat.reduceMod]) | (with_reducible first | refine RnB.ii ?_ | refine RnB.app ?_) | (with_reducible refine RnB.fxB ?_;simp only [vcW,vcV,vcD,Int.reduceEq,Int.reduceNe,Int.reduceLT,Int.reduceLE,Nat.reduceEqDiff,Nat.reduceAdd,reduceIte,reduceCtorEq,Nat.reduceLT,Nat.reduceLeDiff,eq_self,vcP2,Nat.reduceShiftRight,Nat.reduceMod]) | omega)
      · dsimp only at ug u0 us up ⊢
        have hzv:=isZero_s false v (by unfold W128;omega)
        unfold wdA at hzv ⊢
        simp only [vcV,vcD,Int.reduceEq,Int.reduceNe,Int.reduceLT,Int.reduceLE,Nat.reduceEqDiff,Nat.reduceAdd,reduceIte,reduceCtorEq,Nat.reduceLT,Nat.reduceLeDiff,eq_self,vcP2,Nat.reduceShiftRight,Nat.reduceMod]
        refine callS_of hzv ?_
        by_cases v0:v=0
        · rw [decide_eq_true v0]
          have hug:u=g:=by rw [← ug,v0,Nat.gcd_zero_right]
          rw [hug]
          simp only [vcV,vcD,Int.reduceEq,Int.reduceNe,Int.reduceLT,Int.reduceLE,Nat.reduceEqDiff,Nat.reduceAdd,reduceIte,reduceCtorEq,Nat.reduceLT,Nat.reduceLeDiff,eq_self,vcP2,Nat.reduceShiftRight,Nat.reduceMod]
          refine W_loop (t:=.mk) (α:=PSigma fun j:Nat=>j≤k) (fun ⟨j,_⟩=>(envOf [(2,.ptr 2 0 0),(4,.ptr 4 0 0),(53,.int .i64 k),(54,.int .i64 j)],stOf [(2,⟨157,3,[wdA false (g * 2 ^ j)]⟩),(4,⟨157,3,[.agg [.bool false,.int .u64 0,.int .u64 0]]⟩)])) (fun x=>k - x.1) ⟨0,Nat.zero_le _⟩ ?_ (fun ⟨j,hj⟩=>?_)
          · refine weakX [] (of_decide_eq_true rfl) (of_decide_eq_true rfl) ?_
            (simp only [wdA,Nat.pow_zero,Nat.mul_one,vcW,vcV,vcD,Int.reduceEq,Int.reduceNe,Int.reduceLT,Int.reduceLE,Nat.reduceEqDiff,Nat.reduceAdd,reduceIte,reduceCtorEq,Nat.reduceLT,Nat.reduceLeDiff,eq_self,vcP2,Nat.reduceShiftRight,Nat.reduceMod])
            (repeat' first | exact trivial | (with_reducible first | exact RnB.fxB (ints_fxB _) | rfl | refine And.intro ?_ ?_) | (with_reducible (first | refine RnB.bb ?_ | refine RnB.nb ?_);simp only [vcW,vcV,vcD,Int.reduceEq,Int.reduceNe,Int.reduceLT,Int.reduceLE,Nat.reduceEqDiff,Nat.reduceAdd,reduceIte,reduceCtorEq,Nat.reduceLT,Nat.reduceLeDiff,eq_self,vcP2,Nat.reduceShiftRight,Nat.reduceMod]) | (with_reducible first | refine RnB.ii ?_ | refine RnB.app ?_) | (with_reducible refine RnB.fxB ?_;simp only [vcW,vcV,vcD,Int.reduceEq,Int.reduceNe,Int.reduceLT,Int.reduceLE,Nat.reduceEqDiff,Nat.reduceAdd,reduceIte,reduceCtorEq,Nat.reduceLT,Nat.reduceLeDiff,eq_self,vcP2,Nat.reduceShiftRight,Nat.reduceMod]) | omega)
          · dsimp only at hj ⊢
            by_cases hjk:j<k
            · have hjk':(j:Int)<k:=by omega
              have hdb:g * 2 ^ j+g * 2 ^ j=g * 2 ^ (j+1):=by rw [Nat.pow_succ,← Nat.mul_assoc];omega
              have hle:g * 2 ^ (j+1)≤g * 2 ^ k:=Nat.mul_le_mul_left _ (Nat.pow_le_pow_right (by omega) (by omega))
              have ht:=twice_s false (g * 2 ^ j) (by unfold W128;omega)
              rw [hdb] at ht
              unfold wdA at ht ⊢
              simp only [hjk',vcV,vcD,Int.reduceEq,Int.reduceNe,Int.reduceLT,Int.reduceLE,Nat.reduceEqDiff,Nat.reduceAdd,reduceIte,reduceCtorEq,Nat.reduceLT,Nat.reduceLeDiff,eq_self,vcP2,Nat.reduceShiftRight,Nat.reduceMod]
              refine callS_of ht ?_
              simp only [vcV,vcD,Int.reduceEq,Int.reduceNe,Int.reduceLT,Int.reduceLE,Nat.reduceEqDiff,Nat.reduceAdd,reduceIte,reduceCtorEq,Nat.reduceLT,Nat.reduceLeDiff,eq_self,vcP2,Nat.reduceShiftRight,Nat.reduceMod]
              (repeat (with_reducible refine And.intro ?_ ?_;focus (first | omega | (unfold I64;omega))))
              refine ⟨⟨j+1,hjk⟩,by simp only;omega,?_⟩
              refine weakX [] (of_decide_eq_true rfl) (of_decide_eq_true rfl) ?_
              (simp only [wdA,vcW,vcV,vcD,Int.reduceEq,Int.reduceNe,Int.reduceLT,Int.reduceLE,Nat.reduceEqDiff,Nat.reduceAdd,reduceIte,reduceCtorEq,Nat.reduceLT,Nat.reduceLeDiff,eq_self,vcP2,Nat.reduceShiftRight,Nat.reduceMod])
              (repeat' first | exact trivial | (with_reducible first | exact RnB.fxB (ints_fxB _) | rfl | refine And.intro ?_ ?_) | (with_reducible (first | refine RnB.bb ?_ | refine RnB.nb ?_);simp only [vcW,vcV,vcD,Int.reduceEq,Int.reduceNe,Int.reduceLT,Int.reduceLE,Nat.reduceEqDiff,Nat.reduceAdd,reduceIte,reduceCtorEq,Nat.reduceLT,Nat.reduceLeDiff,eq_self,vcP2,Nat.reduceShiftRight,Nat.reduceMod]) | (with_reducible first | refine RnB.ii ?_ | refine RnB.app ?_) | (with_reducible refine RnB.fxB ?_;simp only [vcW,vcV,vcD,Int.reduceEq,Int.reduceNe,Int.reduceLT,Int.reduceLE,Nat.reduceEqDiff,Nat.reduceAdd,reduceIte,reduceCtorEq,Nat.reduceLT,Nat.reduceLeDiff,eq_self,vcP2,Nat.reduceShiftRight,Nat.reduceMod]) | omega)
            · have hjk':¬ (j:Int)<k:=by omega
              have:j=k:=by omega
              subst this
              unfold wdA
              simp only [hjk',vcV,vcD,Int.reduceEq,Int.reduceNe,Int.reduceLT,Int.reduceLE,Nat.reduceEqDiff,Nat.reduceAdd,reduceIte,reduceCtorEq,Nat.reduceLT,Nat.reduceLeDiff,eq_self,vcP2,Nat.reduceShiftRight,Nat.reduceMod]
        · rw [decide_eq_false v0]
          simp only [vcV,vcD,Int.reduceEq,Int.reduceNe,Int.reduceLT,Int.reduceLE,Nat.reduceEqDiff,Nat.reduceAdd,reduceIte,reduceCtorEq,Nat.reduceLT,Nat.reduceLeDiff,eq_self,vcP2,Nat.reduceShiftRight,Nat.reduceMod]
          refine W_loop (t:=.mk) (α:=PSigma fun u':Nat=>Nat.gcd u' v=g∧0<u'∧u'≤u∧(u' % 2=1∨v % 2=1)) (fun ⟨u',_⟩=>(envOf [(2,.ptr 2 0 0),(3,.ptr 3 0 0),(4,.ptr 4 0 0),(5,.int .i64 k)],stOf [(2,⟨157,3,[wdA false u']⟩),(3,⟨157,3,[wdA false v]⟩),(4,⟨157,3,[.agg [.bool false,.int .u64 0,.int .u64 0]]⟩)])) (fun x=>x.1) ⟨u,ug,u0,Nat.le_refl _,up⟩ ?_ (fun ⟨u',ug',u0',us',up'⟩=>?_)
          · refine weakX [] (of_decide_eq_true rfl) (of_decide_eq_true rfl) ?_
            (simp only [wdA,vcW,vcV,vcD,Int.reduceEq,Int.reduceNe,Int.reduceLT,Int.reduceLE,Nat.reduceEqDiff,Nat.reduceAdd,reduceIte,reduceCtorEq,Nat.reduceLT,Nat.reduceLeDiff,eq_self,vcP2,Nat.reduceShiftRight,Nat.reduceMod])
            (repeat' first | exact trivial | (with_reducible first | exact RnB.fxB (ints_fxB _) | rfl | refine And.intro ?_ ?_) | (with_reducible (first | refine RnB.bb ?_ | refine RnB.nb ?_);simp only [vcW,vcV,vcD,Int.reduceEq,Int.reduceNe,Int.reduceLT,Int.reduceLE,Nat.reduceEqDiff,Nat.reduceAdd,reduceIte,reduceCtorEq,Nat.reduceLT,Nat.reduceLeDiff,eq_self,vcP2,Nat.reduceShiftRight,Nat.reduceMod]) | (with_reducible first | refine RnB.ii ?_ | refine RnB.app ?_) | (with_reducible refine RnB.fxB ?_;simp only [vcW,vcV,vcD,Int.reduceEq,Int.reduceNe,Int.reduceLT,Int.reduceLE,Nat.reduceEqDiff,Nat.reduceAdd,reduceIte,reduceCtorEq,Nat.reduceLT,Nat.reduceLeDiff,eq_self,vcP2,Nat.reduceShiftRight,Nat.reduceMod]) | omega)
          · dsimp only at ug' u0' us' up' ⊢
            have ha:=and_1 _ (low u')
            rw [mod_low] at ha
            by_cases hu:u' % 2=0
            · have hc:((u' % 2:Nat):Int)=0:=by omega
              have hh:=half_s false u' (by unfold W128;omega)
              unfold wdA at hh ⊢
              simp only [ha,hc,vcV,vcD,Int.reduceEq,Int.reduceNe,Int.reduceLT,Int.reduceLE,Nat.reduceEqDiff,Nat.reduceAdd,reduceIte,reduceCtorEq,Nat.reduceLT,Nat.reduceLeDiff,eq_self,vcP2,Nat.reduceShiftRight,Nat.reduceMod]
              refine callS_of hh ?_
              simp only [vcV,vcD,Int.reduceEq,Int.reduceNe,Int.reduceLT,Int.reduceLE,Nat.reduceEqDiff,Nat.reduceAdd,reduceIte,reduceCtorEq,Nat.reduceLT,Nat.reduceLeDiff,eq_self,vcP2,Nat.reduceShiftRight,Nat.reduceMod]
              refine ⟨⟨u' / 2,by rw [gcd_half_l hu (by omega)];exact ug',by omega,by omega,by omega⟩,by simp only;omega,?_⟩
              refine weakX [] (of_decide_eq_true rfl) (of_decide_eq_true rfl) ?_
              (simp only [wdA,vcW,vcV,vcD,Int.reduceEq,Int.reduceNe,Int.reduceLT,Int.reduceLE,Nat.reduceEqDiff,Nat.reduceAdd,reduceIte,reduceCtorEq,Nat.reduceLT,Nat.reduceLeDiff,eq_self,vcP2,Nat.reduceShiftRight,Nat.reduceMod])
              (repeat' first | exact trivial | (with_reducible first | exact RnB.fxB (ints_fxB _) | rfl | refine And.intro ?_ ?_) | (with_reducible (first | refine RnB.bb ?_ | refine RnB.nb ?_);simp only [vcW,vcV,vcD,Int.reduceEq,Int.reduceNe,Int.reduceLT,Int.reduceLE,Nat.reduceEqDiff,Nat.reduceAdd,reduceIte,reduceCtorEq,Nat.reduceLT,Nat.reduceLeDiff,eq_self,vcP2,Nat.reduceShiftRight,Nat.reduceMod]) | (with_reducible first | refine RnB.ii ?_ | refine RnB.app ?_) | (with_reducible refine RnB.fxB ?_;simp only [vcW,vcV,vcD,Int.reduceEq,Int.reduceNe,Int.reduceLT,Int.reduceLE,Nat.reduceEqDiff,Nat.reduceAdd,reduceIte,reduceCtorEq,Nat.reduceLT,Nat.reduceLeDiff,eq_self,vcP2,Nat.reduceShiftRight,Nat.reduceMod]) | omega)
            · have hc:¬ ((u' % 2:Nat):Int)=0:=by omega
              unfold wdA
              simp only [ha,hc,vcV,vcD,Int.reduceEq,Int.reduceNe,Int.reduceLT,Int.reduceLE,Nat.reduceEqDiff,Nat.reduceAdd,reduceIte,reduceCtorEq,Nat.reduceLT,Nat.reduceLeDiff,eq_self,vcP2,Nat.reduceShiftRight,Nat.reduceMod]
              refine W_loop (t:=.mk) (α:=PSigma fun v':Nat=>Nat.gcd u' v'=g∧0<v'∧v'≤v) (fun ⟨v',_⟩=>(envOf [(2,.ptr 2 0 0),(3,.ptr 3 0 0),(4,.ptr 4 0 0),(5,.int .i64 k)],stOf [(2,⟨157,3,[wdA false u']⟩),(3,⟨157,3,[wdA false v']⟩),(4,⟨157,3,[.agg [.bool false,.int .u64 0,.int .u64 0]]⟩)])) (fun x=>x.1) ⟨v,ug',by omega,Nat.le_refl _⟩ ?_ (fun ⟨v',vg',v0',vs'⟩=>?_)
              · refine weakX [] (of_decide_eq_true rfl) (of_decide_eq_true rfl) ?_
                (simp only [wdA,vcW,vcV,vcD,Int.reduceEq,Int.reduceNe,Int.reduceLT,Int.reduceLE,Nat.reduceEqDiff,Nat.reduceAdd,reduceIte,reduceCtorEq,Nat.reduceLT,Nat.reduceLeDiff,eq_self,vcP2,Nat.reduceShiftRight,Nat.reduceMod])
                (repeat' first | exact trivial | (with_reducible first | exact RnB.fxB (ints_fxB _) | rfl | refine And.intro ?_ ?_) | (with_reducible (first | refine RnB.bb ?_ | refine RnB.nb ?_);simp only [vcW,vcV,vcD,Int.reduceEq,Int.reduceNe,Int.reduceLT,Int.reduceLE,Nat.reduceEqDiff,Nat.reduceAdd,reduceIte,reduceCtorEq,Nat.reduceLT,Nat.reduceLeDiff,eq_self,vcP2,Nat.reduceShiftRight,Nat.reduceMod]) | (with_reducible first | refine RnB.ii ?_ | refine RnB.app ?_) | (with_reducible refine RnB.fxB ?_;simp only [vcW,vcV,vcD,Int.reduceEq,Int.reduceNe,Int.reduceLT,Int.reduceLE,Nat.reduceEqDiff,Nat.reduceAdd,reduceIte,reduceCtorEq,Nat.reduceLT,Nat.reduceLeDiff,eq_self,vcP2,Nat.reduceShiftRight,Nat.reduceMod]) | omega)
              · dsimp only at vg' v0' vs' ⊢
                have hb:=and_1 _ (low v')
                rw [mod_low] at hb
                by_cases hv:v' % 2=0
                · have hd:((v' % 2:Nat):Int)=0:=by omega
                  have hh:=half_s false v' (by unfold W128;omega)
                  unfold wdA at hh ⊢
                  simp only [hb,hd,vcV,vcD,Int.reduceEq,Int.reduceNe,Int.reduceLT,Int.reduceLE,Nat.reduceEqDiff,Nat.reduceAdd,reduceIte,reduceCtorEq,Nat.reduceLT,Nat.reduceLeDiff,eq_self,vcP2,Nat.reduceShiftRight,Nat.reduceMod]
                  refine callS_of hh ?_
                  simp only [vcV,vcD,Int.reduceEq,Int.reduceNe,Int.reduceLT,Int.reduceLE,Nat.reduceEqDiff,Nat.reduceAdd,reduceIte,reduceCtorEq,Nat.reduceLT,Nat.reduceLeDiff,eq_self,vcP2,Nat.reduceShiftRight,Nat.reduceMod]
                  refine ⟨⟨v' / 2,by rw [gcd_half_r (by omega) hv];exact vg',by omega,by omega⟩,by simp only;omega,?_⟩
                  refine weakX [] (of_decide_eq_true rfl) (of_decide_eq_true rfl) ?_
                  (simp only [wdA,vcW,vcV,vcD,Int.reduceEq,Int.reduceNe,Int.reduceLT,Int.reduceLE,Nat.reduceEqDiff,Nat.reduceAdd,reduceIte,reduceCtorEq,Nat.reduceLT,Nat.reduceLeDiff,eq_self,vcP2,Nat.reduceShiftRight,Nat.reduceMod])
                  (repeat' first | exact trivial | (with_reducible first | exact RnB.fxB (ints_fxB _) | rfl | refine And.intro ?_ ?_) | (with_reducible (first | refine RnB.bb ?_ | refine RnB.nb ?_);simp only [vcW,vcV,vcD,Int.reduceEq,Int.reduceNe,Int.reduceLT,Int.reduceLE,Nat.reduceEqDiff,Nat.reduceAdd,reduceIte,reduceCtorEq,Nat.reduceLT,Nat.reduceLeDiff,eq_self,vcP2,Nat.reduceShiftRight,Nat.reduceMod]) | (with_reducible first | refine RnB.ii ?_ | refine RnB.app ?_) | (with_reducible refine RnB.fxB ?_;simp only [vcW,vcV,vcD,Int.reduceEq,Int.reduceNe,Int.reduceLT,Int.reduceLE,Nat.reduceEqDiff,Nat.reduceAdd,reduceIte,reduceCtorEq,Nat.reduceLT,Nat.reduceLeDiff,eq_self,vcP2,Nat.reduceShiftRight,Nat.reduceMod]) | omega)
                · have hd:¬ ((v' % 2:Nat):Int)=0:=by omega
                  have hL:=isLess_s false false v' u'
                  have hN:=fun z=>negated_s false z
                  have hP:∀ p q:Nat,q≤p→p≤m+n→Sound Tryz.prog 106 [wdA false p,wdA true q] (wdA false (p - q)):=fun p q h1 h2=>by
                    have:=plus_other_s false p q (by unfold W128;omega) (by unfold W128;omega)
                    rw [if_neg (by omega)] at this
                    exact this
                  by_cases hlt:v'<u'
                  · rw [decide_eq_true hlt] at hL
                    have hP1:=hP u' v' (by omega) (by omega)
                    have hN1:Sound Tryz.prog 185 [wdA false v'] (wdA true v'):=negated_s false v'
                    unfold wdA at hL hP1 hN1 ⊢
                    simp only [hb,hd,vcV,vcD,Int.reduceEq,Int.reduceNe,Int.reduceLT,Int.reduceLE,Nat.reduceEqDiff,Nat.reduceAdd,reduceIte,reduceCtorEq,Nat.reduceLT,Nat.reduceLeDiff,eq_self,vcP2,Nat.reduceShiftRight,Nat.reduceMod]
                    refine callS_of hL ?_
                    simp only [vcV,vcD,Int.reduceEq,Int.reduceNe,Int.reduceLT,Int.reduceLE,Nat.reduceEqDiff,Nat.reduceAdd,reduceIte,reduceCtorEq,Nat.reduceLT,Nat.reduceLeDiff,eq_self,vcP2,Nat.reduceShiftRight,Nat.reduceMod]
                    refine callS_of hN1 ?_
                    simp only [vcV,vcD,Int.reduceEq,Int.reduceNe,Int.reduceLT,Int.reduceLE,Nat.reduceEqDiff,Nat.reduceAdd,reduceIte,reduceCtorEq,Nat.reduceLT,Nat.reduceLeDiff,eq_self,vcP2,Nat.reduceShiftRight,Nat.reduceMod]
                    refine callS_of hP1 ?_
                    simp only [vcV,vcD,Int.reduceEq,Int.reduceNe,Int.reduceLT,Int.reduceLE,Nat.reduceEqDiff,Nat.reduceAdd,reduceIte,reduceCtorEq,Nat.reduceLT,Nat.reduceLeDiff,eq_self,vcP2,Nat.reduceShiftRight,Nat.reduceMod]
                    refine ⟨⟨(v',u' - v'),?_,v0',by simp only;omega,by simp only;omega⟩,by simp only;omega,?_⟩
                    · simp only;rw [gcd_sub_r (by omega),Nat.gcd_comm];exact vg'
                    · refine weakX [] (of_decide_eq_true rfl) (of_decide_eq_true rfl) ?_
                      (simp only [wdA,vcW,vcV,vcD,Int.reduceEq,Int.reduceNe,Int.reduceLT,Int.reduceLE,Nat.reduceEqDiff,Nat.reduceAdd,reduceIte,reduceCtorEq,Nat.reduceLT,Nat.reduceLeDiff,eq_self,vcP2,Nat.reduceShiftRight,Nat.reduceMod])
                      (repeat' first | exact trivial | (with_reducible first | exact RnB.fxB (ints_fxB _) | rfl | refine And.intro ?_ ?_) | (with_reducible (first | refine RnB.bb ?_ | refine RnB.nb ?_);simp only [vcW,vcV,vcD,Int.reduceEq,Int.reduceNe,Int.reduceLT,Int.reduceLE,Nat.reduceEqDiff,Nat.reduceAdd,reduceIte,reduceCtorEq,Nat.reduceLT,Nat.reduceLeDiff,eq_self,vcP2,Nat.reduceShiftRight,Nat.reduceMod]) | (with_reducible first | refine RnB.ii ?_ | refine RnB.app ?_) | (with_reducible refine RnB.fxB ?_;simp only [vcW,vcV,vcD,Int.reduceEq,Int.reduceNe,Int.reduceLT,Int.reduceLE,Nat.reduceEqDiff,Nat.reduceAdd,reduceIte,reduceCtorEq,Nat.reduceLT,Nat.reduceLeDiff,eq_self,vcP2,Nat.reduceShiftRight,Nat.reduceMod]) | omega)
                  · rw [decide_eq_false hlt] at hL
                    have hP1:=hP v' u' (by omega) (by omega)
                    have hN1:Sound Tryz.prog 185 [wdA false u'] (wdA true u'):=negated_s false u'
                    unfold wdA at hL hP1 hN1 ⊢
                    simp only [hb,hd,vcV,vcD,Int.reduceEq,Int.reduceNe,Int.reduceLT,Int.reduceLE,Nat.reduceEqDiff,Nat.reduceAdd,reduceIte,reduceCtorEq,Nat.reduceLT,Nat.reduceLeDiff,eq_self,vcP2,Nat.reduceShiftRight,Nat.reduceMod]
                    refine callS_of hL ?_
                    simp only [vcV,vcD,Int.reduceEq,Int.reduceNe,Int.reduceLT,Int.reduceLE,Nat.reduceEqDiff,Nat.reduceAdd,reduceIte,reduceCtorEq,Nat.reduceLT,Nat.reduceLeDiff,eq_self,vcP2,Nat.reduceShiftRight,Nat.reduceMod]
                    refine callS_of hN1 ?_
                    simp only [vcV,vcD,Int.reduceEq,Int.reduceNe,Int.reduceLT,Int.reduceLE,Nat.reduceEqDiff,Nat.reduceAdd,reduceIte,reduceCtorEq,Nat.reduceLT,Nat.reduceLeDiff,eq_self,vcP2,Nat.reduceShiftRight,Nat.reduceMod]
                    refine callS_of hP1 ?_
                    simp only [vcV,vcD,Int.reduceEq,Int.reduceNe,Int.reduceLT,Int.reduceLE,Nat.reduceEqDiff,Nat.reduceAdd,reduceIte,reduceCtorEq,Nat.reduceLT,Nat.reduceLeDiff,eq_self,vcP2,Nat.reduceShiftRight,Nat.reduceMod]
                    refine ⟨⟨(u',v' - u'),?_,u0',by simp only;omega,by simp only;omega⟩,by simp only;omega,?_⟩
                    · simp only;rw [gcd_sub_r (by omega)];exact vg'
                    · refine weakX [] (of_decide_eq_true rfl) (of_decide_eq_true rfl) ?_
                      (simp only [wdA,vcW,vcV,vcD,Int.reduceEq,Int.reduceNe,Int.reduceLT,Int.reduceLE,Nat.reduceEqDiff,Nat.reduceAdd,reduceIte,reduceCtorEq,Nat.reduceLT,Nat.reduceLeDiff,eq_self,vcP2,Nat.reduceShiftRight,Nat.reduceMod])
                      (repeat' first | exact trivial | (with_reducible first | exact RnB.fxB (ints_fxB _) | rfl | refine And.intro ?_ ?_) | (with_reducible (first | refine RnB.bb ?_ | refine RnB.nb ?_);simp only [vcW,vcV,vcD,Int.reduceEq,Int.reduceNe,Int.reduceLT,Int.reduceLE,Nat.reduceEqDiff,Nat.reduceAdd,reduceIte,reduceCtorEq,Nat.reduceLT,Nat.reduceLeDiff,eq_self,vcP2,Nat.reduceShiftRight,Nat.reduceMod]) | (with_reducible first | refine RnB.ii ?_ | refine RnB.app ?_) | (with_reducible refine RnB.fxB ?_;simp only [vcW,vcV,vcD,Int.reduceEq,Int.reduceNe,Int.reduceLT,Int.reduceLE,Nat.reduceEqDiff,Nat.reduceAdd,reduceIte,reduceCtorEq,Nat.reduceLT,Nat.reduceLeDiff,eq_self,vcP2,Nat.reduceShiftRight,Nat.reduceMod]) | omega)
end Go.Proofs.YtgmpcbpmnimkoaaGreatDoor

/- The examples of chapter 2,by running the abstract code;an iterator from the end on. By an AI agent;nothing here is trusted. -/
namespace Go.Proofs.YtgmpcbpmnimkoaaGreatDoor
open Go.Av

def w128 (p:Bool × Int × Int):AV:=.agg [.bool p.1,.int .u64 p.2.1,.int .u64 p.2.2]
def w128s (l:List (Bool × Int × Int)):List AV:=l.map w128
theorem w128s_length (l:List (Bool × Int × Int)):(w128s l).length=l.length:=by simp [w128s]
theorem w128s_get (l:List (Bool × Int × Int)) (i:Nat) (h:i<l.length):(w128s l)[i]?=some (.agg [.bool l[i].1,.int .u64 l[i].2.1,.int .u64 l[i].2.2]):=by
  simp [w128s,w128,h]
def backL (l:List (Bool × Int × Int)):Nat→List (List AV)
  | 0=>[]
  | k+1=>backL l k ++ [[.int .i64 ((l.length:Int) - 1 - k),w128 (l.getD (l.length - 1 - k) default)]]
theorem backL_le (l:List (Bool × Int × Int)) (k n:Nat) (h:k≤n):∃ r,backL l n=backL l k ++ r:=by
  obtain ⟨m,rfl⟩:=Nat.exists_eq_add_of_le h
  induction m with
  | zero=>exact ⟨[],by simp⟩
  | succ m ih =>
    obtain ⟨r,hr⟩:=ih (by omega)
    exact ⟨r ++ [[.int .i64 ((l.length:Int) - 1 - (k+m:Nat)),w128 (l.getD (l.length - 1 - (k+m)) default)]],by rw [← Nat.add_assoc,backL,hr,List.append_assoc]⟩
theorem deadAll_no:deadAll noStore=noStore:=rfl
theorem backward_s (l:List (Bool × Int × Int)) (hl:l.length≤1000000):SeqA Tryz.prog 252 [.eptr (.sl (w128s l)) 0] (backL l l.length):=by
  refine seq_W f_slices_Backward_pulse_wide_pulse_wide_1 (Nat.le_of_ble_eq_true rfl) fun y=>?_
  simp only [c_slices_Backward_pulse_wide_pulse_wide_1,w128s_length,vcC,Int.reduceEq,Int.reduceNe,Int.reduceLT,Int.reduceLE,Nat.reduceEqDiff,Nat.reduceAdd,reduceIte,reduceCtorEq,Nat.reduceLT,Nat.reduceLeDiff,eq_self,vcP,WY_skip,WY_reg,WY_regY,WY_seq,WY_cond,WY_block,WY_exit,WY_ret,VY_nil,VY_yld,VY_yldg,VY_ps,seqY_n,seqY_r,seqY_x,blockY_n,blockY_r,blockY_x,isCallvs,isCallv,isY,List.any_cons,List.any_nil,Bool.or_false,Bool.or_true,Bool.false_or,Bool.and_false,Bool.false_and]
  refine ⟨by unfold I64;omega,?_⟩
  refine WY_loop (α:=PSigma fun k:Nat=>k≤l.length) (fun k=>((envOf [(0,.yld y),(1,.eptr (.sl (w128s l)) 0),(3,.int .i64 ((l.length:Int) - 1 - k.1))],noStore),some (backL l k.1)))
    (fun k=>l.length - k.1) ⟨0,by simp⟩ (weakE _ ?_) ?_ (fun ⟨k,hk⟩=>?_)
  · simp only [vcC,Int.reduceEq,Int.reduceNe,Int.reduceLT,Int.reduceLE,Nat.reduceEqDiff,Nat.reduceAdd,reduceIte,reduceCtorEq,Nat.reduceLT,Nat.reduceLeDiff,eq_self,vcP,WY_skip,WY_reg,WY_regY,WY_seq,WY_cond,WY_block,WY_exit,WY_ret,VY_nil,VY_yld,VY_yldg,VY_ps,seqY_n,seqY_r,seqY_x,blockY_n,blockY_r,blockY_x,isCallvs,isCallv,isY,List.any_cons,List.any_nil,Bool.or_false,Bool.or_true,Bool.false_or,Bool.and_false,Bool.false_and];simp
  · simp [backL]
  · simp only [vcC,Int.reduceEq,Int.reduceNe,Int.reduceLT,Int.reduceLE,Nat.reduceEqDiff,Nat.reduceAdd,reduceIte,reduceCtorEq,Nat.reduceLT,Nat.reduceLeDiff,eq_self,vcP,WY_skip,WY_reg,WY_regY,WY_seq,WY_cond,WY_block,WY_exit,WY_ret,VY_nil,VY_yld,VY_yldg,VY_ps,seqY_n,seqY_r,seqY_x,blockY_n,blockY_r,blockY_x,isCallvs,isCallv,isY,List.any_cons,List.any_nil,Bool.or_false,Bool.or_true,Bool.false_or,Bool.and_false,Bool.false_and]
    refine brB_split (fun h=>?_) (fun h=>?_)
    · have h':k<l.length:=by simp only [decide_eq_true_eq] at h;omega
      have h2:((l.length:Int) - 1 - k).toNat=l.length - 1 - k:=by omega
      have hg:=w128s_get l (l.length - 1 - k) (by omega)
      simp only [h2,hg,vcC,Int.reduceEq,Int.reduceNe,Int.reduceLT,Int.reduceLE,Nat.reduceEqDiff,Nat.reduceAdd,reduceIte,reduceCtorEq,Nat.reduceLT,Nat.reduceLeDiff,eq_self,vcP,WY_skip,WY_reg,WY_regY,WY_seq,WY_cond,WY_block,WY_exit,WY_ret,VY_nil,VY_yld,VY_yldg,VY_ps,seqY_n,seqY_r,seqY_x,blockY_n,blockY_r,blockY_x,isCallvs,isCallv,isY,List.any_cons,List.any_nil,Bool.or_false,Bool.or_true,Bool.false_or,Bool.and_false,Bool.false_and]
      refine ⟨by omega,?_⟩
      obtain ⟨rest,hrest⟩:=backL_le l (k+1) l.length h'
      rw [backL,w128,show l.getD (l.length - 1 - k) default=l[l.length - 1 - k]'(by omega) by simp [List.getD,List.getElem?_eq_getElem (show l.length - 1 - k<l.length by omega)]] at hrest
      refine yS_of (backL l k) rest rfl ?_ ?_ ?_
      · rw [hrest];simp
      · simp only [deadAll_no,vcC,Int.reduceEq,Int.reduceNe,Int.reduceLT,Int.reduceLE,Nat.reduceEqDiff,Nat.reduceAdd,reduceIte,reduceCtorEq,Nat.reduceLT,Nat.reduceLeDiff,eq_self,vcP,WY_skip,WY_reg,WY_regY,WY_seq,WY_cond,WY_block,WY_exit,WY_ret,VY_nil,VY_yld,VY_yldg,VY_ps,seqY_n,seqY_r,seqY_x,blockY_n,blockY_r,blockY_x,isCallvs,isCallv,isY,List.any_cons,List.any_nil,Bool.or_false,Bool.or_true,Bool.false_or,Bool.and_false,Bool.false_and]
        refine ⟨by unfold I64;omega,⟨k+1,h'⟩,by simp only;omega,weakE _ ?_,?_⟩
        · simp only [vcC,Int.reduceEq,Int.reduceNe,Int.reduceLT,Int.reduceLE,Nat.reduceEqDiff,Nat.reduceAdd,reduceIte,reduceCtorEq,Nat.reduceLT,Nat.reduceLeDiff,eq_self,vcP,WY_skip,WY_reg,WY_regY,WY_seq,WY_cond,WY_block,WY_exit,WY_ret,VY_nil,VY_yld,VY_yldg,VY_ps,seqY_n,seqY_r,seqY_x,blockY_n,blockY_r,blockY_x,isCallvs,isCallv,isY,List.any_cons,List.any_nil,Bool.or_false,Bool.or_true,Bool.false_or,Bool.and_false,Bool.false_and]
          simp only [AV.int.injEq,true_and,and_true]
          omega
        · simp only [backL,w128,show l.getD (l.length - 1 - k) default=l[l.length - 1 - k]'(by omega) by simp [List.getD,List.getElem?_eq_getElem (show l.length - 1 - k<l.length by omega)]]
      · simp only [deadAll_no,vcC,Int.reduceEq,Int.reduceNe,Int.reduceLT,Int.reduceLE,Nat.reduceEqDiff,Nat.reduceAdd,reduceIte,reduceCtorEq,Nat.reduceLT,Nat.reduceLeDiff,eq_self,vcP,WY_skip,WY_reg,WY_regY,WY_seq,WY_cond,WY_block,WY_exit,WY_ret,VY_nil,VY_yld,VY_yldg,VY_ps,seqY_n,seqY_r,seqY_x,blockY_n,blockY_r,blockY_x,isCallvs,isCallv,isY,List.any_cons,List.any_nil,Bool.or_false,Bool.or_true,Bool.false_or,Bool.and_false,Bool.false_and];simp
    · simp only [vcC,Int.reduceEq,Int.reduceNe,Int.reduceLT,Int.reduceLE,Nat.reduceEqDiff,Nat.reduceAdd,reduceIte,reduceCtorEq,Nat.reduceLT,Nat.reduceLeDiff,eq_self,vcP,WY_skip,WY_reg,WY_regY,WY_seq,WY_cond,WY_block,WY_exit,WY_ret,VY_nil,VY_yld,VY_yldg,VY_ps,seqY_n,seqY_r,seqY_x,blockY_n,blockY_r,blockY_x,isCallvs,isCallv,isY,List.any_cons,List.any_nil,Bool.or_false,Bool.or_true,Bool.false_or,Bool.and_false,Bool.false_and]
      have:k=l.length:=by simp only [decide_eq_false_iff_not,Bool.not_true] at h;omega
      subst this
      simp

def unw:AV→Option (Bool × Int × Int)
  | .agg [.bool a,.int .u64 b,.int .u64 c]=>some (a,b,c)
  | _=>none
def unws:List AV→Option (List (Bool × Int × Int))
  | []=>some []
  | x :: l=>match unw x,unws l with
    | some n,some m=>some (n :: m)
    | _,_=>none
theorem unws_some:∀ {l:List AV} {m:List (Bool × Int × Int)},unws l=some m→l=w128s m
  | [],m,h=>by cases h;rfl
  | x :: l,m,h=>by
    simp only [unws] at h
    split at h
    · rename_i n k h1 h2
      cases h
      rw [unws_some h2]
      unfold unw at h1
      split at h1
      · cases h1;rfl
      · cases h1
    · cases h
def unint:AV→Option Int
  | .int .i64 n=>some n
  | _=>none
def unints:List AV→Option (List Int)
  | []=>some []
  | x :: l=>match unint x,unints l with
    | some n,some m=>some (n :: m)
    | _,_=>none
theorem unints_some:∀ {l:List AV} {m:List Int},unints l=some m→l=ints m
  | [],m,h=>by cases h;rfl
  | x :: l,m,h=>by
    simp only [unints] at h
    split at h
    · rename_i n k h1 h2
      cases h
      rw [unints_some h2]
      unfold unint at h1
      split at h1
      · cases h1;rfl
      · cases h1
    · cases h

def itP:IterT:=fun g caps=>if g=252 then (match caps with
  | [.eptr (.sl es) 0]=>(match unws es with
    | some l=>if l.length≤1000000 then some (backL l l.length) else none
    | none=>none)
  | _=>none) else none
theorem itP_ok:∀ g caps xs,itP g caps=some xs→SeqA Tryz.prog g caps xs:=by
  intro g caps xs h
  unfold itP at h
  split at h
  · rename_i hg
    subst hg
    split at h
    · rename_i es
      split at h
      · rename_i l hl
        split at h
        · rename_i hc
          cases h
          rw [unws_some hl]
          exact backward_s l hc
        · cases h
      · cases h
    · cases h
  · cases h
def extV:CallT:=fun f a =>
  if f=170 then (match a with
    | [.sl es]=>(match unints es with
      | some l=>if l.length≤1000000 then some (.sl es) else none
      | none=>none)
    | _=>none)
  else if f=191 then (match a with
    | [.int .u64 x,.int .u64 y,.int .u64 c]=>if 0≤x∧0≤y∧0≤c∧c≤1 then some (.tup [.int .u64 ((x+y+c) % 18446744073709551616),.int .u64 ((x+y+c) / 18446744073709551616)]) else none
    | _=>none)
  else if f=192 then (match a with
    | [.int .u64 x,.int .u64 y,.int .u64 c]=>if 0≤x∧0≤y∧0≤c∧c≤1 then some (.tup [.int .u64 (((x.toNat+18446744073709551616 - y.toNat - c.toNat) % 18446744073709551616:Nat):Int),.int .u64 ((if x.toNat<y.toNat+c.toNat then 1 else 0:Nat):Int)]) else none
    | _=>none)
  else none
theorem extV_ok:∀ f a v,extV f a=some v→Sound Tryz.prog f a v:=by
  intro f a v h
  unfold extV at h
  split at h
  · rename_i hf
    subst hf
    split at h
    · rename_i es
      split at h
      · rename_i l hl
        split at h
        · rename_i hc
          cases h
          rw [unints_some hl]
          exact Clone_s l (by omega)
        · cases h
      · cases h
    · cases h
  · split at h
    · rename_i hf
      subst hf
      split at h
      · rename_i x y c
        split at h
        · rename_i hc
          cases h
          exact Add64_s x y c hc.1 hc.2.1 hc.2.2
        · cases h
      · cases h
    · split at h
      · rename_i hf
        subst hf
        split at h
        · rename_i x y c
          split at h
          · rename_i hc
            cases h
            have:=Sub64_s x.toNat y.toNat c.toNat (by omega)
            rw [show ((x.toNat:Nat):Int)=x by omega,show ((y.toNat:Nat):Int)=y by omega,show ((c.toNat:Nat):Int)=c by omega] at this
            exact this
          · cases h
        · cases h
      · cases h
def extO:OwnT:=fun f a=>if f=170 then (match a with
    | [.sl es]=>(match unints es with
      | some l=>if l.length≤1000000 then some (3,1,es) else none
      | none=>none)
    | _=>none) else none
theorem extO_ok:∀ f a q,extO f a=some q→SoundO Tryz.prog f a q.1 q.2.1 q.2.2:=by
  intro f a q h
  unfold extO at h
  split at h
  · rename_i hf
    subst hf
    split at h
    · rename_i es
      split at h
      · rename_i l hl
        split at h
        · rename_i hc
          cases h
          rw [unints_some hl]
          exact Clone_o l (by omega)
        · cases h
      · cases h
    · cases h
  · cases h
def extP:CT:=⟨extV,extO⟩
theorem extP_ok:extP.ok Tryz.prog:=⟨extV_ok,extO_ok⟩
def owP:FuncId→Bool:=fun f=>decide (f=170) || decide (f=120)
def tabP:List (Nat × Nat × Nat × MC × List (Nat × Option (Option Nat))):=[(11,91,0,c_law02_awake,[(0,none)]),(89,47,2,c_pulse_KeptAfter,[(4,none),(5,none)]),(16,6,1,c_base_CopyInts,[(2,none)]),(90,65,1,c_pulse_GainOf,[(2,(some (some 2))),(3,none)]),(82,12,2,c_pulse_Restored,[(4,none),(5,none)]),(57,6,1,c_ref02_Wave,[(2,(some (some 1)))]),(34,26,2,c_base_Ints,[(4,none)]),(14,58,2,c_pulse_FitOf,[(4,(some (some 2))),(5,none)]),(88,3,0,c_law02_Template,[(0,(some (some 2)))]),(23,41,3,c_pulse_ErrorOf,[(6,(some (some 2))),(7,none)]),(117,15,1,c_pulse_first,[(2,none)]),(178,30,1,c_pulse_timesErr,[(2,none)]),(119,7,2,c_pulse_unless,[(4,none)]),(179,5,1,c_pulse_isTick,[(2,none)]),(114,9,2,c_slices_ContainsFunc_int_int,[(4,none)]),(180,6,1,c_pulse_GainOf_1,[(2,none)]),(116,15,3,c_pulse_within,[(6,none)]),(181,25,1,c_slices_Max_int_int,[(2,none)]),(130,17,1,c_pulse_sum,[(2,none)]),(175,28,2,c_pulse_lowest,[(4,(some (some 2))),(5,none)]),(174,60,3,c_pulse_droop,[(6,none),(7,none)]),(217,24,1,c_pulse_samplesErr,[(2,none),(3,none)]),(151,11,1,c_pulse_sampled,[(2,none)]),(227,16,2,c_pulse_floor,[(4,none)]),(152,21,1,c_pulse_fitErr,[(2,none)]),(176,5,1,c_pulse_isSample,[(2,none)]),(91,22,2,c_pulse_fittedErr,[(4,none)]),(92,55,2,c_pulse_problemOf,[(4,(some (some 2)))]),(93,8,1,c_math_bits_TrailingZeros,[(2,none)]),(94,92,2,c_pulse_problem_solved,[(4,(some (some 3))),(5,none)]),(95,56,3,c_pulse_problem_isBest,[(6,none)]),(96,62,2,c_pulse_reduced,[(4,(some (some 2))),(5,none)]),(104,21,3,c_pulse_bothErr,[(6,none)]),(105,35,3,c_pulse_differences,[(6,none)]),(106,57,2,c_pulse_wide_plus,[(4,(some (some 3)))]),(107,11,1,c_pulse_wideOf,[(2,(some (some 3)))]),(108,33,2,c_pulse_wide_times,[(4,(some (some 3)))]),(109,39,1,c_pulse_wide_text,[(2,none)]),(197,19,2,c_slices_IndexFunc_int_int,[(4,none)]),(127,15,2,c_pulse_divisor,[(4,none)]),(226,12,1,c_pulse_droopErr,[(2,none)]),(250,6,1,c_pulse_samplesErr_1,[(2,none)]),(218,6,1,c_pulse_fitErr_1,[(2,none)]),(199,10,2,c_pulse_isSized,[(4,none)]),(118,32,1,c_pulse_templateErr,[(2,none)]),(120,47,2,c_pulse_model,[(4,none)]),(128,30,3,c_pulse_against,[(6,none)]),(182,14,1,c_math_bits_TrailingZeros32,[(2,none)]),(183,14,1,c_math_bits_TrailingZeros64,[(2,none)]),(184,57,1,c_pulse_determinant,[(2,(some (some 3)))]),(185,11,1,c_pulse_wide_negated,[(2,(some (some 3)))]),(186,9,1,c_pulse_wide_sign,[(2,none)]),(187,60,2,c_pulse_common,[(4,(some (some 3)))]),(188,51,2,c_pulse_wide_over,[(4,(some (some 3)))]),(131,24,2,c_pulse_wide_isLess,[(4,none)]),(193,51,2,c_math_bits_Mul64,[(4,none),(5,none)]),(194,135,3,c_math_bits_Div64,[(6,none),(7,none)]),(195,8,2,c_strconv_FormatUint,[(4,none)]),(198,6,1,c_pulse_templateErr_1,[(2,none)]),(200,5,1,c_pulse_templateErr_2,[(2,none)]),(228,11,1,c_pulse_wide_isZero,[(2,none)]),(229,8,1,c_pulse_wide_size,[(2,(some (some 3)))]),(230,16,1,c_pulse_wide_half,[(2,(some (some 3)))]),(231,6,1,c_pulse_wide_twice,[(2,(some (some 3)))]),(232,4,1,c_slices_Backward_pulse_wide_pulse_wide,[(2,none)]),(233,6,1,c_math_bits_LeadingZeros64,[(2,none)]),(234,32,2,c_internal_strconv_FormatUint,[(4,none)]),(252,19,2,c_slices_Backward_pulse_wide_pulse_wide_1,[]),(253,25,1,c_math_bits_Len64,[(2,none)]),(254,15,1,c_internal_strconv_small,[(2,none)]),(255,15,1,c_internal_strconv_numDigits,[(2,none)]),(256,167,2,c_internal_strconv_formatBase10,[]),(257,102,5,c_internal_strconv_formatBits,[(10,none),(11,none)]),(270,6,1,c_internal_strconv_log10Pow2,[(2,none)]),(271,4,1,c_internal_strconv_bool2_int,[(2,none)]),(272,8,1,c_internal_strconv_isPowerOfTwo,[(2,none)])]
theorem tabP_ok:∀ f c,lookC tabP f=some c→cFun Tryz.prog f=some c:=by
  refine lookC_ok ?_
  unfold tabP
  simp only [List.forall_mem_cons]
  exact ⟨f_law02_awake,f_pulse_KeptAfter,f_base_CopyInts,f_pulse_GainOf,f_pulse_Restored,f_ref02_Wave,f_base_Ints,f_pulse_FitOf,f_law02_Template,f_pulse_ErrorOf,f_pulse_first,f_pulse_timesErr,f_pulse_unless,f_pulse_isTick,f_slices_ContainsFunc_int_int,f_pulse_GainOf_1,f_pulse_within,f_slices_Max_int_int,f_pulse_sum,f_pulse_lowest,f_pulse_droop,f_pulse_samplesErr,f_pulse_sampled,f_pulse_floor,f_pulse_fitErr,f_pulse_isSample,f_pulse_fittedErr,f_pulse_problemOf,f_math_bits_TrailingZeros,f_pulse_problem_solved,f_pulse_problem_isBest,f_pulse_reduced,f_pulse_bothErr,f_pulse_differences,f_pulse_wide_plus,f_pulse_wideOf,f_pulse_wide_times,f_pulse_wide_text,f_slices_IndexFunc_int_int,f_pulse_divisor,f_pulse_droopErr,f_pulse_samplesErr_1,f_pulse_fitErr_1,f_pulse_isSized,f_pulse_templateErr,f_pulse_model,f_pulse_against,f_math_bits_TrailingZeros32,f_math_bits_TrailingZeros64,f_pulse_determinant,f_pulse_wide_negated,f_pulse_wide_sign,f_pulse_common,f_pulse_wide_over,f_pulse_wide_isLess,f_math_bits_Mul64,f_math_bits_Div64,f_strconv_FormatUint,f_pulse_templateErr_1,f_pulse_templateErr_2,f_pulse_wide_isZero,f_pulse_wide_size,f_pulse_wide_half,f_pulse_wide_twice,f_slices_Backward_pulse_wide_pulse_wide,f_math_bits_LeadingZeros64,f_internal_strconv_FormatUint,f_slices_Backward_pulse_wide_pulse_wide_1,f_math_bits_Len64,f_internal_strconv_small,f_internal_strconv_numDigits,f_internal_strconv_formatBase10,f_internal_strconv_formatBits,f_internal_strconv_log10Pow2,f_internal_strconv_bool2_int,f_internal_strconv_isPowerOfTwo,fun p hp=>by cases hp⟩
end Go.Proofs.YtgmpcbpmnimkoaaGreatDoor

/- Quotients of numbers of 128 bits. By an AI agent;nothing here is trusted. -/
namespace Go.Proofs.YtgmpcbpmnimkoaaGreatDoor
open Go.Av

theorem Backward_s (l:List (Bool × Int × Int)):Sound Tryz.prog 232 [.sl (w128s l)] (.fn 252 [.eptr (.sl (w128s l)) 0]):=by
  refine sound_W f_slices_Backward_pulse_wide_pulse_wide (Nat.le_of_ble_eq_true rfl) ?_
  simp only [c_slices_Backward_pulse_wide_pulse_wide,vcV,vcD,Int.reduceEq,Int.reduceNe,Int.reduceLT,Int.reduceLE,Nat.reduceEqDiff,Nat.reduceAdd,reduceIte,reduceCtorEq,Nat.reduceLT,Nat.reduceLeDiff,eq_self,vcP2,Nat.reduceShiftRight,Nat.reduceMod]
def pwl (d n:Nat):List (Bool × Int × Int):=(List.range n).map fun i=>(false,((d * 2 ^ i / 18446744073709551616:Nat):Int),((d * 2 ^ i % 18446744073709551616:Nat):Int))
theorem pwl_len (d n:Nat):(pwl d n).length=n:=by simp [pwl]
theorem pwl_get (d n i:Nat) (h:i<n):(w128s (pwl d n))[i]?=some (wdA false (d * 2 ^ i)):=by
  simp [w128s,pwl,w128,wdA,h]
theorem pwl_getD (d n i:Nat) (h:i<n):w128 ((pwl d n).getD i default)=wdA false (d * 2 ^ i):=by
  simp [pwl,w128,wdA,h,List.getD]
theorem w128s_imm (l:List (Bool × Int × Int)):(w128s l).all imm=true:=List.all_eq_true.2 fun x hx=>by
  obtain ⟨y,_,rfl⟩:=List.mem_map.1 hx;rfl
theorem pwl_succ (d n:Nat):w128s (pwl d n) ++ [wdA false (d * 2 ^ n)]=w128s (pwl d (n+1)):=by
  simp [w128s,pwl,w128,wdA,List.range_succ]
theorem pwl_fxB (d n:Nat):(w128s (pwl d n)).all fx=true:=List.all_eq_true.2 fun x hx=>by
  obtain ⟨y,_,rfl⟩:=List.mem_map.1 hx;rfl
def ovS (m d n:Nat):Nat→Nat × Nat
  | 0=>(m,0)
  | j+1=>let p:=ovS m d n j
    if p.1<d * 2 ^ (n - 1 - j) then (p.1,p.2+p.2) else (p.1 - d * 2 ^ (n - 1 - j),p.2+p.2+1)
theorem ovS_inv {m d n:Nat} (hn:m<d * 2 ^ n):∀ j,j≤n→(ovS m d n j).2 * (d * 2 ^ (n - j))+(ovS m d n j).1=m∧(ovS m d n j).1<d * 2 ^ (n - j)
  | 0,_=>by simp [ovS,hn]
  | j+1,h=>by
    obtain ⟨h1,h2⟩:=ovS_inv hn j (by omega)
    have e:n - j=(n - 1 - j)+1:=by omega
    have e2:n - (j+1)=n - 1 - j:=by omega
    rw [e2]
    have hd:d * 2 ^ (n - j)=2 * (d * 2 ^ (n - 1 - j)):=by rw [e,Nat.pow_succ];grind
    rw [hd] at h1 h2
    obtain ⟨D,hD⟩:∃ D,D=d * 2 ^ (n - 1 - j):=⟨_,rfl⟩
    rw [← hD] at h1 h2 ⊢
    unfold ovS
    simp only [← hD]
    clear hD hd
    generalize ovS m d n j=p at *
    obtain ⟨r,q⟩:=p
    simp only at h1 h2 ⊢
    by_cases g:r<D
    · rw [if_pos g];simp only;constructor
      · grind
      · exact g
    · rw [if_neg g];simp only;constructor
      · have:r - D+D=r:=by omega
        grind
      · omega
theorem ovS_end {m d n:Nat} (hn:m<d * 2 ^ n) (hd:0<d):(ovS m d n n).2=m / d:=by
  obtain ⟨h1,h2⟩:=ovS_inv hn n (Nat.le_refl _)
  rw [Nat.sub_self,Nat.pow_zero,Nat.mul_one] at h1 h2
  obtain ⟨p,hp⟩:∃ p,p=ovS m d n n:=⟨_,rfl⟩
  rw [← hp] at h1 h2 ⊢
  rw [← h1,Nat.add_comm,Nat.add_mul_div_right _ _ hd,Nat.div_eq_of_lt h2,Nat.zero_add]
theorem ovS_le {m d n:Nat} (hn:m<d * 2 ^ n) (hd:0<d) {j:Nat} (hj:j≤n):(ovS m d n j).1≤m∧(ovS m d n j).2≤m:=by
  obtain ⟨h1,h2⟩:=ovS_inv hn j hj
  have:(ovS m d n j).2≤(ovS m d n j).2 * (d * 2 ^ (n - j)):=Nat.le_mul_of_pos_right _ (Nat.mul_pos hd (Nat.two_pow_pos _))
  omega
theorem backL_len (l:List (Bool × Int × Int)):∀ n,(backL l n).length=n
  | 0=>rfl
  | n+1=>by rw [backL,List.length_append,backL_len l n];rfl
theorem backL_get (l:List (Bool × Int × Int)):∀ {n j:Nat} (h:j<(backL l n).length),(backL l n)[j]=[.int .i64 ((l.length:Int) - 1 - j),w128 (l.getD (l.length - 1 - j) default)]
  | 0,j,h=>by simp [backL] at h
  | n+1,j,h=>by
    rw [backL_len] at h
    by_cases e:j<n
    · have:=backL_get l (n:=n) (j:=j) (by rw [backL_len];exact e)
      rw [← this]
      simp only [backL]
      exact List.getElem_append_left _
    · have:j=n:=by omega
      subst this
      simp only [backL]
      rw [List.getElem_append_right (by rw [backL_len];exact Nat.le_refl _)]
      simp [backL_len]
theorem at_prefix2 {β:Type} {L pre:List β} {x:β} {rest:List β} (h:pre ++ x :: rest=L):∃ hk:pre.length<L.length,x=L[pre.length]:=by
  subst h
  exact ⟨by simp,by simp⟩
theorem over_s (a:Bool) (m d:Nat) (hm:W128 (m+m)) (hd:0<d) (hdd:W128 (d+d)):Sound Tryz.prog 188 [wdA a m,wdA false d] (wdA false (m / d)):=by
  refine sound_W f_pulse_wide_over (Nat.le_of_ble_eq_true rfl) ?_
  have hs1:=size_s a m
  unfold W128 at hm hdd
  have hmax:=maxLen_big
  have hpos:∀ i:Nat,0<2 ^ i:=Nat.two_pow_pos
  unfold wdA at hs1 ⊢
  simp only [c_pulse_wide_over,vcV,vcD,Int.reduceEq,Int.reduceNe,Int.reduceLT,Int.reduceLE,Nat.reduceEqDiff,Nat.reduceAdd,reduceIte,reduceCtorEq,Nat.reduceLT,Nat.reduceLeDiff,eq_self,vcP2,Nat.reduceShiftRight,Nat.reduceMod]
  refine callS_of hs1 ?_
  simp only [vcV,vcD,Int.reduceEq,Int.reduceNe,Int.reduceLT,Int.reduceLE,Nat.reduceEqDiff,Nat.reduceAdd,reduceIte,reduceCtorEq,Nat.reduceLT,Nat.reduceLeDiff,eq_self,vcP2,Nat.reduceShiftRight,Nat.reduceMod]
  refine W_loop (t:=.mk) (α:=PSigma fun i:Nat=>d * 2 ^ i≤m∨i=0) (fun ⟨i,_⟩=>(envOf [(2,.ptr 2 0 0),(4,.ptr 4 0 0),(5,.ptr 5 0 0),(6,.buf 100 (i+1))],stOf [(2,⟨157,3,[wdA false m]⟩),(4,⟨157,3,[.agg [.bool false,.int .u64 0,.int .u64 0]]⟩),(5,⟨157,3,[.agg [.bool false,.int .u64 0,.int .u64 0]]⟩),(100,⟨157,3,w128s (pwl d (i+1))⟩)])) (fun x=>m - x.1) ⟨0,Or.inr rfl⟩ ?_ (fun ⟨i,hi⟩=>?_)
  · have z:w128s (pwl d (0+1))=[wdA false d]:=by simp [pwl,w128s,w128,wdA]
    refine weakX [(100,some 12)] (of_decide_eq_true rfl) (of_decide_eq_true rfl) ?_
    (simp only [z,wdA,vcW,vcV,vcD,Int.reduceEq,Int.reduceNe,Int.reduceLT,Int.reduceLE,Nat.reduceEqDiff,Nat.reduceAdd,reduceIte,reduceCtorEq,Nat.reduceLT,Nat.reduceLeDiff,eq_self,vcP2,Nat.reduceShiftRight,Nat.reduceMod])
    (repeat' first | exact trivial | (with_reducible first | exact RnB.fxB (ints_fxB _) | rfl | refine And.intro ?_ ?_) | (with_reducible (first | refine RnB.bb ?_ | refine RnB.nb ?_);simp only [vcW,vcV,vcD,Int.reduceEq,Int.reduceNe,Int.reduceLT,Int.reduceLE,Nat.reduceEqDiff,Nat.reduceAdd,reduceIte,reduceCtorEq,Nat.reduceLT,Nat.reduceLeDiff,eq_self,vcP2,Nat.reduceShiftRight,Nat.reduceMod]) | (with_reducible first | refine RnB.ii ?_ | refine RnB.app ?_) | (with_reducible refine RnB.fxB ?_;simp only [vcW,vcV,vcD,Int.reduceEq,Int.reduceNe,Int.reduceLT,Int.reduceLE,Nat.reduceEqDiff,Nat.reduceAdd,reduceIte,reduceCtorEq,Nat.reduceLT,Nat.reduceLeDiff,eq_self,vcP2,Nat.reduceShiftRight,Nat.reduceMod]) | omega)
  · dsimp only at hi ⊢
    have hle:d * 2 ^ i≤m∨d * 2 ^ i=d:=by
      rcases hi with h | h
      · exact .inl h
      · right;rw [h,Nat.pow_zero,Nat.mul_one]
    have hsu:d * 2 ^ i+d * 2 ^ i=d * 2 ^ (i+1):=by rw [Nat.pow_succ,← Nat.mul_assoc];omega
    have him:i≤127:=by
      refine Classical.byContradiction fun h=>?_
      have h1:2 ^ 128≤2 ^ i:=Nat.pow_le_pow_right (by omega) (by omega)
      have h2:2 ^ i≤d * 2 ^ i:=Nat.le_mul_of_pos_left _ hd
      have h3:(2:Nat) ^ 128=340282366920938463463374607431768211456:=by decide
      omega
    have ht:=twice_s false (d * 2 ^ i) (by unfold W128;omega)
    have hL:=isLess_s false false m (d * 2 ^ i+d * 2 ^ i)
    have hg:=pwl_get d (i+1) i (by omega)
    have hwl:(w128s (pwl d (i+1))).length=i+1:=by rw [w128s_length,pwl_len]
    have hix:(((i+1:Nat):Int) - 1).toNat=i:=by omega
    rw [hsu] at ht hL
    unfold wdA at ht hL hg ⊢
    by_cases hlt:m<d * 2 ^ (i+1)
    · rw [decide_eq_true hlt] at hL
      simp only [hg,hwl,hix,vcV,vcD,Int.reduceEq,Int.reduceNe,Int.reduceLT,Int.reduceLE,Nat.reduceEqDiff,Nat.reduceAdd,reduceIte,reduceCtorEq,Nat.reduceLT,Nat.reduceLeDiff,eq_self,vcP2,Nat.reduceShiftRight,Nat.reduceMod]
      (repeat (with_reducible refine And.intro ?_ ?_;focus (first | omega | (unfold I64;omega))))
      refine callS_of ht ?_
      simp only [vcV,vcD,Int.reduceEq,Int.reduceNe,Int.reduceLT,Int.reduceLE,Nat.reduceEqDiff,Nat.reduceAdd,reduceIte,reduceCtorEq,Nat.reduceLT,Nat.reduceLeDiff,eq_self,vcP2,Nat.reduceShiftRight,Nat.reduceMod]
      refine callS_of hL ?_
      simp only [vcV,vcD,Int.reduceEq,Int.reduceNe,Int.reduceLT,Int.reduceLE,Nat.reduceEqDiff,Nat.reduceAdd,reduceIte,reduceCtorEq,Nat.reduceLT,Nat.reduceLeDiff,eq_self,vcP2,Nat.reduceShiftRight,Nat.reduceMod]
      rw [borB_good _ _ _ _ _ hwl.symm (List.all_eq_true.1 (pwl_fxB d (i+1)))]
      refine callS_of (Backward_s (pwl d (i+1))) ?_
      simp only [vcV,vcD,Int.reduceEq,Int.reduceNe,Int.reduceLT,Int.reduceLE,Nat.reduceEqDiff,Nat.reduceAdd,reduceIte,reduceCtorEq,Nat.reduceLT,Nat.reduceLeDiff,eq_self,vcP2,Nat.reduceShiftRight,Nat.reduceMod]
      obtain ⟨st,hst⟩:∃ st:List (List AV)→Store,st=fun pre=>stOf [(2,⟨157,3,[wdA false (ovS m d (i+1) pre.length).1]⟩),(4,⟨157,3,[.agg [.bool false,.int .u64 0,.int .u64 0]]⟩),(5,⟨157,3,[wdA false (ovS m d (i+1) pre.length).2]⟩)]:=⟨_,rfl⟩
      refine W_weakR (t:=.mk) (envOf [(2,.ptr 2 0 0),(4,.ptr 4 0 0),(5,.ptr 5 0 0),(34,.fn 252 [.eptr (.sl (w128s (pwl d (i+1)))) 0])],st []) ?_ ?_
      · subst hst
        have z:wdA false (ovS m d (i+1) 0).2=.agg [.bool false,.int .u64 0,.int .u64 0]:=by simp [ovS,wdA]
        have z2:wdA false (ovS m d (i+1) 0).1=.agg [.bool false,.int .u64 ((m / 18446744073709551616:Nat):Int),.int .u64 ((m % 18446744073709551616:Nat):Int)]:=by simp [ovS,wdA]
        refine weakX [] (of_decide_eq_true rfl) (of_decide_eq_true rfl) ?_
        (simp only [z,z2,vcX,w128s_imm,vcW,vcV,vcD,Int.reduceEq,Int.reduceNe,Int.reduceLT,Int.reduceLE,Nat.reduceEqDiff,Nat.reduceAdd,reduceIte,reduceCtorEq,Nat.reduceLT,Nat.reduceLeDiff,eq_self,vcP2,Nat.reduceShiftRight,Nat.reduceMod])
        (repeat' first | exact trivial | (with_reducible first | exact RnB.fxB (ints_fxB _) | rfl | refine And.intro ?_ ?_) | (with_reducible (first | refine RnB.bb ?_ | refine RnB.nb ?_);simp only [vcW,vcV,vcD,Int.reduceEq,Int.reduceNe,Int.reduceLT,Int.reduceLE,Nat.reduceEqDiff,Nat.reduceAdd,reduceIte,reduceCtorEq,Nat.reduceLT,Nat.reduceLeDiff,eq_self,vcP2,Nat.reduceShiftRight,Nat.reduceMod]) | (with_reducible first | refine RnB.ii ?_ | refine RnB.app ?_) | (with_reducible refine RnB.fxB ?_;simp only [vcW,vcV,vcD,Int.reduceEq,Int.reduceNe,Int.reduceLT,Int.reduceLE,Nat.reduceEqDiff,Nat.reduceAdd,reduceIte,reduceCtorEq,Nat.reduceLT,Nat.reduceLeDiff,eq_self,vcP2,Nat.reduceShiftRight,Nat.reduceMod]) | omega)
      · have hps:∀ x ∈ backL (pwl d (i+1)) (pwl d (i+1)).length,x.length=[35,36].length:=fun x hx=>by
          obtain ⟨j,hj,rfl⟩:=List.getElem_of_mem hx
          rw [backL_get _ hj];rfl
        refine W_rf (tt:=.mk) (xs:=backL (pwl d (i+1)) (pwl d (i+1)).length) rfl (by simp [imm]) rfl rfl (backward_s _ (by rw [pwl_len];omega)) hps st (Weak.refl _) (fun pre x rest hsp=>?_) ?_
        · obtain ⟨hk,hx⟩:=at_prefix2 hsp
          rw [backL_get _ hk] at hx
          rw [backL_len,pwl_len] at hk
          rw [pwl_len,pwl_getD _ _ _ (by omega)] at hx
          subst hx
          have hstp:st (pre ++ [[.int .i64 (((i+1:Nat):Int) - 1 - pre.length),wdA false (d * 2 ^ (i+1 - 1 - pre.length))]])=stOf [(2,⟨157,3,[wdA false (ovS m d (i+1) (pre.length+1)).1]⟩),(4,⟨157,3,[.agg [.bool false,.int .u64 0,.int .u64 0]]⟩),(5,⟨157,3,[wdA false (ovS m d (i+1) (pre.length+1)).2]⟩)]:=by
            rw [hst];simp only [List.length_append,List.length_cons,List.length_nil]
          rw [hstp]
          have hso:st pre=stOf [(2,⟨157,3,[wdA false (ovS m d (i+1) pre.length).1]⟩),(4,⟨157,3,[.agg [.bool false,.int .u64 0,.int .u64 0]]⟩),(5,⟨157,3,[wdA false (ovS m d (i+1) pre.length).2]⟩)]:=by
            rw [hst]
          rw [hso]
          have hinv:=ovS_inv hlt pre.length (by omega)
          have hle2:=ovS_le hlt hd (j:=pre.length) (by omega)
          have hle3:=ovS_le hlt hd (j:=pre.length+1) (by omega)
          have hstep:ovS m d (i+1) (pre.length+1)=if (ovS m d (i+1) pre.length).1<d * 2 ^ (i+1 - 1 - pre.length) then ((ovS m d (i+1) pre.length).1,(ovS m d (i+1) pre.length).2+(ovS m d (i+1) pre.length).2) else ((ovS m d (i+1) pre.length).1 - d * 2 ^ (i+1 - 1 - pre.length),(ovS m d (i+1) pre.length).2+(ovS m d (i+1) pre.length).2+1):=rfl
          generalize ovS m d (i+1) (pre.length+1)=Q at *
          generalize ovS m d (i+1) pre.length=P at *
          generalize d * 2 ^ (i+1 - 1 - pre.length)=D at *
          obtain ⟨r,q⟩:=P
          simp only at hinv hle2 hle3 hstep
          have htw:=twice_s false q (by unfold W128;omega)
          have hL2:=isLess_s false false r D
          by_cases g:r<D
          · rw [if_pos g] at hstep
            subst hstep
            rw [decide_eq_true g] at hL2
            unfold wdA at htw hL2 ⊢
            simp only [vcV,vcD,Int.reduceEq,Int.reduceNe,Int.reduceLT,Int.reduceLE,Nat.reduceEqDiff,Nat.reduceAdd,reduceIte,reduceCtorEq,Nat.reduceLT,Nat.reduceLeDiff,eq_self,vcP2,Nat.reduceShiftRight,Nat.reduceMod]
            refine callS_of htw ?_
            simp only [vcV,vcD,Int.reduceEq,Int.reduceNe,Int.reduceLT,Int.reduceLE,Nat.reduceEqDiff,Nat.reduceAdd,reduceIte,reduceCtorEq,Nat.reduceLT,Nat.reduceLeDiff,eq_self,vcP2,Nat.reduceShiftRight,Nat.reduceMod]
            refine callS_of hL2 ?_
            simp only [vcV,vcD,Int.reduceEq,Int.reduceNe,Int.reduceLT,Int.reduceLE,Nat.reduceEqDiff,Nat.reduceAdd,reduceIte,reduceCtorEq,Nat.reduceLT,Nat.reduceLeDiff,eq_self,vcP2,Nat.reduceShiftRight,Nat.reduceMod]
            refine weakX [] (of_decide_eq_true rfl) (of_decide_eq_true rfl) ?_
            (simp only [vcW,vcV,vcD,Int.reduceEq,Int.reduceNe,Int.reduceLT,Int.reduceLE,Nat.reduceEqDiff,Nat.reduceAdd,reduceIte,reduceCtorEq,Nat.reduceLT,Nat.reduceLeDiff,eq_self,vcP2,Nat.reduceShiftRight,Nat.reduceMod])
            (repeat' first | exact trivial | (with_reducible first | exact RnB.fxB (ints_fxB _) | rfl | refine And.intro ?_ ?_) | (with_reducible (first | refine RnB.bb ?_ | refine RnB.nb ?_);simp only [vcW,vcV,vcD,Int.reduceEq,Int.reduceNe,Int.reduceLT,Int.reduceLE,Nat.reduceEqDiff,Nat.reduceAdd,reduceIte,reduceCtorEq,Nat.reduceLT,Nat.reduceLeDiff,eq_self,vcP2,Nat.reduceShiftRight,Nat.reduceMod]) | (with_reducible first | refine RnB.ii ?_ | refine RnB.app ?_) | (with_reducible refine RnB.fxB ?_;simp only [vcW,vcV,vcD,Int.reduceEq,Int.reduceNe,Int.reduceLT,Int.reduceLE,Nat.reduceEqDiff,Nat.reduceAdd,reduceIte,reduceCtorEq,Nat.reduceLT,Nat.reduceLeDiff,eq_self,vcP2,Nat.reduceShiftRight,Nat.reduceMod]) | omega)
          · rw [if_neg g] at hstep
            subst hstep
            simp only at hle3
            rw [decide_eq_false g] at hL2
            have hN1:Sound Tryz.prog 185 [wdA false D] (wdA true D):=negated_s false D
            have hP1:Sound Tryz.prog 106 [wdA false r,wdA true D] (wdA false (r - D)):=by
              have:=plus_other_s false r D (by unfold W128;omega) (by unfold W128;omega)
              rw [if_neg (by omega)] at this
              exact this
            have hO:=pwideOf_s 1 (by unfold S63;omega)
            have hP2:=plus_same_s false (q+q) 1 (by unfold W128;omega)
            have e1:(1:Int).natAbs=1:=rfl
            have e2:decide ((1:Int)<0)=false:=rfl
            rw [e1,e2] at hO
            unfold wdA at htw hL2 hN1 hP1 hO hP2 ⊢
            simp only [vcV,vcD,Int.reduceEq,Int.reduceNe,Int.reduceLT,Int.reduceLE,Nat.reduceEqDiff,Nat.reduceAdd,reduceIte,reduceCtorEq,Nat.reduceLT,Nat.reduceLeDiff,eq_self,vcP2,Nat.reduceShiftRight,Nat.reduceMod]
            refine callS_of htw ?_
            simp only [vcV,vcD,Int.reduceEq,Int.reduceNe,Int.reduceLT,Int.reduceLE,Nat.reduceEqDiff,Nat.reduceAdd,reduceIte,reduceCtorEq,Nat.reduceLT,Nat.reduceLeDiff,eq_self,vcP2,Nat.reduceShiftRight,Nat.reduceMod]
            refine callS_of hL2 ?_
            simp only [vcV,vcD,Int.reduceEq,Int.reduceNe,Int.reduceLT,Int.reduceLE,Nat.reduceEqDiff,Nat.reduceAdd,reduceIte,reduceCtorEq,Nat.reduceLT,Nat.reduceLeDiff,eq_self,vcP2,Nat.reduceShiftRight,Nat.reduceMod]
            refine callS_of hN1 ?_
            simp only [vcV,vcD,Int.reduceEq,Int.reduceNe,Int.reduceLT,Int.reduceLE,Nat.reduceEqDiff,Nat.reduceAdd,reduceIte,reduceCtorEq,Nat.reduceLT,Nat.reduceLeDiff,eq_self,vcP2,Nat.reduceShiftRight,Nat.reduceMod]
            refine callS_of hP1 ?_
            simp only [vcV,vcD,Int.reduceEq,Int.reduceNe,Int.reduceLT,Int.reduceLE,Nat.reduceEqDiff,Nat.reduceAdd,reduceIte,reduceCtorEq,Nat.reduceLT,Nat.reduceLeDiff,eq_self,vcP2,Nat.reduceShiftRight,Nat.reduceMod]
            refine callS_of hO ?_
            simp only [vcV,vcD,Int.reduceEq,Int.reduceNe,Int.reduceLT,Int.reduceLE,Nat.reduceEqDiff,Nat.reduceAdd,reduceIte,reduceCtorEq,Nat.reduceLT,Nat.reduceLeDiff,eq_self,vcP2,Nat.reduceShiftRight,Nat.reduceMod]
            refine callS_of hP2 ?_
            simp only [vcV,vcD,Int.reduceEq,Int.reduceNe,Int.reduceLT,Int.reduceLE,Nat.reduceEqDiff,Nat.reduceAdd,reduceIte,reduceCtorEq,Nat.reduceLT,Nat.reduceLeDiff,eq_self,vcP2,Nat.reduceShiftRight,Nat.reduceMod]
            refine weakX [] (of_decide_eq_true rfl) (of_decide_eq_true rfl) ?_
            (simp only [vcW,vcV,vcD,Int.reduceEq,Int.reduceNe,Int.reduceLT,Int.reduceLE,Nat.reduceEqDiff,Nat.reduceAdd,reduceIte,reduceCtorEq,Nat.reduceLT,Nat.reduceLeDiff,eq_self,vcP2,Nat.reduceShiftRight,Nat.reduceMod])
            (repeat' first | exact trivial | (with_reducible first | exact RnB.fxB (ints_fxB _) | rfl | refine And.intro ?_ ?_) | (with_reducible (first | refine RnB.bb ?_ | refine RnB.nb ?_);simp only [vcW,vcV,vcD,Int.reduceEq,Int.reduceNe,Int.reduceLT,Int.reduceLE,Nat.reduceEqDiff,Nat.reduceAdd,reduceIte,reduceCtorEq,Nat.reduceLT,Nat.reduceLeDiff,eq_self,vcP2,Nat.reduceShiftRight,Nat.reduceMod]) | (with_reducible first | refine RnB.ii ?_ | refine RnB.app ?_) | (with_reducible refine RnB.fxB ?_;simp only [vcW,vcV,vcD,Int.reduceEq,Int.reduceNe,Int.reduceLT,Int.reduceLE,Nat.reduceEqDiff,Nat.reduceAdd,reduceIte,reduceCtorEq,Nat.reduceLT,Nat.reduceLeDiff,eq_self,vcP2,Nat.reduceShiftRight,Nat.reduceMod]) | omega)
        · have hend:=ovS_end hlt hd
          rw [pwl_len]
          have hso:st (backL (pwl d (i+1)) (i+1))=stOf [(2,⟨157,3,[wdA false (ovS m d (i+1) (i+1)).1]⟩),(4,⟨157,3,[.agg [.bool false,.int .u64 0,.int .u64 0]]⟩),(5,⟨157,3,[wdA false (m / d)]⟩)]:=by
            rw [hst];simp only [backL_len,hend]
          rw [hso]
          unfold wdA
          simp only [vcV,vcD,Int.reduceEq,Int.reduceNe,Int.reduceLT,Int.reduceLE,Nat.reduceEqDiff,Nat.reduceAdd,reduceIte,reduceCtorEq,Nat.reduceLT,Nat.reduceLeDiff,eq_self,vcP2,Nat.reduceShiftRight,Nat.reduceMod]
    · rw [decide_eq_false hlt] at hL
      simp only [hg,hwl,hix,vcV,vcD,Int.reduceEq,Int.reduceNe,Int.reduceLT,Int.reduceLE,Nat.reduceEqDiff,Nat.reduceAdd,reduceIte,reduceCtorEq,Nat.reduceLT,Nat.reduceLeDiff,eq_self,vcP2,Nat.reduceShiftRight,Nat.reduceMod]
      (repeat (with_reducible refine And.intro ?_ ?_;focus (first | omega | (unfold I64;omega))))
      refine callS_of ht ?_
      simp only [vcV,vcD,Int.reduceEq,Int.reduceNe,Int.reduceLT,Int.reduceLE,Nat.reduceEqDiff,Nat.reduceAdd,reduceIte,reduceCtorEq,Nat.reduceLT,Nat.reduceLeDiff,eq_self,vcP2,Nat.reduceShiftRight,Nat.reduceMod]
      refine callS_of hL ?_
      simp only [hg,hwl,hix,vcV,vcD,Int.reduceEq,Int.reduceNe,Int.reduceLT,Int.reduceLE,Nat.reduceEqDiff,Nat.reduceAdd,reduceIte,reduceCtorEq,Nat.reduceLT,Nat.reduceLeDiff,eq_self,vcP2,Nat.reduceShiftRight,Nat.reduceMod]
      (repeat (with_reducible refine And.intro ?_ ?_;focus (first | omega | (unfold I64;omega))))
      refine callS_of ht ?_
      simp only [hwl,vcV,vcD,Int.reduceEq,Int.reduceNe,Int.reduceLT,Int.reduceLE,Nat.reduceEqDiff,Nat.reduceAdd,reduceIte,reduceCtorEq,Nat.reduceLT,Nat.reduceLeDiff,eq_self,vcP2,Nat.reduceShiftRight,Nat.reduceMod]
      (repeat (with_reducible refine And.intro ?_ ?_;focus (first | omega | (unfold I64;omega))))
      have hl2:=Nat.lt_two_pow_self (n:=i+1)
      have hl3:2 ^ (i+1)≤d * 2 ^ (i+1):=Nat.le_mul_of_pos_left _ hd
      have hsuc:=pwl_succ d (i+1)
      unfold wdA at hsuc
      refine ⟨⟨i+1,Or.inl (by omega)⟩,by simp only;omega,?_⟩
      refine weakX [(100,some 32)] (of_decide_eq_true rfl) (of_decide_eq_true rfl) ?_
      (simp only [wdA,hsuc,vcW,vcV,vcD,Int.reduceEq,Int.reduceNe,Int.reduceLT,Int.reduceLE,Nat.reduceEqDiff,Nat.reduceAdd,reduceIte,reduceCtorEq,Nat.reduceLT,Nat.reduceLeDiff,eq_self,vcP2,Nat.reduceShiftRight,Nat.reduceMod])
      (repeat' first | exact trivial | (with_reducible first | exact RnB.fxB (ints_fxB _) | rfl | refine And.intro ?_ ?_) | (with_reducible (first | refine RnB.bb ?_ | refine RnB.nb ?_);simp only [vcW,vcV,vcD,Int.reduceEq,Int.reduceNe,Int.reduceLT,Int.reduceLE,Nat.reduceEqDiff,Nat.reduceAdd,reduceIte,reduceCtorEq,Nat.reduceLT,Nat.reduceLeDiff,eq_self,vcP2,Nat.reduceShiftRight,Nat.reduceMod]) | (with_reducible first | refine RnB.ii ?_ | refine RnB.app ?_) | (with_reducible refine RnB.fxB ?_;simp only [vcW,vcV,vcD,Int.reduceEq,Int.reduceNe,Int.reduceLT,Int.reduceLE,Nat.reduceEqDiff,Nat.reduceAdd,reduceIte,reduceCtorEq,Nat.reduceLT,Nat.reduceLeDiff,eq_self,vcP2,Nat.reduceShiftRight,Nat.reduceMod]) | omega)
      all_goals exact RnB.fxB (pwl_fxB _ _)
end Go.Proofs.YtgmpcbpmnimkoaaGreatDoor

