/- Contracts of small functions. By an AI agent; nothing here is trusted. -/
import Derived.Test.YtgmpcbpmnimkoaaLayC
import Derived.Test.YtgmpcbpmnimkoaaKode
import Derived.Test.YtgmpcbpmnimkoaaLayD
import Derived.Test.YtgmpcbpmnimkoaaLayA
import Derived.Test.YtgmpcbpmnimkoaaProg
import Derived.Shelf.Spec.BitsCarry
import Derived.Lib.Mul64
import Derived.Shelf.LaysM
import Derived.Shelf.LaysC
import Derived.Shelf.Strconv.Itoa3
import Derived.Lib.LaidTab
set_option linter.defProp false
set_option linter.unusedSimpArgs false
set_option linter.unusedVariables false
namespace Go.Proofs.Ytgmpcbpmnimkoaa
open Go.Av

abbrev i64 (n:Int):AV:=.int .i64 n
def prs (l:List (Int × Int)):List AV:=l.map fun p=>.agg [.int .i64 p.1,.int .i64 p.2]
theorem prs_length (l:List (Int × Int)):(prs l).length=l.length:=by simp [prs]
theorem prs_get (l:List (Int × Int)) (i:Nat) (h:i<l.length):(prs l)[i]?=some (.agg [.int .i64 l[i].1,.int .i64 l[i].2]):=by
 simp [prs,h]
theorem prs_fx (l:List (Int × Int)):∀ x ∈ prs l,fx x=true:=by
 intro x hx
 obtain ⟨n,_,rfl⟩:=List.mem_map.1 hx
 rfl

theorem within_s (n lo hi:Int):Sound Try.prog 97 [.int .i64 n,.int .i64 lo,.int .i64 hi] (.bool (decide (lo≤n∧n≤hi))):=by
 refine sound_W f_watch_within (Nat.le_of_ble_eq_true rfl) ?_
 simp only [c_watch_within,vcC,Int.reduceEq,Int.reduceNe,Int.reduceLT,Int.reduceLE,Nat.reduceEqDiff,Nat.reduceAdd,reduceIte,reduceCtorEq,Nat.reduceLT,Nat.reduceLeDiff,eq_self,vcP]
 refine brB_split (fun h=>?_) (fun h=>?_) <;> simp only [h,vcC,Int.reduceEq,Int.reduceNe,Int.reduceLT,Int.reduceLE,Nat.reduceEqDiff,Nat.reduceAdd,reduceIte,reduceCtorEq,Nat.reduceLT,Nat.reduceLeDiff,eq_self,vcP]
 ·exact bool_eq (by simp at h;simp [h])
 ·simp at h;simp;omega

theorem unless_s (ok:Bool) (e:Int):Sound Try.prog 49 [.bool ok,.int .i64 e] (.int .i64 (if ok then 0 else e)):=by
 refine sound_W f_watch_unless (Nat.le_of_ble_eq_true rfl) ?_
 simp only [c_watch_unless,vcC,Int.reduceEq,Int.reduceNe,Int.reduceLT,Int.reduceLE,Nat.reduceEqDiff,Nat.reduceAdd,reduceIte,reduceCtorEq,Nat.reduceLT,Nat.reduceLeDiff,eq_self,vcP]
 refine brB_split (fun h=>?_) (fun h=>?_) <;> subst h <;> simp only [vcC,Int.reduceEq,Int.reduceNe,Int.reduceLT,Int.reduceLE,Nat.reduceEqDiff,Nat.reduceAdd,reduceIte,reduceCtorEq,Nat.reduceLT,Nat.reduceLeDiff,eq_self,vcP]

def firstErr (l:List Int):Int:=(l.find? (· ≠ 0)).getD 0

theorem first_s (l:List Int) (hl:l.length<4000000000000000000):Sound Try.prog 48 [.sl (ints l)] (.int .i64 (firstErr l)):=by
 refine sound_W f_watch_first (Nat.le_of_ble_eq_true rfl) ?_
 simp only [c_watch_first,vcC,Int.reduceEq,Int.reduceNe,Int.reduceLT,Int.reduceLE,Nat.reduceEqDiff,Nat.reduceAdd,reduceIte,reduceCtorEq,Nat.reduceLT,Nat.reduceLeDiff,eq_self,vcP]
 refine W_loop (α:=PSigma fun i:Nat=>i≤l.length∧∀ x ∈ l.take i,x=0) (fun i=>(envOf [(5,.sl (ints l)),(6,.int .i64 l.length),(7,.int .i64 i.1)],noStore)) (fun i=>l.length - i.1) ⟨0,by simp⟩ (weakE _ ?_) (fun ⟨i,hi,hn⟩=>?_)
 ·simp only [vcC,Int.reduceEq,Int.reduceNe,Int.reduceLT,Int.reduceLE,Nat.reduceEqDiff,Nat.reduceAdd,reduceIte,reduceCtorEq,Nat.reduceLT,Nat.reduceLeDiff,eq_self,vcP];rfl
 ·simp only [vcC,Int.reduceEq,Int.reduceNe,Int.reduceLT,Int.reduceLE,Nat.reduceEqDiff,Nat.reduceAdd,reduceIte,reduceCtorEq,Nat.reduceLT,Nat.reduceLeDiff,eq_self,vcP]
  refine brB_split (fun h=>?_) (fun h=>?_)
  ·have h':i<l.length:=by (simp only [decide_eq_true_eq,decide_eq_false_iff_not,Bool.not_true,I64,Bool.not_eq_true',Bool.not_eq_false',bne_iff_ne,beq_iff_eq,ne_eq] at *;omega)
   simp only [ints_get l i h',vcC,Int.reduceEq,Int.reduceNe,Int.reduceLT,Int.reduceLE,Nat.reduceEqDiff,Nat.reduceAdd,reduceIte,reduceCtorEq,Nat.reduceLT,Nat.reduceLeDiff,eq_self,vcP]
   refine ⟨by omega,?_⟩
   refine brB_split (fun h=>?_) (fun h=>?_)
   ·simp only [vcC,Int.reduceEq,Int.reduceNe,Int.reduceLT,Int.reduceLE,Nat.reduceEqDiff,Nat.reduceAdd,reduceIte,reduceCtorEq,Nat.reduceLT,Nat.reduceLeDiff,eq_self,vcP]
    have h0:l[i] ≠ 0:=by simpa using h
    have hs:l.find? (· ≠ 0)=some l[i]:=by
     rw [List.find?_eq_some_iff_getElem]
     exact ⟨by simpa using h0,i,h',rfl,fun j hj=>by simp [hn l[j] (by rw [List.mem_take_iff_getElem];exact ⟨j,by omega,rfl⟩)]⟩
    unfold firstErr
    rw [hs];rfl
   ·simp only [vcC,Int.reduceEq,Int.reduceNe,Int.reduceLT,Int.reduceLE,Nat.reduceEqDiff,Nat.reduceAdd,reduceIte,reduceCtorEq,Nat.reduceLT,Nat.reduceLeDiff,eq_self,vcP]
    refine ⟨by (simp only [decide_eq_true_eq,decide_eq_false_iff_not,Bool.not_true,I64,Bool.not_eq_true',Bool.not_eq_false',bne_iff_ne,beq_iff_eq,ne_eq] at *;omega),⟨i+1,by omega,?_⟩,by simp only;omega,weakE _ ?_⟩
    ·rw [List.take_succ_eq_append_getElem h']
     intro x hx
     rcases List.mem_append.1 hx with hx | hx
     ·exact hn x hx
     ·simp at hx h;rw [hx,h]
    ·simp only [vcC,Int.reduceEq,Int.reduceNe,Int.reduceLT,Int.reduceLE,Nat.reduceEqDiff,Nat.reduceAdd,reduceIte,reduceCtorEq,Nat.reduceLT,Nat.reduceLeDiff,eq_self,vcP];simp
  ·simp only [vcC,Int.reduceEq,Int.reduceNe,Int.reduceLT,Int.reduceLE,Nat.reduceEqDiff,Nat.reduceAdd,reduceIte,reduceCtorEq,Nat.reduceLT,Nat.reduceLeDiff,eq_self,vcP]
   have:i=l.length:=by (simp only [decide_eq_true_eq,decide_eq_false_iff_not,Bool.not_true,I64,Bool.not_eq_true',Bool.not_eq_false',bne_iff_ne,beq_iff_eq,ne_eq] at *;omega)
   subst this
   unfold firstErr
   rw [List.take_length] at hn
   rw [List.find?_eq_none.2 (fun x hx=>by simp [hn x hx])]
   rfl

theorem odd_1_s (n most:Int):Sound Try.prog 144 [.int .i64 n,.eptr (.int .i64 most) 0] (.bool (decide (¬ (0≤n∧n≤most)))):=by
 refine sound_W f_watch_odd_1 (Nat.le_of_ble_eq_true rfl) ?_
 simp only [c_watch_odd_1,vcC,Int.reduceEq,Int.reduceNe,Int.reduceLT,Int.reduceLE,Nat.reduceEqDiff,Nat.reduceAdd,reduceIte,reduceCtorEq,Nat.reduceLT,Nat.reduceLeDiff,eq_self,vcP]
 refine callS_of (within_s _ _ _) ?_
 simp only [vcC,Int.reduceEq,Int.reduceNe,Int.reduceLT,Int.reduceLE,Nat.reduceEqDiff,Nat.reduceAdd,reduceIte,reduceCtorEq,Nat.reduceLT,Nat.reduceLeDiff,eq_self,vcP]
 simp only [decide_not]

def idxOf {α:Type} (l:List α) (p:α→Bool):Int:=match l.findIdx? p with
 | some i=>i
 | none => -1

theorem map_fx1 {caps:List AV} (h:∀ c ∈ caps,fx1 c=true) (s:Store) (n:Nat):caps.map (bor s n)=caps:=by
 conv=>rhs;rw [← List.map_id caps]
 exact List.map_congr_left fun c hc=>(fx1_spec (h c hc)).2 s n

theorem idxFunc_int_s (l:List Int) (f:FuncId) (caps:List AV) (p:Int→Bool) (hl:l.length<4000000000000000000) (hc:∀ c ∈ caps,fx1 c=true)
  (hp:∀ x ∈ l,Sound Try.prog f (.int .i64 x :: caps) (.bool (p x))):Sound Try.prog 141 [.sl (ints l),.fn f caps] (.int .i64 (idxOf l p)):=by
 refine sound_W f_slices_IndexFunc_int_int (Nat.le_of_ble_eq_true rfl) ?_
 simp only [c_slices_IndexFunc_int_int,vcC,Int.reduceEq,Int.reduceNe,Int.reduceLT,Int.reduceLE,Nat.reduceEqDiff,Nat.reduceAdd,reduceIte,reduceCtorEq,Nat.reduceLT,Nat.reduceLeDiff,eq_self,vcP]
 refine W_loop (α:=PSigma fun i:Nat=>i≤l.length∧∀ x ∈ l.take i,p x=false) (fun i=>(envOf [(0,.sl (ints l)),(1,.fn f caps),(6,.sl (ints l)),(7,.int .i64 l.length),(8,.int .i64 i.1)],noStore)) (fun i=>l.length - i.1) ⟨0,by simp⟩ (weakE _ ?_) (fun ⟨i,hi,hn⟩=>?_)
 ·simp only [vcC,Int.reduceEq,Int.reduceNe,Int.reduceLT,Int.reduceLE,Nat.reduceEqDiff,Nat.reduceAdd,reduceIte,reduceCtorEq,Nat.reduceLT,Nat.reduceLeDiff,eq_self,vcP];rfl
 ·simp only [vcC,Int.reduceEq,Int.reduceNe,Int.reduceLT,Int.reduceLE,Nat.reduceEqDiff,Nat.reduceAdd,reduceIte,reduceCtorEq,Nat.reduceLT,Nat.reduceLeDiff,eq_self,vcP]
  refine brB_split (fun h=>?_) (fun h=>?_)
  ·have h':i<l.length:=by (simp only [decide_eq_true_eq,decide_eq_false_iff_not,Bool.not_true,I64,Bool.not_eq_true',Bool.not_eq_false',bne_iff_ne,beq_iff_eq,ne_eq] at *;omega)
   simp only [ints_get l i h',vcC,Int.reduceEq,Int.reduceNe,Int.reduceLT,Int.reduceLE,Nat.reduceEqDiff,Nat.reduceAdd,reduceIte,reduceCtorEq,Nat.reduceLT,Nat.reduceLeDiff,eq_self,vcP]
   refine ⟨by omega,?_⟩
   simp only [List.map_append,List.cons_append,List.nil_append,map_fx1 hc,vcC,Int.reduceEq,Int.reduceNe,Int.reduceLT,Int.reduceLE,Nat.reduceEqDiff,Nat.reduceAdd,reduceIte,reduceCtorEq,Nat.reduceLT,Nat.reduceLeDiff,eq_self,vcP]
   refine callS_of (hp _ (List.getElem_mem h')) ?_
   simp only [vcC,Int.reduceEq,Int.reduceNe,Int.reduceLT,Int.reduceLE,Nat.reduceEqDiff,Nat.reduceAdd,reduceIte,reduceCtorEq,Nat.reduceLT,Nat.reduceLeDiff,eq_self,vcP]
   refine brB_split (fun h=>?_) (fun h=>?_)
   ·simp only [vcC,Int.reduceEq,Int.reduceNe,Int.reduceLT,Int.reduceLE,Nat.reduceEqDiff,Nat.reduceAdd,reduceIte,reduceCtorEq,Nat.reduceLT,Nat.reduceLeDiff,eq_self,vcP]
    have hs:l.findIdx? p=some i:=by
     rw [List.findIdx?_eq_some_iff_getElem]
     refine ⟨h',h,fun j hj=>?_⟩
     have:=hn l[j] (by rw [List.mem_take_iff_getElem];exact ⟨j,by omega,rfl⟩)
     simp [this]
    simp [idxOf,hs]
   ·simp only [vcC,Int.reduceEq,Int.reduceNe,Int.reduceLT,Int.reduceLE,Nat.reduceEqDiff,Nat.reduceAdd,reduceIte,reduceCtorEq,Nat.reduceLT,Nat.reduceLeDiff,eq_self,vcP]
    refine ⟨by (simp only [decide_eq_true_eq,decide_eq_false_iff_not,Bool.not_true,I64,Bool.not_eq_true',Bool.not_eq_false',bne_iff_ne,beq_iff_eq,ne_eq] at *;omega),⟨i+1,by omega,?_⟩,by simp only;omega,weakE _ ?_⟩
    ·rw [List.take_succ_eq_append_getElem h']
     intro x hx
     rcases List.mem_append.1 hx with hx | hx
     ·exact hn x hx
     ·simp at hx;rw [hx];exact h
    ·simp only [vcC,Int.reduceEq,Int.reduceNe,Int.reduceLT,Int.reduceLE,Nat.reduceEqDiff,Nat.reduceAdd,reduceIte,reduceCtorEq,Nat.reduceLT,Nat.reduceLeDiff,eq_self,vcP];simp
  ·simp only [vcC,Int.reduceEq,Int.reduceNe,Int.reduceLT,Int.reduceLE,Nat.reduceEqDiff,Nat.reduceAdd,reduceIte,reduceCtorEq,Nat.reduceLT,Nat.reduceLeDiff,eq_self,vcP]
   have:i=l.length:=by (simp only [decide_eq_true_eq,decide_eq_false_iff_not,Bool.not_true,I64,Bool.not_eq_true',Bool.not_eq_false',bne_iff_ne,beq_iff_eq,ne_eq] at *;omega)
   subst this
   rw [List.take_length] at hn
   have hs:l.findIdx? p=none:=List.findIdx?_eq_none_iff.2 hn
   simp [idxOf,hs]

theorem idxOf_any {α:Type} (l:List α) (p:α→Bool):(decide (0≤idxOf l p))=l.any p:=by
 unfold idxOf
 cases h:l.findIdx? p with
 | none =>
  rw [List.findIdx?_eq_none_iff] at h
  have:l.any p=false:=by simpa using h
  rw [this];rfl
 | some i =>
  rw [List.findIdx?_eq_some_iff_getElem] at h
  obtain ⟨hi,hp,_⟩:=h
  have:l.any p=true:=List.any_eq_true.2 ⟨_,List.getElem_mem hi,hp⟩
  rw [this];simp

theorem contFunc_int_s (l:List Int) (f:FuncId) (caps:List AV) (p:Int→Bool) (hl:l.length<4000000000000000000) (hc:∀ c ∈ caps,fx1 c=true)
  (hp:∀ x ∈ l,Sound Try.prog f (.int .i64 x :: caps) (.bool (p x))):Sound Try.prog 100 [.sl (ints l),.fn f caps] (.bool (l.any p)):=by
 refine sound_W f_slices_ContainsFunc_int_int (Nat.le_of_ble_eq_true rfl) ?_
 simp only [c_slices_ContainsFunc_int_int,map_fx1 hc,vcC,Int.reduceEq,Int.reduceNe,Int.reduceLT,Int.reduceLE,Nat.reduceEqDiff,Nat.reduceAdd,reduceIte,reduceCtorEq,Nat.reduceLT,Nat.reduceLeDiff,eq_self,vcP]
 refine callS_of (idxFunc_int_s l f caps p hl hc hp) ?_
 simp only [vcC,Int.reduceEq,Int.reduceNe,Int.reduceLT,Int.reduceLE,Nat.reduceEqDiff,Nat.reduceAdd,reduceIte,reduceCtorEq,Nat.reduceLT,Nat.reduceLeDiff,eq_self,vcP]
 rw [idxOf_any]

theorem odd_s (l:List Int) (most:Int) (hl:l.length<4000000000000000000):Sound Try.prog 107 [.sl (ints l),.int .i64 most] (.bool (!l.all fun n=>decide (0≤n∧n≤most))):=by
 refine sound_W f_watch_odd (Nat.le_of_ble_eq_true rfl) ?_
 simp only [c_watch_odd,vcC,Int.reduceEq,Int.reduceNe,Int.reduceLT,Int.reduceLE,Nat.reduceEqDiff,Nat.reduceAdd,reduceIte,reduceCtorEq,Nat.reduceLT,Nat.reduceLeDiff,eq_self,vcP]
 refine callS_of (contFunc_int_s l _ _ (fun n=>decide (¬ (0≤n∧n≤most))) hl (by simp [fx1]) (fun x _=>odd_1_s x most)) ?_
 simp only [vcC,Int.reduceEq,Int.reduceNe,Int.reduceLT,Int.reduceLE,Nat.reduceEqDiff,Nat.reduceAdd,reduceIte,reduceCtorEq,Nat.reduceLT,Nat.reduceLeDiff,eq_self,vcP]
 congr 1
 rw [List.not_all_eq_any_not]
 simp only [decide_not]

theorem first2_s (a b:Int):Sound Try.prog 48 [.sl [.int .i64 a,.int .i64 b]] (.int .i64 (if a ≠ 0 then a else b)):=by
 have h:=first_s [a,b] (by simp)
 have e:firstErr [a,b]=if a ≠ 0 then a else b:=by
  unfold firstErr
  by_cases ha:a=0 <;> by_cases hb:b=0 <;> simp [ha,hb]
 rw [e] at h
 exact h
theorem first3_s (a b c:Int):Sound Try.prog 48 [.sl [.int .i64 a,.int .i64 b,.int .i64 c]] (.int .i64 (if a ≠ 0 then a else if b ≠ 0 then b else c)):=by
 have h:=first_s [a,b,c] (by simp)
 have e:firstErr [a,b,c]=if a ≠ 0 then a else if b ≠ 0 then b else c:=by
  unfold firstErr
  by_cases ha:a=0 <;> by_cases hb:b=0 <;> by_cases hc:c=0 <;> simp [ha,hb,hc]
 rw [e] at h
 exact h

def countsE (l:List Int):Int:=if 60<l.length then 8 else if l.all (fun n=>decide (0≤n∧n≤1000000)) then 0 else 2
end Go.Proofs.Ytgmpcbpmnimkoaa

/- Contracts: rules,windows,alarms. By an AI agent;nothing here is trusted. -/
namespace Go.Proofs.Ytgmpcbpmnimkoaa
open Go.Av

structure Rule where
 mean:Int
 spread:Int
 window:Int
 limit:Int
def Rule.av (r:Rule):AV:=.agg [.int .i64 r.mean,.int .i64 r.spread,.int .i64 r.window,.int .i64 r.limit]
def Rule.ok (r:Rule):Prop:=(0≤r.mean∧r.mean≤1000000)∧(1≤r.spread∧r.spread≤1000000)∧(1≤r.window∧r.window≤60)∧(0≤r.limit∧r.limit≤1000)
instance (r:Rule):Decidable r.ok:=by unfold Rule.ok;exact inferInstance
end Go.Proofs.Ytgmpcbpmnimkoaa

/- Contracts: windows. By an AI agent;nothing here is trusted. -/

namespace Go.Proofs.Ytgmpcbpmnimkoaa
open Go.Av

def preSum (mean:Int) (l:List Int) (k:Nat):Int:=(l.take k).sum - k * mean
def excess (r:Rule) (l:List Int) (b:Nat):Int:=preSum r.mean l (b+1) - preSum r.mean l (b+1 - r.window.toNat)
def winsTo (r:Rule) (l:List Int) (n:Nat):List (Nat × Int):=((List.range n).filter fun b=>decide (r.window.toNat≤b+1)).map fun b=>(b,excess r l b)
def wins (r:Rule) (l:List Int):List (Nat × Int):=winsTo r l l.length
def winA (p:Nat × Int):List AV:=[.int .i64 p.1,.int .i64 p.2]

theorem preSum_succ (mean:Int) (l:List Int) (k:Nat) (h:k<l.length):preSum mean l (k+1)=preSum mean l k+(l[k] - mean):=by
 unfold preSum
 rw [List.take_succ_eq_append_getElem h,List.sum_append]
 simp
 rw [Int.add_mul]
 omega

theorem countsE_ok {l:List Int} (h:countsE l=0):l.length≤60∧∀ x ∈ l,0≤x∧x≤1000000:=by
 unfold countsE at h
 split at h
 ·cases h
 ·split at h
  ·rename_i h1 h2
   exact ⟨by omega,fun x hx=>by simpa using List.all_eq_true.1 h2 x hx⟩
  ·cases h
theorem preSum_bound {mean:Int} {l:List Int} (hm:0≤mean∧mean≤1000000) (hl:∀ x ∈ l,0≤x∧x≤1000000):∀ k,k≤l.length → -(1000000 * (k:Int))≤preSum mean l k∧preSum mean l k≤1000000 * (k:Int)
 | 0,_=>by simp [preSum]
 | k+1,h=>by
  have ih:=preSum_bound hm hl k (by omega)
  have hx:=hl l[k] (List.getElem_mem (by omega))
  rw [preSum_succ mean l k (by omega)]
  omega

theorem winsTo_succ (r:Rule) (l:List Int) (i:Nat):winsTo r l (i+1)=if r.window.toNat≤i+1 then winsTo r l i ++ [(i,excess r l i)] else winsTo r l i:=by
 unfold winsTo
 rw [List.range_succ,List.filter_append,List.map_append]
 by_cases h:r.window.toNat≤i+1
 ·rw [if_pos h,List.filter_cons_of_pos (by simpa using h)];rfl
 ·rw [if_neg h,List.filter_cons_of_neg (by simpa using h)];simp
theorem winsTo_le (r:Rule) (l:List Int) (i n:Nat) (h:i≤n):∃ rest,winsTo r l n=winsTo r l i ++ rest:=by
 obtain ⟨k,rfl⟩:=Nat.exists_eq_add_of_le h
 induction k with
 | zero=>exact ⟨[],by simp⟩
 | succ k ih =>
  obtain ⟨rest,hr⟩:=ih (by omega)
  rw [← Nat.add_assoc,winsTo_succ]
  split
  ·exact ⟨rest ++ [(i+k,excess r l (i+k))],by rw [hr,List.append_assoc]⟩
  ·exact ⟨rest,hr⟩

theorem deadAll_no:deadAll noStore=noStore:=rfl

theorem windows_1_s (r:Rule) (hr:r.ok) (l:List Int) (hl:countsE l=0):SeqA Try.prog 167 [.eptr (.sl (ints l)) 0,.eptr r.av 0] ((wins r l).map winA):=by
 refine seq_W f_watch_windows_1 (Nat.le_of_ble_eq_true rfl) fun y=>?_
 obtain ⟨hlen,hel⟩:=countsE_ok hl
 obtain ⟨hm,_,hw,_⟩:=hr
 have hb:=preSum_bound (mean:=r.mean) hm hel
 simp only [c_watch_windows_1,Rule.av,vcC,Int.reduceEq,Int.reduceNe,Int.reduceLT,Int.reduceLE,Nat.reduceEqDiff,Nat.reduceAdd,reduceIte,reduceCtorEq,Nat.reduceLT,Nat.reduceLeDiff,eq_self,vcP,WY_skip,WY_reg,WY_regY,WY_seq,WY_cond,WY_block,WY_exit,WY_ret,VY_nil,VY_yld,VY_yldg,VY_ps,seqY_n,seqY_r,seqY_x,blockY_n,blockY_r,blockY_x,isCallvs,isCallv,isY,List.any_cons,List.any_nil,Bool.or_false,Bool.or_true,Bool.false_or,Bool.and_false,Bool.false_and]
 refine WY_loop (α:=PSigma fun i:Nat=>i≤l.length) (fun i=>((envOf [(0,.yld y),(1,.eptr (.sl (ints l)) 0),(2,.eptr r.av 0),(4,.int .i64 (preSum r.mean l i.1 - preSum r.mean l (i.1 - r.window.toNat))),(7,.sl (ints l)),(8,.int .i64 l.length),(9,.int .i64 i.1)],noStore),some ((winsTo r l i.1).map winA)))
  (fun i=>l.length - i.1) ⟨0,by simp⟩ (weakE _ ?_) ?_ (fun ⟨i,hi⟩=>?_)
 ·simp only [Rule.av,vcC,Int.reduceEq,Int.reduceNe,Int.reduceLT,Int.reduceLE,Nat.reduceEqDiff,Nat.reduceAdd,reduceIte,reduceCtorEq,Nat.reduceLT,Nat.reduceLeDiff,eq_self,vcP,WY_skip,WY_reg,WY_regY,WY_seq,WY_cond,WY_block,WY_exit,WY_ret,VY_nil,VY_yld,VY_yldg,VY_ps,seqY_n,seqY_r,seqY_x,blockY_n,blockY_r,blockY_x,isCallvs,isCallv,isY,List.any_cons,List.any_nil,Bool.or_false,Bool.or_true,Bool.false_or,Bool.and_false,Bool.false_and];simp [preSum]
 ·simp [winsTo]
 ·simp only [Rule.av,vcC,Int.reduceEq,Int.reduceNe,Int.reduceLT,Int.reduceLE,Nat.reduceEqDiff,Nat.reduceAdd,reduceIte,reduceCtorEq,Nat.reduceLT,Nat.reduceLeDiff,eq_self,vcP,WY_skip,WY_reg,WY_regY,WY_seq,WY_cond,WY_block,WY_exit,WY_ret,VY_nil,VY_yld,VY_yldg,VY_ps,seqY_n,seqY_r,seqY_x,blockY_n,blockY_r,blockY_x,isCallvs,isCallv,isY,List.any_cons,List.any_nil,Bool.or_false,Bool.or_true,Bool.false_or,Bool.and_false,Bool.false_and]
  refine brB_split (fun h=>?_) (fun h=>?_)
  ·have h':i<l.length:=by (simp only [decide_eq_true_eq,decide_eq_false_iff_not,Bool.not_true,I64,Bool.not_eq_true',Bool.not_eq_false',bne_iff_ne,beq_iff_eq,ne_eq] at *;omega)
   simp only [ints_get l i h',vcC,Int.reduceEq,Int.reduceNe,Int.reduceLT,Int.reduceLE,Nat.reduceEqDiff,Nat.reduceAdd,reduceIte,reduceCtorEq,Nat.reduceLT,Nat.reduceLeDiff,eq_self,vcP,WY_skip,WY_reg,WY_regY,WY_seq,WY_cond,WY_block,WY_exit,WY_ret,VY_nil,VY_yld,VY_yldg,VY_ps,seqY_n,seqY_r,seqY_x,blockY_n,blockY_r,blockY_x,isCallvs,isCallv,isY,List.any_cons,List.any_nil,Bool.or_false,Bool.or_true,Bool.false_or,Bool.and_false,Bool.false_and]
   have hx:=hel l[i] (List.getElem_mem h')
   have hs1:=preSum_succ r.mean l i h'
   have b1:=hb i hi
   have b2:=hb (i - r.window.toNat) (by omega)
   have b3:=hb (i+1) h'
   refine ⟨by omega,by (simp only [decide_eq_true_eq,decide_eq_false_iff_not,Bool.not_true,I64,Bool.not_eq_true',Bool.not_eq_false',bne_iff_ne,beq_iff_eq,ne_eq] at *;omega),by (simp only [decide_eq_true_eq,decide_eq_false_iff_not,Bool.not_true,I64,Bool.not_eq_true',Bool.not_eq_false',bne_iff_ne,beq_iff_eq,ne_eq] at *;omega),?_⟩
   refine brB_split (fun h=>?_) (fun h=>?_)
   ·simp only [vcC,Int.reduceEq,Int.reduceNe,Int.reduceLT,Int.reduceLE,Nat.reduceEqDiff,Nat.reduceAdd,reduceIte,reduceCtorEq,Nat.reduceLT,Nat.reduceLeDiff,eq_self,vcP,WY_skip,WY_reg,WY_regY,WY_seq,WY_cond,WY_block,WY_exit,WY_ret,VY_nil,VY_yld,VY_yldg,VY_ps,seqY_n,seqY_r,seqY_x,blockY_n,blockY_r,blockY_x,isCallvs,isCallv,isY,List.any_cons,List.any_nil,Bool.or_false,Bool.or_true,Bool.false_or,Bool.and_false,Bool.false_and]
    have hw2:r.window.toNat≤i:=by (simp only [decide_eq_true_eq,decide_eq_false_iff_not,Bool.not_true,I64,Bool.not_eq_true',Bool.not_eq_false',bne_iff_ne,beq_iff_eq,ne_eq] at *;omega)
    have hgi:((i:Int) - r.window).toNat=i - r.window.toNat:=by omega
    have hget:=ints_get l (i - r.window.toNat) (by omega)
    simp only [hgi,hget,vcC,Int.reduceEq,Int.reduceNe,Int.reduceLT,Int.reduceLE,Nat.reduceEqDiff,Nat.reduceAdd,reduceIte,reduceCtorEq,Nat.reduceLT,Nat.reduceLeDiff,eq_self,vcP,WY_skip,WY_reg,WY_regY,WY_seq,WY_cond,WY_block,WY_exit,WY_ret,VY_nil,VY_yld,VY_yldg,VY_ps,seqY_n,seqY_r,seqY_x,blockY_n,blockY_r,blockY_x,isCallvs,isCallv,isY,List.any_cons,List.any_nil,Bool.or_false,Bool.or_true,Bool.false_or,Bool.and_false,Bool.false_and]
    have hy:=hel (l[i - r.window.toNat]'(by omega)) (List.getElem_mem _)
    have hs2:=preSum_succ r.mean l (i - r.window.toNat) (by omega)
    have hii:i - r.window.toNat+1=i+1 - r.window.toNat:=by omega
    rw [hii] at hs2
    have b4:=hb (i+1 - r.window.toNat) (by omega)
    have hs:preSum r.mean l i - preSum r.mean l (i - r.window.toNat)+(l[i] - r.mean) - ((l[i - r.window.toNat]'(by omega)) - r.mean)=preSum r.mean l (i+1) - preSum r.mean l (i+1 - r.window.toNat):=by omega
    rw [hs]
    refine ⟨by (simp only [decide_eq_true_eq,decide_eq_false_iff_not,Bool.not_true,I64,Bool.not_eq_true',Bool.not_eq_false',bne_iff_ne,beq_iff_eq,ne_eq] at *;omega),by (simp only [decide_eq_true_eq,decide_eq_false_iff_not,Bool.not_true,I64,Bool.not_eq_true',Bool.not_eq_false',bne_iff_ne,beq_iff_eq,ne_eq] at *;omega),by (simp only [decide_eq_true_eq,decide_eq_false_iff_not,Bool.not_true,I64,Bool.not_eq_true',Bool.not_eq_false',bne_iff_ne,beq_iff_eq,ne_eq] at *;omega),by (simp only [decide_eq_true_eq,decide_eq_false_iff_not,Bool.not_true,I64,Bool.not_eq_true',Bool.not_eq_false',bne_iff_ne,beq_iff_eq,ne_eq] at *;omega),by (simp only [decide_eq_true_eq,decide_eq_false_iff_not,Bool.not_true,I64,Bool.not_eq_true',Bool.not_eq_false',bne_iff_ne,beq_iff_eq,ne_eq] at *;omega),?_⟩
    refine brB_split (fun h2=>?_) (fun h2=>?_)
    ·have hwi:r.window.toNat≤i+1:=by (simp only [decide_eq_true_eq,decide_eq_false_iff_not,Bool.not_true,I64,Bool.not_eq_true',Bool.not_eq_false',bne_iff_ne,beq_iff_eq,ne_eq] at *;omega)
     simp only [h2,vcC,Int.reduceEq,Int.reduceNe,Int.reduceLT,Int.reduceLE,Nat.reduceEqDiff,Nat.reduceAdd,reduceIte,reduceCtorEq,Nat.reduceLT,Nat.reduceLeDiff,eq_self,vcP,WY_skip,WY_reg,WY_regY,WY_seq,WY_cond,WY_block,WY_exit,WY_ret,VY_nil,VY_yld,VY_yldg,VY_ps,seqY_n,seqY_r,seqY_x,blockY_n,blockY_r,blockY_x,isCallvs,isCallv,isY,List.any_cons,List.any_nil,Bool.or_false,Bool.or_true,Bool.false_or,Bool.and_false,Bool.false_and]
     obtain ⟨rest,hrest⟩:=winsTo_le r l (i+1) l.length (by omega)
     have hx:=winsTo_succ r l i
     rw [if_pos hwi] at hx
     rw [hx] at hrest
     have hex:excess r l i=preSum r.mean l (i+1) - preSum r.mean l (i+1 - r.window.toNat):=rfl
     rw [← hex]
     refine yS_of ((winsTo r l i).map winA) (rest.map winA) rfl ?_ ?_ ?_
     ·unfold wins;rw [hrest];simp [winA]
     ·simp only [deadAll_no,vcC,Int.reduceEq,Int.reduceNe,Int.reduceLT,Int.reduceLE,Nat.reduceEqDiff,Nat.reduceAdd,reduceIte,reduceCtorEq,Nat.reduceLT,Nat.reduceLeDiff,eq_self,vcP,WY_skip,WY_reg,WY_regY,WY_seq,WY_cond,WY_block,WY_exit,WY_ret,VY_nil,VY_yld,VY_yldg,VY_ps,seqY_n,seqY_r,seqY_x,blockY_n,blockY_r,blockY_x,isCallvs,isCallv,isY,List.any_cons,List.any_nil,Bool.or_false,Bool.or_true,Bool.false_or,Bool.and_false,Bool.false_and]
      refine ⟨by (simp only [decide_eq_true_eq,decide_eq_false_iff_not,Bool.not_true,I64,Bool.not_eq_true',Bool.not_eq_false',bne_iff_ne,beq_iff_eq,ne_eq] at *;omega),⟨i+1,by omega⟩,by simp only;omega,weakE _ ?_,?_⟩
      ·simp only [Rule.av,vcC,Int.reduceEq,Int.reduceNe,Int.reduceLT,Int.reduceLE,Nat.reduceEqDiff,Nat.reduceAdd,reduceIte,reduceCtorEq,Nat.reduceLT,Nat.reduceLeDiff,eq_self,vcP,WY_skip,WY_reg,WY_regY,WY_seq,WY_cond,WY_block,WY_exit,WY_ret,VY_nil,VY_yld,VY_yldg,VY_ps,seqY_n,seqY_r,seqY_x,blockY_n,blockY_r,blockY_x,isCallvs,isCallv,isY,List.any_cons,List.any_nil,Bool.or_false,Bool.or_true,Bool.false_or,Bool.and_false,Bool.false_and];simp [hex]
      ·simp only [hx];simp [winA]
     ·simp only [deadAll_no,vcC,Int.reduceEq,Int.reduceNe,Int.reduceLT,Int.reduceLE,Nat.reduceEqDiff,Nat.reduceAdd,reduceIte,reduceCtorEq,Nat.reduceLT,Nat.reduceLeDiff,eq_self,vcP,WY_skip,WY_reg,WY_regY,WY_seq,WY_cond,WY_block,WY_exit,WY_ret,VY_nil,VY_yld,VY_yldg,VY_ps,seqY_n,seqY_r,seqY_x,blockY_n,blockY_r,blockY_x,isCallvs,isCallv,isY,List.any_cons,List.any_nil,Bool.or_false,Bool.or_true,Bool.false_or,Bool.and_false,Bool.false_and];simp
    ·have hwi:¬ r.window.toNat≤i+1:=by (simp only [decide_eq_true_eq,decide_eq_false_iff_not,Bool.not_true,I64,Bool.not_eq_true',Bool.not_eq_false',bne_iff_ne,beq_iff_eq,ne_eq] at *;omega)
     simp only [h2,vcC,Int.reduceEq,Int.reduceNe,Int.reduceLT,Int.reduceLE,Nat.reduceEqDiff,Nat.reduceAdd,reduceIte,reduceCtorEq,Nat.reduceLT,Nat.reduceLeDiff,eq_self,vcP,WY_skip,WY_reg,WY_regY,WY_seq,WY_cond,WY_block,WY_exit,WY_ret,VY_nil,VY_yld,VY_yldg,VY_ps,seqY_n,seqY_r,seqY_x,blockY_n,blockY_r,blockY_x,isCallvs,isCallv,isY,List.any_cons,List.any_nil,Bool.or_false,Bool.or_true,Bool.false_or,Bool.and_false,Bool.false_and]
     refine ⟨by (simp only [decide_eq_true_eq,decide_eq_false_iff_not,Bool.not_true,I64,Bool.not_eq_true',Bool.not_eq_false',bne_iff_ne,beq_iff_eq,ne_eq] at *;omega),⟨i+1,by omega⟩,by simp only;omega,weakE _ ?_,?_⟩
     ·simp only [Rule.av,vcC,Int.reduceEq,Int.reduceNe,Int.reduceLT,Int.reduceLE,Nat.reduceEqDiff,Nat.reduceAdd,reduceIte,reduceCtorEq,Nat.reduceLT,Nat.reduceLeDiff,eq_self,vcP,WY_skip,WY_reg,WY_regY,WY_seq,WY_cond,WY_block,WY_exit,WY_ret,VY_nil,VY_yld,VY_yldg,VY_ps,seqY_n,seqY_r,seqY_x,blockY_n,blockY_r,blockY_x,isCallvs,isCallv,isY,List.any_cons,List.any_nil,Bool.or_false,Bool.or_true,Bool.false_or,Bool.and_false,Bool.false_and];simp
     ·rw [winsTo_succ,if_neg hwi]
   ·simp only [vcC,Int.reduceEq,Int.reduceNe,Int.reduceLT,Int.reduceLE,Nat.reduceEqDiff,Nat.reduceAdd,reduceIte,reduceCtorEq,Nat.reduceLT,Nat.reduceLeDiff,eq_self,vcP,WY_skip,WY_reg,WY_regY,WY_seq,WY_cond,WY_block,WY_exit,WY_ret,VY_nil,VY_yld,VY_yldg,VY_ps,seqY_n,seqY_r,seqY_x,blockY_n,blockY_r,blockY_x,isCallvs,isCallv,isY,List.any_cons,List.any_nil,Bool.or_false,Bool.or_true,Bool.false_or,Bool.and_false,Bool.false_and]
    have hw2:¬ r.window.toNat≤i:=by (simp only [decide_eq_true_eq,decide_eq_false_iff_not,Bool.not_true,I64,Bool.not_eq_true',Bool.not_eq_false',bne_iff_ne,beq_iff_eq,ne_eq] at *;omega)
    have hz:i - r.window.toNat=0:=by omega
    have hz2:i+1 - r.window.toNat=0:=by omega
    have hs:preSum r.mean l i - preSum r.mean l (i - r.window.toNat)+(l[i] - r.mean)=preSum r.mean l (i+1) - preSum r.mean l (i+1 - r.window.toNat):=by rw [hz,hz2];omega
    rw [hs]
    refine ⟨by (simp only [decide_eq_true_eq,decide_eq_false_iff_not,Bool.not_true,I64,Bool.not_eq_true',Bool.not_eq_false',bne_iff_ne,beq_iff_eq,ne_eq] at *;omega),?_⟩
    refine brB_split (fun h2=>?_) (fun h2=>?_)
    ·have hwi:r.window.toNat≤i+1:=by (simp only [decide_eq_true_eq,decide_eq_false_iff_not,Bool.not_true,I64,Bool.not_eq_true',Bool.not_eq_false',bne_iff_ne,beq_iff_eq,ne_eq] at *;omega)
     simp only [h2,vcC,Int.reduceEq,Int.reduceNe,Int.reduceLT,Int.reduceLE,Nat.reduceEqDiff,Nat.reduceAdd,reduceIte,reduceCtorEq,Nat.reduceLT,Nat.reduceLeDiff,eq_self,vcP,WY_skip,WY_reg,WY_regY,WY_seq,WY_cond,WY_block,WY_exit,WY_ret,VY_nil,VY_yld,VY_yldg,VY_ps,seqY_n,seqY_r,seqY_x,blockY_n,blockY_r,blockY_x,isCallvs,isCallv,isY,List.any_cons,List.any_nil,Bool.or_false,Bool.or_true,Bool.false_or,Bool.and_false,Bool.false_and]
     obtain ⟨rest,hrest⟩:=winsTo_le r l (i+1) l.length (by omega)
     have hx:=winsTo_succ r l i
     rw [if_pos hwi] at hx
     rw [hx] at hrest
     have hex:excess r l i=preSum r.mean l (i+1) - preSum r.mean l (i+1 - r.window.toNat):=rfl
     rw [← hex]
     refine yS_of ((winsTo r l i).map winA) (rest.map winA) rfl ?_ ?_ ?_
     ·unfold wins;rw [hrest];simp [winA]
     ·simp only [deadAll_no,vcC,Int.reduceEq,Int.reduceNe,Int.reduceLT,Int.reduceLE,Nat.reduceEqDiff,Nat.reduceAdd,reduceIte,reduceCtorEq,Nat.reduceLT,Nat.reduceLeDiff,eq_self,vcP,WY_skip,WY_reg,WY_regY,WY_seq,WY_cond,WY_block,WY_exit,WY_ret,VY_nil,VY_yld,VY_yldg,VY_ps,seqY_n,seqY_r,seqY_x,blockY_n,blockY_r,blockY_x,isCallvs,isCallv,isY,List.any_cons,List.any_nil,Bool.or_false,Bool.or_true,Bool.false_or,Bool.and_false,Bool.false_and]
      refine ⟨by (simp only [decide_eq_true_eq,decide_eq_false_iff_not,Bool.not_true,I64,Bool.not_eq_true',Bool.not_eq_false',bne_iff_ne,beq_iff_eq,ne_eq] at *;omega),⟨i+1,by omega⟩,by simp only;omega,weakE _ ?_,?_⟩
      ·simp only [Rule.av,vcC,Int.reduceEq,Int.reduceNe,Int.reduceLT,Int.reduceLE,Nat.reduceEqDiff,Nat.reduceAdd,reduceIte,reduceCtorEq,Nat.reduceLT,Nat.reduceLeDiff,eq_self,vcP,WY_skip,WY_reg,WY_regY,WY_seq,WY_cond,WY_block,WY_exit,WY_ret,VY_nil,VY_yld,VY_yldg,VY_ps,seqY_n,seqY_r,seqY_x,blockY_n,blockY_r,blockY_x,isCallvs,isCallv,isY,List.any_cons,List.any_nil,Bool.or_false,Bool.or_true,Bool.false_or,Bool.and_false,Bool.false_and];simp [hex]
      ·simp only [hx];simp [winA]
     ·simp only [deadAll_no,vcC,Int.reduceEq,Int.reduceNe,Int.reduceLT,Int.reduceLE,Nat.reduceEqDiff,Nat.reduceAdd,reduceIte,reduceCtorEq,Nat.reduceLT,Nat.reduceLeDiff,eq_self,vcP,WY_skip,WY_reg,WY_regY,WY_seq,WY_cond,WY_block,WY_exit,WY_ret,VY_nil,VY_yld,VY_yldg,VY_ps,seqY_n,seqY_r,seqY_x,blockY_n,blockY_r,blockY_x,isCallvs,isCallv,isY,List.any_cons,List.any_nil,Bool.or_false,Bool.or_true,Bool.false_or,Bool.and_false,Bool.false_and];simp
    ·have hwi:¬ r.window.toNat≤i+1:=by (simp only [decide_eq_true_eq,decide_eq_false_iff_not,Bool.not_true,I64,Bool.not_eq_true',Bool.not_eq_false',bne_iff_ne,beq_iff_eq,ne_eq] at *;omega)
     simp only [h2,vcC,Int.reduceEq,Int.reduceNe,Int.reduceLT,Int.reduceLE,Nat.reduceEqDiff,Nat.reduceAdd,reduceIte,reduceCtorEq,Nat.reduceLT,Nat.reduceLeDiff,eq_self,vcP,WY_skip,WY_reg,WY_regY,WY_seq,WY_cond,WY_block,WY_exit,WY_ret,VY_nil,VY_yld,VY_yldg,VY_ps,seqY_n,seqY_r,seqY_x,blockY_n,blockY_r,blockY_x,isCallvs,isCallv,isY,List.any_cons,List.any_nil,Bool.or_false,Bool.or_true,Bool.false_or,Bool.and_false,Bool.false_and]
     refine ⟨by (simp only [decide_eq_true_eq,decide_eq_false_iff_not,Bool.not_true,I64,Bool.not_eq_true',Bool.not_eq_false',bne_iff_ne,beq_iff_eq,ne_eq] at *;omega),⟨i+1,by omega⟩,by simp only;omega,weakE _ ?_,?_⟩
     ·simp only [Rule.av,vcC,Int.reduceEq,Int.reduceNe,Int.reduceLT,Int.reduceLE,Nat.reduceEqDiff,Nat.reduceAdd,reduceIte,reduceCtorEq,Nat.reduceLT,Nat.reduceLeDiff,eq_self,vcP,WY_skip,WY_reg,WY_regY,WY_seq,WY_cond,WY_block,WY_exit,WY_ret,VY_nil,VY_yld,VY_yldg,VY_ps,seqY_n,seqY_r,seqY_x,blockY_n,blockY_r,blockY_x,isCallvs,isCallv,isY,List.any_cons,List.any_nil,Bool.or_false,Bool.or_true,Bool.false_or,Bool.and_false,Bool.false_and];simp
     ·rw [winsTo_succ,if_neg hwi]
  ·simp only [vcC,Int.reduceEq,Int.reduceNe,Int.reduceLT,Int.reduceLE,Nat.reduceEqDiff,Nat.reduceAdd,reduceIte,reduceCtorEq,Nat.reduceLT,Nat.reduceLeDiff,eq_self,vcP,WY_skip,WY_reg,WY_regY,WY_seq,WY_cond,WY_block,WY_exit,WY_ret,VY_nil,VY_yld,VY_yldg,VY_ps,seqY_n,seqY_r,seqY_x,blockY_n,blockY_r,blockY_x,isCallvs,isCallv,isY,List.any_cons,List.any_nil,Bool.or_false,Bool.or_true,Bool.false_or,Bool.and_false,Bool.false_and]
   have:i=l.length:=by (simp only [decide_eq_true_eq,decide_eq_false_iff_not,Bool.not_true,I64,Bool.not_eq_true',Bool.not_eq_false',bne_iff_ne,beq_iff_eq,ne_eq] at *;omega)
   subst this
   simp [wins]
end Go.Proofs.Ytgmpcbpmnimkoaa

/- Contracts: alarms. By an AI agent;nothing here is trusted. -/
namespace Go.Proofs.Ytgmpcbpmnimkoaa
open Go.Av

def isAlarm (r:Rule) (x:Int):Prop:=0<x∧r.limit * r.limit * r.window * r.spread<100 * x * x
instance (r:Rule) (x:Int):Decidable (isAlarm r x):=by unfold isAlarm;exact inferInstance
end Go.Proofs.Ytgmpcbpmnimkoaa

/- The examples of the chapter,by running the abstract code. By an AI agent;nothing here is trusted. -/
namespace Go.Proofs.Ytgmpcbpmnimkoaa
open Go.Av

def unint:AV→Option Int
 | .int .i64 n=>some n
 | _=>none
def unints:List AV→Option (List Int)
 | []=>some []
 | x :: l=>match unint x,unints l with
  | some n,some m=>some (n :: m)
  | _,_=>none
theorem unints_some:∀ {l:List AV} {m:List Int},unints l=some m→l=ints m
 | [],m,h=>by cases h;rfl
 | x :: l,m,h=>by
  simp only [unints] at h
  split at h
  ·rename_i n k h1 h2
   cases h
   rw [unints_some h2]
   unfold unint at h1
   split at h1
   ·cases h1;rfl
   ·cases h1
  ·cases h

def itW:IterT:=fun g caps=>if g=167 then (match caps with
 | [.eptr (.sl es) 0,.eptr (.agg [.int .i64 a,.int .i64 b,.int .i64 c,.int .i64 d]) 0]=>(match unints es with
  | some l=>if Rule.ok ⟨a,b,c,d⟩∧countsE l=0 then some ((wins ⟨a,b,c,d⟩ l).map winA) else none
  | none=>none)
 | _=>none) else none
theorem itW_ok:∀ g caps xs,itW g caps=some xs→SeqA Try.prog g caps xs:=by
 intro g caps xs h
 unfold itW at h
 split at h
 ·rename_i hg
  subst hg
  split at h
  ·rename_i es a b c d
   split at h
   ·rename_i l hl
    split at h
    ·rename_i hc
     cases h
     rw [unints_some hl]
     exact windows_1_s ⟨a,b,c,d⟩ hc.1 l hc.2
    ·cases h
   ·cases h
  ·cases h
 ·cases h

def tabW:List (Nat × Nat × Nat × MC × List (Nat × Option (Option Nat))):=[(5,82,0,c_law08_awake,[(0,none)]),(9,7,1,c_base_Size,[(2,none)]),(11,22,1,c_watch_FitOf,[(2,(some (some 4))),(3,none)]),(35,16,2,c_watch_AlarmsIn,[(4,none),(5,none)]),(36,2,0,c_law08_Rule,[(0,(some (some 4)))]),(37,24,3,c_watch_WaysOf,[(6,none),(7,none)]),(38,5,0,c_law08_Sky,[(0,(some (some 1)))]),(39,56,3,c_watch_ThresholdFor,[(6,none),(7,none)]),(40,5,0,c_law08_Pairs,[(0,none)]),(41,48,3,c_watch_LostBy,[(6,none),(7,none)]),(42,26,2,c_base_Ints,[(4,none)]),(43,20,2,c_base_Lowest,[(4,(some (some 2)))]),(44,19,1,c_watch_pairsErr,[(2,none)]),(45,71,1,c_watch_line,[(2,(some (some 4))),(3,none)]),(48,15,1,c_watch_first,[(2,none)]),(49,7,2,c_watch_unless,[(4,none)]),(91,11,2,c_watch_bothErr,[(4,none)]),(92,38,2,c_watch_alarms,[(4,none)]),(93,18,2,c_watch_binsErr,[(4,none)]),(94,6,1,c_watch_thresholdErr,[(2,none)]),(95,21,2,c_watch_from,[(4,none)]),(96,58,2,c_watch_sums,[(4,none)]),(97,15,3,c_watch_within,[(6,none)]),(98,39,3,c_watch_ringErr,[(6,none)]),(99,65,3,c_watch_freezes,[(6,none)]),(100,9,2,c_slices_ContainsFunc_int_int,[(4,none)]),(101,12,3,c_watch_LostBy_1,[(4,none)]),(102,9,2,c_slices_ContainsFunc_api_Range_api_Range,[(4,none)]),(103,10,2,c_watch_LostBy_2,[(3,none)]),(104,13,2,c_base_Gcd,[(4,none)]),(105,9,2,c_slices_ContainsFunc_api_WatchPair_api_WatchPair,[(4,none)]),(106,9,1,c_watch_pairsErr_1,[(2,none)]),(107,8,2,c_watch_odd,[(4,none)]),(108,16,2,c_watch_lowest,[(4,(some (some 2)))]),(110,15,2,c_watch_divisor,[(4,none)]),(135,24,1,c_watch_CheckRule,[(2,none)]),(136,13,1,c_watch_countsErr,[(2,none)]),(137,6,2,c_watch_windows,[(4,none)]),(138,50,1,c_watch_CheckSky,[(2,none),(3,none)]),(139,25,1,c_slices_Max_int_int,[(2,none)]),(140,19,1,c_watch_CheckRing,[(2,none)]),(141,19,2,c_slices_IndexFunc_int_int,[(4,none)]),(142,19,2,c_slices_IndexFunc_api_Range_api_Range,[(4,none)]),(143,19,2,c_slices_IndexFunc_api_WatchPair_api_WatchPair,[(4,none)]),(144,8,2,c_watch_odd_1,[(3,none)])]
theorem tabW_ok:∀ f c,lookC tabW f=some c→cFun Try.prog f=some c:=by
 refine lookC_ok ?_
 unfold tabW
 simp only [List.forall_mem_cons]
 exact ⟨f_law08_awake,f_base_Size,f_watch_FitOf,f_watch_AlarmsIn,f_law08_Rule,f_watch_WaysOf,f_law08_Sky,f_watch_ThresholdFor,f_law08_Pairs,f_watch_LostBy,f_base_Ints,f_base_Lowest,f_watch_pairsErr,f_watch_line,f_watch_first,f_watch_unless,f_watch_bothErr,f_watch_alarms,f_watch_binsErr,f_watch_thresholdErr,f_watch_from,f_watch_sums,f_watch_within,f_watch_ringErr,f_watch_freezes,f_slices_ContainsFunc_int_int,f_watch_LostBy_1,f_slices_ContainsFunc_api_Range_api_Range,f_watch_LostBy_2,f_base_Gcd,f_slices_ContainsFunc_api_WatchPair_api_WatchPair,f_watch_pairsErr_1,f_watch_odd,f_watch_lowest,f_watch_divisor,f_watch_CheckRule,f_watch_countsErr,f_watch_windows,f_watch_CheckSky,f_slices_Max_int_int,f_watch_CheckRing,f_slices_IndexFunc_int_int,f_slices_IndexFunc_api_Range_api_Range,f_slices_IndexFunc_api_WatchPair_api_WatchPair,f_watch_odd_1,fun p hp=>by cases hp⟩
theorem awake_run:callN noExt itW (lookC tabW) 100 30 5 []=some (.bool true):=by kernel_rfl
theorem awake_s:Sound Try.prog 5 [] (.bool true):=callN_sound noExt_ok itW_ok tabW_ok 30 _ _ _ awake_run
end Go.Proofs.Ytgmpcbpmnimkoaa

/- Contracts of the small functions of the base. By an AI agent;nothing here is trusted. -/
namespace Go.Proofs.Ytgmpcbpmnimkoaa
open Go.Av

theorem Within_s (n lo hi:Int):Sound Try.prog 10 [.int .i64 n,.int .i64 lo,.int .i64 hi] (.bool (decide (lo≤n∧n≤hi))):=by
 refine sound_W f_base_Within (Nat.le_of_ble_eq_true rfl) ?_
 simp only [c_base_Within,vcC,Int.reduceEq,Int.reduceNe,Int.reduceLT,Int.reduceLE,Nat.reduceEqDiff,Nat.reduceAdd,reduceIte,reduceCtorEq,Nat.reduceLT,Nat.reduceLeDiff,eq_self,vcP]
 refine brB_split (fun h=>?_) (fun h=>?_) <;> simp only [h,vcC,Int.reduceEq,Int.reduceNe,Int.reduceLT,Int.reduceLE,Nat.reduceEqDiff,Nat.reduceAdd,reduceIte,reduceCtorEq,Nat.reduceLT,Nat.reduceLeDiff,eq_self,vcP]
 ·exact bool_eq (by simp at h;simp [h])
 ·simp at h;simp;omega

end Go.Proofs.Ytgmpcbpmnimkoaa

/- Contracts of the base: copies,comparisons,fractions. By an AI agent;nothing here is trusted. -/
namespace Go.Proofs.Ytgmpcbpmnimkoaa
open Go.Av

theorem newsOk_ints (l:List Int):newsOk 1 (ints l):=by
 intro x hx
 obtain ⟨n,_,rfl⟩:=List.mem_map.1 hx
 exact ⟨rfl,rfl⟩
theorem maxLen_big:4000000000000≤maxLen:=by decide

def S63 (n:Int):Prop := -9223372036854775807≤n∧n≤9223372036854775807
theorem max_neg (n:Int):max n (-n)=n.natAbs:=by omega
theorem Size_s (n:Int) (h:S63 n):Sound Try.prog 9 [.int .i64 n] (.int .i64 n.natAbs):=by
 refine sound_W f_base_Size (Nat.le_of_ble_eq_true rfl) ?_
 unfold S63 at h
 simp only [c_base_Size,max_neg,vZ,Int.reduceEq,Int.reduceNe,Int.reduceLT,Int.reduceLE,Nat.reduceEqDiff,Nat.reduceAdd,reduceIte,reduceCtorEq,Nat.reduceLT,Nat.reduceLeDiff,Nat.reduceShiftRight,Nat.reduceMod]
 (simp only [decide_eq_true_eq,decide_eq_false_iff_not,Bool.not_true,I64,Bool.not_eq_true',Bool.not_eq_false',bne_iff_ne,beq_iff_eq,ne_eq] at *;omega)

theorem gcd_tmod (a b:Int):Int.gcd b (a.tmod b)=Int.gcd a b:=by
 unfold Int.gcd
 rw [Int.natAbs_tmod,Nat.gcd_comm,← Nat.gcd_rec,Nat.gcd_comm]
theorem tmod_S {a b:Int} (hb:S63 b) (h0:b ≠ 0):S63 (a.tmod b)∧(a.tmod b).natAbs<b.natAbs:=by
 have h:(a.tmod b).natAbs<b.natAbs:=by
  rw [Int.natAbs_tmod]
  exact Nat.mod_lt _ (by omega)
 unfold S63 at hb ⊢
 exact ⟨by omega,h⟩
def lowG (num den:Int):Int:=if den<0 then -(Int.gcd num den) else Int.gcd num den
def lowN (num den:Int):Int:=num.tdiv (lowG num den)
def lowD (num den:Int):Int:=den.tdiv (lowG num den)
def fracA (n d:Int):AV:=.agg [.int .i64 n,.int .i64 d]
theorem tdiv_S {a b:Int} (ha:S63 a):S63 (a.tdiv b):=by
 have:(a.tdiv b).natAbs≤a.natAbs:=by rw [Int.natAbs_tdiv];exact Nat.div_le_self _ _
 unfold S63 at *;omega
theorem lowG_ne {num den:Int} (hd:den ≠ 0):lowG num den ≠ 0:=by
 have:0<Int.gcd num den:=Int.gcd_pos_of_ne_zero_right _ hd
 unfold lowG;split <;> omega
theorem Whole_s (n:Int):Sound Try.prog 15 [.int .i64 n] (fracA n 1):=by
 refine sound_W f_base_Whole (Nat.le_of_ble_eq_true rfl) ?_
 simp only [c_base_Whole,vZ,Int.reduceEq,Int.reduceNe,Int.reduceLT,Int.reduceLE,Nat.reduceEqDiff,Nat.reduceAdd,reduceIte,reduceCtorEq,Nat.reduceLT,Nat.reduceLeDiff,Nat.reduceShiftRight,Nat.reduceMod]
 rfl
def smallF (n d:Int):Bool:=decide (-1000000000≤n∧n≤1000000000) && decide (1≤d∧d≤1000000000)
theorem IsSmall_s (n d:Int):Sound Try.prog 47 [fracA n d] (.bool (smallF n d)):=by
 refine sound_W f_base_IsSmall (Nat.le_of_ble_eq_true rfl) ?_
 unfold smallF
 simp only [c_base_IsSmall,fracA,vZ,Int.reduceEq,Int.reduceNe,Int.reduceLT,Int.reduceLE,Nat.reduceEqDiff,Nat.reduceAdd,reduceIte,reduceCtorEq,Nat.reduceLT,Nat.reduceLeDiff,Nat.reduceShiftRight,Nat.reduceMod]
 refine callS_of (Within_s _ _ _) ?_
 simp only [vZ,Int.reduceEq,Int.reduceNe,Int.reduceLT,Int.reduceLE,Nat.reduceEqDiff,Nat.reduceAdd,reduceIte,reduceCtorEq,Nat.reduceLT,Nat.reduceLeDiff,Nat.reduceShiftRight,Nat.reduceMod]
 by_cases h : -1000000000≤n∧n≤1000000000
 ·simp only [h,vZ,Int.reduceEq,Int.reduceNe,Int.reduceLT,Int.reduceLE,Nat.reduceEqDiff,Nat.reduceAdd,reduceIte,reduceCtorEq,Nat.reduceLT,Nat.reduceLeDiff,Nat.reduceShiftRight,Nat.reduceMod]
  refine callS_of (Within_s _ _ _) ?_
  simp only [h,vZ,Int.reduceEq,Int.reduceNe,Int.reduceLT,Int.reduceLE,Nat.reduceEqDiff,Nat.reduceAdd,reduceIte,reduceCtorEq,Nat.reduceLT,Nat.reduceLeDiff,Nat.reduceShiftRight,Nat.reduceMod]
 ·simp only [h,vZ,Int.reduceEq,Int.reduceNe,Int.reduceLT,Int.reduceLE,Nat.reduceEqDiff,Nat.reduceAdd,reduceIte,reduceCtorEq,Nat.reduceLT,Nat.reduceLeDiff,Nat.reduceShiftRight,Nat.reduceMod]
end Go.Proofs.Ytgmpcbpmnimkoaa

/- Digits to the base 10^9,in plain Lean. By an AI agent;nothing here is trusted. -/
namespace Go.Proofs.Ytgmpcbpmnimkoaa
open Go.Av

def dVal:List Int→Int
 | []=>0
 | d :: l=>d+1000000000 * dVal l
def okD (l:List Int):Prop:=∀ d ∈ l,0≤d∧d<1000000000
def trimL:List Int→List Int
 | []=>[]
 | d :: l=>if trimL l=[]∧d=0 then [] else d :: trimL l
def dg (n:Nat):List Int:=if h:n=0 then [] else ((n % 1000000000:Nat):Int) :: dg (n / 1000000000)
termination_by n
decreasing_by exact Nat.div_lt_self (by omega) (by omega)
theorem dg_zero:dg 0=[]:=by rw [dg];rfl
theorem dg_pos {n:Nat} (h:n ≠ 0):dg n=((n % 1000000000:Nat):Int) :: dg (n / 1000000000):=by rw [dg,dif_neg h]
theorem dVal_nonneg:∀ {l:List Int},okD l→0≤dVal l
 | [],_=>Int.le_refl _
 | d :: l,h=>by
  have:=dVal_nonneg (l:=l) fun x hx=>h x (List.mem_cons_of_mem _ hx)
  have:=h d List.mem_cons_self
  rw [dVal];omega
theorem okD_dg (n:Nat):okD (dg n):=by
 induction n using Nat.strongRecOn with
 | _ n ih =>
  by_cases h:n=0
  ·rw [h,dg_zero];intro d hd;cases hd
  ·rw [dg_pos h]
   intro d hd
   rcases List.mem_cons.1 hd with e | e
   ·rw [e];omega
   ·exact ih _ (Nat.div_lt_self (by omega) (by omega)) d e
theorem dVal_dg (n:Nat):dVal (dg n)=n:=by
 induction n using Nat.strongRecOn with
 | _ n ih =>
  by_cases h:n=0
  ·rw [h,dg_zero];rfl
  ·rw [dg_pos h,dVal,ih _ (Nat.div_lt_self (by omega) (by omega))];omega
theorem dg_cons {d:Int} {v:Nat} (hd:0≤d∧d<1000000000) (h:d ≠ 0∨v ≠ 0):dg (d+1000000000 * (v:Int)).toNat=d :: dg v:=by
 rw [dg_pos (by omega)]
 have e1:(((d+1000000000 * (v:Int)).toNat % 1000000000:Nat):Int)=d:=by omega
 have e2:(d+1000000000 * (v:Int)).toNat / 1000000000=v:=by omega
 rw [e1,e2]
theorem dg_nil {n:Nat}:dg n=[] ↔ n=0:=by
 constructor
 ·intro h
  by_cases e:n=0
  ·exact e
  ·rw [dg_pos e] at h;cases h
 ·intro h;rw [h];exact dg_zero
theorem trim_dg:∀ {l:List Int},okD l→trimL l=dg (dVal l).toNat
 | [],_=>dg_zero.symm
 | d :: l,h=>by
  have hl:okD l:=fun x hx=>h x (List.mem_cons_of_mem _ hx)
  have ih:=trim_dg hl
  have hd:=h d List.mem_cons_self
  have hv:=dVal_nonneg hl
  obtain ⟨v,hv2⟩:∃ v:Nat,dVal l=(v:Int):=⟨(dVal l).toNat,by omega⟩
  rw [trimL,ih,dVal,hv2,show ((v:Int)).toNat=v from rfl]
  by_cases hc:dg v=[]∧d=0
  ·rw [if_pos hc,dg_nil.1 hc.1,hc.2];exact dg_zero.symm
  ·rw [if_neg hc,dg_cons hd]
   by_cases e:d=0
   ·exact .inr fun q=>hc ⟨dg_nil.2 q,e⟩
   ·exact .inl e
theorem trimL_zero:∀ (l:List Int),trimL (l ++ [0])=trimL l
 | []=>by simp [trimL]
 | d :: l=>by rw [List.cons_append,trimL,trimL_zero l,trimL]
theorem trimL_ne {x:Int} (hx:x ≠ 0):∀ (l:List Int),trimL (l ++ [x])=l ++ [x]
 | []=>by simp [trimL,hx]
 | d :: l=>by rw [List.cons_append,trimL,trimL_ne hx l,if_neg (by simp)]
theorem trimL_le:∀ (l:List Int),(trimL l).length≤l.length
 | []=>Nat.le_refl _
 | d :: l=>by
  have:=trimL_le l
  rw [trimL];split <;> simp <;> omega
theorem dVal_append:∀ (a b:List Int),dVal (a ++ b)=dVal a+1000000000 ^ a.length * dVal b
 | [],b=>by simp [dVal]
 | d :: a,b=>by
  rw [List.cons_append,dVal,dVal_append a b,dVal,List.length_cons,Int.pow_succ,Int.mul_add,← Int.mul_assoc,Int.mul_comm 1000000000 ((1000000000:Int) ^ a.length)];omega
theorem dVal_lt:∀ {l:List Int},okD l→dVal l<1000000000 ^ l.length
 | [],_=>by simp [dVal]
 | d :: l,h=>by
  have ih:=dVal_lt (l:=l) fun x hx=>h x (List.mem_cons_of_mem _ hx)
  have:=h d List.mem_cons_self
  rw [dVal,List.length_cons,Int.pow_succ];omega
theorem dg_len {n k:Nat} (h:n<1000000000 ^ k):(dg n).length≤k:=by
 induction k generalizing n with
 | zero=>simp at h;rw [h,dg_zero];simp
 | succ k ih =>
  by_cases e:n=0
  ·rw [e,dg_zero];simp
  ·rw [dg_pos e,List.length_cons]
   have:=ih (n:=n / 1000000000) (by rw [Nat.pow_succ] at h;exact Nat.div_lt_of_lt_mul (by rw [Nat.mul_comm];exact h))
   omega

def wideA (v:Int):AV:=.agg [.int .i64 v.sign,.sl (ints (dg v.natAbs))]
theorem trimmed_s (l:List Int) (hl:l.length≤1000000000):Sound Try.prog 153 [.sl (ints l)] (.sl (ints (trimL l))):=by
 refine sound_W f_base_trimmed (Nat.le_of_ble_eq_true rfl) ?_
 simp only [c_base_trimmed,vZ,Int.reduceEq,Int.reduceNe,Int.reduceLT,Int.reduceLE,Nat.reduceEqDiff,Nat.reduceAdd,reduceIte,reduceCtorEq,Nat.reduceLT,Nat.reduceLeDiff,Nat.reduceShiftRight,Nat.reduceMod]
 refine W_loop (t:=.mk) (α:=PSigma fun n:Nat=>n≤l.length∧trimL l=trimL (l.take n)) (fun ⟨n,_⟩=>(envOf [(0,.sl (ints l)),(3,.int .i64 n)],stOf [])) (fun n=>n.1) ⟨l.length,Nat.le_refl _,by rw [List.take_length]⟩ ?_ (fun ⟨n,hn,ht⟩=>?_)
 ·refine weakX [] (of_decide_eq_true rfl) (of_decide_eq_true rfl) ?_
  (simp only [vcW,vZ,Int.reduceEq,Int.reduceNe,Int.reduceLT,Int.reduceLE,Nat.reduceEqDiff,Nat.reduceAdd,reduceIte,reduceCtorEq,Nat.reduceLT,Nat.reduceLeDiff,Nat.reduceShiftRight,Nat.reduceMod])
  (repeat' first | exact trivial | (with_reducible first | exact RnB.fxB (ints_fxB _) | rfl | refine And.intro ?_ ?_) | (with_reducible (first | refine RnB.bb ?_ | refine RnB.nb ?_);simp only [vcW,vZ,Int.reduceEq,Int.reduceNe,Int.reduceLT,Int.reduceLE,Nat.reduceEqDiff,Nat.reduceAdd,reduceIte,reduceCtorEq,Nat.reduceLT,Nat.reduceLeDiff,Nat.reduceShiftRight,Nat.reduceMod]) | (with_reducible first | refine RnB.ii ?_ | refine RnB.app ?_) | (with_reducible refine RnB.fxB ?_;simp only [vcW,vZ,Int.reduceEq,Int.reduceNe,Int.reduceLT,Int.reduceLE,Nat.reduceEqDiff,Nat.reduceAdd,reduceIte,reduceCtorEq,Nat.reduceLT,Nat.reduceLeDiff,Nat.reduceShiftRight,Nat.reduceMod]) | omega)
 ·have htk:∀ m:Nat,(ints l).take m=ints (l.take m):=fun m=>by simp [ints,List.map_take]
  cases n with
  | zero =>
   have z0:¬ (0:Int)<((0:Nat):Int):=by omega
   simp only [z0,vZ,Int.reduceEq,Int.reduceNe,Int.reduceLT,Int.reduceLE,Nat.reduceEqDiff,Nat.reduceAdd,reduceIte,reduceCtorEq,Nat.reduceLT,Nat.reduceLeDiff,Nat.reduceShiftRight,Nat.reduceMod]
   refine ⟨⟨by omega,by omega,fun x hx=>by obtain ⟨y,_,rfl⟩:=List.mem_map.1 hx;rfl⟩,?_⟩
   rw [ht];rfl
  | succ n =>
   have z0:(0:Int)<((n+1:Nat):Int):=by omega
   have z1:((n+1:Nat):Int) - 1=(n:Int):=by omega
   have h':n<l.length:=by omega
   have hsn:=List.take_succ_eq_append_getElem h'
   rw [hsn] at ht
   have hg:=ints_get l n h'
   by_cases hc:l[n]=0
   ·rw [hc,trimL_zero] at ht
    simp only [z0,z1,hg,hc,vZ,Int.reduceEq,Int.reduceNe,Int.reduceLT,Int.reduceLE,Nat.reduceEqDiff,Nat.reduceAdd,reduceIte,reduceCtorEq,Nat.reduceLT,Nat.reduceLeDiff,Nat.reduceShiftRight,Nat.reduceMod]
    (repeat (with_reducible refine And.intro ?_ ?_;focus (first | omega | (unfold I64;omega))))
    refine ⟨⟨n,by omega,ht⟩,by simp only;omega,?_⟩
    refine weakX [] (of_decide_eq_true rfl) (of_decide_eq_true rfl) ?_
    (simp only [vcW,vZ,Int.reduceEq,Int.reduceNe,Int.reduceLT,Int.reduceLE,Nat.reduceEqDiff,Nat.reduceAdd,reduceIte,reduceCtorEq,Nat.reduceLT,Nat.reduceLeDiff,Nat.reduceShiftRight,Nat.reduceMod])
    (repeat' first | exact trivial | (with_reducible first | exact RnB.fxB (ints_fxB _) | rfl | refine And.intro ?_ ?_) | (with_reducible (first | refine RnB.bb ?_ | refine RnB.nb ?_);simp only [vcW,vZ,Int.reduceEq,Int.reduceNe,Int.reduceLT,Int.reduceLE,Nat.reduceEqDiff,Nat.reduceAdd,reduceIte,reduceCtorEq,Nat.reduceLT,Nat.reduceLeDiff,Nat.reduceShiftRight,Nat.reduceMod]) | (with_reducible first | refine RnB.ii ?_ | refine RnB.app ?_) | (with_reducible refine RnB.fxB ?_;simp only [vcW,vZ,Int.reduceEq,Int.reduceNe,Int.reduceLT,Int.reduceLE,Nat.reduceEqDiff,Nat.reduceAdd,reduceIte,reduceCtorEq,Nat.reduceLT,Nat.reduceLeDiff,Nat.reduceShiftRight,Nat.reduceMod]) | omega)
   ·rw [trimL_ne hc,← hsn] at ht
    simp only [z0,z1,hg,hc,vZ,Int.reduceEq,Int.reduceNe,Int.reduceLT,Int.reduceLE,Nat.reduceEqDiff,Nat.reduceAdd,reduceIte,reduceCtorEq,Nat.reduceLT,Nat.reduceLeDiff,Nat.reduceShiftRight,Nat.reduceMod]
    (repeat (with_reducible refine And.intro ?_ ?_;focus (first | omega | (unfold I64;omega))))
    refine ⟨⟨by omega,by omega,fun x hx=>by obtain ⟨y,_,rfl⟩:=List.mem_map.1 hx;rfl⟩,?_⟩
    rw [ht,htk];rfl
theorem wideOf_s (g:Int) (l:List Int) (hl:l.length≤1000000000) (hd:okD l) (hg:g=1∨g = -1∨(g=0∧dVal l=0)):Sound Try.prog 117 [.int .i64 g,.sl (ints l)] (wideA (g * dVal l)):=by
 refine sound_W f_base_wideOf (Nat.le_of_ble_eq_true rfl) ?_
 have hv:=dVal_nonneg hd
 have ht:=trim_dg hd
 have hna:(g * dVal l).natAbs=(dVal l).toNat:=by rcases hg with rfl | rfl | ⟨rfl,h⟩ <;> omega
 have hw:wideA (g * dVal l)=.agg [.int .i64 (g * dVal l).sign,.sl (ints (trimL l))]:=by unfold wideA;rw [hna,ht]
 rw [hw]
 simp only [c_base_wideOf,vZ,Int.reduceEq,Int.reduceNe,Int.reduceLT,Int.reduceLE,Nat.reduceEqDiff,Nat.reduceAdd,reduceIte,reduceCtorEq,Nat.reduceLT,Nat.reduceLeDiff,Nat.reduceShiftRight,Nat.reduceMod]
 refine callS_of (trimmed_s l hl) ?_
 simp only [vZ,Int.reduceEq,Int.reduceNe,Int.reduceLT,Int.reduceLE,Nat.reduceEqDiff,Nat.reduceAdd,reduceIte,reduceCtorEq,Nat.reduceLT,Nat.reduceLeDiff,Nat.reduceShiftRight,Nat.reduceMod]
 by_cases h0:(trimL l).length=0
 ·have hz:dVal l=0:=by
   rw [List.length_eq_zero_iff,ht,dg_nil] at h0;omega
  have h0':((trimL l).length:Int)=0:=by omega
  have hs:(g * dVal l).sign=0:=by rw [hz];simp
  simp only [ints_length,h0',hs,vZ,Int.reduceEq,Int.reduceNe,Int.reduceLT,Int.reduceLE,Nat.reduceEqDiff,Nat.reduceAdd,reduceIte,reduceCtorEq,Nat.reduceLT,Nat.reduceLeDiff,Nat.reduceShiftRight,Nat.reduceMod]
 ·have hz:0<dVal l:=by
   have:(dVal l).toNat ≠ 0:=fun e=>h0 (by rw [ht,e,dg_zero];rfl)
   omega
  have h0':¬ ((trimL l).length:Int)=0:=by omega
  have hs:(g * dVal l).sign=g:=by
   rcases hg with rfl | rfl | ⟨rfl,h⟩
   ·rw [Int.one_mul];exact Int.sign_eq_one_of_pos hz
   ·rw [Int.neg_one_mul,Int.sign_neg,Int.sign_eq_one_of_pos hz]
   ·omega
  simp only [ints_length,h0',hs,vZ,Int.reduceEq,Int.reduceNe,Int.reduceLT,Int.reduceLE,Nat.reduceEqDiff,Nat.reduceAdd,reduceIte,reduceCtorEq,Nat.reduceLT,Nat.reduceLeDiff,Nat.reduceShiftRight,Nat.reduceMod]
end Go.Proofs.Ytgmpcbpmnimkoaa

/- Contracts: digits added,subtracted,compared. By an AI agent;nothing here is trusted. -/
namespace Go.Proofs.Ytgmpcbpmnimkoaa
open Go.Av

theorem WideSign_s (v:Int):Sound Try.prog 146 [wideA v] (.int .i64 v.sign):=by
 refine sound_W f_base_WideSign (Nat.le_of_ble_eq_true rfl) ?_
 simp only [c_base_WideSign,wideA,vZ,Int.reduceEq,Int.reduceNe,Int.reduceLT,Int.reduceLE,Nat.reduceEqDiff,Nat.reduceAdd,reduceIte,reduceCtorEq,Nat.reduceLT,Nat.reduceLeDiff,Nat.reduceShiftRight,Nat.reduceMod]
theorem WideNeg_s (v:Int):Sound Try.prog 147 [wideA v] (wideA (-v)):=by
 refine sound_W f_base_WideNeg (Nat.le_of_ble_eq_true rfl) ?_
 have h1:(-v).sign = -v.sign:=Int.sign_neg v
 have h2:(-v).natAbs=v.natAbs:=Int.natAbs_neg v
 have h3 : -1≤v.sign∧v.sign≤1:=by rcases Int.lt_trichotomy v 0 with h | h | h <;> simp [Int.sign_eq_neg_one_of_neg,Int.sign_eq_one_of_pos,h]
 unfold wideA
 rw [h1,h2]
 simp only [c_base_WideNeg,vZ,Int.reduceEq,Int.reduceNe,Int.reduceLT,Int.reduceLE,Nat.reduceEqDiff,Nat.reduceAdd,reduceIte,reduceCtorEq,Nat.reduceLT,Nat.reduceLeDiff,Nat.reduceShiftRight,Nat.reduceMod]
 unfold I64
 omega

def dAt (l:List Int) (i:Nat):Int:=l.getD i 0
theorem dAt_lt {l:List Int} {i:Nat} (h:i<l.length):dAt l i=l[i]:=by simp [dAt,List.getD,List.getElem?_eq_getElem h]
theorem dAt_ge {l:List Int} {i:Nat} (h:l.length≤i):dAt l i=0:=by simp [dAt,List.getD,List.getElem?_eq_none h]
theorem dAt_ok {l:List Int} (h:okD l) (i:Nat):0≤dAt l i∧dAt l i<1000000000:=by
 by_cases hi:i<l.length
 ·rw [dAt_lt hi];exact h _ (List.getElem_mem hi)
 ·rw [dAt_ge (by omega)];omega
theorem digit_s (l:List Int) (i:Nat) (hi:i≤1000000000):Sound Try.prog 169 [.sl (ints l),.int .i64 i] (.int .i64 (dAt l i)):=by
 refine sound_W f_base_digit (Nat.le_of_ble_eq_true rfl) ?_
 by_cases h:i<l.length
 ·have h':(i:Int)<l.length:=by omega
  simp only [c_base_digit,h',ints_get l i h,dAt_lt h,vZ,Int.reduceEq,Int.reduceNe,Int.reduceLT,Int.reduceLE,Nat.reduceEqDiff,Nat.reduceAdd,reduceIte,reduceCtorEq,Nat.reduceLT,Nat.reduceLeDiff,Nat.reduceShiftRight,Nat.reduceMod]
  omega
 ·have h':¬ (i:Int)<l.length:=by omega
  simp only [c_base_digit,h',dAt_ge (show l.length≤i by omega),vZ,Int.reduceEq,Int.reduceNe,Int.reduceLT,Int.reduceLE,Nat.reduceEqDiff,Nat.reduceAdd,reduceIte,reduceCtorEq,Nat.reduceLT,Nat.reduceLeDiff,Nat.reduceShiftRight,Nat.reduceMod]

def dPre (l:List Int) (i:Nat):Int:=dVal (l.take i)
theorem dPre_succ (l:List Int) (i:Nat):dPre l (i+1)=dPre l i+1000000000 ^ i * dAt l i:=by
 unfold dPre
 by_cases h:i<l.length
 ·rw [List.take_succ_eq_append_getElem h,dVal_append,dAt_lt h,List.length_take,Nat.min_eq_left (by omega)];simp [dVal]
 ·rw [List.take_of_length_le (by omega),List.take_of_length_le (by omega),dAt_ge (by omega)];simp
theorem dPre_all {l:List Int} {i:Nat} (h:l.length≤i):dPre l i=dVal l:=by unfold dPre;rw [List.take_of_length_le h]

def addS (a b:List Int):Nat→List Int × Int
 | 0=>([],0)
 | i+1=>((addS a b i).1 ++ [(dAt a i+dAt b i+(addS a b i).2) % 1000000000],(dAt a i+dAt b i+(addS a b i).2) / 1000000000)
theorem addS_ok {a b:List Int} (ha:okD a) (hb:okD b):∀ i,(addS a b i).1.length=i∧okD (addS a b i).1∧(0≤(addS a b i).2∧(addS a b i).2≤1)∧dVal (addS a b i).1+1000000000 ^ i * (addS a b i).2=dPre a i+dPre b i
 | 0=>⟨rfl,(fun d hd=>by cases hd),by simp [addS],by simp [addS,dVal,dPre]⟩
 | i+1=>by
  obtain ⟨h1,h2,h3,h4⟩:=addS_ok ha hb i
  have qa:=dAt_ok ha i
  have qb:=dAt_ok hb i
  rw [dPre_succ,dPre_succ]
  simp only [addS]
  generalize addS a b i=p at *
  obtain ⟨l,c⟩:=p
  simp only at h1 h2 h3 h4 ⊢
  generalize hs:dAt a i+dAt b i+c=s at *
  refine ⟨by simp [h1],?_,by omega,?_⟩
  ·intro d hd
   rcases List.mem_append.1 hd with e | e
   ·exact h2 d e
   ·rw [List.mem_singleton.1 e];omega
  ·rw [dVal_append,h1,Int.pow_succ]
   have e:s=s % 1000000000+1000000000 * (s / 1000000000):=by omega
   have e1:(1000000000:Int) ^ i * s=1000000000 ^ i * (s % 1000000000)+1000000000 ^ i * (1000000000 * (s / 1000000000)):=by rw [← Int.mul_add,← e]
   have e2:(1000000000:Int) ^ i * s=1000000000 ^ i * dAt a i+1000000000 ^ i * dAt b i+1000000000 ^ i * c:=by rw [← hs,Int.mul_add,Int.mul_add]
   simp only [dVal,Int.mul_zero,Int.add_zero]
   rw [Int.mul_assoc]
   omega

theorem dVal_snoc (l:List Int) (x:Int):dVal (l ++ [x])=dVal l+1000000000 ^ l.length * x:=by rw [dVal_append];simp [dVal]
set_option maxHeartbeats 4000000 in
theorem addDigits_s (a b:List Int) (ha:okD a) (hb:okD b) (hla:a.length≤1000000) (hlb:b.length≤1000000) :
    ∃ l:List Int,okD l∧l.length≤a.length+b.length+1∧dVal l=dVal a+dVal b∧Sound Try.prog 150 [.sl (ints a),.sl (ints b)] (.sl (ints l)):=by
  obtain ⟨m,hm⟩:∃ m,m=max a.length b.length:=⟨_,rfl⟩
  obtain ⟨n,hn⟩:∃ n,n=if (addS a b m).2=0 then m else m+1:=⟨_,rfl⟩
  have hok:=addS_ok ha hb
  have hn0:n≤m+1:=by rw [hn];split <;> omega
  have hmn:m≤n:=by rw [hn];split <;> omega
  have hc1:(addS a b (m+1)).2=0:=by
    have h:=(hok m).2.2.1
    simp only [addS]
    rw [dAt_ge (show a.length≤m by omega),dAt_ge (show b.length≤m by omega)]
    omega
  have hc:(addS a b n).2=0:=by
    by_cases e:(addS a b m).2=0
    · rw [if_pos e] at hn;rw [hn];exact e
    · rw [if_neg e] at hn;rw [hn];exact hc1
  have hgo:∀ i,i<n→(i<a.length∨i<b.length∨0<(addS a b i).2):=by
    intro i hi
    by_cases e:i<m
    · omega
    · have e2:i=m:=by omega
      subst e2
      right;right
      by_cases e3:(addS a b i).2=0
      · rw [if_pos e3] at hn;omega
      · have:=(hok i).2.2.1;omega
  refine ⟨(addS a b n).1,(hok n).2.1,by rw [(hok n).1];omega,?_,?_⟩
  · have h:=(hok n).2.2.2
    rw [hc,Int.mul_zero,Int.add_zero,dPre_all (by omega),dPre_all (by omega)] at h
    exact h
  refine sound_W f_base_addDigits (Nat.le_of_ble_eq_true rfl) ?_
  have hmax:=maxLen_big
  simp only [c_base_addDigits,vZ,Int.reduceEq,Int.reduceNe,Int.reduceLT,Int.reduceLE,Nat.reduceEqDiff,Nat.reduceAdd,reduceIte,reduceCtorEq,Nat.reduceLT,Nat.reduceLeDiff,Nat.reduceShiftRight,Nat.reduceMod]
  refine W_loop (t:=.mk) (α:=PSigma fun i:Nat=>i≤n∧(True)) (fun ⟨i,_⟩=>((envOf [(0,.sl (ints a)),(1,.sl (ints b)),(5,.buf 100 i),(6,.int .i64 (addS a b i).2),(7,.int .i64 i)],stOf [(100,⟨3,1,ints (addS a b i).1⟩)]))) (fun i=>n - i.1) ⟨0,Nat.zero_le _,?_⟩ ?_ (fun ⟨i,hi,hn⟩=>?_)
  · trivial
  · have z1:ints (addS a b 0).1=[]:=rfl
    have z2:(addS a b 0).2=0:=rfl
    refine weakX [(100,none)] (of_decide_eq_true rfl) (of_decide_eq_true rfl) ?_
    (simp only [z1,z2,vcW,vZ,Int.reduceEq,Int.reduceNe,Int.reduceLT,Int.reduceLE,Nat.reduceEqDiff,Nat.reduceAdd,reduceIte,reduceCtorEq,Nat.reduceLT,Nat.reduceLeDiff,Nat.reduceShiftRight,Nat.reduceMod])
    (repeat' first | exact trivial | (with_reducible first | exact RnB.fxB (ints_fxB _) | rfl | refine And.intro ?_ ?_) | (with_reducible (first | refine RnB.bb ?_ | refine RnB.nb ?_);simp only [vcW,vZ,Int.reduceEq,Int.reduceNe,Int.reduceLT,Int.reduceLE,Nat.reduceEqDiff,Nat.reduceAdd,reduceIte,reduceCtorEq,Nat.reduceLT,Nat.reduceLeDiff,Nat.reduceShiftRight,Nat.reduceMod]) | (with_reducible first | refine RnB.ii ?_ | refine RnB.app ?_) | (with_reducible refine RnB.fxB ?_;simp only [vcW,vZ,Int.reduceEq,Int.reduceNe,Int.reduceLT,Int.reduceLE,Nat.reduceEqDiff,Nat.reduceAdd,reduceIte,reduceCtorEq,Nat.reduceLT,Nat.reduceLeDiff,Nat.reduceShiftRight,Nat.reduceMod]) | omega)
  · by_cases h':i<n
    · obtain ⟨o1,o2,o3,o4⟩:=hok i
      have hg:=hgo i h'
      have s1:(addS a b (i+1)).1=(addS a b i).1 ++ [(dAt a i+dAt b i+(addS a b i).2) % 1000000000]:=rfl
      have s2:(addS a b (i+1)).2=(dAt a i+dAt b i+(addS a b i).2) / 1000000000:=rfl
      have qa:=dAt_ok ha i
      have qb:=dAt_ok hb i
      have t1:(dAt a i+dAt b i+(addS a b i).2).tmod 1000000000=(dAt a i+dAt b i+(addS a b i).2) % 1000000000:=Int.tmod_eq_emod_of_nonneg (by omega)
      have t2:(dAt a i+dAt b i+(addS a b i).2).tdiv 1000000000=(dAt a i+dAt b i+(addS a b i).2) / 1000000000:=Int.tdiv_eq_ediv_of_nonneg (by omega)
      have hda:=digit_s a i (by omega)
      have hdb:=digit_s b i (by omega)
      obtain ⟨l,hl⟩:∃ l,l=(addS a b i).1:=⟨_,rfl⟩
      obtain ⟨c,hcc⟩:∃ c,c=(addS a b i).2:=⟨_,rfl⟩
      dsimp only
      rw [← hl,← hcc]
      simp only [← hl,← hcc] at o1 o2 o3 o4 s1 s2 t1 t2 hg
      generalize hs:dAt a i+dAt b i+c=s at *
      have hia:ints (l ++ [s % 1000000000])=ints l ++ [.int .i64 (s % 1000000000)]:=ints_append _ _
      rcases Decidable.em ((i:Int)<a.length) with hA | hA
      all_goals rcases Decidable.em ((i:Int)<b.length) with hB | hB
      all_goals first
        | (have hcp:(0:Int)<c:=by omega
           simp only [hA,hB,hcp,vZ,Int.reduceEq,Int.reduceNe,Int.reduceLT,Int.reduceLE,Nat.reduceEqDiff,Nat.reduceAdd,reduceIte,reduceCtorEq,Nat.reduceLT,Nat.reduceLeDiff,Nat.reduceShiftRight,Nat.reduceMod])
        | simp only [hA,hB,vZ,Int.reduceEq,Int.reduceNe,Int.reduceLT,Int.reduceLE,Nat.reduceEqDiff,Nat.reduceAdd,reduceIte,reduceCtorEq,Nat.reduceLT,Nat.reduceLeDiff,Nat.reduceShiftRight,Nat.reduceMod]
      all_goals
        refine callS_of hda ?_
        simp only [vZ,Int.reduceEq,Int.reduceNe,Int.reduceLT,Int.reduceLE,Nat.reduceEqDiff,Nat.reduceAdd,reduceIte,reduceCtorEq,Nat.reduceLT,Nat.reduceLeDiff,Nat.reduceShiftRight,Nat.reduceMod]
        refine callS_of hdb ?_
        simp only [hs,t1,t2,ints_length,o1,vZ,Int.reduceEq,Int.reduceNe,Int.reduceLT,Int.reduceLE,Nat.reduceEqDiff,Nat.reduceAdd,reduceIte,reduceCtorEq,Nat.reduceLT,Nat.reduceLeDiff,Nat.reduceShiftRight,Nat.reduceMod]
        (repeat (with_reducible refine And.intro ?_ ?_;focus (first | omega | (unfold I64;omega))))
        refine ⟨⟨i+1,h',trivial⟩,by simp only;omega,?_⟩
        refine weakX [(100,some 38)] (of_decide_eq_true rfl) (of_decide_eq_true rfl) ?_
        (simp only [s1,s2,hia,vcW,vZ,Int.reduceEq,Int.reduceNe,Int.reduceLT,Int.reduceLE,Nat.reduceEqDiff,Nat.reduceAdd,reduceIte,reduceCtorEq,Nat.reduceLT,Nat.reduceLeDiff,Nat.reduceShiftRight,Nat.reduceMod])
        (repeat' first | exact trivial | (with_reducible first | exact RnB.fxB (ints_fxB _) | rfl | refine And.intro ?_ ?_) | (with_reducible (first | refine RnB.bb ?_ | refine RnB.nb ?_);simp only [vcW,vZ,Int.reduceEq,Int.reduceNe,Int.reduceLT,Int.reduceLE,Nat.reduceEqDiff,Nat.reduceAdd,reduceIte,reduceCtorEq,Nat.reduceLT,Nat.reduceLeDiff,Nat.reduceShiftRight,Nat.reduceMod]) | (with_reducible first | refine RnB.ii ?_ | refine RnB.app ?_) | (with_reducible refine RnB.fxB ?_;simp only [vcW,vZ,Int.reduceEq,Int.reduceNe,Int.reduceLT,Int.reduceLE,Nat.reduceEqDiff,Nat.reduceAdd,reduceIte,reduceCtorEq,Nat.reduceLT,Nat.reduceLeDiff,Nat.reduceShiftRight,Nat.reduceMod]) | omega)
        all_goals first | exact hia.symm | exact RnB.fxB (by rw [← hia];exact ints_fxB _) | skip
    · have hin:i=n:=by omega
      cases hin
      have hA:¬ (n:Int)<a.length:=by omega
      have hB:¬ (n:Int)<b.length:=by omega
      have hC:¬ (0:Int)<(addS a b n).2:=by omega
      have hl:=(hok n).1
      simp only [hA,hB,hC,vZ,Int.reduceEq,Int.reduceNe,Int.reduceLT,Int.reduceLE,Nat.reduceEqDiff,Nat.reduceAdd,reduceIte,reduceCtorEq,Nat.reduceLT,Nat.reduceLeDiff,Nat.reduceShiftRight,Nat.reduceMod]
      rw [borB_good _ _ _ _ _ (by rw [ints_length,hl]) (ints_fx _)]
end Go.Proofs.Ytgmpcbpmnimkoaa

/- Contracts: digits subtracted and compared. By an AI agent;nothing here is trusted. -/
namespace Go.Proofs.Ytgmpcbpmnimkoaa
open Go.Av

def subS (a b:List Int):Nat→List Int × Int
 | 0=>([],0)
 | i+1=>if dAt a i - dAt b i - (subS a b i).2<0 then ((subS a b i).1 ++ [dAt a i - dAt b i - (subS a b i).2+1000000000],1) else ((subS a b i).1 ++ [dAt a i - dAt b i - (subS a b i).2],0)
theorem subS_ok {a b:List Int} (ha:okD a) (hb:okD b):∀ i,(subS a b i).1.length=i∧okD (subS a b i).1∧(0≤(subS a b i).2∧(subS a b i).2≤1)∧dVal (subS a b i).1=dPre a i - dPre b i+1000000000 ^ i * (subS a b i).2
 | 0=>⟨rfl,(fun d hd=>by cases hd),by simp [subS],by simp [subS,dVal,dPre]⟩
 | i+1=>by
  obtain ⟨h1,h2,h3,h4⟩:=subS_ok ha hb i
  have qa:=dAt_ok ha i
  have qb:=dAt_ok hb i
  rw [dPre_succ,dPre_succ]
  simp only [subS]
  generalize subS a b i=p at *
  obtain ⟨l,c⟩:=p
  simp only at h1 h2 h3 h4 ⊢
  obtain ⟨s,hs⟩:∃ s,s=dAt a i - dAt b i - c:=⟨_,rfl⟩
  rw [← hs]
  have e2:(1000000000:Int) ^ i * s=1000000000 ^ i * dAt a i - 1000000000 ^ i * dAt b i - 1000000000 ^ i * c:=by rw [hs,Int.mul_sub,Int.mul_sub]
  by_cases hc:s<0
  ·rw [if_pos hc]
   simp only
   refine ⟨by simp [h1],?_,by omega,?_⟩
   ·intro d hd
    rcases List.mem_append.1 hd with e | e
    ·exact h2 d e
    ·rw [List.mem_singleton.1 e];omega
   ·rw [dVal_snoc,h1,h4,Int.pow_succ,Int.mul_add,Int.mul_one];omega
  ·rw [if_neg hc]
   simp only
   refine ⟨by simp [h1],?_,by omega,?_⟩
   ·intro d hd
    rcases List.mem_append.1 hd with e | e
    ·exact h2 d e
    ·rw [List.mem_singleton.1 e];omega
   ·rw [dVal_snoc,h1,h4,Int.mul_zero];omega
theorem subS_val {a b:List Int} (ha:okD a) (hb:okD b) (hl:b.length≤a.length) (hv:dVal b≤dVal a):dVal (subS a b a.length).1=dVal a - dVal b:=by
 obtain ⟨h1,h2,h3,h4⟩:=subS_ok ha hb a.length
 rw [dPre_all (Nat.le_refl _),dPre_all hl] at h4
 have hlt:=dVal_lt h2
 rw [h1] at hlt
 by_cases hc:(subS a b a.length).2=0
 ·rw [hc,Int.mul_zero] at h4;omega
 ·rw [show (subS a b a.length).2=1 by omega,Int.mul_one] at h4;omega

set_option maxHeartbeats 4000000 in
theorem subDigits_s (a b:List Int) (ha:okD a) (hb:okD b) (hl:b.length≤a.length) (hla:a.length≤1000000) (hv:dVal b≤dVal a) :
  Sound Try.prog 152 [.sl (ints a),.sl (ints b)] (.sl (ints (dg (dVal a - dVal b).toNat))):=by
 refine sound_W f_base_subDigits (Nat.le_of_ble_eq_true rfl) ?_
 have hok:=subS_ok ha hb
 have hval:=subS_val ha hb hl hv
 have hmax:=maxLen_big
 simp only [c_base_subDigits,vZ,Int.reduceEq,Int.reduceNe,Int.reduceLT,Int.reduceLE,Nat.reduceEqDiff,Nat.reduceAdd,reduceIte,reduceCtorEq,Nat.reduceLT,Nat.reduceLeDiff,Nat.reduceShiftRight,Nat.reduceMod]
 refine W_loop (t:=.mk) (α:=PSigma fun i:Nat=>i≤a.length∧(True)) (fun ⟨i,_⟩=>((envOf [(0,.sl (ints a)),(1,.sl (ints b)),(5,.buf 100 i),(6,.int .i64 (subS a b i).2),(7,.int .i64 i)],stOf [(100,⟨3,1,ints (subS a b i).1⟩)]))) (fun i=>a.length - i.1) ⟨0,Nat.zero_le _,?_⟩ ?_ (fun ⟨i,hi,hn⟩=>?_)
 ·trivial
 ·have z1:ints (subS a b 0).1=[]:=rfl
  have z2:(subS a b 0).2=0:=rfl
  refine weakX [(100,none)] (of_decide_eq_true rfl) (of_decide_eq_true rfl) ?_
  (simp only [z1,z2,vcW,vZ,Int.reduceEq,Int.reduceNe,Int.reduceLT,Int.reduceLE,Nat.reduceEqDiff,Nat.reduceAdd,reduceIte,reduceCtorEq,Nat.reduceLT,Nat.reduceLeDiff,Nat.reduceShiftRight,Nat.reduceMod])
  (repeat' first | exact trivial | (with_reducible first | exact RnB.fxB (ints_fxB _) | rfl | refine And.intro ?_ ?_) | (with_reducible (first | refine RnB.bb ?_ | refine RnB.nb ?_);simp only [vcW,vZ,Int.reduceEq,Int.reduceNe,Int.reduceLT,Int.reduceLE,Nat.reduceEqDiff,Nat.reduceAdd,reduceIte,reduceCtorEq,Nat.reduceLT,Nat.reduceLeDiff,Nat.reduceShiftRight,Nat.reduceMod]) | (with_reducible first | refine RnB.ii ?_ | refine RnB.app ?_) | (with_reducible refine RnB.fxB ?_;simp only [vcW,vZ,Int.reduceEq,Int.reduceNe,Int.reduceLT,Int.reduceLE,Nat.reduceEqDiff,Nat.reduceAdd,reduceIte,reduceCtorEq,Nat.reduceLT,Nat.reduceLeDiff,Nat.reduceShiftRight,Nat.reduceMod]) | omega)
 ·by_cases h':i<a.length
  ·obtain ⟨o1,o2,o3,o4⟩:=hok i
   have qa:=dAt_ok ha i
   have qb:=dAt_ok hb i
   have s1:(subS a b (i+1))=if dAt a i - dAt b i - (subS a b i).2<0 then ((subS a b i).1 ++ [dAt a i - dAt b i - (subS a b i).2+1000000000],1) else ((subS a b i).1 ++ [dAt a i - dAt b i - (subS a b i).2],0):=rfl
   have hga:=ints_get a i h'
   rw [← dAt_lt h'] at hga
   have hdb:=digit_s b i (by omega)
   obtain ⟨l,hl⟩:∃ l,l=(subS a b i).1:=⟨_,rfl⟩
   obtain ⟨c,hcc⟩:∃ c,c=(subS a b i).2:=⟨_,rfl⟩
   dsimp only
   rw [← hl,← hcc]
   simp only [← hl,← hcc] at o1 o2 o3 o4 s1
   have hc1:(i:Int)<a.length:=by omega
   generalize dAt a i=x at *
   generalize dAt b i=y at *
   have hI:I64 (x - y):=by unfold I64;omega
   have hI2:I64 (x - y - c):=by unfold I64;omega
   simp only [hc1,hga,vZ,Int.reduceEq,Int.reduceNe,Int.reduceLT,Int.reduceLE,Nat.reduceEqDiff,Nat.reduceAdd,reduceIte,reduceCtorEq,Nat.reduceLT,Nat.reduceLeDiff,Nat.reduceShiftRight,Nat.reduceMod]
   (repeat (with_reducible refine And.intro ?_ ?_;focus (first | omega | (unfold I64;omega))))
   refine callS_of hdb ?_
   by_cases hneg:x - y - c<0
   ·rw [if_pos hneg] at s1
    have s2:(subS a b (i+1)).1=l ++ [x - y - c+1000000000]:=by rw [s1]
    have s3:(subS a b (i+1)).2=1:=by rw [s1]
    have hia:ints (l ++ [x - y - c+1000000000])=ints l ++ [.int .i64 (x - y - c+1000000000)]:=ints_append _ _
    simp only [hneg,ints_length,o1,vZ,Int.reduceEq,Int.reduceNe,Int.reduceLT,Int.reduceLE,Nat.reduceEqDiff,Nat.reduceAdd,reduceIte,reduceCtorEq,Nat.reduceLT,Nat.reduceLeDiff,Nat.reduceShiftRight,Nat.reduceMod]
    (repeat (with_reducible refine And.intro ?_ ?_;focus (first | omega | (unfold I64;omega))))
    refine ⟨⟨i+1,h',trivial⟩,by simp only;omega,?_⟩
    refine weakX [(100,some 32)] (of_decide_eq_true rfl) (of_decide_eq_true rfl) ?_
    (simp only [s2,s3,hia,vcW,vZ,Int.reduceEq,Int.reduceNe,Int.reduceLT,Int.reduceLE,Nat.reduceEqDiff,Nat.reduceAdd,reduceIte,reduceCtorEq,Nat.reduceLT,Nat.reduceLeDiff,Nat.reduceShiftRight,Nat.reduceMod])
    (repeat' first | exact trivial | (with_reducible first | exact RnB.fxB (ints_fxB _) | rfl | refine And.intro ?_ ?_) | (with_reducible (first | refine RnB.bb ?_ | refine RnB.nb ?_);simp only [vcW,vZ,Int.reduceEq,Int.reduceNe,Int.reduceLT,Int.reduceLE,Nat.reduceEqDiff,Nat.reduceAdd,reduceIte,reduceCtorEq,Nat.reduceLT,Nat.reduceLeDiff,Nat.reduceShiftRight,Nat.reduceMod]) | (with_reducible first | refine RnB.ii ?_ | refine RnB.app ?_) | (with_reducible refine RnB.fxB ?_;simp only [vcW,vZ,Int.reduceEq,Int.reduceNe,Int.reduceLT,Int.reduceLE,Nat.reduceEqDiff,Nat.reduceAdd,reduceIte,reduceCtorEq,Nat.reduceLT,Nat.reduceLeDiff,Nat.reduceShiftRight,Nat.reduceMod]) | omega)
    all_goals first | exact hia.symm | exact RnB.fxB (by rw [← hia];exact ints_fxB _)
   ·rw [if_neg hneg] at s1
    have s2:(subS a b (i+1)).1=l ++ [x - y - c]:=by rw [s1]
    have s3:(subS a b (i+1)).2=0:=by rw [s1]
    have hia:ints (l ++ [x - y - c])=ints l ++ [.int .i64 (x - y - c)]:=ints_append _ _
    simp only [hneg,ints_length,o1,vZ,Int.reduceEq,Int.reduceNe,Int.reduceLT,Int.reduceLE,Nat.reduceEqDiff,Nat.reduceAdd,reduceIte,reduceCtorEq,Nat.reduceLT,Nat.reduceLeDiff,Nat.reduceShiftRight,Nat.reduceMod]
    (repeat (with_reducible refine And.intro ?_ ?_;focus (first | omega | (unfold I64;omega))))
    refine ⟨⟨i+1,h',trivial⟩,by simp only;omega,?_⟩
    refine weakX [(100,some 32)] (of_decide_eq_true rfl) (of_decide_eq_true rfl) ?_
    (simp only [s2,s3,hia,vcW,vZ,Int.reduceEq,Int.reduceNe,Int.reduceLT,Int.reduceLE,Nat.reduceEqDiff,Nat.reduceAdd,reduceIte,reduceCtorEq,Nat.reduceLT,Nat.reduceLeDiff,Nat.reduceShiftRight,Nat.reduceMod])
    (repeat' first | exact trivial | (with_reducible first | exact RnB.fxB (ints_fxB _) | rfl | refine And.intro ?_ ?_) | (with_reducible (first | refine RnB.bb ?_ | refine RnB.nb ?_);simp only [vcW,vZ,Int.reduceEq,Int.reduceNe,Int.reduceLT,Int.reduceLE,Nat.reduceEqDiff,Nat.reduceAdd,reduceIte,reduceCtorEq,Nat.reduceLT,Nat.reduceLeDiff,Nat.reduceShiftRight,Nat.reduceMod]) | (with_reducible first | refine RnB.ii ?_ | refine RnB.app ?_) | (with_reducible refine RnB.fxB ?_;simp only [vcW,vZ,Int.reduceEq,Int.reduceNe,Int.reduceLT,Int.reduceLE,Nat.reduceEqDiff,Nat.reduceAdd,reduceIte,reduceCtorEq,Nat.reduceLT,Nat.reduceLeDiff,Nat.reduceShiftRight,Nat.reduceMod]) | omega)
    all_goals first | exact hia.symm | exact RnB.fxB (by rw [← hia];exact ints_fxB _)
  ·have hin:i=a.length:=by omega
   cases hin
   obtain ⟨o1,o2,o3,o4⟩:=hok a.length
   have hc1:¬ (a.length:Int)<a.length:=by omega
   have htr:=trim_dg o2
   rw [hval] at htr
   have hts:=trimmed_s (subS a b a.length).1 (by omega)
   rw [htr] at hts
   have hbg:=borB_good (s:=stOf [(100,⟨3,1,ints (subS a b a.length).1⟩)]) 4 a.length 3 1 (ints (subS a b a.length).1) (by rw [ints_length,o1]) (ints_fx _)
   simp only [hc1,vZ,Int.reduceEq,Int.reduceNe,Int.reduceLT,Int.reduceLE,Nat.reduceEqDiff,Nat.reduceAdd,reduceIte,reduceCtorEq,Nat.reduceLT,Nat.reduceLeDiff,Nat.reduceShiftRight,Nat.reduceMod]
   rw [hbg]
   refine callS_of hts ?_
   simp only [vZ,Int.reduceEq,Int.reduceNe,Int.reduceLT,Int.reduceLE,Nat.reduceEqDiff,Nat.reduceAdd,reduceIte,reduceCtorEq,Nat.reduceLT,Nat.reduceLeDiff,Nat.reduceShiftRight,Nat.reduceMod]

theorem dg_mono:∀ (y x:Nat),y≤x→(dg y).length≤(dg x).length:=by
 intro y
 induction y using Nat.strongRecOn with
 | _ y ih =>
  intro x h
  by_cases e:y=0
  ·rw [e,dg_zero];exact Nat.zero_le _
  ·rw [dg_pos e,dg_pos (show x ≠ 0 by omega),List.length_cons,List.length_cons]
   have:=ih (y / 1000000000) (Nat.div_lt_self (by omega) (by omega)) (x / 1000000000) (Nat.div_le_div_right h)
   omega
theorem dVal_split (l:List Int) (i:Nat) (h:i<l.length):dVal l=dPre l i+1000000000 ^ i * (l[i]+1000000000 * dVal (l.drop (i+1))):=by
 have e:l=l.take i ++ (l[i] :: l.drop (i+1)):=by rw [← List.drop_eq_getElem_cons h,List.take_append_drop]
 have:dVal l=dVal (l.take i ++ (l[i] :: l.drop (i+1))):=by rw [← e]
 rw [this,dVal_append,List.length_take,Nat.min_eq_left (by omega)];rfl
theorem okD_take {l:List Int} (h:okD l) (i:Nat):okD (l.take i):=fun d hd=>h d (List.mem_of_mem_take hd)
theorem dVal_cmp {a b:List Int} (ha:okD a) (hb:okD b) {i:Nat} (h1:i<a.length) (h2:i<b.length) (hd:a.drop (i+1)=b.drop (i+1)) (hlt:a[i]<b[i]):dVal a<dVal b:=by
 rw [dVal_split a i h1,dVal_split b i h2,hd]
 have q1:=dVal_lt (okD_take ha i)
 have q2:=dVal_nonneg (okD_take hb i)
 rw [List.length_take,Nat.min_eq_left (by omega)] at q1
 unfold dPre
 have hp:(0:Int)<1000000000 ^ i:=Int.pow_pos (by omega)
 have:(1000000000:Int) ^ i * (a[i]+1000000000 * dVal (b.drop (i+1))+1)≤1000000000 ^ i * (b[i]+1000000000 * dVal (b.drop (i+1))):=Int.mul_le_mul_of_nonneg_left (by omega) (by omega)
 rw [Int.mul_add _ _ 1,Int.mul_one] at this
 omega
theorem cmpDigits_s (x y:Nat) (hx:(dg x).length≤1000000) (hy:(dg y).length≤1000000) :
  Sound Try.prog 151 [.sl (ints (dg x)),.sl (ints (dg y))] (.int .i64 ((x:Int) - y).sign):=by
 refine sound_W f_base_cmpDigits (Nat.le_of_ble_eq_true rfl) ?_
 have ha:=okD_dg x
 have hb:=okD_dg y
 have va:=dVal_dg x
 have vb:=dVal_dg y
 have m1:=dg_mono y x
 have m2:=dg_mono x y
 generalize dg x=a at *
 generalize dg y=b at *
 have slt:dVal a<dVal b→((x:Int) - y).sign = -1:=fun h=>Int.sign_eq_neg_one_of_neg (by omega)
 have sgt:dVal b<dVal a→((x:Int) - y).sign=1:=fun h=>Int.sign_eq_one_of_pos (by omega)
 by_cases hlen:a.length=b.length
 case neg =>
  have hne:¬ (a.length:Int)=b.length:=by omega
  by_cases hlt:(a.length:Int)<b.length
  ·have hs:=slt (by rw [va,vb];by_cases q:y≤x;have:=m1 q;omega;omega)
   simp only [c_base_cmpDigits,hne,hlt,hs,vZ,Int.reduceEq,Int.reduceNe,Int.reduceLT,Int.reduceLE,Nat.reduceEqDiff,Nat.reduceAdd,reduceIte,reduceCtorEq,Nat.reduceLT,Nat.reduceLeDiff,Nat.reduceShiftRight,Nat.reduceMod]
  ·have hs:=sgt (by rw [va,vb];by_cases q:x≤y;have:=m2 q;omega;omega)
   simp only [c_base_cmpDigits,hne,hlt,hs,vZ,Int.reduceEq,Int.reduceNe,Int.reduceLT,Int.reduceLE,Nat.reduceEqDiff,Nat.reduceAdd,reduceIte,reduceCtorEq,Nat.reduceLT,Nat.reduceLeDiff,Nat.reduceShiftRight,Nat.reduceMod]
 have hle:(a.length:Int)=b.length:=by omega
 simp only [c_base_cmpDigits,hle,vZ,Int.reduceEq,Int.reduceNe,Int.reduceLT,Int.reduceLE,Nat.reduceEqDiff,Nat.reduceAdd,reduceIte,reduceCtorEq,Nat.reduceLT,Nat.reduceLeDiff,Nat.reduceShiftRight,Nat.reduceMod]
 (repeat (with_reducible refine And.intro ?_ ?_;focus (first | omega | (unfold I64;omega))))
 refine W_loop (t:=.mk) (α:=PSigma fun k:Nat=>k≤a.length∧a.drop k=b.drop k) (fun ⟨k,_⟩=>(envOf [(0,.sl (ints a)),(1,.sl (ints b)),(5,.int .i64 ((k:Int) - 1))],stOf [])) (fun k=>k.1) ⟨a.length,Nat.le_refl _,by rw [List.drop_length,hlen,List.drop_length]⟩ ?_ (fun ⟨k,hk,hd⟩=>?_)
 ·refine weakX [] (of_decide_eq_true rfl) (of_decide_eq_true rfl) ?_
  (simp only [hle,vcW,vZ,Int.reduceEq,Int.reduceNe,Int.reduceLT,Int.reduceLE,Nat.reduceEqDiff,Nat.reduceAdd,reduceIte,reduceCtorEq,Nat.reduceLT,Nat.reduceLeDiff,Nat.reduceShiftRight,Nat.reduceMod])
  (repeat' first | exact trivial | (with_reducible first | exact RnB.fxB (ints_fxB _) | rfl | refine And.intro ?_ ?_) | (with_reducible (first | refine RnB.bb ?_ | refine RnB.nb ?_);simp only [vcW,vZ,Int.reduceEq,Int.reduceNe,Int.reduceLT,Int.reduceLE,Nat.reduceEqDiff,Nat.reduceAdd,reduceIte,reduceCtorEq,Nat.reduceLT,Nat.reduceLeDiff,Nat.reduceShiftRight,Nat.reduceMod]) | (with_reducible first | refine RnB.ii ?_ | refine RnB.app ?_) | (with_reducible refine RnB.fxB ?_;simp only [vcW,vZ,Int.reduceEq,Int.reduceNe,Int.reduceLT,Int.reduceLE,Nat.reduceEqDiff,Nat.reduceAdd,reduceIte,reduceCtorEq,Nat.reduceLT,Nat.reduceLeDiff,Nat.reduceShiftRight,Nat.reduceMod]) | omega)
 ·cases k with
  | zero =>
   have z0:¬ (0:Int)≤((0:Nat):Int) - 1:=by omega
   simp only [List.drop_zero] at hd
   have hs:((x:Int) - y).sign=0:=by rw [← va,← vb,hd];simp
   simp only [z0,hs,vZ,Int.reduceEq,Int.reduceNe,Int.reduceLT,Int.reduceLE,Nat.reduceEqDiff,Nat.reduceAdd,reduceIte,reduceCtorEq,Nat.reduceLT,Nat.reduceLeDiff,Nat.reduceShiftRight,Nat.reduceMod]
  | succ k =>
   have z0:(0:Int)≤(k:Int):=by omega
   have z1:((k+1:Nat):Int) - 1=(k:Int):=by omega
   have k1:k<a.length:=by omega
   have k2:k<b.length:=by omega
   have g1:=ints_get a k k1
   have g2:=ints_get b k k2
   by_cases c1:a[k]<b[k]
   ·have hs:=slt (dVal_cmp ha hb k1 k2 hd c1)
    simp only [z1,z0,g1,g2,c1,hs,vZ,Int.reduceEq,Int.reduceNe,Int.reduceLT,Int.reduceLE,Nat.reduceEqDiff,Nat.reduceAdd,reduceIte,reduceCtorEq,Nat.reduceLT,Nat.reduceLeDiff,Nat.reduceShiftRight,Nat.reduceMod]
   ·by_cases c2:b[k]<a[k]
    ·have hs:=sgt (dVal_cmp hb ha k2 k1 hd.symm c2)
     simp only [z1,z0,g1,g2,c1,c2,hs,vZ,Int.reduceEq,Int.reduceNe,Int.reduceLT,Int.reduceLE,Nat.reduceEqDiff,Nat.reduceAdd,reduceIte,reduceCtorEq,Nat.reduceLT,Nat.reduceLeDiff,Nat.reduceShiftRight,Nat.reduceMod]
    ·have hdk:a.drop k=b.drop k:=by rw [List.drop_eq_getElem_cons k1,List.drop_eq_getElem_cons k2,hd,show a[k]=b[k] by omega]
     simp only [z1,z0,g1,g2,c1,c2,vZ,Int.reduceEq,Int.reduceNe,Int.reduceLT,Int.reduceLE,Nat.reduceEqDiff,Nat.reduceAdd,reduceIte,reduceCtorEq,Nat.reduceLT,Nat.reduceLeDiff,Nat.reduceShiftRight,Nat.reduceMod]
     (repeat (with_reducible refine And.intro ?_ ?_;focus (first | omega | (unfold I64;omega))))
     refine ⟨⟨k,by omega,hdk⟩,by simp only;omega,?_⟩
     refine weakX [] (of_decide_eq_true rfl) (of_decide_eq_true rfl) ?_
     (simp only [vcW,vZ,Int.reduceEq,Int.reduceNe,Int.reduceLT,Int.reduceLE,Nat.reduceEqDiff,Nat.reduceAdd,reduceIte,reduceCtorEq,Nat.reduceLT,Nat.reduceLeDiff,Nat.reduceShiftRight,Nat.reduceMod])
     (repeat' first | exact trivial | (with_reducible first | exact RnB.fxB (ints_fxB _) | rfl | refine And.intro ?_ ?_) | (with_reducible (first | refine RnB.bb ?_ | refine RnB.nb ?_);simp only [vcW,vZ,Int.reduceEq,Int.reduceNe,Int.reduceLT,Int.reduceLE,Nat.reduceEqDiff,Nat.reduceAdd,reduceIte,reduceCtorEq,Nat.reduceLT,Nat.reduceLeDiff,Nat.reduceShiftRight,Nat.reduceMod]) | (with_reducible first | refine RnB.ii ?_ | refine RnB.app ?_) | (with_reducible refine RnB.fxB ?_;simp only [vcW,vZ,Int.reduceEq,Int.reduceNe,Int.reduceLT,Int.reduceLE,Nat.reduceEqDiff,Nat.reduceAdd,reduceIte,reduceCtorEq,Nat.reduceLT,Nat.reduceLeDiff,Nat.reduceShiftRight,Nat.reduceMod]) | omega)
end Go.Proofs.Ytgmpcbpmnimkoaa

/- Contracts: wide numbers added,subtracted,compared. By an AI agent;nothing here is trusted. -/
namespace Go.Proofs.Ytgmpcbpmnimkoaa
open Go.Av

def wOk (k:Nat) (v:Int):Prop:=(dg v.natAbs).length≤k
theorem wOk_of {k:Nat} {v:Int} (h:v.natAbs<1000000000 ^ k):wOk k v:=dg_len h
theorem wOk_neg {k:Nat} {v:Int} (h:wOk k v):wOk k (-v):=by unfold wOk at *;rwa [Int.natAbs_neg]
theorem sign_cases {x:Int} (h:x ≠ 0):(0<x∧x.sign=1)∨(x<0∧x.sign = -1):=by
 rcases Int.lt_trichotomy x 0 with q | q | q
 ·exact .inr ⟨q,Int.sign_eq_neg_one_of_neg q⟩
 ·exact absurd q h
 ·exact .inl ⟨q,Int.sign_eq_one_of_pos q⟩
set_option maxHeartbeats 4000000 in
theorem WideAdd_s (x y:Int) (hx:wOk 100000 x) (hy:wOk 100000 y):Sound Try.prog 113 [wideA x,wideA y] (wideA (x+y)):=by
 refine sound_W f_base_WideAdd (Nat.le_of_ble_eq_true rfl) ?_
 unfold wOk at hx hy
 have e1:∀ v:Int,dVal (dg v.natAbs)=v.natAbs:=fun v=>dVal_dg _
 by_cases h1:x=0
 ·subst h1
  have s1:(0:Int).sign=0:=rfl
  rw [Int.zero_add]
  simp only [c_base_WideAdd,wideA,s1,vZ,Int.reduceEq,Int.reduceNe,Int.reduceLT,Int.reduceLE,Nat.reduceEqDiff,Nat.reduceAdd,reduceIte,reduceCtorEq,Nat.reduceLT,Nat.reduceLeDiff,Nat.reduceShiftRight,Nat.reduceMod]
 by_cases h2:y=0
 ·subst h2
  have s1:(0:Int).sign=0:=rfl
  have s2:¬ x.sign=0:=by rw [Int.sign_eq_zero_iff_zero];exact h1
  rw [Int.add_zero]
  simp only [c_base_WideAdd,wideA,s1,s2,vZ,Int.reduceEq,Int.reduceNe,Int.reduceLT,Int.reduceLE,Nat.reduceEqDiff,Nat.reduceAdd,reduceIte,reduceCtorEq,Nat.reduceLT,Nat.reduceLeDiff,Nat.reduceShiftRight,Nat.reduceMod]
 have s1:¬ x.sign=0:=by rw [Int.sign_eq_zero_iff_zero];exact h1
 have s2:¬ y.sign=0:=by rw [Int.sign_eq_zero_iff_zero];exact h2
 have sx:=sign_cases h1
 have sy:=sign_cases h2
 by_cases h3:x.sign=y.sign
 ·obtain ⟨l,l1,l2,l3,l4⟩:=addDigits_s _ _ (okD_dg x.natAbs) (okD_dg y.natAbs) (by omega) (by omega)
  rw [e1,e1] at l3
  have hw:=wideOf_s y.sign l (by omega) l1 (by omega)
  have hv:y.sign * dVal l=x+y:=by
   rw [l3]
   rcases sx with ⟨q1,q2⟩ | ⟨q1,q2⟩ <;> rcases sy with ⟨q3,q4⟩ | ⟨q3,q4⟩ <;> rw [q4] <;> omega
  rw [hv] at hw
  have hr:wideA (x+y)=.agg [.int .i64 (x+y).sign,.sl (ints (dg (x+y).natAbs))]:=rfl
  rw [hr] at hw ⊢
  simp only [c_base_WideAdd,wideA,s1,s2,h3,vZ,Int.reduceEq,Int.reduceNe,Int.reduceLT,Int.reduceLE,Nat.reduceEqDiff,Nat.reduceAdd,reduceIte,reduceCtorEq,Nat.reduceLT,Nat.reduceLeDiff,Nat.reduceShiftRight,Nat.reduceMod]
  refine callS_of l4 ?_
  simp only [vZ,Int.reduceEq,Int.reduceNe,Int.reduceLT,Int.reduceLE,Nat.reduceEqDiff,Nat.reduceAdd,reduceIte,reduceCtorEq,Nat.reduceLT,Nat.reduceLeDiff,Nat.reduceShiftRight,Nat.reduceMod]
  refine callS_of hw ?_
  simp only [vZ,Int.reduceEq,Int.reduceNe,Int.reduceLT,Int.reduceLE,Nat.reduceEqDiff,Nat.reduceAdd,reduceIte,reduceCtorEq,Nat.reduceLT,Nat.reduceLeDiff,Nat.reduceShiftRight,Nat.reduceMod]
 ·have hc:=cmpDigits_s x.natAbs y.natAbs (by omega) (by omega)
  have hr:wideA (x+y)=.agg [.int .i64 (x+y).sign,.sl (ints (dg (x+y).natAbs))]:=rfl
  rw [hr]
  rcases Nat.lt_trichotomy x.natAbs y.natAbs with hlt | heq | hgt
  ·have hs:((x.natAbs:Int) - y.natAbs).sign = -1:=Int.sign_eq_neg_one_of_neg (by omega)
   have hsd:=subDigits_s (dg y.natAbs) (dg x.natAbs) (okD_dg _) (okD_dg _) (dg_mono _ _ (by omega)) (by omega) (by rw [e1,e1];omega)
   rw [e1,e1] at hsd
   have hok:=okD_dg ((y.natAbs:Int) - x.natAbs).toNat
   have hvd:=dVal_dg ((y.natAbs:Int) - x.natAbs).toNat
   have hle:(dg ((y.natAbs:Int) - x.natAbs).toNat).length≤1000000000:=by
    have:=dg_mono ((y.natAbs:Int) - x.natAbs).toNat y.natAbs (by omega);omega
   have hw:=wideOf_s y.sign _ hle hok (by omega)
   have hv:y.sign * dVal (dg ((y.natAbs:Int) - x.natAbs).toNat)=x+y:=by
    rw [hvd]
    rcases sx with ⟨q1,q2⟩ | ⟨q1,q2⟩ <;> rcases sy with ⟨q3,q4⟩ | ⟨q3,q4⟩ <;> rw [q4] <;> omega
   rw [hv,hr] at hw
   rw [hs] at hc
   simp only [c_base_WideAdd,wideA,s1,s2,h3,vZ,Int.reduceEq,Int.reduceNe,Int.reduceLT,Int.reduceLE,Nat.reduceEqDiff,Nat.reduceAdd,reduceIte,reduceCtorEq,Nat.reduceLT,Nat.reduceLeDiff,Nat.reduceShiftRight,Nat.reduceMod]
   refine callS_of hc ?_
   simp only [vZ,Int.reduceEq,Int.reduceNe,Int.reduceLT,Int.reduceLE,Nat.reduceEqDiff,Nat.reduceAdd,reduceIte,reduceCtorEq,Nat.reduceLT,Nat.reduceLeDiff,Nat.reduceShiftRight,Nat.reduceMod]
   refine callS_of hsd ?_
   simp only [vZ,Int.reduceEq,Int.reduceNe,Int.reduceLT,Int.reduceLE,Nat.reduceEqDiff,Nat.reduceAdd,reduceIte,reduceCtorEq,Nat.reduceLT,Nat.reduceLeDiff,Nat.reduceShiftRight,Nat.reduceMod]
   refine callS_of hw ?_
   simp only [vZ,Int.reduceEq,Int.reduceNe,Int.reduceLT,Int.reduceLE,Nat.reduceEqDiff,Nat.reduceAdd,reduceIte,reduceCtorEq,Nat.reduceLT,Nat.reduceLeDiff,Nat.reduceShiftRight,Nat.reduceMod]
  ·have hs:((x.natAbs:Int) - y.natAbs).sign=0:=by rw [heq];simp
   have hz:x+y=0:=by
    rcases sx with ⟨q1,q2⟩ | ⟨q1,q2⟩ <;> rcases sy with ⟨q3,q4⟩ | ⟨q3,q4⟩ <;> omega
   have hz1:(0:Int).sign=0:=rfl
   have hz2:dg (0:Int).natAbs=[]:=dg_zero
   have hz3:ints []=[]:=rfl
   rw [hs] at hc
   rw [hz,hz1,hz2,hz3]
   simp only [c_base_WideAdd,wideA,s1,s2,h3,vZ,Int.reduceEq,Int.reduceNe,Int.reduceLT,Int.reduceLE,Nat.reduceEqDiff,Nat.reduceAdd,reduceIte,reduceCtorEq,Nat.reduceLT,Nat.reduceLeDiff,Nat.reduceShiftRight,Nat.reduceMod]
   refine callS_of hc ?_
   simp only [vZ,Int.reduceEq,Int.reduceNe,Int.reduceLT,Int.reduceLE,Nat.reduceEqDiff,Nat.reduceAdd,reduceIte,reduceCtorEq,Nat.reduceLT,Nat.reduceLeDiff,Nat.reduceShiftRight,Nat.reduceMod]
  ·have hs:((x.natAbs:Int) - y.natAbs).sign=1:=Int.sign_eq_one_of_pos (by omega)
   have hsd:=subDigits_s (dg x.natAbs) (dg y.natAbs) (okD_dg _) (okD_dg _) (dg_mono _ _ (by omega)) (by omega) (by rw [e1,e1];omega)
   rw [e1,e1] at hsd
   have hok:=okD_dg ((x.natAbs:Int) - y.natAbs).toNat
   have hvd:=dVal_dg ((x.natAbs:Int) - y.natAbs).toNat
   have hle:(dg ((x.natAbs:Int) - y.natAbs).toNat).length≤1000000000:=by
    have:=dg_mono ((x.natAbs:Int) - y.natAbs).toNat x.natAbs (by omega);omega
   have hw:=wideOf_s x.sign _ hle hok (by omega)
   have hv:x.sign * dVal (dg ((x.natAbs:Int) - y.natAbs).toNat)=x+y:=by
    rw [hvd]
    rcases sx with ⟨q1,q2⟩ | ⟨q1,q2⟩ <;> rcases sy with ⟨q3,q4⟩ | ⟨q3,q4⟩ <;> rw [q2] <;> omega
   rw [hv,hr] at hw
   rw [hs] at hc
   simp only [c_base_WideAdd,wideA,s1,s2,h3,vZ,Int.reduceEq,Int.reduceNe,Int.reduceLT,Int.reduceLE,Nat.reduceEqDiff,Nat.reduceAdd,reduceIte,reduceCtorEq,Nat.reduceLT,Nat.reduceLeDiff,Nat.reduceShiftRight,Nat.reduceMod]
   refine callS_of hc ?_
   simp only [vZ,Int.reduceEq,Int.reduceNe,Int.reduceLT,Int.reduceLE,Nat.reduceEqDiff,Nat.reduceAdd,reduceIte,reduceCtorEq,Nat.reduceLT,Nat.reduceLeDiff,Nat.reduceShiftRight,Nat.reduceMod]
   refine callS_of hsd ?_
   simp only [vZ,Int.reduceEq,Int.reduceNe,Int.reduceLT,Int.reduceLE,Nat.reduceEqDiff,Nat.reduceAdd,reduceIte,reduceCtorEq,Nat.reduceLT,Nat.reduceLeDiff,Nat.reduceShiftRight,Nat.reduceMod]
   refine callS_of hw ?_
   simp only [vZ,Int.reduceEq,Int.reduceNe,Int.reduceLT,Int.reduceLE,Nat.reduceEqDiff,Nat.reduceAdd,reduceIte,reduceCtorEq,Nat.reduceLT,Nat.reduceLeDiff,Nat.reduceShiftRight,Nat.reduceMod]
theorem WideSub_s (x y:Int) (hx:wOk 100000 x) (hy:wOk 100000 y):Sound Try.prog 116 [wideA x,wideA y] (wideA (x - y)):=by
 refine sound_W f_base_WideSub (Nat.le_of_ble_eq_true rfl) ?_
 have hn:=WideNeg_s y
 have ha:=WideAdd_s x (-y) hx (wOk_neg hy)
 rw [show x + -y=x - y by omega] at ha
 have hr:∀ v,wideA v=.agg [.int .i64 v.sign,.sl (ints (dg v.natAbs))]:=fun _=>rfl
 rw [hr y,hr (-y)] at hn
 rw [hr x,hr (-y),hr (x - y)] at ha
 rw [hr x,hr y,hr (x - y)]
 simp only [c_base_WideSub,vZ,Int.reduceEq,Int.reduceNe,Int.reduceLT,Int.reduceLE,Nat.reduceEqDiff,Nat.reduceAdd,reduceIte,reduceCtorEq,Nat.reduceLT,Nat.reduceLeDiff,Nat.reduceShiftRight,Nat.reduceMod]
 refine callS_of hn ?_
 simp only [vZ,Int.reduceEq,Int.reduceNe,Int.reduceLT,Int.reduceLE,Nat.reduceEqDiff,Nat.reduceAdd,reduceIte,reduceCtorEq,Nat.reduceLT,Nat.reduceLeDiff,Nat.reduceShiftRight,Nat.reduceMod]
 refine callS_of ha ?_
 simp only [vZ,Int.reduceEq,Int.reduceNe,Int.reduceLT,Int.reduceLE,Nat.reduceEqDiff,Nat.reduceAdd,reduceIte,reduceCtorEq,Nat.reduceLT,Nat.reduceLeDiff,Nat.reduceShiftRight,Nat.reduceMod]
theorem WideCmp_s (x y:Int) (hx:wOk 100000 x) (hy:wOk 100000 y):Sound Try.prog 56 [wideA x,wideA y] (.int .i64 (x - y).sign):=by
 refine sound_W f_base_WideCmp (Nat.le_of_ble_eq_true rfl) ?_
 have ha:=WideSub_s x y hx hy
 have hr:∀ v,wideA v=.agg [.int .i64 v.sign,.sl (ints (dg v.natAbs))]:=fun _=>rfl
 rw [hr x,hr y,hr (x - y)] at ha
 rw [hr x,hr y]
 simp only [c_base_WideCmp,vZ,Int.reduceEq,Int.reduceNe,Int.reduceLT,Int.reduceLE,Nat.reduceEqDiff,Nat.reduceAdd,reduceIte,reduceCtorEq,Nat.reduceLT,Nat.reduceLeDiff,Nat.reduceShiftRight,Nat.reduceMod]
 refine callS_of ha ?_
 simp only [vZ,Int.reduceEq,Int.reduceNe,Int.reduceLT,Int.reduceLE,Nat.reduceEqDiff,Nat.reduceAdd,reduceIte,reduceCtorEq,Nat.reduceLT,Nat.reduceLeDiff,Nat.reduceShiftRight,Nat.reduceMod]
end Go.Proofs.Ytgmpcbpmnimkoaa

/- Contracts: wide numbers of ints,and multiplied. By an AI agent;nothing here is trusted. -/
namespace Go.Proofs.Ytgmpcbpmnimkoaa
open Go.Av

theorem pow_three {k:Nat} (h:(1000000000:Int) ^ k≤9223372036854775808):k≤2:=by
 by_cases hk:k≤2
 ·exact hk
 ·have h2:(1000000000:Nat) ^ 3≤1000000000 ^ k:=Nat.pow_le_pow_right (by omega) (by omega)
  have h3:((1000000000 ^ k:Nat):Int)=(1000000000:Int) ^ k:=by simp
  omega
theorem nilsGood:∀ x ∈ [AV.agg [.int .i64 0,.nils]],good x=true:=fun x hx=>by rw [List.mem_singleton.1 hx];rfl
theorem RnB.wide {s s':Store} {f:Nat→Option Nat} {ty sz:Nat}:RnB s s' f ⟨ty,sz,[AV.agg [.int .i64 0,.nils]]⟩ ⟨ty,sz,[AV.agg [.int .i64 0,.nils]]⟩:=RnB.same (B:=⟨ty,sz,[AV.agg [.int .i64 0,.nils]]⟩) nilsGood
set_option maxHeartbeats 4000000 in
theorem WideOf_s (n:Int) (hn:I64 n):Sound Try.prog 111 [.int .i64 n] (wideA n):=by
  refine sound_W f_base_WideOf (Nat.le_of_ble_eq_true rfl) ?_
  unfold I64 at hn
  have hmax:=maxLen_big
  obtain ⟨g,hg⟩:∃ g:Int,g=if n<0 then -1 else 1:=⟨_,rfl⟩
  have hgn:g * n.natAbs=n:=by rw [hg];split <;> omega
  have hg1:g=1∨g = -1:=by rw [hg];split <;> simp
  have hr:wideA n=.agg [.int .i64 n.sign,.sl (ints (dg n.natAbs))]:=rfl
  rw [hr]
  by_cases hneg:n<0
  all_goals
    first
      | (have hgg:g = -1:=by rw [hg,if_pos hneg]
         simp only [c_base_WideOf,hneg,vZ,Int.reduceEq,Int.reduceNe,Int.reduceLT,Int.reduceLE,Nat.reduceEqDiff,Nat.reduceAdd,reduceIte,reduceCtorEq,Nat.reduceLT,Nat.reduceLeDiff,Nat.reduceShiftRight,Nat.reduceMod])
      | (have hgg:g=1:=by rw [hg,if_neg hneg]
         simp only [c_base_WideOf,hneg,vZ,Int.reduceEq,Int.reduceNe,Int.reduceLT,Int.reduceLE,Nat.reduceEqDiff,Nat.reduceAdd,reduceIte,reduceCtorEq,Nat.reduceLT,Nat.reduceLeDiff,Nat.reduceShiftRight,Nat.reduceMod])
    rw [← hgg]
    refine W_loop (t:=.mk) (α:=PSigma fun p:Int × List Int=>okD p.2∧(n.natAbs:Int)=dVal p.2+1000000000 ^ p.2.length * p.1.natAbs∧p.2.length≤3) (fun x=>(envOf [(0,.int .i64 x.1.1),(2,.ptr 2 0 0),(3,.int .i64 g),(4,.buf 100 x.1.2.length)],stOf [(2,⟨41,2,[.agg [.int .i64 0,.nils]]⟩),(100,⟨3,1,ints x.1.2⟩)])) (fun x=>x.1.1.natAbs) ⟨(n,[]),(fun d hd=>by cases hd),by simp [dVal],by simp⟩ ?_ (fun ⟨⟨q,l⟩,h1,h2,h3⟩=>?_)
    · have hz:ints []=[]:=rfl
      refine weakX [(100,none)] (of_decide_eq_true rfl) (of_decide_eq_true rfl) ?_
      (simp only [hz,vcW,vZ,Int.reduceEq,Int.reduceNe,Int.reduceLT,Int.reduceLE,Nat.reduceEqDiff,Nat.reduceAdd,reduceIte,reduceCtorEq,Nat.reduceLT,Nat.reduceLeDiff,Nat.reduceShiftRight,Nat.reduceMod])
      repeat' (with_reducible refine And.intro ?_ ?_)
      any_goals (with_reducible exact RnB.wide)
      (repeat' first | exact trivial | (with_reducible first | exact RnB.fxB (ints_fxB _) | rfl | refine And.intro ?_ ?_) | (with_reducible (first | refine RnB.bb ?_ | refine RnB.nb ?_);simp only [vcW,vZ,Int.reduceEq,Int.reduceNe,Int.reduceLT,Int.reduceLE,Nat.reduceEqDiff,Nat.reduceAdd,reduceIte,reduceCtorEq,Nat.reduceLT,Nat.reduceLeDiff,Nat.reduceShiftRight,Nat.reduceMod]) | (with_reducible first | refine RnB.ii ?_ | refine RnB.app ?_) | (with_reducible refine RnB.fxB ?_;simp only [vcW,vZ,Int.reduceEq,Int.reduceNe,Int.reduceLT,Int.reduceLE,Nat.reduceEqDiff,Nat.reduceAdd,reduceIte,reduceCtorEq,Nat.reduceLT,Nat.reduceLeDiff,Nat.reduceShiftRight,Nat.reduceMod]) | omega)
    · simp only at h1 h2 h3
      have hv:=dVal_nonneg h1
      have hpp:(0:Int)<1000000000 ^ l.length:=Int.pow_pos (by omega)
      by_cases hq:q=0
      · subst hq
        have hval:dVal l=n.natAbs:=by rw [h2];simp
        have hw:=wideOf_s g l (by omega) h1 (by omega)
        rw [hval,hgn,hr] at hw
        have hbg:=borB_good (s:=stOf [(2,⟨41,2,[.agg [.int .i64 0,.nils]]⟩),(100,⟨3,1,ints l⟩)]) 4 l.length 3 1 (ints l) (by rw [ints_length]) (ints_fx _)
        simp only [vZ,Int.reduceEq,Int.reduceNe,Int.reduceLT,Int.reduceLE,Nat.reduceEqDiff,Nat.reduceAdd,reduceIte,reduceCtorEq,Nat.reduceLT,Nat.reduceLeDiff,Nat.reduceShiftRight,Nat.reduceMod]
        rw [hbg]
        refine callS_of hw ?_
        simp only [vcX,vZ,Int.reduceEq,Int.reduceNe,Int.reduceLT,Int.reduceLE,Nat.reduceEqDiff,Nat.reduceAdd,reduceIte,reduceCtorEq,Nat.reduceLT,Nat.reduceLeDiff,Nat.reduceShiftRight,Nat.reduceMod]
      · have hq1:(1:Int)≤q.natAbs:=by omega
        have hmul:(1000000000:Int) ^ l.length * 1≤1000000000 ^ l.length * q.natAbs:=Int.mul_le_mul_of_nonneg_left hq1 (by omega)
        have hl2:l.length≤2:=pow_three (by omega)
        have hqb:q.natAbs≤n.natAbs:=by
          have:(1:Int) * q.natAbs≤1000000000 ^ l.length * q.natAbs:=Int.mul_le_mul_of_nonneg_right (by omega) (by omega)
          omega
        have t1:(q.tmod 1000000000).natAbs=q.natAbs % 1000000000:=by rw [Int.natAbs_tmod];rfl
        have t2:(q.tdiv 1000000000).natAbs=q.natAbs / 1000000000:=by rw [Int.natAbs_tdiv];rfl
        have hsz:=Size_s (q.tmod 1000000000) (by unfold S63;omega)
        rw [t1] at hsz
        have hia:ints (l ++ [((q.natAbs % 1000000000:Nat):Int)])=ints l ++ [.int .i64 ((q.natAbs % 1000000000:Nat):Int)]:=ints_append _ _
        have ho:okD (l ++ [((q.natAbs % 1000000000:Nat):Int)]):=by
          intro d hd
          rcases List.mem_append.1 hd with e | e
          · exact h1 d e
          · rw [List.mem_singleton.1 e];omega
        have hvn:(n.natAbs:Int)=dVal (l ++ [((q.natAbs % 1000000000:Nat):Int)])+1000000000 ^ (l ++ [((q.natAbs % 1000000000:Nat):Int)]).length * ((q.tdiv 1000000000).natAbs:Int):=by
          rw [dVal_snoc,t2,List.length_append,List.length_singleton,Int.pow_succ,h2,Int.mul_assoc,Int.add_assoc,← Int.mul_add]
          congr 2
          omega
        have hne:(q ≠ 0)=True:=eq_true hq
        simp only [hq,vZ,Int.reduceEq,Int.reduceNe,Int.reduceLT,Int.reduceLE,Nat.reduceEqDiff,Nat.reduceAdd,reduceIte,reduceCtorEq,Nat.reduceLT,Nat.reduceLeDiff,Nat.reduceShiftRight,Nat.reduceMod]
        (repeat (with_reducible refine And.intro ?_ ?_;focus (first | omega | (unfold I64;omega))))
        refine callS_of hsz ?_
        simp only [ints_length,vZ,Int.reduceEq,Int.reduceNe,Int.reduceLT,Int.reduceLE,Nat.reduceEqDiff,Nat.reduceAdd,reduceIte,reduceCtorEq,Nat.reduceLT,Nat.reduceLeDiff,Nat.reduceShiftRight,Nat.reduceMod]
        (repeat (with_reducible refine And.intro ?_ ?_;focus (first | omega | (unfold I64;omega))))
        refine ⟨⟨(q.tdiv 1000000000,l ++ [((q.natAbs % 1000000000:Nat):Int)]),ho,hvn,by simp;omega⟩,by simp only;rw [t2];omega,?_⟩
        refine weakX [(100,some 14)] (of_decide_eq_true rfl) (of_decide_eq_true rfl) ?_
        (simp only [hia,vcW,vZ,Int.reduceEq,Int.reduceNe,Int.reduceLT,Int.reduceLE,Nat.reduceEqDiff,Nat.reduceAdd,reduceIte,reduceCtorEq,Nat.reduceLT,Nat.reduceLeDiff,Nat.reduceShiftRight,Nat.reduceMod])
        repeat' (with_reducible refine And.intro ?_ ?_)
        any_goals (with_reducible exact RnB.wide)
        (repeat' first | exact trivial | (with_reducible first | exact RnB.fxB (ints_fxB _) | rfl | refine And.intro ?_ ?_) | (with_reducible (first | refine RnB.bb ?_ | refine RnB.nb ?_);simp only [vcW,vZ,Int.reduceEq,Int.reduceNe,Int.reduceLT,Int.reduceLE,Nat.reduceEqDiff,Nat.reduceAdd,reduceIte,reduceCtorEq,Nat.reduceLT,Nat.reduceLeDiff,Nat.reduceShiftRight,Nat.reduceMod]) | (with_reducible first | refine RnB.ii ?_ | refine RnB.app ?_) | (with_reducible refine RnB.fxB ?_;simp only [vcW,vZ,Int.reduceEq,Int.reduceNe,Int.reduceLT,Int.reduceLE,Nat.reduceEqDiff,Nat.reduceAdd,reduceIte,reduceCtorEq,Nat.reduceLT,Nat.reduceLeDiff,Nat.reduceShiftRight,Nat.reduceMod]) | omega)
        all_goals first | exact hia.symm | exact RnB.fxB (by rw [← hia];exact ints_fxB _) | exact RnB.wide | simp
end Go.Proofs.Ytgmpcbpmnimkoaa

/- Contracts: wide numbers multiplied. By an AI agent;nothing here is trusted. -/
namespace Go.Proofs.Ytgmpcbpmnimkoaa
open Go.Av

theorem mkOk_z (N:Nat):mkOk 1 (List.replicate N (AV.int .i64 0)):=by
 intro x hx
 rw [List.eq_of_mem_replicate hx]
 exact ⟨rfl,rfl,by decide⟩
theorem ints_z (n:Nat):List.replicate n (AV.int .i64 0)=ints (List.replicate n 0):=by simp [ints]
theorem ints_st (l:List Int) (k:Nat) (n:Int):(ints l).set k (.int .i64 n)=ints (l.set k n):=by simp [ints,List.map_set]
theorem dVal_set:∀ (l:List Int) (j:Nat) (x:Int) (h:j<l.length),dVal (l.set j x)=dVal l+1000000000 ^ j * (x - l[j])
 | d :: l,0,x,h=>by simp [dVal];omega
 | d :: l,j+1,x,h=>by
  rw [List.set_cons_succ,dVal,dVal_set l j x (by simpa using h),dVal,List.getElem_cons_succ,Int.pow_succ,Int.mul_add,← Int.mul_assoc,Int.mul_comm 1000000000 ((1000000000:Int) ^ j)];omega
theorem okD_set {l:List Int} (h:okD l) (j:Nat) {x:Int} (hx:0≤x∧x<1000000000):okD (l.set j x):=by
 intro d hd
 rcases List.mem_or_eq_of_mem_set hd with e | e
 ·exact h d e
 ·rw [e];exact hx
theorem dAt_set_ne {l:List Int} {i j:Nat} {x:Int} (h:i ≠ j):dAt (l.set i x) j=dAt l j:=by
 unfold dAt List.getD
 rw [List.getElem?_set_ne h]
theorem dVal_zeros (n:Nat):dVal (List.replicate n 0)=0:=by
 induction n with
 | zero=>rfl
 | succ n ih=>rw [List.replicate_succ,dVal,ih];rfl
theorem dAt_zeros (n j:Nat):dAt (List.replicate n 0) j=0:=by
 unfold dAt List.getD
 rw [List.getElem?_replicate];split <;> rfl
theorem mul_step {V P o m c s r q:Int} (hs:s=o+m+c) (hr:r+1000000000 * q=s):V+P * (r - o)+P * 1000000000 * q=V+P * c+P * m:=by
 have h1:P * (r - o)+P * 1000000000 * q=P * (r - o+1000000000 * q):=by rw [Int.mul_add,Int.mul_assoc]
 have h2:r - o+1000000000 * q=c+m:=by omega
 rw [h2,Int.mul_add] at h1
 omega
theorem dd_bound {a b:Int} (ha:0≤a∧a<1000000000) (hb:0≤b∧b<1000000000):0≤a * b∧a * b≤999999999 * 999999999 :=
 ⟨Int.mul_nonneg ha.1 hb.1,Int.mul_le_mul (by omega) (by omega) hb.1 (by omega)⟩

set_option maxHeartbeats 8000000 in
theorem WideMul_s (x y:Int) (hx:wOk 100000 x) (hy:wOk 100000 y):Sound Try.prog 57 [wideA x,wideA y] (wideA (x * y)):=by
 refine sound_W f_base_WideMul (Nat.le_of_ble_eq_true rfl) ?_
 unfold wOk at hx hy
 have hmax:=maxLen_big
 have hr:∀ v,wideA v=.agg [.int .i64 v.sign,.sl (ints (dg v.natAbs))]:=fun _=>rfl
 have hsg:∀ v:Int, -1≤v.sign∧v.sign≤1:=fun v=>by
  rcases Int.lt_trichotomy v 0 with h | h | h
  ·rw [Int.sign_eq_neg_one_of_neg h];omega
  ·rw [h];decide
  ·rw [Int.sign_eq_one_of_pos h];omega
 have hs1:=hsg x
 have hs2:=hsg y
 have hsp : -1≤x.sign * y.sign∧x.sign * y.sign≤1:=by rw [← Int.sign_mul];exact hsg _
 have hfin:∀ l:List Int,okD l→l.length≤1000000000→dVal l=(x.natAbs:Int) * y.natAbs→Sound Try.prog 117 [.int .i64 (x.sign * y.sign),.sl (ints l)] (wideA (x * y)):=by
  intro l h1 h2 h3
  have hsgn:x.sign * y.sign * dVal l=x * y:=by
   rw [h3,Int.mul_assoc,← Int.mul_assoc y.sign,Int.mul_comm y.sign,Int.mul_assoc,Int.sign_mul_natAbs,← Int.mul_assoc,Int.sign_mul_natAbs]
  have:=wideOf_s (x.sign * y.sign) l h2 h1 (by
   by_cases q:x.sign * y.sign=0
   ·refine .inr (.inr ⟨q,?_⟩)
    rcases Int.mul_eq_zero.1 q with e | e
    ·rw [Int.sign_eq_zero_iff_zero] at e;rw [h3,e];simp
    ·rw [Int.sign_eq_zero_iff_zero] at e;rw [h3,e];simp
   ·omega)
  rw [hsgn] at this
  exact this
 have va:=dVal_dg x.natAbs
 have vb:=dVal_dg y.natAbs
 have oa:=okD_dg x.natAbs
 have ob:=okD_dg y.natAbs
 rw [← va,← vb] at hfin
 rw [hr x,hr y]
 generalize dg x.natAbs=a at *
 generalize dg y.natAbs=b at *
 generalize x.sign=sx at *
 generalize y.sign=sy at *
 obtain ⟨M,hM⟩:∃ M,M=a.length+b.length+1:=⟨_,rfl⟩
 have hMi:(a.length:Int)+b.length+1=(M:Int):=by omega
 rw [hr (x * y)] at hfin ⊢
 simp only [c_base_WideMul,hMi,vZ,Int.reduceEq,Int.reduceNe,Int.reduceLT,Int.reduceLE,Nat.reduceEqDiff,Nat.reduceAdd,reduceIte,reduceCtorEq,Nat.reduceLT,Nat.reduceLeDiff,Nat.reduceShiftRight,Nat.reduceMod]
 (repeat (with_reducible refine And.intro ?_ ?_;focus (first | omega | (unfold I64;omega))))
 refine ⟨mkOk_z _,?_⟩
 rw [ints_z]
 refine W_loop (t:=.mk) (α:=PSigma fun p:Nat × List Int=>p.1≤a.length∧okD p.2∧p.2.length=M∧dVal p.2=dPre a p.1 * dVal b∧(∀ j,p.1+b.length≤j→dAt p.2 j=0)) (fun x=>(envOf [(2,.ptr 2 0 0),(3,.ptr 3 0 0),(4,.ptr 4 0 0),(5,.buf 100 M),(6,.int .i64 x.1.1)],stOf [(2,⟨41,2,[.agg [.int .i64 sx,.sl (ints a)]]⟩),(3,⟨41,2,[.agg [.int .i64 sy,.sl (ints b)]]⟩),(4,⟨41,2,[.agg [.int .i64 0,.nils]]⟩),(100,⟨3,1,ints x.1.2⟩)])) (fun x=>a.length - x.1.1) ⟨(0,List.replicate M 0),Nat.zero_le _,(fun d hd=>by rw [List.eq_of_mem_replicate hd];omega),by simp,by rw [dVal_zeros];simp [dPre,dVal],fun j _=>dAt_zeros M j⟩ ?_ (fun ⟨⟨i,out⟩,hi,p1,p2,p3,p4⟩=>?_)
 ·refine weakX [(100,some 18)] (of_decide_eq_true rfl) (of_decide_eq_true rfl) ?_
  (simp only [vcW,vZ,Int.reduceEq,Int.reduceNe,Int.reduceLT,Int.reduceLE,Nat.reduceEqDiff,Nat.reduceAdd,reduceIte,reduceCtorEq,Nat.reduceLT,Nat.reduceLeDiff,Nat.reduceShiftRight,Nat.reduceMod])
  repeat' (with_reducible refine And.intro ?_ ?_)
  any_goals (with_reducible exact RnB.wide)
  (repeat' first | exact trivial | (with_reducible first | exact RnB.fxB (ints_fxB _) | rfl | refine And.intro ?_ ?_) | (with_reducible (first | refine RnB.bb ?_ | refine RnB.nb ?_);simp only [vcW,vZ,Int.reduceEq,Int.reduceNe,Int.reduceLT,Int.reduceLE,Nat.reduceEqDiff,Nat.reduceAdd,reduceIte,reduceCtorEq,Nat.reduceLT,Nat.reduceLeDiff,Nat.reduceShiftRight,Nat.reduceMod]) | (with_reducible first | refine RnB.ii ?_ | refine RnB.app ?_) | (with_reducible refine RnB.fxB ?_;simp only [vcW,vZ,Int.reduceEq,Int.reduceNe,Int.reduceLT,Int.reduceLE,Nat.reduceEqDiff,Nat.reduceAdd,reduceIte,reduceCtorEq,Nat.reduceLT,Nat.reduceLeDiff,Nat.reduceShiftRight,Nat.reduceMod]) | omega)
 ·simp only at hi p1 p2 p3 p4
  by_cases h':i<a.length
  ·have hc1:(i:Int)<a.length:=by omega
   have qa:=oa _ (List.getElem_mem h')
   have ga:=ints_get a i h'
   have hpa:dPre a (i+1)=dPre a i+1000000000 ^ i * a[i]:=by rw [dPre_succ,dAt_lt h']
   generalize a[i]=ai at *
   simp only [hc1,vZ,Int.reduceEq,Int.reduceNe,Int.reduceLT,Int.reduceLE,Nat.reduceEqDiff,Nat.reduceAdd,reduceIte,reduceCtorEq,Nat.reduceLT,Nat.reduceLeDiff,Nat.reduceShiftRight,Nat.reduceMod]
   refine W_loop (t:=.mk) (α:=PSigma fun p:Nat × List Int × Int=>p.1≤b.length∧okD p.2.1∧p.2.1.length=M∧(0≤p.2.2∧p.2.2<1000000000)∧dVal p.2.1+1000000000 ^ (i+p.1) * p.2.2=dPre a i * dVal b+1000000000 ^ i * (ai * dPre b p.1)∧(∀ j,i+b.length≤j→dAt p.2.1 j=0)) (fun x=>(envOf [(2,.ptr 2 0 0),(3,.ptr 3 0 0),(4,.ptr 4 0 0),(5,.buf 100 M),(6,.int .i64 i),(7,.int .i64 x.1.2.2),(8,.int .i64 x.1.1)],stOf [(2,⟨41,2,[.agg [.int .i64 sx,.sl (ints a)]]⟩),(3,⟨41,2,[.agg [.int .i64 sy,.sl (ints b)]]⟩),(4,⟨41,2,[.agg [.int .i64 0,.nils]]⟩),(100,⟨3,1,ints x.1.2.1⟩)])) (fun x=>b.length - x.1.1) ⟨(0,out,0),Nat.zero_le _,p1,p2,⟨by simp only;omega,by simp only;omega⟩,by simp only;rw [p3];simp [dPre,dVal],p4⟩ ?_ (fun ⟨⟨k,w,c⟩,hk,r1,r2,r3,r4,r5⟩=>?_)
   ·refine weakX [(100,some 100)] (of_decide_eq_true rfl) (of_decide_eq_true rfl) ?_
    (simp only [vcW,vZ,Int.reduceEq,Int.reduceNe,Int.reduceLT,Int.reduceLE,Nat.reduceEqDiff,Nat.reduceAdd,reduceIte,reduceCtorEq,Nat.reduceLT,Nat.reduceLeDiff,Nat.reduceShiftRight,Nat.reduceMod])
    repeat' (with_reducible refine And.intro ?_ ?_)
    any_goals (with_reducible exact RnB.wide)
    (repeat' first | exact trivial | (with_reducible first | exact RnB.fxB (ints_fxB _) | rfl | refine And.intro ?_ ?_) | (with_reducible (first | refine RnB.bb ?_ | refine RnB.nb ?_);simp only [vcW,vZ,Int.reduceEq,Int.reduceNe,Int.reduceLT,Int.reduceLE,Nat.reduceEqDiff,Nat.reduceAdd,reduceIte,reduceCtorEq,Nat.reduceLT,Nat.reduceLeDiff,Nat.reduceShiftRight,Nat.reduceMod]) | (with_reducible first | refine RnB.ii ?_ | refine RnB.app ?_) | (with_reducible refine RnB.fxB ?_;simp only [vcW,vZ,Int.reduceEq,Int.reduceNe,Int.reduceLT,Int.reduceLE,Nat.reduceEqDiff,Nat.reduceAdd,reduceIte,reduceCtorEq,Nat.reduceLT,Nat.reduceLeDiff,Nat.reduceShiftRight,Nat.reduceMod]) | omega)
   ·simp only at hk r1 r2 r3 r4 r5
    by_cases hk':k<b.length
    ·have hc2:(k:Int)<b.length:=by omega
     have qb:=ob _ (List.getElem_mem hk')
     have gb:=ints_get b k hk'
     have hpb:dPre b (k+1)=dPre b k+1000000000 ^ k * b[k]:=by rw [dPre_succ,dAt_lt hk']
     generalize b[k]=bk at *
     have hik:i+k<w.length:=by omega
     have hik2:(i:Int)+k=((i+k:Nat):Int):=by omega
     have qw:=r1 _ (List.getElem_mem hik)
     have gw:=ints_get w (i+k) hik
     have hset:=dVal_set w (i+k)
     have hdd:=dd_bound qa qb
     obtain ⟨S,hS⟩:∃ S,S=w[i+k]+ai * bk+c:=⟨_,rfl⟩
     have t1:S.tmod 1000000000=S % 1000000000:=Int.tmod_eq_emod_of_nonneg (by omega)
     have t2:S.tdiv 1000000000=S / 1000000000:=Int.tdiv_eq_ediv_of_nonneg (by omega)
     have n1:=okD_set r1 (i+k) (x:=S % 1000000000) ⟨by omega,by omega⟩
     have n2:(w.set (i+k) (S % 1000000000)).length=M:=by simp [r2]
     have n3:0≤S / 1000000000∧S / 1000000000<1000000000:=by omega
     have n4:dVal (w.set (i+k) (S % 1000000000))+1000000000 ^ (i+(k+1)) * (S / 1000000000)=dPre a i * dVal b+1000000000 ^ i * (ai * dPre b (k+1)):=by
      rw [hset _ hik,← Nat.add_assoc,Int.pow_succ,mul_step hS (by omega),r4,hpb,Int.mul_add ai,Int.mul_add (1000000000 ^ i),Int.pow_add]
      have:(1000000000:Int) ^ i * 1000000000 ^ k * (ai * bk)=1000000000 ^ i * (ai * (1000000000 ^ k * bk)):=by
       rw [Int.mul_assoc,← Int.mul_assoc (1000000000 ^ k),Int.mul_comm (1000000000 ^ k) ai,Int.mul_assoc]
      omega
     have n5:∀ j,i+b.length≤j→dAt (w.set (i+k) (S % 1000000000)) j=0:=fun j hj=>by rw [dAt_set_ne (by omega)];exact r5 j hj
     have hst:(ints w).set (i+k) (.int .i64 (S % 1000000000))=ints (w.set (i+k) (S % 1000000000)):=ints_st _ _ _
     generalize w[i+k]=wv at *
     simp only [hc2,hik2,ga,gb,gw,← hS,t1,t2,vZ,Int.reduceEq,Int.reduceNe,Int.reduceLT,Int.reduceLE,Nat.reduceEqDiff,Nat.reduceAdd,reduceIte,reduceCtorEq,Nat.reduceLT,Nat.reduceLeDiff,Nat.reduceShiftRight,Nat.reduceMod]
     (repeat (with_reducible refine And.intro ?_ ?_;focus (first | omega | (unfold I64;omega))))
     refine ⟨⟨(k+1,w.set (i+k) (S % 1000000000),S / 1000000000),hk',n1,n2,n3,n4,n5⟩,by simp only;omega,?_⟩
     refine weakX [(100,some 100)] (of_decide_eq_true rfl) (of_decide_eq_true rfl) ?_
     (simp only [vcW,vZ,Int.reduceEq,Int.reduceNe,Int.reduceLT,Int.reduceLE,Nat.reduceEqDiff,Nat.reduceAdd,reduceIte,reduceCtorEq,Nat.reduceLT,Nat.reduceLeDiff,Nat.reduceShiftRight,Nat.reduceMod])
     repeat' (with_reducible refine And.intro ?_ ?_)
     any_goals (with_reducible exact RnB.wide)
     (repeat' first | exact trivial | (with_reducible first | exact RnB.fxB (ints_fxB _) | rfl | refine And.intro ?_ ?_) | (with_reducible (first | refine RnB.bb ?_ | refine RnB.nb ?_);simp only [vcW,vZ,Int.reduceEq,Int.reduceNe,Int.reduceLT,Int.reduceLE,Nat.reduceEqDiff,Nat.reduceAdd,reduceIte,reduceCtorEq,Nat.reduceLT,Nat.reduceLeDiff,Nat.reduceShiftRight,Nat.reduceMod]) | (with_reducible first | refine RnB.ii ?_ | refine RnB.app ?_) | (with_reducible refine RnB.fxB ?_;simp only [vcW,vZ,Int.reduceEq,Int.reduceNe,Int.reduceLT,Int.reduceLE,Nat.reduceEqDiff,Nat.reduceAdd,reduceIte,reduceCtorEq,Nat.reduceLT,Nat.reduceLeDiff,Nat.reduceShiftRight,Nat.reduceMod]) | omega)
     all_goals exact RnB.eq hst (by rw [hst];exact ints_fxB _)
    ·have hkl:k=b.length:=by omega
     have hc2:¬ (k:Int)<b.length:=by omega
     have hik:i+b.length<w.length:=by omega
     have hik2:(i:Int)+b.length=((i+b.length:Nat):Int):=by omega
     have w0:w[i+b.length]=0:=by rw [← dAt_lt hik];exact r5 _ (Nat.le_refl _)
     have gw:=ints_get w (i+b.length) hik
     rw [w0] at gw
     have hset:=dVal_set w (i+b.length) c hik
     rw [w0] at hset
     have n1:=okD_set r1 (i+b.length) r3
     have n2:(w.set (i+b.length) c).length=M:=by simp [r2]
     have n3:dVal (w.set (i+b.length) c)=dPre a (i+1) * dVal b:=by
      rw [hset,Int.sub_zero,← hkl,r4,hkl,dPre_all (Nat.le_refl b.length),hpa,Int.add_mul,Int.mul_assoc]
     have n4:∀ j,i+1+b.length≤j→dAt (w.set (i+b.length) c) j=0:=fun j hj=>by rw [dAt_set_ne (by omega)];exact r5 j (by omega)
     have hst:(ints w).set (i+b.length) (.int .i64 c)=ints (w.set (i+b.length) c):=ints_st _ _ _
     simp only [hc2,hik2,gw,Int.zero_add,vZ,Int.reduceEq,Int.reduceNe,Int.reduceLT,Int.reduceLE,Nat.reduceEqDiff,Nat.reduceAdd,reduceIte,reduceCtorEq,Nat.reduceLT,Nat.reduceLeDiff,Nat.reduceShiftRight,Nat.reduceMod]
     (repeat (with_reducible refine And.intro ?_ ?_;focus (first | omega | (unfold I64;omega))))
     refine ⟨⟨(i+1,w.set (i+b.length) c),h',n1,n2,n3,n4⟩,by simp only;omega,?_⟩
     refine weakX [(100,some 100)] (of_decide_eq_true rfl) (of_decide_eq_true rfl) ?_
     (simp only [vcW,vZ,Int.reduceEq,Int.reduceNe,Int.reduceLT,Int.reduceLE,Nat.reduceEqDiff,Nat.reduceAdd,reduceIte,reduceCtorEq,Nat.reduceLT,Nat.reduceLeDiff,Nat.reduceShiftRight,Nat.reduceMod])
     repeat' (with_reducible refine And.intro ?_ ?_)
     any_goals (with_reducible exact RnB.wide)
     (repeat' first | exact trivial | (with_reducible first | exact RnB.fxB (ints_fxB _) | rfl | refine And.intro ?_ ?_) | (with_reducible (first | refine RnB.bb ?_ | refine RnB.nb ?_);simp only [vcW,vZ,Int.reduceEq,Int.reduceNe,Int.reduceLT,Int.reduceLE,Nat.reduceEqDiff,Nat.reduceAdd,reduceIte,reduceCtorEq,Nat.reduceLT,Nat.reduceLeDiff,Nat.reduceShiftRight,Nat.reduceMod]) | (with_reducible first | refine RnB.ii ?_ | refine RnB.app ?_) | (with_reducible refine RnB.fxB ?_;simp only [vcW,vZ,Int.reduceEq,Int.reduceNe,Int.reduceLT,Int.reduceLE,Nat.reduceEqDiff,Nat.reduceAdd,reduceIte,reduceCtorEq,Nat.reduceLT,Nat.reduceLeDiff,Nat.reduceShiftRight,Nat.reduceMod]) | omega)
     all_goals exact RnB.eq hst (by rw [hst];exact ints_fxB _)
  ·have hil:i=a.length:=by omega
   have hc1:¬ (i:Int)<a.length:=by omega
   rw [hil,dPre_all (Nat.le_refl _)] at p3
   have hw:=hfin out p1 (by omega) p3
   have hbg:=borB_good (s:=stOf [(2,⟨41,2,[.agg [.int .i64 sx,.sl (ints a)]]⟩),(3,⟨41,2,[.agg [.int .i64 sy,.sl (ints b)]]⟩),(4,⟨41,2,[.agg [.int .i64 0,.nils]]⟩),(100,⟨3,1,ints out⟩)]) 4 M 3 1 (ints out) (by rw [ints_length,p2]) (ints_fx _)
   have hsI:I64 (sx * sy):=by unfold I64;omega
   simp only [hc1,vZ,Int.reduceEq,Int.reduceNe,Int.reduceLT,Int.reduceLE,Nat.reduceEqDiff,Nat.reduceAdd,reduceIte,reduceCtorEq,Nat.reduceLT,Nat.reduceLeDiff,Nat.reduceShiftRight,Nat.reduceMod]
   (repeat (with_reducible refine And.intro ?_ ?_;focus (first | omega | (unfold I64;omega))))
   rw [hbg]
   refine callS_of hw ?_
   simp only [vcX,vZ,Int.reduceEq,Int.reduceNe,Int.reduceLT,Int.reduceLE,Nat.reduceEqDiff,Nat.reduceAdd,reduceIte,reduceCtorEq,Nat.reduceLT,Nat.reduceLeDiff,Nat.reduceShiftRight,Nat.reduceMod]
end Go.Proofs.Ytgmpcbpmnimkoaa

/- Contracts: wide numbers divided,rounded down. By an AI agent;nothing here is trusted. -/
namespace Go.Proofs.Ytgmpcbpmnimkoaa
open Go.Av

theorem trim_cons {d:Int} {L:Nat} (hd:0≤d∧d<1000000000):trimL (d :: dg L)=dg (d.toNat+1000000000 * L):=by
 have hok:okD (d :: dg L):=fun x hx=>by
  rcases List.mem_cons.1 hx with e | e
  ·rw [e];exact hd
  ·exact okD_dg L x e
 rw [trim_dg hok,dVal,dVal_dg]
 congr 1;omega
theorem drop_set_eq {l:List Int} {k:Nat} {x:Int} (h:k<l.length):(l.set k x).drop k=x :: l.drop (k+1):=by
 rw [List.drop_eq_getElem_cons (by simpa using h),List.drop_set_of_lt (by omega)]
 simp
theorem floor_step {ai A Q m y L:Int} (h:A=Q * y+L):ai+1000000000 * A=(m+1000000000 * Q) * y+(ai+1000000000 * L - y * m):=by
 rw [h,Int.mul_add,Int.add_mul,Int.mul_comm m y,Int.mul_assoc];omega

theorem dg_len_le {a:List Int} {v k:Nat} (va:dVal a=v) (oa:okD a) (h:a.length≤k):(dg v).length≤k:=by
 have h1:=trim_dg oa
 rw [va] at h1
 have h2:=trimL_le a
 rw [h1] at h2
 exact Nat.le_trans h2 h
set_option maxHeartbeats 8000000 in
theorem WideFloor_s (x:Int) (y:Nat) (hy0:0<y) (hx:wOk 10000 x) (hy:wOk 10000 (y:Int)):Sound Try.prog 149 [wideA x,wideA (y:Int)] (wideA (x / (y:Int))):=by
 refine sound_W f_base_WideFloor (Nat.le_of_ble_eq_true rfl) ?_
 have hr:∀ v,wideA v=.agg [.int .i64 v.sign,.sl (ints (dg v.natAbs))]:=fun _=>rfl
 have hmax:=maxLen_big
 by_cases h0:x=0
 ·subst h0
  have e0:(0:Int) / (y:Int)=0:=Int.zero_ediv _
  have s1:(0:Int).sign=0:=rfl
  have d0:dg (0:Int).natAbs=[]:=dg_zero
  have i0:ints []=[]:=rfl
  rw [e0,hr (0:Int),hr (y:Int),d0,s1,i0]
  simp only [c_base_WideFloor,vZ,Int.reduceEq,Int.reduceNe,Int.reduceLT,Int.reduceLE,Nat.reduceEqDiff,Nat.reduceAdd,reduceIte,reduceCtorEq,Nat.reduceLT,Nat.reduceLeDiff,Nat.reduceShiftRight,Nat.reduceMod]
 have s1:¬ x.sign=0:=by rw [Int.sign_eq_zero_iff_zero];exact h0
 have hsx:=sign_cases h0
 have hyn:((y:Int)).natAbs=y:=rfl
 unfold wOk at hx hy
 have hyw:=wideOf_s 1 (dg y) (by rw [hyn] at hy;omega) (okD_dg y) (.inl rfl)
 rw [dVal_dg,Int.one_mul] at hyw
 have hmul:∀ m:Nat,m<1000000000→Sound Try.prog 57 [wideA (y:Int),wideA (m:Int)] (wideA ((y * m:Nat):Int)):=fun m hm=>by
  have:=WideMul_s (y:Int) (m:Int) (by unfold wOk;omega) (by
   unfold wOk
   have:(dg ((m:Int)).natAbs).length≤1:=dg_len (by simp;omega)
   omega)
  rw [show ((y * m:Nat):Int)=(y:Int) * m by simp]
  exact this
 have hsX:x.sign=1∨x.sign = -1:=by rcases hsx with ⟨_,q⟩ | ⟨_,q⟩ <;> simp [q]
 have va:=dVal_dg x.natAbs
 have oa:=okD_dg x.natAbs
 rw [hr x,hr (y:Int),hyn]
 rw [hr (y:Int),hyn] at hyw
 simp only [hr (y:Int),hyn] at hmul
 generalize dg x.natAbs=a at *
 generalize ((y:Int)).sign=sy at *
 simp only [c_base_WideFloor,s1,vZ,Int.reduceEq,Int.reduceNe,Int.reduceLT,Int.reduceLE,Nat.reduceEqDiff,Nat.reduceAdd,reduceIte,reduceCtorEq,Nat.reduceLT,Nat.reduceLeDiff,Nat.reduceShiftRight,Nat.reduceMod]
 (repeat (with_reducible refine And.intro ?_ ?_;focus (first | omega | (unfold I64;omega))))
 refine ⟨mkOk_z _,?_⟩
 rw [ints_z]
 (repeat (with_reducible refine And.intro ?_ ?_;focus (first | omega | (unfold I64;omega))))
 refine W_loop (t:=.mk) (α:=PSigma fun p:Nat × List Int × Nat=>p.1≤a.length∧okD p.2.1∧p.2.1.length=a.length∧p.2.2<y∧dVal (a.drop p.1)=dVal (p.2.1.drop p.1) * y+p.2.2) (fun z=>(envOf [(2,.ptr 2 0 0),(3,.ptr 3 0 0),(4,.ptr 4 0 0),(5,.buf 100 a.length),(6,.sl (ints (dg z.1.2.2))),(7,.int .i64 ((z.1.1:Int) - 1))],stOf [(2,⟨41,2,[.agg [.int .i64 x.sign,.sl (ints a)]]⟩),(3,⟨41,2,[.agg [.int .i64 sy,.sl (ints (dg y))]]⟩),(4,⟨41,2,[.agg [.int .i64 0,.nils]]⟩),(100,⟨3,1,ints z.1.2.1⟩)])) (fun z=>z.1.1) ⟨(a.length,List.replicate a.length 0,0),Nat.le_refl _,(fun d hd=>by rw [List.eq_of_mem_replicate hd];omega),by simp,hy0,by simp [dVal]⟩ ?_ (fun ⟨⟨k,qs,L⟩,hk,p1,p2,p3,p4⟩=>?_)
 ·have d0:dg 0=[]:=dg_zero
  have i0:ints []=[]:=rfl
  refine weakX [(100,some 19)] (of_decide_eq_true rfl) (of_decide_eq_true rfl) ?_
  (simp only [d0,i0,vcW,vZ,Int.reduceEq,Int.reduceNe,Int.reduceLT,Int.reduceLE,Nat.reduceEqDiff,Nat.reduceAdd,reduceIte,reduceCtorEq,Nat.reduceLT,Nat.reduceLeDiff,Nat.reduceShiftRight,Nat.reduceMod])
  repeat' (with_reducible refine And.intro ?_ ?_)
  any_goals (with_reducible exact RnB.wide)
  (repeat' first | exact trivial | (with_reducible first | exact RnB.fxB (ints_fxB _) | rfl | refine And.intro ?_ ?_) | (with_reducible (first | refine RnB.bb ?_ | refine RnB.nb ?_);simp only [vcW,vZ,Int.reduceEq,Int.reduceNe,Int.reduceLT,Int.reduceLE,Nat.reduceEqDiff,Nat.reduceAdd,reduceIte,reduceCtorEq,Nat.reduceLT,Nat.reduceLeDiff,Nat.reduceShiftRight,Nat.reduceMod]) | (with_reducible first | refine RnB.ii ?_ | refine RnB.app ?_) | (with_reducible refine RnB.fxB ?_;simp only [vcW,vZ,Int.reduceEq,Int.reduceNe,Int.reduceLT,Int.reduceLE,Nat.reduceEqDiff,Nat.reduceAdd,reduceIte,reduceCtorEq,Nat.reduceLT,Nat.reduceLeDiff,Nat.reduceShiftRight,Nat.reduceMod]) | omega)
 ·simp only at hk p1 p2 p3 p4
  cases k with
  | zero =>
   have z0:¬ (0:Int)≤((0:Nat):Int) - 1:=by omega
   simp only [List.drop_zero] at p4
   have z1:((0:Nat):Int) - 1 = -1:=rfl
   have z2:¬ (0:Int) ≤ -1:=by omega
   have hQ:=dVal_nonneg p1
   obtain ⟨Q,hQe⟩:∃ Q,Q=dVal qs:=⟨_,rfl⟩
   rw [va,← hQe] at p4
   rw [← hQe] at hQ
   have hw:=wideOf_s x.sign qs (by omega) p1 (by omega)
   rw [← hQe,hr] at hw
   have hbg:=borB_good (s:=stOf [(2,⟨41,2,[.agg [.int .i64 x.sign,.sl (ints a)]]⟩),(3,⟨41,2,[.agg [.int .i64 sy,.sl (ints (dg y))]]⟩),(4,⟨41,2,[.agg [.int .i64 0,.nils]]⟩),(100,⟨3,1,ints qs⟩)]) 4 a.length 3 1 (ints qs) (by rw [ints_length,p2]) (ints_fx _)
   have hyp:(0:Int)<(y:Int):=by omega
   have hdv:∀ (q r:Int),0≤r→r<y→(r+q * (y:Int)) / (y:Int)=q:=fun q r h1 h2=>by
    rw [Int.add_mul_ediv_right _ _ (by omega),Int.ediv_eq_zero_of_lt h1 h2,Int.zero_add]
   have hQb:(dg Q.natAbs).length≤10000:=by
    have h1:=dg_mono Q.natAbs x.natAbs (by
     have:Q * 1≤Q * (y:Int):=Int.mul_le_mul_of_nonneg_left (by omega) hQ
     omega)
    have h2:=dg_len_le va oa hx
    omega
   rcases hsx with ⟨g1,g2⟩ | ⟨g1,g2⟩
   ·have hres:x / (y:Int)=x.sign * Q:=by
     rw [g2,Int.one_mul]
     have:=hdv Q L (by omega) (by omega)
     rw [show (L:Int)+Q * (y:Int)=x by omega] at this
     exact this
    have hn:¬ x.sign<0:=by omega
    rw [hres,hr (x.sign * Q)]
    simp only [z1,z2,vZ,Int.reduceEq,Int.reduceNe,Int.reduceLT,Int.reduceLE,Nat.reduceEqDiff,Nat.reduceAdd,reduceIte,reduceCtorEq,Nat.reduceLT,Nat.reduceLeDiff,Nat.reduceShiftRight,Nat.reduceMod]
    rw [hbg]
    refine callS_of hw ?_
    simp only [vcX,hn,vZ,Int.reduceEq,Int.reduceNe,Int.reduceLT,Int.reduceLE,Nat.reduceEqDiff,Nat.reduceAdd,reduceIte,reduceCtorEq,Nat.reduceLT,Nat.reduceLeDiff,Nat.reduceShiftRight,Nat.reduceMod]
   ·have hn:x.sign<0:=by omega
    by_cases hL:L=0
    ·have hres:x / (y:Int)=x.sign * Q:=by
      rw [g2]
      have:=hdv (-1 * Q) 0 (by omega) (by omega)
      rw [show (0:Int) + -1 * Q * (y:Int)=x by rw [Int.neg_one_mul,Int.neg_mul];omega] at this
      exact this
     have hl0:dg L=[]:=by rw [hL];exact dg_zero
     have hl1:ints []=[]:=rfl
     rw [hres,hr (x.sign * Q)]
     simp only [z1,z2,hl0,hl1,vZ,Int.reduceEq,Int.reduceNe,Int.reduceLT,Int.reduceLE,Nat.reduceEqDiff,Nat.reduceAdd,reduceIte,reduceCtorEq,Nat.reduceLT,Nat.reduceLeDiff,Nat.reduceShiftRight,Nat.reduceMod]
     rw [hbg]
     refine callS_of hw ?_
     have hz0:¬ (0:Int)<((0:Nat):Int):=by omega
     simp only [vcX,hn,hl0,hl1,hz0,vZ,Int.reduceEq,Int.reduceNe,Int.reduceLT,Int.reduceLE,Nat.reduceEqDiff,Nat.reduceAdd,reduceIte,reduceCtorEq,Nat.reduceLT,Nat.reduceLeDiff,Nat.reduceShiftRight,Nat.reduceMod]
    ·have hres:x / (y:Int)=x.sign * Q - 1:=by
      rw [g2]
      have:=hdv (-1 * Q - 1) (y - L) (by omega) (by omega)
      rw [show ((y:Int) - L)+(-1 * Q - 1) * (y:Int)=x by rw [Int.sub_mul,Int.neg_one_mul,Int.neg_mul];omega] at this
      exact this
     have hlp:0<(dg L).length:=by
      rcases Nat.eq_zero_or_pos (dg L).length with e | e
      ·rw [List.length_eq_zero_iff,dg_nil] at e;omega
      ·exact e
     have hlp':(0:Int)<((dg L).length:Int):=by omega
     have h1:=WideOf_s 1 (by unfold I64;omega)
     have h2:=WideSub_s (x.sign * Q) 1 (by
      unfold wOk
      rw [g2,Int.neg_one_mul,Int.natAbs_neg];omega) (by
      unfold wOk
      have:(dg ((1:Int)).natAbs).length≤1:=dg_len (by decide)
      omega)
     rw [hr (1:Int)] at h1 h2
     rw [hr (x.sign * Q),hr (x.sign * Q - 1)] at h2
     rw [hres,hr (x.sign * Q - 1)]
     simp only [z1,z2,vZ,Int.reduceEq,Int.reduceNe,Int.reduceLT,Int.reduceLE,Nat.reduceEqDiff,Nat.reduceAdd,reduceIte,reduceCtorEq,Nat.reduceLT,Nat.reduceLeDiff,Nat.reduceShiftRight,Nat.reduceMod]
     rw [hbg]
     refine callS_of hw ?_
     simp only [vcX,hn,ints_length,hlp',vZ,Int.reduceEq,Int.reduceNe,Int.reduceLT,Int.reduceLE,Nat.reduceEqDiff,Nat.reduceAdd,reduceIte,reduceCtorEq,Nat.reduceLT,Nat.reduceLeDiff,Nat.reduceShiftRight,Nat.reduceMod]
     refine callS_of h1 ?_
     simp only [vcX,vZ,Int.reduceEq,Int.reduceNe,Int.reduceLT,Int.reduceLE,Nat.reduceEqDiff,Nat.reduceAdd,reduceIte,reduceCtorEq,Nat.reduceLT,Nat.reduceLeDiff,Nat.reduceShiftRight,Nat.reduceMod]
     refine callS_of h2 ?_
     simp only [vcX,vZ,Int.reduceEq,Int.reduceNe,Int.reduceLT,Int.reduceLE,Nat.reduceEqDiff,Nat.reduceAdd,reduceIte,reduceCtorEq,Nat.reduceLT,Nat.reduceLeDiff,Nat.reduceShiftRight,Nat.reduceMod]
  | succ k =>
   have z0:(0:Int)≤(k:Int):=by omega
   have z1:((k+1:Nat):Int) - 1=(k:Int):=by omega
   have k1:k<a.length:=by omega
   have ga:=ints_get a k k1
   have qa:=oa _ (List.getElem_mem k1)
   have hdk:dVal (a.drop k)=a[k]+1000000000 * dVal (a.drop (k+1)):=by rw [List.drop_eq_getElem_cons k1];rfl
   generalize a[k]=ai at *
   obtain ⟨L1,hL1⟩:∃ L1:Nat,L1=ai.toNat+1000000000 * L:=⟨_,rfl⟩
   have hL1i:(L1:Int)=ai+1000000000 * L:=by omega
   have hL1b:L1<1000000000 * y:=by omega
   have hdgL:(dg L).length≤10000:=Nat.le_trans (dg_mono L y (by omega)) (by rw [hyn] at hy;exact hy)
   have htr:=trimmed_s (ai :: dg L) (by simp;omega)
   rw [trim_cons qa,← hL1] at htr
   have hcons:ints (ai :: dg L)=.int .i64 ai :: ints (dg L):=rfl
   have hlenL:(ints (ai :: dg L)).length=(dg L).length+1:=by rw [ints_length];rfl
   have hdgL1:(dg L1).length≤10001:=by
    rw [hL1,← trim_cons qa]
    have:=trimL_le (ai :: dg L)
    simp at this;omega
   rw [hcons] at htr
   have hdgy:(dg y).length≤10000:=by rw [hyn] at hy;exact hy
   have hym:∀ m:Nat,m<1000000000→(dg (y * m)).length≤10001:=fun m hm=>by
    have h1:=dg_mono (y * m) (0+1000000000 * (y:Int)).toNat (by
     have:y * m≤y * 1000000000:=Nat.mul_le_mul_left _ (by omega)
     omega)
    rw [dg_cons (by omega) (.inr (by omega))] at h1
    simp at h1;omega
   have hfxa:∀ z ∈ (AV.int .i64 ai :: ints (dg L)),fx z=true:=by rw [← hcons];exact ints_fx _
   have hlna:1+(dg L).length=(AV.int .i64 ai :: ints (dg L)).length:=by rw [← hcons,ints_length];simp;omega
   simp only [z1,z0,ga,vZ,Int.reduceEq,Int.reduceNe,Int.reduceLT,Int.reduceLE,Nat.reduceEqDiff,Nat.reduceAdd,reduceIte,reduceCtorEq,Nat.reduceLT,Nat.reduceLeDiff,Nat.reduceShiftRight,Nat.reduceMod]
   (repeat (with_reducible refine And.intro ?_ ?_;focus (first | omega | (unfold I64;omega))))
   refine ⟨newsOk_ints _,?_⟩
   (repeat (with_reducible refine And.intro ?_ ?_;focus (first | omega | (unfold I64;omega))))
   rw [borB_good _ _ _ _ (AV.int .i64 ai :: ints (dg L)) hlna hfxa]
   refine callS_of htr ?_
   simp only [vcX,vZ,Int.reduceEq,Int.reduceNe,Int.reduceLT,Int.reduceLE,Nat.reduceEqDiff,Nat.reduceAdd,reduceIte,reduceCtorEq,Nat.reduceLT,Nat.reduceLeDiff,Nat.reduceShiftRight,Nat.reduceMod]
   refine W_loop (t:=.mk) (α:=PSigma fun p:Nat × Nat=>p.1≤p.2∧p.2≤999999999∧y * p.1≤L1∧L1<y * (p.2+1)) (fun z=>(envOf [(2,.ptr 2 0 0),(3,.ptr 3 0 0),(4,.ptr 4 0 0),(5,.buf 100 a.length),(6,.sl (ints (dg L1))),(7,.int .i64 k),(8,.int .i64 z.1.1),(9,.int .i64 z.1.2)],stOf [(2,⟨41,2,[.agg [.int .i64 x.sign,.sl (ints a)]]⟩),(3,⟨41,2,[.agg [.int .i64 sy,.sl (ints (dg y))]]⟩),(4,⟨41,2,[.agg [.int .i64 0,.nils]]⟩),(100,⟨3,1,ints qs⟩)])) (fun z=>z.1.2 - z.1.1) ⟨(0,999999999),by simp,by simp,by simp,by simp only;omega⟩ ?_ (fun ⟨⟨lo,hi⟩,q1,q2,q3,q4⟩=>?_)
   ·refine weakX [(100,some 100)] (of_decide_eq_true rfl) (of_decide_eq_true rfl) ?_
    (simp only [vcX,vcW,vZ,Int.reduceEq,Int.reduceNe,Int.reduceLT,Int.reduceLE,Nat.reduceEqDiff,Nat.reduceAdd,reduceIte,reduceCtorEq,Nat.reduceLT,Nat.reduceLeDiff,Nat.reduceShiftRight,Nat.reduceMod])
    repeat' (with_reducible refine And.intro ?_ ?_)
    any_goals (with_reducible exact RnB.wide)
    (repeat' first | exact trivial | (with_reducible first | exact RnB.fxB (ints_fxB _) | rfl | refine And.intro ?_ ?_) | (with_reducible (first | refine RnB.bb ?_ | refine RnB.nb ?_);simp only [vcW,vZ,Int.reduceEq,Int.reduceNe,Int.reduceLT,Int.reduceLE,Nat.reduceEqDiff,Nat.reduceAdd,reduceIte,reduceCtorEq,Nat.reduceLT,Nat.reduceLeDiff,Nat.reduceShiftRight,Nat.reduceMod]) | (with_reducible first | refine RnB.ii ?_ | refine RnB.app ?_) | (with_reducible refine RnB.fxB ?_;simp only [vcW,vZ,Int.reduceEq,Int.reduceNe,Int.reduceLT,Int.reduceLE,Nat.reduceEqDiff,Nat.reduceAdd,reduceIte,reduceCtorEq,Nat.reduceLT,Nat.reduceLeDiff,Nat.reduceShiftRight,Nat.reduceMod]) | omega)
   ·simp only at q1 q2 q3 q4
    by_cases hlh:lo<hi
    ·have hlh':(lo:Int)<hi:=by omega
     obtain ⟨m,hm⟩:∃ m,m=(lo+hi+1) / 2:=⟨_,rfl⟩
     have ht:((lo:Int)+hi+1).tdiv 2=(m:Int):=by
      rw [show (lo:Int)+hi+1=((lo+hi+1:Nat):Int) by omega,hm];rfl
     have hm9:m<1000000000:=by omega
     have hmu:=hmul m hm9
     rw [hr ((y * m:Nat):Int),show (((y * m:Nat):Int)).natAbs=y * m from rfl] at hmu
     have hwo:=WideOf_s (m:Int) (by unfold I64;omega)
     rw [hr (m:Int)] at hmu hwo
     have hcm:=cmpDigits_s (y * m) L1 (by have:=hym m hm9;omega) (by omega)
     by_cases hc:y * m≤L1
     ·have hsn:(((y * m:Nat):Int) - L1).sign≤0:=by
       rcases Nat.lt_or_ge (y * m) L1 with e | e
       ·rw [Int.sign_eq_neg_one_of_neg (by omega)];omega
       ·rw [show ((y * m:Nat):Int) - L1=0 by omega];decide
      generalize (((y * m:Nat):Int) - L1).sign=sg at *
      simp only [hlh',ht,vZ,Int.reduceEq,Int.reduceNe,Int.reduceLT,Int.reduceLE,Nat.reduceEqDiff,Nat.reduceAdd,reduceIte,reduceCtorEq,Nat.reduceLT,Nat.reduceLeDiff,Nat.reduceShiftRight,Nat.reduceMod]
      (repeat (with_reducible refine And.intro ?_ ?_;focus (first | omega | (unfold I64;omega))))
      refine callS_of hyw ?_
      simp only [vZ,Int.reduceEq,Int.reduceNe,Int.reduceLT,Int.reduceLE,Nat.reduceEqDiff,Nat.reduceAdd,reduceIte,reduceCtorEq,Nat.reduceLT,Nat.reduceLeDiff,Nat.reduceShiftRight,Nat.reduceMod]
      refine callS_of hwo ?_
      simp only [vZ,Int.reduceEq,Int.reduceNe,Int.reduceLT,Int.reduceLE,Nat.reduceEqDiff,Nat.reduceAdd,reduceIte,reduceCtorEq,Nat.reduceLT,Nat.reduceLeDiff,Nat.reduceShiftRight,Nat.reduceMod]
      refine callS_of hmu ?_
      simp only [vZ,Int.reduceEq,Int.reduceNe,Int.reduceLT,Int.reduceLE,Nat.reduceEqDiff,Nat.reduceAdd,reduceIte,reduceCtorEq,Nat.reduceLT,Nat.reduceLeDiff,Nat.reduceShiftRight,Nat.reduceMod]
      refine callS_of hcm ?_
      simp only [hsn,vZ,Int.reduceEq,Int.reduceNe,Int.reduceLT,Int.reduceLE,Nat.reduceEqDiff,Nat.reduceAdd,reduceIte,reduceCtorEq,Nat.reduceLT,Nat.reduceLeDiff,Nat.reduceShiftRight,Nat.reduceMod]
      refine ⟨⟨(m,hi),by simp only;omega,q2,hc,q4⟩,by simp only;omega,?_⟩
      refine weakX [(100,some 100)] (of_decide_eq_true rfl) (of_decide_eq_true rfl) ?_
      (simp only [vcW,vZ,Int.reduceEq,Int.reduceNe,Int.reduceLT,Int.reduceLE,Nat.reduceEqDiff,Nat.reduceAdd,reduceIte,reduceCtorEq,Nat.reduceLT,Nat.reduceLeDiff,Nat.reduceShiftRight,Nat.reduceMod])
      repeat' (with_reducible refine And.intro ?_ ?_)
      any_goals (with_reducible exact RnB.wide)
      (repeat' first | exact trivial | (with_reducible first | exact RnB.fxB (ints_fxB _) | rfl | refine And.intro ?_ ?_) | (with_reducible (first | refine RnB.bb ?_ | refine RnB.nb ?_);simp only [vcW,vZ,Int.reduceEq,Int.reduceNe,Int.reduceLT,Int.reduceLE,Nat.reduceEqDiff,Nat.reduceAdd,reduceIte,reduceCtorEq,Nat.reduceLT,Nat.reduceLeDiff,Nat.reduceShiftRight,Nat.reduceMod]) | (with_reducible first | refine RnB.ii ?_ | refine RnB.app ?_) | (with_reducible refine RnB.fxB ?_;simp only [vcW,vZ,Int.reduceEq,Int.reduceNe,Int.reduceLT,Int.reduceLE,Nat.reduceEqDiff,Nat.reduceAdd,reduceIte,reduceCtorEq,Nat.reduceLT,Nat.reduceLeDiff,Nat.reduceShiftRight,Nat.reduceMod]) | omega)
     ·have hsn:¬ (((y * m:Nat):Int) - L1).sign≤0:=by rw [Int.sign_eq_one_of_pos (by omega)];omega
      generalize (((y * m:Nat):Int) - L1).sign=sg at *
      have hm1:(m:Int) - 1=((m - 1:Nat):Int):=by omega
      simp only [hlh',ht,vZ,Int.reduceEq,Int.reduceNe,Int.reduceLT,Int.reduceLE,Nat.reduceEqDiff,Nat.reduceAdd,reduceIte,reduceCtorEq,Nat.reduceLT,Nat.reduceLeDiff,Nat.reduceShiftRight,Nat.reduceMod]
      (repeat (with_reducible refine And.intro ?_ ?_;focus (first | omega | (unfold I64;omega))))
      refine callS_of hyw ?_
      simp only [vZ,Int.reduceEq,Int.reduceNe,Int.reduceLT,Int.reduceLE,Nat.reduceEqDiff,Nat.reduceAdd,reduceIte,reduceCtorEq,Nat.reduceLT,Nat.reduceLeDiff,Nat.reduceShiftRight,Nat.reduceMod]
      refine callS_of hwo ?_
      simp only [vZ,Int.reduceEq,Int.reduceNe,Int.reduceLT,Int.reduceLE,Nat.reduceEqDiff,Nat.reduceAdd,reduceIte,reduceCtorEq,Nat.reduceLT,Nat.reduceLeDiff,Nat.reduceShiftRight,Nat.reduceMod]
      refine callS_of hmu ?_
      simp only [vZ,Int.reduceEq,Int.reduceNe,Int.reduceLT,Int.reduceLE,Nat.reduceEqDiff,Nat.reduceAdd,reduceIte,reduceCtorEq,Nat.reduceLT,Nat.reduceLeDiff,Nat.reduceShiftRight,Nat.reduceMod]
      refine callS_of hcm ?_
      simp only [hsn,hm1,vZ,Int.reduceEq,Int.reduceNe,Int.reduceLT,Int.reduceLE,Nat.reduceEqDiff,Nat.reduceAdd,reduceIte,reduceCtorEq,Nat.reduceLT,Nat.reduceLeDiff,Nat.reduceShiftRight,Nat.reduceMod]
      (repeat (with_reducible refine And.intro ?_ ?_;focus (first | omega | (unfold I64;omega))))
      refine ⟨⟨(lo,m - 1),by simp only;omega,by simp only;omega,q3,by simp only;rw [show m - 1+1=m by omega];omega⟩,by simp only;omega,?_⟩
      refine weakX [(100,some 100)] (of_decide_eq_true rfl) (of_decide_eq_true rfl) ?_
      (simp only [vcW,vZ,Int.reduceEq,Int.reduceNe,Int.reduceLT,Int.reduceLE,Nat.reduceEqDiff,Nat.reduceAdd,reduceIte,reduceCtorEq,Nat.reduceLT,Nat.reduceLeDiff,Nat.reduceShiftRight,Nat.reduceMod])
      repeat' (with_reducible refine And.intro ?_ ?_)
      any_goals (with_reducible exact RnB.wide)
      (repeat' first | exact trivial | (with_reducible first | exact RnB.fxB (ints_fxB _) | rfl | refine And.intro ?_ ?_) | (with_reducible (first | refine RnB.bb ?_ | refine RnB.nb ?_);simp only [vcW,vZ,Int.reduceEq,Int.reduceNe,Int.reduceLT,Int.reduceLE,Nat.reduceEqDiff,Nat.reduceAdd,reduceIte,reduceCtorEq,Nat.reduceLT,Nat.reduceLeDiff,Nat.reduceShiftRight,Nat.reduceMod]) | (with_reducible first | refine RnB.ii ?_ | refine RnB.app ?_) | (with_reducible refine RnB.fxB ?_;simp only [vcW,vZ,Int.reduceEq,Int.reduceNe,Int.reduceLT,Int.reduceLE,Nat.reduceEqDiff,Nat.reduceAdd,reduceIte,reduceCtorEq,Nat.reduceLT,Nat.reduceLeDiff,Nat.reduceShiftRight,Nat.reduceMod]) | omega)
    ·have hlh':¬ (lo:Int)<hi:=by omega
     obtain rfl:lo=hi:=by omega
     have hm9:lo<1000000000:=by omega
     have hmu:=hmul lo hm9
     rw [hr ((y * lo:Nat):Int),show (((y * lo:Nat):Int)).natAbs=y * lo from rfl] at hmu
     have hwo:=WideOf_s (lo:Int) (by unfold I64;omega)
     rw [hr (lo:Int)] at hmu hwo
     have hsd:=subDigits_s (dg L1) (dg (y * lo)) (okD_dg _) (okD_dg _) (dg_mono _ _ q3) (by omega) (by rw [dVal_dg,dVal_dg];omega)
     rw [dVal_dg,dVal_dg,show ((L1:Int) - ((y * lo:Nat):Int)).toNat=L1 - y * lo by omega] at hsd
     have n1:=okD_set p1 k (x:=(lo:Int)) ⟨by omega,by omega⟩
     have n2:(qs.set k (lo:Int)).length=a.length:=by simp [p2]
     have q5:y * (lo+1)=y * lo+y:=by rw [Nat.mul_add,Nat.mul_one]
     have n3:L1 - y * lo<y:=by omega
     have n4:dVal (a.drop k)=dVal ((qs.set k (lo:Int)).drop k) * y+((L1 - y * lo:Nat):Int):=by
      rw [hdk,drop_set_eq (by omega),dVal,floor_step (m:=(lo:Int)) p4]
      have:((L1 - y * lo:Nat):Int)=ai+1000000000 * L - (y:Int) * lo:=by
       have e:((y * lo:Nat):Int)=(y:Int) * lo:=by simp
       omega
      rw [this]
     have hst:(ints qs).set k (.int .i64 lo)=ints (qs.set k (lo:Int)):=ints_st _ _ _
     have gq:=ints_get qs k (by omega)
     simp only [hlh',gq,ints_length,vZ,Int.reduceEq,Int.reduceNe,Int.reduceLT,Int.reduceLE,Nat.reduceEqDiff,Nat.reduceAdd,reduceIte,reduceCtorEq,Nat.reduceLT,Nat.reduceLeDiff,Nat.reduceShiftRight,Nat.reduceMod]
     (repeat (with_reducible refine And.intro ?_ ?_;focus (first | omega | (unfold I64;omega))))
     refine callS_of hyw ?_
     simp only [vZ,Int.reduceEq,Int.reduceNe,Int.reduceLT,Int.reduceLE,Nat.reduceEqDiff,Nat.reduceAdd,reduceIte,reduceCtorEq,Nat.reduceLT,Nat.reduceLeDiff,Nat.reduceShiftRight,Nat.reduceMod]
     refine callS_of hwo ?_
     simp only [vZ,Int.reduceEq,Int.reduceNe,Int.reduceLT,Int.reduceLE,Nat.reduceEqDiff,Nat.reduceAdd,reduceIte,reduceCtorEq,Nat.reduceLT,Nat.reduceLeDiff,Nat.reduceShiftRight,Nat.reduceMod]
     refine callS_of hmu ?_
     simp only [vZ,Int.reduceEq,Int.reduceNe,Int.reduceLT,Int.reduceLE,Nat.reduceEqDiff,Nat.reduceAdd,reduceIte,reduceCtorEq,Nat.reduceLT,Nat.reduceLeDiff,Nat.reduceShiftRight,Nat.reduceMod]
     refine callS_of hsd ?_
     simp only [vZ,Int.reduceEq,Int.reduceNe,Int.reduceLT,Int.reduceLE,Nat.reduceEqDiff,Nat.reduceAdd,reduceIte,reduceCtorEq,Nat.reduceLT,Nat.reduceLeDiff,Nat.reduceShiftRight,Nat.reduceMod]
     (repeat (with_reducible refine And.intro ?_ ?_;focus (first | omega | (unfold I64;omega))))
     refine ⟨⟨(k,qs.set k (lo:Int),L1 - y * lo),by simp only;omega,n1,n2,n3,n4⟩,by simp only;omega,?_⟩
     refine weakX [(100,some 100)] (of_decide_eq_true rfl) (of_decide_eq_true rfl) ?_
     (simp only [vcW,vZ,Int.reduceEq,Int.reduceNe,Int.reduceLT,Int.reduceLE,Nat.reduceEqDiff,Nat.reduceAdd,reduceIte,reduceCtorEq,Nat.reduceLT,Nat.reduceLeDiff,Nat.reduceShiftRight,Nat.reduceMod])
     repeat' (with_reducible refine And.intro ?_ ?_)
     any_goals (with_reducible exact RnB.wide)
     (repeat' first | exact trivial | (with_reducible first | exact RnB.fxB (ints_fxB _) | rfl | refine And.intro ?_ ?_) | (with_reducible (first | refine RnB.bb ?_ | refine RnB.nb ?_);simp only [vcW,vZ,Int.reduceEq,Int.reduceNe,Int.reduceLT,Int.reduceLE,Nat.reduceEqDiff,Nat.reduceAdd,reduceIte,reduceCtorEq,Nat.reduceLT,Nat.reduceLeDiff,Nat.reduceShiftRight,Nat.reduceMod]) | (with_reducible first | refine RnB.ii ?_ | refine RnB.app ?_) | (with_reducible refine RnB.fxB ?_;simp only [vcW,vZ,Int.reduceEq,Int.reduceNe,Int.reduceLT,Int.reduceLE,Nat.reduceEqDiff,Nat.reduceAdd,reduceIte,reduceCtorEq,Nat.reduceLT,Nat.reduceLeDiff,Nat.reduceShiftRight,Nat.reduceMod]) | omega)
     all_goals first | exact RnB.eq hst (by rw [hst];exact ints_fxB _) | omega
end Go.Proofs.Ytgmpcbpmnimkoaa

/- Contracts: sizes and divisors of wide numbers. By an AI agent;nothing here is trusted. -/
namespace Go.Proofs.Ytgmpcbpmnimkoaa
open Go.Av

theorem wide_hr (v:Int):wideA v=.agg [.int .i64 v.sign,.sl (ints (dg v.natAbs))]:=rfl
theorem wOk_nat {k:Nat} {m n:Nat} (h:m≤n) (hn:wOk k (n:Int)):wOk k (m:Int):=by
 unfold wOk at *
 exact Nat.le_trans (dg_mono _ _ h) hn
theorem wOk_more {k k':Nat} {v:Int} (h:wOk k v) (hk:k≤k'):wOk k' v:=Nat.le_trans h hk
theorem wideSize_s (v:Int):Sound Try.prog 168 [wideA v] (wideA (v.natAbs:Int)):=by
 refine sound_W f_base_wideSize (Nat.le_of_ble_eq_true rfl) ?_
 have hn:=WideNeg_s v
 by_cases h:v<0
 ·have hs:v.sign<0:=by rw [Int.sign_eq_neg_one_of_neg h];omega
  have e:(v.natAbs:Int) = -v:=by omega
  rw [e]
  rw [wide_hr v,wide_hr (-v)] at hn
  rw [wide_hr v,wide_hr (-v)]
  simp only [c_base_wideSize,hs,vZ,Int.reduceEq,Int.reduceNe,Int.reduceLT,Int.reduceLE,Nat.reduceEqDiff,Nat.reduceAdd,reduceIte,reduceCtorEq,Nat.reduceLT,Nat.reduceLeDiff,Nat.reduceShiftRight,Nat.reduceMod]
  refine callS_of hn ?_
  simp only [vZ,Int.reduceEq,Int.reduceNe,Int.reduceLT,Int.reduceLE,Nat.reduceEqDiff,Nat.reduceAdd,reduceIte,reduceCtorEq,Nat.reduceLT,Nat.reduceLeDiff,Nat.reduceShiftRight,Nat.reduceMod]
 ·have hs:¬ v.sign<0:=by
   rcases Int.lt_trichotomy v 0 with q | q | q
   ·exact absurd q h
   ·rw [q];decide
   ·rw [Int.sign_eq_one_of_pos q];omega
  have e:(v.natAbs:Int)=v:=by omega
  rw [e,wide_hr v]
  simp only [c_base_wideSize,hs,vZ,Int.reduceEq,Int.reduceNe,Int.reduceLT,Int.reduceLE,Nat.reduceEqDiff,Nat.reduceAdd,reduceIte,reduceCtorEq,Nat.reduceLT,Nat.reduceLeDiff,Nat.reduceShiftRight,Nat.reduceMod]
set_option maxHeartbeats 8000000 in
theorem wideGcd_s (a b:Int) (ha:wOk 4000 a) (hb:wOk 4000 b):Sound Try.prog 148 [wideA a,wideA b] (wideA (Int.gcd a b:Nat)):=by
 refine sound_W f_base_wideGcd (Nat.le_of_ble_eq_true rfl) ?_
 have h1:=wideSize_s a
 have h2:=wideSize_s b
 have ha':wOk 4000 (a.natAbs:Int):=ha
 have hb':wOk 4000 (b.natAbs:Int):=hb
 rw [wide_hr a,wide_hr (a.natAbs:Int)] at h1
 rw [wide_hr b,wide_hr (b.natAbs:Int)] at h2
 obtain ⟨G,hG⟩:∃ G:Nat,G=Int.gcd a b:=⟨_,rfl⟩
 rw [← hG,wide_hr a,wide_hr b,wide_hr (G:Int)]
 have hW:∀ v:Int,wideA v=.agg [.int .i64 v.sign,.sl (ints (dg v.natAbs))]:=wide_hr
 simp only [c_base_wideGcd,vZ,Int.reduceEq,Int.reduceNe,Int.reduceLT,Int.reduceLE,Nat.reduceEqDiff,Nat.reduceAdd,reduceIte,reduceCtorEq,Nat.reduceLT,Nat.reduceLeDiff,Nat.reduceShiftRight,Nat.reduceMod]
 refine callS_of h1 ?_
 simp only [vZ,Int.reduceEq,Int.reduceNe,Int.reduceLT,Int.reduceLE,Nat.reduceEqDiff,Nat.reduceAdd,reduceIte,reduceCtorEq,Nat.reduceLT,Nat.reduceLeDiff,Nat.reduceShiftRight,Nat.reduceMod]
 refine callS_of h2 ?_
 simp only [vZ,Int.reduceEq,Int.reduceNe,Int.reduceLT,Int.reduceLE,Nat.reduceEqDiff,Nat.reduceAdd,reduceIte,reduceCtorEq,Nat.reduceLT,Nat.reduceLeDiff,Nat.reduceShiftRight,Nat.reduceMod]
 refine W_loop (t:=.mk) (α:=PSigma fun p:Nat × Nat=>wOk 4000 (p.1:Int)∧wOk 4000 (p.2:Int)∧Nat.gcd p.1 p.2=G) (fun z=>(envOf [(2,.ptr 2 0 0),(3,.ptr 3 0 0),(4,.ptr 4 0 0)],stOf [(2,⟨41,2,[.agg [.int .i64 (z.1.1:Int).sign,.sl (ints (dg (z.1.1:Int).natAbs))]]⟩),(3,⟨41,2,[.agg [.int .i64 (z.1.2:Int).sign,.sl (ints (dg (z.1.2:Int).natAbs))]]⟩),(4,⟨41,2,[.agg [.int .i64 0,.nils]]⟩)])) (fun z=>z.1.2) ⟨(a.natAbs,b.natAbs),ha',hb',hG.symm⟩ ?_ (fun ⟨⟨m,n⟩,q1,q2,q3⟩=>?_)
 ·refine weakX [] (of_decide_eq_true rfl) (of_decide_eq_true rfl) ?_
  (simp only [vcW,vZ,Int.reduceEq,Int.reduceNe,Int.reduceLT,Int.reduceLE,Nat.reduceEqDiff,Nat.reduceAdd,reduceIte,reduceCtorEq,Nat.reduceLT,Nat.reduceLeDiff,Nat.reduceShiftRight,Nat.reduceMod])
  repeat' (with_reducible refine And.intro ?_ ?_)
  any_goals (with_reducible exact RnB.wide)
  (repeat' first | exact trivial | (with_reducible first | exact RnB.fxB (ints_fxB _) | rfl | refine And.intro ?_ ?_) | (with_reducible (first | refine RnB.bb ?_ | refine RnB.nb ?_);simp only [vcW,vZ,Int.reduceEq,Int.reduceNe,Int.reduceLT,Int.reduceLE,Nat.reduceEqDiff,Nat.reduceAdd,reduceIte,reduceCtorEq,Nat.reduceLT,Nat.reduceLeDiff,Nat.reduceShiftRight,Nat.reduceMod]) | (with_reducible first | refine RnB.ii ?_ | refine RnB.app ?_) | (with_reducible refine RnB.fxB ?_;simp only [vcW,vZ,Int.reduceEq,Int.reduceNe,Int.reduceLT,Int.reduceLE,Nat.reduceEqDiff,Nat.reduceAdd,reduceIte,reduceCtorEq,Nat.reduceLT,Nat.reduceLeDiff,Nat.reduceShiftRight,Nat.reduceMod]) | omega)
 ·simp only at q1 q2 q3
  have hs:=WideSign_s (n:Int)
  rw [wide_hr (n:Int)] at hs
  by_cases hn:n=0
  ·have hsn:((n:Int)).sign=0:=by rw [hn];rfl
   have hg:m=G:=by rw [← q3,hn,Nat.gcd_zero_right]
   subst hg
   simp only [vZ,Int.reduceEq,Int.reduceNe,Int.reduceLT,Int.reduceLE,Nat.reduceEqDiff,Nat.reduceAdd,reduceIte,reduceCtorEq,Nat.reduceLT,Nat.reduceLeDiff,Nat.reduceShiftRight,Nat.reduceMod]
   refine callS_of hs ?_
   simp only [hsn,vZ,Int.reduceEq,Int.reduceNe,Int.reduceLT,Int.reduceLE,Nat.reduceEqDiff,Nat.reduceAdd,reduceIte,reduceCtorEq,Nat.reduceLT,Nat.reduceLeDiff,Nat.reduceShiftRight,Nat.reduceMod]
  ·have hsn:¬ ((n:Int)).sign=0:=by rw [Int.sign_eq_zero_iff_zero];omega
   have hf:=WideFloor_s (m:Int) n (by omega) (wOk_more q1 (by omega)) (wOk_more q2 (by omega))
   have hd:(m:Int) / (n:Int)=((m / n:Nat):Int):=by simp
   have hle:m / n * n≤m:=Nat.div_mul_le_self m n
   have hle2:m / n≤m:=Nat.div_le_self m n
   have hm:=WideMul_s ((m / n:Nat):Int) (n:Int) (wOk_more (wOk_nat hle2 q1) (by omega)) (wOk_more q2 (by omega))
   have hsu:=WideSub_s (m:Int) (((m / n:Nat):Int) * n) (wOk_more q1 (by omega)) (by
    rw [show ((m / n:Nat):Int) * n=((m / n * n:Nat):Int) by simp]
    exact wOk_more (wOk_nat hle q1) (by omega))
   have hr:(m:Int) - ((m / n:Nat):Int) * n=((m % n:Nat):Int):=by
    have:=Nat.div_add_mod m n
    rw [Nat.mul_comm] at this
    have e:((m / n * n:Nat):Int)=((m / n:Nat):Int) * n:=by simp
    omega
   have hlt:m % n<n:=Nat.mod_lt _ (by omega)
   have hgc:Nat.gcd n (m % n)=G:=by rw [← q3,Nat.gcd_comm m n,Nat.gcd_rec n m,Nat.gcd_comm]
   rw [hd] at hf
   rw [hr] at hsu
   rw [wide_hr,wide_hr,wide_hr] at hf
   rw [wide_hr,wide_hr,wide_hr] at hm
   rw [wide_hr,wide_hr,wide_hr] at hsu
   simp only [vZ,Int.reduceEq,Int.reduceNe,Int.reduceLT,Int.reduceLE,Nat.reduceEqDiff,Nat.reduceAdd,reduceIte,reduceCtorEq,Nat.reduceLT,Nat.reduceLeDiff,Nat.reduceShiftRight,Nat.reduceMod]
   refine callS_of hs ?_
   simp only [hsn,vZ,Int.reduceEq,Int.reduceNe,Int.reduceLT,Int.reduceLE,Nat.reduceEqDiff,Nat.reduceAdd,reduceIte,reduceCtorEq,Nat.reduceLT,Nat.reduceLeDiff,Nat.reduceShiftRight,Nat.reduceMod]
   refine callS_of hf ?_
   simp only [vZ,Int.reduceEq,Int.reduceNe,Int.reduceLT,Int.reduceLE,Nat.reduceEqDiff,Nat.reduceAdd,reduceIte,reduceCtorEq,Nat.reduceLT,Nat.reduceLeDiff,Nat.reduceShiftRight,Nat.reduceMod]
   refine callS_of hm ?_
   simp only [vZ,Int.reduceEq,Int.reduceNe,Int.reduceLT,Int.reduceLE,Nat.reduceEqDiff,Nat.reduceAdd,reduceIte,reduceCtorEq,Nat.reduceLT,Nat.reduceLeDiff,Nat.reduceShiftRight,Nat.reduceMod]
   refine callS_of hsu ?_
   simp only [vZ,Int.reduceEq,Int.reduceNe,Int.reduceLT,Int.reduceLE,Nat.reduceEqDiff,Nat.reduceAdd,reduceIte,reduceCtorEq,Nat.reduceLT,Nat.reduceLeDiff,Nat.reduceShiftRight,Nat.reduceMod]
   refine ⟨⟨(n,m % n),q2,wOk_nat (Nat.le_of_lt hlt) q2,hgc⟩,hlt,?_⟩
   refine weakX [] (of_decide_eq_true rfl) (of_decide_eq_true rfl) ?_
   (simp only [vcW,vZ,Int.reduceEq,Int.reduceNe,Int.reduceLT,Int.reduceLE,Nat.reduceEqDiff,Nat.reduceAdd,reduceIte,reduceCtorEq,Nat.reduceLT,Nat.reduceLeDiff,Nat.reduceShiftRight,Nat.reduceMod])
   repeat' (with_reducible refine And.intro ?_ ?_)
   any_goals (with_reducible exact RnB.wide)
   (repeat' first | exact trivial | (with_reducible first | exact RnB.fxB (ints_fxB _) | rfl | refine And.intro ?_ ?_) | (with_reducible (first | refine RnB.bb ?_ | refine RnB.nb ?_);simp only [vcW,vZ,Int.reduceEq,Int.reduceNe,Int.reduceLT,Int.reduceLE,Nat.reduceEqDiff,Nat.reduceAdd,reduceIte,reduceCtorEq,Nat.reduceLT,Nat.reduceLeDiff,Nat.reduceShiftRight,Nat.reduceMod]) | (with_reducible first | refine RnB.ii ?_ | refine RnB.app ?_) | (with_reducible refine RnB.fxB ?_;simp only [vcW,vZ,Int.reduceEq,Int.reduceNe,Int.reduceLT,Int.reduceLE,Nat.reduceEqDiff,Nat.reduceAdd,reduceIte,reduceCtorEq,Nat.reduceLT,Nat.reduceLeDiff,Nat.reduceShiftRight,Nat.reduceMod]) | omega)
end Go.Proofs.Ytgmpcbpmnimkoaa

/- Contracts: ratios in lowest terms. By an AI agent;nothing here is trusted. -/
namespace Go.Proofs.Ytgmpcbpmnimkoaa
open Go.Av

def ratA (n d:Int):AV:=.agg [.int .i64 n.sign,.sl (ints (dg n.natAbs)),.int .i64 d.sign,.sl (ints (dg d.natAbs))]
def rlN (n d:Int):Int:=(if d<0 then -n else n) / (Int.gcd n d:Nat)
def rlD (n d:Int):Int:=(if d<0 then -d else d) / (Int.gcd n d:Nat)
theorem RatioMake_s (n d:Int) (h0:d ≠ 0) (hn:wOk 4000 n) (hd:wOk 4000 d):Sound Try.prog 112 [wideA n,wideA d] (ratA (rlN n d) (rlD n d)):=by
 refine sound_W f_base_RatioMake (Nat.le_of_ble_eq_true rfl) ?_
 obtain ⟨p,hp⟩:∃ p,p=if d<0 then -n else n:=⟨_,rfl⟩
 obtain ⟨q,hq⟩:∃ q,q=if d<0 then -d else d:=⟨_,rfl⟩
 have hgg:Int.gcd p q=Int.gcd n d:=by rw [hp,hq];split <;> simp [Int.gcd]
 have hpo:wOk 4000 p:=by rw [hp];split;exact wOk_neg hn;exact hn
 have hqo:wOk 4000 q:=by rw [hq];split;exact wOk_neg hd;exact hd
 have hq0:0<q:=by rw [hq];split <;> omega
 have hgp:0<Int.gcd p q:=Int.gcd_pos_of_ne_zero_right _ (by omega)
 have hgq:Int.gcd p q≤q.natAbs:=Nat.gcd_le_right _ (by omega)
 have hN:rlN n d=p / (Int.gcd p q:Nat):=by unfold rlN;rw [← hp,hgg]
 have hD:rlD n d=q / (Int.gcd p q:Nat):=by unfold rlD;rw [← hq,hgg]
 rw [hN,hD]
 have hS:=WideSign_s d
 have hgc:=wideGcd_s p q hpo hqo
 have hgo:wOk 4000 ((Int.gcd p q:Nat):Int):=wOk_nat hgq (show wOk 4000 ((q.natAbs:Nat):Int) from hqo)
 have h1:=WideOf_s 1 (by unfold I64;omega)
 have hcm:=WideCmp_s ((Int.gcd p q:Nat):Int) 1 (wOk_more hgo (by omega)) (by
  unfold wOk
  have:(dg ((1:Int)).natAbs).length≤1:=dg_len (by decide)
  omega)
 have hf1:=WideFloor_s p (Int.gcd p q) hgp (wOk_more hpo (by omega)) (wOk_more hgo (by omega))
 have hf2:=WideFloor_s q (Int.gcd p q) hgp (wOk_more hqo (by omega)) (wOk_more hgo (by omega))
 have hng1:=WideNeg_s n
 have hng2:=WideNeg_s d
 generalize Int.gcd p q=G at *
 rw [wide_hr] at hS h1
 rw [wide_hr,wide_hr,wide_hr] at hgc
 rw [wide_hr,wide_hr] at hcm
 rw [wide_hr,wide_hr,wide_hr] at hf1 hf2
 rw [wide_hr,wide_hr] at hng1 hng2
 rw [wide_hr n,wide_hr d]
 unfold ratA
 by_cases hG:G=1
 ·have hs1:((G:Int) - 1).sign=0:=by rw [hG];rfl
  have e1:p / ((G:Nat):Int)=p:=by rw [hG];exact Int.ediv_one p
  have e2:q / ((G:Nat):Int)=q:=by rw [hG];exact Int.ediv_one q
  rw [hs1] at hcm
  rw [e1,e2]
  by_cases hneg:d<0
  ·rw [if_pos hneg] at hp hq
   have hsd:d.sign<0:=by rw [Int.sign_eq_neg_one_of_neg hneg];omega
   rw [← hp] at hng1
   rw [← hq] at hng2
   simp only [c_base_RatioMake,vZ,Int.reduceEq,Int.reduceNe,Int.reduceLT,Int.reduceLE,Nat.reduceEqDiff,Nat.reduceAdd,reduceIte,reduceCtorEq,Nat.reduceLT,Nat.reduceLeDiff,Nat.reduceShiftRight,Nat.reduceMod]
   refine callS_of hS ?_
   simp only [hsd,vZ,Int.reduceEq,Int.reduceNe,Int.reduceLT,Int.reduceLE,Nat.reduceEqDiff,Nat.reduceAdd,reduceIte,reduceCtorEq,Nat.reduceLT,Nat.reduceLeDiff,Nat.reduceShiftRight,Nat.reduceMod]
   refine callS_of hng1 ?_
   simp only [vZ,Int.reduceEq,Int.reduceNe,Int.reduceLT,Int.reduceLE,Nat.reduceEqDiff,Nat.reduceAdd,reduceIte,reduceCtorEq,Nat.reduceLT,Nat.reduceLeDiff,Nat.reduceShiftRight,Nat.reduceMod]
   refine callS_of hng2 ?_
   simp only [vZ,Int.reduceEq,Int.reduceNe,Int.reduceLT,Int.reduceLE,Nat.reduceEqDiff,Nat.reduceAdd,reduceIte,reduceCtorEq,Nat.reduceLT,Nat.reduceLeDiff,Nat.reduceShiftRight,Nat.reduceMod]
   refine callS_of hgc ?_
   simp only [vZ,Int.reduceEq,Int.reduceNe,Int.reduceLT,Int.reduceLE,Nat.reduceEqDiff,Nat.reduceAdd,reduceIte,reduceCtorEq,Nat.reduceLT,Nat.reduceLeDiff,Nat.reduceShiftRight,Nat.reduceMod]
   refine callS_of h1 ?_
   simp only [vZ,Int.reduceEq,Int.reduceNe,Int.reduceLT,Int.reduceLE,Nat.reduceEqDiff,Nat.reduceAdd,reduceIte,reduceCtorEq,Nat.reduceLT,Nat.reduceLeDiff,Nat.reduceShiftRight,Nat.reduceMod]
   refine callS_of hcm ?_
   simp only [vZ,Int.reduceEq,Int.reduceNe,Int.reduceLT,Int.reduceLE,Nat.reduceEqDiff,Nat.reduceAdd,reduceIte,reduceCtorEq,Nat.reduceLT,Nat.reduceLeDiff,Nat.reduceShiftRight,Nat.reduceMod]
  ·rw [if_neg hneg] at hp hq
   have hsd:¬ d.sign<0:=by rw [Int.sign_eq_one_of_pos (by omega)];omega
   rw [hp,hq] at hgc
   rw [hp,hq]
   simp only [c_base_RatioMake,vZ,Int.reduceEq,Int.reduceNe,Int.reduceLT,Int.reduceLE,Nat.reduceEqDiff,Nat.reduceAdd,reduceIte,reduceCtorEq,Nat.reduceLT,Nat.reduceLeDiff,Nat.reduceShiftRight,Nat.reduceMod]
   refine callS_of hS ?_
   simp only [hsd,vZ,Int.reduceEq,Int.reduceNe,Int.reduceLT,Int.reduceLE,Nat.reduceEqDiff,Nat.reduceAdd,reduceIte,reduceCtorEq,Nat.reduceLT,Nat.reduceLeDiff,Nat.reduceShiftRight,Nat.reduceMod]
   refine callS_of hgc ?_
   simp only [vZ,Int.reduceEq,Int.reduceNe,Int.reduceLT,Int.reduceLE,Nat.reduceEqDiff,Nat.reduceAdd,reduceIte,reduceCtorEq,Nat.reduceLT,Nat.reduceLeDiff,Nat.reduceShiftRight,Nat.reduceMod]
   refine callS_of h1 ?_
   simp only [vZ,Int.reduceEq,Int.reduceNe,Int.reduceLT,Int.reduceLE,Nat.reduceEqDiff,Nat.reduceAdd,reduceIte,reduceCtorEq,Nat.reduceLT,Nat.reduceLeDiff,Nat.reduceShiftRight,Nat.reduceMod]
   refine callS_of hcm ?_
   simp only [vZ,Int.reduceEq,Int.reduceNe,Int.reduceLT,Int.reduceLE,Nat.reduceEqDiff,Nat.reduceAdd,reduceIte,reduceCtorEq,Nat.reduceLT,Nat.reduceLeDiff,Nat.reduceShiftRight,Nat.reduceMod]
 ·have hs1:¬ ((G:Int) - 1).sign=0:=by rw [Int.sign_eq_zero_iff_zero];omega
  by_cases hneg:d<0
  ·rw [if_pos hneg] at hp hq
   have hsd:d.sign<0:=by rw [Int.sign_eq_neg_one_of_neg hneg];omega
   rw [← hp] at hng1
   rw [← hq] at hng2
   simp only [c_base_RatioMake,vZ,Int.reduceEq,Int.reduceNe,Int.reduceLT,Int.reduceLE,Nat.reduceEqDiff,Nat.reduceAdd,reduceIte,reduceCtorEq,Nat.reduceLT,Nat.reduceLeDiff,Nat.reduceShiftRight,Nat.reduceMod]
   refine callS_of hS ?_
   simp only [hsd,vZ,Int.reduceEq,Int.reduceNe,Int.reduceLT,Int.reduceLE,Nat.reduceEqDiff,Nat.reduceAdd,reduceIte,reduceCtorEq,Nat.reduceLT,Nat.reduceLeDiff,Nat.reduceShiftRight,Nat.reduceMod]
   refine callS_of hng1 ?_
   simp only [vZ,Int.reduceEq,Int.reduceNe,Int.reduceLT,Int.reduceLE,Nat.reduceEqDiff,Nat.reduceAdd,reduceIte,reduceCtorEq,Nat.reduceLT,Nat.reduceLeDiff,Nat.reduceShiftRight,Nat.reduceMod]
   refine callS_of hng2 ?_
   simp only [vZ,Int.reduceEq,Int.reduceNe,Int.reduceLT,Int.reduceLE,Nat.reduceEqDiff,Nat.reduceAdd,reduceIte,reduceCtorEq,Nat.reduceLT,Nat.reduceLeDiff,Nat.reduceShiftRight,Nat.reduceMod]
   refine callS_of hgc ?_
   simp only [vZ,Int.reduceEq,Int.reduceNe,Int.reduceLT,Int.reduceLE,Nat.reduceEqDiff,Nat.reduceAdd,reduceIte,reduceCtorEq,Nat.reduceLT,Nat.reduceLeDiff,Nat.reduceShiftRight,Nat.reduceMod]
   refine callS_of h1 ?_
   simp only [vZ,Int.reduceEq,Int.reduceNe,Int.reduceLT,Int.reduceLE,Nat.reduceEqDiff,Nat.reduceAdd,reduceIte,reduceCtorEq,Nat.reduceLT,Nat.reduceLeDiff,Nat.reduceShiftRight,Nat.reduceMod]
   refine callS_of hcm ?_
   simp only [hs1,vZ,Int.reduceEq,Int.reduceNe,Int.reduceLT,Int.reduceLE,Nat.reduceEqDiff,Nat.reduceAdd,reduceIte,reduceCtorEq,Nat.reduceLT,Nat.reduceLeDiff,Nat.reduceShiftRight,Nat.reduceMod]
   refine callS_of hf1 ?_
   simp only [vZ,Int.reduceEq,Int.reduceNe,Int.reduceLT,Int.reduceLE,Nat.reduceEqDiff,Nat.reduceAdd,reduceIte,reduceCtorEq,Nat.reduceLT,Nat.reduceLeDiff,Nat.reduceShiftRight,Nat.reduceMod]
   refine callS_of hf2 ?_
   simp only [vZ,Int.reduceEq,Int.reduceNe,Int.reduceLT,Int.reduceLE,Nat.reduceEqDiff,Nat.reduceAdd,reduceIte,reduceCtorEq,Nat.reduceLT,Nat.reduceLeDiff,Nat.reduceShiftRight,Nat.reduceMod]
  ·rw [if_neg hneg] at hp hq
   have hsd:¬ d.sign<0:=by rw [Int.sign_eq_one_of_pos (by omega)];omega
   rw [hp,hq] at hgc
   rw [hp] at hf1
   rw [hq] at hf2
   rw [hp,hq]
   simp only [c_base_RatioMake,vZ,Int.reduceEq,Int.reduceNe,Int.reduceLT,Int.reduceLE,Nat.reduceEqDiff,Nat.reduceAdd,reduceIte,reduceCtorEq,Nat.reduceLT,Nat.reduceLeDiff,Nat.reduceShiftRight,Nat.reduceMod]
   refine callS_of hS ?_
   simp only [hsd,vZ,Int.reduceEq,Int.reduceNe,Int.reduceLT,Int.reduceLE,Nat.reduceEqDiff,Nat.reduceAdd,reduceIte,reduceCtorEq,Nat.reduceLT,Nat.reduceLeDiff,Nat.reduceShiftRight,Nat.reduceMod]
   refine callS_of hgc ?_
   simp only [vZ,Int.reduceEq,Int.reduceNe,Int.reduceLT,Int.reduceLE,Nat.reduceEqDiff,Nat.reduceAdd,reduceIte,reduceCtorEq,Nat.reduceLT,Nat.reduceLeDiff,Nat.reduceShiftRight,Nat.reduceMod]
   refine callS_of h1 ?_
   simp only [vZ,Int.reduceEq,Int.reduceNe,Int.reduceLT,Int.reduceLE,Nat.reduceEqDiff,Nat.reduceAdd,reduceIte,reduceCtorEq,Nat.reduceLT,Nat.reduceLeDiff,Nat.reduceShiftRight,Nat.reduceMod]
   refine callS_of hcm ?_
   simp only [hs1,vZ,Int.reduceEq,Int.reduceNe,Int.reduceLT,Int.reduceLE,Nat.reduceEqDiff,Nat.reduceAdd,reduceIte,reduceCtorEq,Nat.reduceLT,Nat.reduceLeDiff,Nat.reduceShiftRight,Nat.reduceMod]
   refine callS_of hf1 ?_
   simp only [vZ,Int.reduceEq,Int.reduceNe,Int.reduceLT,Int.reduceLE,Nat.reduceEqDiff,Nat.reduceAdd,reduceIte,reduceCtorEq,Nat.reduceLT,Nat.reduceLeDiff,Nat.reduceShiftRight,Nat.reduceMod]
   refine callS_of hf2 ?_
   simp only [vZ,Int.reduceEq,Int.reduceNe,Int.reduceLT,Int.reduceLE,Nat.reduceEqDiff,Nat.reduceAdd,reduceIte,reduceCtorEq,Nat.reduceLT,Nat.reduceLeDiff,Nat.reduceShiftRight,Nat.reduceMod]
end Go.Proofs.Ytgmpcbpmnimkoaa

/- Contracts: ratios added,multiplied,compared. By an AI agent;nothing here is trusted. -/
namespace Go.Proofs.Ytgmpcbpmnimkoaa
open Go.Av

theorem wOk_lt {k:Nat} {v:Int} (h:wOk k v):v.natAbs<1000000000 ^ k:=by
 have h1:=dVal_lt (okD_dg v.natAbs)
 rw [dVal_dg] at h1
 have h2:(1000000000:Int) ^ (dg v.natAbs).length=((1000000000 ^ (dg v.natAbs).length:Nat):Int):=by simp
 rw [h2] at h1
 exact Nat.lt_of_lt_of_le (by omega) (Nat.pow_le_pow_right (by omega) h)
theorem wOk_mul {k l:Nat} {x y:Int} (hx:wOk k x) (hy:wOk l y):wOk (k+l) (x * y):=by
 refine wOk_of ?_
 rw [Int.natAbs_mul,Nat.pow_add]
 exact Nat.mul_lt_mul'' (wOk_lt hx) (wOk_lt hy)
theorem wOk_add {k:Nat} {x y:Int} (hx:wOk k x) (hy:wOk k y):wOk (k+1) (x+y):=by
 refine wOk_of ?_
 have h1:=wOk_lt hx
 have h2:=wOk_lt hy
 rw [Nat.pow_succ]
 omega
theorem rat_hr (n d:Int):ratA n d=.agg [.int .i64 n.sign,.sl (ints (dg n.natAbs)),.int .i64 d.sign,.sl (ints (dg d.natAbs))]:=rfl
theorem RatioNeg_s (n d:Int):Sound Try.prog 115 [ratA n d] (ratA (-n) d):=by
 refine sound_W f_base_RatioNeg (Nat.le_of_ble_eq_true rfl) ?_
 have h:=WideNeg_s n
 rw [wide_hr,wide_hr] at h
 rw [rat_hr,rat_hr]
 simp only [c_base_RatioNeg,vZ,Int.reduceEq,Int.reduceNe,Int.reduceLT,Int.reduceLE,Nat.reduceEqDiff,Nat.reduceAdd,reduceIte,reduceCtorEq,Nat.reduceLT,Nat.reduceLeDiff,Nat.reduceShiftRight,Nat.reduceMod]
 refine callS_of h ?_
 simp only [vZ,Int.reduceEq,Int.reduceNe,Int.reduceLT,Int.reduceLE,Nat.reduceEqDiff,Nat.reduceAdd,reduceIte,reduceCtorEq,Nat.reduceLT,Nat.reduceLeDiff,Nat.reduceShiftRight,Nat.reduceMod]
theorem RatioInt_s (n:Int) (hn:I64 n):Sound Try.prog 51 [.int .i64 n] (ratA n 1):=by
 refine sound_W f_base_RatioInt (Nat.le_of_ble_eq_true rfl) ?_
 have h:=WideOf_s n hn
 have h1:=WideOf_s 1 (by unfold I64;omega)
 rw [wide_hr] at h h1
 rw [rat_hr]
 simp only [c_base_RatioInt,vZ,Int.reduceEq,Int.reduceNe,Int.reduceLT,Int.reduceLE,Nat.reduceEqDiff,Nat.reduceAdd,reduceIte,reduceCtorEq,Nat.reduceLT,Nat.reduceLeDiff,Nat.reduceShiftRight,Nat.reduceMod]
 refine callS_of h ?_
 simp only [vZ,Int.reduceEq,Int.reduceNe,Int.reduceLT,Int.reduceLE,Nat.reduceEqDiff,Nat.reduceAdd,reduceIte,reduceCtorEq,Nat.reduceLT,Nat.reduceLeDiff,Nat.reduceShiftRight,Nat.reduceMod]
 refine callS_of h1 ?_
 simp only [vZ,Int.reduceEq,Int.reduceNe,Int.reduceLT,Int.reduceLE,Nat.reduceEqDiff,Nat.reduceAdd,reduceIte,reduceCtorEq,Nat.reduceLT,Nat.reduceLeDiff,Nat.reduceShiftRight,Nat.reduceMod]
theorem RatioOf_s (n d:Int) (hn:I64 n) (hd:I64 d) (h0:d ≠ 0):Sound Try.prog 114 [.int .i64 n,.int .i64 d] (ratA (rlN n d) (rlD n d)):=by
 refine sound_W f_base_RatioOf (Nat.le_of_ble_eq_true rfl) ?_
 have hok:∀ v:Int,I64 v→wOk 4000 v:=fun v hv=>by
  have:(dg v.natAbs).length≤3:=dg_len (by unfold I64 at hv;omega)
  unfold wOk;omega
 have h1:=WideOf_s n hn
 have h2:=WideOf_s d hd
 have h3:=RatioMake_s n d h0 (hok n hn) (hok d hd)
 rw [wide_hr] at h1 h2
 rw [wide_hr,wide_hr,rat_hr] at h3
 rw [rat_hr]
 simp only [c_base_RatioOf,vZ,Int.reduceEq,Int.reduceNe,Int.reduceLT,Int.reduceLE,Nat.reduceEqDiff,Nat.reduceAdd,reduceIte,reduceCtorEq,Nat.reduceLT,Nat.reduceLeDiff,Nat.reduceShiftRight,Nat.reduceMod]
 refine callS_of h1 ?_
 simp only [vZ,Int.reduceEq,Int.reduceNe,Int.reduceLT,Int.reduceLE,Nat.reduceEqDiff,Nat.reduceAdd,reduceIte,reduceCtorEq,Nat.reduceLT,Nat.reduceLeDiff,Nat.reduceShiftRight,Nat.reduceMod]
 refine callS_of h2 ?_
 simp only [vZ,Int.reduceEq,Int.reduceNe,Int.reduceLT,Int.reduceLE,Nat.reduceEqDiff,Nat.reduceAdd,reduceIte,reduceCtorEq,Nat.reduceLT,Nat.reduceLeDiff,Nat.reduceShiftRight,Nat.reduceMod]
 refine callS_of h3 ?_
 simp only [vZ,Int.reduceEq,Int.reduceNe,Int.reduceLT,Int.reduceLE,Nat.reduceEqDiff,Nat.reduceAdd,reduceIte,reduceCtorEq,Nat.reduceLT,Nat.reduceLeDiff,Nat.reduceShiftRight,Nat.reduceMod]
theorem RatioMul_s (a b c d:Int) (hb:b ≠ 0) (hd:d ≠ 0) (oa:wOk 1000 a) (ob:wOk 1000 b) (oc:wOk 1000 c) (od:wOk 1000 d) :
  Sound Try.prog 53 [ratA a b,ratA c d] (ratA (rlN (a * c) (b * d)) (rlD (a * c) (b * d))):=by
 refine sound_W f_base_RatioMul (Nat.le_of_ble_eq_true rfl) ?_
 have h1:=WideMul_s a c (wOk_more oa (by omega)) (wOk_more oc (by omega))
 have h2:=WideMul_s b d (wOk_more ob (by omega)) (wOk_more od (by omega))
 have h3:=RatioMake_s (a * c) (b * d) (Int.mul_ne_zero hb hd) (wOk_more (wOk_mul oa oc) (by omega)) (wOk_more (wOk_mul ob od) (by omega))
 rw [wide_hr,wide_hr,wide_hr] at h1 h2
 rw [wide_hr,wide_hr,rat_hr] at h3
 rw [rat_hr a b,rat_hr c d,rat_hr]
 simp only [c_base_RatioMul,vZ,Int.reduceEq,Int.reduceNe,Int.reduceLT,Int.reduceLE,Nat.reduceEqDiff,Nat.reduceAdd,reduceIte,reduceCtorEq,Nat.reduceLT,Nat.reduceLeDiff,Nat.reduceShiftRight,Nat.reduceMod]
 refine callS_of h1 ?_
 simp only [vZ,Int.reduceEq,Int.reduceNe,Int.reduceLT,Int.reduceLE,Nat.reduceEqDiff,Nat.reduceAdd,reduceIte,reduceCtorEq,Nat.reduceLT,Nat.reduceLeDiff,Nat.reduceShiftRight,Nat.reduceMod]
 refine callS_of h2 ?_
 simp only [vZ,Int.reduceEq,Int.reduceNe,Int.reduceLT,Int.reduceLE,Nat.reduceEqDiff,Nat.reduceAdd,reduceIte,reduceCtorEq,Nat.reduceLT,Nat.reduceLeDiff,Nat.reduceShiftRight,Nat.reduceMod]
 refine callS_of h3 ?_
 simp only [vZ,Int.reduceEq,Int.reduceNe,Int.reduceLT,Int.reduceLE,Nat.reduceEqDiff,Nat.reduceAdd,reduceIte,reduceCtorEq,Nat.reduceLT,Nat.reduceLeDiff,Nat.reduceShiftRight,Nat.reduceMod]
theorem RatioAdd_s (a b c d:Int) (hb:b ≠ 0) (hd:d ≠ 0) (oa:wOk 1000 a) (ob:wOk 1000 b) (oc:wOk 1000 c) (od:wOk 1000 d) :
  Sound Try.prog 52 [ratA a b,ratA c d] (ratA (rlN (a * d+c * b) (b * d)) (rlD (a * d+c * b) (b * d))):=by
 refine sound_W f_base_RatioAdd (Nat.le_of_ble_eq_true rfl) ?_
 have h1:=WideMul_s a d (wOk_more oa (by omega)) (wOk_more od (by omega))
 have h2:=WideMul_s c b (wOk_more oc (by omega)) (wOk_more ob (by omega))
 have h4:=WideAdd_s (a * d) (c * b) (wOk_more (wOk_mul oa od) (by omega)) (wOk_more (wOk_mul oc ob) (by omega))
 have h5:=WideMul_s b d (wOk_more ob (by omega)) (wOk_more od (by omega))
 have h3:=RatioMake_s (a * d+c * b) (b * d) (Int.mul_ne_zero hb hd) (wOk_more (wOk_add (wOk_mul oa od) (wOk_mul oc ob)) (by omega)) (wOk_more (wOk_mul ob od) (by omega))
 rw [wide_hr,wide_hr,wide_hr] at h1 h2 h4 h5
 rw [wide_hr,wide_hr,rat_hr] at h3
 rw [rat_hr a b,rat_hr c d,rat_hr]
 simp only [c_base_RatioAdd,vZ,Int.reduceEq,Int.reduceNe,Int.reduceLT,Int.reduceLE,Nat.reduceEqDiff,Nat.reduceAdd,reduceIte,reduceCtorEq,Nat.reduceLT,Nat.reduceLeDiff,Nat.reduceShiftRight,Nat.reduceMod]
 refine callS_of h1 ?_
 simp only [vZ,Int.reduceEq,Int.reduceNe,Int.reduceLT,Int.reduceLE,Nat.reduceEqDiff,Nat.reduceAdd,reduceIte,reduceCtorEq,Nat.reduceLT,Nat.reduceLeDiff,Nat.reduceShiftRight,Nat.reduceMod]
 refine callS_of h2 ?_
 simp only [vZ,Int.reduceEq,Int.reduceNe,Int.reduceLT,Int.reduceLE,Nat.reduceEqDiff,Nat.reduceAdd,reduceIte,reduceCtorEq,Nat.reduceLT,Nat.reduceLeDiff,Nat.reduceShiftRight,Nat.reduceMod]
 refine callS_of h4 ?_
 simp only [vZ,Int.reduceEq,Int.reduceNe,Int.reduceLT,Int.reduceLE,Nat.reduceEqDiff,Nat.reduceAdd,reduceIte,reduceCtorEq,Nat.reduceLT,Nat.reduceLeDiff,Nat.reduceShiftRight,Nat.reduceMod]
 refine callS_of h5 ?_
 simp only [vZ,Int.reduceEq,Int.reduceNe,Int.reduceLT,Int.reduceLE,Nat.reduceEqDiff,Nat.reduceAdd,reduceIte,reduceCtorEq,Nat.reduceLT,Nat.reduceLeDiff,Nat.reduceShiftRight,Nat.reduceMod]
 refine callS_of h3 ?_
 simp only [vZ,Int.reduceEq,Int.reduceNe,Int.reduceLT,Int.reduceLE,Nat.reduceEqDiff,Nat.reduceAdd,reduceIte,reduceCtorEq,Nat.reduceLT,Nat.reduceLeDiff,Nat.reduceShiftRight,Nat.reduceMod]
theorem RatioSub_s (a b c d:Int) (hb:b ≠ 0) (hd:d ≠ 0) (oa:wOk 1000 a) (ob:wOk 1000 b) (oc:wOk 1000 c) (od:wOk 1000 d) :
  Sound Try.prog 55 [ratA a b,ratA c d] (ratA (rlN (a * d + -c * b) (b * d)) (rlD (a * d + -c * b) (b * d))):=by
 refine sound_W f_base_RatioSub (Nat.le_of_ble_eq_true rfl) ?_
 have h1:=RatioNeg_s c d
 have h2:=RatioAdd_s a b (-c) d hb hd oa ob (wOk_neg oc) od
 rw [rat_hr,rat_hr] at h1
 rw [rat_hr,rat_hr,rat_hr] at h2
 rw [rat_hr a b,rat_hr c d,rat_hr]
 simp only [c_base_RatioSub,vZ,Int.reduceEq,Int.reduceNe,Int.reduceLT,Int.reduceLE,Nat.reduceEqDiff,Nat.reduceAdd,reduceIte,reduceCtorEq,Nat.reduceLT,Nat.reduceLeDiff,Nat.reduceShiftRight,Nat.reduceMod]
 refine callS_of h1 ?_
 simp only [vZ,Int.reduceEq,Int.reduceNe,Int.reduceLT,Int.reduceLE,Nat.reduceEqDiff,Nat.reduceAdd,reduceIte,reduceCtorEq,Nat.reduceLT,Nat.reduceLeDiff,Nat.reduceShiftRight,Nat.reduceMod]
 refine callS_of h2 ?_
 simp only [vZ,Int.reduceEq,Int.reduceNe,Int.reduceLT,Int.reduceLE,Nat.reduceEqDiff,Nat.reduceAdd,reduceIte,reduceCtorEq,Nat.reduceLT,Nat.reduceLeDiff,Nat.reduceShiftRight,Nat.reduceMod]
theorem RatioCmp_s (a b c d:Int) (oa:wOk 1000 a) (ob:wOk 1000 b) (oc:wOk 1000 c) (od:wOk 1000 d) :
  Sound Try.prog 17 [ratA a b,ratA c d] (.int .i64 (a * d - c * b).sign):=by
 refine sound_W f_base_RatioCmp (Nat.le_of_ble_eq_true rfl) ?_
 have h1:=WideMul_s a d (wOk_more oa (by omega)) (wOk_more od (by omega))
 have h2:=WideMul_s c b (wOk_more oc (by omega)) (wOk_more ob (by omega))
 have h3:=WideCmp_s (a * d) (c * b) (wOk_more (wOk_mul oa od) (by omega)) (wOk_more (wOk_mul oc ob) (by omega))
 rw [wide_hr,wide_hr,wide_hr] at h1 h2
 rw [wide_hr,wide_hr] at h3
 rw [rat_hr a b,rat_hr c d]
 simp only [c_base_RatioCmp,vZ,Int.reduceEq,Int.reduceNe,Int.reduceLT,Int.reduceLE,Nat.reduceEqDiff,Nat.reduceAdd,reduceIte,reduceCtorEq,Nat.reduceLT,Nat.reduceLeDiff,Nat.reduceShiftRight,Nat.reduceMod]
 refine callS_of h1 ?_
 simp only [vZ,Int.reduceEq,Int.reduceNe,Int.reduceLT,Int.reduceLE,Nat.reduceEqDiff,Nat.reduceAdd,reduceIte,reduceCtorEq,Nat.reduceLT,Nat.reduceLeDiff,Nat.reduceShiftRight,Nat.reduceMod]
 refine callS_of h2 ?_
 simp only [vZ,Int.reduceEq,Int.reduceNe,Int.reduceLT,Int.reduceLE,Nat.reduceEqDiff,Nat.reduceAdd,reduceIte,reduceCtorEq,Nat.reduceLT,Nat.reduceLeDiff,Nat.reduceShiftRight,Nat.reduceMod]
 refine callS_of h3 ?_
 simp only [vZ,Int.reduceEq,Int.reduceNe,Int.reduceLT,Int.reduceLE,Nat.reduceEqDiff,Nat.reduceAdd,reduceIte,reduceCtorEq,Nat.reduceLT,Nat.reduceLeDiff,Nat.reduceShiftRight,Nat.reduceMod]
end Go.Proofs.Ytgmpcbpmnimkoaa

/- Ratios of fractions;lowest terms,in plain Lean. By an AI agent;nothing here is trusted. -/
namespace Go.Proofs.Ytgmpcbpmnimkoaa
open Go.Av

theorem RatioFrom_s (n d:Int) (hn:I64 n) (hd:I64 d) (h0:d ≠ 0):Sound Try.prog 54 [fracA n d] (ratA (rlN n d) (rlD n d)):=by
 refine sound_W f_base_RatioFrom (Nat.le_of_ble_eq_true rfl) ?_
 have h:=RatioOf_s n d hn hd h0
 rw [rat_hr] at h
 rw [rat_hr]
 simp only [c_base_RatioFrom,fracA,vZ,Int.reduceEq,Int.reduceNe,Int.reduceLT,Int.reduceLE,Nat.reduceEqDiff,Nat.reduceAdd,reduceIte,reduceCtorEq,Nat.reduceLT,Nat.reduceLeDiff,Nat.reduceShiftRight,Nat.reduceMod]
 refine callS_of h ?_
 simp only [vZ,Int.reduceEq,Int.reduceNe,Int.reduceLT,Int.reduceLE,Nat.reduceEqDiff,Nat.reduceAdd,reduceIte,reduceCtorEq,Nat.reduceLT,Nat.reduceLeDiff,Nat.reduceShiftRight,Nat.reduceMod]
end Go.Proofs.Ytgmpcbpmnimkoaa

/- Contracts: ratios as rational numbers. By an AI agent;nothing here is trusted. -/
namespace Go.Proofs.Ytgmpcbpmnimkoaa
open Go.Av

def rq (q:Rat):AV:=ratA q.num q.den
def qOk (k:Nat) (q:Rat):Prop:=wOk k q.num∧wOk k (q.den:Int)
theorem rl_q (n d:Int) (h:d ≠ 0):rlN n d=(Rat.divInt n d).num∧rlD n d=((Rat.divInt n d).den:Int):=by
 rw [Rat.num_divInt,Rat.den_divInt,if_neg h,Int.gcd_comm d n]
 unfold rlN rlD
 by_cases hd:d<0
 ·rw [if_pos hd,if_pos hd,Int.sign_eq_neg_one_of_neg hd]
  refine ⟨by rw [Int.neg_one_mul],?_⟩
  rw [Int.natCast_ediv];congr 1;omega
 ·rw [if_neg hd,if_neg hd,Int.sign_eq_one_of_pos (by omega)]
  refine ⟨by rw [Int.one_mul],?_⟩
  rw [Int.natCast_ediv];congr 1;omega
theorem rq_rl (n d:Int) (h:d ≠ 0):ratA (rlN n d) (rlD n d)=rq (Rat.divInt n d):=by
 obtain ⟨h1,h2⟩:=rl_q n d h
 rw [h1,h2];rfl
theorem q_divInt (q:Rat):Rat.divInt q.num q.den=q:=Rat.num_divInt_den q
theorem den_ne (q:Rat):(q.den:Int) ≠ 0:=by have:=q.den_nz;omega
theorem RatioInt_q (n:Int) (hn:I64 n):Sound Try.prog 51 [.int .i64 n] (rq n):=RatioInt_s n hn
theorem RatioFrom_q (n d:Int) (hn:I64 n) (hd:I64 d) (h0:d ≠ 0):Sound Try.prog 54 [fracA n d] (rq (Rat.divInt n d)):=by
 rw [← rq_rl n d h0];exact RatioFrom_s n d hn hd h0
theorem RatioMul_q {p q:Rat} (hp:qOk 1000 p) (hq:qOk 1000 q):Sound Try.prog 53 [rq p,rq q] (rq (p * q)):=by
 have h:=RatioMul_s p.num p.den q.num q.den (den_ne p) (den_ne q) hp.1 hp.2 hq.1 hq.2
 rw [rq_rl _ _ (Int.mul_ne_zero (den_ne p) (den_ne q)),← Rat.divInt_mul_divInt,q_divInt,q_divInt] at h
 exact h
theorem RatioAdd_q {p q:Rat} (hp:qOk 1000 p) (hq:qOk 1000 q):Sound Try.prog 52 [rq p,rq q] (rq (p+q)):=by
 have h:=RatioAdd_s p.num p.den q.num q.den (den_ne p) (den_ne q) hp.1 hp.2 hq.1 hq.2
 rw [rq_rl _ _ (Int.mul_ne_zero (den_ne p) (den_ne q)),← Rat.divInt_add_divInt _ _ (den_ne p) (den_ne q),q_divInt,q_divInt] at h
 exact h
theorem RatioSub_q {p q:Rat} (hp:qOk 1000 p) (hq:qOk 1000 q):Sound Try.prog 55 [rq p,rq q] (rq (p - q)):=by
 have h:=RatioSub_s p.num p.den q.num q.den (den_ne p) (den_ne q) hp.1 hp.2 hq.1 hq.2
 rw [rq_rl _ _ (Int.mul_ne_zero (den_ne p) (den_ne q)),← Rat.divInt_add_divInt _ _ (den_ne p) (den_ne q),← Rat.neg_divInt,q_divInt,q_divInt,← Rat.sub_eq_add_neg] at h
 exact h
theorem RatioCmp_q {p q:Rat} (hp:qOk 1000 p) (hq:qOk 1000 q):Sound Try.prog 17 [rq p,rq q] (.int .i64 (if p<q then -1 else if q<p then 1 else 0)):=by
 have h:=RatioCmp_s p.num p.den q.num q.den hp.1 hp.2 hq.1 hq.2
 have e:(p.num * q.den - q.num * p.den).sign=(if p<q then -1 else if q<p then 1 else 0):=by
  by_cases h1:p<q
  ·rw [if_pos h1];rw [Rat.lt_iff] at h1;exact Int.sign_eq_neg_one_of_neg (by omega)
  ·rw [if_neg h1];rw [Rat.lt_iff] at h1
   by_cases h2:q<p
   ·rw [if_pos h2];rw [Rat.lt_iff] at h2;exact Int.sign_eq_one_of_pos (by omega)
   ·rw [if_neg h2];rw [Rat.lt_iff] at h2
    have:p.num * q.den - q.num * p.den=0:=by omega
    rw [this];rfl
 rw [e] at h
 exact h
theorem rq_hr (q:Rat):rq q=.agg [.int .i64 q.num.sign,.sl (ints (dg q.num.natAbs)),.int .i64 (q.den:Int).sign,.sl (ints (dg (q.den:Int).natAbs))]:=rfl
def qB (M:Nat) (q:Rat):Prop:=q.num.natAbs≤M∧q.den≤M
theorem divInt_le (n d:Int) (h:d ≠ 0):(Rat.divInt n d).num.natAbs≤n.natAbs∧(Rat.divInt n d).den≤d.natAbs:=by
 obtain ⟨h1,h2⟩:=rl_q n d h
 have hg:0<Int.gcd n d:=Int.gcd_pos_of_ne_zero_right _ h
 refine ⟨?_,?_⟩
 ·rw [← h1];unfold rlN
  split
  ·have:=Int.natAbs_ediv_le_natAbs (-n) ((Int.gcd n d:Nat):Int);rwa [Int.natAbs_neg] at this
  ·exact Int.natAbs_ediv_le_natAbs _ _
 ·have:((Rat.divInt n d).den:Int).natAbs≤d.natAbs:=by
   rw [← h2];unfold rlD
   split
   ·have:=Int.natAbs_ediv_le_natAbs (-d) ((Int.gcd n d:Nat):Int);rwa [Int.natAbs_neg] at this
   ·exact Int.natAbs_ediv_le_natAbs _ _
  simpa using this
theorem qB_mul {M K:Nat} {p q:Rat} (hp:qB M p) (hq:qB K q):qB (M * K) (p * q):=by
 have h:=divInt_le (p.num * q.num) (p.den * q.den) (Int.mul_ne_zero (den_ne p) (den_ne q))
 rw [← Rat.divInt_mul_divInt,q_divInt,q_divInt,Int.natAbs_mul,Int.natAbs_mul] at h
 exact ⟨Nat.le_trans h.1 (Nat.mul_le_mul hp.1 hq.1),Nat.le_trans h.2 (Nat.mul_le_mul (by simpa using hp.2) (by simpa using hq.2))⟩
theorem qB_add {M K:Nat} {p q:Rat} (hp:qB M p) (hq:qB K q):qB (2 * (M * K)) (p+q):=by
 have h:=divInt_le (p.num * q.den+q.num * p.den) (p.den * q.den) (Int.mul_ne_zero (den_ne p) (den_ne q))
 rw [← Rat.divInt_add_divInt _ _ (den_ne p) (den_ne q),q_divInt,q_divInt] at h
 refine ⟨Nat.le_trans h.1 ?_,Nat.le_trans h.2 ?_⟩
 ·refine Nat.le_trans (Int.natAbs_add_le _ _) ?_
  rw [Int.natAbs_mul,Int.natAbs_mul]
  have h1:p.num.natAbs * (q.den:Int).natAbs≤M * K:=Nat.mul_le_mul hp.1 (by simpa using hq.2)
  have h2:q.num.natAbs * (p.den:Int).natAbs≤K * M:=Nat.mul_le_mul hq.1 (by simpa using hp.2)
  rw [Nat.mul_comm K M] at h2
  omega
 ·rw [Int.natAbs_mul]
  have:(p.den:Int).natAbs * (q.den:Int).natAbs≤M * K:=Nat.mul_le_mul (by simpa using hp.2) (by simpa using hq.2)
  omega
theorem qB_neg {M:Nat} {q:Rat} (h:qB M q):qB M (-q):=by
 have h1:(-q).num = -q.num:=Rat.neg_num q
 have h2:(-q).den=q.den:=Rat.neg_den q
 refine ⟨?_,?_⟩
 ·rw [h1,Int.natAbs_neg];exact h.1
 ·rw [h2];exact h.2
theorem qB_sub {M K:Nat} {p q:Rat} (hp:qB M p) (hq:qB K q):qB (2 * (M * K)) (p - q):=by
 rw [Rat.sub_eq_add_neg];exact qB_add hp (qB_neg hq)
theorem qB_int {M:Nat} {n:Int} (h:n.natAbs≤M) (h1:1≤M):qB M (n:Rat):=⟨by simpa using h,by simpa using h1⟩
theorem qB_more {M K:Nat} {q:Rat} (h:qB M q) (hk:M≤K):qB K q:=⟨Nat.le_trans h.1 hk,Nat.le_trans h.2 hk⟩
theorem qB_ok {M k:Nat} {q:Rat} (h:qB M q) (hM:M<1000000000 ^ k):qOk k q:=by
 refine ⟨wOk_of ?_,wOk_of ?_⟩
 ·exact Nat.lt_of_le_of_lt h.1 hM
 ·have:=h.2;simp;omega
end Go.Proofs.Ytgmpcbpmnimkoaa

/- Straight lines through pairs,in plain Lean. By an AI agent;nothing here is trusted. -/
namespace Go.Ln

def pS (f:Int × Int→Int) (l:List (Int × Int)):Int:=(l.map f).sum
theorem pS_nil (f:Int × Int→Int):pS f []=0:=rfl
theorem pS_cons (f:Int × Int→Int) (p:Int × Int) (l:List (Int × Int)):pS f (p :: l)=f p+pS f l:=by simp [pS]
theorem pS_app (f:Int × Int→Int) (l m:List (Int × Int)):pS f (l ++ m)=pS f l+pS f m:=by simp [pS]
theorem pS_take (f:Int × Int→Int) (l:List (Int × Int)) {i:Nat} (h:i<l.length):pS f (l.take (i+1))=pS f (l.take i)+f l[i]:=by
 rw [List.take_succ_eq_append_getElem h,pS_app,pS_cons,pS_nil,Int.add_zero]
def sx (l:List (Int × Int)):Int:=pS (fun p=>p.1) l
def sy (l:List (Int × Int)):Int:=pS (fun p=>p.2) l
def sxx (l:List (Int × Int)):Int:=pS (fun p=>p.1 * p.1) l
def sxy (l:List (Int × Int)):Int:=pS (fun p=>p.1 * p.2) l
def den (l:List (Int × Int)):Int:=l.length * sxx l - sx l * sx l
def same (l:List (Int × Int)):Prop:=∀ p ∈ l,p.1=(l.headD (0,0)).1
instance (l:List (Int × Int)):Decidable (same l):=by unfold same;exact inferInstance

theorem pS_nn {f:Int × Int→Int} {l:List (Int × Int)} (h:∀ p ∈ l,0≤f p):0≤pS f l:=by
 induction l with
 | nil=>exact Int.le_refl _
 | cons p l ih =>
  rw [pS_cons]
  have:=h p (by simp)
  have:=ih fun q hq=>h q (by simp [hq])
  omega
theorem pS_zero {f:Int × Int→Int} {l:List (Int × Int)} (h:∀ p ∈ l,0≤f p) (h0:pS f l=0):∀ p ∈ l,f p=0:=by
 induction l with
 | nil=>intro p hp;cases hp
 | cons p l ih =>
  rw [pS_cons] at h0
  have h1:=h p (by simp)
  have h2:=pS_nn fun q hq=>h q (List.mem_cons_of_mem _ hq)
  intro q hq
  rcases List.mem_cons.1 hq with rfl | hq
  ·omega
  ·exact ih (fun q hq=>h q (List.mem_cons_of_mem _ hq)) (by omega) q hq
theorem pS_le {f:Int × Int→Int} {l:List (Int × Int)} {M:Int} (h:∀ p ∈ l,0≤f p∧f p≤M):0≤pS f l∧pS f l≤l.length * M:=by
 induction l with
 | nil=>simp [pS]
 | cons p l ih =>
  rw [pS_cons]
  have h1:=h p (by simp)
  have h2:=ih fun q hq=>h q (by simp [hq])
  have e:((p :: l).length:Int) * M=l.length * M+M:=by rw [List.length_cons];grind
  rw [e];omega
theorem sq_nn (a:Int):0≤a * a:=by
 rcases Int.le_total 0 a with h | h
 ·exact Int.mul_nonneg h h
 ·have:=Int.mul_nonneg (a := -a) (b := -a) (by omega) (by omega)
  rwa [Int.neg_mul_neg] at this
theorem dif_sum (a:Int) (l:List (Int × Int)):pS (fun p=>(a - p.1) * (a - p.1)) l=l.length * (a * a) - 2 * a * sx l+sxx l:=by
 induction l with
 | nil=>simp [pS,sx,sxx]
 | cons p l ih =>
  have e1:sx (p :: l)=p.1+sx l:=pS_cons _ _ _
  have e2:sxx (p :: l)=p.1 * p.1+sxx l:=pS_cons _ _ _
  rw [pS_cons,ih,e1,e2,List.length_cons];grind
theorem den_cons (p:Int × Int) (l:List (Int × Int)):den (p :: l)=den l+pS (fun q=>(p.1 - q.1) * (p.1 - q.1)) l:=by
 have e1:sx (p :: l)=p.1+sx l:=pS_cons _ _ _
 have e2:sxx (p :: l)=p.1 * p.1+sxx l:=pS_cons _ _ _
 rw [dif_sum]
 unfold den
 rw [e1,e2,List.length_cons];grind
theorem den_nn (l:List (Int × Int)):0≤den l:=by
 induction l with
 | nil=>simp [den,sx,sxx,pS]
 | cons p l ih =>
  rw [den_cons]
  have:=pS_nn (f:=fun q=>(p.1 - q.1) * (p.1 - q.1)) (l:=l) fun q _=>sq_nn _
  omega
theorem den_zero (l:List (Int × Int)):den l=0 ↔ same l:=by
 cases l with
 | nil=>simp [den,sx,sxx,pS,same]
 | cons p l =>
  have hn:=den_nn l
  have hp:=pS_nn (f:=fun q=>(p.1 - q.1) * (p.1 - q.1)) (l:=l) fun q _=>sq_nn _
  have hd:=den_cons p l
  constructor
  ·intro h q hq
   rcases List.mem_cons.1 hq with rfl | hq
   ·rfl
   ·have h0:=pS_zero (f:=fun q=>(p.1 - q.1) * (p.1 - q.1)) (fun q _=>sq_nn _) (by omega) q hq
    have:p.1 - q.1=0:=by
     rcases Int.mul_eq_zero.1 h0 with h | h <;> exact h
    show q.1=p.1
    omega
  ·intro h
   have hall:∀ q ∈ l,q.1=p.1:=fun q hq=>h q (List.mem_cons_of_mem _ hq)
   clear hd hn hp h
   induction l with
   | nil=>simp [den,sx,sxx,pS]
   | cons q l ih =>
    have h1:=ih fun r hr=>hall r (List.mem_cons_of_mem _ hr)
    have h2:=den_cons p (q :: l)
    have h3:=den_cons p l
    have h4:=den_cons q l
    rw [pS_cons] at h2
    have h5:=hall q (by simp)
    have hp:=pS_nn (f:=fun q=>(p.1 - q.1) * (p.1 - q.1)) (l:=l) fun q _=>sq_nn _
    have hn:=den_nn l
    have e:pS (fun r=>(q.1 - r.1) * (q.1 - r.1)) l=pS (fun r=>(p.1 - r.1) * (p.1 - r.1)) l:=by rw [h5]
    rw [h5,Int.sub_self,Int.zero_mul] at h2
    omega
theorem same_head {p:Int × Int} {l:List (Int × Int)}:same (p :: l) ↔ ∀ q ∈ l,q.1=p.1:=by
 constructor
 ·exact fun h q hq=>h q (List.mem_cons_of_mem _ hq)
 ·intro h q hq
  rcases List.mem_cons.1 hq with rfl | hq
  ·rfl
  ·exact h q hq

def res (s o:Rat) (p:Int × Int):Rat:=((p.2:Int):Rat) - (s * ((p.1:Int):Rat)+o)
def rS (f:Int × Int→Rat) (l:List (Int × Int)):Rat:=(l.map f).foldr (·+·) 0
theorem rS_nil (f:Int × Int→Rat):rS f []=0:=rfl
theorem rS_cons (f:Int × Int→Rat) (p:Int × Int) (l:List (Int × Int)):rS f (p :: l)=f p+rS f l:=rfl
theorem rS_app (f:Int × Int→Rat) (l m:List (Int × Int)):rS f (l ++ m)=rS f l+rS f m:=by
 induction l with
 | nil=>rw [List.nil_append,rS_nil];grind
 | cons p l ih=>rw [List.cons_append,rS_cons,rS_cons,ih];grind
theorem rS_take (f:Int × Int→Rat) (l:List (Int × Int)) {i:Nat} (h:i<l.length):rS f (l.take (i+1))=rS f (l.take i)+f l[i]:=by
 rw [List.take_succ_eq_append_getElem h,rS_app,rS_cons,rS_nil];grind
theorem res_sum (s o:Rat) (l:List (Int × Int)):rS (res s o) l=((sy l:Int):Rat) - s * ((sx l:Int):Rat) - ((l.length:Int):Rat) * o:=by
 induction l with
 | nil=>simp [rS,sy,sx,pS];grind
 | cons p l ih =>
  have e1:sx (p :: l)=p.1+sx l:=pS_cons _ _ _
  have e2:sy (p :: l)=p.2+sy l:=pS_cons _ _ _
  have e3:(((p :: l).length:Nat):Int)=(l.length:Int)+1:=by simp
  rw [rS_cons,ih,e1,e2,e3,Rat.intCast_add,Rat.intCast_add,Rat.intCast_add]
  unfold res
  have:((1:Int):Rat)=1:=rfl
  rw [this]
  grind
theorem res_msum (s o:Rat) (l:List (Int × Int)):rS (fun p=>res s o p * ((p.1:Int):Rat)) l=((sxy l:Int):Rat) - s * ((sxx l:Int):Rat) - o * ((sx l:Int):Rat):=by
 induction l with
 | nil=>simp [rS,sxy,sxx,sx,pS];grind
 | cons p l ih =>
  have e1:sx (p :: l)=p.1+sx l:=pS_cons _ _ _
  have e2:sxy (p :: l)=p.1 * p.2+sxy l:=pS_cons _ _ _
  have e3:sxx (p :: l)=p.1 * p.1+sxx l:=pS_cons _ _ _
  rw [rS_cons,ih,e1,e2,e3,Rat.intCast_add,Rat.intCast_add,Rat.intCast_add,Rat.intCast_mul,Rat.intCast_mul]
  unfold res
  grind
def fs (l:List (Int × Int)):Rat:=((l.length * sxy l - sx l * sy l:Int):Rat) / ((den l:Int):Rat)
def fo (l:List (Int × Int)):Rat:=((sy l * sxx l - sx l * sxy l:Int):Rat) / ((den l:Int):Rat)
theorem den_pos {l:List (Int × Int)} (h:¬ same l):0<den l:=by
 have h1:=den_nn l
 have h2:=den_zero l
 by_cases e:den l=0
 ·exact absurd (h2.1 e) h
 ·omega
theorem normal {l:List (Int × Int)} (h:¬ same l) (s o:Rat):(rS (res s o) l=0∧rS (fun p=>res s o p * ((p.1:Int):Rat)) l=0) ↔ s=fs l∧o=fo l:=by
 have hd:((den l:Int):Rat) ≠ 0:=by
  have:=den_pos h
  intro h0
  have:den l=0:=by exact_mod_cast h0
  omega
 rw [res_sum,res_msum]
 unfold fs fo
 have e:((den l:Int):Rat)=((l.length:Int):Rat) * ((sxx l:Int):Rat) - ((sx l:Int):Rat) * ((sx l:Int):Rat):=by
  unfold den;rw [Rat.intCast_sub,Rat.intCast_mul,Rat.intCast_mul]
 simp only [Rat.intCast_sub,Rat.intCast_mul]
 generalize ((den l:Int):Rat)=d at *
 generalize ((sx l:Int):Rat)=x at *
 generalize ((sy l:Int):Rat)=y at *
 generalize ((sxx l:Int):Rat)=xx at *
 generalize ((sxy l:Int):Rat)=xy at *
 generalize ((l.length:Int):Rat)=n at *
 constructor
 ·rintro ⟨h1,h2⟩
  have a1:s * d=n * xy - x * y:=by grind
  have a2:o * d=y * xx - x * xy:=by grind
  constructor <;> grind
 ·rintro ⟨h1,h2⟩
  have a1:s * d=n * xy - x * y:=by grind
  have a2:o * d=y * xx - x * xy:=by grind
  have b1:d * (y - s * x - n * o)=0:=by grind
  have b2:d * (xy - s * xx - o * x)=0:=by grind
  constructor
  ·rcases Rat.mul_eq_zero.1 b1 with h | h
   ·exact absurd h hd
   ·exact h
  ·rcases Rat.mul_eq_zero.1 b2 with h | h
   ·exact absurd h hd
   ·exact h
def sq (s o:Rat) (l:List (Int × Int)):Rat:=rS (fun p=>res s o p * res s o p) l
theorem rsq_nn (a:Rat):0≤a * a:=by
 by_cases h:0≤a
 ·exact Rat.mul_nonneg h h
 ·have:0 ≤ -a:=by grind
  have:=Rat.mul_nonneg this this
  grind
theorem rS_nn {f:Int × Int→Rat} {l:List (Int × Int)} (h:∀ p ∈ l,0≤f p):0≤rS f l:=by
 induction l with
 | nil=>exact Rat.le_refl
 | cons p l ih =>
  rw [rS_cons]
  have:=h p (by simp)
  have:=ih fun q hq=>h q (List.mem_cons_of_mem _ hq)
  grind
theorem rS_zero {f:Int × Int→Rat} {l:List (Int × Int)} (h:∀ p ∈ l,0≤f p) (h0:rS f l=0):∀ p ∈ l,f p=0:=by
 induction l with
 | nil=>intro p hp;cases hp
 | cons p l ih =>
  rw [rS_cons] at h0
  have h1:=h p (by simp)
  have h2:=rS_nn fun q hq=>h q (List.mem_cons_of_mem _ hq)
  intro q hq
  rcases List.mem_cons.1 hq with rfl | hq
  ·grind
  ·exact ih (fun q hq=>h q (List.mem_cons_of_mem _ hq)) (by grind) q hq
theorem rsq_zero {a:Rat} (h:a * a=0):a=0:=by
 rcases Rat.mul_eq_zero.1 h with h | h <;> exact h
theorem sq_split (s o s0 o0:Rat) (l:List (Int × Int)) :
  sq s o l=sq s0 o0 l+rS (fun p=>((s0 - s) * ((p.1:Int):Rat)+(o0 - o)) * ((s0 - s) * ((p.1:Int):Rat)+(o0 - o))) l+2 * ((s0 - s) * rS (fun p=>res s0 o0 p * ((p.1:Int):Rat)) l+(o0 - o) * rS (res s0 o0) l):=by
 induction l with
 | nil=>simp [sq,rS];grind
 | cons p l ih =>
  unfold sq at ih ⊢
  simp only [rS_cons]
  rw [ih]
  unfold res
  grind
theorem fit_best {l:List (Int × Int)} (h:¬ same l) (s o:Rat):sq (fs l) (fo l) l≤sq s o l∧(sq (fs l) (fo l) l=sq s o l→s=fs l∧o=fo l):=by
 obtain ⟨h1,h2⟩:=(normal h (fs l) (fo l)).2 ⟨rfl,rfl⟩
 have e:=sq_split s o (fs l) (fo l) l
 rw [h1,h2] at e
 have hn:=rS_nn (f:=fun p=>((fs l - s) * ((p.1:Int):Rat)+(fo l - o)) * ((fs l - s) * ((p.1:Int):Rat)+(fo l - o))) (l:=l) fun p _=>rsq_nn _
 refine ⟨by grind,fun hq=>?_⟩
 have hz:=rS_zero (f:=fun p=>((fs l - s) * ((p.1:Int):Rat)+(fo l - o)) * ((fs l - s) * ((p.1:Int):Rat)+(fo l - o))) (l:=l) (fun p _=>rsq_nn _) (by grind)
 have hz2:∀ p ∈ l,(fs l - s) * ((p.1:Int):Rat)+(fo l - o)=0:=fun p hp=>rsq_zero (hz p hp)
 cases l with
 | nil=>exact absurd (fun p hp=>by cases hp) h
 | cons p l =>
  have hne:∃ q ∈ l,q.1 ≠ p.1:=Classical.byContradiction fun hn=>h (same_head.2 fun q hq=>Classical.byContradiction fun hn'=>hn ⟨q,hq,hn'⟩)
  obtain ⟨q,hq,hqp⟩:=hne
  have a1:=hz2 p (by simp)
  have a2:=hz2 q (List.mem_cons_of_mem _ hq)
  have a3:((q.1:Int):Rat) ≠ ((p.1:Int):Rat):=fun hh=>hqp (by exact_mod_cast hh)
  have a4:(fs (p :: l) - s) * (((q.1:Int):Rat) - ((p.1:Int):Rat))=0:=by grind
  have a5:fs (p :: l) - s=0:=by
   rcases Rat.mul_eq_zero.1 a4 with h | h
   ·exact h
   ·exact absurd (by grind) a3
  constructor <;> grind
theorem fit_exact {l:List (Int × Int)} (h:¬ same l) (a b:Int) (hx:∀ p ∈ l,p.2=a * p.1+b):fs l=((a:Int):Rat)∧fo l=((b:Int):Rat):=by
 have hz:∀ p ∈ l,res ((a:Int):Rat) ((b:Int):Rat) p=0:=fun p hp=>by
  unfold res;rw [hx p hp,Rat.intCast_add,Rat.intCast_mul];grind
 have h0:∀ (f:Int × Int→Rat),(∀ p ∈ l,f p=0)→rS f l=0:=by
  intro f
  clear h hx hz
  induction l with
  | nil=>intro _;rfl
  | cons p l ih=>intro hf;rw [rS_cons,hf p (by simp),ih fun q hq=>hf q (List.mem_cons_of_mem _ hq)];grind
 have:=(normal h ((a:Int):Rat) ((b:Int):Rat)).1 ⟨h0 _ hz,h0 _ fun p hp=>by rw [hz p hp];grind⟩
 exact ⟨this.1.symm,this.2.symm⟩
end Go.Ln

/- Fractions in lowest terms and ratios,in plain Lean. By an AI agent;nothing here is trusted. -/
namespace Go.Proofs.Ytgmpcbpmnimkoaa
open Go.Av

theorem low_q {n d:Int} (h:0<d):lowN n d=(Rat.divInt n d).num∧lowD n d=((Rat.divInt n d).den:Int):=by
 unfold lowN lowD lowG
 rw [if_neg (by omega),Rat.num_divInt,Rat.den_divInt,if_neg (by omega),Int.gcd_comm d n,Int.sign_eq_one_of_pos h,Int.one_mul,Int.tdiv_eq_ediv_of_dvd (Int.gcd_dvd_left _ _),Int.tdiv_eq_ediv_of_dvd (Int.gcd_dvd_right _ _),Int.natCast_ediv,Int.natAbs_of_nonneg (by omega)]
 exact ⟨rfl,rfl⟩
theorem one_q {p q:Int} (h:0<q) (hg:Int.gcd p q=1):(Rat.divInt p q).num=p∧((Rat.divInt p q).den:Int)=q:=by
 rw [Rat.num_divInt,Rat.den_divInt,if_neg (by omega),Int.gcd_comm q p,hg,Int.sign_eq_one_of_pos h]
 simp;omega
theorem low_eq {n d p q:Int} (hd:0<d) (hq:0<q) (hg:Int.gcd p q=1):(lowN n d=p∧lowD n d=q) ↔ Rat.divInt p q=Rat.divInt n d:=by
 obtain ⟨h1,h2⟩:=low_q (n:=n) hd
 obtain ⟨h3,h4⟩:=one_q hq hg
 rw [h1,h2]
 constructor
 ·rintro ⟨g1,g2⟩
  refine Rat.ext (by omega) (by omega)
 ·intro h
  rw [← h];exact ⟨h3,h4⟩
theorem q_den_pos (q:Rat):0<(q.den:Int):=by have:=q.den_nz;omega
theorem q_gcd (q:Rat):Int.gcd q.num q.den=1:=q.reduced
theorem low_one {n d:Int} (hd:0<d):0<lowD n d∧Int.gcd (lowN n d) (lowD n d)=1∧Rat.divInt (lowN n d) (lowD n d)=Rat.divInt n d:=by
 obtain ⟨h1,h2⟩:=low_q (n:=n) hd
 rw [h1,h2]
 exact ⟨q_den_pos _,q_gcd _,Rat.num_divInt_den _⟩
theorem low_small {n d M:Int} (hd:0<d) (hn : -M≤n∧n≤M) (hm:d≤M) : -M≤lowN n d∧lowN n d≤M∧1≤lowD n d∧lowD n d≤M:=by
 have h1:(lowN n d).natAbs≤n.natAbs:=by
  unfold lowN;rw [Int.natAbs_tdiv];exact Nat.div_le_self _ _
 have h2:(lowD n d).natAbs≤d.natAbs:=by
  unfold lowD;rw [Int.natAbs_tdiv];exact Nat.div_le_self _ _
 have h3:=(low_one (n:=n) hd).1
 omega
theorem q_div (n d:Int):((n:Int):Rat) / ((d:Int):Rat)=Rat.divInt n d:=(Rat.divInt_eq_div n d).symm
end Go.Proofs.Ytgmpcbpmnimkoaa

/- Pairs and their line: contracts of the code. Printed by genfa.py. By an AI agent;nothing here is trusted. -/
namespace Go.Proofs.Ytgmpcbpmnimkoaa
open Go.Av

def prA (p:Int × Int):AV:=.agg [.int .i64 p.1,.int .i64 p.2]
theorem divisor_s (a b:Int) (ha:S63 a) (hb:S63 b):Sound Try.prog 110 [.int .i64 a,.int .i64 b] (.int .i64 (Int.gcd a b)):=by
 refine sound_W f_watch_divisor (Nat.le_of_ble_eq_true rfl) ?_
 simp only [c_watch_divisor,vZ,Int.reduceEq,Int.reduceNe,Int.reduceLT,Int.reduceLE,Nat.reduceEqDiff,Nat.reduceAdd,reduceIte,reduceCtorEq,Nat.reduceLT,Nat.reduceLeDiff,Nat.reduceShiftRight,Nat.reduceMod]
 refine W_loop (α:=PSigma fun p:Int × Int=>S63 p.1∧S63 p.2∧Int.gcd p.1 p.2=Int.gcd a b) (fun p=>(envOf [(0,.int .i64 p.1.1),(1,.int .i64 p.1.2)],noStore)) (fun p=>p.1.2.natAbs) ⟨(a,b),ha,hb,rfl⟩ (weakE _ ?_) (fun ⟨p,h1,h2,h3⟩=>?_)
 ·simp only [vZ,Int.reduceEq,Int.reduceNe,Int.reduceLT,Int.reduceLE,Nat.reduceEqDiff,Nat.reduceAdd,reduceIte,reduceCtorEq,Nat.reduceLT,Nat.reduceLeDiff,Nat.reduceShiftRight,Nat.reduceMod]
 ·obtain ⟨x,y⟩:=p
  simp only at h1 h2 h3
  simp only [vZ,Int.reduceEq,Int.reduceNe,Int.reduceLT,Int.reduceLE,Nat.reduceEqDiff,Nat.reduceAdd,reduceIte,reduceCtorEq,Nat.reduceLT,Nat.reduceLeDiff,Nat.reduceShiftRight,Nat.reduceMod]
  refine brB_split (fun h=>?_) (fun h=>?_)
  ·have hy:y ≠ 0:=by simpa using h
   obtain ⟨t1,t2⟩:=tmod_S (a:=x) h2 hy
   simp only [vZ,Int.reduceEq,Int.reduceNe,Int.reduceLT,Int.reduceLE,Nat.reduceEqDiff,Nat.reduceAdd,reduceIte,reduceCtorEq,Nat.reduceLT,Nat.reduceLeDiff,Nat.reduceShiftRight,Nat.reduceMod]
   refine ⟨hy,⟨(y,x.tmod y),h2,t1,(gcd_tmod x y).trans h3⟩,t2,weakE _ ?_⟩
   simp only [vZ,Int.reduceEq,Int.reduceNe,Int.reduceLT,Int.reduceLE,Nat.reduceEqDiff,Nat.reduceAdd,reduceIte,reduceCtorEq,Nat.reduceLT,Nat.reduceLeDiff,Nat.reduceShiftRight,Nat.reduceMod]
  ·have hy:y=0:=by simpa using h
   subst hy
   unfold S63 at h1
   simp only [max_neg,vZ,Int.reduceEq,Int.reduceNe,Int.reduceLT,Int.reduceLE,Nat.reduceEqDiff,Nat.reduceAdd,reduceIte,reduceCtorEq,Nat.reduceLT,Nat.reduceLeDiff,Nat.reduceShiftRight,Nat.reduceMod]
   refine ⟨by (simp only [decide_eq_true_eq,decide_eq_false_iff_not,Bool.not_true,I64,Bool.not_eq_true',Bool.not_eq_false',bne_iff_ne,beq_iff_eq,ne_eq] at *;omega),?_⟩
   rw [← h3];simp [Int.gcd]

theorem lowest_s (num den:Int) (hn:S63 num) (hd:S63 den) (h0:0<den):Sound Try.prog 108 [.int .i64 num,.int .i64 den] (fracA (lowN num den) (lowD num den)):=by
 refine sound_W f_watch_lowest (Nat.le_of_ble_eq_true rfl) ?_
 have hne:=lowG_ne (num:=num) (den:=den) (by omega)
 have t1:=tdiv_S (b:=lowG num den) hn
 have t2:=tdiv_S (b:=lowG num den) hd
 unfold lowG at t1 t2 hne
 unfold S63 at t1 t2
 rw [if_neg (by omega)] at t1 t2 hne
 simp only [c_watch_lowest,vZ,Int.reduceEq,Int.reduceNe,Int.reduceLT,Int.reduceLE,Nat.reduceEqDiff,Nat.reduceAdd,reduceIte,reduceCtorEq,Nat.reduceLT,Nat.reduceLeDiff,Nat.reduceShiftRight,Nat.reduceMod]
 refine callS_of (divisor_s num den hn hd) ?_
 simp only [vZ,Int.reduceEq,Int.reduceNe,Int.reduceLT,Int.reduceLE,Nat.reduceEqDiff,Nat.reduceAdd,reduceIte,reduceCtorEq,Nat.reduceLT,Nat.reduceLeDiff,Nat.reduceShiftRight,Nat.reduceMod]
 refine ⟨hne,by (simp only [decide_eq_true_eq,decide_eq_false_iff_not,Bool.not_true,I64,Bool.not_eq_true',Bool.not_eq_false',bne_iff_ne,beq_iff_eq,ne_eq] at *;omega),hne,by (simp only [decide_eq_true_eq,decide_eq_false_iff_not,Bool.not_true,I64,Bool.not_eq_true',Bool.not_eq_false',bne_iff_ne,beq_iff_eq,ne_eq] at *;omega),?_⟩
 unfold fracA lowN lowD lowG
 rw [if_neg (by omega)]

theorem isSized_s (n most:Int) (hm:S63 most):Sound Try.prog 145 [.int .i64 n,.int .i64 most] (.bool (decide (-most≤n∧n≤most))):=by
 refine sound_W f_watch_isSized (Nat.le_of_ble_eq_true rfl) ?_
 unfold S63 at hm
 simp only [c_watch_isSized,vZ,Int.reduceEq,Int.reduceNe,Int.reduceLT,Int.reduceLE,Nat.reduceEqDiff,Nat.reduceAdd,reduceIte,reduceCtorEq,Nat.reduceLT,Nat.reduceLeDiff,Nat.reduceShiftRight,Nat.reduceMod]
 refine ⟨by (simp only [decide_eq_true_eq,decide_eq_false_iff_not,Bool.not_true,I64,Bool.not_eq_true',Bool.not_eq_false',bne_iff_ne,beq_iff_eq,ne_eq] at *;omega),?_⟩
 refine callS_of (within_s _ _ _) ?_
 simp only [vZ,Int.reduceEq,Int.reduceNe,Int.reduceLT,Int.reduceLE,Nat.reduceEqDiff,Nat.reduceAdd,reduceIte,reduceCtorEq,Nat.reduceLT,Nat.reduceLeDiff,Nat.reduceShiftRight,Nat.reduceMod]

theorem fx1_immL:∀ {caps:List AV},(∀ c ∈ caps,fx1 c=true)→immL caps=true
 | [],_=>rfl
 | c :: r,h=>by
  have ih:=fx1_immL (caps:=r) fun x hx=>h x (List.mem_cons_of_mem _ hx)
  have h0:=h c List.mem_cons_self
  cases c <;> simp [fx1] at h0 <;> simp [immL,ih]
theorem idxFunc_pr_s (l:List (Int × Int)) (f:FuncId) (caps:List AV) (p:Int × Int→Bool) (hl:l.length<4000000000000000000) (hc:∀ c ∈ caps,fx1 c=true)
  (hp:∀ x ∈ l,Sound Try.prog f (prA x :: caps) (.bool (p x))):Sound Try.prog 143 [.sl (prs l),.fn f caps] (.int .i64 (idxOf l p)):=by
 refine sound_W f_slices_IndexFunc_api_WatchPair_api_WatchPair (Nat.le_of_ble_eq_true rfl) ?_
 simp only [c_slices_IndexFunc_api_WatchPair_api_WatchPair,prs_length,vZ,Int.reduceEq,Int.reduceNe,Int.reduceLT,Int.reduceLE,Nat.reduceEqDiff,Nat.reduceAdd,reduceIte,reduceCtorEq,Nat.reduceLT,Nat.reduceLeDiff,Nat.reduceShiftRight,Nat.reduceMod]
 refine W_loop (t:=.mk) (α:=PSigma fun i:Nat=>i≤l.length∧∀ x ∈ l.take i,p x=false) (fun i=>(envOf [(0,.sl (prs l)),(1,.fn f caps),(6,.sl (prs l)),(7,.int .i64 l.length),(8,.int .i64 i.1)],stOf [])) (fun i=>l.length - i.1) ⟨0,by simp⟩ ?_ (fun ⟨i,hi,hn⟩=>?_)
 ·have himm:=fx1_immL hc
  refine weakX [] (of_decide_eq_true rfl) (of_decide_eq_true rfl) ?_
  (simp only [himm,vcW,vZ,Int.reduceEq,Int.reduceNe,Int.reduceLT,Int.reduceLE,Nat.reduceEqDiff,Nat.reduceAdd,reduceIte,reduceCtorEq,Nat.reduceLT,Nat.reduceLeDiff,Nat.reduceShiftRight,Nat.reduceMod])
  (repeat' first | exact trivial | (with_reducible first | exact RnB.fxB (ints_fxB _) | rfl | refine And.intro ?_ ?_) | (with_reducible (first | refine RnB.bb ?_ | refine RnB.nb ?_);simp only [vcW,vZ,Int.reduceEq,Int.reduceNe,Int.reduceLT,Int.reduceLE,Nat.reduceEqDiff,Nat.reduceAdd,reduceIte,reduceCtorEq,Nat.reduceLT,Nat.reduceLeDiff,Nat.reduceShiftRight,Nat.reduceMod]) | (with_reducible first | refine RnB.ii ?_ | refine RnB.app ?_) | (with_reducible refine RnB.fxB ?_;simp only [vcW,vZ,Int.reduceEq,Int.reduceNe,Int.reduceLT,Int.reduceLE,Nat.reduceEqDiff,Nat.reduceAdd,reduceIte,reduceCtorEq,Nat.reduceLT,Nat.reduceLeDiff,Nat.reduceShiftRight,Nat.reduceMod]) | omega)
 ·simp only [vZ,Int.reduceEq,Int.reduceNe,Int.reduceLT,Int.reduceLE,Nat.reduceEqDiff,Nat.reduceAdd,reduceIte,reduceCtorEq,Nat.reduceLT,Nat.reduceLeDiff,Nat.reduceShiftRight,Nat.reduceMod]
  refine brB_split (fun h=>?_) (fun h=>?_)
  ·have h':i<l.length:=by (simp only [decide_eq_true_eq,decide_eq_false_iff_not,Bool.not_true,I64,Bool.not_eq_true',Bool.not_eq_false',bne_iff_ne,beq_iff_eq,ne_eq] at *;omega)
   clear h
   have hg:=prs_get l i h'
   have hpx:=hp _ (List.getElem_mem h')
   have hra:prA l[i]=.agg [.int .i64 l[i].1,.int .i64 l[i].2]:=rfl
   rw [hra] at hpx
   simp only [hg,vZ,Int.reduceEq,Int.reduceNe,Int.reduceLT,Int.reduceLE,Nat.reduceEqDiff,Nat.reduceAdd,reduceIte,reduceCtorEq,Nat.reduceLT,Nat.reduceLeDiff,Nat.reduceShiftRight,Nat.reduceMod]
   (repeat (with_reducible refine And.intro ?_ ?_;focus (first | omega | (unfold I64;omega))))
   simp only [List.map_append,List.cons_append,List.nil_append,map_fx1 hc,vZ,Int.reduceEq,Int.reduceNe,Int.reduceLT,Int.reduceLE,Nat.reduceEqDiff,Nat.reduceAdd,reduceIte,reduceCtorEq,Nat.reduceLT,Nat.reduceLeDiff,Nat.reduceShiftRight,Nat.reduceMod]
   refine callS_of hpx ?_
   simp only [vZ,Int.reduceEq,Int.reduceNe,Int.reduceLT,Int.reduceLE,Nat.reduceEqDiff,Nat.reduceAdd,reduceIte,reduceCtorEq,Nat.reduceLT,Nat.reduceLeDiff,Nat.reduceShiftRight,Nat.reduceMod]
   refine brB_split (fun h=>?_) (fun h=>?_)
   ·simp only [vZ,Int.reduceEq,Int.reduceNe,Int.reduceLT,Int.reduceLE,Nat.reduceEqDiff,Nat.reduceAdd,reduceIte,reduceCtorEq,Nat.reduceLT,Nat.reduceLeDiff,Nat.reduceShiftRight,Nat.reduceMod]
    have hs:l.findIdx? p=some i:=by
     rw [List.findIdx?_eq_some_iff_getElem]
     refine ⟨h',h,fun j hj=>?_⟩
     have:=hn l[j] (by rw [List.mem_take_iff_getElem];exact ⟨j,by omega,rfl⟩)
     simp [this]
    simp [idxOf,hs]
   ·simp only [vZ,Int.reduceEq,Int.reduceNe,Int.reduceLT,Int.reduceLE,Nat.reduceEqDiff,Nat.reduceAdd,reduceIte,reduceCtorEq,Nat.reduceLT,Nat.reduceLeDiff,Nat.reduceShiftRight,Nat.reduceMod]
    (repeat (with_reducible refine And.intro ?_ ?_;focus (first | omega | (unfold I64;omega))))
    refine ⟨⟨i+1,h',?_⟩,by simp only;omega,?_⟩
    ·rw [List.take_succ_eq_append_getElem h']
     intro x hx
     rcases List.mem_append.1 hx with hx | hx
     ·exact hn x hx
     ·simp at hx;rw [hx];exact h
    ·have himm:=fx1_immL hc
     refine weakX [] (of_decide_eq_true rfl) (of_decide_eq_true rfl) ?_
     (simp only [himm,vcW,vZ,Int.reduceEq,Int.reduceNe,Int.reduceLT,Int.reduceLE,Nat.reduceEqDiff,Nat.reduceAdd,reduceIte,reduceCtorEq,Nat.reduceLT,Nat.reduceLeDiff,Nat.reduceShiftRight,Nat.reduceMod])
     (repeat' first | exact trivial | (with_reducible first | exact RnB.fxB (ints_fxB _) | rfl | refine And.intro ?_ ?_) | (with_reducible (first | refine RnB.bb ?_ | refine RnB.nb ?_);simp only [vcW,vZ,Int.reduceEq,Int.reduceNe,Int.reduceLT,Int.reduceLE,Nat.reduceEqDiff,Nat.reduceAdd,reduceIte,reduceCtorEq,Nat.reduceLT,Nat.reduceLeDiff,Nat.reduceShiftRight,Nat.reduceMod]) | (with_reducible first | refine RnB.ii ?_ | refine RnB.app ?_) | (with_reducible refine RnB.fxB ?_;simp only [vcW,vZ,Int.reduceEq,Int.reduceNe,Int.reduceLT,Int.reduceLE,Nat.reduceEqDiff,Nat.reduceAdd,reduceIte,reduceCtorEq,Nat.reduceLT,Nat.reduceLeDiff,Nat.reduceShiftRight,Nat.reduceMod]) | omega)
  ·simp only [vZ,Int.reduceEq,Int.reduceNe,Int.reduceLT,Int.reduceLE,Nat.reduceEqDiff,Nat.reduceAdd,reduceIte,reduceCtorEq,Nat.reduceLT,Nat.reduceLeDiff,Nat.reduceShiftRight,Nat.reduceMod]
   have:i=l.length:=by (simp only [decide_eq_true_eq,decide_eq_false_iff_not,Bool.not_true,I64,Bool.not_eq_true',Bool.not_eq_false',bne_iff_ne,beq_iff_eq,ne_eq] at *;omega)
   subst this
   rw [List.take_length] at hn
   have hs:l.findIdx? p=none:=List.findIdx?_eq_none_iff.2 hn
   simp [idxOf,hs]
theorem contFunc_pr_s (l:List (Int × Int)) (f:FuncId) (caps:List AV) (p:Int × Int→Bool) (hl:l.length<4000000000000000000) (hc:∀ c ∈ caps,fx1 c=true)
  (hp:∀ x ∈ l,Sound Try.prog f (prA x :: caps) (.bool (p x))):Sound Try.prog 105 [.sl (prs l),.fn f caps] (.bool (l.any p)):=by
 refine sound_W f_slices_ContainsFunc_api_WatchPair_api_WatchPair (Nat.le_of_ble_eq_true rfl) ?_
 simp only [c_slices_ContainsFunc_api_WatchPair_api_WatchPair,map_fx1 hc,vcC,Int.reduceEq,Int.reduceNe,Int.reduceLT,Int.reduceLE,Nat.reduceEqDiff,Nat.reduceAdd,reduceIte,reduceCtorEq,Nat.reduceLT,Nat.reduceLeDiff,eq_self,vcP]
 refine callS_of (idxFunc_pr_s l f caps p hl hc hp) ?_
 simp only [vcC,Int.reduceEq,Int.reduceNe,Int.reduceLT,Int.reduceLE,Nat.reduceEqDiff,Nat.reduceAdd,reduceIte,reduceCtorEq,Nat.reduceLT,Nat.reduceLeDiff,eq_self,vcP]
 rw [idxOf_any]

def okP (p:Int × Int):Bool:=decide (0≤p.1∧p.1≤100) && decide (0≤p.2∧p.2≤100)
theorem okP_iff {p:Int × Int}:okP p=true ↔ (0≤p.1∧p.1≤100)∧0≤p.2∧p.2≤100:=by simp [okP,and_assoc]
theorem pairsErr_1_s (p:Int × Int):Sound Try.prog 106 [prA p] (.bool (!okP p)):=by
 refine sound_W f_watch_pairsErr_1 (Nat.le_of_ble_eq_true rfl) ?_
 have h:=odd_s [p.1,p.2] 100 (by simp)
 have e:ints [p.1,p.2]=[.int .i64 p.1,.int .i64 p.2]:=rfl
 have e2:(!([p.1,p.2].all fun n=>decide (0≤n∧n≤100)))=!okP p:=by simp [okP]
 rw [e,e2] at h
 simp only [c_watch_pairsErr_1,prA,vZ,Int.reduceEq,Int.reduceNe,Int.reduceLT,Int.reduceLE,Nat.reduceEqDiff,Nat.reduceAdd,reduceIte,reduceCtorEq,Nat.reduceLT,Nat.reduceLeDiff,Nat.reduceShiftRight,Nat.reduceMod]
 refine callS_of h ?_
 simp only [vZ,Int.reduceEq,Int.reduceNe,Int.reduceLT,Int.reduceLE,Nat.reduceEqDiff,Nat.reduceAdd,reduceIte,reduceCtorEq,Nat.reduceLT,Nat.reduceLeDiff,Nat.reduceShiftRight,Nat.reduceMod]
def prE (l:List (Int × Int)):Int:=if l.length<2 then 10 else if 20<l.length then 8 else if l.all okP then 0 else 2
theorem prE_ok {l:List (Int × Int)} (h:prE l=0):(2≤l.length∧l.length≤20)∧∀ p ∈ l,(0≤p.1∧p.1≤100)∧0≤p.2∧p.2≤100:=by
 unfold prE at h
 split at h
 ·cases h
 ·split at h
  ·cases h
  ·split at h
   ·rename_i h3
    exact ⟨by omega,fun p hp=>okP_iff.1 (List.all_eq_true.1 h3 p hp)⟩
   ·cases h
theorem pairsErr_s (l:List (Int × Int)) (hl:l.length<4000000000000000000):Sound Try.prog 44 [.sl (prs l)] (.int .i64 (prE l)):=by
 refine sound_W f_watch_pairsErr (Nat.le_of_ble_eq_true rfl) ?_
 have hF:=contFunc_pr_s l 106 [] (fun p=>!okP p) hl (by simp) (fun x _=>pairsErr_1_s x)
 have hany:(!l.any fun p=>!okP p)=l.all okP:=by rw [List.not_any_eq_all_not];simp only [Bool.not_not]
 have h3:=first3_s (if decide ((2:Int)≤l.length)=true then 0 else 10) (if decide ((l.length:Int)≤20)=true then 0 else 8) (if l.all okP=true then 0 else 2)
 have hE:(if (if decide ((2:Int)≤l.length)=true then (0:Int) else 10) ≠ 0 then (if decide ((2:Int)≤l.length)=true then (0:Int) else 10) else if (if decide ((l.length:Int)≤20)=true then (0:Int) else 8) ≠ 0 then (if decide ((l.length:Int)≤20)=true then (0:Int) else 8) else (if l.all okP=true then (0:Int) else 2))=prE l:=by
  unfold prE
  by_cases h1:l.length<2
  ·have h1':¬ (2:Int)≤l.length:=by omega
   simp [h1,h1']
  ·have h1':(2:Int)≤l.length:=by omega
   by_cases h2:20<l.length
   ·have h2':¬ (l.length:Int)≤20:=by omega
    simp [h1,h1',h2,h2']
   ·have h2':(l.length:Int)≤20:=by omega
    simp [h1,h1',h2,h2']
 rw [hE] at h3
 simp only [c_watch_pairsErr,vZ,Int.reduceEq,Int.reduceNe,Int.reduceLT,Int.reduceLE,Nat.reduceEqDiff,Nat.reduceAdd,reduceIte,reduceCtorEq,Nat.reduceLT,Nat.reduceLeDiff,Nat.reduceShiftRight,Nat.reduceMod]
 refine callS_of hF ?_
 simp only [prs_length,vZ,Int.reduceEq,Int.reduceNe,Int.reduceLT,Int.reduceLE,Nat.reduceEqDiff,Nat.reduceAdd,reduceIte,reduceCtorEq,Nat.reduceLT,Nat.reduceLeDiff,Nat.reduceShiftRight,Nat.reduceMod]
 refine callS_of (unless_s _ _) ?_
 simp only [prs_length,vZ,Int.reduceEq,Int.reduceNe,Int.reduceLT,Int.reduceLE,Nat.reduceEqDiff,Nat.reduceAdd,reduceIte,reduceCtorEq,Nat.reduceLT,Nat.reduceLeDiff,Nat.reduceShiftRight,Nat.reduceMod]
 refine callS_of (unless_s _ _) ?_
 simp only [prs_length,hany,vZ,Int.reduceEq,Int.reduceNe,Int.reduceLT,Int.reduceLE,Nat.reduceEqDiff,Nat.reduceAdd,reduceIte,reduceCtorEq,Nat.reduceLT,Nat.reduceLeDiff,Nat.reduceShiftRight,Nat.reduceMod]
 refine callS_of (unless_s _ _) ?_
 simp only [vZ,Int.reduceEq,Int.reduceNe,Int.reduceLT,Int.reduceLE,Nat.reduceEqDiff,Nat.reduceAdd,reduceIte,reduceCtorEq,Nat.reduceLT,Nat.reduceLeDiff,Nat.reduceShiftRight,Nat.reduceMod]
 refine callS_of h3 ?_
 simp only [vZ,Int.reduceEq,Int.reduceNe,Int.reduceLT,Int.reduceLE,Nat.reduceEqDiff,Nat.reduceAdd,reduceIte,reduceCtorEq,Nat.reduceLT,Nat.reduceLeDiff,Nat.reduceShiftRight,Nat.reduceMod]
def fitA4 (a b c d:Int):AV:=.agg [.int .i64 a,.int .i64 b,.int .i64 c,.int .i64 d]
def fN1 (l:List (Int × Int)):Int:=l.length * Ln.sxy l - Ln.sx l * Ln.sy l
def fN2 (l:List (Int × Int)):Int:=Ln.sy l * Ln.sxx l - Ln.sx l * Ln.sxy l
def fitL (l:List (Int × Int)):AV:=fitA4 (lowN (fN1 l) (Ln.den l)) (lowD (fN1 l) (Ln.den l)) (lowN (fN2 l) (Ln.den l)) (lowD (fN2 l) (Ln.den l))
def lineA (l:List (Int × Int)):List AV:=if Ln.den l=0 then [fitA4 0 0 0 0,.bool false] else [fitL l,.bool true]
structure Sums (l:List (Int × Int)) (n:Nat):Prop where
 x:0≤Ln.sx (l.take n)∧Ln.sx (l.take n)≤2000
 y:0≤Ln.sy (l.take n)∧Ln.sy (l.take n)≤2000
 xx:0≤Ln.sxx (l.take n)∧Ln.sxx (l.take n)≤200000
 xy:0≤Ln.sxy (l.take n)∧Ln.sxy (l.take n)≤200000
theorem sums_ok {l:List (Int × Int)} (h:prE l=0) (n:Nat):Sums l n:=by
 obtain ⟨⟨_,h20⟩,hb⟩:=prE_ok h
 have hl:(l.take n).length≤20:=by rw [List.length_take];omega
 have hm:∀ p ∈ l.take n,(0≤p.1∧p.1≤100)∧0≤p.2∧p.2≤100:=fun p hp=>hb p (List.mem_of_mem_take hp)
 have mul:∀ {a b:Int},0≤a→a≤100→0≤b→b≤100→0≤a * b∧a * b≤10000:=fun {a b} h1 h2 h3 h4=>⟨Int.mul_nonneg h1 h3,Int.le_trans (Int.mul_le_mul h2 h4 h3 (by omega)) (by omega)⟩
 have a1:=Ln.pS_le (f:=fun p=>p.1) (l:=l.take n) (M:=100) fun p hp=>(hm p hp).1
 have a2:=Ln.pS_le (f:=fun p=>p.2) (l:=l.take n) (M:=100) fun p hp=>(hm p hp).2
 have a3:=Ln.pS_le (f:=fun p=>p.1 * p.1) (l:=l.take n) (M:=10000) fun p hp=>mul (hm p hp).1.1 (hm p hp).1.2 (hm p hp).1.1 (hm p hp).1.2
 have a4:=Ln.pS_le (f:=fun p=>p.1 * p.2) (l:=l.take n) (M:=10000) fun p hp=>mul (hm p hp).1.1 (hm p hp).1.2 (hm p hp).2.1 (hm p hp).2.2
 exact ⟨by unfold Ln.sx;omega,by unfold Ln.sy;omega,by unfold Ln.sxx;omega,by unfold Ln.sxy;omega⟩
theorem mul_bd {a b A B:Int} (ha:0≤a∧a≤A) (hb:0≤b∧b≤B):0≤a * b∧a * b≤A * B:=⟨Int.mul_nonneg ha.1 hb.1,Int.mul_le_mul ha.2 hb.2 hb.1 (Int.le_trans ha.1 ha.2)⟩
theorem line_bd {l:List (Int × Int)} (h:prE l=0):(0≤l.length * Ln.sxx l∧l.length * Ln.sxx l≤4000000)∧(0≤Ln.sx l * Ln.sx l∧Ln.sx l * Ln.sx l≤4000000)∧(0≤l.length * Ln.sxy l∧l.length * Ln.sxy l≤4000000)∧(0≤Ln.sx l * Ln.sy l∧Ln.sx l * Ln.sy l≤4000000) ∧
  (0≤Ln.sy l * Ln.sxx l∧Ln.sy l * Ln.sxx l≤400000000)∧(0≤Ln.sx l * Ln.sxy l∧Ln.sx l * Ln.sxy l≤400000000):=by
 have S:=sums_ok h l.length
 obtain ⟨⟨_,h20⟩,_⟩:=prE_ok h
 have hx:=S.x
 have hy:=S.y
 have hxx:=S.xx
 have hxy:=S.xy
 rw [List.take_length] at hx hy hxx hxy
 exact ⟨mul_bd (A:=20) (B:=200000) (by omega) hxx,mul_bd (A:=2000) (B:=2000) hx hx,mul_bd (A:=20) (B:=200000) (by omega) hxy,mul_bd (A:=2000) (B:=2000) hx hy,mul_bd (A:=2000) (B:=200000) hy hxx,mul_bd (A:=2000) (B:=200000) hx hxy⟩
set_option maxHeartbeats 4000000 in
theorem line_s (l:List (Int × Int)) (h:prE l=0):Sound Try.prog 45 [.sl (prs l)] (.tup (lineA l)):=by
 refine sound_W f_watch_line (Nat.le_of_ble_eq_true rfl) ?_
 obtain ⟨⟨h2,h20⟩,hb⟩:=prE_ok h
 simp only [c_watch_line,prs_length,vZ,Int.reduceEq,Int.reduceNe,Int.reduceLT,Int.reduceLE,Nat.reduceEqDiff,Nat.reduceAdd,reduceIte,reduceCtorEq,Nat.reduceLT,Nat.reduceLeDiff,Nat.reduceShiftRight,Nat.reduceMod]
 refine W_loop (t:=.mk) (α:=PSigma fun i:Nat=>i≤l.length) (fun ⟨i,_⟩=>(envOf [(0,.sl (prs l)),(2,.ptr 2 0 0),(4,.int .i64 (Ln.sx (l.take i))),(5,.int .i64 (Ln.sy (l.take i))),(6,.int .i64 (Ln.sxx (l.take i))),(7,.int .i64 (Ln.sxy (l.take i))),(11,.sl (prs l)),(12,.int .i64 (l.length:Nat)),(13,.int .i64 (i:Nat))],stOf [(2,⟨31,4,[.agg [.int .i64 0,.int .i64 0,.int .i64 0,.int .i64 0]]⟩)])) (fun x=>l.length - x.1) ⟨0,Nat.zero_le _⟩ ?_ (fun ⟨i,hi⟩=>?_)
 ·have z1:Ln.sx (l.take 0)=0:=rfl
  have z2:Ln.sy (l.take 0)=0:=rfl
  have z3:Ln.sxx (l.take 0)=0:=rfl
  have z4:Ln.sxy (l.take 0)=0:=rfl
  refine weakX [] (of_decide_eq_true rfl) (of_decide_eq_true rfl) ?_
  (simp only [z1,z2,z3,z4,vcW,vZ,Int.reduceEq,Int.reduceNe,Int.reduceLT,Int.reduceLE,Nat.reduceEqDiff,Nat.reduceAdd,reduceIte,reduceCtorEq,Nat.reduceLT,Nat.reduceLeDiff,Nat.reduceShiftRight,Nat.reduceMod])
  (repeat' first | exact trivial | (with_reducible first | exact RnB.fxB (ints_fxB _) | rfl | refine And.intro ?_ ?_) | (with_reducible (first | refine RnB.bb ?_ | refine RnB.nb ?_);simp only [vcW,vZ,Int.reduceEq,Int.reduceNe,Int.reduceLT,Int.reduceLE,Nat.reduceEqDiff,Nat.reduceAdd,reduceIte,reduceCtorEq,Nat.reduceLT,Nat.reduceLeDiff,Nat.reduceShiftRight,Nat.reduceMod]) | (with_reducible first | refine RnB.ii ?_ | refine RnB.app ?_) | (with_reducible refine RnB.fxB ?_;simp only [vcW,vZ,Int.reduceEq,Int.reduceNe,Int.reduceLT,Int.reduceLE,Nat.reduceEqDiff,Nat.reduceAdd,reduceIte,reduceCtorEq,Nat.reduceLT,Nat.reduceLeDiff,Nat.reduceShiftRight,Nat.reduceMod]) | omega)
  all_goals first | rfl | trace_state
 ·dsimp only at hi ⊢
  by_cases h':i<l.length
  ·have hc1:(i:Int)<l.length:=by omega
   have hg:=prs_get l i h'
   have S:=sums_ok h i
   have S1:=sums_ok h (i+1)
   have t1:Ln.sx (l.take (i+1))=Ln.sx (l.take i)+l[i].1:=Ln.pS_take _ l h'
   have t2:Ln.sy (l.take (i+1))=Ln.sy (l.take i)+l[i].2:=Ln.pS_take _ l h'
   have t3:Ln.sxx (l.take (i+1))=Ln.sxx (l.take i)+l[i].1 * l[i].1:=Ln.pS_take _ l h'
   have t4:Ln.sxy (l.take (i+1))=Ln.sxy (l.take i)+l[i].1 * l[i].2:=Ln.pS_take _ l h'
   have b1:=S1.x
   have b2:=S1.y
   have b3:=S1.xx
   have b4:=S1.xy
   have c1:=S.xx
   have c2:=S.xy
   rw [t1] at b1
   rw [t2] at b2
   rw [t3] at b3
   rw [t4] at b4
   simp only [hc1,hg,prs_length,vZ,Int.reduceEq,Int.reduceNe,Int.reduceLT,Int.reduceLE,Nat.reduceEqDiff,Nat.reduceAdd,reduceIte,reduceCtorEq,Nat.reduceLT,Nat.reduceLeDiff,Nat.reduceShiftRight,Nat.reduceMod]
   (repeat (with_reducible refine And.intro ?_ ?_;focus (first | omega | (unfold I64;omega))))
   refine ⟨⟨i+1,h'⟩,by simp only;omega,?_⟩
   refine weakX [] (of_decide_eq_true rfl) (of_decide_eq_true rfl) ?_
   (simp only [t1,t2,t3,t4,vcW,vZ,Int.reduceEq,Int.reduceNe,Int.reduceLT,Int.reduceLE,Nat.reduceEqDiff,Nat.reduceAdd,reduceIte,reduceCtorEq,Nat.reduceLT,Nat.reduceLeDiff,Nat.reduceShiftRight,Nat.reduceMod])
   (repeat' first | exact trivial | (with_reducible first | exact RnB.fxB (ints_fxB _) | rfl | refine And.intro ?_ ?_) | (with_reducible (first | refine RnB.bb ?_ | refine RnB.nb ?_);simp only [vcW,vZ,Int.reduceEq,Int.reduceNe,Int.reduceLT,Int.reduceLE,Nat.reduceEqDiff,Nat.reduceAdd,reduceIte,reduceCtorEq,Nat.reduceLT,Nat.reduceLeDiff,Nat.reduceShiftRight,Nat.reduceMod]) | (with_reducible first | refine RnB.ii ?_ | refine RnB.app ?_) | (with_reducible refine RnB.fxB ?_;simp only [vcW,vZ,Int.reduceEq,Int.reduceNe,Int.reduceLT,Int.reduceLE,Nat.reduceEqDiff,Nat.reduceAdd,reduceIte,reduceCtorEq,Nat.reduceLT,Nat.reduceLeDiff,Nat.reduceShiftRight,Nat.reduceMod]) | omega)
   all_goals first | rfl | trace_state
  ·have hil:i=l.length:=by omega
   subst hil
   have hc1:¬ (l.length:Int)<l.length:=by omega
   obtain ⟨m1,m2,m3,m4,m5,m6⟩:=line_bd h
   have hd:Ln.den l=l.length * Ln.sxx l - Ln.sx l * Ln.sx l:=rfl
   have hnn:=Ln.den_nn l
   rw [List.take_length]
   by_cases hz:Ln.den l=0
   ·have hz':(l.length:Int) * Ln.sxx l - Ln.sx l * Ln.sx l=0:=by rw [← hd];exact hz
    have hr:lineA l=[fitA4 0 0 0 0,.bool false]:=by unfold lineA;rw [if_pos hz]
    rw [hr]
    simp only [hc1,prs_length,hz',fitA4,vZ,Int.reduceEq,Int.reduceNe,Int.reduceLT,Int.reduceLE,Nat.reduceEqDiff,Nat.reduceAdd,reduceIte,reduceCtorEq,Nat.reduceLT,Nat.reduceLeDiff,Nat.reduceShiftRight,Nat.reduceMod]
    (repeat (with_reducible refine And.intro ?_ ?_;focus (first | omega | (unfold I64;omega))))
    all_goals (unfold I64;omega)
   ·have hz':¬ (l.length:Int) * Ln.sxx l - Ln.sx l * Ln.sx l=0:=by rw [← hd];exact hz
    have hr:lineA l=[fitL l,.bool true]:=by unfold lineA;rw [if_neg hz]
    have L1:=lowest_s (fN1 l) (Ln.den l) (by unfold S63 fN1;omega) (by unfold S63;omega) (by omega)
    have L2:=lowest_s (fN2 l) (Ln.den l) (by unfold S63 fN2;omega) (by unfold S63;omega) (by omega)
    rw [hr]
    unfold fitL fitA4
    unfold fracA at L1 L2
    generalize lowN (fN1 l) (Ln.den l)=u1 at *
    generalize lowD (fN1 l) (Ln.den l)=u2 at *
    generalize lowN (fN2 l) (Ln.den l)=u3 at *
    generalize lowD (fN2 l) (Ln.den l)=u4 at *
    unfold fN1 at L1
    unfold fN2 at L2
    rw [hd] at L1 L2
    simp only [hc1,prs_length,hz',vZ,Int.reduceEq,Int.reduceNe,Int.reduceLT,Int.reduceLE,Nat.reduceEqDiff,Nat.reduceAdd,reduceIte,reduceCtorEq,Nat.reduceLT,Nat.reduceLeDiff,Nat.reduceShiftRight,Nat.reduceMod]
    (repeat (with_reducible refine And.intro ?_ ?_;focus (first | omega | (unfold I64;omega))))
    refine callS_of L1 ?_
    simp only [vZ,Int.reduceEq,Int.reduceNe,Int.reduceLT,Int.reduceLE,Nat.reduceEqDiff,Nat.reduceAdd,reduceIte,reduceCtorEq,Nat.reduceLT,Nat.reduceLeDiff,Nat.reduceShiftRight,Nat.reduceMod]
    (repeat (with_reducible refine And.intro ?_ ?_;focus (first | omega | (unfold I64;omega))))
    refine callS_of L2 ?_
    simp only [vZ,Int.reduceEq,Int.reduceNe,Int.reduceLT,Int.reduceLE,Nat.reduceEqDiff,Nat.reduceAdd,reduceIte,reduceCtorEq,Nat.reduceLT,Nat.reduceLeDiff,Nat.reduceShiftRight,Nat.reduceMod]
theorem wFitOf_s (l:List (Int × Int)) (hl:l.length<4000000000000000000):Sound Try.prog 11 [.sl (prs l)]
  (.tup (if prE l ≠ 0 then [fitA4 0 0 0 0,.int .i64 (prE l)] else if Ln.den l=0 then [fitA4 0 0 0 0,.int .i64 11] else [fitL l,.int .i64 0])):=by
 refine sound_W f_watch_FitOf (Nat.le_of_ble_eq_true rfl) ?_
 simp only [c_watch_FitOf,vZ,Int.reduceEq,Int.reduceNe,Int.reduceLT,Int.reduceLE,Nat.reduceEqDiff,Nat.reduceAdd,reduceIte,reduceCtorEq,Nat.reduceLT,Nat.reduceLeDiff,Nat.reduceShiftRight,Nat.reduceMod]
 refine callS_of (pairsErr_s l hl) ?_
 by_cases h:prE l=0
 case neg=>
  rw [if_pos h]
  simp only [h,fitA4,vZ,Int.reduceEq,Int.reduceNe,Int.reduceLT,Int.reduceLE,Nat.reduceEqDiff,Nat.reduceAdd,reduceIte,reduceCtorEq,Nat.reduceLT,Nat.reduceLeDiff,Nat.reduceShiftRight,Nat.reduceMod]
 have hL:=line_s l h
 rw [if_neg (by omega)]
 simp only [h,vZ,Int.reduceEq,Int.reduceNe,Int.reduceLT,Int.reduceLE,Nat.reduceEqDiff,Nat.reduceAdd,reduceIte,reduceCtorEq,Nat.reduceLT,Nat.reduceLeDiff,Nat.reduceShiftRight,Nat.reduceMod]
 refine callS_of hL ?_
 unfold lineA
 by_cases hz:Ln.den l=0
 ·rw [if_pos hz,if_pos hz]
  simp only [fitA4,vZ,Int.reduceEq,Int.reduceNe,Int.reduceLT,Int.reduceLE,Nat.reduceEqDiff,Nat.reduceAdd,reduceIte,reduceCtorEq,Nat.reduceLT,Nat.reduceLeDiff,Nat.reduceShiftRight,Nat.reduceMod]
 ·rw [if_neg hz,if_neg hz]
  simp only [fitL,fitA4,vZ,Int.reduceEq,Int.reduceNe,Int.reduceLT,Int.reduceLE,Nat.reduceEqDiff,Nat.reduceAdd,reduceIte,reduceCtorEq,Nat.reduceLT,Nat.reduceLeDiff,Nat.reduceShiftRight,Nat.reduceMod]
end Go.Proofs.Ytgmpcbpmnimkoaa

/- Contracts of functions without a body: bits.Add64,bits.Sub64. By an AI agent;nothing here is trusted. -/
namespace Go.Proofs.Ytgmpcbpmnimkoaa
open Go.Av
open Go.RowKit (Below)

theorem args3 {h:Array Obj} {ok:Nat→Prop} {cargs:Array Value} {a b c:Int} (hlen:cargs.size=3) (hargs:∀ (i:Nat) (x:AV),[AV.int .u64 a,.int .u64 b,.int .u64 c][i]?=some x→VR h ok noPlace noStore x (cargs.getD i undef)) :
  cargs=#[.int .u64 a,.int .u64 b,.int .u64 c]:=by
 have h0:=hargs 0 _ rfl
 have h1:=hargs 1 _ rfl
 have h2:=hargs 2 _ rfl
 have e0:cargs.getD 0 undef=.int .u64 a:=by generalize cargs.getD 0 undef=v at *;cases h0;rfl
 have e1:cargs.getD 1 undef=.int .u64 b:=by generalize cargs.getD 1 undef=v at *;cases h1;rfl
 have e2:cargs.getD 2 undef=.int .u64 c:=by generalize cargs.getD 2 undef=v at *;cases h2;rfl
 apply Array.ext
 ·simpa using hlen
 ·intro i hi1 hi2
  simp at hi2
  have:i=0∨i=1∨i=2:=by omega
  rcases this with rfl | rfl | rfl
  ·simpa [Array.getD,hi1] using e0
  ·simpa [Array.getD,hi1] using e1
  ·simpa [Array.getD,hi1] using e2
theorem tup2 {h:Array Obj} {ok:Nat→Prop} (a b:Int):VR h ok noPlace noStore (.tup [.int .u64 a,.int .u64 b]) (.tuple #[.int .u64 a,.int .u64 b]):=by
 refine .tup _ _ rfl fun i c hc=>?_
 match i with
 | 0=>simp at hc;subst hc;exact .int _ _
 | 1=>simp at hc;subst hc;exact .int _ _
 | i+2=>simp at hc
theorem Add64_s (x y c:Int) (hx:0≤x) (hy:0≤y) (hc:0≤c∧c≤1):Sound Try.prog 119 [.int .u64 x,.int .u64 y,.int .u64 c]
  (.tup [.int .u64 ((x+y+c) % 18446744073709551616),.int .u64 ((x+y+c) / 18446744073709551616)]):=by
 intro w ok cargs hok _ hlen hargs
 rw [args3 (by simpa using hlen) hargs]
 refine .inl ⟨_,w,?_,Below.refl _ _,tup2 _ _⟩
 rw [run_callFunc_extern Try.func119 (by kernel_rfl) (by kernel_rfl) (by kernel_rfl) (e:=add64Entry) (by kernel_rfl),run_add64 x y c hx hy hc.1 hc.2]
 rfl
theorem Sub64_s (x y b:Nat) (hb:b≤1):Sound Try.prog 120 [.int .u64 (x:Int),.int .u64 (y:Int),.int .u64 (b:Int)]
  (.tup [.int .u64 (((x+18446744073709551616 - y - b) % 18446744073709551616:Nat):Int),.int .u64 ((if x<y+b then 1 else 0:Nat):Int)]):=by
 intro w ok cargs hok _ hlen hargs
 rw [args3 (by simpa using hlen) hargs]
 refine .inl ⟨_,w,?_,Below.refl _ _,tup2 _ _⟩
 rw [run_callFunc_extern Try.func120 (by kernel_rfl) (by kernel_rfl) (by kernel_rfl) (e:=sub64Entry) (by kernel_rfl),run_sub64 x y b hb]
 rfl
end Go.Proofs.Ytgmpcbpmnimkoaa

/- Numbers of a sign and 128 bits. By an AI agent;nothing here is trusted. -/
namespace Go.Proofs.Ytgmpcbpmnimkoaa
open Go.Av

def wdA (b:Bool) (n:Nat):AV:=.agg [.bool b,.int .u64 ((n / 18446744073709551616:Nat):Int),.int .u64 ((n % 18446744073709551616:Nat):Int)]
def wdV (b:Bool) (n:Nat):Int:=if b then -(n:Int) else n
def W128 (n:Nat):Prop:=n<340282366920938463463374607431768211456
theorem u64_mod (n:Int):IntKind.u64.wrap n=n % 18446744073709551616:=by simp [IntKind.wrap,IntKind.bits,IntKind.signed]
theorem u64_wrap {n:Int} (h:0≤n∧n<18446744073709551616):IntKind.u64.wrap n=n:=by
 rw [u64_mod];omega
end Go.Proofs.Ytgmpcbpmnimkoaa

/- Products and sums of numbers of 128 bits. By an AI agent;nothing here is trusted. -/
namespace Go.Proofs.Ytgmpcbpmnimkoaa
open Go.Av

theorem and32 (x:Nat) (h:x<18446744073709551616):IntKind.u64.wrap ((((BitVec.ofInt IntKind.u64.bits (x:Int)) &&& (BitVec.ofInt IntKind.u64.bits 4294967295)).toNat:Nat):Int)=((x % 4294967296:Nat):Int):=by
 have h1:((BitVec.ofInt IntKind.u64.bits (x:Int)) &&& (BitVec.ofInt IntKind.u64.bits 4294967295)).toNat=x % 4294967296:=by
  rw [BitVec.toNat_and]
  have e1:(BitVec.ofInt IntKind.u64.bits (x:Int)).toNat=x:=by
   rw [BitVec.toNat_ofInt]
   show ((x:Int) % ((2 ^ 64:Nat):Int)).toNat=x
   omega
  have e2:(BitVec.ofInt IntKind.u64.bits 4294967295).toNat=2 ^ 32 - 1:=by decide
  rw [e1,e2,Nat.and_two_pow_sub_one_eq_mod]
 rw [h1,u64_mod]
 omega
theorem shr32 (x:Nat):(x:Int).fdiv (2 ^ min (Int.toNat 32) IntKind.u64.bits)=((x / 4294967296:Nat):Int):=by
 show (x:Int).fdiv 4294967296=_
 rw [Int.fdiv_eq_ediv_of_nonneg _ (by omega)]
 omega
theorem Mul64_s (x y:Nat) (hx:x<18446744073709551616) (hy:y<18446744073709551616):Sound Try.prog 118 [.int .u64 x,.int .u64 y] (.tup [.int .u64 ((x * y / 18446744073709551616:Nat):Int),.int .u64 ((x * y % 18446744073709551616:Nat):Int)]):=by
 refine sound_W f_math_bits_Mul64 (Nat.le_of_ble_eq_true rfl) ?_
 obtain ⟨m1,m2,m3,m4⟩:=Go.Lib.mul64_hi x y hx hy
 have ha:=Go.Lib.half_mul_le (a:=x / 4294967296) (b:=y / 4294967296) (by omega) (by omega)
 have hb:=Go.Lib.half_mul_le (a:=x / 4294967296) (b:=y % 4294967296) (by omega) (by omega)
 have hc:=Go.Lib.half_mul_le (a:=x % 4294967296) (b:=y / 4294967296) (by omega) (by omega)
 have hq:x * y / 18446744073709551616<18446744073709551616:=Nat.div_lt_of_lt_mul (Nat.mul_lt_mul'' hx hy)
 have wm:∀ a b:Nat,a * b<18446744073709551616→IntKind.u64.wrap ((a:Int) * b)=((a * b:Nat):Int):=fun a b h=>by rw [← Int.natCast_mul];exact u64_wrap (by omega)
 have wa:∀ a b:Nat,a+b<18446744073709551616→IntKind.u64.wrap ((a:Int)+b)=((a+b:Nat):Int):=fun a b h=>by rw [← Int.natCast_add];exact u64_wrap (by omega)
 have w9:IntKind.u64.wrap ((x:Int) * y)=((x * y % 18446744073709551616:Nat):Int):=by rw [u64_mod,← Int.natCast_mul];omega
 have a1:=and32 x hx
 have a2:=and32 y hy
 have s1:=shr32 x
 have s2:=shr32 y
 rw [← m4] at hq ⊢
 generalize x % 4294967296=x0 at *
 generalize x / 4294967296=x1 at *
 generalize y % 4294967296=y0 at *
 generalize y / 4294967296=y1 at *
 have w1:=wm x0 y0 m1
 have w2:=wm x1 y0 (by omega)
 have s3:=shr32 (x0 * y0)
 have w3:=wa (x1 * y0) (x0 * y0 / 4294967296) m2
 have a3:=and32 _ m2
 have s4:=shr32 (x1 * y0+x0 * y0 / 4294967296)
 generalize x1 * y0+x0 * y0 / 4294967296=u at *
 have w4:=wm x0 y1 (by omega)
 have w5:=wa (u % 4294967296) (x0 * y1) m3
 have s5:=shr32 (u % 4294967296+x0 * y1)
 generalize u % 4294967296+x0 * y1=v at *
 have w6:=wm x1 y1 (by omega)
 have w7:=wa (x1 * y1) (u / 4294967296) (by omega)
 have w8:=wa (x1 * y1+u / 4294967296) (v / 4294967296) (by omega)
 simp only [c_math_bits_Mul64,a1,a2,s1,s2,w1,w2,s3,w3,a3,s4,w4,w5,s5,w6,w7,w8,w9,vZ,Int.reduceEq,Int.reduceNe,Int.reduceLT,Int.reduceLE,Nat.reduceEqDiff,Nat.reduceAdd,reduceIte,reduceCtorEq,Nat.reduceLT,Nat.reduceLeDiff,Nat.reduceShiftRight,Nat.reduceMod]
end Go.Proofs.Ytgmpcbpmnimkoaa

/- Off the library's shelf: the laying of bits.Len64. Printed by lays.py. By an AI agent;nothing here is trusted. -/
namespace Go.Proofs.Ytgmpcbpmnimkoaa
def shRen:Go.Shelf.Ren:=⟨fun x=>match x with | 129=>170 | n=>n,fun x=>match x with | 3=>3 | 4=>4 | 5=>5 | 9=>9 | 46=>214 | 53=>117 | n=>n,fun x=>x⟩
set_option maxRecDepth 100000 in
theorem sh_f129:Try.prog.funcs[shRen.f 129]?=some (Go.Proofs.Body.n129 shRen):=by kernel_rfl
theorem sh_n129:Go.Proofs.Lays.n129 Try.prog shRen :=
 {mixed:=by kernel_rfl,
  f129:=sh_f129,
  t3:=Try.underlying3,
  a3:=Try.isAgg3,
  z3:=Try.sizeOf3,
  v3:=Try.zeroValue3,
  t4:=Try.underlying4,
  a4:=Try.isAgg4,
  z4:=Try.sizeOf4,
  v4:=Try.zeroValue4,
  t5:=Try.underlying5,
  a5:=Try.isAgg5,
  z5:=Try.sizeOf5,
  v5:=Try.zeroValue5,
  t9:=Try.underlying9,
  a9:=Try.isAgg9,
  z9:=Try.sizeOf9,
  v9:=Try.zeroValue9,
  t46:=Try.underlying214,
  a46:=Try.isAgg214,
  z46:=Try.sizeOf214,
  v46:=Try.zeroValue214,
  t53:=Try.underlying117,
  a53:=Try.isAgg117,
  z53:=Try.sizeOf117,
  v53:=Try.zeroValue117 }
end Go.Proofs.Ytgmpcbpmnimkoaa

/- Contracts off the library's shelf: lengths in bits,numerals. By an AI agent;nothing here is trusted. -/
namespace Go.Proofs.Ytgmpcbpmnimkoaa
open Go.Av
open Go.RowKit (Below)

theorem vr_int {h:Array Obj} {ok:Nat→Prop} {ρ:Nat→Option Nat} {σ:Store} {k:IntKind} {n:Int} {v:Value} (hv:VR h ok ρ σ (.int k n) v):v=.int k n:=by cases hv;rfl
theorem args_1 {cargs:Array Value} {v:Value} (hlen:cargs.size=1) (h0:cargs.getD 0 undef=v):cargs=#[v]:=by
 apply Array.ext
 ·simpa using hlen
 ·intro i hi1 hi2
  simp at hi2
  subst hi2
  simpa [Array.getD,hi1] using h0
theorem Len64_s (x:Nat) (hx:x<18446744073709551616):Sound Try.prog 170 [.int .u64 x] (.int .i64 (Lib.bitLen x)):=by
 intro w ok cargs hok _ hlen hargs
 rw [args_1 (by simpa using hlen) (vr_int (hargs 0 _ rfl))]
 refine .inr ⟨callFunc_enter Try.func170 (by kernel_rfl) rfl _,(Any.bits_Len64 sh_n129 (x:Int) w (by omega) (by omega)).mono fun e w' ⟨he,hw⟩=>⟨_,he,?_,?_⟩⟩
 ·rw [hw];exact Below.refl _ _
 ·simp only [Int.toNat_natCast];exact .int _ _
end Go.Proofs.Ytgmpcbpmnimkoaa

