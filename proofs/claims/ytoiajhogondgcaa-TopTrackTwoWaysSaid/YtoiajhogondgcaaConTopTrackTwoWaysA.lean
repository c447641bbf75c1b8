/- Parts that all chapters share. Contracts of small functions. By an AI agent; nothing here is trusted. -/
import Derived.Test.YtoiajhogondgcaaLayC
import Derived.Test.YtoiajhogondgcaaKode
import Derived.Test.YtoiajhogondgcaaLayD
set_option linter.defProp false
set_option linter.unusedSimpArgs false
set_option linter.unusedVariables false
namespace Go.Proofs.Ytoiajhogondgcaa
open Go.Av

abbrev i64 (n:Int):AV:=.int .i64 n
def firstErr (l:List Int):Int:=(l.find? (· ≠ 0)).getD 0

def idxOf {α:Type} (l:List α) (p:α→Bool):Int:=match l.findIdx? p with
 | some i=>i
 | none => -1

theorem map_fx1 {caps:List AV} (h:∀ c ∈ caps,fx1 c=true) (s:Store) (n:Nat):caps.map (bor s n)=caps:=by
 conv=>rhs;rw [← List.map_id caps]
 exact List.map_congr_left fun c hc=>(fx1_spec (h c hc)).2 s n

theorem idxFunc_int_s (l:List Int) (f:FuncId) (caps:List AV) (p:Int→Bool) (hl:l.length<4000000000000000000) (hc:∀ c ∈ caps,fx1 c=true)
  (hp:∀ x ∈ l,Sound Try.prog f (.int .i64 x :: caps) (.bool (p x))):Sound Try.prog 81 [.sl (ints l),.fn f caps] (.int .i64 (idxOf l p)):=by
 refine sound_W f_slices_IndexFunc_int_int (Nat.le_of_ble_eq_true rfl) ?_
 simp only [c_slices_IndexFunc_int_int,vcC,Int.reduceEq,Int.reduceNe,Int.reduceLT,Int.reduceLE,Nat.reduceEqDiff,Nat.reduceAdd,reduceIte,reduceCtorEq,Nat.reduceLT,Nat.reduceLeDiff,eq_self,vcP]
 refine W_loop (α:=PSigma fun i:Nat=>i≤l.length∧∀ x ∈ l.take i,p x=false) (fun i=>(envOf [(0,.sl (ints l)),(1,.fn f caps),(6,.sl (ints l)),(7,.int .i64 l.length),(8,.int .i64 i.1)],noStore)) (fun i=>l.length - i.1) ⟨0,by simp⟩ (weakE _ ?_) (fun ⟨i,hi,hn⟩=>?_)
 ·simp only [vcC,Int.reduceEq,Int.reduceNe,Int.reduceLT,Int.reduceLE,Nat.reduceEqDiff,Nat.reduceAdd,reduceIte,reduceCtorEq,Nat.reduceLT,Nat.reduceLeDiff,eq_self,vcP];rfl
 ·simp only [vcC,Int.reduceEq,Int.reduceNe,Int.reduceLT,Int.reduceLE,Nat.reduceEqDiff,Nat.reduceAdd,reduceIte,reduceCtorEq,Nat.reduceLT,Nat.reduceLeDiff,eq_self,vcP]
  refine brB_split (fun h=>?_) (fun h=>?_)
  ·have h':i<l.length:=by (simp only [decide_eq_true_eq,decide_eq_false_iff_not,Bool.not_true,I64,Bool.not_eq_true',Bool.not_eq_false',bne_iff_ne,beq_iff_eq,ne_eq] at *;omega)
   simp only [ints_get l i h',vcC,Int.reduceEq,Int.reduceNe,Int.reduceLT,Int.reduceLE,Nat.reduceEqDiff,Nat.reduceAdd,reduceIte,reduceCtorEq,Nat.reduceLT,Nat.reduceLeDiff,eq_self,vcP]
   refine ⟨by omega,?_⟩
   simp only [List.map_append,List.cons_append,List.nil_append,map_fx1 hc,vcC,Int.reduceEq,Int.reduceNe,Int.reduceLT,Int.reduceLE,Nat.reduceEqDiff,Nat.reduceAdd,reduceIte,reduceCtorEq,Nat.reduceLT,Nat.reduceLeDiff,eq_self,vcP]
   refine callS_of (hp _ (List.getElem_mem h')) ?_
   simp only [vcC,Int.reduceEq,Int.reduceNe,Int.reduceLT,Int.reduceLE,Nat.reduceEqDiff,Nat.reduceAdd,reduceIte,reduceCtorEq,Nat.reduceLT,Nat.reduceLeDiff,eq_self,vcP]
   refine brB_split (fun h=>?_) (fun h=>?_)
   ·simp only [vcC,Int.reduceEq,Int.reduceNe,Int.reduceLT,Int.reduceLE,Nat.reduceEqDiff,Nat.reduceAdd,reduceIte,reduceCtorEq,Nat.reduceLT,Nat.reduceLeDiff,eq_self,vcP]
    have hs:l.findIdx? p=some i:=by
     rw [List.findIdx?_eq_some_iff_getElem]
     refine ⟨h',h,fun j hj=>?_⟩
     have:=hn l[j] (by rw [List.mem_take_iff_getElem];exact ⟨j,by omega,rfl⟩)
     simp [this]
    simp [idxOf,hs]
   ·simp only [vcC,Int.reduceEq,Int.reduceNe,Int.reduceLT,Int.reduceLE,Nat.reduceEqDiff,Nat.reduceAdd,reduceIte,reduceCtorEq,Nat.reduceLT,Nat.reduceLeDiff,eq_self,vcP]
    refine ⟨by (simp only [decide_eq_true_eq,decide_eq_false_iff_not,Bool.not_true,I64,Bool.not_eq_true',Bool.not_eq_false',bne_iff_ne,beq_iff_eq,ne_eq] at *;omega),⟨i+1,by omega,?_⟩,by simp only;omega,weakE _ ?_⟩
    ·rw [List.take_succ_eq_append_getElem h']
     intro x hx
     rcases List.mem_append.1 hx with hx | hx
     ·exact hn x hx
     ·simp at hx;rw [hx];exact h
    ·simp only [vcC,Int.reduceEq,Int.reduceNe,Int.reduceLT,Int.reduceLE,Nat.reduceEqDiff,Nat.reduceAdd,reduceIte,reduceCtorEq,Nat.reduceLT,Nat.reduceLeDiff,eq_self,vcP];simp
  ·simp only [vcC,Int.reduceEq,Int.reduceNe,Int.reduceLT,Int.reduceLE,Nat.reduceEqDiff,Nat.reduceAdd,reduceIte,reduceCtorEq,Nat.reduceLT,Nat.reduceLeDiff,eq_self,vcP]
   have:i=l.length:=by (simp only [decide_eq_true_eq,decide_eq_false_iff_not,Bool.not_true,I64,Bool.not_eq_true',Bool.not_eq_false',bne_iff_ne,beq_iff_eq,ne_eq] at *;omega)
   subst this
   rw [List.take_length] at hn
   have hs:l.findIdx? p=none:=List.findIdx?_eq_none_iff.2 hn
   simp [idxOf,hs]

theorem idxOf_any {α:Type} (l:List α) (p:α→Bool):(decide (0≤idxOf l p))=l.any p:=by
 unfold idxOf
 cases h:l.findIdx? p with
 | none =>
  rw [List.findIdx?_eq_none_iff] at h
  have:l.any p=false:=by simpa using h
  rw [this];rfl
 | some i =>
  rw [List.findIdx?_eq_some_iff_getElem] at h
  obtain ⟨hi,hp,_⟩:=h
  have:l.any p=true:=List.any_eq_true.2 ⟨_,List.getElem_mem hi,hp⟩
  rw [this];simp

theorem contFunc_int_s (l:List Int) (f:FuncId) (caps:List AV) (p:Int→Bool) (hl:l.length<4000000000000000000) (hc:∀ c ∈ caps,fx1 c=true)
  (hp:∀ x ∈ l,Sound Try.prog f (.int .i64 x :: caps) (.bool (p x))):Sound Try.prog 74 [.sl (ints l),.fn f caps] (.bool (l.any p)):=by
 refine sound_W f_slices_ContainsFunc_int_int (Nat.le_of_ble_eq_true rfl) ?_
 simp only [c_slices_ContainsFunc_int_int,map_fx1 hc,vcC,Int.reduceEq,Int.reduceNe,Int.reduceLT,Int.reduceLE,Nat.reduceEqDiff,Nat.reduceAdd,reduceIte,reduceCtorEq,Nat.reduceLT,Nat.reduceLeDiff,eq_self,vcP]
 refine callS_of (idxFunc_int_s l f caps p hl hc hp) ?_
 simp only [vcC,Int.reduceEq,Int.reduceNe,Int.reduceLT,Int.reduceLE,Nat.reduceEqDiff,Nat.reduceAdd,reduceIte,reduceCtorEq,Nat.reduceLT,Nat.reduceLeDiff,eq_self,vcP]
 rw [idxOf_any]

end Go.Proofs.Ytoiajhogondgcaa

/- Contracts of small functions of the tracks. By an AI agent;nothing here is trusted. -/
namespace Go.Proofs.Ytoiajhogondgcaa
open Go.Av

theorem within_s (n lo hi:Int):Sound Try.prog 32 [.int .i64 n,.int .i64 lo,.int .i64 hi] (.bool (decide (lo≤n∧n≤hi))):=by
 refine sound_W f_track_within (Nat.le_of_ble_eq_true rfl) ?_
 simp only [c_track_within,vcC,Int.reduceEq,Int.reduceNe,Int.reduceLT,Int.reduceLE,Nat.reduceEqDiff,Nat.reduceAdd,reduceIte,reduceCtorEq,Nat.reduceLT,Nat.reduceLeDiff,eq_self,vcP]
 refine brB_split (fun h=>?_) (fun h=>?_) <;> simp only [h,vcC,Int.reduceEq,Int.reduceNe,Int.reduceLT,Int.reduceLE,Nat.reduceEqDiff,Nat.reduceAdd,reduceIte,reduceCtorEq,Nat.reduceLT,Nat.reduceLeDiff,eq_self,vcP]
 ·exact bool_eq (by simp at h;simp [h])
 ·simp at h;simp;omega

theorem unless_s (ok:Bool) (e:Int):Sound Try.prog 31 [.bool ok,.int .i64 e] (.int .i64 (if ok then 0 else e)):=by
 refine sound_W f_track_unless (Nat.le_of_ble_eq_true rfl) ?_
 simp only [c_track_unless,vcC,Int.reduceEq,Int.reduceNe,Int.reduceLT,Int.reduceLE,Nat.reduceEqDiff,Nat.reduceAdd,reduceIte,reduceCtorEq,Nat.reduceLT,Nat.reduceLeDiff,eq_self,vcP]
 refine brB_split (fun h=>?_) (fun h=>?_) <;> subst h <;> simp only [vcC,Int.reduceEq,Int.reduceNe,Int.reduceLT,Int.reduceLE,Nat.reduceEqDiff,Nat.reduceAdd,reduceIte,reduceCtorEq,Nat.reduceLT,Nat.reduceLeDiff,eq_self,vcP]

theorem first_s (l:List Int) (hl:l.length<4000000000000000000):Sound Try.prog 30 [.sl (ints l)] (.int .i64 (firstErr l)):=by
 refine sound_W f_track_first (Nat.le_of_ble_eq_true rfl) ?_
 simp only [c_track_first,vcC,Int.reduceEq,Int.reduceNe,Int.reduceLT,Int.reduceLE,Nat.reduceEqDiff,Nat.reduceAdd,reduceIte,reduceCtorEq,Nat.reduceLT,Nat.reduceLeDiff,eq_self,vcP]
 refine W_loop (α:=PSigma fun i:Nat=>i≤l.length∧∀ x ∈ l.take i,x=0) (fun i=>(envOf [(5,.sl (ints l)),(6,.int .i64 l.length),(7,.int .i64 i.1)],noStore)) (fun i=>l.length - i.1) ⟨0,by simp⟩ (weakE _ ?_) (fun ⟨i,hi,hn⟩=>?_)
 ·simp only [vcC,Int.reduceEq,Int.reduceNe,Int.reduceLT,Int.reduceLE,Nat.reduceEqDiff,Nat.reduceAdd,reduceIte,reduceCtorEq,Nat.reduceLT,Nat.reduceLeDiff,eq_self,vcP];rfl
 ·simp only [vcC,Int.reduceEq,Int.reduceNe,Int.reduceLT,Int.reduceLE,Nat.reduceEqDiff,Nat.reduceAdd,reduceIte,reduceCtorEq,Nat.reduceLT,Nat.reduceLeDiff,eq_self,vcP]
  refine brB_split (fun h=>?_) (fun h=>?_)
  ·have h':i<l.length:=by (simp only [decide_eq_true_eq,decide_eq_false_iff_not,Bool.not_true,I64,Bool.not_eq_true',Bool.not_eq_false',bne_iff_ne,beq_iff_eq,ne_eq] at *;omega)
   simp only [ints_get l i h',vcC,Int.reduceEq,Int.reduceNe,Int.reduceLT,Int.reduceLE,Nat.reduceEqDiff,Nat.reduceAdd,reduceIte,reduceCtorEq,Nat.reduceLT,Nat.reduceLeDiff,eq_self,vcP]
   refine ⟨by omega,?_⟩
   refine brB_split (fun h=>?_) (fun h=>?_)
   ·simp only [vcC,Int.reduceEq,Int.reduceNe,Int.reduceLT,Int.reduceLE,Nat.reduceEqDiff,Nat.reduceAdd,reduceIte,reduceCtorEq,Nat.reduceLT,Nat.reduceLeDiff,eq_self,vcP]
    have h0:l[i] ≠ 0:=by simpa using h
    have hs:l.find? (· ≠ 0)=some l[i]:=by
     rw [List.find?_eq_some_iff_getElem]
     exact ⟨by simpa using h0,i,h',rfl,fun j hj=>by simp [hn l[j] (by rw [List.mem_take_iff_getElem];exact ⟨j,by omega,rfl⟩)]⟩
    unfold firstErr
    rw [hs];rfl
   ·simp only [vcC,Int.reduceEq,Int.reduceNe,Int.reduceLT,Int.reduceLE,Nat.reduceEqDiff,Nat.reduceAdd,reduceIte,reduceCtorEq,Nat.reduceLT,Nat.reduceLeDiff,eq_self,vcP]
    refine ⟨by (simp only [decide_eq_true_eq,decide_eq_false_iff_not,Bool.not_true,I64,Bool.not_eq_true',Bool.not_eq_false',bne_iff_ne,beq_iff_eq,ne_eq] at *;omega),⟨i+1,by omega,?_⟩,by simp only;omega,weakE _ ?_⟩
    ·rw [List.take_succ_eq_append_getElem h']
     intro x hx
     rcases List.mem_append.1 hx with hx | hx
     ·exact hn x hx
     ·simp at hx h;rw [hx,h]
    ·simp only [vcC,Int.reduceEq,Int.reduceNe,Int.reduceLT,Int.reduceLE,Nat.reduceEqDiff,Nat.reduceAdd,reduceIte,reduceCtorEq,Nat.reduceLT,Nat.reduceLeDiff,eq_self,vcP];simp
  ·simp only [vcC,Int.reduceEq,Int.reduceNe,Int.reduceLT,Int.reduceLE,Nat.reduceEqDiff,Nat.reduceAdd,reduceIte,reduceCtorEq,Nat.reduceLT,Nat.reduceLeDiff,eq_self,vcP]
   have:i=l.length:=by (simp only [decide_eq_true_eq,decide_eq_false_iff_not,Bool.not_true,I64,Bool.not_eq_true',Bool.not_eq_false',bne_iff_ne,beq_iff_eq,ne_eq] at *;omega)
   subst this
   unfold firstErr
   rw [List.take_length] at hn
   rw [List.find?_eq_none.2 (fun x hx=>by simp [hn x hx])]
   rfl

theorem first2_s (a b:Int):Sound Try.prog 30 [.sl [.int .i64 a,.int .i64 b]] (.int .i64 (if a ≠ 0 then a else b)):=by
 have h:=first_s [a,b] (by simp)
 have e:firstErr [a,b]=if a ≠ 0 then a else b:=by
  unfold firstErr
  by_cases ha:a=0 <;> by_cases hb:b=0 <;> simp [ha,hb]
 rw [e] at h
 exact h
theorem first3_s (a b c:Int):Sound Try.prog 30 [.sl [.int .i64 a,.int .i64 b,.int .i64 c]] (.int .i64 (if a ≠ 0 then a else if b ≠ 0 then b else c)):=by
 have h:=first_s [a,b,c] (by simp)
 have e:firstErr [a,b,c]=if a ≠ 0 then a else if b ≠ 0 then b else c:=by
  unfold firstErr
  by_cases ha:a=0 <;> by_cases hb:b=0 <;> by_cases hc:c=0 <;> simp [ha,hb,hc]
 rw [e] at h
 exact h
end Go.Proofs.Ytoiajhogondgcaa

/- Contracts of the small functions of the base. By an AI agent;nothing here is trusted. -/
namespace Go.Proofs.Ytoiajhogondgcaa
open Go.Av

theorem Within_s (n lo hi:Int):Sound Try.prog 8 [.int .i64 n,.int .i64 lo,.int .i64 hi] (.bool (decide (lo≤n∧n≤hi))):=by
 refine sound_W f_base_Within (Nat.le_of_ble_eq_true rfl) ?_
 simp only [c_base_Within,vcC,Int.reduceEq,Int.reduceNe,Int.reduceLT,Int.reduceLE,Nat.reduceEqDiff,Nat.reduceAdd,reduceIte,reduceCtorEq,Nat.reduceLT,Nat.reduceLeDiff,eq_self,vcP]
 refine brB_split (fun h=>?_) (fun h=>?_) <;> simp only [h,vcC,Int.reduceEq,Int.reduceNe,Int.reduceLT,Int.reduceLE,Nat.reduceEqDiff,Nat.reduceAdd,reduceIte,reduceCtorEq,Nat.reduceLT,Nat.reduceLeDiff,eq_self,vcP]
 ·exact bool_eq (by simp at h;simp [h])
 ·simp at h;simp;omega

end Go.Proofs.Ytoiajhogondgcaa

/- Contracts of small functions of the tracks: vectors,models. By an AI agent;nothing here is trusted. -/
namespace Go.Proofs.Ytoiajhogondgcaa
open Go.Av

structure V3 where
 x:Int
 y:Int
 z:Int
 deriving DecidableEq
def V3.l (v:V3):List AV:=[.int .i64 v.x,.int .i64 v.y,.int .i64 v.z]
def V3.av (v:V3):AV:=.agg [.int .i64 v.x,.int .i64 v.y,.int .i64 v.z]
def V3.dot (v w:V3):Int:=v.x * w.x+v.y * w.y+v.z * w.z
def V3.sub (v w:V3):V3:=⟨v.x - w.x,v.y - w.y,v.z - w.z⟩

structure TM where
 px:Int
 py:Int
 pz:Int
 t:Int
 k:Int
 lo:Int
 hi:Int
 li:Int
 ea:Int
 la:Int
 no:Int
 mi:Int
def TM.av (m:TM):AV:=.agg [.int .i64 m.px,.int .i64 m.py,.int .i64 m.pz,.int .i64 m.t,.int .i64 m.k,.int .i64 m.lo,.int .i64 m.hi,.int .i64 m.li,.int .i64 m.ea,.int .i64 m.la,.int .i64 m.no,.int .i64 m.mi]
def TM.slow (m:TM):Int:=m.li * m.k * m.k

theorem dot_s (v w:V3) (h1:I64 (v.x * w.x)) (h2:I64 (v.y * w.y)) (h3:I64 (v.x * w.x+v.y * w.y)) (h4:I64 (v.z * w.z)) (h5:I64 (v.dot w)) :
  Sound Try.prog 72 [v.av,w.av] (.int .i64 (v.dot w)):=by
 refine sound_W f_track_vector_dot (Nat.le_of_ble_eq_true rfl) ?_
 simp only [c_track_vector_dot,V3.av,Int.cast_ofNat_Int,Int.reduceToNat,Nat.zero_mul,Nat.reduceMul,Nat.zero_add,Nat.mul_one,List.getElem?_cons_zero,List.getElem?_cons_succ,true_and,vZ,Int.reduceEq,Int.reduceNe,Int.reduceLT,Int.reduceLE,Nat.reduceEqDiff,Nat.reduceAdd,reduceIte,reduceCtorEq,Nat.reduceLT,Nat.reduceLeDiff,Nat.reduceShiftRight,Nat.reduceMod]
 exact ⟨h1,h2,h3,h4,h5,rfl⟩

theorem minus_s (v w:V3) (h1:I64 (v.x - w.x)) (h2:I64 (v.y - w.y)) (h3:I64 (v.z - w.z)) :
  Sound Try.prog 77 [v.av,w.av] (v.sub w).av:=by
 refine sound_W f_track_vector_minus (Nat.le_of_ble_eq_true rfl) ?_
 simp only [c_track_vector_minus,V3.av,Int.cast_ofNat_Int,Int.reduceToNat,Nat.zero_mul,Nat.reduceMul,Nat.zero_add,Nat.mul_one,List.getElem?_cons_zero,List.getElem?_cons_succ,true_and,vZ,Int.reduceEq,Int.reduceNe,Int.reduceLT,Int.reduceLE,Nat.reduceEqDiff,Nat.reduceAdd,reduceIte,reduceCtorEq,Nat.reduceLT,Nat.reduceLeDiff,Nat.reduceShiftRight,Nat.reduceMod]
 exact ⟨h1,h2,h3,rfl⟩

theorem slow_s (m:TM) (h1:I64 (m.li * m.k)) (h2:I64 m.slow) :
  Sound Try.prog 78 [m.av] (.int .i64 m.slow):=by
 refine sound_W f_track_model_slow (Nat.le_of_ble_eq_true rfl) ?_
 simp only [c_track_model_slow,TM.av,vcC,Int.reduceEq,Int.reduceNe,Int.reduceLT,Int.reduceLE,Nat.reduceEqDiff,Nat.reduceAdd,reduceIte,reduceCtorEq,Nat.reduceLT,Nat.reduceLeDiff,eq_self,vcP]
 exact ⟨h1,h2,rfl⟩

theorem refDot_s (v w:V3) (h1:I64 (v.x * w.x)) (h2:I64 (v.y * w.y)) (h3:I64 (v.x * w.x+v.y * w.y)) (h4:I64 (v.z * w.z)) (h5:I64 (v.dot w)) :
  Sound Try.prog 60 [v.av,w.av] (.int .i64 (v.dot w)):=by
 refine sound_W f_ref05_Dot (Nat.le_of_ble_eq_true rfl) ?_
 simp only [c_ref05_Dot,V3.av,Int.cast_ofNat_Int,Int.reduceToNat,Nat.zero_mul,Nat.reduceMul,Nat.zero_add,Nat.mul_one,List.getElem?_cons_zero,List.getElem?_cons_succ,true_and,vZ,Int.reduceEq,Int.reduceNe,Int.reduceLT,Int.reduceLE,Nat.reduceEqDiff,Nat.reduceAdd,reduceIte,reduceCtorEq,Nat.reduceLT,Nat.reduceLeDiff,Nat.reduceShiftRight,Nat.reduceMod]
 exact ⟨h1,h2,h3,h4,h5,rfl⟩

structure TH where
 p:V3
 t:Int
 w:Int
def TH.av (h:TH):AV:=.agg [.int .i64 h.p.x,.int .i64 h.p.y,.int .i64 h.p.z,.int .i64 h.t,.int .i64 h.w]
structure TP where
 p:V3
 t:Int
def TP.av (h:TP):AV:=.agg [.int .i64 h.p.x,.int .i64 h.p.y,.int .i64 h.p.z,.int .i64 h.t]
def TM.early (m:TM) (h:TH):TP:=⟨h.p,h.t+m.ea⟩
def TM.late (m:TM) (h:TH):TP:=⟨h.p,h.t - m.la - 1⟩

theorem ends_s (m:TM) (h:TH) (h1:I64 (h.t+m.ea)) (h2:I64 (h.t - m.la)) (h3:I64 (h.t - m.la - 1)) :
  Sound Try.prog 69 [m.av,h.av] (.tup [(m.early h).av,(m.late h).av]):=by
 refine sound_W f_track_model_ends (Nat.le_of_ble_eq_true rfl) ?_
 simp only [c_track_model_ends,TM.av,TH.av,Int.cast_ofNat_Int,Int.reduceToNat,Nat.zero_mul,Nat.reduceMul,Nat.zero_add,Nat.mul_one,List.getElem?_cons_zero,List.getElem?_cons_succ,true_and,vZ,Int.reduceEq,Int.reduceNe,Int.reduceLT,Int.reduceLE,Nat.reduceEqDiff,Nat.reduceAdd,reduceIte,reduceCtorEq,Nat.reduceLT,Nat.reduceLeDiff,Nat.reduceShiftRight,Nat.reduceMod]
 exact ⟨h1,h2,h3,rfl⟩

def V3.in (v:V3) (n:Int):Prop:=(-n≤v.x∧v.x≤n)∧(-n≤v.y∧v.y≤n)∧(-n≤v.z∧v.z≤n)
theorem mul_le {a b m n:Int} (h1 : -m≤a) (h2:a≤m) (h3 : -n≤b) (h4:b≤n) : -(m * n)≤a * b∧a * b≤m * n:=by
 have hm:0≤m:=by omega
 have hn:0≤n:=by omega
 have e1:=Int.mul_nonneg (show 0≤m - a by omega) (show 0≤n - b by omega)
 have e2:=Int.mul_nonneg (show 0≤m+a by omega) (show 0≤n+b by omega)
 have e3:=Int.mul_nonneg (show 0≤m - a by omega) (show 0≤n+b by omega)
 have e4:=Int.mul_nonneg (show 0≤m+a by omega) (show 0≤n - b by omega)
 constructor <;> grind
theorem V3.dot_le {v w:V3} {m n:Int} (hv:v.in m) (hw:w.in n):(-(m * n)≤v.x * w.x∧v.x * w.x≤m * n)∧(-(m * n)≤v.y * w.y∧v.y * w.y≤m * n)∧(-(m * n)≤v.z * w.z∧v.z * w.z≤m * n) :=
 ⟨mul_le hv.1.1 hv.1.2 hw.1.1 hw.1.2,mul_le hv.2.1.1 hv.2.1.2 hw.2.1.1 hw.2.1.2,mul_le hv.2.2.1 hv.2.2.2 hw.2.2.1 hw.2.2.2⟩
theorem dot_in {v w:V3} {m n:Int} (hv:v.in m) (hw:w.in n) (hmn:m * n≤3000000000000000000):Sound Try.prog 72 [v.av,w.av] (.int .i64 (v.dot w)):=by
 obtain ⟨⟨a1,a2⟩,⟨b1,b2⟩,c1,c2⟩:=V3.dot_le hv hw
 generalize m * n=q at *
 apply dot_s <;> (unfold I64;try unfold V3.dot) <;> omega

theorem permitted_s (m:TM) (v:V3) (hv:v.in 1000000000) :
  Sound Try.prog 58 [m.av,v.av] (.bool (decide (m.lo≤v.dot v∧v.dot v≤m.hi))):=by
 refine sound_W f_track_model_permitted (Nat.le_of_ble_eq_true rfl) ?_
 simp only [c_track_model_permitted,TM.av,V3.av,Int.cast_ofNat_Int,Int.reduceToNat,Nat.zero_mul,Nat.reduceMul,Nat.zero_add,Nat.mul_one,List.getElem?_cons_zero,List.getElem?_cons_succ,true_and,vZ,Int.reduceEq,Int.reduceNe,Int.reduceLT,Int.reduceLE,Nat.reduceEqDiff,Nat.reduceAdd,reduceIte,reduceCtorEq,Nat.reduceLT,Nat.reduceLeDiff,Nat.reduceShiftRight,Nat.reduceMod]
 refine callS_of (dot_in (v:=v) (w:=v) hv hv (by omega)) ?_
 simp only [Int.cast_ofNat_Int,Int.reduceToNat,Nat.zero_mul,Nat.reduceMul,Nat.zero_add,Nat.mul_one,List.getElem?_cons_zero,List.getElem?_cons_succ,true_and,vZ,Int.reduceEq,Int.reduceNe,Int.reduceLT,Int.reduceLE,Nat.reduceEqDiff,Nat.reduceAdd,reduceIte,reduceCtorEq,Nat.reduceLT,Nat.reduceLeDiff,Nat.reduceShiftRight,Nat.reduceMod]
 refine callS_of (within_s _ _ _) ?_
 simp only [Int.cast_ofNat_Int,Int.reduceToNat,Nat.zero_mul,Nat.reduceMul,Nat.zero_add,Nat.mul_one,List.getElem?_cons_zero,List.getElem?_cons_succ,true_and,vZ,Int.reduceEq,Int.reduceNe,Int.reduceLT,Int.reduceLE,Nat.reduceEqDiff,Nat.reduceAdd,reduceIte,reduceCtorEq,Nat.reduceLT,Nat.reduceLeDiff,Nat.reduceShiftRight,Nat.reduceMod]

end Go.Proofs.Ytoiajhogondgcaa

/- Contracts of the reference of the tracks: errors of places,times,models. By an AI agent;nothing here is trusted. -/
namespace Go.Proofs.Ytoiajhogondgcaa
open Go.Av

instance (v:V3) (n:Int):Decidable (v.in n):=by unfold V3.in;infer_instance
def V3.inB (v:V3) (n:Int):Bool:=decide (v.in n)
theorem refPlaceErr_s (v:V3):Sound Try.prog 24 [v.av] (.int .i64 (if v.inB 1000 then 0 else 2)):=by
 refine sound_W f_ref05_PlaceErr (Nat.le_of_ble_eq_true rfl) ?_
 simp only [c_ref05_PlaceErr,V3.av,Int.cast_ofNat_Int,Int.reduceToNat,Nat.zero_mul,Nat.reduceMul,Nat.zero_add,Nat.mul_one,List.getElem?_cons_zero,List.getElem?_cons_succ,true_and,vZ,Int.reduceEq,Int.reduceNe,Int.reduceLT,Int.reduceLE,Nat.reduceEqDiff,Nat.reduceAdd,reduceIte,reduceCtorEq,Nat.reduceLT,Nat.reduceLeDiff,Nat.reduceShiftRight,Nat.reduceMod]
 refine W_loop (t:=.mk) (α:=PSigma fun i:Nat=>i≤3∧((0<i → -1000≤v.x∧v.x≤1000)∧(1<i → -1000≤v.y∧v.y≤1000)∧(2<i → -1000≤v.z∧v.z≤1000))) (fun ⟨i,_⟩=>((envOf [(1,.ptr 1 0 0),(3,.int .i64 i)],stOf [(1,⟨22,3,[v.av]⟩)]))) (fun i=>3 - i.1) ⟨0,Nat.zero_le _,?_⟩ ?_ (fun ⟨i,hi,hn⟩=>?_)
 ·simp
 ·refine weakX [] (of_decide_eq_true rfl) (of_decide_eq_true rfl) ?_
  (simp only [V3.av,vcW,vZ,Int.reduceEq,Int.reduceNe,Int.reduceLT,Int.reduceLE,Nat.reduceEqDiff,Nat.reduceAdd,reduceIte,reduceCtorEq,Nat.reduceLT,Nat.reduceLeDiff,Nat.reduceShiftRight,Nat.reduceMod])
  (repeat' first | exact trivial | (with_reducible first | exact RnB.fxB (ints_fxB _) | rfl | refine And.intro ?_ ?_) | (with_reducible (first | refine RnB.bb ?_ | refine RnB.nb ?_);simp only [vcW,vZ,Int.reduceEq,Int.reduceNe,Int.reduceLT,Int.reduceLE,Nat.reduceEqDiff,Nat.reduceAdd,reduceIte,reduceCtorEq,Nat.reduceLT,Nat.reduceLeDiff,Nat.reduceShiftRight,Nat.reduceMod]) | (with_reducible first | refine RnB.ii ?_ | refine RnB.app ?_) | (with_reducible refine RnB.fxB ?_;simp only [vcW,vZ,Int.reduceEq,Int.reduceNe,Int.reduceLT,Int.reduceLE,Nat.reduceEqDiff,Nat.reduceAdd,reduceIte,reduceCtorEq,Nat.reduceLT,Nat.reduceLeDiff,Nat.reduceShiftRight,Nat.reduceMod]) | omega)
  all_goals rfl
 ·simp only [vZ,Int.reduceEq,Int.reduceNe,Int.reduceLT,Int.reduceLE,Nat.reduceEqDiff,Nat.reduceAdd,reduceIte,reduceCtorEq,Nat.reduceLT,Nat.reduceLeDiff,Nat.reduceShiftRight,Nat.reduceMod]
  refine brB_split (fun h=>?_) (fun h=>?_)
  ·have h':i<3:=by (simp only [decide_eq_true_eq,decide_eq_false_iff_not,Bool.not_true,I64,Bool.not_eq_true',Bool.not_eq_false',bne_iff_ne,beq_iff_eq,ne_eq] at *;omega)
   obtain ⟨p1,p2,p3⟩:=hn
   obtain rfl | rfl | rfl:i=0∨i=1∨i=2:=by omega
   ·simp only [V3.av,Int.cast_ofNat_Int,Int.reduceToNat,Nat.zero_mul,Nat.reduceMul,Nat.zero_add,Nat.mul_one,List.getElem?_cons_zero,List.getElem?_cons_succ,true_and,vZ,Int.reduceEq,Int.reduceNe,Int.reduceLT,Int.reduceLE,Nat.reduceEqDiff,Nat.reduceAdd,reduceIte,reduceCtorEq,Nat.reduceLT,Nat.reduceLeDiff,Nat.reduceShiftRight,Nat.reduceMod]
    refine callS_of (Within_s _ _ _) ?_
    simp only [Int.cast_ofNat_Int,Int.reduceToNat,Nat.zero_mul,Nat.reduceMul,Nat.zero_add,Nat.mul_one,List.getElem?_cons_zero,List.getElem?_cons_succ,true_and,vZ,Int.reduceEq,Int.reduceNe,Int.reduceLT,Int.reduceLE,Nat.reduceEqDiff,Nat.reduceAdd,reduceIte,reduceCtorEq,Nat.reduceLT,Nat.reduceLeDiff,Nat.reduceShiftRight,Nat.reduceMod]
    refine brB_split (fun h2=>?_) (fun h2=>?_)
    ·have hf:v.inB 1000=false:=decide_eq_false fun ⟨⟨a1,a2⟩,⟨b1,b2⟩,c1,c2⟩=>by simp at h2;omega
     simp only [hf,vZ,Int.reduceEq,Int.reduceNe,Int.reduceLT,Int.reduceLE,Nat.reduceEqDiff,Nat.reduceAdd,reduceIte,reduceCtorEq,Nat.reduceLT,Nat.reduceLeDiff,Nat.reduceShiftRight,Nat.reduceMod]
     try rfl
    ·have hg:=h2
     simp at hg
     simp only [vZ,Int.reduceEq,Int.reduceNe,Int.reduceLT,Int.reduceLE,Nat.reduceEqDiff,Nat.reduceAdd,reduceIte,reduceCtorEq,Nat.reduceLT,Nat.reduceLeDiff,Nat.reduceShiftRight,Nat.reduceMod]
     refine ⟨by (simp only [decide_eq_true_eq,decide_eq_false_iff_not,Bool.not_true,I64,Bool.not_eq_true',Bool.not_eq_false',bne_iff_ne,beq_iff_eq,ne_eq] at *;omega),⟨⟨0+1,by omega,?_⟩,by simp only;omega,?_⟩⟩
     ·(try simp only);omega
     ·refine weakX [] (of_decide_eq_true rfl) (of_decide_eq_true rfl) ?_
      (simp only [V3.av,vcW,vZ,Int.reduceEq,Int.reduceNe,Int.reduceLT,Int.reduceLE,Nat.reduceEqDiff,Nat.reduceAdd,reduceIte,reduceCtorEq,Nat.reduceLT,Nat.reduceLeDiff,Nat.reduceShiftRight,Nat.reduceMod])
      (repeat' first | exact trivial | (with_reducible first | exact RnB.fxB (ints_fxB _) | rfl | refine And.intro ?_ ?_) | (with_reducible (first | refine RnB.bb ?_ | refine RnB.nb ?_);simp only [vcW,vZ,Int.reduceEq,Int.reduceNe,Int.reduceLT,Int.reduceLE,Nat.reduceEqDiff,Nat.reduceAdd,reduceIte,reduceCtorEq,Nat.reduceLT,Nat.reduceLeDiff,Nat.reduceShiftRight,Nat.reduceMod]) | (with_reducible first | refine RnB.ii ?_ | refine RnB.app ?_) | (with_reducible refine RnB.fxB ?_;simp only [vcW,vZ,Int.reduceEq,Int.reduceNe,Int.reduceLT,Int.reduceLE,Nat.reduceEqDiff,Nat.reduceAdd,reduceIte,reduceCtorEq,Nat.reduceLT,Nat.reduceLeDiff,Nat.reduceShiftRight,Nat.reduceMod]) | omega)
      all_goals rfl
   ·simp only [V3.av,Int.cast_ofNat_Int,Int.reduceToNat,Nat.zero_mul,Nat.reduceMul,Nat.zero_add,Nat.mul_one,List.getElem?_cons_zero,List.getElem?_cons_succ,true_and,vZ,Int.reduceEq,Int.reduceNe,Int.reduceLT,Int.reduceLE,Nat.reduceEqDiff,Nat.reduceAdd,reduceIte,reduceCtorEq,Nat.reduceLT,Nat.reduceLeDiff,Nat.reduceShiftRight,Nat.reduceMod]
    refine callS_of (Within_s _ _ _) ?_
    simp only [Int.cast_ofNat_Int,Int.reduceToNat,Nat.zero_mul,Nat.reduceMul,Nat.zero_add,Nat.mul_one,List.getElem?_cons_zero,List.getElem?_cons_succ,true_and,vZ,Int.reduceEq,Int.reduceNe,Int.reduceLT,Int.reduceLE,Nat.reduceEqDiff,Nat.reduceAdd,reduceIte,reduceCtorEq,Nat.reduceLT,Nat.reduceLeDiff,Nat.reduceShiftRight,Nat.reduceMod]
    refine brB_split (fun h2=>?_) (fun h2=>?_)
    ·have hf:v.inB 1000=false:=decide_eq_false fun ⟨⟨a1,a2⟩,⟨b1,b2⟩,c1,c2⟩=>by simp at h2;omega
     simp only [hf,vZ,Int.reduceEq,Int.reduceNe,Int.reduceLT,Int.reduceLE,Nat.reduceEqDiff,Nat.reduceAdd,reduceIte,reduceCtorEq,Nat.reduceLT,Nat.reduceLeDiff,Nat.reduceShiftRight,Nat.reduceMod]
     try rfl
    ·have hg:=h2
     simp at hg
     simp only [vZ,Int.reduceEq,Int.reduceNe,Int.reduceLT,Int.reduceLE,Nat.reduceEqDiff,Nat.reduceAdd,reduceIte,reduceCtorEq,Nat.reduceLT,Nat.reduceLeDiff,Nat.reduceShiftRight,Nat.reduceMod]
     refine ⟨by (simp only [decide_eq_true_eq,decide_eq_false_iff_not,Bool.not_true,I64,Bool.not_eq_true',Bool.not_eq_false',bne_iff_ne,beq_iff_eq,ne_eq] at *;omega),⟨⟨1+1,by omega,?_⟩,by simp only;omega,?_⟩⟩
     ·(try simp only);omega
     ·refine weakX [] (of_decide_eq_true rfl) (of_decide_eq_true rfl) ?_
      (simp only [V3.av,vcW,vZ,Int.reduceEq,Int.reduceNe,Int.reduceLT,Int.reduceLE,Nat.reduceEqDiff,Nat.reduceAdd,reduceIte,reduceCtorEq,Nat.reduceLT,Nat.reduceLeDiff,Nat.reduceShiftRight,Nat.reduceMod])
      (repeat' first | exact trivial | (with_reducible first | exact RnB.fxB (ints_fxB _) | rfl | refine And.intro ?_ ?_) | (with_reducible (first | refine RnB.bb ?_ | refine RnB.nb ?_);simp only [vcW,vZ,Int.reduceEq,Int.reduceNe,Int.reduceLT,Int.reduceLE,Nat.reduceEqDiff,Nat.reduceAdd,reduceIte,reduceCtorEq,Nat.reduceLT,Nat.reduceLeDiff,Nat.reduceShiftRight,Nat.reduceMod]) | (with_reducible first | refine RnB.ii ?_ | refine RnB.app ?_) | (with_reducible refine RnB.fxB ?_;simp only [vcW,vZ,Int.reduceEq,Int.reduceNe,Int.reduceLT,Int.reduceLE,Nat.reduceEqDiff,Nat.reduceAdd,reduceIte,reduceCtorEq,Nat.reduceLT,Nat.reduceLeDiff,Nat.reduceShiftRight,Nat.reduceMod]) | omega)
      all_goals rfl
   ·simp only [V3.av,Int.cast_ofNat_Int,Int.reduceToNat,Nat.zero_mul,Nat.reduceMul,Nat.zero_add,Nat.mul_one,List.getElem?_cons_zero,List.getElem?_cons_succ,true_and,vZ,Int.reduceEq,Int.reduceNe,Int.reduceLT,Int.reduceLE,Nat.reduceEqDiff,Nat.reduceAdd,reduceIte,reduceCtorEq,Nat.reduceLT,Nat.reduceLeDiff,Nat.reduceShiftRight,Nat.reduceMod]
    refine callS_of (Within_s _ _ _) ?_
    simp only [Int.cast_ofNat_Int,Int.reduceToNat,Nat.zero_mul,Nat.reduceMul,Nat.zero_add,Nat.mul_one,List.getElem?_cons_zero,List.getElem?_cons_succ,true_and,vZ,Int.reduceEq,Int.reduceNe,Int.reduceLT,Int.reduceLE,Nat.reduceEqDiff,Nat.reduceAdd,reduceIte,reduceCtorEq,Nat.reduceLT,Nat.reduceLeDiff,Nat.reduceShiftRight,Nat.reduceMod]
    refine brB_split (fun h2=>?_) (fun h2=>?_)
    ·have hf:v.inB 1000=false:=decide_eq_false fun ⟨⟨a1,a2⟩,⟨b1,b2⟩,c1,c2⟩=>by simp at h2;omega
     simp only [hf,vZ,Int.reduceEq,Int.reduceNe,Int.reduceLT,Int.reduceLE,Nat.reduceEqDiff,Nat.reduceAdd,reduceIte,reduceCtorEq,Nat.reduceLT,Nat.reduceLeDiff,Nat.reduceShiftRight,Nat.reduceMod]
     try rfl
    ·have hg:=h2
     simp at hg
     simp only [vZ,Int.reduceEq,Int.reduceNe,Int.reduceLT,Int.reduceLE,Nat.reduceEqDiff,Nat.reduceAdd,reduceIte,reduceCtorEq,Nat.reduceLT,Nat.reduceLeDiff,Nat.reduceShiftRight,Nat.reduceMod]
     refine ⟨by (simp only [decide_eq_true_eq,decide_eq_false_iff_not,Bool.not_true,I64,Bool.not_eq_true',Bool.not_eq_false',bne_iff_ne,beq_iff_eq,ne_eq] at *;omega),⟨⟨2+1,by omega,?_⟩,by simp only;omega,?_⟩⟩
     ·(try simp only);omega
     ·refine weakX [] (of_decide_eq_true rfl) (of_decide_eq_true rfl) ?_
      (simp only [V3.av,vcW,vZ,Int.reduceEq,Int.reduceNe,Int.reduceLT,Int.reduceLE,Nat.reduceEqDiff,Nat.reduceAdd,reduceIte,reduceCtorEq,Nat.reduceLT,Nat.reduceLeDiff,Nat.reduceShiftRight,Nat.reduceMod])
      (repeat' first | exact trivial | (with_reducible first | exact RnB.fxB (ints_fxB _) | rfl | refine And.intro ?_ ?_) | (with_reducible (first | refine RnB.bb ?_ | refine RnB.nb ?_);simp only [vcW,vZ,Int.reduceEq,Int.reduceNe,Int.reduceLT,Int.reduceLE,Nat.reduceEqDiff,Nat.reduceAdd,reduceIte,reduceCtorEq,Nat.reduceLT,Nat.reduceLeDiff,Nat.reduceShiftRight,Nat.reduceMod]) | (with_reducible first | refine RnB.ii ?_ | refine RnB.app ?_) | (with_reducible refine RnB.fxB ?_;simp only [vcW,vZ,Int.reduceEq,Int.reduceNe,Int.reduceLT,Int.reduceLE,Nat.reduceEqDiff,Nat.reduceAdd,reduceIte,reduceCtorEq,Nat.reduceLT,Nat.reduceLeDiff,Nat.reduceShiftRight,Nat.reduceMod]) | omega)
      all_goals rfl
  ·simp only [vZ,Int.reduceEq,Int.reduceNe,Int.reduceLT,Int.reduceLE,Nat.reduceEqDiff,Nat.reduceAdd,reduceIte,reduceCtorEq,Nat.reduceLT,Nat.reduceLeDiff,Nat.reduceShiftRight,Nat.reduceMod]
   have h':i=3:=by (simp only [decide_eq_true_eq,decide_eq_false_iff_not,Bool.not_true,I64,Bool.not_eq_true',Bool.not_eq_false',bne_iff_ne,beq_iff_eq,ne_eq] at *;omega)
   subst h'
   have hf:v.inB 1000=true:=decide_eq_true ⟨hn.1 (by omega),hn.2.1 (by omega),hn.2.2 (by omega)⟩
   simp only [hf,vZ,Int.reduceEq,Int.reduceNe,Int.reduceLT,Int.reduceLE,Nat.reduceEqDiff,Nat.reduceAdd,reduceIte,reduceCtorEq,Nat.reduceLT,Nat.reduceLeDiff,Nat.reduceShiftRight,Nat.reduceMod]
   try rfl

theorem refTimeErr_s (n:Int):Sound Try.prog 25 [.int .i64 n] (.int .i64 (if -10000≤n∧n≤10000 then 0 else 2)):=by
 refine sound_W f_ref05_TimeErr (Nat.le_of_ble_eq_true rfl) ?_
 simp only [c_ref05_TimeErr,vZ,Int.reduceEq,Int.reduceNe,Int.reduceLT,Int.reduceLE,Nat.reduceEqDiff,Nat.reduceAdd,reduceIte,reduceCtorEq,Nat.reduceLT,Nat.reduceLeDiff,Nat.reduceShiftRight,Nat.reduceMod]
 refine callS_of (Within_s _ _ _) ?_
 simp only [vZ,Int.reduceEq,Int.reduceNe,Int.reduceLT,Int.reduceLE,Nat.reduceEqDiff,Nat.reduceAdd,reduceIte,reduceCtorEq,Nat.reduceLT,Nat.reduceLeDiff,Nat.reduceShiftRight,Nat.reduceMod]
 refine brB_split (fun h=>?_) (fun h=>?_)
 ·have h':¬ (-10000≤n∧n≤10000):=by simp at h;omega
  simp only [h',vZ,Int.reduceEq,Int.reduceNe,Int.reduceLT,Int.reduceLE,Nat.reduceEqDiff,Nat.reduceAdd,reduceIte,reduceCtorEq,Nat.reduceLT,Nat.reduceLeDiff,Nat.reduceShiftRight,Nat.reduceMod]
 ·have h' : -10000≤n∧n≤10000:=by simp at h;omega
  simp only [h',vZ,Int.reduceEq,Int.reduceNe,Int.reduceLT,Int.reduceLE,Nat.reduceEqDiff,Nat.reduceAdd,reduceIte,reduceCtorEq,Nat.reduceLT,Nat.reduceLeDiff,Nat.reduceShiftRight,Nat.reduceMod]
theorem isWeight_s (n:Int):Sound Try.prog 26 [.int .i64 n] (.bool (decide (0≤n∧n≤100))):=by
 refine sound_W f_ref05_isWeight (Nat.le_of_ble_eq_true rfl) ?_
 simp only [c_ref05_isWeight,vZ,Int.reduceEq,Int.reduceNe,Int.reduceLT,Int.reduceLE,Nat.reduceEqDiff,Nat.reduceAdd,reduceIte,reduceCtorEq,Nat.reduceLT,Nat.reduceLeDiff,Nat.reduceShiftRight,Nat.reduceMod]
 refine callS_of (Within_s _ _ _) ?_
 simp only [vZ,Int.reduceEq,Int.reduceNe,Int.reduceLT,Int.reduceLE,Nat.reduceEqDiff,Nat.reduceAdd,reduceIte,reduceCtorEq,Nat.reduceLT,Nat.reduceLeDiff,Nat.reduceShiftRight,Nat.reduceMod]
theorem isSide_s (n:Int):Sound Try.prog 35 [.int .i64 n] (.bool (decide (-20≤n∧n≤20))):=by
 refine sound_W f_ref05_isSide (Nat.le_of_ble_eq_true rfl) ?_
 simp only [c_ref05_isSide,vZ,Int.reduceEq,Int.reduceNe,Int.reduceLT,Int.reduceLE,Nat.reduceEqDiff,Nat.reduceAdd,reduceIte,reduceCtorEq,Nat.reduceLT,Nat.reduceLeDiff,Nat.reduceShiftRight,Nat.reduceMod]
 refine callS_of (Within_s _ _ _) ?_
 simp only [vZ,Int.reduceEq,Int.reduceNe,Int.reduceLT,Int.reduceLE,Nat.reduceEqDiff,Nat.reduceAdd,reduceIte,reduceCtorEq,Nat.reduceLT,Nat.reduceLeDiff,Nat.reduceShiftRight,Nat.reduceMod]
end Go.Proofs.Ytoiajhogondgcaa

/- The reference's error of a model. By an AI agent;nothing here is trusted. -/
namespace Go.Proofs.Ytoiajhogondgcaa
open Go.Av

def TM.p (m:TM):V3:=⟨m.px,m.py,m.pz⟩
def TM.rng (m:TM):Prop:=(1≤m.k∧m.k≤20)∧(1≤m.lo∧m.lo≤1200)∧(1≤m.hi∧m.hi≤1200)∧(1≤m.li∧m.li≤100)∧(0≤m.ea∧m.ea≤100)∧(0≤m.la∧m.la≤100)∧(0≤m.no∧m.no≤100)∧(0≤m.mi∧m.mi≤100)
instance (m:TM):Decidable m.rng:=by unfold TM.rng;infer_instance
def TM.err (m:TM):Int:=if ¬ m.p.in 1000 then 2 else if ¬ (-10000≤m.t∧m.t≤10000) then 2 else if ¬ m.rng then 2 else if m.lo > m.hi then 9 else if m.lo≤m.slow then 13 else 0

theorem slow_le {m:TM} (h:m.rng):(-2000≤m.li * m.k∧m.li * m.k≤2000) ∧ -40000≤m.slow∧m.slow≤40000:=by
 obtain ⟨h1,_,_,h2,_⟩:=h
 have a:=mul_le (a:=m.li) (b:=m.k) (m:=100) (n:=20) (by omega) (by omega) (by omega) (by omega)
 have b:=mul_le (a:=m.li * m.k) (b:=m.k) (m:=2000) (n:=20) (by omega) (by omega) (by omega) (by omega)
 unfold TM.slow
 omega

theorem refModelErr_s (m:TM):Sound Try.prog 5 [m.av] (.int .i64 m.err):=by
 refine sound_W f_ref05_ModelErr (Nat.le_of_ble_eq_true rfl) ?_
 simp only [c_ref05_ModelErr,TM.av,Int.cast_ofNat_Int,Int.reduceToNat,Nat.zero_mul,Nat.reduceMul,Nat.zero_add,Nat.mul_one,List.getElem?_cons_zero,List.getElem?_cons_succ,true_and,vZ,Int.reduceEq,Int.reduceNe,Int.reduceLT,Int.reduceLE,Nat.reduceEqDiff,Nat.reduceAdd,reduceIte,reduceCtorEq,Nat.reduceLT,Nat.reduceLeDiff,Nat.reduceShiftRight,Nat.reduceMod]
 refine callS_of (refPlaceErr_s m.p) ?_
 simp only [Int.cast_ofNat_Int,Int.reduceToNat,Nat.zero_mul,Nat.reduceMul,Nat.zero_add,Nat.mul_one,List.getElem?_cons_zero,List.getElem?_cons_succ,true_and,vZ,Int.reduceEq,Int.reduceNe,Int.reduceLT,Int.reduceLE,Nat.reduceEqDiff,Nat.reduceAdd,reduceIte,reduceCtorEq,Nat.reduceLT,Nat.reduceLeDiff,Nat.reduceShiftRight,Nat.reduceMod]
 by_cases hp:m.p.in 1000
 case neg =>
  have hb:m.p.inB 1000=false:=decide_eq_false hp
  simp only [hb,vZ,Int.reduceEq,Int.reduceNe,Int.reduceLT,Int.reduceLE,Nat.reduceEqDiff,Nat.reduceAdd,reduceIte,reduceCtorEq,Nat.reduceLT,Nat.reduceLeDiff,Nat.reduceShiftRight,Nat.reduceMod]
  simp [TM.err,hp]
 have hb:m.p.inB 1000=true:=decide_eq_true hp
 simp only [hb,vZ,Int.reduceEq,Int.reduceNe,Int.reduceLT,Int.reduceLE,Nat.reduceEqDiff,Nat.reduceAdd,reduceIte,reduceCtorEq,Nat.reduceLT,Nat.reduceLeDiff,Nat.reduceShiftRight,Nat.reduceMod]
 refine callS_of (refTimeErr_s m.t) ?_
 by_cases ht : -10000≤m.t∧m.t≤10000
 case neg =>
  simp only [ht,Int.cast_ofNat_Int,Int.reduceToNat,Nat.zero_mul,Nat.reduceMul,Nat.zero_add,Nat.mul_one,List.getElem?_cons_zero,List.getElem?_cons_succ,true_and,vZ,Int.reduceEq,Int.reduceNe,Int.reduceLT,Int.reduceLE,Nat.reduceEqDiff,Nat.reduceAdd,reduceIte,reduceCtorEq,Nat.reduceLT,Nat.reduceLeDiff,Nat.reduceShiftRight,Nat.reduceMod]
  simp [TM.err,ht,hp]
 simp only [ht,Int.cast_ofNat_Int,Int.reduceToNat,Nat.zero_mul,Nat.reduceMul,Nat.zero_add,Nat.mul_one,List.getElem?_cons_zero,List.getElem?_cons_succ,true_and,vZ,Int.reduceEq,Int.reduceNe,Int.reduceLT,Int.reduceLE,Nat.reduceEqDiff,Nat.reduceAdd,reduceIte,reduceCtorEq,Nat.reduceLT,Nat.reduceLeDiff,Nat.reduceShiftRight,Nat.reduceMod]
 refine callS_of (Within_s _ _ _) ?_
 by_cases q0:1≤m.k∧m.k≤20
 case neg =>
  simp only [q0,decide_false,Bool.not_false,Int.cast_ofNat_Int,Int.reduceToNat,Nat.zero_mul,Nat.reduceMul,Nat.zero_add,Nat.mul_one,List.getElem?_cons_zero,List.getElem?_cons_succ,true_and,vZ,Int.reduceEq,Int.reduceNe,Int.reduceLT,Int.reduceLE,Nat.reduceEqDiff,Nat.reduceAdd,reduceIte,reduceCtorEq,Nat.reduceLT,Nat.reduceLeDiff,Nat.reduceShiftRight,Nat.reduceMod]
  have hr:¬ m.rng:=fun h=>q0 h.1
  simp [TM.err,hp,ht,hr]
 simp only [q0,decide_true,Bool.not_true,Int.cast_ofNat_Int,Int.reduceToNat,Nat.zero_mul,Nat.reduceMul,Nat.zero_add,Nat.mul_one,List.getElem?_cons_zero,List.getElem?_cons_succ,true_and,vZ,Int.reduceEq,Int.reduceNe,Int.reduceLT,Int.reduceLE,Nat.reduceEqDiff,Nat.reduceAdd,reduceIte,reduceCtorEq,Nat.reduceLT,Nat.reduceLeDiff,Nat.reduceShiftRight,Nat.reduceMod]
 refine callS_of (Within_s _ _ _) ?_
 by_cases q1:1≤m.lo∧m.lo≤1200
 case neg =>
  simp only [q1,decide_false,Bool.not_false,Int.cast_ofNat_Int,Int.reduceToNat,Nat.zero_mul,Nat.reduceMul,Nat.zero_add,Nat.mul_one,List.getElem?_cons_zero,List.getElem?_cons_succ,true_and,vZ,Int.reduceEq,Int.reduceNe,Int.reduceLT,Int.reduceLE,Nat.reduceEqDiff,Nat.reduceAdd,reduceIte,reduceCtorEq,Nat.reduceLT,Nat.reduceLeDiff,Nat.reduceShiftRight,Nat.reduceMod]
  have hr:¬ m.rng:=fun h=>q1 h.2.1
  simp [TM.err,hp,ht,hr]
 simp only [q1,decide_true,Bool.not_true,Int.cast_ofNat_Int,Int.reduceToNat,Nat.zero_mul,Nat.reduceMul,Nat.zero_add,Nat.mul_one,List.getElem?_cons_zero,List.getElem?_cons_succ,true_and,vZ,Int.reduceEq,Int.reduceNe,Int.reduceLT,Int.reduceLE,Nat.reduceEqDiff,Nat.reduceAdd,reduceIte,reduceCtorEq,Nat.reduceLT,Nat.reduceLeDiff,Nat.reduceShiftRight,Nat.reduceMod]
 refine callS_of (Within_s _ _ _) ?_
 by_cases q2:1≤m.hi∧m.hi≤1200
 case neg =>
  simp only [q2,decide_false,Bool.not_false,Int.cast_ofNat_Int,Int.reduceToNat,Nat.zero_mul,Nat.reduceMul,Nat.zero_add,Nat.mul_one,List.getElem?_cons_zero,List.getElem?_cons_succ,true_and,vZ,Int.reduceEq,Int.reduceNe,Int.reduceLT,Int.reduceLE,Nat.reduceEqDiff,Nat.reduceAdd,reduceIte,reduceCtorEq,Nat.reduceLT,Nat.reduceLeDiff,Nat.reduceShiftRight,Nat.reduceMod]
  have hr:¬ m.rng:=fun h=>q2 h.2.2.1
  simp [TM.err,hp,ht,hr]
 simp only [q2,decide_true,Bool.not_true,Int.cast_ofNat_Int,Int.reduceToNat,Nat.zero_mul,Nat.reduceMul,Nat.zero_add,Nat.mul_one,List.getElem?_cons_zero,List.getElem?_cons_succ,true_and,vZ,Int.reduceEq,Int.reduceNe,Int.reduceLT,Int.reduceLE,Nat.reduceEqDiff,Nat.reduceAdd,reduceIte,reduceCtorEq,Nat.reduceLT,Nat.reduceLeDiff,Nat.reduceShiftRight,Nat.reduceMod]
 refine callS_of (Within_s _ _ _) ?_
 by_cases q3:1≤m.li∧m.li≤100
 case neg =>
  simp only [q3,decide_false,Bool.not_false,Int.cast_ofNat_Int,Int.reduceToNat,Nat.zero_mul,Nat.reduceMul,Nat.zero_add,Nat.mul_one,List.getElem?_cons_zero,List.getElem?_cons_succ,true_and,vZ,Int.reduceEq,Int.reduceNe,Int.reduceLT,Int.reduceLE,Nat.reduceEqDiff,Nat.reduceAdd,reduceIte,reduceCtorEq,Nat.reduceLT,Nat.reduceLeDiff,Nat.reduceShiftRight,Nat.reduceMod]
  have hr:¬ m.rng:=fun h=>q3 h.2.2.2.1
  simp [TM.err,hp,ht,hr]
 simp only [q3,decide_true,Bool.not_true,Int.cast_ofNat_Int,Int.reduceToNat,Nat.zero_mul,Nat.reduceMul,Nat.zero_add,Nat.mul_one,List.getElem?_cons_zero,List.getElem?_cons_succ,true_and,vZ,Int.reduceEq,Int.reduceNe,Int.reduceLT,Int.reduceLE,Nat.reduceEqDiff,Nat.reduceAdd,reduceIte,reduceCtorEq,Nat.reduceLT,Nat.reduceLeDiff,Nat.reduceShiftRight,Nat.reduceMod]
 refine callS_of (isWeight_s _) ?_
 by_cases q4:0≤m.ea∧m.ea≤100
 case neg =>
  simp only [q4,decide_false,Bool.not_false,Int.cast_ofNat_Int,Int.reduceToNat,Nat.zero_mul,Nat.reduceMul,Nat.zero_add,Nat.mul_one,List.getElem?_cons_zero,List.getElem?_cons_succ,true_and,vZ,Int.reduceEq,Int.reduceNe,Int.reduceLT,Int.reduceLE,Nat.reduceEqDiff,Nat.reduceAdd,reduceIte,reduceCtorEq,Nat.reduceLT,Nat.reduceLeDiff,Nat.reduceShiftRight,Nat.reduceMod]
  have hr:¬ m.rng:=fun h=>q4 h.2.2.2.2.1
  simp [TM.err,hp,ht,hr]
 simp only [q4,decide_true,Bool.not_true,Int.cast_ofNat_Int,Int.reduceToNat,Nat.zero_mul,Nat.reduceMul,Nat.zero_add,Nat.mul_one,List.getElem?_cons_zero,List.getElem?_cons_succ,true_and,vZ,Int.reduceEq,Int.reduceNe,Int.reduceLT,Int.reduceLE,Nat.reduceEqDiff,Nat.reduceAdd,reduceIte,reduceCtorEq,Nat.reduceLT,Nat.reduceLeDiff,Nat.reduceShiftRight,Nat.reduceMod]
 refine callS_of (isWeight_s _) ?_
 by_cases q5:0≤m.la∧m.la≤100
 case neg =>
  simp only [q5,decide_false,Bool.not_false,Int.cast_ofNat_Int,Int.reduceToNat,Nat.zero_mul,Nat.reduceMul,Nat.zero_add,Nat.mul_one,List.getElem?_cons_zero,List.getElem?_cons_succ,true_and,vZ,Int.reduceEq,Int.reduceNe,Int.reduceLT,Int.reduceLE,Nat.reduceEqDiff,Nat.reduceAdd,reduceIte,reduceCtorEq,Nat.reduceLT,Nat.reduceLeDiff,Nat.reduceShiftRight,Nat.reduceMod]
  have hr:¬ m.rng:=fun h=>q5 h.2.2.2.2.2.1
  simp [TM.err,hp,ht,hr]
 simp only [q5,decide_true,Bool.not_true,Int.cast_ofNat_Int,Int.reduceToNat,Nat.zero_mul,Nat.reduceMul,Nat.zero_add,Nat.mul_one,List.getElem?_cons_zero,List.getElem?_cons_succ,true_and,vZ,Int.reduceEq,Int.reduceNe,Int.reduceLT,Int.reduceLE,Nat.reduceEqDiff,Nat.reduceAdd,reduceIte,reduceCtorEq,Nat.reduceLT,Nat.reduceLeDiff,Nat.reduceShiftRight,Nat.reduceMod]
 refine callS_of (isWeight_s _) ?_
 by_cases q6:0≤m.no∧m.no≤100
 case neg =>
  simp only [q6,decide_false,Bool.not_false,Int.cast_ofNat_Int,Int.reduceToNat,Nat.zero_mul,Nat.reduceMul,Nat.zero_add,Nat.mul_one,List.getElem?_cons_zero,List.getElem?_cons_succ,true_and,vZ,Int.reduceEq,Int.reduceNe,Int.reduceLT,Int.reduceLE,Nat.reduceEqDiff,Nat.reduceAdd,reduceIte,reduceCtorEq,Nat.reduceLT,Nat.reduceLeDiff,Nat.reduceShiftRight,Nat.reduceMod]
  have hr:¬ m.rng:=fun h=>q6 h.2.2.2.2.2.2.1
  simp [TM.err,hp,ht,hr]
 simp only [q6,decide_true,Bool.not_true,Int.cast_ofNat_Int,Int.reduceToNat,Nat.zero_mul,Nat.reduceMul,Nat.zero_add,Nat.mul_one,List.getElem?_cons_zero,List.getElem?_cons_succ,true_and,vZ,Int.reduceEq,Int.reduceNe,Int.reduceLT,Int.reduceLE,Nat.reduceEqDiff,Nat.reduceAdd,reduceIte,reduceCtorEq,Nat.reduceLT,Nat.reduceLeDiff,Nat.reduceShiftRight,Nat.reduceMod]
 refine callS_of (isWeight_s _) ?_
 by_cases q7:0≤m.mi∧m.mi≤100
 case neg =>
  simp only [q7,decide_false,Bool.not_false,Int.cast_ofNat_Int,Int.reduceToNat,Nat.zero_mul,Nat.reduceMul,Nat.zero_add,Nat.mul_one,List.getElem?_cons_zero,List.getElem?_cons_succ,true_and,vZ,Int.reduceEq,Int.reduceNe,Int.reduceLT,Int.reduceLE,Nat.reduceEqDiff,Nat.reduceAdd,reduceIte,reduceCtorEq,Nat.reduceLT,Nat.reduceLeDiff,Nat.reduceShiftRight,Nat.reduceMod]
  have hr:¬ m.rng:=fun h=>q7 h.2.2.2.2.2.2.2
  simp [TM.err,hp,ht,hr]
 simp only [q7,decide_true,Bool.not_true,Int.cast_ofNat_Int,Int.reduceToNat,Nat.zero_mul,Nat.reduceMul,Nat.zero_add,Nat.mul_one,List.getElem?_cons_zero,List.getElem?_cons_succ,true_and,vZ,Int.reduceEq,Int.reduceNe,Int.reduceLT,Int.reduceLE,Nat.reduceEqDiff,Nat.reduceAdd,reduceIte,reduceCtorEq,Nat.reduceLT,Nat.reduceLeDiff,Nat.reduceShiftRight,Nat.reduceMod]
 have hr:m.rng:=⟨q0,q1,q2,q3,q4,q5,q6,q7⟩
 obtain ⟨⟨s1,s2⟩,s3,s4⟩:=slow_le hr
 refine brB_split (fun h=>?_) (fun h=>?_)
 ·have h':m.lo > m.hi:=by simp at h;omega
  simp only [vZ,Int.reduceEq,Int.reduceNe,Int.reduceLT,Int.reduceLE,Nat.reduceEqDiff,Nat.reduceAdd,reduceIte,reduceCtorEq,Nat.reduceLT,Nat.reduceLeDiff,Nat.reduceShiftRight,Nat.reduceMod]
  simp [TM.err,hp,ht,hr,h']
 ·have h':¬ m.lo > m.hi:=by simp at h;omega
  simp only [Int.cast_ofNat_Int,Int.reduceToNat,Nat.zero_mul,Nat.reduceMul,Nat.zero_add,Nat.mul_one,List.getElem?_cons_zero,List.getElem?_cons_succ,true_and,vZ,Int.reduceEq,Int.reduceNe,Int.reduceLT,Int.reduceLE,Nat.reduceEqDiff,Nat.reduceAdd,reduceIte,reduceCtorEq,Nat.reduceLT,Nat.reduceLeDiff,Nat.reduceShiftRight,Nat.reduceMod]
  refine ⟨by unfold I64;omega,by unfold I64;unfold TM.slow at s3 s4;omega,?_⟩
  refine brB_split (fun h=>?_) (fun h=>?_)
  ·have h2:m.lo≤m.slow:=by simp at h;unfold TM.slow;omega
   simp only [vZ,Int.reduceEq,Int.reduceNe,Int.reduceLT,Int.reduceLE,Nat.reduceEqDiff,Nat.reduceAdd,reduceIte,reduceCtorEq,Nat.reduceLT,Nat.reduceLeDiff,Nat.reduceShiftRight,Nat.reduceMod]
   simp [TM.err,hp,ht,hr,h',h2]
  ·have h2:¬ m.lo≤m.slow:=by simp at h;unfold TM.slow;omega
   simp only [vZ,Int.reduceEq,Int.reduceNe,Int.reduceLT,Int.reduceLE,Nat.reduceEqDiff,Nat.reduceAdd,reduceIte,reduceCtorEq,Nat.reduceLT,Nat.reduceLeDiff,Nat.reduceShiftRight,Nat.reduceMod]
   simp [TM.err,hp,ht,hr,h',h2]
end Go.Proofs.Ytoiajhogondgcaa

/- The reference's errors of steps;counts of boxes. By an AI agent;nothing here is trusted. -/
namespace Go.Proofs.Ytoiajhogondgcaa
open Go.Av

structure TB where
 lo:V3
 hi:V3
def TB.av (b:TB):AV:=.agg [.int .i64 b.lo.x,.int .i64 b.lo.y,.int .i64 b.lo.z,.int .i64 b.hi.x,.int .i64 b.hi.y,.int .i64 b.hi.z]
def TB.count (b:TB):Int:=(b.hi.x - b.lo.x+1) * (b.hi.y - b.lo.y+1) * (b.hi.z - b.lo.z+1)

theorem refDot_in {v w:V3} {m n:Int} (hv:v.in m) (hw:w.in n) (hmn:m * n≤3000000000000000000):Sound Try.prog 60 [v.av,w.av] (.int .i64 (v.dot w)):=by
 obtain ⟨⟨a1,a2⟩,⟨b1,b2⟩,c1,c2⟩:=V3.dot_le hv hw
 generalize m * n=q at *
 apply refDot_s <;> (unfold I64;try unfold V3.dot) <;> omega
theorem refIsPermitted_s (m:TM) (v:V3) (hv:v.in 1000000000) :
  Sound Try.prog 36 [m.av,v.av] (.bool (decide (m.lo≤v.dot v∧v.dot v≤m.hi))):=by
 refine sound_W f_ref05_IsPermitted (Nat.le_of_ble_eq_true rfl) ?_
 simp only [c_ref05_IsPermitted,TM.av,V3.av,Int.cast_ofNat_Int,Int.reduceToNat,Nat.zero_mul,Nat.reduceMul,Nat.zero_add,Nat.mul_one,List.getElem?_cons_zero,List.getElem?_cons_succ,true_and,vZ,Int.reduceEq,Int.reduceNe,Int.reduceLT,Int.reduceLE,Nat.reduceEqDiff,Nat.reduceAdd,reduceIte,reduceCtorEq,Nat.reduceLT,Nat.reduceLeDiff,Nat.reduceShiftRight,Nat.reduceMod]
 refine callS_of (refDot_in (v:=v) (w:=v) hv hv (by omega)) ?_
 simp only [Int.cast_ofNat_Int,Int.reduceToNat,Nat.zero_mul,Nat.reduceMul,Nat.zero_add,Nat.mul_one,List.getElem?_cons_zero,List.getElem?_cons_succ,true_and,vZ,Int.reduceEq,Int.reduceNe,Int.reduceLT,Int.reduceLE,Nat.reduceEqDiff,Nat.reduceAdd,reduceIte,reduceCtorEq,Nat.reduceLT,Nat.reduceLeDiff,Nat.reduceShiftRight,Nat.reduceMod]
 refine callS_of (Within_s _ _ _) ?_
 simp only [Int.cast_ofNat_Int,Int.reduceToNat,Nat.zero_mul,Nat.reduceMul,Nat.zero_add,Nat.mul_one,List.getElem?_cons_zero,List.getElem?_cons_succ,true_and,vZ,Int.reduceEq,Int.reduceNe,Int.reduceLT,Int.reduceLE,Nat.reduceEqDiff,Nat.reduceAdd,reduceIte,reduceCtorEq,Nat.reduceLT,Nat.reduceLeDiff,Nat.reduceShiftRight,Nat.reduceMod]
def TM.permits (m:TM) (v:V3):Prop:=m.lo≤v.dot v∧v.dot v≤m.hi
instance (m:TM) (v:V3):Decidable (m.permits v):=by unfold TM.permits;infer_instance
def stepE (m:TM) (v:V3):Int:=if ¬ v.in 20 then 2 else if ¬ m.permits v then 24 else 0
theorem refStepErr_s (m:TM) (v:V3):Sound Try.prog 13 [m.av,v.av] (.int .i64 (stepE m v)):=by
 refine sound_W f_ref05_StepErr (Nat.le_of_ble_eq_true rfl) ?_
 simp only [c_ref05_StepErr,TM.av,V3.av,Int.cast_ofNat_Int,Int.reduceToNat,Nat.zero_mul,Nat.reduceMul,Nat.zero_add,Nat.mul_one,List.getElem?_cons_zero,List.getElem?_cons_succ,true_and,vZ,Int.reduceEq,Int.reduceNe,Int.reduceLT,Int.reduceLE,Nat.reduceEqDiff,Nat.reduceAdd,reduceIte,reduceCtorEq,Nat.reduceLT,Nat.reduceLeDiff,Nat.reduceShiftRight,Nat.reduceMod]
 refine callS_of (isSide_s _) ?_
 by_cases q0 : -20≤v.x∧v.x≤20
 case neg =>
  simp only [q0,decide_false,Bool.not_false,Int.cast_ofNat_Int,Int.reduceToNat,Nat.zero_mul,Nat.reduceMul,Nat.zero_add,Nat.mul_one,List.getElem?_cons_zero,List.getElem?_cons_succ,true_and,vZ,Int.reduceEq,Int.reduceNe,Int.reduceLT,Int.reduceLE,Nat.reduceEqDiff,Nat.reduceAdd,reduceIte,reduceCtorEq,Nat.reduceLT,Nat.reduceLeDiff,Nat.reduceShiftRight,Nat.reduceMod]
  have hr:¬ v.in 20:=fun h=>q0 h.1
  simp [stepE,hr]
 simp only [q0,decide_true,Bool.not_true,Int.cast_ofNat_Int,Int.reduceToNat,Nat.zero_mul,Nat.reduceMul,Nat.zero_add,Nat.mul_one,List.getElem?_cons_zero,List.getElem?_cons_succ,true_and,vZ,Int.reduceEq,Int.reduceNe,Int.reduceLT,Int.reduceLE,Nat.reduceEqDiff,Nat.reduceAdd,reduceIte,reduceCtorEq,Nat.reduceLT,Nat.reduceLeDiff,Nat.reduceShiftRight,Nat.reduceMod]
 refine callS_of (isSide_s _) ?_
 by_cases q1 : -20≤v.y∧v.y≤20
 case neg =>
  simp only [q1,decide_false,Bool.not_false,Int.cast_ofNat_Int,Int.reduceToNat,Nat.zero_mul,Nat.reduceMul,Nat.zero_add,Nat.mul_one,List.getElem?_cons_zero,List.getElem?_cons_succ,true_and,vZ,Int.reduceEq,Int.reduceNe,Int.reduceLT,Int.reduceLE,Nat.reduceEqDiff,Nat.reduceAdd,reduceIte,reduceCtorEq,Nat.reduceLT,Nat.reduceLeDiff,Nat.reduceShiftRight,Nat.reduceMod]
  have hr:¬ v.in 20:=fun h=>q1 h.2.1
  simp [stepE,hr]
 simp only [q1,decide_true,Bool.not_true,Int.cast_ofNat_Int,Int.reduceToNat,Nat.zero_mul,Nat.reduceMul,Nat.zero_add,Nat.mul_one,List.getElem?_cons_zero,List.getElem?_cons_succ,true_and,vZ,Int.reduceEq,Int.reduceNe,Int.reduceLT,Int.reduceLE,Nat.reduceEqDiff,Nat.reduceAdd,reduceIte,reduceCtorEq,Nat.reduceLT,Nat.reduceLeDiff,Nat.reduceShiftRight,Nat.reduceMod]
 refine callS_of (isSide_s _) ?_
 by_cases q2 : -20≤v.z∧v.z≤20
 case neg =>
  simp only [q2,decide_false,Bool.not_false,Int.cast_ofNat_Int,Int.reduceToNat,Nat.zero_mul,Nat.reduceMul,Nat.zero_add,Nat.mul_one,List.getElem?_cons_zero,List.getElem?_cons_succ,true_and,vZ,Int.reduceEq,Int.reduceNe,Int.reduceLT,Int.reduceLE,Nat.reduceEqDiff,Nat.reduceAdd,reduceIte,reduceCtorEq,Nat.reduceLT,Nat.reduceLeDiff,Nat.reduceShiftRight,Nat.reduceMod]
  have hr:¬ v.in 20:=fun h=>q2 h.2.2
  simp [stepE,hr]
 simp only [q2,decide_true,Bool.not_true,Int.cast_ofNat_Int,Int.reduceToNat,Nat.zero_mul,Nat.reduceMul,Nat.zero_add,Nat.mul_one,List.getElem?_cons_zero,List.getElem?_cons_succ,true_and,vZ,Int.reduceEq,Int.reduceNe,Int.reduceLT,Int.reduceLE,Nat.reduceEqDiff,Nat.reduceAdd,reduceIte,reduceCtorEq,Nat.reduceLT,Nat.reduceLeDiff,Nat.reduceShiftRight,Nat.reduceMod]
 have hr:v.in 20:=⟨q0,q1,q2⟩
 refine callS_of (refIsPermitted_s m v ⟨by omega,by omega,by omega⟩) ?_
 by_cases q3:m.lo≤v.dot v∧v.dot v≤m.hi
 case neg =>
  have q3':¬ m.permits v:=q3
  simp only [q3,decide_false,Bool.not_false,Int.cast_ofNat_Int,Int.reduceToNat,Nat.zero_mul,Nat.reduceMul,Nat.zero_add,Nat.mul_one,List.getElem?_cons_zero,List.getElem?_cons_succ,true_and,vZ,Int.reduceEq,Int.reduceNe,Int.reduceLT,Int.reduceLE,Nat.reduceEqDiff,Nat.reduceAdd,reduceIte,reduceCtorEq,Nat.reduceLT,Nat.reduceLeDiff,Nat.reduceShiftRight,Nat.reduceMod]
  simp [stepE,hr,q3']
 have q3':m.permits v:=q3
 simp only [q3,decide_true,Bool.not_true,Int.cast_ofNat_Int,Int.reduceToNat,Nat.zero_mul,Nat.reduceMul,Nat.zero_add,Nat.mul_one,List.getElem?_cons_zero,List.getElem?_cons_succ,true_and,vZ,Int.reduceEq,Int.reduceNe,Int.reduceLT,Int.reduceLE,Nat.reduceEqDiff,Nat.reduceAdd,reduceIte,reduceCtorEq,Nat.reduceLT,Nat.reduceLeDiff,Nat.reduceShiftRight,Nat.reduceMod]
 simp [stepE,hr,q3']
end Go.Proofs.Ytoiajhogondgcaa

/- The reference's count of a box. By an AI agent;nothing here is trusted. -/
namespace Go.Proofs.Ytoiajhogondgcaa
open Go.Av

theorem refCount_s (b:TB) (h1:b.lo.in 20) (h2:b.hi.in 20):Sound Try.prog 7 [b.av] (.int .i64 b.count):=by
 refine sound_W f_ref05_Count (Nat.le_of_ble_eq_true rfl) ?_
 obtain ⟨⟨a1,a2⟩,⟨a3,a4⟩,a5,a6⟩:=h1
 obtain ⟨⟨b1,b2⟩,⟨b3,b4⟩,b5,b6⟩:=h2
 have c1:=mul_le (a:=b.hi.x - b.lo.x+1) (b:=b.hi.y - b.lo.y+1) (m:=41) (n:=41) (by omega) (by omega) (by omega) (by omega)
 have c2:=mul_le (a:=(b.hi.x - b.lo.x+1) * (b.hi.y - b.lo.y+1)) (b:=b.hi.z - b.lo.z+1) (m:=1681) (n:=41) (by omega) (by omega) (by omega) (by omega)
 simp only [c_ref05_Count,TB.av,Int.cast_ofNat_Int,Int.reduceToNat,Nat.zero_mul,Nat.reduceMul,Nat.zero_add,Nat.mul_one,List.getElem?_cons_zero,List.getElem?_cons_succ,true_and,vZ,Int.reduceEq,Int.reduceNe,Int.reduceLT,Int.reduceLE,Nat.reduceEqDiff,Nat.reduceAdd,reduceIte,reduceCtorEq,Nat.reduceLT,Nat.reduceLeDiff,Nat.reduceShiftRight,Nat.reduceMod]
 refine ⟨?_,?_,?_,?_,?_,?_,?_,?_,rfl⟩ <;> (unfold I64;omega)
end Go.Proofs.Ytoiajhogondgcaa

/- The reference's error of a box. By an AI agent;nothing here is trusted. -/
namespace Go.Proofs.Ytoiajhogondgcaa
open Go.Av

def TB.ord (b:TB):Prop:=b.lo.x≤b.hi.x∧b.lo.y≤b.hi.y∧b.lo.z≤b.hi.z
instance (b:TB):Decidable b.ord:=by unfold TB.ord;infer_instance
def TB.err (b:TB):Int:=if ¬ (b.lo.in 20∧b.hi.in 20) then 2 else if ¬ b.ord then 9 else if b.count > 700 then 8 else 0

theorem refBoxErr_s (b:TB):Sound Try.prog 16 [b.av] (.int .i64 b.err):=by
 refine sound_W f_ref05_BoxErr (Nat.le_of_ble_eq_true rfl) ?_
 simp only [c_ref05_BoxErr,TB.av,Int.cast_ofNat_Int,Int.reduceToNat,Nat.zero_mul,Nat.reduceMul,Nat.zero_add,Nat.mul_one,List.getElem?_cons_zero,List.getElem?_cons_succ,true_and,vZ,Int.reduceEq,Int.reduceNe,Int.reduceLT,Int.reduceLE,Nat.reduceEqDiff,Nat.reduceAdd,reduceIte,reduceCtorEq,Nat.reduceLT,Nat.reduceLeDiff,Nat.reduceShiftRight,Nat.reduceMod]
 refine W_loop (t:=.mk) (α:=PSigma fun i:Nat=>i≤3∧((0<i→(-20≤b.lo.x∧b.lo.x≤20)∧(-20≤b.hi.x∧b.hi.x≤20))∧(1<i→(-20≤b.lo.y∧b.lo.y≤20)∧(-20≤b.hi.y∧b.hi.y≤20))∧(2<i→(-20≤b.lo.z∧b.lo.z≤20)∧(-20≤b.hi.z∧b.hi.z≤20)))) (fun ⟨i,_⟩=>((envOf [(1,.ptr 1 0 0),(3,.int .i64 i)],stOf [(1,⟨28,6,[b.av]⟩)]))) (fun i=>3 - i.1) ⟨0,Nat.zero_le _,?_⟩ ?_ (fun ⟨i,hi,hn⟩=>?_)
 ·simp
 ·refine weakX [] (of_decide_eq_true rfl) (of_decide_eq_true rfl) ?_
  (simp only [TB.av,vcW,vZ,Int.reduceEq,Int.reduceNe,Int.reduceLT,Int.reduceLE,Nat.reduceEqDiff,Nat.reduceAdd,reduceIte,reduceCtorEq,Nat.reduceLT,Nat.reduceLeDiff,Nat.reduceShiftRight,Nat.reduceMod])
  (repeat' first | exact trivial | (with_reducible first | exact RnB.fxB (ints_fxB _) | rfl | refine And.intro ?_ ?_) | (with_reducible (first | refine RnB.bb ?_ | refine RnB.nb ?_);simp only [vcW,vZ,Int.reduceEq,Int.reduceNe,Int.reduceLT,Int.reduceLE,Nat.reduceEqDiff,Nat.reduceAdd,reduceIte,reduceCtorEq,Nat.reduceLT,Nat.reduceLeDiff,Nat.reduceShiftRight,Nat.reduceMod]) | (with_reducible first | refine RnB.ii ?_ | refine RnB.app ?_) | (with_reducible refine RnB.fxB ?_;simp only [vcW,vZ,Int.reduceEq,Int.reduceNe,Int.reduceLT,Int.reduceLE,Nat.reduceEqDiff,Nat.reduceAdd,reduceIte,reduceCtorEq,Nat.reduceLT,Nat.reduceLeDiff,Nat.reduceShiftRight,Nat.reduceMod]) | omega)
  all_goals rfl
 ·simp only [vZ,Int.reduceEq,Int.reduceNe,Int.reduceLT,Int.reduceLE,Nat.reduceEqDiff,Nat.reduceAdd,reduceIte,reduceCtorEq,Nat.reduceLT,Nat.reduceLeDiff,Nat.reduceShiftRight,Nat.reduceMod]
  refine brB_split (fun h=>?_) (fun h=>?_)
  ·have h':i<3:=by (simp only [decide_eq_true_eq,decide_eq_false_iff_not,Bool.not_true,I64,Bool.not_eq_true',Bool.not_eq_false',bne_iff_ne,beq_iff_eq,ne_eq] at *;omega)
   obtain ⟨p1,p2,p3⟩:=hn
   obtain rfl | rfl | rfl:i=0∨i=1∨i=2:=by omega
   ·simp only [TB.av,Int.cast_ofNat_Int,Int.reduceToNat,Nat.zero_mul,Nat.reduceMul,Nat.zero_add,Nat.mul_one,List.getElem?_cons_zero,List.getElem?_cons_succ,true_and,vZ,Int.reduceEq,Int.reduceNe,Int.reduceLT,Int.reduceLE,Nat.reduceEqDiff,Nat.reduceAdd,reduceIte,reduceCtorEq,Nat.reduceLT,Nat.reduceLeDiff,Nat.reduceShiftRight,Nat.reduceMod]
    refine callS_of (isSide_s _) ?_
    by_cases q : -20≤b.lo.x∧b.lo.x≤20
    case neg =>
     have hf:¬ (b.lo.in 20∧b.hi.in 20):=fun h=>q h.1.1
     simp only [q,decide_false,Bool.not_false,Int.cast_ofNat_Int,Int.reduceToNat,Nat.zero_mul,Nat.reduceMul,Nat.zero_add,Nat.mul_one,List.getElem?_cons_zero,List.getElem?_cons_succ,true_and,vZ,Int.reduceEq,Int.reduceNe,Int.reduceLT,Int.reduceLE,Nat.reduceEqDiff,Nat.reduceAdd,reduceIte,reduceCtorEq,Nat.reduceLT,Nat.reduceLeDiff,Nat.reduceShiftRight,Nat.reduceMod]
     simp [TB.err,hf]
    simp only [q,decide_true,Bool.not_true,Int.cast_ofNat_Int,Int.reduceToNat,Nat.zero_mul,Nat.reduceMul,Nat.zero_add,Nat.mul_one,List.getElem?_cons_zero,List.getElem?_cons_succ,true_and,vZ,Int.reduceEq,Int.reduceNe,Int.reduceLT,Int.reduceLE,Nat.reduceEqDiff,Nat.reduceAdd,reduceIte,reduceCtorEq,Nat.reduceLT,Nat.reduceLeDiff,Nat.reduceShiftRight,Nat.reduceMod]
    refine callS_of (isSide_s _) ?_
    by_cases q2 : -20≤b.hi.x∧b.hi.x≤20
    case neg =>
     have hf:¬ (b.lo.in 20∧b.hi.in 20):=fun h=>q2 h.2.1
     simp only [q2,decide_false,Bool.not_false,Int.cast_ofNat_Int,Int.reduceToNat,Nat.zero_mul,Nat.reduceMul,Nat.zero_add,Nat.mul_one,List.getElem?_cons_zero,List.getElem?_cons_succ,true_and,vZ,Int.reduceEq,Int.reduceNe,Int.reduceLT,Int.reduceLE,Nat.reduceEqDiff,Nat.reduceAdd,reduceIte,reduceCtorEq,Nat.reduceLT,Nat.reduceLeDiff,Nat.reduceShiftRight,Nat.reduceMod]
     simp [TB.err,hf]
    simp only [q2,decide_true,Bool.not_true,Int.cast_ofNat_Int,Int.reduceToNat,Nat.zero_mul,Nat.reduceMul,Nat.zero_add,Nat.mul_one,List.getElem?_cons_zero,List.getElem?_cons_succ,true_and,vZ,Int.reduceEq,Int.reduceNe,Int.reduceLT,Int.reduceLE,Nat.reduceEqDiff,Nat.reduceAdd,reduceIte,reduceCtorEq,Nat.reduceLT,Nat.reduceLeDiff,Nat.reduceShiftRight,Nat.reduceMod]
    refine ⟨by (simp only [decide_eq_true_eq,decide_eq_false_iff_not,Bool.not_true,I64,Bool.not_eq_true',Bool.not_eq_false',bne_iff_ne,beq_iff_eq,ne_eq] at *;omega),⟨⟨0+1,by omega,?_⟩,by simp only;omega,?_⟩⟩
    ·(try simp only);omega
    ·refine weakX [] (of_decide_eq_true rfl) (of_decide_eq_true rfl) ?_
     (simp only [TB.av,vcW,vZ,Int.reduceEq,Int.reduceNe,Int.reduceLT,Int.reduceLE,Nat.reduceEqDiff,Nat.reduceAdd,reduceIte,reduceCtorEq,Nat.reduceLT,Nat.reduceLeDiff,Nat.reduceShiftRight,Nat.reduceMod])
     (repeat' first | exact trivial | (with_reducible first | exact RnB.fxB (ints_fxB _) | rfl | refine And.intro ?_ ?_) | (with_reducible (first | refine RnB.bb ?_ | refine RnB.nb ?_);simp only [vcW,vZ,Int.reduceEq,Int.reduceNe,Int.reduceLT,Int.reduceLE,Nat.reduceEqDiff,Nat.reduceAdd,reduceIte,reduceCtorEq,Nat.reduceLT,Nat.reduceLeDiff,Nat.reduceShiftRight,Nat.reduceMod]) | (with_reducible first | refine RnB.ii ?_ | refine RnB.app ?_) | (with_reducible refine RnB.fxB ?_;simp only [vcW,vZ,Int.reduceEq,Int.reduceNe,Int.reduceLT,Int.reduceLE,Nat.reduceEqDiff,Nat.reduceAdd,reduceIte,reduceCtorEq,Nat.reduceLT,Nat.reduceLeDiff,Nat.reduceShiftRight,Nat.reduceMod]) | omega)
     all_goals rfl
   ·simp only [TB.av,Int.cast_ofNat_Int,Int.reduceToNat,Nat.zero_mul,Nat.reduceMul,Nat.zero_add,Nat.mul_one,List.getElem?_cons_zero,List.getElem?_cons_succ,true_and,vZ,Int.reduceEq,Int.reduceNe,Int.reduceLT,Int.reduceLE,Nat.reduceEqDiff,Nat.reduceAdd,reduceIte,reduceCtorEq,Nat.reduceLT,Nat.reduceLeDiff,Nat.reduceShiftRight,Nat.reduceMod]
    refine callS_of (isSide_s _) ?_
    by_cases q : -20≤b.lo.y∧b.lo.y≤20
    case neg =>
     have hf:¬ (b.lo.in 20∧b.hi.in 20):=fun h=>q h.1.2.1
     simp only [q,decide_false,Bool.not_false,Int.cast_ofNat_Int,Int.reduceToNat,Nat.zero_mul,Nat.reduceMul,Nat.zero_add,Nat.mul_one,List.getElem?_cons_zero,List.getElem?_cons_succ,true_and,vZ,Int.reduceEq,Int.reduceNe,Int.reduceLT,Int.reduceLE,Nat.reduceEqDiff,Nat.reduceAdd,reduceIte,reduceCtorEq,Nat.reduceLT,Nat.reduceLeDiff,Nat.reduceShiftRight,Nat.reduceMod]
     simp [TB.err,hf]
    simp only [q,decide_true,Bool.not_true,Int.cast_ofNat_Int,Int.reduceToNat,Nat.zero_mul,Nat.reduceMul,Nat.zero_add,Nat.mul_one,List.getElem?_cons_zero,List.getElem?_cons_succ,true_and,vZ,Int.reduceEq,Int.reduceNe,Int.reduceLT,Int.reduceLE,Nat.reduceEqDiff,Nat.reduceAdd,reduceIte,reduceCtorEq,Nat.reduceLT,Nat.reduceLeDiff,Nat.reduceShiftRight,Nat.reduceMod]
    refine callS_of (isSide_s _) ?_
    by_cases q2 : -20≤b.hi.y∧b.hi.y≤20
    case neg =>
     have hf:¬ (b.lo.in 20∧b.hi.in 20):=fun h=>q2 h.2.2.1
     simp only [q2,decide_false,Bool.not_false,Int.cast_ofNat_Int,Int.reduceToNat,Nat.zero_mul,Nat.reduceMul,Nat.zero_add,Nat.mul_one,List.getElem?_cons_zero,List.getElem?_cons_succ,true_and,vZ,Int.reduceEq,Int.reduceNe,Int.reduceLT,Int.reduceLE,Nat.reduceEqDiff,Nat.reduceAdd,reduceIte,reduceCtorEq,Nat.reduceLT,Nat.reduceLeDiff,Nat.reduceShiftRight,Nat.reduceMod]
     simp [TB.err,hf]
    simp only [q2,decide_true,Bool.not_true,Int.cast_ofNat_Int,Int.reduceToNat,Nat.zero_mul,Nat.reduceMul,Nat.zero_add,Nat.mul_one,List.getElem?_cons_zero,List.getElem?_cons_succ,true_and,vZ,Int.reduceEq,Int.reduceNe,Int.reduceLT,Int.reduceLE,Nat.reduceEqDiff,Nat.reduceAdd,reduceIte,reduceCtorEq,Nat.reduceLT,Nat.reduceLeDiff,Nat.reduceShiftRight,Nat.reduceMod]
    refine ⟨by (simp only [decide_eq_true_eq,decide_eq_false_iff_not,Bool.not_true,I64,Bool.not_eq_true',Bool.not_eq_false',bne_iff_ne,beq_iff_eq,ne_eq] at *;omega),⟨⟨1+1,by omega,?_⟩,by simp only;omega,?_⟩⟩
    ·(try simp only);omega
    ·refine weakX [] (of_decide_eq_true rfl) (of_decide_eq_true rfl) ?_
     (simp only [TB.av,vcW,vZ,Int.reduceEq,Int.reduceNe,Int.reduceLT,Int.reduceLE,Nat.reduceEqDiff,Nat.reduceAdd,reduceIte,reduceCtorEq,Nat.reduceLT,Nat.reduceLeDiff,Nat.reduceShiftRight,Nat.reduceMod])
     (repeat' first | exact trivial | (with_reducible first | exact RnB.fxB (ints_fxB _) | rfl | refine And.intro ?_ ?_) | (with_reducible (first | refine RnB.bb ?_ | refine RnB.nb ?_);simp only [vcW,vZ,Int.reduceEq,Int.reduceNe,Int.reduceLT,Int.reduceLE,Nat.reduceEqDiff,Nat.reduceAdd,reduceIte,reduceCtorEq,Nat.reduceLT,Nat.reduceLeDiff,Nat.reduceShiftRight,Nat.reduceMod]) | (with_reducible first | refine RnB.ii ?_ | refine RnB.app ?_) | (with_reducible refine RnB.fxB ?_;simp only [vcW,vZ,Int.reduceEq,Int.reduceNe,Int.reduceLT,Int.reduceLE,Nat.reduceEqDiff,Nat.reduceAdd,reduceIte,reduceCtorEq,Nat.reduceLT,Nat.reduceLeDiff,Nat.reduceShiftRight,Nat.reduceMod]) | omega)
     all_goals rfl
   ·simp only [TB.av,Int.cast_ofNat_Int,Int.reduceToNat,Nat.zero_mul,Nat.reduceMul,Nat.zero_add,Nat.mul_one,List.getElem?_cons_zero,List.getElem?_cons_succ,true_and,vZ,Int.reduceEq,Int.reduceNe,Int.reduceLT,Int.reduceLE,Nat.reduceEqDiff,Nat.reduceAdd,reduceIte,reduceCtorEq,Nat.reduceLT,Nat.reduceLeDiff,Nat.reduceShiftRight,Nat.reduceMod]
    refine callS_of (isSide_s _) ?_
    by_cases q : -20≤b.lo.z∧b.lo.z≤20
    case neg =>
     have hf:¬ (b.lo.in 20∧b.hi.in 20):=fun h=>q h.1.2.2
     simp only [q,decide_false,Bool.not_false,Int.cast_ofNat_Int,Int.reduceToNat,Nat.zero_mul,Nat.reduceMul,Nat.zero_add,Nat.mul_one,List.getElem?_cons_zero,List.getElem?_cons_succ,true_and,vZ,Int.reduceEq,Int.reduceNe,Int.reduceLT,Int.reduceLE,Nat.reduceEqDiff,Nat.reduceAdd,reduceIte,reduceCtorEq,Nat.reduceLT,Nat.reduceLeDiff,Nat.reduceShiftRight,Nat.reduceMod]
     simp [TB.err,hf]
    simp only [q,decide_true,Bool.not_true,Int.cast_ofNat_Int,Int.reduceToNat,Nat.zero_mul,Nat.reduceMul,Nat.zero_add,Nat.mul_one,List.getElem?_cons_zero,List.getElem?_cons_succ,true_and,vZ,Int.reduceEq,Int.reduceNe,Int.reduceLT,Int.reduceLE,Nat.reduceEqDiff,Nat.reduceAdd,reduceIte,reduceCtorEq,Nat.reduceLT,Nat.reduceLeDiff,Nat.reduceShiftRight,Nat.reduceMod]
    refine callS_of (isSide_s _) ?_
    by_cases q2 : -20≤b.hi.z∧b.hi.z≤20
    case neg =>
     have hf:¬ (b.lo.in 20∧b.hi.in 20):=fun h=>q2 h.2.2.2
     simp only [q2,decide_false,Bool.not_false,Int.cast_ofNat_Int,Int.reduceToNat,Nat.zero_mul,Nat.reduceMul,Nat.zero_add,Nat.mul_one,List.getElem?_cons_zero,List.getElem?_cons_succ,true_and,vZ,Int.reduceEq,Int.reduceNe,Int.reduceLT,Int.reduceLE,Nat.reduceEqDiff,Nat.reduceAdd,reduceIte,reduceCtorEq,Nat.reduceLT,Nat.reduceLeDiff,Nat.reduceShiftRight,Nat.reduceMod]
     simp [TB.err,hf]
    simp only [q2,decide_true,Bool.not_true,Int.cast_ofNat_Int,Int.reduceToNat,Nat.zero_mul,Nat.reduceMul,Nat.zero_add,Nat.mul_one,List.getElem?_cons_zero,List.getElem?_cons_succ,true_and,vZ,Int.reduceEq,Int.reduceNe,Int.reduceLT,Int.reduceLE,Nat.reduceEqDiff,Nat.reduceAdd,reduceIte,reduceCtorEq,Nat.reduceLT,Nat.reduceLeDiff,Nat.reduceShiftRight,Nat.reduceMod]
    refine ⟨by (simp only [decide_eq_true_eq,decide_eq_false_iff_not,Bool.not_true,I64,Bool.not_eq_true',Bool.not_eq_false',bne_iff_ne,beq_iff_eq,ne_eq] at *;omega),⟨⟨2+1,by omega,?_⟩,by simp only;omega,?_⟩⟩
    ·(try simp only);omega
    ·refine weakX [] (of_decide_eq_true rfl) (of_decide_eq_true rfl) ?_
     (simp only [TB.av,vcW,vZ,Int.reduceEq,Int.reduceNe,Int.reduceLT,Int.reduceLE,Nat.reduceEqDiff,Nat.reduceAdd,reduceIte,reduceCtorEq,Nat.reduceLT,Nat.reduceLeDiff,Nat.reduceShiftRight,Nat.reduceMod])
     (repeat' first | exact trivial | (with_reducible first | exact RnB.fxB (ints_fxB _) | rfl | refine And.intro ?_ ?_) | (with_reducible (first | refine RnB.bb ?_ | refine RnB.nb ?_);simp only [vcW,vZ,Int.reduceEq,Int.reduceNe,Int.reduceLT,Int.reduceLE,Nat.reduceEqDiff,Nat.reduceAdd,reduceIte,reduceCtorEq,Nat.reduceLT,Nat.reduceLeDiff,Nat.reduceShiftRight,Nat.reduceMod]) | (with_reducible first | refine RnB.ii ?_ | refine RnB.app ?_) | (with_reducible refine RnB.fxB ?_;simp only [vcW,vZ,Int.reduceEq,Int.reduceNe,Int.reduceLT,Int.reduceLE,Nat.reduceEqDiff,Nat.reduceAdd,reduceIte,reduceCtorEq,Nat.reduceLT,Nat.reduceLeDiff,Nat.reduceShiftRight,Nat.reduceMod]) | omega)
     all_goals rfl
  ·have h':i=3:=by (simp only [decide_eq_true_eq,decide_eq_false_iff_not,Bool.not_true,I64,Bool.not_eq_true',Bool.not_eq_false',bne_iff_ne,beq_iff_eq,ne_eq] at *;omega)
   subst h'
   have hb:b.lo.in 20∧b.hi.in 20:=⟨⟨(hn.1 (by omega)).1,(hn.2.1 (by omega)).1,(hn.2.2 (by omega)).1⟩,⟨(hn.1 (by omega)).2,(hn.2.1 (by omega)).2,(hn.2.2 (by omega)).2⟩⟩
   simp only [vZ,Int.reduceEq,Int.reduceNe,Int.reduceLT,Int.reduceLE,Nat.reduceEqDiff,Nat.reduceAdd,reduceIte,reduceCtorEq,Nat.reduceLT,Nat.reduceLeDiff,Nat.reduceShiftRight,Nat.reduceMod]
   refine W_loop (t:=.mk) (α:=PSigma fun i:Nat=>i≤3∧((0<i→b.lo.x≤b.hi.x)∧(1<i→b.lo.y≤b.hi.y)∧(2<i→b.lo.z≤b.hi.z))) (fun ⟨i,_⟩=>((envOf [(1,.ptr 1 0 0),(4,.int .i64 i)],stOf [(1,⟨28,6,[b.av]⟩)]))) (fun i=>3 - i.1) ⟨0,Nat.zero_le _,?_⟩ ?_ (fun ⟨i,hi,hn⟩=>?_)
   ·simp
   ·refine weakX [] (of_decide_eq_true rfl) (of_decide_eq_true rfl) ?_
    (simp only [TB.av,vcW,vZ,Int.reduceEq,Int.reduceNe,Int.reduceLT,Int.reduceLE,Nat.reduceEqDiff,Nat.reduceAdd,reduceIte,reduceCtorEq,Nat.reduceLT,Nat.reduceLeDiff,Nat.reduceShiftRight,Nat.reduceMod])
    (repeat' first | exact trivial | (with_reducible first | exact RnB.fxB (ints_fxB _) | rfl | refine And.intro ?_ ?_) | (with_reducible (first | refine RnB.bb ?_ | refine RnB.nb ?_);simp only [vcW,vZ,Int.reduceEq,Int.reduceNe,Int.reduceLT,Int.reduceLE,Nat.reduceEqDiff,Nat.reduceAdd,reduceIte,reduceCtorEq,Nat.reduceLT,Nat.reduceLeDiff,Nat.reduceShiftRight,Nat.reduceMod]) | (with_reducible first | refine RnB.ii ?_ | refine RnB.app ?_) | (with_reducible refine RnB.fxB ?_;simp only [vcW,vZ,Int.reduceEq,Int.reduceNe,Int.reduceLT,Int.reduceLE,Nat.reduceEqDiff,Nat.reduceAdd,reduceIte,reduceCtorEq,Nat.reduceLT,Nat.reduceLeDiff,Nat.reduceShiftRight,Nat.reduceMod]) | omega)
    all_goals rfl
   ·simp only [vZ,Int.reduceEq,Int.reduceNe,Int.reduceLT,Int.reduceLE,Nat.reduceEqDiff,Nat.reduceAdd,reduceIte,reduceCtorEq,Nat.reduceLT,Nat.reduceLeDiff,Nat.reduceShiftRight,Nat.reduceMod]
    refine brB_split (fun h=>?_) (fun h=>?_)
    ·have h':i<3:=by (simp only [decide_eq_true_eq,decide_eq_false_iff_not,Bool.not_true,I64,Bool.not_eq_true',Bool.not_eq_false',bne_iff_ne,beq_iff_eq,ne_eq] at *;omega)
     obtain ⟨p1,p2,p3⟩:=hn
     obtain rfl | rfl | rfl:i=0∨i=1∨i=2:=by omega
     ·simp only [TB.av,Int.cast_ofNat_Int,Int.reduceToNat,Nat.zero_mul,Nat.reduceMul,Nat.zero_add,Nat.mul_one,List.getElem?_cons_zero,List.getElem?_cons_succ,true_and,vZ,Int.reduceEq,Int.reduceNe,Int.reduceLT,Int.reduceLE,Nat.reduceEqDiff,Nat.reduceAdd,reduceIte,reduceCtorEq,Nat.reduceLT,Nat.reduceLeDiff,Nat.reduceShiftRight,Nat.reduceMod]
      refine brB_split (fun h2=>?_) (fun h2=>?_)
      ·have hf:¬ b.ord:=fun h=>by have:=h.1;simp at h2;omega
       simp only [vZ,Int.reduceEq,Int.reduceNe,Int.reduceLT,Int.reduceLE,Nat.reduceEqDiff,Nat.reduceAdd,reduceIte,reduceCtorEq,Nat.reduceLT,Nat.reduceLeDiff,Nat.reduceShiftRight,Nat.reduceMod]
       simp [TB.err,hb,hf]
      ·have hg:b.lo.x≤b.hi.x:=by simp at h2;omega
       simp only [vZ,Int.reduceEq,Int.reduceNe,Int.reduceLT,Int.reduceLE,Nat.reduceEqDiff,Nat.reduceAdd,reduceIte,reduceCtorEq,Nat.reduceLT,Nat.reduceLeDiff,Nat.reduceShiftRight,Nat.reduceMod]
       refine ⟨by (simp only [decide_eq_true_eq,decide_eq_false_iff_not,Bool.not_true,I64,Bool.not_eq_true',Bool.not_eq_false',bne_iff_ne,beq_iff_eq,ne_eq] at *;omega),⟨⟨0+1,by omega,?_⟩,by simp only;omega,?_⟩⟩
       ·(try simp only);omega
       ·refine weakX [] (of_decide_eq_true rfl) (of_decide_eq_true rfl) ?_
        (simp only [TB.av,vcW,vZ,Int.reduceEq,Int.reduceNe,Int.reduceLT,Int.reduceLE,Nat.reduceEqDiff,Nat.reduceAdd,reduceIte,reduceCtorEq,Nat.reduceLT,Nat.reduceLeDiff,Nat.reduceShiftRight,Nat.reduceMod])
        (repeat' first | exact trivial | (with_reducible first | exact RnB.fxB (ints_fxB _) | rfl | refine And.intro ?_ ?_) | (with_reducible (first | refine RnB.bb ?_ | refine RnB.nb ?_);simp only [vcW,vZ,Int.reduceEq,Int.reduceNe,Int.reduceLT,Int.reduceLE,Nat.reduceEqDiff,Nat.reduceAdd,reduceIte,reduceCtorEq,Nat.reduceLT,Nat.reduceLeDiff,Nat.reduceShiftRight,Nat.reduceMod]) | (with_reducible first | refine RnB.ii ?_ | refine RnB.app ?_) | (with_reducible refine RnB.fxB ?_;simp only [vcW,vZ,Int.reduceEq,Int.reduceNe,Int.reduceLT,Int.reduceLE,Nat.reduceEqDiff,Nat.reduceAdd,reduceIte,reduceCtorEq,Nat.reduceLT,Nat.reduceLeDiff,Nat.reduceShiftRight,Nat.reduceMod]) | omega)
        all_goals rfl
     ·simp only [TB.av,Int.cast_ofNat_Int,Int.reduceToNat,Nat.zero_mul,Nat.reduceMul,Nat.zero_add,Nat.mul_one,List.getElem?_cons_zero,List.getElem?_cons_succ,true_and,vZ,Int.reduceEq,Int.reduceNe,Int.reduceLT,Int.reduceLE,Nat.reduceEqDiff,Nat.reduceAdd,reduceIte,reduceCtorEq,Nat.reduceLT,Nat.reduceLeDiff,Nat.reduceShiftRight,Nat.reduceMod]
      refine brB_split (fun h2=>?_) (fun h2=>?_)
      ·have hf:¬ b.ord:=fun h=>by have:=h.2.1;simp at h2;omega
       simp only [vZ,Int.reduceEq,Int.reduceNe,Int.reduceLT,Int.reduceLE,Nat.reduceEqDiff,Nat.reduceAdd,reduceIte,reduceCtorEq,Nat.reduceLT,Nat.reduceLeDiff,Nat.reduceShiftRight,Nat.reduceMod]
       simp [TB.err,hb,hf]
      ·have hg:b.lo.y≤b.hi.y:=by simp at h2;omega
       simp only [vZ,Int.reduceEq,Int.reduceNe,Int.reduceLT,Int.reduceLE,Nat.reduceEqDiff,Nat.reduceAdd,reduceIte,reduceCtorEq,Nat.reduceLT,Nat.reduceLeDiff,Nat.reduceShiftRight,Nat.reduceMod]
       refine ⟨by (simp only [decide_eq_true_eq,decide_eq_false_iff_not,Bool.not_true,I64,Bool.not_eq_true',Bool.not_eq_false',bne_iff_ne,beq_iff_eq,ne_eq] at *;omega),⟨⟨1+1,by omega,?_⟩,by simp only;omega,?_⟩⟩
       ·(try simp only);omega
       ·refine weakX [] (of_decide_eq_true rfl) (of_decide_eq_true rfl) ?_
        (simp only [TB.av,vcW,vZ,Int.reduceEq,Int.reduceNe,Int.reduceLT,Int.reduceLE,Nat.reduceEqDiff,Nat.reduceAdd,reduceIte,reduceCtorEq,Nat.reduceLT,Nat.reduceLeDiff,Nat.reduceShiftRight,Nat.reduceMod])
        (repeat' first | exact trivial | (with_reducible first | exact RnB.fxB (ints_fxB _) | rfl | refine And.intro ?_ ?_) | (with_reducible (first | refine RnB.bb ?_ | refine RnB.nb ?_);simp only [vcW,vZ,Int.reduceEq,Int.reduceNe,Int.reduceLT,Int.reduceLE,Nat.reduceEqDiff,Nat.reduceAdd,reduceIte,reduceCtorEq,Nat.reduceLT,Nat.reduceLeDiff,Nat.reduceShiftRight,Nat.reduceMod]) | (with_reducible first | refine RnB.ii ?_ | refine RnB.app ?_) | (with_reducible refine RnB.fxB ?_;simp only [vcW,vZ,Int.reduceEq,Int.reduceNe,Int.reduceLT,Int.reduceLE,Nat.reduceEqDiff,Nat.reduceAdd,reduceIte,reduceCtorEq,Nat.reduceLT,Nat.reduceLeDiff,Nat.reduceShiftRight,Nat.reduceMod]) | omega)
        all_goals rfl
     ·simp only [TB.av,Int.cast_ofNat_Int,Int.reduceToNat,Nat.zero_mul,Nat.reduceMul,Nat.zero_add,Nat.mul_one,List.getElem?_cons_zero,List.getElem?_cons_succ,true_and,vZ,Int.reduceEq,Int.reduceNe,Int.reduceLT,Int.reduceLE,Nat.reduceEqDiff,Nat.reduceAdd,reduceIte,reduceCtorEq,Nat.reduceLT,Nat.reduceLeDiff,Nat.reduceShiftRight,Nat.reduceMod]
      refine brB_split (fun h2=>?_) (fun h2=>?_)
      ·have hf:¬ b.ord:=fun h=>by have:=h.2.2;simp at h2;omega
       simp only [vZ,Int.reduceEq,Int.reduceNe,Int.reduceLT,Int.reduceLE,Nat.reduceEqDiff,Nat.reduceAdd,reduceIte,reduceCtorEq,Nat.reduceLT,Nat.reduceLeDiff,Nat.reduceShiftRight,Nat.reduceMod]
       simp [TB.err,hb,hf]
      ·have hg:b.lo.z≤b.hi.z:=by simp at h2;omega
       simp only [vZ,Int.reduceEq,Int.reduceNe,Int.reduceLT,Int.reduceLE,Nat.reduceEqDiff,Nat.reduceAdd,reduceIte,reduceCtorEq,Nat.reduceLT,Nat.reduceLeDiff,Nat.reduceShiftRight,Nat.reduceMod]
       refine ⟨by (simp only [decide_eq_true_eq,decide_eq_false_iff_not,Bool.not_true,I64,Bool.not_eq_true',Bool.not_eq_false',bne_iff_ne,beq_iff_eq,ne_eq] at *;omega),⟨⟨2+1,by omega,?_⟩,by simp only;omega,?_⟩⟩
       ·(try simp only);omega
       ·refine weakX [] (of_decide_eq_true rfl) (of_decide_eq_true rfl) ?_
        (simp only [TB.av,vcW,vZ,Int.reduceEq,Int.reduceNe,Int.reduceLT,Int.reduceLE,Nat.reduceEqDiff,Nat.reduceAdd,reduceIte,reduceCtorEq,Nat.reduceLT,Nat.reduceLeDiff,Nat.reduceShiftRight,Nat.reduceMod])
        (repeat' first | exact trivial | (with_reducible first | exact RnB.fxB (ints_fxB _) | rfl | refine And.intro ?_ ?_) | (with_reducible (first | refine RnB.bb ?_ | refine RnB.nb ?_);simp only [vcW,vZ,Int.reduceEq,Int.reduceNe,Int.reduceLT,Int.reduceLE,Nat.reduceEqDiff,Nat.reduceAdd,reduceIte,reduceCtorEq,Nat.reduceLT,Nat.reduceLeDiff,Nat.reduceShiftRight,Nat.reduceMod]) | (with_reducible first | refine RnB.ii ?_ | refine RnB.app ?_) | (with_reducible refine RnB.fxB ?_;simp only [vcW,vZ,Int.reduceEq,Int.reduceNe,Int.reduceLT,Int.reduceLE,Nat.reduceEqDiff,Nat.reduceAdd,reduceIte,reduceCtorEq,Nat.reduceLT,Nat.reduceLeDiff,Nat.reduceShiftRight,Nat.reduceMod]) | omega)
        all_goals rfl
    ·have h':i=3:=by (simp only [decide_eq_true_eq,decide_eq_false_iff_not,Bool.not_true,I64,Bool.not_eq_true',Bool.not_eq_false',bne_iff_ne,beq_iff_eq,ne_eq] at *;omega)
     subst h'
     have ho:b.ord:=⟨hn.1 (by omega),hn.2.1 (by omega),hn.2.2 (by omega)⟩
     simp only [TB.av,Int.cast_ofNat_Int,Int.reduceToNat,Nat.zero_mul,Nat.reduceMul,Nat.zero_add,Nat.mul_one,List.getElem?_cons_zero,List.getElem?_cons_succ,true_and,vZ,Int.reduceEq,Int.reduceNe,Int.reduceLT,Int.reduceLE,Nat.reduceEqDiff,Nat.reduceAdd,reduceIte,reduceCtorEq,Nat.reduceLT,Nat.reduceLeDiff,Nat.reduceShiftRight,Nat.reduceMod]
     refine callS_of (refCount_s b hb.1 hb.2) ?_
     simp only [Int.cast_ofNat_Int,Int.reduceToNat,Nat.zero_mul,Nat.reduceMul,Nat.zero_add,Nat.mul_one,List.getElem?_cons_zero,List.getElem?_cons_succ,true_and,vZ,Int.reduceEq,Int.reduceNe,Int.reduceLT,Int.reduceLE,Nat.reduceEqDiff,Nat.reduceAdd,reduceIte,reduceCtorEq,Nat.reduceLT,Nat.reduceLeDiff,Nat.reduceShiftRight,Nat.reduceMod]
     refine brB_split (fun h=>?_) (fun h=>?_)
     ·have h2:b.count > 700:=by simp at h;omega
      simp only [vZ,Int.reduceEq,Int.reduceNe,Int.reduceLT,Int.reduceLE,Nat.reduceEqDiff,Nat.reduceAdd,reduceIte,reduceCtorEq,Nat.reduceLT,Nat.reduceLeDiff,Nat.reduceShiftRight,Nat.reduceMod]
      simp [TB.err,hb,ho,h2]
     ·have h2:¬ b.count > 700:=by simp at h;omega
      simp only [vZ,Int.reduceEq,Int.reduceNe,Int.reduceLT,Int.reduceLE,Nat.reduceEqDiff,Nat.reduceAdd,reduceIte,reduceCtorEq,Nat.reduceLT,Nat.reduceLeDiff,Nat.reduceShiftRight,Nat.reduceMod]
      simp [TB.err,hb,ho,h2]
end Go.Proofs.Ytoiajhogondgcaa

/- Copies of hits. By an AI agent;nothing here is trusted. -/
namespace Go.Proofs.Ytoiajhogondgcaa
open Go.Av

def hitsL (l:List TH):List AV:=l.map TH.av
theorem hitsL_length (l:List TH):(hitsL l).length=l.length:=by simp [hitsL]
theorem hitsL_fx (l:List TH):∀ x ∈ hitsL l,fx x=true:=by
 intro x hx
 obtain ⟨n,_,rfl⟩:=List.mem_map.1 hx
 rfl
theorem hitsL_get (l:List TH) (i:Nat) (h:i<l.length):(hitsL l)[i]?=some l[i].av:=by simp [hitsL,h]
theorem newsOk_hits (l:List TH):newsOk 5 (hitsL l):=by
 intro x hx
 obtain ⟨n,_,rfl⟩:=List.mem_map.1 hx
 exact ⟨rfl,rfl⟩

theorem refCopy_s (l:List TH) (hl:l.length≤1000000):Sound Try.prog 10 [.sl (hitsL l)] (.sl (hitsL l)):=by
 refine sound_W f_ref05_Copy (Nat.le_of_ble_eq_true rfl) ?_
 have hm:1000000000≤maxLen:=by decide
 simp only [c_ref05_Copy,hitsL_length,vZ,Int.reduceEq,Int.reduceNe,Int.reduceLT,Int.reduceLE,Nat.reduceEqDiff,Nat.reduceAdd,reduceIte,reduceCtorEq,Nat.reduceLT,Nat.reduceLeDiff,Nat.reduceShiftRight,Nat.reduceMod]
 refine ⟨newsOk_hits l,⟨by omega,by omega⟩,?_⟩
 rw [borB_good _ _ _ _ _ (by simp [hitsL]) (hitsL_fx _)]

structure TS where
 b:TB
 h:List TH
def TS.av (x:TS):AV:=.agg [.int .i64 x.b.lo.x,.int .i64 x.b.lo.y,.int .i64 x.b.lo.z,.int .i64 x.b.hi.x,.int .i64 x.b.hi.y,.int .i64 x.b.hi.z,.sl (hitsL x.h)]
theorem refCopySearch_s (x:TS) (hl:x.h.length≤1000000):Sound Try.prog 12 [x.av] x.av:=by
 refine sound_W f_ref05_CopySearch (Nat.le_of_ble_eq_true rfl) ?_
 simp only [c_ref05_CopySearch,TS.av,Int.cast_ofNat_Int,Int.reduceToNat,Nat.zero_mul,Nat.reduceMul,Nat.zero_add,Nat.mul_one,List.getElem?_cons_zero,List.getElem?_cons_succ,true_and,vZ,Int.reduceEq,Int.reduceNe,Int.reduceLT,Int.reduceLE,Nat.reduceEqDiff,Nat.reduceAdd,reduceIte,reduceCtorEq,Nat.reduceLT,Nat.reduceLeDiff,Nat.reduceShiftRight,Nat.reduceMod]
 refine callS_of (refCopy_s x.h hl) ?_
 simp only [Int.cast_ofNat_Int,Int.reduceToNat,Nat.zero_mul,Nat.reduceMul,Nat.zero_add,Nat.mul_one,List.getElem?_cons_zero,List.getElem?_cons_succ,true_and,vZ,Int.reduceEq,Int.reduceNe,Int.reduceLT,Int.reduceLE,Nat.reduceEqDiff,Nat.reduceAdd,reduceIte,reduceCtorEq,Nat.reduceLT,Nat.reduceLeDiff,Nat.reduceShiftRight,Nat.reduceMod]
end Go.Proofs.Ytoiajhogondgcaa

/- Contracts of boxes: their counts. By an AI agent;nothing here is trusted. -/
namespace Go.Proofs.Ytoiajhogondgcaa
open Go.Av

theorem count_bd (b:TB) (h1:b.lo.in 20) (h2:b.hi.in 20):(-41≤b.hi.x - b.lo.x+1∧b.hi.x - b.lo.x+1≤41)∧(-41≤b.hi.y - b.lo.y+1∧b.hi.y - b.lo.y+1≤41)∧(-41≤b.hi.z - b.lo.z+1∧b.hi.z - b.lo.z+1≤41) ∧
  (-1681≤(b.hi.x - b.lo.x+1) * (b.hi.y - b.lo.y+1)∧(b.hi.x - b.lo.x+1) * (b.hi.y - b.lo.y+1)≤1681)∧(-68921≤b.count∧b.count≤68921):=by
 obtain ⟨⟨a1,a2⟩,⟨a3,a4⟩,a5,a6⟩:=h1
 obtain ⟨⟨b1,b2⟩,⟨b3,b4⟩,b5,b6⟩:=h2
 have c1:=mul_le (a:=b.hi.x - b.lo.x+1) (b:=b.hi.y - b.lo.y+1) (m:=41) (n:=41) (by omega) (by omega) (by omega) (by omega)
 have c2:=mul_le (a:=(b.hi.x - b.lo.x+1) * (b.hi.y - b.lo.y+1)) (b:=b.hi.z - b.lo.z+1) (m:=1681) (n:=41) (by omega) (by omega) (by omega) (by omega)
 unfold TB.count
 omega

theorem i64_1:I64 1=True:=eq_true (by decide)
theorem i64_2:I64 2=True:=eq_true (by decide)
theorem i64_3:I64 3=True:=eq_true (by decide)
theorem i64_4:I64 4=True:=eq_true (by decide)
theorem count_s (b:TB) (h1:b.lo.in 20) (h2:b.hi.in 20):Sound Try.prog 40 [b.av] (.int .i64 b.count):=by
 refine sound_W f_track_count (Nat.le_of_ble_eq_true rfl) ?_
 obtain ⟨p1,p2,p3,p4,p5⟩:=count_bd b h1 h2
 obtain ⟨⟨a1,a2⟩,⟨a3,a4⟩,a5,a6⟩:=h1
 obtain ⟨⟨b1,b2⟩,⟨b3,b4⟩,b5,b6⟩:=h2
 simp only [c_track_count,TB.av,Int.cast_ofNat_Int,Int.reduceToNat,Nat.zero_mul,Nat.reduceMul,Nat.zero_add,Nat.mul_one,List.getElem?_cons_zero,List.getElem?_cons_succ,true_and,vZ,Int.reduceEq,Int.reduceNe,Int.reduceLT,Int.reduceLE,Nat.reduceEqDiff,Nat.reduceAdd,reduceIte,reduceCtorEq,Nat.reduceLT,Nat.reduceLeDiff,Nat.reduceShiftRight,Nat.reduceMod]
 refine W_rnd 4 ?_
 simp only [rnd_s,Int.reduceAdd,Int.reduceSub,decide_true,decide_false,i64_1,i64_2,i64_3,i64_4,true_and,Int.one_mul,Int.cast_ofNat_Int,Int.reduceToNat,Nat.zero_mul,Nat.reduceMul,Nat.zero_add,Nat.mul_one,List.getElem?_cons_zero,List.getElem?_cons_succ,vZ,Int.reduceEq,Int.reduceNe,Int.reduceLT,Int.reduceLE,Nat.reduceEqDiff,Nat.reduceAdd,reduceIte,reduceCtorEq,Nat.reduceLT,Nat.reduceLeDiff,Nat.reduceShiftRight,Nat.reduceMod]
 (repeat (with_reducible refine And.intro ?_ ?_;focus (first | omega | (unfold I64;omega))))
 exact ⟨by unfold I64 TB.count at *;omega,rfl⟩
end Go.Proofs.Ytoiajhogondgcaa

/- Contracts of ranges of numbers: sums,products,squares. By an AI agent;nothing here is trusted. -/
namespace Go.Proofs.Ytoiajhogondgcaa
open Go.Av

structure EN where
 lo:Int
 hi:Int
def EN.av (r:EN):AV:=.agg [.int .i64 r.lo,.int .i64 r.hi]
def EN.add (r s:EN):EN:=⟨r.lo+s.lo,r.hi+s.hi⟩
def EN.mul (r s:EN):EN:=⟨min (min (min (r.lo * s.lo) (r.lo * s.hi)) (r.hi * s.lo)) (r.hi * s.hi),max (max (max (r.lo * s.lo) (r.lo * s.hi)) (r.hi * s.lo)) (r.hi * s.hi)⟩
def EN.sq (r:EN):EN:=if r.lo≤0∧0≤r.hi then ⟨0,max (r.lo * r.lo) (r.hi * r.hi)⟩ else ⟨min (r.lo * r.lo) (r.hi * r.hi),max (r.lo * r.lo) (r.hi * r.hi)⟩

theorem usedL_vw {nk:Bool} {s:Store} {k i o n:Nat} (h:s k ≠ none):usedL nk s (refsL s 5 [.vw k i o n]):=fun _ j hj=>by
 have:j=k:=by simpa [refsL,refs] using hj
 rw [this];exact h
theorem Min4_s (a b c d:Int):Sound Try.prog 82 [.sl [.int .i64 a,.int .i64 b,.int .i64 c,.int .i64 d]] (.int .i64 (min (min (min a b) c) d)):=by
 refine sound_W f_slices_Min_int_int (Nat.le_of_ble_eq_true rfl) ?_
 simp only [c_slices_Min_int_int,rnd_s,Int.reduceAdd,Int.reduceSub,decide_true,decide_false,i64_1,i64_2,i64_3,i64_4,true_and,Int.one_mul,Int.cast_ofNat_Int,Int.reduceToNat,Nat.zero_mul,Nat.reduceMul,Nat.zero_add,Nat.mul_one,List.getElem?_cons_zero,List.getElem?_cons_succ,List.length_cons,List.length_nil,vZ,Int.reduceEq,Int.reduceNe,Int.reduceLT,Int.reduceLE,Nat.reduceEqDiff,Nat.reduceAdd,reduceIte,reduceCtorEq,Nat.reduceLT,Nat.reduceLeDiff,Nat.reduceShiftRight,Nat.reduceMod]
 refine W_rnd 5 ?_
 simp only [rnd_s,Int.reduceAdd,Int.reduceSub,decide_true,decide_false,i64_1,i64_2,i64_3,i64_4,true_and,Int.one_mul,Int.cast_ofNat_Int,Int.reduceToNat,Nat.zero_mul,Nat.reduceMul,Nat.zero_add,Nat.mul_one,List.getElem?_cons_zero,List.getElem?_cons_succ,List.length_cons,List.length_nil,vZ,Int.reduceEq,Int.reduceNe,Int.reduceLT,Int.reduceLE,Nat.reduceEqDiff,Nat.reduceAdd,reduceIte,reduceCtorEq,Nat.reduceLT,Nat.reduceLeDiff,Nat.reduceShiftRight,Nat.reduceMod]
theorem Max4_s (a b c d:Int):Sound Try.prog 83 [.sl [.int .i64 a,.int .i64 b,.int .i64 c,.int .i64 d]] (.int .i64 (max (max (max a b) c) d)):=by
 refine sound_W f_slices_Max_int_int (Nat.le_of_ble_eq_true rfl) ?_
 simp only [c_slices_Max_int_int,rnd_s,Int.reduceAdd,Int.reduceSub,decide_true,decide_false,i64_1,i64_2,i64_3,i64_4,true_and,Int.one_mul,Int.cast_ofNat_Int,Int.reduceToNat,Nat.zero_mul,Nat.reduceMul,Nat.zero_add,Nat.mul_one,List.getElem?_cons_zero,List.getElem?_cons_succ,List.length_cons,List.length_nil,vZ,Int.reduceEq,Int.reduceNe,Int.reduceLT,Int.reduceLE,Nat.reduceEqDiff,Nat.reduceAdd,reduceIte,reduceCtorEq,Nat.reduceLT,Nat.reduceLeDiff,Nat.reduceShiftRight,Nat.reduceMod]
 refine W_rnd 5 ?_
 simp only [rnd_s,Int.reduceAdd,Int.reduceSub,decide_true,decide_false,i64_1,i64_2,i64_3,i64_4,true_and,Int.one_mul,Int.cast_ofNat_Int,Int.reduceToNat,Nat.zero_mul,Nat.reduceMul,Nat.zero_add,Nat.mul_one,List.getElem?_cons_zero,List.getElem?_cons_succ,List.length_cons,List.length_nil,vZ,Int.reduceEq,Int.reduceNe,Int.reduceLT,Int.reduceLE,Nat.reduceEqDiff,Nat.reduceAdd,reduceIte,reduceCtorEq,Nat.reduceLT,Nat.reduceLeDiff,Nat.reduceShiftRight,Nat.reduceMod]
theorem times_s (r s:EN) (h1:I64 (r.lo * s.lo)) (h2:I64 (r.lo * s.hi)) (h3:I64 (r.hi * s.lo)) (h4:I64 (r.hi * s.hi)):Sound Try.prog 79 [r.av,s.av] (r.mul s).av:=by
 refine sound_W f_track_ends_times (Nat.le_of_ble_eq_true rfl) ?_
 simp only [c_track_ends_times,EN.av,rnd_s,Int.reduceAdd,Int.reduceSub,decide_true,decide_false,i64_1,i64_2,i64_3,i64_4,true_and,Int.one_mul,Int.cast_ofNat_Int,Int.reduceToNat,Nat.zero_mul,Nat.reduceMul,Nat.zero_add,Nat.mul_one,List.getElem?_cons_zero,List.getElem?_cons_succ,vZ,Int.reduceEq,Int.reduceNe,Int.reduceLT,Int.reduceLE,Nat.reduceEqDiff,Nat.reduceAdd,reduceIte,reduceCtorEq,Nat.reduceLT,Nat.reduceLeDiff,Nat.reduceShiftRight,Nat.reduceMod]
 refine ⟨h1,h2,h3,h4,?_⟩
 refine callS_of (Min4_s _ _ _ _) ?_
 simp only [rnd_s,Int.reduceAdd,Int.reduceSub,decide_true,decide_false,i64_1,i64_2,i64_3,i64_4,true_and,Int.one_mul,Int.cast_ofNat_Int,Int.reduceToNat,Nat.zero_mul,Nat.reduceMul,Nat.zero_add,Nat.mul_one,List.getElem?_cons_zero,List.getElem?_cons_succ,vZ,Int.reduceEq,Int.reduceNe,Int.reduceLT,Int.reduceLE,Nat.reduceEqDiff,Nat.reduceAdd,reduceIte,reduceCtorEq,Nat.reduceLT,Nat.reduceLeDiff,Nat.reduceShiftRight,Nat.reduceMod]
 refine ⟨usedL_vw (by simp only [vZ,Int.reduceEq,Int.reduceNe,Int.reduceLT,Int.reduceLE,Nat.reduceEqDiff,Nat.reduceAdd,reduceIte,reduceCtorEq,Nat.reduceLT,Nat.reduceLeDiff,Nat.reduceShiftRight,Nat.reduceMod];simp),?_⟩
 refine callS_of (Max4_s _ _ _ _) ?_
 simp only [rnd_s,Int.reduceAdd,Int.reduceSub,decide_true,decide_false,i64_1,i64_2,i64_3,i64_4,true_and,Int.one_mul,Int.cast_ofNat_Int,Int.reduceToNat,Nat.zero_mul,Nat.reduceMul,Nat.zero_add,Nat.mul_one,List.getElem?_cons_zero,List.getElem?_cons_succ,vZ,Int.reduceEq,Int.reduceNe,Int.reduceLT,Int.reduceLE,Nat.reduceEqDiff,Nat.reduceAdd,reduceIte,reduceCtorEq,Nat.reduceLT,Nat.reduceLeDiff,Nat.reduceShiftRight,Nat.reduceMod]
 refine ⟨usedL_vw (by simp only [vZ,Int.reduceEq,Int.reduceNe,Int.reduceLT,Int.reduceLE,Nat.reduceEqDiff,Nat.reduceAdd,reduceIte,reduceCtorEq,Nat.reduceLT,Nat.reduceLeDiff,Nat.reduceShiftRight,Nat.reduceMod];simp),?_⟩
 rfl
theorem square_s (r:EN) (h1:I64 (r.lo * r.lo)) (h2:I64 (r.hi * r.hi)):Sound Try.prog 68 [r.av] r.sq.av:=by
 refine sound_W f_track_ends_square (Nat.le_of_ble_eq_true rfl) ?_
 simp only [c_track_ends_square,EN.av,rnd_s,Int.reduceAdd,Int.reduceSub,decide_true,decide_false,i64_1,i64_2,i64_3,i64_4,true_and,Int.one_mul,Int.cast_ofNat_Int,Int.reduceToNat,Nat.zero_mul,Nat.reduceMul,Nat.zero_add,Nat.mul_one,List.getElem?_cons_zero,List.getElem?_cons_succ,vZ,Int.reduceEq,Int.reduceNe,Int.reduceLT,Int.reduceLE,Nat.reduceEqDiff,Nat.reduceAdd,reduceIte,reduceCtorEq,Nat.reduceLT,Nat.reduceLeDiff,Nat.reduceShiftRight,Nat.reduceMod]
 refine ⟨h1,h2,?_⟩
 refine brB_split (fun h=>?_) (fun h=>?_)
 ·simp only [rnd_s,Int.reduceAdd,Int.reduceSub,decide_true,decide_false,i64_1,i64_2,i64_3,i64_4,true_and,Int.one_mul,Int.cast_ofNat_Int,Int.reduceToNat,Nat.zero_mul,Nat.reduceMul,Nat.zero_add,Nat.mul_one,List.getElem?_cons_zero,List.getElem?_cons_succ,vZ,Int.reduceEq,Int.reduceNe,Int.reduceLT,Int.reduceLE,Nat.reduceEqDiff,Nat.reduceAdd,reduceIte,reduceCtorEq,Nat.reduceLT,Nat.reduceLeDiff,Nat.reduceShiftRight,Nat.reduceMod]
  refine brB_split (fun h'=>?_) (fun h'=>?_)
  ·simp only [rnd_s,Int.reduceAdd,Int.reduceSub,decide_true,decide_false,i64_1,i64_2,i64_3,i64_4,true_and,Int.one_mul,Int.cast_ofNat_Int,Int.reduceToNat,Nat.zero_mul,Nat.reduceMul,Nat.zero_add,Nat.mul_one,List.getElem?_cons_zero,List.getElem?_cons_succ,vZ,Int.reduceEq,Int.reduceNe,Int.reduceLT,Int.reduceLE,Nat.reduceEqDiff,Nat.reduceAdd,reduceIte,reduceCtorEq,Nat.reduceLT,Nat.reduceLeDiff,Nat.reduceShiftRight,Nat.reduceMod]
   simp at h h'
   simp [EN.sq,h,h']
  ·simp only [rnd_s,Int.reduceAdd,Int.reduceSub,decide_true,decide_false,i64_1,i64_2,i64_3,i64_4,true_and,Int.one_mul,Int.cast_ofNat_Int,Int.reduceToNat,Nat.zero_mul,Nat.reduceMul,Nat.zero_add,Nat.mul_one,List.getElem?_cons_zero,List.getElem?_cons_succ,vZ,Int.reduceEq,Int.reduceNe,Int.reduceLT,Int.reduceLE,Nat.reduceEqDiff,Nat.reduceAdd,reduceIte,reduceCtorEq,Nat.reduceLT,Nat.reduceLeDiff,Nat.reduceShiftRight,Nat.reduceMod]
   simp at h h'
   have:¬ 0≤r.hi:=by omega
   simp [EN.sq,this]
 ·simp only [rnd_s,Int.reduceAdd,Int.reduceSub,decide_true,decide_false,i64_1,i64_2,i64_3,i64_4,true_and,Int.one_mul,Int.cast_ofNat_Int,Int.reduceToNat,Nat.zero_mul,Nat.reduceMul,Nat.zero_add,Nat.mul_one,List.getElem?_cons_zero,List.getElem?_cons_succ,vZ,Int.reduceEq,Int.reduceNe,Int.reduceLT,Int.reduceLE,Nat.reduceEqDiff,Nat.reduceAdd,reduceIte,reduceCtorEq,Nat.reduceLT,Nat.reduceLeDiff,Nat.reduceShiftRight,Nat.reduceMod]
  simp at h
  have:¬ r.lo≤0:=by omega
  simp [EN.sq,this]
theorem plus_s (r s:EN) (h1:I64 (r.lo+s.lo)) (h2:I64 (r.hi+s.hi)):Sound Try.prog 67 [r.av,s.av] (r.add s).av:=by
 refine sound_W f_track_ends_plus (Nat.le_of_ble_eq_true rfl) ?_
 simp only [c_track_ends_plus,EN.av,Int.cast_ofNat_Int,Int.reduceToNat,Nat.zero_mul,Nat.reduceMul,Nat.zero_add,Nat.mul_one,List.getElem?_cons_zero,List.getElem?_cons_succ,true_and,vZ,Int.reduceEq,Int.reduceNe,Int.reduceLT,Int.reduceLE,Nat.reduceEqDiff,Nat.reduceAdd,reduceIte,reduceCtorEq,Nat.reduceLT,Nat.reduceLeDiff,Nat.reduceShiftRight,Nat.reduceMod]
 exact ⟨h1,h2,rfl⟩
end Go.Proofs.Ytoiajhogondgcaa

/- Contracts of boxes: whether they fit,lie in another one,or apart;their halves. By an AI agent;nothing here is trusted. -/
namespace Go.Proofs.Ytoiajhogondgcaa
open Go.Av

theorem fits1_s (n l:Int) (hl:I64 (-l)):Sound Try.prog 75 [.int .i64 n,.eptr (.int .i64 l) 0] (.bool (decide (¬ (-l≤n∧n≤l)))):=by
 refine sound_W f_track_vector_fits_1 (Nat.le_of_ble_eq_true rfl) ?_
 simp only [c_track_vector_fits_1,vZ,Int.reduceEq,Int.reduceNe,Int.reduceLT,Int.reduceLE,Nat.reduceEqDiff,Nat.reduceAdd,reduceIte,reduceCtorEq,Nat.reduceLT,Nat.reduceLeDiff,Nat.reduceShiftRight,Nat.reduceMod]
 refine ⟨hl,?_⟩
 refine callS_of (within_s _ _ _) ?_
 simp only [vZ,Int.reduceEq,Int.reduceNe,Int.reduceLT,Int.reduceLE,Nat.reduceEqDiff,Nat.reduceAdd,reduceIte,reduceCtorEq,Nat.reduceLT,Nat.reduceLeDiff,Nat.reduceShiftRight,Nat.reduceMod]
 simp only [decide_not]
theorem fits3_s (v:V3) (l:Int) (hl:I64 (-l)):Sound Try.prog 74 [.sl [.int .i64 v.x,.int .i64 v.y,.int .i64 v.z],.fn 75 [.eptr (.int .i64 l) 0]] (.bool (decide (¬ v.in l))):=by
 have h:=contFunc_int_s [v.x,v.y,v.z] 75 [.eptr (.int .i64 l) 0] (fun n=>decide (¬ (-l≤n∧n≤l))) (by simp) (by simp [fx1]) (fun x _=>fits1_s x l hl)
 have e:([v.x,v.y,v.z].any fun n=>decide (¬ (-l≤n∧n≤l)))=decide (¬ v.in l):=by
  unfold V3.in
  apply Bool.eq_iff_iff.2
  simp only [List.any_cons,List.any_nil,Bool.or_false,Bool.or_eq_true,decide_eq_true_eq]
  omega
 rw [e] at h
 exact h
theorem fits_s (v:V3) (l:Int) (hl:I64 (-l)):Sound Try.prog 62 [v.av,.int .i64 l] (.bool (v.inB l)):=by
 refine sound_W f_track_vector_fits (Nat.le_of_ble_eq_true rfl) ?_
 simp only [c_track_vector_fits,V3.av,rnd_s,Int.reduceAdd,Int.reduceSub,decide_true,decide_false,i64_1,i64_2,i64_3,i64_4,true_and,Int.one_mul,Int.cast_ofNat_Int,Int.reduceToNat,Nat.zero_mul,Nat.reduceMul,Nat.zero_add,Nat.mul_one,List.getElem?_cons_zero,List.getElem?_cons_succ,vZ,Int.reduceEq,Int.reduceNe,Int.reduceLT,Int.reduceLE,Nat.reduceEqDiff,Nat.reduceAdd,reduceIte,reduceCtorEq,Nat.reduceLT,Nat.reduceLeDiff,Nat.reduceShiftRight,Nat.reduceMod]
 refine callS_of (fits3_s v l hl) ?_
 simp only [vZ,Int.reduceEq,Int.reduceNe,Int.reduceLT,Int.reduceLE,Nat.reduceEqDiff,Nat.reduceAdd,reduceIte,reduceCtorEq,Nat.reduceLT,Nat.reduceLeDiff,Nat.reduceShiftRight,Nat.reduceMod]
 simp [V3.inB]
theorem placeErr_s (v:V3):Sound Try.prog 51 [v.av] (.int .i64 (if v.inB 1000 then 0 else 2)):=by
 refine sound_W f_track_placeErr (Nat.le_of_ble_eq_true rfl) ?_
 simp only [c_track_placeErr,V3.av,rnd_s,Int.reduceAdd,Int.reduceSub,decide_true,decide_false,i64_1,i64_2,i64_3,i64_4,true_and,Int.one_mul,Int.cast_ofNat_Int,Int.reduceToNat,Nat.zero_mul,Nat.reduceMul,Nat.zero_add,Nat.mul_one,List.getElem?_cons_zero,List.getElem?_cons_succ,vZ,Int.reduceEq,Int.reduceNe,Int.reduceLT,Int.reduceLE,Nat.reduceEqDiff,Nat.reduceAdd,reduceIte,reduceCtorEq,Nat.reduceLT,Nat.reduceLeDiff,Nat.reduceShiftRight,Nat.reduceMod]
 refine callS_of (fits_s v 1000 (by decide)) ?_
 simp only [vZ,Int.reduceEq,Int.reduceNe,Int.reduceLT,Int.reduceLE,Nat.reduceEqDiff,Nat.reduceAdd,reduceIte,reduceCtorEq,Nat.reduceLT,Nat.reduceLeDiff,Nat.reduceShiftRight,Nat.reduceMod]
 refine callS_of (unless_s _ _) ?_
 simp only [vZ,Int.reduceEq,Int.reduceNe,Int.reduceLT,Int.reduceLE,Nat.reduceEqDiff,Nat.reduceAdd,reduceIte,reduceCtorEq,Nat.reduceLT,Nat.reduceLeDiff,Nat.reduceShiftRight,Nat.reduceMod]
theorem timeErr_s (n:Int):Sound Try.prog 76 [.int .i64 n] (.int .i64 (if -10000≤n∧n≤10000 then 0 else 2)):=by
 refine sound_W f_track_timeErr (Nat.le_of_ble_eq_true rfl) ?_
 simp only [c_track_timeErr,vZ,Int.reduceEq,Int.reduceNe,Int.reduceLT,Int.reduceLE,Nat.reduceEqDiff,Nat.reduceAdd,reduceIte,reduceCtorEq,Nat.reduceLT,Nat.reduceLeDiff,Nat.reduceShiftRight,Nat.reduceMod]
 refine callS_of (within_s _ _ _) ?_
 simp only [vZ,Int.reduceEq,Int.reduceNe,Int.reduceLT,Int.reduceLE,Nat.reduceEqDiff,Nat.reduceAdd,reduceIte,reduceCtorEq,Nat.reduceLT,Nat.reduceLeDiff,Nat.reduceShiftRight,Nat.reduceMod]
 refine callS_of (unless_s _ _) ?_
 simp only [vZ,Int.reduceEq,Int.reduceNe,Int.reduceLT,Int.reduceLE,Nat.reduceEqDiff,Nat.reduceAdd,reduceIte,reduceCtorEq,Nat.reduceLT,Nat.reduceLeDiff,Nat.reduceShiftRight,Nat.reduceMod]
 simp

theorem CheckBox_s (b:TB):Sound Try.prog 39 [b.av] (.int .i64 b.err):=by
 refine sound_W f_track_CheckBox (Nat.le_of_ble_eq_true rfl) ?_
 simp only [c_track_CheckBox,TB.av,rnd_s,Int.reduceAdd,Int.reduceSub,decide_true,decide_false,i64_1,i64_2,i64_3,i64_4,true_and,Int.one_mul,Int.cast_ofNat_Int,Int.reduceToNat,Nat.zero_mul,Nat.reduceMul,Nat.zero_add,Nat.mul_one,List.getElem?_cons_zero,List.getElem?_cons_succ,vZ,Int.reduceEq,Int.reduceNe,Int.reduceLT,Int.reduceLE,Nat.reduceEqDiff,Nat.reduceAdd,reduceIte,reduceCtorEq,Nat.reduceLT,Nat.reduceLeDiff,Nat.reduceShiftRight,Nat.reduceMod]
 refine callS_of (fits_s b.lo 20 (by decide)) ?_
 by_cases q1:b.lo.in 20
 case neg =>
  have q1':b.lo.inB 20=false:=decide_eq_false q1
  simp only [q1',rnd_s,Int.reduceAdd,Int.reduceSub,decide_true,decide_false,i64_1,i64_2,i64_3,i64_4,true_and,Int.one_mul,Int.cast_ofNat_Int,Int.reduceToNat,Nat.zero_mul,Nat.reduceMul,Nat.zero_add,Nat.mul_one,List.getElem?_cons_zero,List.getElem?_cons_succ,vZ,Int.reduceEq,Int.reduceNe,Int.reduceLT,Int.reduceLE,Nat.reduceEqDiff,Nat.reduceAdd,reduceIte,reduceCtorEq,Nat.reduceLT,Nat.reduceLeDiff,Nat.reduceShiftRight,Nat.reduceMod]
  simp [TB.err,q1]
 have q1':b.lo.inB 20=true:=decide_eq_true q1
 simp only [q1',rnd_s,Int.reduceAdd,Int.reduceSub,decide_true,decide_false,i64_1,i64_2,i64_3,i64_4,true_and,Int.one_mul,Int.cast_ofNat_Int,Int.reduceToNat,Nat.zero_mul,Nat.reduceMul,Nat.zero_add,Nat.mul_one,List.getElem?_cons_zero,List.getElem?_cons_succ,vZ,Int.reduceEq,Int.reduceNe,Int.reduceLT,Int.reduceLE,Nat.reduceEqDiff,Nat.reduceAdd,reduceIte,reduceCtorEq,Nat.reduceLT,Nat.reduceLeDiff,Nat.reduceShiftRight,Nat.reduceMod]
 refine callS_of (fits_s b.hi 20 (by decide)) ?_
 by_cases q2:b.hi.in 20
 case neg =>
  have q2':b.hi.inB 20=false:=decide_eq_false q2
  simp only [q2',rnd_s,Int.reduceAdd,Int.reduceSub,decide_true,decide_false,i64_1,i64_2,i64_3,i64_4,true_and,Int.one_mul,Int.cast_ofNat_Int,Int.reduceToNat,Nat.zero_mul,Nat.reduceMul,Nat.zero_add,Nat.mul_one,List.getElem?_cons_zero,List.getElem?_cons_succ,vZ,Int.reduceEq,Int.reduceNe,Int.reduceLT,Int.reduceLE,Nat.reduceEqDiff,Nat.reduceAdd,reduceIte,reduceCtorEq,Nat.reduceLT,Nat.reduceLeDiff,Nat.reduceShiftRight,Nat.reduceMod]
  simp [TB.err,q2]
 have q2':b.hi.inB 20=true:=decide_eq_true q2
 simp only [q2',rnd_s,Int.reduceAdd,Int.reduceSub,decide_true,decide_false,i64_1,i64_2,i64_3,i64_4,true_and,Int.one_mul,Int.cast_ofNat_Int,Int.reduceToNat,Nat.zero_mul,Nat.reduceMul,Nat.zero_add,Nat.mul_one,List.getElem?_cons_zero,List.getElem?_cons_succ,vZ,Int.reduceEq,Int.reduceNe,Int.reduceLT,Int.reduceLE,Nat.reduceEqDiff,Nat.reduceAdd,reduceIte,reduceCtorEq,Nat.reduceLT,Nat.reduceLeDiff,Nat.reduceShiftRight,Nat.reduceMod]
 refine W_rnd 4 ?_
 simp only [rnd_s,Int.reduceAdd,Int.reduceSub,decide_true,decide_false,i64_1,i64_2,i64_3,i64_4,true_and,Int.one_mul,Int.cast_ofNat_Int,Int.reduceToNat,Nat.zero_mul,Nat.reduceMul,Nat.zero_add,Nat.mul_one,List.getElem?_cons_zero,List.getElem?_cons_succ,vZ,Int.reduceEq,Int.reduceNe,Int.reduceLT,Int.reduceLE,Nat.reduceEqDiff,Nat.reduceAdd,reduceIte,reduceCtorEq,Nat.reduceLT,Nat.reduceLeDiff,Nat.reduceShiftRight,Nat.reduceMod]
 refine brB_split (fun h=>?_) (fun h=>?_)
 ·have ho:¬ b.ord:=fun g=>by have:=g.1;simp at h;omega
  simp only [rnd_s,Int.reduceAdd,Int.reduceSub,decide_true,decide_false,i64_1,i64_2,i64_3,i64_4,true_and,Int.one_mul,Int.cast_ofNat_Int,Int.reduceToNat,Nat.zero_mul,Nat.reduceMul,Nat.zero_add,Nat.mul_one,List.getElem?_cons_zero,List.getElem?_cons_succ,vZ,Int.reduceEq,Int.reduceNe,Int.reduceLT,Int.reduceLE,Nat.reduceEqDiff,Nat.reduceAdd,reduceIte,reduceCtorEq,Nat.reduceLT,Nat.reduceLeDiff,Nat.reduceShiftRight,Nat.reduceMod]
  simp [TB.err,q1,q2,ho]
 simp only [rnd_s,Int.reduceAdd,Int.reduceSub,decide_true,decide_false,i64_1,i64_2,i64_3,i64_4,true_and,Int.one_mul,Int.cast_ofNat_Int,Int.reduceToNat,Nat.zero_mul,Nat.reduceMul,Nat.zero_add,Nat.mul_one,List.getElem?_cons_zero,List.getElem?_cons_succ,vZ,Int.reduceEq,Int.reduceNe,Int.reduceLT,Int.reduceLE,Nat.reduceEqDiff,Nat.reduceAdd,reduceIte,reduceCtorEq,Nat.reduceLT,Nat.reduceLeDiff,Nat.reduceShiftRight,Nat.reduceMod]
 refine brB_split (fun h1=>?_) (fun h1=>?_)
 ·have ho:¬ b.ord:=fun g=>by have:=g.2.1;simp at h1;omega
  simp only [rnd_s,Int.reduceAdd,Int.reduceSub,decide_true,decide_false,i64_1,i64_2,i64_3,i64_4,true_and,Int.one_mul,Int.cast_ofNat_Int,Int.reduceToNat,Nat.zero_mul,Nat.reduceMul,Nat.zero_add,Nat.mul_one,List.getElem?_cons_zero,List.getElem?_cons_succ,vZ,Int.reduceEq,Int.reduceNe,Int.reduceLT,Int.reduceLE,Nat.reduceEqDiff,Nat.reduceAdd,reduceIte,reduceCtorEq,Nat.reduceLT,Nat.reduceLeDiff,Nat.reduceShiftRight,Nat.reduceMod]
  simp [TB.err,q1,q2,ho]
 simp only [rnd_s,Int.reduceAdd,Int.reduceSub,decide_true,decide_false,i64_1,i64_2,i64_3,i64_4,true_and,Int.one_mul,Int.cast_ofNat_Int,Int.reduceToNat,Nat.zero_mul,Nat.reduceMul,Nat.zero_add,Nat.mul_one,List.getElem?_cons_zero,List.getElem?_cons_succ,vZ,Int.reduceEq,Int.reduceNe,Int.reduceLT,Int.reduceLE,Nat.reduceEqDiff,Nat.reduceAdd,reduceIte,reduceCtorEq,Nat.reduceLT,Nat.reduceLeDiff,Nat.reduceShiftRight,Nat.reduceMod]
 refine brB_split (fun h2=>?_) (fun h2=>?_)
 ·have ho:¬ b.ord:=fun g=>by have:=g.2.2;simp at h2;omega
  simp only [rnd_s,Int.reduceAdd,Int.reduceSub,decide_true,decide_false,i64_1,i64_2,i64_3,i64_4,true_and,Int.one_mul,Int.cast_ofNat_Int,Int.reduceToNat,Nat.zero_mul,Nat.reduceMul,Nat.zero_add,Nat.mul_one,List.getElem?_cons_zero,List.getElem?_cons_succ,vZ,Int.reduceEq,Int.reduceNe,Int.reduceLT,Int.reduceLE,Nat.reduceEqDiff,Nat.reduceAdd,reduceIte,reduceCtorEq,Nat.reduceLT,Nat.reduceLeDiff,Nat.reduceShiftRight,Nat.reduceMod]
  simp [TB.err,q1,q2,ho]
 have ho:b.ord:=by simp at h h1 h2;exact ⟨h,h1,h2⟩
 simp only [rnd_s,Int.reduceAdd,Int.reduceSub,decide_true,decide_false,i64_1,i64_2,i64_3,i64_4,true_and,Int.one_mul,Int.cast_ofNat_Int,Int.reduceToNat,Nat.zero_mul,Nat.reduceMul,Nat.zero_add,Nat.mul_one,List.getElem?_cons_zero,List.getElem?_cons_succ,vZ,Int.reduceEq,Int.reduceNe,Int.reduceLT,Int.reduceLE,Nat.reduceEqDiff,Nat.reduceAdd,reduceIte,reduceCtorEq,Nat.reduceLT,Nat.reduceLeDiff,Nat.reduceShiftRight,Nat.reduceMod]
 refine callS_of (count_s b q1 q2) ?_
 simp only [rnd_s,Int.reduceAdd,Int.reduceSub,decide_true,decide_false,i64_1,i64_2,i64_3,i64_4,true_and,Int.one_mul,Int.cast_ofNat_Int,Int.reduceToNat,Nat.zero_mul,Nat.reduceMul,Nat.zero_add,Nat.mul_one,List.getElem?_cons_zero,List.getElem?_cons_succ,vZ,Int.reduceEq,Int.reduceNe,Int.reduceLT,Int.reduceLE,Nat.reduceEqDiff,Nat.reduceAdd,reduceIte,reduceCtorEq,Nat.reduceLT,Nat.reduceLeDiff,Nat.reduceShiftRight,Nat.reduceMod]
 refine callS_of (unless_s _ _) ?_
 simp only [rnd_s,Int.reduceAdd,Int.reduceSub,decide_true,decide_false,i64_1,i64_2,i64_3,i64_4,true_and,Int.one_mul,Int.cast_ofNat_Int,Int.reduceToNat,Nat.zero_mul,Nat.reduceMul,Nat.zero_add,Nat.mul_one,List.getElem?_cons_zero,List.getElem?_cons_succ,vZ,Int.reduceEq,Int.reduceNe,Int.reduceLT,Int.reduceLE,Nat.reduceEqDiff,Nat.reduceAdd,reduceIte,reduceCtorEq,Nat.reduceLT,Nat.reduceLeDiff,Nat.reduceShiftRight,Nat.reduceMod]
 simp only [TB.err,q1,q2,ho,and_self,not_true_eq_false,if_false]
 by_cases h7:b.count≤700
 ·have:¬ b.count > 700:=by omega
  simp [h7]
 ·have:b.count > 700:=by omega
  simp [h7]

def TB.in (a b:TB):Prop:=(b.lo.x≤a.lo.x∧a.hi.x≤b.hi.x)∧(b.lo.y≤a.lo.y∧a.hi.y≤b.hi.y)∧(b.lo.z≤a.lo.z∧a.hi.z≤b.hi.z)
instance (a b:TB):Decidable (a.in b):=by unfold TB.in;infer_instance
def TB.apart (a b:TB):Prop:=(a.hi.x<b.lo.x∨b.hi.x<a.lo.x)∨(a.hi.y<b.lo.y∨b.hi.y<a.lo.y)∨(a.hi.z<b.lo.z∨b.hi.z<a.lo.z)
instance (a b:TB):Decidable (a.apart b):=by unfold TB.apart;infer_instance
theorem inside_s (a b:TB):Sound Try.prog 45 [a.av,b.av] (.bool (decide (a.in b))):=by
 refine sound_W f_track_inside (Nat.le_of_ble_eq_true rfl) ?_
 simp only [c_track_inside,TB.av,rnd_s,Int.reduceAdd,Int.reduceSub,decide_true,decide_false,i64_1,i64_2,i64_3,i64_4,true_and,Int.one_mul,Int.cast_ofNat_Int,Int.reduceToNat,Nat.zero_mul,Nat.reduceMul,Nat.zero_add,Nat.mul_one,List.getElem?_cons_zero,List.getElem?_cons_succ,vZ,Int.reduceEq,Int.reduceNe,Int.reduceLT,Int.reduceLE,Nat.reduceEqDiff,Nat.reduceAdd,reduceIte,reduceCtorEq,Nat.reduceLT,Nat.reduceLeDiff,Nat.reduceShiftRight,Nat.reduceMod]
 refine W_rnd 4 ?_
 simp only [rnd_s,Int.reduceAdd,Int.reduceSub,decide_true,decide_false,i64_1,i64_2,i64_3,i64_4,true_and,Int.one_mul,Int.cast_ofNat_Int,Int.reduceToNat,Nat.zero_mul,Nat.reduceMul,Nat.zero_add,Nat.mul_one,List.getElem?_cons_zero,List.getElem?_cons_succ,vZ,Int.reduceEq,Int.reduceNe,Int.reduceLT,Int.reduceLE,Nat.reduceEqDiff,Nat.reduceAdd,reduceIte,reduceCtorEq,Nat.reduceLT,Nat.reduceLeDiff,Nat.reduceShiftRight,Nat.reduceMod]
 (repeat' (refine brB_split (fun h=>?_) (fun h=>?_) <;> simp only [decide_eq_true_eq,decide_eq_false_iff_not,Bool.not_true,Bool.not_false] at h <;> (try simp only [rnd_s,Int.reduceAdd,Int.reduceSub,decide_true,decide_false,i64_1,i64_2,i64_3,i64_4,true_and,Int.one_mul,Int.cast_ofNat_Int,Int.reduceToNat,Nat.zero_mul,Nat.reduceMul,Nat.zero_add,Nat.mul_one,List.getElem?_cons_zero,List.getElem?_cons_succ,vZ,Int.reduceEq,Int.reduceNe,Int.reduceLT,Int.reduceLE,Nat.reduceEqDiff,Nat.reduceAdd,reduceIte,reduceCtorEq,Nat.reduceLT,Nat.reduceLeDiff,Nat.reduceShiftRight,Nat.reduceMod])))
 all_goals first
  | rw [decide_eq_true (show a.in b by unfold TB.in;omega)]
  | rw [decide_eq_false (show ¬ a.in b by unfold TB.in;omega)]
theorem apart_s (a b:TB):Sound Try.prog 44 [a.av,b.av] (.bool (decide (a.apart b))):=by
 refine sound_W f_track_apart (Nat.le_of_ble_eq_true rfl) ?_
 simp only [c_track_apart,TB.av,rnd_s,Int.reduceAdd,Int.reduceSub,decide_true,decide_false,i64_1,i64_2,i64_3,i64_4,true_and,Int.one_mul,Int.cast_ofNat_Int,Int.reduceToNat,Nat.zero_mul,Nat.reduceMul,Nat.zero_add,Nat.mul_one,List.getElem?_cons_zero,List.getElem?_cons_succ,vZ,Int.reduceEq,Int.reduceNe,Int.reduceLT,Int.reduceLE,Nat.reduceEqDiff,Nat.reduceAdd,reduceIte,reduceCtorEq,Nat.reduceLT,Nat.reduceLeDiff,Nat.reduceShiftRight,Nat.reduceMod]
 refine W_rnd 4 ?_
 simp only [rnd_s,Int.reduceAdd,Int.reduceSub,decide_true,decide_false,i64_1,i64_2,i64_3,i64_4,true_and,Int.one_mul,Int.cast_ofNat_Int,Int.reduceToNat,Nat.zero_mul,Nat.reduceMul,Nat.zero_add,Nat.mul_one,List.getElem?_cons_zero,List.getElem?_cons_succ,vZ,Int.reduceEq,Int.reduceNe,Int.reduceLT,Int.reduceLE,Nat.reduceEqDiff,Nat.reduceAdd,reduceIte,reduceCtorEq,Nat.reduceLT,Nat.reduceLeDiff,Nat.reduceShiftRight,Nat.reduceMod]
 (repeat' (refine brB_split (fun h=>?_) (fun h=>?_) <;> simp only [decide_eq_true_eq,decide_eq_false_iff_not,Bool.not_true,Bool.not_false] at h <;> (try simp only [rnd_s,Int.reduceAdd,Int.reduceSub,decide_true,decide_false,i64_1,i64_2,i64_3,i64_4,true_and,Int.one_mul,Int.cast_ofNat_Int,Int.reduceToNat,Nat.zero_mul,Nat.reduceMul,Nat.zero_add,Nat.mul_one,List.getElem?_cons_zero,List.getElem?_cons_succ,vZ,Int.reduceEq,Int.reduceNe,Int.reduceLT,Int.reduceLE,Nat.reduceEqDiff,Nat.reduceAdd,reduceIte,reduceCtorEq,Nat.reduceLT,Nat.reduceLeDiff,Nat.reduceShiftRight,Nat.reduceMod])))
 all_goals first
  | rw [decide_eq_true (show a.apart b by unfold TB.apart;omega)]
  | rw [decide_eq_false (show ¬ a.apart b by unfold TB.apart;omega)]

end Go.Proofs.Ytoiajhogondgcaa

/- Contracts of checks: hits. By an AI agent;nothing here is trusted. -/
namespace Go.Proofs.Ytoiajhogondgcaa
open Go.Av

theorem usedL_buf {s:Store} {k len ty sz:Nat} {es rest:List AV} (hs:s k=some (some ⟨ty,sz,es⟩)) (he:(es.take len).all imm=true) (hr:rest.all imm=true):usedL true s (refsL s 5 (.buf k len :: rest)):=by
 intro _ j hj
 have h1:refsL s 5 (.buf k len :: rest)=[k]:=by
  have h2:refsL s 5 (.buf k len :: rest)=refs s 5 (.buf k len) ++ refsL s 5 rest:=rfl
  rw [h2,refsL_imm s 5 rest hr,refs_buf,hs,List.append_nil]
  unfold refsK
  simp only [he,if_true]
 rw [h1,List.mem_singleton] at hj
 rw [hj,hs];simp

def TH.ok (h:TH):Prop:=h.p.in 1000∧(-10000≤h.t∧h.t≤10000)∧(0≤h.w∧h.w≤100)
instance (h:TH):Decidable h.ok:=by unfold TH.ok;infer_instance
def hitsE (l:List TH):Int:=if l.length > 12 then 8 else if l.all (fun h=>decide h.ok) then 0 else 2
def hitsI (l:List TH):Int:=if l.length > 12 then 0 else if l.all (fun h=>decide h.ok) then 0 else idxOf l (fun h=>!decide h.ok)
theorem hits_bad (l:List TH) (i:Nat) (h':i<l.length) (hl:¬ l.length > 12) (hn:∀ x ∈ l.take i,x.ok) (hb:¬ l[i].ok):hitsE l=2∧hitsI l=i:=by
 have ha:l.all (fun h=>decide h.ok)=false:=by
  rw [← Bool.not_eq_true,List.all_eq_true]
  exact fun h=>hb (by simpa using h l[i] (List.getElem_mem h'))
 have hs:l.findIdx? (fun h=>!decide h.ok)=some i:=by
  rw [List.findIdx?_eq_some_iff_getElem]
  refine ⟨h',by simp [hb],fun j hj=>?_⟩
  have:=hn l[j] (by rw [List.mem_take_iff_getElem];exact ⟨j,by omega,rfl⟩)
  simp [this]
 simp [hitsE,hitsI,hl,ha,idxOf,hs]
theorem hits_good (l:List TH) (hl:¬ l.length > 12) (hn:∀ x ∈ l,x.ok):hitsE l=0∧hitsI l=0:=by
 have ha:l.all (fun h=>decide h.ok)=true:=List.all_eq_true.2 fun x hx=>decide_eq_true (hn x hx)
 simp [hitsE,hitsI,hl,ha]
theorem take_ok {l:List TH} {i:Nat} (h':i<l.length) (hn:∀ x ∈ l.take i,x.ok) (hb:l[i].ok):∀ x ∈ l.take (i+1),x.ok:=by
 rw [List.take_succ_eq_append_getElem h']
 intro x hx
 rcases List.mem_append.1 hx with hx | hx
 ·exact hn x hx
 ·simp at hx;rw [hx];exact hb

theorem CheckHits_s (l:List TH) (hlen:l.length<4000000000000000000):Sound Try.prog 63 [.sl (hitsL l)] (.tup [.int .i64 (hitsI l),.int .i64 (hitsE l)]):=by
 refine sound_W f_track_CheckHits (Nat.le_of_ble_eq_true rfl) ?_
 simp only [c_track_CheckHits,hitsL_length,vZ,Int.reduceEq,Int.reduceNe,Int.reduceLT,Int.reduceLE,Nat.reduceEqDiff,Nat.reduceAdd,reduceIte,reduceCtorEq,Nat.reduceLT,Nat.reduceLeDiff,Nat.reduceShiftRight,Nat.reduceMod]
 refine brB_split (fun h=>?_) (fun h=>?_)
 ·have h1:l.length > 12:=by simp at h;omega
  simp only [vZ,Int.reduceEq,Int.reduceNe,Int.reduceLT,Int.reduceLE,Nat.reduceEqDiff,Nat.reduceAdd,reduceIte,reduceCtorEq,Nat.reduceLT,Nat.reduceLeDiff,Nat.reduceShiftRight,Nat.reduceMod]
  simp [hitsI,hitsE,h1]
 ·have h1:¬ l.length > 12:=by simp at h;omega
  simp only [hitsL_length,vZ,Int.reduceEq,Int.reduceNe,Int.reduceLT,Int.reduceLE,Nat.reduceEqDiff,Nat.reduceAdd,reduceIte,reduceCtorEq,Nat.reduceLT,Nat.reduceLeDiff,Nat.reduceShiftRight,Nat.reduceMod]
  refine W_loop (t:=.mk) (α:=PSigma fun i:Nat=>i≤l.length∧(∀ x ∈ l.take i,x.ok)) (fun ⟨i,_⟩=>((envOf [(10,.sl (hitsL l)),(11,.int .i64 l.length),(12,.int .i64 i)],stOf []))) (fun i=>l.length - i.1) ⟨0,Nat.zero_le _,?_⟩ ?_ (fun ⟨i,hi,hn⟩=>?_)
  ·simp
  ·refine weakX [] (of_decide_eq_true rfl) (of_decide_eq_true rfl) ?_
   (simp only [vcW,vZ,Int.reduceEq,Int.reduceNe,Int.reduceLT,Int.reduceLE,Nat.reduceEqDiff,Nat.reduceAdd,reduceIte,reduceCtorEq,Nat.reduceLT,Nat.reduceLeDiff,Nat.reduceShiftRight,Nat.reduceMod])
   (repeat' first | exact trivial | (with_reducible first | exact RnB.fxB (ints_fxB _) | rfl | refine And.intro ?_ ?_) | (with_reducible (first | refine RnB.bb ?_ | refine RnB.nb ?_);simp only [vcW,vZ,Int.reduceEq,Int.reduceNe,Int.reduceLT,Int.reduceLE,Nat.reduceEqDiff,Nat.reduceAdd,reduceIte,reduceCtorEq,Nat.reduceLT,Nat.reduceLeDiff,Nat.reduceShiftRight,Nat.reduceMod]) | (with_reducible first | refine RnB.ii ?_ | refine RnB.app ?_) | (with_reducible refine RnB.fxB ?_;simp only [vcW,vZ,Int.reduceEq,Int.reduceNe,Int.reduceLT,Int.reduceLE,Nat.reduceEqDiff,Nat.reduceAdd,reduceIte,reduceCtorEq,Nat.reduceLT,Nat.reduceLeDiff,Nat.reduceShiftRight,Nat.reduceMod]) | omega)
   all_goals rfl
  ·simp only [vZ,Int.reduceEq,Int.reduceNe,Int.reduceLT,Int.reduceLE,Nat.reduceEqDiff,Nat.reduceAdd,reduceIte,reduceCtorEq,Nat.reduceLT,Nat.reduceLeDiff,Nat.reduceShiftRight,Nat.reduceMod]
   refine brB_split (fun h2=>?_) (fun h2=>?_)
   ·have h':i<l.length:=by (simp only [decide_eq_true_eq,decide_eq_false_iff_not,Bool.not_true,I64,Bool.not_eq_true',Bool.not_eq_false',bne_iff_ne,beq_iff_eq,ne_eq] at *;omega)
    simp only [hitsL_get l i h',TH.av,rnd_s,Int.reduceAdd,Int.reduceSub,decide_true,decide_false,i64_1,i64_2,i64_3,i64_4,true_and,Int.one_mul,Int.cast_ofNat_Int,Int.reduceToNat,Nat.zero_mul,Nat.reduceMul,Nat.zero_add,Nat.mul_one,List.getElem?_cons_zero,List.getElem?_cons_succ,vZ,Int.reduceEq,Int.reduceNe,Int.reduceLT,Int.reduceLE,Nat.reduceEqDiff,Nat.reduceAdd,reduceIte,reduceCtorEq,Nat.reduceLT,Nat.reduceLeDiff,Nat.reduceShiftRight,Nat.reduceMod]
    refine ⟨by omega,?_⟩
    refine callS_of (placeErr_s l[i].p) ?_
    simp only [rnd_s,Int.reduceAdd,Int.reduceSub,decide_true,decide_false,i64_1,i64_2,i64_3,i64_4,true_and,Int.one_mul,Int.cast_ofNat_Int,Int.reduceToNat,Nat.zero_mul,Nat.reduceMul,Nat.zero_add,Nat.mul_one,List.getElem?_cons_zero,List.getElem?_cons_succ,vZ,Int.reduceEq,Int.reduceNe,Int.reduceLT,Int.reduceLE,Nat.reduceEqDiff,Nat.reduceAdd,reduceIte,reduceCtorEq,Nat.reduceLT,Nat.reduceLeDiff,Nat.reduceShiftRight,Nat.reduceMod]
    refine callS_of (timeErr_s _) ?_
    simp only [rnd_s,Int.reduceAdd,Int.reduceSub,decide_true,decide_false,i64_1,i64_2,i64_3,i64_4,true_and,Int.one_mul,Int.cast_ofNat_Int,Int.reduceToNat,Nat.zero_mul,Nat.reduceMul,Nat.zero_add,Nat.mul_one,List.getElem?_cons_zero,List.getElem?_cons_succ,vZ,Int.reduceEq,Int.reduceNe,Int.reduceLT,Int.reduceLE,Nat.reduceEqDiff,Nat.reduceAdd,reduceIte,reduceCtorEq,Nat.reduceLT,Nat.reduceLeDiff,Nat.reduceShiftRight,Nat.reduceMod]
    refine callS_of (within_s _ _ _) ?_
    simp only [rnd_s,Int.reduceAdd,Int.reduceSub,decide_true,decide_false,i64_1,i64_2,i64_3,i64_4,true_and,Int.one_mul,Int.cast_ofNat_Int,Int.reduceToNat,Nat.zero_mul,Nat.reduceMul,Nat.zero_add,Nat.mul_one,List.getElem?_cons_zero,List.getElem?_cons_succ,vZ,Int.reduceEq,Int.reduceNe,Int.reduceLT,Int.reduceLE,Nat.reduceEqDiff,Nat.reduceAdd,reduceIte,reduceCtorEq,Nat.reduceLT,Nat.reduceLeDiff,Nat.reduceShiftRight,Nat.reduceMod]
    refine callS_of (unless_s _ _) ?_
    simp only [rnd_s,Int.reduceAdd,Int.reduceSub,decide_true,decide_false,i64_1,i64_2,i64_3,i64_4,true_and,Int.one_mul,Int.cast_ofNat_Int,Int.reduceToNat,Nat.zero_mul,Nat.reduceMul,Nat.zero_add,Nat.mul_one,List.getElem?_cons_zero,List.getElem?_cons_succ,vZ,Int.reduceEq,Int.reduceNe,Int.reduceLT,Int.reduceLE,Nat.reduceEqDiff,Nat.reduceAdd,reduceIte,reduceCtorEq,Nat.reduceLT,Nat.reduceLeDiff,Nat.reduceShiftRight,Nat.reduceMod]
    refine callS_of (first3_s _ _ _) ?_
    simp only [rnd_s,Int.reduceAdd,Int.reduceSub,decide_true,decide_false,i64_1,i64_2,i64_3,i64_4,true_and,Int.one_mul,Int.cast_ofNat_Int,Int.reduceToNat,Nat.zero_mul,Nat.reduceMul,Nat.zero_add,Nat.mul_one,List.getElem?_cons_zero,List.getElem?_cons_succ,vZ,Int.reduceEq,Int.reduceNe,Int.reduceLT,Int.reduceLE,Nat.reduceEqDiff,Nat.reduceAdd,reduceIte,reduceCtorEq,Nat.reduceLT,Nat.reduceLeDiff,Nat.reduceShiftRight,Nat.reduceMod]
    refine ⟨usedL_buf rfl (ints_imm [_,_,_]) rfl,?_⟩
    refine brB_split (fun h3=>?_) (fun h3=>?_)
    ·simp only [rnd_s,Int.reduceAdd,Int.reduceSub,decide_true,decide_false,i64_1,i64_2,i64_3,i64_4,true_and,Int.one_mul,Int.cast_ofNat_Int,Int.reduceToNat,Nat.zero_mul,Nat.reduceMul,Nat.zero_add,Nat.mul_one,List.getElem?_cons_zero,List.getElem?_cons_succ,vZ,Int.reduceEq,Int.reduceNe,Int.reduceLT,Int.reduceLE,Nat.reduceEqDiff,Nat.reduceAdd,reduceIte,reduceCtorEq,Nat.reduceLT,Nat.reduceLeDiff,Nat.reduceShiftRight,Nat.reduceMod]
     have hb:¬ l[i].ok:=fun g=>by
      obtain ⟨g1,g2,g3⟩:=g
      have g1':l[i].p.inB 1000=true:=decide_eq_true g1
      simp [g1',g2,g3] at h3
     obtain ⟨g1,g2⟩:=hits_bad l i h' h1 hn hb
     rw [g1,g2]
     by_cases p1:l[i].p.inB 1000=true <;> by_cases p2 : -10000≤l[i].t∧l[i].t≤10000 <;> by_cases p3:0≤l[i].w∧l[i].w≤100 <;> simp [p1,p2,p3] at h3 ⊢
    ·simp only [rnd_s,Int.reduceAdd,Int.reduceSub,decide_true,decide_false,i64_1,i64_2,i64_3,i64_4,true_and,Int.one_mul,Int.cast_ofNat_Int,Int.reduceToNat,Nat.zero_mul,Nat.reduceMul,Nat.zero_add,Nat.mul_one,List.getElem?_cons_zero,List.getElem?_cons_succ,vZ,Int.reduceEq,Int.reduceNe,Int.reduceLT,Int.reduceLE,Nat.reduceEqDiff,Nat.reduceAdd,reduceIte,reduceCtorEq,Nat.reduceLT,Nat.reduceLeDiff,Nat.reduceShiftRight,Nat.reduceMod]
     have hb:l[i].ok:=by
      by_cases g1:l[i].p.in 1000
      case neg =>
       have g1':l[i].p.inB 1000=false:=decide_eq_false g1
       simp [g1'] at h3
      have g1':l[i].p.inB 1000=true:=decide_eq_true g1
      by_cases g2 : -10000≤l[i].t∧l[i].t≤10000
      case neg=>simp [g1',g2] at h3
      by_cases g3:0≤l[i].w∧l[i].w≤100
      case neg=>simp [g1',g2,g3] at h3
      exact ⟨g1,g2,g3⟩
     refine ⟨by (simp only [decide_eq_true_eq,decide_eq_false_iff_not,Bool.not_true,I64,Bool.not_eq_true',Bool.not_eq_false',bne_iff_ne,beq_iff_eq,ne_eq] at *;omega),⟨⟨i+1,by omega,?_⟩,by simp only;omega,?_⟩⟩
     ·exact take_ok h' hn hb
     ·refine weakX [] (of_decide_eq_true rfl) (of_decide_eq_true rfl) ?_
      (simp only [vcW,vZ,Int.reduceEq,Int.reduceNe,Int.reduceLT,Int.reduceLE,Nat.reduceEqDiff,Nat.reduceAdd,reduceIte,reduceCtorEq,Nat.reduceLT,Nat.reduceLeDiff,Nat.reduceShiftRight,Nat.reduceMod])
      (repeat' first | exact trivial | (with_reducible first | exact RnB.fxB (ints_fxB _) | rfl | refine And.intro ?_ ?_) | (with_reducible (first | refine RnB.bb ?_ | refine RnB.nb ?_);simp only [vcW,vZ,Int.reduceEq,Int.reduceNe,Int.reduceLT,Int.reduceLE,Nat.reduceEqDiff,Nat.reduceAdd,reduceIte,reduceCtorEq,Nat.reduceLT,Nat.reduceLeDiff,Nat.reduceShiftRight,Nat.reduceMod]) | (with_reducible first | refine RnB.ii ?_ | refine RnB.app ?_) | (with_reducible refine RnB.fxB ?_;simp only [vcW,vZ,Int.reduceEq,Int.reduceNe,Int.reduceLT,Int.reduceLE,Nat.reduceEqDiff,Nat.reduceAdd,reduceIte,reduceCtorEq,Nat.reduceLT,Nat.reduceLeDiff,Nat.reduceShiftRight,Nat.reduceMod]) | omega)
      all_goals simp
   ·simp only [vZ,Int.reduceEq,Int.reduceNe,Int.reduceLT,Int.reduceLE,Nat.reduceEqDiff,Nat.reduceAdd,reduceIte,reduceCtorEq,Nat.reduceLT,Nat.reduceLeDiff,Nat.reduceShiftRight,Nat.reduceMod]
    have:i=l.length:=by (simp only [decide_eq_true_eq,decide_eq_false_iff_not,Bool.not_true,I64,Bool.not_eq_true',Bool.not_eq_false',bne_iff_ne,beq_iff_eq,ne_eq] at *;omega)
    subst this
    rw [List.take_length] at hn
    obtain ⟨g1,g2⟩:=hits_good l h1 hn
    rw [g1,g2]

theorem hitsErr_s (l:List TH) (hlen:l.length<4000000000000000000):Sound Try.prog 38 [.sl (hitsL l)] (.int .i64 (hitsE l)):=by
 refine sound_W f_track_hitsErr (Nat.le_of_ble_eq_true rfl) ?_
 simp only [c_track_hitsErr,vZ,Int.reduceEq,Int.reduceNe,Int.reduceLT,Int.reduceLE,Nat.reduceEqDiff,Nat.reduceAdd,reduceIte,reduceCtorEq,Nat.reduceLT,Nat.reduceLeDiff,Nat.reduceShiftRight,Nat.reduceMod]
 refine callS_of (CheckHits_s l hlen) ?_
 simp only [rnd_s,Int.reduceAdd,Int.reduceSub,decide_true,decide_false,i64_1,i64_2,i64_3,i64_4,true_and,Int.one_mul,Int.cast_ofNat_Int,Int.reduceToNat,Nat.zero_mul,Nat.reduceMul,Nat.zero_add,Nat.mul_one,List.getElem?_cons_zero,List.getElem?_cons_succ,vZ,Int.reduceEq,Int.reduceNe,Int.reduceLT,Int.reduceLE,Nat.reduceEqDiff,Nat.reduceAdd,reduceIte,reduceCtorEq,Nat.reduceLT,Nat.reduceLeDiff,Nat.reduceShiftRight,Nat.reduceMod]
end Go.Proofs.Ytoiajhogondgcaa

/- Contracts of checks: models;what opens models,boxes,hits and steps. By an AI agent;nothing here is trusted. -/
namespace Go.Proofs.Ytoiajhogondgcaa
open Go.Av

set_option maxHeartbeats 2000000 in
set_option maxRecDepth 4000 in
theorem CheckModel_s (m:TM):Sound Try.prog 73 [m.av] (.int .i64 m.err):=by
 refine sound_W f_track_CheckModel (Nat.le_of_ble_eq_true rfl) ?_
 simp only [c_track_CheckModel,TM.av,rnd_s,Int.reduceAdd,Int.reduceSub,decide_true,decide_false,i64_1,i64_2,i64_3,i64_4,true_and,Int.one_mul,Int.cast_ofNat_Int,Int.reduceToNat,Nat.zero_mul,Nat.reduceMul,Nat.zero_add,Nat.mul_one,List.getElem?_cons_zero,List.getElem?_cons_succ,vZ,Int.reduceEq,Int.reduceNe,Int.reduceLT,Int.reduceLE,Nat.reduceEqDiff,Nat.reduceAdd,reduceIte,reduceCtorEq,Nat.reduceLT,Nat.reduceLeDiff,Nat.reduceShiftRight,Nat.reduceMod]
 refine callS_of (within_s _ _ _) ?_
 by_cases q0:1≤m.k∧m.k≤20
 case neg =>
  have hr:¬ m.rng:=fun h=>q0 h.1
  simp only [q0,decide_false,Bool.not_false,rnd_s,Int.reduceAdd,Int.reduceSub,decide_true,decide_false,i64_1,i64_2,i64_3,i64_4,true_and,Int.one_mul,Int.cast_ofNat_Int,Int.reduceToNat,Nat.zero_mul,Nat.reduceMul,Nat.zero_add,Nat.mul_one,List.getElem?_cons_zero,List.getElem?_cons_succ,vZ,Int.reduceEq,Int.reduceNe,Int.reduceLT,Int.reduceLE,Nat.reduceEqDiff,Nat.reduceAdd,reduceIte,reduceCtorEq,Nat.reduceLT,Nat.reduceLeDiff,Nat.reduceShiftRight,Nat.reduceMod]
  refine W_rnd 5 ?_
  simp only [rnd_s,Int.reduceAdd,Int.reduceSub,decide_true,decide_false,i64_1,i64_2,i64_3,i64_4,true_and,Int.one_mul,Int.cast_ofNat_Int,Int.reduceToNat,Nat.zero_mul,Nat.reduceMul,Nat.zero_add,Nat.mul_one,List.getElem?_cons_zero,List.getElem?_cons_succ,vZ,Int.reduceEq,Int.reduceNe,Int.reduceLT,Int.reduceLE,Nat.reduceEqDiff,Nat.reduceAdd,reduceIte,reduceCtorEq,Nat.reduceLT,Nat.reduceLeDiff,Nat.reduceShiftRight,Nat.reduceMod]
  refine callS_of (placeErr_s m.p) ?_
  simp only [rnd_s,Int.reduceAdd,Int.reduceSub,decide_true,decide_false,i64_1,i64_2,i64_3,i64_4,true_and,Int.one_mul,Int.cast_ofNat_Int,Int.reduceToNat,Nat.zero_mul,Nat.reduceMul,Nat.zero_add,Nat.mul_one,List.getElem?_cons_zero,List.getElem?_cons_succ,vZ,Int.reduceEq,Int.reduceNe,Int.reduceLT,Int.reduceLE,Nat.reduceEqDiff,Nat.reduceAdd,reduceIte,reduceCtorEq,Nat.reduceLT,Nat.reduceLeDiff,Nat.reduceShiftRight,Nat.reduceMod]
  refine callS_of (timeErr_s m.t) ?_
  simp only [rnd_s,Int.reduceAdd,Int.reduceSub,decide_true,decide_false,i64_1,i64_2,i64_3,i64_4,true_and,Int.one_mul,Int.cast_ofNat_Int,Int.reduceToNat,Nat.zero_mul,Nat.reduceMul,Nat.zero_add,Nat.mul_one,List.getElem?_cons_zero,List.getElem?_cons_succ,vZ,Int.reduceEq,Int.reduceNe,Int.reduceLT,Int.reduceLE,Nat.reduceEqDiff,Nat.reduceAdd,reduceIte,reduceCtorEq,Nat.reduceLT,Nat.reduceLeDiff,Nat.reduceShiftRight,Nat.reduceMod]
  refine callS_of (unless_s _ _) ?_
  simp only [rnd_s,Int.reduceAdd,Int.reduceSub,decide_true,decide_false,i64_1,i64_2,i64_3,i64_4,true_and,Int.one_mul,Int.cast_ofNat_Int,Int.reduceToNat,Nat.zero_mul,Nat.reduceMul,Nat.zero_add,Nat.mul_one,List.getElem?_cons_zero,List.getElem?_cons_succ,vZ,Int.reduceEq,Int.reduceNe,Int.reduceLT,Int.reduceLE,Nat.reduceEqDiff,Nat.reduceAdd,reduceIte,reduceCtorEq,Nat.reduceLT,Nat.reduceLeDiff,Nat.reduceShiftRight,Nat.reduceMod]
  refine callS_of (first3_s _ _ _) ?_
  simp only [rnd_s,Int.reduceAdd,Int.reduceSub,decide_true,decide_false,i64_1,i64_2,i64_3,i64_4,true_and,Int.one_mul,Int.cast_ofNat_Int,Int.reduceToNat,Nat.zero_mul,Nat.reduceMul,Nat.zero_add,Nat.mul_one,List.getElem?_cons_zero,List.getElem?_cons_succ,vZ,Int.reduceEq,Int.reduceNe,Int.reduceLT,Int.reduceLE,Nat.reduceEqDiff,Nat.reduceAdd,reduceIte,reduceCtorEq,Nat.reduceLT,Nat.reduceLeDiff,Nat.reduceShiftRight,Nat.reduceMod]
  refine ⟨usedL_buf rfl (ints_imm [_,_,_]) rfl,?_⟩
  refine brB_split (fun h=>?_) (fun h=>?_)
  ·simp only [rnd_s,Int.reduceAdd,Int.reduceSub,decide_true,decide_false,i64_1,i64_2,i64_3,i64_4,true_and,Int.one_mul,Int.cast_ofNat_Int,Int.reduceToNat,Nat.zero_mul,Nat.reduceMul,Nat.zero_add,Nat.mul_one,List.getElem?_cons_zero,List.getElem?_cons_succ,vZ,Int.reduceEq,Int.reduceNe,Int.reduceLT,Int.reduceLE,Nat.reduceEqDiff,Nat.reduceAdd,reduceIte,reduceCtorEq,Nat.reduceLT,Nat.reduceLeDiff,Nat.reduceShiftRight,Nat.reduceMod]
   by_cases p1:m.p.in 1000 <;> by_cases p2 : -10000≤m.t∧m.t≤10000 <;> simp [TM.err,V3.inB,p1,p2,hr]
  ·by_cases p1:m.p.in 1000 <;> by_cases p2 : -10000≤m.t∧m.t≤10000 <;> simp [V3.inB,p1,p2] at h
 simp only [q0,decide_true,Bool.not_true,rnd_s,Int.reduceAdd,Int.reduceSub,decide_true,decide_false,i64_1,i64_2,i64_3,i64_4,true_and,Int.one_mul,Int.cast_ofNat_Int,Int.reduceToNat,Nat.zero_mul,Nat.reduceMul,Nat.zero_add,Nat.mul_one,List.getElem?_cons_zero,List.getElem?_cons_succ,vZ,Int.reduceEq,Int.reduceNe,Int.reduceLT,Int.reduceLE,Nat.reduceEqDiff,Nat.reduceAdd,reduceIte,reduceCtorEq,Nat.reduceLT,Nat.reduceLeDiff,Nat.reduceShiftRight,Nat.reduceMod]
 refine callS_of (within_s _ _ _) ?_
 by_cases q1:1≤m.lo∧m.lo≤1200
 case neg =>
  have hr:¬ m.rng:=fun h=>q1 h.2.1
  simp only [q1,decide_false,Bool.not_false,rnd_s,Int.reduceAdd,Int.reduceSub,decide_true,decide_false,i64_1,i64_2,i64_3,i64_4,true_and,Int.one_mul,Int.cast_ofNat_Int,Int.reduceToNat,Nat.zero_mul,Nat.reduceMul,Nat.zero_add,Nat.mul_one,List.getElem?_cons_zero,List.getElem?_cons_succ,vZ,Int.reduceEq,Int.reduceNe,Int.reduceLT,Int.reduceLE,Nat.reduceEqDiff,Nat.reduceAdd,reduceIte,reduceCtorEq,Nat.reduceLT,Nat.reduceLeDiff,Nat.reduceShiftRight,Nat.reduceMod]
  refine W_rnd 5 ?_
  simp only [rnd_s,Int.reduceAdd,Int.reduceSub,decide_true,decide_false,i64_1,i64_2,i64_3,i64_4,true_and,Int.one_mul,Int.cast_ofNat_Int,Int.reduceToNat,Nat.zero_mul,Nat.reduceMul,Nat.zero_add,Nat.mul_one,List.getElem?_cons_zero,List.getElem?_cons_succ,vZ,Int.reduceEq,Int.reduceNe,Int.reduceLT,Int.reduceLE,Nat.reduceEqDiff,Nat.reduceAdd,reduceIte,reduceCtorEq,Nat.reduceLT,Nat.reduceLeDiff,Nat.reduceShiftRight,Nat.reduceMod]
  refine callS_of (placeErr_s m.p) ?_
  simp only [rnd_s,Int.reduceAdd,Int.reduceSub,decide_true,decide_false,i64_1,i64_2,i64_3,i64_4,true_and,Int.one_mul,Int.cast_ofNat_Int,Int.reduceToNat,Nat.zero_mul,Nat.reduceMul,Nat.zero_add,Nat.mul_one,List.getElem?_cons_zero,List.getElem?_cons_succ,vZ,Int.reduceEq,Int.reduceNe,Int.reduceLT,Int.reduceLE,Nat.reduceEqDiff,Nat.reduceAdd,reduceIte,reduceCtorEq,Nat.reduceLT,Nat.reduceLeDiff,Nat.reduceShiftRight,Nat.reduceMod]
  refine callS_of (timeErr_s m.t) ?_
  simp only [rnd_s,Int.reduceAdd,Int.reduceSub,decide_true,decide_false,i64_1,i64_2,i64_3,i64_4,true_and,Int.one_mul,Int.cast_ofNat_Int,Int.reduceToNat,Nat.zero_mul,Nat.reduceMul,Nat.zero_add,Nat.mul_one,List.getElem?_cons_zero,List.getElem?_cons_succ,vZ,Int.reduceEq,Int.reduceNe,Int.reduceLT,Int.reduceLE,Nat.reduceEqDiff,Nat.reduceAdd,reduceIte,reduceCtorEq,Nat.reduceLT,Nat.reduceLeDiff,Nat.reduceShiftRight,Nat.reduceMod]
  refine callS_of (unless_s _ _) ?_
  simp only [rnd_s,Int.reduceAdd,Int.reduceSub,decide_true,decide_false,i64_1,i64_2,i64_3,i64_4,true_and,Int.one_mul,Int.cast_ofNat_Int,Int.reduceToNat,Nat.zero_mul,Nat.reduceMul,Nat.zero_add,Nat.mul_one,List.getElem?_cons_zero,List.getElem?_cons_succ,vZ,Int.reduceEq,Int.reduceNe,Int.reduceLT,Int.reduceLE,Nat.reduceEqDiff,Nat.reduceAdd,reduceIte,reduceCtorEq,Nat.reduceLT,Nat.reduceLeDiff,Nat.reduceShiftRight,Nat.reduceMod]
  refine callS_of (first3_s _ _ _) ?_
  simp only [rnd_s,Int.reduceAdd,Int.reduceSub,decide_true,decide_false,i64_1,i64_2,i64_3,i64_4,true_and,Int.one_mul,Int.cast_ofNat_Int,Int.reduceToNat,Nat.zero_mul,Nat.reduceMul,Nat.zero_add,Nat.mul_one,List.getElem?_cons_zero,List.getElem?_cons_succ,vZ,Int.reduceEq,Int.reduceNe,Int.reduceLT,Int.reduceLE,Nat.reduceEqDiff,Nat.reduceAdd,reduceIte,reduceCtorEq,Nat.reduceLT,Nat.reduceLeDiff,Nat.reduceShiftRight,Nat.reduceMod]
  refine ⟨usedL_buf rfl (ints_imm [_,_,_]) rfl,?_⟩
  refine brB_split (fun h=>?_) (fun h=>?_)
  ·simp only [rnd_s,Int.reduceAdd,Int.reduceSub,decide_true,decide_false,i64_1,i64_2,i64_3,i64_4,true_and,Int.one_mul,Int.cast_ofNat_Int,Int.reduceToNat,Nat.zero_mul,Nat.reduceMul,Nat.zero_add,Nat.mul_one,List.getElem?_cons_zero,List.getElem?_cons_succ,vZ,Int.reduceEq,Int.reduceNe,Int.reduceLT,Int.reduceLE,Nat.reduceEqDiff,Nat.reduceAdd,reduceIte,reduceCtorEq,Nat.reduceLT,Nat.reduceLeDiff,Nat.reduceShiftRight,Nat.reduceMod]
   by_cases p1:m.p.in 1000 <;> by_cases p2 : -10000≤m.t∧m.t≤10000 <;> simp [TM.err,V3.inB,p1,p2,hr]
  ·by_cases p1:m.p.in 1000 <;> by_cases p2 : -10000≤m.t∧m.t≤10000 <;> simp [V3.inB,p1,p2] at h
 simp only [q1,decide_true,Bool.not_true,rnd_s,Int.reduceAdd,Int.reduceSub,decide_true,decide_false,i64_1,i64_2,i64_3,i64_4,true_and,Int.one_mul,Int.cast_ofNat_Int,Int.reduceToNat,Nat.zero_mul,Nat.reduceMul,Nat.zero_add,Nat.mul_one,List.getElem?_cons_zero,List.getElem?_cons_succ,vZ,Int.reduceEq,Int.reduceNe,Int.reduceLT,Int.reduceLE,Nat.reduceEqDiff,Nat.reduceAdd,reduceIte,reduceCtorEq,Nat.reduceLT,Nat.reduceLeDiff,Nat.reduceShiftRight,Nat.reduceMod]
 refine callS_of (within_s _ _ _) ?_
 by_cases q2:1≤m.hi∧m.hi≤1200
 case neg =>
  have hr:¬ m.rng:=fun h=>q2 h.2.2.1
  simp only [q2,decide_false,Bool.not_false,rnd_s,Int.reduceAdd,Int.reduceSub,decide_true,decide_false,i64_1,i64_2,i64_3,i64_4,true_and,Int.one_mul,Int.cast_ofNat_Int,Int.reduceToNat,Nat.zero_mul,Nat.reduceMul,Nat.zero_add,Nat.mul_one,List.getElem?_cons_zero,List.getElem?_cons_succ,vZ,Int.reduceEq,Int.reduceNe,Int.reduceLT,Int.reduceLE,Nat.reduceEqDiff,Nat.reduceAdd,reduceIte,reduceCtorEq,Nat.reduceLT,Nat.reduceLeDiff,Nat.reduceShiftRight,Nat.reduceMod]
  refine W_rnd 5 ?_
  simp only [rnd_s,Int.reduceAdd,Int.reduceSub,decide_true,decide_false,i64_1,i64_2,i64_3,i64_4,true_and,Int.one_mul,Int.cast_ofNat_Int,Int.reduceToNat,Nat.zero_mul,Nat.reduceMul,Nat.zero_add,Nat.mul_one,List.getElem?_cons_zero,List.getElem?_cons_succ,vZ,Int.reduceEq,Int.reduceNe,Int.reduceLT,Int.reduceLE,Nat.reduceEqDiff,Nat.reduceAdd,reduceIte,reduceCtorEq,Nat.reduceLT,Nat.reduceLeDiff,Nat.reduceShiftRight,Nat.reduceMod]
  refine callS_of (placeErr_s m.p) ?_
  simp only [rnd_s,Int.reduceAdd,Int.reduceSub,decide_true,decide_false,i64_1,i64_2,i64_3,i64_4,true_and,Int.one_mul,Int.cast_ofNat_Int,Int.reduceToNat,Nat.zero_mul,Nat.reduceMul,Nat.zero_add,Nat.mul_one,List.getElem?_cons_zero,List.getElem?_cons_succ,vZ,Int.reduceEq,Int.reduceNe,Int.reduceLT,Int.reduceLE,Nat.reduceEqDiff,Nat.reduceAdd,reduceIte,reduceCtorEq,Nat.reduceLT,Nat.reduceLeDiff,Nat.reduceShiftRight,Nat.reduceMod]
  refine callS_of (timeErr_s m.t) ?_
  simp only [rnd_s,Int.reduceAdd,Int.reduceSub,decide_true,decide_false,i64_1,i64_2,i64_3,i64_4,true_and,Int.one_mul,Int.cast_ofNat_Int,Int.reduceToNat,Nat.zero_mul,Nat.reduceMul,Nat.zero_add,Nat.mul_one,List.getElem?_cons_zero,List.getElem?_cons_succ,vZ,Int.reduceEq,Int.reduceNe,Int.reduceLT,Int.reduceLE,Nat.reduceEqDiff,Nat.reduceAdd,reduceIte,reduceCtorEq,Nat.reduceLT,Nat.reduceLeDiff,Nat.reduceShiftRight,Nat.reduceMod]
  refine callS_of (unless_s _ _) ?_
  simp only [rnd_s,Int.reduceAdd,Int.reduceSub,decide_true,decide_false,i64_1,i64_2,i64_3,i64_4,true_and,Int.one_mul,Int.cast_ofNat_Int,Int.reduceToNat,Nat.zero_mul,Nat.reduceMul,Nat.zero_add,Nat.mul_one,List.getElem?_cons_zero,List.getElem?_cons_succ,vZ,Int.reduceEq,Int.reduceNe,Int.reduceLT,Int.reduceLE,Nat.reduceEqDiff,Nat.reduceAdd,reduceIte,reduceCtorEq,Nat.reduceLT,Nat.reduceLeDiff,Nat.reduceShiftRight,Nat.reduceMod]
  refine callS_of (first3_s _ _ _) ?_
  simp only [rnd_s,Int.reduceAdd,Int.reduceSub,decide_true,decide_false,i64_1,i64_2,i64_3,i64_4,true_and,Int.one_mul,Int.cast_ofNat_Int,Int.reduceToNat,Nat.zero_mul,Nat.reduceMul,Nat.zero_add,Nat.mul_one,List.getElem?_cons_zero,List.getElem?_cons_succ,vZ,Int.reduceEq,Int.reduceNe,Int.reduceLT,Int.reduceLE,Nat.reduceEqDiff,Nat.reduceAdd,reduceIte,reduceCtorEq,Nat.reduceLT,Nat.reduceLeDiff,Nat.reduceShiftRight,Nat.reduceMod]
  refine ⟨usedL_buf rfl (ints_imm [_,_,_]) rfl,?_⟩
  refine brB_split (fun h=>?_) (fun h=>?_)
  ·simp only [rnd_s,Int.reduceAdd,Int.reduceSub,decide_true,decide_false,i64_1,i64_2,i64_3,i64_4,true_and,Int.one_mul,Int.cast_ofNat_Int,Int.reduceToNat,Nat.zero_mul,Nat.reduceMul,Nat.zero_add,Nat.mul_one,List.getElem?_cons_zero,List.getElem?_cons_succ,vZ,Int.reduceEq,Int.reduceNe,Int.reduceLT,Int.reduceLE,Nat.reduceEqDiff,Nat.reduceAdd,reduceIte,reduceCtorEq,Nat.reduceLT,Nat.reduceLeDiff,Nat.reduceShiftRight,Nat.reduceMod]
   by_cases p1:m.p.in 1000 <;> by_cases p2 : -10000≤m.t∧m.t≤10000 <;> simp [TM.err,V3.inB,p1,p2,hr]
  ·by_cases p1:m.p.in 1000 <;> by_cases p2 : -10000≤m.t∧m.t≤10000 <;> simp [V3.inB,p1,p2] at h
 simp only [q2,decide_true,Bool.not_true,rnd_s,Int.reduceAdd,Int.reduceSub,decide_true,decide_false,i64_1,i64_2,i64_3,i64_4,true_and,Int.one_mul,Int.cast_ofNat_Int,Int.reduceToNat,Nat.zero_mul,Nat.reduceMul,Nat.zero_add,Nat.mul_one,List.getElem?_cons_zero,List.getElem?_cons_succ,vZ,Int.reduceEq,Int.reduceNe,Int.reduceLT,Int.reduceLE,Nat.reduceEqDiff,Nat.reduceAdd,reduceIte,reduceCtorEq,Nat.reduceLT,Nat.reduceLeDiff,Nat.reduceShiftRight,Nat.reduceMod]
 refine callS_of (within_s _ _ _) ?_
 by_cases q3:1≤m.li∧m.li≤100
 case neg =>
  have hr:¬ m.rng:=fun h=>q3 h.2.2.2.1
  simp only [q3,decide_false,Bool.not_false,rnd_s,Int.reduceAdd,Int.reduceSub,decide_true,decide_false,i64_1,i64_2,i64_3,i64_4,true_and,Int.one_mul,Int.cast_ofNat_Int,Int.reduceToNat,Nat.zero_mul,Nat.reduceMul,Nat.zero_add,Nat.mul_one,List.getElem?_cons_zero,List.getElem?_cons_succ,vZ,Int.reduceEq,Int.reduceNe,Int.reduceLT,Int.reduceLE,Nat.reduceEqDiff,Nat.reduceAdd,reduceIte,reduceCtorEq,Nat.reduceLT,Nat.reduceLeDiff,Nat.reduceShiftRight,Nat.reduceMod]
  refine W_rnd 5 ?_
  simp only [rnd_s,Int.reduceAdd,Int.reduceSub,decide_true,decide_false,i64_1,i64_2,i64_3,i64_4,true_and,Int.one_mul,Int.cast_ofNat_Int,Int.reduceToNat,Nat.zero_mul,Nat.reduceMul,Nat.zero_add,Nat.mul_one,List.getElem?_cons_zero,List.getElem?_cons_succ,vZ,Int.reduceEq,Int.reduceNe,Int.reduceLT,Int.reduceLE,Nat.reduceEqDiff,Nat.reduceAdd,reduceIte,reduceCtorEq,Nat.reduceLT,Nat.reduceLeDiff,Nat.reduceShiftRight,Nat.reduceMod]
  refine callS_of (placeErr_s m.p) ?_
  simp only [rnd_s,Int.reduceAdd,Int.reduceSub,decide_true,decide_false,i64_1,i64_2,i64_3,i64_4,true_and,Int.one_mul,Int.cast_ofNat_Int,Int.reduceToNat,Nat.zero_mul,Nat.reduceMul,Nat.zero_add,Nat.mul_one,List.getElem?_cons_zero,List.getElem?_cons_succ,vZ,Int.reduceEq,Int.reduceNe,Int.reduceLT,Int.reduceLE,Nat.reduceEqDiff,Nat.reduceAdd,reduceIte,reduceCtorEq,Nat.reduceLT,Nat.reduceLeDiff,Nat.reduceShiftRight,Nat.reduceMod]
  refine callS_of (timeErr_s m.t) ?_
  simp only [rnd_s,Int.reduceAdd,Int.reduceSub,decide_true,decide_false,i64_1,i64_2,i64_3,i64_4,true_and,Int.one_mul,Int.cast_ofNat_Int,Int.reduceToNat,Nat.zero_mul,Nat.reduceMul,Nat.zero_add,Nat.mul_one,List.getElem?_cons_zero,List.getElem?_cons_succ,vZ,Int.reduceEq,Int.reduceNe,Int.reduceLT,Int.reduceLE,Nat.reduceEqDiff,Nat.reduceAdd,reduceIte,reduceCtorEq,Nat.reduceLT,Nat.reduceLeDiff,Nat.reduceShiftRight,Nat.reduceMod]
  refine callS_of (unless_s _ _) ?_
  simp only [rnd_s,Int.reduceAdd,Int.reduceSub,decide_true,decide_false,i64_1,i64_2,i64_3,i64_4,true_and,Int.one_mul,Int.cast_ofNat_Int,Int.reduceToNat,Nat.zero_mul,Nat.reduceMul,Nat.zero_add,Nat.mul_one,List.getElem?_cons_zero,List.getElem?_cons_succ,vZ,Int.reduceEq,Int.reduceNe,Int.reduceLT,Int.reduceLE,Nat.reduceEqDiff,Nat.reduceAdd,reduceIte,reduceCtorEq,Nat.reduceLT,Nat.reduceLeDiff,Nat.reduceShiftRight,Nat.reduceMod]
  refine callS_of (first3_s _ _ _) ?_
  simp only [rnd_s,Int.reduceAdd,Int.reduceSub,decide_true,decide_false,i64_1,i64_2,i64_3,i64_4,true_and,Int.one_mul,Int.cast_ofNat_Int,Int.reduceToNat,Nat.zero_mul,Nat.reduceMul,Nat.zero_add,Nat.mul_one,List.getElem?_cons_zero,List.getElem?_cons_succ,vZ,Int.reduceEq,Int.reduceNe,Int.reduceLT,Int.reduceLE,Nat.reduceEqDiff,Nat.reduceAdd,reduceIte,reduceCtorEq,Nat.reduceLT,Nat.reduceLeDiff,Nat.reduceShiftRight,Nat.reduceMod]
  refine ⟨usedL_buf rfl (ints_imm [_,_,_]) rfl,?_⟩
  refine brB_split (fun h=>?_) (fun h=>?_)
  ·simp only [rnd_s,Int.reduceAdd,Int.reduceSub,decide_true,decide_false,i64_1,i64_2,i64_3,i64_4,true_and,Int.one_mul,Int.cast_ofNat_Int,Int.reduceToNat,Nat.zero_mul,Nat.reduceMul,Nat.zero_add,Nat.mul_one,List.getElem?_cons_zero,List.getElem?_cons_succ,vZ,Int.reduceEq,Int.reduceNe,Int.reduceLT,Int.reduceLE,Nat.reduceEqDiff,Nat.reduceAdd,reduceIte,reduceCtorEq,Nat.reduceLT,Nat.reduceLeDiff,Nat.reduceShiftRight,Nat.reduceMod]
   by_cases p1:m.p.in 1000 <;> by_cases p2 : -10000≤m.t∧m.t≤10000 <;> simp [TM.err,V3.inB,p1,p2,hr]
  ·by_cases p1:m.p.in 1000 <;> by_cases p2 : -10000≤m.t∧m.t≤10000 <;> simp [V3.inB,p1,p2] at h
 simp only [q3,decide_true,Bool.not_true,rnd_s,Int.reduceAdd,Int.reduceSub,decide_true,decide_false,i64_1,i64_2,i64_3,i64_4,true_and,Int.one_mul,Int.cast_ofNat_Int,Int.reduceToNat,Nat.zero_mul,Nat.reduceMul,Nat.zero_add,Nat.mul_one,List.getElem?_cons_zero,List.getElem?_cons_succ,vZ,Int.reduceEq,Int.reduceNe,Int.reduceLT,Int.reduceLE,Nat.reduceEqDiff,Nat.reduceAdd,reduceIte,reduceCtorEq,Nat.reduceLT,Nat.reduceLeDiff,Nat.reduceShiftRight,Nat.reduceMod]
 refine W_rnd 5 ?_
 simp only [rnd_s,Int.reduceAdd,Int.reduceSub,decide_true,decide_false,i64_1,i64_2,i64_3,i64_4,true_and,Int.one_mul,Int.cast_ofNat_Int,Int.reduceToNat,Nat.zero_mul,Nat.reduceMul,Nat.zero_add,Nat.mul_one,List.getElem?_cons_zero,List.getElem?_cons_succ,vZ,Int.reduceEq,Int.reduceNe,Int.reduceLT,Int.reduceLE,Nat.reduceEqDiff,Nat.reduceAdd,reduceIte,reduceCtorEq,Nat.reduceLT,Nat.reduceLeDiff,Nat.reduceShiftRight,Nat.reduceMod]
 refine callS_of (within_s _ _ _) ?_
 by_cases q4:0≤m.ea∧m.ea≤100
 case neg =>
  have hr:¬ m.rng:=fun h=>q4 h.2.2.2.2.1
  simp only [q4,decide_false,Bool.not_false,rnd_s,Int.reduceAdd,Int.reduceSub,decide_true,decide_false,i64_1,i64_2,i64_3,i64_4,true_and,Int.one_mul,Int.cast_ofNat_Int,Int.reduceToNat,Nat.zero_mul,Nat.reduceMul,Nat.zero_add,Nat.mul_one,List.getElem?_cons_zero,List.getElem?_cons_succ,vZ,Int.reduceEq,Int.reduceNe,Int.reduceLT,Int.reduceLE,Nat.reduceEqDiff,Nat.reduceAdd,reduceIte,reduceCtorEq,Nat.reduceLT,Nat.reduceLeDiff,Nat.reduceShiftRight,Nat.reduceMod]
  refine callS_of (placeErr_s m.p) ?_
  simp only [rnd_s,Int.reduceAdd,Int.reduceSub,decide_true,decide_false,i64_1,i64_2,i64_3,i64_4,true_and,Int.one_mul,Int.cast_ofNat_Int,Int.reduceToNat,Nat.zero_mul,Nat.reduceMul,Nat.zero_add,Nat.mul_one,List.getElem?_cons_zero,List.getElem?_cons_succ,vZ,Int.reduceEq,Int.reduceNe,Int.reduceLT,Int.reduceLE,Nat.reduceEqDiff,Nat.reduceAdd,reduceIte,reduceCtorEq,Nat.reduceLT,Nat.reduceLeDiff,Nat.reduceShiftRight,Nat.reduceMod]
  refine callS_of (timeErr_s m.t) ?_
  simp only [rnd_s,Int.reduceAdd,Int.reduceSub,decide_true,decide_false,i64_1,i64_2,i64_3,i64_4,true_and,Int.one_mul,Int.cast_ofNat_Int,Int.reduceToNat,Nat.zero_mul,Nat.reduceMul,Nat.zero_add,Nat.mul_one,List.getElem?_cons_zero,List.getElem?_cons_succ,vZ,Int.reduceEq,Int.reduceNe,Int.reduceLT,Int.reduceLE,Nat.reduceEqDiff,Nat.reduceAdd,reduceIte,reduceCtorEq,Nat.reduceLT,Nat.reduceLeDiff,Nat.reduceShiftRight,Nat.reduceMod]
  refine callS_of (unless_s _ _) ?_
  simp only [rnd_s,Int.reduceAdd,Int.reduceSub,decide_true,decide_false,i64_1,i64_2,i64_3,i64_4,true_and,Int.one_mul,Int.cast_ofNat_Int,Int.reduceToNat,Nat.zero_mul,Nat.reduceMul,Nat.zero_add,Nat.mul_one,List.getElem?_cons_zero,List.getElem?_cons_succ,vZ,Int.reduceEq,Int.reduceNe,Int.reduceLT,Int.reduceLE,Nat.reduceEqDiff,Nat.reduceAdd,reduceIte,reduceCtorEq,Nat.reduceLT,Nat.reduceLeDiff,Nat.reduceShiftRight,Nat.reduceMod]
  refine callS_of (first3_s _ _ _) ?_
  simp only [rnd_s,Int.reduceAdd,Int.reduceSub,decide_true,decide_false,i64_1,i64_2,i64_3,i64_4,true_and,Int.one_mul,Int.cast_ofNat_Int,Int.reduceToNat,Nat.zero_mul,Nat.reduceMul,Nat.zero_add,Nat.mul_one,List.getElem?_cons_zero,List.getElem?_cons_succ,vZ,Int.reduceEq,Int.reduceNe,Int.reduceLT,Int.reduceLE,Nat.reduceEqDiff,Nat.reduceAdd,reduceIte,reduceCtorEq,Nat.reduceLT,Nat.reduceLeDiff,Nat.reduceShiftRight,Nat.reduceMod]
  refine ⟨usedL_buf rfl (ints_imm [_,_,_]) rfl,?_⟩
  refine brB_split (fun h=>?_) (fun h=>?_)
  ·simp only [rnd_s,Int.reduceAdd,Int.reduceSub,decide_true,decide_false,i64_1,i64_2,i64_3,i64_4,true_and,Int.one_mul,Int.cast_ofNat_Int,Int.reduceToNat,Nat.zero_mul,Nat.reduceMul,Nat.zero_add,Nat.mul_one,List.getElem?_cons_zero,List.getElem?_cons_succ,vZ,Int.reduceEq,Int.reduceNe,Int.reduceLT,Int.reduceLE,Nat.reduceEqDiff,Nat.reduceAdd,reduceIte,reduceCtorEq,Nat.reduceLT,Nat.reduceLeDiff,Nat.reduceShiftRight,Nat.reduceMod]
   by_cases p1:m.p.in 1000 <;> by_cases p2 : -10000≤m.t∧m.t≤10000 <;> simp [TM.err,V3.inB,p1,p2,hr]
  ·by_cases p1:m.p.in 1000 <;> by_cases p2 : -10000≤m.t∧m.t≤10000 <;> simp [V3.inB,p1,p2] at h
 simp only [q4,decide_true,Bool.not_true,rnd_s,Int.reduceAdd,Int.reduceSub,decide_true,decide_false,i64_1,i64_2,i64_3,i64_4,true_and,Int.one_mul,Int.cast_ofNat_Int,Int.reduceToNat,Nat.zero_mul,Nat.reduceMul,Nat.zero_add,Nat.mul_one,List.getElem?_cons_zero,List.getElem?_cons_succ,vZ,Int.reduceEq,Int.reduceNe,Int.reduceLT,Int.reduceLE,Nat.reduceEqDiff,Nat.reduceAdd,reduceIte,reduceCtorEq,Nat.reduceLT,Nat.reduceLeDiff,Nat.reduceShiftRight,Nat.reduceMod]
 refine callS_of (within_s _ _ _) ?_
 by_cases q5:0≤m.la∧m.la≤100
 case neg =>
  have hr:¬ m.rng:=fun h=>q5 h.2.2.2.2.2.1
  simp only [q5,decide_false,Bool.not_false,rnd_s,Int.reduceAdd,Int.reduceSub,decide_true,decide_false,i64_1,i64_2,i64_3,i64_4,true_and,Int.one_mul,Int.cast_ofNat_Int,Int.reduceToNat,Nat.zero_mul,Nat.reduceMul,Nat.zero_add,Nat.mul_one,List.getElem?_cons_zero,List.getElem?_cons_succ,vZ,Int.reduceEq,Int.reduceNe,Int.reduceLT,Int.reduceLE,Nat.reduceEqDiff,Nat.reduceAdd,reduceIte,reduceCtorEq,Nat.reduceLT,Nat.reduceLeDiff,Nat.reduceShiftRight,Nat.reduceMod]
  refine callS_of (placeErr_s m.p) ?_
  simp only [rnd_s,Int.reduceAdd,Int.reduceSub,decide_true,decide_false,i64_1,i64_2,i64_3,i64_4,true_and,Int.one_mul,Int.cast_ofNat_Int,Int.reduceToNat,Nat.zero_mul,Nat.reduceMul,Nat.zero_add,Nat.mul_one,List.getElem?_cons_zero,List.getElem?_cons_succ,vZ,Int.reduceEq,Int.reduceNe,Int.reduceLT,Int.reduceLE,Nat.reduceEqDiff,Nat.reduceAdd,reduceIte,reduceCtorEq,Nat.reduceLT,Nat.reduceLeDiff,Nat.reduceShiftRight,Nat.reduceMod]
  refine callS_of (timeErr_s m.t) ?_
  simp only [rnd_s,Int.reduceAdd,Int.reduceSub,decide_true,decide_false,i64_1,i64_2,i64_3,i64_4,true_and,Int.one_mul,Int.cast_ofNat_Int,Int.reduceToNat,Nat.zero_mul,Nat.reduceMul,Nat.zero_add,Nat.mul_one,List.getElem?_cons_zero,List.getElem?_cons_succ,vZ,Int.reduceEq,Int.reduceNe,Int.reduceLT,Int.reduceLE,Nat.reduceEqDiff,Nat.reduceAdd,reduceIte,reduceCtorEq,Nat.reduceLT,Nat.reduceLeDiff,Nat.reduceShiftRight,Nat.reduceMod]
  refine callS_of (unless_s _ _) ?_
  simp only [rnd_s,Int.reduceAdd,Int.reduceSub,decide_true,decide_false,i64_1,i64_2,i64_3,i64_4,true_and,Int.one_mul,Int.cast_ofNat_Int,Int.reduceToNat,Nat.zero_mul,Nat.reduceMul,Nat.zero_add,Nat.mul_one,List.getElem?_cons_zero,List.getElem?_cons_succ,vZ,Int.reduceEq,Int.reduceNe,Int.reduceLT,Int.reduceLE,Nat.reduceEqDiff,Nat.reduceAdd,reduceIte,reduceCtorEq,Nat.reduceLT,Nat.reduceLeDiff,Nat.reduceShiftRight,Nat.reduceMod]
  refine callS_of (first3_s _ _ _) ?_
  simp only [rnd_s,Int.reduceAdd,Int.reduceSub,decide_true,decide_false,i64_1,i64_2,i64_3,i64_4,true_and,Int.one_mul,Int.cast_ofNat_Int,Int.reduceToNat,Nat.zero_mul,Nat.reduceMul,Nat.zero_add,Nat.mul_one,List.getElem?_cons_zero,List.getElem?_cons_succ,vZ,Int.reduceEq,Int.reduceNe,Int.reduceLT,Int.reduceLE,Nat.reduceEqDiff,Nat.reduceAdd,reduceIte,reduceCtorEq,Nat.reduceLT,Nat.reduceLeDiff,Nat.reduceShiftRight,Nat.reduceMod]
  refine ⟨usedL_buf rfl (ints_imm [_,_,_]) rfl,?_⟩
  refine brB_split (fun h=>?_) (fun h=>?_)
  ·simp only [rnd_s,Int.reduceAdd,Int.reduceSub,decide_true,decide_false,i64_1,i64_2,i64_3,i64_4,true_and,Int.one_mul,Int.cast_ofNat_Int,Int.reduceToNat,Nat.zero_mul,Nat.reduceMul,Nat.zero_add,Nat.mul_one,List.getElem?_cons_zero,List.getElem?_cons_succ,vZ,Int.reduceEq,Int.reduceNe,Int.reduceLT,Int.reduceLE,Nat.reduceEqDiff,Nat.reduceAdd,reduceIte,reduceCtorEq,Nat.reduceLT,Nat.reduceLeDiff,Nat.reduceShiftRight,Nat.reduceMod]
   by_cases p1:m.p.in 1000 <;> by_cases p2 : -10000≤m.t∧m.t≤10000 <;> simp [TM.err,V3.inB,p1,p2,hr]
  ·by_cases p1:m.p.in 1000 <;> by_cases p2 : -10000≤m.t∧m.t≤10000 <;> simp [V3.inB,p1,p2] at h
 simp only [q5,decide_true,Bool.not_true,rnd_s,Int.reduceAdd,Int.reduceSub,decide_true,decide_false,i64_1,i64_2,i64_3,i64_4,true_and,Int.one_mul,Int.cast_ofNat_Int,Int.reduceToNat,Nat.zero_mul,Nat.reduceMul,Nat.zero_add,Nat.mul_one,List.getElem?_cons_zero,List.getElem?_cons_succ,vZ,Int.reduceEq,Int.reduceNe,Int.reduceLT,Int.reduceLE,Nat.reduceEqDiff,Nat.reduceAdd,reduceIte,reduceCtorEq,Nat.reduceLT,Nat.reduceLeDiff,Nat.reduceShiftRight,Nat.reduceMod]
 refine callS_of (within_s _ _ _) ?_
 by_cases q6:0≤m.no∧m.no≤100
 case neg =>
  have hr:¬ m.rng:=fun h=>q6 h.2.2.2.2.2.2.1
  simp only [q6,decide_false,Bool.not_false,rnd_s,Int.reduceAdd,Int.reduceSub,decide_true,decide_false,i64_1,i64_2,i64_3,i64_4,true_and,Int.one_mul,Int.cast_ofNat_Int,Int.reduceToNat,Nat.zero_mul,Nat.reduceMul,Nat.zero_add,Nat.mul_one,List.getElem?_cons_zero,List.getElem?_cons_succ,vZ,Int.reduceEq,Int.reduceNe,Int.reduceLT,Int.reduceLE,Nat.reduceEqDiff,Nat.reduceAdd,reduceIte,reduceCtorEq,Nat.reduceLT,Nat.reduceLeDiff,Nat.reduceShiftRight,Nat.reduceMod]
  refine callS_of (placeErr_s m.p) ?_
  simp only [rnd_s,Int.reduceAdd,Int.reduceSub,decide_true,decide_false,i64_1,i64_2,i64_3,i64_4,true_and,Int.one_mul,Int.cast_ofNat_Int,Int.reduceToNat,Nat.zero_mul,Nat.reduceMul,Nat.zero_add,Nat.mul_one,List.getElem?_cons_zero,List.getElem?_cons_succ,vZ,Int.reduceEq,Int.reduceNe,Int.reduceLT,Int.reduceLE,Nat.reduceEqDiff,Nat.reduceAdd,reduceIte,reduceCtorEq,Nat.reduceLT,Nat.reduceLeDiff,Nat.reduceShiftRight,Nat.reduceMod]
  refine callS_of (timeErr_s m.t) ?_
  simp only [rnd_s,Int.reduceAdd,Int.reduceSub,decide_true,decide_false,i64_1,i64_2,i64_3,i64_4,true_and,Int.one_mul,Int.cast_ofNat_Int,Int.reduceToNat,Nat.zero_mul,Nat.reduceMul,Nat.zero_add,Nat.mul_one,List.getElem?_cons_zero,List.getElem?_cons_succ,vZ,Int.reduceEq,Int.reduceNe,Int.reduceLT,Int.reduceLE,Nat.reduceEqDiff,Nat.reduceAdd,reduceIte,reduceCtorEq,Nat.reduceLT,Nat.reduceLeDiff,Nat.reduceShiftRight,Nat.reduceMod]
  refine callS_of (unless_s _ _) ?_
  simp only [rnd_s,Int.reduceAdd,Int.reduceSub,decide_true,decide_false,i64_1,i64_2,i64_3,i64_4,true_and,Int.one_mul,Int.cast_ofNat_Int,Int.reduceToNat,Nat.zero_mul,Nat.reduceMul,Nat.zero_add,Nat.mul_one,List.getElem?_cons_zero,List.getElem?_cons_succ,vZ,Int.reduceEq,Int.reduceNe,Int.reduceLT,Int.reduceLE,Nat.reduceEqDiff,Nat.reduceAdd,reduceIte,reduceCtorEq,Nat.reduceLT,Nat.reduceLeDiff,Nat.reduceShiftRight,Nat.reduceMod]
  refine callS_of (first3_s _ _ _) ?_
  simp only [rnd_s,Int.reduceAdd,Int.reduceSub,decide_true,decide_false,i64_1,i64_2,i64_3,i64_4,true_and,Int.one_mul,Int.cast_ofNat_Int,Int.reduceToNat,Nat.zero_mul,Nat.reduceMul,Nat.zero_add,Nat.mul_one,List.getElem?_cons_zero,List.getElem?_cons_succ,vZ,Int.reduceEq,Int.reduceNe,Int.reduceLT,Int.reduceLE,Nat.reduceEqDiff,Nat.reduceAdd,reduceIte,reduceCtorEq,Nat.reduceLT,Nat.reduceLeDiff,Nat.reduceShiftRight,Nat.reduceMod]
  refine ⟨usedL_buf rfl (ints_imm [_,_,_]) rfl,?_⟩
  refine brB_split (fun h=>?_) (fun h=>?_)
  ·simp only [rnd_s,Int.reduceAdd,Int.reduceSub,decide_true,decide_false,i64_1,i64_2,i64_3,i64_4,true_and,Int.one_mul,Int.cast_ofNat_Int,Int.reduceToNat,Nat.zero_mul,Nat.reduceMul,Nat.zero_add,Nat.mul_one,List.getElem?_cons_zero,List.getElem?_cons_succ,vZ,Int.reduceEq,Int.reduceNe,Int.reduceLT,Int.reduceLE,Nat.reduceEqDiff,Nat.reduceAdd,reduceIte,reduceCtorEq,Nat.reduceLT,Nat.reduceLeDiff,Nat.reduceShiftRight,Nat.reduceMod]
   by_cases p1:m.p.in 1000 <;> by_cases p2 : -10000≤m.t∧m.t≤10000 <;> simp [TM.err,V3.inB,p1,p2,hr]
  ·by_cases p1:m.p.in 1000 <;> by_cases p2 : -10000≤m.t∧m.t≤10000 <;> simp [V3.inB,p1,p2] at h
 simp only [q6,decide_true,Bool.not_true,rnd_s,Int.reduceAdd,Int.reduceSub,decide_true,decide_false,i64_1,i64_2,i64_3,i64_4,true_and,Int.one_mul,Int.cast_ofNat_Int,Int.reduceToNat,Nat.zero_mul,Nat.reduceMul,Nat.zero_add,Nat.mul_one,List.getElem?_cons_zero,List.getElem?_cons_succ,vZ,Int.reduceEq,Int.reduceNe,Int.reduceLT,Int.reduceLE,Nat.reduceEqDiff,Nat.reduceAdd,reduceIte,reduceCtorEq,Nat.reduceLT,Nat.reduceLeDiff,Nat.reduceShiftRight,Nat.reduceMod]
 refine callS_of (within_s _ _ _) ?_
 by_cases q7:0≤m.mi∧m.mi≤100
 case neg =>
  have hr:¬ m.rng:=fun h=>q7 h.2.2.2.2.2.2.2
  simp only [q7,decide_false,Bool.not_false,rnd_s,Int.reduceAdd,Int.reduceSub,decide_true,decide_false,i64_1,i64_2,i64_3,i64_4,true_and,Int.one_mul,Int.cast_ofNat_Int,Int.reduceToNat,Nat.zero_mul,Nat.reduceMul,Nat.zero_add,Nat.mul_one,List.getElem?_cons_zero,List.getElem?_cons_succ,vZ,Int.reduceEq,Int.reduceNe,Int.reduceLT,Int.reduceLE,Nat.reduceEqDiff,Nat.reduceAdd,reduceIte,reduceCtorEq,Nat.reduceLT,Nat.reduceLeDiff,Nat.reduceShiftRight,Nat.reduceMod]
  refine callS_of (placeErr_s m.p) ?_
  simp only [rnd_s,Int.reduceAdd,Int.reduceSub,decide_true,decide_false,i64_1,i64_2,i64_3,i64_4,true_and,Int.one_mul,Int.cast_ofNat_Int,Int.reduceToNat,Nat.zero_mul,Nat.reduceMul,Nat.zero_add,Nat.mul_one,List.getElem?_cons_zero,List.getElem?_cons_succ,vZ,Int.reduceEq,Int.reduceNe,Int.reduceLT,Int.reduceLE,Nat.reduceEqDiff,Nat.reduceAdd,reduceIte,reduceCtorEq,Nat.reduceLT,Nat.reduceLeDiff,Nat.reduceShiftRight,Nat.reduceMod]
  refine callS_of (timeErr_s m.t) ?_
  simp only [rnd_s,Int.reduceAdd,Int.reduceSub,decide_true,decide_false,i64_1,i64_2,i64_3,i64_4,true_and,Int.one_mul,Int.cast_ofNat_Int,Int.reduceToNat,Nat.zero_mul,Nat.reduceMul,Nat.zero_add,Nat.mul_one,List.getElem?_cons_zero,List.getElem?_cons_succ,vZ,Int.reduceEq,Int.reduceNe,Int.reduceLT,Int.reduceLE,Nat.reduceEqDiff,Nat.reduceAdd,reduceIte,reduceCtorEq,Nat.reduceLT,Nat.reduceLeDiff,Nat.reduceShiftRight,Nat.reduceMod]
  refine callS_of (unless_s _ _) ?_
  simp only [rnd_s,Int.reduceAdd,Int.reduceSub,decide_true,decide_false,i64_1,i64_2,i64_3,i64_4,true_and,Int.one_mul,Int.cast_ofNat_Int,Int.reduceToNat,Nat.zero_mul,Nat.reduceMul,Nat.zero_add,Nat.mul_one,List.getElem?_cons_zero,List.getElem?_cons_succ,vZ,Int.reduceEq,Int.reduceNe,Int.reduceLT,Int.reduceLE,Nat.reduceEqDiff,Nat.reduceAdd,reduceIte,reduceCtorEq,Nat.reduceLT,Nat.reduceLeDiff,Nat.reduceShiftRight,Nat.reduceMod]
  refine callS_of (first3_s _ _ _) ?_
  simp only [rnd_s,Int.reduceAdd,Int.reduceSub,decide_true,decide_false,i64_1,i64_2,i64_3,i64_4,true_and,Int.one_mul,Int.cast_ofNat_Int,Int.reduceToNat,Nat.zero_mul,Nat.reduceMul,Nat.zero_add,Nat.mul_one,List.getElem?_cons_zero,List.getElem?_cons_succ,vZ,Int.reduceEq,Int.reduceNe,Int.reduceLT,Int.reduceLE,Nat.reduceEqDiff,Nat.reduceAdd,reduceIte,reduceCtorEq,Nat.reduceLT,Nat.reduceLeDiff,Nat.reduceShiftRight,Nat.reduceMod]
  refine ⟨usedL_buf rfl (ints_imm [_,_,_]) rfl,?_⟩
  refine brB_split (fun h=>?_) (fun h=>?_)
  ·simp only [rnd_s,Int.reduceAdd,Int.reduceSub,decide_true,decide_false,i64_1,i64_2,i64_3,i64_4,true_and,Int.one_mul,Int.cast_ofNat_Int,Int.reduceToNat,Nat.zero_mul,Nat.reduceMul,Nat.zero_add,Nat.mul_one,List.getElem?_cons_zero,List.getElem?_cons_succ,vZ,Int.reduceEq,Int.reduceNe,Int.reduceLT,Int.reduceLE,Nat.reduceEqDiff,Nat.reduceAdd,reduceIte,reduceCtorEq,Nat.reduceLT,Nat.reduceLeDiff,Nat.reduceShiftRight,Nat.reduceMod]
   by_cases p1:m.p.in 1000 <;> by_cases p2 : -10000≤m.t∧m.t≤10000 <;> simp [TM.err,V3.inB,p1,p2,hr]
  ·by_cases p1:m.p.in 1000 <;> by_cases p2 : -10000≤m.t∧m.t≤10000 <;> simp [V3.inB,p1,p2] at h
 simp only [q7,decide_true,Bool.not_true,rnd_s,Int.reduceAdd,Int.reduceSub,decide_true,decide_false,i64_1,i64_2,i64_3,i64_4,true_and,Int.one_mul,Int.cast_ofNat_Int,Int.reduceToNat,Nat.zero_mul,Nat.reduceMul,Nat.zero_add,Nat.mul_one,List.getElem?_cons_zero,List.getElem?_cons_succ,vZ,Int.reduceEq,Int.reduceNe,Int.reduceLT,Int.reduceLE,Nat.reduceEqDiff,Nat.reduceAdd,reduceIte,reduceCtorEq,Nat.reduceLT,Nat.reduceLeDiff,Nat.reduceShiftRight,Nat.reduceMod]
 have hr:m.rng:=⟨q0,q1,q2,q3,q4,q5,q6,q7⟩
 obtain ⟨⟨s1,s2⟩,s3,s4⟩:=slow_le hr
 refine callS_of (placeErr_s m.p) ?_
 simp only [rnd_s,Int.reduceAdd,Int.reduceSub,decide_true,decide_false,i64_1,i64_2,i64_3,i64_4,true_and,Int.one_mul,Int.cast_ofNat_Int,Int.reduceToNat,Nat.zero_mul,Nat.reduceMul,Nat.zero_add,Nat.mul_one,List.getElem?_cons_zero,List.getElem?_cons_succ,vZ,Int.reduceEq,Int.reduceNe,Int.reduceLT,Int.reduceLE,Nat.reduceEqDiff,Nat.reduceAdd,reduceIte,reduceCtorEq,Nat.reduceLT,Nat.reduceLeDiff,Nat.reduceShiftRight,Nat.reduceMod]
 refine callS_of (timeErr_s m.t) ?_
 simp only [rnd_s,Int.reduceAdd,Int.reduceSub,decide_true,decide_false,i64_1,i64_2,i64_3,i64_4,true_and,Int.one_mul,Int.cast_ofNat_Int,Int.reduceToNat,Nat.zero_mul,Nat.reduceMul,Nat.zero_add,Nat.mul_one,List.getElem?_cons_zero,List.getElem?_cons_succ,vZ,Int.reduceEq,Int.reduceNe,Int.reduceLT,Int.reduceLE,Nat.reduceEqDiff,Nat.reduceAdd,reduceIte,reduceCtorEq,Nat.reduceLT,Nat.reduceLeDiff,Nat.reduceShiftRight,Nat.reduceMod]
 refine callS_of (unless_s _ _) ?_
 simp only [rnd_s,Int.reduceAdd,Int.reduceSub,decide_true,decide_false,i64_1,i64_2,i64_3,i64_4,true_and,Int.one_mul,Int.cast_ofNat_Int,Int.reduceToNat,Nat.zero_mul,Nat.reduceMul,Nat.zero_add,Nat.mul_one,List.getElem?_cons_zero,List.getElem?_cons_succ,vZ,Int.reduceEq,Int.reduceNe,Int.reduceLT,Int.reduceLE,Nat.reduceEqDiff,Nat.reduceAdd,reduceIte,reduceCtorEq,Nat.reduceLT,Nat.reduceLeDiff,Nat.reduceShiftRight,Nat.reduceMod]
 refine callS_of (first3_s _ _ _) ?_
 simp only [rnd_s,Int.reduceAdd,Int.reduceSub,decide_true,decide_false,i64_1,i64_2,i64_3,i64_4,true_and,Int.one_mul,Int.cast_ofNat_Int,Int.reduceToNat,Nat.zero_mul,Nat.reduceMul,Nat.zero_add,Nat.mul_one,List.getElem?_cons_zero,List.getElem?_cons_succ,vZ,Int.reduceEq,Int.reduceNe,Int.reduceLT,Int.reduceLE,Nat.reduceEqDiff,Nat.reduceAdd,reduceIte,reduceCtorEq,Nat.reduceLT,Nat.reduceLeDiff,Nat.reduceShiftRight,Nat.reduceMod]
 refine ⟨usedL_buf rfl (ints_imm [_,_,_]) rfl,?_⟩
 by_cases p1:m.p.in 1000
 case neg =>
  have p1':m.p.inB 1000=false:=decide_eq_false p1
  simp only [p1',Bool.false_eq_true,if_false,if_true,ne_eq,not_false_eq_true,rnd_s,Int.reduceAdd,Int.reduceSub,decide_true,decide_false,i64_1,i64_2,i64_3,i64_4,true_and,Int.one_mul,Int.cast_ofNat_Int,Int.reduceToNat,Nat.zero_mul,Nat.reduceMul,Nat.zero_add,Nat.mul_one,List.getElem?_cons_zero,List.getElem?_cons_succ,vZ,Int.reduceEq,Int.reduceNe,Int.reduceLT,Int.reduceLE,Nat.reduceEqDiff,Nat.reduceAdd,reduceIte,reduceCtorEq,Nat.reduceLT,Nat.reduceLeDiff,Nat.reduceShiftRight,Nat.reduceMod]
  simp [TM.err,p1]
 have p1':m.p.inB 1000=true:=decide_eq_true p1
 by_cases p2 : -10000≤m.t∧m.t≤10000
 case neg =>
  simp only [p1',p2,if_false,if_true,ne_eq,not_true_eq_false,not_false_eq_true,rnd_s,Int.reduceAdd,Int.reduceSub,decide_true,decide_false,i64_1,i64_2,i64_3,i64_4,true_and,Int.one_mul,Int.cast_ofNat_Int,Int.reduceToNat,Nat.zero_mul,Nat.reduceMul,Nat.zero_add,Nat.mul_one,List.getElem?_cons_zero,List.getElem?_cons_succ,vZ,Int.reduceEq,Int.reduceNe,Int.reduceLT,Int.reduceLE,Nat.reduceEqDiff,Nat.reduceAdd,reduceIte,reduceCtorEq,Nat.reduceLT,Nat.reduceLeDiff,Nat.reduceShiftRight,Nat.reduceMod]
  simp [TM.err,p1,p2]
 simp only [p1',p2,and_self,if_true,ne_eq,not_true_eq_false,if_false,rnd_s,Int.reduceAdd,Int.reduceSub,decide_true,decide_false,i64_1,i64_2,i64_3,i64_4,true_and,Int.one_mul,Int.cast_ofNat_Int,Int.reduceToNat,Nat.zero_mul,Nat.reduceMul,Nat.zero_add,Nat.mul_one,List.getElem?_cons_zero,List.getElem?_cons_succ,vZ,Int.reduceEq,Int.reduceNe,Int.reduceLT,Int.reduceLE,Nat.reduceEqDiff,Nat.reduceAdd,reduceIte,reduceCtorEq,Nat.reduceLT,Nat.reduceLeDiff,Nat.reduceShiftRight,Nat.reduceMod]
 refine callS_of (unless_s _ _) ?_
 simp only [rnd_s,Int.reduceAdd,Int.reduceSub,decide_true,decide_false,i64_1,i64_2,i64_3,i64_4,true_and,Int.one_mul,Int.cast_ofNat_Int,Int.reduceToNat,Nat.zero_mul,Nat.reduceMul,Nat.zero_add,Nat.mul_one,List.getElem?_cons_zero,List.getElem?_cons_succ,vZ,Int.reduceEq,Int.reduceNe,Int.reduceLT,Int.reduceLE,Nat.reduceEqDiff,Nat.reduceAdd,reduceIte,reduceCtorEq,Nat.reduceLT,Nat.reduceLeDiff,Nat.reduceShiftRight,Nat.reduceMod]
 refine ⟨by unfold I64;omega,by unfold I64;unfold TM.slow at s3 s4;omega,?_⟩
 refine callS_of (unless_s _ _) ?_
 simp only [rnd_s,Int.reduceAdd,Int.reduceSub,decide_true,decide_false,i64_1,i64_2,i64_3,i64_4,true_and,Int.one_mul,Int.cast_ofNat_Int,Int.reduceToNat,Nat.zero_mul,Nat.reduceMul,Nat.zero_add,Nat.mul_one,List.getElem?_cons_zero,List.getElem?_cons_succ,vZ,Int.reduceEq,Int.reduceNe,Int.reduceLT,Int.reduceLE,Nat.reduceEqDiff,Nat.reduceAdd,reduceIte,reduceCtorEq,Nat.reduceLT,Nat.reduceLeDiff,Nat.reduceShiftRight,Nat.reduceMod]
 refine callS_of (first2_s _ _) ?_
 simp only [rnd_s,Int.reduceAdd,Int.reduceSub,decide_true,decide_false,i64_1,i64_2,i64_3,i64_4,true_and,Int.one_mul,Int.cast_ofNat_Int,Int.reduceToNat,Nat.zero_mul,Nat.reduceMul,Nat.zero_add,Nat.mul_one,List.getElem?_cons_zero,List.getElem?_cons_succ,vZ,Int.reduceEq,Int.reduceNe,Int.reduceLT,Int.reduceLE,Nat.reduceEqDiff,Nat.reduceAdd,reduceIte,reduceCtorEq,Nat.reduceLT,Nat.reduceLeDiff,Nat.reduceShiftRight,Nat.reduceMod]
 refine ⟨usedL_buf rfl (ints_imm [_,_]) rfl,?_⟩
 have e:m.li * m.k * m.k=m.slow:=rfl
 rw [e]
 by_cases r1:m.lo≤m.hi
 ·have r1':¬ m.lo > m.hi:=by omega
  by_cases r2:m.slow<m.lo
  ·have r2':¬ m.lo≤m.slow:=by omega
   simp [TM.err,p1,p2,hr,r1,r2,r1',r2']
  ·have r2':m.lo≤m.slow:=by omega
   simp [TM.err,p1,p2,hr,r1,r2,r1',r2']
 ·have r1':m.lo > m.hi:=by omega
  simp [TM.err,p1,p2,hr,r1,r1']
end Go.Proofs.Ytoiajhogondgcaa

/- The halves of a box. By an AI agent;nothing here is trusted. -/
namespace Go.Proofs.Ytoiajhogondgcaa
open Go.Av

def TB.side (b:TB):Nat:=if b.hi.y - b.lo.y > b.hi.x - b.lo.x then (if b.hi.z - b.lo.z > b.hi.y - b.lo.y then 2 else 1) else (if b.hi.z - b.lo.z > b.hi.x - b.lo.x then 2 else 0)
def TB.h1 (b:TB):TB:=match b.side with
 | 0=>{ b with hi:={ b.hi with x:=b.lo.x+(b.hi.x - b.lo.x) / 2 } }
 | 1=>{ b with hi:={ b.hi with y:=b.lo.y+(b.hi.y - b.lo.y) / 2 } }
 | _=>{ b with hi:={ b.hi with z:=b.lo.z+(b.hi.z - b.lo.z) / 2 } }
def TB.h2 (b:TB):TB:=match b.side with
 | 0=>{ b with lo:={ b.lo with x:=b.lo.x+(b.hi.x - b.lo.x) / 2+1 } }
 | 1=>{ b with lo:={ b.lo with y:=b.lo.y+(b.hi.y - b.lo.y) / 2+1 } }
 | _=>{ b with lo:={ b.lo with z:=b.lo.z+(b.hi.z - b.lo.z) / 2+1 } }
def pairB (a b:TB):AV:=.agg [.int .i64 a.lo.x,.int .i64 a.lo.y,.int .i64 a.lo.z,.int .i64 a.hi.x,.int .i64 a.hi.y,.int .i64 a.hi.z,.int .i64 b.lo.x,.int .i64 b.lo.y,.int .i64 b.lo.z,.int .i64 b.hi.x,.int .i64 b.hi.y,.int .i64 b.hi.z]
set_option maxRecDepth 10000 in
theorem halves_s (b:TB) (h1:b.lo.in 20) (h2:b.hi.in 20) (ho:b.ord):Sound Try.prog 41 [b.av] (pairB b.h1 b.h2):=by
 refine sound_W f_track_halves (Nat.le_of_ble_eq_true rfl) ?_
 obtain ⟨⟨a1,a2⟩,⟨a3,a4⟩,a5,a6⟩:=h1
 obtain ⟨⟨b1,b2⟩,⟨b3,b4⟩,b5,b6⟩:=h2
 obtain ⟨o1,o2,o3⟩:=ho
 have e1:(b.hi.x - b.lo.x).tdiv 2=(b.hi.x - b.lo.x) / 2:=Int.tdiv_eq_ediv_of_nonneg (by omega)
 have e2:(b.hi.y - b.lo.y).tdiv 2=(b.hi.y - b.lo.y) / 2:=Int.tdiv_eq_ediv_of_nonneg (by omega)
 have e3:(b.hi.z - b.lo.z).tdiv 2=(b.hi.z - b.lo.z) / 2:=Int.tdiv_eq_ediv_of_nonneg (by omega)
 simp only [c_track_halves,TB.av,rnd_s,Int.reduceAdd,Int.reduceSub,decide_true,decide_false,i64_1,i64_2,i64_3,i64_4,true_and,Int.one_mul,Int.cast_ofNat_Int,Int.reduceToNat,Nat.zero_mul,Nat.reduceMul,Nat.zero_add,Nat.mul_one,List.getElem?_cons_zero,List.getElem?_cons_succ,vZ,Int.reduceEq,Int.reduceNe,Int.reduceLT,Int.reduceLE,Nat.reduceEqDiff,Nat.reduceAdd,reduceIte,reduceCtorEq,Nat.reduceLT,Nat.reduceLeDiff,Nat.reduceShiftRight,Nat.reduceMod]
 refine W_rndW 4 ?_
 refine rndW_of (envOf [(1,.ptr 1 0 0),(2,.ptr 2 0 0),(3,.int .i64 0),(8,.int .i64 0)],stOf [(1,⟨28,6,[b.av]⟩),(2,⟨50,12,[.agg [.int .i64 0,.int .i64 0,.int .i64 0,.int .i64 0,.int .i64 0,.int .i64 0,.int .i64 0,.int .i64 0,.int .i64 0,.int .i64 0,.int .i64 0,.int .i64 0]]⟩)]) ?_ ?_
 ·refine weakX [] (of_decide_eq_true rfl) (of_decide_eq_true rfl) ?_
  (simp only [TB.av,vcW,vZ,Int.reduceEq,Int.reduceNe,Int.reduceLT,Int.reduceLE,Nat.reduceEqDiff,Nat.reduceAdd,reduceIte,reduceCtorEq,Nat.reduceLT,Nat.reduceLeDiff,Nat.reduceShiftRight,Nat.reduceMod])
  (repeat' first | exact trivial | (with_reducible first | exact RnB.fxB (ints_fxB _) | rfl | refine And.intro ?_ ?_) | (with_reducible (first | refine RnB.bb ?_ | refine RnB.nb ?_);simp only [vcW,vZ,Int.reduceEq,Int.reduceNe,Int.reduceLT,Int.reduceLE,Nat.reduceEqDiff,Nat.reduceAdd,reduceIte,reduceCtorEq,Nat.reduceLT,Nat.reduceLeDiff,Nat.reduceShiftRight,Nat.reduceMod]) | (with_reducible first | refine RnB.ii ?_ | refine RnB.app ?_) | (with_reducible refine RnB.fxB ?_;simp only [vcW,vZ,Int.reduceEq,Int.reduceNe,Int.reduceLT,Int.reduceLE,Nat.reduceEqDiff,Nat.reduceAdd,reduceIte,reduceCtorEq,Nat.reduceLT,Nat.reduceLeDiff,Nat.reduceShiftRight,Nat.reduceMod]) | omega)
  all_goals rfl
 simp only [TB.av,rnd_s,Int.reduceAdd,Int.reduceSub,decide_true,decide_false,i64_1,i64_2,i64_3,i64_4,true_and,Int.one_mul,Int.cast_ofNat_Int,Int.reduceToNat,Nat.zero_mul,Nat.reduceMul,Nat.zero_add,Nat.mul_one,List.getElem?_cons_zero,List.getElem?_cons_succ,vZ,Int.reduceEq,Int.reduceNe,Int.reduceLT,Int.reduceLE,Nat.reduceEqDiff,Nat.reduceAdd,reduceIte,reduceCtorEq,Nat.reduceLT,Nat.reduceLeDiff,Nat.reduceShiftRight,Nat.reduceMod]
 (repeat (with_reducible refine And.intro ?_ ?_;focus (first | omega | (unfold I64;omega))))
 refine brB_split (fun h=>?_) (fun h=>?_)
 ·simp at h
 ·simp only [rnd_s,Int.reduceAdd,Int.reduceSub,decide_true,decide_false,i64_1,i64_2,i64_3,i64_4,true_and,Int.one_mul,Int.cast_ofNat_Int,Int.reduceToNat,Nat.zero_mul,Nat.reduceMul,Nat.zero_add,Nat.mul_one,List.getElem?_cons_zero,List.getElem?_cons_succ,vZ,Int.reduceEq,Int.reduceNe,Int.reduceLT,Int.reduceLE,Nat.reduceEqDiff,Nat.reduceAdd,reduceIte,reduceCtorEq,Nat.reduceLT,Nat.reduceLeDiff,Nat.reduceShiftRight,Nat.reduceMod]
  refine rndW_of (envOf [(1,.ptr 1 0 0),(2,.ptr 2 0 0),(3,.int .i64 0),(8,.int .i64 1)],stOf [(1,⟨28,6,[b.av]⟩),(2,⟨50,12,[.agg [.int .i64 0,.int .i64 0,.int .i64 0,.int .i64 0,.int .i64 0,.int .i64 0,.int .i64 0,.int .i64 0,.int .i64 0,.int .i64 0,.int .i64 0,.int .i64 0]]⟩)]) ?_ ?_
  ·refine weakX [] (of_decide_eq_true rfl) (of_decide_eq_true rfl) ?_
   (simp only [TB.av,vcW,vZ,Int.reduceEq,Int.reduceNe,Int.reduceLT,Int.reduceLE,Nat.reduceEqDiff,Nat.reduceAdd,reduceIte,reduceCtorEq,Nat.reduceLT,Nat.reduceLeDiff,Nat.reduceShiftRight,Nat.reduceMod])
   (repeat' first | exact trivial | (with_reducible first | exact RnB.fxB (ints_fxB _) | rfl | refine And.intro ?_ ?_) | (with_reducible (first | refine RnB.bb ?_ | refine RnB.nb ?_);simp only [vcW,vZ,Int.reduceEq,Int.reduceNe,Int.reduceLT,Int.reduceLE,Nat.reduceEqDiff,Nat.reduceAdd,reduceIte,reduceCtorEq,Nat.reduceLT,Nat.reduceLeDiff,Nat.reduceShiftRight,Nat.reduceMod]) | (with_reducible first | refine RnB.ii ?_ | refine RnB.app ?_) | (with_reducible refine RnB.fxB ?_;simp only [vcW,vZ,Int.reduceEq,Int.reduceNe,Int.reduceLT,Int.reduceLE,Nat.reduceEqDiff,Nat.reduceAdd,reduceIte,reduceCtorEq,Nat.reduceLT,Nat.reduceLeDiff,Nat.reduceShiftRight,Nat.reduceMod]) | omega)
   all_goals rfl
  simp only [TB.av,rnd_s,Int.reduceAdd,Int.reduceSub,decide_true,decide_false,i64_1,i64_2,i64_3,i64_4,true_and,Int.one_mul,Int.cast_ofNat_Int,Int.reduceToNat,Nat.zero_mul,Nat.reduceMul,Nat.zero_add,Nat.mul_one,List.getElem?_cons_zero,List.getElem?_cons_succ,vZ,Int.reduceEq,Int.reduceNe,Int.reduceLT,Int.reduceLE,Nat.reduceEqDiff,Nat.reduceAdd,reduceIte,reduceCtorEq,Nat.reduceLT,Nat.reduceLeDiff,Nat.reduceShiftRight,Nat.reduceMod]
  (repeat (with_reducible refine And.intro ?_ ?_;focus (first | omega | (unfold I64;omega))))
  refine brB_split (fun h=>?_) (fun h=>?_)
  ·simp only [rnd_s,Int.reduceAdd,Int.reduceSub,decide_true,decide_false,i64_1,i64_2,i64_3,i64_4,true_and,Int.one_mul,Int.cast_ofNat_Int,Int.reduceToNat,Nat.zero_mul,Nat.reduceMul,Nat.zero_add,Nat.mul_one,List.getElem?_cons_zero,List.getElem?_cons_succ,vZ,Int.reduceEq,Int.reduceNe,Int.reduceLT,Int.reduceLE,Nat.reduceEqDiff,Nat.reduceAdd,reduceIte,reduceCtorEq,Nat.reduceLT,Nat.reduceLeDiff,Nat.reduceShiftRight,Nat.reduceMod]
   refine rndW_of (envOf [(1,.ptr 1 0 0),(2,.ptr 2 0 0),(3,.int .i64 1),(8,.int .i64 2)],stOf [(1,⟨28,6,[b.av]⟩),(2,⟨50,12,[.agg [.int .i64 0,.int .i64 0,.int .i64 0,.int .i64 0,.int .i64 0,.int .i64 0,.int .i64 0,.int .i64 0,.int .i64 0,.int .i64 0,.int .i64 0,.int .i64 0]]⟩)]) ?_ ?_
   ·refine weakX [] (of_decide_eq_true rfl) (of_decide_eq_true rfl) ?_
    (simp only [TB.av,vcW,vZ,Int.reduceEq,Int.reduceNe,Int.reduceLT,Int.reduceLE,Nat.reduceEqDiff,Nat.reduceAdd,reduceIte,reduceCtorEq,Nat.reduceLT,Nat.reduceLeDiff,Nat.reduceShiftRight,Nat.reduceMod])
    (repeat' first | exact trivial | (with_reducible first | exact RnB.fxB (ints_fxB _) | rfl | refine And.intro ?_ ?_) | (with_reducible (first | refine RnB.bb ?_ | refine RnB.nb ?_);simp only [vcW,vZ,Int.reduceEq,Int.reduceNe,Int.reduceLT,Int.reduceLE,Nat.reduceEqDiff,Nat.reduceAdd,reduceIte,reduceCtorEq,Nat.reduceLT,Nat.reduceLeDiff,Nat.reduceShiftRight,Nat.reduceMod]) | (with_reducible first | refine RnB.ii ?_ | refine RnB.app ?_) | (with_reducible refine RnB.fxB ?_;simp only [vcW,vZ,Int.reduceEq,Int.reduceNe,Int.reduceLT,Int.reduceLE,Nat.reduceEqDiff,Nat.reduceAdd,reduceIte,reduceCtorEq,Nat.reduceLT,Nat.reduceLeDiff,Nat.reduceShiftRight,Nat.reduceMod]) | omega)
    all_goals rfl
   simp only [TB.av,rnd_s,Int.reduceAdd,Int.reduceSub,decide_true,decide_false,i64_1,i64_2,i64_3,i64_4,true_and,Int.one_mul,Int.cast_ofNat_Int,Int.reduceToNat,Nat.zero_mul,Nat.reduceMul,Nat.zero_add,Nat.mul_one,List.getElem?_cons_zero,List.getElem?_cons_succ,vZ,Int.reduceEq,Int.reduceNe,Int.reduceLT,Int.reduceLE,Nat.reduceEqDiff,Nat.reduceAdd,reduceIte,reduceCtorEq,Nat.reduceLT,Nat.reduceLeDiff,Nat.reduceShiftRight,Nat.reduceMod]
   (repeat (with_reducible refine And.intro ?_ ?_;focus (first | omega | (unfold I64;omega))))
   refine brB_split (fun h=>?_) (fun h=>?_)
   ·simp only [rnd_s,Int.reduceAdd,Int.reduceSub,decide_true,decide_false,i64_1,i64_2,i64_3,i64_4,true_and,Int.one_mul,Int.cast_ofNat_Int,Int.reduceToNat,Nat.zero_mul,Nat.reduceMul,Nat.zero_add,Nat.mul_one,List.getElem?_cons_zero,List.getElem?_cons_succ,vZ,Int.reduceEq,Int.reduceNe,Int.reduceLT,Int.reduceLE,Nat.reduceEqDiff,Nat.reduceAdd,reduceIte,reduceCtorEq,Nat.reduceLT,Nat.reduceLeDiff,Nat.reduceShiftRight,Nat.reduceMod]
    refine rndW_of (envOf [(1,.ptr 1 0 0),(2,.ptr 2 0 0),(3,.int .i64 2),(8,.int .i64 3)],stOf [(1,⟨28,6,[b.av]⟩),(2,⟨50,12,[.agg [.int .i64 0,.int .i64 0,.int .i64 0,.int .i64 0,.int .i64 0,.int .i64 0,.int .i64 0,.int .i64 0,.int .i64 0,.int .i64 0,.int .i64 0,.int .i64 0]]⟩)]) ?_ ?_
    ·refine weakX [] (of_decide_eq_true rfl) (of_decide_eq_true rfl) ?_
     (simp only [TB.av,vcW,vZ,Int.reduceEq,Int.reduceNe,Int.reduceLT,Int.reduceLE,Nat.reduceEqDiff,Nat.reduceAdd,reduceIte,reduceCtorEq,Nat.reduceLT,Nat.reduceLeDiff,Nat.reduceShiftRight,Nat.reduceMod])
     (repeat' first | exact trivial | (with_reducible first | exact RnB.fxB (ints_fxB _) | rfl | refine And.intro ?_ ?_) | (with_reducible (first | refine RnB.bb ?_ | refine RnB.nb ?_);simp only [vcW,vZ,Int.reduceEq,Int.reduceNe,Int.reduceLT,Int.reduceLE,Nat.reduceEqDiff,Nat.reduceAdd,reduceIte,reduceCtorEq,Nat.reduceLT,Nat.reduceLeDiff,Nat.reduceShiftRight,Nat.reduceMod]) | (with_reducible first | refine RnB.ii ?_ | refine RnB.app ?_) | (with_reducible refine RnB.fxB ?_;simp only [vcW,vZ,Int.reduceEq,Int.reduceNe,Int.reduceLT,Int.reduceLE,Nat.reduceEqDiff,Nat.reduceAdd,reduceIte,reduceCtorEq,Nat.reduceLT,Nat.reduceLeDiff,Nat.reduceShiftRight,Nat.reduceMod]) | omega)
     all_goals rfl
    simp only [TB.av,rnd_s,Int.reduceAdd,Int.reduceSub,decide_true,decide_false,i64_1,i64_2,i64_3,i64_4,true_and,Int.one_mul,Int.cast_ofNat_Int,Int.reduceToNat,Nat.zero_mul,Nat.reduceMul,Nat.zero_add,Nat.mul_one,List.getElem?_cons_zero,List.getElem?_cons_succ,vZ,Int.reduceEq,Int.reduceNe,Int.reduceLT,Int.reduceLE,Nat.reduceEqDiff,Nat.reduceAdd,reduceIte,reduceCtorEq,Nat.reduceLT,Nat.reduceLeDiff,Nat.reduceShiftRight,Nat.reduceMod]
    simp only [e1,e2,e3,rnd_s,Int.reduceAdd,Int.reduceSub,decide_true,decide_false,i64_1,i64_2,i64_3,i64_4,true_and,Int.one_mul,Int.cast_ofNat_Int,Int.reduceToNat,Nat.zero_mul,Nat.reduceMul,Nat.zero_add,Nat.mul_one,List.getElem?_cons_zero,List.getElem?_cons_succ,vZ,Int.reduceEq,Int.reduceNe,Int.reduceLT,Int.reduceLE,Nat.reduceEqDiff,Nat.reduceAdd,reduceIte,reduceCtorEq,Nat.reduceLT,Nat.reduceLeDiff,Nat.reduceShiftRight,Nat.reduceMod]
    (repeat (with_reducible refine And.intro ?_ ?_;focus (first | omega | (unfold I64;omega))))
    have hs:b.side=2:=by unfold TB.side;simp at *;(repeat' split) <;> omega
    simp [pairB,TB.h1,TB.h2,hs]
   ·simp only [rnd_s,Int.reduceAdd,Int.reduceSub,decide_true,decide_false,i64_1,i64_2,i64_3,i64_4,true_and,Int.one_mul,Int.cast_ofNat_Int,Int.reduceToNat,Nat.zero_mul,Nat.reduceMul,Nat.zero_add,Nat.mul_one,List.getElem?_cons_zero,List.getElem?_cons_succ,vZ,Int.reduceEq,Int.reduceNe,Int.reduceLT,Int.reduceLE,Nat.reduceEqDiff,Nat.reduceAdd,reduceIte,reduceCtorEq,Nat.reduceLT,Nat.reduceLeDiff,Nat.reduceShiftRight,Nat.reduceMod]
    refine rndW_of (envOf [(1,.ptr 1 0 0),(2,.ptr 2 0 0),(3,.int .i64 1),(8,.int .i64 3)],stOf [(1,⟨28,6,[b.av]⟩),(2,⟨50,12,[.agg [.int .i64 0,.int .i64 0,.int .i64 0,.int .i64 0,.int .i64 0,.int .i64 0,.int .i64 0,.int .i64 0,.int .i64 0,.int .i64 0,.int .i64 0,.int .i64 0]]⟩)]) ?_ ?_
    ·refine weakX [] (of_decide_eq_true rfl) (of_decide_eq_true rfl) ?_
     (simp only [TB.av,vcW,vZ,Int.reduceEq,Int.reduceNe,Int.reduceLT,Int.reduceLE,Nat.reduceEqDiff,Nat.reduceAdd,reduceIte,reduceCtorEq,Nat.reduceLT,Nat.reduceLeDiff,Nat.reduceShiftRight,Nat.reduceMod])
     (repeat' first | exact trivial | (with_reducible first | exact RnB.fxB (ints_fxB _) | rfl | refine And.intro ?_ ?_) | (with_reducible (first | refine RnB.bb ?_ | refine RnB.nb ?_);simp only [vcW,vZ,Int.reduceEq,Int.reduceNe,Int.reduceLT,Int.reduceLE,Nat.reduceEqDiff,Nat.reduceAdd,reduceIte,reduceCtorEq,Nat.reduceLT,Nat.reduceLeDiff,Nat.reduceShiftRight,Nat.reduceMod]) | (with_reducible first | refine RnB.ii ?_ | refine RnB.app ?_) | (with_reducible refine RnB.fxB ?_;simp only [vcW,vZ,Int.reduceEq,Int.reduceNe,Int.reduceLT,Int.reduceLE,Nat.reduceEqDiff,Nat.reduceAdd,reduceIte,reduceCtorEq,Nat.reduceLT,Nat.reduceLeDiff,Nat.reduceShiftRight,Nat.reduceMod]) | omega)
     all_goals rfl
    simp only [TB.av,rnd_s,Int.reduceAdd,Int.reduceSub,decide_true,decide_false,i64_1,i64_2,i64_3,i64_4,true_and,Int.one_mul,Int.cast_ofNat_Int,Int.reduceToNat,Nat.zero_mul,Nat.reduceMul,Nat.zero_add,Nat.mul_one,List.getElem?_cons_zero,List.getElem?_cons_succ,vZ,Int.reduceEq,Int.reduceNe,Int.reduceLT,Int.reduceLE,Nat.reduceEqDiff,Nat.reduceAdd,reduceIte,reduceCtorEq,Nat.reduceLT,Nat.reduceLeDiff,Nat.reduceShiftRight,Nat.reduceMod]
    simp only [e1,e2,e3,rnd_s,Int.reduceAdd,Int.reduceSub,decide_true,decide_false,i64_1,i64_2,i64_3,i64_4,true_and,Int.one_mul,Int.cast_ofNat_Int,Int.reduceToNat,Nat.zero_mul,Nat.reduceMul,Nat.zero_add,Nat.mul_one,List.getElem?_cons_zero,List.getElem?_cons_succ,vZ,Int.reduceEq,Int.reduceNe,Int.reduceLT,Int.reduceLE,Nat.reduceEqDiff,Nat.reduceAdd,reduceIte,reduceCtorEq,Nat.reduceLT,Nat.reduceLeDiff,Nat.reduceShiftRight,Nat.reduceMod]
    (repeat (with_reducible refine And.intro ?_ ?_;focus (first | omega | (unfold I64;omega))))
    have hs:b.side=1:=by unfold TB.side;simp at *;(repeat' split) <;> omega
    simp [pairB,TB.h1,TB.h2,hs]
  ·simp only [rnd_s,Int.reduceAdd,Int.reduceSub,decide_true,decide_false,i64_1,i64_2,i64_3,i64_4,true_and,Int.one_mul,Int.cast_ofNat_Int,Int.reduceToNat,Nat.zero_mul,Nat.reduceMul,Nat.zero_add,Nat.mul_one,List.getElem?_cons_zero,List.getElem?_cons_succ,vZ,Int.reduceEq,Int.reduceNe,Int.reduceLT,Int.reduceLE,Nat.reduceEqDiff,Nat.reduceAdd,reduceIte,reduceCtorEq,Nat.reduceLT,Nat.reduceLeDiff,Nat.reduceShiftRight,Nat.reduceMod]
   refine rndW_of (envOf [(1,.ptr 1 0 0),(2,.ptr 2 0 0),(3,.int .i64 0),(8,.int .i64 2)],stOf [(1,⟨28,6,[b.av]⟩),(2,⟨50,12,[.agg [.int .i64 0,.int .i64 0,.int .i64 0,.int .i64 0,.int .i64 0,.int .i64 0,.int .i64 0,.int .i64 0,.int .i64 0,.int .i64 0,.int .i64 0,.int .i64 0]]⟩)]) ?_ ?_
   ·refine weakX [] (of_decide_eq_true rfl) (of_decide_eq_true rfl) ?_
    (simp only [TB.av,vcW,vZ,Int.reduceEq,Int.reduceNe,Int.reduceLT,Int.reduceLE,Nat.reduceEqDiff,Nat.reduceAdd,reduceIte,reduceCtorEq,Nat.reduceLT,Nat.reduceLeDiff,Nat.reduceShiftRight,Nat.reduceMod])
    (repeat' first | exact trivial | (with_reducible first | exact RnB.fxB (ints_fxB _) | rfl | refine And.intro ?_ ?_) | (with_reducible (first | refine RnB.bb ?_ | refine RnB.nb ?_);simp only [vcW,vZ,Int.reduceEq,Int.reduceNe,Int.reduceLT,Int.reduceLE,Nat.reduceEqDiff,Nat.reduceAdd,reduceIte,reduceCtorEq,Nat.reduceLT,Nat.reduceLeDiff,Nat.reduceShiftRight,Nat.reduceMod]) | (with_reducible first | refine RnB.ii ?_ | refine RnB.app ?_) | (with_reducible refine RnB.fxB ?_;simp only [vcW,vZ,Int.reduceEq,Int.reduceNe,Int.reduceLT,Int.reduceLE,Nat.reduceEqDiff,Nat.reduceAdd,reduceIte,reduceCtorEq,Nat.reduceLT,Nat.reduceLeDiff,Nat.reduceShiftRight,Nat.reduceMod]) | omega)
    all_goals rfl
   simp only [TB.av,rnd_s,Int.reduceAdd,Int.reduceSub,decide_true,decide_false,i64_1,i64_2,i64_3,i64_4,true_and,Int.one_mul,Int.cast_ofNat_Int,Int.reduceToNat,Nat.zero_mul,Nat.reduceMul,Nat.zero_add,Nat.mul_one,List.getElem?_cons_zero,List.getElem?_cons_succ,vZ,Int.reduceEq,Int.reduceNe,Int.reduceLT,Int.reduceLE,Nat.reduceEqDiff,Nat.reduceAdd,reduceIte,reduceCtorEq,Nat.reduceLT,Nat.reduceLeDiff,Nat.reduceShiftRight,Nat.reduceMod]
   (repeat (with_reducible refine And.intro ?_ ?_;focus (first | omega | (unfold I64;omega))))
   refine brB_split (fun h=>?_) (fun h=>?_)
   ·simp only [rnd_s,Int.reduceAdd,Int.reduceSub,decide_true,decide_false,i64_1,i64_2,i64_3,i64_4,true_and,Int.one_mul,Int.cast_ofNat_Int,Int.reduceToNat,Nat.zero_mul,Nat.reduceMul,Nat.zero_add,Nat.mul_one,List.getElem?_cons_zero,List.getElem?_cons_succ,vZ,Int.reduceEq,Int.reduceNe,Int.reduceLT,Int.reduceLE,Nat.reduceEqDiff,Nat.reduceAdd,reduceIte,reduceCtorEq,Nat.reduceLT,Nat.reduceLeDiff,Nat.reduceShiftRight,Nat.reduceMod]
    refine rndW_of (envOf [(1,.ptr 1 0 0),(2,.ptr 2 0 0),(3,.int .i64 2),(8,.int .i64 3)],stOf [(1,⟨28,6,[b.av]⟩),(2,⟨50,12,[.agg [.int .i64 0,.int .i64 0,.int .i64 0,.int .i64 0,.int .i64 0,.int .i64 0,.int .i64 0,.int .i64 0,.int .i64 0,.int .i64 0,.int .i64 0,.int .i64 0]]⟩)]) ?_ ?_
    ·refine weakX [] (of_decide_eq_true rfl) (of_decide_eq_true rfl) ?_
     (simp only [TB.av,vcW,vZ,Int.reduceEq,Int.reduceNe,Int.reduceLT,Int.reduceLE,Nat.reduceEqDiff,Nat.reduceAdd,reduceIte,reduceCtorEq,Nat.reduceLT,Nat.reduceLeDiff,Nat.reduceShiftRight,Nat.reduceMod])
     (repeat' first | exact trivial | (with_reducible first | exact RnB.fxB (ints_fxB _) | rfl | refine And.intro ?_ ?_) | (with_reducible (first | refine RnB.bb ?_ | refine RnB.nb ?_);simp only [vcW,vZ,Int.reduceEq,Int.reduceNe,Int.reduceLT,Int.reduceLE,Nat.reduceEqDiff,Nat.reduceAdd,reduceIte,reduceCtorEq,Nat.reduceLT,Nat.reduceLeDiff,Nat.reduceShiftRight,Nat.reduceMod]) | (with_reducible first | refine RnB.ii ?_ | refine RnB.app ?_) | (with_reducible refine RnB.fxB ?_;simp only [vcW,vZ,Int.reduceEq,Int.reduceNe,Int.reduceLT,Int.reduceLE,Nat.reduceEqDiff,Nat.reduceAdd,reduceIte,reduceCtorEq,Nat.reduceLT,Nat.reduceLeDiff,Nat.reduceShiftRight,Nat.reduceMod]) | omega)
     all_goals rfl
    simp only [TB.av,rnd_s,Int.reduceAdd,Int.reduceSub,decide_true,decide_false,i64_1,i64_2,i64_3,i64_4,true_and,Int.one_mul,Int.cast_ofNat_Int,Int.reduceToNat,Nat.zero_mul,Nat.reduceMul,Nat.zero_add,Nat.mul_one,List.getElem?_cons_zero,List.getElem?_cons_succ,vZ,Int.reduceEq,Int.reduceNe,Int.reduceLT,Int.reduceLE,Nat.reduceEqDiff,Nat.reduceAdd,reduceIte,reduceCtorEq,Nat.reduceLT,Nat.reduceLeDiff,Nat.reduceShiftRight,Nat.reduceMod]
    simp only [e1,e2,e3,rnd_s,Int.reduceAdd,Int.reduceSub,decide_true,decide_false,i64_1,i64_2,i64_3,i64_4,true_and,Int.one_mul,Int.cast_ofNat_Int,Int.reduceToNat,Nat.zero_mul,Nat.reduceMul,Nat.zero_add,Nat.mul_one,List.getElem?_cons_zero,List.getElem?_cons_succ,vZ,Int.reduceEq,Int.reduceNe,Int.reduceLT,Int.reduceLE,Nat.reduceEqDiff,Nat.reduceAdd,reduceIte,reduceCtorEq,Nat.reduceLT,Nat.reduceLeDiff,Nat.reduceShiftRight,Nat.reduceMod]
    (repeat (with_reducible refine And.intro ?_ ?_;focus (first | omega | (unfold I64;omega))))
    have hs:b.side=2:=by unfold TB.side;simp at *;(repeat' split) <;> omega
    simp [pairB,TB.h1,TB.h2,hs]
   ·simp only [rnd_s,Int.reduceAdd,Int.reduceSub,decide_true,decide_false,i64_1,i64_2,i64_3,i64_4,true_and,Int.one_mul,Int.cast_ofNat_Int,Int.reduceToNat,Nat.zero_mul,Nat.reduceMul,Nat.zero_add,Nat.mul_one,List.getElem?_cons_zero,List.getElem?_cons_succ,vZ,Int.reduceEq,Int.reduceNe,Int.reduceLT,Int.reduceLE,Nat.reduceEqDiff,Nat.reduceAdd,reduceIte,reduceCtorEq,Nat.reduceLT,Nat.reduceLeDiff,Nat.reduceShiftRight,Nat.reduceMod]
    refine rndW_of (envOf [(1,.ptr 1 0 0),(2,.ptr 2 0 0),(3,.int .i64 0),(8,.int .i64 3)],stOf [(1,⟨28,6,[b.av]⟩),(2,⟨50,12,[.agg [.int .i64 0,.int .i64 0,.int .i64 0,.int .i64 0,.int .i64 0,.int .i64 0,.int .i64 0,.int .i64 0,.int .i64 0,.int .i64 0,.int .i64 0,.int .i64 0]]⟩)]) ?_ ?_
    ·refine weakX [] (of_decide_eq_true rfl) (of_decide_eq_true rfl) ?_
     (simp only [TB.av,vcW,vZ,Int.reduceEq,Int.reduceNe,Int.reduceLT,Int.reduceLE,Nat.reduceEqDiff,Nat.reduceAdd,reduceIte,reduceCtorEq,Nat.reduceLT,Nat.reduceLeDiff,Nat.reduceShiftRight,Nat.reduceMod])
     (repeat' first | exact trivial | (with_reducible first | exact RnB.fxB (ints_fxB _) | rfl | refine And.intro ?_ ?_) | (with_reducible (first | refine RnB.bb ?_ | refine RnB.nb ?_);simp only [vcW,vZ,Int.reduceEq,Int.reduceNe,Int.reduceLT,Int.reduceLE,Nat.reduceEqDiff,Nat.reduceAdd,reduceIte,reduceCtorEq,Nat.reduceLT,Nat.reduceLeDiff,Nat.reduceShiftRight,Nat.reduceMod]) | (with_reducible first | refine RnB.ii ?_ | refine RnB.app ?_) | (with_reducible refine RnB.fxB ?_;simp only [vcW,vZ,Int.reduceEq,Int.reduceNe,Int.reduceLT,Int.reduceLE,Nat.reduceEqDiff,Nat.reduceAdd,reduceIte,reduceCtorEq,Nat.reduceLT,Nat.reduceLeDiff,Nat.reduceShiftRight,Nat.reduceMod]) | omega)
     all_goals rfl
    simp only [TB.av,rnd_s,Int.reduceAdd,Int.reduceSub,decide_true,decide_false,i64_1,i64_2,i64_3,i64_4,true_and,Int.one_mul,Int.cast_ofNat_Int,Int.reduceToNat,Nat.zero_mul,Nat.reduceMul,Nat.zero_add,Nat.mul_one,List.getElem?_cons_zero,List.getElem?_cons_succ,vZ,Int.reduceEq,Int.reduceNe,Int.reduceLT,Int.reduceLE,Nat.reduceEqDiff,Nat.reduceAdd,reduceIte,reduceCtorEq,Nat.reduceLT,Nat.reduceLeDiff,Nat.reduceShiftRight,Nat.reduceMod]
    simp only [e1,e2,e3,rnd_s,Int.reduceAdd,Int.reduceSub,decide_true,decide_false,i64_1,i64_2,i64_3,i64_4,true_and,Int.one_mul,Int.cast_ofNat_Int,Int.reduceToNat,Nat.zero_mul,Nat.reduceMul,Nat.zero_add,Nat.mul_one,List.getElem?_cons_zero,List.getElem?_cons_succ,vZ,Int.reduceEq,Int.reduceNe,Int.reduceLT,Int.reduceLE,Nat.reduceEqDiff,Nat.reduceAdd,reduceIte,reduceCtorEq,Nat.reduceLT,Nat.reduceLeDiff,Nat.reduceShiftRight,Nat.reduceMod]
    (repeat (with_reducible refine And.intro ?_ ?_;focus (first | omega | (unfold I64;omega))))
    have hs:b.side=0:=by unfold TB.side;simp at *;(repeat' split) <;> omega
    simp [pairB,TB.h1,TB.h2,hs]
end Go.Proofs.Ytoiajhogondgcaa

/- Contracts of what opens models,boxes,hits and steps;a box divided. By an AI agent;nothing here is trusted. -/
namespace Go.Proofs.Ytoiajhogondgcaa
open Go.Av

theorem open_s (m:TM):Sound Try.prog 61 [m.av] (.tup [m.av,.int .i64 m.err]):=by
 refine sound_W f_track_open (Nat.le_of_ble_eq_true rfl) ?_
 simp only [c_track_open,TM.av,rnd_s,Int.reduceAdd,Int.reduceSub,decide_true,decide_false,i64_1,i64_2,i64_3,i64_4,true_and,Int.one_mul,Int.cast_ofNat_Int,Int.reduceToNat,Nat.zero_mul,Nat.reduceMul,Nat.zero_add,Nat.mul_one,List.getElem?_cons_zero,List.getElem?_cons_succ,vZ,Int.reduceEq,Int.reduceNe,Int.reduceLT,Int.reduceLE,Nat.reduceEqDiff,Nat.reduceAdd,reduceIte,reduceCtorEq,Nat.reduceLT,Nat.reduceLeDiff,Nat.reduceShiftRight,Nat.reduceMod]
 refine callS_of (CheckModel_s m) ?_
 simp only [TM.av,rnd_s,Int.reduceAdd,Int.reduceSub,decide_true,decide_false,i64_1,i64_2,i64_3,i64_4,true_and,Int.one_mul,Int.cast_ofNat_Int,Int.reduceToNat,Nat.zero_mul,Nat.reduceMul,Nat.zero_add,Nat.mul_one,List.getElem?_cons_zero,List.getElem?_cons_succ,vZ,Int.reduceEq,Int.reduceNe,Int.reduceLT,Int.reduceLE,Nat.reduceEqDiff,Nat.reduceAdd,reduceIte,reduceCtorEq,Nat.reduceLT,Nat.reduceLeDiff,Nat.reduceShiftRight,Nat.reduceMod]
theorem openBox_s (m:TM) (b:TB):Sound Try.prog 50 [m.av,b.av] (.tup [m.av,.int .i64 (if m.err ≠ 0 then m.err else b.err)]):=by
 refine sound_W f_track_openBox (Nat.le_of_ble_eq_true rfl) ?_
 simp only [c_track_openBox,TM.av,TB.av,rnd_s,Int.reduceAdd,Int.reduceSub,decide_true,decide_false,i64_1,i64_2,i64_3,i64_4,true_and,Int.one_mul,Int.cast_ofNat_Int,Int.reduceToNat,Nat.zero_mul,Nat.reduceMul,Nat.zero_add,Nat.mul_one,List.getElem?_cons_zero,List.getElem?_cons_succ,vZ,Int.reduceEq,Int.reduceNe,Int.reduceLT,Int.reduceLE,Nat.reduceEqDiff,Nat.reduceAdd,reduceIte,reduceCtorEq,Nat.reduceLT,Nat.reduceLeDiff,Nat.reduceShiftRight,Nat.reduceMod]
 refine callS_of (open_s m) ?_
 simp only [TM.av,rnd_s,Int.reduceAdd,Int.reduceSub,decide_true,decide_false,i64_1,i64_2,i64_3,i64_4,true_and,Int.one_mul,Int.cast_ofNat_Int,Int.reduceToNat,Nat.zero_mul,Nat.reduceMul,Nat.zero_add,Nat.mul_one,List.getElem?_cons_zero,List.getElem?_cons_succ,vZ,Int.reduceEq,Int.reduceNe,Int.reduceLT,Int.reduceLE,Nat.reduceEqDiff,Nat.reduceAdd,reduceIte,reduceCtorEq,Nat.reduceLT,Nat.reduceLeDiff,Nat.reduceShiftRight,Nat.reduceMod]
 refine callS_of (CheckBox_s b) ?_
 simp only [rnd_s,Int.reduceAdd,Int.reduceSub,decide_true,decide_false,i64_1,i64_2,i64_3,i64_4,true_and,Int.one_mul,Int.cast_ofNat_Int,Int.reduceToNat,Nat.zero_mul,Nat.reduceMul,Nat.zero_add,Nat.mul_one,List.getElem?_cons_zero,List.getElem?_cons_succ,vZ,Int.reduceEq,Int.reduceNe,Int.reduceLT,Int.reduceLE,Nat.reduceEqDiff,Nat.reduceAdd,reduceIte,reduceCtorEq,Nat.reduceLT,Nat.reduceLeDiff,Nat.reduceShiftRight,Nat.reduceMod]
 refine callS_of (first2_s _ _) ?_
 simp only [rnd_s,Int.reduceAdd,Int.reduceSub,decide_true,decide_false,i64_1,i64_2,i64_3,i64_4,true_and,Int.one_mul,Int.cast_ofNat_Int,Int.reduceToNat,Nat.zero_mul,Nat.reduceMul,Nat.zero_add,Nat.mul_one,List.getElem?_cons_zero,List.getElem?_cons_succ,vZ,Int.reduceEq,Int.reduceNe,Int.reduceLT,Int.reduceLE,Nat.reduceEqDiff,Nat.reduceAdd,reduceIte,reduceCtorEq,Nat.reduceLT,Nat.reduceLeDiff,Nat.reduceShiftRight,Nat.reduceMod]
 exact usedL_buf rfl (ints_imm [_,_]) rfl
def openE (m:TM) (b:TB) (l:List TH):Int:=if m.err ≠ 0 then m.err else if b.err ≠ 0 then b.err else hitsE l
theorem openHits_s (m:TM) (b:TB) (l:List TH) (hl:l.length<4000000000000000000):Sound Try.prog 28 [m.av,b.av,.sl (hitsL l)] (.tup [m.av,.int .i64 (openE m b l)]):=by
 refine sound_W f_track_openHits (Nat.le_of_ble_eq_true rfl) ?_
 simp only [c_track_openHits,TM.av,TB.av,rnd_s,Int.reduceAdd,Int.reduceSub,decide_true,decide_false,i64_1,i64_2,i64_3,i64_4,true_and,Int.one_mul,Int.cast_ofNat_Int,Int.reduceToNat,Nat.zero_mul,Nat.reduceMul,Nat.zero_add,Nat.mul_one,List.getElem?_cons_zero,List.getElem?_cons_succ,vZ,Int.reduceEq,Int.reduceNe,Int.reduceLT,Int.reduceLE,Nat.reduceEqDiff,Nat.reduceAdd,reduceIte,reduceCtorEq,Nat.reduceLT,Nat.reduceLeDiff,Nat.reduceShiftRight,Nat.reduceMod]
 refine callS_of (openBox_s m b) ?_
 simp only [TM.av,rnd_s,Int.reduceAdd,Int.reduceSub,decide_true,decide_false,i64_1,i64_2,i64_3,i64_4,true_and,Int.one_mul,Int.cast_ofNat_Int,Int.reduceToNat,Nat.zero_mul,Nat.reduceMul,Nat.zero_add,Nat.mul_one,List.getElem?_cons_zero,List.getElem?_cons_succ,vZ,Int.reduceEq,Int.reduceNe,Int.reduceLT,Int.reduceLE,Nat.reduceEqDiff,Nat.reduceAdd,reduceIte,reduceCtorEq,Nat.reduceLT,Nat.reduceLeDiff,Nat.reduceShiftRight,Nat.reduceMod]
 refine callS_of (hitsErr_s l hl) ?_
 simp only [rnd_s,Int.reduceAdd,Int.reduceSub,decide_true,decide_false,i64_1,i64_2,i64_3,i64_4,true_and,Int.one_mul,Int.cast_ofNat_Int,Int.reduceToNat,Nat.zero_mul,Nat.reduceMul,Nat.zero_add,Nat.mul_one,List.getElem?_cons_zero,List.getElem?_cons_succ,vZ,Int.reduceEq,Int.reduceNe,Int.reduceLT,Int.reduceLE,Nat.reduceEqDiff,Nat.reduceAdd,reduceIte,reduceCtorEq,Nat.reduceLT,Nat.reduceLeDiff,Nat.reduceShiftRight,Nat.reduceMod]
 refine callS_of (first2_s _ _) ?_
 simp only [rnd_s,Int.reduceAdd,Int.reduceSub,decide_true,decide_false,i64_1,i64_2,i64_3,i64_4,true_and,Int.one_mul,Int.cast_ofNat_Int,Int.reduceToNat,Nat.zero_mul,Nat.reduceMul,Nat.zero_add,Nat.mul_one,List.getElem?_cons_zero,List.getElem?_cons_succ,vZ,Int.reduceEq,Int.reduceNe,Int.reduceLT,Int.reduceLE,Nat.reduceEqDiff,Nat.reduceAdd,reduceIte,reduceCtorEq,Nat.reduceLT,Nat.reduceLeDiff,Nat.reduceShiftRight,Nat.reduceMod]
 refine ⟨usedL_buf rfl (ints_imm [_,_]) rfl,?_⟩
 have e:(if (if m.err ≠ 0 then m.err else b.err) ≠ 0 then (if m.err ≠ 0 then m.err else b.err) else hitsE l)=openE m b l:=by
  unfold openE
  by_cases h:m.err=0 <;> simp [h]
 rw [e]
def opStepE (m:TM) (v:V3):Int:=if m.err ≠ 0 then m.err else stepE m v
theorem openStep_s (m:TM) (v:V3):Sound Try.prog 37 [m.av,v.av] (.tup [m.av,v.av,.int .i64 (opStepE m v)]):=by
 refine sound_W f_track_openStep (Nat.le_of_ble_eq_true rfl) ?_
 simp only [c_track_openStep,TM.av,V3.av,rnd_s,Int.reduceAdd,Int.reduceSub,decide_true,decide_false,i64_1,i64_2,i64_3,i64_4,true_and,Int.one_mul,Int.cast_ofNat_Int,Int.reduceToNat,Nat.zero_mul,Nat.reduceMul,Nat.zero_add,Nat.mul_one,List.getElem?_cons_zero,List.getElem?_cons_succ,vZ,Int.reduceEq,Int.reduceNe,Int.reduceLT,Int.reduceLE,Nat.reduceEqDiff,Nat.reduceAdd,reduceIte,reduceCtorEq,Nat.reduceLT,Nat.reduceLeDiff,Nat.reduceShiftRight,Nat.reduceMod]
 refine callS_of (open_s m) ?_
 simp only [TM.av,rnd_s,Int.reduceAdd,Int.reduceSub,decide_true,decide_false,i64_1,i64_2,i64_3,i64_4,true_and,Int.one_mul,Int.cast_ofNat_Int,Int.reduceToNat,Nat.zero_mul,Nat.reduceMul,Nat.zero_add,Nat.mul_one,List.getElem?_cons_zero,List.getElem?_cons_succ,vZ,Int.reduceEq,Int.reduceNe,Int.reduceLT,Int.reduceLE,Nat.reduceEqDiff,Nat.reduceAdd,reduceIte,reduceCtorEq,Nat.reduceLT,Nat.reduceLeDiff,Nat.reduceShiftRight,Nat.reduceMod]
 refine callS_of (fits_s v 20 (by decide)) ?_
 simp only [rnd_s,Int.reduceAdd,Int.reduceSub,decide_true,decide_false,i64_1,i64_2,i64_3,i64_4,true_and,Int.one_mul,Int.cast_ofNat_Int,Int.reduceToNat,Nat.zero_mul,Nat.reduceMul,Nat.zero_add,Nat.mul_one,List.getElem?_cons_zero,List.getElem?_cons_succ,vZ,Int.reduceEq,Int.reduceNe,Int.reduceLT,Int.reduceLE,Nat.reduceEqDiff,Nat.reduceAdd,reduceIte,reduceCtorEq,Nat.reduceLT,Nat.reduceLeDiff,Nat.reduceShiftRight,Nat.reduceMod]
 refine callS_of (unless_s _ _) ?_
 simp only [rnd_s,Int.reduceAdd,Int.reduceSub,decide_true,decide_false,i64_1,i64_2,i64_3,i64_4,true_and,Int.one_mul,Int.cast_ofNat_Int,Int.reduceToNat,Nat.zero_mul,Nat.reduceMul,Nat.zero_add,Nat.mul_one,List.getElem?_cons_zero,List.getElem?_cons_succ,vZ,Int.reduceEq,Int.reduceNe,Int.reduceLT,Int.reduceLE,Nat.reduceEqDiff,Nat.reduceAdd,reduceIte,reduceCtorEq,Nat.reduceLT,Nat.reduceLeDiff,Nat.reduceShiftRight,Nat.reduceMod]
 refine callS_of (first2_s _ _) ?_
 simp only [rnd_s,Int.reduceAdd,Int.reduceSub,decide_true,decide_false,i64_1,i64_2,i64_3,i64_4,true_and,Int.one_mul,Int.cast_ofNat_Int,Int.reduceToNat,Nat.zero_mul,Nat.reduceMul,Nat.zero_add,Nat.mul_one,List.getElem?_cons_zero,List.getElem?_cons_succ,vZ,Int.reduceEq,Int.reduceNe,Int.reduceLT,Int.reduceLE,Nat.reduceEqDiff,Nat.reduceAdd,reduceIte,reduceCtorEq,Nat.reduceLT,Nat.reduceLeDiff,Nat.reduceShiftRight,Nat.reduceMod]
 by_cases q0:m.err=0
 case neg =>
  simp only [q0,ne_eq,not_false_eq_true,if_true,decide_false,rnd_s,Int.reduceAdd,Int.reduceSub,decide_true,decide_false,i64_1,i64_2,i64_3,i64_4,true_and,Int.one_mul,Int.cast_ofNat_Int,Int.reduceToNat,Nat.zero_mul,Nat.reduceMul,Nat.zero_add,Nat.mul_one,List.getElem?_cons_zero,List.getElem?_cons_succ,vZ,Int.reduceEq,Int.reduceNe,Int.reduceLT,Int.reduceLE,Nat.reduceEqDiff,Nat.reduceAdd,reduceIte,reduceCtorEq,Nat.reduceLT,Nat.reduceLeDiff,Nat.reduceShiftRight,Nat.reduceMod]
  simp [opStepE,q0]
 by_cases q1:v.in 20
 case neg =>
  have q1':v.inB 20=false:=decide_eq_false q1
  simp only [q0,q1',ne_eq,not_true_eq_false,Bool.false_eq_true,if_false,decide_false,rnd_s,Int.reduceAdd,Int.reduceSub,decide_true,decide_false,i64_1,i64_2,i64_3,i64_4,true_and,Int.one_mul,Int.cast_ofNat_Int,Int.reduceToNat,Nat.zero_mul,Nat.reduceMul,Nat.zero_add,Nat.mul_one,List.getElem?_cons_zero,List.getElem?_cons_succ,vZ,Int.reduceEq,Int.reduceNe,Int.reduceLT,Int.reduceLE,Nat.reduceEqDiff,Nat.reduceAdd,reduceIte,reduceCtorEq,Nat.reduceLT,Nat.reduceLeDiff,Nat.reduceShiftRight,Nat.reduceMod]
  simp [opStepE,stepE,q0,q1]
 have q1':v.inB 20=true:=decide_eq_true q1
 simp only [q0,q1',ne_eq,not_true_eq_false,if_true,if_false,decide_true,rnd_s,Int.reduceAdd,Int.reduceSub,decide_true,decide_false,i64_1,i64_2,i64_3,i64_4,true_and,Int.one_mul,Int.cast_ofNat_Int,Int.reduceToNat,Nat.zero_mul,Nat.reduceMul,Nat.zero_add,Nat.mul_one,List.getElem?_cons_zero,List.getElem?_cons_succ,vZ,Int.reduceEq,Int.reduceNe,Int.reduceLT,Int.reduceLE,Nat.reduceEqDiff,Nat.reduceAdd,reduceIte,reduceCtorEq,Nat.reduceLT,Nat.reduceLeDiff,Nat.reduceShiftRight,Nat.reduceMod]
 obtain ⟨⟨a1,a2⟩,⟨a3,a4⟩,a5,a6⟩:=q1
 refine callS_of (permitted_s m v ⟨by omega,by omega,by omega⟩) ?_
 simp only [rnd_s,Int.reduceAdd,Int.reduceSub,decide_true,decide_false,i64_1,i64_2,i64_3,i64_4,true_and,Int.one_mul,Int.cast_ofNat_Int,Int.reduceToNat,Nat.zero_mul,Nat.reduceMul,Nat.zero_add,Nat.mul_one,List.getElem?_cons_zero,List.getElem?_cons_succ,vZ,Int.reduceEq,Int.reduceNe,Int.reduceLT,Int.reduceLE,Nat.reduceEqDiff,Nat.reduceAdd,reduceIte,reduceCtorEq,Nat.reduceLT,Nat.reduceLeDiff,Nat.reduceShiftRight,Nat.reduceMod]
 refine callS_of (unless_s _ _) ?_
 simp only [rnd_s,Int.reduceAdd,Int.reduceSub,decide_true,decide_false,i64_1,i64_2,i64_3,i64_4,true_and,Int.one_mul,Int.cast_ofNat_Int,Int.reduceToNat,Nat.zero_mul,Nat.reduceMul,Nat.zero_add,Nat.mul_one,List.getElem?_cons_zero,List.getElem?_cons_succ,vZ,Int.reduceEq,Int.reduceNe,Int.reduceLT,Int.reduceLE,Nat.reduceEqDiff,Nat.reduceAdd,reduceIte,reduceCtorEq,Nat.reduceLT,Nat.reduceLeDiff,Nat.reduceShiftRight,Nat.reduceMod]
 have q1:v.in 20:=⟨⟨a1,a2⟩,⟨a3,a4⟩,a5,a6⟩
 by_cases q2:m.permits v
 ·have q2':m.lo≤v.dot v∧v.dot v≤m.hi:=q2
  simp [opStepE,stepE,q0,q1,q2,q2']
 ·have q2':¬ (m.lo≤v.dot v∧v.dot v≤m.hi):=q2
  simp [opStepE,stepE,q0,q1,q2,q2']
theorem TB.err_ok (b:TB) (h:b.err=0):b.lo.in 20∧b.hi.in 20∧b.ord∧b.count≤700:=by
 unfold TB.err at h
 split at h
 ·cases h
 ·rename_i h1
  split at h
  ·cases h
  ·rename_i h2
   split at h
   ·cases h
   ·rename_i h3
    have h1':=Decidable.not_not.1 h1
    exact ⟨h1'.1,h1'.2,Decidable.not_not.1 h2,by omega⟩
theorem Divided_s (b:TB):Sound Try.prog 15 [b.av] (if b.err ≠ 0 then .tup [pairB ⟨⟨0,0,0⟩,⟨0,0,0⟩⟩ ⟨⟨0,0,0⟩,⟨0,0,0⟩⟩,.int .i64 b.err] else if b.count=1 then .tup [pairB ⟨⟨0,0,0⟩,⟨0,0,0⟩⟩ ⟨⟨0,0,0⟩,⟨0,0,0⟩⟩,.int .i64 12] else .tup [pairB b.h1 b.h2,.int .i64 0]):=by
 refine sound_W f_track_Divided (Nat.le_of_ble_eq_true rfl) ?_
 simp only [c_track_Divided,TB.av,rnd_s,Int.reduceAdd,Int.reduceSub,decide_true,decide_false,i64_1,i64_2,i64_3,i64_4,true_and,Int.one_mul,Int.cast_ofNat_Int,Int.reduceToNat,Nat.zero_mul,Nat.reduceMul,Nat.zero_add,Nat.mul_one,List.getElem?_cons_zero,List.getElem?_cons_succ,vZ,Int.reduceEq,Int.reduceNe,Int.reduceLT,Int.reduceLE,Nat.reduceEqDiff,Nat.reduceAdd,reduceIte,reduceCtorEq,Nat.reduceLT,Nat.reduceLeDiff,Nat.reduceShiftRight,Nat.reduceMod]
 refine callS_of (CheckBox_s b) ?_
 simp only [rnd_s,Int.reduceAdd,Int.reduceSub,decide_true,decide_false,i64_1,i64_2,i64_3,i64_4,true_and,Int.one_mul,Int.cast_ofNat_Int,Int.reduceToNat,Nat.zero_mul,Nat.reduceMul,Nat.zero_add,Nat.mul_one,List.getElem?_cons_zero,List.getElem?_cons_succ,vZ,Int.reduceEq,Int.reduceNe,Int.reduceLT,Int.reduceLE,Nat.reduceEqDiff,Nat.reduceAdd,reduceIte,reduceCtorEq,Nat.reduceLT,Nat.reduceLeDiff,Nat.reduceShiftRight,Nat.reduceMod]
 by_cases q0:b.err=0
 case neg =>
  simp only [q0,decide_false,Bool.not_false,ne_eq,not_false_eq_true,if_true,rnd_s,Int.reduceAdd,Int.reduceSub,decide_true,decide_false,i64_1,i64_2,i64_3,i64_4,true_and,Int.one_mul,Int.cast_ofNat_Int,Int.reduceToNat,Nat.zero_mul,Nat.reduceMul,Nat.zero_add,Nat.mul_one,List.getElem?_cons_zero,List.getElem?_cons_succ,vZ,Int.reduceEq,Int.reduceNe,Int.reduceLT,Int.reduceLE,Nat.reduceEqDiff,Nat.reduceAdd,reduceIte,reduceCtorEq,Nat.reduceLT,Nat.reduceLeDiff,Nat.reduceShiftRight,Nat.reduceMod]
  rfl
 simp only [q0,decide_true,Bool.not_true,ne_eq,not_true_eq_false,if_false,rnd_s,Int.reduceAdd,Int.reduceSub,decide_true,decide_false,i64_1,i64_2,i64_3,i64_4,true_and,Int.one_mul,Int.cast_ofNat_Int,Int.reduceToNat,Nat.zero_mul,Nat.reduceMul,Nat.zero_add,Nat.mul_one,List.getElem?_cons_zero,List.getElem?_cons_succ,vZ,Int.reduceEq,Int.reduceNe,Int.reduceLT,Int.reduceLE,Nat.reduceEqDiff,Nat.reduceAdd,reduceIte,reduceCtorEq,Nat.reduceLT,Nat.reduceLeDiff,Nat.reduceShiftRight,Nat.reduceMod]
 obtain ⟨g1,g2,g3,g4⟩:=b.err_ok q0
 refine callS_of (count_s b g1 g2) ?_
 by_cases q1:b.count=1
 ·simp only [q1,decide_true,if_true,rnd_s,Int.reduceAdd,Int.reduceSub,decide_true,decide_false,i64_1,i64_2,i64_3,i64_4,true_and,Int.one_mul,Int.cast_ofNat_Int,Int.reduceToNat,Nat.zero_mul,Nat.reduceMul,Nat.zero_add,Nat.mul_one,List.getElem?_cons_zero,List.getElem?_cons_succ,vZ,Int.reduceEq,Int.reduceNe,Int.reduceLT,Int.reduceLE,Nat.reduceEqDiff,Nat.reduceAdd,reduceIte,reduceCtorEq,Nat.reduceLT,Nat.reduceLeDiff,Nat.reduceShiftRight,Nat.reduceMod]
  simp [q0,pairB]
 ·simp only [q1,decide_false,if_false,rnd_s,Int.reduceAdd,Int.reduceSub,decide_true,decide_false,i64_1,i64_2,i64_3,i64_4,true_and,Int.one_mul,Int.cast_ofNat_Int,Int.reduceToNat,Nat.zero_mul,Nat.reduceMul,Nat.zero_add,Nat.mul_one,List.getElem?_cons_zero,List.getElem?_cons_succ,vZ,Int.reduceEq,Int.reduceNe,Int.reduceLT,Int.reduceLE,Nat.reduceEqDiff,Nat.reduceAdd,reduceIte,reduceCtorEq,Nat.reduceLT,Nat.reduceLeDiff,Nat.reduceShiftRight,Nat.reduceMod]
  refine callS_of (halves_s b g1 g2 g3) ?_
  simp only [pairB,rnd_s,Int.reduceAdd,Int.reduceSub,decide_true,decide_false,i64_1,i64_2,i64_3,i64_4,true_and,Int.one_mul,Int.cast_ofNat_Int,Int.reduceToNat,Nat.zero_mul,Nat.reduceMul,Nat.zero_add,Nat.mul_one,List.getElem?_cons_zero,List.getElem?_cons_succ,vZ,Int.reduceEq,Int.reduceNe,Int.reduceLT,Int.reduceLE,Nat.reduceEqDiff,Nat.reduceAdd,reduceIte,reduceCtorEq,Nat.reduceLT,Nat.reduceLeDiff,Nat.reduceShiftRight,Nat.reduceMod]
  simp [q0,q1]
end Go.Proofs.Ytoiajhogondgcaa

/- Contracts of what light has reached,of penalties and scores. By an AI agent;nothing here is trusted. -/
namespace Go.Proofs.Ytoiajhogondgcaa
open Go.Av

structure TM.Ok (m:TM):Prop where
 p:m.p.in 1000
 t : -10000≤m.t∧m.t≤10000
 r:m.rng
 o:m.lo≤m.hi
 s:m.slow<m.lo
theorem TM.err_ok (m:TM) (h:m.err=0):m.Ok:=by
 unfold TM.err at h
 split at h
 ·cases h
 rename_i h1
 split at h
 ·cases h
 rename_i h2
 split at h
 ·cases h
 rename_i h3
 split at h
 ·cases h
 rename_i h4
 split at h
 ·cases h
 rename_i h5
 exact ⟨Decidable.not_not.1 h1,Decidable.not_not.1 h2,Decidable.not_not.1 h3,by omega,by omega⟩
def TP.ok (p:TP):Prop:=p.p.in 1000∧(-10200≤p.t∧p.t≤10200)
def TM.left (m:TM) (v:V3) (p:TP):V3:=⟨m.k * (p.p.x - m.px) - (p.t - m.t) * v.x,m.k * (p.p.y - m.py) - (p.t - m.t) * v.y,m.k * (p.p.z - m.pz) - (p.t - m.t) * v.z⟩
def TM.reach (m:TM) (v:V3) (p:TP):Prop:=(m.left v p).dot (m.left v p)=0∨((m.left v p).dot v≤0∧(v.dot v - m.slow) * (m.left v p).dot (m.left v p)≤(m.left v p).dot v * (m.left v p).dot v)
instance (m:TM) (v:V3) (p:TP):Decidable (m.reach v p):=by unfold TM.reach;infer_instance

theorem V3.dot_bd {v w:V3} {m n:Int} (hv:v.in m) (hw:w.in n) : -(3 * (m * n))≤v.dot w∧v.dot w≤3 * (m * n):=by
 obtain ⟨⟨a1,a2⟩,⟨b1,b2⟩,c1,c2⟩:=V3.dot_le hv hw
 unfold V3.dot
 generalize m * n=q at *
 omega

theorem left_bd {m:TM} {v:V3} {p:TP} (hm:m.Ok) (hv:v.in 20) (hp:p.ok) :
  ((-40000≤m.k * (p.p.x - m.px)∧m.k * (p.p.x - m.px)≤40000)∧(-404000≤(p.t - m.t) * v.x∧(p.t - m.t) * v.x≤404000)) ∧
  ((-40000≤m.k * (p.p.y - m.py)∧m.k * (p.p.y - m.py)≤40000)∧(-404000≤(p.t - m.t) * v.y∧(p.t - m.t) * v.y≤404000)) ∧
  ((-40000≤m.k * (p.p.z - m.pz)∧m.k * (p.p.z - m.pz)≤40000)∧(-404000≤(p.t - m.t) * v.z∧(p.t - m.t) * v.z≤404000))∧(m.left v p).in 444000:=by
 obtain ⟨⟨⟨c1,c2⟩,⟨c3,c4⟩,c5,c6⟩,ht,⟨hk,_⟩,_,_⟩:=hm
 simp only [TM.p] at c1 c2 c3 c4 c5 c6
 obtain ⟨⟨a1,a2⟩,⟨a3,a4⟩,a5,a6⟩:=hv
 obtain ⟨⟨⟨b1,b2⟩,⟨b3,b4⟩,b5,b6⟩,b7,b8⟩:=hp
 have d1:=mul_le (a:=m.k) (b:=p.p.x - m.px) (m:=20) (n:=2000) (by omega) (by omega) (by omega) (by omega)
 have d2:=mul_le (a:=m.k) (b:=p.p.y - m.py) (m:=20) (n:=2000) (by omega) (by omega) (by omega) (by omega)
 have d3:=mul_le (a:=m.k) (b:=p.p.z - m.pz) (m:=20) (n:=2000) (by omega) (by omega) (by omega) (by omega)
 have e1:=mul_le (a:=p.t - m.t) (b:=v.x) (m:=20200) (n:=20) (by omega) (by omega) (by omega) (by omega)
 have e2:=mul_le (a:=p.t - m.t) (b:=v.y) (m:=20200) (n:=20) (by omega) (by omega) (by omega) (by omega)
 have e3:=mul_le (a:=p.t - m.t) (b:=v.z) (m:=20200) (n:=20) (by omega) (by omega) (by omega) (by omega)
 unfold V3.in TM.left
 simp only
 omega

set_option maxHeartbeats 2000000 in
set_option maxRecDepth 10000 in
theorem reached_s (m:TM) (v:V3) (p:TP) (hm:m.Ok) (hv:v.in 20) (hp:p.ok) :
  Sound Try.prog 66 [m.av,v.av,p.av] (.bool (decide (m.reach v p))):=by
 refine sound_W f_track_model_reached (Nat.le_of_ble_eq_true rfl) ?_
 obtain ⟨⟨⟨l1,l2⟩,l3,l4⟩,⟨⟨l5,l6⟩,l7,l8⟩,⟨⟨l9,l10⟩,l11,l12⟩,hl⟩:=left_bd hm hv hp
 have hd1:=V3.dot_bd hl hv
 have hd2:=V3.dot_bd hl hl
 have hd3:=V3.dot_bd hv hv
 obtain ⟨s1,s2,s3⟩:=slow_le hm.r
 have hq1:=mul_le (m:=26640000) (n:=26640000) (a:=(m.left v p).dot v) (b:=(m.left v p).dot v) (by omega) (by omega) (by omega) (by omega)
 have hq2:=mul_le (m:=41200) (n:=591408000000) (a:=v.dot v - m.slow) (b:=(m.left v p).dot (m.left v p)) (by omega) (by omega) (by omega) (by omega)
 obtain ⟨⟨⟨c1,c2⟩,⟨c3,c4⟩,c5,c6⟩,ht,_,_,_⟩:=hm
 simp only [TM.p] at c1 c2 c3 c4 c5 c6
 obtain ⟨⟨⟨b1,b2⟩,⟨b3,b4⟩,b5,b6⟩,b7,b8⟩:=hp
 simp only [c_track_model_reached,TM.av,V3.av,TP.av,rnd_s,Int.reduceAdd,Int.reduceSub,decide_true,decide_false,i64_1,i64_2,i64_3,i64_4,true_and,Int.one_mul,Int.cast_ofNat_Int,Int.reduceToNat,Nat.zero_mul,Nat.reduceMul,Nat.zero_add,Nat.mul_one,List.getElem?_cons_zero,List.getElem?_cons_succ,vZ,Int.reduceEq,Int.reduceNe,Int.reduceLT,Int.reduceLE,Nat.reduceEqDiff,Nat.reduceAdd,reduceIte,reduceCtorEq,Nat.reduceLT,Nat.reduceLeDiff,Nat.reduceShiftRight,Nat.reduceMod]
 refine callS_of (minus_s p.p m.p (by unfold I64;simp only [TM.p];omega) (by unfold I64;simp only [TM.p];omega) (by unfold I64;simp only [TM.p];omega)) ?_
 simp only [V3.av,V3.sub,TM.p,rnd_s,Int.reduceAdd,Int.reduceSub,decide_true,decide_false,i64_1,i64_2,i64_3,i64_4,true_and,Int.one_mul,Int.cast_ofNat_Int,Int.reduceToNat,Nat.zero_mul,Nat.reduceMul,Nat.zero_add,Nat.mul_one,List.getElem?_cons_zero,List.getElem?_cons_succ,vZ,Int.reduceEq,Int.reduceNe,Int.reduceLT,Int.reduceLE,Nat.reduceEqDiff,Nat.reduceAdd,reduceIte,reduceCtorEq,Nat.reduceLT,Nat.reduceLeDiff,Nat.reduceShiftRight,Nat.reduceMod]
 (repeat (with_reducible refine And.intro ?_ ?_;focus (first | omega | (unfold I64;omega))))
 refine W_rnd 4 ?_
 simp only [rnd_s,Int.reduceAdd,Int.reduceSub,decide_true,decide_false,i64_1,i64_2,i64_3,i64_4,true_and,Int.one_mul,Int.cast_ofNat_Int,Int.reduceToNat,Nat.zero_mul,Nat.reduceMul,Nat.zero_add,Nat.mul_one,List.getElem?_cons_zero,List.getElem?_cons_succ,vZ,Int.reduceEq,Int.reduceNe,Int.reduceLT,Int.reduceLE,Nat.reduceEqDiff,Nat.reduceAdd,reduceIte,reduceCtorEq,Nat.reduceLT,Nat.reduceLeDiff,Nat.reduceShiftRight,Nat.reduceMod]
 (repeat (with_reducible refine And.intro ?_ ?_;focus (first | omega | (unfold I64;omega))))
 refine callS_of (dot_in (v:=m.left v p) (w:=v) hl hv (by decide)) ?_
 simp only [V3.av,rnd_s,Int.reduceAdd,Int.reduceSub,decide_true,decide_false,i64_1,i64_2,i64_3,i64_4,true_and,Int.one_mul,Int.cast_ofNat_Int,Int.reduceToNat,Nat.zero_mul,Nat.reduceMul,Nat.zero_add,Nat.mul_one,List.getElem?_cons_zero,List.getElem?_cons_succ,vZ,Int.reduceEq,Int.reduceNe,Int.reduceLT,Int.reduceLE,Nat.reduceEqDiff,Nat.reduceAdd,reduceIte,reduceCtorEq,Nat.reduceLT,Nat.reduceLeDiff,Nat.reduceShiftRight,Nat.reduceMod]
 refine callS_of (dot_in (v:=m.left v p) (w:=m.left v p) hl hl (by decide)) ?_
 simp only [V3.av,rnd_s,Int.reduceAdd,Int.reduceSub,decide_true,decide_false,i64_1,i64_2,i64_3,i64_4,true_and,Int.one_mul,Int.cast_ofNat_Int,Int.reduceToNat,Nat.zero_mul,Nat.reduceMul,Nat.zero_add,Nat.mul_one,List.getElem?_cons_zero,List.getElem?_cons_succ,vZ,Int.reduceEq,Int.reduceNe,Int.reduceLT,Int.reduceLE,Nat.reduceEqDiff,Nat.reduceAdd,reduceIte,reduceCtorEq,Nat.reduceLT,Nat.reduceLeDiff,Nat.reduceShiftRight,Nat.reduceMod]
 by_cases q0:(m.left v p).dot (m.left v p)=0
 case pos =>
  simp only [q0,decide_true,rnd_s,Int.reduceAdd,Int.reduceSub,decide_true,decide_false,i64_1,i64_2,i64_3,i64_4,true_and,Int.one_mul,Int.cast_ofNat_Int,Int.reduceToNat,Nat.zero_mul,Nat.reduceMul,Nat.zero_add,Nat.mul_one,List.getElem?_cons_zero,List.getElem?_cons_succ,vZ,Int.reduceEq,Int.reduceNe,Int.reduceLT,Int.reduceLE,Nat.reduceEqDiff,Nat.reduceAdd,reduceIte,reduceCtorEq,Nat.reduceLT,Nat.reduceLeDiff,Nat.reduceShiftRight,Nat.reduceMod]
  simp [TM.reach,q0]
 simp only [q0,decide_false,Bool.not_false,rnd_s,Int.reduceAdd,Int.reduceSub,decide_true,decide_false,i64_1,i64_2,i64_3,i64_4,true_and,Int.one_mul,Int.cast_ofNat_Int,Int.reduceToNat,Nat.zero_mul,Nat.reduceMul,Nat.zero_add,Nat.mul_one,List.getElem?_cons_zero,List.getElem?_cons_succ,vZ,Int.reduceEq,Int.reduceNe,Int.reduceLT,Int.reduceLE,Nat.reduceEqDiff,Nat.reduceAdd,reduceIte,reduceCtorEq,Nat.reduceLT,Nat.reduceLeDiff,Nat.reduceShiftRight,Nat.reduceMod]
 by_cases q1:(m.left v p).dot v≤0
 case neg =>
  simp only [q1,decide_false,Bool.not_false,rnd_s,Int.reduceAdd,Int.reduceSub,decide_true,decide_false,i64_1,i64_2,i64_3,i64_4,true_and,Int.one_mul,Int.cast_ofNat_Int,Int.reduceToNat,Nat.zero_mul,Nat.reduceMul,Nat.zero_add,Nat.mul_one,List.getElem?_cons_zero,List.getElem?_cons_succ,vZ,Int.reduceEq,Int.reduceNe,Int.reduceLT,Int.reduceLE,Nat.reduceEqDiff,Nat.reduceAdd,reduceIte,reduceCtorEq,Nat.reduceLT,Nat.reduceLeDiff,Nat.reduceShiftRight,Nat.reduceMod]
  simp [TM.reach,q0,q1]
 simp only [q1,decide_true,Bool.not_true,rnd_s,Int.reduceAdd,Int.reduceSub,decide_true,decide_false,i64_1,i64_2,i64_3,i64_4,true_and,Int.one_mul,Int.cast_ofNat_Int,Int.reduceToNat,Nat.zero_mul,Nat.reduceMul,Nat.zero_add,Nat.mul_one,List.getElem?_cons_zero,List.getElem?_cons_succ,vZ,Int.reduceEq,Int.reduceNe,Int.reduceLT,Int.reduceLE,Nat.reduceEqDiff,Nat.reduceAdd,reduceIte,reduceCtorEq,Nat.reduceLT,Nat.reduceLeDiff,Nat.reduceShiftRight,Nat.reduceMod]
 refine ⟨by unfold I64;omega,?_⟩
 refine callS_of (dot_in (v:=v) (w:=v) hv hv (by decide)) ?_
 simp only [V3.av,rnd_s,Int.reduceAdd,Int.reduceSub,decide_true,decide_false,i64_1,i64_2,i64_3,i64_4,true_and,Int.one_mul,Int.cast_ofNat_Int,Int.reduceToNat,Nat.zero_mul,Nat.reduceMul,Nat.zero_add,Nat.mul_one,List.getElem?_cons_zero,List.getElem?_cons_succ,vZ,Int.reduceEq,Int.reduceNe,Int.reduceLT,Int.reduceLE,Nat.reduceEqDiff,Nat.reduceAdd,reduceIte,reduceCtorEq,Nat.reduceLT,Nat.reduceLeDiff,Nat.reduceShiftRight,Nat.reduceMod]
 refine callS_of (slow_s m (by unfold I64;omega) (by unfold I64;omega)) ?_
 simp only [V3.av,rnd_s,Int.reduceAdd,Int.reduceSub,decide_true,decide_false,i64_1,i64_2,i64_3,i64_4,true_and,Int.one_mul,Int.cast_ofNat_Int,Int.reduceToNat,Nat.zero_mul,Nat.reduceMul,Nat.zero_add,Nat.mul_one,List.getElem?_cons_zero,List.getElem?_cons_succ,vZ,Int.reduceEq,Int.reduceNe,Int.reduceLT,Int.reduceLE,Nat.reduceEqDiff,Nat.reduceAdd,reduceIte,reduceCtorEq,Nat.reduceLT,Nat.reduceLeDiff,Nat.reduceShiftRight,Nat.reduceMod]
 refine ⟨by unfold I64;omega,by unfold I64;omega,?_⟩
 by_cases q2:(v.dot v - m.slow) * (m.left v p).dot (m.left v p)≤(m.left v p).dot v * (m.left v p).dot v
 ·simp [TM.reach,q0,q1,q2]
 ·simp [TM.reach,q0,q1,q2]
end Go.Proofs.Ytoiajhogondgcaa

/- Contracts of penalties and scores. By an AI agent;nothing here is trusted. -/
namespace Go.Proofs.Ytoiajhogondgcaa
open Go.Av

theorem TH.early_ok {m:TM} {h:TH} (hm:m.Ok) (hh:h.ok):(m.early h).ok∧(m.late h).ok:=by
 obtain ⟨_,_,⟨_,_,_,_,he,hl,_⟩,_,_⟩:=hm
 obtain ⟨h1,h2,_⟩:=hh
 refine ⟨⟨h1,?_⟩,h1,?_⟩ <;> (simp only [TM.early,TM.late];omega)
theorem weigh_bd {m:TM} {h:TH} (hm:m.Ok) (hh:h.ok):(0≤h.w * m.mi∧h.w * m.mi≤10000)∧(0≤h.w * m.no∧h.w * m.no≤10000):=by
 obtain ⟨_,_,⟨_,_,_,_,_,_,hn,hi⟩,_,_⟩:=hm
 obtain ⟨_,_,h3⟩:=hh
 have a:=mul_le (a:=h.w) (b:=m.mi) (m:=100) (n:=100) (by omega) (by omega) (by omega) (by omega)
 have b:=mul_le (a:=h.w) (b:=m.no) (m:=100) (n:=100) (by omega) (by omega) (by omega) (by omega)
 have c:=Int.mul_nonneg h3.1 hi.1
 have d:=Int.mul_nonneg h3.1 hn.1
 omega
def TM.pen (m:TM) (v:V3) (h:TH):Int:=if m.reach v (m.early h) then (if m.reach v (m.late h) then h.w * m.no else 0) else h.w * m.mi
theorem pen_bd {m:TM} (v:V3) {h:TH} (hm:m.Ok) (hh:h.ok):0≤m.pen v h∧m.pen v h≤10000:=by
 obtain ⟨a,b⟩:=weigh_bd hm hh
 unfold TM.pen
 (repeat' split) <;> omega
theorem ends_ok {m:TM} {h:TH} (hm:m.Ok) (hh:h.ok):Sound Try.prog 69 [m.av,h.av] (.tup [(m.early h).av,(m.late h).av]):=by
 obtain ⟨_,_,⟨_,_,_,_,he,hl,_⟩,_,_⟩:=hm
 obtain ⟨h1,h2,_⟩:=hh
 apply ends_s <;> (unfold I64;omega)
set_option maxRecDepth 4000 in
theorem penalty_s (m:TM) (v:V3) (h:TH) (hm:m.Ok) (hv:v.in 20) (hh:h.ok):Sound Try.prog 59 [m.av,v.av,h.av] (.int .i64 (m.pen v h)):=by
 refine sound_W f_track_model_penalty (Nat.le_of_ble_eq_true rfl) ?_
 obtain ⟨a,b⟩:=weigh_bd hm hh
 obtain ⟨o1,o2⟩:=TH.early_ok hm hh
 simp only [c_track_model_penalty,TM.av,V3.av,TH.av,rnd_s,Int.reduceAdd,Int.reduceSub,decide_true,decide_false,i64_1,i64_2,i64_3,i64_4,true_and,Int.one_mul,Int.cast_ofNat_Int,Int.reduceToNat,Nat.zero_mul,Nat.reduceMul,Nat.zero_add,Nat.mul_one,List.getElem?_cons_zero,List.getElem?_cons_succ,vZ,Int.reduceEq,Int.reduceNe,Int.reduceLT,Int.reduceLE,Nat.reduceEqDiff,Nat.reduceAdd,reduceIte,reduceCtorEq,Nat.reduceLT,Nat.reduceLeDiff,Nat.reduceShiftRight,Nat.reduceMod]
 refine callS_of (ends_ok hm hh) ?_
 simp only [TP.av,rnd_s,Int.reduceAdd,Int.reduceSub,decide_true,decide_false,i64_1,i64_2,i64_3,i64_4,true_and,Int.one_mul,Int.cast_ofNat_Int,Int.reduceToNat,Nat.zero_mul,Nat.reduceMul,Nat.zero_add,Nat.mul_one,List.getElem?_cons_zero,List.getElem?_cons_succ,vZ,Int.reduceEq,Int.reduceNe,Int.reduceLT,Int.reduceLE,Nat.reduceEqDiff,Nat.reduceAdd,reduceIte,reduceCtorEq,Nat.reduceLT,Nat.reduceLeDiff,Nat.reduceShiftRight,Nat.reduceMod]
 refine callS_of (reached_s m v (m.early h) hm hv o1) ?_
 by_cases q1:m.reach v (m.early h)
 case neg =>
  simp only [q1,decide_false,Bool.not_false,rnd_s,Int.reduceAdd,Int.reduceSub,decide_true,decide_false,i64_1,i64_2,i64_3,i64_4,true_and,Int.one_mul,Int.cast_ofNat_Int,Int.reduceToNat,Nat.zero_mul,Nat.reduceMul,Nat.zero_add,Nat.mul_one,List.getElem?_cons_zero,List.getElem?_cons_succ,vZ,Int.reduceEq,Int.reduceNe,Int.reduceLT,Int.reduceLE,Nat.reduceEqDiff,Nat.reduceAdd,reduceIte,reduceCtorEq,Nat.reduceLT,Nat.reduceLeDiff,Nat.reduceShiftRight,Nat.reduceMod]
  refine ⟨by unfold I64;omega,?_⟩
  simp [TM.pen,q1]
 simp only [q1,decide_true,Bool.not_true,rnd_s,Int.reduceAdd,Int.reduceSub,decide_true,decide_false,i64_1,i64_2,i64_3,i64_4,true_and,Int.one_mul,Int.cast_ofNat_Int,Int.reduceToNat,Nat.zero_mul,Nat.reduceMul,Nat.zero_add,Nat.mul_one,List.getElem?_cons_zero,List.getElem?_cons_succ,vZ,Int.reduceEq,Int.reduceNe,Int.reduceLT,Int.reduceLE,Nat.reduceEqDiff,Nat.reduceAdd,reduceIte,reduceCtorEq,Nat.reduceLT,Nat.reduceLeDiff,Nat.reduceShiftRight,Nat.reduceMod]
 refine callS_of (reached_s m v (m.late h) hm hv o2) ?_
 by_cases q2:m.reach v (m.late h)
 case neg =>
  simp only [q2,decide_false,rnd_s,Int.reduceAdd,Int.reduceSub,decide_true,decide_false,i64_1,i64_2,i64_3,i64_4,true_and,Int.one_mul,Int.cast_ofNat_Int,Int.reduceToNat,Nat.zero_mul,Nat.reduceMul,Nat.zero_add,Nat.mul_one,List.getElem?_cons_zero,List.getElem?_cons_succ,vZ,Int.reduceEq,Int.reduceNe,Int.reduceLT,Int.reduceLE,Nat.reduceEqDiff,Nat.reduceAdd,reduceIte,reduceCtorEq,Nat.reduceLT,Nat.reduceLeDiff,Nat.reduceShiftRight,Nat.reduceMod]
  simp [TM.pen,q1,q2]
 simp only [q2,decide_true,rnd_s,Int.reduceAdd,Int.reduceSub,decide_true,decide_false,i64_1,i64_2,i64_3,i64_4,true_and,Int.one_mul,Int.cast_ofNat_Int,Int.reduceToNat,Nat.zero_mul,Nat.reduceMul,Nat.zero_add,Nat.mul_one,List.getElem?_cons_zero,List.getElem?_cons_succ,vZ,Int.reduceEq,Int.reduceNe,Int.reduceLT,Int.reduceLE,Nat.reduceEqDiff,Nat.reduceAdd,reduceIte,reduceCtorEq,Nat.reduceLT,Nat.reduceLeDiff,Nat.reduceShiftRight,Nat.reduceMod]
 refine ⟨by unfold I64;omega,?_⟩
 simp [TM.pen,q1,q2]

def TM.score (m:TM) (v:V3) (l:List TH):Int:=(l.map (m.pen v)).sum
theorem score_bd {m:TM} (v:V3) (hm:m.Ok):∀ {l:List TH},(∀ h ∈ l,h.ok)→0≤m.score v l∧m.score v l≤10000 * l.length
 | [],_=>by simp [TM.score]
 | h :: l,ho=>by
  have a:=pen_bd v hm (ho h (by simp))
  have b:=score_bd (l:=l) v hm fun x hx=>ho x (by simp [hx])
  have c:m.score v (h :: l)=m.pen v h+m.score v l:=by simp [TM.score]
  rw [c,List.length_cons]
  omega
theorem score_snoc (m:TM) (v:V3) (l:List TH) (h:TH):m.score v (l ++ [h])=m.score v l+m.pen v h:=by simp [TM.score]
theorem score_take (m:TM) (v:V3) (l:List TH) (i:Nat) (h:i<l.length):m.score v (l.take (i+1))=m.score v (l.take i)+m.pen v l[i]:=by
 rw [List.take_succ_eq_append_getElem h,score_snoc]
theorem score_s (m:TM) (v:V3) (l:List TH) (hm:m.Ok) (hv:v.in 20) (hl:l.length≤1000000) (ho:∀ h ∈ l,h.ok):Sound Try.prog 34 [m.av,v.av,.sl (hitsL l)] (.int .i64 (m.score v l)):=by
 refine sound_W f_track_model_score (Nat.le_of_ble_eq_true rfl) ?_
 simp only [c_track_model_score,TM.av,V3.av,hitsL_length,vZ,Int.reduceEq,Int.reduceNe,Int.reduceLT,Int.reduceLE,Nat.reduceEqDiff,Nat.reduceAdd,reduceIte,reduceCtorEq,Nat.reduceLT,Nat.reduceLeDiff,Nat.reduceShiftRight,Nat.reduceMod]
 refine W_loop (t:=.mk) (α:=PSigma fun i:Nat=>i≤l.length∧(True)) (fun ⟨i,_⟩=>((envOf [(3,.ptr 3 0 0),(4,.ptr 4 0 0),(7,.int .i64 (m.score v (l.take i))),(10,.sl (hitsL l)),(11,.int .i64 l.length),(12,.int .i64 i)],stOf [(3,⟨70,12,[m.av]⟩),(4,⟨73,3,[v.av]⟩)]))) (fun i=>l.length - i.1) ⟨0,Nat.zero_le _,?_⟩ ?_ (fun ⟨i,hi,hn⟩=>?_)
 ·trivial
 ·refine weakX [] (of_decide_eq_true rfl) (of_decide_eq_true rfl) ?_
  (simp only [TM.av,V3.av,vcW,vZ,Int.reduceEq,Int.reduceNe,Int.reduceLT,Int.reduceLE,Nat.reduceEqDiff,Nat.reduceAdd,reduceIte,reduceCtorEq,Nat.reduceLT,Nat.reduceLeDiff,Nat.reduceShiftRight,Nat.reduceMod])
  (repeat' first | exact trivial | (with_reducible first | exact RnB.fxB (ints_fxB _) | rfl | refine And.intro ?_ ?_) | (with_reducible (first | refine RnB.bb ?_ | refine RnB.nb ?_);simp only [vcW,vZ,Int.reduceEq,Int.reduceNe,Int.reduceLT,Int.reduceLE,Nat.reduceEqDiff,Nat.reduceAdd,reduceIte,reduceCtorEq,Nat.reduceLT,Nat.reduceLeDiff,Nat.reduceShiftRight,Nat.reduceMod]) | (with_reducible first | refine RnB.ii ?_ | refine RnB.app ?_) | (with_reducible refine RnB.fxB ?_;simp only [vcW,vZ,Int.reduceEq,Int.reduceNe,Int.reduceLT,Int.reduceLE,Nat.reduceEqDiff,Nat.reduceAdd,reduceIte,reduceCtorEq,Nat.reduceLT,Nat.reduceLeDiff,Nat.reduceShiftRight,Nat.reduceMod]) | omega)
  all_goals rfl
 ·simp only [vZ,Int.reduceEq,Int.reduceNe,Int.reduceLT,Int.reduceLE,Nat.reduceEqDiff,Nat.reduceAdd,reduceIte,reduceCtorEq,Nat.reduceLT,Nat.reduceLeDiff,Nat.reduceShiftRight,Nat.reduceMod]
  refine brB_split (fun h2=>?_) (fun h2=>?_)
  ·have h':i<l.length:=by (simp only [decide_eq_true_eq,decide_eq_false_iff_not,Bool.not_true,I64,Bool.not_eq_true',Bool.not_eq_false',bne_iff_ne,beq_iff_eq,ne_eq] at *;omega)
   simp only [hitsL_get l i h',TH.av,TM.av,V3.av,rnd_s,Int.reduceAdd,Int.reduceSub,decide_true,decide_false,i64_1,i64_2,i64_3,i64_4,true_and,Int.one_mul,Int.cast_ofNat_Int,Int.reduceToNat,Nat.zero_mul,Nat.reduceMul,Nat.zero_add,Nat.mul_one,List.getElem?_cons_zero,List.getElem?_cons_succ,vZ,Int.reduceEq,Int.reduceNe,Int.reduceLT,Int.reduceLE,Nat.reduceEqDiff,Nat.reduceAdd,reduceIte,reduceCtorEq,Nat.reduceLT,Nat.reduceLeDiff,Nat.reduceShiftRight,Nat.reduceMod]
   refine ⟨by omega,?_⟩
   have hi':=ho l[i] (List.getElem_mem h')
   refine callS_of (penalty_s m v l[i] hm hv hi') ?_
   simp only [rnd_s,Int.reduceAdd,Int.reduceSub,decide_true,decide_false,i64_1,i64_2,i64_3,i64_4,true_and,Int.one_mul,Int.cast_ofNat_Int,Int.reduceToNat,Nat.zero_mul,Nat.reduceMul,Nat.zero_add,Nat.mul_one,List.getElem?_cons_zero,List.getElem?_cons_succ,vZ,Int.reduceEq,Int.reduceNe,Int.reduceLT,Int.reduceLE,Nat.reduceEqDiff,Nat.reduceAdd,reduceIte,reduceCtorEq,Nat.reduceLT,Nat.reduceLeDiff,Nat.reduceShiftRight,Nat.reduceMod]
   rw [← score_take m v l i h']
   have b1:=score_bd (l:=l.take (i+1)) v hm fun x hx=>ho x (List.mem_of_mem_take hx)
   have b3:(l.take (i+1)).length≤1000000:=by simp;omega
   refine ⟨by unfold I64;omega,by unfold I64;omega,?_⟩
   refine ⟨⟨i+1,by omega,trivial⟩,by simp only;omega,?_⟩
   refine weakX [] (of_decide_eq_true rfl) (of_decide_eq_true rfl) ?_
   (simp only [TM.av,V3.av,vcW,vZ,Int.reduceEq,Int.reduceNe,Int.reduceLT,Int.reduceLE,Nat.reduceEqDiff,Nat.reduceAdd,reduceIte,reduceCtorEq,Nat.reduceLT,Nat.reduceLeDiff,Nat.reduceShiftRight,Nat.reduceMod])
   (repeat' first | exact trivial | (with_reducible first | exact RnB.fxB (ints_fxB _) | rfl | refine And.intro ?_ ?_) | (with_reducible (first | refine RnB.bb ?_ | refine RnB.nb ?_);simp only [vcW,vZ,Int.reduceEq,Int.reduceNe,Int.reduceLT,Int.reduceLE,Nat.reduceEqDiff,Nat.reduceAdd,reduceIte,reduceCtorEq,Nat.reduceLT,Nat.reduceLeDiff,Nat.reduceShiftRight,Nat.reduceMod]) | (with_reducible first | refine RnB.ii ?_ | refine RnB.app ?_) | (with_reducible refine RnB.fxB ?_;simp only [vcW,vZ,Int.reduceEq,Int.reduceNe,Int.reduceLT,Int.reduceLE,Nat.reduceEqDiff,Nat.reduceAdd,reduceIte,reduceCtorEq,Nat.reduceLT,Nat.reduceLeDiff,Nat.reduceShiftRight,Nat.reduceMod]) | omega)
   all_goals first | rfl | skip
  ·simp only [vZ,Int.reduceEq,Int.reduceNe,Int.reduceLT,Int.reduceLE,Nat.reduceEqDiff,Nat.reduceAdd,reduceIte,reduceCtorEq,Nat.reduceLT,Nat.reduceLeDiff,Nat.reduceShiftRight,Nat.reduceMod]
   have:i=l.length:=by (simp only [decide_eq_true_eq,decide_eq_false_iff_not,Bool.not_true,I64,Bool.not_eq_true',Bool.not_eq_false',bne_iff_ne,beq_iff_eq,ne_eq] at *;omega)
   subst this
   rw [List.take_length]

def scoreE (m:TM) (v:V3) (l:List TH):Int:=if opStepE m v ≠ 0 then opStepE m v else hitsE l
theorem hitsE_ok {l:List TH} (h:hitsE l=0):l.length≤12∧∀ x ∈ l,x.ok:=by
 unfold hitsE at h
 split at h
 ·cases h
 ·split at h
  ·rename_i h1 h2
   exact ⟨by omega,fun x hx=>by simpa using List.all_eq_true.1 h2 x hx⟩
  ·cases h
theorem opStepE_ok {m:TM} {v:V3} (h:opStepE m v=0):m.Ok∧v.in 20∧m.permits v:=by
 unfold opStepE at h
 split at h
 ·rename_i h1;exact absurd h h1
 ·rename_i h1
  unfold stepE at h
  split at h
  ·cases h
  ·rename_i h2
   split at h
   ·cases h
   ·rename_i h3
    exact ⟨m.err_ok (Decidable.not_not.1 h1),Decidable.not_not.1 h2,Decidable.not_not.1 h3⟩
theorem ScoreOf_s (m:TM) (v:V3) (l:List TH) (hl:l.length<4000000000000000000):Sound Try.prog 14 [m.av,v.av,.sl (hitsL l)] (.tup [.int .i64 (if scoreE m v l=0 then m.score v l else 0),.int .i64 (scoreE m v l)]):=by
 refine sound_W f_track_ScoreOf (Nat.le_of_ble_eq_true rfl) ?_
 simp only [c_track_ScoreOf,TM.av,V3.av,hitsL_length,vZ,Int.reduceEq,Int.reduceNe,Int.reduceLT,Int.reduceLE,Nat.reduceEqDiff,Nat.reduceAdd,reduceIte,reduceCtorEq,Nat.reduceLT,Nat.reduceLeDiff,Nat.reduceShiftRight,Nat.reduceMod]
 refine callS_of (openStep_s m v) ?_
 simp only [TM.av,V3.av,rnd_s,Int.reduceAdd,Int.reduceSub,decide_true,decide_false,i64_1,i64_2,i64_3,i64_4,true_and,Int.one_mul,Int.cast_ofNat_Int,Int.reduceToNat,Nat.zero_mul,Nat.reduceMul,Nat.zero_add,Nat.mul_one,List.getElem?_cons_zero,List.getElem?_cons_succ,vZ,Int.reduceEq,Int.reduceNe,Int.reduceLT,Int.reduceLE,Nat.reduceEqDiff,Nat.reduceAdd,reduceIte,reduceCtorEq,Nat.reduceLT,Nat.reduceLeDiff,Nat.reduceShiftRight,Nat.reduceMod]
 refine callS_of (hitsErr_s l hl) ?_
 simp only [rnd_s,Int.reduceAdd,Int.reduceSub,decide_true,decide_false,i64_1,i64_2,i64_3,i64_4,true_and,Int.one_mul,Int.cast_ofNat_Int,Int.reduceToNat,Nat.zero_mul,Nat.reduceMul,Nat.zero_add,Nat.mul_one,List.getElem?_cons_zero,List.getElem?_cons_succ,vZ,Int.reduceEq,Int.reduceNe,Int.reduceLT,Int.reduceLE,Nat.reduceEqDiff,Nat.reduceAdd,reduceIte,reduceCtorEq,Nat.reduceLT,Nat.reduceLeDiff,Nat.reduceShiftRight,Nat.reduceMod]
 refine callS_of (first2_s _ _) ?_
 simp only [rnd_s,Int.reduceAdd,Int.reduceSub,decide_true,decide_false,i64_1,i64_2,i64_3,i64_4,true_and,Int.one_mul,Int.cast_ofNat_Int,Int.reduceToNat,Nat.zero_mul,Nat.reduceMul,Nat.zero_add,Nat.mul_one,List.getElem?_cons_zero,List.getElem?_cons_succ,vZ,Int.reduceEq,Int.reduceNe,Int.reduceLT,Int.reduceLE,Nat.reduceEqDiff,Nat.reduceAdd,reduceIte,reduceCtorEq,Nat.reduceLT,Nat.reduceLeDiff,Nat.reduceShiftRight,Nat.reduceMod]
 have e:(if opStepE m v ≠ 0 then opStepE m v else hitsE l)=scoreE m v l:=rfl
 rw [e]
 by_cases q:scoreE m v l=0
 case neg =>
  simp only [q,decide_false,Bool.not_false,if_false,rnd_s,Int.reduceAdd,Int.reduceSub,decide_true,decide_false,i64_1,i64_2,i64_3,i64_4,true_and,Int.one_mul,Int.cast_ofNat_Int,Int.reduceToNat,Nat.zero_mul,Nat.reduceMul,Nat.zero_add,Nat.mul_one,List.getElem?_cons_zero,List.getElem?_cons_succ,vZ,Int.reduceEq,Int.reduceNe,Int.reduceLT,Int.reduceLE,Nat.reduceEqDiff,Nat.reduceAdd,reduceIte,reduceCtorEq,Nat.reduceLT,Nat.reduceLeDiff,Nat.reduceShiftRight,Nat.reduceMod]
 simp only [q,decide_true,Bool.not_true,if_true,rnd_s,Int.reduceAdd,Int.reduceSub,decide_true,decide_false,i64_1,i64_2,i64_3,i64_4,true_and,Int.one_mul,Int.cast_ofNat_Int,Int.reduceToNat,Nat.zero_mul,Nat.reduceMul,Nat.zero_add,Nat.mul_one,List.getElem?_cons_zero,List.getElem?_cons_succ,vZ,Int.reduceEq,Int.reduceNe,Int.reduceLT,Int.reduceLE,Nat.reduceEqDiff,Nat.reduceAdd,reduceIte,reduceCtorEq,Nat.reduceLT,Nat.reduceLeDiff,Nat.reduceShiftRight,Nat.reduceMod]
 have q1:opStepE m v=0:=by unfold scoreE at q;split at q <;> simp_all
 have q2:hitsE l=0:=by unfold scoreE at q;split at q <;> simp_all
 obtain ⟨g1,g2⟩:=hitsE_ok q2
 obtain ⟨g3,g4,_⟩:=opStepE_ok q1
 refine callS_of (score_s m v l g3 g4 (by omega) g2) ?_
 simp only [rnd_s,Int.reduceAdd,Int.reduceSub,decide_true,decide_false,i64_1,i64_2,i64_3,i64_4,true_and,Int.one_mul,Int.cast_ofNat_Int,Int.reduceToNat,Nat.zero_mul,Nat.reduceMul,Nat.zero_add,Nat.mul_one,List.getElem?_cons_zero,List.getElem?_cons_succ,vZ,Int.reduceEq,Int.reduceNe,Int.reduceLT,Int.reduceLE,Nat.reduceEqDiff,Nat.reduceAdd,reduceIte,reduceCtorEq,Nat.reduceLT,Nat.reduceLeDiff,Nat.reduceShiftRight,Nat.reduceMod]
 simp [q]
end Go.Proofs.Ytoiajhogondgcaa

/- Contracts of answers for boxes: squares. By an AI agent;nothing here is trusted. -/
namespace Go.Proofs.Ytoiajhogondgcaa
open Go.Av

def EN.in (r:EN) (n:Int):Prop:=(-n≤r.lo∧r.lo≤n)∧(-n≤r.hi∧r.hi≤n)
theorem add_in {r s:EN} {a b:Int} (hr:r.in a) (hs:s.in b):(r.add s).in (a+b):=by
 unfold EN.in EN.add at *
 simp only
 omega
theorem mul_in {r s:EN} {a b:Int} (hr:r.in a) (hs:s.in b):((-(a * b)≤r.lo * s.lo∧r.lo * s.lo≤a * b)∧(-(a * b)≤r.lo * s.hi∧r.lo * s.hi≤a * b)∧(-(a * b)≤r.hi * s.lo∧r.hi * s.lo≤a * b)∧(-(a * b)≤r.hi * s.hi∧r.hi * s.hi≤a * b))∧(r.mul s).in (a * b):=by
 have h1:=mul_le hr.1.1 hr.1.2 hs.1.1 hs.1.2
 have h2:=mul_le hr.1.1 hr.1.2 hs.2.1 hs.2.2
 have h3:=mul_le hr.2.1 hr.2.2 hs.1.1 hs.1.2
 have h4:=mul_le hr.2.1 hr.2.2 hs.2.1 hs.2.2
 refine ⟨⟨h1,h2,h3,h4⟩,?_⟩
 unfold EN.in EN.mul
 simp only
 generalize r.lo * s.lo=p at *
 generalize r.lo * s.hi=q at *
 generalize r.hi * s.lo=u at *
 generalize r.hi * s.hi=v at *
 generalize a * b=n at *
 omega
theorem sq_in {r:EN} {a:Int} (hr:r.in a):((-(a * a)≤r.lo * r.lo∧r.lo * r.lo≤a * a)∧(-(a * a)≤r.hi * r.hi∧r.hi * r.hi≤a * a))∧r.sq.in (a * a):=by
 have h1:=mul_le hr.1.1 hr.1.2 hr.1.1 hr.1.2
 have h2:=mul_le hr.2.1 hr.2.2 hr.2.1 hr.2.2
 refine ⟨⟨h1,h2⟩,?_⟩
 unfold EN.in EN.sq
 split
 ·simp only
  generalize r.lo * r.lo=p at *
  generalize r.hi * r.hi=q at *
  generalize a * a=n at *
  omega
 ·simp only
  generalize r.lo * r.lo=p at *
  generalize r.hi * r.hi=q at *
  generalize a * a=n at *
  omega
theorem plus_in {r s:EN} {a b:Int} (hr:r.in a) (hs:s.in b) (h:a+b≤3000000000000000000):Sound Try.prog 67 [r.av,s.av] (r.add s).av:=by
 unfold EN.in at *
 apply plus_s <;> (unfold I64;omega)
theorem times_in {r s:EN} {a b:Int} (hr:r.in a) (hs:s.in b) (h:a * b≤3000000000000000000):Sound Try.prog 79 [r.av,s.av] (r.mul s).av:=by
 obtain ⟨⟨h1,h2,h3,h4⟩,_⟩:=mul_in hr hs
 generalize a * b=n at *
 apply times_s <;> (unfold I64;omega)
theorem square_in {r:EN} {a:Int} (hr:r.in a) (h:a * a≤3000000000000000000):Sound Try.prog 68 [r.av] r.sq.av:=by
 obtain ⟨⟨h1,h2⟩,_⟩:=sq_in hr
 generalize a * a=n at *
 apply square_s <;> (unfold I64;omega)

def EN.z:EN:=⟨0,0⟩
theorem z_in:EN.z.in 0:=by unfold EN.in EN.z;decide
def TB.ex (b:TB):EN:=⟨b.lo.x,b.hi.x⟩
def TB.ey (b:TB):EN:=⟨b.lo.y,b.hi.y⟩
def TB.ez (b:TB):EN:=⟨b.lo.z,b.hi.z⟩
def TB.sqs (b:TB):EN:=((EN.z.add b.ex.sq).add b.ey.sq).add b.ez.sq
def TM.common (m:TM) (b:TB):Prop:=m.lo≤b.sqs.hi∧b.sqs.lo≤m.hi
instance (m:TM) (b:TB):Decidable (m.common b):=by unfold TM.common;infer_instance
structure TB.Ok (b:TB):Prop where
 l:b.lo.in 20
 h:b.hi.in 20
 o:b.ord
theorem TB.e_in {b:TB} (hb:b.Ok):b.ex.in 20∧b.ey.in 20∧b.ez.in 20:=by
 obtain ⟨⟨a1,a2,a3⟩,⟨b1,b2,b3⟩,_⟩:=hb
 exact ⟨⟨a1,b1⟩,⟨a2,b2⟩,a3,b3⟩
theorem sqs_in {b:TB} (hb:b.Ok):b.sqs.in 1200:=by
 obtain ⟨h1,h2,h3⟩:=TB.e_in hb
 exact add_in (add_in (add_in z_in (sq_in h1).2) (sq_in h2).2) (sq_in h3).2
set_option maxHeartbeats 2000000 in
set_option maxRecDepth 10000 in
theorem squares_s (m:TM) (b:TB) (hb:b.Ok):Sound Try.prog 54 [m.av,b.av] (.tup [b.sqs.av,.bool (decide (m.common b))]):=by
 refine sound_W f_track_model_squares (Nat.le_of_ble_eq_true rfl) ?_
 obtain ⟨h1,h2,h3⟩:=TB.e_in hb
 simp only [c_track_model_squares,TM.av,TB.av,rnd_s,Int.reduceAdd,Int.reduceSub,decide_true,decide_false,i64_1,i64_2,i64_3,i64_4,true_and,Int.one_mul,Int.cast_ofNat_Int,Int.reduceToNat,Nat.zero_mul,Nat.reduceMul,Nat.zero_add,Nat.mul_one,List.getElem?_cons_zero,List.getElem?_cons_succ,vZ,Int.reduceEq,Int.reduceNe,Int.reduceLT,Int.reduceLE,Nat.reduceEqDiff,Nat.reduceAdd,reduceIte,reduceCtorEq,Nat.reduceLT,Nat.reduceLeDiff,Nat.reduceShiftRight,Nat.reduceMod]
 refine W_rnd 4 ?_
 simp only [rnd_s,Int.reduceAdd,Int.reduceSub,decide_true,decide_false,i64_1,i64_2,i64_3,i64_4,true_and,Int.one_mul,Int.cast_ofNat_Int,Int.reduceToNat,Nat.zero_mul,Nat.reduceMul,Nat.zero_add,Nat.mul_one,List.getElem?_cons_zero,List.getElem?_cons_succ,vZ,Int.reduceEq,Int.reduceNe,Int.reduceLT,Int.reduceLE,Nat.reduceEqDiff,Nat.reduceAdd,reduceIte,reduceCtorEq,Nat.reduceLT,Nat.reduceLeDiff,Nat.reduceShiftRight,Nat.reduceMod]
 refine callS_of (square_in (r:=b.ex) h1 (by decide)) ?_
 simp only [EN.av,rnd_s,Int.reduceAdd,Int.reduceSub,decide_true,decide_false,i64_1,i64_2,i64_3,i64_4,true_and,Int.one_mul,Int.cast_ofNat_Int,Int.reduceToNat,Nat.zero_mul,Nat.reduceMul,Nat.zero_add,Nat.mul_one,List.getElem?_cons_zero,List.getElem?_cons_succ,vZ,Int.reduceEq,Int.reduceNe,Int.reduceLT,Int.reduceLE,Nat.reduceEqDiff,Nat.reduceAdd,reduceIte,reduceCtorEq,Nat.reduceLT,Nat.reduceLeDiff,Nat.reduceShiftRight,Nat.reduceMod]
 refine callS_of (plus_in (r:=EN.z) (s:=b.ex.sq) z_in (sq_in h1).2 (by decide)) ?_
 simp only [EN.av,rnd_s,Int.reduceAdd,Int.reduceSub,decide_true,decide_false,i64_1,i64_2,i64_3,i64_4,true_and,Int.one_mul,Int.cast_ofNat_Int,Int.reduceToNat,Nat.zero_mul,Nat.reduceMul,Nat.zero_add,Nat.mul_one,List.getElem?_cons_zero,List.getElem?_cons_succ,vZ,Int.reduceEq,Int.reduceNe,Int.reduceLT,Int.reduceLE,Nat.reduceEqDiff,Nat.reduceAdd,reduceIte,reduceCtorEq,Nat.reduceLT,Nat.reduceLeDiff,Nat.reduceShiftRight,Nat.reduceMod]
 refine callS_of (square_in (r:=b.ey) h2 (by decide)) ?_
 simp only [EN.av,rnd_s,Int.reduceAdd,Int.reduceSub,decide_true,decide_false,i64_1,i64_2,i64_3,i64_4,true_and,Int.one_mul,Int.cast_ofNat_Int,Int.reduceToNat,Nat.zero_mul,Nat.reduceMul,Nat.zero_add,Nat.mul_one,List.getElem?_cons_zero,List.getElem?_cons_succ,vZ,Int.reduceEq,Int.reduceNe,Int.reduceLT,Int.reduceLE,Nat.reduceEqDiff,Nat.reduceAdd,reduceIte,reduceCtorEq,Nat.reduceLT,Nat.reduceLeDiff,Nat.reduceShiftRight,Nat.reduceMod]
 refine callS_of (plus_in (r:=EN.z.add b.ex.sq) (s:=b.ey.sq) (add_in z_in (sq_in h1).2) (sq_in h2).2 (by decide)) ?_
 simp only [EN.av,rnd_s,Int.reduceAdd,Int.reduceSub,decide_true,decide_false,i64_1,i64_2,i64_3,i64_4,true_and,Int.one_mul,Int.cast_ofNat_Int,Int.reduceToNat,Nat.zero_mul,Nat.reduceMul,Nat.zero_add,Nat.mul_one,List.getElem?_cons_zero,List.getElem?_cons_succ,vZ,Int.reduceEq,Int.reduceNe,Int.reduceLT,Int.reduceLE,Nat.reduceEqDiff,Nat.reduceAdd,reduceIte,reduceCtorEq,Nat.reduceLT,Nat.reduceLeDiff,Nat.reduceShiftRight,Nat.reduceMod]
 refine callS_of (square_in (r:=b.ez) h3 (by decide)) ?_
 simp only [EN.av,rnd_s,Int.reduceAdd,Int.reduceSub,decide_true,decide_false,i64_1,i64_2,i64_3,i64_4,true_and,Int.one_mul,Int.cast_ofNat_Int,Int.reduceToNat,Nat.zero_mul,Nat.reduceMul,Nat.zero_add,Nat.mul_one,List.getElem?_cons_zero,List.getElem?_cons_succ,vZ,Int.reduceEq,Int.reduceNe,Int.reduceLT,Int.reduceLE,Nat.reduceEqDiff,Nat.reduceAdd,reduceIte,reduceCtorEq,Nat.reduceLT,Nat.reduceLeDiff,Nat.reduceShiftRight,Nat.reduceMod]
 refine callS_of (plus_in (r:=(EN.z.add b.ex.sq).add b.ey.sq) (s:=b.ez.sq) (add_in (add_in z_in (sq_in h1).2) (sq_in h2).2) (sq_in h3).2 (by decide)) ?_
 simp only [EN.av,rnd_s,Int.reduceAdd,Int.reduceSub,decide_true,decide_false,i64_1,i64_2,i64_3,i64_4,true_and,Int.one_mul,Int.cast_ofNat_Int,Int.reduceToNat,Nat.zero_mul,Nat.reduceMul,Nat.zero_add,Nat.mul_one,List.getElem?_cons_zero,List.getElem?_cons_succ,vZ,Int.reduceEq,Int.reduceNe,Int.reduceLT,Int.reduceLE,Nat.reduceEqDiff,Nat.reduceAdd,reduceIte,reduceCtorEq,Nat.reduceLT,Nat.reduceLeDiff,Nat.reduceShiftRight,Nat.reduceMod]
 have e:((EN.z.add b.ex.sq).add b.ey.sq).add b.ez.sq=b.sqs:=rfl
 rw [e]
 by_cases q:m.lo≤b.sqs.hi
 case neg =>
  simp only [q,decide_false,EN.av,rnd_s,Int.reduceAdd,Int.reduceSub,decide_true,decide_false,i64_1,i64_2,i64_3,i64_4,true_and,Int.one_mul,Int.cast_ofNat_Int,Int.reduceToNat,Nat.zero_mul,Nat.reduceMul,Nat.zero_add,Nat.mul_one,List.getElem?_cons_zero,List.getElem?_cons_succ,vZ,Int.reduceEq,Int.reduceNe,Int.reduceLT,Int.reduceLE,Nat.reduceEqDiff,Nat.reduceAdd,reduceIte,reduceCtorEq,Nat.reduceLT,Nat.reduceLeDiff,Nat.reduceShiftRight,Nat.reduceMod]
  simp [TM.common,q]
 simp only [q,decide_true,EN.av,rnd_s,Int.reduceAdd,Int.reduceSub,decide_true,decide_false,i64_1,i64_2,i64_3,i64_4,true_and,Int.one_mul,Int.cast_ofNat_Int,Int.reduceToNat,Nat.zero_mul,Nat.reduceMul,Nat.zero_add,Nat.mul_one,List.getElem?_cons_zero,List.getElem?_cons_succ,vZ,Int.reduceEq,Int.reduceNe,Int.reduceLT,Int.reduceLE,Nat.reduceEqDiff,Nat.reduceAdd,reduceIte,reduceCtorEq,Nat.reduceLT,Nat.reduceLeDiff,Nat.reduceShiftRight,Nat.reduceMod]
 simp [TM.common,q]
end Go.Proofs.Ytoiajhogondgcaa

