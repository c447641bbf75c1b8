/- The table of the program, as the row says that it lies: what the layer wants of it. By an AI agent; nothing here is trusted. -/
import Derived.Test.YtoiajhogondgcaaDoorRows
import Derived.Test.YtoiajhogondgcaaDoorLayD
import Derived.Test.YtoiajhogondgcaaDoorKode
import Derived.Test.YtoiajhogondgcaaDoorProg
import Derived.ProofKit
import Derived.LaidMore
import Derived.OpenShut
import Derived.ChangeSame
import Derived.Stop.Joined
import Derived.LaidLaws
import Derived.Lay
import Derived.Shelf.SlSortCmp.WholeK
set_option linter.defProp false
set_option linter.unusedSimpArgs false
set_option linter.unusedVariables false
namespace Go.Proofs.YtoiajhogondgcaaDoor
open Go.ChangeShapes Go.WideShapes Go.ChangeAt Go.RowKit
open Go.Av

def laidP:List (String × DataW Unit):=[("cherenkov/ice.sides",Rows.laid_cherenkov_ice_sides)]

theorem ownKn:ownKnob Tryd.prog.godebug=none:=by kernel_rfl
set_option maxRecDepth 100000 in
theorem door_met (os:Os) (args:Array Value):laidMetH Tryd.prog laidP ((World.laidAll Tryd.prog os laidP).forCall (fun _ _=>0) ⟨#[],args,[]⟩).memory:=by
 rw [MakeChecks.laidMetH_plain _ _ _ (by kernel_rfl)]
 exact laidMet_laidAll _ (by kernel_rfl) (by kernel_rfl)

theorem tab_cells2 {W:World} {t e u:TypeId} {n f:Nat} {k:IntKind} {f0 f1:Field} {cs:Array Value} {nss:List (Int × Int)} {p:List MemPlace} {H:Type} {enc:TypeId × Value→H} {sp:Nat→Bool} {held:Bool}
  (ht:Tryd.prog.underlying t=some (.array n e)) (he:Tryd.prog.underlying e=some (.struct #[f0,f1])) (h0:f0.type=u∧f0.offset=0) (h1:f1.type=u∧f1.offset=1) (hu:Tryd.prog.underlying u=some (.int k)) (hce:Tryd.prog.cellsOf e=2) (hcu:Tryd.prog.cellsOf u=1) (hct:Tryd.prog.cellsOf t=n * 2) (hn:nss.length=n)
  (hd:DataW.trod enc Tryd.prog W 0 sp held f t cs.toList=some (.agg (nss.map fun q=>.agg [.lit (.int k q.1),.lit (.int k q.2)]),p)) :
  cs.size=n * 2∧∀ (i:Nat) (q:Int × Int),nss[i]?=some q→cs[i * 2]?=some (.int k q.1)∧cs[i * 2+1]?=some (.int k q.2):=by
 obtain ⟨xs,m1,rfl,hx1,hcl,hlen,hel⟩:=DataW.trod_array ht hd
 simp only [Prod.mk.injEq,DataW.agg.injEq] at hx1
 refine ⟨by rw [← Array.length_toList,hcl,hct],fun i q hi=>?_⟩
 have hin:i<n:=by rw [← hn];exact (List.getElem?_eq_some_iff.1 hi).1
 have g:=hel i hin
 rw [hce] at g
 obtain ⟨x,hx⟩:∃ x,xs[i]?=some x:=⟨xs[i]'(by omega),List.getElem?_eq_getElem (by omega)⟩
 rw [hx] at g
 have h2:(xs.map (·.1))[i]?=some x.1:=by rw [List.getElem?_map,hx];rfl
 rw [← hx1.1,List.getElem?_map,hi] at h2
 simp only [Option.map_some,Option.some.injEq] at h2
 obtain ⟨y0,y1,m2,hy,_,g0,g1⟩:=trod_struct2 he g
 rw [hy] at h2
 simp only [DataW.agg.injEq,List.cons.injEq,and_true] at h2
 obtain ⟨h20,h21⟩:=h2
 rw [h0.1,h0.2,hcu] at g0
 rw [h1.1,h1.2,hcu] at g1
 obtain ⟨r0,a1,a2,_⟩:=DataW.trod_int hu g0
 obtain ⟨r1,b1,b2,_⟩:=DataW.trod_int hu g1
 rw [a2] at h20
 rw [b2] at h21
 simp only [DataW.lit.injEq,Lit.int.injEq,true_and] at h20 h21
 subst h20;subst h21
 have c0:((((cs.toList.drop (i * 2)).take 2).drop 0).take 1)[0]?=some (.int k q.1):=by rw [a1];rfl
 have c1:((((cs.toList.drop (i * 2)).take 2).drop 1).take 1)[0]?=some (.int k q.2):=by rw [b1];rfl
 rw [List.getElem?_take,if_pos (by omega),List.getElem?_drop,List.getElem?_take,if_pos (by omega),List.getElem?_drop] at c0 c1
 exact ⟨by simpa using c0,by simpa using c1⟩
theorem block_cells {W:World} {g:Nat} {name:String} {cs:Array Value} (hg:Tryd.prog.globalNamed name=some g)
  (hv:W.var? Tryd.prog name=some cs) (hpos:0<cs.size) :
  g<W.heap.size∧∃ cur ty fr,W.heap[g]?=some (.cells cur ty fr)∧cur.size=cs.size∧∀ j:Nat,cur[j]?=cs[j]?:=by
 have hcell:=World.var?_cell hg hv
 have hb:∃ cur ty fr,W.heap[g]?=some (.cells cur ty fr):=by
  have:=hcell 0
  rw [Array.getElem?_eq_getElem hpos] at this
  unfold World.cell? at this
  split at this
  ·rename_i cur ty fr hb;exact ⟨cur,ty,fr,hb⟩
  ·cases this
 obtain ⟨cur,ty,fr,hb⟩:=hb
 have hce:∀ i,cur[i]?=cs[i]?:=fun i=>by
  have:=hcell i
  unfold World.cell? at this
  rw [hb] at this
  simpa using this
 refine ⟨(Array.getElem?_eq_some_iff.1 hb).1,cur,ty,fr,hb,?_,hce⟩
 have e1:=hce cur.size
 have e2:=hce cs.size
 rw [Array.getElem?_eq_none (xs:=cur) (Nat.le_refl _)] at e1
 rw [Array.getElem?_eq_none (xs:=cs) (Nat.le_refl _)] at e2
 have a1:=Array.getElem?_eq_none_iff.1 e1.symm
 have a2:=Array.getElem?_eq_none_iff.1 e2
 omega

theorem gSi:Tryd.prog.globalNamed "cherenkov/ice.sides"=some 0:=by kernel_rfl

theorem of_laid {W:World} (h:laidMetH Tryd.prog laidP W):GOk (fun b=>b<W.heap.size) W:=by
 rw [MakeChecks.laidMetH_plain _ _ _ (by kernel_rfl)] at h
 obtain ⟨ps,⟨n0,t0,cs0,f0,p0,q0,hn0,ht0,hv0,hd0,_⟩,_⟩:=h
 obtain rfl:=Option.some.inj (gSi.symm.trans hn0)
 obtain rfl:=Option.some.inj ((show (Tryd.prog.globals[0]?).map (·.type)=some 124 by kernel_rfl).symm.trans ht0)
 obtain ⟨hsz,hc⟩:=tab_cells2 (nss:=[(-1,0),(0, -1),(0,1),(1,0)]) Tryd.underlying124 Tryd.underlying61 ⟨rfl,rfl⟩ ⟨rfl,rfl⟩ Tryd.underlying3 (by kernel_rfl) (by kernel_rfl) (by kernel_rfl) rfl hd0
 obtain ⟨b1,cur,ty,fr,b2,b3,b4⟩:=block_cells hn0 hv0 (by omega)
 refine ⟨fun p hp=>?_,fun g hg=>by simp [gErr] at hg⟩
 simp only [gTab,List.nil_append,List.mem_singleton] at hp
 subst hp
 refine ⟨b1,cur,ty,fr,b2,by rw [b3,hsz];rfl,fun j m hj=>?_⟩
 rw [b4]
 match j,hj with
 | 0,hj=>cases hj;exact (hc 0 _ rfl).1
 | 1,hj=>cases hj;exact (hc 0 _ rfl).2
 | 2,hj=>cases hj;exact (hc 1 _ rfl).1
 | 3,hj=>cases hj;exact (hc 1 _ rfl).2
 | 4,hj=>cases hj;exact (hc 2 _ rfl).1
 | 5,hj=>cases hj;exact (hc 2 _ rfl).2
 | 6,hj=>cases hj;exact (hc 3 _ rfl).1
 | 7,hj=>cases hj;exact (hc 3 _ rfl).2
 | j+8,hj=>simp at hj
end Go.Proofs.YtoiajhogondgcaaDoor

/- Parts that all chapters share. Contracts of small functions. By an AI agent;nothing here is trusted. -/
namespace Go.Proofs.YtoiajhogondgcaaDoor
open Go.Av

abbrev i64 (n:Int):AV:=.int .i64 n
def firstErr (l:List Int):Int:=(l.find? (· ≠ 0)).getD 0

def idxOf {α:Type} (l:List α) (p:α→Bool):Int:=match l.findIdx? p with
 | some i=>i
 | none => -1

theorem map_fx1 {caps:List AV} (h:∀ c ∈ caps,fx1 c=true) (s:Store) (n:Nat):caps.map (bor s n)=caps:=by
 conv=>rhs;rw [← List.map_id caps]
 exact List.map_congr_left fun c hc=>(fx1_spec (h c hc)).2 s n

theorem idxOf_any {α:Type} (l:List α) (p:α→Bool):(decide (0≤idxOf l p))=l.any p:=by
 unfold idxOf
 cases h:l.findIdx? p with
 | none =>
  rw [List.findIdx?_eq_none_iff] at h
  have:l.any p=false:=by simpa using h
  rw [this];rfl
 | some i =>
  rw [List.findIdx?_eq_some_iff_getElem] at h
  obtain ⟨hi,hp,_⟩:=h
  have:l.any p=true:=List.any_eq_true.2 ⟨_,List.getElem_mem hi,hp⟩
  rw [this];simp

end Go.Proofs.YtoiajhogondgcaaDoor

/- Contracts of small functions of the ice. By an AI agent;nothing here is trusted. -/
namespace Go.Proofs.YtoiajhogondgcaaDoor
open Go.Av

theorem within_s (n lo hi:Int):Sound Tryd.prog 22 [.int .i64 n,.int .i64 lo,.int .i64 hi] (.bool (decide (lo≤n∧n≤hi))):=by
 refine sound_W f_ice_within (Nat.le_of_ble_eq_true rfl) ?_
 simp only [c_ice_within,vcC,Int.reduceEq,Int.reduceNe,Int.reduceLT,Int.reduceLE,Nat.reduceEqDiff,Nat.reduceAdd,reduceIte,reduceCtorEq,Nat.reduceLT,Nat.reduceLeDiff,eq_self,vcP]
 refine brB_split (fun h=>?_) (fun h=>?_) <;> simp only [h,vcC,Int.reduceEq,Int.reduceNe,Int.reduceLT,Int.reduceLE,Nat.reduceEqDiff,Nat.reduceAdd,reduceIte,reduceCtorEq,Nat.reduceLT,Nat.reduceLeDiff,eq_self,vcP]
 ·exact bool_eq (by simp at h;simp [h])
 ·simp at h;simp;omega

theorem unless_s (ok:Bool) (e:Int):Sound Tryd.prog 21 [.bool ok,.int .i64 e] (.int .i64 (if ok then 0 else e)):=by
 refine sound_W f_ice_unless (Nat.le_of_ble_eq_true rfl) ?_
 simp only [c_ice_unless,vcC,Int.reduceEq,Int.reduceNe,Int.reduceLT,Int.reduceLE,Nat.reduceEqDiff,Nat.reduceAdd,reduceIte,reduceCtorEq,Nat.reduceLT,Nat.reduceLeDiff,eq_self,vcP]
 refine brB_split (fun h=>?_) (fun h=>?_) <;> subst h <;> simp only [vcC,Int.reduceEq,Int.reduceNe,Int.reduceLT,Int.reduceLE,Nat.reduceEqDiff,Nat.reduceAdd,reduceIte,reduceCtorEq,Nat.reduceLT,Nat.reduceLeDiff,eq_self,vcP]

theorem first_s (l:List Int) (hl:l.length<4000000000000000000):Sound Tryd.prog 19 [.sl (ints l)] (.int .i64 (firstErr l)):=by
 refine sound_W f_ice_first (Nat.le_of_ble_eq_true rfl) ?_
 simp only [c_ice_first,vcC,Int.reduceEq,Int.reduceNe,Int.reduceLT,Int.reduceLE,Nat.reduceEqDiff,Nat.reduceAdd,reduceIte,reduceCtorEq,Nat.reduceLT,Nat.reduceLeDiff,eq_self,vcP]
 refine W_loop (α:=PSigma fun i:Nat=>i≤l.length∧∀ x ∈ l.take i,x=0) (fun i=>(envOf [(5,.sl (ints l)),(6,.int .i64 l.length),(7,.int .i64 i.1)],noStore)) (fun i=>l.length - i.1) ⟨0,by simp⟩ (weakE _ ?_) (fun ⟨i,hi,hn⟩=>?_)
 ·simp only [vcC,Int.reduceEq,Int.reduceNe,Int.reduceLT,Int.reduceLE,Nat.reduceEqDiff,Nat.reduceAdd,reduceIte,reduceCtorEq,Nat.reduceLT,Nat.reduceLeDiff,eq_self,vcP];rfl
 ·simp only [vcC,Int.reduceEq,Int.reduceNe,Int.reduceLT,Int.reduceLE,Nat.reduceEqDiff,Nat.reduceAdd,reduceIte,reduceCtorEq,Nat.reduceLT,Nat.reduceLeDiff,eq_self,vcP]
  refine brB_split (fun h=>?_) (fun h=>?_)
  ·have h':i<l.length:=by (simp only [decide_eq_true_eq,decide_eq_false_iff_not,Bool.not_true,I64,Bool.not_eq_true',Bool.not_eq_false',bne_iff_ne,beq_iff_eq,ne_eq] at *;omega)
   simp only [ints_get l i h',vcC,Int.reduceEq,Int.reduceNe,Int.reduceLT,Int.reduceLE,Nat.reduceEqDiff,Nat.reduceAdd,reduceIte,reduceCtorEq,Nat.reduceLT,Nat.reduceLeDiff,eq_self,vcP]
   refine ⟨by omega,?_⟩
   refine brB_split (fun h=>?_) (fun h=>?_)
   ·simp only [vcC,Int.reduceEq,Int.reduceNe,Int.reduceLT,Int.reduceLE,Nat.reduceEqDiff,Nat.reduceAdd,reduceIte,reduceCtorEq,Nat.reduceLT,Nat.reduceLeDiff,eq_self,vcP]
    have h0:l[i] ≠ 0:=by simpa using h
    have hs:l.find? (· ≠ 0)=some l[i]:=by
     rw [List.find?_eq_some_iff_getElem]
     exact ⟨by simpa using h0,i,h',rfl,fun j hj=>by simp [hn l[j] (by rw [List.mem_take_iff_getElem];exact ⟨j,by omega,rfl⟩)]⟩
    unfold firstErr
    rw [hs];rfl
   ·simp only [vcC,Int.reduceEq,Int.reduceNe,Int.reduceLT,Int.reduceLE,Nat.reduceEqDiff,Nat.reduceAdd,reduceIte,reduceCtorEq,Nat.reduceLT,Nat.reduceLeDiff,eq_self,vcP]
    refine ⟨by (simp only [decide_eq_true_eq,decide_eq_false_iff_not,Bool.not_true,I64,Bool.not_eq_true',Bool.not_eq_false',bne_iff_ne,beq_iff_eq,ne_eq] at *;omega),⟨i+1,by omega,?_⟩,by simp only;omega,weakE _ ?_⟩
    ·rw [List.take_succ_eq_append_getElem h']
     intro x hx
     rcases List.mem_append.1 hx with hx | hx
     ·exact hn x hx
     ·simp at hx h;rw [hx,h]
    ·simp only [vcC,Int.reduceEq,Int.reduceNe,Int.reduceLT,Int.reduceLE,Nat.reduceEqDiff,Nat.reduceAdd,reduceIte,reduceCtorEq,Nat.reduceLT,Nat.reduceLeDiff,eq_self,vcP];simp
  ·simp only [vcC,Int.reduceEq,Int.reduceNe,Int.reduceLT,Int.reduceLE,Nat.reduceEqDiff,Nat.reduceAdd,reduceIte,reduceCtorEq,Nat.reduceLT,Nat.reduceLeDiff,eq_self,vcP]
   have:i=l.length:=by (simp only [decide_eq_true_eq,decide_eq_false_iff_not,Bool.not_true,I64,Bool.not_eq_true',Bool.not_eq_false',bne_iff_ne,beq_iff_eq,ne_eq] at *;omega)
   subst this
   unfold firstErr
   rw [List.take_length] at hn
   rw [List.find?_eq_none.2 (fun x hx=>by simp [hn x hx])]
   rfl

theorem first2_s (a b:Int):Sound Tryd.prog 19 [.sl [.int .i64 a,.int .i64 b]] (.int .i64 (if a ≠ 0 then a else b)):=by
 have h:=first_s [a,b] (by simp)
 have e:firstErr [a,b]=if a ≠ 0 then a else b:=by
  unfold firstErr
  by_cases ha:a=0 <;> by_cases hb:b=0 <;> simp [ha,hb]
 rw [e] at h
 exact h
theorem first3_s (a b c:Int):Sound Tryd.prog 19 [.sl [.int .i64 a,.int .i64 b,.int .i64 c]] (.int .i64 (if a ≠ 0 then a else if b ≠ 0 then b else c)):=by
 have h:=first_s [a,b,c] (by simp)
 have e:firstErr [a,b,c]=if a ≠ 0 then a else if b ≠ 0 then b else c:=by
  unfold firstErr
  by_cases ha:a=0 <;> by_cases hb:b=0 <;> by_cases hc:c=0 <;> simp [ha,hb,hc]
 rw [e] at h
 exact h
end Go.Proofs.YtoiajhogondgcaaDoor

/- Contracts of the small functions of the base. By an AI agent;nothing here is trusted. -/
namespace Go.Proofs.YtoiajhogondgcaaDoor
open Go.Av

theorem Within_s (n lo hi:Int):Sound Tryd.prog 6 [.int .i64 n,.int .i64 lo,.int .i64 hi] (.bool (decide (lo≤n∧n≤hi))):=by
 refine sound_W f_base_Within (Nat.le_of_ble_eq_true rfl) ?_
 simp only [c_base_Within,vcC,Int.reduceEq,Int.reduceNe,Int.reduceLT,Int.reduceLE,Nat.reduceEqDiff,Nat.reduceAdd,reduceIte,reduceCtorEq,Nat.reduceLT,Nat.reduceLeDiff,eq_self,vcP]
 refine brB_split (fun h=>?_) (fun h=>?_) <;> simp only [h,vcC,Int.reduceEq,Int.reduceNe,Int.reduceLT,Int.reduceLE,Nat.reduceEqDiff,Nat.reduceAdd,reduceIte,reduceCtorEq,Nat.reduceLT,Nat.reduceLeDiff,eq_self,vcP]
 ·exact bool_eq (by simp at h;simp [h])
 ·simp at h;simp;omega

end Go.Proofs.YtoiajhogondgcaaDoor

/- Contracts of the base: copies,comparisons,fractions. By an AI agent;nothing here is trusted. -/
namespace Go.Proofs.YtoiajhogondgcaaDoor
open Go.Av

theorem newsOk_ints (l:List Int):newsOk 1 (ints l):=by
 intro x hx
 obtain ⟨n,_,rfl⟩:=List.mem_map.1 hx
 exact ⟨rfl,rfl⟩
theorem maxLen_big:4000000000000≤maxLen:=by decide

theorem CopyInts_s (l:List Int) (hl:l.length≤1000000000):Sound Tryd.prog 24 [.sl (ints l)] (.sl (ints l)):=by
 refine sound_W f_base_CopyInts (Nat.le_of_ble_eq_true rfl) ?_
 have hm:=maxLen_big
 simp only [c_base_CopyInts,vZ,Int.reduceEq,Int.reduceNe,Int.reduceLT,Int.reduceLE,Nat.reduceEqDiff,Nat.reduceAdd,reduceIte,reduceCtorEq,Nat.reduceLT,Nat.reduceLeDiff,Nat.reduceShiftRight,Nat.reduceMod]
 refine ⟨newsOk_ints l,⟨by omega,by omega⟩,?_⟩
 rw [borB_good _ _ _ _ _ (by simp [ints]) (ints_fx _)]

end Go.Proofs.YtoiajhogondgcaaDoor

/- Holes: which are valid,when they close;the latest start,the slowest pace. By an AI agent;nothing here is trusted. -/
namespace Go.Proofs.YtoiajhogondgcaaDoor
open Go.Av

theorem i64_1:I64 1=True:=eq_true (by decide)
theorem i64_2:I64 2=True:=eq_true (by decide)
theorem i64_3:I64 3=True:=eq_true (by decide)
theorem i64_4:I64 4=True:=eq_true (by decide)

theorem usedL_buf {s:Store} {k len ty sz:Nat} {es rest:List AV} (hs:s k=some (some ⟨ty,sz,es⟩)) (he:(es.take len).all imm=true) (hr:rest.all imm=true):usedL true s (refsL s 5 (.buf k len :: rest)):=by
 intro _ j hj
 have h1:refsL s 5 (.buf k len :: rest)=[k]:=by
  have h2:refsL s 5 (.buf k len :: rest)=refs s 5 (.buf k len) ++ refsL s 5 rest:=rfl
  rw [h2,refsL_imm s 5 rest hr,refs_buf,hs,List.append_nil]
  unfold refsK
  simp only [he,if_true]
 rw [h1,List.mem_singleton] at hj
 rw [hj,hs];simp

def fnd (n:Nat) (p:Nat→Bool):Option Nat:=(List.range n).find? p
theorem fnd_some {n i:Nat} {p:Nat→Bool} (hi:i<n) (hp:p i=true) (hn:∀ j,j<i→p j=false):fnd n p=some i:=by
 unfold fnd
 rw [List.find?_range_eq_some]
 exact ⟨hp,by simpa using hi,fun j hj=>by simp [hn j hj]⟩
theorem fnd_none {n:Nat} {p:Nat→Bool} (hn:∀ j,j<n→p j=false):fnd n p=none:=by
 unfold fnd
 rw [List.find?_eq_none]
 intro x hx
 rw [List.mem_range] at hx
 simp [hn x hx]

structure Hole where
 w:List Int
 s:List Int
 need:Int
def Hole.av (h:Hole):AV:=.agg [.sl (ints h.w),.sl (ints h.s),.int .i64 h.need]
def Hole.bad1 (h:Hole) (k:Nat):Bool:=!(decide (0≤h.w.getD k 0∧h.w.getD k 0≤1000000) && decide (1≤h.s.getD k 0∧h.s.getD k 0≤1000000))
def Hole.bad2 (h:Hole) (k:Nat):Bool:=decide (h.w.getD k 0<h.need)
def Hole.at (h:Hole):Option Nat:=fnd h.w.length fun k=>h.bad1 k || h.bad2 k
def Hole.err (h:Hole):Int × Int :=
 if h.w.length=0∨h.s.length ≠ h.w.length then (0,10)
 else if 20<h.w.length then (0,8)
 else if ¬ (1≤h.need∧h.need≤1000000) then (0,2)
 else match h.at with
  | some k=>(k,if h.bad1 k then 2 else 22)
  | none=>(0,0)

structure Hole.Ok (h:Hole):Prop where
 n0:h.w.length ≠ 0
 eq:h.s.length=h.w.length
 le:h.w.length≤20
 need:1≤h.need∧h.need≤1000000
 w:∀ k,k<h.w.length→h.need≤h.w.getD k 0∧h.w.getD k 0≤1000000
 s:∀ k,k<h.w.length→1≤h.s.getD k 0∧h.s.getD k 0≤1000000
theorem Hole.ok_of {h:Hole} (he:h.err.2=0):h.Ok:=by
 unfold Hole.err at he
 split at he
 ·cases he
 ·rename_i h1
  split at he
  ·cases he
  ·rename_i h2
   split at he
   ·cases he
   ·rename_i h3
    split at he
    ·rename_i k hk
     simp only at he
     split at he <;> cases he
    ·rename_i hk
     unfold Hole.at fnd at hk
     rw [List.find?_eq_none] at hk
     have key:∀ k,k<h.w.length→h.bad1 k=false∧h.bad2 k=false:=fun k hk'=>by
      have:=hk k (List.mem_range.2 hk')
      simpa using this
     have h3':1≤h.need∧h.need≤1000000:=by omega
     refine ⟨by omega,by omega,by omega,h3',fun k hk'=>?_,fun k hk'=>?_⟩
     ·obtain ⟨g1,g2⟩:=key k hk'
      unfold Hole.bad1 at g1
      unfold Hole.bad2 at g2
      simp [-List.getD_eq_getElem?_getD] at g1 g2
      omega
     ·obtain ⟨g1,g2⟩:=key k hk'
      unfold Hole.bad1 at g1
      simp [-List.getD_eq_getElem?_getD] at g1
      omega
theorem Hole.Ok.good {h:Hole} (ho:h.Ok) (k:Nat) (hk:k<h.w.length):h.bad1 k=false∧h.bad2 k=false:=by
 have h1:=ho.w k hk
 have h2:=ho.s k hk
 have h3:=ho.need
 unfold Hole.bad1 Hole.bad2
 constructor
 ·simp [-List.getD_eq_getElem?_getD];omega
 ·simp [-List.getD_eq_getElem?_getD];omega

theorem ints_getD (l:List Int) (i:Nat) (h:i<l.length):(ints l)[i]?=some (.int .i64 (l.getD i 0)):=by
 rw [ints_get l i h];simp [List.getD,h]

theorem refCheckHole_s (h:Hole):Sound Tryd.prog 18 [h.av] (.tup [.int .i64 h.err.1,.int .i64 h.err.2]):=by
 refine sound_W f_ref03_CheckHole (Nat.le_of_ble_eq_true rfl) ?_
 simp only [c_ref03_CheckHole,Hole.av,rnd_s,Int.reduceAdd,Int.reduceSub,decide_true,decide_false,i64_1,i64_2,i64_3,i64_4,true_and,Int.one_mul,Int.cast_ofNat_Int,Int.reduceToNat,Nat.zero_mul,Nat.reduceMul,Nat.zero_add,Nat.mul_one,List.getElem?_cons_zero,List.getElem?_cons_succ,vZ,Int.reduceEq,Int.reduceNe,Int.reduceLT,Int.reduceLE,Nat.reduceEqDiff,Nat.reduceAdd,reduceIte,reduceCtorEq,Nat.reduceLT,Nat.reduceLeDiff,Nat.reduceShiftRight,Nat.reduceMod]
 by_cases q1:h.w.length=0∨h.s.length ≠ h.w.length
 case pos =>
  have he:h.err=(0,10):=by unfold Hole.err;rw [if_pos q1]
  rw [he]
  by_cases q2:h.w.length=0
  ·have:decide ((h.w.length:Int)=0)=true:=decide_eq_true (by omega)
   simp only [this,rnd_s,Int.reduceAdd,Int.reduceSub,decide_true,decide_false,i64_1,i64_2,i64_3,i64_4,true_and,Int.one_mul,Int.cast_ofNat_Int,Int.reduceToNat,Nat.zero_mul,Nat.reduceMul,Nat.zero_add,Nat.mul_one,List.getElem?_cons_zero,List.getElem?_cons_succ,vZ,Int.reduceEq,Int.reduceNe,Int.reduceLT,Int.reduceLE,Nat.reduceEqDiff,Nat.reduceAdd,reduceIte,reduceCtorEq,Nat.reduceLT,Nat.reduceLeDiff,Nat.reduceShiftRight,Nat.reduceMod]
  ·have:decide ((h.w.length:Int)=0)=false:=decide_eq_false (by omega)
   have h2:decide ((h.s.length:Int)=(h.w.length:Int))=false:=decide_eq_false (by omega)
   simp only [this,h2,rnd_s,Int.reduceAdd,Int.reduceSub,decide_true,decide_false,i64_1,i64_2,i64_3,i64_4,true_and,Int.one_mul,Int.cast_ofNat_Int,Int.reduceToNat,Nat.zero_mul,Nat.reduceMul,Nat.zero_add,Nat.mul_one,List.getElem?_cons_zero,List.getElem?_cons_succ,vZ,Int.reduceEq,Int.reduceNe,Int.reduceLT,Int.reduceLE,Nat.reduceEqDiff,Nat.reduceAdd,reduceIte,reduceCtorEq,Nat.reduceLT,Nat.reduceLeDiff,Nat.reduceShiftRight,Nat.reduceMod]
 have p1:decide ((h.w.length:Int)=0)=false:=decide_eq_false (by omega)
 have p2:decide ((h.s.length:Int)=(h.w.length:Int))=true:=decide_eq_true (by omega)
 simp only [p1,p2,rnd_s,Int.reduceAdd,Int.reduceSub,decide_true,decide_false,i64_1,i64_2,i64_3,i64_4,true_and,Int.one_mul,Int.cast_ofNat_Int,Int.reduceToNat,Nat.zero_mul,Nat.reduceMul,Nat.zero_add,Nat.mul_one,List.getElem?_cons_zero,List.getElem?_cons_succ,vZ,Int.reduceEq,Int.reduceNe,Int.reduceLT,Int.reduceLE,Nat.reduceEqDiff,Nat.reduceAdd,reduceIte,reduceCtorEq,Nat.reduceLT,Nat.reduceLeDiff,Nat.reduceShiftRight,Nat.reduceMod]
 by_cases q2:20<h.w.length
 case pos =>
  have he:h.err=(0,8):=by unfold Hole.err;rw [if_neg q1,if_pos q2]
  have p3:decide ((20:Int)<h.w.length)=true:=decide_eq_true (by omega)
  simp only [p3,he,rnd_s,Int.reduceAdd,Int.reduceSub,decide_true,decide_false,i64_1,i64_2,i64_3,i64_4,true_and,Int.one_mul,Int.cast_ofNat_Int,Int.reduceToNat,Nat.zero_mul,Nat.reduceMul,Nat.zero_add,Nat.mul_one,List.getElem?_cons_zero,List.getElem?_cons_succ,vZ,Int.reduceEq,Int.reduceNe,Int.reduceLT,Int.reduceLE,Nat.reduceEqDiff,Nat.reduceAdd,reduceIte,reduceCtorEq,Nat.reduceLT,Nat.reduceLeDiff,Nat.reduceShiftRight,Nat.reduceMod]
 have p3:decide ((20:Int)<h.w.length)=false:=decide_eq_false (by omega)
 simp only [p3,rnd_s,Int.reduceAdd,Int.reduceSub,decide_true,decide_false,i64_1,i64_2,i64_3,i64_4,true_and,Int.one_mul,Int.cast_ofNat_Int,Int.reduceToNat,Nat.zero_mul,Nat.reduceMul,Nat.zero_add,Nat.mul_one,List.getElem?_cons_zero,List.getElem?_cons_succ,vZ,Int.reduceEq,Int.reduceNe,Int.reduceLT,Int.reduceLE,Nat.reduceEqDiff,Nat.reduceAdd,reduceIte,reduceCtorEq,Nat.reduceLT,Nat.reduceLeDiff,Nat.reduceShiftRight,Nat.reduceMod]
 refine callS_of (Within_s _ _ _) ?_
 by_cases q3:1≤h.need∧h.need≤1000000
 case neg =>
  have he:h.err=(0,2):=by unfold Hole.err;rw [if_neg q1,if_neg q2,if_pos q3]
  simp only [q3,he,rnd_s,Int.reduceAdd,Int.reduceSub,decide_true,decide_false,i64_1,i64_2,i64_3,i64_4,true_and,Int.one_mul,Int.cast_ofNat_Int,Int.reduceToNat,Nat.zero_mul,Nat.reduceMul,Nat.zero_add,Nat.mul_one,List.getElem?_cons_zero,List.getElem?_cons_succ,vZ,Int.reduceEq,Int.reduceNe,Int.reduceLT,Int.reduceLE,Nat.reduceEqDiff,Nat.reduceAdd,reduceIte,reduceCtorEq,Nat.reduceLT,Nat.reduceLeDiff,Nat.reduceShiftRight,Nat.reduceMod]
 have he:h.err=match h.at with
  | some k=>(k,if h.bad1 k then 2 else 22)
  | none=>(0,0):=by unfold Hole.err;rw [if_neg q1,if_neg q2,if_neg (fun g=>g q3)]
 simp only [q3,rnd_s,Int.reduceAdd,Int.reduceSub,decide_true,decide_false,i64_1,i64_2,i64_3,i64_4,true_and,Int.one_mul,Int.cast_ofNat_Int,Int.reduceToNat,Nat.zero_mul,Nat.reduceMul,Nat.zero_add,Nat.mul_one,List.getElem?_cons_zero,List.getElem?_cons_succ,vZ,Int.reduceEq,Int.reduceNe,Int.reduceLT,Int.reduceLE,Nat.reduceEqDiff,Nat.reduceAdd,reduceIte,reduceCtorEq,Nat.reduceLT,Nat.reduceLeDiff,Nat.reduceShiftRight,Nat.reduceMod]
 refine W_loop (t:=.mk) (α:=PSigma fun i:Nat=>i≤h.w.length∧(∀ j,j<i→(h.bad1 j || h.bad2 j)=false)) (fun ⟨i,_⟩=>((envOf [(1,.ptr 1 0 0),(4,.int .i64 i)],stOf [(1,⟨24,3,[h.av]⟩)]))) (fun i=>h.w.length - i.1) ⟨0,Nat.zero_le _,?_⟩ ?_ (fun ⟨i,hi,hn⟩=>?_)
 ·intro j hj;omega
 ·refine weakX [(1,some 1)] (of_decide_eq_true rfl) (of_decide_eq_true rfl) ?_
  (simp only [Hole.av,vcW,vZ,Int.reduceEq,Int.reduceNe,Int.reduceLT,Int.reduceLE,Nat.reduceEqDiff,Nat.reduceAdd,reduceIte,reduceCtorEq,Nat.reduceLT,Nat.reduceLeDiff,Nat.reduceShiftRight,Nat.reduceMod])
  (repeat' first | exact trivial | (with_reducible first | exact RnB.fxB (ints_fxB _) | rfl | refine And.intro ?_ ?_) | (with_reducible (first | refine RnB.bb ?_ | refine RnB.nb ?_);simp only [vcW,vZ,Int.reduceEq,Int.reduceNe,Int.reduceLT,Int.reduceLE,Nat.reduceEqDiff,Nat.reduceAdd,reduceIte,reduceCtorEq,Nat.reduceLT,Nat.reduceLeDiff,Nat.reduceShiftRight,Nat.reduceMod]) | (with_reducible first | refine RnB.ii ?_ | refine RnB.app ?_) | (with_reducible refine RnB.fxB ?_;simp only [vcW,vZ,Int.reduceEq,Int.reduceNe,Int.reduceLT,Int.reduceLE,Nat.reduceEqDiff,Nat.reduceAdd,reduceIte,reduceCtorEq,Nat.reduceLT,Nat.reduceLeDiff,Nat.reduceShiftRight,Nat.reduceMod]) | omega)
 ·simp only [Hole.av,rnd_s,Int.reduceAdd,Int.reduceSub,decide_true,decide_false,i64_1,i64_2,i64_3,i64_4,true_and,Int.one_mul,Int.cast_ofNat_Int,Int.reduceToNat,Nat.zero_mul,Nat.reduceMul,Nat.zero_add,Nat.mul_one,List.getElem?_cons_zero,List.getElem?_cons_succ,vZ,Int.reduceEq,Int.reduceNe,Int.reduceLT,Int.reduceLE,Nat.reduceEqDiff,Nat.reduceAdd,reduceIte,reduceCtorEq,Nat.reduceLT,Nat.reduceLeDiff,Nat.reduceShiftRight,Nat.reduceMod]
  refine brB_split (fun h2=>?_) (fun h2=>?_)
  ·have h':i<h.w.length:=by (simp only [decide_eq_true_eq,decide_eq_false_iff_not,Bool.not_true,I64,Bool.not_eq_true',Bool.not_eq_false',bne_iff_ne,beq_iff_eq,ne_eq] at *;omega)
   have hs':i<h.s.length:=by omega
   simp only [ints_getD h.w i h',rnd_s,Int.reduceAdd,Int.reduceSub,decide_true,decide_false,i64_1,i64_2,i64_3,i64_4,true_and,Int.one_mul,Int.cast_ofNat_Int,Int.reduceToNat,Nat.zero_mul,Nat.reduceMul,Nat.zero_add,Nat.mul_one,List.getElem?_cons_zero,List.getElem?_cons_succ,vZ,Int.reduceEq,Int.reduceNe,Int.reduceLT,Int.reduceLE,Nat.reduceEqDiff,Nat.reduceAdd,reduceIte,reduceCtorEq,Nat.reduceLT,Nat.reduceLeDiff,Nat.reduceShiftRight,Nat.reduceMod]
   refine ⟨by omega,?_⟩
   refine callS_of (Within_s _ _ _) ?_
   by_cases b1:h.bad1 i=true
   ·have hat:h.at=some i:=fnd_some h' (by simp [b1]) hn
    have heI:h.err=((i:Int),2):=by rw [he,hat];simp [b1]
    rw [heI]
    by_cases b0:0≤h.w.getD i 0∧h.w.getD i 0≤1000000
    ·simp only [b0,ints_getD h.s i hs',rnd_s,Int.reduceAdd,Int.reduceSub,decide_true,decide_false,i64_1,i64_2,i64_3,i64_4,true_and,Int.one_mul,Int.cast_ofNat_Int,Int.reduceToNat,Nat.zero_mul,Nat.reduceMul,Nat.zero_add,Nat.mul_one,List.getElem?_cons_zero,List.getElem?_cons_succ,vZ,Int.reduceEq,Int.reduceNe,Int.reduceLT,Int.reduceLE,Nat.reduceEqDiff,Nat.reduceAdd,reduceIte,reduceCtorEq,Nat.reduceLT,Nat.reduceLeDiff,Nat.reduceShiftRight,Nat.reduceMod]
     refine ⟨by omega,?_⟩
     refine callS_of (Within_s _ _ _) ?_
     have b2:¬ (1≤h.s.getD i 0∧h.s.getD i 0≤1000000):=by
      unfold Hole.bad1 at b1
      simp [b0, -List.getD_eq_getElem?_getD] at b1
      omega
     simp only [b2,rnd_s,Int.reduceAdd,Int.reduceSub,decide_true,decide_false,i64_1,i64_2,i64_3,i64_4,true_and,Int.one_mul,Int.cast_ofNat_Int,Int.reduceToNat,Nat.zero_mul,Nat.reduceMul,Nat.zero_add,Nat.mul_one,List.getElem?_cons_zero,List.getElem?_cons_succ,vZ,Int.reduceEq,Int.reduceNe,Int.reduceLT,Int.reduceLE,Nat.reduceEqDiff,Nat.reduceAdd,reduceIte,reduceCtorEq,Nat.reduceLT,Nat.reduceLeDiff,Nat.reduceShiftRight,Nat.reduceMod]
    ·simp only [b0,rnd_s,Int.reduceAdd,Int.reduceSub,decide_true,decide_false,i64_1,i64_2,i64_3,i64_4,true_and,Int.one_mul,Int.cast_ofNat_Int,Int.reduceToNat,Nat.zero_mul,Nat.reduceMul,Nat.zero_add,Nat.mul_one,List.getElem?_cons_zero,List.getElem?_cons_succ,vZ,Int.reduceEq,Int.reduceNe,Int.reduceLT,Int.reduceLE,Nat.reduceEqDiff,Nat.reduceAdd,reduceIte,reduceCtorEq,Nat.reduceLT,Nat.reduceLeDiff,Nat.reduceShiftRight,Nat.reduceMod]
   ·have b1':h.bad1 i=false:=by simpa using b1
    have b0:(0≤h.w.getD i 0∧h.w.getD i 0≤1000000)∧1≤h.s.getD i 0∧h.s.getD i 0≤1000000:=by
     unfold Hole.bad1 at b1'
     simp [-List.getD_eq_getElem?_getD] at b1'
     omega
    simp only [b0.1,ints_getD h.s i hs',rnd_s,Int.reduceAdd,Int.reduceSub,decide_true,decide_false,i64_1,i64_2,i64_3,i64_4,true_and,Int.one_mul,Int.cast_ofNat_Int,Int.reduceToNat,Nat.zero_mul,Nat.reduceMul,Nat.zero_add,Nat.mul_one,List.getElem?_cons_zero,List.getElem?_cons_succ,vZ,Int.reduceEq,Int.reduceNe,Int.reduceLT,Int.reduceLE,Nat.reduceEqDiff,Nat.reduceAdd,reduceIte,reduceCtorEq,Nat.reduceLT,Nat.reduceLeDiff,Nat.reduceShiftRight,Nat.reduceMod]
    refine ⟨by omega,?_⟩
    refine callS_of (Within_s _ _ _) ?_
    simp only [b0.2,ints_getD h.w i h',rnd_s,Int.reduceAdd,Int.reduceSub,decide_true,decide_false,i64_1,i64_2,i64_3,i64_4,true_and,Int.one_mul,Int.cast_ofNat_Int,Int.reduceToNat,Nat.zero_mul,Nat.reduceMul,Nat.zero_add,Nat.mul_one,List.getElem?_cons_zero,List.getElem?_cons_succ,vZ,Int.reduceEq,Int.reduceNe,Int.reduceLT,Int.reduceLE,Nat.reduceEqDiff,Nat.reduceAdd,reduceIte,reduceCtorEq,Nat.reduceLT,Nat.reduceLeDiff,Nat.reduceShiftRight,Nat.reduceMod]
    refine ⟨by omega,?_⟩
    refine brB_split (fun h3=>?_) (fun h3=>?_)
    ·have b2:h.bad2 i=true:=h3
     have hat:h.at=some i:=fnd_some h' (by simp [b2]) hn
     have heI:h.err=((i:Int),22):=by rw [he,hat];simp [b1']
     rw [heI]
     simp only [rnd_s,Int.reduceAdd,Int.reduceSub,decide_true,decide_false,i64_1,i64_2,i64_3,i64_4,true_and,Int.one_mul,Int.cast_ofNat_Int,Int.reduceToNat,Nat.zero_mul,Nat.reduceMul,Nat.zero_add,Nat.mul_one,List.getElem?_cons_zero,List.getElem?_cons_succ,vZ,Int.reduceEq,Int.reduceNe,Int.reduceLT,Int.reduceLE,Nat.reduceEqDiff,Nat.reduceAdd,reduceIte,reduceCtorEq,Nat.reduceLT,Nat.reduceLeDiff,Nat.reduceShiftRight,Nat.reduceMod]
    ·have b2:h.bad2 i=false:=h3
     simp only [rnd_s,Int.reduceAdd,Int.reduceSub,decide_true,decide_false,i64_1,i64_2,i64_3,i64_4,true_and,Int.one_mul,Int.cast_ofNat_Int,Int.reduceToNat,Nat.zero_mul,Nat.reduceMul,Nat.zero_add,Nat.mul_one,List.getElem?_cons_zero,List.getElem?_cons_succ,vZ,Int.reduceEq,Int.reduceNe,Int.reduceLT,Int.reduceLE,Nat.reduceEqDiff,Nat.reduceAdd,reduceIte,reduceCtorEq,Nat.reduceLT,Nat.reduceLeDiff,Nat.reduceShiftRight,Nat.reduceMod]
     refine ⟨by (simp only [decide_eq_true_eq,decide_eq_false_iff_not,Bool.not_true,I64,Bool.not_eq_true',Bool.not_eq_false',bne_iff_ne,beq_iff_eq,ne_eq] at *;omega),⟨⟨i+1,by omega,?_⟩,by simp only;omega,?_⟩⟩
     ·intro j hj
      by_cases hji:j=i
      ·rw [hji,b1',b2];rfl
      ·exact hn j (by omega)
     ·refine weakX [(1,some 1)] (of_decide_eq_true rfl) (of_decide_eq_true rfl) ?_
      (simp only [Hole.av,vcW,vZ,Int.reduceEq,Int.reduceNe,Int.reduceLT,Int.reduceLE,Nat.reduceEqDiff,Nat.reduceAdd,reduceIte,reduceCtorEq,Nat.reduceLT,Nat.reduceLeDiff,Nat.reduceShiftRight,Nat.reduceMod])
      (repeat' first | exact trivial | (with_reducible first | exact RnB.fxB (ints_fxB _) | rfl | refine And.intro ?_ ?_) | (with_reducible (first | refine RnB.bb ?_ | refine RnB.nb ?_);simp only [vcW,vZ,Int.reduceEq,Int.reduceNe,Int.reduceLT,Int.reduceLE,Nat.reduceEqDiff,Nat.reduceAdd,reduceIte,reduceCtorEq,Nat.reduceLT,Nat.reduceLeDiff,Nat.reduceShiftRight,Nat.reduceMod]) | (with_reducible first | refine RnB.ii ?_ | refine RnB.app ?_) | (with_reducible refine RnB.fxB ?_;simp only [vcW,vZ,Int.reduceEq,Int.reduceNe,Int.reduceLT,Int.reduceLE,Nat.reduceEqDiff,Nat.reduceAdd,reduceIte,reduceCtorEq,Nat.reduceLT,Nat.reduceLeDiff,Nat.reduceShiftRight,Nat.reduceMod]) | omega)
      all_goals simp
  ·have:i=h.w.length:=by (simp only [decide_eq_true_eq,decide_eq_false_iff_not,Bool.not_true,I64,Bool.not_eq_true',Bool.not_eq_false',bne_iff_ne,beq_iff_eq,ne_eq] at *;omega)
   subst this
   have hat:h.at=none:=fnd_none hn
   rw [he,hat]
   simp only [rnd_s,Int.reduceAdd,Int.reduceSub,decide_true,decide_false,i64_1,i64_2,i64_3,i64_4,true_and,Int.one_mul,Int.cast_ofNat_Int,Int.reduceToNat,Nat.zero_mul,Nat.reduceMul,Nat.zero_add,Nat.mul_one,List.getElem?_cons_zero,List.getElem?_cons_succ,vZ,Int.reduceEq,Int.reduceNe,Int.reduceLT,Int.reduceLE,Nat.reduceEqDiff,Nat.reduceAdd,reduceIte,reduceCtorEq,Nat.reduceLT,Nat.reduceLeDiff,Nat.reduceShiftRight,Nat.reduceMod]
theorem refHoleErr_s (h:Hole):Sound Tryd.prog 5 [h.av] (.int .i64 h.err.2):=by
 refine sound_W f_ref03_HoleErr (Nat.le_of_ble_eq_true rfl) ?_
 simp only [c_ref03_HoleErr,Hole.av,rnd_s,Int.reduceAdd,Int.reduceSub,decide_true,decide_false,i64_1,i64_2,i64_3,i64_4,true_and,Int.one_mul,Int.cast_ofNat_Int,Int.reduceToNat,Nat.zero_mul,Nat.reduceMul,Nat.zero_add,Nat.mul_one,List.getElem?_cons_zero,List.getElem?_cons_succ,vZ,Int.reduceEq,Int.reduceNe,Int.reduceLT,Int.reduceLE,Nat.reduceEqDiff,Nat.reduceAdd,reduceIte,reduceCtorEq,Nat.reduceLT,Nat.reduceLeDiff,Nat.reduceShiftRight,Nat.reduceMod]
 refine callS_of (refCheckHole_s h) ?_
 simp only [rnd_s,Int.reduceAdd,Int.reduceSub,decide_true,decide_false,i64_1,i64_2,i64_3,i64_4,true_and,Int.one_mul,Int.cast_ofNat_Int,Int.reduceToNat,Nat.zero_mul,Nat.reduceMul,Nat.zero_add,Nat.mul_one,List.getElem?_cons_zero,List.getElem?_cons_succ,vZ,Int.reduceEq,Int.reduceNe,Int.reduceLT,Int.reduceLE,Nat.reduceEqDiff,Nat.reduceAdd,reduceIte,reduceCtorEq,Nat.reduceLT,Nat.reduceLeDiff,Nat.reduceShiftRight,Nat.reduceMod]
theorem CopyHole_s (h:Hole) (hw:h.w.length≤1000000) (hs:h.s.length≤1000000):Sound Tryd.prog 8 [h.av] h.av:=by
 refine sound_W f_ref03_CopyHole (Nat.le_of_ble_eq_true rfl) ?_
 simp only [c_ref03_CopyHole,Hole.av,rnd_s,Int.reduceAdd,Int.reduceSub,decide_true,decide_false,i64_1,i64_2,i64_3,i64_4,true_and,Int.one_mul,Int.cast_ofNat_Int,Int.reduceToNat,Nat.zero_mul,Nat.reduceMul,Nat.zero_add,Nat.mul_one,List.getElem?_cons_zero,List.getElem?_cons_succ,vZ,Int.reduceEq,Int.reduceNe,Int.reduceLT,Int.reduceLE,Nat.reduceEqDiff,Nat.reduceAdd,reduceIte,reduceCtorEq,Nat.reduceLT,Nat.reduceLeDiff,Nat.reduceShiftRight,Nat.reduceMod]
 refine callS_of (CopyInts_s h.w (by omega)) ?_
 simp only [rnd_s,Int.reduceAdd,Int.reduceSub,decide_true,decide_false,i64_1,i64_2,i64_3,i64_4,true_and,Int.one_mul,Int.cast_ofNat_Int,Int.reduceToNat,Nat.zero_mul,Nat.reduceMul,Nat.zero_add,Nat.mul_one,List.getElem?_cons_zero,List.getElem?_cons_succ,vZ,Int.reduceEq,Int.reduceNe,Int.reduceLT,Int.reduceLE,Nat.reduceEqDiff,Nat.reduceAdd,reduceIte,reduceCtorEq,Nat.reduceLT,Nat.reduceLeDiff,Nat.reduceShiftRight,Nat.reduceMod]
 refine callS_of (CopyInts_s h.s (by omega)) ?_
 simp only [rnd_s,Int.reduceAdd,Int.reduceSub,decide_true,decide_false,i64_1,i64_2,i64_3,i64_4,true_and,Int.one_mul,Int.cast_ofNat_Int,Int.reduceToNat,Nat.zero_mul,Nat.reduceMul,Nat.zero_add,Nat.mul_one,List.getElem?_cons_zero,List.getElem?_cons_succ,vZ,Int.reduceEq,Int.reduceNe,Int.reduceLT,Int.reduceLE,Nat.reduceEqDiff,Nat.reduceAdd,reduceIte,reduceCtorEq,Nat.reduceLT,Nat.reduceLeDiff,Nat.reduceShiftRight,Nat.reduceMod]
end Go.Proofs.YtoiajhogondgcaaDoor

/- Off the library's shelf: the laying of slices.SortFunc at places. Printed by gensort.py. By an AI agent;nothing here is trusted. -/
namespace Go.Proofs.YtoiajhogondgcaaDoor
def srtRen:Go.Shelf.Ren:=⟨fun x=>match x with | 6=>28 | 15=>50 | 14=>49 | 28=>67 | 29=>68 | 20=>59 | 21=>60 | 22=>61 | 23=>62 | 24=>63 | 25=>64 | 26=>65 | 27=>66 | 46=>78 | 47=>79 | 48=>80 | 49=>81 | 50=>82 | 57=>84 | n=>n,fun x=>match x with | 22=>27 | 24=>26 | 25=>76 | 3=>3 | 39=>99 | 0=>0 | 53=>117 | 55=>119 | 4=>4 | 46=>111 | 45=>110 | 50=>105 | 5=>5 | 9=>9 | 66=>126 | 70=>130 | 76=>133 | 77=>64 | n=>n,fun x=>x⟩
set_option maxRecDepth 100000 in
theorem srt_f6:Bears Tryd.prog (srtRen.f 6) (SlBodyF.n6 srtRen):=⟨ "slices.SortFunc[[]cherenkov/api.IcePlace,cherenkov/api.IcePlace]",by decide,by kernel_rfl⟩
set_option maxRecDepth 100000 in
theorem srt_f14:Bears Tryd.prog (srtRen.f 14) (SlBodyF.n14 srtRen):=⟨ "slices.pdqsortCmpFunc[cherenkov/api.IcePlace]",by decide,by kernel_rfl⟩
set_option maxRecDepth 100000 in
theorem srt_f15:Tryd.prog.funcs[srtRen.f 15]?=some (SlBodyF.n15 srtRen):=by kernel_rfl
set_option maxRecDepth 100000 in
theorem srt_f20:Bears Tryd.prog (srtRen.f 20) (SlBodyF.n20 srtRen):=⟨ "slices.insertionSortCmpFunc[cherenkov/api.IcePlace]",by decide,by kernel_rfl⟩
set_option maxRecDepth 100000 in
theorem srt_f21:Bears Tryd.prog (srtRen.f 21) (SlBodyF.n21 srtRen):=⟨ "slices.heapSortCmpFunc[cherenkov/api.IcePlace]",by decide,by kernel_rfl⟩
set_option maxRecDepth 100000 in
theorem srt_f22:Bears Tryd.prog (srtRen.f 22) (SlBodyF.n22 srtRen):=⟨ "slices.breakPatternsCmpFunc[cherenkov/api.IcePlace]",by decide,by kernel_rfl⟩
set_option maxRecDepth 100000 in
theorem srt_f23:Bears Tryd.prog (srtRen.f 23) (SlBodyF.n23 srtRen):=⟨ "slices.choosePivotCmpFunc[cherenkov/api.IcePlace]",by decide,by kernel_rfl⟩
set_option maxRecDepth 100000 in
theorem srt_f24:Bears Tryd.prog (srtRen.f 24) (SlBodyF.n24 srtRen):=⟨ "slices.reverseRangeCmpFunc[cherenkov/api.IcePlace]",by decide,by kernel_rfl⟩
set_option maxRecDepth 100000 in
theorem srt_f25:Bears Tryd.prog (srtRen.f 25) (SlBodyF.n25 srtRen):=⟨ "slices.partialInsertionSortCmpFunc[cherenkov/api.IcePlace]",by decide,by kernel_rfl⟩
set_option maxRecDepth 100000 in
theorem srt_f26:Bears Tryd.prog (srtRen.f 26) (SlBodyF.n26 srtRen):=⟨ "slices.partitionEqualCmpFunc[cherenkov/api.IcePlace]",by decide,by kernel_rfl⟩
set_option maxRecDepth 100000 in
theorem srt_f27:Bears Tryd.prog (srtRen.f 27) (SlBodyF.n27 srtRen):=⟨ "slices.partitionCmpFunc[cherenkov/api.IcePlace]",by decide,by kernel_rfl⟩
set_option maxRecDepth 100000 in
theorem srt_f28:Tryd.prog.funcs[srtRen.f 28]?=some (SlBodyF.n28 srtRen):=by kernel_rfl
set_option maxRecDepth 100000 in
theorem srt_f29:Tryd.prog.funcs[srtRen.f 29]?=some (SlBodyF.n29 srtRen):=by kernel_rfl
set_option maxRecDepth 100000 in
theorem srt_f46:Bears Tryd.prog (srtRen.f 46) (SlBodyF.n46 srtRen):=⟨ "slices.siftDownCmpFunc[cherenkov/api.IcePlace]",by decide,by kernel_rfl⟩
set_option maxRecDepth 100000 in
theorem srt_f47:Tryd.prog.funcs[srtRen.f 47]?=some (SlBodyF.n47 srtRen):=by kernel_rfl
set_option maxRecDepth 100000 in
theorem srt_f48:Tryd.prog.funcs[srtRen.f 48]?=some (SlBodyF.n48 srtRen):=by kernel_rfl
set_option maxRecDepth 100000 in
theorem srt_f49:Bears Tryd.prog (srtRen.f 49) (SlBodyF.n49 srtRen):=⟨ "slices.medianAdjacentCmpFunc[cherenkov/api.IcePlace]",by decide,by kernel_rfl⟩
set_option maxRecDepth 100000 in
theorem srt_f50:Bears Tryd.prog (srtRen.f 50) (SlBodyF.n50 srtRen):=⟨ "slices.medianCmpFunc[cherenkov/api.IcePlace]",by decide,by kernel_rfl⟩
set_option maxRecDepth 100000 in
theorem srt_f57:Bears Tryd.prog (srtRen.f 57) (SlBodyF.n57 srtRen):=⟨ "slices.order2CmpFunc[cherenkov/api.IcePlace]",by decide,by kernel_rfl⟩
theorem srt_n6:SlLaysF0.n6 Tryd.prog srtRen :=
 {mixed:=by kernel_rfl,
  f6:=srt_f6,
  f14:=srt_f14,
  f15:=srt_f15,
  f20:=srt_f20,
  f21:=srt_f21,
  f22:=srt_f22,
  f23:=srt_f23,
  f24:=srt_f24,
  f25:=srt_f25,
  f26:=srt_f26,
  f27:=srt_f27,
  f28:=srt_f28,
  f29:=srt_f29,
  f46:=srt_f46,
  f47:=srt_f47,
  f48:=srt_f48,
  f49:=srt_f49,
  f50:=srt_f50,
  f57:=srt_f57,
  t0:=Tryd.underlying0,
  a0:=Tryd.isAgg0,
  z0:=Tryd.sizeOf0,
  v0:=Tryd.zeroValue0,
  t3:=Tryd.underlying3,
  a3:=Tryd.isAgg3,
  z3:=Tryd.sizeOf3,
  v3:=Tryd.zeroValue3,
  t4:=Tryd.underlying4,
  a4:=Tryd.isAgg4,
  z4:=Tryd.sizeOf4,
  v4:=Tryd.zeroValue4,
  t5:=Tryd.underlying5,
  a5:=Tryd.isAgg5,
  z5:=Tryd.sizeOf5,
  v5:=Tryd.zeroValue5,
  t9:=Tryd.underlying9,
  a9:=Tryd.isAgg9,
  z9:=Tryd.sizeOf9,
  v9:=Tryd.zeroValue9,
  t22:=Tryd.underlying27,
  a22:=Tryd.isAgg27,
  z22:=Tryd.sizeOf27,
  v22:=Tryd.zeroValue27,
  t25:=Tryd.underlying76,
  a25:=Tryd.isAgg76,
  z25:=Tryd.sizeOf76,
  v25:=Tryd.zeroValue76,
  t39:=Tryd.underlying99,
  a39:=Tryd.isAgg99,
  z39:=Tryd.sizeOf99,
  v39:=Tryd.zeroValue99,
  t45:=Tryd.underlying110,
  a45:=Tryd.isAgg110,
  z45:=Tryd.sizeOf110,
  v45:=Tryd.zeroValue110,
  t46:=Tryd.underlying111,
  a46:=Tryd.isAgg111,
  z46:=Tryd.sizeOf111,
  v46:=Tryd.zeroValue111,
  t50:=Tryd.underlying105,
  a50:=Tryd.isAgg105,
  z50:=Tryd.sizeOf105,
  v50:=Tryd.zeroValue105,
  t53:=Tryd.underlying117,
  a53:=Tryd.isAgg117,
  z53:=Tryd.sizeOf117,
  v53:=Tryd.zeroValue117,
  t55:=Tryd.underlying119,
  a55:=Tryd.isAgg119,
  z55:=Tryd.sizeOf119,
  v55:=Tryd.zeroValue119,
  t66:=Tryd.underlying126,
  a66:=Tryd.isAgg126,
  z66:=Tryd.sizeOf126,
  v66:=Tryd.zeroValue126,
  t70:=Tryd.underlying130,
  a70:=Tryd.isAgg130,
  z70:=Tryd.sizeOf130,
  v70:=Tryd.zeroValue130,
  t76:=Tryd.underlying133,
  a76:=Tryd.isAgg133,
  z76:=Tryd.sizeOf133,
  v76:=Tryd.zeroValue133,
  t77:=Tryd.underlying64,
  a77:=Tryd.isAgg64,
  z77:=Tryd.sizeOf64,
  v77:=Tryd.zeroValue64 }
end Go.Proofs.YtoiajhogondgcaaDoor

/- Places,and slices.SortFunc of a block of them. By an AI agent;nothing here is trusted. -/
namespace Go.Proofs.YtoiajhogondgcaaDoor
open Go.Av

structure Pl where
 x:Int
 y:Int
 z:Int
instance:Inhabited Pl:=⟨⟨0,0,0⟩⟩
theorem Pl.ext' {a b:Pl} (h1:a.x=b.x) (h2:a.y=b.y) (h3:a.z=b.z):a=b:=by
 cases a;cases b;simp only at h1 h2 h3;rw [h1,h2,h3]
instance:DecidableEq Pl:=fun a b=>decidable_of_iff (a.x=b.x∧a.y=b.y∧a.z=b.z) ⟨fun h=>Pl.ext' h.1 h.2.1 h.2.2,fun h=>by rw [h];exact ⟨rfl,rfl,rfl⟩⟩
def Pl.av (p:Pl):AV:=.agg [.int .i64 p.x,.int .i64 p.y,.int .i64 p.z]
def plsL (l:List Pl):List AV:=l.map Pl.av
theorem plsL_length (l:List Pl):(plsL l).length=l.length:=by simp [plsL]
theorem plsL_fx (l:List Pl):∀ x ∈ plsL l,fx x=true:=by
 intro x hx
 obtain ⟨n,_,rfl⟩:=List.mem_map.1 hx
 rfl
theorem plsL_fxB (l:List Pl):(plsL l).all fx=true:=List.all_eq_true.2 (plsL_fx l)
theorem plsL_get (l:List Pl) (i:Nat) (h:i<l.length):(plsL l)[i]?=some l[i].av:=by simp [plsL,h]
theorem plsL_append (l r:List Pl):plsL (l ++ r)=plsL l ++ plsL r:=by simp [plsL]
theorem plsL_one (p:Pl):plsL [p]=[p.av]:=rfl
theorem plsL_scalE (l:List Pl):scalE (plsL l)=true:=by
 unfold scalE
 rw [List.all_eq_true]
 intro x hx
 obtain ⟨n,_,rfl⟩:=List.mem_map.1 hx
 rfl

def cmpI (a b:Int):Int:=if a<b then -1 else if b<a then 1 else 0
def Pl.cmp (p q:Pl):Int:=firstErr [cmpI p.x q.x,cmpI p.y q.y,cmpI p.z q.z]
theorem isNaN_s (n:Int):Sound Tryd.prog 69 [.int .i64 n] (.bool false):=by
 refine sound_W f_cmp_isNaN_int (Nat.le_of_ble_eq_true rfl) ?_
 simp only [c_cmp_isNaN_int,rnd_s,Int.reduceAdd,Int.reduceSub,decide_true,decide_false,i64_1,i64_2,i64_3,i64_4,true_and,Int.one_mul,Int.cast_ofNat_Int,Int.reduceToNat,Nat.zero_mul,Nat.reduceMul,Nat.zero_add,Nat.mul_one,List.getElem?_cons_zero,List.getElem?_cons_succ,vZ,Int.reduceEq,Int.reduceNe,Int.reduceLT,Int.reduceLE,Nat.reduceEqDiff,Nat.reduceAdd,reduceIte,reduceCtorEq,Nat.reduceLT,Nat.reduceLeDiff,Nat.reduceShiftRight,Nat.reduceMod]
theorem Compare_s (a b:Int):Sound Tryd.prog 52 [.int .i64 a,.int .i64 b] (.int .i64 (cmpI a b)):=by
 refine sound_W f_cmp_Compare_int (Nat.le_of_ble_eq_true rfl) ?_
 simp only [c_cmp_Compare_int,rnd_s,Int.reduceAdd,Int.reduceSub,decide_true,decide_false,i64_1,i64_2,i64_3,i64_4,true_and,Int.one_mul,Int.cast_ofNat_Int,Int.reduceToNat,Nat.zero_mul,Nat.reduceMul,Nat.zero_add,Nat.mul_one,List.getElem?_cons_zero,List.getElem?_cons_succ,vZ,Int.reduceEq,Int.reduceNe,Int.reduceLT,Int.reduceLE,Nat.reduceEqDiff,Nat.reduceAdd,reduceIte,reduceCtorEq,Nat.reduceLT,Nat.reduceLeDiff,Nat.reduceShiftRight,Nat.reduceMod]
 refine callS_of (isNaN_s a) ?_
 simp only [rnd_s,Int.reduceAdd,Int.reduceSub,decide_true,decide_false,i64_1,i64_2,i64_3,i64_4,true_and,Int.one_mul,Int.cast_ofNat_Int,Int.reduceToNat,Nat.zero_mul,Nat.reduceMul,Nat.zero_add,Nat.mul_one,List.getElem?_cons_zero,List.getElem?_cons_succ,vZ,Int.reduceEq,Int.reduceNe,Int.reduceLT,Int.reduceLE,Nat.reduceEqDiff,Nat.reduceAdd,reduceIte,reduceCtorEq,Nat.reduceLT,Nat.reduceLeDiff,Nat.reduceShiftRight,Nat.reduceMod]
 refine callS_of (isNaN_s b) ?_
 simp only [rnd_s,Int.reduceAdd,Int.reduceSub,decide_true,decide_false,i64_1,i64_2,i64_3,i64_4,true_and,Int.one_mul,Int.cast_ofNat_Int,Int.reduceToNat,Nat.zero_mul,Nat.reduceMul,Nat.zero_add,Nat.mul_one,List.getElem?_cons_zero,List.getElem?_cons_succ,vZ,Int.reduceEq,Int.reduceNe,Int.reduceLT,Int.reduceLE,Nat.reduceEqDiff,Nat.reduceAdd,reduceIte,reduceCtorEq,Nat.reduceLT,Nat.reduceLeDiff,Nat.reduceShiftRight,Nat.reduceMod]
 refine brB_split (fun h=>?_) (fun h=>?_)
 ·have h':a<b:=by (simp only [decide_eq_true_eq,decide_eq_false_iff_not,Bool.not_true,I64,Bool.not_eq_true',Bool.not_eq_false',bne_iff_ne,beq_iff_eq,ne_eq] at *;omega)
  simp only [cmpI,h',if_true,rnd_s,Int.reduceAdd,Int.reduceSub,decide_true,decide_false,i64_1,i64_2,i64_3,i64_4,true_and,Int.one_mul,Int.cast_ofNat_Int,Int.reduceToNat,Nat.zero_mul,Nat.reduceMul,Nat.zero_add,Nat.mul_one,List.getElem?_cons_zero,List.getElem?_cons_succ,vZ,Int.reduceEq,Int.reduceNe,Int.reduceLT,Int.reduceLE,Nat.reduceEqDiff,Nat.reduceAdd,reduceIte,reduceCtorEq,Nat.reduceLT,Nat.reduceLeDiff,Nat.reduceShiftRight,Nat.reduceMod]
 ·have h':¬ a<b:=by (simp only [decide_eq_true_eq,decide_eq_false_iff_not,Bool.not_true,I64,Bool.not_eq_true',Bool.not_eq_false',bne_iff_ne,beq_iff_eq,ne_eq] at *;omega)
  simp only [cmpI,h',if_false,rnd_s,Int.reduceAdd,Int.reduceSub,decide_true,decide_false,i64_1,i64_2,i64_3,i64_4,true_and,Int.one_mul,Int.cast_ofNat_Int,Int.reduceToNat,Nat.zero_mul,Nat.reduceMul,Nat.zero_add,Nat.mul_one,List.getElem?_cons_zero,List.getElem?_cons_succ,vZ,Int.reduceEq,Int.reduceNe,Int.reduceLT,Int.reduceLE,Nat.reduceEqDiff,Nat.reduceAdd,reduceIte,reduceCtorEq,Nat.reduceLT,Nat.reduceLeDiff,Nat.reduceShiftRight,Nat.reduceMod]
  refine brB_split (fun h=>?_) (fun h=>?_)
  ·have h2:b<a:=by (simp only [decide_eq_true_eq,decide_eq_false_iff_not,Bool.not_true,I64,Bool.not_eq_true',Bool.not_eq_false',bne_iff_ne,beq_iff_eq,ne_eq] at *;omega)
   simp only [h',h2,if_true,if_false,rnd_s,Int.reduceAdd,Int.reduceSub,decide_true,decide_false,i64_1,i64_2,i64_3,i64_4,true_and,Int.one_mul,Int.cast_ofNat_Int,Int.reduceToNat,Nat.zero_mul,Nat.reduceMul,Nat.zero_add,Nat.mul_one,List.getElem?_cons_zero,List.getElem?_cons_succ,vZ,Int.reduceEq,Int.reduceNe,Int.reduceLT,Int.reduceLE,Nat.reduceEqDiff,Nat.reduceAdd,reduceIte,reduceCtorEq,Nat.reduceLT,Nat.reduceLeDiff,Nat.reduceShiftRight,Nat.reduceMod]
  ·have h2:¬ b<a:=by (simp only [decide_eq_true_eq,decide_eq_false_iff_not,Bool.not_true,I64,Bool.not_eq_true',Bool.not_eq_false',bne_iff_ne,beq_iff_eq,ne_eq] at *;omega)
   simp only [h',h2,if_false,rnd_s,Int.reduceAdd,Int.reduceSub,decide_true,decide_false,i64_1,i64_2,i64_3,i64_4,true_and,Int.one_mul,Int.cast_ofNat_Int,Int.reduceToNat,Nat.zero_mul,Nat.reduceMul,Nat.zero_add,Nat.mul_one,List.getElem?_cons_zero,List.getElem?_cons_succ,vZ,Int.reduceEq,Int.reduceNe,Int.reduceLT,Int.reduceLE,Nat.reduceEqDiff,Nat.reduceAdd,reduceIte,reduceCtorEq,Nat.reduceLT,Nat.reduceLeDiff,Nat.reduceShiftRight,Nat.reduceMod]
theorem Or_s (l:List Int) (hl:l.length<4000000000000000000):Sound Tryd.prog 51 [.sl (ints l)] (.int .i64 (firstErr l)):=by
 refine sound_W f_cmp_Or_int (Nat.le_of_ble_eq_true rfl) ?_
 simp only [c_cmp_Or_int,vcC,Int.reduceEq,Int.reduceNe,Int.reduceLT,Int.reduceLE,Nat.reduceEqDiff,Nat.reduceAdd,reduceIte,reduceCtorEq,Nat.reduceLT,Nat.reduceLeDiff,eq_self,vcP]
 refine W_loop (α:=PSigma fun i:Nat=>i≤l.length∧∀ x ∈ l.take i,x=0) (fun i=>(envOf [(3,.int .i64 0),(6,.sl (ints l)),(7,.int .i64 l.length),(8,.int .i64 i.1)],noStore)) (fun i=>l.length - i.1) ⟨0,by simp⟩ (weakE _ ?_) (fun ⟨i,hi,hn⟩=>?_)
 ·simp only [vcC,Int.reduceEq,Int.reduceNe,Int.reduceLT,Int.reduceLE,Nat.reduceEqDiff,Nat.reduceAdd,reduceIte,reduceCtorEq,Nat.reduceLT,Nat.reduceLeDiff,eq_self,vcP];rfl
 ·simp only [vcC,Int.reduceEq,Int.reduceNe,Int.reduceLT,Int.reduceLE,Nat.reduceEqDiff,Nat.reduceAdd,reduceIte,reduceCtorEq,Nat.reduceLT,Nat.reduceLeDiff,eq_self,vcP]
  refine brB_split (fun h=>?_) (fun h=>?_)
  ·have h':i<l.length:=by (simp only [decide_eq_true_eq,decide_eq_false_iff_not,Bool.not_true,I64,Bool.not_eq_true',Bool.not_eq_false',bne_iff_ne,beq_iff_eq,ne_eq] at *;omega)
   simp only [ints_get l i h',vcC,Int.reduceEq,Int.reduceNe,Int.reduceLT,Int.reduceLE,Nat.reduceEqDiff,Nat.reduceAdd,reduceIte,reduceCtorEq,Nat.reduceLT,Nat.reduceLeDiff,eq_self,vcP]
   refine ⟨by omega,?_⟩
   refine brB_split (fun h=>?_) (fun h=>?_)
   ·simp only [vcC,Int.reduceEq,Int.reduceNe,Int.reduceLT,Int.reduceLE,Nat.reduceEqDiff,Nat.reduceAdd,reduceIte,reduceCtorEq,Nat.reduceLT,Nat.reduceLeDiff,eq_self,vcP]
    have h0:l[i] ≠ 0:=by simpa using h
    have hs:l.find? (· ≠ 0)=some l[i]:=by
     rw [List.find?_eq_some_iff_getElem]
     exact ⟨by simpa using h0,i,h',rfl,fun j hj=>by simp [hn l[j] (by rw [List.mem_take_iff_getElem];exact ⟨j,by omega,rfl⟩)]⟩
    unfold firstErr
    rw [hs];rfl
   ·simp only [vcC,Int.reduceEq,Int.reduceNe,Int.reduceLT,Int.reduceLE,Nat.reduceEqDiff,Nat.reduceAdd,reduceIte,reduceCtorEq,Nat.reduceLT,Nat.reduceLeDiff,eq_self,vcP]
    refine ⟨by (simp only [decide_eq_true_eq,decide_eq_false_iff_not,Bool.not_true,I64,Bool.not_eq_true',Bool.not_eq_false',bne_iff_ne,beq_iff_eq,ne_eq] at *;omega),⟨i+1,by omega,?_⟩,by simp only;omega,weakE _ ?_⟩
    ·rw [List.take_succ_eq_append_getElem h']
     intro x hx
     rcases List.mem_append.1 hx with hx | hx
     ·exact hn x hx
     ·simp at hx h;rw [hx,h]
    ·simp only [vcC,Int.reduceEq,Int.reduceNe,Int.reduceLT,Int.reduceLE,Nat.reduceEqDiff,Nat.reduceAdd,reduceIte,reduceCtorEq,Nat.reduceLT,Nat.reduceLeDiff,eq_self,vcP];simp
  ·simp only [vcC,Int.reduceEq,Int.reduceNe,Int.reduceLT,Int.reduceLE,Nat.reduceEqDiff,Nat.reduceAdd,reduceIte,reduceCtorEq,Nat.reduceLT,Nat.reduceLeDiff,eq_self,vcP]
   have:i=l.length:=by (simp only [decide_eq_true_eq,decide_eq_false_iff_not,Bool.not_true,I64,Bool.not_eq_true',Bool.not_eq_false',bne_iff_ne,beq_iff_eq,ne_eq] at *;omega)
   subst this
   unfold firstErr
   rw [List.take_length] at hn
   rw [List.find?_eq_none.2 (fun x hx=>by simp [hn x hx])]
   rfl
theorem Or3_s (a b c:Int):Sound Tryd.prog 51 [.sl [.int .i64 a,.int .i64 b,.int .i64 c]] (.int .i64 (firstErr [a,b,c])):=Or_s [a,b,c] (by simp)
theorem compare_s (p q:Pl):Sound Tryd.prog 29 [p.av,q.av] (.int .i64 (p.cmp q)):=by
 refine sound_W f_ice_compare (Nat.le_of_ble_eq_true rfl) ?_
 simp only [c_ice_compare,Pl.av,rnd_s,Int.reduceAdd,Int.reduceSub,decide_true,decide_false,i64_1,i64_2,i64_3,i64_4,true_and,Int.one_mul,Int.cast_ofNat_Int,Int.reduceToNat,Nat.zero_mul,Nat.reduceMul,Nat.zero_add,Nat.mul_one,List.getElem?_cons_zero,List.getElem?_cons_succ,vZ,Int.reduceEq,Int.reduceNe,Int.reduceLT,Int.reduceLE,Nat.reduceEqDiff,Nat.reduceAdd,reduceIte,reduceCtorEq,Nat.reduceLT,Nat.reduceLeDiff,Nat.reduceShiftRight,Nat.reduceMod]
 refine callS_of (Compare_s _ _) ?_
 simp only [rnd_s,Int.reduceAdd,Int.reduceSub,decide_true,decide_false,i64_1,i64_2,i64_3,i64_4,true_and,Int.one_mul,Int.cast_ofNat_Int,Int.reduceToNat,Nat.zero_mul,Nat.reduceMul,Nat.zero_add,Nat.mul_one,List.getElem?_cons_zero,List.getElem?_cons_succ,vZ,Int.reduceEq,Int.reduceNe,Int.reduceLT,Int.reduceLE,Nat.reduceEqDiff,Nat.reduceAdd,reduceIte,reduceCtorEq,Nat.reduceLT,Nat.reduceLeDiff,Nat.reduceShiftRight,Nat.reduceMod]
 refine callS_of (Compare_s _ _) ?_
 simp only [rnd_s,Int.reduceAdd,Int.reduceSub,decide_true,decide_false,i64_1,i64_2,i64_3,i64_4,true_and,Int.one_mul,Int.cast_ofNat_Int,Int.reduceToNat,Nat.zero_mul,Nat.reduceMul,Nat.zero_add,Nat.mul_one,List.getElem?_cons_zero,List.getElem?_cons_succ,vZ,Int.reduceEq,Int.reduceNe,Int.reduceLT,Int.reduceLE,Nat.reduceEqDiff,Nat.reduceAdd,reduceIte,reduceCtorEq,Nat.reduceLT,Nat.reduceLeDiff,Nat.reduceShiftRight,Nat.reduceMod]
 refine callS_of (Compare_s _ _) ?_
 simp only [rnd_s,Int.reduceAdd,Int.reduceSub,decide_true,decide_false,i64_1,i64_2,i64_3,i64_4,true_and,Int.one_mul,Int.cast_ofNat_Int,Int.reduceToNat,Nat.zero_mul,Nat.reduceMul,Nat.zero_add,Nat.mul_one,List.getElem?_cons_zero,List.getElem?_cons_succ,vZ,Int.reduceEq,Int.reduceNe,Int.reduceLT,Int.reduceLE,Nat.reduceEqDiff,Nat.reduceAdd,reduceIte,reduceCtorEq,Nat.reduceLT,Nat.reduceLeDiff,Nat.reduceShiftRight,Nat.reduceMod]
 refine callS_of (Or3_s _ _ _) ?_
 simp only [Pl.cmp,rnd_s,Int.reduceAdd,Int.reduceSub,decide_true,decide_false,i64_1,i64_2,i64_3,i64_4,true_and,Int.one_mul,Int.cast_ofNat_Int,Int.reduceToNat,Nat.zero_mul,Nat.reduceMul,Nat.zero_add,Nat.mul_one,List.getElem?_cons_zero,List.getElem?_cons_succ,vZ,Int.reduceEq,Int.reduceNe,Int.reduceLT,Int.reduceLE,Nat.reduceEqDiff,Nat.reduceAdd,reduceIte,reduceCtorEq,Nat.reduceLT,Nat.reduceLeDiff,Nat.reduceShiftRight,Nat.reduceMod]
 exact usedL_buf rfl (ints_imm [_,_,_]) rfl

theorem cmpI_lt {a b:Int}:(cmpI a b<0 ↔ a<b)∧(cmpI a b=0 ↔ a=b):=by
 unfold cmpI
 refine ⟨?_,?_⟩ <;> split <;> (try split) <;> omega
theorem Pl.cmp_lt (p q:Pl):ltOf Pl.cmp p q=decide (p.x<q.x∨(p.x=q.x∧(p.y<q.y∨(p.y=q.y∧p.z<q.z)))):=by
 have h1:=cmpI_lt (a:=p.x) (b:=q.x)
 have h2:=cmpI_lt (a:=p.y) (b:=q.y)
 have h3:=cmpI_lt (a:=p.z) (b:=q.z)
 unfold ltOf Pl.cmp firstErr
 rw [decide_eq_decide]
 generalize cmpI p.x q.x=a at *
 generalize cmpI p.y q.y=b at *
 generalize cmpI p.z q.z=c at *
 by_cases e1:a=0
 ·by_cases e2:b=0
  ·by_cases e3:c=0
   ·simp [e1,e2,e3];omega
   ·simp [e1,e2,e3];omega
  ·simp [e1,e2];omega
 ·simp [e1];omega
theorem Pl.swo:Go.Sort.SWO (ltOf Pl.cmp) where
 irrefl p:=by rw [Pl.cmp_lt];simp
 trans p q r h1 h2:=by rw [Pl.cmp_lt] at *;simp only [decide_eq_true_eq] at *;omega
 ntrans p q r h1 h2:=by rw [Pl.cmp_lt] at *;simp only [decide_eq_false_iff_not] at *;omega

def encPl (p:Pl):List Value:=[.int .i64 p.x,.int .i64 p.y,.int .i64 p.z]
theorem encPl_len (p:Pl):(encPl p).length=3:=rfl
theorem encPl_one (p:Pl):∀ v ∈ encPl p,v.oneCell'=true:=by
 intro v hv
 simp only [encPl,List.mem_cons,List.not_mem_nil,or_false] at hv
 rcases hv with rfl | rfl | rfl <;> rfl
def srt (l:List Pl):List Pl:=(Go.Sort.pdq (ltOf Pl.cmp) l.toArray 0 l.toArray.size (Lib.bitLen l.toArray.size) true true).toList
theorem srt_perm (l:List Pl):(srt l).Perm l:=by
 have h:=(Go.Sort.pdq_sorts (ltOf Pl.cmp) Pl.swo l.toArray 0 l.toArray.size (Lib.bitLen l.toArray.size) true true (Nat.zero_le _) (Nat.le_refl _) (Or.inl rfl)).1
 unfold srt
 generalize Go.Sort.pdq (ltOf Pl.cmp) l.toArray 0 l.toArray.size (Lib.bitLen l.toArray.size) true true=d at *
 obtain ⟨h1,_,h2⟩:=h
 rw [← h1] at h2
 have e1:(d.extract 0 d.size).toList=d.toList:=by simp
 have e2:(l.toArray.extract 0 d.size).toList=l:=by rw [h1];simp
 rw [e1,e2] at h2
 exact h2

theorem sw_other {w:World} {b m:Nat} {dk:Array Pl} {os:Array Obj} {c:Nat} (hc:c ≠ b) (hl:c<w.heap.size):(sortWorldK encPl 3 w b 0 m dk os).heap[c]?=w.heap[c]?:=by
 show ((w.heap.modify b _) ++ os)[c]?=_
 rw [Array.getElem?_append_left (by simpa using hl),Array.getElem?_modify,if_neg (fun h=>hc h.symm)]
theorem sw_size {w:World} {b m:Nat} {dk:Array Pl} {os:Array Obj}:(sortWorldK encPl 3 w b 0 m dk os).heap.size=w.heap.size+os.size:=by
 show ((w.heap.modify b _) ++ os).size=_
 simp
theorem cmpLays {w:World} {ok:Nat→Prop} {b:Nat} (hok:∀ c,ok c→c<w.heap.size) (hG:GOk ok w) (hnb:¬ ok b) (size:Nat):CmpLays Tryd.prog 29 #[] encPl 3 Pl.cmp b 0 size w:=by
 intro m os dk hs p q
 have hG':GOk ok (sortWorldK encPl 3 w b 0 m dk os):=hG.mono (fun _ h=>h) fun c hc=>sw_other (fun e=>hnb (e ▸ hc)) (hok c hc)
 have hok':∀ c,ok c→c<(sortWorldK encPl 3 w b 0 m dk os).heap.size:=fun c hc=>by have:=hok c hc;rw [sw_size];omega
 generalize sortWorldK encPl 3 w b 0 m dk os=W at *
 have hargs:∀ (i:Nat) (x:AV),[p.av,q.av][i]?=some x→VR W.heap ok noPlace noStore x ((#[.agg (encPl p).toArray,.agg (encPl q).toArray] ++ #[]:Array Value).getD i undef):=fun i x hx=>by
  match i,hx with
  | 0,hx =>
   cases hx
   refine .agg _ _ rfl fun j c hc=>?_
   match j,hc with
   | 0,hc=>cases hc;exact .int _ _
   | 1,hc=>cases hc;exact .int _ _
   | 2,hc=>cases hc;exact .int _ _
  | 1,hx =>
   cases hx
   refine .agg _ _ rfl fun j c hc=>?_
   match j,hc with
   | 0,hc=>cases hc;exact .int _ _
   | 1,hc=>cases hc;exact .int _ _
   | 2,hc=>cases hc;exact .int _ _
 rcases compare_s p q W ok (#[.agg (encPl p).toArray,.agg (encPl q).toArray] ++ #[]) hok' hG' rfl hargs with ⟨v,w',h1,h2⟩ | ⟨_,h2⟩
 ·have:=(enters_of (P:=Tryd.prog) Tryd.func29 (by kernel_rfl) rfl:Enters Tryd.prog 29) (#[.agg (encPl p).toArray,.agg (encPl q).toArray] ++ #[]) W
  rw [this] at h1;cases h1
 ·refine h2.mono fun e w' ⟨v,he,hb,hv⟩=>?_
  cases hv
  refine ⟨he,w'.drawn - W.drawn,w'.heap.extract W.heap.size w'.heap.size,?_⟩
  obtain ⟨⟨b1,b2,b3,b4,b5⟩,b6⟩:=hb
  have hh:w'.heap=W.heap ++ w'.heap.extract W.heap.size w'.heap.size:=by
   apply Array.ext_getElem?
   intro i
   by_cases hi:i<W.heap.size
   ·rw [Array.getElem?_append_left hi,b5 i hi]
   ·rw [Array.getElem?_append_right (by omega),Array.getElem?_extract]
    split
    ·congr 1;omega
    ·rw [Array.getElem?_eq_none (by omega)]
  cases w' with
  | mk heap tape drawn os output =>
   simp only at *
   unfold Go.Sort.grow World.drewN
   simp only
   rw [← b1,← b2,← b3,← hh]
   congr 1
   omega
end Go.Proofs.YtoiajhogondgcaaDoor

/- slices.SortFunc of a block of places. By an AI agent;nothing here is trusted. -/
namespace Go.Proofs.YtoiajhogondgcaaDoor
open Go.Av

theorem getD2 {a:Array Value} (h:a.size=2):a=#[a.getD 0 undef,a.getD 1 undef]:=by
 apply Array.ext
 ·simp [h]
 ·intro i h1 h2
  have:i=0∨i=1:=by omega
  rcases this with rfl | rfl <;> simp [Array.getD,h]

theorem holds_flat {h:Array Obj} {ok:Nat→Prop} {ρ:Nat→Option Nat} {σ:Store} {l:List Pl} {cur:Array Value} (hH:Av.Holds h ok ρ σ 3 (plsL l) cur) (i o:Nat) (hi:i<l.length) (ho:o<3):cur[i * 3+o]?=some (encPl l[i])[o]! := by
 obtain ⟨_,_,h3⟩:=hH i l[i].av (plsL_get l i hi)
 match o,ho with
 | 0,_=>obtain ⟨cv,h4,h5⟩:=h3 0 (.int .i64 l[i].x) rfl;cases h5;exact h4
 | 1,_=>obtain ⟨cv,h4,h5⟩:=h3 1 (.int .i64 l[i].y) rfl;cases h5;exact h4
 | 2,_=>obtain ⟨cv,h4,h5⟩:=h3 2 (.int .i64 l[i].z) rfl;cases h5;exact h4

theorem srt_length (l:List Pl):(srt l).length=l.length:=(srt_perm l).length_eq
theorem SortFunc_x (l:List Pl) (k:Nat) (hl:l.length<4611686018427387904) :
  SoundX Tryd.prog 28 [.buf k l.length,.fn 29 []] k 26 3 (plsL l) (.tup []) (plsL (srt l)):=by
 intro w ok cargs b cur hok hG hnb hbc hH hlen hargs
 have hblt:b<w.heap.size:=(Array.getElem?_eq_some_iff.1 hbc).1
 have h0:=hargs 0 _ rfl
 have h1:=hargs 1 _ rfl
 have hc2:=getD2 (a:=cargs) hlen
 generalize cargs.getD 0 undef=c0 at h0 hc2
 generalize cargs.getD 1 undef=c1 at h1 hc2
 subst hc2
 have h0':∃ cap,c0=.slice (some ⟨b,0,none⟩) l.length cap:=by
  clear hargs
  generalize l.length=ln at h0
  cases h0 with
  | bufd _ _ _ _ _ hd=>rw [upd_same] at hd;cases hd
  | bufn _ _ _ hσ hr=>rw [upd_same] at hr;cases hr
  | buf _ _ B' b' cap cur' hσ hr hb' hlen' hcap hcur =>
   rw [upd_same] at hr;cases hr
   exact ⟨cap,rfl⟩
 obtain ⟨cap,rfl⟩:=h0'
 have h1':c1=.func (.func 29) #[] #[]:=by
  cases h1 with
  | fn _ _ vs hl' hv =>
   have:vs=#[]:=by
    apply Array.eq_empty_of_size_eq_zero
    simpa using hl'.symm
   rw [this]
 subst h1'
 have hK:Go.Sort.HoldsK encPl 3 w b 0 l.toArray:=by
  intro j hj
  rw [Go.Sort.size_flatK] at hj
  have hi:j / 3<l.length:=by simp at hj;omega
  have hc:=holds_flat hH (j / 3) (j % 3) hi (Nat.mod_lt _ (by omega))
  have e:j / 3 * 3+j % 3=j:=by omega
  rw [e] at hc
  constructor
  ·simp only [World.cell?,hbc]
   rw [Nat.zero_add]
   simp only [Option.isSome_none,Bool.false_eq_true,if_false]
   rw [hc,Go.Sort.get_flatK encPl 3 l.toArray j hj]
   simp [hi]
  ·simp [World.frozen?,hbc]
 have eg:∀ args w,(callFunc 29 args).run Tryd.prog w=.ok (.enter 29 args) w:=enters_of Tryd.func29 (by kernel_rfl) rfl
 have hS:=AnyQ.slices_SortFunc_eq srt_n6 3 Tryd.isAgg26 Tryd.sizeOf26 encPl encPl_len encPl_one Pl.cmp Pl.swo 29 #[] b 0 cap l.toArray w eg (cmpLays hok hG hnb l.toArray.size) hK hblt (by simpa using hl)
 have e6:srtRen.f 6=28:=rfl
 rw [e6] at hS
 refine .inr ⟨(srt_f6.enters rfl) _ w,?_⟩
 have esz:l.toArray.size=l.length:=by simp
 rw [esz] at hS
 refine hS.mono fun e w' ⟨he,n,os,hw⟩=>⟨.tuple #[],he,?_⟩
 have hd:∃ d:Array Pl,d=Go.Sort.pdq (ltOf Pl.cmp) l.toArray 0 l.length (Lib.bitLen l.length) true true:=⟨_,rfl⟩
 obtain ⟨d,hd⟩:=hd
 rw [← hd] at hw
 have hds:srt l=d.toList:=by rw [hd];unfold srt;rw [esz]
 have hdl:d.size=l.toArray.size:=by
  have:=srt_length l
  rw [hds] at this
  simpa using this
 subst hw
 have hK':=holdsK_sortWorldK encPl 3 w b 0 n l.toArray d os hblt hK hdl
 refine ⟨⟨⟨rfl,rfl,rfl,by rw [sw_size];omega,fun c hc=>by omega⟩,?_⟩,fun c hc hne=>sw_other hne hc,?_,.tup _ _ rfl fun i c h=>by simp at h⟩
 ·show w.drawn≤w.drawn+n
  omega
 ·have hb:(sortWorldK encPl 3 w b 0 n d os).heap[b]?=some (.cells (Go.Sort.putCells id 0 (Go.Sort.flatK encPl 3 d) cur) 26 (0,0)):=by
   show ((w.heap.modify b _) ++ os)[b]?=_
   rw [Array.getElem?_append_left (by simpa using hblt),Array.getElem?_modify,if_pos rfl,hbc]
   rfl
  refine ⟨_,hb,by simp [Go.Sort.putCells],fun i x hx=>?_⟩
  have hi:i<(srt l).length:=by
   have:=(List.getElem?_eq_some_iff.1 hx).1
   rwa [plsL_length] at this
  rw [plsL_get _ i hi] at hx
  cases hx
  refine ⟨rfl,?_,fun o c hc=>?_⟩
  ·intro c hc
   simp only [Pl.av,cellsOf,List.mem_cons,List.not_mem_nil,or_false] at hc
   rcases hc with rfl | rfl | rfl <;> rfl
  ·have ho:o<3:=(List.getElem?_eq_some_iff.1 hc).1
   have hid:i<d.size:=by rw [hds] at hi;simpa using hi
   have hcell:=(hK'.cell hid ho).1
   simp only [World.cell?,hb] at hcell
   simp only [Option.isSome_none,Bool.false_eq_true,if_false,Nat.zero_add] at hcell
   have hdi:d[i]! = (srt l)[i]:=by simp [hds,hid]
   rw [hdi] at hcell
   refine ⟨_,hcell,?_⟩
   match o,ho,hc with
   | 0,_,hc=>cases hc;exact .int _ _
   | 1,_,hc=>cases hc;exact .int _ _
   | 2,_,hc=>cases hc;exact .int _ _
end Go.Proofs.YtoiajhogondgcaaDoor

/- Distances: which places fit. By an AI agent;nothing here is trusted. -/
namespace Go.Proofs.YtoiajhogondgcaaDoor
open Go.Av

structure Di where
 f:Pl
 lo:Int
 hi:Int
instance:Inhabited Di:=⟨⟨default,0,0⟩⟩
def Di.av (d:Di):AV:=.agg [.int .i64 d.f.x,.int .i64 d.f.y,.int .i64 d.f.z,.int .i64 d.lo,.int .i64 d.hi]
def disL (l:List Di):List AV:=l.map Di.av
theorem disL_length (l:List Di):(disL l).length=l.length:=by simp [disL]
theorem disL_fx (l:List Di):∀ x ∈ disL l,fx x=true:=by
 intro x hx
 obtain ⟨n,_,rfl⟩:=List.mem_map.1 hx
 rfl
theorem disL_fxB (l:List Di):(disL l).all fx=true:=List.all_eq_true.2 (disL_fx l)
theorem disL_get (l:List Di) (i:Nat) (h:i<l.length):(disL l)[i]?=some l[i].av:=by simp [disL,h]
theorem newsOk_dis (l:List Di):newsOk 5 (disL l):=by
 intro x hx
 obtain ⟨n,_,rfl⟩:=List.mem_map.1 hx
 exact ⟨rfl,rfl⟩

theorem idxFunc_di_s (l:List Di) (f:FuncId) (caps:List AV) (p:Di→Bool) (hl:l.length<4000000000000000000) (hc:∀ c ∈ caps,fx1 c=true)
  (hp:∀ x ∈ l,Sound Tryd.prog f (x.av :: caps) (.bool (p x))):Sound Tryd.prog 58 [.sl (disL l),.fn f caps] (.int .i64 (idxOf l p)):=by
 refine sound_W f_slices_IndexFunc_api_IceDistance_api_IceDistance (Nat.le_of_ble_eq_true rfl) ?_
 simp only [c_slices_IndexFunc_api_IceDistance_api_IceDistance,disL_length,vcC,Int.reduceEq,Int.reduceNe,Int.reduceLT,Int.reduceLE,Nat.reduceEqDiff,Nat.reduceAdd,reduceIte,reduceCtorEq,Nat.reduceLT,Nat.reduceLeDiff,eq_self,vcP]
 refine W_loop (α:=PSigma fun i:Nat=>i≤l.length∧∀ x ∈ l.take i,p x=false) (fun i=>(envOf [(0,.sl (disL l)),(1,.fn f caps),(6,.sl (disL l)),(7,.int .i64 l.length),(8,.int .i64 i.1)],noStore)) (fun i=>l.length - i.1) ⟨0,by simp⟩ (weakE _ ?_) (fun ⟨i,hi,hn⟩=>?_)
 ·simp only [vcC,Int.reduceEq,Int.reduceNe,Int.reduceLT,Int.reduceLE,Nat.reduceEqDiff,Nat.reduceAdd,reduceIte,reduceCtorEq,Nat.reduceLT,Nat.reduceLeDiff,eq_self,vcP];rfl
 ·simp only [vcC,Int.reduceEq,Int.reduceNe,Int.reduceLT,Int.reduceLE,Nat.reduceEqDiff,Nat.reduceAdd,reduceIte,reduceCtorEq,Nat.reduceLT,Nat.reduceLeDiff,eq_self,vcP]
  refine brB_split (fun h=>?_) (fun h=>?_)
  ·have h':i<l.length:=by (simp only [decide_eq_true_eq,decide_eq_false_iff_not,Bool.not_true,I64,Bool.not_eq_true',Bool.not_eq_false',bne_iff_ne,beq_iff_eq,ne_eq] at *;omega)
   simp only [disL_get l i h',Di.av,Int.cast_ofNat_Int,Int.reduceToNat,Nat.zero_mul,Nat.reduceMul,Nat.zero_add,Nat.mul_one,List.getElem?_cons_zero,List.getElem?_cons_succ,true_and,vcC,Int.reduceEq,Int.reduceNe,Int.reduceLT,Int.reduceLE,Nat.reduceEqDiff,Nat.reduceAdd,reduceIte,reduceCtorEq,Nat.reduceLT,Nat.reduceLeDiff,eq_self,vcP]
   refine ⟨by omega,?_⟩
   simp only [List.map_append,List.cons_append,List.nil_append,map_fx1 hc,vcC,Int.reduceEq,Int.reduceNe,Int.reduceLT,Int.reduceLE,Nat.reduceEqDiff,Nat.reduceAdd,reduceIte,reduceCtorEq,Nat.reduceLT,Nat.reduceLeDiff,eq_self,vcP]
   have hs:=hp _ (List.getElem_mem h')
   simp only [Di.av] at hs
   refine callS_of hs ?_
   simp only [vcC,Int.reduceEq,Int.reduceNe,Int.reduceLT,Int.reduceLE,Nat.reduceEqDiff,Nat.reduceAdd,reduceIte,reduceCtorEq,Nat.reduceLT,Nat.reduceLeDiff,eq_self,vcP]
   refine brB_split (fun h=>?_) (fun h=>?_)
   ·simp only [vcC,Int.reduceEq,Int.reduceNe,Int.reduceLT,Int.reduceLE,Nat.reduceEqDiff,Nat.reduceAdd,reduceIte,reduceCtorEq,Nat.reduceLT,Nat.reduceLeDiff,eq_self,vcP]
    have hs:l.findIdx? p=some i:=by
     rw [List.findIdx?_eq_some_iff_getElem]
     refine ⟨h',h,fun j hj=>?_⟩
     have:=hn l[j] (by rw [List.mem_take_iff_getElem];exact ⟨j,by omega,rfl⟩)
     simp [this]
    simp [idxOf,hs]
   ·simp only [vcC,Int.reduceEq,Int.reduceNe,Int.reduceLT,Int.reduceLE,Nat.reduceEqDiff,Nat.reduceAdd,reduceIte,reduceCtorEq,Nat.reduceLT,Nat.reduceLeDiff,eq_self,vcP]
    refine ⟨by (simp only [decide_eq_true_eq,decide_eq_false_iff_not,Bool.not_true,I64,Bool.not_eq_true',Bool.not_eq_false',bne_iff_ne,beq_iff_eq,ne_eq] at *;omega),⟨i+1,by omega,?_⟩,by simp only;omega,weakE _ ?_⟩
    ·rw [List.take_succ_eq_append_getElem h']
     intro x hx
     rcases List.mem_append.1 hx with hx | hx
     ·exact hn x hx
     ·simp at hx;rw [hx];exact h
    ·simp only [vcC,Int.reduceEq,Int.reduceNe,Int.reduceLT,Int.reduceLE,Nat.reduceEqDiff,Nat.reduceAdd,reduceIte,reduceCtorEq,Nat.reduceLT,Nat.reduceLeDiff,eq_self,vcP];simp
  ·simp only [vcC,Int.reduceEq,Int.reduceNe,Int.reduceLT,Int.reduceLE,Nat.reduceEqDiff,Nat.reduceAdd,reduceIte,reduceCtorEq,Nat.reduceLT,Nat.reduceLeDiff,eq_self,vcP]
   have:i=l.length:=by (simp only [decide_eq_true_eq,decide_eq_false_iff_not,Bool.not_true,I64,Bool.not_eq_true',Bool.not_eq_false',bne_iff_ne,beq_iff_eq,ne_eq] at *;omega)
   subst this
   rw [List.take_length] at hn
   have hs:l.findIdx? p=none:=List.findIdx?_eq_none_iff.2 hn
   simp [idxOf,hs]
theorem contFunc_di_s (l:List Di) (f:FuncId) (caps:List AV) (p:Di→Bool) (hl:l.length<4000000000000000000) (hc:∀ c ∈ caps,fx1 c=true)
  (hp:∀ x ∈ l,Sound Tryd.prog f (x.av :: caps) (.bool (p x))):Sound Tryd.prog 47 [.sl (disL l),.fn f caps] (.bool (l.any p)):=by
 refine sound_W f_slices_ContainsFunc_api_IceDistance_api_IceDistance (Nat.le_of_ble_eq_true rfl) ?_
 simp only [c_slices_ContainsFunc_api_IceDistance_api_IceDistance,map_fx1 hc,vcC,Int.reduceEq,Int.reduceNe,Int.reduceLT,Int.reduceLE,Nat.reduceEqDiff,Nat.reduceAdd,reduceIte,reduceCtorEq,Nat.reduceLT,Nat.reduceLeDiff,eq_self,vcP]
 refine callS_of (idxFunc_di_s l f caps p hl hc hp) ?_
 simp only [vcC,Int.reduceEq,Int.reduceNe,Int.reduceLT,Int.reduceLE,Nat.reduceEqDiff,Nat.reduceAdd,reduceIte,reduceCtorEq,Nat.reduceLT,Nat.reduceLeDiff,eq_self,vcP]
 rw [idxOf_any]

def Pl.in (p:Pl) (n:Int):Prop:=(-n≤p.x∧p.x≤n)∧(-n≤p.y∧p.y≤n)∧(-n≤p.z∧p.z≤n)
def Pl.sq (p q:Pl):Int:=(p.x - q.x) * (p.x - q.x)+(p.y - q.y) * (p.y - q.y)+(p.z - q.z) * (p.z - q.z)
def Pl.fit (p:Pl) (d:Di):Bool:=decide (d.lo≤p.sq d.f∧p.sq d.f≤d.hi)
theorem sq_le {a n:Int} (h1 : -n≤a) (h2:a≤n):0≤a * a∧a * a≤n * n:=by
 rcases Int.le_total 0 a with h | h
 ·exact ⟨Int.mul_nonneg h h,Int.mul_le_mul h2 h2 h (by omega)⟩
 ·refine ⟨Int.mul_nonneg_of_nonpos_of_nonpos h h,?_⟩
  have:=Int.mul_le_mul (a := -a) (b := -a) (c:=n) (d:=n) (by omega) (by omega) (by omega) (by omega)
  rw [Int.neg_mul_neg] at this
  exact this
theorem Pl.sq_bd {p q:Pl} (hp:p.in 2000) (hq:q.in 2000):0≤p.sq q∧p.sq q≤48000000:=by
 obtain ⟨⟨a1,a2⟩,⟨a3,a4⟩,a5,a6⟩:=hp
 obtain ⟨⟨b1,b2⟩,⟨b3,b4⟩,b5,b6⟩:=hq
 have h1:=sq_le (a:=p.x - q.x) (n:=4000) (by omega) (by omega)
 have h2:=sq_le (a:=p.y - q.y) (n:=4000) (by omega) (by omega)
 have h3:=sq_le (a:=p.z - q.z) (n:=4000) (by omega) (by omega)
 unfold Pl.sq
 omega
theorem fits_1_s (p:Pl) (d:Di) (hp:p.in 2000) (hq:d.f.in 2000):Sound Tryd.prog 48 [d.av,.eptr p.av 0] (.bool (!p.fit d)):=by
 refine sound_W f_ice_fits_1 (Nat.le_of_ble_eq_true rfl) ?_
 have hb:=Pl.sq_bd hp hq
 obtain ⟨⟨a1,a2⟩,⟨a3,a4⟩,a5,a6⟩:=hp
 obtain ⟨⟨b1,b2⟩,⟨b3,b4⟩,b5,b6⟩:=hq
 have h1:=sq_le (a:=p.x - d.f.x) (n:=4000) (by omega) (by omega)
 have h2:=sq_le (a:=p.y - d.f.y) (n:=4000) (by omega) (by omega)
 have h3:=sq_le (a:=p.z - d.f.z) (n:=4000) (by omega) (by omega)
 simp only [c_ice_fits_1,Di.av,Pl.av,rnd_s,Int.reduceAdd,Int.reduceSub,decide_true,decide_false,i64_1,i64_2,i64_3,i64_4,true_and,Int.one_mul,Int.cast_ofNat_Int,Int.reduceToNat,Nat.zero_mul,Nat.reduceMul,Nat.zero_add,Nat.mul_one,List.getElem?_cons_zero,List.getElem?_cons_succ,vZ,Int.reduceEq,Int.reduceNe,Int.reduceLT,Int.reduceLE,Nat.reduceEqDiff,Nat.reduceAdd,reduceIte,reduceCtorEq,Nat.reduceLT,Nat.reduceLeDiff,Nat.reduceShiftRight,Nat.reduceMod]
 refine ⟨by (simp only [decide_eq_true_eq,decide_eq_false_iff_not,Bool.not_true,I64,Bool.not_eq_true',Bool.not_eq_false',bne_iff_ne,beq_iff_eq,ne_eq] at *;omega),by (simp only [decide_eq_true_eq,decide_eq_false_iff_not,Bool.not_true,I64,Bool.not_eq_true',Bool.not_eq_false',bne_iff_ne,beq_iff_eq,ne_eq] at *;omega),by (simp only [decide_eq_true_eq,decide_eq_false_iff_not,Bool.not_true,I64,Bool.not_eq_true',Bool.not_eq_false',bne_iff_ne,beq_iff_eq,ne_eq] at *;omega),by (simp only [decide_eq_true_eq,decide_eq_false_iff_not,Bool.not_true,I64,Bool.not_eq_true',Bool.not_eq_false',bne_iff_ne,beq_iff_eq,ne_eq] at *;omega),by (simp only [decide_eq_true_eq,decide_eq_false_iff_not,Bool.not_true,I64,Bool.not_eq_true',Bool.not_eq_false',bne_iff_ne,beq_iff_eq,ne_eq] at *;omega),by (simp only [decide_eq_true_eq,decide_eq_false_iff_not,Bool.not_true,I64,Bool.not_eq_true',Bool.not_eq_false',bne_iff_ne,beq_iff_eq,ne_eq] at *;omega),by (simp only [decide_eq_true_eq,decide_eq_false_iff_not,Bool.not_true,I64,Bool.not_eq_true',Bool.not_eq_false',bne_iff_ne,beq_iff_eq,ne_eq] at *;omega),by (simp only [decide_eq_true_eq,decide_eq_false_iff_not,Bool.not_true,I64,Bool.not_eq_true',Bool.not_eq_false',bne_iff_ne,beq_iff_eq,ne_eq] at *;omega),?_⟩
 refine callS_of (within_s _ _ _) ?_
 simp only [rnd_s,Int.reduceAdd,Int.reduceSub,decide_true,decide_false,i64_1,i64_2,i64_3,i64_4,true_and,Int.one_mul,Int.cast_ofNat_Int,Int.reduceToNat,Nat.zero_mul,Nat.reduceMul,Nat.zero_add,Nat.mul_one,List.getElem?_cons_zero,List.getElem?_cons_succ,vZ,Int.reduceEq,Int.reduceNe,Int.reduceLT,Int.reduceLE,Nat.reduceEqDiff,Nat.reduceAdd,reduceIte,reduceCtorEq,Nat.reduceLT,Nat.reduceLeDiff,Nat.reduceShiftRight,Nat.reduceMod]
 rfl
theorem fits_s (p:Pl) (l:List Di) (hl:l.length≤8) (hp:p.in 2000) (hq:∀ d ∈ l,d.f.in 2000):Sound Tryd.prog 27 [p.av,.sl (disL l)] (.bool (l.all p.fit)):=by
 refine sound_W f_ice_fits (Nat.le_of_ble_eq_true rfl) ?_
 simp only [c_ice_fits,Pl.av,rnd_s,Int.reduceAdd,Int.reduceSub,decide_true,decide_false,i64_1,i64_2,i64_3,i64_4,true_and,Int.one_mul,Int.cast_ofNat_Int,Int.reduceToNat,Nat.zero_mul,Nat.reduceMul,Nat.zero_add,Nat.mul_one,List.getElem?_cons_zero,List.getElem?_cons_succ,vZ,Int.reduceEq,Int.reduceNe,Int.reduceLT,Int.reduceLE,Nat.reduceEqDiff,Nat.reduceAdd,reduceIte,reduceCtorEq,Nat.reduceLT,Nat.reduceLeDiff,Nat.reduceShiftRight,Nat.reduceMod]
 have hc:=contFunc_di_s l 48 [.eptr p.av 0] (fun d=>!p.fit d) (by omega) (by intro c hc;simp at hc;rw [hc];rfl) (fun d hd=>fits_1_s p d hp (hq d hd))
 simp only [Pl.av] at hc
 refine callS_of hc ?_
 simp only [rnd_s,Int.reduceAdd,Int.reduceSub,decide_true,decide_false,i64_1,i64_2,i64_3,i64_4,true_and,Int.one_mul,Int.cast_ofNat_Int,Int.reduceToNat,Nat.zero_mul,Nat.reduceMul,Nat.zero_add,Nat.mul_one,List.getElem?_cons_zero,List.getElem?_cons_succ,vZ,Int.reduceEq,Int.reduceNe,Int.reduceLT,Int.reduceLE,Nat.reduceEqDiff,Nat.reduceAdd,reduceIte,reduceCtorEq,Nat.reduceLT,Nat.reduceLeDiff,Nat.reduceShiftRight,Nat.reduceMod]
 congr 1
 clear hc hl hq
 induction l with
 | nil=>rfl
 | cons d l ih=>simp only [List.any_cons,List.all_cons,Bool.not_or,Bool.not_not,ih]
theorem isPlace_s (n:Int):Sound Tryd.prog 45 [.int .i64 n] (.bool (decide (-100000≤n∧n≤100000))):=by
 refine sound_W f_ice_isPlace (Nat.le_of_ble_eq_true rfl) ?_
 simp only [c_ice_isPlace,rnd_s,Int.reduceAdd,Int.reduceSub,decide_true,decide_false,i64_1,i64_2,i64_3,i64_4,true_and,Int.one_mul,Int.cast_ofNat_Int,Int.reduceToNat,Nat.zero_mul,Nat.reduceMul,Nat.zero_add,Nat.mul_one,List.getElem?_cons_zero,List.getElem?_cons_succ,vZ,Int.reduceEq,Int.reduceNe,Int.reduceLT,Int.reduceLE,Nat.reduceEqDiff,Nat.reduceAdd,reduceIte,reduceCtorEq,Nat.reduceLT,Nat.reduceLeDiff,Nat.reduceShiftRight,Nat.reduceMod]
 refine callS_of (within_s _ _ _) ?_
 simp only [rnd_s,Int.reduceAdd,Int.reduceSub,decide_true,decide_false,i64_1,i64_2,i64_3,i64_4,true_and,Int.one_mul,Int.cast_ofNat_Int,Int.reduceToNat,Nat.zero_mul,Nat.reduceMul,Nat.zero_add,Nat.mul_one,List.getElem?_cons_zero,List.getElem?_cons_succ,vZ,Int.reduceEq,Int.reduceNe,Int.reduceLT,Int.reduceLE,Nat.reduceEqDiff,Nat.reduceAdd,reduceIte,reduceCtorEq,Nat.reduceLT,Nat.reduceLeDiff,Nat.reduceShiftRight,Nat.reduceMod]
theorem isSquare_s (n:Int):Sound Tryd.prog 46 [.int .i64 n] (.bool (decide (0≤n∧n≤1000000000000))):=by
 refine sound_W f_ice_distanceErr_1 (Nat.le_of_ble_eq_true rfl) ?_
 simp only [c_ice_distanceErr_1,rnd_s,Int.reduceAdd,Int.reduceSub,decide_true,decide_false,i64_1,i64_2,i64_3,i64_4,true_and,Int.one_mul,Int.cast_ofNat_Int,Int.reduceToNat,Nat.zero_mul,Nat.reduceMul,Nat.zero_add,Nat.mul_one,List.getElem?_cons_zero,List.getElem?_cons_succ,vZ,Int.reduceEq,Int.reduceNe,Int.reduceLT,Int.reduceLE,Nat.reduceEqDiff,Nat.reduceAdd,reduceIte,reduceCtorEq,Nat.reduceLT,Nat.reduceLeDiff,Nat.reduceShiftRight,Nat.reduceMod]
 refine callS_of (within_s _ _ _) ?_
 simp only [rnd_s,Int.reduceAdd,Int.reduceSub,decide_true,decide_false,i64_1,i64_2,i64_3,i64_4,true_and,Int.one_mul,Int.cast_ofNat_Int,Int.reduceToNat,Nat.zero_mul,Nat.reduceMul,Nat.zero_add,Nat.mul_one,List.getElem?_cons_zero,List.getElem?_cons_succ,vZ,Int.reduceEq,Int.reduceNe,Int.reduceLT,Int.reduceLE,Nat.reduceEqDiff,Nat.reduceAdd,reduceIte,reduceCtorEq,Nat.reduceLT,Nat.reduceLeDiff,Nat.reduceShiftRight,Nat.reduceMod]
theorem sideErr_s (lo hi:Int) (h1 : -100000≤lo∧lo≤100000) (h2 : -100000≤hi∧hi≤100000) (h3:lo≤hi) (h4:hi - lo≤20):Sound Tryd.prog 25 [.agg [.int .i64 lo,.int .i64 hi]] (.int .i64 0):=by
 refine sound_W f_ice_sideErr (Nat.le_of_ble_eq_true rfl) ?_
 simp only [c_ice_sideErr,rnd_s,Int.reduceAdd,Int.reduceSub,decide_true,decide_false,i64_1,i64_2,i64_3,i64_4,true_and,Int.one_mul,Int.cast_ofNat_Int,Int.reduceToNat,Nat.zero_mul,Nat.reduceMul,Nat.zero_add,Nat.mul_one,List.getElem?_cons_zero,List.getElem?_cons_succ,vZ,Int.reduceEq,Int.reduceNe,Int.reduceLT,Int.reduceLE,Nat.reduceEqDiff,Nat.reduceAdd,reduceIte,reduceCtorEq,Nat.reduceLT,Nat.reduceLeDiff,Nat.reduceShiftRight,Nat.reduceMod]
 refine callS_of (isPlace_s _) ?_
 simp only [h1,and_self,rnd_s,Int.reduceAdd,Int.reduceSub,decide_true,decide_false,i64_1,i64_2,i64_3,i64_4,true_and,Int.one_mul,Int.cast_ofNat_Int,Int.reduceToNat,Nat.zero_mul,Nat.reduceMul,Nat.zero_add,Nat.mul_one,List.getElem?_cons_zero,List.getElem?_cons_succ,vZ,Int.reduceEq,Int.reduceNe,Int.reduceLT,Int.reduceLE,Nat.reduceEqDiff,Nat.reduceAdd,reduceIte,reduceCtorEq,Nat.reduceLT,Nat.reduceLeDiff,Nat.reduceShiftRight,Nat.reduceMod]
 refine callS_of (isPlace_s _) ?_
 simp only [h2,and_self,rnd_s,Int.reduceAdd,Int.reduceSub,decide_true,decide_false,i64_1,i64_2,i64_3,i64_4,true_and,Int.one_mul,Int.cast_ofNat_Int,Int.reduceToNat,Nat.zero_mul,Nat.reduceMul,Nat.zero_add,Nat.mul_one,List.getElem?_cons_zero,List.getElem?_cons_succ,vZ,Int.reduceEq,Int.reduceNe,Int.reduceLT,Int.reduceLE,Nat.reduceEqDiff,Nat.reduceAdd,reduceIte,reduceCtorEq,Nat.reduceLT,Nat.reduceLeDiff,Nat.reduceShiftRight,Nat.reduceMod]
 refine callS_of (unless_s _ _) ?_
 have p1:decide (lo≤hi)=true:=decide_eq_true h3
 have p2:decide (hi - lo≤20)=true:=decide_eq_true h4
 simp only [p1,if_true,rnd_s,Int.reduceAdd,Int.reduceSub,decide_true,decide_false,i64_1,i64_2,i64_3,i64_4,true_and,Int.one_mul,Int.cast_ofNat_Int,Int.reduceToNat,Nat.zero_mul,Nat.reduceMul,Nat.zero_add,Nat.mul_one,List.getElem?_cons_zero,List.getElem?_cons_succ,vZ,Int.reduceEq,Int.reduceNe,Int.reduceLT,Int.reduceLE,Nat.reduceEqDiff,Nat.reduceAdd,reduceIte,reduceCtorEq,Nat.reduceLT,Nat.reduceLeDiff,Nat.reduceShiftRight,Nat.reduceMod]
 refine callS_of (unless_s _ _) ?_
 simp only [if_true,rnd_s,Int.reduceAdd,Int.reduceSub,decide_true,decide_false,i64_1,i64_2,i64_3,i64_4,true_and,Int.one_mul,Int.cast_ofNat_Int,Int.reduceToNat,Nat.zero_mul,Nat.reduceMul,Nat.zero_add,Nat.mul_one,List.getElem?_cons_zero,List.getElem?_cons_succ,vZ,Int.reduceEq,Int.reduceNe,Int.reduceLT,Int.reduceLE,Nat.reduceEqDiff,Nat.reduceAdd,reduceIte,reduceCtorEq,Nat.reduceLT,Nat.reduceLeDiff,Nat.reduceShiftRight,Nat.reduceMod]
 refine callS_of (first2_s _ _) ?_
 simp only [if_false,rnd_s,Int.reduceAdd,Int.reduceSub,decide_true,decide_false,i64_1,i64_2,i64_3,i64_4,true_and,Int.one_mul,Int.cast_ofNat_Int,Int.reduceToNat,Nat.zero_mul,Nat.reduceMul,Nat.zero_add,Nat.mul_one,List.getElem?_cons_zero,List.getElem?_cons_succ,vZ,Int.reduceEq,Int.reduceNe,Int.reduceLT,Int.reduceLE,Nat.reduceEqDiff,Nat.reduceAdd,reduceIte,reduceCtorEq,Nat.reduceLT,Nat.reduceLeDiff,Nat.reduceShiftRight,Nat.reduceMod]
 refine ⟨usedL_buf rfl (ints_imm [_,_]) rfl,?_⟩
 refine ⟨by (simp only [decide_eq_true_eq,decide_eq_false_iff_not,Bool.not_true,I64,Bool.not_eq_true',Bool.not_eq_false',bne_iff_ne,beq_iff_eq,ne_eq] at *;omega),?_⟩
 simp only [p2,rnd_s,Int.reduceAdd,Int.reduceSub,decide_true,decide_false,i64_1,i64_2,i64_3,i64_4,true_and,Int.one_mul,Int.cast_ofNat_Int,Int.reduceToNat,Nat.zero_mul,Nat.reduceMul,Nat.zero_add,Nat.mul_one,List.getElem?_cons_zero,List.getElem?_cons_succ,vZ,Int.reduceEq,Int.reduceNe,Int.reduceLT,Int.reduceLE,Nat.reduceEqDiff,Nat.reduceAdd,reduceIte,reduceCtorEq,Nat.reduceLT,Nat.reduceLeDiff,Nat.reduceShiftRight,Nat.reduceMod]
 refine callS_of (unless_s _ _) ?_
 simp only [if_true,rnd_s,Int.reduceAdd,Int.reduceSub,decide_true,decide_false,i64_1,i64_2,i64_3,i64_4,true_and,Int.one_mul,Int.cast_ofNat_Int,Int.reduceToNat,Nat.zero_mul,Nat.reduceMul,Nat.zero_add,Nat.mul_one,List.getElem?_cons_zero,List.getElem?_cons_succ,vZ,Int.reduceEq,Int.reduceNe,Int.reduceLT,Int.reduceLE,Nat.reduceEqDiff,Nat.reduceAdd,reduceIte,reduceCtorEq,Nat.reduceLT,Nat.reduceLeDiff,Nat.reduceShiftRight,Nat.reduceMod]
structure Di.Ok (d:Di):Prop where
 f:d.f.in 2000
 lo:0≤d.lo
 le:d.lo≤d.hi
 hi:d.hi≤1000000000000
theorem distanceErr_s (d:Di) (h:d.Ok):Sound Tryd.prog 26 [d.av] (.int .i64 0):=by
 refine sound_W f_ice_distanceErr (Nat.le_of_ble_eq_true rfl) ?_
 obtain ⟨⟨⟨a1,a2⟩,⟨a3,a4⟩,a5,a6⟩,h2,h3,h4⟩:=h
 have p1:decide (-100000≤d.f.x∧d.f.x≤100000)=true:=decide_eq_true (by omega)
 have p2:decide (-100000≤d.f.y∧d.f.y≤100000)=true:=decide_eq_true (by omega)
 have p3:decide (-100000≤d.f.z∧d.f.z≤100000)=true:=decide_eq_true (by omega)
 have p4:decide (0≤d.lo∧d.lo≤1000000000000)=true:=decide_eq_true (by omega)
 have p5:decide (0≤d.hi∧d.hi≤1000000000000)=true:=decide_eq_true (by omega)
 have p6:decide (d.lo≤d.hi)=true:=decide_eq_true h3
 simp only [c_ice_distanceErr,Di.av,rnd_s,Int.reduceAdd,Int.reduceSub,decide_true,decide_false,i64_1,i64_2,i64_3,i64_4,true_and,Int.one_mul,Int.cast_ofNat_Int,Int.reduceToNat,Nat.zero_mul,Nat.reduceMul,Nat.zero_add,Nat.mul_one,List.getElem?_cons_zero,List.getElem?_cons_succ,vZ,Int.reduceEq,Int.reduceNe,Int.reduceLT,Int.reduceLE,Nat.reduceEqDiff,Nat.reduceAdd,reduceIte,reduceCtorEq,Nat.reduceLT,Nat.reduceLeDiff,Nat.reduceShiftRight,Nat.reduceMod]
 refine callS_of (isPlace_s _) ?_
 simp only [p1,rnd_s,Int.reduceAdd,Int.reduceSub,decide_true,decide_false,i64_1,i64_2,i64_3,i64_4,true_and,Int.one_mul,Int.cast_ofNat_Int,Int.reduceToNat,Nat.zero_mul,Nat.reduceMul,Nat.zero_add,Nat.mul_one,List.getElem?_cons_zero,List.getElem?_cons_succ,vZ,Int.reduceEq,Int.reduceNe,Int.reduceLT,Int.reduceLE,Nat.reduceEqDiff,Nat.reduceAdd,reduceIte,reduceCtorEq,Nat.reduceLT,Nat.reduceLeDiff,Nat.reduceShiftRight,Nat.reduceMod]
 refine callS_of (isPlace_s _) ?_
 simp only [p2,rnd_s,Int.reduceAdd,Int.reduceSub,decide_true,decide_false,i64_1,i64_2,i64_3,i64_4,true_and,Int.one_mul,Int.cast_ofNat_Int,Int.reduceToNat,Nat.zero_mul,Nat.reduceMul,Nat.zero_add,Nat.mul_one,List.getElem?_cons_zero,List.getElem?_cons_succ,vZ,Int.reduceEq,Int.reduceNe,Int.reduceLT,Int.reduceLE,Nat.reduceEqDiff,Nat.reduceAdd,reduceIte,reduceCtorEq,Nat.reduceLT,Nat.reduceLeDiff,Nat.reduceShiftRight,Nat.reduceMod]
 refine callS_of (isPlace_s _) ?_
 simp only [p3,rnd_s,Int.reduceAdd,Int.reduceSub,decide_true,decide_false,i64_1,i64_2,i64_3,i64_4,true_and,Int.one_mul,Int.cast_ofNat_Int,Int.reduceToNat,Nat.zero_mul,Nat.reduceMul,Nat.zero_add,Nat.mul_one,List.getElem?_cons_zero,List.getElem?_cons_succ,vZ,Int.reduceEq,Int.reduceNe,Int.reduceLT,Int.reduceLE,Nat.reduceEqDiff,Nat.reduceAdd,reduceIte,reduceCtorEq,Nat.reduceLT,Nat.reduceLeDiff,Nat.reduceShiftRight,Nat.reduceMod]
 refine callS_of (isSquare_s _) ?_
 simp only [p4,rnd_s,Int.reduceAdd,Int.reduceSub,decide_true,decide_false,i64_1,i64_2,i64_3,i64_4,true_and,Int.one_mul,Int.cast_ofNat_Int,Int.reduceToNat,Nat.zero_mul,Nat.reduceMul,Nat.zero_add,Nat.mul_one,List.getElem?_cons_zero,List.getElem?_cons_succ,vZ,Int.reduceEq,Int.reduceNe,Int.reduceLT,Int.reduceLE,Nat.reduceEqDiff,Nat.reduceAdd,reduceIte,reduceCtorEq,Nat.reduceLT,Nat.reduceLeDiff,Nat.reduceShiftRight,Nat.reduceMod]
 refine callS_of (isSquare_s _) ?_
 simp only [p5,rnd_s,Int.reduceAdd,Int.reduceSub,decide_true,decide_false,i64_1,i64_2,i64_3,i64_4,true_and,Int.one_mul,Int.cast_ofNat_Int,Int.reduceToNat,Nat.zero_mul,Nat.reduceMul,Nat.zero_add,Nat.mul_one,List.getElem?_cons_zero,List.getElem?_cons_succ,vZ,Int.reduceEq,Int.reduceNe,Int.reduceLT,Int.reduceLE,Nat.reduceEqDiff,Nat.reduceAdd,reduceIte,reduceCtorEq,Nat.reduceLT,Nat.reduceLeDiff,Nat.reduceShiftRight,Nat.reduceMod]
 refine callS_of (unless_s _ _) ?_
 simp only [p6,if_true,rnd_s,Int.reduceAdd,Int.reduceSub,decide_true,decide_false,i64_1,i64_2,i64_3,i64_4,true_and,Int.one_mul,Int.cast_ofNat_Int,Int.reduceToNat,Nat.zero_mul,Nat.reduceMul,Nat.zero_add,Nat.mul_one,List.getElem?_cons_zero,List.getElem?_cons_succ,vZ,Int.reduceEq,Int.reduceNe,Int.reduceLT,Int.reduceLE,Nat.reduceEqDiff,Nat.reduceAdd,reduceIte,reduceCtorEq,Nat.reduceLT,Nat.reduceLeDiff,Nat.reduceShiftRight,Nat.reduceMod]
 refine callS_of (unless_s _ _) ?_
 simp only [if_true,rnd_s,Int.reduceAdd,Int.reduceSub,decide_true,decide_false,i64_1,i64_2,i64_3,i64_4,true_and,Int.one_mul,Int.cast_ofNat_Int,Int.reduceToNat,Nat.zero_mul,Nat.reduceMul,Nat.zero_add,Nat.mul_one,List.getElem?_cons_zero,List.getElem?_cons_succ,vZ,Int.reduceEq,Int.reduceNe,Int.reduceLT,Int.reduceLE,Nat.reduceEqDiff,Nat.reduceAdd,reduceIte,reduceCtorEq,Nat.reduceLT,Nat.reduceLeDiff,Nat.reduceShiftRight,Nat.reduceMod]
 refine callS_of (first2_s _ _) ?_
 simp only [if_false,rnd_s,Int.reduceAdd,Int.reduceSub,decide_true,decide_false,i64_1,i64_2,i64_3,i64_4,true_and,Int.one_mul,Int.cast_ofNat_Int,Int.reduceToNat,Nat.zero_mul,Nat.reduceMul,Nat.zero_add,Nat.mul_one,List.getElem?_cons_zero,List.getElem?_cons_succ,vZ,Int.reduceEq,Int.reduceNe,Int.reduceLT,Int.reduceLE,Nat.reduceEqDiff,Nat.reduceAdd,reduceIte,reduceCtorEq,Nat.reduceLT,Nat.reduceLeDiff,Nat.reduceShiftRight,Nat.reduceMod]
 exact usedL_buf rfl (ints_imm [_,_]) rfl
end Go.Proofs.YtoiajhogondgcaaDoor

/- The places in a box that fit all distances. By an AI agent;nothing here is trusted. -/
namespace Go.Proofs.YtoiajhogondgcaaDoor
open Go.Av

theorem fm_succ {α:Type} (f:Nat→List α) (k:Nat):(List.range (k+1)).flatMap f=(List.range k).flatMap f ++ f k:=by
 rw [List.range_succ,List.flatMap_append];simp
theorem fm_len {α:Type} (f:Nat→List α) (c:Nat) (h:∀ j,(f j).length≤c):∀ k,((List.range k).flatMap f).length≤k * c
 | 0=>by simp
 | k+1=>by
  rw [fm_succ,List.length_append,Nat.add_mul]
  have:=fm_len f c h k
  have:=h k
  omega

structure Bx where
 xl:Int
 xh:Int
 yl:Int
 yh:Int
 zl:Int
 zh:Int
structure Bx.Ok (b:Bx):Prop where
 x : -1500≤b.xl∧b.xl≤b.xh∧b.xh≤1500∧b.xh - b.xl≤20
 y : -1500≤b.yl∧b.yl≤b.yh∧b.yh≤1500∧b.yh - b.yl≤20
 z : -1500≤b.zl∧b.zl≤b.zh∧b.zh≤1500∧b.zh - b.zl≤20
structure Se where
 b:Bx
 d:List Di
def Se.av (s:Se):AV:=.agg [.int .i64 s.b.xl,.int .i64 s.b.xh,.int .i64 s.b.yl,.int .i64 s.b.yh,.int .i64 s.b.zl,.int .i64 s.b.zh,.sl (disL s.d)]
structure Se.Ok (s:Se):Prop where
 b:s.b.Ok
 n:s.d.length≤8
 d:∀ d ∈ s.d,d.Ok
def Bx.nx (b:Bx):Nat:=(b.xh - b.xl+1).toNat
def Bx.ny (b:Bx):Nat:=(b.yh - b.yl+1).toNat
def Bx.nz (b:Bx):Nat:=(b.zh - b.zl+1).toNat
def Se.pl (s:Se) (i j k:Nat):Pl:=⟨s.b.xl+k,s.b.yl+j,s.b.zl+i⟩
def Se.c3 (s:Se) (i j k:Nat):List Pl:=if s.d.all (s.pl i j k).fit then [s.pl i j k] else []
def Se.c2 (s:Se) (i j n:Nat):List Pl:=(List.range n).flatMap (s.c3 i j)
def Se.c1 (s:Se) (i n:Nat):List Pl:=(List.range n).flatMap fun j=>s.c2 i j s.b.nx
def Se.c0 (s:Se) (n:Nat):List Pl:=(List.range n).flatMap fun i=>s.c1 i s.b.ny
def Se.cand (s:Se):List Pl:=s.c0 s.b.nz
theorem c3_len (s:Se) (i j k:Nat):(s.c3 i j k).length≤1:=by unfold Se.c3;split <;> simp
theorem c2_len (s:Se) (i j n:Nat):(s.c2 i j n).length≤n * 1:=fm_len _ _ (fun k=>c3_len s i j k) n
theorem c1_len (s:Se) (i n:Nat):(s.c1 i n).length≤n * (s.b.nx * 1):=fm_len _ _ (fun j=>c2_len s i j _) n
theorem c0_len (s:Se) (n:Nat):(s.c0 n).length≤n * (s.b.ny * (s.b.nx * 1)):=fm_len _ _ (fun i=>c1_len s i _) n
theorem c2_succ (s:Se) (i j n:Nat):s.c2 i j (n+1)=s.c2 i j n ++ s.c3 i j n:=fm_succ _ _
theorem c1_succ (s:Se) (i n:Nat):s.c1 i (n+1)=s.c1 i n ++ s.c2 i n s.b.nx:=fm_succ _ _
theorem c0_succ (s:Se) (n:Nat):s.c0 (n+1)=s.c0 n ++ s.c1 n s.b.ny:=fm_succ _ _
theorem Bx.Ok.n {b:Bx} (h:b.Ok):b.nx≤21∧b.ny≤21∧b.nz≤21:=by
 obtain ⟨h1,h2,h3⟩:=h
 unfold Bx.nx Bx.ny Bx.nz
 omega
theorem all_len {s:Se} (h:s.b.Ok) (i j k:Nat) (hi:i≤21) (hj:j≤21) (hk:k≤21):(s.c0 i).length+(s.c1 i j).length+(s.c2 i j k).length≤20000:=by
 obtain ⟨n1,n2,n3⟩:=h.n
 have a1:=c0_len s i
 have a2:=c1_len s i j
 have a3:=c2_len s i j k
 have b1:j * (s.b.nx * 1)≤21 * (21 * 1):=Nat.mul_le_mul hj (Nat.mul_le_mul n1 (Nat.le_refl _))
 have b2:i * (s.b.ny * (s.b.nx * 1))≤21 * (21 * (21 * 1)):=Nat.mul_le_mul hi (Nat.mul_le_mul n2 (Nat.mul_le_mul n1 (Nat.le_refl _)))
 omega
theorem cand_mem {s:Se} {p:Pl} (h1:s.b.xl≤p.x∧p.x≤s.b.xh) (h2:s.b.yl≤p.y∧p.y≤s.b.yh) (h3:s.b.zl≤p.z∧p.z≤s.b.zh) (hf:s.d.all p.fit=true):p ∈ s.cand:=by
 have hp:s.pl (p.z - s.b.zl).toNat (p.y - s.b.yl).toNat (p.x - s.b.xl).toNat=p:=by
  unfold Se.pl
  apply Pl.ext' <;> simp only <;> omega
 unfold Se.cand Se.c0
 rw [List.mem_flatMap]
 refine ⟨(p.z - s.b.zl).toNat,List.mem_range.2 (by unfold Bx.nz;omega),?_⟩
 unfold Se.c1
 rw [List.mem_flatMap]
 refine ⟨(p.y - s.b.yl).toNat,List.mem_range.2 (by unfold Bx.ny;omega),?_⟩
 unfold Se.c2
 rw [List.mem_flatMap]
 refine ⟨(p.x - s.b.xl).toNat,List.mem_range.2 (by unfold Bx.nx;omega),?_⟩
 unfold Se.c3
 rw [hp,if_pos hf]
 simp
theorem first4_s:Sound Tryd.prog 19 [.sl [.int .i64 0,.int .i64 0,.int .i64 0,.int .i64 0]] (.int .i64 0):=first_s [0,0,0,0] (by simp)

set_option maxHeartbeats 4000000 in
theorem PlacesIn_s (s:Se) (hs:s.Ok) (hpos:0<s.cand.length):Sound Tryd.prog 11 [s.av] (.tup [.sl (plsL (srt s.cand)),.int .i64 0]):=by
 refine sound_W f_ice_PlacesIn (Nat.le_of_ble_eq_true rfl) ?_
 obtain ⟨⟨⟨x1,x2,x3,x4⟩,⟨y1,y2,y3,y4⟩,z1,z2,z3,z4⟩,h8,hd⟩:=hs
 obtain ⟨m1,m2,m3⟩:=Bx.Ok.n ⟨⟨x1,x2,x3,x4⟩,⟨y1,y2,y3,y4⟩,⟨z1,z2,z3,z4⟩⟩
 have hML:1000000000≤maxLen:=by decide
 have p8:decide ((s.d.length:Int)≤8)=true:=decide_eq_true (by omega)
 simp only [c_ice_PlacesIn,Se.av,rnd_s,Int.reduceAdd,Int.reduceSub,decide_true,decide_false,i64_1,i64_2,i64_3,i64_4,true_and,Int.one_mul,Int.cast_ofNat_Int,Int.reduceToNat,Nat.zero_mul,Nat.reduceMul,Nat.zero_add,Nat.mul_one,List.getElem?_cons_zero,List.getElem?_cons_succ,vZ,Int.reduceEq,Int.reduceNe,Int.reduceLT,Int.reduceLE,Nat.reduceEqDiff,Nat.reduceAdd,reduceIte,reduceCtorEq,Nat.reduceLT,Nat.reduceLeDiff,Nat.reduceShiftRight,Nat.reduceMod]
 refine callS_of (sideErr_s _ _ (by omega) (by omega) x2 x4) ?_
 simp only [rnd_s,Int.reduceAdd,Int.reduceSub,decide_true,decide_false,i64_1,i64_2,i64_3,i64_4,true_and,Int.one_mul,Int.cast_ofNat_Int,Int.reduceToNat,Nat.zero_mul,Nat.reduceMul,Nat.zero_add,Nat.mul_one,List.getElem?_cons_zero,List.getElem?_cons_succ,vZ,Int.reduceEq,Int.reduceNe,Int.reduceLT,Int.reduceLE,Nat.reduceEqDiff,Nat.reduceAdd,reduceIte,reduceCtorEq,Nat.reduceLT,Nat.reduceLeDiff,Nat.reduceShiftRight,Nat.reduceMod]
 refine callS_of (sideErr_s _ _ (by omega) (by omega) y2 y4) ?_
 simp only [rnd_s,Int.reduceAdd,Int.reduceSub,decide_true,decide_false,i64_1,i64_2,i64_3,i64_4,true_and,Int.one_mul,Int.cast_ofNat_Int,Int.reduceToNat,Nat.zero_mul,Nat.reduceMul,Nat.zero_add,Nat.mul_one,List.getElem?_cons_zero,List.getElem?_cons_succ,vZ,Int.reduceEq,Int.reduceNe,Int.reduceLT,Int.reduceLE,Nat.reduceEqDiff,Nat.reduceAdd,reduceIte,reduceCtorEq,Nat.reduceLT,Nat.reduceLeDiff,Nat.reduceShiftRight,Nat.reduceMod]
 refine callS_of (sideErr_s _ _ (by omega) (by omega) z2 z4) ?_
 simp only [disL_length,p8,rnd_s,Int.reduceAdd,Int.reduceSub,decide_true,decide_false,i64_1,i64_2,i64_3,i64_4,true_and,Int.one_mul,Int.cast_ofNat_Int,Int.reduceToNat,Nat.zero_mul,Nat.reduceMul,Nat.zero_add,Nat.mul_one,List.getElem?_cons_zero,List.getElem?_cons_succ,vZ,Int.reduceEq,Int.reduceNe,Int.reduceLT,Int.reduceLE,Nat.reduceEqDiff,Nat.reduceAdd,reduceIte,reduceCtorEq,Nat.reduceLT,Nat.reduceLeDiff,Nat.reduceShiftRight,Nat.reduceMod]
 refine callS_of (unless_s _ _) ?_
 simp only [if_true,rnd_s,Int.reduceAdd,Int.reduceSub,decide_true,decide_false,i64_1,i64_2,i64_3,i64_4,true_and,Int.one_mul,Int.cast_ofNat_Int,Int.reduceToNat,Nat.zero_mul,Nat.reduceMul,Nat.zero_add,Nat.mul_one,List.getElem?_cons_zero,List.getElem?_cons_succ,vZ,Int.reduceEq,Int.reduceNe,Int.reduceLT,Int.reduceLE,Nat.reduceEqDiff,Nat.reduceAdd,reduceIte,reduceCtorEq,Nat.reduceLT,Nat.reduceLeDiff,Nat.reduceShiftRight,Nat.reduceMod]
 refine callS_of first4_s ?_
 simp only [rnd_s,Int.reduceAdd,Int.reduceSub,decide_true,decide_false,i64_1,i64_2,i64_3,i64_4,true_and,Int.one_mul,Int.cast_ofNat_Int,Int.reduceToNat,Nat.zero_mul,Nat.reduceMul,Nat.zero_add,Nat.mul_one,List.getElem?_cons_zero,List.getElem?_cons_succ,vZ,Int.reduceEq,Int.reduceNe,Int.reduceLT,Int.reduceLE,Nat.reduceEqDiff,Nat.reduceAdd,reduceIte,reduceCtorEq,Nat.reduceLT,Nat.reduceLeDiff,Nat.reduceShiftRight,Nat.reduceMod]
 refine ⟨usedL_buf rfl (ints_imm [_,_,_,_]) rfl,?_⟩
 refine W_loop (t:=.mk) (α:=PSigma fun i:Nat=>i≤s.d.length∧(True)) (fun ⟨i,_⟩=>((envOf [(1,.ptr 1 0 0),(4,.int .i64 0),(32,.sl (disL s.d)),(33,.int .i64 s.d.length),(34,.int .i64 i)],stOf [(1,⟨44,7,[s.av]⟩)]))) (fun i=>s.d.length - i.1) ⟨0,Nat.zero_le _,?_⟩ ?_ (fun ⟨i,hi,hn⟩=>?_)
 ·trivial
 ·refine weakX [(1,some 1)] (of_decide_eq_true rfl) (of_decide_eq_true rfl) ?_
  (simp only [Se.av,disL_length,vcW,vZ,Int.reduceEq,Int.reduceNe,Int.reduceLT,Int.reduceLE,Nat.reduceEqDiff,Nat.reduceAdd,reduceIte,reduceCtorEq,Nat.reduceLT,Nat.reduceLeDiff,Nat.reduceShiftRight,Nat.reduceMod])
  (repeat' first | exact trivial | (with_reducible first | exact RnB.fxB (ints_fxB _) | rfl | refine And.intro ?_ ?_) | (with_reducible (first | refine RnB.bb ?_ | refine RnB.nb ?_);simp only [vcW,vZ,Int.reduceEq,Int.reduceNe,Int.reduceLT,Int.reduceLE,Nat.reduceEqDiff,Nat.reduceAdd,reduceIte,reduceCtorEq,Nat.reduceLT,Nat.reduceLeDiff,Nat.reduceShiftRight,Nat.reduceMod]) | (with_reducible first | refine RnB.ii ?_ | refine RnB.app ?_) | (with_reducible refine RnB.fxB ?_;simp only [vcW,vZ,Int.reduceEq,Int.reduceNe,Int.reduceLT,Int.reduceLE,Nat.reduceEqDiff,Nat.reduceAdd,reduceIte,reduceCtorEq,Nat.reduceLT,Nat.reduceLeDiff,Nat.reduceShiftRight,Nat.reduceMod]) | omega)
 simp only [Se.av,rnd_s,Int.reduceAdd,Int.reduceSub,decide_true,decide_false,i64_1,i64_2,i64_3,i64_4,true_and,Int.one_mul,Int.cast_ofNat_Int,Int.reduceToNat,Nat.zero_mul,Nat.reduceMul,Nat.zero_add,Nat.mul_one,List.getElem?_cons_zero,List.getElem?_cons_succ,vZ,Int.reduceEq,Int.reduceNe,Int.reduceLT,Int.reduceLE,Nat.reduceEqDiff,Nat.reduceAdd,reduceIte,reduceCtorEq,Nat.reduceLT,Nat.reduceLeDiff,Nat.reduceShiftRight,Nat.reduceMod]
 refine brB_split (fun h=>?_) (fun h=>?_)
 ·have h':i<s.d.length:=by (simp only [decide_eq_true_eq,decide_eq_false_iff_not,Bool.not_true,I64,Bool.not_eq_true',Bool.not_eq_false',bne_iff_ne,beq_iff_eq,ne_eq] at *;omega)
  simp only [disL_get s.d i h',Di.av,rnd_s,Int.reduceAdd,Int.reduceSub,decide_true,decide_false,i64_1,i64_2,i64_3,i64_4,true_and,Int.one_mul,Int.cast_ofNat_Int,Int.reduceToNat,Nat.zero_mul,Nat.reduceMul,Nat.zero_add,Nat.mul_one,List.getElem?_cons_zero,List.getElem?_cons_succ,vZ,Int.reduceEq,Int.reduceNe,Int.reduceLT,Int.reduceLE,Nat.reduceEqDiff,Nat.reduceAdd,reduceIte,reduceCtorEq,Nat.reduceLT,Nat.reduceLeDiff,Nat.reduceShiftRight,Nat.reduceMod]
  refine ⟨by omega,?_⟩
  have hde:=distanceErr_s s.d[i] (hd _ (List.getElem_mem h'))
  simp only [Di.av] at hde
  refine callS_of hde ?_
  simp only [rnd_s,Int.reduceAdd,Int.reduceSub,decide_true,decide_false,i64_1,i64_2,i64_3,i64_4,true_and,Int.one_mul,Int.cast_ofNat_Int,Int.reduceToNat,Nat.zero_mul,Nat.reduceMul,Nat.zero_add,Nat.mul_one,List.getElem?_cons_zero,List.getElem?_cons_succ,vZ,Int.reduceEq,Int.reduceNe,Int.reduceLT,Int.reduceLE,Nat.reduceEqDiff,Nat.reduceAdd,reduceIte,reduceCtorEq,Nat.reduceLT,Nat.reduceLeDiff,Nat.reduceShiftRight,Nat.reduceMod]
  refine callS_of (first2_s _ _) ?_
  simp only [if_false,rnd_s,Int.reduceAdd,Int.reduceSub,decide_true,decide_false,i64_1,i64_2,i64_3,i64_4,true_and,Int.one_mul,Int.cast_ofNat_Int,Int.reduceToNat,Nat.zero_mul,Nat.reduceMul,Nat.zero_add,Nat.mul_one,List.getElem?_cons_zero,List.getElem?_cons_succ,vZ,Int.reduceEq,Int.reduceNe,Int.reduceLT,Int.reduceLE,Nat.reduceEqDiff,Nat.reduceAdd,reduceIte,reduceCtorEq,Nat.reduceLT,Nat.reduceLeDiff,Nat.reduceShiftRight,Nat.reduceMod]
  refine ⟨by (simp only [decide_eq_true_eq,decide_eq_false_iff_not,Bool.not_true,I64,Bool.not_eq_true',Bool.not_eq_false',bne_iff_ne,beq_iff_eq,ne_eq] at *;omega),⟨⟨i+1,by omega,trivial⟩,by simp only;omega,?_⟩⟩
  refine weakX [(1,some 1)] (of_decide_eq_true rfl) (of_decide_eq_true rfl) ?_
  (simp only [Se.av,vcW,vZ,Int.reduceEq,Int.reduceNe,Int.reduceLT,Int.reduceLE,Nat.reduceEqDiff,Nat.reduceAdd,reduceIte,reduceCtorEq,Nat.reduceLT,Nat.reduceLeDiff,Nat.reduceShiftRight,Nat.reduceMod])
  (repeat' first | exact trivial | (with_reducible first | exact RnB.fxB (ints_fxB _) | rfl | refine And.intro ?_ ?_) | (with_reducible (first | refine RnB.bb ?_ | refine RnB.nb ?_);simp only [vcW,vZ,Int.reduceEq,Int.reduceNe,Int.reduceLT,Int.reduceLE,Nat.reduceEqDiff,Nat.reduceAdd,reduceIte,reduceCtorEq,Nat.reduceLT,Nat.reduceLeDiff,Nat.reduceShiftRight,Nat.reduceMod]) | (with_reducible first | refine RnB.ii ?_ | refine RnB.app ?_) | (with_reducible refine RnB.fxB ?_;simp only [vcW,vZ,Int.reduceEq,Int.reduceNe,Int.reduceLT,Int.reduceLE,Nat.reduceEqDiff,Nat.reduceAdd,reduceIte,reduceCtorEq,Nat.reduceLT,Nat.reduceLeDiff,Nat.reduceShiftRight,Nat.reduceMod]) | omega)
  all_goals simp
 simp only [rnd_s,Int.reduceAdd,Int.reduceSub,decide_true,decide_false,i64_1,i64_2,i64_3,i64_4,true_and,Int.one_mul,Int.cast_ofNat_Int,Int.reduceToNat,Nat.zero_mul,Nat.reduceMul,Nat.zero_add,Nat.mul_one,List.getElem?_cons_zero,List.getElem?_cons_succ,vZ,Int.reduceEq,Int.reduceNe,Int.reduceLT,Int.reduceLE,Nat.reduceEqDiff,Nat.reduceAdd,reduceIte,reduceCtorEq,Nat.reduceLT,Nat.reduceLeDiff,Nat.reduceShiftRight,Nat.reduceMod]
 refine W_loop (t:=.mk) (α:=PSigma fun i:Nat=>i≤s.b.nz∧(True)) (fun ⟨i,_⟩=>((envOf [(1,.ptr 1 0 0),(7,.buf 100 (s.c0 i).length),(8,.int .i64 (s.b.zl+i))],stOf [(1,⟨44,7,[s.av]⟩),(100,⟨26,3,plsL (s.c0 i)⟩)]))) (fun i=>s.b.nz - i.1) ⟨0,Nat.zero_le _,?_⟩ ?_ (fun ⟨i,hi,hn⟩=>?_)
 ·trivial
 ·refine weakX [(1,some 1),(100,none)] (of_decide_eq_true rfl) (of_decide_eq_true rfl) ?_
  (simp only [Se.av,Se.c0,List.range_zero,List.flatMap_nil,plsL,List.map_nil,List.length_nil,vcW,vZ,Int.reduceEq,Int.reduceNe,Int.reduceLT,Int.reduceLE,Nat.reduceEqDiff,Nat.reduceAdd,reduceIte,reduceCtorEq,Nat.reduceLT,Nat.reduceLeDiff,Nat.reduceShiftRight,Nat.reduceMod])
  (repeat' first | exact trivial | (with_reducible first | exact RnB.fxB (ints_fxB _) | rfl | refine And.intro ?_ ?_) | (with_reducible (first | refine RnB.bb ?_ | refine RnB.nb ?_);simp only [vcW,vZ,Int.reduceEq,Int.reduceNe,Int.reduceLT,Int.reduceLE,Nat.reduceEqDiff,Nat.reduceAdd,reduceIte,reduceCtorEq,Nat.reduceLT,Nat.reduceLeDiff,Nat.reduceShiftRight,Nat.reduceMod]) | (with_reducible first | refine RnB.ii ?_ | refine RnB.app ?_) | (with_reducible refine RnB.fxB ?_;simp only [vcW,vZ,Int.reduceEq,Int.reduceNe,Int.reduceLT,Int.reduceLE,Nat.reduceEqDiff,Nat.reduceAdd,reduceIte,reduceCtorEq,Nat.reduceLT,Nat.reduceLeDiff,Nat.reduceShiftRight,Nat.reduceMod]) | omega)
  all_goals first | rfl | omega | skip
 simp only [Se.av,rnd_s,Int.reduceAdd,Int.reduceSub,decide_true,decide_false,i64_1,i64_2,i64_3,i64_4,true_and,Int.one_mul,Int.cast_ofNat_Int,Int.reduceToNat,Nat.zero_mul,Nat.reduceMul,Nat.zero_add,Nat.mul_one,List.getElem?_cons_zero,List.getElem?_cons_succ,vZ,Int.reduceEq,Int.reduceNe,Int.reduceLT,Int.reduceLE,Nat.reduceEqDiff,Nat.reduceAdd,reduceIte,reduceCtorEq,Nat.reduceLT,Nat.reduceLeDiff,Nat.reduceShiftRight,Nat.reduceMod]
 refine brB_split (fun hz=>?_) (fun hz=>?_)
 ·have hz':i<s.b.nz:=by unfold Bx.nz;(simp only [decide_eq_true_eq,decide_eq_false_iff_not,Bool.not_true,I64,Bool.not_eq_true',Bool.not_eq_false',bne_iff_ne,beq_iff_eq,ne_eq] at *;omega)
  simp only [rnd_s,Int.reduceAdd,Int.reduceSub,decide_true,decide_false,i64_1,i64_2,i64_3,i64_4,true_and,Int.one_mul,Int.cast_ofNat_Int,Int.reduceToNat,Nat.zero_mul,Nat.reduceMul,Nat.zero_add,Nat.mul_one,List.getElem?_cons_zero,List.getElem?_cons_succ,vZ,Int.reduceEq,Int.reduceNe,Int.reduceLT,Int.reduceLE,Nat.reduceEqDiff,Nat.reduceAdd,reduceIte,reduceCtorEq,Nat.reduceLT,Nat.reduceLeDiff,Nat.reduceShiftRight,Nat.reduceMod]
  refine W_loop (t:=.mk) (α:=PSigma fun j:Nat=>j≤s.b.ny) (fun ⟨j,_⟩=>(envOf [(1,.ptr 1 0 0),(7,.buf 100 (s.c0 i ++ s.c1 i j).length),(8,.int .i64 (s.b.zl+i)),(9,.int .i64 (s.b.yl+j))],stOf [(1,⟨44,7,[s.av]⟩),(100,⟨26,3,plsL (s.c0 i ++ s.c1 i j)⟩)])) (fun j=>s.b.ny - j.1) ⟨0,Nat.zero_le _⟩ ?_ (fun ⟨j,hj⟩=>?_)
  ·refine weakX [(1,some 1),(100,some 100)] (of_decide_eq_true rfl) (of_decide_eq_true rfl) ?_
   (simp only [Se.av,Se.c1,List.range_zero,List.flatMap_nil,List.append_nil,vcW,vZ,Int.reduceEq,Int.reduceNe,Int.reduceLT,Int.reduceLE,Nat.reduceEqDiff,Nat.reduceAdd,reduceIte,reduceCtorEq,Nat.reduceLT,Nat.reduceLeDiff,Nat.reduceShiftRight,Nat.reduceMod])
   (repeat' first | exact trivial | (with_reducible first | exact RnB.fxB (ints_fxB _) | rfl | refine And.intro ?_ ?_) | (with_reducible (first | refine RnB.bb ?_ | refine RnB.nb ?_);simp only [vcW,vZ,Int.reduceEq,Int.reduceNe,Int.reduceLT,Int.reduceLE,Nat.reduceEqDiff,Nat.reduceAdd,reduceIte,reduceCtorEq,Nat.reduceLT,Nat.reduceLeDiff,Nat.reduceShiftRight,Nat.reduceMod]) | (with_reducible first | refine RnB.ii ?_ | refine RnB.app ?_) | (with_reducible refine RnB.fxB ?_;simp only [vcW,vZ,Int.reduceEq,Int.reduceNe,Int.reduceLT,Int.reduceLE,Nat.reduceEqDiff,Nat.reduceAdd,reduceIte,reduceCtorEq,Nat.reduceLT,Nat.reduceLeDiff,Nat.reduceShiftRight,Nat.reduceMod]) | omega)
   all_goals first | rfl | omega | exact RnB.fxB (plsL_fxB _) | skip
  simp only [Se.av,rnd_s,Int.reduceAdd,Int.reduceSub,decide_true,decide_false,i64_1,i64_2,i64_3,i64_4,true_and,Int.one_mul,Int.cast_ofNat_Int,Int.reduceToNat,Nat.zero_mul,Nat.reduceMul,Nat.zero_add,Nat.mul_one,List.getElem?_cons_zero,List.getElem?_cons_succ,vZ,Int.reduceEq,Int.reduceNe,Int.reduceLT,Int.reduceLE,Nat.reduceEqDiff,Nat.reduceAdd,reduceIte,reduceCtorEq,Nat.reduceLT,Nat.reduceLeDiff,Nat.reduceShiftRight,Nat.reduceMod]
  refine brB_split (fun hy=>?_) (fun hy=>?_)
  ·have hy':j<s.b.ny:=by unfold Bx.ny;(simp only [decide_eq_true_eq,decide_eq_false_iff_not,Bool.not_true,I64,Bool.not_eq_true',Bool.not_eq_false',bne_iff_ne,beq_iff_eq,ne_eq] at *;omega)
   simp only [rnd_s,Int.reduceAdd,Int.reduceSub,decide_true,decide_false,i64_1,i64_2,i64_3,i64_4,true_and,Int.one_mul,Int.cast_ofNat_Int,Int.reduceToNat,Nat.zero_mul,Nat.reduceMul,Nat.zero_add,Nat.mul_one,List.getElem?_cons_zero,List.getElem?_cons_succ,vZ,Int.reduceEq,Int.reduceNe,Int.reduceLT,Int.reduceLE,Nat.reduceEqDiff,Nat.reduceAdd,reduceIte,reduceCtorEq,Nat.reduceLT,Nat.reduceLeDiff,Nat.reduceShiftRight,Nat.reduceMod]
   refine W_loop (t:=.mk) (α:=PSigma fun k:Nat=>k≤s.b.nx) (fun ⟨k,_⟩=>(envOf [(1,.ptr 1 0 0),(7,.buf 100 (s.c0 i ++ s.c1 i j ++ s.c2 i j k).length),(8,.int .i64 (s.b.zl+i)),(9,.int .i64 (s.b.yl+j)),(10,.int .i64 (s.b.xl+k))],stOf [(1,⟨44,7,[s.av]⟩),(100,⟨26,3,plsL (s.c0 i ++ s.c1 i j ++ s.c2 i j k)⟩)])) (fun k=>s.b.nx - k.1) ⟨0,Nat.zero_le _⟩ ?_ (fun ⟨k,hk⟩=>?_)
   ·refine weakX [(1,some 1),(100,some 100)] (of_decide_eq_true rfl) (of_decide_eq_true rfl) ?_
    (simp only [Se.av,Se.c2,List.range_zero,List.flatMap_nil,List.append_nil,vcW,vZ,Int.reduceEq,Int.reduceNe,Int.reduceLT,Int.reduceLE,Nat.reduceEqDiff,Nat.reduceAdd,reduceIte,reduceCtorEq,Nat.reduceLT,Nat.reduceLeDiff,Nat.reduceShiftRight,Nat.reduceMod])
    (repeat' first | exact trivial | (with_reducible first | exact RnB.fxB (ints_fxB _) | rfl | refine And.intro ?_ ?_) | (with_reducible (first | refine RnB.bb ?_ | refine RnB.nb ?_);simp only [vcW,vZ,Int.reduceEq,Int.reduceNe,Int.reduceLT,Int.reduceLE,Nat.reduceEqDiff,Nat.reduceAdd,reduceIte,reduceCtorEq,Nat.reduceLT,Nat.reduceLeDiff,Nat.reduceShiftRight,Nat.reduceMod]) | (with_reducible first | refine RnB.ii ?_ | refine RnB.app ?_) | (with_reducible refine RnB.fxB ?_;simp only [vcW,vZ,Int.reduceEq,Int.reduceNe,Int.reduceLT,Int.reduceLE,Nat.reduceEqDiff,Nat.reduceAdd,reduceIte,reduceCtorEq,Nat.reduceLT,Nat.reduceLeDiff,Nat.reduceShiftRight,Nat.reduceMod]) | omega)
    all_goals first | rfl | omega | exact RnB.fxB (plsL_fxB _) | skip
   have hal:=all_len (s:=s) ⟨⟨x1,x2,x3,x4⟩,⟨y1,y2,y3,y4⟩,⟨z1,z2,z3,z4⟩⟩ i j k (by omega) (by omega) (by omega)
   have hall:(s.c0 i ++ s.c1 i j ++ s.c2 i j k).length≤20000:=by simp only [List.length_append];omega
   have hc3:s.c0 i ++ s.c1 i j ++ s.c2 i j (k+1)=(s.c0 i ++ s.c1 i j ++ s.c2 i j k) ++ s.c3 i j k:=by rw [c2_succ];simp only [List.append_assoc]
   dsimp only
   generalize hout:s.c0 i ++ s.c1 i j ++ s.c2 i j k=out at *
   simp only [Se.av,rnd_s,Int.reduceAdd,Int.reduceSub,decide_true,decide_false,i64_1,i64_2,i64_3,i64_4,true_and,Int.one_mul,Int.cast_ofNat_Int,Int.reduceToNat,Nat.zero_mul,Nat.reduceMul,Nat.zero_add,Nat.mul_one,List.getElem?_cons_zero,List.getElem?_cons_succ,vZ,Int.reduceEq,Int.reduceNe,Int.reduceLT,Int.reduceLE,Nat.reduceEqDiff,Nat.reduceAdd,reduceIte,reduceCtorEq,Nat.reduceLT,Nat.reduceLeDiff,Nat.reduceShiftRight,Nat.reduceMod]
   refine brB_split (fun hx=>?_) (fun hx=>?_)
   ·have hx':k<s.b.nx:=by unfold Bx.nx;(simp only [decide_eq_true_eq,decide_eq_false_iff_not,Bool.not_true,I64,Bool.not_eq_true',Bool.not_eq_false',bne_iff_ne,beq_iff_eq,ne_eq] at *;omega)
    have hf:=fits_s (s.pl i j k) s.d h8 ⟨⟨by unfold Se.pl;simp only;omega,by unfold Se.pl Bx.nx at *;simp only;omega⟩,⟨by unfold Se.pl;simp only;omega,by unfold Se.pl Bx.ny at *;simp only;omega⟩,by unfold Se.pl;simp only;omega,by unfold Se.pl Bx.nz at *;simp only;omega⟩ (fun d hd'=>(hd d hd').f)
    simp only [Pl.av,Se.pl] at hf
    simp only [rnd_s,Int.reduceAdd,Int.reduceSub,decide_true,decide_false,i64_1,i64_2,i64_3,i64_4,true_and,Int.one_mul,Int.cast_ofNat_Int,Int.reduceToNat,Nat.zero_mul,Nat.reduceMul,Nat.zero_add,Nat.mul_one,List.getElem?_cons_zero,List.getElem?_cons_succ,vZ,Int.reduceEq,Int.reduceNe,Int.reduceLT,Int.reduceLE,Nat.reduceEqDiff,Nat.reduceAdd,reduceIte,reduceCtorEq,Nat.reduceLT,Nat.reduceLeDiff,Nat.reduceShiftRight,Nat.reduceMod]
    refine callS_of hf ?_
    simp only [rnd_s,Int.reduceAdd,Int.reduceSub,decide_true,decide_false,i64_1,i64_2,i64_3,i64_4,true_and,Int.one_mul,Int.cast_ofNat_Int,Int.reduceToNat,Nat.zero_mul,Nat.reduceMul,Nat.zero_add,Nat.mul_one,List.getElem?_cons_zero,List.getElem?_cons_succ,vZ,Int.reduceEq,Int.reduceNe,Int.reduceLT,Int.reduceLE,Nat.reduceEqDiff,Nat.reduceAdd,reduceIte,reduceCtorEq,Nat.reduceLT,Nat.reduceLeDiff,Nat.reduceShiftRight,Nat.reduceMod]
    refine brB_split (fun hF=>?_) (fun hF=>?_)
    ·have hF':s.c3 i j k=[s.pl i j k]:=by unfold Se.c3;rw [if_pos];exact hF
     rw [hF'] at hc3
     simp only [plsL_length,rnd_s,Int.reduceAdd,Int.reduceSub,decide_true,decide_false,i64_1,i64_2,i64_3,i64_4,true_and,Int.one_mul,Int.cast_ofNat_Int,Int.reduceToNat,Nat.zero_mul,Nat.reduceMul,Nat.zero_add,Nat.mul_one,List.getElem?_cons_zero,List.getElem?_cons_succ,vZ,Int.reduceEq,Int.reduceNe,Int.reduceLT,Int.reduceLE,Nat.reduceEqDiff,Nat.reduceAdd,reduceIte,reduceCtorEq,Nat.reduceLT,Nat.reduceLeDiff,Nat.reduceShiftRight,Nat.reduceMod]
     refine ⟨⟨by omega,by omega⟩,by (simp only [decide_eq_true_eq,decide_eq_false_iff_not,Bool.not_true,I64,Bool.not_eq_true',Bool.not_eq_false',bne_iff_ne,beq_iff_eq,ne_eq] at *;omega),⟨k+1,hx'⟩,by simp only;omega,?_⟩
     refine weakX [(1,some 1),(100,some 94)] (of_decide_eq_true rfl) (of_decide_eq_true rfl) ?_
     (simp only [hc3,plsL_append,plsL_one,Pl.av,Se.pl,Se.av,vcW,vZ,Int.reduceEq,Int.reduceNe,Int.reduceLT,Int.reduceLE,Nat.reduceEqDiff,Nat.reduceAdd,reduceIte,reduceCtorEq,Nat.reduceLT,Nat.reduceLeDiff,Nat.reduceShiftRight,Nat.reduceMod])
     (repeat' first | exact trivial | (with_reducible first | exact RnB.fxB (ints_fxB _) | rfl | refine And.intro ?_ ?_) | (with_reducible (first | refine RnB.bb ?_ | refine RnB.nb ?_);simp only [vcW,vZ,Int.reduceEq,Int.reduceNe,Int.reduceLT,Int.reduceLE,Nat.reduceEqDiff,Nat.reduceAdd,reduceIte,reduceCtorEq,Nat.reduceLT,Nat.reduceLeDiff,Nat.reduceShiftRight,Nat.reduceMod]) | (with_reducible first | refine RnB.ii ?_ | refine RnB.app ?_) | (with_reducible refine RnB.fxB ?_;simp only [vcW,vZ,Int.reduceEq,Int.reduceNe,Int.reduceLT,Int.reduceLE,Nat.reduceEqDiff,Nat.reduceAdd,reduceIte,reduceCtorEq,Nat.reduceLT,Nat.reduceLeDiff,Nat.reduceShiftRight,Nat.reduceMod]) | omega)
     all_goals first | rfl | omega | exact RnB.fxB (by rw [List.all_append,plsL_fxB];rfl) | simp | skip
    ·have hF':s.c3 i j k=[]:=by unfold Se.c3;rw [if_neg];unfold Se.pl;rw [hF];simp
     rw [hF',List.append_nil] at hc3
     simp only [rnd_s,Int.reduceAdd,Int.reduceSub,decide_true,decide_false,i64_1,i64_2,i64_3,i64_4,true_and,Int.one_mul,Int.cast_ofNat_Int,Int.reduceToNat,Nat.zero_mul,Nat.reduceMul,Nat.zero_add,Nat.mul_one,List.getElem?_cons_zero,List.getElem?_cons_succ,vZ,Int.reduceEq,Int.reduceNe,Int.reduceLT,Int.reduceLE,Nat.reduceEqDiff,Nat.reduceAdd,reduceIte,reduceCtorEq,Nat.reduceLT,Nat.reduceLeDiff,Nat.reduceShiftRight,Nat.reduceMod]
     refine ⟨by (simp only [decide_eq_true_eq,decide_eq_false_iff_not,Bool.not_true,I64,Bool.not_eq_true',Bool.not_eq_false',bne_iff_ne,beq_iff_eq,ne_eq] at *;omega),⟨k+1,hx'⟩,by simp only;omega,?_⟩
     refine weakX [(1,some 1),(100,some 100)] (of_decide_eq_true rfl) (of_decide_eq_true rfl) ?_
     (simp only [hc3,Se.av,vcW,vZ,Int.reduceEq,Int.reduceNe,Int.reduceLT,Int.reduceLE,Nat.reduceEqDiff,Nat.reduceAdd,reduceIte,reduceCtorEq,Nat.reduceLT,Nat.reduceLeDiff,Nat.reduceShiftRight,Nat.reduceMod])
     (repeat' first | exact trivial | (with_reducible first | exact RnB.fxB (ints_fxB _) | rfl | refine And.intro ?_ ?_) | (with_reducible (first | refine RnB.bb ?_ | refine RnB.nb ?_);simp only [vcW,vZ,Int.reduceEq,Int.reduceNe,Int.reduceLT,Int.reduceLE,Nat.reduceEqDiff,Nat.reduceAdd,reduceIte,reduceCtorEq,Nat.reduceLT,Nat.reduceLeDiff,Nat.reduceShiftRight,Nat.reduceMod]) | (with_reducible first | refine RnB.ii ?_ | refine RnB.app ?_) | (with_reducible refine RnB.fxB ?_;simp only [vcW,vZ,Int.reduceEq,Int.reduceNe,Int.reduceLT,Int.reduceLE,Nat.reduceEqDiff,Nat.reduceAdd,reduceIte,reduceCtorEq,Nat.reduceLT,Nat.reduceLeDiff,Nat.reduceShiftRight,Nat.reduceMod]) | omega)
     all_goals first | rfl | omega | exact RnB.fxB (plsL_fxB _) | skip
   ·have hxe:k=s.b.nx:=by unfold Bx.nx at *;(simp only [decide_eq_true_eq,decide_eq_false_iff_not,Bool.not_true,I64,Bool.not_eq_true',Bool.not_eq_false',bne_iff_ne,beq_iff_eq,ne_eq] at *;omega)
    subst hxe
    have hc2:s.c0 i ++ s.c1 i (j+1)=out:=by rw [c1_succ,← List.append_assoc];exact hout
    simp only [rnd_s,Int.reduceAdd,Int.reduceSub,decide_true,decide_false,i64_1,i64_2,i64_3,i64_4,true_and,Int.one_mul,Int.cast_ofNat_Int,Int.reduceToNat,Nat.zero_mul,Nat.reduceMul,Nat.zero_add,Nat.mul_one,List.getElem?_cons_zero,List.getElem?_cons_succ,vZ,Int.reduceEq,Int.reduceNe,Int.reduceLT,Int.reduceLE,Nat.reduceEqDiff,Nat.reduceAdd,reduceIte,reduceCtorEq,Nat.reduceLT,Nat.reduceLeDiff,Nat.reduceShiftRight,Nat.reduceMod]
    refine ⟨by (simp only [decide_eq_true_eq,decide_eq_false_iff_not,Bool.not_true,I64,Bool.not_eq_true',Bool.not_eq_false',bne_iff_ne,beq_iff_eq,ne_eq] at *;omega),⟨j+1,hy'⟩,by simp only;omega,?_⟩
    refine weakX [(1,some 1),(100,some 100)] (of_decide_eq_true rfl) (of_decide_eq_true rfl) ?_
    (simp only [hc2,Se.av,vcW,vZ,Int.reduceEq,Int.reduceNe,Int.reduceLT,Int.reduceLE,Nat.reduceEqDiff,Nat.reduceAdd,reduceIte,reduceCtorEq,Nat.reduceLT,Nat.reduceLeDiff,Nat.reduceShiftRight,Nat.reduceMod])
    (repeat' first | exact trivial | (with_reducible first | exact RnB.fxB (ints_fxB _) | rfl | refine And.intro ?_ ?_) | (with_reducible (first | refine RnB.bb ?_ | refine RnB.nb ?_);simp only [vcW,vZ,Int.reduceEq,Int.reduceNe,Int.reduceLT,Int.reduceLE,Nat.reduceEqDiff,Nat.reduceAdd,reduceIte,reduceCtorEq,Nat.reduceLT,Nat.reduceLeDiff,Nat.reduceShiftRight,Nat.reduceMod]) | (with_reducible first | refine RnB.ii ?_ | refine RnB.app ?_) | (with_reducible refine RnB.fxB ?_;simp only [vcW,vZ,Int.reduceEq,Int.reduceNe,Int.reduceLT,Int.reduceLE,Nat.reduceEqDiff,Nat.reduceAdd,reduceIte,reduceCtorEq,Nat.reduceLT,Nat.reduceLeDiff,Nat.reduceShiftRight,Nat.reduceMod]) | omega)
    all_goals first | rfl | omega | exact RnB.fxB (plsL_fxB _) | skip
  ·have hye:j=s.b.ny:=by unfold Bx.ny at *;(simp only [decide_eq_true_eq,decide_eq_false_iff_not,Bool.not_true,I64,Bool.not_eq_true',Bool.not_eq_false',bne_iff_ne,beq_iff_eq,ne_eq] at *;omega)
   subst hye
   have hc1:s.c0 (i+1)=s.c0 i ++ s.c1 i s.b.ny:=c0_succ s i
   simp only [rnd_s,Int.reduceAdd,Int.reduceSub,decide_true,decide_false,i64_1,i64_2,i64_3,i64_4,true_and,Int.one_mul,Int.cast_ofNat_Int,Int.reduceToNat,Nat.zero_mul,Nat.reduceMul,Nat.zero_add,Nat.mul_one,List.getElem?_cons_zero,List.getElem?_cons_succ,vZ,Int.reduceEq,Int.reduceNe,Int.reduceLT,Int.reduceLE,Nat.reduceEqDiff,Nat.reduceAdd,reduceIte,reduceCtorEq,Nat.reduceLT,Nat.reduceLeDiff,Nat.reduceShiftRight,Nat.reduceMod]
   refine ⟨by (simp only [decide_eq_true_eq,decide_eq_false_iff_not,Bool.not_true,I64,Bool.not_eq_true',Bool.not_eq_false',bne_iff_ne,beq_iff_eq,ne_eq] at *;omega),⟨i+1,hz',trivial⟩,by simp only;omega,?_⟩
   refine weakX [(1,some 1),(100,some 100)] (of_decide_eq_true rfl) (of_decide_eq_true rfl) ?_
   (simp only [hc1,Se.av,vcW,vZ,Int.reduceEq,Int.reduceNe,Int.reduceLT,Int.reduceLE,Nat.reduceEqDiff,Nat.reduceAdd,reduceIte,reduceCtorEq,Nat.reduceLT,Nat.reduceLeDiff,Nat.reduceShiftRight,Nat.reduceMod])
   (repeat' first | exact trivial | (with_reducible first | exact RnB.fxB (ints_fxB _) | rfl | refine And.intro ?_ ?_) | (with_reducible (first | refine RnB.bb ?_ | refine RnB.nb ?_);simp only [vcW,vZ,Int.reduceEq,Int.reduceNe,Int.reduceLT,Int.reduceLE,Nat.reduceEqDiff,Nat.reduceAdd,reduceIte,reduceCtorEq,Nat.reduceLT,Nat.reduceLeDiff,Nat.reduceShiftRight,Nat.reduceMod]) | (with_reducible first | refine RnB.ii ?_ | refine RnB.app ?_) | (with_reducible refine RnB.fxB ?_;simp only [vcW,vZ,Int.reduceEq,Int.reduceNe,Int.reduceLT,Int.reduceLE,Nat.reduceEqDiff,Nat.reduceAdd,reduceIte,reduceCtorEq,Nat.reduceLT,Nat.reduceLeDiff,Nat.reduceShiftRight,Nat.reduceMod]) | omega)
   all_goals first | rfl | omega | exact RnB.fxB (plsL_fxB _) | skip
 ·have hze:i=s.b.nz:=by unfold Bx.nz at *;(simp only [decide_eq_true_eq,decide_eq_false_iff_not,Bool.not_true,I64,Bool.not_eq_true',Bool.not_eq_false',bne_iff_ne,beq_iff_eq,ne_eq] at *;omega)
  subst hze
  simp only [rnd_s,Int.reduceAdd,Int.reduceSub,decide_true,decide_false,i64_1,i64_2,i64_3,i64_4,true_and,Int.one_mul,Int.cast_ofNat_Int,Int.reduceToNat,Nat.zero_mul,Nat.reduceMul,Nat.zero_add,Nat.mul_one,List.getElem?_cons_zero,List.getElem?_cons_succ,vZ,Int.reduceEq,Int.reduceNe,Int.reduceLT,Int.reduceLE,Nat.reduceEqDiff,Nat.reduceAdd,reduceIte,reduceCtorEq,Nat.reduceLT,Nat.reduceLeDiff,Nat.reduceShiftRight,Nat.reduceMod]
  have hcl:(s.c0 s.b.nz).length≤20000:=by
   have:=all_len (s:=s) ⟨⟨x1,x2,x3,x4⟩,⟨y1,y2,y3,y4⟩,⟨z1,z2,z3,z4⟩⟩ s.b.nz 0 0 (by omega) (by omega) (by omega)
   omega
  refine callS_X 100 (SortFunc_x (s.c0 s.b.nz) 100 (by omega)) rfl (plsL_scalE _) (plsL_scalE _) rfl (fun x hx hr=>?_) (.inr ⟨_,(show 0<(s.c0 s.b.nz).length from hpos),by simp⟩) ?_
  ·simp only [List.mem_cons,List.not_mem_nil,or_false] at hx
   rcases hx with rfl | rfl
   ·cases hr
   ·simp [refs]
  simp only [rnd_s,Int.reduceAdd,Int.reduceSub,decide_true,decide_false,i64_1,i64_2,i64_3,i64_4,true_and,Int.one_mul,Int.cast_ofNat_Int,Int.reduceToNat,Nat.zero_mul,Nat.reduceMul,Nat.zero_add,Nat.mul_one,List.getElem?_cons_zero,List.getElem?_cons_succ,vZ,Int.reduceEq,Int.reduceNe,Int.reduceLT,Int.reduceLE,Nat.reduceEqDiff,Nat.reduceAdd,reduceIte,reduceCtorEq,Nat.reduceLT,Nat.reduceLeDiff,Nat.reduceShiftRight,Nat.reduceMod]
  rw [borB_good _ _ _ _ _ (by simp [plsL,srt_length]) (plsL_fx _)]
  rfl
end Go.Proofs.YtoiajhogondgcaaDoor

/- The box of all places that fit. By an AI agent;nothing here is trusted. -/
namespace Go.Proofs.YtoiajhogondgcaaDoor
open Go.Av

def mnF (g:Pl→Int) (a:Int) (l:List Pl):Int:=l.foldl (fun a p=>min a (g p)) a
def mxF (g:Pl→Int) (a:Int) (l:List Pl):Int:=l.foldl (fun a p=>max a (g p)) a
theorem mnF_le (g:Pl→Int):∀ (l:List Pl) (a:Int),mnF g a l≤a∧∀ p ∈ l,mnF g a l≤g p
 | [],a=>⟨Int.le_refl _,fun p hp=>by cases hp⟩
 | q :: l,a=>by
  obtain ⟨h1,h2⟩:=mnF_le g l (min a (g q))
  have e:mnF g a (q :: l)=mnF g (min a (g q)) l:=rfl
  rw [e]
  refine ⟨by omega,fun p hp=>?_⟩
  rcases List.mem_cons.1 hp with rfl | hp
  ·omega
  ·exact h2 p hp
theorem mxF_le (g:Pl→Int):∀ (l:List Pl) (a:Int),a≤mxF g a l∧∀ p ∈ l,g p≤mxF g a l
 | [],a=>⟨Int.le_refl _,fun p hp=>by cases hp⟩
 | q :: l,a=>by
  obtain ⟨h1,h2⟩:=mxF_le g l (max a (g q))
  have e:mxF g a (q :: l)=mxF g (max a (g q)) l:=rfl
  rw [e]
  refine ⟨by omega,fun p hp=>?_⟩
  rcases List.mem_cons.1 hp with rfl | hp
  ·omega
  ·exact h2 p hp
theorem mnF_take (g:Pl→Int) (a:Int) (l:List Pl) (i:Nat) (h:i<l.length):mnF g a (l.take (i+1))=min (mnF g a (l.take i)) (g l[i]):=by
 rw [List.take_succ_eq_append_getElem h]
 unfold mnF
 rw [List.foldl_append];rfl
theorem mxF_take (g:Pl→Int) (a:Int) (l:List Pl) (i:Nat) (h:i<l.length):mxF g a (l.take (i+1))=max (mxF g a (l.take i)) (g l[i]):=by
 rw [List.take_succ_eq_append_getElem h]
 unfold mxF
 rw [List.foldl_append];rfl

theorem ofX_s (p:Pl):Sound Tryd.prog 31 [p.av] (.int .i64 p.x):=by
 refine sound_W f_ice_BoxOf_2 (Nat.le_of_ble_eq_true rfl) ?_
 simp only [c_ice_BoxOf_2,Pl.av,rnd_s,Int.reduceAdd,Int.reduceSub,decide_true,decide_false,i64_1,i64_2,i64_3,i64_4,true_and,Int.one_mul,Int.cast_ofNat_Int,Int.reduceToNat,Nat.zero_mul,Nat.reduceMul,Nat.zero_add,Nat.mul_one,List.getElem?_cons_zero,List.getElem?_cons_succ,vZ,Int.reduceEq,Int.reduceNe,Int.reduceLT,Int.reduceLE,Nat.reduceEqDiff,Nat.reduceAdd,reduceIte,reduceCtorEq,Nat.reduceLT,Nat.reduceLeDiff,Nat.reduceShiftRight,Nat.reduceMod]
theorem ofY_s (p:Pl):Sound Tryd.prog 32 [p.av] (.int .i64 p.y):=by
 refine sound_W f_ice_BoxOf_3 (Nat.le_of_ble_eq_true rfl) ?_
 simp only [c_ice_BoxOf_3,Pl.av,rnd_s,Int.reduceAdd,Int.reduceSub,decide_true,decide_false,i64_1,i64_2,i64_3,i64_4,true_and,Int.one_mul,Int.cast_ofNat_Int,Int.reduceToNat,Nat.zero_mul,Nat.reduceMul,Nat.zero_add,Nat.mul_one,List.getElem?_cons_zero,List.getElem?_cons_succ,vZ,Int.reduceEq,Int.reduceNe,Int.reduceLT,Int.reduceLE,Nat.reduceEqDiff,Nat.reduceAdd,reduceIte,reduceCtorEq,Nat.reduceLT,Nat.reduceLeDiff,Nat.reduceShiftRight,Nat.reduceMod]
theorem ofZ_s (p:Pl):Sound Tryd.prog 33 [p.av] (.int .i64 p.z):=by
 refine sound_W f_ice_BoxOf_4 (Nat.le_of_ble_eq_true rfl) ?_
 simp only [c_ice_BoxOf_4,Pl.av,rnd_s,Int.reduceAdd,Int.reduceSub,decide_true,decide_false,i64_1,i64_2,i64_3,i64_4,true_and,Int.one_mul,Int.cast_ofNat_Int,Int.reduceToNat,Nat.zero_mul,Nat.reduceMul,Nat.zero_add,Nat.mul_one,List.getElem?_cons_zero,List.getElem?_cons_succ,vZ,Int.reduceEq,Int.reduceNe,Int.reduceLT,Int.reduceLE,Nat.reduceEqDiff,Nat.reduceAdd,reduceIte,reduceCtorEq,Nat.reduceLT,Nat.reduceLeDiff,Nat.reduceShiftRight,Nat.reduceMod]
def sideV (g:Pl→Int) (l:List Pl):AV:=.agg [.int .i64 (mnF g (g l[0]!) l),.int .i64 (mxF g (g l[0]!) l)]
theorem side_s (l:List Pl) (hl:0<l.length) (hb:l.length≤20000) (f:FuncId) (g:Pl→Int) (hf:∀ p:Pl,Sound Tryd.prog f [p.av] (.int .i64 (g p))) :
  Sound Tryd.prog 30 [.fn f [],.eptr (.sl (plsL l)) 0] (sideV g l):=by
 refine sound_W f_ice_BoxOf_1 (Nat.le_of_ble_eq_true rfl) ?_
 have h0:l[0]! = l[0]:=by simp [hl]
 have hf':∀ p:Pl,Sound Tryd.prog f [.agg [.int .i64 p.x,.int .i64 p.y,.int .i64 p.z]] (.int .i64 (g p)):=hf
 simp only [c_ice_BoxOf_1,plsL_get l 0 hl,Pl.av,rnd_s,Int.reduceAdd,Int.reduceSub,decide_true,decide_false,i64_1,i64_2,i64_3,i64_4,true_and,Int.one_mul,Int.cast_ofNat_Int,Int.reduceToNat,Nat.zero_mul,Nat.reduceMul,Nat.zero_add,Nat.mul_one,List.getElem?_cons_zero,List.getElem?_cons_succ,vZ,Int.reduceEq,Int.reduceNe,Int.reduceLT,Int.reduceLE,Nat.reduceEqDiff,Nat.reduceAdd,reduceIte,reduceCtorEq,Nat.reduceLT,Nat.reduceLeDiff,Nat.reduceShiftRight,Nat.reduceMod]
 refine callS_of (hf' _) ?_
 simp only [plsL_get l 0 hl,Pl.av,rnd_s,Int.reduceAdd,Int.reduceSub,decide_true,decide_false,i64_1,i64_2,i64_3,i64_4,true_and,Int.one_mul,Int.cast_ofNat_Int,Int.reduceToNat,Nat.zero_mul,Nat.reduceMul,Nat.zero_add,Nat.mul_one,List.getElem?_cons_zero,List.getElem?_cons_succ,vZ,Int.reduceEq,Int.reduceNe,Int.reduceLT,Int.reduceLE,Nat.reduceEqDiff,Nat.reduceAdd,reduceIte,reduceCtorEq,Nat.reduceLT,Nat.reduceLeDiff,Nat.reduceShiftRight,Nat.reduceMod]
 refine callS_of (hf' _) ?_
 simp only [plsL_length,rnd_s,Int.reduceAdd,Int.reduceSub,decide_true,decide_false,i64_1,i64_2,i64_3,i64_4,true_and,Int.one_mul,Int.cast_ofNat_Int,Int.reduceToNat,Nat.zero_mul,Nat.reduceMul,Nat.zero_add,Nat.mul_one,List.getElem?_cons_zero,List.getElem?_cons_succ,vZ,Int.reduceEq,Int.reduceNe,Int.reduceLT,Int.reduceLE,Nat.reduceEqDiff,Nat.reduceAdd,reduceIte,reduceCtorEq,Nat.reduceLT,Nat.reduceLeDiff,Nat.reduceShiftRight,Nat.reduceMod]
 refine W_loop (t:=.mk) (α:=PSigma fun i:Nat=>i≤l.length∧(True)) (fun ⟨i,_⟩=>((envOf [(0,.fn f []),(1,.eptr (.sl (plsL l)) 0),(3,.ptr 3 0 0),(4,.ptr 4 0 0),(18,.sl (plsL l)),(19,.int .i64 l.length),(20,.int .i64 i)],stOf [(3,⟨38,2,[.agg [.int .i64 0,.int .i64 0]]⟩),(4,⟨38,2,[.agg [.int .i64 (mnF g (g l[0]) (l.take i)),.int .i64 (mxF g (g l[0]) (l.take i))]]⟩)]))) (fun i=>l.length - i.1) ⟨0,Nat.zero_le _,?_⟩ ?_ (fun ⟨i,hi,hn⟩=>?_)
 ·trivial
 ·refine weakX [(3,some 3),(4,some 4)] (of_decide_eq_true rfl) (of_decide_eq_true rfl) ?_
  (simp only [List.take_zero,mnF,mxF,List.foldl_nil,vcW,vZ,Int.reduceEq,Int.reduceNe,Int.reduceLT,Int.reduceLE,Nat.reduceEqDiff,Nat.reduceAdd,reduceIte,reduceCtorEq,Nat.reduceLT,Nat.reduceLeDiff,Nat.reduceShiftRight,Nat.reduceMod])
  (repeat' first | exact trivial | (with_reducible first | exact RnB.fxB (ints_fxB _) | rfl | refine And.intro ?_ ?_) | (with_reducible (first | refine RnB.bb ?_ | refine RnB.nb ?_);simp only [vcW,vZ,Int.reduceEq,Int.reduceNe,Int.reduceLT,Int.reduceLE,Nat.reduceEqDiff,Nat.reduceAdd,reduceIte,reduceCtorEq,Nat.reduceLT,Nat.reduceLeDiff,Nat.reduceShiftRight,Nat.reduceMod]) | (with_reducible first | refine RnB.ii ?_ | refine RnB.app ?_) | (with_reducible refine RnB.fxB ?_;simp only [vcW,vZ,Int.reduceEq,Int.reduceNe,Int.reduceLT,Int.reduceLE,Nat.reduceEqDiff,Nat.reduceAdd,reduceIte,reduceCtorEq,Nat.reduceLT,Nat.reduceLeDiff,Nat.reduceShiftRight,Nat.reduceMod]) | omega)
 simp only [rnd_s,Int.reduceAdd,Int.reduceSub,decide_true,decide_false,i64_1,i64_2,i64_3,i64_4,true_and,Int.one_mul,Int.cast_ofNat_Int,Int.reduceToNat,Nat.zero_mul,Nat.reduceMul,Nat.zero_add,Nat.mul_one,List.getElem?_cons_zero,List.getElem?_cons_succ,vZ,Int.reduceEq,Int.reduceNe,Int.reduceLT,Int.reduceLE,Nat.reduceEqDiff,Nat.reduceAdd,reduceIte,reduceCtorEq,Nat.reduceLT,Nat.reduceLeDiff,Nat.reduceShiftRight,Nat.reduceMod]
 refine brB_split (fun h=>?_) (fun h=>?_)
 ·have h':i<l.length:=by (simp only [decide_eq_true_eq,decide_eq_false_iff_not,Bool.not_true,I64,Bool.not_eq_true',Bool.not_eq_false',bne_iff_ne,beq_iff_eq,ne_eq] at *;omega)
  simp only [plsL_get l i h',Pl.av,rnd_s,Int.reduceAdd,Int.reduceSub,decide_true,decide_false,i64_1,i64_2,i64_3,i64_4,true_and,Int.one_mul,Int.cast_ofNat_Int,Int.reduceToNat,Nat.zero_mul,Nat.reduceMul,Nat.zero_add,Nat.mul_one,List.getElem?_cons_zero,List.getElem?_cons_succ,vZ,Int.reduceEq,Int.reduceNe,Int.reduceLT,Int.reduceLE,Nat.reduceEqDiff,Nat.reduceAdd,reduceIte,reduceCtorEq,Nat.reduceLT,Nat.reduceLeDiff,Nat.reduceShiftRight,Nat.reduceMod]
  refine ⟨by omega,?_⟩
  refine callS_of (hf' _) ?_
  simp only [rnd_s,Int.reduceAdd,Int.reduceSub,decide_true,decide_false,i64_1,i64_2,i64_3,i64_4,true_and,Int.one_mul,Int.cast_ofNat_Int,Int.reduceToNat,Nat.zero_mul,Nat.reduceMul,Nat.zero_add,Nat.mul_one,List.getElem?_cons_zero,List.getElem?_cons_succ,vZ,Int.reduceEq,Int.reduceNe,Int.reduceLT,Int.reduceLE,Nat.reduceEqDiff,Nat.reduceAdd,reduceIte,reduceCtorEq,Nat.reduceLT,Nat.reduceLeDiff,Nat.reduceShiftRight,Nat.reduceMod]
  refine callS_of (hf' _) ?_
  simp only [rnd_s,Int.reduceAdd,Int.reduceSub,decide_true,decide_false,i64_1,i64_2,i64_3,i64_4,true_and,Int.one_mul,Int.cast_ofNat_Int,Int.reduceToNat,Nat.zero_mul,Nat.reduceMul,Nat.zero_add,Nat.mul_one,List.getElem?_cons_zero,List.getElem?_cons_succ,vZ,Int.reduceEq,Int.reduceNe,Int.reduceLT,Int.reduceLE,Nat.reduceEqDiff,Nat.reduceAdd,reduceIte,reduceCtorEq,Nat.reduceLT,Nat.reduceLeDiff,Nat.reduceShiftRight,Nat.reduceMod]
  refine ⟨by (simp only [decide_eq_true_eq,decide_eq_false_iff_not,Bool.not_true,I64,Bool.not_eq_true',Bool.not_eq_false',bne_iff_ne,beq_iff_eq,ne_eq] at *;omega),⟨⟨i+1,by omega,trivial⟩,by simp only;omega,?_⟩⟩
  have hm:=mnF_take g (g l[0]) l i h'
  have hx:=mxF_take g (g l[0]) l i h'
  refine weakX [(3,some 3),(4,some 4)] (of_decide_eq_true rfl) (of_decide_eq_true rfl) ?_
  (simp only [hm,hx,vcW,vZ,Int.reduceEq,Int.reduceNe,Int.reduceLT,Int.reduceLE,Nat.reduceEqDiff,Nat.reduceAdd,reduceIte,reduceCtorEq,Nat.reduceLT,Nat.reduceLeDiff,Nat.reduceShiftRight,Nat.reduceMod])
  (repeat' first | exact trivial | (with_reducible first | exact RnB.fxB (ints_fxB _) | rfl | refine And.intro ?_ ?_) | (with_reducible (first | refine RnB.bb ?_ | refine RnB.nb ?_);simp only [vcW,vZ,Int.reduceEq,Int.reduceNe,Int.reduceLT,Int.reduceLE,Nat.reduceEqDiff,Nat.reduceAdd,reduceIte,reduceCtorEq,Nat.reduceLT,Nat.reduceLeDiff,Nat.reduceShiftRight,Nat.reduceMod]) | (with_reducible first | refine RnB.ii ?_ | refine RnB.app ?_) | (with_reducible refine RnB.fxB ?_;simp only [vcW,vZ,Int.reduceEq,Int.reduceNe,Int.reduceLT,Int.reduceLE,Nat.reduceEqDiff,Nat.reduceAdd,reduceIte,reduceCtorEq,Nat.reduceLT,Nat.reduceLeDiff,Nat.reduceShiftRight,Nat.reduceMod]) | omega)
  all_goals simp
 ·have:i=l.length:=by (simp only [decide_eq_true_eq,decide_eq_false_iff_not,Bool.not_true,I64,Bool.not_eq_true',Bool.not_eq_false',bne_iff_ne,beq_iff_eq,ne_eq] at *;omega)
  subst this
  simp only [List.take_length,rnd_s,Int.reduceAdd,Int.reduceSub,decide_true,decide_false,i64_1,i64_2,i64_3,i64_4,true_and,Int.one_mul,Int.cast_ofNat_Int,Int.reduceToNat,Nat.zero_mul,Nat.reduceMul,Nat.zero_add,Nat.mul_one,List.getElem?_cons_zero,List.getElem?_cons_succ,vZ,Int.reduceEq,Int.reduceNe,Int.reduceLT,Int.reduceLE,Nat.reduceEqDiff,Nat.reduceAdd,reduceIte,reduceCtorEq,Nat.reduceLT,Nat.reduceLeDiff,Nat.reduceShiftRight,Nat.reduceMod]
  unfold sideV
  rw [h0]
def Pl.gx (p:Pl):Int:=p.x
def Pl.gy (p:Pl):Int:=p.y
def Pl.gz (p:Pl):Int:=p.z
theorem gx_s (p:Pl):Sound Tryd.prog 31 [p.av] (.int .i64 p.gx):=ofX_s p
theorem gy_s (p:Pl):Sound Tryd.prog 32 [p.av] (.int .i64 p.gy):=ofY_s p
theorem gz_s (p:Pl):Sound Tryd.prog 33 [p.av] (.int .i64 p.gz):=ofZ_s p
def loV (g:Pl→Int) (l:List Pl):Int:=mnF g (g l[0]!) l
def hiV (g:Pl→Int) (l:List Pl):Int:=mxF g (g l[0]!) l
theorem lo_hi {g:Pl→Int} {l:List Pl} {p:Pl} (h:p ∈ l):loV g l≤g p∧g p≤hiV g l:=⟨(mnF_le g l _).2 p h,(mxF_le g l _).2 p h⟩
def boxV (l:List Pl):AV:=.agg [.int .i64 (loV Pl.gx l),.int .i64 (hiV Pl.gx l),.int .i64 (loV Pl.gy l),.int .i64 (hiV Pl.gy l),.int .i64 (loV Pl.gz l),.int .i64 (hiV Pl.gz l)]
theorem BoxOf_s (s:Se) (hs:s.Ok) (hpos:0<s.cand.length):Sound Tryd.prog 13 [s.av] (.tup [boxV (srt s.cand),.int .i64 0]):=by
 refine sound_W f_ice_BoxOf (Nat.le_of_ble_eq_true rfl) ?_
 have hP:=PlacesIn_s s hs hpos
 obtain ⟨m1,m2,m3⟩:=hs.b.n
 have hlen:s.cand.length≤20000:=by
  have:=all_len (s:=s) hs.b s.b.nz 0 0 m3 (by omega) (by omega)
  have e:s.cand=s.c0 s.b.nz:=rfl
  rw [e];omega
 have hl2:=srt_length s.cand
 generalize srt s.cand=l at *
 have hl0:0<l.length:=by omega
 have hx:=side_s l hl0 (by omega) _ Pl.gx gx_s
 have hy:=side_s l hl0 (by omega) _ Pl.gy gy_s
 have hz:=side_s l hl0 (by omega) _ Pl.gz gz_s
 simp only [sideV] at hx hy hz
 simp only [Se.av] at hP
 have p1:decide ((0:Int)<l.length)=true:=decide_eq_true (by omega)
 simp only [c_ice_BoxOf,Se.av,rnd_s,Int.reduceAdd,Int.reduceSub,decide_true,decide_false,i64_1,i64_2,i64_3,i64_4,true_and,Int.one_mul,Int.cast_ofNat_Int,Int.reduceToNat,Nat.zero_mul,Nat.reduceMul,Nat.zero_add,Nat.mul_one,List.getElem?_cons_zero,List.getElem?_cons_succ,vZ,Int.reduceEq,Int.reduceNe,Int.reduceLT,Int.reduceLE,Nat.reduceEqDiff,Nat.reduceAdd,reduceIte,reduceCtorEq,Nat.reduceLT,Nat.reduceLeDiff,Nat.reduceShiftRight,Nat.reduceMod]
 refine callS_of hP ?_
 simp only [plsL_length,p1,rnd_s,Int.reduceAdd,Int.reduceSub,decide_true,decide_false,i64_1,i64_2,i64_3,i64_4,true_and,Int.one_mul,Int.cast_ofNat_Int,Int.reduceToNat,Nat.zero_mul,Nat.reduceMul,Nat.zero_add,Nat.mul_one,List.getElem?_cons_zero,List.getElem?_cons_succ,vZ,Int.reduceEq,Int.reduceNe,Int.reduceLT,Int.reduceLE,Nat.reduceEqDiff,Nat.reduceAdd,reduceIte,reduceCtorEq,Nat.reduceLT,Nat.reduceLeDiff,Nat.reduceShiftRight,Nat.reduceMod]
 refine callS_of (unless_s _ _) ?_
 simp only [if_true,rnd_s,Int.reduceAdd,Int.reduceSub,decide_true,decide_false,i64_1,i64_2,i64_3,i64_4,true_and,Int.one_mul,Int.cast_ofNat_Int,Int.reduceToNat,Nat.zero_mul,Nat.reduceMul,Nat.zero_add,Nat.mul_one,List.getElem?_cons_zero,List.getElem?_cons_succ,vZ,Int.reduceEq,Int.reduceNe,Int.reduceLT,Int.reduceLE,Nat.reduceEqDiff,Nat.reduceAdd,reduceIte,reduceCtorEq,Nat.reduceLT,Nat.reduceLeDiff,Nat.reduceShiftRight,Nat.reduceMod]
 refine callS_of (first2_s _ _) ?_
 simp only [if_false,rnd_s,Int.reduceAdd,Int.reduceSub,decide_true,decide_false,i64_1,i64_2,i64_3,i64_4,true_and,Int.one_mul,Int.cast_ofNat_Int,Int.reduceToNat,Nat.zero_mul,Nat.reduceMul,Nat.zero_add,Nat.mul_one,List.getElem?_cons_zero,List.getElem?_cons_succ,vZ,Int.reduceEq,Int.reduceNe,Int.reduceLT,Int.reduceLE,Nat.reduceEqDiff,Nat.reduceAdd,reduceIte,reduceCtorEq,Nat.reduceLT,Nat.reduceLeDiff,Nat.reduceShiftRight,Nat.reduceMod]
 refine callS_of hx ?_
 simp only [rnd_s,Int.reduceAdd,Int.reduceSub,decide_true,decide_false,i64_1,i64_2,i64_3,i64_4,true_and,Int.one_mul,Int.cast_ofNat_Int,Int.reduceToNat,Nat.zero_mul,Nat.reduceMul,Nat.zero_add,Nat.mul_one,List.getElem?_cons_zero,List.getElem?_cons_succ,vZ,Int.reduceEq,Int.reduceNe,Int.reduceLT,Int.reduceLE,Nat.reduceEqDiff,Nat.reduceAdd,reduceIte,reduceCtorEq,Nat.reduceLT,Nat.reduceLeDiff,Nat.reduceShiftRight,Nat.reduceMod]
 refine callS_of hy ?_
 simp only [rnd_s,Int.reduceAdd,Int.reduceSub,decide_true,decide_false,i64_1,i64_2,i64_3,i64_4,true_and,Int.one_mul,Int.cast_ofNat_Int,Int.reduceToNat,Nat.zero_mul,Nat.reduceMul,Nat.zero_add,Nat.mul_one,List.getElem?_cons_zero,List.getElem?_cons_succ,vZ,Int.reduceEq,Int.reduceNe,Int.reduceLT,Int.reduceLE,Nat.reduceEqDiff,Nat.reduceAdd,reduceIte,reduceCtorEq,Nat.reduceLT,Nat.reduceLeDiff,Nat.reduceShiftRight,Nat.reduceMod]
 refine callS_of hz ?_
 simp only [rnd_s,Int.reduceAdd,Int.reduceSub,decide_true,decide_false,i64_1,i64_2,i64_3,i64_4,true_and,Int.one_mul,Int.cast_ofNat_Int,Int.reduceToNat,Nat.zero_mul,Nat.reduceMul,Nat.zero_add,Nat.mul_one,List.getElem?_cons_zero,List.getElem?_cons_succ,vZ,Int.reduceEq,Int.reduceNe,Int.reduceLT,Int.reduceLE,Nat.reduceEqDiff,Nat.reduceAdd,reduceIte,reduceCtorEq,Nat.reduceLT,Nat.reduceLeDiff,Nat.reduceShiftRight,Nat.reduceMod]
 rfl
end Go.Proofs.YtoiajhogondgcaaDoor

/- Holes: the program's own. By an AI agent;nothing here is trusted. -/
namespace Go.Proofs.YtoiajhogondgcaaDoor
open Go.Av

theorem CheckHole_s (h:Hole) (ho:h.Ok):Sound Tryd.prog 43 [h.av] (.tup [.int .i64 0,.int .i64 0]):=by
 refine sound_W f_ice_CheckHole (Nat.le_of_ble_eq_true rfl) ?_
 have hn0:=ho.n0
 have heq:=ho.eq
 have hle:=ho.le
 have hne:=ho.need
 have p1:decide ((0:Int)<h.w.length)=true:=decide_eq_true (by omega)
 have p2:decide ((h.w.length:Int)=(h.s.length:Int))=true:=decide_eq_true (by omega)
 have p3:decide ((h.w.length:Int)≤20)=true:=decide_eq_true (by omega)
 simp only [c_ice_CheckHole,Hole.av,p1,p2,p3,rnd_s,Int.reduceAdd,Int.reduceSub,decide_true,decide_false,i64_1,i64_2,i64_3,i64_4,true_and,Int.one_mul,Int.cast_ofNat_Int,Int.reduceToNat,Nat.zero_mul,Nat.reduceMul,Nat.zero_add,Nat.mul_one,List.getElem?_cons_zero,List.getElem?_cons_succ,vZ,Int.reduceEq,Int.reduceNe,Int.reduceLT,Int.reduceLE,Nat.reduceEqDiff,Nat.reduceAdd,reduceIte,reduceCtorEq,Nat.reduceLT,Nat.reduceLeDiff,Nat.reduceShiftRight,Nat.reduceMod]
 refine callS_of (unless_s _ _) ?_
 simp only [p3,rnd_s,Int.reduceAdd,Int.reduceSub,decide_true,decide_false,i64_1,i64_2,i64_3,i64_4,true_and,Int.one_mul,Int.cast_ofNat_Int,Int.reduceToNat,Nat.zero_mul,Nat.reduceMul,Nat.zero_add,Nat.mul_one,List.getElem?_cons_zero,List.getElem?_cons_succ,vZ,Int.reduceEq,Int.reduceNe,Int.reduceLT,Int.reduceLE,Nat.reduceEqDiff,Nat.reduceAdd,reduceIte,reduceCtorEq,Nat.reduceLT,Nat.reduceLeDiff,Nat.reduceShiftRight,Nat.reduceMod]
 refine callS_of (unless_s _ _) ?_
 simp only [rnd_s,Int.reduceAdd,Int.reduceSub,decide_true,decide_false,i64_1,i64_2,i64_3,i64_4,true_and,Int.one_mul,Int.cast_ofNat_Int,Int.reduceToNat,Nat.zero_mul,Nat.reduceMul,Nat.zero_add,Nat.mul_one,List.getElem?_cons_zero,List.getElem?_cons_succ,vZ,Int.reduceEq,Int.reduceNe,Int.reduceLT,Int.reduceLE,Nat.reduceEqDiff,Nat.reduceAdd,reduceIte,reduceCtorEq,Nat.reduceLT,Nat.reduceLeDiff,Nat.reduceShiftRight,Nat.reduceMod]
 refine callS_of (within_s _ _ _) ?_
 simp only [hne,rnd_s,Int.reduceAdd,Int.reduceSub,decide_true,decide_false,i64_1,i64_2,i64_3,i64_4,true_and,Int.one_mul,Int.cast_ofNat_Int,Int.reduceToNat,Nat.zero_mul,Nat.reduceMul,Nat.zero_add,Nat.mul_one,List.getElem?_cons_zero,List.getElem?_cons_succ,vZ,Int.reduceEq,Int.reduceNe,Int.reduceLT,Int.reduceLE,Nat.reduceEqDiff,Nat.reduceAdd,reduceIte,reduceCtorEq,Nat.reduceLT,Nat.reduceLeDiff,Nat.reduceShiftRight,Nat.reduceMod]
 refine callS_of (unless_s _ _) ?_
 simp only [hne,rnd_s,Int.reduceAdd,Int.reduceSub,decide_true,decide_false,i64_1,i64_2,i64_3,i64_4,true_and,Int.one_mul,Int.cast_ofNat_Int,Int.reduceToNat,Nat.zero_mul,Nat.reduceMul,Nat.zero_add,Nat.mul_one,List.getElem?_cons_zero,List.getElem?_cons_succ,vZ,Int.reduceEq,Int.reduceNe,Int.reduceLT,Int.reduceLE,Nat.reduceEqDiff,Nat.reduceAdd,reduceIte,reduceCtorEq,Nat.reduceLT,Nat.reduceLeDiff,Nat.reduceShiftRight,Nat.reduceMod]
 refine callS_of (first3_s _ _ _) ?_
 simp only [p3,rnd_s,Int.reduceAdd,Int.reduceSub,decide_true,decide_false,i64_1,i64_2,i64_3,i64_4,true_and,Int.one_mul,Int.cast_ofNat_Int,Int.reduceToNat,Nat.zero_mul,Nat.reduceMul,Nat.zero_add,Nat.mul_one,List.getElem?_cons_zero,List.getElem?_cons_succ,vZ,Int.reduceEq,Int.reduceNe,Int.reduceLT,Int.reduceLE,Nat.reduceEqDiff,Nat.reduceAdd,reduceIte,reduceCtorEq,Nat.reduceLT,Nat.reduceLeDiff,Nat.reduceShiftRight,Nat.reduceMod]
 refine ⟨usedL_buf rfl (ints_imm [_,_,_]) rfl,?_⟩
 refine W_loop (t:=.mk) (α:=PSigma fun i:Nat=>i≤h.w.length∧(True)) (fun ⟨i,_⟩=>((envOf [(1,.ptr 1 0 0),(36,.sl (ints h.w)),(37,.int .i64 h.w.length),(38,.int .i64 i)],stOf [(1,⟨24,3,[h.av]⟩)]))) (fun i=>h.w.length - i.1) ⟨0,Nat.zero_le _,?_⟩ ?_ (fun ⟨i,hi,hn⟩=>?_)
 ·trivial
 ·refine weakX [(1,some 1)] (of_decide_eq_true rfl) (of_decide_eq_true rfl) ?_
  (simp only [Hole.av,vcW,vZ,Int.reduceEq,Int.reduceNe,Int.reduceLT,Int.reduceLE,Nat.reduceEqDiff,Nat.reduceAdd,reduceIte,reduceCtorEq,Nat.reduceLT,Nat.reduceLeDiff,Nat.reduceShiftRight,Nat.reduceMod])
  (repeat' first | exact trivial | (with_reducible first | exact RnB.fxB (ints_fxB _) | rfl | refine And.intro ?_ ?_) | (with_reducible (first | refine RnB.bb ?_ | refine RnB.nb ?_);simp only [vcW,vZ,Int.reduceEq,Int.reduceNe,Int.reduceLT,Int.reduceLE,Nat.reduceEqDiff,Nat.reduceAdd,reduceIte,reduceCtorEq,Nat.reduceLT,Nat.reduceLeDiff,Nat.reduceShiftRight,Nat.reduceMod]) | (with_reducible first | refine RnB.ii ?_ | refine RnB.app ?_) | (with_reducible refine RnB.fxB ?_;simp only [vcW,vZ,Int.reduceEq,Int.reduceNe,Int.reduceLT,Int.reduceLE,Nat.reduceEqDiff,Nat.reduceAdd,reduceIte,reduceCtorEq,Nat.reduceLT,Nat.reduceLeDiff,Nat.reduceShiftRight,Nat.reduceMod]) | omega)
 ·simp only [Hole.av,rnd_s,Int.reduceAdd,Int.reduceSub,decide_true,decide_false,i64_1,i64_2,i64_3,i64_4,true_and,Int.one_mul,Int.cast_ofNat_Int,Int.reduceToNat,Nat.zero_mul,Nat.reduceMul,Nat.zero_add,Nat.mul_one,List.getElem?_cons_zero,List.getElem?_cons_succ,vZ,Int.reduceEq,Int.reduceNe,Int.reduceLT,Int.reduceLE,Nat.reduceEqDiff,Nat.reduceAdd,reduceIte,reduceCtorEq,Nat.reduceLT,Nat.reduceLeDiff,Nat.reduceShiftRight,Nat.reduceMod]
  refine brB_split (fun h2=>?_) (fun h2=>?_)
  ·have h':i<h.w.length:=by (simp only [decide_eq_true_eq,decide_eq_false_iff_not,Bool.not_true,I64,Bool.not_eq_true',Bool.not_eq_false',bne_iff_ne,beq_iff_eq,ne_eq] at *;omega)
   have hs':i<h.s.length:=by omega
   have hw:=ho.w i h'
   have hs:=ho.s i h'
   have w0:0≤h.w.getD i 0∧h.w.getD i 0≤1000000:=by omega
   have w1:decide (h.need≤h.w.getD i 0)=true:=decide_eq_true hw.1
   simp only [ints_getD h.w i h',rnd_s,Int.reduceAdd,Int.reduceSub,decide_true,decide_false,i64_1,i64_2,i64_3,i64_4,true_and,Int.one_mul,Int.cast_ofNat_Int,Int.reduceToNat,Nat.zero_mul,Nat.reduceMul,Nat.zero_add,Nat.mul_one,List.getElem?_cons_zero,List.getElem?_cons_succ,vZ,Int.reduceEq,Int.reduceNe,Int.reduceLT,Int.reduceLE,Nat.reduceEqDiff,Nat.reduceAdd,reduceIte,reduceCtorEq,Nat.reduceLT,Nat.reduceLeDiff,Nat.reduceShiftRight,Nat.reduceMod]
   refine ⟨by omega,?_⟩
   refine callS_of (within_s _ _ _) ?_
   simp only [w0,ints_getD h.s i hs',rnd_s,Int.reduceAdd,Int.reduceSub,decide_true,decide_false,i64_1,i64_2,i64_3,i64_4,true_and,Int.one_mul,Int.cast_ofNat_Int,Int.reduceToNat,Nat.zero_mul,Nat.reduceMul,Nat.zero_add,Nat.mul_one,List.getElem?_cons_zero,List.getElem?_cons_succ,vZ,Int.reduceEq,Int.reduceNe,Int.reduceLT,Int.reduceLE,Nat.reduceEqDiff,Nat.reduceAdd,reduceIte,reduceCtorEq,Nat.reduceLT,Nat.reduceLeDiff,Nat.reduceShiftRight,Nat.reduceMod]
   refine ⟨by omega,?_⟩
   refine callS_of (within_s _ _ _) ?_
   simp only [hs,rnd_s,Int.reduceAdd,Int.reduceSub,decide_true,decide_false,i64_1,i64_2,i64_3,i64_4,true_and,Int.one_mul,Int.cast_ofNat_Int,Int.reduceToNat,Nat.zero_mul,Nat.reduceMul,Nat.zero_add,Nat.mul_one,List.getElem?_cons_zero,List.getElem?_cons_succ,vZ,Int.reduceEq,Int.reduceNe,Int.reduceLT,Int.reduceLE,Nat.reduceEqDiff,Nat.reduceAdd,reduceIte,reduceCtorEq,Nat.reduceLT,Nat.reduceLeDiff,Nat.reduceShiftRight,Nat.reduceMod]
   refine callS_of (unless_s _ _) ?_
   simp only [w1,rnd_s,Int.reduceAdd,Int.reduceSub,decide_true,decide_false,i64_1,i64_2,i64_3,i64_4,true_and,Int.one_mul,Int.cast_ofNat_Int,Int.reduceToNat,Nat.zero_mul,Nat.reduceMul,Nat.zero_add,Nat.mul_one,List.getElem?_cons_zero,List.getElem?_cons_succ,vZ,Int.reduceEq,Int.reduceNe,Int.reduceLT,Int.reduceLE,Nat.reduceEqDiff,Nat.reduceAdd,reduceIte,reduceCtorEq,Nat.reduceLT,Nat.reduceLeDiff,Nat.reduceShiftRight,Nat.reduceMod]
   refine callS_of (unless_s _ _) ?_
   simp only [rnd_s,Int.reduceAdd,Int.reduceSub,decide_true,decide_false,i64_1,i64_2,i64_3,i64_4,true_and,Int.one_mul,Int.cast_ofNat_Int,Int.reduceToNat,Nat.zero_mul,Nat.reduceMul,Nat.zero_add,Nat.mul_one,List.getElem?_cons_zero,List.getElem?_cons_succ,vZ,Int.reduceEq,Int.reduceNe,Int.reduceLT,Int.reduceLE,Nat.reduceEqDiff,Nat.reduceAdd,reduceIte,reduceCtorEq,Nat.reduceLT,Nat.reduceLeDiff,Nat.reduceShiftRight,Nat.reduceMod]
   refine callS_of (first2_s _ _) ?_
   simp only [rnd_s,Int.reduceAdd,Int.reduceSub,decide_true,decide_false,i64_1,i64_2,i64_3,i64_4,true_and,Int.one_mul,Int.cast_ofNat_Int,Int.reduceToNat,Nat.zero_mul,Nat.reduceMul,Nat.zero_add,Nat.mul_one,List.getElem?_cons_zero,List.getElem?_cons_succ,vZ,Int.reduceEq,Int.reduceNe,Int.reduceLT,Int.reduceLE,Nat.reduceEqDiff,Nat.reduceAdd,reduceIte,reduceCtorEq,Nat.reduceLT,Nat.reduceLeDiff,Nat.reduceShiftRight,Nat.reduceMod]
   refine ⟨usedL_buf rfl (ints_imm [_,_]) rfl,?_⟩
   refine ⟨by (simp only [decide_eq_true_eq,decide_eq_false_iff_not,Bool.not_true,I64,Bool.not_eq_true',Bool.not_eq_false',bne_iff_ne,beq_iff_eq,ne_eq] at *;omega),⟨⟨i+1,by omega,trivial⟩,by simp only;omega,?_⟩⟩
   refine weakX [(1,some 1)] (of_decide_eq_true rfl) (of_decide_eq_true rfl) ?_
   (simp only [Hole.av,vcW,vZ,Int.reduceEq,Int.reduceNe,Int.reduceLT,Int.reduceLE,Nat.reduceEqDiff,Nat.reduceAdd,reduceIte,reduceCtorEq,Nat.reduceLT,Nat.reduceLeDiff,Nat.reduceShiftRight,Nat.reduceMod])
   (repeat' first | exact trivial | (with_reducible first | exact RnB.fxB (ints_fxB _) | rfl | refine And.intro ?_ ?_) | (with_reducible (first | refine RnB.bb ?_ | refine RnB.nb ?_);simp only [vcW,vZ,Int.reduceEq,Int.reduceNe,Int.reduceLT,Int.reduceLE,Nat.reduceEqDiff,Nat.reduceAdd,reduceIte,reduceCtorEq,Nat.reduceLT,Nat.reduceLeDiff,Nat.reduceShiftRight,Nat.reduceMod]) | (with_reducible first | refine RnB.ii ?_ | refine RnB.app ?_) | (with_reducible refine RnB.fxB ?_;simp only [vcW,vZ,Int.reduceEq,Int.reduceNe,Int.reduceLT,Int.reduceLE,Nat.reduceEqDiff,Nat.reduceAdd,reduceIte,reduceCtorEq,Nat.reduceLT,Nat.reduceLeDiff,Nat.reduceShiftRight,Nat.reduceMod]) | omega)
   all_goals simp
  ·simp only [rnd_s,Int.reduceAdd,Int.reduceSub,decide_true,decide_false,i64_1,i64_2,i64_3,i64_4,true_and,Int.one_mul,Int.cast_ofNat_Int,Int.reduceToNat,Nat.zero_mul,Nat.reduceMul,Nat.zero_add,Nat.mul_one,List.getElem?_cons_zero,List.getElem?_cons_succ,vZ,Int.reduceEq,Int.reduceNe,Int.reduceLT,Int.reduceLE,Nat.reduceEqDiff,Nat.reduceAdd,reduceIte,reduceCtorEq,Nat.reduceLT,Nat.reduceLeDiff,Nat.reduceShiftRight,Nat.reduceMod]
theorem holeErr_s (h:Hole) (ho:h.Ok):Sound Tryd.prog 20 [h.av] (.int .i64 0):=by
 refine sound_W f_ice_holeErr (Nat.le_of_ble_eq_true rfl) ?_
 simp only [c_ice_holeErr,Hole.av,rnd_s,Int.reduceAdd,Int.reduceSub,decide_true,decide_false,i64_1,i64_2,i64_3,i64_4,true_and,Int.one_mul,Int.cast_ofNat_Int,Int.reduceToNat,Nat.zero_mul,Nat.reduceMul,Nat.zero_add,Nat.mul_one,List.getElem?_cons_zero,List.getElem?_cons_succ,vZ,Int.reduceEq,Int.reduceNe,Int.reduceLT,Int.reduceLE,Nat.reduceEqDiff,Nat.reduceAdd,reduceIte,reduceCtorEq,Nat.reduceLT,Nat.reduceLeDiff,Nat.reduceShiftRight,Nat.reduceMod]
 refine callS_of (CheckHole_s h ho) ?_
 simp only [rnd_s,Int.reduceAdd,Int.reduceSub,decide_true,decide_false,i64_1,i64_2,i64_3,i64_4,true_and,Int.one_mul,Int.cast_ofNat_Int,Int.reduceToNat,Nat.zero_mul,Nat.reduceMul,Nat.zero_add,Nat.mul_one,List.getElem?_cons_zero,List.getElem?_cons_succ,vZ,Int.reduceEq,Int.reduceNe,Int.reduceLT,Int.reduceLE,Nat.reduceEqDiff,Nat.reduceAdd,reduceIte,reduceCtorEq,Nat.reduceLT,Nat.reduceLeDiff,Nat.reduceShiftRight,Nat.reduceMod]

def Hole.cl (h:Hole) (k:Nat):Int:=(h.w.getD k 0 - h.need).tdiv (h.s.getD k 0)
theorem Hole.Ok.cl {h:Hole} (ho:h.Ok) {k:Nat} (hk:k<h.w.length):0≤h.cl k∧h.cl k≤1000000:=by
 have h1:=ho.w k hk
 have h2:=ho.s k hk
 have h3:=ho.need
 unfold Hole.cl
 constructor
 ·exact Int.tdiv_nonneg (by omega) (by omega)
 ·have:=Int.tdiv_le_self (h.s.getD k 0) (show 0≤h.w.getD k 0 - h.need by omega)
  omega
def clA (h:Hole) (k:Nat):List AV:=[.int .i64 k,.int .i64 (h.cl k)]
def clL (h:Hole):List (List AV):=(List.range h.w.length).map (clA h)
theorem deadAll_no:deadAll noStore=noStore:=rfl
theorem closes_1_s (h:Hole) (ho:h.Ok):SeqA Tryd.prog 44 [.eptr h.av 0] (clL h):=by
 refine seq_W f_ice_closes_1 (Nat.le_of_ble_eq_true rfl) fun y=>?_
 have hle:=ho.le
 have heq:=ho.eq
 simp only [c_ice_closes_1,Hole.av,Int.cast_ofNat_Int,Int.reduceToNat,Nat.zero_mul,Nat.reduceMul,Nat.zero_add,Nat.mul_one,List.getElem?_cons_zero,List.getElem?_cons_succ,true_and,vcC,Int.reduceEq,Int.reduceNe,Int.reduceLT,Int.reduceLE,Nat.reduceEqDiff,Nat.reduceAdd,reduceIte,reduceCtorEq,Nat.reduceLT,Nat.reduceLeDiff,eq_self,vcP,WY_skip,WY_reg,WY_regY,WY_seq,WY_cond,WY_block,WY_exit,WY_ret,WY_regT,VY_nil,VY_yld,VY_yldg,VY_ps,seqY_n,seqY_r,seqY_x,blockY_n,blockY_r,blockY_x,isCallvs,isCallv,isY,List.any_cons,List.any_nil,Bool.or_false,Bool.or_true,Bool.false_or,Bool.and_false,Bool.false_and]
 refine WY_loop (α:=PSigma fun i:Nat=>i≤h.w.length) (fun i=>((envOf [(0,.yld y),(1,.eptr h.av 0),(6,.sl (ints h.w)),(7,.int .i64 h.w.length),(8,.int .i64 i.1)],noStore),some ((List.range i.1).map (clA h))))
  (fun i=>h.w.length - i.1) ⟨0,by simp⟩ (weakE _ ?_) ?_ (fun ⟨i,hi⟩=>?_)
 ·simp only [Hole.av,vcC,Int.reduceEq,Int.reduceNe,Int.reduceLT,Int.reduceLE,Nat.reduceEqDiff,Nat.reduceAdd,reduceIte,reduceCtorEq,Nat.reduceLT,Nat.reduceLeDiff,eq_self,vcP,WY_skip,WY_reg,WY_regY,WY_seq,WY_cond,WY_block,WY_exit,WY_ret,WY_regT,VY_nil,VY_yld,VY_yldg,VY_ps,seqY_n,seqY_r,seqY_x,blockY_n,blockY_r,blockY_x,isCallvs,isCallv,isY,List.any_cons,List.any_nil,Bool.or_false,Bool.or_true,Bool.false_or,Bool.and_false,Bool.false_and];simp
 ·simp
 ·simp only [Hole.av,Int.cast_ofNat_Int,Int.reduceToNat,Nat.zero_mul,Nat.reduceMul,Nat.zero_add,Nat.mul_one,List.getElem?_cons_zero,List.getElem?_cons_succ,true_and,vcC,Int.reduceEq,Int.reduceNe,Int.reduceLT,Int.reduceLE,Nat.reduceEqDiff,Nat.reduceAdd,reduceIte,reduceCtorEq,Nat.reduceLT,Nat.reduceLeDiff,eq_self,vcP,WY_skip,WY_reg,WY_regY,WY_seq,WY_cond,WY_block,WY_exit,WY_ret,WY_regT,VY_nil,VY_yld,VY_yldg,VY_ps,seqY_n,seqY_r,seqY_x,blockY_n,blockY_r,blockY_x,isCallvs,isCallv,isY,List.any_cons,List.any_nil,Bool.or_false,Bool.or_true,Bool.false_or,Bool.and_false,Bool.false_and]
  refine brB_split (fun h2=>?_) (fun h2=>?_)
  ·have h':i<h.w.length:=by (simp only [decide_eq_true_eq,decide_eq_false_iff_not,Bool.not_true,I64,Bool.not_eq_true',Bool.not_eq_false',bne_iff_ne,beq_iff_eq,ne_eq] at *;omega)
   have hs':i<h.s.length:=by omega
   have hw:=ho.w i h'
   have hs:=ho.s i h'
   have hne:=ho.need
   have hc:=ho.cl h'
   simp only [ints_getD h.w i h',ints_getD h.s i hs',Int.cast_ofNat_Int,Int.reduceToNat,Nat.zero_mul,Nat.reduceMul,Nat.zero_add,Nat.mul_one,List.getElem?_cons_zero,List.getElem?_cons_succ,true_and,vcC,Int.reduceEq,Int.reduceNe,Int.reduceLT,Int.reduceLE,Nat.reduceEqDiff,Nat.reduceAdd,reduceIte,reduceCtorEq,Nat.reduceLT,Nat.reduceLeDiff,eq_self,vcP,WY_skip,WY_reg,WY_regY,WY_seq,WY_cond,WY_block,WY_exit,WY_ret,WY_regT,VY_nil,VY_yld,VY_yldg,VY_ps,seqY_n,seqY_r,seqY_x,blockY_n,blockY_r,blockY_x,isCallvs,isCallv,isY,List.any_cons,List.any_nil,Bool.or_false,Bool.or_true,Bool.false_or,Bool.and_false,Bool.false_and]
   refine ⟨by omega,by (simp only [decide_eq_true_eq,decide_eq_false_iff_not,Bool.not_true,I64,Bool.not_eq_true',Bool.not_eq_false',bne_iff_ne,beq_iff_eq,ne_eq] at *;omega),by omega,by omega,?_,?_⟩
   ·unfold Hole.cl at hc;unfold I64;omega
   refine yS_of ((List.range i).map (clA h)) ((List.range' (i+1) (h.w.length - i - 1)).map (clA h)) rfl ?_ ?_ ?_
   ·unfold clL
    have e:List.range h.w.length=List.range i ++ i :: List.range' (i+1) (h.w.length - i - 1):=by
     have h3:=List.range'_append_1 (s:=0) (m:=i) (n:=h.w.length - i)
     rw [Nat.zero_add,show i+(h.w.length - i)=h.w.length by omega] at h3
     rw [List.range_eq_range',List.range_eq_range',← h3,show h.w.length - i=(h.w.length - i - 1)+1 by omega,List.range'_succ]
     simp
    rw [e,List.map_append,List.map_cons]
    rfl
   ·simp only [deadAll_no,vcC,Int.reduceEq,Int.reduceNe,Int.reduceLT,Int.reduceLE,Nat.reduceEqDiff,Nat.reduceAdd,reduceIte,reduceCtorEq,Nat.reduceLT,Nat.reduceLeDiff,eq_self,vcP,WY_skip,WY_reg,WY_regY,WY_seq,WY_cond,WY_block,WY_exit,WY_ret,WY_regT,VY_nil,VY_yld,VY_yldg,VY_ps,seqY_n,seqY_r,seqY_x,blockY_n,blockY_r,blockY_x,isCallvs,isCallv,isY,List.any_cons,List.any_nil,Bool.or_false,Bool.or_true,Bool.false_or,Bool.and_false,Bool.false_and]
    refine ⟨by (simp only [decide_eq_true_eq,decide_eq_false_iff_not,Bool.not_true,I64,Bool.not_eq_true',Bool.not_eq_false',bne_iff_ne,beq_iff_eq,ne_eq] at *;omega),⟨i+1,by omega⟩,by simp only;omega,weakE _ ?_,?_⟩
    ·simp only [Hole.av,vcC,Int.reduceEq,Int.reduceNe,Int.reduceLT,Int.reduceLE,Nat.reduceEqDiff,Nat.reduceAdd,reduceIte,reduceCtorEq,Nat.reduceLT,Nat.reduceLeDiff,eq_self,vcP,WY_skip,WY_reg,WY_regY,WY_seq,WY_cond,WY_block,WY_exit,WY_ret,WY_regT,VY_nil,VY_yld,VY_yldg,VY_ps,seqY_n,seqY_r,seqY_x,blockY_n,blockY_r,blockY_x,isCallvs,isCallv,isY,List.any_cons,List.any_nil,Bool.or_false,Bool.or_true,Bool.false_or,Bool.and_false,Bool.false_and];simp
    ·simp only [List.range_succ,List.map_append,List.map_cons,List.map_nil];rfl
   ·simp only [deadAll_no,vcC,Int.reduceEq,Int.reduceNe,Int.reduceLT,Int.reduceLE,Nat.reduceEqDiff,Nat.reduceAdd,reduceIte,reduceCtorEq,Nat.reduceLT,Nat.reduceLeDiff,eq_self,vcP,WY_skip,WY_reg,WY_regY,WY_seq,WY_cond,WY_block,WY_exit,WY_ret,WY_regT,VY_nil,VY_yld,VY_yldg,VY_ps,seqY_n,seqY_r,seqY_x,blockY_n,blockY_r,blockY_x,isCallvs,isCallv,isY,List.any_cons,List.any_nil,Bool.or_false,Bool.or_true,Bool.false_or,Bool.and_false,Bool.false_and];simp
  ·simp only [vcC,Int.reduceEq,Int.reduceNe,Int.reduceLT,Int.reduceLE,Nat.reduceEqDiff,Nat.reduceAdd,reduceIte,reduceCtorEq,Nat.reduceLT,Nat.reduceLeDiff,eq_self,vcP,WY_skip,WY_reg,WY_regY,WY_seq,WY_cond,WY_block,WY_exit,WY_ret,WY_regT,VY_nil,VY_yld,VY_yldg,VY_ps,seqY_n,seqY_r,seqY_x,blockY_n,blockY_r,blockY_x,isCallvs,isCallv,isY,List.any_cons,List.any_nil,Bool.or_false,Bool.or_true,Bool.false_or,Bool.and_false,Bool.false_and]
   have:i=h.w.length:=by (simp only [decide_eq_true_eq,decide_eq_false_iff_not,Bool.not_true,I64,Bool.not_eq_true',Bool.not_eq_false',bne_iff_ne,beq_iff_eq,ne_eq] at *;omega)
   subst this
   simp [clL]
theorem closes_s (h:Hole):Sound Tryd.prog 23 [h.av] (.fn 44 [.eptr h.av 0]):=by
 refine sound_W f_ice_closes (Nat.le_of_ble_eq_true rfl) ?_
 simp only [c_ice_closes,Hole.av,rnd_s,Int.reduceAdd,Int.reduceSub,decide_true,decide_false,i64_1,i64_2,i64_3,i64_4,true_and,Int.one_mul,Int.cast_ofNat_Int,Int.reduceToNat,Nat.zero_mul,Nat.reduceMul,Nat.zero_add,Nat.mul_one,List.getElem?_cons_zero,List.getElem?_cons_succ,vZ,Int.reduceEq,Int.reduceNe,Int.reduceLT,Int.reduceLE,Nat.reduceEqDiff,Nat.reduceAdd,reduceIte,reduceCtorEq,Nat.reduceLT,Nat.reduceLeDiff,Nat.reduceShiftRight,Nat.reduceMod]
end Go.Proofs.YtoiajhogondgcaaDoor

/- Holes: the latest start,the slowest pace. By an AI agent;nothing here is trusted. -/
namespace Go.Proofs.YtoiajhogondgcaaDoor
open Go.Av

def Hole.lat (h:Hole) (pace:Int):Nat→Int
 | 0=>1000000
 | k+1=>min (h.lat pace k) (h.cl k - k * pace)
def Hole.slow (h:Hole) (start:Int):Nat→Int
 | 0=>1000000
 | k+1=>if 0<k then min (h.slow start k) ((h.cl k - start).tdiv k) else h.slow start k
theorem at_pre {α:Type} {L:List α} {f:α→List AV} {pre:List (List AV)} {x:List AV} {rest:List (List AV)} (h:pre ++ x :: rest=L.map f):∃ hk:pre.length<L.length,x=f L[pre.length]:=by
 have hlen:pre.length<L.length:=by have:=congrArg List.length h;simp at this;omega
 refine ⟨hlen,?_⟩
 have:=congrArg (fun l=>l[pre.length]?) h
 simp [hlen] at this
 exact this
theorem clL_at {h:Hole} {pre:List (List AV)} {x:List AV} {rest:List (List AV)} (hsp:pre ++ x :: rest=clL h):pre.length<h.w.length∧x=clA h pre.length:=by
 obtain ⟨hk,hx⟩:=at_pre hsp
 simp at hk hx
 exact ⟨hk,hx⟩
theorem clL_len {h:Hole}:(clL h).length=h.w.length:=by simp [clL]
theorem Hole.Ok.lat {h:Hole} (ho:h.Ok) {pace:Int} (hp:0≤pace∧pace≤1000000):∀ k,k≤h.w.length → -20000000≤h.lat pace k∧h.lat pace k≤1000000
 | 0,_=>by simp [Hole.lat]
 | k+1,hk=>by
  have ih:=ho.lat hp k (by omega)
  have hc:=ho.cl (show k<h.w.length by omega)
  have hl:=ho.le
  have h1:(k:Int) * pace≤20 * 1000000:=Int.mul_le_mul (by omega) hp.2 hp.1 (by omega)
  have h2:0≤(k:Int) * pace:=Int.mul_nonneg (by omega) hp.1
  unfold Hole.lat
  omega
theorem Hole.lat_le (h:Hole) (pace:Int):∀ n,h.lat pace n≤1000000∧∀ k,k<n→h.lat pace n≤h.cl k - k * pace
 | 0=>⟨by simp [Hole.lat],fun k hk=>by omega⟩
 | n+1=>by
  obtain ⟨h1,h2⟩:=h.lat_le pace n
  unfold Hole.lat
  refine ⟨by omega,fun k hk=>?_⟩
  by_cases hkn:k=n
  ·subst hkn;omega
  ·have:=h2 k (by omega)
   omega
theorem Hole.le_lat (h:Hole) (pace x:Int):∀ n,x≤1000000→(∀ k,k<n→x≤h.cl k - k * pace)→x≤h.lat pace n
 | 0,hx,_=>by simpa [Hole.lat] using hx
 | n+1,hx,hk=>by
  have h1:=h.le_lat pace x n hx fun k hkn=>hk k (by omega)
  have h2:=hk n (by omega)
  unfold Hole.lat
  omega
theorem Hole.slow_le (h:Hole) (start:Int):∀ n,h.slow start n≤1000000∧∀ k,k<n→0<k→h.slow start n≤(h.cl k - start).tdiv k
 | 0=>⟨by simp [Hole.slow],fun k hk=>by omega⟩
 | n+1=>by
  obtain ⟨h1,h2⟩:=h.slow_le start n
  unfold Hole.slow
  split
  ·refine ⟨by omega,fun k hk h0=>?_⟩
   by_cases hkn:k=n
   ·subst hkn;omega
   ·have:=h2 k (by omega) h0
    omega
  ·exact ⟨h1,fun k hk h0=>by omega⟩
theorem Hole.le_slow (h:Hole) (start x:Int):∀ n,x≤1000000→(∀ k,k<n→0<k→x≤(h.cl k - start).tdiv k)→x≤h.slow start n
 | 0,hx,_=>by simpa [Hole.slow] using hx
 | n+1,hx,hk=>by
  have h1:=h.le_slow start x n hx fun k hkn=>hk k (by omega)
  unfold Hole.slow
  split
  ·rename_i h0
   have h2:=hk n (by omega) (by omega)
   omega
  ·exact h1
theorem Hole.Ok.law {h:Hole} (ho:h.Ok) {pace:Int} (hp:0≤pace∧pace≤1000000) (h0:0≤h.lat pace h.w.length) :
  (∀ k,k<h.w.length→h.lat pace h.w.length≤h.cl k)∧pace≤h.slow (h.lat pace h.w.length) h.w.length∧h.slow (h.lat pace h.w.length) h.w.length≤1000000 ∧
   h.lat pace h.w.length≤h.lat (h.slow (h.lat pace h.w.length) h.w.length) h.w.length:=by
 obtain ⟨l1,l2⟩:=h.lat_le pace h.w.length
 generalize h.lat pace h.w.length=s at *
 have hs:∀ k,k<h.w.length→s≤h.cl k:=fun k hk=>by
  have:=l2 k hk
  have h2:0≤(k:Int) * pace:=Int.mul_nonneg (by omega) hp.1
  omega
 obtain ⟨q1,q2⟩:=h.slow_le s h.w.length
 refine ⟨hs,h.le_slow s pace _ hp.2 (fun k hk hk0=>?_),q1,h.le_lat _ s _ l1 (fun k hk=>?_)⟩
 ·have:=l2 k hk
  rw [Int.tdiv_eq_ediv_of_nonneg (by have:=hs k hk;omega),Int.le_ediv_iff_mul_le (by omega),Int.mul_comm]
  omega
 ·by_cases hk0:0<k
  ·have h3:=q2 k hk hk0
   have h4:=hs k hk
   rw [Int.tdiv_eq_ediv_of_nonneg (by omega),Int.le_ediv_iff_mul_le (by omega),Int.mul_comm] at h3
   omega
  ·have:k=0:=by omega
   subst this
   have:=hs 0 hk
   simp;omega

theorem LatestStart_s (h:Hole) (ho:h.Ok) (pace:Int) (hp:0≤pace∧pace≤1000000):Sound Tryd.prog 7 [h.av,.int .i64 pace]
  (.tup [.int .i64 (if h.lat pace h.w.length<0 then 0 else h.lat pace h.w.length),.int .i64 (if h.lat pace h.w.length<0 then 12 else 0)]):=by
 refine sound_W f_ice_LatestStart (Nat.le_of_ble_eq_true rfl) ?_
 simp only [c_ice_LatestStart,Hole.av,rnd_s,Int.reduceAdd,Int.reduceSub,decide_true,decide_false,i64_1,i64_2,i64_3,i64_4,true_and,Int.one_mul,Int.cast_ofNat_Int,Int.reduceToNat,Nat.zero_mul,Nat.reduceMul,Nat.zero_add,Nat.mul_one,List.getElem?_cons_zero,List.getElem?_cons_succ,vZ,Int.reduceEq,Int.reduceNe,Int.reduceLT,Int.reduceLE,Nat.reduceEqDiff,Nat.reduceAdd,reduceIte,reduceCtorEq,Nat.reduceLT,Nat.reduceLeDiff,Nat.reduceShiftRight,Nat.reduceMod]
 refine callS_of (holeErr_s h ho) ?_
 simp only [rnd_s,Int.reduceAdd,Int.reduceSub,decide_true,decide_false,i64_1,i64_2,i64_3,i64_4,true_and,Int.one_mul,Int.cast_ofNat_Int,Int.reduceToNat,Nat.zero_mul,Nat.reduceMul,Nat.zero_add,Nat.mul_one,List.getElem?_cons_zero,List.getElem?_cons_succ,vZ,Int.reduceEq,Int.reduceNe,Int.reduceLT,Int.reduceLE,Nat.reduceEqDiff,Nat.reduceAdd,reduceIte,reduceCtorEq,Nat.reduceLT,Nat.reduceLeDiff,Nat.reduceShiftRight,Nat.reduceMod]
 refine callS_of (within_s _ _ _) ?_
 simp only [hp,rnd_s,Int.reduceAdd,Int.reduceSub,decide_true,decide_false,i64_1,i64_2,i64_3,i64_4,true_and,Int.one_mul,Int.cast_ofNat_Int,Int.reduceToNat,Nat.zero_mul,Nat.reduceMul,Nat.zero_add,Nat.mul_one,List.getElem?_cons_zero,List.getElem?_cons_succ,vZ,Int.reduceEq,Int.reduceNe,Int.reduceLT,Int.reduceLE,Nat.reduceEqDiff,Nat.reduceAdd,reduceIte,reduceCtorEq,Nat.reduceLT,Nat.reduceLeDiff,Nat.reduceShiftRight,Nat.reduceMod]
 refine callS_of (unless_s _ _) ?_
 simp only [rnd_s,Int.reduceAdd,Int.reduceSub,decide_true,decide_false,i64_1,i64_2,i64_3,i64_4,true_and,Int.one_mul,Int.cast_ofNat_Int,Int.reduceToNat,Nat.zero_mul,Nat.reduceMul,Nat.zero_add,Nat.mul_one,List.getElem?_cons_zero,List.getElem?_cons_succ,vZ,Int.reduceEq,Int.reduceNe,Int.reduceLT,Int.reduceLE,Nat.reduceEqDiff,Nat.reduceAdd,reduceIte,reduceCtorEq,Nat.reduceLT,Nat.reduceLeDiff,Nat.reduceShiftRight,Nat.reduceMod]
 refine callS_of (first2_s _ _) ?_
 simp only [rnd_s,Int.reduceAdd,Int.reduceSub,decide_true,decide_false,i64_1,i64_2,i64_3,i64_4,true_and,Int.one_mul,Int.cast_ofNat_Int,Int.reduceToNat,Nat.zero_mul,Nat.reduceMul,Nat.zero_add,Nat.mul_one,List.getElem?_cons_zero,List.getElem?_cons_succ,vZ,Int.reduceEq,Int.reduceNe,Int.reduceLT,Int.reduceLE,Nat.reduceEqDiff,Nat.reduceAdd,reduceIte,reduceCtorEq,Nat.reduceLT,Nat.reduceLeDiff,Nat.reduceShiftRight,Nat.reduceMod]
 refine ⟨usedL_buf rfl (ints_imm [_,_]) rfl,?_⟩
 refine callS_of (closes_s h) ?_
 simp only [rnd_s,Int.reduceAdd,Int.reduceSub,decide_true,decide_false,i64_1,i64_2,i64_3,i64_4,true_and,Int.one_mul,Int.cast_ofNat_Int,Int.reduceToNat,Nat.zero_mul,Nat.reduceMul,Nat.zero_add,Nat.mul_one,List.getElem?_cons_zero,List.getElem?_cons_succ,vZ,Int.reduceEq,Int.reduceNe,Int.reduceLT,Int.reduceLE,Nat.reduceEqDiff,Nat.reduceAdd,reduceIte,reduceCtorEq,Nat.reduceLT,Nat.reduceLeDiff,Nat.reduceShiftRight,Nat.reduceMod]
 refine W_weakR (t:=.mk) (envOf [(3,.ptr 3 0 0),(7,.ptr 7 0 0),(21,.fn 44 [.eptr h.av 0])],stOf [(3,⟨3,1,[.int .i64 pace]⟩),(7,⟨3,1,[.int .i64 (h.lat pace 0)]⟩)]) ?_ ?_
 ·refine weakX [(3,some 3),(7,some 7)] (of_decide_eq_true rfl) (of_decide_eq_true rfl) ?_
  (simp only [Hole.lat,Hole.av,vcW,vZ,Int.reduceEq,Int.reduceNe,Int.reduceLT,Int.reduceLE,Nat.reduceEqDiff,Nat.reduceAdd,reduceIte,reduceCtorEq,Nat.reduceLT,Nat.reduceLeDiff,Nat.reduceShiftRight,Nat.reduceMod])
  (repeat' first | exact trivial | (with_reducible first | exact RnB.fxB (ints_fxB _) | rfl | refine And.intro ?_ ?_) | (with_reducible (first | refine RnB.bb ?_ | refine RnB.nb ?_);simp only [vcW,vZ,Int.reduceEq,Int.reduceNe,Int.reduceLT,Int.reduceLE,Nat.reduceEqDiff,Nat.reduceAdd,reduceIte,reduceCtorEq,Nat.reduceLT,Nat.reduceLeDiff,Nat.reduceShiftRight,Nat.reduceMod]) | (with_reducible first | refine RnB.ii ?_ | refine RnB.app ?_) | (with_reducible refine RnB.fxB ?_;simp only [vcW,vZ,Int.reduceEq,Int.reduceNe,Int.reduceLT,Int.reduceLE,Nat.reduceEqDiff,Nat.reduceAdd,reduceIte,reduceCtorEq,Nat.reduceLT,Nat.reduceLeDiff,Nat.reduceShiftRight,Nat.reduceMod]) | omega)
 refine W_rf (tt:=.mk) (xs:=clL h) rfl (by simp [imm]) rfl rfl (closes_1_s h ho) (by intro x hx;obtain ⟨p,_,rfl⟩:=List.mem_map.1 hx;rfl) (fun pre=>stOf [(3,⟨3,1,[.int .i64 pace]⟩),(7,⟨3,1,[.int .i64 (h.lat pace pre.length)]⟩)]) (Weak.refl _) (fun pre x rest hsp=>?_) ?_
 ·obtain ⟨hk,rfl⟩:=clL_at hsp
  have hc:=ho.cl hk
  have hl:=ho.lat hp pre.length (by omega)
  have hle:=ho.le
  have h1:(pre.length:Int) * pace≤20 * 1000000:=Int.mul_le_mul (by omega) hp.2 hp.1 (by omega)
  have h2:0≤(pre.length:Int) * pace:=Int.mul_nonneg (by omega) hp.1
  have hlen1:(pre ++ [clA h pre.length]).length=pre.length+1:=by simp
  rw [hlen1]
  simp only [clA,rnd_s,Int.reduceAdd,Int.reduceSub,decide_true,decide_false,i64_1,i64_2,i64_3,i64_4,true_and,Int.one_mul,Int.cast_ofNat_Int,Int.reduceToNat,Nat.zero_mul,Nat.reduceMul,Nat.zero_add,Nat.mul_one,List.getElem?_cons_zero,List.getElem?_cons_succ,vZ,Int.reduceEq,Int.reduceNe,Int.reduceLT,Int.reduceLE,Nat.reduceEqDiff,Nat.reduceAdd,reduceIte,reduceCtorEq,Nat.reduceLT,Nat.reduceLeDiff,Nat.reduceShiftRight,Nat.reduceMod]
  refine ⟨by (simp only [decide_eq_true_eq,decide_eq_false_iff_not,Bool.not_true,I64,Bool.not_eq_true',Bool.not_eq_false',bne_iff_ne,beq_iff_eq,ne_eq] at *;omega),by (simp only [decide_eq_true_eq,decide_eq_false_iff_not,Bool.not_true,I64,Bool.not_eq_true',Bool.not_eq_false',bne_iff_ne,beq_iff_eq,ne_eq] at *;omega),?_⟩
  refine weakX [(3,some 3),(7,some 7)] (of_decide_eq_true rfl) (of_decide_eq_true rfl) ?_
  (simp only [Hole.lat,vcW,vZ,Int.reduceEq,Int.reduceNe,Int.reduceLT,Int.reduceLE,Nat.reduceEqDiff,Nat.reduceAdd,reduceIte,reduceCtorEq,Nat.reduceLT,Nat.reduceLeDiff,Nat.reduceShiftRight,Nat.reduceMod])
  (repeat' first | exact trivial | (with_reducible first | exact RnB.fxB (ints_fxB _) | rfl | refine And.intro ?_ ?_) | (with_reducible (first | refine RnB.bb ?_ | refine RnB.nb ?_);simp only [vcW,vZ,Int.reduceEq,Int.reduceNe,Int.reduceLT,Int.reduceLE,Nat.reduceEqDiff,Nat.reduceAdd,reduceIte,reduceCtorEq,Nat.reduceLT,Nat.reduceLeDiff,Nat.reduceShiftRight,Nat.reduceMod]) | (with_reducible first | refine RnB.ii ?_ | refine RnB.app ?_) | (with_reducible refine RnB.fxB ?_;simp only [vcW,vZ,Int.reduceEq,Int.reduceNe,Int.reduceLT,Int.reduceLE,Nat.reduceEqDiff,Nat.reduceAdd,reduceIte,reduceCtorEq,Nat.reduceLT,Nat.reduceLeDiff,Nat.reduceShiftRight,Nat.reduceMod]) | omega)
 ·have hl:=ho.lat hp h.w.length (by omega)
  simp only [clL_len]
  simp only [rnd_s,Int.reduceAdd,Int.reduceSub,decide_true,decide_false,i64_1,i64_2,i64_3,i64_4,true_and,Int.one_mul,Int.cast_ofNat_Int,Int.reduceToNat,Nat.zero_mul,Nat.reduceMul,Nat.zero_add,Nat.mul_one,List.getElem?_cons_zero,List.getElem?_cons_succ,vZ,Int.reduceEq,Int.reduceNe,Int.reduceLT,Int.reduceLE,Nat.reduceEqDiff,Nat.reduceAdd,reduceIte,reduceCtorEq,Nat.reduceLT,Nat.reduceLeDiff,Nat.reduceShiftRight,Nat.reduceMod]
  refine brB_split (fun h2=>?_) (fun h2=>?_)
  ·simp only [rnd_s,Int.reduceAdd,Int.reduceSub,decide_true,decide_false,i64_1,i64_2,i64_3,i64_4,true_and,Int.one_mul,Int.cast_ofNat_Int,Int.reduceToNat,Nat.zero_mul,Nat.reduceMul,Nat.zero_add,Nat.mul_one,List.getElem?_cons_zero,List.getElem?_cons_succ,vZ,Int.reduceEq,Int.reduceNe,Int.reduceLT,Int.reduceLE,Nat.reduceEqDiff,Nat.reduceAdd,reduceIte,reduceCtorEq,Nat.reduceLT,Nat.reduceLeDiff,Nat.reduceShiftRight,Nat.reduceMod]
   have:h.lat pace h.w.length<0:=by (simp only [decide_eq_true_eq,decide_eq_false_iff_not,Bool.not_true,I64,Bool.not_eq_true',Bool.not_eq_false',bne_iff_ne,beq_iff_eq,ne_eq] at *;omega)
   simp [this]
  ·simp only [rnd_s,Int.reduceAdd,Int.reduceSub,decide_true,decide_false,i64_1,i64_2,i64_3,i64_4,true_and,Int.one_mul,Int.cast_ofNat_Int,Int.reduceToNat,Nat.zero_mul,Nat.reduceMul,Nat.zero_add,Nat.mul_one,List.getElem?_cons_zero,List.getElem?_cons_succ,vZ,Int.reduceEq,Int.reduceNe,Int.reduceLT,Int.reduceLE,Nat.reduceEqDiff,Nat.reduceAdd,reduceIte,reduceCtorEq,Nat.reduceLT,Nat.reduceLeDiff,Nat.reduceShiftRight,Nat.reduceMod]
   have:¬ h.lat pace h.w.length<0:=by (simp only [decide_eq_true_eq,decide_eq_false_iff_not,Bool.not_true,I64,Bool.not_eq_true',Bool.not_eq_false',bne_iff_ne,beq_iff_eq,ne_eq] at *;omega)
   simp [this]
theorem Hole.Ok.slow {h:Hole} (ho:h.Ok) {start:Int} (hp:0≤start∧start≤1000000) (hs:∀ k,k<h.w.length→start≤h.cl k):∀ k,k≤h.w.length→0≤h.slow start k∧h.slow start k≤1000000
 | 0,_=>by simp [Hole.slow]
 | k+1,hk=>by
  have ih:=ho.slow hp hs k (by omega)
  have hc:=ho.cl (show k<h.w.length by omega)
  have h1:=hs k (by omega)
  have h2:0≤(h.cl k - start).tdiv k:=Int.tdiv_nonneg (by omega) (by omega)
  unfold Hole.slow
  split <;> omega
theorem SlowestPace_s (h:Hole) (ho:h.Ok) (start:Int) (hp:0≤start∧start≤1000000) (hs:∀ k,k<h.w.length→start≤h.cl k):Sound Tryd.prog 9 [h.av,.int .i64 start]
  (.tup [.int .i64 (h.slow start h.w.length),.int .i64 0]):=by
 refine sound_W f_ice_SlowestPace (Nat.le_of_ble_eq_true rfl) ?_
 simp only [c_ice_SlowestPace,Hole.av,rnd_s,Int.reduceAdd,Int.reduceSub,decide_true,decide_false,i64_1,i64_2,i64_3,i64_4,true_and,Int.one_mul,Int.cast_ofNat_Int,Int.reduceToNat,Nat.zero_mul,Nat.reduceMul,Nat.zero_add,Nat.mul_one,List.getElem?_cons_zero,List.getElem?_cons_succ,vZ,Int.reduceEq,Int.reduceNe,Int.reduceLT,Int.reduceLE,Nat.reduceEqDiff,Nat.reduceAdd,reduceIte,reduceCtorEq,Nat.reduceLT,Nat.reduceLeDiff,Nat.reduceShiftRight,Nat.reduceMod]
 refine callS_of (holeErr_s h ho) ?_
 simp only [rnd_s,Int.reduceAdd,Int.reduceSub,decide_true,decide_false,i64_1,i64_2,i64_3,i64_4,true_and,Int.one_mul,Int.cast_ofNat_Int,Int.reduceToNat,Nat.zero_mul,Nat.reduceMul,Nat.zero_add,Nat.mul_one,List.getElem?_cons_zero,List.getElem?_cons_succ,vZ,Int.reduceEq,Int.reduceNe,Int.reduceLT,Int.reduceLE,Nat.reduceEqDiff,Nat.reduceAdd,reduceIte,reduceCtorEq,Nat.reduceLT,Nat.reduceLeDiff,Nat.reduceShiftRight,Nat.reduceMod]
 refine callS_of (within_s _ _ _) ?_
 simp only [hp,rnd_s,Int.reduceAdd,Int.reduceSub,decide_true,decide_false,i64_1,i64_2,i64_3,i64_4,true_and,Int.one_mul,Int.cast_ofNat_Int,Int.reduceToNat,Nat.zero_mul,Nat.reduceMul,Nat.zero_add,Nat.mul_one,List.getElem?_cons_zero,List.getElem?_cons_succ,vZ,Int.reduceEq,Int.reduceNe,Int.reduceLT,Int.reduceLE,Nat.reduceEqDiff,Nat.reduceAdd,reduceIte,reduceCtorEq,Nat.reduceLT,Nat.reduceLeDiff,Nat.reduceShiftRight,Nat.reduceMod]
 refine callS_of (unless_s _ _) ?_
 simp only [rnd_s,Int.reduceAdd,Int.reduceSub,decide_true,decide_false,i64_1,i64_2,i64_3,i64_4,true_and,Int.one_mul,Int.cast_ofNat_Int,Int.reduceToNat,Nat.zero_mul,Nat.reduceMul,Nat.zero_add,Nat.mul_one,List.getElem?_cons_zero,List.getElem?_cons_succ,vZ,Int.reduceEq,Int.reduceNe,Int.reduceLT,Int.reduceLE,Nat.reduceEqDiff,Nat.reduceAdd,reduceIte,reduceCtorEq,Nat.reduceLT,Nat.reduceLeDiff,Nat.reduceShiftRight,Nat.reduceMod]
 refine callS_of (first2_s _ _) ?_
 simp only [rnd_s,Int.reduceAdd,Int.reduceSub,decide_true,decide_false,i64_1,i64_2,i64_3,i64_4,true_and,Int.one_mul,Int.cast_ofNat_Int,Int.reduceToNat,Nat.zero_mul,Nat.reduceMul,Nat.zero_add,Nat.mul_one,List.getElem?_cons_zero,List.getElem?_cons_succ,vZ,Int.reduceEq,Int.reduceNe,Int.reduceLT,Int.reduceLE,Nat.reduceEqDiff,Nat.reduceAdd,reduceIte,reduceCtorEq,Nat.reduceLT,Nat.reduceLeDiff,Nat.reduceShiftRight,Nat.reduceMod]
 refine ⟨usedL_buf rfl (ints_imm [_,_]) rfl,?_⟩
 refine callS_of (closes_s h) ?_
 simp only [rnd_s,Int.reduceAdd,Int.reduceSub,decide_true,decide_false,i64_1,i64_2,i64_3,i64_4,true_and,Int.one_mul,Int.cast_ofNat_Int,Int.reduceToNat,Nat.zero_mul,Nat.reduceMul,Nat.zero_add,Nat.mul_one,List.getElem?_cons_zero,List.getElem?_cons_succ,vZ,Int.reduceEq,Int.reduceNe,Int.reduceLT,Int.reduceLE,Nat.reduceEqDiff,Nat.reduceAdd,reduceIte,reduceCtorEq,Nat.reduceLT,Nat.reduceLeDiff,Nat.reduceShiftRight,Nat.reduceMod]
 refine W_weakR (t:=.mk) (envOf [(3,.ptr 3 0 0),(4,.ptr 4 0 0),(5,.ptr 5 0 0),(7,.ptr 7 0 0),(21,.fn 44 [.eptr h.av 0])],stOf [(3,⟨3,1,[.int .i64 start]⟩),(4,⟨3,1,[.int .i64 0]⟩),(5,⟨33,1,[.int .i64 0]⟩),(7,⟨3,1,[.int .i64 (h.slow start 0)]⟩)]) ?_ ?_
 ·refine weakX [(3,some 3),(4,some 4),(5,some 5),(7,some 7)] (of_decide_eq_true rfl) (of_decide_eq_true rfl) ?_
  (simp only [Hole.slow,Hole.av,vcW,vZ,Int.reduceEq,Int.reduceNe,Int.reduceLT,Int.reduceLE,Nat.reduceEqDiff,Nat.reduceAdd,reduceIte,reduceCtorEq,Nat.reduceLT,Nat.reduceLeDiff,Nat.reduceShiftRight,Nat.reduceMod])
  (repeat' first | exact trivial | (with_reducible first | exact RnB.fxB (ints_fxB _) | rfl | refine And.intro ?_ ?_) | (with_reducible (first | refine RnB.bb ?_ | refine RnB.nb ?_);simp only [vcW,vZ,Int.reduceEq,Int.reduceNe,Int.reduceLT,Int.reduceLE,Nat.reduceEqDiff,Nat.reduceAdd,reduceIte,reduceCtorEq,Nat.reduceLT,Nat.reduceLeDiff,Nat.reduceShiftRight,Nat.reduceMod]) | (with_reducible first | refine RnB.ii ?_ | refine RnB.app ?_) | (with_reducible refine RnB.fxB ?_;simp only [vcW,vZ,Int.reduceEq,Int.reduceNe,Int.reduceLT,Int.reduceLE,Nat.reduceEqDiff,Nat.reduceAdd,reduceIte,reduceCtorEq,Nat.reduceLT,Nat.reduceLeDiff,Nat.reduceShiftRight,Nat.reduceMod]) | omega)
 refine W_rf (tt:=.mk) (xs:=clL h) rfl (by simp [imm]) rfl rfl (closes_1_s h ho) (by intro x hx;obtain ⟨p,_,rfl⟩:=List.mem_map.1 hx;rfl) (fun pre=>stOf [(3,⟨3,1,[.int .i64 start]⟩),(4,⟨3,1,[.int .i64 0]⟩),(5,⟨33,1,[.int .i64 0]⟩),(7,⟨3,1,[.int .i64 (h.slow start pre.length)]⟩)]) (Weak.refl _) (fun pre x rest hsp=>?_) ?_
 ·obtain ⟨hk,rfl⟩:=clL_at hsp
  have hc:=ho.cl hk
  have hsk:=hs _ hk
  have hl:=ho.slow hp hs pre.length (by omega)
  have hle:=ho.le
  have hlen1:(pre ++ [clA h pre.length]).length=pre.length+1:=by simp
  have h1:decide (h.cl pre.length<start)=false:=decide_eq_false (by omega)
  rw [hlen1]
  simp only [clA,h1,rnd_s,Int.reduceAdd,Int.reduceSub,decide_true,decide_false,i64_1,i64_2,i64_3,i64_4,true_and,Int.one_mul,Int.cast_ofNat_Int,Int.reduceToNat,Nat.zero_mul,Nat.reduceMul,Nat.zero_add,Nat.mul_one,List.getElem?_cons_zero,List.getElem?_cons_succ,vZ,Int.reduceEq,Int.reduceNe,Int.reduceLT,Int.reduceLE,Nat.reduceEqDiff,Nat.reduceAdd,reduceIte,reduceCtorEq,Nat.reduceLT,Nat.reduceLeDiff,Nat.reduceShiftRight,Nat.reduceMod]
  by_cases h0:0<pre.length
  ·have h2:decide ((0:Int)<pre.length)=true:=decide_eq_true (by omega)
   have h3:0≤(h.cl pre.length - start).tdiv pre.length:=Int.tdiv_nonneg (by omega) (by omega)
   have h4:=Int.tdiv_le_self (pre.length:Int) (show 0≤h.cl pre.length - start by omega)
   simp only [h2,rnd_s,Int.reduceAdd,Int.reduceSub,decide_true,decide_false,i64_1,i64_2,i64_3,i64_4,true_and,Int.one_mul,Int.cast_ofNat_Int,Int.reduceToNat,Nat.zero_mul,Nat.reduceMul,Nat.zero_add,Nat.mul_one,List.getElem?_cons_zero,List.getElem?_cons_succ,vZ,Int.reduceEq,Int.reduceNe,Int.reduceLT,Int.reduceLE,Nat.reduceEqDiff,Nat.reduceAdd,reduceIte,reduceCtorEq,Nat.reduceLT,Nat.reduceLeDiff,Nat.reduceShiftRight,Nat.reduceMod]
   refine ⟨by (simp only [decide_eq_true_eq,decide_eq_false_iff_not,Bool.not_true,I64,Bool.not_eq_true',Bool.not_eq_false',bne_iff_ne,beq_iff_eq,ne_eq] at *;omega),by omega,by (simp only [decide_eq_true_eq,decide_eq_false_iff_not,Bool.not_true,I64,Bool.not_eq_true',Bool.not_eq_false',bne_iff_ne,beq_iff_eq,ne_eq] at *;omega),?_⟩
   refine weakX [(3,some 3),(4,some 4),(5,some 5),(7,some 7)] (of_decide_eq_true rfl) (of_decide_eq_true rfl) ?_
   (simp only [Hole.slow,h0,vcW,vZ,Int.reduceEq,Int.reduceNe,Int.reduceLT,Int.reduceLE,Nat.reduceEqDiff,Nat.reduceAdd,reduceIte,reduceCtorEq,Nat.reduceLT,Nat.reduceLeDiff,Nat.reduceShiftRight,Nat.reduceMod])
   (repeat' first | exact trivial | (with_reducible first | exact RnB.fxB (ints_fxB _) | rfl | refine And.intro ?_ ?_) | (with_reducible (first | refine RnB.bb ?_ | refine RnB.nb ?_);simp only [vcW,vZ,Int.reduceEq,Int.reduceNe,Int.reduceLT,Int.reduceLE,Nat.reduceEqDiff,Nat.reduceAdd,reduceIte,reduceCtorEq,Nat.reduceLT,Nat.reduceLeDiff,Nat.reduceShiftRight,Nat.reduceMod]) | (with_reducible first | refine RnB.ii ?_ | refine RnB.app ?_) | (with_reducible refine RnB.fxB ?_;simp only [vcW,vZ,Int.reduceEq,Int.reduceNe,Int.reduceLT,Int.reduceLE,Nat.reduceEqDiff,Nat.reduceAdd,reduceIte,reduceCtorEq,Nat.reduceLT,Nat.reduceLeDiff,Nat.reduceShiftRight,Nat.reduceMod]) | omega)
  ·have h2:decide ((0:Int)<pre.length)=false:=decide_eq_false (by omega)
   simp only [h2,rnd_s,Int.reduceAdd,Int.reduceSub,decide_true,decide_false,i64_1,i64_2,i64_3,i64_4,true_and,Int.one_mul,Int.cast_ofNat_Int,Int.reduceToNat,Nat.zero_mul,Nat.reduceMul,Nat.zero_add,Nat.mul_one,List.getElem?_cons_zero,List.getElem?_cons_succ,vZ,Int.reduceEq,Int.reduceNe,Int.reduceLT,Int.reduceLE,Nat.reduceEqDiff,Nat.reduceAdd,reduceIte,reduceCtorEq,Nat.reduceLT,Nat.reduceLeDiff,Nat.reduceShiftRight,Nat.reduceMod]
   refine weakX [(3,some 3),(4,some 4),(5,some 5),(7,some 7)] (of_decide_eq_true rfl) (of_decide_eq_true rfl) ?_
   (simp only [Hole.slow,h0,if_false,vcW,vZ,Int.reduceEq,Int.reduceNe,Int.reduceLT,Int.reduceLE,Nat.reduceEqDiff,Nat.reduceAdd,reduceIte,reduceCtorEq,Nat.reduceLT,Nat.reduceLeDiff,Nat.reduceShiftRight,Nat.reduceMod])
   (repeat' first | exact trivial | (with_reducible first | exact RnB.fxB (ints_fxB _) | rfl | refine And.intro ?_ ?_) | (with_reducible (first | refine RnB.bb ?_ | refine RnB.nb ?_);simp only [vcW,vZ,Int.reduceEq,Int.reduceNe,Int.reduceLT,Int.reduceLE,Nat.reduceEqDiff,Nat.reduceAdd,reduceIte,reduceCtorEq,Nat.reduceLT,Nat.reduceLeDiff,Nat.reduceShiftRight,Nat.reduceMod]) | (with_reducible first | refine RnB.ii ?_ | refine RnB.app ?_) | (with_reducible refine RnB.fxB ?_;simp only [vcW,vZ,Int.reduceEq,Int.reduceNe,Int.reduceLT,Int.reduceLE,Nat.reduceEqDiff,Nat.reduceAdd,reduceIte,reduceCtorEq,Nat.reduceLT,Nat.reduceLeDiff,Nat.reduceShiftRight,Nat.reduceMod]) | omega)
 ·simp only [clL_len]
  simp only [rnd_s,Int.reduceAdd,Int.reduceSub,decide_true,decide_false,i64_1,i64_2,i64_3,i64_4,true_and,Int.one_mul,Int.cast_ofNat_Int,Int.reduceToNat,Nat.zero_mul,Nat.reduceMul,Nat.zero_add,Nat.mul_one,List.getElem?_cons_zero,List.getElem?_cons_succ,vZ,Int.reduceEq,Int.reduceNe,Int.reduceLT,Int.reduceLE,Nat.reduceEqDiff,Nat.reduceAdd,reduceIte,reduceCtorEq,Nat.reduceLT,Nat.reduceLeDiff,Nat.reduceShiftRight,Nat.reduceMod]
end Go.Proofs.YtoiajhogondgcaaDoor

/- The grid of the examples: cells,layers,steps,neighbours. By an AI agent;nothing here is trusted. -/
namespace Go.Proofs.YtoiajhogondgcaaDoor
open Go.Av

def gA:AV:=.agg [.sl [.agg [.int .i64 2,.int .i64 100,.int .i64 500],.agg [.int .i64 5,.int .i64 0,.int .i64 0]],.int .i64 2,.sl [.int .i64 0,.int .i64 0,.int .i64 1]]
def ceA (c r:Int):AV:=.agg [.int .i64 c,.int .i64 r]
def inG (c r:Int):Prop:=(0≤c∧c≤2)∧(0≤r∧r≤1)
instance (c r:Int):Decidable (inG c r):=by unfold inG;infer_instance
def lay (c r:Int):Int:=max 0 (min (r - if c=2 then 1 else 0) 1)
def del (c r:Int):Int:=if lay c r=0 then 2 else 5
theorem cellErr_s (c r:Int):Sound Tryd.prog 35 [gA,ceA c r] (.int .i64 (if inG c r then 0 else 6)):=by
 refine sound_W f_ice_cellErr (Nat.le_of_ble_eq_true rfl) ?_
 simp only [c_ice_cellErr,gA,ceA,rnd_s,Int.reduceAdd,Int.reduceSub,decide_true,decide_false,i64_1,i64_2,i64_3,i64_4,true_and,Int.one_mul,Int.cast_ofNat_Int,Int.reduceToNat,Nat.zero_mul,Nat.reduceMul,Nat.zero_add,Nat.mul_one,List.getElem?_cons_zero,List.getElem?_cons_succ,vZ,Int.reduceEq,Int.reduceNe,Int.reduceLT,Int.reduceLE,Nat.reduceEqDiff,Nat.reduceAdd,reduceIte,reduceCtorEq,Nat.reduceLT,Nat.reduceLeDiff,Nat.reduceShiftRight,Nat.reduceMod]
 refine callS_of (within_s _ _ _) ?_
 by_cases h1:0≤c∧c≤2
 case neg =>
  have h2:¬ inG c r:=fun h=>h1 h.1
  simp only [h1,rnd_s,Int.reduceAdd,Int.reduceSub,decide_true,decide_false,i64_1,i64_2,i64_3,i64_4,true_and,Int.one_mul,Int.cast_ofNat_Int,Int.reduceToNat,Nat.zero_mul,Nat.reduceMul,Nat.zero_add,Nat.mul_one,List.getElem?_cons_zero,List.getElem?_cons_succ,vZ,Int.reduceEq,Int.reduceNe,Int.reduceLT,Int.reduceLE,Nat.reduceEqDiff,Nat.reduceAdd,reduceIte,reduceCtorEq,Nat.reduceLT,Nat.reduceLeDiff,Nat.reduceShiftRight,Nat.reduceMod]
  refine callS_of (unless_s _ _) ?_
  simp only [h2,if_false,rnd_s,Int.reduceAdd,Int.reduceSub,decide_true,decide_false,i64_1,i64_2,i64_3,i64_4,true_and,Int.one_mul,Int.cast_ofNat_Int,Int.reduceToNat,Nat.zero_mul,Nat.reduceMul,Nat.zero_add,Nat.mul_one,List.getElem?_cons_zero,List.getElem?_cons_succ,vZ,Int.reduceEq,Int.reduceNe,Int.reduceLT,Int.reduceLE,Nat.reduceEqDiff,Nat.reduceAdd,reduceIte,reduceCtorEq,Nat.reduceLT,Nat.reduceLeDiff,Nat.reduceShiftRight,Nat.reduceMod]
 simp only [h1,and_self,rnd_s,Int.reduceAdd,Int.reduceSub,decide_true,decide_false,i64_1,i64_2,i64_3,i64_4,true_and,Int.one_mul,Int.cast_ofNat_Int,Int.reduceToNat,Nat.zero_mul,Nat.reduceMul,Nat.zero_add,Nat.mul_one,List.getElem?_cons_zero,List.getElem?_cons_succ,vZ,Int.reduceEq,Int.reduceNe,Int.reduceLT,Int.reduceLE,Nat.reduceEqDiff,Nat.reduceAdd,reduceIte,reduceCtorEq,Nat.reduceLT,Nat.reduceLeDiff,Nat.reduceShiftRight,Nat.reduceMod]
 refine callS_of (within_s _ _ _) ?_
 simp only [rnd_s,Int.reduceAdd,Int.reduceSub,decide_true,decide_false,i64_1,i64_2,i64_3,i64_4,true_and,Int.one_mul,Int.cast_ofNat_Int,Int.reduceToNat,Nat.zero_mul,Nat.reduceMul,Nat.zero_add,Nat.mul_one,List.getElem?_cons_zero,List.getElem?_cons_succ,vZ,Int.reduceEq,Int.reduceNe,Int.reduceLT,Int.reduceLE,Nat.reduceEqDiff,Nat.reduceAdd,reduceIte,reduceCtorEq,Nat.reduceLT,Nat.reduceLeDiff,Nat.reduceShiftRight,Nat.reduceMod]
 refine callS_of (unless_s _ _) ?_
 by_cases h2:0≤r∧r≤1
 ·have h3:inG c r:=⟨h1,h2⟩
  simp only [h2,h3,and_self,if_true,rnd_s,Int.reduceAdd,Int.reduceSub,decide_true,decide_false,i64_1,i64_2,i64_3,i64_4,true_and,Int.one_mul,Int.cast_ofNat_Int,Int.reduceToNat,Nat.zero_mul,Nat.reduceMul,Nat.zero_add,Nat.mul_one,List.getElem?_cons_zero,List.getElem?_cons_succ,vZ,Int.reduceEq,Int.reduceNe,Int.reduceLT,Int.reduceLE,Nat.reduceEqDiff,Nat.reduceAdd,reduceIte,reduceCtorEq,Nat.reduceLT,Nat.reduceLeDiff,Nat.reduceShiftRight,Nat.reduceMod]
 ·have h3:¬ inG c r:=fun h=>h2 h.2
  simp only [h2,h3,if_false,rnd_s,Int.reduceAdd,Int.reduceSub,decide_true,decide_false,i64_1,i64_2,i64_3,i64_4,true_and,Int.one_mul,Int.cast_ofNat_Int,Int.reduceToNat,Nat.zero_mul,Nat.reduceMul,Nat.zero_add,Nat.mul_one,List.getElem?_cons_zero,List.getElem?_cons_succ,vZ,Int.reduceEq,Int.reduceNe,Int.reduceLT,Int.reduceLE,Nat.reduceEqDiff,Nat.reduceAdd,reduceIte,reduceCtorEq,Nat.reduceLT,Nat.reduceLeDiff,Nat.reduceShiftRight,Nat.reduceMod]
theorem layer_s (c r:Int) (h:inG c r):Sound Tryd.prog 83 [gA,ceA c r] (.int .i64 (lay c r)):=by
 refine sound_W f_ice_layer (Nat.le_of_ble_eq_true rfl) ?_
 obtain ⟨⟨h1,h2⟩,h3,h4⟩:=h
 rcases (show c=0∨c=1∨c=2 by omega) with rfl | rfl | rfl <;> rcases (show r=0∨r=1 by omega) with rfl | rfl
 all_goals
  simp only [c_ice_layer,gA,ceA,rnd_s,Int.reduceAdd,Int.reduceSub,decide_true,decide_false,i64_1,i64_2,i64_3,i64_4,true_and,Int.one_mul,Int.cast_ofNat_Int,Int.reduceToNat,Nat.zero_mul,Nat.reduceMul,Nat.zero_add,Nat.mul_one,List.getElem?_cons_zero,List.getElem?_cons_succ,vZ,Int.reduceEq,Int.reduceNe,Int.reduceLT,Int.reduceLE,Nat.reduceEqDiff,Nat.reduceAdd,reduceIte,reduceCtorEq,Nat.reduceLT,Nat.reduceLeDiff,Nat.reduceShiftRight,Nat.reduceMod]
  first | rfl | exact ⟨by unfold I64;omega,rfl⟩
theorem lay_two (c r:Int):lay c r=0∨lay c r=1:=by unfold lay;omega
theorem step_s (c r c' r':Int) (h:inG c r) (h':inG c' r'):Sound Tryd.prog 77 [gA,ceA c r,ceA c' r'] (.int .i64 (del c r+del c' r')):=by
 refine sound_W f_ice_step (Nat.le_of_ble_eq_true rfl) ?_
 have l1:=layer_s c r h
 have l2:=layer_s c' r' h'
 have t1:=lay_two c r
 have t2:=lay_two c' r'
 unfold del
 simp only [gA,ceA] at l1 l2
 generalize lay c r=x at *
 generalize lay c' r'=y at *
 rcases t1 with rfl | rfl <;> rcases t2 with rfl | rfl
 all_goals
  simp only [c_ice_step,gA,ceA,rnd_s,Int.reduceAdd,Int.reduceSub,decide_true,decide_false,i64_1,i64_2,i64_3,i64_4,true_and,Int.one_mul,Int.cast_ofNat_Int,Int.reduceToNat,Nat.zero_mul,Nat.reduceMul,Nat.zero_add,Nat.mul_one,List.getElem?_cons_zero,List.getElem?_cons_succ,vZ,Int.reduceEq,Int.reduceNe,Int.reduceLT,Int.reduceLE,Nat.reduceEqDiff,Nat.reduceAdd,reduceIte,reduceCtorEq,Nat.reduceLT,Nat.reduceLeDiff,Nat.reduceShiftRight,Nat.reduceMod]
  refine callS_of l1 ?_
  simp only [rnd_s,Int.reduceAdd,Int.reduceSub,decide_true,decide_false,i64_1,i64_2,i64_3,i64_4,true_and,Int.one_mul,Int.cast_ofNat_Int,Int.reduceToNat,Nat.zero_mul,Nat.reduceMul,Nat.zero_add,Nat.mul_one,List.getElem?_cons_zero,List.getElem?_cons_succ,vZ,Int.reduceEq,Int.reduceNe,Int.reduceLT,Int.reduceLE,Nat.reduceEqDiff,Nat.reduceAdd,reduceIte,reduceCtorEq,Nat.reduceLT,Nat.reduceLeDiff,Nat.reduceShiftRight,Nat.reduceMod]
  refine callS_of l2 ?_
  simp only [rnd_s,Int.reduceAdd,Int.reduceSub,decide_true,decide_false,i64_1,i64_2,i64_3,i64_4,true_and,Int.one_mul,Int.cast_ofNat_Int,Int.reduceToNat,Nat.zero_mul,Nat.reduceMul,Nat.zero_add,Nat.mul_one,List.getElem?_cons_zero,List.getElem?_cons_succ,vZ,Int.reduceEq,Int.reduceNe,Int.reduceLT,Int.reduceLE,Nat.reduceEqDiff,Nat.reduceAdd,reduceIte,reduceCtorEq,Nat.reduceLT,Nat.reduceLeDiff,Nat.reduceShiftRight,Nat.reduceMod]
  try first | rfl | (unfold I64;omega)
def sdx:Nat→Int
 | 0 => -1
 | 3=>1
 | _=>0
def sdy:Nat→Int
 | 1 => -1
 | 2=>1
 | _=>0
def nbA (p:Int × Int × Int):List AV:=[ceA p.1 p.2.1,.int .i64 p.2.2]
def nb1 (c r:Int) (i:Nat):List (Int × Int × Int):=if inG (c+sdx i) (r+sdy i) then [(c+sdx i,r+sdy i,del c r+del (c+sdx i) (r+sdy i))] else []
def nbs (c r:Int) (n:Nat):List (Int × Int × Int):=(List.range n).flatMap (nb1 c r)
theorem nbs_succ (c r:Int) (n:Nat):nbs c r (n+1)=nbs c r n ++ nb1 c r n:=by
 unfold nbs
 rw [List.range_succ,List.flatMap_append];simp
theorem nbs_le (c r:Int) (i n:Nat) (h:i≤n):∃ rest,nbs c r n=nbs c r i ++ rest:=by
 obtain ⟨k,rfl⟩:=Nat.exists_eq_add_of_le h
 induction k with
 | zero=>exact ⟨[],by simp⟩
 | succ k ih =>
  obtain ⟨rest,hr⟩:=ih (by omega)
  exact ⟨rest ++ nb1 c r (i+k),by rw [← Nat.add_assoc,nbs_succ,hr,List.append_assoc]⟩
def sidesA:AV:=.agg [.int .i64 (-1),.int .i64 0,.int .i64 0,.int .i64 (-1),.int .i64 0,.int .i64 1,.int .i64 1,.int .i64 0]
theorem nbs_in {c r:Int} {i:Nat} (hi:i<4) (hin:inG (c+sdx i) (r+sdy i)) :
  (∃ rest,(nbs c r i).map nbA ++ [ceA (c+sdx i) (r+sdy i),.int .i64 (del c r+del (c+sdx i) (r+sdy i))] :: rest=(nbs c r 4).map nbA) ∧
   (nbs c r (i+1)).map nbA=(nbs c r i).map nbA ++ [[ceA (c+sdx i) (r+sdy i),.int .i64 (del c r+del (c+sdx i) (r+sdy i))]]:=by
 have h1:(nbs c r (i+1)).map nbA=(nbs c r i).map nbA ++ [[ceA (c+sdx i) (r+sdy i),.int .i64 (del c r+del (c+sdx i) (r+sdy i))]]:=by
  rw [nbs_succ]
  unfold nb1
  rw [if_pos hin,List.map_append]
  rfl
 obtain ⟨rest,hr⟩:=nbs_le c r (i+1) 4 hi
 refine ⟨⟨rest.map nbA,?_⟩,h1⟩
 rw [hr,List.map_append,h1,List.append_assoc]
 rfl
theorem nbs_out {c r:Int} {i:Nat} (hin:¬ inG (c+sdx i) (r+sdy i)):(nbs c r (i+1)).map nbA=(nbs c r i).map nbA:=by
 rw [nbs_succ]
 unfold nb1
 rw [if_neg hin,List.append_nil]
theorem del_bd (c r:Int):2≤del c r∧del c r≤5:=by unfold del;split <;> omega
set_option maxHeartbeats 4000000 in
theorem neighbours_1_s (c r:Int) (h:inG c r):SeqA Tryd.prog 76 [.eptr (ceA c r) 0,.eptr gA 0] ((nbs c r 4).map nbA):=by
 refine seq_W f_ice_neighbours_1 (Nat.le_of_ble_eq_true rfl) fun y=>?_
 obtain ⟨⟨h1,h2⟩,h3,h4⟩:=h
 simp only [c_ice_neighbours_1,gA,ceA,Int.cast_ofNat_Int,Int.reduceToNat,Nat.zero_mul,Nat.reduceMul,Nat.zero_add,Nat.mul_one,List.getElem?_cons_zero,List.getElem?_cons_succ,true_and,vcC,Int.reduceEq,Int.reduceNe,Int.reduceLT,Int.reduceLE,Nat.reduceEqDiff,Nat.reduceAdd,reduceIte,reduceCtorEq,Nat.reduceLT,Nat.reduceLeDiff,eq_self,vcP,WY_skip,WY_reg,WY_regY,WY_seq,WY_cond,WY_block,WY_exit,WY_ret,WY_regT,VY_nil,VY_yld,VY_yldg,VY_ps,seqY_n,seqY_r,seqY_x,blockY_n,blockY_r,blockY_x,isCallvs,isCallv,isY,List.any_cons,List.any_nil,Bool.or_false,Bool.or_true,Bool.false_or,Bool.and_false,Bool.false_and]
 refine WY_loop (α:=PSigma fun i:Nat=>i≤4) (fun i=>((envOf [(0,.yld y),(1,.eptr (ceA c r) 0),(2,.eptr gA 0),(7,sidesA),(8,.int .i64 i.1)],stOf []),some ((nbs c r i.1).map nbA)))
  (fun i=>4 - i.1) ⟨0,by simp⟩ (weakE _ ?_) ?_ (fun ⟨i,hi⟩=>?_)
 ·simp only [gA,ceA,sidesA,vcC,Int.reduceEq,Int.reduceNe,Int.reduceLT,Int.reduceLE,Nat.reduceEqDiff,Nat.reduceAdd,reduceIte,reduceCtorEq,Nat.reduceLT,Nat.reduceLeDiff,eq_self,vcP,WY_skip,WY_reg,WY_regY,WY_seq,WY_cond,WY_block,WY_exit,WY_ret,WY_regT,VY_nil,VY_yld,VY_yldg,VY_ps,seqY_n,seqY_r,seqY_x,blockY_n,blockY_r,blockY_x,isCallvs,isCallv,isY,List.any_cons,List.any_nil,Bool.or_false,Bool.or_true,Bool.false_or,Bool.and_false,Bool.false_and];simp
 ·simp [nbs]
 ·simp only [gA,ceA,sidesA,Int.cast_ofNat_Int,Int.reduceToNat,Nat.zero_mul,Nat.reduceMul,Nat.zero_add,Nat.mul_one,List.getElem?_cons_zero,List.getElem?_cons_succ,true_and,vcC,Int.reduceEq,Int.reduceNe,Int.reduceLT,Int.reduceLE,Nat.reduceEqDiff,Nat.reduceAdd,reduceIte,reduceCtorEq,Nat.reduceLT,Nat.reduceLeDiff,eq_self,vcP,WY_skip,WY_reg,WY_regY,WY_seq,WY_cond,WY_block,WY_exit,WY_ret,WY_regT,VY_nil,VY_yld,VY_yldg,VY_ps,seqY_n,seqY_r,seqY_x,blockY_n,blockY_r,blockY_x,isCallvs,isCallv,isY,List.any_cons,List.any_nil,Bool.or_false,Bool.or_true,Bool.false_or,Bool.and_false,Bool.false_and]
  refine brB_split (fun hlt=>?_) (fun hlt=>?_)
  ·have h':i<4:=by (simp only [decide_eq_true_eq,decide_eq_false_iff_not,Bool.not_true,I64,Bool.not_eq_true',Bool.not_eq_false',bne_iff_ne,beq_iff_eq,ne_eq] at *;omega)
   rcases (show i=0∨i=1∨i=2∨i=3 by omega) with rfl | rfl | rfl | rfl
   ·have hce:=cellErr_s (c + -1) (r+0)
    simp only [gA,ceA] at hce
    simp only [Int.cast_ofNat_Int,Int.reduceToNat,Nat.zero_mul,Nat.reduceMul,Nat.zero_add,Nat.mul_one,List.getElem?_cons_zero,List.getElem?_cons_succ,true_and,Int.ofNat_zero,Int.natCast_zero,Int.cast_ofNat_Int,Int.reduceToNat,Nat.reduceMul,vcC,Int.reduceEq,Int.reduceNe,Int.reduceLT,Int.reduceLE,Nat.reduceEqDiff,Nat.reduceAdd,reduceIte,reduceCtorEq,Nat.reduceLT,Nat.reduceLeDiff,eq_self,vcP,WY_skip,WY_reg,WY_regY,WY_seq,WY_cond,WY_block,WY_exit,WY_ret,WY_regT,VY_nil,VY_yld,VY_yldg,VY_ps,seqY_n,seqY_r,seqY_x,blockY_n,blockY_r,blockY_x,isCallvs,isCallv,isY,List.any_cons,List.any_nil,Bool.or_false,Bool.or_true,Bool.false_or,Bool.and_false,Bool.false_and]
    refine ⟨by (simp only [decide_eq_true_eq,decide_eq_false_iff_not,Bool.not_true,I64,Bool.not_eq_true',Bool.not_eq_false',bne_iff_ne,beq_iff_eq,ne_eq] at *;omega),by (simp only [decide_eq_true_eq,decide_eq_false_iff_not,Bool.not_true,I64,Bool.not_eq_true',Bool.not_eq_false',bne_iff_ne,beq_iff_eq,ne_eq] at *;omega),?_⟩
    refine callS_of hce ?_
    by_cases hin:inG (c + -1) (r+0)
    ·have hst:=step_s c r (c + -1) (r+0) ⟨⟨h1,h2⟩,h3,h4⟩ hin
     simp only [gA,ceA] at hst
     simp only [hin,if_true,decide_true,Int.cast_ofNat_Int,Int.reduceToNat,Nat.zero_mul,Nat.reduceMul,Nat.zero_add,Nat.mul_one,List.getElem?_cons_zero,List.getElem?_cons_succ,true_and,vcC,Int.reduceEq,Int.reduceNe,Int.reduceLT,Int.reduceLE,Nat.reduceEqDiff,Nat.reduceAdd,reduceIte,reduceCtorEq,Nat.reduceLT,Nat.reduceLeDiff,eq_self,vcP,WY_skip,WY_reg,WY_regY,WY_seq,WY_cond,WY_block,WY_exit,WY_ret,WY_regT,VY_nil,VY_yld,VY_yldg,VY_ps,seqY_n,seqY_r,seqY_x,blockY_n,blockY_r,blockY_x,isCallvs,isCallv,isY,List.any_cons,List.any_nil,Bool.or_false,Bool.or_true,Bool.false_or,Bool.and_false,Bool.false_and]
     refine ⟨of_eq_true (usedL_imm _ _ rfl),?_⟩
     refine callS_of hst ?_
     simp only [Int.cast_ofNat_Int,Int.reduceToNat,Nat.zero_mul,Nat.reduceMul,Nat.zero_add,Nat.mul_one,List.getElem?_cons_zero,List.getElem?_cons_succ,true_and,vcC,Int.reduceEq,Int.reduceNe,Int.reduceLT,Int.reduceLE,Nat.reduceEqDiff,Nat.reduceAdd,reduceIte,reduceCtorEq,Nat.reduceLT,Nat.reduceLeDiff,eq_self,vcP,WY_skip,WY_reg,WY_regY,WY_seq,WY_cond,WY_block,WY_exit,WY_ret,WY_regT,VY_nil,VY_yld,VY_yldg,VY_ps,seqY_n,seqY_r,seqY_x,blockY_n,blockY_r,blockY_x,isCallvs,isCallv,isY,List.any_cons,List.any_nil,Bool.or_false,Bool.or_true,Bool.false_or,Bool.and_false,Bool.false_and]
     refine ⟨of_eq_true (usedL_imm _ _ rfl),?_⟩
     obtain ⟨⟨rest,hr⟩,hn⟩:=nbs_in (c:=c) (r:=r) (i:=0) (by omega) hin
     simp only [sdx,sdy,ceA] at hr hn
     refine yS_of ((nbs c r 0).map nbA) rest rfl hr ?_ ?_
     ·simp only [Int.cast_ofNat_Int,Int.reduceToNat,Nat.zero_mul,Nat.reduceMul,Nat.zero_add,Nat.mul_one,List.getElem?_cons_zero,List.getElem?_cons_succ,true_and,vcC,Int.reduceEq,Int.reduceNe,Int.reduceLT,Int.reduceLE,Nat.reduceEqDiff,Nat.reduceAdd,reduceIte,reduceCtorEq,Nat.reduceLT,Nat.reduceLeDiff,eq_self,vcP,WY_skip,WY_reg,WY_regY,WY_seq,WY_cond,WY_block,WY_exit,WY_ret,WY_regT,VY_nil,VY_yld,VY_yldg,VY_ps,seqY_n,seqY_r,seqY_x,blockY_n,blockY_r,blockY_x,isCallvs,isCallv,isY,List.any_cons,List.any_nil,Bool.or_false,Bool.or_true,Bool.false_or,Bool.and_false,Bool.false_and]
      refine ⟨by unfold I64;omega,⟨0+1,by omega⟩,by simp only;omega,?_,congrArg some hn.symm⟩
      refine weakX [] (of_decide_eq_true rfl) (of_decide_eq_true rfl) ?_
      (simp only [gA,ceA,sidesA,vcW,vZ,Int.reduceEq,Int.reduceNe,Int.reduceLT,Int.reduceLE,Nat.reduceEqDiff,Nat.reduceAdd,reduceIte,reduceCtorEq,Nat.reduceLT,Nat.reduceLeDiff,Nat.reduceShiftRight,Nat.reduceMod])
      (repeat' first | exact trivial | (with_reducible first | exact RnB.fxB (ints_fxB _) | rfl | refine And.intro ?_ ?_) | (with_reducible (first | refine RnB.bb ?_ | refine RnB.nb ?_);simp only [vcW,vZ,Int.reduceEq,Int.reduceNe,Int.reduceLT,Int.reduceLE,Nat.reduceEqDiff,Nat.reduceAdd,reduceIte,reduceCtorEq,Nat.reduceLT,Nat.reduceLeDiff,Nat.reduceShiftRight,Nat.reduceMod]) | (with_reducible first | refine RnB.ii ?_ | refine RnB.app ?_) | (with_reducible refine RnB.fxB ?_;simp only [vcW,vZ,Int.reduceEq,Int.reduceNe,Int.reduceLT,Int.reduceLE,Nat.reduceEqDiff,Nat.reduceAdd,reduceIte,reduceCtorEq,Nat.reduceLT,Nat.reduceLeDiff,Nat.reduceShiftRight,Nat.reduceMod]) | omega)
      all_goals first | rfl | (simp;done) | skip
     ·simp only [Int.cast_ofNat_Int,Int.reduceToNat,Nat.zero_mul,Nat.reduceMul,Nat.zero_add,Nat.mul_one,List.getElem?_cons_zero,List.getElem?_cons_succ,true_and,vcC,Int.reduceEq,Int.reduceNe,Int.reduceLT,Int.reduceLE,Nat.reduceEqDiff,Nat.reduceAdd,reduceIte,reduceCtorEq,Nat.reduceLT,Nat.reduceLeDiff,eq_self,vcP,WY_skip,WY_reg,WY_regY,WY_seq,WY_cond,WY_block,WY_exit,WY_ret,WY_regT,VY_nil,VY_yld,VY_yldg,VY_ps,seqY_n,seqY_r,seqY_x,blockY_n,blockY_r,blockY_x,isCallvs,isCallv,isY,List.any_cons,List.any_nil,Bool.or_false,Bool.or_true,Bool.false_or,Bool.and_false,Bool.false_and]
      simp
    ·simp only [hin,if_false,decide_false,Int.cast_ofNat_Int,Int.reduceToNat,Nat.zero_mul,Nat.reduceMul,Nat.zero_add,Nat.mul_one,List.getElem?_cons_zero,List.getElem?_cons_succ,true_and,vcC,Int.reduceEq,Int.reduceNe,Int.reduceLT,Int.reduceLE,Nat.reduceEqDiff,Nat.reduceAdd,reduceIte,reduceCtorEq,Nat.reduceLT,Nat.reduceLeDiff,eq_self,vcP,WY_skip,WY_reg,WY_regY,WY_seq,WY_cond,WY_block,WY_exit,WY_ret,WY_regT,VY_nil,VY_yld,VY_yldg,VY_ps,seqY_n,seqY_r,seqY_x,blockY_n,blockY_r,blockY_x,isCallvs,isCallv,isY,List.any_cons,List.any_nil,Bool.or_false,Bool.or_true,Bool.false_or,Bool.and_false,Bool.false_and]
     refine ⟨of_eq_true (usedL_imm _ _ rfl),?_⟩
     have hn:=nbs_out (c:=c) (r:=r) (i:=0) hin
     refine ⟨by unfold I64;omega,⟨0+1,by omega⟩,by simp only;omega,?_,congrArg some hn.symm⟩
     refine weakX [] (of_decide_eq_true rfl) (of_decide_eq_true rfl) ?_
     (simp only [gA,ceA,sidesA,vcW,vZ,Int.reduceEq,Int.reduceNe,Int.reduceLT,Int.reduceLE,Nat.reduceEqDiff,Nat.reduceAdd,reduceIte,reduceCtorEq,Nat.reduceLT,Nat.reduceLeDiff,Nat.reduceShiftRight,Nat.reduceMod])
     (repeat' first | exact trivial | (with_reducible first | exact RnB.fxB (ints_fxB _) | rfl | refine And.intro ?_ ?_) | (with_reducible (first | refine RnB.bb ?_ | refine RnB.nb ?_);simp only [vcW,vZ,Int.reduceEq,Int.reduceNe,Int.reduceLT,Int.reduceLE,Nat.reduceEqDiff,Nat.reduceAdd,reduceIte,reduceCtorEq,Nat.reduceLT,Nat.reduceLeDiff,Nat.reduceShiftRight,Nat.reduceMod]) | (with_reducible first | refine RnB.ii ?_ | refine RnB.app ?_) | (with_reducible refine RnB.fxB ?_;simp only [vcW,vZ,Int.reduceEq,Int.reduceNe,Int.reduceLT,Int.reduceLE,Nat.reduceEqDiff,Nat.reduceAdd,reduceIte,reduceCtorEq,Nat.reduceLT,Nat.reduceLeDiff,Nat.reduceShiftRight,Nat.reduceMod]) | omega)
     all_goals first | rfl | (simp;done) | skip
   ·have hce:=cellErr_s (c+0) (r + -1)
    simp only [gA,ceA] at hce
    simp only [Int.cast_ofNat_Int,Int.reduceToNat,Nat.zero_mul,Nat.reduceMul,Nat.zero_add,Nat.mul_one,List.getElem?_cons_zero,List.getElem?_cons_succ,true_and,Int.ofNat_zero,Int.natCast_zero,Int.cast_ofNat_Int,Int.reduceToNat,Nat.reduceMul,vcC,Int.reduceEq,Int.reduceNe,Int.reduceLT,Int.reduceLE,Nat.reduceEqDiff,Nat.reduceAdd,reduceIte,reduceCtorEq,Nat.reduceLT,Nat.reduceLeDiff,eq_self,vcP,WY_skip,WY_reg,WY_regY,WY_seq,WY_cond,WY_block,WY_exit,WY_ret,WY_regT,VY_nil,VY_yld,VY_yldg,VY_ps,seqY_n,seqY_r,seqY_x,blockY_n,blockY_r,blockY_x,isCallvs,isCallv,isY,List.any_cons,List.any_nil,Bool.or_false,Bool.or_true,Bool.false_or,Bool.and_false,Bool.false_and]
    refine ⟨by (simp only [decide_eq_true_eq,decide_eq_false_iff_not,Bool.not_true,I64,Bool.not_eq_true',Bool.not_eq_false',bne_iff_ne,beq_iff_eq,ne_eq] at *;omega),by (simp only [decide_eq_true_eq,decide_eq_false_iff_not,Bool.not_true,I64,Bool.not_eq_true',Bool.not_eq_false',bne_iff_ne,beq_iff_eq,ne_eq] at *;omega),?_⟩
    refine callS_of hce ?_
    by_cases hin:inG (c+0) (r + -1)
    ·have hst:=step_s c r (c+0) (r + -1) ⟨⟨h1,h2⟩,h3,h4⟩ hin
     simp only [gA,ceA] at hst
     simp only [hin,if_true,decide_true,Int.cast_ofNat_Int,Int.reduceToNat,Nat.zero_mul,Nat.reduceMul,Nat.zero_add,Nat.mul_one,List.getElem?_cons_zero,List.getElem?_cons_succ,true_and,vcC,Int.reduceEq,Int.reduceNe,Int.reduceLT,Int.reduceLE,Nat.reduceEqDiff,Nat.reduceAdd,reduceIte,reduceCtorEq,Nat.reduceLT,Nat.reduceLeDiff,eq_self,vcP,WY_skip,WY_reg,WY_regY,WY_seq,WY_cond,WY_block,WY_exit,WY_ret,WY_regT,VY_nil,VY_yld,VY_yldg,VY_ps,seqY_n,seqY_r,seqY_x,blockY_n,blockY_r,blockY_x,isCallvs,isCallv,isY,List.any_cons,List.any_nil,Bool.or_false,Bool.or_true,Bool.false_or,Bool.and_false,Bool.false_and]
     refine ⟨of_eq_true (usedL_imm _ _ rfl),?_⟩
     refine callS_of hst ?_
     simp only [Int.cast_ofNat_Int,Int.reduceToNat,Nat.zero_mul,Nat.reduceMul,Nat.zero_add,Nat.mul_one,List.getElem?_cons_zero,List.getElem?_cons_succ,true_and,vcC,Int.reduceEq,Int.reduceNe,Int.reduceLT,Int.reduceLE,Nat.reduceEqDiff,Nat.reduceAdd,reduceIte,reduceCtorEq,Nat.reduceLT,Nat.reduceLeDiff,eq_self,vcP,WY_skip,WY_reg,WY_regY,WY_seq,WY_cond,WY_block,WY_exit,WY_ret,WY_regT,VY_nil,VY_yld,VY_yldg,VY_ps,seqY_n,seqY_r,seqY_x,blockY_n,blockY_r,blockY_x,isCallvs,isCallv,isY,List.any_cons,List.any_nil,Bool.or_false,Bool.or_true,Bool.false_or,Bool.and_false,Bool.false_and]
     refine ⟨of_eq_true (usedL_imm _ _ rfl),?_⟩
     obtain ⟨⟨rest,hr⟩,hn⟩:=nbs_in (c:=c) (r:=r) (i:=1) (by omega) hin
     simp only [sdx,sdy,ceA] at hr hn
     refine yS_of ((nbs c r 1).map nbA) rest rfl hr ?_ ?_
     ·simp only [Int.cast_ofNat_Int,Int.reduceToNat,Nat.zero_mul,Nat.reduceMul,Nat.zero_add,Nat.mul_one,List.getElem?_cons_zero,List.getElem?_cons_succ,true_and,vcC,Int.reduceEq,Int.reduceNe,Int.reduceLT,Int.reduceLE,Nat.reduceEqDiff,Nat.reduceAdd,reduceIte,reduceCtorEq,Nat.reduceLT,Nat.reduceLeDiff,eq_self,vcP,WY_skip,WY_reg,WY_regY,WY_seq,WY_cond,WY_block,WY_exit,WY_ret,WY_regT,VY_nil,VY_yld,VY_yldg,VY_ps,seqY_n,seqY_r,seqY_x,blockY_n,blockY_r,blockY_x,isCallvs,isCallv,isY,List.any_cons,List.any_nil,Bool.or_false,Bool.or_true,Bool.false_or,Bool.and_false,Bool.false_and]
      refine ⟨by unfold I64;omega,⟨1+1,by omega⟩,by simp only;omega,?_,congrArg some hn.symm⟩
      refine weakX [] (of_decide_eq_true rfl) (of_decide_eq_true rfl) ?_
      (simp only [gA,ceA,sidesA,vcW,vZ,Int.reduceEq,Int.reduceNe,Int.reduceLT,Int.reduceLE,Nat.reduceEqDiff,Nat.reduceAdd,reduceIte,reduceCtorEq,Nat.reduceLT,Nat.reduceLeDiff,Nat.reduceShiftRight,Nat.reduceMod])
      (repeat' first | exact trivial | (with_reducible first | exact RnB.fxB (ints_fxB _) | rfl | refine And.intro ?_ ?_) | (with_reducible (first | refine RnB.bb ?_ | refine RnB.nb ?_);simp only [vcW,vZ,Int.reduceEq,Int.reduceNe,Int.reduceLT,Int.reduceLE,Nat.reduceEqDiff,Nat.reduceAdd,reduceIte,reduceCtorEq,Nat.reduceLT,Nat.reduceLeDiff,Nat.reduceShiftRight,Nat.reduceMod]) | (with_reducible first | refine RnB.ii ?_ | refine RnB.app ?_) | (with_reducible refine RnB.fxB ?_;simp only [vcW,vZ,Int.reduceEq,Int.reduceNe,Int.reduceLT,Int.reduceLE,Nat.reduceEqDiff,Nat.reduceAdd,reduceIte,reduceCtorEq,Nat.reduceLT,Nat.reduceLeDiff,Nat.reduceShiftRight,Nat.reduceMod]) | omega)
      all_goals first | rfl | (simp;done) | skip
     ·simp only [Int.cast_ofNat_Int,Int.reduceToNat,Nat.zero_mul,Nat.reduceMul,Nat.zero_add,Nat.mul_one,List.getElem?_cons_zero,List.getElem?_cons_succ,true_and,vcC,Int.reduceEq,Int.reduceNe,Int.reduceLT,Int.reduceLE,Nat.reduceEqDiff,Nat.reduceAdd,reduceIte,reduceCtorEq,Nat.reduceLT,Nat.reduceLeDiff,eq_self,vcP,WY_skip,WY_reg,WY_regY,WY_seq,WY_cond,WY_block,WY_exit,WY_ret,WY_regT,VY_nil,VY_yld,VY_yldg,VY_ps,seqY_n,seqY_r,seqY_x,blockY_n,blockY_r,blockY_x,isCallvs,isCallv,isY,List.any_cons,List.any_nil,Bool.or_false,Bool.or_true,Bool.false_or,Bool.and_false,Bool.false_and]
      simp
    ·simp only [hin,if_false,decide_false,Int.cast_ofNat_Int,Int.reduceToNat,Nat.zero_mul,Nat.reduceMul,Nat.zero_add,Nat.mul_one,List.getElem?_cons_zero,List.getElem?_cons_succ,true_and,vcC,Int.reduceEq,Int.reduceNe,Int.reduceLT,Int.reduceLE,Nat.reduceEqDiff,Nat.reduceAdd,reduceIte,reduceCtorEq,Nat.reduceLT,Nat.reduceLeDiff,eq_self,vcP,WY_skip,WY_reg,WY_regY,WY_seq,WY_cond,WY_block,WY_exit,WY_ret,WY_regT,VY_nil,VY_yld,VY_yldg,VY_ps,seqY_n,seqY_r,seqY_x,blockY_n,blockY_r,blockY_x,isCallvs,isCallv,isY,List.any_cons,List.any_nil,Bool.or_false,Bool.or_true,Bool.false_or,Bool.and_false,Bool.false_and]
     refine ⟨of_eq_true (usedL_imm _ _ rfl),?_⟩
     have hn:=nbs_out (c:=c) (r:=r) (i:=1) hin
     refine ⟨by unfold I64;omega,⟨1+1,by omega⟩,by simp only;omega,?_,congrArg some hn.symm⟩
     refine weakX [] (of_decide_eq_true rfl) (of_decide_eq_true rfl) ?_
     (simp only [gA,ceA,sidesA,vcW,vZ,Int.reduceEq,Int.reduceNe,Int.reduceLT,Int.reduceLE,Nat.reduceEqDiff,Nat.reduceAdd,reduceIte,reduceCtorEq,Nat.reduceLT,Nat.reduceLeDiff,Nat.reduceShiftRight,Nat.reduceMod])
     (repeat' first | exact trivial | (with_reducible first | exact RnB.fxB (ints_fxB _) | rfl | refine And.intro ?_ ?_) | (with_reducible (first | refine RnB.bb ?_ | refine RnB.nb ?_);simp only [vcW,vZ,Int.reduceEq,Int.reduceNe,Int.reduceLT,Int.reduceLE,Nat.reduceEqDiff,Nat.reduceAdd,reduceIte,reduceCtorEq,Nat.reduceLT,Nat.reduceLeDiff,Nat.reduceShiftRight,Nat.reduceMod]) | (with_reducible first | refine RnB.ii ?_ | refine RnB.app ?_) | (with_reducible refine RnB.fxB ?_;simp only [vcW,vZ,Int.reduceEq,Int.reduceNe,Int.reduceLT,Int.reduceLE,Nat.reduceEqDiff,Nat.reduceAdd,reduceIte,reduceCtorEq,Nat.reduceLT,Nat.reduceLeDiff,Nat.reduceShiftRight,Nat.reduceMod]) | omega)
     all_goals first | rfl | (simp;done) | skip
   ·have hce:=cellErr_s (c+0) (r+1)
    simp only [gA,ceA] at hce
    simp only [Int.cast_ofNat_Int,Int.reduceToNat,Nat.zero_mul,Nat.reduceMul,Nat.zero_add,Nat.mul_one,List.getElem?_cons_zero,List.getElem?_cons_succ,true_and,Int.ofNat_zero,Int.natCast_zero,Int.cast_ofNat_Int,Int.reduceToNat,Nat.reduceMul,vcC,Int.reduceEq,Int.reduceNe,Int.reduceLT,Int.reduceLE,Nat.reduceEqDiff,Nat.reduceAdd,reduceIte,reduceCtorEq,Nat.reduceLT,Nat.reduceLeDiff,eq_self,vcP,WY_skip,WY_reg,WY_regY,WY_seq,WY_cond,WY_block,WY_exit,WY_ret,WY_regT,VY_nil,VY_yld,VY_yldg,VY_ps,seqY_n,seqY_r,seqY_x,blockY_n,blockY_r,blockY_x,isCallvs,isCallv,isY,List.any_cons,List.any_nil,Bool.or_false,Bool.or_true,Bool.false_or,Bool.and_false,Bool.false_and]
    refine ⟨by (simp only [decide_eq_true_eq,decide_eq_false_iff_not,Bool.not_true,I64,Bool.not_eq_true',Bool.not_eq_false',bne_iff_ne,beq_iff_eq,ne_eq] at *;omega),by (simp only [decide_eq_true_eq,decide_eq_false_iff_not,Bool.not_true,I64,Bool.not_eq_true',Bool.not_eq_false',bne_iff_ne,beq_iff_eq,ne_eq] at *;omega),?_⟩
    refine callS_of hce ?_
    by_cases hin:inG (c+0) (r+1)
    ·have hst:=step_s c r (c+0) (r+1) ⟨⟨h1,h2⟩,h3,h4⟩ hin
     simp only [gA,ceA] at hst
     simp only [hin,if_true,decide_true,Int.cast_ofNat_Int,Int.reduceToNat,Nat.zero_mul,Nat.reduceMul,Nat.zero_add,Nat.mul_one,List.getElem?_cons_zero,List.getElem?_cons_succ,true_and,vcC,Int.reduceEq,Int.reduceNe,Int.reduceLT,Int.reduceLE,Nat.reduceEqDiff,Nat.reduceAdd,reduceIte,reduceCtorEq,Nat.reduceLT,Nat.reduceLeDiff,eq_self,vcP,WY_skip,WY_reg,WY_regY,WY_seq,WY_cond,WY_block,WY_exit,WY_ret,WY_regT,VY_nil,VY_yld,VY_yldg,VY_ps,seqY_n,seqY_r,seqY_x,blockY_n,blockY_r,blockY_x,isCallvs,isCallv,isY,List.any_cons,List.any_nil,Bool.or_false,Bool.or_true,Bool.false_or,Bool.and_false,Bool.false_and]
     refine ⟨of_eq_true (usedL_imm _ _ rfl),?_⟩
     refine callS_of hst ?_
     simp only [Int.cast_ofNat_Int,Int.reduceToNat,Nat.zero_mul,Nat.reduceMul,Nat.zero_add,Nat.mul_one,List.getElem?_cons_zero,List.getElem?_cons_succ,true_and,vcC,Int.reduceEq,Int.reduceNe,Int.reduceLT,Int.reduceLE,Nat.reduceEqDiff,Nat.reduceAdd,reduceIte,reduceCtorEq,Nat.reduceLT,Nat.reduceLeDiff,eq_self,vcP,WY_skip,WY_reg,WY_regY,WY_seq,WY_cond,WY_block,WY_exit,WY_ret,WY_regT,VY_nil,VY_yld,VY_yldg,VY_ps,seqY_n,seqY_r,seqY_x,blockY_n,blockY_r,blockY_x,isCallvs,isCallv,isY,List.any_cons,List.any_nil,Bool.or_false,Bool.or_true,Bool.false_or,Bool.and_false,Bool.false_and]
     refine ⟨of_eq_true (usedL_imm _ _ rfl),?_⟩
     obtain ⟨⟨rest,hr⟩,hn⟩:=nbs_in (c:=c) (r:=r) (i:=2) (by omega) hin
     simp only [sdx,sdy,ceA] at hr hn
     refine yS_of ((nbs c r 2).map nbA) rest rfl hr ?_ ?_
     ·simp only [Int.cast_ofNat_Int,Int.reduceToNat,Nat.zero_mul,Nat.reduceMul,Nat.zero_add,Nat.mul_one,List.getElem?_cons_zero,List.getElem?_cons_succ,true_and,vcC,Int.reduceEq,Int.reduceNe,Int.reduceLT,Int.reduceLE,Nat.reduceEqDiff,Nat.reduceAdd,reduceIte,reduceCtorEq,Nat.reduceLT,Nat.reduceLeDiff,eq_self,vcP,WY_skip,WY_reg,WY_regY,WY_seq,WY_cond,WY_block,WY_exit,WY_ret,WY_regT,VY_nil,VY_yld,VY_yldg,VY_ps,seqY_n,seqY_r,seqY_x,blockY_n,blockY_r,blockY_x,isCallvs,isCallv,isY,List.any_cons,List.any_nil,Bool.or_false,Bool.or_true,Bool.false_or,Bool.and_false,Bool.false_and]
      refine ⟨by unfold I64;omega,⟨2+1,by omega⟩,by simp only;omega,?_,congrArg some hn.symm⟩
      refine weakX [] (of_decide_eq_true rfl) (of_decide_eq_true rfl) ?_
      (simp only [gA,ceA,sidesA,vcW,vZ,Int.reduceEq,Int.reduceNe,Int.reduceLT,Int.reduceLE,Nat.reduceEqDiff,Nat.reduceAdd,reduceIte,reduceCtorEq,Nat.reduceLT,Nat.reduceLeDiff,Nat.reduceShiftRight,Nat.reduceMod])
      (repeat' first | exact trivial | (with_reducible first | exact RnB.fxB (ints_fxB _) | rfl | refine And.intro ?_ ?_) | (with_reducible (first | refine RnB.bb ?_ | refine RnB.nb ?_);simp only [vcW,vZ,Int.reduceEq,Int.reduceNe,Int.reduceLT,Int.reduceLE,Nat.reduceEqDiff,Nat.reduceAdd,reduceIte,reduceCtorEq,Nat.reduceLT,Nat.reduceLeDiff,Nat.reduceShiftRight,Nat.reduceMod]) | (with_reducible first | refine RnB.ii ?_ | refine RnB.app ?_) | (with_reducible refine RnB.fxB ?_;simp only [vcW,vZ,Int.reduceEq,Int.reduceNe,Int.reduceLT,Int.reduceLE,Nat.reduceEqDiff,Nat.reduceAdd,reduceIte,reduceCtorEq,Nat.reduceLT,Nat.reduceLeDiff,Nat.reduceShiftRight,Nat.reduceMod]) | omega)
      all_goals first | rfl | (simp;done) | skip
     ·simp only [Int.cast_ofNat_Int,Int.reduceToNat,Nat.zero_mul,Nat.reduceMul,Nat.zero_add,Nat.mul_one,List.getElem?_cons_zero,List.getElem?_cons_succ,true_and,vcC,Int.reduceEq,Int.reduceNe,Int.reduceLT,Int.reduceLE,Nat.reduceEqDiff,Nat.reduceAdd,reduceIte,reduceCtorEq,Nat.reduceLT,Nat.reduceLeDiff,eq_self,vcP,WY_skip,WY_reg,WY_regY,WY_seq,WY_cond,WY_block,WY_exit,WY_ret,WY_regT,VY_nil,VY_yld,VY_yldg,VY_ps,seqY_n,seqY_r,seqY_x,blockY_n,blockY_r,blockY_x,isCallvs,isCallv,isY,List.any_cons,List.any_nil,Bool.or_false,Bool.or_true,Bool.false_or,Bool.and_false,Bool.false_and]
      simp
    ·simp only [hin,if_false,decide_false,Int.cast_ofNat_Int,Int.reduceToNat,Nat.zero_mul,Nat.reduceMul,Nat.zero_add,Nat.mul_one,List.getElem?_cons_zero,List.getElem?_cons_succ,true_and,vcC,Int.reduceEq,Int.reduceNe,Int.reduceLT,Int.reduceLE,Nat.reduceEqDiff,Nat.reduceAdd,reduceIte,reduceCtorEq,Nat.reduceLT,Nat.reduceLeDiff,eq_self,vcP,WY_skip,WY_reg,WY_regY,WY_seq,WY_cond,WY_block,WY_exit,WY_ret,WY_regT,VY_nil,VY_yld,VY_yldg,VY_ps,seqY_n,seqY_r,seqY_x,blockY_n,blockY_r,blockY_x,isCallvs,isCallv,isY,List.any_cons,List.any_nil,Bool.or_false,Bool.or_true,Bool.false_or,Bool.and_false,Bool.false_and]
     refine ⟨of_eq_true (usedL_imm _ _ rfl),?_⟩
     have hn:=nbs_out (c:=c) (r:=r) (i:=2) hin
     refine ⟨by unfold I64;omega,⟨2+1,by omega⟩,by simp only;omega,?_,congrArg some hn.symm⟩
     refine weakX [] (of_decide_eq_true rfl) (of_decide_eq_true rfl) ?_
     (simp only [gA,ceA,sidesA,vcW,vZ,Int.reduceEq,Int.reduceNe,Int.reduceLT,Int.reduceLE,Nat.reduceEqDiff,Nat.reduceAdd,reduceIte,reduceCtorEq,Nat.reduceLT,Nat.reduceLeDiff,Nat.reduceShiftRight,Nat.reduceMod])
     (repeat' first | exact trivial | (with_reducible first | exact RnB.fxB (ints_fxB _) | rfl | refine And.intro ?_ ?_) | (with_reducible (first | refine RnB.bb ?_ | refine RnB.nb ?_);simp only [vcW,vZ,Int.reduceEq,Int.reduceNe,Int.reduceLT,Int.reduceLE,Nat.reduceEqDiff,Nat.reduceAdd,reduceIte,reduceCtorEq,Nat.reduceLT,Nat.reduceLeDiff,Nat.reduceShiftRight,Nat.reduceMod]) | (with_reducible first | refine RnB.ii ?_ | refine RnB.app ?_) | (with_reducible refine RnB.fxB ?_;simp only [vcW,vZ,Int.reduceEq,Int.reduceNe,Int.reduceLT,Int.reduceLE,Nat.reduceEqDiff,Nat.reduceAdd,reduceIte,reduceCtorEq,Nat.reduceLT,Nat.reduceLeDiff,Nat.reduceShiftRight,Nat.reduceMod]) | omega)
     all_goals first | rfl | (simp;done) | skip
   ·have hce:=cellErr_s (c+1) (r+0)
    simp only [gA,ceA] at hce
    simp only [Int.cast_ofNat_Int,Int.reduceToNat,Nat.zero_mul,Nat.reduceMul,Nat.zero_add,Nat.mul_one,List.getElem?_cons_zero,List.getElem?_cons_succ,true_and,Int.ofNat_zero,Int.natCast_zero,Int.cast_ofNat_Int,Int.reduceToNat,Nat.reduceMul,vcC,Int.reduceEq,Int.reduceNe,Int.reduceLT,Int.reduceLE,Nat.reduceEqDiff,Nat.reduceAdd,reduceIte,reduceCtorEq,Nat.reduceLT,Nat.reduceLeDiff,eq_self,vcP,WY_skip,WY_reg,WY_regY,WY_seq,WY_cond,WY_block,WY_exit,WY_ret,WY_regT,VY_nil,VY_yld,VY_yldg,VY_ps,seqY_n,seqY_r,seqY_x,blockY_n,blockY_r,blockY_x,isCallvs,isCallv,isY,List.any_cons,List.any_nil,Bool.or_false,Bool.or_true,Bool.false_or,Bool.and_false,Bool.false_and]
    refine ⟨by (simp only [decide_eq_true_eq,decide_eq_false_iff_not,Bool.not_true,I64,Bool.not_eq_true',Bool.not_eq_false',bne_iff_ne,beq_iff_eq,ne_eq] at *;omega),by (simp only [decide_eq_true_eq,decide_eq_false_iff_not,Bool.not_true,I64,Bool.not_eq_true',Bool.not_eq_false',bne_iff_ne,beq_iff_eq,ne_eq] at *;omega),?_⟩
    refine callS_of hce ?_
    by_cases hin:inG (c+1) (r+0)
    ·have hst:=step_s c r (c+1) (r+0) ⟨⟨h1,h2⟩,h3,h4⟩ hin
     simp only [gA,ceA] at hst
     simp only [hin,if_true,decide_true,Int.cast_ofNat_Int,Int.reduceToNat,Nat.zero_mul,Nat.reduceMul,Nat.zero_add,Nat.mul_one,List.getElem?_cons_zero,List.getElem?_cons_succ,true_and,vcC,Int.reduceEq,Int.reduceNe,Int.reduceLT,Int.reduceLE,Nat.reduceEqDiff,Nat.reduceAdd,reduceIte,reduceCtorEq,Nat.reduceLT,Nat.reduceLeDiff,eq_self,vcP,WY_skip,WY_reg,WY_regY,WY_seq,WY_cond,WY_block,WY_exit,WY_ret,WY_regT,VY_nil,VY_yld,VY_yldg,VY_ps,seqY_n,seqY_r,seqY_x,blockY_n,blockY_r,blockY_x,isCallvs,isCallv,isY,List.any_cons,List.any_nil,Bool.or_false,Bool.or_true,Bool.false_or,Bool.and_false,Bool.false_and]
     refine ⟨of_eq_true (usedL_imm _ _ rfl),?_⟩
     refine callS_of hst ?_
     simp only [Int.cast_ofNat_Int,Int.reduceToNat,Nat.zero_mul,Nat.reduceMul,Nat.zero_add,Nat.mul_one,List.getElem?_cons_zero,List.getElem?_cons_succ,true_and,vcC,Int.reduceEq,Int.reduceNe,Int.reduceLT,Int.reduceLE,Nat.reduceEqDiff,Nat.reduceAdd,reduceIte,reduceCtorEq,Nat.reduceLT,Nat.reduceLeDiff,eq_self,vcP,WY_skip,WY_reg,WY_regY,WY_seq,WY_cond,WY_block,WY_exit,WY_ret,WY_regT,VY_nil,VY_yld,VY_yldg,VY_ps,seqY_n,seqY_r,seqY_x,blockY_n,blockY_r,blockY_x,isCallvs,isCallv,isY,List.any_cons,List.any_nil,Bool.or_false,Bool.or_true,Bool.false_or,Bool.and_false,Bool.false_and]
     refine ⟨of_eq_true (usedL_imm _ _ rfl),?_⟩
     obtain ⟨⟨rest,hr⟩,hn⟩:=nbs_in (c:=c) (r:=r) (i:=3) (by omega) hin
     simp only [sdx,sdy,ceA] at hr hn
     refine yS_of ((nbs c r 3).map nbA) rest rfl hr ?_ ?_
     ·simp only [Int.cast_ofNat_Int,Int.reduceToNat,Nat.zero_mul,Nat.reduceMul,Nat.zero_add,Nat.mul_one,List.getElem?_cons_zero,List.getElem?_cons_succ,true_and,vcC,Int.reduceEq,Int.reduceNe,Int.reduceLT,Int.reduceLE,Nat.reduceEqDiff,Nat.reduceAdd,reduceIte,reduceCtorEq,Nat.reduceLT,Nat.reduceLeDiff,eq_self,vcP,WY_skip,WY_reg,WY_regY,WY_seq,WY_cond,WY_block,WY_exit,WY_ret,WY_regT,VY_nil,VY_yld,VY_yldg,VY_ps,seqY_n,seqY_r,seqY_x,blockY_n,blockY_r,blockY_x,isCallvs,isCallv,isY,List.any_cons,List.any_nil,Bool.or_false,Bool.or_true,Bool.false_or,Bool.and_false,Bool.false_and]
      refine ⟨by unfold I64;omega,⟨3+1,by omega⟩,by simp only;omega,?_,congrArg some hn.symm⟩
      refine weakX [] (of_decide_eq_true rfl) (of_decide_eq_true rfl) ?_
      (simp only [gA,ceA,sidesA,vcW,vZ,Int.reduceEq,Int.reduceNe,Int.reduceLT,Int.reduceLE,Nat.reduceEqDiff,Nat.reduceAdd,reduceIte,reduceCtorEq,Nat.reduceLT,Nat.reduceLeDiff,Nat.reduceShiftRight,Nat.reduceMod])
      (repeat' first | exact trivial | (with_reducible first | exact RnB.fxB (ints_fxB _) | rfl | refine And.intro ?_ ?_) | (with_reducible (first | refine RnB.bb ?_ | refine RnB.nb ?_);simp only [vcW,vZ,Int.reduceEq,Int.reduceNe,Int.reduceLT,Int.reduceLE,Nat.reduceEqDiff,Nat.reduceAdd,reduceIte,reduceCtorEq,Nat.reduceLT,Nat.reduceLeDiff,Nat.reduceShiftRight,Nat.reduceMod]) | (with_reducible first | refine RnB.ii ?_ | refine RnB.app ?_) | (with_reducible refine RnB.fxB ?_;simp only [vcW,vZ,Int.reduceEq,Int.reduceNe,Int.reduceLT,Int.reduceLE,Nat.reduceEqDiff,Nat.reduceAdd,reduceIte,reduceCtorEq,Nat.reduceLT,Nat.reduceLeDiff,Nat.reduceShiftRight,Nat.reduceMod]) | omega)
      all_goals first | rfl | (simp;done) | skip
     ·simp only [Int.cast_ofNat_Int,Int.reduceToNat,Nat.zero_mul,Nat.reduceMul,Nat.zero_add,Nat.mul_one,List.getElem?_cons_zero,List.getElem?_cons_succ,true_and,vcC,Int.reduceEq,Int.reduceNe,Int.reduceLT,Int.reduceLE,Nat.reduceEqDiff,Nat.reduceAdd,reduceIte,reduceCtorEq,Nat.reduceLT,Nat.reduceLeDiff,eq_self,vcP,WY_skip,WY_reg,WY_regY,WY_seq,WY_cond,WY_block,WY_exit,WY_ret,WY_regT,VY_nil,VY_yld,VY_yldg,VY_ps,seqY_n,seqY_r,seqY_x,blockY_n,blockY_r,blockY_x,isCallvs,isCallv,isY,List.any_cons,List.any_nil,Bool.or_false,Bool.or_true,Bool.false_or,Bool.and_false,Bool.false_and]
      simp
    ·simp only [hin,if_false,decide_false,Int.cast_ofNat_Int,Int.reduceToNat,Nat.zero_mul,Nat.reduceMul,Nat.zero_add,Nat.mul_one,List.getElem?_cons_zero,List.getElem?_cons_succ,true_and,vcC,Int.reduceEq,Int.reduceNe,Int.reduceLT,Int.reduceLE,Nat.reduceEqDiff,Nat.reduceAdd,reduceIte,reduceCtorEq,Nat.reduceLT,Nat.reduceLeDiff,eq_self,vcP,WY_skip,WY_reg,WY_regY,WY_seq,WY_cond,WY_block,WY_exit,WY_ret,WY_regT,VY_nil,VY_yld,VY_yldg,VY_ps,seqY_n,seqY_r,seqY_x,blockY_n,blockY_r,blockY_x,isCallvs,isCallv,isY,List.any_cons,List.any_nil,Bool.or_false,Bool.or_true,Bool.false_or,Bool.and_false,Bool.false_and]
     refine ⟨of_eq_true (usedL_imm _ _ rfl),?_⟩
     have hn:=nbs_out (c:=c) (r:=r) (i:=3) hin
     refine ⟨by unfold I64;omega,⟨3+1,by omega⟩,by simp only;omega,?_,congrArg some hn.symm⟩
     refine weakX [] (of_decide_eq_true rfl) (of_decide_eq_true rfl) ?_
     (simp only [gA,ceA,sidesA,vcW,vZ,Int.reduceEq,Int.reduceNe,Int.reduceLT,Int.reduceLE,Nat.reduceEqDiff,Nat.reduceAdd,reduceIte,reduceCtorEq,Nat.reduceLT,Nat.reduceLeDiff,Nat.reduceShiftRight,Nat.reduceMod])
     (repeat' first | exact trivial | (with_reducible first | exact RnB.fxB (ints_fxB _) | rfl | refine And.intro ?_ ?_) | (with_reducible (first | refine RnB.bb ?_ | refine RnB.nb ?_);simp only [vcW,vZ,Int.reduceEq,Int.reduceNe,Int.reduceLT,Int.reduceLE,Nat.reduceEqDiff,Nat.reduceAdd,reduceIte,reduceCtorEq,Nat.reduceLT,Nat.reduceLeDiff,Nat.reduceShiftRight,Nat.reduceMod]) | (with_reducible first | refine RnB.ii ?_ | refine RnB.app ?_) | (with_reducible refine RnB.fxB ?_;simp only [vcW,vZ,Int.reduceEq,Int.reduceNe,Int.reduceLT,Int.reduceLE,Nat.reduceEqDiff,Nat.reduceAdd,reduceIte,reduceCtorEq,Nat.reduceLT,Nat.reduceLeDiff,Nat.reduceShiftRight,Nat.reduceMod]) | omega)
     all_goals first | rfl | (simp;done) | skip
  ·simp only [vcC,Int.reduceEq,Int.reduceNe,Int.reduceLT,Int.reduceLE,Nat.reduceEqDiff,Nat.reduceAdd,reduceIte,reduceCtorEq,Nat.reduceLT,Nat.reduceLeDiff,eq_self,vcP,WY_skip,WY_reg,WY_regY,WY_seq,WY_cond,WY_block,WY_exit,WY_ret,WY_regT,VY_nil,VY_yld,VY_yldg,VY_ps,seqY_n,seqY_r,seqY_x,blockY_n,blockY_r,blockY_x,isCallvs,isCallv,isY,List.any_cons,List.any_nil,Bool.or_false,Bool.or_true,Bool.false_or,Bool.and_false,Bool.false_and]
   have:i=4:=by (simp only [decide_eq_true_eq,decide_eq_false_iff_not,Bool.not_true,I64,Bool.not_eq_true',Bool.not_eq_false',bne_iff_ne,beq_iff_eq,ne_eq] at *;omega)
   subst this
   simp
end Go.Proofs.YtoiajhogondgcaaDoor

/- First times: the map of the grid of the examples;the least open cell. By an AI agent;nothing here is trusted. -/
namespace Go.Proofs.YtoiajhogondgcaaDoor
open Go.Av

abbrev Ent:=Int × Int × Int × Nat
def Ent.st (e:Ent):Nat:=e.2.2.2
def bestE:Ents→Option Ent
 | []=>none
 | e :: M=>match bestE M with
  | none=>some e
  | some b=>if e.2.2.1≤b.2.2.1 then some e else some b
def relax1 (A:Ents) (v:Int) (q:Ents × Nat) (n:Int × Int × Int):Ents × Nat :=
 if (findM A n.1 n.2.1).isSome then q
 else if (findM q.1 n.1 n.2.1).isSome=false∨v+n.2.2<(findM q.1 n.1 n.2.1).getD 0 then (setM q.1 q.2 n.1 n.2.1 (v+n.2.2),clkM q.1 q.2 n.1 n.2.1) else q
structure TM where
 A:Ents
 ca:Nat
 O:Ents
 co:Nat
def relaxN (A:Ents) (e:Ent) (q:Ents × Nat) (k:Nat):Ents × Nat:=((nbs e.1 e.2.1 4).take k).foldl (relax1 A e.2.2.1) q
def TM.go (s:TM) (e:Ent):TM :=
 let A:=setM s.A s.ca e.1 e.2.1 e.2.2.1
 let q:=relaxN A e (delM s.O e.1 e.2.1,s.co) 4
 ⟨A,clkM s.A s.ca e.1 e.2.1,q.1,q.2⟩
def TM.next (s:TM):TM:=match bestE s.O with
 | none=>s
 | some e=>s.go e
def tm:Nat→TM
 | 0=>⟨[],0,setM [] 0 0 0 0,clkM [] 0 0 0⟩
 | j+1=>(tm j).next
structure Good (O:Ents) (co:Nat) (e:Ent):Prop where
 mem:e ∈ O
 g:inG e.1 e.2.1
 least:∀ x ∈ O,e.2.2.1≤x.2.2.1∧(x.2.2.1≤e.2.2.1→x=e)
 bd:∀ x ∈ O,0≤x.2.2.1∧x.2.2.1≤100
 st:∀ x ∈ O,x.2.2.2<co
 nd:(O.map Ent.st).Nodup
def goodB (O:Ents) (co:Nat) (e:Ent):Bool :=
 decide (e ∈ O) && decide (inG e.1 e.2.1) && O.all (fun x=>decide (e.2.2.1≤x.2.2.1) && (decide (e.2.2.1<x.2.2.1) || decide (x=e))) && O.all (fun x=>decide (0≤x.2.2.1) && decide (x.2.2.1≤100)) && O.all (fun x=>decide (x.2.2.2<co)) && decide ((O.map Ent.st).Nodup)
theorem good_of {O:Ents} {co:Nat} {e:Ent} (h:goodB O co e=true):Good O co e:=by
 simp only [goodB,Bool.and_eq_true,decide_eq_true_eq,List.all_eq_true,Bool.or_eq_true] at h
 obtain ⟨⟨⟨⟨⟨h1,h2⟩,h3⟩,h4⟩,h5⟩,h6⟩:=h
 refine ⟨h1,h2,fun x hx=>⟨(h3 x hx).1,fun hle=>?_⟩,h4,h5,h6⟩
 rcases (h3 x hx).2 with g | g
 ·omega
 ·exact g
def tmB (j:Nat):Bool:=match bestE (tm j).O with
 | some e=>goodB (tm j).O (tm j).co e
 | none=>false
theorem tm_run:((List.range 6).all tmB)=true:=by kernel_rfl
theorem tm_good {j:Nat} (h:j<6):∃ e,bestE (tm j).O=some e∧Good (tm j).O (tm j).co e:=by
 have:=List.all_eq_true.1 tm_run j (List.mem_range.2 h)
 unfold tmB at this
 split at this
 ·rename_i e he
  exact ⟨e,he,good_of this⟩
 ·cases this
theorem tm_next {j:Nat} {e:Ent} (h:bestE (tm j).O=some e):tm (j+1)=(tm j).go e:=by
 show (tm j).next=_
 unfold TM.next
 rw [h]
theorem tm_end:(tm 6).O=[]∧(tm 6).A=[(0,0,0,0),(1,0,4,1),(0,1,7,2),(2,0,8,3),(1,1,11,4),(2,1,12,5)]:=⟨by kernel_rfl,by kernel_rfl⟩
theorem find_st {M:Ents} {e:Ent} (hn:(M.map Ent.st).Nodup) (he:e ∈ M):M.find? (fun x=>x.2.2.2 == e.2.2.2)=some e:=by
 induction M with
 | nil=>cases he
 | cons x M ih =>
  rw [List.map_cons,List.nodup_cons] at hn
  rcases List.mem_cons.1 he with rfl | he
  ·simp
  ·have:x.2.2.2 ≠ e.2.2.2:=fun h=>hn.1 (List.mem_map.2 ⟨e,he,h.symm⟩)
   rw [List.find?_cons_of_neg (by simpa using this)]
   exact ih hn.2 he
end Go.Proofs.YtoiajhogondgcaaDoor

