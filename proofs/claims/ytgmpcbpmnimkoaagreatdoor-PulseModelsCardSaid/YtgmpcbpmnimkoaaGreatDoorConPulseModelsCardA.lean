/- The tables of the library, as the rows say that they lie: what the layer wants of them. By an AI agent; nothing here is trusted. -/
import Derived.Test.YtgmpcbpmnimkoaaGreatDoorRows
import Derived.Test.YtgmpcbpmnimkoaaGreatDoorLayC
import Derived.Test.YtgmpcbpmnimkoaaGreatDoorProg
import Derived.Test.YtgmpcbpmnimkoaaGreatDoorLayD
import Derived.Test.YtgmpcbpmnimkoaaGreatDoorChecked
import Derived.Test.YtgmpcbpmnimkoaaGreatDoorKode
import Derived.Test.YtgmpcbpmnimkoaaGreatDoorLayA
import Derived.ProofKit
import Derived.LaidMore
import Derived.OpenShut
import Derived.Stop.Joined
import Derived.Shelf.LaysM
import Derived.Shelf.LaysC
import Derived.Shelf.Strconv.Itoa3
import Derived.Lib.LaidTab
import Derived.Shelf.Strconv.Itoa2
import Derived.Lib.Walk
import Derived.Lib.ItoaMem
import Derived.WalkKit
import Derived.BigCall
import Derived.BigGuard
import Derived.Shelf.Spec.BitsCarry
import Derived.Lib.Mul64
set_option linter.defProp false
set_option linter.unusedSimpArgs false
set_option linter.unusedVariables false
namespace Go.Proofs.YtgmpcbpmnimkoaaGreatDoor
open Go.ChangeShapes Go.WideShapes Go.ChangeAt Go.RowKit
open Go.Av

def laidP:List (String × DataW Unit):=[("math/bits.deBruijn32tab",Rows.laid_math_bits_deBruijn32tab),("math/bits.deBruijn64tab",Rows.laid_math_bits_deBruijn64tab),("internal/strconv.uint64pow10",Rows.laid_internal_strconv_uint64pow10)]

theorem ownKn:ownKnob Tryz.prog.godebug=none:=by kernel_rfl
set_option maxRecDepth 100000 in
theorem door_met (os:Os) (args:Array Value):laidMetH Tryz.prog laidP ((World.doorLaid Tryz.prog 2000 os).forCall (fun _ _=>0) ⟨#[],args,[]⟩).memory :=
 laidMetH_of_parts3 (fuel:=8) (laidMet_of_run' 8 (by kernel_rfl) (by kernel_rfl)) (by kernel_rfl) (by kernel_rfl)

theorem tab_cells {W:World} {g:Nat} {name:String} {t e:TypeId} {n f:Nat} {k:IntKind} {cs:Array Value} {ns:List Int} {p:List MemPlace} {H:Type} {enc:TypeId × Value→H} {sp:Nat→Bool} {held:Bool} (hg:Tryz.prog.globalNamed name=some g)
  (hv:W.var? Tryz.prog name=some cs) (ht:Tryz.prog.underlying t=some (.array n e)) (he:Tryz.prog.underlying e=some (.int k)) (hc:Tryz.prog.cellsOf e=1) (hct:Tryz.prog.cellsOf t=n) (hn:ns.length=n) (hpos:0<n)
  (hd:DataW.trod enc Tryz.prog W 0 sp held f t cs.toList=some (.agg (ns.map fun m=>.lit (.int k m)),p)) :
  g<W.heap.size∧∃ cur ty fr,W.heap[g]?=some (.cells cur ty fr)∧cur.size=ns.length∧∀ (j:Nat) (m:Int),ns[j]?=some m→cur[j]?=some (.int k m):=by
 obtain ⟨xs,m1,rfl,hx1,hcl,hlen,hel⟩:=DataW.trod_array ht hd
 simp only [Prod.mk.injEq,DataW.agg.injEq] at hx1
 have key:∀ (j:Nat) (m:Int),ns[j]?=some m→cs[j]?=some (.int k m):=by
  intro j m hj
  have hjn:j<n:=by rw [← hn];exact (List.getElem?_eq_some_iff.1 hj).1
  have h1:=hel j hjn
  rw [hc,Nat.mul_one] at h1
  obtain ⟨x,hx⟩:∃ x,xs[j]?=some x:=⟨xs[j]'(by omega),List.getElem?_eq_getElem (by omega)⟩
  rw [hx] at h1
  obtain ⟨q,e1,e2,_⟩:=DataW.trod_int he h1
  have h2:(xs.map (·.1))[j]?=some (.lit (.int k q)):=by rw [List.getElem?_map,hx,e2];rfl
  rw [← hx1.1,List.getElem?_map,hj] at h2
  simp only [Option.map_some,Option.some.injEq,DataW.lit.injEq,Lit.int.injEq,true_and] at h2
  subst h2
  have h3:((cs.toList.drop j).take 1)[0]?=some (.int k m):=by rw [e1];rfl
  rw [List.getElem?_take,if_pos (by omega),List.getElem?_drop] at h3
  simpa using h3
 have h0:∃ m,ns[0]?=some m:=⟨ns[0]'(by omega),List.getElem?_eq_getElem (by omega)⟩
 obtain ⟨m0,hm0⟩:=h0
 have hcell:=World.var?_cell hg hv
 have hb:∃ cur ty fr,W.heap[g]?=some (.cells cur ty fr):=by
  have:=(hcell 0).trans (key 0 m0 hm0)
  unfold World.cell? at this
  split at this
  ·rename_i cur ty fr hb;exact ⟨cur,ty,fr,hb⟩
  ·cases this
 obtain ⟨cur,ty,fr,hb⟩:=hb
 refine ⟨(Array.getElem?_eq_some_iff.1 hb).1,cur,ty,fr,hb,?_,fun j m hj=>?_⟩
 ·have h1:cs.size=n:=by rw [← Array.length_toList,hcl,hct]
  have hce:∀ i,cur[i]?=cs[i]?:=fun i=>by
   have:=hcell i
   unfold World.cell? at this
   rw [hb] at this
   simpa using this
  have h2:cs.size=cur.size:=by
   have e1:=hce cs.size
   have e2:=hce cur.size
   rw [Array.getElem?_eq_none (Nat.le_refl _)] at e2
   rw [Array.getElem?_eq_none (xs:=cs) (Nat.le_refl _),Array.getElem?_eq_none_iff] at e1
   have:=Array.getElem?_eq_none_iff.1 e2.symm
   omega
  omega
 have:=(hcell j).trans (key j m hj)
 unfold World.cell? at this
 rw [hb] at this
 simpa using this

theorem g32:Tryz.prog.globalNamed "math/bits.deBruijn32tab"=some 0:=by kernel_rfl
theorem g64:Tryz.prog.globalNamed "math/bits.deBruijn64tab"=some 1:=by kernel_rfl
theorem g10:Tryz.prog.globalNamed "internal/strconv.uint64pow10"=some 4:=by kernel_rfl

theorem of_laid {W:World} (h:laidMetH Tryz.prog laidP W):GOk (fun b=>b<W.heap.size) W:=by
 rw [MakeChecks.laidMetH_plain _ _ _ (by kernel_rfl)] at h
 obtain ⟨ps,⟨n0,t0,cs0,f0,p0,q0,hn0,ht0,hv0,hd0,⟨n1,t1,cs1,f1,p1,q1,hn1,ht1,hv1,hd1,⟨n2,t2,cs2,f2,p2,q2,hn2,ht2,hv2,hd2,_⟩,_⟩,_⟩,_⟩:=h
 obtain rfl:=Option.some.inj (g32.symm.trans hn0)
 obtain rfl:=Option.some.inj (g64.symm.trans hn1)
 obtain rfl:=Option.some.inj (g10.symm.trans hn2)
 obtain rfl:=Option.some.inj ((show (Tryz.prog.globals[0]?).map (·.type)=some 275 by kernel_rfl).symm.trans ht0)
 obtain rfl:=Option.some.inj ((show (Tryz.prog.globals[1]?).map (·.type)=some 276 by kernel_rfl).symm.trans ht1)
 obtain rfl:=Option.some.inj ((show (Tryz.prog.globals[4]?).map (·.type)=some 307 by kernel_rfl).symm.trans ht2)
 have c0:=tab_cells (ns:=[0,1,28,2,29,14,24,3,30,22,20,15,25,17,4,8,31,27,13,23,21,19,16,7,26,12,18,6,11,5,10,9]) hn0 hv0 Tryz.underlying275 Tryz.underlying5 (by kernel_rfl) (by kernel_rfl) rfl (by decide) hd0
 have c1:=tab_cells (ns:=[0,1,56,2,57,49,28,3,61,58,42,50,38,29,17,4,62,47,59,36,45,43,51,22,53,39,33,30,24,18,12,5,63,55,48,27,60,41,37,16,46,35,44,21,52,32,23,11,54,26,40,15,34,20,31,10,25,14,19,9,13,8,7,6]) hn1 hv1 Tryz.underlying276 Tryz.underlying5 (by kernel_rfl) (by kernel_rfl) rfl (by decide) hd1
 have c2:=tab_cells (ns:=[1,10,100,1000,10000,100000,1000000,10000000,100000000,1000000000,10000000000,100000000000,1000000000000,10000000000000,100000000000000,1000000000000000,10000000000000000,100000000000000000,1000000000000000000,10000000000000000000]) hn2 hv2 Tryz.underlying307 Tryz.underlying155 (by kernel_rfl) (by kernel_rfl) rfl (by decide) hd2
 refine ⟨fun p hp=>?_,fun g hg=>by simp [gErr] at hg⟩
 simp only [gTab,List.nil_append,List.mem_append,List.mem_singleton] at hp
 rcases hp with (rfl | rfl) | rfl
 ·exact c1
 ·exact c0
 ·exact c2
end Go.Proofs.YtgmpcbpmnimkoaaGreatDoor

/- The library's functions as the shelf knows them: this program has them. Printed by a program. By an AI agent;nothing here is trusted. -/
namespace Go.Proofs.YtgmpcbpmnimkoaaGreatDoor
end Go.Proofs.YtgmpcbpmnimkoaaGreatDoor

/- Contracts off the library's shelf: lengths in bits,numerals. By an AI agent;nothing here is trusted. -/
namespace Go.Proofs.YtgmpcbpmnimkoaaGreatDoor
open Go.Av
open Go.RowKit (Below)

end Go.Proofs.YtgmpcbpmnimkoaaGreatDoor

/- The contract of strconv.FormatUint at base 10. By an AI agent;nothing here is trusted. -/
namespace Go.Proofs.YtgmpcbpmnimkoaaGreatDoor
open Go.Shelf Go.RowKit Go.Sort Go.Lib

end Go.Proofs.YtgmpcbpmnimkoaaGreatDoor

/- The marked code of law functions;printed by a program. By an AI agent;nothing here is trusted. -/
namespace Go.Proofs.YtgmpcbpmnimkoaaGreatDoor
open Go.Av
end Go.Proofs.YtgmpcbpmnimkoaaGreatDoor

/- Contracts of small functions. By an AI agent;nothing here is trusted. -/
namespace Go.Proofs.YtgmpcbpmnimkoaaGreatDoor
open Go.Av

abbrev i64 (n:Int):AV:=.int .i64 n
theorem within_s (n lo hi:Int):Sound Tryz.prog 116 [.int .i64 n,.int .i64 lo,.int .i64 hi] (.bool (decide (lo≤n∧n≤hi))):=by
 refine sound_W f_pulse_within (Nat.le_of_ble_eq_true rfl) ?_
 simp only [c_pulse_within,vcC,Int.reduceEq,Int.reduceNe,Int.reduceLT,Int.reduceLE,Nat.reduceEqDiff,Nat.reduceAdd,reduceIte,reduceCtorEq,Nat.reduceLT,Nat.reduceLeDiff,eq_self,vcP]
 refine brB_split (fun h=>?_) (fun h=>?_) <;> simp only [h,vcC,Int.reduceEq,Int.reduceNe,Int.reduceLT,Int.reduceLE,Nat.reduceEqDiff,Nat.reduceAdd,reduceIte,reduceCtorEq,Nat.reduceLT,Nat.reduceLeDiff,eq_self,vcP]
 ·exact bool_eq (by simp at h;simp [h])
 ·simp at h;simp;omega

theorem unless_s (ok:Bool) (e:Int):Sound Tryz.prog 119 [.bool ok,.int .i64 e] (.int .i64 (if ok then 0 else e)):=by
 refine sound_W f_pulse_unless (Nat.le_of_ble_eq_true rfl) ?_
 simp only [c_pulse_unless,vcC,Int.reduceEq,Int.reduceNe,Int.reduceLT,Int.reduceLE,Nat.reduceEqDiff,Nat.reduceAdd,reduceIte,reduceCtorEq,Nat.reduceLT,Nat.reduceLeDiff,eq_self,vcP]
 refine brB_split (fun h=>?_) (fun h=>?_) <;> subst h <;> simp only [vcC,Int.reduceEq,Int.reduceNe,Int.reduceLT,Int.reduceLE,Nat.reduceEqDiff,Nat.reduceAdd,reduceIte,reduceCtorEq,Nat.reduceLT,Nat.reduceLeDiff,eq_self,vcP]

def firstErr (l:List Int):Int:=(l.find? (· ≠ 0)).getD 0

theorem first_s (l:List Int) (hl:l.length<4000000000000000000):Sound Tryz.prog 117 [.sl (ints l)] (.int .i64 (firstErr l)):=by
 refine sound_W f_pulse_first (Nat.le_of_ble_eq_true rfl) ?_
 simp only [c_pulse_first,vcC,Int.reduceEq,Int.reduceNe,Int.reduceLT,Int.reduceLE,Nat.reduceEqDiff,Nat.reduceAdd,reduceIte,reduceCtorEq,Nat.reduceLT,Nat.reduceLeDiff,eq_self,vcP]
 refine W_loop (α:=PSigma fun i:Nat=>i≤l.length∧∀ x ∈ l.take i,x=0) (fun i=>(envOf [(5,.sl (ints l)),(6,.int .i64 l.length),(7,.int .i64 i.1)],noStore)) (fun i=>l.length - i.1) ⟨0,by simp⟩ (weakE _ ?_) (fun ⟨i,hi,hn⟩=>?_)
 ·simp only [vcC,Int.reduceEq,Int.reduceNe,Int.reduceLT,Int.reduceLE,Nat.reduceEqDiff,Nat.reduceAdd,reduceIte,reduceCtorEq,Nat.reduceLT,Nat.reduceLeDiff,eq_self,vcP];rfl
 ·simp only [vcC,Int.reduceEq,Int.reduceNe,Int.reduceLT,Int.reduceLE,Nat.reduceEqDiff,Nat.reduceAdd,reduceIte,reduceCtorEq,Nat.reduceLT,Nat.reduceLeDiff,eq_self,vcP]
  refine brB_split (fun h=>?_) (fun h=>?_)
  ·have h':i<l.length:=by (simp only [decide_eq_true_eq,decide_eq_false_iff_not,Bool.not_true,I64,Bool.not_eq_true',Bool.not_eq_false',bne_iff_ne,beq_iff_eq,ne_eq] at *;omega)
   simp only [ints_get l i h',vcC,Int.reduceEq,Int.reduceNe,Int.reduceLT,Int.reduceLE,Nat.reduceEqDiff,Nat.reduceAdd,reduceIte,reduceCtorEq,Nat.reduceLT,Nat.reduceLeDiff,eq_self,vcP]
   refine ⟨by omega,?_⟩
   refine brB_split (fun h=>?_) (fun h=>?_)
   ·simp only [vcC,Int.reduceEq,Int.reduceNe,Int.reduceLT,Int.reduceLE,Nat.reduceEqDiff,Nat.reduceAdd,reduceIte,reduceCtorEq,Nat.reduceLT,Nat.reduceLeDiff,eq_self,vcP]
    have h0:l[i] ≠ 0:=by simpa using h
    have hs:l.find? (· ≠ 0)=some l[i]:=by
     rw [List.find?_eq_some_iff_getElem]
     exact ⟨by simpa using h0,i,h',rfl,fun j hj=>by simp [hn l[j] (by rw [List.mem_take_iff_getElem];exact ⟨j,by omega,rfl⟩)]⟩
    unfold firstErr
    rw [hs];rfl
   ·simp only [vcC,Int.reduceEq,Int.reduceNe,Int.reduceLT,Int.reduceLE,Nat.reduceEqDiff,Nat.reduceAdd,reduceIte,reduceCtorEq,Nat.reduceLT,Nat.reduceLeDiff,eq_self,vcP]
    refine ⟨by (simp only [decide_eq_true_eq,decide_eq_false_iff_not,Bool.not_true,I64,Bool.not_eq_true',Bool.not_eq_false',bne_iff_ne,beq_iff_eq,ne_eq] at *;omega),⟨i+1,by omega,?_⟩,by simp only;omega,weakE _ ?_⟩
    ·rw [List.take_succ_eq_append_getElem h']
     intro x hx
     rcases List.mem_append.1 hx with hx | hx
     ·exact hn x hx
     ·simp at hx h;rw [hx,h]
    ·simp only [vcC,Int.reduceEq,Int.reduceNe,Int.reduceLT,Int.reduceLE,Nat.reduceEqDiff,Nat.reduceAdd,reduceIte,reduceCtorEq,Nat.reduceLT,Nat.reduceLeDiff,eq_self,vcP];simp
  ·simp only [vcC,Int.reduceEq,Int.reduceNe,Int.reduceLT,Int.reduceLE,Nat.reduceEqDiff,Nat.reduceAdd,reduceIte,reduceCtorEq,Nat.reduceLT,Nat.reduceLeDiff,eq_self,vcP]
   have:i=l.length:=by (simp only [decide_eq_true_eq,decide_eq_false_iff_not,Bool.not_true,I64,Bool.not_eq_true',Bool.not_eq_false',bne_iff_ne,beq_iff_eq,ne_eq] at *;omega)
   subst this
   unfold firstErr
   rw [List.take_length] at hn
   rw [List.find?_eq_none.2 (fun x hx=>by simp [hn x hx])]
   rfl

def idxOf {α:Type} (l:List α) (p:α→Bool):Int:=match l.findIdx? p with
 | some i=>i
 | none => -1

theorem map_fx1 {caps:List AV} (h:∀ c ∈ caps,fx1 c=true) (s:Store) (n:Nat):caps.map (bor s n)=caps:=by
 conv=>rhs;rw [← List.map_id caps]
 exact List.map_congr_left fun c hc=>(fx1_spec (h c hc)).2 s n

theorem idxFunc_int_s (l:List Int) (f:FuncId) (caps:List AV) (p:Int→Bool) (hl:l.length<4000000000000000000) (hc:∀ c ∈ caps,fx1 c=true)
  (hp:∀ x ∈ l,Sound Tryz.prog f (.int .i64 x :: caps) (.bool (p x))):Sound Tryz.prog 197 [.sl (ints l),.fn f caps] (.int .i64 (idxOf l p)):=by
 refine sound_W f_slices_IndexFunc_int_int (Nat.le_of_ble_eq_true rfl) ?_
 simp only [c_slices_IndexFunc_int_int,vcC,Int.reduceEq,Int.reduceNe,Int.reduceLT,Int.reduceLE,Nat.reduceEqDiff,Nat.reduceAdd,reduceIte,reduceCtorEq,Nat.reduceLT,Nat.reduceLeDiff,eq_self,vcP]
 refine W_loop (α:=PSigma fun i:Nat=>i≤l.length∧∀ x ∈ l.take i,p x=false) (fun i=>(envOf [(0,.sl (ints l)),(1,.fn f caps),(6,.sl (ints l)),(7,.int .i64 l.length),(8,.int .i64 i.1)],noStore)) (fun i=>l.length - i.1) ⟨0,by simp⟩ (weakE _ ?_) (fun ⟨i,hi,hn⟩=>?_)
 ·simp only [vcC,Int.reduceEq,Int.reduceNe,Int.reduceLT,Int.reduceLE,Nat.reduceEqDiff,Nat.reduceAdd,reduceIte,reduceCtorEq,Nat.reduceLT,Nat.reduceLeDiff,eq_self,vcP];rfl
 ·simp only [vcC,Int.reduceEq,Int.reduceNe,Int.reduceLT,Int.reduceLE,Nat.reduceEqDiff,Nat.reduceAdd,reduceIte,reduceCtorEq,Nat.reduceLT,Nat.reduceLeDiff,eq_self,vcP]
  refine brB_split (fun h=>?_) (fun h=>?_)
  ·have h':i<l.length:=by (simp only [decide_eq_true_eq,decide_eq_false_iff_not,Bool.not_true,I64,Bool.not_eq_true',Bool.not_eq_false',bne_iff_ne,beq_iff_eq,ne_eq] at *;omega)
   simp only [ints_get l i h',vcC,Int.reduceEq,Int.reduceNe,Int.reduceLT,Int.reduceLE,Nat.reduceEqDiff,Nat.reduceAdd,reduceIte,reduceCtorEq,Nat.reduceLT,Nat.reduceLeDiff,eq_self,vcP]
   refine ⟨by omega,?_⟩
   simp only [List.map_append,List.cons_append,List.nil_append,map_fx1 hc,vcC,Int.reduceEq,Int.reduceNe,Int.reduceLT,Int.reduceLE,Nat.reduceEqDiff,Nat.reduceAdd,reduceIte,reduceCtorEq,Nat.reduceLT,Nat.reduceLeDiff,eq_self,vcP]
   refine callS_of (hp _ (List.getElem_mem h')) ?_
   simp only [vcC,Int.reduceEq,Int.reduceNe,Int.reduceLT,Int.reduceLE,Nat.reduceEqDiff,Nat.reduceAdd,reduceIte,reduceCtorEq,Nat.reduceLT,Nat.reduceLeDiff,eq_self,vcP]
   refine brB_split (fun h=>?_) (fun h=>?_)
   ·simp only [vcC,Int.reduceEq,Int.reduceNe,Int.reduceLT,Int.reduceLE,Nat.reduceEqDiff,Nat.reduceAdd,reduceIte,reduceCtorEq,Nat.reduceLT,Nat.reduceLeDiff,eq_self,vcP]
    have hs:l.findIdx? p=some i:=by
     rw [List.findIdx?_eq_some_iff_getElem]
     refine ⟨h',h,fun j hj=>?_⟩
     have:=hn l[j] (by rw [List.mem_take_iff_getElem];exact ⟨j,by omega,rfl⟩)
     simp [this]
    simp [idxOf,hs]
   ·simp only [vcC,Int.reduceEq,Int.reduceNe,Int.reduceLT,Int.reduceLE,Nat.reduceEqDiff,Nat.reduceAdd,reduceIte,reduceCtorEq,Nat.reduceLT,Nat.reduceLeDiff,eq_self,vcP]
    refine ⟨by (simp only [decide_eq_true_eq,decide_eq_false_iff_not,Bool.not_true,I64,Bool.not_eq_true',Bool.not_eq_false',bne_iff_ne,beq_iff_eq,ne_eq] at *;omega),⟨i+1,by omega,?_⟩,by simp only;omega,weakE _ ?_⟩
    ·rw [List.take_succ_eq_append_getElem h']
     intro x hx
     rcases List.mem_append.1 hx with hx | hx
     ·exact hn x hx
     ·simp at hx;rw [hx];exact h
    ·simp only [vcC,Int.reduceEq,Int.reduceNe,Int.reduceLT,Int.reduceLE,Nat.reduceEqDiff,Nat.reduceAdd,reduceIte,reduceCtorEq,Nat.reduceLT,Nat.reduceLeDiff,eq_self,vcP];simp
  ·simp only [vcC,Int.reduceEq,Int.reduceNe,Int.reduceLT,Int.reduceLE,Nat.reduceEqDiff,Nat.reduceAdd,reduceIte,reduceCtorEq,Nat.reduceLT,Nat.reduceLeDiff,eq_self,vcP]
   have:i=l.length:=by (simp only [decide_eq_true_eq,decide_eq_false_iff_not,Bool.not_true,I64,Bool.not_eq_true',Bool.not_eq_false',bne_iff_ne,beq_iff_eq,ne_eq] at *;omega)
   subst this
   rw [List.take_length] at hn
   have hs:l.findIdx? p=none:=List.findIdx?_eq_none_iff.2 hn
   simp [idxOf,hs]

theorem idxOf_any {α:Type} (l:List α) (p:α→Bool):(decide (0≤idxOf l p))=l.any p:=by
 unfold idxOf
 cases h:l.findIdx? p with
 | none =>
  rw [List.findIdx?_eq_none_iff] at h
  have:l.any p=false:=by simpa using h
  rw [this];rfl
 | some i =>
  rw [List.findIdx?_eq_some_iff_getElem] at h
  obtain ⟨hi,hp,_⟩:=h
  have:l.any p=true:=List.any_eq_true.2 ⟨_,List.getElem_mem hi,hp⟩
  rw [this];simp

theorem contFunc_int_s (l:List Int) (f:FuncId) (caps:List AV) (p:Int→Bool) (hl:l.length<4000000000000000000) (hc:∀ c ∈ caps,fx1 c=true)
  (hp:∀ x ∈ l,Sound Tryz.prog f (.int .i64 x :: caps) (.bool (p x))):Sound Tryz.prog 114 [.sl (ints l),.fn f caps] (.bool (l.any p)):=by
 refine sound_W f_slices_ContainsFunc_int_int (Nat.le_of_ble_eq_true rfl) ?_
 simp only [c_slices_ContainsFunc_int_int,map_fx1 hc,vcC,Int.reduceEq,Int.reduceNe,Int.reduceLT,Int.reduceLE,Nat.reduceEqDiff,Nat.reduceAdd,reduceIte,reduceCtorEq,Nat.reduceLT,Nat.reduceLeDiff,eq_self,vcP]
 refine callS_of (idxFunc_int_s l f caps p hl hc hp) ?_
 simp only [vcC,Int.reduceEq,Int.reduceNe,Int.reduceLT,Int.reduceLE,Nat.reduceEqDiff,Nat.reduceAdd,reduceIte,reduceCtorEq,Nat.reduceLT,Nat.reduceLeDiff,eq_self,vcP]
 rw [idxOf_any]

theorem first2_s (a b:Int):Sound Tryz.prog 117 [.sl [.int .i64 a,.int .i64 b]] (.int .i64 (if a ≠ 0 then a else b)):=by
 have h:=first_s [a,b] (by simp)
 have e:firstErr [a,b]=if a ≠ 0 then a else b:=by
  unfold firstErr
  by_cases ha:a=0 <;> by_cases hb:b=0 <;> simp [ha,hb]
 rw [e] at h
 exact h
theorem first3_s (a b c:Int):Sound Tryz.prog 117 [.sl [.int .i64 a,.int .i64 b,.int .i64 c]] (.int .i64 (if a ≠ 0 then a else if b ≠ 0 then b else c)):=by
 have h:=first_s [a,b,c] (by simp)
 have e:firstErr [a,b,c]=if a ≠ 0 then a else if b ≠ 0 then b else c:=by
  unfold firstErr
  by_cases ha:a=0 <;> by_cases hb:b=0 <;> by_cases hc:c=0 <;> simp [ha,hb,hc]
 rw [e] at h
 exact h
end Go.Proofs.YtgmpcbpmnimkoaaGreatDoor

/- Samples and droops,in plain Lean. By an AI agent;nothing here is trusted. -/
namespace Go.Proofs.YtgmpcbpmnimkoaaGreatDoor
open Go.Av

def smp (n:Int):Bool:=decide (-10000≤n∧n≤10000)
def smE (l:List Int):Int:=if l.length=0 then 10 else if 24<l.length then 8 else if l.all smp then 0 else 2
def smI (l:List Int):Int:=if smE l=2 then idxOf l (fun n=>!smp n) else 0
theorem smE_ok {l:List Int} (h:smE l=0):1≤l.length∧l.length≤24∧∀ x ∈ l, -10000≤x∧x≤10000:=by
 unfold smE at h
 split at h
 ·cases h
 ·split at h
  ·cases h
  ·split at h
   ·rename_i h1 h2 h3
    exact ⟨by omega,by omega,fun x hx=>by have:=List.all_eq_true.1 h3 x hx;simpa [smp] using this⟩
   ·cases h
structure Droop where
 leak:Int
 div:Int
def Droop.av (d:Droop):AV:=.agg [.int .i64 d.leak,.int .i64 d.div]
def Droop.ok (d:Droop):Prop:=(0≤d.leak∧d.leak≤1000)∧(1≤d.div∧d.div≤10000)
instance (d:Droop):Decidable d.ok:=by unfold Droop.ok;exact inferInstance
def Droop.e (d:Droop):Int:=if d.ok then 0 else 2

end Go.Proofs.YtgmpcbpmnimkoaaGreatDoor

/- Dead times and afterpulses,in plain Lean. By an AI agent;nothing here is trusted. -/
namespace Go.Proofs.YtgmpcbpmnimkoaaGreatDoor
open Go.Av

def kp (dead:Int) (l:List Int):Nat→List Int
 | 0=>[]
 | i+1=>if kp dead l i=[]∨dead<l.getD i 0 - (kp dead l i).getLastD 0 then kp dead l i ++ [l.getD i 0] else kp dead l i
def kept (dead:Int) (l:List Int):List Int:=kp dead l l.length
theorem getD_at {l:List Int} {i:Nat} (h:i<l.length):l.getD i 0=l[i]:=by simp [List.getD,List.getElem?_eq_getElem h]
end Go.Proofs.YtgmpcbpmnimkoaaGreatDoor

/- Hits: runs of samples from a threshold on,in plain Lean. By an AI agent;nothing here is trusted. -/
namespace Go.Proofs.YtgmpcbpmnimkoaaGreatDoor
open Go.Av

end Go.Proofs.YtgmpcbpmnimkoaaGreatDoor

/- Contracts of the small functions of the base. By an AI agent;nothing here is trusted. -/
namespace Go.Proofs.YtgmpcbpmnimkoaaGreatDoor
open Go.Av

theorem Within_s (n lo hi:Int):Sound Tryz.prog 13 [.int .i64 n,.int .i64 lo,.int .i64 hi] (.bool (decide (lo≤n∧n≤hi))):=by
 refine sound_W f_base_Within (Nat.le_of_ble_eq_true rfl) ?_
 simp only [c_base_Within,vcC,Int.reduceEq,Int.reduceNe,Int.reduceLT,Int.reduceLE,Nat.reduceEqDiff,Nat.reduceAdd,reduceIte,reduceCtorEq,Nat.reduceLT,Nat.reduceLeDiff,eq_self,vcP]
 refine brB_split (fun h=>?_) (fun h=>?_) <;> simp only [h,vcC,Int.reduceEq,Int.reduceNe,Int.reduceLT,Int.reduceLE,Nat.reduceEqDiff,Nat.reduceAdd,reduceIte,reduceCtorEq,Nat.reduceLT,Nat.reduceLeDiff,eq_self,vcP]
 ·exact bool_eq (by simp at h;simp [h])
 ·simp at h;simp;omega

end Go.Proofs.YtgmpcbpmnimkoaaGreatDoor

/- Contracts of the base: copies,comparisons,fractions. By an AI agent;nothing here is trusted. -/
namespace Go.Proofs.YtgmpcbpmnimkoaaGreatDoor
open Go.Av

theorem newsOk_ints (l:List Int):newsOk 1 (ints l):=by
 intro x hx
 obtain ⟨n,_,rfl⟩:=List.mem_map.1 hx
 exact ⟨rfl,rfl⟩
theorem maxLen_big:4000000000000≤maxLen:=by decide

theorem CopyInts_s (l:List Int) (hl:l.length≤1000000000):Sound Tryz.prog 16 [.sl (ints l)] (.sl (ints l)):=by
 refine sound_W f_base_CopyInts (Nat.le_of_ble_eq_true rfl) ?_
 have hm:=maxLen_big
 simp only [c_base_CopyInts,vZ,Int.reduceEq,Int.reduceNe,Int.reduceLT,Int.reduceLE,Nat.reduceEqDiff,Nat.reduceAdd,reduceIte,reduceCtorEq,Nat.reduceLT,Nat.reduceLeDiff,Nat.reduceShiftRight,Nat.reduceMod]
 refine ⟨newsOk_ints l,⟨by omega,by omega⟩,?_⟩
 rw [borB_good _ _ _ _ _ (by simp [ints]) (ints_fx _)]

theorem Ints_s (a b:List Int) (ha:a.length≤1000000000):Sound Tryz.prog 34 [.sl (ints a),.sl (ints b)] (.bool (decide (a=b))):=by
 refine sound_W f_base_Ints (Nat.le_of_ble_eq_true rfl) ?_
 simp only [c_base_Ints,vZ,Int.reduceEq,Int.reduceNe,Int.reduceLT,Int.reduceLE,Nat.reduceEqDiff,Nat.reduceAdd,reduceIte,reduceCtorEq,Nat.reduceLT,Nat.reduceLeDiff,Nat.reduceShiftRight,Nat.reduceMod]
 refine brB_split (fun h=>?_) (fun h=>?_)
 ·simp only [vZ,Int.reduceEq,Int.reduceNe,Int.reduceLT,Int.reduceLE,Nat.reduceEqDiff,Nat.reduceAdd,reduceIte,reduceCtorEq,Nat.reduceLT,Nat.reduceLeDiff,Nat.reduceShiftRight,Nat.reduceMod]
  have:a ≠ b:=fun hab=>by subst hab;simp at h
  simp [this]
 ·have hlen:a.length=b.length:=by (simp only [decide_eq_true_eq,decide_eq_false_iff_not,Bool.not_true,I64,Bool.not_eq_true',Bool.not_eq_false',bne_iff_ne,beq_iff_eq,ne_eq] at *;omega)
  simp only [vZ,Int.reduceEq,Int.reduceNe,Int.reduceLT,Int.reduceLE,Nat.reduceEqDiff,Nat.reduceAdd,reduceIte,reduceCtorEq,Nat.reduceLT,Nat.reduceLeDiff,Nat.reduceShiftRight,Nat.reduceMod]
  refine W_loop (α:=PSigma fun i:Nat=>i≤a.length∧a.take i=b.take i) (fun i=>(envOf [(0,.sl (ints a)),(1,.sl (ints b)),(5,.int .i64 i.1)],noStore)) (fun i=>a.length - i.1) ⟨0,by simp⟩ (weakE _ ?_) (fun ⟨i,hi,hn⟩=>?_)
  ·simp only [vZ,Int.reduceEq,Int.reduceNe,Int.reduceLT,Int.reduceLE,Nat.reduceEqDiff,Nat.reduceAdd,reduceIte,reduceCtorEq,Nat.reduceLT,Nat.reduceLeDiff,Nat.reduceShiftRight,Nat.reduceMod];rfl
  ·simp only [vZ,Int.reduceEq,Int.reduceNe,Int.reduceLT,Int.reduceLE,Nat.reduceEqDiff,Nat.reduceAdd,reduceIte,reduceCtorEq,Nat.reduceLT,Nat.reduceLeDiff,Nat.reduceShiftRight,Nat.reduceMod]
   refine brB_split (fun h=>?_) (fun h=>?_)
   ·have h':i<a.length:=by (simp only [decide_eq_true_eq,decide_eq_false_iff_not,Bool.not_true,I64,Bool.not_eq_true',Bool.not_eq_false',bne_iff_ne,beq_iff_eq,ne_eq] at *;omega)
    have h2:i<b.length:=by omega
    simp only [ints_get a i h',ints_get b i h2,vZ,Int.reduceEq,Int.reduceNe,Int.reduceLT,Int.reduceLE,Nat.reduceEqDiff,Nat.reduceAdd,reduceIte,reduceCtorEq,Nat.reduceLT,Nat.reduceLeDiff,Nat.reduceShiftRight,Nat.reduceMod]
    refine ⟨by omega,by omega,?_⟩
    refine brB_split (fun h=>?_) (fun h=>?_)
    ·simp only [vZ,Int.reduceEq,Int.reduceNe,Int.reduceLT,Int.reduceLE,Nat.reduceEqDiff,Nat.reduceAdd,reduceIte,reduceCtorEq,Nat.reduceLT,Nat.reduceLeDiff,Nat.reduceShiftRight,Nat.reduceMod]
     have:a ≠ b:=fun hab=>by subst hab;simp at h
     simp [this]
    ·simp only [vZ,Int.reduceEq,Int.reduceNe,Int.reduceLT,Int.reduceLE,Nat.reduceEqDiff,Nat.reduceAdd,reduceIte,reduceCtorEq,Nat.reduceLT,Nat.reduceLeDiff,Nat.reduceShiftRight,Nat.reduceMod]
     refine ⟨by (simp only [decide_eq_true_eq,decide_eq_false_iff_not,Bool.not_true,I64,Bool.not_eq_true',Bool.not_eq_false',bne_iff_ne,beq_iff_eq,ne_eq] at *;omega),⟨i+1,by omega,?_⟩,by simp only;omega,weakE _ ?_⟩
     ·rw [List.take_succ_eq_append_getElem h',List.take_succ_eq_append_getElem h2,hn]
      simp at h;rw [h]
     ·simp only [vZ,Int.reduceEq,Int.reduceNe,Int.reduceLT,Int.reduceLE,Nat.reduceEqDiff,Nat.reduceAdd,reduceIte,reduceCtorEq,Nat.reduceLT,Nat.reduceLeDiff,Nat.reduceShiftRight,Nat.reduceMod];simp
   ·simp only [vZ,Int.reduceEq,Int.reduceNe,Int.reduceLT,Int.reduceLE,Nat.reduceEqDiff,Nat.reduceAdd,reduceIte,reduceCtorEq,Nat.reduceLT,Nat.reduceLeDiff,Nat.reduceShiftRight,Nat.reduceMod]
    have:i=a.length:=by (simp only [decide_eq_true_eq,decide_eq_false_iff_not,Bool.not_true,I64,Bool.not_eq_true',Bool.not_eq_false',bne_iff_ne,beq_iff_eq,ne_eq] at *;omega)
    subst this
    have hb:a=b:=by
     have:=hn
     rw [List.take_length,hlen,List.take_length] at this
     exact this
    simp [hb]

def S63 (n:Int):Prop := -9223372036854775807≤n∧n≤9223372036854775807
theorem max_neg (n:Int):max n (-n)=n.natAbs:=by omega
theorem Size_s (n:Int) (h:S63 n):Sound Tryz.prog 98 [.int .i64 n] (.int .i64 n.natAbs):=by
 refine sound_W f_base_Size (Nat.le_of_ble_eq_true rfl) ?_
 unfold S63 at h
 simp only [c_base_Size,max_neg,vZ,Int.reduceEq,Int.reduceNe,Int.reduceLT,Int.reduceLE,Nat.reduceEqDiff,Nat.reduceAdd,reduceIte,reduceCtorEq,Nat.reduceLT,Nat.reduceLeDiff,Nat.reduceShiftRight,Nat.reduceMod]
 (simp only [decide_eq_true_eq,decide_eq_false_iff_not,Bool.not_true,I64,Bool.not_eq_true',Bool.not_eq_false',bne_iff_ne,beq_iff_eq,ne_eq] at *;omega)

end Go.Proofs.YtgmpcbpmnimkoaaGreatDoor

/- Lowest terms,gains and charges,in plain Lean. By an AI agent;nothing here is trusted. -/
namespace Go.Proofs.YtgmpcbpmnimkoaaGreatDoor
open Go.Av

end Go.Proofs.YtgmpcbpmnimkoaaGreatDoor

/- Contracts: samples,times,dead times. By an AI agent;nothing here is trusted. -/
namespace Go.Proofs.YtgmpcbpmnimkoaaGreatDoor
open Go.Av

theorem isSized_s (n most:Int) (hm:S63 most):Sound Tryz.prog 199 [.int .i64 n,.int .i64 most] (.bool (decide (-most≤n∧n≤most))):=by
 refine sound_W f_pulse_isSized (Nat.le_of_ble_eq_true rfl) ?_
 unfold S63 at hm
 simp only [c_pulse_isSized,vZ,Int.reduceEq,Int.reduceNe,Int.reduceLT,Int.reduceLE,Nat.reduceEqDiff,Nat.reduceAdd,reduceIte,reduceCtorEq,Nat.reduceLT,Nat.reduceLeDiff,Nat.reduceShiftRight,Nat.reduceMod]
 refine ⟨by unfold I64;omega,?_⟩
 refine callS_of (within_s _ _ _) ?_
 simp only [vZ,Int.reduceEq,Int.reduceNe,Int.reduceLT,Int.reduceLE,Nat.reduceEqDiff,Nat.reduceAdd,reduceIte,reduceCtorEq,Nat.reduceLT,Nat.reduceLeDiff,Nat.reduceShiftRight,Nat.reduceMod]
theorem isSample_s (n:Int):Sound Tryz.prog 176 [.int .i64 n] (.bool (smp n)):=by
 refine sound_W f_pulse_isSample (Nat.le_of_ble_eq_true rfl) ?_
 simp only [c_pulse_isSample,vZ,Int.reduceEq,Int.reduceNe,Int.reduceLT,Int.reduceLE,Nat.reduceEqDiff,Nat.reduceAdd,reduceIte,reduceCtorEq,Nat.reduceLT,Nat.reduceLeDiff,Nat.reduceShiftRight,Nat.reduceMod]
 refine callS_of (isSized_s _ _ (by unfold S63;omega)) ?_
 simp only [vZ,Int.reduceEq,Int.reduceNe,Int.reduceLT,Int.reduceLE,Nat.reduceEqDiff,Nat.reduceAdd,reduceIte,reduceCtorEq,Nat.reduceLT,Nat.reduceLeDiff,Nat.reduceShiftRight,Nat.reduceMod]
 unfold smp
 exact bool_eq Iff.rfl
theorem IsSample_s (n:Int):Sound Tryz.prog 196 [.int .i64 n] (.bool (smp n)):=by
 refine sound_W f_ref02_IsSample (Nat.le_of_ble_eq_true rfl) ?_
 simp only [c_ref02_IsSample,vZ,Int.reduceEq,Int.reduceNe,Int.reduceLT,Int.reduceLE,Nat.reduceEqDiff,Nat.reduceAdd,reduceIte,reduceCtorEq,Nat.reduceLT,Nat.reduceLeDiff,Nat.reduceShiftRight,Nat.reduceMod]
 refine callS_of (Within_s _ _ _) ?_
 simp only [vZ,Int.reduceEq,Int.reduceNe,Int.reduceLT,Int.reduceLE,Nat.reduceEqDiff,Nat.reduceAdd,reduceIte,reduceCtorEq,Nat.reduceLT,Nat.reduceLeDiff,Nat.reduceShiftRight,Nat.reduceMod]
 unfold smp
 exact bool_eq Iff.rfl
end Go.Proofs.YtgmpcbpmnimkoaaGreatDoor

/- Contracts: sums,lowest terms,gains,charges. By an AI agent;nothing here is trusted. -/
namespace Go.Proofs.YtgmpcbpmnimkoaaGreatDoor
open Go.Av

end Go.Proofs.YtgmpcbpmnimkoaaGreatDoor

/- Contracts: fits,charges,photons. By an AI agent;nothing here is trusted. -/
namespace Go.Proofs.YtgmpcbpmnimkoaaGreatDoor
open Go.Av

def fitA (den:Int) (parts:List Int):AV:=.agg [.int .i64 den,.sl (ints parts)]
end Go.Proofs.YtgmpcbpmnimkoaaGreatDoor

/- Contracts: samples,droops,pedestals. By an AI agent;nothing here is trusted. -/
namespace Go.Proofs.YtgmpcbpmnimkoaaGreatDoor
open Go.Av

theorem mul_abs {s k M K:Int} (hk:0≤k∧k≤K) (hM:0≤M) (h : -M≤s∧s≤M) : -(M * K)≤s * k∧s * k≤M * K:=by
 have h1:s * k≤M * k:=Int.mul_le_mul_of_nonneg_right h.2 hk.1
 have h2 : -M * k≤s * k:=Int.mul_le_mul_of_nonneg_right h.1 hk.1
 have h3:M * k≤M * K:=Int.mul_le_mul_of_nonneg_left hk.2 hM
 rw [Int.neg_mul] at h2
 omega
theorem samplesErr_1_s (n:Int):Sound Tryz.prog 250 [.int .i64 n] (.bool (!smp n)):=by
 refine sound_W f_pulse_samplesErr_1 (Nat.le_of_ble_eq_true rfl) ?_
 simp only [c_pulse_samplesErr_1,vZ,Int.reduceEq,Int.reduceNe,Int.reduceLT,Int.reduceLE,Nat.reduceEqDiff,Nat.reduceAdd,reduceIte,reduceCtorEq,Nat.reduceLT,Nat.reduceLeDiff,Nat.reduceShiftRight,Nat.reduceMod]
 refine callS_of (isSample_s _) ?_
 simp only [vZ,Int.reduceEq,Int.reduceNe,Int.reduceLT,Int.reduceLE,Nat.reduceEqDiff,Nat.reduceAdd,reduceIte,reduceCtorEq,Nat.reduceLT,Nat.reduceLeDiff,Nat.reduceShiftRight,Nat.reduceMod]
theorem not_all (l:List Int):(l.any fun n=>!smp n)=!l.all smp:=by rw [← List.not_all_eq_any_not]
theorem samplesErr_s (l:List Int) (hl:l.length<4000000000000000000):Sound Tryz.prog 217 [.sl (ints l)] (.tup [.int .i64 (smI l),.int .i64 (smE l)]):=by
 refine sound_W f_pulse_samplesErr (Nat.le_of_ble_eq_true rfl) ?_
 have hU:=unless_s
 simp only [c_pulse_samplesErr,vZ,Int.reduceEq,Int.reduceNe,Int.reduceLT,Int.reduceLE,Nat.reduceEqDiff,Nat.reduceAdd,reduceIte,reduceCtorEq,Nat.reduceLT,Nat.reduceLeDiff,Nat.reduceShiftRight,Nat.reduceMod]
 refine callS_of (unless_s _ _) ?_
 simp only [vZ,Int.reduceEq,Int.reduceNe,Int.reduceLT,Int.reduceLE,Nat.reduceEqDiff,Nat.reduceAdd,reduceIte,reduceCtorEq,Nat.reduceLT,Nat.reduceLeDiff,Nat.reduceShiftRight,Nat.reduceMod]
 refine callS_of (unless_s _ _) ?_
 simp only [vZ,Int.reduceEq,Int.reduceNe,Int.reduceLT,Int.reduceLE,Nat.reduceEqDiff,Nat.reduceAdd,reduceIte,reduceCtorEq,Nat.reduceLT,Nat.reduceLeDiff,Nat.reduceShiftRight,Nat.reduceMod]
 refine callS_of (first2_s _ _) ?_
 by_cases h0:l.length=0
 ·have h0':¬ (0:Int)<l.length:=by omega
  have he:smE l=10:=by unfold smE;rw [if_pos h0]
  have hi:smI l=0:=by unfold smI;rw [if_neg (by rw [he];decide)]
  simp only [h0',he,hi,vZ,Int.reduceEq,Int.reduceNe,Int.reduceLT,Int.reduceLE,Nat.reduceEqDiff,Nat.reduceAdd,reduceIte,reduceCtorEq,Nat.reduceLT,Nat.reduceLeDiff,Nat.reduceShiftRight,Nat.reduceMod]
 have h0':(0:Int)<l.length:=by omega
 by_cases h1:24<l.length
 ·have h1':¬ (l.length:Int)≤24:=by omega
  have he:smE l=8:=by unfold smE;rw [if_neg h0,if_pos h1]
  have hi:smI l=0:=by unfold smI;rw [if_neg (by rw [he];decide)]
  simp only [h0',h1',he,hi,vZ,Int.reduceEq,Int.reduceNe,Int.reduceLT,Int.reduceLE,Nat.reduceEqDiff,Nat.reduceAdd,reduceIte,reduceCtorEq,Nat.reduceLT,Nat.reduceLeDiff,Nat.reduceShiftRight,Nat.reduceMod]
 have h1':(l.length:Int)≤24:=by omega
 have hx:=idxOf_any l (fun n=>!smp n)
 rw [not_all] at hx
 simp only [h0',h1',vZ,Int.reduceEq,Int.reduceNe,Int.reduceLT,Int.reduceLE,Nat.reduceEqDiff,Nat.reduceAdd,reduceIte,reduceCtorEq,Nat.reduceLT,Nat.reduceLeDiff,Nat.reduceShiftRight,Nat.reduceMod]
 refine callS_of (idxFunc_int_s l _ [] (fun n=>!smp n) hl (by simp) (fun x _=>samplesErr_1_s x)) ?_
 cases hall:l.all smp with
 | true =>
  rw [hall] at hx
  have hx':¬ 0≤idxOf l (fun n=>!smp n):=of_decide_eq_false hx
  have he:smE l=0:=by unfold smE;rw [if_neg h0,if_neg h1,if_pos hall]
  have hi:smI l=0:=by unfold smI;rw [if_neg (by rw [he];decide)]
  simp only [hx',he,hi,vZ,Int.reduceEq,Int.reduceNe,Int.reduceLT,Int.reduceLE,Nat.reduceEqDiff,Nat.reduceAdd,reduceIte,reduceCtorEq,Nat.reduceLT,Nat.reduceLeDiff,Nat.reduceShiftRight,Nat.reduceMod]
 | false =>
  rw [hall] at hx
  have hx':0≤idxOf l (fun n=>!smp n):=of_decide_eq_true hx
  have he:smE l=2:=by unfold smE;rw [if_neg h0,if_neg h1,if_neg (by rw [hall];decide)]
  have hi:smI l=idxOf l (fun n=>!smp n):=by unfold smI;rw [if_pos he]
  simp only [hx',he,hi,vZ,Int.reduceEq,Int.reduceNe,Int.reduceLT,Int.reduceLE,Nat.reduceEqDiff,Nat.reduceAdd,reduceIte,reduceCtorEq,Nat.reduceLT,Nat.reduceLeDiff,Nat.reduceShiftRight,Nat.reduceMod]
theorem sampled_s (l:List Int) (hl:l.length<4000000000000000000):Sound Tryz.prog 151 [.sl (ints l)] (.int .i64 (smE l)):=by
 refine sound_W f_pulse_sampled (Nat.le_of_ble_eq_true rfl) ?_
 simp only [c_pulse_sampled,vZ,Int.reduceEq,Int.reduceNe,Int.reduceLT,Int.reduceLE,Nat.reduceEqDiff,Nat.reduceAdd,reduceIte,reduceCtorEq,Nat.reduceLT,Nat.reduceLeDiff,Nat.reduceShiftRight,Nat.reduceMod]
 refine callS_of (samplesErr_s l hl) ?_
 simp only [vZ,Int.reduceEq,Int.reduceNe,Int.reduceLT,Int.reduceLE,Nat.reduceEqDiff,Nat.reduceAdd,reduceIte,reduceCtorEq,Nat.reduceLT,Nat.reduceLeDiff,Nat.reduceShiftRight,Nat.reduceMod]
theorem CheckSamples_s (l:List Int):Sound Tryz.prog 113 [.sl (ints l)] (.tup [.int .i64 (smI l),.int .i64 (smE l)]):=by
 refine sound_W f_ref02_CheckSamples (Nat.le_of_ble_eq_true rfl) ?_
 simp only [c_ref02_CheckSamples,vZ,Int.reduceEq,Int.reduceNe,Int.reduceLT,Int.reduceLE,Nat.reduceEqDiff,Nat.reduceAdd,reduceIte,reduceCtorEq,Nat.reduceLT,Nat.reduceLeDiff,Nat.reduceShiftRight,Nat.reduceMod]
 by_cases h0:l.length=0
 ·have h0':(l.length:Int)=0:=by omega
  have he:smE l=10:=by unfold smE;rw [if_pos h0]
  have hi:smI l=0:=by unfold smI;rw [if_neg (by rw [he];decide)]
  simp only [h0',he,hi,vZ,Int.reduceEq,Int.reduceNe,Int.reduceLT,Int.reduceLE,Nat.reduceEqDiff,Nat.reduceAdd,reduceIte,reduceCtorEq,Nat.reduceLT,Nat.reduceLeDiff,Nat.reduceShiftRight,Nat.reduceMod]
 have h0':¬ (l.length:Int)=0:=by omega
 simp only [h0',vZ,Int.reduceEq,Int.reduceNe,Int.reduceLT,Int.reduceLE,Nat.reduceEqDiff,Nat.reduceAdd,reduceIte,reduceCtorEq,Nat.reduceLT,Nat.reduceLeDiff,Nat.reduceShiftRight,Nat.reduceMod]
 by_cases h1:24<l.length
 ·have h1':(24:Int)<l.length:=by omega
  have he:smE l=8:=by unfold smE;rw [if_neg h0,if_pos h1]
  have hi:smI l=0:=by unfold smI;rw [if_neg (by rw [he];decide)]
  simp only [h1',he,hi,vZ,Int.reduceEq,Int.reduceNe,Int.reduceLT,Int.reduceLE,Nat.reduceEqDiff,Nat.reduceAdd,reduceIte,reduceCtorEq,Nat.reduceLT,Nat.reduceLeDiff,Nat.reduceShiftRight,Nat.reduceMod]
 have h1':¬ (24:Int)<l.length:=by omega
 simp only [h1',vZ,Int.reduceEq,Int.reduceNe,Int.reduceLT,Int.reduceLE,Nat.reduceEqDiff,Nat.reduceAdd,reduceIte,reduceCtorEq,Nat.reduceLT,Nat.reduceLeDiff,Nat.reduceShiftRight,Nat.reduceMod]
 refine W_loop (t:=.mk) (α:=PSigma fun i:Nat=>i≤l.length∧(∀ x ∈ l.take i,smp x=true)) (fun ⟨i,_⟩=>((envOf [(0,.sl (ints l)),(4,.int .i64 i)],stOf []))) (fun i=>l.length - i.1) ⟨0,Nat.zero_le _,?_⟩ ?_ (fun ⟨i,hi,hn⟩=>?_)
 ·intro x hx;simp at hx
 ·refine weakX [] (of_decide_eq_true rfl) (of_decide_eq_true rfl) ?_
  (simp only [vcW,vZ,Int.reduceEq,Int.reduceNe,Int.reduceLT,Int.reduceLE,Nat.reduceEqDiff,Nat.reduceAdd,reduceIte,reduceCtorEq,Nat.reduceLT,Nat.reduceLeDiff,Nat.reduceShiftRight,Nat.reduceMod])
  (repeat' first | exact trivial | (with_reducible first | exact RnB.fxB (ints_fxB _) | rfl | refine And.intro ?_ ?_) | (with_reducible (first | refine RnB.bb ?_ | refine RnB.nb ?_);simp only [vcW,vZ,Int.reduceEq,Int.reduceNe,Int.reduceLT,Int.reduceLE,Nat.reduceEqDiff,Nat.reduceAdd,reduceIte,reduceCtorEq,Nat.reduceLT,Nat.reduceLeDiff,Nat.reduceShiftRight,Nat.reduceMod]) | (with_reducible first | refine RnB.ii ?_ | refine RnB.app ?_) | (with_reducible refine RnB.fxB ?_;simp only [vcW,vZ,Int.reduceEq,Int.reduceNe,Int.reduceLT,Int.reduceLE,Nat.reduceEqDiff,Nat.reduceAdd,reduceIte,reduceCtorEq,Nat.reduceLT,Nat.reduceLeDiff,Nat.reduceShiftRight,Nat.reduceMod]) | omega)
 ·by_cases h':i<l.length
  ·have h2:(i:Int)<l.length:=by omega
   simp only [h2,ints_get l i h',vZ,Int.reduceEq,Int.reduceNe,Int.reduceLT,Int.reduceLE,Nat.reduceEqDiff,Nat.reduceAdd,reduceIte,reduceCtorEq,Nat.reduceLT,Nat.reduceLeDiff,Nat.reduceShiftRight,Nat.reduceMod]
   refine ⟨by omega,?_⟩
   refine callS_of (IsSample_s _) ?_
   cases hw:smp l[i] with
   | true =>
    simp only [vZ,Int.reduceEq,Int.reduceNe,Int.reduceLT,Int.reduceLE,Nat.reduceEqDiff,Nat.reduceAdd,reduceIte,reduceCtorEq,Nat.reduceLT,Nat.reduceLeDiff,Nat.reduceShiftRight,Nat.reduceMod]
    refine ⟨by unfold I64;omega,⟨i+1,h',?_⟩,by simp only;omega,?_⟩
    ·rw [List.take_succ_eq_append_getElem h']
     intro x hx
     rcases List.mem_append.1 hx with e | e
     ·exact hn x e
     ·rw [List.mem_singleton.1 e];exact hw
    ·refine weakX [] (of_decide_eq_true rfl) (of_decide_eq_true rfl) ?_
     (simp only [vcW,vZ,Int.reduceEq,Int.reduceNe,Int.reduceLT,Int.reduceLE,Nat.reduceEqDiff,Nat.reduceAdd,reduceIte,reduceCtorEq,Nat.reduceLT,Nat.reduceLeDiff,Nat.reduceShiftRight,Nat.reduceMod])
     (repeat' first | exact trivial | (with_reducible first | exact RnB.fxB (ints_fxB _) | rfl | refine And.intro ?_ ?_) | (with_reducible (first | refine RnB.bb ?_ | refine RnB.nb ?_);simp only [vcW,vZ,Int.reduceEq,Int.reduceNe,Int.reduceLT,Int.reduceLE,Nat.reduceEqDiff,Nat.reduceAdd,reduceIte,reduceCtorEq,Nat.reduceLT,Nat.reduceLeDiff,Nat.reduceShiftRight,Nat.reduceMod]) | (with_reducible first | refine RnB.ii ?_ | refine RnB.app ?_) | (with_reducible refine RnB.fxB ?_;simp only [vcW,vZ,Int.reduceEq,Int.reduceNe,Int.reduceLT,Int.reduceLE,Nat.reduceEqDiff,Nat.reduceAdd,reduceIte,reduceCtorEq,Nat.reduceLT,Nat.reduceLeDiff,Nat.reduceShiftRight,Nat.reduceMod]) | omega)
   | false =>
    have he:smE l=2:=by
     unfold smE
     rw [if_neg h0,if_neg h1,if_neg]
     intro hall
     have:=List.all_eq_true.1 hall _ (List.getElem_mem h')
     rw [hw] at this;cases this
    have hs:l.findIdx? (fun n=>!smp n)=some i:=by
     rw [List.findIdx?_eq_some_iff_getElem]
     refine ⟨h',by rw [hw];rfl,fun j hj=>?_⟩
     have:=hn l[j] (by rw [List.mem_take_iff_getElem];exact ⟨j,by omega,rfl⟩)
     simp [this]
    have hi:smI l=i:=by unfold smI idxOf;rw [if_pos he,hs]
    simp only [he,hi,vZ,Int.reduceEq,Int.reduceNe,Int.reduceLT,Int.reduceLE,Nat.reduceEqDiff,Nat.reduceAdd,reduceIte,reduceCtorEq,Nat.reduceLT,Nat.reduceLeDiff,Nat.reduceShiftRight,Nat.reduceMod]
  ·have h2:¬ (i:Int)<l.length:=by omega
   have hin:i=l.length:=by omega
   subst hin
   rw [List.take_length] at hn
   have he:smE l=0:=by unfold smE;rw [if_neg h0,if_neg h1,if_pos (List.all_eq_true.2 hn)]
   have hi:smI l=0:=by unfold smI;rw [if_neg (by rw [he];decide)]
   simp only [h2,he,hi,vZ,Int.reduceEq,Int.reduceNe,Int.reduceLT,Int.reduceLE,Nat.reduceEqDiff,Nat.reduceAdd,reduceIte,reduceCtorEq,Nat.reduceLT,Nat.reduceLeDiff,Nat.reduceShiftRight,Nat.reduceMod]
theorem SamplesErr_s (l:List Int):Sound Tryz.prog 27 [.sl (ints l)] (.int .i64 (smE l)):=by
 refine sound_W f_ref02_SamplesErr (Nat.le_of_ble_eq_true rfl) ?_
 simp only [c_ref02_SamplesErr,vZ,Int.reduceEq,Int.reduceNe,Int.reduceLT,Int.reduceLE,Nat.reduceEqDiff,Nat.reduceAdd,reduceIte,reduceCtorEq,Nat.reduceLT,Nat.reduceLeDiff,Nat.reduceShiftRight,Nat.reduceMod]
 refine callS_of (CheckSamples_s l) ?_
 simp only [vZ,Int.reduceEq,Int.reduceNe,Int.reduceLT,Int.reduceLE,Nat.reduceEqDiff,Nat.reduceAdd,reduceIte,reduceCtorEq,Nat.reduceLT,Nat.reduceLeDiff,Nat.reduceShiftRight,Nat.reduceMod]
end Go.Proofs.YtgmpcbpmnimkoaaGreatDoor

/- Contracts: dead times and afterpulses. By an AI agent;nothing here is trusted. -/
namespace Go.Proofs.YtgmpcbpmnimkoaaGreatDoor
open Go.Av

theorem ints_imm (l:List Int) (n:Nat):((ints l).take n).all imm=true:=List.all_eq_true.2 fun x hx=>by
 obtain ⟨y,_,rfl⟩:=List.mem_map.1 (List.mem_of_mem_take hx)
 rfl
theorem usedL_buf {s:Store} {k len ty sz:Nat} {es rest:List AV} (hs:s k=some (some ⟨ty,sz,es⟩)) (he:(es.take len).all imm=true) (hr:rest.all imm=true):usedL true s (refsL s 5 (.buf k len :: rest)):=by
 intro _ j hj
 have h1:refsL s 5 (.buf k len :: rest)=[k]:=by
  have h2:refsL s 5 (.buf k len :: rest)=refs s 5 (.buf k len) ++ refsL s 5 rest:=rfl
  rw [h2,refsL_imm s 5 rest hr,refs_buf,hs,List.append_nil]
  unfold refsK
  simp only [he,if_true]
 rw [h1,List.mem_singleton] at hj
 rw [hj,hs];simp

end Go.Proofs.YtgmpcbpmnimkoaaGreatDoor

/- Contracts: hits,joined ranges. By an AI agent;nothing here is trusted. -/
namespace Go.Proofs.YtgmpcbpmnimkoaaGreatDoor
open Go.Av

end Go.Proofs.YtgmpcbpmnimkoaaGreatDoor

/- Contracts of functions without a body: bits.Add64,bits.Sub64. By an AI agent;nothing here is trusted. -/
namespace Go.Proofs.YtgmpcbpmnimkoaaGreatDoor
open Go.Av
open Go.RowKit (Below)

theorem args3 {h:Array Obj} {ok:Nat→Prop} {cargs:Array Value} {a b c:Int} (hlen:cargs.size=3) (hargs:∀ (i:Nat) (x:AV),[AV.int .u64 a,.int .u64 b,.int .u64 c][i]?=some x→VR h ok noPlace noStore x (cargs.getD i undef)) :
  cargs=#[.int .u64 a,.int .u64 b,.int .u64 c]:=by
 have h0:=hargs 0 _ rfl
 have h1:=hargs 1 _ rfl
 have h2:=hargs 2 _ rfl
 have e0:cargs.getD 0 undef=.int .u64 a:=by generalize cargs.getD 0 undef=v at *;cases h0;rfl
 have e1:cargs.getD 1 undef=.int .u64 b:=by generalize cargs.getD 1 undef=v at *;cases h1;rfl
 have e2:cargs.getD 2 undef=.int .u64 c:=by generalize cargs.getD 2 undef=v at *;cases h2;rfl
 apply Array.ext
 ·simpa using hlen
 ·intro i hi1 hi2
  simp at hi2
  have:i=0∨i=1∨i=2:=by omega
  rcases this with rfl | rfl | rfl
  ·simpa [Array.getD,hi1] using e0
  ·simpa [Array.getD,hi1] using e1
  ·simpa [Array.getD,hi1] using e2
theorem tup2 {h:Array Obj} {ok:Nat→Prop} (a b:Int):VR h ok noPlace noStore (.tup [.int .u64 a,.int .u64 b]) (.tuple #[.int .u64 a,.int .u64 b]):=by
 refine .tup _ _ rfl fun i c hc=>?_
 match i with
 | 0=>simp at hc;subst hc;exact .int _ _
 | 1=>simp at hc;subst hc;exact .int _ _
 | i+2=>simp at hc
theorem Add64_s (x y c:Int) (hx:0≤x) (hy:0≤y) (hc:0≤c∧c≤1):Sound Tryz.prog 191 [.int .u64 x,.int .u64 y,.int .u64 c]
  (.tup [.int .u64 ((x+y+c) % 18446744073709551616),.int .u64 ((x+y+c) / 18446744073709551616)]):=by
 intro w ok cargs hok _ hlen hargs
 rw [args3 (by simpa using hlen) hargs]
 refine .inl ⟨_,w,?_,Below.refl _ _,tup2 _ _⟩
 rw [run_callFunc_extern Tryz.func191 (by kernel_rfl) (by kernel_rfl) (by kernel_rfl) (e:=add64Entry) (by kernel_rfl),run_add64 x y c hx hy hc.1 hc.2]
 rfl
theorem Sub64_s (x y b:Nat) (hb:b≤1):Sound Tryz.prog 192 [.int .u64 (x:Int),.int .u64 (y:Int),.int .u64 (b:Int)]
  (.tup [.int .u64 (((x+18446744073709551616 - y - b) % 18446744073709551616:Nat):Int),.int .u64 ((if x<y+b then 1 else 0:Nat):Int)]):=by
 intro w ok cargs hok _ hlen hargs
 rw [args3 (by simpa using hlen) hargs]
 refine .inl ⟨_,w,?_,Below.refl _ _,tup2 _ _⟩
 rw [run_callFunc_extern Tryz.func192 (by kernel_rfl) (by kernel_rfl) (by kernel_rfl) (e:=sub64Entry) (by kernel_rfl),run_sub64 x y b hb]
 rfl
end Go.Proofs.YtgmpcbpmnimkoaaGreatDoor

/- Numbers of a sign and 128 bits. By an AI agent;nothing here is trusted. -/
namespace Go.Proofs.YtgmpcbpmnimkoaaGreatDoor
open Go.Av

def wdA (b:Bool) (n:Nat):AV:=.agg [.bool b,.int .u64 ((n / 18446744073709551616:Nat):Int),.int .u64 ((n % 18446744073709551616:Nat):Int)]
def wdV (b:Bool) (n:Nat):Int:=if b then -(n:Int) else n
def W128 (n:Nat):Prop:=n<340282366920938463463374607431768211456
theorem u64_mod (n:Int):IntKind.u64.wrap n=n % 18446744073709551616:=by simp [IntKind.wrap,IntKind.bits,IntKind.signed]
theorem u64_wrap {n:Int} (h:0≤n∧n<18446744073709551616):IntKind.u64.wrap n=n:=by
 rw [u64_mod];omega
theorem pwideOf_s (n:Int) (hn:S63 n):Sound Tryz.prog 107 [.int .i64 n] (wdA (decide (n<0)) n.natAbs):=by
 refine sound_W f_pulse_wideOf (Nat.le_of_ble_eq_true rfl) ?_
 unfold S63 at hn
 have h1:max n (-n)=(n.natAbs:Int):=by omega
 have h2:IntKind.u64.wrap (n.natAbs:Int)=(n.natAbs:Int):=u64_wrap (by omega)
 have h3:n.natAbs / 18446744073709551616=0:=Nat.div_eq_of_lt (by omega)
 have h4:n.natAbs % 18446744073709551616=n.natAbs:=Nat.mod_eq_of_lt (by omega)
 unfold wdA
 rw [h3,h4]
 simp only [c_pulse_wideOf,max_neg,vZ,Int.reduceEq,Int.reduceNe,Int.reduceLT,Int.reduceLE,Nat.reduceEqDiff,Nat.reduceAdd,reduceIte,reduceCtorEq,Nat.reduceLT,Nat.reduceLeDiff,Nat.reduceShiftRight,Nat.reduceMod]
 refine ⟨by unfold I64;omega,?_⟩
 rw [h2]
 rfl
theorem isZero_s (b:Bool) (n:Nat) (hn:W128 n):Sound Tryz.prog 228 [wdA b n] (.bool (decide (n=0))):=by
 refine sound_W f_pulse_wide_isZero (Nat.le_of_ble_eq_true rfl) ?_
 unfold W128 at hn
 unfold wdA
 have e:=Nat.div_add_mod n 18446744073709551616
 by_cases h1:((n / 18446744073709551616:Nat):Int)=0
 ·simp only [c_pulse_wide_isZero,h1,vZ,Int.reduceEq,Int.reduceNe,Int.reduceLT,Int.reduceLE,Nat.reduceEqDiff,Nat.reduceAdd,reduceIte,reduceCtorEq,Nat.reduceLT,Nat.reduceLeDiff,Nat.reduceShiftRight,Nat.reduceMod]
  exact bool_eq (by omega)
 ·have h0:¬ n=0:=by omega
  simp only [c_pulse_wide_isZero,h1,h0,vZ,Int.reduceEq,Int.reduceNe,Int.reduceLT,Int.reduceLE,Nat.reduceEqDiff,Nat.reduceAdd,reduceIte,reduceCtorEq,Nat.reduceLT,Nat.reduceLeDiff,Nat.reduceShiftRight,Nat.reduceMod]
theorem isLess_s (a b:Bool) (m n:Nat):Sound Tryz.prog 131 [wdA a m,wdA b n] (.bool (decide (m<n))):=by
 refine sound_W f_pulse_wide_isLess (Nat.le_of_ble_eq_true rfl) ?_
 unfold wdA
 have em:=Nat.div_add_mod m 18446744073709551616
 have en:=Nat.div_add_mod n 18446744073709551616
 have lm:=Nat.mod_lt m (show 18446744073709551616 > 0 by omega)
 have ln:=Nat.mod_lt n (show 18446744073709551616 > 0 by omega)
 generalize m / 18446744073709551616=mh at *
 generalize m % 18446744073709551616=ml at *
 generalize n / 18446744073709551616=nh at *
 generalize n % 18446744073709551616=nl at *
 by_cases h1:(mh:Int)<nh
 ·have h:m<n:=by omega
  simp only [c_pulse_wide_isLess,h1,h,vZ,Int.reduceEq,Int.reduceNe,Int.reduceLT,Int.reduceLE,Nat.reduceEqDiff,Nat.reduceAdd,reduceIte,reduceCtorEq,Nat.reduceLT,Nat.reduceLeDiff,Nat.reduceShiftRight,Nat.reduceMod]
 ·by_cases h2:(mh:Int)=nh
  ·have h1':¬ (nh:Int)<nh:=by omega
   by_cases h3:(ml:Int)<nl
   ·have h:m<n:=by omega
    simp only [c_pulse_wide_isLess,h2,h1',h3,h,vZ,Int.reduceEq,Int.reduceNe,Int.reduceLT,Int.reduceLE,Nat.reduceEqDiff,Nat.reduceAdd,reduceIte,reduceCtorEq,Nat.reduceLT,Nat.reduceLeDiff,Nat.reduceShiftRight,Nat.reduceMod]
   ·have h:¬ m<n:=by omega
    simp only [c_pulse_wide_isLess,h2,h1',h3,h,vZ,Int.reduceEq,Int.reduceNe,Int.reduceLT,Int.reduceLE,Nat.reduceEqDiff,Nat.reduceAdd,reduceIte,reduceCtorEq,Nat.reduceLT,Nat.reduceLeDiff,Nat.reduceShiftRight,Nat.reduceMod]
  ·have h:¬ m<n:=by omega
   simp only [c_pulse_wide_isLess,h1,h2,h,vZ,Int.reduceEq,Int.reduceNe,Int.reduceLT,Int.reduceLE,Nat.reduceEqDiff,Nat.reduceAdd,reduceIte,reduceCtorEq,Nat.reduceLT,Nat.reduceLeDiff,Nat.reduceShiftRight,Nat.reduceMod]
theorem negated_s (b:Bool) (n:Nat):Sound Tryz.prog 185 [wdA b n] (wdA (!b) n):=by
 refine sound_W f_pulse_wide_negated (Nat.le_of_ble_eq_true rfl) ?_
 unfold wdA
 simp only [c_pulse_wide_negated,vZ,Int.reduceEq,Int.reduceNe,Int.reduceLT,Int.reduceLE,Nat.reduceEqDiff,Nat.reduceAdd,reduceIte,reduceCtorEq,Nat.reduceLT,Nat.reduceLeDiff,Nat.reduceShiftRight,Nat.reduceMod]
end Go.Proofs.YtgmpcbpmnimkoaaGreatDoor

/- Products and sums of numbers of 128 bits. By an AI agent;nothing here is trusted. -/
namespace Go.Proofs.YtgmpcbpmnimkoaaGreatDoor
open Go.Av

theorem and32 (x:Nat) (h:x<18446744073709551616):IntKind.u64.wrap ((((BitVec.ofInt IntKind.u64.bits (x:Int)) &&& (BitVec.ofInt IntKind.u64.bits 4294967295)).toNat:Nat):Int)=((x % 4294967296:Nat):Int):=by
 have h1:((BitVec.ofInt IntKind.u64.bits (x:Int)) &&& (BitVec.ofInt IntKind.u64.bits 4294967295)).toNat=x % 4294967296:=by
  rw [BitVec.toNat_and]
  have e1:(BitVec.ofInt IntKind.u64.bits (x:Int)).toNat=x:=by
   rw [BitVec.toNat_ofInt]
   show ((x:Int) % ((2 ^ 64:Nat):Int)).toNat=x
   omega
  have e2:(BitVec.ofInt IntKind.u64.bits 4294967295).toNat=2 ^ 32 - 1:=by decide
  rw [e1,e2,Nat.and_two_pow_sub_one_eq_mod]
 rw [h1,u64_mod]
 omega
theorem shr32 (x:Nat):(x:Int).fdiv (2 ^ min (Int.toNat 32) IntKind.u64.bits)=((x / 4294967296:Nat):Int):=by
 show (x:Int).fdiv 4294967296=_
 rw [Int.fdiv_eq_ediv_of_nonneg _ (by omega)]
 omega
theorem Mul64_s (x y:Nat) (hx:x<18446744073709551616) (hy:y<18446744073709551616):Sound Tryz.prog 193 [.int .u64 x,.int .u64 y] (.tup [.int .u64 ((x * y / 18446744073709551616:Nat):Int),.int .u64 ((x * y % 18446744073709551616:Nat):Int)]):=by
 refine sound_W f_math_bits_Mul64 (Nat.le_of_ble_eq_true rfl) ?_
 obtain ⟨m1,m2,m3,m4⟩:=Go.Lib.mul64_hi x y hx hy
 have ha:=Go.Lib.half_mul_le (a:=x / 4294967296) (b:=y / 4294967296) (by omega) (by omega)
 have hb:=Go.Lib.half_mul_le (a:=x / 4294967296) (b:=y % 4294967296) (by omega) (by omega)
 have hc:=Go.Lib.half_mul_le (a:=x % 4294967296) (b:=y / 4294967296) (by omega) (by omega)
 have hq:x * y / 18446744073709551616<18446744073709551616:=Nat.div_lt_of_lt_mul (Nat.mul_lt_mul'' hx hy)
 have wm:∀ a b:Nat,a * b<18446744073709551616→IntKind.u64.wrap ((a:Int) * b)=((a * b:Nat):Int):=fun a b h=>by rw [← Int.natCast_mul];exact u64_wrap (by omega)
 have wa:∀ a b:Nat,a+b<18446744073709551616→IntKind.u64.wrap ((a:Int)+b)=((a+b:Nat):Int):=fun a b h=>by rw [← Int.natCast_add];exact u64_wrap (by omega)
 have w9:IntKind.u64.wrap ((x:Int) * y)=((x * y % 18446744073709551616:Nat):Int):=by rw [u64_mod,← Int.natCast_mul];omega
 have a1:=and32 x hx
 have a2:=and32 y hy
 have s1:=shr32 x
 have s2:=shr32 y
 rw [← m4] at hq ⊢
 generalize x % 4294967296=x0 at *
 generalize x / 4294967296=x1 at *
 generalize y % 4294967296=y0 at *
 generalize y / 4294967296=y1 at *
 have w1:=wm x0 y0 m1
 have w2:=wm x1 y0 (by omega)
 have s3:=shr32 (x0 * y0)
 have w3:=wa (x1 * y0) (x0 * y0 / 4294967296) m2
 have a3:=and32 _ m2
 have s4:=shr32 (x1 * y0+x0 * y0 / 4294967296)
 generalize x1 * y0+x0 * y0 / 4294967296=u at *
 have w4:=wm x0 y1 (by omega)
 have w5:=wa (u % 4294967296) (x0 * y1) m3
 have s5:=shr32 (u % 4294967296+x0 * y1)
 generalize u % 4294967296+x0 * y1=v at *
 have w6:=wm x1 y1 (by omega)
 have w7:=wa (x1 * y1) (u / 4294967296) (by omega)
 have w8:=wa (x1 * y1+u / 4294967296) (v / 4294967296) (by omega)
 simp only [c_math_bits_Mul64,a1,a2,s1,s2,w1,w2,s3,w3,a3,s4,w4,w5,s5,w6,w7,w8,w9,vZ,Int.reduceEq,Int.reduceNe,Int.reduceLT,Int.reduceLE,Nat.reduceEqDiff,Nat.reduceAdd,reduceIte,reduceCtorEq,Nat.reduceLT,Nat.reduceLeDiff,Nat.reduceShiftRight,Nat.reduceMod]
theorem times_s (b:Bool) (m:Nat) (k:Int) (hk:S63 k) (hb:W128 (m * k.natAbs)) (hm:W128 m):Sound Tryz.prog 108 [wdA b m,.int .i64 k] (wdA (b != decide (k<0)) (m * k.natAbs)):=by
 refine sound_W f_pulse_wide_times (Nat.le_of_ble_eq_true rfl) ?_
 unfold S63 at hk
 unfold W128 at hb hm
 have h1:max k (-k)=(k.natAbs:Int):=by omega
 have h2:IntKind.u64.wrap (k.natAbs:Int)=(k.natAbs:Int):=u64_wrap (by omega)
 have hM:=Mul64_s (m % 18446744073709551616) k.natAbs (Nat.mod_lt _ (by omega)) (by omega)
 have em:=Nat.div_add_mod m 18446744073709551616
 have hlt:=Nat.mod_lt m (show 18446744073709551616 > 0 by omega)
 unfold wdA
 generalize m / 18446744073709551616=mh at *
 generalize m % 18446744073709551616=ml at *
 generalize hs:k.natAbs=s at *
 have e1:m * s=18446744073709551616 * (mh * s)+ml * s:=by rw [← em,Nat.add_mul,Nat.mul_assoc]
 have q1:m * s / 18446744073709551616=ml * s / 18446744073709551616+mh * s:=by rw [e1];omega
 have q2:m * s % 18446744073709551616=ml * s % 18446744073709551616:=by rw [e1];omega
 rw [q1,q2]
 have w1:IntKind.u64.wrap ((mh:Int) * s)=((mh * s:Nat):Int):=by rw [← Int.natCast_mul];exact u64_wrap (by omega)
 have w2:IntKind.u64.wrap (((ml * s / 18446744073709551616:Nat):Int)+((mh * s:Nat):Int))=((ml * s / 18446744073709551616+mh * s:Nat):Int):=by rw [← Int.natCast_add];exact u64_wrap (by omega)
 simp only [c_pulse_wide_times,max_neg,vZ,Int.reduceEq,Int.reduceNe,Int.reduceLT,Int.reduceLE,Nat.reduceEqDiff,Nat.reduceAdd,reduceIte,reduceCtorEq,Nat.reduceLT,Nat.reduceLeDiff,Nat.reduceShiftRight,Nat.reduceMod]
 refine ⟨by unfold I64;omega,?_⟩
 simp only [hs,h2]
 refine callS_of hM ?_
 simp only [hs,h2,w1,w2,vZ,Int.reduceEq,Int.reduceNe,Int.reduceLT,Int.reduceLE,Nat.reduceEqDiff,Nat.reduceAdd,reduceIte,reduceCtorEq,Nat.reduceLT,Nat.reduceLeDiff,Nat.reduceShiftRight,Nat.reduceMod]
 cases b <;> cases decide (k<0) <;> rfl
theorem plus_same_s (b:Bool) (m n:Nat) (h:W128 (m+n)):Sound Tryz.prog 106 [wdA b m,wdA b n] (wdA b (m+n)):=by
 refine sound_W f_pulse_wide_plus (Nat.le_of_ble_eq_true rfl) ?_
 unfold W128 at h
 have em:=Nat.div_add_mod m 18446744073709551616
 have en:=Nat.div_add_mod n 18446744073709551616
 have lm:=Nat.mod_lt m (show 18446744073709551616 > 0 by omega)
 have ln:=Nat.mod_lt n (show 18446744073709551616 > 0 by omega)
 have hA:=Add64_s ((m % 18446744073709551616:Nat):Int) ((n % 18446744073709551616:Nat):Int) 0 (by omega) (by omega) (by omega)
 unfold wdA
 have q1:(m+n) / 18446744073709551616=m / 18446744073709551616+n / 18446744073709551616+(m % 18446744073709551616+n % 18446744073709551616) / 18446744073709551616:=by omega
 have q2:(m+n) % 18446744073709551616=(m % 18446744073709551616+n % 18446744073709551616) % 18446744073709551616:=by omega
 rw [q1,q2]
 generalize m / 18446744073709551616=mh at *
 generalize m % 18446744073709551616=ml at *
 generalize n / 18446744073709551616=nh at *
 generalize n % 18446744073709551616=nl at *
 have e1:((ml:Int)+nl+0) / 18446744073709551616=(((ml+nl) / 18446744073709551616:Nat):Int):=by omega
 have e2:((ml:Int)+nl+0) % 18446744073709551616=(((ml+nl) % 18446744073709551616:Nat):Int):=by omega
 rw [e1,e2] at hA
 have w1:IntKind.u64.wrap ((mh:Int)+nh)=((mh+nh:Nat):Int):=by rw [← Int.natCast_add];exact u64_wrap (by omega)
 have w2:IntKind.u64.wrap (((mh+nh:Nat):Int)+(((ml+nl) / 18446744073709551616:Nat):Int))=((mh+nh+(ml+nl) / 18446744073709551616:Nat):Int):=by rw [← Int.natCast_add];exact u64_wrap (by omega)
 simp only [c_pulse_wide_plus,vZ,Int.reduceEq,Int.reduceNe,Int.reduceLT,Int.reduceLE,Nat.reduceEqDiff,Nat.reduceAdd,reduceIte,reduceCtorEq,Nat.reduceLT,Nat.reduceLeDiff,Nat.reduceShiftRight,Nat.reduceMod]
 refine callS_of hA ?_
 simp only [w1,w2,vZ,Int.reduceEq,Int.reduceNe,Int.reduceLT,Int.reduceLE,Nat.reduceEqDiff,Nat.reduceAdd,reduceIte,reduceCtorEq,Nat.reduceLT,Nat.reduceLeDiff,Nat.reduceShiftRight,Nat.reduceMod]
theorem plus_other_s (b:Bool) (m n:Nat) (hm:W128 m) (hn:W128 n):Sound Tryz.prog 106 [wdA b m,wdA (!b) n] (if m<n then wdA (!b) (n - m) else wdA b (m - n)):=by
 refine sound_W f_pulse_wide_plus (Nat.le_of_ble_eq_true rfl) ?_
 unfold W128 at hm hn
 have em:=Nat.div_add_mod m 18446744073709551616
 have en:=Nat.div_add_mod n 18446744073709551616
 have lm:=Nat.mod_lt m (show 18446744073709551616 > 0 by omega)
 have ln:=Nat.mod_lt n (show 18446744073709551616 > 0 by omega)
 have hL:=isLess_s b (!b) m n
 have hS1:=Sub64_s (m % 18446744073709551616) (n % 18446744073709551616) 0 (by omega)
 have hS2:=Sub64_s (n % 18446744073709551616) (m % 18446744073709551616) 0 (by omega)
 have key:∀ x y:Nat,y≤x→x<340282366920938463463374607431768211456 →
   IntKind.u64.wrap (IntKind.u64.wrap (((x / 18446744073709551616:Nat):Int) - ((y / 18446744073709551616:Nat):Int)) - ((if x % 18446744073709551616<y % 18446744073709551616+0 then 1 else 0:Nat):Int))=(((x - y) / 18446744073709551616:Nat):Int) ∧
   (x % 18446744073709551616+18446744073709551616 - y % 18446744073709551616 - 0) % 18446744073709551616=(x - y) % 18446744073709551616:=by
  intro x y hxy hx
  rw [u64_mod,u64_mod]
  split <;> omega
 unfold wdA at hL ⊢
 by_cases hlt:m<n
 ·obtain ⟨k1,k2⟩:=key n m (by omega) hn
  rw [if_pos hlt]
  rw [decide_eq_true hlt] at hL
  rw [k2] at hS2
  cases b
  all_goals
   simp only [c_pulse_wide_plus,vZ,Int.reduceEq,Int.reduceNe,Int.reduceLT,Int.reduceLE,Nat.reduceEqDiff,Nat.reduceAdd,reduceIte,reduceCtorEq,Nat.reduceLT,Nat.reduceLeDiff,Nat.reduceShiftRight,Nat.reduceMod]
   refine callS_of hL ?_
   simp only [vZ,Int.reduceEq,Int.reduceNe,Int.reduceLT,Int.reduceLE,Nat.reduceEqDiff,Nat.reduceAdd,reduceIte,reduceCtorEq,Nat.reduceLT,Nat.reduceLeDiff,Nat.reduceShiftRight,Nat.reduceMod]
   refine callS_of hS2 ?_
   simp only [k1,vZ,Int.reduceEq,Int.reduceNe,Int.reduceLT,Int.reduceLE,Nat.reduceEqDiff,Nat.reduceAdd,reduceIte,reduceCtorEq,Nat.reduceLT,Nat.reduceLeDiff,Nat.reduceShiftRight,Nat.reduceMod]
 ·obtain ⟨k1,k2⟩:=key m n (by omega) hm
  rw [if_neg hlt]
  rw [decide_eq_false hlt] at hL
  rw [k2] at hS1
  cases b
  all_goals
   simp only [c_pulse_wide_plus,vZ,Int.reduceEq,Int.reduceNe,Int.reduceLT,Int.reduceLE,Nat.reduceEqDiff,Nat.reduceAdd,reduceIte,reduceCtorEq,Nat.reduceLT,Nat.reduceLeDiff,Nat.reduceShiftRight,Nat.reduceMod]
   refine callS_of hL ?_
   simp only [vZ,Int.reduceEq,Int.reduceNe,Int.reduceLT,Int.reduceLE,Nat.reduceEqDiff,Nat.reduceAdd,reduceIte,reduceCtorEq,Nat.reduceLT,Nat.reduceLeDiff,Nat.reduceShiftRight,Nat.reduceMod]
   refine callS_of hS1 ?_
   simp only [k1,vZ,Int.reduceEq,Int.reduceNe,Int.reduceLT,Int.reduceLE,Nat.reduceEqDiff,Nat.reduceAdd,reduceIte,reduceCtorEq,Nat.reduceLT,Nat.reduceLeDiff,Nat.reduceShiftRight,Nat.reduceMod]
end Go.Proofs.YtgmpcbpmnimkoaaGreatDoor

/- Determinants in plain Lean. By an AI agent;nothing here is trusted. -/
namespace Go.Lin

def sm (n:Nat) (f:Nat→Rat):Rat:=match n with
 | 0=>0
 | n+1=>sm n f+f n
theorem sm_zero (f:Nat→Rat):sm 0 f=0:=rfl
theorem sm_succ (n:Nat) (f:Nat→Rat):sm (n+1) f=sm n f+f n:=rfl
theorem sm_congr {n:Nat} {f g:Nat→Rat} (h:∀ i,i<n→f i=g i):sm n f=sm n g:=by
 induction n with
 | zero=>rfl
 | succ n ih=>rw [sm_succ,sm_succ,ih (fun i hi=>h i (by omega)),h n (by omega)]
theorem sm_add (n:Nat) (f g:Nat→Rat):sm n (fun i=>f i+g i)=sm n f+sm n g:=by
 induction n with
 | zero=>simp only [sm_zero];grind
 | succ n ih=>rw [sm_succ,sm_succ,sm_succ,ih];grind
theorem sm_mul (n:Nat) (a:Rat) (f:Nat→Rat):sm n (fun i=>a * f i)=a * sm n f:=by
 induction n with
 | zero=>simp [sm]
 | succ n ih=>rw [sm_succ,sm_succ,ih];grind
theorem sm_mul' (n:Nat) (a:Rat) (f:Nat→Rat):sm n (fun i=>f i * a)=sm n f * a:=by
 induction n with
 | zero=>simp [sm]
 | succ n ih=>rw [sm_succ,sm_succ,ih];grind
theorem sm_none {n:Nat} {f:Nat→Rat} (h:∀ i,i<n→f i=0):sm n f=0:=by
 induction n with
 | zero=>rfl
 | succ n ih=>rw [sm_succ,ih (fun i hi=>h i (by omega)),h n (by omega)];grind
theorem sm_one {n:Nat} {f:Nat→Rat} {j:Nat} (hj:j<n) (h:∀ i,i<n→i ≠ j→f i=0):sm n f=f j:=by
 induction n with
 | zero=>omega
 | succ n ih =>
  rw [sm_succ]
  by_cases e:j=n
  ·subst e;rw [sm_none (fun i hi=>h i (by omega) (by omega))];grind
  ·rw [ih (by omega) (fun i hi hij=>h i (by omega) hij),h n (by omega) (by omega)];grind
theorem sm_swap (n m:Nat) (f:Nat→Nat→Rat):sm n (fun i=>sm m (fun k=>f i k))=sm m (fun k=>sm n (fun i=>f i k)):=by
 induction n with
 | zero=>rw [sm_zero];exact (sm_none (n:=m) (fun i _=>rfl)).symm
 | succ n ih=>rw [sm_succ,ih,← sm_add];exact sm_congr fun k _=>(sm_succ _ _).symm

def sg (i:Nat):Rat:=if i % 2=0 then 1 else -1
theorem sg_succ (i:Nat):sg (i+1) = - sg i:=by
 unfold sg
 by_cases h:i % 2=0
 ·rw [if_pos h,if_neg (by omega)]
 ·rw [if_neg h,if_pos (by omega)];grind
def skip (i r:Nat):Nat:=if r<i then r else r+1

def dt:Nat→(Nat→Nat→Rat)→Rat
 | 0,_=>1
 | n+1,a=>sm (n+1) fun i=>sg i * a i 0 * dt n fun r c=>a (skip i r) (c+1)
theorem skip_lt {i r n:Nat} (hr:r<n):skip i r<n+1:=by unfold skip;split <;> omega
theorem dt_congr:∀ {n:Nat} {a b:Nat→Nat→Rat},(∀ r c,r<n→c<n→a r c=b r c)→dt n a=dt n b
 | 0,_,_,_=>rfl
 | n+1,a,b,h=>sm_congr fun i hi=>by
  rw [h i 0 hi (by omega),dt_congr (n:=n) fun r c hr hc=>h (skip i r) (c+1) (skip_lt hr) (by omega)]

def setc (a:Nat→Nat→Rat) (j:Nat) (u:Nat→Rat):Nat→Nat→Rat:=fun r c=>if c=j then u r else a r c
theorem setc_at (a:Nat→Nat→Rat) (j:Nat) (u:Nat→Rat) (r:Nat):setc a j u r j=u r:=by simp [setc]
theorem setc_of (a:Nat→Nat→Rat) {j c:Nat} (u:Nat→Rat) (r:Nat) (h:c ≠ j):setc a j u r c=a r c:=by simp [setc,h]

theorem dt_lin:∀ {n:Nat} (a:Nat→Nat→Rat) (j:Nat) (x y:Rat) (u v:Nat→Rat),j<n →
  dt n (setc a j fun r=>x * u r+y * v r)=x * dt n (setc a j u)+y * dt n (setc a j v)
 | 0,_,_,_,_,_,_,h=>by omega
 | n+1,a,0,x,y,u,v,_=>by
  have hm:∀ (w:Nat→Rat) (i:Nat),dt n (fun r c=>setc a 0 w (skip i r) (c+1))=dt n (fun r c=>a (skip i r) (c+1)):=fun w i=>dt_congr fun r c _ _=>setc_of a w _ (by omega)
  simp only [dt,hm,setc_at]
  rw [← sm_mul,← sm_mul,← sm_add]
  exact sm_congr fun i _=>by grind
 | n+1,a,j+1,x,y,u,v,h=>by
  have hm:∀ (w:Nat→Rat) (i:Nat),dt n (fun r c=>setc a (j+1) w (skip i r) (c+1))=dt n (setc (fun r c=>a (skip i r) (c+1)) j fun r=>w (skip i r)):=fun w i=>dt_congr fun r c _ _=>by
   simp [setc]
  simp only [dt,hm]
  have h0:∀ (w:Nat→Rat) (i:Nat),setc a (j+1) w i 0=a i 0:=fun w i=>setc_of a w i (by omega)
  simp only [h0]
  rw [← sm_mul,← sm_mul,← sm_add]
  refine sm_congr fun i _=>?_
  rw [dt_lin (n:=n) _ j x y (fun r=>u (skip i r)) (fun r=>v (skip i r)) (by omega)]
  grind

theorem pairs (f:Nat→Nat→Rat):∀ n,sm (n+1) (fun i=>sm n (fun k=>f i k))=sm n (fun k=>sm (k+1) fun i=>f i k+f (k+1) i)
 | 0=>by simp [sm];grind
 | n+1=>by
  have ih:=pairs f n
  rw [sm_succ]
  have h1:sm (n+1) (fun i=>sm (n+1) fun k=>f i k)=sm (n+1) (fun i=>sm n (fun k=>f i k))+sm (n+1) (fun i=>f i n):=by
   rw [← sm_add];exact sm_congr fun i _=>sm_succ _ _
  rw [h1,ih,sm_succ n (fun k=>sm (k+1) fun i=>f i k+f (k+1) i),sm_add]
  grind
theorem skip_skip {i k r:Nat} (h:i≤k):skip i (skip k r)=skip (k+1) (skip i r):=by
 unfold skip
 repeat' split
 all_goals omega
theorem skip_eq {i k:Nat} (h:i≤k):skip i k=k+1:=by unfold skip;rw [if_neg (by omega)]
theorem skip_lo {i k:Nat} (h:i≤k):skip (k+1) i=i:=by unfold skip;rw [if_pos (by omega)]
theorem dt_adj:∀ {n:Nat} (a:Nat→Nat→Rat) (j:Nat),j+1<n→(∀ r,r<n→a r j=a r (j+1))→dt n a=0
 | 0,_,_,h,_=>by omega
 | 1,_,_,h,_=>by omega
 | n+2,a,0,_,h=>by
  have e:dt (n+2) a=sm (n+2) fun i=>sm (n+1) fun k=>sg i * a i 0 * (sg k * a (skip i k) 1 * dt n fun r c=>a (skip i (skip k r)) (c+2)):=by
   show sm (n+2) (fun i=>sg i * a i 0 * sm (n+1) _)=_
   exact sm_congr fun i _=>(sm_mul _ _ _).symm
  rw [e,pairs (fun i k=>sg i * a i 0 * (sg k * a (skip i k) 1 * dt n fun r c=>a (skip i (skip k r)) (c+2)))]
  refine sm_none fun k hk=>sm_none fun i hi=>?_
  have hik:i≤k:=by omega
  have hd:(dt n fun r c=>a (skip i (skip k r)) (c+2))=dt n fun r c=>a (skip (k+1) (skip i r)) (c+2):=by
   congr 1;funext r c;rw [skip_skip hik]
  rw [hd,skip_eq hik,skip_lo hik,sg_succ,h i (by omega),h (k+1) (by omega)]
  grind
 | n+2,a,j+1,hj,h=>by
  refine sm_none fun i _=>?_
  rw [dt_adj (n:=n+1) (fun r c=>a (skip i r) (c+1)) j (by omega) (fun r hr=>h (skip i r) (skip_lt hr))]
  grind

theorem setc_same {n:Nat} (a:Nat→Nat→Rat) (j:Nat):dt n (setc a j fun r=>a r j)=dt n a:=dt_congr fun r c _ _=>by
 unfold setc;split
 ·rename_i h;rw [h]
 ·rfl
theorem dt_swap {n:Nat} (a:Nat→Nat→Rat) (j:Nat) (hj:j+1<n) (u v:Nat→Rat) :
  dt n (setc (setc a j u) (j+1) v) = - dt n (setc (setc a j v) (j+1) u):=by
 have key:∀ w:Nat→Rat,dt n (setc (setc a j w) (j+1) w)=0:=fun w=>dt_adj _ j hj fun r _=>by simp [setc]
 have comm:∀ w z:Nat→Rat,setc (setc a j w) (j+1) z=setc (setc a (j+1) z) j w:=fun w z=>by
  funext r c;unfold setc;split
  ·split
   ·omega
   ·rfl
  ·rfl
 have h0:=key fun r=>1 * u r+1 * v r
 rw [dt_lin _ (j+1) 1 1 u v hj,comm,comm,dt_lin _ j 1 1 u v (by omega),dt_lin _ j 1 1 u v (by omega),← comm,← comm,← comm,← comm,key u,key v] at h0
 grind
theorem dt_alt {n:Nat}:∀ (d j:Nat) (a:Nat→Nat→Rat),j+1+d<n→(∀ r,r<n→a r j=a r (j+1+d))→dt n a=0
 | 0,j,a,hj,h=>dt_adj a j hj h
 | d+1,j,a,hj,h=>by
  have e1:dt n a=dt n (setc (setc a (j+1+d) fun r=>a r (j+1+d)) (j+1+d+1) fun r=>a r (j+1+d+1)):=dt_congr fun r c _ _=>by
   unfold setc;split
   ·rename_i h;rw [h]
   ·split
    ·rename_i h;rw [h]
    ·rfl
  rw [e1,dt_swap a (j+1+d) hj]
  rw [dt_alt d j _ (by omega) (fun r hr=>?_)]
  ·grind
  ·rw [setc_of _ _ _ (by omega),setc_of _ _ _ (by omega),setc_of _ _ _ (by omega),setc_at]
   exact h r hr
theorem dt_two {n:Nat} (a:Nat→Nat→Rat) {j k:Nat} (hj:j<n) (hk:k<n) (hjk:j ≠ k) (h:∀ r,r<n→a r j=a r k):dt n a=0:=by
 by_cases e:j<k
 ·exact dt_alt (k - j - 1) j a (by omega) (fun r hr=>by rw [h r hr];congr 1;omega)
 ·exact dt_alt (j - k - 1) k a (by omega) (fun r hr=>by rw [← h r hr];congr 1;omega)

theorem cramer {n:Nat} (a:Nat→Nat→Rat) (b x:Nat→Rat) (hx:∀ r,r<n→sm n (fun c=>a r c * x c)=b r) {j:Nat} (hj:j<n):dt n (setc a j b)=x j * dt n a:=by
 have h1:∀ m,m≤n→dt n (setc a j fun r=>sm m fun c=>a r c * x c)=sm m fun c=>x c * dt n (setc a j fun r=>a r c):=by
  intro m hm
  induction m with
  | zero =>
   have:=dt_lin a j 0 0 (fun _=>0) (fun _=>0) hj
   have e:dt n (setc a j fun r=>sm 0 fun c=>a r c * x c)=dt n (setc a j fun r=>0 * (0:Rat)+0 * 0):=dt_congr fun r c _ _=>by
    unfold setc;split
    ·simp only [sm_zero];grind
    ·rfl
   rw [e,this];simp only [sm_zero];grind
  | succ m ih =>
   have:=dt_lin a j 1 (x m) (fun r=>sm m fun c=>a r c * x c) (fun r=>a r m) hj
   have e:dt n (setc a j fun r=>sm (m+1) fun c=>a r c * x c)=dt n (setc a j fun r=>1 * (sm m fun c=>a r c * x c)+x m * a r m):=dt_congr fun r c _ _=>by
    unfold setc;split
    ·simp only [sm_succ];grind
    ·rfl
   rw [e,this,ih (by omega),sm_succ];grind
 have h2:dt n (setc a j b)=dt n (setc a j fun r=>sm n fun c=>a r c * x c):=dt_congr fun r c hr _=>by
  unfold setc;split
  ·exact (hx r hr).symm
  ·rfl
 rw [h2,h1 n (Nat.le_refl _),sm_one hj (fun c hc hcj=>?_),setc_same]
 rw [dt_two (setc a j fun r=>a r c) hj hc (fun h=>hcj h.symm) (fun r _=>by rw [setc_at,setc_of _ _ _ hcj])]
 grind
end Go.Lin

/- Equations solved by elimination,in plain Lean. By an AI agent;nothing here is trusted. -/
namespace Go.Lin

def ker (n:Nat) (m:Nat→Nat→Rat) (x:Nat→Rat):Prop:=∀ r,r<n→sm (n+1) (fun c=>m r c * x c)=0
def swr (m:Nat→Nat→Rat) (c a:Nat):Nat→Nat→Rat:=fun r k=>m (if r=c then a else if r=a then c else r) k
def elK (m:Nat→Nat→Rat) (i c:Nat) (q:Rat) (K:Nat):Nat→Nat→Rat:=fun r k=>if r=i∧c≤k∧k<K then m i k - q * m c k else m r k
theorem ker_swr {n:Nat} {m:Nat→Nat→Rat} {c a:Nat} (hc:c<n) (ha:a<n) (x:Nat→Rat):ker n (swr m c a) x ↔ ker n m x:=by
 constructor
 ·intro h r hr
  by_cases e1:r=c
  ·have:=h a ha
   unfold swr at this
   by_cases e2:a=c
   ·rw [if_pos e2] at this;rw [e1,← e2];exact this
   ·rw [if_neg e2,if_pos rfl] at this;rw [e1];exact this
  ·by_cases e2:r=a
   ·have:=h c hc
    unfold swr at this
    rw [if_pos rfl] at this;rw [e2];exact this
   ·have:=h r hr
    unfold swr at this
    rw [if_neg e1,if_neg e2] at this;exact this
 ·intro h r hr
  unfold swr
  by_cases e1:r=c
  ·rw [if_pos e1];exact h a ha
  ·rw [if_neg e1]
   by_cases e2:r=a
   ·rw [if_pos e2];exact h c hc
   ·rw [if_neg e2];exact h r hr
theorem ker_el {n:Nat} {m:Nat→Nat→Rat} {i c:Nat} {q:Rat} (hi:i<n) (hc:c<n) (hic:i ≠ c) (h0:∀ k,k<c→m c k=0) (x:Nat→Rat) :
  ker n (elK m i c q (n+1)) x ↔ ker n m x:=by
 have e:sm (n+1) (fun k=>elK m i c q (n+1) i k * x k)=sm (n+1) (fun k=>m i k * x k) + -q * sm (n+1) (fun k=>m c k * x k):=by
  rw [← sm_mul,← sm_add]
  refine sm_congr fun k hk=>?_
  unfold elK
  by_cases hck:c≤k
  ·rw [if_pos ⟨rfl,hck,hk⟩];grind
  ·rw [if_neg (fun h=>hck h.2.1),h0 k (by omega)];grind
 have e':∀ r,r ≠ i→sm (n+1) (fun k=>elK m i c q (n+1) r k * x k)=sm (n+1) (fun k=>m r k * x k):=fun r hr=>sm_congr fun k _=>by
  unfold elK;rw [if_neg (fun h=>hr h.1)]
 constructor
 ·intro h r hr
  by_cases hri:r=i
  ·subst hri
   have h1:=h r hr
   have h2:=h c hc
   rw [e] at h1
   rw [e' c (fun h=>hic h.symm)] at h2
   rw [h2] at h1;grind
  ·have:=h r hr;rw [e' r hri] at this;exact this
 ·intro h r hr
  by_cases hri:r=i
  ·subst hri;rw [e,h r hr,h c hc];grind
  ·rw [e' r hri];exact h r hr

def diagd (n:Nat) (m:Nat→Nat→Rat) (c:Nat):Prop:=∀ j,j<c→m j j ≠ 0∧∀ i,i<n→i ≠ j→m i j=0
def trivK (n:Nat) (a:Nat→Nat→Rat):Prop:=∀ x:Nat→Rat,(∀ r,r<n→sm n (fun c=>a r c * x c)=0)→∀ i,i<n→x i=0
theorem ker_triv {n:Nat} {a:Nat→Nat→Rat} {b:Nat→Rat} (h:trivK n a) {x:Nat→Rat} (hx:ker n (fun r c=>if c=n then b r else a r c) x) (hn:x n=0):∀ i,i<n→x i=0:=by
 refine h x fun r hr=>?_
 have:=hx r hr
 dsimp only at this
 rw [sm_succ,if_pos rfl,hn] at this
 rw [← sm_congr (f:=fun c=>(if c=n then b r else a r c) * x c) (fun c hc=>by rw [if_neg (by omega)])]
 grind
theorem no_pivot {n:Nat} {m:Nat→Nat→Rat} {c:Nat} (hc:c<n) (hd:diagd n m c) (h0:∀ i,c≤i→i<n→m i c=0):∃ x:Nat→Rat,ker n m x∧x n=0∧x c ≠ 0:=by
 refine ⟨fun j=>if j<c then -(m j c / m j j) else if j=c then 1 else 0,?_,?_,?_⟩
 ·intro r hr
  by_cases hrc:r<c
  ·have e:sm (n+1) (fun k=>m r k * (if k<c then -(m k c / m k k) else if k=c then 1 else 0))=sm (n+1) (fun k=>(if k=r then -(m r c) else 0)+(if k=c then m r c else 0)):=by
    refine sm_congr fun k hk=>?_
    by_cases h1:k=r
    ·subst h1
     rw [if_pos hrc,if_pos rfl,if_neg (by omega)]
     have:=(hd k hrc).1
     grind
    ·rw [if_neg h1]
     by_cases h2:k<c
     ·rw [if_pos h2,if_neg (by omega),(hd k h2).2 r hr (fun h=>h1 h.symm)];grind
     ·rw [if_neg h2]
      by_cases h3:k=c
      ·subst h3;rw [if_pos rfl,if_pos rfl];grind
      ·rw [if_neg h3,if_neg h3];grind
   rw [e,sm_add,sm_one (j:=r) (by omega) (fun i _ h=>by rw [if_neg h]),sm_one (j:=c) (by omega) (fun i _ h=>by rw [if_neg h]),if_pos rfl,if_pos rfl]
   grind
  ·refine sm_none fun k hk=>?_
   dsimp only
   by_cases h2:k<c
   ·rw [(hd k h2).2 r hr (by omega)];grind
   ·rw [if_neg h2]
    by_cases h3:k=c
    ·subst h3;rw [if_pos rfl,h0 r (by omega) hr];grind
    ·rw [if_neg h3];grind
 ·dsimp only;rw [if_neg (by omega),if_neg (by omega)]
 ·dsimp only;rw [if_neg (by omega),if_pos rfl];decide
theorem diag_sol {n:Nat} {m:Nat→Nat→Rat} (hd:diagd n m n):ker n m (fun j=>if j<n then m j n / m j j else -1):=by
 intro r hr
 have e:sm (n+1) (fun k=>m r k * (if k<n then m k n / m k k else -1))=sm (n+1) (fun k=>(if k=r then m r n else 0)+(if k=n then -(m r n) else 0)):=by
  refine sm_congr fun k hk=>?_
  by_cases h1:k=r
  ·subst h1
   rw [if_pos hr,if_pos rfl,if_neg (by omega)]
   have:=(hd k hr).1
   grind
  ·rw [if_neg h1]
   by_cases h2:k<n
   ·rw [if_pos h2,if_neg (by omega),(hd k h2).2 r hr (fun h=>h1 h.symm)];grind
   ·rw [if_neg h2]
    have h3:k=n:=by omega
    subst h3;rw [if_pos rfl];grind
 rw [e,sm_add,sm_one (j:=r) (by omega) (fun i _ h=>by rw [if_neg h]),sm_one (j:=n) (by omega) (fun i _ h=>by rw [if_neg h]),if_pos rfl,if_pos rfl]
 grind
theorem ker_sol {n:Nat} {a:Nat→Nat→Rat} {b x:Nat→Rat} (h:ker n (fun r c=>if c=n then b r else a r c) x) (hn:x n = -1):∀ r,r<n→sm n (fun c=>a r c * x c)=b r:=by
 intro r hr
 have:=h r hr
 dsimp only at this
 rw [sm_succ,if_pos rfl,hn] at this
 rw [← sm_congr (f:=fun c=>(if c=n then b r else a r c) * x c) (fun c hc=>by rw [if_neg (by omega)])]
 grind
theorem diag_step {n:Nat} {m:Nat→Nat→Rat} {c:Nat} (hc:c<n) (hd:diagd n m c) (hp:m c c ≠ 0) (hz:∀ i,i<n→i ≠ c→m i c=0):diagd n m (c+1):=by
 intro j hj
 by_cases h:j=c
 ·subst h;exact ⟨hp,hz⟩
 ·exact hd j (by omega)
theorem diag_el {n:Nat} {m:Nat→Nat→Rat} {c i:Nat} {q:Rat} (K:Nat) (hc:c<n) (hic:i ≠ c) (hd:diagd n m c):diagd n (elK m i c q K) c:=by
 intro j hj
 have h1:∀ r,elK m i c q K r j=m r j:=fun r=>by unfold elK;rw [if_neg (fun h=>by omega)]
 rw [h1]
 exact ⟨(hd j hj).1,fun r hr hrj=>by rw [h1];exact (hd j hj).2 r hr hrj⟩
theorem diag_swr {n:Nat} {m:Nat→Nat→Rat} {c a:Nat} (hc:c<n) (hca:c≤a) (ha:a<n) (hd:diagd n m c):diagd n (swr m c a) c:=by
 intro j hj
 have h1:swr m c a j j=m j j:=by unfold swr;rw [if_neg (by omega),if_neg (by omega)]
 rw [h1]
 refine ⟨(hd j hj).1,fun r hr hrj=>?_⟩
 unfold swr
 by_cases e1:r=c
 ·rw [if_pos e1];exact (hd j hj).2 a ha (by omega)
 ·rw [if_neg e1]
  by_cases e2:r=a
  ·rw [if_pos e2];exact (hd j hj).2 c hc (by omega)
  ·rw [if_neg e2];exact (hd j hj).2 r hr hrj

theorem elim_all {n:Nat} (c:Nat) (hc:c<n):∀ (K:Nat) (m:Nat→Nat→Rat),K≤n→diagd n m c→m c c ≠ 0→∃ m',diagd n m' c∧m' c c ≠ 0∧(∀ i,i<K→i ≠ c→m' i c=0)∧∀ x,ker n m' x ↔ ker n m x
 | 0,m,_,hd,hp=>⟨m,hd,hp,fun i hi=>by omega,fun x=>Iff.rfl⟩
 | K+1,m,hK,hd,hp=>by
  obtain ⟨m',h1,h2,h3,h4⟩:=elim_all c hc K m (by omega) hd hp
  by_cases e:K=c
  ·exact ⟨m',h1,h2,fun i hi hic=>h3 i (by omega) hic,h4⟩
  ·have hcc:elK m' K c (m' K c / m' c c) (n+1) c c=m' c c:=by unfold elK;rw [if_neg (fun h=>e h.1.symm)]
   refine ⟨elK m' K c (m' K c / m' c c) (n+1),diag_el _ hc e h1,by rw [hcc];exact h2,fun i hi hic=>?_,fun x=>(ker_el (by omega) hc e (fun k hk=>(h1 k hk).2 c hc (by omega)) x).trans (h4 x)⟩
   by_cases hiK:i=K
   ·subst hiK;unfold elK;rw [if_pos ⟨rfl,Nat.le_refl _,by omega⟩];grind
   ·unfold elK;rw [if_neg (fun h=>hiK h.1)];exact h3 i (by omega) hic
theorem gauss {n:Nat} {a:Nat→Nat→Rat} (ht:trivK n a) (b:Nat→Rat):∀ c,c≤n→∃ m,diagd n m c∧∀ x,ker n m x ↔ ker n (fun r c=>if c=n then b r else a r c) x
 | 0,_=>⟨_,fun j hj=>by omega,fun x=>Iff.rfl⟩
 | c+1,hc=>by
  obtain ⟨m,h1,h2⟩:=gauss ht b c (by omega)
  by_cases hz:∀ i,c≤i→i<n→m i c=0
  ·obtain ⟨x,g1,g2,g3⟩:=no_pivot hc h1 hz
   exact absurd (ker_triv ht ((h2 x).1 g1) g2 c hc) g3
  ·have:∃ i,c≤i∧i<n∧m i c ≠ 0:=Classical.byContradiction fun h=>hz fun i h1 h2=>Classical.byContradiction fun h3=>h ⟨i,h1,h2,h3⟩
   obtain ⟨i,g1,g2,g3⟩:=this
   have hcc:swr m c i c c=m i c:=by unfold swr;rw [if_pos rfl]
   obtain ⟨m',k1,k2,k3,k4⟩:=elim_all c hc n (swr m c i) (Nat.le_refl _) (diag_swr hc g1 g2 h1) (by rw [hcc];exact g3)
   exact ⟨m',diag_step hc k1 k2 k3,fun x=>(k4 x).trans ((ker_swr hc g2 x).trans (h2 x))⟩
theorem solvable {n:Nat} {a:Nat→Nat→Rat} (ht:trivK n a) (b:Nat→Rat):∃ x:Nat→Rat,∀ r,r<n→sm n (fun c=>a r c * x c)=b r:=by
 obtain ⟨m,h1,h2⟩:=gauss ht b n (Nat.le_refl _)
 exact ⟨_,ker_sol ((h2 _).1 (diag_sol h1)) (by rw [if_neg (by omega)])⟩

def posD (n:Nat) (a:Nat→Nat→Rat):Prop:=∀ x:Nat→Rat,(∃ i,i<n∧x i ≠ 0)→0<sm n (fun r=>x r * sm n (fun c=>a r c * x c))
theorem posD.triv {n:Nat} {a:Nat→Nat→Rat} (h:posD n a):trivK n a:=by
 intro x hx i hi
 refine Classical.byContradiction fun hne=>?_
 have:=h x ⟨i,hi,hne⟩
 rw [sm_none (fun r hr=>by rw [hx r hr];grind)] at this
 grind
theorem sm_first (n:Nat) (f:Nat→Rat):sm (n+1) f=f 0+sm n fun i=>f (i+1):=by
 induction n with
 | zero=>simp only [sm];grind
 | succ n ih=>rw [sm_succ,ih,sm_succ];grind
theorem posD.tail {n:Nat} {a:Nat→Nat→Rat} (h:posD (n+1) a):posD n fun r c=>a (r+1) (c+1):=by
 intro x ⟨i,hi,hx⟩
 have:=h (fun j=>if j=0 then 0 else x (j - 1)) ⟨i+1,by omega,by rw [if_neg (by omega)];simpa using hx⟩
 rw [sm_first,if_pos rfl] at this
 have e:sm n (fun r=>(if r+1=0 then 0 else x (r+1 - 1)) * sm (n+1) (fun c=>a (r+1) c * (if c=0 then 0 else x (c - 1))))=sm n (fun r=>x r * sm n (fun c=>a (r+1) (c+1) * x c)):=by
  refine sm_congr fun r _=>?_
  rw [if_neg (by omega),Nat.add_sub_cancel,sm_first,if_pos rfl]
  congr 1
  have:sm n (fun i=>a (r+1) (i+1) * (if i+1=0 then 0 else x (i+1 - 1)))=sm n fun c=>a (r+1) (c+1) * x c:=sm_congr fun c _=>by rw [if_neg (by omega),Nat.add_sub_cancel]
  rw [this];grind
 rw [e] at this
 grind
theorem posD.det:∀ {n:Nat} {a:Nat→Nat→Rat},posD n a→0<dt n a
 | 0,_,_=>by show (0:Rat)<1;decide
 | n+1,a,h=>by
  obtain ⟨y,hy⟩:=solvable h.triv (fun r=>if r=0 then 1 else 0)
  have h1:=cramer a _ y hy (show 0<n+1 by omega)
  have h2:dt (n+1) (setc a 0 fun r=>if r=0 then 1 else 0)=dt n fun r c=>a (r+1) (c+1):=by
   show sm (n+1) _=_
   rw [sm_one (j:=0) (by omega) (fun i _ hi=>by rw [setc_at,if_neg hi];grind)]
   have:(dt n fun r c=>setc a 0 (fun r=>if r=0 then 1 else 0) (skip 0 r) (c+1))=dt n fun r c=>a (r+1) (c+1):=dt_congr fun r c _ _=>by
    rw [setc_of _ _ _ (by omega)];unfold skip;rw [if_neg (by omega)]
   rw [this,setc_at,if_pos rfl]
   have:sg 0=1:=by decide
   rw [this];grind
  have h3:=h.tail.det
  rw [h2] at h1
  have h4:∃ i,i<n+1∧y i ≠ 0:=by
   refine Classical.byContradiction fun hn=>?_
   have h0:∀ i,i<n+1→y i=0:=fun i hi=>Classical.byContradiction fun hne=>hn ⟨i,hi,hne⟩
   have:=hy 0 (by omega)
   rw [sm_none (fun c hc=>by rw [h0 c hc];grind),if_pos rfl] at this
   exact absurd this (by decide)
  have h5:=h y h4
  rw [sm_congr (g:=fun r=>if r=0 then y 0 else 0) (fun r hr=>by rw [hy r hr];by_cases e:r=0 <;> simp [e] <;> grind),sm_one (j:=0) (by omega) (fun i _ hi=>by rw [if_neg hi]),if_pos rfl] at h5
  rw [h1] at h3
  refine Classical.byContradiction fun hneg=>?_
  have h6:dt (n+1) a≤0:=by grind
  have h7:y 0 * dt (n+1) a≤0:=by
   have:=Rat.mul_le_mul_of_nonneg_left h6 (Rat.le_of_lt h5)
   grind
  grind
end Go.Lin

/- Shifted templates and their products,in plain Lean. By an AI agent;nothing here is trusted. -/
namespace Go.Lin

def itm (items:List Int) (n k:Nat):Int:=if k≤n∧n - k<items.length then items.getD (n - k) 0 else 0
def smI (n:Nat) (f:Nat→Int):Int:=match n with
 | 0=>0
 | n+1=>smI n f+f n
theorem smI_congr {n:Nat} {f g:Nat→Int} (h:∀ i,i<n→f i=g i):smI n f=smI n g:=by
 induction n with
 | zero=>rfl
 | succ n ih=>rw [smI,smI,ih (fun i hi=>h i (by omega)),h n (by omega)]
theorem smI_cast (n:Nat) (f:Nat→Int):((smI n f:Int):Rat)=sm n fun i=>((f i:Int):Rat):=by
 induction n with
 | zero=>rfl
 | succ n ih=>rw [smI,sm_succ,Rat.intCast_add,ih]
def gr (items:List Int) (N k m:Nat):Int:=smI N fun n=>itm items n k * itm items n m
theorem gram_sq (t N:Nat) (f:Nat→Nat→Rat) (x:Nat→Rat) :
  sm t (fun r=>x r * sm t (fun c=>(sm N fun n=>f n r * f n c) * x c))=sm N fun n=>(sm t fun r=>x r * f n r) * (sm t fun r=>x r * f n r):=by
 have e:∀ r,x r * sm t (fun c=>(sm N fun n=>f n r * f n c) * x c)=sm N fun n=>x r * f n r * sm t fun c=>x c * f n c:=by
  intro r
  rw [← sm_mul]
  have:∀ c,x r * ((sm N fun n=>f n r * f n c) * x c)=sm N fun n=>x r * f n r * (x c * f n c):=fun c=>by
   rw [← sm_mul',← sm_mul];exact sm_congr fun n _=>by grind
  simp only [this]
  rw [sm_swap]
  exact sm_congr fun n _=>sm_mul _ _ _
 simp only [e]
 rw [sm_swap]
 exact sm_congr fun n _=>sm_mul' _ _ _
theorem sm_nn {n:Nat} {f:Nat→Rat} (h:∀ i,i<n→0≤f i):0≤sm n f:=by
 induction n with
 | zero=>exact Rat.le_refl
 | succ n ih=>rw [sm_succ];have:=ih (fun i hi=>h i (by omega));have:=h n (by omega);grind
theorem sm_pos {n:Nat} {f:Nat→Rat} (h:∀ i,i<n→0≤f i) {j:Nat} (hj:j<n) (hp:0<f j):0<sm n f:=by
 induction n with
 | zero=>omega
 | succ n ih =>
  rw [sm_succ]
  by_cases e:j=n
  ·subst e;have:=sm_nn (n:=j) (f:=f) (fun i hi=>h i (by omega));grind
  ·have:=ih (fun i hi=>h i (by omega)) (by omega);have:=h n (by omega);grind
theorem sq_nn (a:Rat):0≤a * a:=by
 by_cases h:0≤a
 ·exact Rat.mul_nonneg h h
 ·have:0 ≤ -a:=by grind
  have:=Rat.mul_nonneg this this
  grind
theorem sq_pos {a:Rat} (h:a ≠ 0):0<a * a:=by
 have:=sq_nn a
 refine Classical.byContradiction fun hn=>?_
 have:a * a=0:=by grind
 rcases Rat.mul_eq_zero.1 this with h1 | h1 <;> exact h h1
theorem least {p:Nat→Prop} {n:Nat} (h:p n):∃ m,m≤n∧p m∧∀ i,i<m→¬ p i:=by
 induction n using Nat.strongRecOn with
 | ind n ih =>
  by_cases hq:∃ i,i<n∧p i
  ·obtain ⟨i,h1,h2⟩:=hq
   obtain ⟨m,g1,g2,g3⟩:=ih i h1 h2
   exact ⟨m,by omega,g2,g3⟩
  ·exact ⟨n,Nat.le_refl _,h,fun i hi hpi=>hq ⟨i,hi,hpi⟩⟩
theorem gram_posD {items:List Int} (hne:∃ x ∈ items,x ≠ 0) {S:Nat} {t:Nat} {T:Nat→Nat} (hT:∀ r,r<t→T r<S) (hm:∀ r c,r<c→c<t→T r<T c) :
  posD t fun r c=>((gr items (S+items.length - 1) (T r) (T c):Int):Rat):=by
 intro x ⟨i,hi,hx⟩
 obtain ⟨y,hy,hy0⟩:=hne
 obtain ⟨j,hj,rfl⟩:=List.getElem_of_mem hy
 obtain ⟨i0,a1,a2,a3⟩:=least (p:=fun i=>x i ≠ 0) hx
 obtain ⟨j0,b1,b2,b3⟩:=least (p:=fun j=>items.getD j 0 ≠ 0) (n:=j) (by simpa [List.getD,hj] using hy0)
 have e:∀ r c,((gr items (S+items.length - 1) (T r) (T c):Int):Rat)=sm (S+items.length - 1) fun n=>((itm items n (T r):Int):Rat) * ((itm items n (T c):Int):Rat):=fun r c=>by
  rw [gr,smI_cast];exact sm_congr fun n _=>Rat.intCast_mul _ _
 simp only [e]
 rw [gram_sq t _ (fun n r=>((itm items n (T r):Int):Rat)) x]
 have hTi:=hT i0 (by omega)
 refine sm_pos (fun n _=>sq_nn _) (show T i0+j0<S+items.length - 1 by omega) (sq_pos ?_)
 rw [sm_one (j:=i0) (by omega) (fun r hr hri=>?_)]
 ·have e0:itm items (T i0+j0) (T i0)=items.getD j0 0:=by
   unfold itm;rw [if_pos ⟨by omega,by omega⟩,Nat.add_sub_cancel_left]
  rw [e0]
  intro h0
  rcases Rat.mul_eq_zero.1 h0 with h1 | h1
  ·exact a2 h1
  ·exact b2 (by exact_mod_cast h1)
 ·by_cases hlt:r<i0
  ·have:x r=0:=Classical.byContradiction fun h=>a3 r hlt h
   rw [this];grind
  ·have hlt':=hm i0 r (by omega) hr
   have:itm items (T i0+j0) (T r)=0:=by
    unfold itm
    split
    ·rename_i h
     exact Classical.byContradiction fun h'=>b3 (T i0+j0 - T r) (by omega) h'
    ·rfl
   rw [this];grind

def sgI (i:Nat):Int:=if i % 2=0 then 1 else -1
def dtI:Nat→(Nat→Nat→Int)→Int
 | 0,_=>1
 | n+1,a=>smI (n+1) fun i=>sgI i * a i 0 * dtI n fun r c=>a (skip i r) (c+1)
theorem dtI_cast:∀ (n:Nat) (a:Nat→Nat→Int),((dtI n a:Int):Rat)=dt n fun r c=>((a r c:Int):Rat)
 | 0,_=>rfl
 | n+1,a=>by
  rw [dtI,dt,smI_cast]
  refine sm_congr fun i _=>?_
  rw [Rat.intCast_mul,Rat.intCast_mul,dtI_cast n]
  congr 2
  unfold sgI sg
  split <;> rfl
theorem dtI_congr:∀ {n:Nat} {a b:Nat→Nat→Int},(∀ r c,r<n→c<n→a r c=b r c)→dtI n a=dtI n b
 | 0,_,_,_=>rfl
 | n+1,a,b,h=>smI_congr fun i hi=>by
  rw [h i 0 hi (by omega),dtI_congr (n:=n) fun r c hr hc=>h (skip i r) (c+1) (skip_lt hr) (by omega)]
theorem smI_bd {n:Nat} {f:Nat→Int} {M:Int} (h:∀ i,i<n → -M≤f i∧f i≤M) : -(n * M)≤smI n f∧smI n f≤n * M:=by
 induction n with
 | zero=>simp [smI]
 | succ n ih =>
  have:=ih (fun i hi=>h i (by omega))
  have:=h n (by omega)
  rw [smI,show ((n+1:Nat):Int) * M=n * M+M by grind]
  omega
theorem abs_mul {a b A B:Int} (ha : -A≤a∧a≤A) (hb : -B≤b∧b≤B) : -(A * B)≤a * b∧a * b≤A * B:=by
 have h1:(a.natAbs:Int)≤A:=by omega
 have h2:(b.natAbs:Int)≤B:=by omega
 have h3:(a.natAbs:Int) * b.natAbs≤A * B:=Int.mul_le_mul h1 h2 (by omega) (by omega)
 rw [← Int.natCast_mul,← Int.natAbs_mul] at h3
 omega
end Go.Lin

/- The best charges,in plain Lean. By an AI agent;nothing here is trusted. -/
namespace Go.Lin

section
variable (items:List Int) (S N:Nat) (s:Nat→Rat)
def md (x:Nat→Rat) (n:Nat):Rat:=sm S fun k=>x k * ((itm items n k:Int):Rat)
def grad (x:Nat→Rat) (k:Nat):Rat:=sm N fun n=>(s n - md items S x n) * ((itm items n k:Int):Rat)
def best (x:Nat→Rat):Prop:=∀ k,k<S→0≤x k∧grad items S N s x k≤0∧x k * grad items S N s x k=0
variable {items S N s}

theorem sm_sub (n:Nat) (f g:Nat→Rat):sm n (fun i=>f i - g i)=sm n f - sm n g:=by
 have:sm n (fun i=>f i - g i)=sm n (fun i=>f i+(-1) * g i):=sm_congr fun i _=>by grind
 rw [this,sm_add,sm_mul];grind
end
end Go.Lin

/- Divisors,multiples,digits of quotients,in plain Lean. By an AI agent;nothing here is trusted. -/
namespace Go.Lin

theorem lcm_div {d a b:Nat} (hd:0<d) (ha:a ∣ d) (hb:b ∣ d):Nat.lcm (d / a) (d / b)=d / Nat.gcd a b:=by
 have ha0:0<a:=Nat.pos_of_dvd_of_pos ha hd
 have hb0:0<b:=Nat.pos_of_dvd_of_pos hb hd
 have hg0:0<Nat.gcd a b:=Nat.gcd_pos_of_pos_left _ ha0
 have hg:Nat.gcd a b ∣ d:=Nat.dvd_trans (Nat.gcd_dvd_left _ _) ha
 apply Nat.dvd_antisymm
 ·apply Nat.lcm_dvd
  ·obtain ⟨x,hx⟩:=Nat.gcd_dvd_left a b
   obtain ⟨y,hy⟩:=ha
   rw [hy,Nat.mul_div_cancel_left _ ha0]
   generalize Nat.gcd a b=g at *
   rw [hx,Nat.mul_assoc,Nat.mul_div_cancel_left _ hg0]
   exact Nat.dvd_mul_left _ _
  ·obtain ⟨x,hx⟩:=Nat.gcd_dvd_right a b
   obtain ⟨y,hy⟩:=hb
   rw [hy,Nat.mul_div_cancel_left _ hb0]
   generalize Nat.gcd a b=g at *
   rw [hx,Nat.mul_assoc,Nat.mul_div_cancel_left _ hg0]
   exact Nat.dvd_mul_left _ _
 ·have h1:d ∣ Nat.lcm (d / a) (d / b) * a:=by
   have:=Nat.mul_dvd_mul_right (Nat.dvd_lcm_left (d / a) (d / b)) a
   rwa [Nat.div_mul_cancel ha] at this
  have h2:d ∣ Nat.lcm (d / a) (d / b) * b:=by
   have:=Nat.mul_dvd_mul_right (Nat.dvd_lcm_right (d / a) (d / b)) b
   rwa [Nat.div_mul_cancel hb] at this
  have h3:d ∣ Nat.lcm (d / a) (d / b) * Nat.gcd a b:=by
   rw [← Nat.gcd_mul_left];exact Nat.dvd_gcd h1 h2
  have h4:d / Nat.gcd a b * Nat.gcd a b ∣ Nat.lcm (d / a) (d / b) * Nat.gcd a b:=by rwa [Nat.div_mul_cancel hg]
  exact Nat.dvd_of_mul_dvd_mul_right hg0 h4

def gcds (d:Nat) (l:List Nat):Nat:=l.foldl Nat.gcd d
def lcms (d:Nat) (L:Nat) (l:List Nat):Nat:=l.foldl (fun m p=>Nat.lcm m (d / Nat.gcd d p)) L
theorem gcds_dvd (l:List Nat):∀ d,gcds d l ∣ d:=by
 induction l with
 | nil=>exact fun d=>Nat.dvd_refl _
 | cons p l ih=>exact fun d=>Nat.dvd_trans (ih (Nat.gcd d p)) (Nat.gcd_dvd_left _ _)
theorem gcds_mem {l:List Nat}:∀ {d p:Nat},p ∈ l→gcds d l ∣ p:=by
 induction l with
 | nil=>intro d p h;cases h
 | cons q l ih =>
  intro d p h
  rcases List.mem_cons.1 h with rfl | h
  ·exact Nat.dvd_trans (gcds_dvd l _) (Nat.gcd_dvd_right _ _)
  ·exact ih h
theorem lcms_eq {d:Nat} (hd:0<d) (l:List Nat):∀ g,g ∣ d→lcms d (d / g) l=d / gcds g l:=by
 induction l with
 | nil=>intro g _;rfl
 | cons p l ih =>
  intro g hg
  show lcms d (Nat.lcm (d / g) (d / Nat.gcd d p)) l=d / gcds (Nat.gcd g p) l
  rw [lcm_div hd hg (Nat.gcd_dvd_left _ _)]
  have:Nat.gcd g (Nat.gcd d p)=Nat.gcd g p:=by rw [← Nat.gcd_assoc,Nat.gcd_eq_left hg]
  rw [this]
  exact ih _ (Nat.dvd_trans (Nat.gcd_dvd_left _ _) hg)
theorem lcms_one {d:Nat} (hd:0<d) (l:List Nat):lcms d 1 l=d / gcds d l:=by
 have:=lcms_eq hd l d (Nat.dvd_refl _)
 rwa [Nat.div_self hd] at this

end Go.Lin

/- The contract of bits.Div64. By an AI agent;nothing here is trusted. -/
namespace Go.Proofs.YtgmpcbpmnimkoaaGreatDoor
open Go.Av

theorem shl_u (a s:Nat) (hs:s≤64):IntKind.u64.wrap ((a:Int) * 2 ^ min s IntKind.u64.bits)=((a * 2 ^ s % 18446744073709551616:Nat):Int):=by
 have:min s IntKind.u64.bits=s:=Nat.min_eq_left hs
 rw [this,u64_mod]
 have:(a:Int) * 2 ^ s=((a * 2 ^ s:Nat):Int):=by simp
 rw [this];omega
theorem shr_u (a s:Nat) (hs:s≤64):(a:Int).fdiv (2 ^ min s IntKind.u64.bits)=((a / 2 ^ s:Nat):Int):=by
 have:min s IntKind.u64.bits=s:=Nat.min_eq_left hs
 rw [this]
 have:(2:Int) ^ s=((2 ^ s:Nat):Int):=by simp
 rw [this,Int.fdiv_eq_ediv_of_nonneg _ (Int.natCast_nonneg _)];rfl
theorem or_u (a b k:Nat) (hk:k≤64) (ha:2 ^ k ∣ a) (hb:b<2 ^ k) (h:a+b<18446744073709551616) :
  IntKind.u64.wrap ((((BitVec.ofInt IntKind.u64.bits (a:Int)) ||| (BitVec.ofInt IntKind.u64.bits (b:Int))).toNat:Nat):Int)=((a+b:Nat):Int):=by
 have e1:∀ x:Nat,x<18446744073709551616→(BitVec.ofInt IntKind.u64.bits (x:Int)).toNat=x:=fun x hx=>by
  rw [BitVec.toNat_ofInt]
  show ((x:Int) % ((2 ^ 64:Nat):Int)).toNat=x
  omega
 obtain ⟨c,rfl⟩:=ha
 have e2:2 ^ k * c ||| b=2 ^ k * c+b:=by
  rw [Nat.mul_comm,← Nat.shiftLeft_eq,Nat.shiftLeft_add_eq_or_of_lt hb]
 rw [BitVec.toNat_or,e1 _ (by omega),e1 _ (by omega),e2]
 exact u64_wrap (by omega)
theorem add_u (a b:Nat) (h:a+b<18446744073709551616):IntKind.u64.wrap ((a:Int)+b)=((a+b:Nat):Int):=by rw [← Int.natCast_add];exact u64_wrap (by omega)
theorem sub_u (a b:Nat) (h:b≤a) (ha:a<18446744073709551616):IntKind.u64.wrap ((a:Int) - b)=((a - b:Nat):Int):=by
 have:(a:Int) - b=((a - b:Nat):Int):=by omega
 rw [this];exact u64_wrap (by omega)
end Go.Proofs.YtgmpcbpmnimkoaaGreatDoor

/- Signs,sizes,halves of numbers of 128 bits;the common divisor. By an AI agent;nothing here is trusted. -/
namespace Go.Proofs.YtgmpcbpmnimkoaaGreatDoor
open Go.Av

def vl (p:Bool × Nat):Int:=wdV p.1 p.2
def plP (p q:Bool × Nat):Bool × Nat:=if p.1=q.1 then (p.1,p.2+q.2) else if p.2<q.2 then (q.1,q.2 - p.2) else (p.1,p.2 - q.2)
def ngP (p:Bool × Nat):Bool × Nat:=(!p.1,p.2)
def tmP (p:Bool × Nat) (k:Int):Bool × Nat:=(p.1 != decide (k<0),p.2 * k.natAbs)
theorem vl_abs (p:Bool × Nat):(vl p).natAbs=p.2:=by
 obtain ⟨b,n⟩:=p
 unfold vl wdV
 cases b <;> simp
theorem vl_ng (p:Bool × Nat):vl (ngP p) = - vl p:=by
 obtain ⟨b,n⟩:=p
 unfold vl ngP wdV
 cases b <;> simp
theorem vl_pl (p q:Bool × Nat):vl (plP p q)=vl p+vl q:=by
 obtain ⟨b,m⟩:=p
 obtain ⟨c,n⟩:=q
 unfold vl plP wdV
 cases b <;> cases c <;> simp
 all_goals (try split)
 all_goals (try simp)
 all_goals (try omega)
theorem vl_tm (p:Bool × Nat) (k:Int):vl (tmP p k)=vl p * k:=by
 obtain ⟨b,n⟩:=p
 unfold vl tmP wdV
 by_cases h:k<0
 ·have hk:k = -(k.natAbs:Int):=by omega
  cases b <;> simp [h] <;> (conv=>rhs;rw [hk]) <;> grind
 ·have hk:k=(k.natAbs:Int):=by omega
  cases b <;> simp [h] <;> (conv=>rhs;rw [hk]) <;> grind
theorem plP_s (p q:Bool × Nat) (h:W128 (p.2+q.2)):Sound Tryz.prog 106 [wdA p.1 p.2,wdA q.1 q.2] (wdA (plP p q).1 (plP p q).2):=by
 obtain ⟨b,m⟩:=p
 obtain ⟨c,n⟩:=q
 unfold plP
 by_cases e:b=c
 ·subst e
  rw [if_pos rfl]
  exact plus_same_s b m n h
 ·have hc:c=!b:=by cases b <;> cases c <;> simp_all
  subst hc
  rw [if_neg e]
  unfold W128 at h
  simp only at h
  have:=plus_other_s b m n (by unfold W128;omega) (by unfold W128;omega)
  simp only
  split
  ·rename_i g;rw [if_pos g] at this;exact this
  ·rename_i g;rw [if_neg g] at this;exact this
theorem ngP_s (p:Bool × Nat):Sound Tryz.prog 185 [wdA p.1 p.2] (wdA (ngP p).1 (ngP p).2):=negated_s p.1 p.2
theorem tmP_s (p:Bool × Nat) (k:Int) (hk:S63 k) (hb:W128 (p.2 * k.natAbs)) (hm:W128 p.2):Sound Tryz.prog 108 [wdA p.1 p.2,.int .i64 k] (wdA (tmP p k).1 (tmP p k).2):=times_s p.1 p.2 k hk hb hm
theorem sign_s (p:Bool × Nat) (h:W128 p.2):Sound Tryz.prog 186 [wdA p.1 p.2] (.int .i64 (vl p).sign):=by
 refine sound_W f_pulse_wide_sign (Nat.le_of_ble_eq_true rfl) ?_
 obtain ⟨b,n⟩:=p
 have hz:=isZero_s b n h
 simp only
 unfold wdA at hz ⊢
 simp only [c_pulse_wide_sign,vZ,Int.reduceEq,Int.reduceNe,Int.reduceLT,Int.reduceLE,Nat.reduceEqDiff,Nat.reduceAdd,reduceIte,reduceCtorEq,Nat.reduceLT,Nat.reduceLeDiff,Nat.reduceShiftRight,Nat.reduceMod]
 refine callS_of hz ?_
 by_cases h0:n=0
 ·have hs:(vl (b,n)).sign=0:=by rw [h0];unfold vl wdV;cases b <;> rfl
  rw [hs,decide_eq_true h0]
  simp only [vZ,Int.reduceEq,Int.reduceNe,Int.reduceLT,Int.reduceLE,Nat.reduceEqDiff,Nat.reduceAdd,reduceIte,reduceCtorEq,Nat.reduceLT,Nat.reduceLeDiff,Nat.reduceShiftRight,Nat.reduceMod]
 ·rw [decide_eq_false h0]
  cases b with
  | true =>
   have hs:(vl (true,n)).sign = -1:=Int.sign_eq_neg_one_of_neg (by unfold vl wdV;simp;omega)
   rw [hs]
   simp only [vZ,Int.reduceEq,Int.reduceNe,Int.reduceLT,Int.reduceLE,Nat.reduceEqDiff,Nat.reduceAdd,reduceIte,reduceCtorEq,Nat.reduceLT,Nat.reduceLeDiff,Nat.reduceShiftRight,Nat.reduceMod]
  | false =>
   have hs:(vl (false,n)).sign=1:=Int.sign_eq_one_of_pos (by unfold vl wdV;simp;omega)
   rw [hs]
   simp only [vZ,Int.reduceEq,Int.reduceNe,Int.reduceLT,Int.reduceLE,Nat.reduceEqDiff,Nat.reduceAdd,reduceIte,reduceCtorEq,Nat.reduceLT,Nat.reduceLeDiff,Nat.reduceShiftRight,Nat.reduceMod]
theorem size_s (b:Bool) (n:Nat):Sound Tryz.prog 229 [wdA b n] (wdA false n):=by
 refine sound_W f_pulse_wide_size (Nat.le_of_ble_eq_true rfl) ?_
 unfold wdA
 simp only [c_pulse_wide_size,vZ,Int.reduceEq,Int.reduceNe,Int.reduceLT,Int.reduceLE,Nat.reduceEqDiff,Nat.reduceAdd,reduceIte,reduceCtorEq,Nat.reduceLT,Nat.reduceLeDiff,Nat.reduceShiftRight,Nat.reduceMod]
theorem half_s (b:Bool) (n:Nat) (h:W128 n):Sound Tryz.prog 230 [wdA b n] (wdA b (n / 2)):=by
 refine sound_W f_pulse_wide_half (Nat.le_of_ble_eq_true rfl) ?_
 unfold W128 at h
 have q1:n / 2 / 18446744073709551616=n / 18446744073709551616 / 2:=by omega
 have q2:n / 2 % 18446744073709551616=(n / 18446744073709551616 * 9223372036854775808) % 18446744073709551616+n % 18446744073709551616 / 2:=by omega
 unfold wdA
 rw [q1,q2]
 have hl:n % 18446744073709551616<18446744073709551616:=by omega
 generalize n / 18446744073709551616=hi at *
 generalize n % 18446744073709551616=lo at *
 have s1:=shr_u hi (Int.toNat 1) (by decide)
 have s2:=shr_u lo (Int.toNat 1) (by decide)
 have s3:=shl_u hi (Int.toNat 63) (by decide)
 have e1:2 ^ (Int.toNat 1)=2:=rfl
 have e63:2 ^ (Int.toNat 63)=9223372036854775808:=by decide
 rw [e1] at s1 s2
 rw [e63] at s3
 have o1:=or_u (hi * 9223372036854775808 % 18446744073709551616) (lo / 2) 63 (by omega) (by rw [show (2:Nat) ^ 63=9223372036854775808 by decide];omega) (by rw [show (2:Nat) ^ 63=9223372036854775808 by decide];omega) (by omega)
 have o2:IntKind.u64.wrap ((((BitVec.ofInt IntKind.u64.bits ((lo / 2:Nat):Int)) ||| (BitVec.ofInt IntKind.u64.bits ((hi * 9223372036854775808 % 18446744073709551616:Nat):Int))).toNat:Nat):Int)=((hi * 9223372036854775808 % 18446744073709551616+lo / 2:Nat):Int):=by
  rw [BitVec.or_comm];exact o1
 generalize hi * 9223372036854775808 % 18446744073709551616+lo / 2=r at *
 simp only [c_pulse_wide_half,s1,s2,s3,o2,vZ,Int.reduceEq,Int.reduceNe,Int.reduceLT,Int.reduceLE,Nat.reduceEqDiff,Nat.reduceAdd,reduceIte,reduceCtorEq,Nat.reduceLT,Nat.reduceLeDiff,Nat.reduceShiftRight,Nat.reduceMod]
theorem twice_s (b:Bool) (n:Nat) (h:W128 (n+n)):Sound Tryz.prog 231 [wdA b n] (wdA b (n+n)):=by
 refine sound_W f_pulse_wide_twice (Nat.le_of_ble_eq_true rfl) ?_
 have hp:=plus_same_s b n n h
 unfold wdA at hp ⊢
 simp only [c_pulse_wide_twice,vZ,Int.reduceEq,Int.reduceNe,Int.reduceLT,Int.reduceLE,Nat.reduceEqDiff,Nat.reduceAdd,reduceIte,reduceCtorEq,Nat.reduceLT,Nat.reduceLeDiff,Nat.reduceShiftRight,Nat.reduceMod]
 refine callS_of hp ?_
 simp only [vZ,Int.reduceEq,Int.reduceNe,Int.reduceLT,Int.reduceLE,Nat.reduceEqDiff,Nat.reduceAdd,reduceIte,reduceCtorEq,Nat.reduceLT,Nat.reduceLeDiff,Nat.reduceShiftRight,Nat.reduceMod]

theorem or_g (x y:Nat) (hx:x<18446744073709551616) (hy:y<18446744073709551616):IntKind.u64.wrap ((((BitVec.ofInt IntKind.u64.bits (x:Int)) ||| (BitVec.ofInt IntKind.u64.bits (y:Int))).toNat:Nat):Int)=((x ||| y:Nat):Int):=by
 have e1:∀ x:Nat,x<18446744073709551616→(BitVec.ofInt IntKind.u64.bits (x:Int)).toNat=x:=fun x hx=>by
  rw [BitVec.toNat_ofInt]
  show ((x:Int) % ((2 ^ 64:Nat):Int)).toNat=x
  omega
 rw [BitVec.toNat_or,e1 _ hx,e1 _ hy]
 have:x ||| y<2 ^ 64:=Nat.or_lt_two_pow hx hy
 exact u64_wrap (by omega)
theorem and_1 (x:Nat) (h:x<18446744073709551616):IntKind.u64.wrap ((((BitVec.ofInt IntKind.u64.bits (x:Int)) &&& (BitVec.ofInt IntKind.u64.bits 1)).toNat:Nat):Int)=((x % 2:Nat):Int):=by
 have h1:((BitVec.ofInt IntKind.u64.bits (x:Int)) &&& (BitVec.ofInt IntKind.u64.bits 1)).toNat=x % 2:=by
  rw [BitVec.toNat_and]
  have e1:(BitVec.ofInt IntKind.u64.bits (x:Int)).toNat=x:=by
   rw [BitVec.toNat_ofInt]
   show ((x:Int) % ((2 ^ 64:Nat):Int)).toNat=x
   omega
  have e2:(BitVec.ofInt IntKind.u64.bits 1).toNat=2 ^ 1 - 1:=by decide
  rw [e1,e2,Nat.and_two_pow_sub_one_eq_mod]
 rw [h1,u64_mod]
 omega
theorem or_par (x y:Nat):(x ||| y) % 2=0 ↔ x % 2=0∧y % 2=0:=by
 have:=Nat.or_mod_two_pow (a:=x) (b:=y) (n:=1)
 rw [Nat.pow_one] at this
 rw [this]
 rcases Nat.mod_two_eq_zero_or_one x with h | h <;> rcases Nat.mod_two_eq_zero_or_one y with g | g <;> rw [h,g] <;> decide
end Go.Proofs.YtgmpcbpmnimkoaaGreatDoor

/- Determinants. By an AI agent;nothing here is trusted. -/
namespace Go.Proofs.YtgmpcbpmnimkoaaGreatDoor
open Go.Av

def lls (R:List (List Int)):List AV:=R.map fun r=>.sl (ints r)
theorem lls_length (R:List (List Int)):(lls R).length=R.length:=by simp [lls]
theorem lls_get (R:List (List Int)) (i:Nat) (h:i<R.length):(lls R)[i]?=some (.sl (ints R[i])):=by simp [lls,h]
theorem lls_snoc (R:List (List Int)) (r:List Int):lls R ++ [.sl (ints r)]=lls (R ++ [r]):=by simp [lls]
theorem lls_fxB (R:List (List Int)):(lls R).all fx=true:=List.all_eq_true.2 fun x hx=>by
 obtain ⟨y,_,rfl⟩:=List.mem_map.1 hx;rfl
theorem lls_immT (R:List (List Int)) (n:Nat):((lls R).take n).all imm=true:=List.all_eq_true.2 fun x hx=>by
 obtain ⟨y,_,rfl⟩:=List.mem_map.1 (List.mem_of_mem_take hx);rfl
def ent (R:List (List Int)) (r c:Nat):Int:=(R.getD r []).getD c 0
def mnr (R:List (List Int)) (i:Nat):List (List Int):=(R.eraseIdx i).map List.tail
def dtS (f:Nat→Bool × Nat) (R:List (List Int)):Nat→Bool × Nat
 | 0=>(false,0)
 | i+1=>if ent R i 0=0 then dtS f R i else plP (dtS f R i) (if i % 2=1 then ngP (tmP (f i) (ent R i 0)) else tmP (f i) (ent R i 0))
def dtP:Nat→List (List Int)→Bool × Nat
 | 0,_=>(false,1)
 | n+1,R=>dtS (fun i=>dtP n (mnr R i)) R (n+1)
theorem dtS_vl (f:Nat→Bool × Nat) (R:List (List Int)):∀ i,vl (dtS f R i)=Lin.smI i fun i=>Lin.sgI i * ent R i 0 * vl (f i)
 | 0=>rfl
 | i+1=>by
  rw [dtS,Lin.smI,← dtS_vl f R i]
  by_cases h:ent R i 0=0
  ·rw [if_pos h,h];simp
  ·rw [if_neg h,vl_pl]
   unfold Lin.sgI
   by_cases g:i % 2=1
   ·rw [if_pos g,if_neg (by omega),vl_ng,vl_tm];grind
   ·rw [if_neg g,if_pos (by omega),vl_tm];grind
theorem ent_mnr (R:List (List Int)) (i r c:Nat) (hr:r+1<R.length) (hi:i<R.length):ent (mnr R i) r c=ent R (Lin.skip i r) (c+1):=by
 unfold ent mnr Lin.skip
 have hl:(R.eraseIdx i).length=R.length - 1:=List.length_eraseIdx_of_lt hi
 have h1:((R.eraseIdx i).map List.tail).getD r []=((R.eraseIdx i)[r]'(by omega)).tail:=by
  rw [List.getD_eq_getElem?_getD,List.getElem?_map,List.getElem?_eq_getElem (show r<(R.eraseIdx i).length by omega)]
  rfl
 rw [h1,List.getElem_eraseIdx]
 split
 ·rw [List.getD_eq_getElem?_getD,List.getD_eq_getElem?_getD,List.getD_eq_getElem?_getD,List.getElem?_eq_getElem (show r<R.length by omega),List.getElem?_tail];rfl
 ·rw [List.getD_eq_getElem?_getD,List.getD_eq_getElem?_getD,List.getD_eq_getElem?_getD,List.getElem?_eq_getElem (show r+1<R.length by omega),List.getElem?_tail];rfl
theorem mnr_len (R:List (List Int)) (i:Nat) (hi:i<R.length):(mnr R i).length=R.length - 1:=by
 unfold mnr;rw [List.length_map];exact List.length_eraseIdx_of_lt hi
theorem mnr_mem {R:List (List Int)} {i:Nat} {r:List Int} (h:r ∈ mnr R i):∃ q ∈ R,r=q.tail:=by
 obtain ⟨q,hq,rfl⟩:=List.mem_map.1 h
 exact ⟨q,List.mem_of_mem_eraseIdx hq,rfl⟩
theorem dtP_vl:∀ (n:Nat) (R:List (List Int)),R.length=n→vl (dtP n R)=Lin.dtI n (ent R)
 | 0,_,_=>rfl
 | n+1,R,h=>by
  rw [dtP,dtS_vl,Lin.dtI]
  refine Lin.smI_congr fun i hi=>?_
  rw [dtP_vl n (mnr R i) (by rw [mnr_len R i (by omega)];omega)]
  congr 1
  exact Lin.dtI_congr fun r c hr _=>ent_mnr R i r c (by omega) (by omega)
def prB:Nat→(Nat→Nat)→Nat
 | 0,_=>1
 | n+1,B=>(n+1) * (B 0 * prB n fun c=>B (c+1))
def bnd (n:Nat) (R:List (List Int)) (B:Nat→Nat):Prop:=∀ r c,r<n→c<n→(ent R r c).natAbs≤B c
theorem bnd.mnr {n:Nat} {R:List (List Int)} {B:Nat→Nat} (h:bnd (n+1) R B) (hl:R.length=n+1) {i:Nat} (hi:i<n+1):bnd n (mnr R i) fun c=>B (c+1):=fun r c hr hc=>by
 rw [ent_mnr R i r c (by omega) (by omega)]
 exact h _ _ (Lin.skip_lt hr) (by omega)
theorem plP_le (p q:Bool × Nat):(plP p q).2≤p.2+q.2:=by
 unfold plP
 split
 ·exact Nat.le_refl _
 ·split <;> simp <;> omega
theorem dtS_le {f:Nat→Bool × Nat} {R:List (List Int)} {M b:Nat}:∀ {i:Nat},(∀ k,k<i→(f k).2≤M∧(ent R k 0).natAbs≤b)→(dtS f R i).2≤i * (b * M)
 | 0,_=>Nat.zero_le _
 | i+1,h=>by
  have h1:=dtS_le (i:=i) fun k hk=>h k (by omega)
  obtain ⟨h2,h3⟩:=h i (by omega)
  have h4:(f i).2 * (ent R i 0).natAbs≤M * b:=Nat.mul_le_mul h2 h3
  rw [dtS,Nat.succ_mul]
  rw [Nat.mul_comm M b] at h4
  split
  ·omega
  ·refine Nat.le_trans (plP_le _ _) ?_
   split
   ·show _+(tmP (f i) (ent R i 0)).2≤_
    have:(tmP (f i) (ent R i 0)).2=(f i).2 * (ent R i 0).natAbs:=rfl
    omega
   ·have:(tmP (f i) (ent R i 0)).2=(f i).2 * (ent R i 0).natAbs:=rfl
    omega
theorem dtP_le:∀ {n:Nat} {R:List (List Int)} {B:Nat→Nat},R.length=n→bnd n R B→(dtP n R).2≤prB n B
 | 0,_,_,_,_=>Nat.le_refl _
 | n+1,R,B,h,hb=>by
  rw [dtP,prB]
  exact dtS_le fun k hk=>⟨dtP_le (by rw [mnr_len R k (by omega)];omega) (hb.mnr h hk),hb k 0 hk (by omega)⟩
def mj (R:List (List Int)) (i j:Nat):List (List Int):=((R.take j).eraseIdx i).map List.tail
theorem mj_all (R:List (List Int)) (i:Nat):mj R i R.length=mnr R i:=by unfold mj mnr;rw [List.take_length]
theorem mj_same (R:List (List Int)) {i:Nat} (h:i<R.length):mj R i (i+1)=mj R i i:=by
 unfold mj
 have hT:(R.take i).length=i:=List.length_take_of_le (by omega)
 have e:R.take (i+1)=R.take i ++ [R[i]]:=List.take_succ_eq_append_getElem h
 rw [e]
 generalize R.take i=T at *
 rw [List.eraseIdx_append_of_length_le (by omega),hT,Nat.sub_self,List.eraseIdx_of_length_le (l:=T) (by omega)]
 show List.map List.tail (T ++ [])=_
 rw [List.append_nil]
theorem mj_next (R:List (List Int)) {i j:Nat} (h:j<R.length) (hn:j ≠ i):mj R i (j+1)=mj R i j ++ [R[j].tail]:=by
 unfold mj
 have hT:(R.take j).length=j:=List.length_take_of_le (by omega)
 have e:R.take (j+1)=R.take j ++ [R[j]]:=List.take_succ_eq_append_getElem h
 rw [e]
 generalize R.take j=T at *
 by_cases e:i<j
 ·rw [List.eraseIdx_append_of_lt_length (by omega),List.map_append];rfl
 ·rw [List.eraseIdx_append_of_length_le (by omega),hT,List.eraseIdx_of_length_le (l:=T) (by omega)]
  obtain ⟨k,hk⟩:∃ k,i - j=k+1:=⟨i - j - 1,by omega⟩
  rw [hk,List.map_append];rfl
theorem mj_len (R:List (List Int)) (i j:Nat):(mj R i j).length≤j:=by
 unfold mj;rw [List.length_map]
 exact Nat.le_trans (List.length_eraseIdx_le _ _) (by simp;omega)
theorem ints_tail (l:List Int):(ints l).drop (Int.toNat 1)=ints l.tail:=by cases l <;> rfl
theorem determinant_s:∀ (n:Nat) (R:List (List Int)) (B:Nat→Nat),n≤10→R.length=n→(∀ r ∈ R,n≤r.length∧r.length≤1000)→bnd n R B→(∀ c,c<n→1≤B c)→prB n B<170141183460469231731687303715884105728→(∀ c,c<n→B c≤1000000000000000000) →
  Sound Tryz.prog 184 [.sl (lls R)] (wdA (dtP n R).1 (dtP n R).2):=by
 intro n
 induction n with
 | zero =>
  intro R B _ hl _ _ _ _ _
  refine sound_W f_pulse_determinant (Nat.le_of_ble_eq_true rfl) ?_
  have hl':(R.length:Int)=0:=by omega
  have hO:=pwideOf_s 1 (by unfold S63;omega)
  have e1:wdA (decide ((1:Int)<0)) (1:Int).natAbs=.agg [.bool false,.int .u64 0,.int .u64 1]:=rfl
  have e2:wdA (dtP 0 R).1 (dtP 0 R).2=.agg [.bool false,.int .u64 0,.int .u64 1]:=by simp [dtP,wdA]
  rw [e1] at hO
  rw [e2]
  simp only [c_pulse_determinant,lls_length,hl',vZ,Int.reduceEq,Int.reduceNe,Int.reduceLT,Int.reduceLE,Nat.reduceEqDiff,Nat.reduceAdd,reduceIte,reduceCtorEq,Nat.reduceLT,Nat.reduceLeDiff,Nat.reduceShiftRight,Nat.reduceMod]
  refine callS_of hO ?_
  simp only [vZ,Int.reduceEq,Int.reduceNe,Int.reduceLT,Int.reduceLE,Nat.reduceEqDiff,Nat.reduceAdd,reduceIte,reduceCtorEq,Nat.reduceLT,Nat.reduceLeDiff,Nat.reduceShiftRight,Nat.reduceMod]
 | succ n ih =>
  intro R B hn10 hl hR hb hB1 hP hB2
  refine sound_W f_pulse_determinant (Nat.le_of_ble_eq_true rfl) ?_
  have hl':¬ (R.length:Int)=0:=by omega
  have hmax:=maxLen_big
  have hstep:(prB n fun c=>B (c+1))≤prB (n+1) B:=by
   rw [prB]
   exact Nat.le_trans (Nat.le_mul_of_pos_left _ (hB1 0 (by omega))) (Nat.le_mul_of_pos_left _ (by omega))
  have hdet:∀ i,i<n+1→Sound Tryz.prog 184 [.sl (lls (mnr R i))] (wdA (dtP n (mnr R i)).1 (dtP n (mnr R i)).2):=fun i hi=>by
   refine ih (mnr R i) (fun c=>B (c+1)) (by omega) (by rw [mnr_len R i (by omega)];omega) (fun r hr=>?_) (hb.mnr hl hi) (fun c hc=>hB1 _ (by omega)) ?_ (fun c hc=>hB2 _ (by omega))
   ·obtain ⟨q,hq,rfl⟩:=mnr_mem hr
    have:=hR q hq
    rw [List.length_tail];omega
   ·omega
  simp only [c_pulse_determinant,lls_length,hl',vZ,Int.reduceEq,Int.reduceNe,Int.reduceLT,Int.reduceLE,Nat.reduceEqDiff,Nat.reduceAdd,reduceIte,reduceCtorEq,Nat.reduceLT,Nat.reduceLeDiff,Nat.reduceShiftRight,Nat.reduceMod]
  refine W_loop (t:=.mk) (α:=PSigma fun i:Nat=>i≤R.length) (fun ⟨i,_⟩=>(envOf [(0,.sl (lls R)),(2,.ptr 2 0 0),(3,.ptr 3 0 0),(14,.sl (lls R)),(15,.int .i64 R.length),(16,.int .i64 i)],stOf [(2,⟨157,3,[.agg [.bool false,.int .u64 0,.int .u64 0]]⟩),(3,⟨157,3,[wdA (dtS (fun i=>dtP n (mnr R i)) R i).1 (dtS (fun i=>dtP n (mnr R i)) R i).2]⟩)])) (fun x=>R.length - x.1) ⟨0,Nat.zero_le _⟩ ?_ (fun ⟨i,hi⟩=>?_)
  ·have z:wdA (dtS (fun i=>dtP n (mnr R i)) R 0).1 (dtS (fun i=>dtP n (mnr R i)) R 0).2=.agg [.bool false,.int .u64 0,.int .u64 0]:=by simp [dtS,wdA]
   refine weakX [] (of_decide_eq_true rfl) (of_decide_eq_true rfl) ?_
   (simp only [z,vcW,vZ,Int.reduceEq,Int.reduceNe,Int.reduceLT,Int.reduceLE,Nat.reduceEqDiff,Nat.reduceAdd,reduceIte,reduceCtorEq,Nat.reduceLT,Nat.reduceLeDiff,Nat.reduceShiftRight,Nat.reduceMod])
   (repeat' first | exact trivial | (with_reducible first | exact RnB.fxB (ints_fxB _) | rfl | refine And.intro ?_ ?_) | (with_reducible (first | refine RnB.bb ?_ | refine RnB.nb ?_);simp only [vcW,vZ,Int.reduceEq,Int.reduceNe,Int.reduceLT,Int.reduceLE,Nat.reduceEqDiff,Nat.reduceAdd,reduceIte,reduceCtorEq,Nat.reduceLT,Nat.reduceLeDiff,Nat.reduceShiftRight,Nat.reduceMod]) | (with_reducible first | refine RnB.ii ?_ | refine RnB.app ?_) | (with_reducible refine RnB.fxB ?_;simp only [vcW,vZ,Int.reduceEq,Int.reduceNe,Int.reduceLT,Int.reduceLE,Nat.reduceEqDiff,Nat.reduceAdd,reduceIte,reduceCtorEq,Nat.reduceLT,Nat.reduceLeDiff,Nat.reduceShiftRight,Nat.reduceMod]) | omega)
  ·dsimp only at hi ⊢
   by_cases h':i<R.length
   ·have hc1:(i:Int)<R.length:=by omega
    have hri:=hR _ (List.getElem_mem h')
    have hent:R[i][0]'(by omega)=ent R i 0:=by
     unfold ent
     rw [List.getD_eq_getElem?_getD,List.getD_eq_getElem?_getD,List.getElem?_eq_getElem h',Option.getD_some,List.getElem?_eq_getElem (by omega)];rfl
    have hg0:(ints R[i])[Int.toNat 0]?=some (.int .i64 (R[i][0]'(by omega))):=ints_get R[i] 0 (by omega)
    rw [hent] at hg0
    have hnx:dtS (fun i=>dtP n (mnr R i)) R (i+1)=if ent R i 0=0 then dtS (fun i=>dtP n (mnr R i)) R i else plP (dtS (fun i=>dtP n (mnr R i)) R i) (if i % 2=1 then ngP (tmP (dtP n (mnr R i)) (ent R i 0)) else tmP (dtP n (mnr R i)) (ent R i 0)):=rfl
    have hD:=hdet i (by omega)
    have hD2:(dtP n (mnr R i)).2≤prB n fun c=>B (c+1):=dtP_le (by rw [mnr_len R i h'];omega) (hb.mnr hl (by omega))
    have hacc:(dtS (fun i=>dtP n (mnr R i)) R i).2≤i * (B 0 * prB n fun c=>B (c+1)):=dtS_le fun k hk=>⟨dtP_le (by rw [mnr_len R k (by omega)];omega) (hb.mnr hl (by omega)),hb k 0 (by omega) (by omega)⟩
    have hent0:(ent R i 0).natAbs≤B 0:=hb i 0 (by omega) (by omega)
    have hB0:=hB2 0 (by omega)
    have hprod:(dtP n (mnr R i)).2 * (ent R i 0).natAbs≤B 0 * prB n fun c=>B (c+1):=by rw [Nat.mul_comm];exact Nat.mul_le_mul hent0 hD2
    have hone:i * (B 0 * prB n fun c=>B (c+1))+(B 0 * prB n fun c=>B (c+1))≤prB (n+1) B:=by
     rw [prB,← Nat.succ_mul];exact Nat.mul_le_mul_right _ (by omega)
    have hDle:(prB n fun c=>B (c+1))≤B 0 * prB n fun c=>B (c+1):=Nat.le_mul_of_pos_left _ (hB1 0 (by omega))
    generalize (B 0 * prB n fun c=>B (c+1))=X at *
    generalize prB (n+1) B=Y at *
    obtain ⟨A1,hA1⟩:∃ A,A=dtS (fun i=>dtP n (mnr R i)) R i:=⟨_,rfl⟩
    rw [← hA1] at hnx hacc ⊢
    by_cases hz:ent R i 0=0
    ·rw [if_pos hz] at hnx
     simp only [hc1,lls_get R i h',hg0,hz,vZ,Int.reduceEq,Int.reduceNe,Int.reduceLT,Int.reduceLE,Nat.reduceEqDiff,Nat.reduceAdd,reduceIte,reduceCtorEq,Nat.reduceLT,Nat.reduceLeDiff,Nat.reduceShiftRight,Nat.reduceMod]
     (repeat (with_reducible refine And.intro ?_ ?_;focus (first | omega | (unfold I64;omega))))
     refine ⟨⟨i+1,h'⟩,by simp only;omega,?_⟩
     refine weakX [] (of_decide_eq_true rfl) (of_decide_eq_true rfl) ?_
     (simp only [hnx,wdA,vcW,vZ,Int.reduceEq,Int.reduceNe,Int.reduceLT,Int.reduceLE,Nat.reduceEqDiff,Nat.reduceAdd,reduceIte,reduceCtorEq,Nat.reduceLT,Nat.reduceLeDiff,Nat.reduceShiftRight,Nat.reduceMod])
     (repeat' first | exact trivial | (with_reducible first | exact RnB.fxB (ints_fxB _) | rfl | refine And.intro ?_ ?_) | (with_reducible (first | refine RnB.bb ?_ | refine RnB.nb ?_);simp only [vcW,vZ,Int.reduceEq,Int.reduceNe,Int.reduceLT,Int.reduceLE,Nat.reduceEqDiff,Nat.reduceAdd,reduceIte,reduceCtorEq,Nat.reduceLT,Nat.reduceLeDiff,Nat.reduceShiftRight,Nat.reduceMod]) | (with_reducible first | refine RnB.ii ?_ | refine RnB.app ?_) | (with_reducible refine RnB.fxB ?_;simp only [vcW,vZ,Int.reduceEq,Int.reduceNe,Int.reduceLT,Int.reduceLE,Nat.reduceEqDiff,Nat.reduceAdd,reduceIte,reduceCtorEq,Nat.reduceLT,Nat.reduceLeDiff,Nat.reduceShiftRight,Nat.reduceMod]) | omega)
    ·rw [if_neg hz] at hnx
     simp only [hc1,lls_get R i h',hg0,hz,vZ,Int.reduceEq,Int.reduceNe,Int.reduceLT,Int.reduceLE,Nat.reduceEqDiff,Nat.reduceAdd,reduceIte,reduceCtorEq,Nat.reduceLT,Nat.reduceLeDiff,Nat.reduceShiftRight,Nat.reduceMod]
     refine ⟨by omega,?_⟩
     refine W_loop (t:=.mk) (α:=PSigma fun j:Nat=>j≤R.length) (fun ⟨j,_⟩=>(envOf [(0,.sl (lls R)),(2,.ptr 2 0 0),(3,.ptr 3 0 0),(4,.int .i64 i),(5,.sl (ints R[i])),(6,.buf 101 (mj R i j).length),(14,.sl (lls R)),(15,.int .i64 R.length),(16,.int .i64 i),(25,.sl (lls R)),(26,.int .i64 R.length),(27,.int .i64 j)],stOf [(2,⟨157,3,[.agg [.bool false,.int .u64 0,.int .u64 0]]⟩),(3,⟨157,3,[wdA A1.1 A1.2]⟩),(101,⟨22,1,lls (mj R i j)⟩)])) (fun x=>R.length - x.1) ⟨0,Nat.zero_le _⟩ ?_ (fun ⟨j,hj⟩=>?_)
     ·have z:mj R i 0=[]:=by simp [mj]
      have z2:lls []=[]:=rfl
      refine weakX [(101,none)] (of_decide_eq_true rfl) (of_decide_eq_true rfl) ?_
      (simp only [z,z2,lls_length,wdA,vcW,vZ,Int.reduceEq,Int.reduceNe,Int.reduceLT,Int.reduceLE,Nat.reduceEqDiff,Nat.reduceAdd,reduceIte,reduceCtorEq,Nat.reduceLT,Nat.reduceLeDiff,Nat.reduceShiftRight,Nat.reduceMod])
      (repeat' first | exact trivial | (with_reducible first | exact RnB.fxB (ints_fxB _) | rfl | refine And.intro ?_ ?_) | (with_reducible (first | refine RnB.bb ?_ | refine RnB.nb ?_);simp only [vcW,vZ,Int.reduceEq,Int.reduceNe,Int.reduceLT,Int.reduceLE,Nat.reduceEqDiff,Nat.reduceAdd,reduceIte,reduceCtorEq,Nat.reduceLT,Nat.reduceLeDiff,Nat.reduceShiftRight,Nat.reduceMod]) | (with_reducible first | refine RnB.ii ?_ | refine RnB.app ?_) | (with_reducible refine RnB.fxB ?_;simp only [vcW,vZ,Int.reduceEq,Int.reduceNe,Int.reduceLT,Int.reduceLE,Nat.reduceEqDiff,Nat.reduceAdd,reduceIte,reduceCtorEq,Nat.reduceLT,Nat.reduceLeDiff,Nat.reduceShiftRight,Nat.reduceMod]) | omega)
     ·dsimp only at hj ⊢
      by_cases hjl:j<R.length
      ·have hc2:(j:Int)<R.length:=by omega
       have hrj:=hR _ (List.getElem_mem hjl)
       have hml:=mj_len R i j
       by_cases hji:j=i
       ·subst hji
        have hsame:mj R j (j+1)=mj R j j:=mj_same R h'
        simp only [hc2,lls_get R j hjl,vZ,Int.reduceEq,Int.reduceNe,Int.reduceLT,Int.reduceLE,Nat.reduceEqDiff,Nat.reduceAdd,reduceIte,reduceCtorEq,Nat.reduceLT,Nat.reduceLeDiff,Nat.reduceShiftRight,Nat.reduceMod]
        (repeat (with_reducible refine And.intro ?_ ?_;focus (first | omega | (unfold I64;omega))))
        refine ⟨⟨j+1,hjl⟩,by simp only;omega,?_⟩
        refine weakX [(101,some 101)] (of_decide_eq_true rfl) (of_decide_eq_true rfl) ?_
        (simp only [hsame,lls_length,wdA,vcW,vZ,Int.reduceEq,Int.reduceNe,Int.reduceLT,Int.reduceLE,Nat.reduceEqDiff,Nat.reduceAdd,reduceIte,reduceCtorEq,Nat.reduceLT,Nat.reduceLeDiff,Nat.reduceShiftRight,Nat.reduceMod])
        (repeat' first | exact trivial | (with_reducible first | exact RnB.fxB (ints_fxB _) | rfl | refine And.intro ?_ ?_) | (with_reducible (first | refine RnB.bb ?_ | refine RnB.nb ?_);simp only [vcW,vZ,Int.reduceEq,Int.reduceNe,Int.reduceLT,Int.reduceLE,Nat.reduceEqDiff,Nat.reduceAdd,reduceIte,reduceCtorEq,Nat.reduceLT,Nat.reduceLeDiff,Nat.reduceShiftRight,Nat.reduceMod]) | (with_reducible first | refine RnB.ii ?_ | refine RnB.app ?_) | (with_reducible refine RnB.fxB ?_;simp only [vcW,vZ,Int.reduceEq,Int.reduceNe,Int.reduceLT,Int.reduceLE,Nat.reduceEqDiff,Nat.reduceAdd,reduceIte,reduceCtorEq,Nat.reduceLT,Nat.reduceLeDiff,Nat.reduceShiftRight,Nat.reduceMod]) | omega)
        all_goals exact RnB.fxB (lls_fxB _)
       ·have hji':¬ (j:Int)=i:=by omega
        have hnext:=mj_next R hjl hji
        have hsn:=lls_snoc (mj R i j) R[j].tail
        rw [← hnext] at hsn
        have hln:(mj R i (j+1)).length=(mj R i j).length+1:=by rw [hnext];simp
        have hcell:∀ x:AV,x ∈ ints R[j]→(cellsOf x).length=1:=fun x hx=>by
         obtain ⟨q,_,rfl⟩:=List.mem_map.1 hx;rfl
        simp only [hc2,lls_get R j hjl,hji',ints_tail,vZ,Int.reduceEq,Int.reduceNe,Int.reduceLT,Int.reduceLE,Nat.reduceEqDiff,Nat.reduceAdd,reduceIte,reduceCtorEq,Nat.reduceLT,Nat.reduceLeDiff,Nat.reduceShiftRight,Nat.reduceMod]
        refine ⟨by omega,⟨by omega,hcell⟩,⟨by rw [lls_length],by omega,by omega⟩,by unfold I64;omega,⟨j+1,hjl⟩,by simp only;omega,?_⟩
        refine weakX [(101,some 39)] (of_decide_eq_true rfl) (of_decide_eq_true rfl) ?_
        (simp only [hln,hsn,ints_tail,wdA,vcW,vZ,Int.reduceEq,Int.reduceNe,Int.reduceLT,Int.reduceLE,Nat.reduceEqDiff,Nat.reduceAdd,reduceIte,reduceCtorEq,Nat.reduceLT,Nat.reduceLeDiff,Nat.reduceShiftRight,Nat.reduceMod])
        (repeat' first | exact trivial | (with_reducible first | exact RnB.fxB (ints_fxB _) | rfl | refine And.intro ?_ ?_) | (with_reducible (first | refine RnB.bb ?_ | refine RnB.nb ?_);simp only [vcW,vZ,Int.reduceEq,Int.reduceNe,Int.reduceLT,Int.reduceLE,Nat.reduceEqDiff,Nat.reduceAdd,reduceIte,reduceCtorEq,Nat.reduceLT,Nat.reduceLeDiff,Nat.reduceShiftRight,Nat.reduceMod]) | (with_reducible first | refine RnB.ii ?_ | refine RnB.app ?_) | (with_reducible refine RnB.fxB ?_;simp only [vcW,vZ,Int.reduceEq,Int.reduceNe,Int.reduceLT,Int.reduceLE,Nat.reduceEqDiff,Nat.reduceAdd,reduceIte,reduceCtorEq,Nat.reduceLT,Nat.reduceLeDiff,Nat.reduceShiftRight,Nat.reduceMod]) | omega)
        all_goals first | exact RnB.fxB (lls_fxB _) | skip
      ·have hjl':j=R.length:=by omega
       subst hjl'
       have hc2:¬ (R.length:Int)<R.length:=by omega
       rw [mj_all]
       have hlen:(mnr R i).length=n:=by rw [mnr_len R i h'];omega
       unfold wdA at hD ⊢
       simp only [hc2,vZ,Int.reduceEq,Int.reduceNe,Int.reduceLT,Int.reduceLE,Nat.reduceEqDiff,Nat.reduceAdd,reduceIte,reduceCtorEq,Nat.reduceLT,Nat.reduceLeDiff,Nat.reduceShiftRight,Nat.reduceMod]
       rw [borB_good _ _ _ _ _ (by rw [lls_length]) (List.all_eq_true.1 (lls_fxB _))]
       refine callS_of hD ?_
       obtain ⟨P,hPd⟩:∃ P,P=dtP n (mnr R i):=⟨_,rfl⟩
       rw [← hPd] at hprod hD2 hnx ⊢
       have hT:=tmP_s P (ent R i 0) (by unfold S63;omega) (by unfold W128;omega) (by unfold W128;omega)
       have hTn:(tmP P (ent R i 0)).2=P.2 * (ent R i 0).natAbs:=rfl
       obtain ⟨T,hTd⟩:∃ T,T=tmP P (ent R i 0):=⟨_,rfl⟩
       rw [← hTd] at hT hTn hnx
       unfold wdA at hT
       simp only [hg0,vZ,Int.reduceEq,Int.reduceNe,Int.reduceLT,Int.reduceLE,Nat.reduceEqDiff,Nat.reduceAdd,reduceIte,reduceCtorEq,Nat.reduceLT,Nat.reduceLeDiff,Nat.reduceShiftRight,Nat.reduceMod]
       refine ⟨usedL_buf rfl (lls_immT _ _) rfl,?_⟩
       refine callS_of hT ?_
       have hpar:(i:Int).tmod 2=((i % 2:Nat):Int):=rfl
       by_cases ho:i % 2=1
       ·rw [if_pos ho] at hnx
        have ho':((i % 2:Nat):Int)=1:=by omega
        have hN:=ngP_s T
        have hA:=plP_s A1 (ngP T) (by unfold W128;show A1.2+T.2<_;omega)
        unfold wdA at hN hA
        simp only [hpar,ho',vZ,Int.reduceEq,Int.reduceNe,Int.reduceLT,Int.reduceLE,Nat.reduceEqDiff,Nat.reduceAdd,reduceIte,reduceCtorEq,Nat.reduceLT,Nat.reduceLeDiff,Nat.reduceShiftRight,Nat.reduceMod]
        refine callS_of hN ?_
        simp only [vZ,Int.reduceEq,Int.reduceNe,Int.reduceLT,Int.reduceLE,Nat.reduceEqDiff,Nat.reduceAdd,reduceIte,reduceCtorEq,Nat.reduceLT,Nat.reduceLeDiff,Nat.reduceShiftRight,Nat.reduceMod]
        refine callS_of hA ?_
        simp only [vZ,Int.reduceEq,Int.reduceNe,Int.reduceLT,Int.reduceLE,Nat.reduceEqDiff,Nat.reduceAdd,reduceIte,reduceCtorEq,Nat.reduceLT,Nat.reduceLeDiff,Nat.reduceShiftRight,Nat.reduceMod]
        (repeat (with_reducible refine And.intro ?_ ?_;focus (first | omega | (unfold I64;omega))))
        refine ⟨⟨i+1,h'⟩,by simp only;omega,?_⟩
        refine weakX [] (of_decide_eq_true rfl) (of_decide_eq_true rfl) ?_
        (simp only [hnx,wdA,vcW,vZ,Int.reduceEq,Int.reduceNe,Int.reduceLT,Int.reduceLE,Nat.reduceEqDiff,Nat.reduceAdd,reduceIte,reduceCtorEq,Nat.reduceLT,Nat.reduceLeDiff,Nat.reduceShiftRight,Nat.reduceMod])
        (repeat' first | exact trivial | (with_reducible first | exact RnB.fxB (ints_fxB _) | rfl | refine And.intro ?_ ?_) | (with_reducible (first | refine RnB.bb ?_ | refine RnB.nb ?_);simp only [vcW,vZ,Int.reduceEq,Int.reduceNe,Int.reduceLT,Int.reduceLE,Nat.reduceEqDiff,Nat.reduceAdd,reduceIte,reduceCtorEq,Nat.reduceLT,Nat.reduceLeDiff,Nat.reduceShiftRight,Nat.reduceMod]) | (with_reducible first | refine RnB.ii ?_ | refine RnB.app ?_) | (with_reducible refine RnB.fxB ?_;simp only [vcW,vZ,Int.reduceEq,Int.reduceNe,Int.reduceLT,Int.reduceLE,Nat.reduceEqDiff,Nat.reduceAdd,reduceIte,reduceCtorEq,Nat.reduceLT,Nat.reduceLeDiff,Nat.reduceShiftRight,Nat.reduceMod]) | omega)
       ·rw [if_neg ho] at hnx
        have ho':¬ ((i % 2:Nat):Int)=1:=by omega
        have hA:=plP_s A1 T (by unfold W128;omega)
        unfold wdA at hA
        simp only [hpar,ho',vZ,Int.reduceEq,Int.reduceNe,Int.reduceLT,Int.reduceLE,Nat.reduceEqDiff,Nat.reduceAdd,reduceIte,reduceCtorEq,Nat.reduceLT,Nat.reduceLeDiff,Nat.reduceShiftRight,Nat.reduceMod]
        refine callS_of hA ?_
        simp only [vZ,Int.reduceEq,Int.reduceNe,Int.reduceLT,Int.reduceLE,Nat.reduceEqDiff,Nat.reduceAdd,reduceIte,reduceCtorEq,Nat.reduceLT,Nat.reduceLeDiff,Nat.reduceShiftRight,Nat.reduceMod]
        (repeat (with_reducible refine And.intro ?_ ?_;focus (first | omega | (unfold I64;omega))))
        refine ⟨⟨i+1,h'⟩,by simp only;omega,?_⟩
        refine weakX [] (of_decide_eq_true rfl) (of_decide_eq_true rfl) ?_
        (simp only [hnx,wdA,vcW,vZ,Int.reduceEq,Int.reduceNe,Int.reduceLT,Int.reduceLE,Nat.reduceEqDiff,Nat.reduceAdd,reduceIte,reduceCtorEq,Nat.reduceLT,Nat.reduceLeDiff,Nat.reduceShiftRight,Nat.reduceMod])
        (repeat' first | exact trivial | (with_reducible first | exact RnB.fxB (ints_fxB _) | rfl | refine And.intro ?_ ?_) | (with_reducible (first | refine RnB.bb ?_ | refine RnB.nb ?_);simp only [vcW,vZ,Int.reduceEq,Int.reduceNe,Int.reduceLT,Int.reduceLE,Nat.reduceEqDiff,Nat.reduceAdd,reduceIte,reduceCtorEq,Nat.reduceLT,Nat.reduceLeDiff,Nat.reduceShiftRight,Nat.reduceMod]) | (with_reducible first | refine RnB.ii ?_ | refine RnB.app ?_) | (with_reducible refine RnB.fxB ?_;simp only [vcW,vZ,Int.reduceEq,Int.reduceNe,Int.reduceLT,Int.reduceLE,Nat.reduceEqDiff,Nat.reduceAdd,reduceIte,reduceCtorEq,Nat.reduceLT,Nat.reduceLeDiff,Nat.reduceShiftRight,Nat.reduceMod]) | omega)
   ·have hil:i=R.length:=by omega
    subst hil
    have hc1:¬ (R.length:Int)<R.length:=by omega
    have he:dtP (n+1) R=dtS (fun i=>dtP n (mnr R i)) R R.length:=by rw [dtP,hl]
    rw [he]
    generalize dtS (fun i=>dtP n (mnr R i)) R R.length=Q
    unfold wdA
    simp only [hc1,vZ,Int.reduceEq,Int.reduceNe,Int.reduceLT,Int.reduceLE,Nat.reduceEqDiff,Nat.reduceAdd,reduceIte,reduceCtorEq,Nat.reduceLT,Nat.reduceLeDiff,Nat.reduceShiftRight,Nat.reduceMod]
end Go.Proofs.YtgmpcbpmnimkoaaGreatDoor

/- The marked code of law functions;printed by a program. By an AI agent;nothing here is trusted. -/
namespace Go.Proofs.YtgmpcbpmnimkoaaGreatDoor
open Go.Av
def cl_pulse_fittedErr:ML:=(.seq (.reg 6 [mO 2 (.box 24 2 (.t 0)),mO 4 (.mv (.c (.int .i64 0)))] false []) (.seq (.regW 16 [mO 5 (.load (some 2) (.t 2)),mO 6 (.call 118 [(.t 5)]),mV 7 1,mO 8 (.call 151 [(.t 7)]),mV 9 1,mO 10 (.len false (.t 9)),mO 11 (.fieldAddr (.t 2) 1),mO 12 (.load none (.t 11)),mO 13 (.fieldAddr (.t 2) 0),mO 14 (.load none (.t 13)),mO 15 (.len false (.t 14)),mO 16 (.bin .add (.t 12) (.t 15)),mO 17 (.bin .sub (.t 16) (.c (.int .i64 1))),mO 18 (.bin .eql (.t 10) (.t 17)),mO 19 (.call 119 [(.t 18),(.c (.int .i64 13))]),mO 20 (.buildSlice 30 1 3 (.int .i64 0) [(0,(.t 6)),(1,(.t 8)),(2,(.t 19))]),mO 21 (.call 117 [(.t 20)]),mV 4 21] true []) .ret))
theorem e_pulse_fittedErr:cl_pulse_fittedErr.er=c_pulse_fittedErr:=rfl
end Go.Proofs.YtgmpcbpmnimkoaaGreatDoor

/- Templates: their errors,and those of samples for them. By an AI agent;nothing here is trusted. -/
namespace Go.Proofs.YtgmpcbpmnimkoaaGreatDoor
open Go.Av

def tplA (items:List Int) (shifts:Int):AV:=.agg [.sl (ints items),.int .i64 shifts]
def itm (n:Int):Bool:=decide (-100≤n∧n≤100)
def teE (items:List Int) (shifts:Int):Int:=if items.length=0 then 10 else if 6<items.length then 8 else if items.all itm=false then 2 else if items.all (fun n=>decide (n=0)) then 11 else if 1≤shifts∧shifts≤5 then 0 else 2
theorem teE_ok {items:List Int} {shifts:Int} (h:teE items shifts=0):(1≤items.length∧items.length≤6)∧(∀ x ∈ items, -100≤x∧x≤100)∧(∃ x ∈ items,x ≠ 0)∧(1≤shifts∧shifts≤5):=by
 unfold teE at h
 split at h
 ·cases h
 ·split at h
  ·cases h
  ·split at h
   ·cases h
   ·split at h
    ·cases h
    ·split at h
     ·rename_i h1 h2 h3 h4 h5
      refine ⟨by omega,fun x hx=>?_,?_,h5⟩
      ·have:=List.all_eq_true.1 (by simpa using h3) x hx
       simpa [itm] using this
      ·have h4':(items.all fun n=>decide (n=0))=false:=by simpa using h4
       rw [List.all_eq_false] at h4'
       obtain ⟨x,hx,hx2⟩:=h4'
       exact ⟨x,hx,by simpa using hx2⟩
     ·cases h
theorem first5_s (a b c d e:Int):Sound Tryz.prog 117 [.sl [.int .i64 a,.int .i64 b,.int .i64 c,.int .i64 d,.int .i64 e]] (.int .i64 (if a ≠ 0 then a else if b ≠ 0 then b else if c ≠ 0 then c else if d ≠ 0 then d else e)):=by
 have h:=first_s [a,b,c,d,e] (by simp)
 have hv:firstErr [a,b,c,d,e]=if a ≠ 0 then a else if b ≠ 0 then b else if c ≠ 0 then c else if d ≠ 0 then d else e:=by
  unfold firstErr
  simp only [List.find?_cons,List.find?_nil]
  by_cases h1:a=0 <;> by_cases h2:b=0 <;> by_cases h3:c=0 <;> by_cases h4:d=0 <;> by_cases h5:e=0 <;> simp [h1,h2,h3,h4,h5]
 rw [hv] at h
 exact h
theorem templateErr_1_s (n:Int):Sound Tryz.prog 198 [.int .i64 n] (.bool (!itm n)):=by
 refine sound_W f_pulse_templateErr_1 (Nat.le_of_ble_eq_true rfl) ?_
 simp only [c_pulse_templateErr_1,vZ,Int.reduceEq,Int.reduceNe,Int.reduceLT,Int.reduceLE,Nat.reduceEqDiff,Nat.reduceAdd,reduceIte,reduceCtorEq,Nat.reduceLT,Nat.reduceLeDiff,Nat.reduceShiftRight,Nat.reduceMod]
 refine callS_of (isSized_s _ _ (by unfold S63;omega)) ?_
 simp only [vZ,Int.reduceEq,Int.reduceNe,Int.reduceLT,Int.reduceLE,Nat.reduceEqDiff,Nat.reduceAdd,reduceIte,reduceCtorEq,Nat.reduceLT,Nat.reduceLeDiff,Nat.reduceShiftRight,Nat.reduceMod]
 rfl
theorem templateErr_2_s (n:Int):Sound Tryz.prog 200 [.int .i64 n] (.bool (!decide (n=0))):=by
 refine sound_W f_pulse_templateErr_2 (Nat.le_of_ble_eq_true rfl) ?_
 simp only [c_pulse_templateErr_2,vZ,Int.reduceEq,Int.reduceNe,Int.reduceLT,Int.reduceLE,Nat.reduceEqDiff,Nat.reduceAdd,reduceIte,reduceCtorEq,Nat.reduceLT,Nat.reduceLeDiff,Nat.reduceShiftRight,Nat.reduceMod]
theorem templateErr_s (items:List Int) (shifts:Int) (hl:items.length<4000000000000000000):Sound Tryz.prog 118 [tplA items shifts] (.int .i64 (teE items shifts)):=by
 refine sound_W f_pulse_templateErr (Nat.le_of_ble_eq_true rfl) ?_
 have h1:=contFunc_int_s items 198 [] (fun n=>!itm n) hl (by simp) (fun x _=>templateErr_1_s x)
 have h2:=contFunc_int_s items 200 [] (fun n=>!decide (n=0)) hl (by simp) (fun x _=>templateErr_2_s x)
 rw [← List.not_all_eq_any_not] at h1 h2
 simp only [c_pulse_templateErr,tplA,vZ,Int.reduceEq,Int.reduceNe,Int.reduceLT,Int.reduceLE,Nat.reduceEqDiff,Nat.reduceAdd,reduceIte,reduceCtorEq,Nat.reduceLT,Nat.reduceLeDiff,Nat.reduceShiftRight,Nat.reduceMod]
 refine callS_of h1 ?_
 simp only [vZ,Int.reduceEq,Int.reduceNe,Int.reduceLT,Int.reduceLE,Nat.reduceEqDiff,Nat.reduceAdd,reduceIte,reduceCtorEq,Nat.reduceLT,Nat.reduceLeDiff,Nat.reduceShiftRight,Nat.reduceMod]
 refine callS_of h2 ?_
 simp only [vZ,Int.reduceEq,Int.reduceNe,Int.reduceLT,Int.reduceLE,Nat.reduceEqDiff,Nat.reduceAdd,reduceIte,reduceCtorEq,Nat.reduceLT,Nat.reduceLeDiff,Nat.reduceShiftRight,Nat.reduceMod]
 refine callS_of (unless_s _ _) ?_
 simp only [vZ,Int.reduceEq,Int.reduceNe,Int.reduceLT,Int.reduceLE,Nat.reduceEqDiff,Nat.reduceAdd,reduceIte,reduceCtorEq,Nat.reduceLT,Nat.reduceLeDiff,Nat.reduceShiftRight,Nat.reduceMod]
 refine callS_of (unless_s _ _) ?_
 simp only [vZ,Int.reduceEq,Int.reduceNe,Int.reduceLT,Int.reduceLE,Nat.reduceEqDiff,Nat.reduceAdd,reduceIte,reduceCtorEq,Nat.reduceLT,Nat.reduceLeDiff,Nat.reduceShiftRight,Nat.reduceMod]
 refine callS_of (unless_s _ _) ?_
 simp only [vZ,Int.reduceEq,Int.reduceNe,Int.reduceLT,Int.reduceLE,Nat.reduceEqDiff,Nat.reduceAdd,reduceIte,reduceCtorEq,Nat.reduceLT,Nat.reduceLeDiff,Nat.reduceShiftRight,Nat.reduceMod]
 refine callS_of (unless_s _ _) ?_
 simp only [vZ,Int.reduceEq,Int.reduceNe,Int.reduceLT,Int.reduceLE,Nat.reduceEqDiff,Nat.reduceAdd,reduceIte,reduceCtorEq,Nat.reduceLT,Nat.reduceLeDiff,Nat.reduceShiftRight,Nat.reduceMod]
 refine callS_of (within_s _ _ _) ?_
 simp only [vZ,Int.reduceEq,Int.reduceNe,Int.reduceLT,Int.reduceLE,Nat.reduceEqDiff,Nat.reduceAdd,reduceIte,reduceCtorEq,Nat.reduceLT,Nat.reduceLeDiff,Nat.reduceShiftRight,Nat.reduceMod]
 refine callS_of (unless_s _ _) ?_
 simp only [vZ,Int.reduceEq,Int.reduceNe,Int.reduceLT,Int.reduceLE,Nat.reduceEqDiff,Nat.reduceAdd,reduceIte,reduceCtorEq,Nat.reduceLT,Nat.reduceLeDiff,Nat.reduceShiftRight,Nat.reduceMod]
 refine callS_of (first5_s _ _ _ _ _) ?_
 simp only [vZ,Int.reduceEq,Int.reduceNe,Int.reduceLT,Int.reduceLE,Nat.reduceEqDiff,Nat.reduceAdd,reduceIte,reduceCtorEq,Nat.reduceLT,Nat.reduceLeDiff,Nat.reduceShiftRight,Nat.reduceMod]
 refine ⟨by intro _ k hk;simp [refsL,refs,upd] at hk;subst hk;simp [upd],?_⟩
 congr 1
 unfold teE
 by_cases e1:items.length=0
 ·have e1':¬ (0:Int)<items.length:=by omega
  simp [e1,e1']
 ·have e1':(0:Int)<items.length:=by omega
  by_cases e2:6<items.length
  ·have e2':¬ (items.length:Int)≤6:=by omega
   simp [e1,e1',e2,e2']
  ·have e2':(items.length:Int)≤6:=by omega
   cases e3:items.all itm <;> cases e4:(items.all fun n=>decide (n=0)) <;> by_cases e5:1≤shifts∧shifts≤5 <;> simp [e1,e1',e2,e2',e3,e4,e5]
end Go.Proofs.YtgmpcbpmnimkoaaGreatDoor

/- Samples for a template: their error,with a sum that may wrap. By an AI agent;nothing here is trusted. -/
namespace Go.Proofs.YtgmpcbpmnimkoaaGreatDoor
open Go.Av

def fdE (items:List Int) (shifts:Int) (l:List Int):Int:=if teE items shifts ≠ 0 then teE items shifts else if smE l ≠ 0 then smE l else if (l.length:Int)=shifts+items.length - 1 then 0 else 13
theorem i64_wrap {n:Int} (h : -9223372036854775808≤n∧n≤9223372036854775807):IntKind.i64.wrap n=n:=wrap_i64 (by unfold I64;omega)
theorem fittedErr_s (items:List Int) (shifts:Int) (l:List Int) (h1:items.length<4000000000000000000) (h2:l.length<4000000000000000000):Sound Tryz.prog 91 [tplA items shifts,.sl (ints l)] (.int .i64 (fdE items shifts l)):=by
 refine sound_WL f_pulse_fittedErr e_pulse_fittedErr (Nat.le_of_ble_eq_true rfl) ?_
 have hT:=templateErr_s items shifts h1
 unfold tplA at hT
 simp only [cl_pulse_fittedErr,tplA,vZ,Int.reduceEq,Int.reduceNe,Int.reduceLT,Int.reduceLE,Nat.reduceEqDiff,Nat.reduceAdd,reduceIte,reduceCtorEq,Nat.reduceLT,Nat.reduceLeDiff,Nat.reduceShiftRight,Nat.reduceMod]
 refine callS_of hT ?_
 simp only [vZ,Int.reduceEq,Int.reduceNe,Int.reduceLT,Int.reduceLE,Nat.reduceEqDiff,Nat.reduceAdd,reduceIte,reduceCtorEq,Nat.reduceLT,Nat.reduceLeDiff,Nat.reduceShiftRight,Nat.reduceMod]
 refine callS_of (sampled_s l h2) ?_
 simp only [vZ,Int.reduceEq,Int.reduceNe,Int.reduceLT,Int.reduceLE,Nat.reduceEqDiff,Nat.reduceAdd,reduceIte,reduceCtorEq,Nat.reduceLT,Nat.reduceLeDiff,Nat.reduceShiftRight,Nat.reduceMod]
 refine callS_of (unless_s _ _) ?_
 simp only [vZ,Int.reduceEq,Int.reduceNe,Int.reduceLT,Int.reduceLE,Nat.reduceEqDiff,Nat.reduceAdd,reduceIte,reduceCtorEq,Nat.reduceLT,Nat.reduceLeDiff,Nat.reduceShiftRight,Nat.reduceMod]
 refine callS_of (first3_s _ _ _) ?_
 simp only [vZ,Int.reduceEq,Int.reduceNe,Int.reduceLT,Int.reduceLE,Nat.reduceEqDiff,Nat.reduceAdd,reduceIte,reduceCtorEq,Nat.reduceLT,Nat.reduceLeDiff,Nat.reduceShiftRight,Nat.reduceMod]
 refine ⟨by intro _ k hk;simp [refsL,refs,upd] at hk;subst hk;simp [upd],?_⟩
 congr 1
 unfold fdE
 by_cases hE:teE items shifts=0
 ·obtain ⟨⟨a1,a2⟩,_,_,a3⟩:=teE_ok hE
  have w1:IntKind.i64.wrap (shifts+items.length)=shifts+items.length:=i64_wrap (by omega)
  have w2:IntKind.i64.wrap (shifts+items.length - 1)=shifts+items.length - 1:=i64_wrap (by omega)
  simp only [w1,w2,hE,ne_eq,not_true_eq_false,if_false,decide_eq_true_eq]
 ·simp only [hE,ne_eq,not_false_eq_true,if_true]
end Go.Proofs.YtgmpcbpmnimkoaaGreatDoor

/- The model of charges,and what stands against a template. By an AI agent;nothing here is trusted. -/
namespace Go.Proofs.YtgmpcbpmnimkoaaGreatDoor
open Go.Av

def agT (items l:List Int) (k:Nat):Nat→Int
 | 0=>0
 | j+1=>agT items l k j+items.getD j 0 * l.getD (k+j) 0
theorem prod_bd {a b M:Int} (hM:0≤M) (h1 : -100≤a∧a≤100) (h2 : -M≤b∧b≤M) : -(100 * M)≤a * b∧a * b≤100 * M:=by
 by_cases ha:0≤a
 ·have:=mul_abs (s:=b) (k:=a) (K:=100) ⟨ha,h1.2⟩ hM h2
  rw [Int.mul_comm b a,Int.mul_comm M 100] at this;exact this
 ·have:=mul_abs (s:=b) (k := -a) (K:=100) ⟨by omega,by omega⟩ hM h2
  rw [Int.mul_neg,Int.mul_comm b a,Int.mul_comm M 100] at this;omega
theorem agT_bd {items l:List Int} {M:Int} (hM:0≤M) (hi:∀ x ∈ items, -100≤x∧x≤100) (hl:∀ x ∈ l, -M≤x∧x≤M) (k:Nat):∀ j, -(100 * M * j)≤agT items l k j∧agT items l k j≤100 * M * j
 | 0=>by simp [agT]
 | j+1=>by
  have ih:=agT_bd hM hi hl k j
  have h1 : -100≤items.getD j 0∧items.getD j 0≤100:=by
   by_cases h:j<items.length
   ·rw [getD_at h];exact hi _ (List.getElem_mem h)
   ·simp [List.getD,List.getElem?_eq_none (Nat.le_of_not_lt h)]
  have h2 : -M≤l.getD (k+j) 0∧l.getD (k+j) 0≤M:=by
   by_cases h:k+j<l.length
   ·rw [getD_at h];exact hl _ (List.getElem_mem h)
   ·simp [List.getD,List.getElem?_eq_none (Nat.le_of_not_lt h)];omega
  have h3:=prod_bd hM h1 h2
  have h4:100 * M * ((j+1:Nat):Int)=100 * M * j+100 * M:=by rw [show ((j+1:Nat):Int)=(j:Int)+1 by omega,Int.mul_add,Int.mul_one]
  rw [agT,h4]
  omega
theorem against_s {items l:List Int} (shifts:Int) {k:Nat} {M:Int} (h6:items.length≤6) (hM:0≤M∧M≤12000000000000000) (hi:∀ x ∈ items, -100≤x∧x≤100) (hl:∀ x ∈ l, -M≤x∧x≤M) (hk:k+items.length≤l.length) (hk5:k≤5) :
  Sound Tryz.prog 128 [tplA items shifts,.sl (ints l),.int .i64 k] (.int .i64 (agT items l k items.length)):=by
 refine sound_W f_pulse_against (Nat.le_of_ble_eq_true rfl) ?_
 have hb:=agT_bd hM.1 hi hl k
 have hbb:∀ j:Nat,j≤6 → -7200000000000000000≤agT items l k j∧agT items l k j≤7200000000000000000:=fun j hj=>by
  have h1:=hb j
  have h2:100 * M * (j:Int)≤1200000000000000000 * 6:=Int.mul_le_mul (by omega) (by omega) (by omega) (by omega)
  omega
 simp only [c_pulse_against,tplA,vZ,Int.reduceEq,Int.reduceNe,Int.reduceLT,Int.reduceLE,Nat.reduceEqDiff,Nat.reduceAdd,reduceIte,reduceCtorEq,Nat.reduceLT,Nat.reduceLeDiff,Nat.reduceShiftRight,Nat.reduceMod]
 refine W_loop (t:=.mk) (α:=PSigma fun j:Nat=>j≤items.length) (fun ⟨j,_⟩=>(envOf [(1,.sl (ints l)),(2,.int .i64 k),(7,.int .i64 (agT items l k j)),(11,.sl (ints items)),(12,.int .i64 items.length),(13,.int .i64 j)],stOf [])) (fun p=>items.length - p.1) ⟨0,Nat.zero_le _⟩ ?_ (fun ⟨j,hj⟩=>?_)
 ·have z:agT items l k 0=0:=rfl
  refine weakX [] (of_decide_eq_true rfl) (of_decide_eq_true rfl) ?_
  (simp only [z,vcW,vZ,Int.reduceEq,Int.reduceNe,Int.reduceLT,Int.reduceLE,Nat.reduceEqDiff,Nat.reduceAdd,reduceIte,reduceCtorEq,Nat.reduceLT,Nat.reduceLeDiff,Nat.reduceShiftRight,Nat.reduceMod])
  (repeat' first | exact trivial | (with_reducible first | exact RnB.fxB (ints_fxB _) | rfl | refine And.intro ?_ ?_) | (with_reducible (first | refine RnB.bb ?_ | refine RnB.nb ?_);simp only [vcW,vZ,Int.reduceEq,Int.reduceNe,Int.reduceLT,Int.reduceLE,Nat.reduceEqDiff,Nat.reduceAdd,reduceIte,reduceCtorEq,Nat.reduceLT,Nat.reduceLeDiff,Nat.reduceShiftRight,Nat.reduceMod]) | (with_reducible first | refine RnB.ii ?_ | refine RnB.app ?_) | (with_reducible refine RnB.fxB ?_;simp only [vcW,vZ,Int.reduceEq,Int.reduceNe,Int.reduceLT,Int.reduceLE,Nat.reduceEqDiff,Nat.reduceAdd,reduceIte,reduceCtorEq,Nat.reduceLT,Nat.reduceLeDiff,Nat.reduceShiftRight,Nat.reduceMod]) | omega)
 ·dsimp only at hj ⊢
  by_cases h':j<items.length
  ·have h5:(j:Int)<items.length:=by omega
   have hs:agT items l k (j+1)=agT items l k j+items[j] * l[k+j]:=by rw [agT,getD_at h',getD_at (show k+j<l.length by omega)]
   have b1:=hbb j (by omega)
   have b2:=hbb (j+1) (by omega)
   rw [hs] at b2
   have hp:=prod_bd hM.1 (hi items[j] (List.getElem_mem h')) (hl (l[k+j]'(by omega)) (List.getElem_mem _))
   have hkj:(k:Int)+j=((k+j:Nat):Int):=by omega
   have hkl:((k+j:Nat):Int)<l.length:=by omega
   simp only [h5,ints_get items j h',hkj,ints_get l (k+j) (by omega),hkl,vZ,Int.reduceEq,Int.reduceNe,Int.reduceLT,Int.reduceLE,Nat.reduceEqDiff,Nat.reduceAdd,reduceIte,reduceCtorEq,Nat.reduceLT,Nat.reduceLeDiff,Nat.reduceShiftRight,Nat.reduceMod]
   (repeat (with_reducible refine And.intro ?_ ?_;focus (first | omega | (unfold I64;omega))))
   refine ⟨⟨j+1,h'⟩,by simp only;omega,?_⟩
   refine weakX [] (of_decide_eq_true rfl) (of_decide_eq_true rfl) ?_
   (simp only [hs,vcW,vZ,Int.reduceEq,Int.reduceNe,Int.reduceLT,Int.reduceLE,Nat.reduceEqDiff,Nat.reduceAdd,reduceIte,reduceCtorEq,Nat.reduceLT,Nat.reduceLeDiff,Nat.reduceShiftRight,Nat.reduceMod])
   (repeat' first | exact trivial | (with_reducible first | exact RnB.fxB (ints_fxB _) | rfl | refine And.intro ?_ ?_) | (with_reducible (first | refine RnB.bb ?_ | refine RnB.nb ?_);simp only [vcW,vZ,Int.reduceEq,Int.reduceNe,Int.reduceLT,Int.reduceLE,Nat.reduceEqDiff,Nat.reduceAdd,reduceIte,reduceCtorEq,Nat.reduceLT,Nat.reduceLeDiff,Nat.reduceShiftRight,Nat.reduceMod]) | (with_reducible first | refine RnB.ii ?_ | refine RnB.app ?_) | (with_reducible refine RnB.fxB ?_;simp only [vcW,vZ,Int.reduceEq,Int.reduceNe,Int.reduceLT,Int.reduceLE,Nat.reduceEqDiff,Nat.reduceAdd,reduceIte,reduceCtorEq,Nat.reduceLT,Nat.reduceLeDiff,Nat.reduceShiftRight,Nat.reduceMod]) | omega)
  ·have h5:¬ (j:Int)<items.length:=by omega
   have hin:j=items.length:=by omega
   subst hin
   simp only [h5,vZ,Int.reduceEq,Int.reduceNe,Int.reduceLT,Int.reduceLE,Nat.reduceEqDiff,Nat.reduceAdd,reduceIte,reduceCtorEq,Nat.reduceLT,Nat.reduceLeDiff,Nat.reduceShiftRight,Nat.reduceMod]
end Go.Proofs.YtgmpcbpmnimkoaaGreatDoor

/- The model of charges,and differences. By an AI agent;nothing here is trusted. -/
namespace Go.Proofs.YtgmpcbpmnimkoaaGreatDoor
open Go.Av

def mdT (items ch:List Int) (n:Nat):Nat→Int
 | 0=>0
 | k+1=>mdT items ch n k+(if k≤n∧n - k<items.length then ch.getD k 0 * items.getD (n - k) 0 else 0)
def mdP (items ch:List Int) (n k j:Nat):Int:=mdT items ch n k+(if k≤n∧n - k<j then ch.getD k 0 * items.getD (n - k) 0 else 0)
def mdL (items ch:List Int) (k j:Nat):List Int:=(List.range (ch.length+items.length - 1)).map fun n=>mdP items ch n k j
theorem mdL_len (items ch:List Int) (k j:Nat):(mdL items ch k j).length=ch.length+items.length - 1:=by simp [mdL]
theorem mdL_get (items ch:List Int) (k j:Nat) {n:Nat} (h:n<(mdL items ch k j).length):(mdL items ch k j)[n]=mdP items ch n k j:=by simp [mdL]
theorem mdP_0 (items ch:List Int) (n k:Nat):mdP items ch n k 0=mdT items ch n k:=by unfold mdP;rw [if_neg (by omega),Int.add_zero]
theorem mdP_next (items ch:List Int) (n k:Nat):mdP items ch n k items.length=mdT items ch n (k+1):=rfl
theorem mdP_succ (items ch:List Int) (n k j:Nat):mdP items ch n k (j+1)=mdP items ch n k j+(if n=k+j then ch.getD k 0 * items.getD j 0 else 0):=by
 unfold mdP
 by_cases e:n=k+j
 ·subst e
  rw [if_pos (by omega),if_neg (by omega),if_pos rfl,Nat.add_sub_cancel_left,Int.add_zero]
 ·rw [if_neg e,Int.add_zero]
  congr 1
  by_cases h:k≤n∧n - k<j
  ·rw [if_pos h,if_pos (by omega)]
  ·rw [if_neg h,if_neg (by omega)]
theorem mdL_set (items ch:List Int) {k j:Nat} (h:k+j<ch.length+items.length - 1):mdL items ch k (j+1)=(mdL items ch k j).set (k+j) (mdP items ch (k+j) k j+ch.getD k 0 * items.getD j 0):=by
 apply List.ext_getElem
 ·rw [List.length_set,mdL_len,mdL_len]
 ·intro n h1 h2
  rw [mdL_get,List.getElem_set,mdP_succ]
  by_cases e:k+j=n
  ·subst e;rw [if_pos rfl,if_pos rfl]
  ·rw [if_neg e,if_neg (fun q=>e q.symm),mdL_get,Int.add_zero]
end Go.Proofs.YtgmpcbpmnimkoaaGreatDoor

/- Digits to the base 10^9,in plain Lean. By an AI agent;nothing here is trusted. -/
namespace Go.Proofs.YtgmpcbpmnimkoaaGreatDoor
open Go.Av

def dVal:List Int→Int
 | []=>0
 | d :: l=>d+1000000000 * dVal l
def okD (l:List Int):Prop:=∀ d ∈ l,0≤d∧d<1000000000
def trimL:List Int→List Int
 | []=>[]
 | d :: l=>if trimL l=[]∧d=0 then [] else d :: trimL l
def dg (n:Nat):List Int:=if h:n=0 then [] else ((n % 1000000000:Nat):Int) :: dg (n / 1000000000)
termination_by n
decreasing_by exact Nat.div_lt_self (by omega) (by omega)
theorem dg_zero:dg 0=[]:=by rw [dg];rfl
theorem dg_pos {n:Nat} (h:n ≠ 0):dg n=((n % 1000000000:Nat):Int) :: dg (n / 1000000000):=by rw [dg,dif_neg h]
theorem dVal_nonneg:∀ {l:List Int},okD l→0≤dVal l
 | [],_=>Int.le_refl _
 | d :: l,h=>by
  have:=dVal_nonneg (l:=l) fun x hx=>h x (List.mem_cons_of_mem _ hx)
  have:=h d List.mem_cons_self
  rw [dVal];omega
theorem okD_dg (n:Nat):okD (dg n):=by
 induction n using Nat.strongRecOn with
 | _ n ih =>
  by_cases h:n=0
  ·rw [h,dg_zero];intro d hd;cases hd
  ·rw [dg_pos h]
   intro d hd
   rcases List.mem_cons.1 hd with e | e
   ·rw [e];omega
   ·exact ih _ (Nat.div_lt_self (by omega) (by omega)) d e
theorem dVal_dg (n:Nat):dVal (dg n)=n:=by
 induction n using Nat.strongRecOn with
 | _ n ih =>
  by_cases h:n=0
  ·rw [h,dg_zero];rfl
  ·rw [dg_pos h,dVal,ih _ (Nat.div_lt_self (by omega) (by omega))];omega
theorem dg_cons {d:Int} {v:Nat} (hd:0≤d∧d<1000000000) (h:d ≠ 0∨v ≠ 0):dg (d+1000000000 * (v:Int)).toNat=d :: dg v:=by
 rw [dg_pos (by omega)]
 have e1:(((d+1000000000 * (v:Int)).toNat % 1000000000:Nat):Int)=d:=by omega
 have e2:(d+1000000000 * (v:Int)).toNat / 1000000000=v:=by omega
 rw [e1,e2]
theorem dg_nil {n:Nat}:dg n=[] ↔ n=0:=by
 constructor
 ·intro h
  by_cases e:n=0
  ·exact e
  ·rw [dg_pos e] at h;cases h
 ·intro h;rw [h];exact dg_zero
theorem trim_dg:∀ {l:List Int},okD l→trimL l=dg (dVal l).toNat
 | [],_=>dg_zero.symm
 | d :: l,h=>by
  have hl:okD l:=fun x hx=>h x (List.mem_cons_of_mem _ hx)
  have ih:=trim_dg hl
  have hd:=h d List.mem_cons_self
  have hv:=dVal_nonneg hl
  obtain ⟨v,hv2⟩:∃ v:Nat,dVal l=(v:Int):=⟨(dVal l).toNat,by omega⟩
  rw [trimL,ih,dVal,hv2,show ((v:Int)).toNat=v from rfl]
  by_cases hc:dg v=[]∧d=0
  ·rw [if_pos hc,dg_nil.1 hc.1,hc.2];exact dg_zero.symm
  ·rw [if_neg hc,dg_cons hd]
   by_cases e:d=0
   ·exact .inr fun q=>hc ⟨dg_nil.2 q,e⟩
   ·exact .inl e
theorem trimL_zero:∀ (l:List Int),trimL (l ++ [0])=trimL l
 | []=>by simp [trimL]
 | d :: l=>by rw [List.cons_append,trimL,trimL_zero l,trimL]
theorem trimL_ne {x:Int} (hx:x ≠ 0):∀ (l:List Int),trimL (l ++ [x])=l ++ [x]
 | []=>by simp [trimL,hx]
 | d :: l=>by rw [List.cons_append,trimL,trimL_ne hx l,if_neg (by simp)]
theorem trimL_le:∀ (l:List Int),(trimL l).length≤l.length
 | []=>Nat.le_refl _
 | d :: l=>by
  have:=trimL_le l
  rw [trimL];split <;> simp <;> omega
theorem dVal_append:∀ (a b:List Int),dVal (a ++ b)=dVal a+1000000000 ^ a.length * dVal b
 | [],b=>by simp [dVal]
 | d :: a,b=>by
  rw [List.cons_append,dVal,dVal_append a b,dVal,List.length_cons,Int.pow_succ,Int.mul_add,← Int.mul_assoc,Int.mul_comm 1000000000 ((1000000000:Int) ^ a.length)];omega
theorem dVal_lt:∀ {l:List Int},okD l→dVal l<1000000000 ^ l.length
 | [],_=>by simp [dVal]
 | d :: l,h=>by
  have ih:=dVal_lt (l:=l) fun x hx=>h x (List.mem_cons_of_mem _ hx)
  have:=h d List.mem_cons_self
  rw [dVal,List.length_cons,Int.pow_succ];omega
theorem dg_len {n k:Nat} (h:n<1000000000 ^ k):(dg n).length≤k:=by
 induction k generalizing n with
 | zero=>simp at h;rw [h,dg_zero];simp
 | succ k ih =>
  by_cases e:n=0
  ·rw [e,dg_zero];simp
  ·rw [dg_pos e,List.length_cons]
   have:=ih (n:=n / 1000000000) (by rw [Nat.pow_succ] at h;exact Nat.div_lt_of_lt_mul (by rw [Nat.mul_comm];exact h))
   omega

def wideA (v:Int):AV:=.agg [.int .i64 v.sign,.sl (ints (dg v.natAbs))]
theorem trimmed_s (l:List Int) (hl:l.length≤1000000000):Sound Tryz.prog 189 [.sl (ints l)] (.sl (ints (trimL l))):=by
 refine sound_W f_base_trimmed (Nat.le_of_ble_eq_true rfl) ?_
 simp only [c_base_trimmed,vZ,Int.reduceEq,Int.reduceNe,Int.reduceLT,Int.reduceLE,Nat.reduceEqDiff,Nat.reduceAdd,reduceIte,reduceCtorEq,Nat.reduceLT,Nat.reduceLeDiff,Nat.reduceShiftRight,Nat.reduceMod]
 refine W_loop (t:=.mk) (α:=PSigma fun n:Nat=>n≤l.length∧trimL l=trimL (l.take n)) (fun ⟨n,_⟩=>(envOf [(0,.sl (ints l)),(3,.int .i64 n)],stOf [])) (fun n=>n.1) ⟨l.length,Nat.le_refl _,by rw [List.take_length]⟩ ?_ (fun ⟨n,hn,ht⟩=>?_)
 ·refine weakX [] (of_decide_eq_true rfl) (of_decide_eq_true rfl) ?_
  (simp only [vcW,vZ,Int.reduceEq,Int.reduceNe,Int.reduceLT,Int.reduceLE,Nat.reduceEqDiff,Nat.reduceAdd,reduceIte,reduceCtorEq,Nat.reduceLT,Nat.reduceLeDiff,Nat.reduceShiftRight,Nat.reduceMod])
  (repeat' first | exact trivial | (with_reducible first | exact RnB.fxB (ints_fxB _) | rfl | refine And.intro ?_ ?_) | (with_reducible (first | refine RnB.bb ?_ | refine RnB.nb ?_);simp only [vcW,vZ,Int.reduceEq,Int.reduceNe,Int.reduceLT,Int.reduceLE,Nat.reduceEqDiff,Nat.reduceAdd,reduceIte,reduceCtorEq,Nat.reduceLT,Nat.reduceLeDiff,Nat.reduceShiftRight,Nat.reduceMod]) | (with_reducible first | refine RnB.ii ?_ | refine RnB.app ?_) | (with_reducible refine RnB.fxB ?_;simp only [vcW,vZ,Int.reduceEq,Int.reduceNe,Int.reduceLT,Int.reduceLE,Nat.reduceEqDiff,Nat.reduceAdd,reduceIte,reduceCtorEq,Nat.reduceLT,Nat.reduceLeDiff,Nat.reduceShiftRight,Nat.reduceMod]) | omega)
 ·have htk:∀ m:Nat,(ints l).take m=ints (l.take m):=fun m=>by simp [ints,List.map_take]
  cases n with
  | zero =>
   have z0:¬ (0:Int)<((0:Nat):Int):=by omega
   simp only [z0,vZ,Int.reduceEq,Int.reduceNe,Int.reduceLT,Int.reduceLE,Nat.reduceEqDiff,Nat.reduceAdd,reduceIte,reduceCtorEq,Nat.reduceLT,Nat.reduceLeDiff,Nat.reduceShiftRight,Nat.reduceMod]
   refine ⟨⟨by omega,by omega,fun x hx=>by obtain ⟨y,_,rfl⟩:=List.mem_map.1 hx;rfl⟩,?_⟩
   rw [ht];rfl
  | succ n =>
   have z0:(0:Int)<((n+1:Nat):Int):=by omega
   have z1:((n+1:Nat):Int) - 1=(n:Int):=by omega
   have h':n<l.length:=by omega
   have hsn:=List.take_succ_eq_append_getElem h'
   rw [hsn] at ht
   have hg:=ints_get l n h'
   by_cases hc:l[n]=0
   ·rw [hc,trimL_zero] at ht
    simp only [z0,z1,hg,hc,vZ,Int.reduceEq,Int.reduceNe,Int.reduceLT,Int.reduceLE,Nat.reduceEqDiff,Nat.reduceAdd,reduceIte,reduceCtorEq,Nat.reduceLT,Nat.reduceLeDiff,Nat.reduceShiftRight,Nat.reduceMod]
    (repeat (with_reducible refine And.intro ?_ ?_;focus (first | omega | (unfold I64;omega))))
    refine ⟨⟨n,by omega,ht⟩,by simp only;omega,?_⟩
    refine weakX [] (of_decide_eq_true rfl) (of_decide_eq_true rfl) ?_
    (simp only [vcW,vZ,Int.reduceEq,Int.reduceNe,Int.reduceLT,Int.reduceLE,Nat.reduceEqDiff,Nat.reduceAdd,reduceIte,reduceCtorEq,Nat.reduceLT,Nat.reduceLeDiff,Nat.reduceShiftRight,Nat.reduceMod])
    (repeat' first | exact trivial | (with_reducible first | exact RnB.fxB (ints_fxB _) | rfl | refine And.intro ?_ ?_) | (with_reducible (first | refine RnB.bb ?_ | refine RnB.nb ?_);simp only [vcW,vZ,Int.reduceEq,Int.reduceNe,Int.reduceLT,Int.reduceLE,Nat.reduceEqDiff,Nat.reduceAdd,reduceIte,reduceCtorEq,Nat.reduceLT,Nat.reduceLeDiff,Nat.reduceShiftRight,Nat.reduceMod]) | (with_reducible first | refine RnB.ii ?_ | refine RnB.app ?_) | (with_reducible refine RnB.fxB ?_;simp only [vcW,vZ,Int.reduceEq,Int.reduceNe,Int.reduceLT,Int.reduceLE,Nat.reduceEqDiff,Nat.reduceAdd,reduceIte,reduceCtorEq,Nat.reduceLT,Nat.reduceLeDiff,Nat.reduceShiftRight,Nat.reduceMod]) | omega)
   ·rw [trimL_ne hc,← hsn] at ht
    simp only [z0,z1,hg,hc,vZ,Int.reduceEq,Int.reduceNe,Int.reduceLT,Int.reduceLE,Nat.reduceEqDiff,Nat.reduceAdd,reduceIte,reduceCtorEq,Nat.reduceLT,Nat.reduceLeDiff,Nat.reduceShiftRight,Nat.reduceMod]
    (repeat (with_reducible refine And.intro ?_ ?_;focus (first | omega | (unfold I64;omega))))
    refine ⟨⟨by omega,by omega,fun x hx=>by obtain ⟨y,_,rfl⟩:=List.mem_map.1 hx;rfl⟩,?_⟩
    rw [ht,htk];rfl
theorem wideOf_s (g:Int) (l:List Int) (hl:l.length≤1000000000) (hd:okD l) (hg:g=1∨g = -1∨(g=0∧dVal l=0)):Sound Tryz.prog 99 [.int .i64 g,.sl (ints l)] (wideA (g * dVal l)):=by
 refine sound_W f_base_wideOf (Nat.le_of_ble_eq_true rfl) ?_
 have hv:=dVal_nonneg hd
 have ht:=trim_dg hd
 have hna:(g * dVal l).natAbs=(dVal l).toNat:=by rcases hg with rfl | rfl | ⟨rfl,h⟩ <;> omega
 have hw:wideA (g * dVal l)=.agg [.int .i64 (g * dVal l).sign,.sl (ints (trimL l))]:=by unfold wideA;rw [hna,ht]
 rw [hw]
 simp only [c_base_wideOf,vZ,Int.reduceEq,Int.reduceNe,Int.reduceLT,Int.reduceLE,Nat.reduceEqDiff,Nat.reduceAdd,reduceIte,reduceCtorEq,Nat.reduceLT,Nat.reduceLeDiff,Nat.reduceShiftRight,Nat.reduceMod]
 refine callS_of (trimmed_s l hl) ?_
 simp only [vZ,Int.reduceEq,Int.reduceNe,Int.reduceLT,Int.reduceLE,Nat.reduceEqDiff,Nat.reduceAdd,reduceIte,reduceCtorEq,Nat.reduceLT,Nat.reduceLeDiff,Nat.reduceShiftRight,Nat.reduceMod]
 by_cases h0:(trimL l).length=0
 ·have hz:dVal l=0:=by
   rw [List.length_eq_zero_iff,ht,dg_nil] at h0;omega
  have h0':((trimL l).length:Int)=0:=by omega
  have hs:(g * dVal l).sign=0:=by rw [hz];simp
  simp only [ints_length,h0',hs,vZ,Int.reduceEq,Int.reduceNe,Int.reduceLT,Int.reduceLE,Nat.reduceEqDiff,Nat.reduceAdd,reduceIte,reduceCtorEq,Nat.reduceLT,Nat.reduceLeDiff,Nat.reduceShiftRight,Nat.reduceMod]
 ·have hz:0<dVal l:=by
   have:(dVal l).toNat ≠ 0:=fun e=>h0 (by rw [ht,e,dg_zero];rfl)
   omega
  have h0':¬ ((trimL l).length:Int)=0:=by omega
  have hs:(g * dVal l).sign=g:=by
   rcases hg with rfl | rfl | ⟨rfl,h⟩
   ·rw [Int.one_mul];exact Int.sign_eq_one_of_pos hz
   ·rw [Int.neg_one_mul,Int.sign_neg,Int.sign_eq_one_of_pos hz]
   ·omega
  simp only [ints_length,h0',hs,vZ,Int.reduceEq,Int.reduceNe,Int.reduceLT,Int.reduceLE,Nat.reduceEqDiff,Nat.reduceAdd,reduceIte,reduceCtorEq,Nat.reduceLT,Nat.reduceLeDiff,Nat.reduceShiftRight,Nat.reduceMod]
end Go.Proofs.YtgmpcbpmnimkoaaGreatDoor

/- Contracts: digits added,subtracted,compared. By an AI agent;nothing here is trusted. -/
namespace Go.Proofs.YtgmpcbpmnimkoaaGreatDoor
open Go.Av

theorem WideSign_s (v:Int):Sound Tryz.prog 25 [wideA v] (.int .i64 v.sign):=by
 refine sound_W f_base_WideSign (Nat.le_of_ble_eq_true rfl) ?_
 simp only [c_base_WideSign,wideA,vZ,Int.reduceEq,Int.reduceNe,Int.reduceLT,Int.reduceLE,Nat.reduceEqDiff,Nat.reduceAdd,reduceIte,reduceCtorEq,Nat.reduceLT,Nat.reduceLeDiff,Nat.reduceShiftRight,Nat.reduceMod]
theorem WideNeg_s (v:Int):Sound Tryz.prog 103 [wideA v] (wideA (-v)):=by
 refine sound_W f_base_WideNeg (Nat.le_of_ble_eq_true rfl) ?_
 have h1:(-v).sign = -v.sign:=Int.sign_neg v
 have h2:(-v).natAbs=v.natAbs:=Int.natAbs_neg v
 have h3 : -1≤v.sign∧v.sign≤1:=by rcases Int.lt_trichotomy v 0 with h | h | h <;> simp [Int.sign_eq_neg_one_of_neg,Int.sign_eq_one_of_pos,h]
 unfold wideA
 rw [h1,h2]
 simp only [c_base_WideNeg,vZ,Int.reduceEq,Int.reduceNe,Int.reduceLT,Int.reduceLE,Nat.reduceEqDiff,Nat.reduceAdd,reduceIte,reduceCtorEq,Nat.reduceLT,Nat.reduceLeDiff,Nat.reduceShiftRight,Nat.reduceMod]
 unfold I64
 omega

def dAt (l:List Int) (i:Nat):Int:=l.getD i 0
theorem dAt_lt {l:List Int} {i:Nat} (h:i<l.length):dAt l i=l[i]:=by simp [dAt,List.getD,List.getElem?_eq_getElem h]
theorem dAt_ge {l:List Int} {i:Nat} (h:l.length≤i):dAt l i=0:=by simp [dAt,List.getD,List.getElem?_eq_none h]
theorem dAt_ok {l:List Int} (h:okD l) (i:Nat):0≤dAt l i∧dAt l i<1000000000:=by
 by_cases hi:i<l.length
 ·rw [dAt_lt hi];exact h _ (List.getElem_mem hi)
 ·rw [dAt_ge (by omega)];omega
theorem digit_s (l:List Int) (i:Nat) (hi:i≤1000000000):Sound Tryz.prog 190 [.sl (ints l),.int .i64 i] (.int .i64 (dAt l i)):=by
 refine sound_W f_base_digit (Nat.le_of_ble_eq_true rfl) ?_
 by_cases h:i<l.length
 ·have h':(i:Int)<l.length:=by omega
  simp only [c_base_digit,h',ints_get l i h,dAt_lt h,vZ,Int.reduceEq,Int.reduceNe,Int.reduceLT,Int.reduceLE,Nat.reduceEqDiff,Nat.reduceAdd,reduceIte,reduceCtorEq,Nat.reduceLT,Nat.reduceLeDiff,Nat.reduceShiftRight,Nat.reduceMod]
  omega
 ·have h':¬ (i:Int)<l.length:=by omega
  simp only [c_base_digit,h',dAt_ge (show l.length≤i by omega),vZ,Int.reduceEq,Int.reduceNe,Int.reduceLT,Int.reduceLE,Nat.reduceEqDiff,Nat.reduceAdd,reduceIte,reduceCtorEq,Nat.reduceLT,Nat.reduceLeDiff,Nat.reduceShiftRight,Nat.reduceMod]

def dPre (l:List Int) (i:Nat):Int:=dVal (l.take i)
theorem dPre_succ (l:List Int) (i:Nat):dPre l (i+1)=dPre l i+1000000000 ^ i * dAt l i:=by
 unfold dPre
 by_cases h:i<l.length
 ·rw [List.take_succ_eq_append_getElem h,dVal_append,dAt_lt h,List.length_take,Nat.min_eq_left (by omega)];simp [dVal]
 ·rw [List.take_of_length_le (by omega),List.take_of_length_le (by omega),dAt_ge (by omega)];simp
theorem dPre_all {l:List Int} {i:Nat} (h:l.length≤i):dPre l i=dVal l:=by unfold dPre;rw [List.take_of_length_le h]

def addS (a b:List Int):Nat→List Int × Int
 | 0=>([],0)
 | i+1=>((addS a b i).1 ++ [(dAt a i+dAt b i+(addS a b i).2) % 1000000000],(dAt a i+dAt b i+(addS a b i).2) / 1000000000)
theorem addS_ok {a b:List Int} (ha:okD a) (hb:okD b):∀ i,(addS a b i).1.length=i∧okD (addS a b i).1∧(0≤(addS a b i).2∧(addS a b i).2≤1)∧dVal (addS a b i).1+1000000000 ^ i * (addS a b i).2=dPre a i+dPre b i
 | 0=>⟨rfl,(fun d hd=>by cases hd),by simp [addS],by simp [addS,dVal,dPre]⟩
 | i+1=>by
  obtain ⟨h1,h2,h3,h4⟩:=addS_ok ha hb i
  have qa:=dAt_ok ha i
  have qb:=dAt_ok hb i
  rw [dPre_succ,dPre_succ]
  simp only [addS]
  generalize addS a b i=p at *
  obtain ⟨l,c⟩:=p
  simp only at h1 h2 h3 h4 ⊢
  generalize hs:dAt a i+dAt b i+c=s at *
  refine ⟨by simp [h1],?_,by omega,?_⟩
  ·intro d hd
   rcases List.mem_append.1 hd with e | e
   ·exact h2 d e
   ·rw [List.mem_singleton.1 e];omega
  ·rw [dVal_append,h1,Int.pow_succ]
   have e:s=s % 1000000000+1000000000 * (s / 1000000000):=by omega
   have e1:(1000000000:Int) ^ i * s=1000000000 ^ i * (s % 1000000000)+1000000000 ^ i * (1000000000 * (s / 1000000000)):=by rw [← Int.mul_add,← e]
   have e2:(1000000000:Int) ^ i * s=1000000000 ^ i * dAt a i+1000000000 ^ i * dAt b i+1000000000 ^ i * c:=by rw [← hs,Int.mul_add,Int.mul_add]
   simp only [dVal,Int.mul_zero,Int.add_zero]
   rw [Int.mul_assoc]
   omega

theorem dVal_snoc (l:List Int) (x:Int):dVal (l ++ [x])=dVal l+1000000000 ^ l.length * x:=by rw [dVal_append];simp [dVal]
set_option maxHeartbeats 4000000 in
theorem addDigits_s (a b:List Int) (ha:okD a) (hb:okD b) (hla:a.length≤1000000) (hlb:b.length≤1000000) :
    ∃ l:List Int,okD l∧l.length≤a.length+b.length+1∧dVal l=dVal a+dVal b∧Sound Tryz.prog 100 [.sl (ints a),.sl (ints b)] (.sl (ints l)):=by
  obtain ⟨m,hm⟩:∃ m,m=max a.length b.length:=⟨_,rfl⟩
  obtain ⟨n,hn⟩:∃ n,n=if (addS a b m).2=0 then m else m+1:=⟨_,rfl⟩
  have hok:=addS_ok ha hb
  have hn0:n≤m+1:=by rw [hn];split <;> omega
  have hmn:m≤n:=by rw [hn];split <;> omega
  have hc1:(addS a b (m+1)).2=0:=by
    have h:=(hok m).2.2.1
    simp only [addS]
    rw [dAt_ge (show a.length≤m by omega),dAt_ge (show b.length≤m by omega)]
    omega
  have hc:(addS a b n).2=0:=by
    by_cases e:(addS a b m).2=0
    · rw [if_pos e] at hn;rw [hn];exact e
    · rw [if_neg e] at hn;rw [hn];exact hc1
  have hgo:∀ i,i<n→(i<a.length∨i<b.length∨0<(addS a b i).2):=by
    intro i hi
    by_cases e:i<m
    · omega
    · have e2:i=m:=by omega
      subst e2
      right;right
      by_cases e3:(addS a b i).2=0
      · rw [if_pos e3] at hn;omega
      · have:=(hok i).2.2.1;omega
  refine ⟨(addS a b n).1,(hok n).2.1,by rw [(hok n).1];omega,?_,?_⟩
  · have h:=(hok n).2.2.2
    rw [hc,Int.mul_zero,Int.add_zero,dPre_all (by omega),dPre_all (by omega)] at h
    exact h
  refine sound_W f_base_addDigits (Nat.le_of_ble_eq_true rfl) ?_
  have hmax:=maxLen_big
  simp only [c_base_addDigits,vZ,Int.reduceEq,Int.reduceNe,Int.reduceLT,Int.reduceLE,Nat.reduceEqDiff,Nat.reduceAdd,reduceIte,reduceCtorEq,Nat.reduceLT,Nat.reduceLeDiff,Nat.reduceShiftRight,Nat.reduceMod]
  refine W_loop (t:=.mk) (α:=PSigma fun i:Nat=>i≤n∧(True)) (fun ⟨i,_⟩=>((envOf [(0,.sl (ints a)),(1,.sl (ints b)),(5,.buf 100 i),(6,.int .i64 (addS a b i).2),(7,.int .i64 i)],stOf [(100,⟨3,1,ints (addS a b i).1⟩)]))) (fun i=>n - i.1) ⟨0,Nat.zero_le _,?_⟩ ?_ (fun ⟨i,hi,hn⟩=>?_)
  · trivial
  · have z1:ints (addS a b 0).1=[]:=rfl
    have z2:(addS a b 0).2=0:=rfl
    refine weakX [(100,none)] (of_decide_eq_true rfl) (of_decide_eq_true rfl) ?_
    (simp only [z1,z2,vcW,vZ,Int.reduceEq,Int.reduceNe,Int.reduceLT,Int.reduceLE,Nat.reduceEqDiff,Nat.reduceAdd,reduceIte,reduceCtorEq,Nat.reduceLT,Nat.reduceLeDiff,Nat.reduceShiftRight,Nat.reduceMod])
    (repeat' first | exact trivial | (with_reducible first | exact RnB.fxB (ints_fxB _) | rfl | refine And.intro ?_ ?_) | (with_reducible (first | refine RnB.bb ?_ | refine RnB.nb ?_);simp only [vcW,vZ,Int.reduceEq,Int.reduceNe,Int.reduceLT,Int.reduceLE,Nat.reduceEqDiff,Nat.reduceAdd,reduceIte,reduceCtorEq,Nat.reduceLT,Nat.reduceLeDiff,Nat.reduceShiftRight,Nat.reduceMod]) | (with_reducible first | refine RnB.ii ?_ | refine RnB.app ?_) | (with_reducible refine RnB.fxB ?_;simp only [vcW,vZ,Int.reduceEq,Int.reduceNe,Int.reduceLT,Int.reduceLE,Nat.reduceEqDiff,Nat.reduceAdd,reduceIte,reduceCtorEq,Nat.reduceLT,Nat.reduceLeDiff,Nat.reduceShiftRight,Nat.reduceMod]) | omega)
  · by_cases h':i<n
    · obtain ⟨o1,o2,o3,o4⟩:=hok i
      have hg:=hgo i h'
      have s1:(addS a b (i+1)).1=(addS a b i).1 ++ [(dAt a i+dAt b i+(addS a b i).2) % 1000000000]:=rfl
      have s2:(addS a b (i+1)).2=(dAt a i+dAt b i+(addS a b i).2) / 1000000000:=rfl
      have qa:=dAt_ok ha i
      have qb:=dAt_ok hb i
      have t1:(dAt a i+dAt b i+(addS a b i).2).tmod 1000000000=(dAt a i+dAt b i+(addS a b i).2) % 1000000000:=Int.tmod_eq_emod_of_nonneg (by omega)
      have t2:(dAt a i+dAt b i+(addS a b i).2).tdiv 1000000000=(dAt a i+dAt b i+(addS a b i).2) / 1000000000:=Int.tdiv_eq_ediv_of_nonneg (by omega)
      have hda:=digit_s a i (by omega)
      have hdb:=digit_s b i (by omega)
      obtain ⟨l,hl⟩:∃ l,l=(addS a b i).1:=⟨_,rfl⟩
      obtain ⟨c,hcc⟩:∃ c,c=(addS a b i).2:=⟨_,rfl⟩
      dsimp only
      rw [← hl,← hcc]
      simp only [← hl,← hcc] at o1 o2 o3 o4 s1 s2 t1 t2 hg
      generalize hs:dAt a i+dAt b i+c=s at *
      have hia:ints (l ++ [s % 1000000000])=ints l ++ [.int .i64 (s % 1000000000)]:=ints_append _ _
      rcases Decidable.em ((i:Int)<a.length) with hA | hA
      all_goals rcases Decidable.em ((i:Int)<b.length) with hB | hB
      all_goals first
        | (have hcp:(0:Int)<c:=by omega
           simp only [hA,hB,hcp,vZ,Int.reduceEq,Int.reduceNe,Int.reduceLT,Int.reduceLE,Nat.reduceEqDiff,Nat.reduceAdd,reduceIte,reduceCtorEq,Nat.reduceLT,Nat.reduceLeDiff,Nat.reduceShiftRight,Nat.reduceMod])
        | simp only [hA,hB,vZ,Int.reduceEq,Int.reduceNe,Int.reduceLT,Int.reduceLE,Nat.reduceEqDiff,Nat.reduceAdd,reduceIte,reduceCtorEq,Nat.reduceLT,Nat.reduceLeDiff,Nat.reduceShiftRight,Nat.reduceMod]
      all_goals
        refine callS_of hda ?_
        simp only [vZ,Int.reduceEq,Int.reduceNe,Int.reduceLT,Int.reduceLE,Nat.reduceEqDiff,Nat.reduceAdd,reduceIte,reduceCtorEq,Nat.reduceLT,Nat.reduceLeDiff,Nat.reduceShiftRight,Nat.reduceMod]
        refine callS_of hdb ?_
        simp only [hs,t1,t2,ints_length,o1,vZ,Int.reduceEq,Int.reduceNe,Int.reduceLT,Int.reduceLE,Nat.reduceEqDiff,Nat.reduceAdd,reduceIte,reduceCtorEq,Nat.reduceLT,Nat.reduceLeDiff,Nat.reduceShiftRight,Nat.reduceMod]
        (repeat (with_reducible refine And.intro ?_ ?_;focus (first | omega | (unfold I64;omega))))
        refine ⟨⟨i+1,h',trivial⟩,by simp only;omega,?_⟩
        refine weakX [(100,some 38)] (of_decide_eq_true rfl) (of_decide_eq_true rfl) ?_
        (simp only [s1,s2,hia,vcW,vZ,Int.reduceEq,Int.reduceNe,Int.reduceLT,Int.reduceLE,Nat.reduceEqDiff,Nat.reduceAdd,reduceIte,reduceCtorEq,Nat.reduceLT,Nat.reduceLeDiff,Nat.reduceShiftRight,Nat.reduceMod])
        (repeat' first | exact trivial | (with_reducible first | exact RnB.fxB (ints_fxB _) | rfl | refine And.intro ?_ ?_) | (with_reducible (first | refine RnB.bb ?_ | refine RnB.nb ?_);simp only [vcW,vZ,Int.reduceEq,Int.reduceNe,Int.reduceLT,Int.reduceLE,Nat.reduceEqDiff,Nat.reduceAdd,reduceIte,reduceCtorEq,Nat.reduceLT,Nat.reduceLeDiff,Nat.reduceShiftRight,Nat.reduceMod]) | (with_reducible first | refine RnB.ii ?_ | refine RnB.app ?_) | (with_reducible refine RnB.fxB ?_;simp only [vcW,vZ,Int.reduceEq,Int.reduceNe,Int.reduceLT,Int.reduceLE,Nat.reduceEqDiff,Nat.reduceAdd,reduceIte,reduceCtorEq,Nat.reduceLT,Nat.reduceLeDiff,Nat.reduceShiftRight,Nat.reduceMod]) | omega)
        all_goals first | exact hia.symm | exact RnB.fxB (by rw [← hia];exact ints_fxB _) | skip
    · have hin:i=n:=by omega
      cases hin
      have hA:¬ (n:Int)<a.length:=by omega
      have hB:¬ (n:Int)<b.length:=by omega
      have hC:¬ (0:Int)<(addS a b n).2:=by omega
      have hl:=(hok n).1
      simp only [hA,hB,hC,vZ,Int.reduceEq,Int.reduceNe,Int.reduceLT,Int.reduceLE,Nat.reduceEqDiff,Nat.reduceAdd,reduceIte,reduceCtorEq,Nat.reduceLT,Nat.reduceLeDiff,Nat.reduceShiftRight,Nat.reduceMod]
      rw [borB_good _ _ _ _ _ (by rw [ints_length,hl]) (ints_fx _)]
end Go.Proofs.YtgmpcbpmnimkoaaGreatDoor

/- Contracts: digits subtracted and compared. By an AI agent;nothing here is trusted. -/
namespace Go.Proofs.YtgmpcbpmnimkoaaGreatDoor
open Go.Av

def subS (a b:List Int):Nat→List Int × Int
 | 0=>([],0)
 | i+1=>if dAt a i - dAt b i - (subS a b i).2<0 then ((subS a b i).1 ++ [dAt a i - dAt b i - (subS a b i).2+1000000000],1) else ((subS a b i).1 ++ [dAt a i - dAt b i - (subS a b i).2],0)
theorem subS_ok {a b:List Int} (ha:okD a) (hb:okD b):∀ i,(subS a b i).1.length=i∧okD (subS a b i).1∧(0≤(subS a b i).2∧(subS a b i).2≤1)∧dVal (subS a b i).1=dPre a i - dPre b i+1000000000 ^ i * (subS a b i).2
 | 0=>⟨rfl,(fun d hd=>by cases hd),by simp [subS],by simp [subS,dVal,dPre]⟩
 | i+1=>by
  obtain ⟨h1,h2,h3,h4⟩:=subS_ok ha hb i
  have qa:=dAt_ok ha i
  have qb:=dAt_ok hb i
  rw [dPre_succ,dPre_succ]
  simp only [subS]
  generalize subS a b i=p at *
  obtain ⟨l,c⟩:=p
  simp only at h1 h2 h3 h4 ⊢
  obtain ⟨s,hs⟩:∃ s,s=dAt a i - dAt b i - c:=⟨_,rfl⟩
  rw [← hs]
  have e2:(1000000000:Int) ^ i * s=1000000000 ^ i * dAt a i - 1000000000 ^ i * dAt b i - 1000000000 ^ i * c:=by rw [hs,Int.mul_sub,Int.mul_sub]
  by_cases hc:s<0
  ·rw [if_pos hc]
   simp only
   refine ⟨by simp [h1],?_,by omega,?_⟩
   ·intro d hd
    rcases List.mem_append.1 hd with e | e
    ·exact h2 d e
    ·rw [List.mem_singleton.1 e];omega
   ·rw [dVal_snoc,h1,h4,Int.pow_succ,Int.mul_add,Int.mul_one];omega
  ·rw [if_neg hc]
   simp only
   refine ⟨by simp [h1],?_,by omega,?_⟩
   ·intro d hd
    rcases List.mem_append.1 hd with e | e
    ·exact h2 d e
    ·rw [List.mem_singleton.1 e];omega
   ·rw [dVal_snoc,h1,h4,Int.mul_zero];omega
theorem subS_val {a b:List Int} (ha:okD a) (hb:okD b) (hl:b.length≤a.length) (hv:dVal b≤dVal a):dVal (subS a b a.length).1=dVal a - dVal b:=by
 obtain ⟨h1,h2,h3,h4⟩:=subS_ok ha hb a.length
 rw [dPre_all (Nat.le_refl _),dPre_all hl] at h4
 have hlt:=dVal_lt h2
 rw [h1] at hlt
 by_cases hc:(subS a b a.length).2=0
 ·rw [hc,Int.mul_zero] at h4;omega
 ·rw [show (subS a b a.length).2=1 by omega,Int.mul_one] at h4;omega

set_option maxHeartbeats 4000000 in
theorem subDigits_s (a b:List Int) (ha:okD a) (hb:okD b) (hl:b.length≤a.length) (hla:a.length≤1000000) (hv:dVal b≤dVal a) :
  Sound Tryz.prog 102 [.sl (ints a),.sl (ints b)] (.sl (ints (dg (dVal a - dVal b).toNat))):=by
 refine sound_W f_base_subDigits (Nat.le_of_ble_eq_true rfl) ?_
 have hok:=subS_ok ha hb
 have hval:=subS_val ha hb hl hv
 have hmax:=maxLen_big
 simp only [c_base_subDigits,vZ,Int.reduceEq,Int.reduceNe,Int.reduceLT,Int.reduceLE,Nat.reduceEqDiff,Nat.reduceAdd,reduceIte,reduceCtorEq,Nat.reduceLT,Nat.reduceLeDiff,Nat.reduceShiftRight,Nat.reduceMod]
 refine W_loop (t:=.mk) (α:=PSigma fun i:Nat=>i≤a.length∧(True)) (fun ⟨i,_⟩=>((envOf [(0,.sl (ints a)),(1,.sl (ints b)),(5,.buf 100 i),(6,.int .i64 (subS a b i).2),(7,.int .i64 i)],stOf [(100,⟨3,1,ints (subS a b i).1⟩)]))) (fun i=>a.length - i.1) ⟨0,Nat.zero_le _,?_⟩ ?_ (fun ⟨i,hi,hn⟩=>?_)
 ·trivial
 ·have z1:ints (subS a b 0).1=[]:=rfl
  have z2:(subS a b 0).2=0:=rfl
  refine weakX [(100,none)] (of_decide_eq_true rfl) (of_decide_eq_true rfl) ?_
  (simp only [z1,z2,vcW,vZ,Int.reduceEq,Int.reduceNe,Int.reduceLT,Int.reduceLE,Nat.reduceEqDiff,Nat.reduceAdd,reduceIte,reduceCtorEq,Nat.reduceLT,Nat.reduceLeDiff,Nat.reduceShiftRight,Nat.reduceMod])
  (repeat' first | exact trivial | (with_reducible first | exact RnB.fxB (ints_fxB _) | rfl | refine And.intro ?_ ?_) | (with_reducible (first | refine RnB.bb ?_ | refine RnB.nb ?_);simp only [vcW,vZ,Int.reduceEq,Int.reduceNe,Int.reduceLT,Int.reduceLE,Nat.reduceEqDiff,Nat.reduceAdd,reduceIte,reduceCtorEq,Nat.reduceLT,Nat.reduceLeDiff,Nat.reduceShiftRight,Nat.reduceMod]) | (with_reducible first | refine RnB.ii ?_ | refine RnB.app ?_) | (with_reducible refine RnB.fxB ?_;simp only [vcW,vZ,Int.reduceEq,Int.reduceNe,Int.reduceLT,Int.reduceLE,Nat.reduceEqDiff,Nat.reduceAdd,reduceIte,reduceCtorEq,Nat.reduceLT,Nat.reduceLeDiff,Nat.reduceShiftRight,Nat.reduceMod]) | omega)
 ·by_cases h':i<a.length
  ·obtain ⟨o1,o2,o3,o4⟩:=hok i
   have qa:=dAt_ok ha i
   have qb:=dAt_ok hb i
   have s1:(subS a b (i+1))=if dAt a i - dAt b i - (subS a b i).2<0 then ((subS a b i).1 ++ [dAt a i - dAt b i - (subS a b i).2+1000000000],1) else ((subS a b i).1 ++ [dAt a i - dAt b i - (subS a b i).2],0):=rfl
   have hga:=ints_get a i h'
   rw [← dAt_lt h'] at hga
   have hdb:=digit_s b i (by omega)
   obtain ⟨l,hl⟩:∃ l,l=(subS a b i).1:=⟨_,rfl⟩
   obtain ⟨c,hcc⟩:∃ c,c=(subS a b i).2:=⟨_,rfl⟩
   dsimp only
   rw [← hl,← hcc]
   simp only [← hl,← hcc] at o1 o2 o3 o4 s1
   have hc1:(i:Int)<a.length:=by omega
   generalize dAt a i=x at *
   generalize dAt b i=y at *
   have hI:I64 (x - y):=by unfold I64;omega
   have hI2:I64 (x - y - c):=by unfold I64;omega
   simp only [hc1,hga,vZ,Int.reduceEq,Int.reduceNe,Int.reduceLT,Int.reduceLE,Nat.reduceEqDiff,Nat.reduceAdd,reduceIte,reduceCtorEq,Nat.reduceLT,Nat.reduceLeDiff,Nat.reduceShiftRight,Nat.reduceMod]
   (repeat (with_reducible refine And.intro ?_ ?_;focus (first | omega | (unfold I64;omega))))
   refine callS_of hdb ?_
   by_cases hneg:x - y - c<0
   ·rw [if_pos hneg] at s1
    have s2:(subS a b (i+1)).1=l ++ [x - y - c+1000000000]:=by rw [s1]
    have s3:(subS a b (i+1)).2=1:=by rw [s1]
    have hia:ints (l ++ [x - y - c+1000000000])=ints l ++ [.int .i64 (x - y - c+1000000000)]:=ints_append _ _
    simp only [hneg,ints_length,o1,vZ,Int.reduceEq,Int.reduceNe,Int.reduceLT,Int.reduceLE,Nat.reduceEqDiff,Nat.reduceAdd,reduceIte,reduceCtorEq,Nat.reduceLT,Nat.reduceLeDiff,Nat.reduceShiftRight,Nat.reduceMod]
    (repeat (with_reducible refine And.intro ?_ ?_;focus (first | omega | (unfold I64;omega))))
    refine ⟨⟨i+1,h',trivial⟩,by simp only;omega,?_⟩
    refine weakX [(100,some 32)] (of_decide_eq_true rfl) (of_decide_eq_true rfl) ?_
    (simp only [s2,s3,hia,vcW,vZ,Int.reduceEq,Int.reduceNe,Int.reduceLT,Int.reduceLE,Nat.reduceEqDiff,Nat.reduceAdd,reduceIte,reduceCtorEq,Nat.reduceLT,Nat.reduceLeDiff,Nat.reduceShiftRight,Nat.reduceMod])
    (repeat' first | exact trivial | (with_reducible first | exact RnB.fxB (ints_fxB _) | rfl | refine And.intro ?_ ?_) | (with_reducible (first | refine RnB.bb ?_ | refine RnB.nb ?_);simp only [vcW,vZ,Int.reduceEq,Int.reduceNe,Int.reduceLT,Int.reduceLE,Nat.reduceEqDiff,Nat.reduceAdd,reduceIte,reduceCtorEq,Nat.reduceLT,Nat.reduceLeDiff,Nat.reduceShiftRight,Nat.reduceMod]) | (with_reducible first | refine RnB.ii ?_ | refine RnB.app ?_) | (with_reducible refine RnB.fxB ?_;simp only [vcW,vZ,Int.reduceEq,Int.reduceNe,Int.reduceLT,Int.reduceLE,Nat.reduceEqDiff,Nat.reduceAdd,reduceIte,reduceCtorEq,Nat.reduceLT,Nat.reduceLeDiff,Nat.reduceShiftRight,Nat.reduceMod]) | omega)
    all_goals first | exact hia.symm | exact RnB.fxB (by rw [← hia];exact ints_fxB _)
   ·rw [if_neg hneg] at s1
    have s2:(subS a b (i+1)).1=l ++ [x - y - c]:=by rw [s1]
    have s3:(subS a b (i+1)).2=0:=by rw [s1]
    have hia:ints (l ++ [x - y - c])=ints l ++ [.int .i64 (x - y - c)]:=ints_append _ _
    simp only [hneg,ints_length,o1,vZ,Int.reduceEq,Int.reduceNe,Int.reduceLT,Int.reduceLE,Nat.reduceEqDiff,Nat.reduceAdd,reduceIte,reduceCtorEq,Nat.reduceLT,Nat.reduceLeDiff,Nat.reduceShiftRight,Nat.reduceMod]
    (repeat (with_reducible refine And.intro ?_ ?_;focus (first | omega | (unfold I64;omega))))
    refine ⟨⟨i+1,h',trivial⟩,by simp only;omega,?_⟩
    refine weakX [(100,some 32)] (of_decide_eq_true rfl) (of_decide_eq_true rfl) ?_
    (simp only [s2,s3,hia,vcW,vZ,Int.reduceEq,Int.reduceNe,Int.reduceLT,Int.reduceLE,Nat.reduceEqDiff,Nat.reduceAdd,reduceIte,reduceCtorEq,Nat.reduceLT,Nat.reduceLeDiff,Nat.reduceShiftRight,Nat.reduceMod])
    (repeat' first | exact trivial | (with_reducible first | exact RnB.fxB (ints_fxB _) | rfl | refine And.intro ?_ ?_) | (with_reducible (first | refine RnB.bb ?_ | refine RnB.nb ?_);simp only [vcW,vZ,Int.reduceEq,Int.reduceNe,Int.reduceLT,Int.reduceLE,Nat.reduceEqDiff,Nat.reduceAdd,reduceIte,reduceCtorEq,Nat.reduceLT,Nat.reduceLeDiff,Nat.reduceShiftRight,Nat.reduceMod]) | (with_reducible first | refine RnB.ii ?_ | refine RnB.app ?_) | (with_reducible refine RnB.fxB ?_;simp only [vcW,vZ,Int.reduceEq,Int.reduceNe,Int.reduceLT,Int.reduceLE,Nat.reduceEqDiff,Nat.reduceAdd,reduceIte,reduceCtorEq,Nat.reduceLT,Nat.reduceLeDiff,Nat.reduceShiftRight,Nat.reduceMod]) | omega)
    all_goals first | exact hia.symm | exact RnB.fxB (by rw [← hia];exact ints_fxB _)
  ·have hin:i=a.length:=by omega
   cases hin
   obtain ⟨o1,o2,o3,o4⟩:=hok a.length
   have hc1:¬ (a.length:Int)<a.length:=by omega
   have htr:=trim_dg o2
   rw [hval] at htr
   have hts:=trimmed_s (subS a b a.length).1 (by omega)
   rw [htr] at hts
   have hbg:=borB_good (s:=stOf [(100,⟨3,1,ints (subS a b a.length).1⟩)]) 4 a.length 3 1 (ints (subS a b a.length).1) (by rw [ints_length,o1]) (ints_fx _)
   simp only [hc1,vZ,Int.reduceEq,Int.reduceNe,Int.reduceLT,Int.reduceLE,Nat.reduceEqDiff,Nat.reduceAdd,reduceIte,reduceCtorEq,Nat.reduceLT,Nat.reduceLeDiff,Nat.reduceShiftRight,Nat.reduceMod]
   rw [hbg]
   refine callS_of hts ?_
   simp only [vZ,Int.reduceEq,Int.reduceNe,Int.reduceLT,Int.reduceLE,Nat.reduceEqDiff,Nat.reduceAdd,reduceIte,reduceCtorEq,Nat.reduceLT,Nat.reduceLeDiff,Nat.reduceShiftRight,Nat.reduceMod]

theorem dg_mono:∀ (y x:Nat),y≤x→(dg y).length≤(dg x).length:=by
 intro y
 induction y using Nat.strongRecOn with
 | _ y ih =>
  intro x h
  by_cases e:y=0
  ·rw [e,dg_zero];exact Nat.zero_le _
  ·rw [dg_pos e,dg_pos (show x ≠ 0 by omega),List.length_cons,List.length_cons]
   have:=ih (y / 1000000000) (Nat.div_lt_self (by omega) (by omega)) (x / 1000000000) (Nat.div_le_div_right h)
   omega
theorem dVal_split (l:List Int) (i:Nat) (h:i<l.length):dVal l=dPre l i+1000000000 ^ i * (l[i]+1000000000 * dVal (l.drop (i+1))):=by
 have e:l=l.take i ++ (l[i] :: l.drop (i+1)):=by rw [← List.drop_eq_getElem_cons h,List.take_append_drop]
 have:dVal l=dVal (l.take i ++ (l[i] :: l.drop (i+1))):=by rw [← e]
 rw [this,dVal_append,List.length_take,Nat.min_eq_left (by omega)];rfl
theorem okD_take {l:List Int} (h:okD l) (i:Nat):okD (l.take i):=fun d hd=>h d (List.mem_of_mem_take hd)
theorem dVal_cmp {a b:List Int} (ha:okD a) (hb:okD b) {i:Nat} (h1:i<a.length) (h2:i<b.length) (hd:a.drop (i+1)=b.drop (i+1)) (hlt:a[i]<b[i]):dVal a<dVal b:=by
 rw [dVal_split a i h1,dVal_split b i h2,hd]
 have q1:=dVal_lt (okD_take ha i)
 have q2:=dVal_nonneg (okD_take hb i)
 rw [List.length_take,Nat.min_eq_left (by omega)] at q1
 unfold dPre
 have hp:(0:Int)<1000000000 ^ i:=Int.pow_pos (by omega)
 have:(1000000000:Int) ^ i * (a[i]+1000000000 * dVal (b.drop (i+1))+1)≤1000000000 ^ i * (b[i]+1000000000 * dVal (b.drop (i+1))):=Int.mul_le_mul_of_nonneg_left (by omega) (by omega)
 rw [Int.mul_add _ _ 1,Int.mul_one] at this
 omega
theorem cmpDigits_s (x y:Nat) (hx:(dg x).length≤1000000) (hy:(dg y).length≤1000000) :
  Sound Tryz.prog 101 [.sl (ints (dg x)),.sl (ints (dg y))] (.int .i64 ((x:Int) - y).sign):=by
 refine sound_W f_base_cmpDigits (Nat.le_of_ble_eq_true rfl) ?_
 have ha:=okD_dg x
 have hb:=okD_dg y
 have va:=dVal_dg x
 have vb:=dVal_dg y
 have m1:=dg_mono y x
 have m2:=dg_mono x y
 generalize dg x=a at *
 generalize dg y=b at *
 have slt:dVal a<dVal b→((x:Int) - y).sign = -1:=fun h=>Int.sign_eq_neg_one_of_neg (by omega)
 have sgt:dVal b<dVal a→((x:Int) - y).sign=1:=fun h=>Int.sign_eq_one_of_pos (by omega)
 by_cases hlen:a.length=b.length
 case neg =>
  have hne:¬ (a.length:Int)=b.length:=by omega
  by_cases hlt:(a.length:Int)<b.length
  ·have hs:=slt (by rw [va,vb];by_cases q:y≤x;have:=m1 q;omega;omega)
   simp only [c_base_cmpDigits,hne,hlt,hs,vZ,Int.reduceEq,Int.reduceNe,Int.reduceLT,Int.reduceLE,Nat.reduceEqDiff,Nat.reduceAdd,reduceIte,reduceCtorEq,Nat.reduceLT,Nat.reduceLeDiff,Nat.reduceShiftRight,Nat.reduceMod]
  ·have hs:=sgt (by rw [va,vb];by_cases q:x≤y;have:=m2 q;omega;omega)
   simp only [c_base_cmpDigits,hne,hlt,hs,vZ,Int.reduceEq,Int.reduceNe,Int.reduceLT,Int.reduceLE,Nat.reduceEqDiff,Nat.reduceAdd,reduceIte,reduceCtorEq,Nat.reduceLT,Nat.reduceLeDiff,Nat.reduceShiftRight,Nat.reduceMod]
 have hle:(a.length:Int)=b.length:=by omega
 simp only [c_base_cmpDigits,hle,vZ,Int.reduceEq,Int.reduceNe,Int.reduceLT,Int.reduceLE,Nat.reduceEqDiff,Nat.reduceAdd,reduceIte,reduceCtorEq,Nat.reduceLT,Nat.reduceLeDiff,Nat.reduceShiftRight,Nat.reduceMod]
 (repeat (with_reducible refine And.intro ?_ ?_;focus (first | omega | (unfold I64;omega))))
 refine W_loop (t:=.mk) (α:=PSigma fun k:Nat=>k≤a.length∧a.drop k=b.drop k) (fun ⟨k,_⟩=>(envOf [(0,.sl (ints a)),(1,.sl (ints b)),(5,.int .i64 ((k:Int) - 1))],stOf [])) (fun k=>k.1) ⟨a.length,Nat.le_refl _,by rw [List.drop_length,hlen,List.drop_length]⟩ ?_ (fun ⟨k,hk,hd⟩=>?_)
 ·refine weakX [] (of_decide_eq_true rfl) (of_decide_eq_true rfl) ?_
  (simp only [hle,vcW,vZ,Int.reduceEq,Int.reduceNe,Int.reduceLT,Int.reduceLE,Nat.reduceEqDiff,Nat.reduceAdd,reduceIte,reduceCtorEq,Nat.reduceLT,Nat.reduceLeDiff,Nat.reduceShiftRight,Nat.reduceMod])
  (repeat' first | exact trivial | (with_reducible first | exact RnB.fxB (ints_fxB _) | rfl | refine And.intro ?_ ?_) | (with_reducible (first | refine RnB.bb ?_ | refine RnB.nb ?_);simp only [vcW,vZ,Int.reduceEq,Int.reduceNe,Int.reduceLT,Int.reduceLE,Nat.reduceEqDiff,Nat.reduceAdd,reduceIte,reduceCtorEq,Nat.reduceLT,Nat.reduceLeDiff,Nat.reduceShiftRight,Nat.reduceMod]) | (with_reducible first | refine RnB.ii ?_ | refine RnB.app ?_) | (with_reducible refine RnB.fxB ?_;simp only [vcW,vZ,Int.reduceEq,Int.reduceNe,Int.reduceLT,Int.reduceLE,Nat.reduceEqDiff,Nat.reduceAdd,reduceIte,reduceCtorEq,Nat.reduceLT,Nat.reduceLeDiff,Nat.reduceShiftRight,Nat.reduceMod]) | omega)
 ·cases k with
  | zero =>
   have z0:¬ (0:Int)≤((0:Nat):Int) - 1:=by omega
   simp only [List.drop_zero] at hd
   have hs:((x:Int) - y).sign=0:=by rw [← va,← vb,hd];simp
   simp only [z0,hs,vZ,Int.reduceEq,Int.reduceNe,Int.reduceLT,Int.reduceLE,Nat.reduceEqDiff,Nat.reduceAdd,reduceIte,reduceCtorEq,Nat.reduceLT,Nat.reduceLeDiff,Nat.reduceShiftRight,Nat.reduceMod]
  | succ k =>
   have z0:(0:Int)≤(k:Int):=by omega
   have z1:((k+1:Nat):Int) - 1=(k:Int):=by omega
   have k1:k<a.length:=by omega
   have k2:k<b.length:=by omega
   have g1:=ints_get a k k1
   have g2:=ints_get b k k2
   by_cases c1:a[k]<b[k]
   ·have hs:=slt (dVal_cmp ha hb k1 k2 hd c1)
    simp only [z1,z0,g1,g2,c1,hs,vZ,Int.reduceEq,Int.reduceNe,Int.reduceLT,Int.reduceLE,Nat.reduceEqDiff,Nat.reduceAdd,reduceIte,reduceCtorEq,Nat.reduceLT,Nat.reduceLeDiff,Nat.reduceShiftRight,Nat.reduceMod]
   ·by_cases c2:b[k]<a[k]
    ·have hs:=sgt (dVal_cmp hb ha k2 k1 hd.symm c2)
     simp only [z1,z0,g1,g2,c1,c2,hs,vZ,Int.reduceEq,Int.reduceNe,Int.reduceLT,Int.reduceLE,Nat.reduceEqDiff,Nat.reduceAdd,reduceIte,reduceCtorEq,Nat.reduceLT,Nat.reduceLeDiff,Nat.reduceShiftRight,Nat.reduceMod]
    ·have hdk:a.drop k=b.drop k:=by rw [List.drop_eq_getElem_cons k1,List.drop_eq_getElem_cons k2,hd,show a[k]=b[k] by omega]
     simp only [z1,z0,g1,g2,c1,c2,vZ,Int.reduceEq,Int.reduceNe,Int.reduceLT,Int.reduceLE,Nat.reduceEqDiff,Nat.reduceAdd,reduceIte,reduceCtorEq,Nat.reduceLT,Nat.reduceLeDiff,Nat.reduceShiftRight,Nat.reduceMod]
     (repeat (with_reducible refine And.intro ?_ ?_;focus (first | omega | (unfold I64;omega))))
     refine ⟨⟨k,by omega,hdk⟩,by simp only;omega,?_⟩
     refine weakX [] (of_decide_eq_true rfl) (of_decide_eq_true rfl) ?_
     (simp only [vcW,vZ,Int.reduceEq,Int.reduceNe,Int.reduceLT,Int.reduceLE,Nat.reduceEqDiff,Nat.reduceAdd,reduceIte,reduceCtorEq,Nat.reduceLT,Nat.reduceLeDiff,Nat.reduceShiftRight,Nat.reduceMod])
     (repeat' first | exact trivial | (with_reducible first | exact RnB.fxB (ints_fxB _) | rfl | refine And.intro ?_ ?_) | (with_reducible (first | refine RnB.bb ?_ | refine RnB.nb ?_);simp only [vcW,vZ,Int.reduceEq,Int.reduceNe,Int.reduceLT,Int.reduceLE,Nat.reduceEqDiff,Nat.reduceAdd,reduceIte,reduceCtorEq,Nat.reduceLT,Nat.reduceLeDiff,Nat.reduceShiftRight,Nat.reduceMod]) | (with_reducible first | refine RnB.ii ?_ | refine RnB.app ?_) | (with_reducible refine RnB.fxB ?_;simp only [vcW,vZ,Int.reduceEq,Int.reduceNe,Int.reduceLT,Int.reduceLE,Nat.reduceEqDiff,Nat.reduceAdd,reduceIte,reduceCtorEq,Nat.reduceLT,Nat.reduceLeDiff,Nat.reduceShiftRight,Nat.reduceMod]) | omega)
end Go.Proofs.YtgmpcbpmnimkoaaGreatDoor

/- Contracts: wide numbers added,subtracted,compared. By an AI agent;nothing here is trusted. -/
namespace Go.Proofs.YtgmpcbpmnimkoaaGreatDoor
open Go.Av

def wOk (k:Nat) (v:Int):Prop:=(dg v.natAbs).length≤k
theorem wOk_of {k:Nat} {v:Int} (h:v.natAbs<1000000000 ^ k):wOk k v:=dg_len h
theorem wOk_neg {k:Nat} {v:Int} (h:wOk k v):wOk k (-v):=by unfold wOk at *;rwa [Int.natAbs_neg]
theorem sign_cases {x:Int} (h:x ≠ 0):(0<x∧x.sign=1)∨(x<0∧x.sign = -1):=by
 rcases Int.lt_trichotomy x 0 with q | q | q
 ·exact .inr ⟨q,Int.sign_eq_neg_one_of_neg q⟩
 ·exact absurd q h
 ·exact .inl ⟨q,Int.sign_eq_one_of_pos q⟩
set_option maxHeartbeats 4000000 in
theorem WideAdd_s (x y:Int) (hx:wOk 100000 x) (hy:wOk 100000 y):Sound Tryz.prog 21 [wideA x,wideA y] (wideA (x+y)):=by
 refine sound_W f_base_WideAdd (Nat.le_of_ble_eq_true rfl) ?_
 unfold wOk at hx hy
 have e1:∀ v:Int,dVal (dg v.natAbs)=v.natAbs:=fun v=>dVal_dg _
 by_cases h1:x=0
 ·subst h1
  have s1:(0:Int).sign=0:=rfl
  rw [Int.zero_add]
  simp only [c_base_WideAdd,wideA,s1,vZ,Int.reduceEq,Int.reduceNe,Int.reduceLT,Int.reduceLE,Nat.reduceEqDiff,Nat.reduceAdd,reduceIte,reduceCtorEq,Nat.reduceLT,Nat.reduceLeDiff,Nat.reduceShiftRight,Nat.reduceMod]
 by_cases h2:y=0
 ·subst h2
  have s1:(0:Int).sign=0:=rfl
  have s2:¬ x.sign=0:=by rw [Int.sign_eq_zero_iff_zero];exact h1
  rw [Int.add_zero]
  simp only [c_base_WideAdd,wideA,s1,s2,vZ,Int.reduceEq,Int.reduceNe,Int.reduceLT,Int.reduceLE,Nat.reduceEqDiff,Nat.reduceAdd,reduceIte,reduceCtorEq,Nat.reduceLT,Nat.reduceLeDiff,Nat.reduceShiftRight,Nat.reduceMod]
 have s1:¬ x.sign=0:=by rw [Int.sign_eq_zero_iff_zero];exact h1
 have s2:¬ y.sign=0:=by rw [Int.sign_eq_zero_iff_zero];exact h2
 have sx:=sign_cases h1
 have sy:=sign_cases h2
 by_cases h3:x.sign=y.sign
 ·obtain ⟨l,l1,l2,l3,l4⟩:=addDigits_s _ _ (okD_dg x.natAbs) (okD_dg y.natAbs) (by omega) (by omega)
  rw [e1,e1] at l3
  have hw:=wideOf_s y.sign l (by omega) l1 (by omega)
  have hv:y.sign * dVal l=x+y:=by
   rw [l3]
   rcases sx with ⟨q1,q2⟩ | ⟨q1,q2⟩ <;> rcases sy with ⟨q3,q4⟩ | ⟨q3,q4⟩ <;> rw [q4] <;> omega
  rw [hv] at hw
  have hr:wideA (x+y)=.agg [.int .i64 (x+y).sign,.sl (ints (dg (x+y).natAbs))]:=rfl
  rw [hr] at hw ⊢
  simp only [c_base_WideAdd,wideA,s1,s2,h3,vZ,Int.reduceEq,Int.reduceNe,Int.reduceLT,Int.reduceLE,Nat.reduceEqDiff,Nat.reduceAdd,reduceIte,reduceCtorEq,Nat.reduceLT,Nat.reduceLeDiff,Nat.reduceShiftRight,Nat.reduceMod]
  refine callS_of l4 ?_
  simp only [vZ,Int.reduceEq,Int.reduceNe,Int.reduceLT,Int.reduceLE,Nat.reduceEqDiff,Nat.reduceAdd,reduceIte,reduceCtorEq,Nat.reduceLT,Nat.reduceLeDiff,Nat.reduceShiftRight,Nat.reduceMod]
  refine callS_of hw ?_
  simp only [vZ,Int.reduceEq,Int.reduceNe,Int.reduceLT,Int.reduceLE,Nat.reduceEqDiff,Nat.reduceAdd,reduceIte,reduceCtorEq,Nat.reduceLT,Nat.reduceLeDiff,Nat.reduceShiftRight,Nat.reduceMod]
 ·have hc:=cmpDigits_s x.natAbs y.natAbs (by omega) (by omega)
  have hr:wideA (x+y)=.agg [.int .i64 (x+y).sign,.sl (ints (dg (x+y).natAbs))]:=rfl
  rw [hr]
  rcases Nat.lt_trichotomy x.natAbs y.natAbs with hlt | heq | hgt
  ·have hs:((x.natAbs:Int) - y.natAbs).sign = -1:=Int.sign_eq_neg_one_of_neg (by omega)
   have hsd:=subDigits_s (dg y.natAbs) (dg x.natAbs) (okD_dg _) (okD_dg _) (dg_mono _ _ (by omega)) (by omega) (by rw [e1,e1];omega)
   rw [e1,e1] at hsd
   have hok:=okD_dg ((y.natAbs:Int) - x.natAbs).toNat
   have hvd:=dVal_dg ((y.natAbs:Int) - x.natAbs).toNat
   have hle:(dg ((y.natAbs:Int) - x.natAbs).toNat).length≤1000000000:=by
    have:=dg_mono ((y.natAbs:Int) - x.natAbs).toNat y.natAbs (by omega);omega
   have hw:=wideOf_s y.sign _ hle hok (by omega)
   have hv:y.sign * dVal (dg ((y.natAbs:Int) - x.natAbs).toNat)=x+y:=by
    rw [hvd]
    rcases sx with ⟨q1,q2⟩ | ⟨q1,q2⟩ <;> rcases sy with ⟨q3,q4⟩ | ⟨q3,q4⟩ <;> rw [q4] <;> omega
   rw [hv,hr] at hw
   rw [hs] at hc
   simp only [c_base_WideAdd,wideA,s1,s2,h3,vZ,Int.reduceEq,Int.reduceNe,Int.reduceLT,Int.reduceLE,Nat.reduceEqDiff,Nat.reduceAdd,reduceIte,reduceCtorEq,Nat.reduceLT,Nat.reduceLeDiff,Nat.reduceShiftRight,Nat.reduceMod]
   refine callS_of hc ?_
   simp only [vZ,Int.reduceEq,Int.reduceNe,Int.reduceLT,Int.reduceLE,Nat.reduceEqDiff,Nat.reduceAdd,reduceIte,reduceCtorEq,Nat.reduceLT,Nat.reduceLeDiff,Nat.reduceShiftRight,Nat.reduceMod]
   refine callS_of hsd ?_
   simp only [vZ,Int.reduceEq,Int.reduceNe,Int.reduceLT,Int.reduceLE,Nat.reduceEqDiff,Nat.reduceAdd,reduceIte,reduceCtorEq,Nat.reduceLT,Nat.reduceLeDiff,Nat.reduceShiftRight,Nat.reduceMod]
   refine callS_of hw ?_
   simp only [vZ,Int.reduceEq,Int.reduceNe,Int.reduceLT,Int.reduceLE,Nat.reduceEqDiff,Nat.reduceAdd,reduceIte,reduceCtorEq,Nat.reduceLT,Nat.reduceLeDiff,Nat.reduceShiftRight,Nat.reduceMod]
  ·have hs:((x.natAbs:Int) - y.natAbs).sign=0:=by rw [heq];simp
   have hz:x+y=0:=by
    rcases sx with ⟨q1,q2⟩ | ⟨q1,q2⟩ <;> rcases sy with ⟨q3,q4⟩ | ⟨q3,q4⟩ <;> omega
   have hz1:(0:Int).sign=0:=rfl
   have hz2:dg (0:Int).natAbs=[]:=dg_zero
   have hz3:ints []=[]:=rfl
   rw [hs] at hc
   rw [hz,hz1,hz2,hz3]
   simp only [c_base_WideAdd,wideA,s1,s2,h3,vZ,Int.reduceEq,Int.reduceNe,Int.reduceLT,Int.reduceLE,Nat.reduceEqDiff,Nat.reduceAdd,reduceIte,reduceCtorEq,Nat.reduceLT,Nat.reduceLeDiff,Nat.reduceShiftRight,Nat.reduceMod]
   refine callS_of hc ?_
   simp only [vZ,Int.reduceEq,Int.reduceNe,Int.reduceLT,Int.reduceLE,Nat.reduceEqDiff,Nat.reduceAdd,reduceIte,reduceCtorEq,Nat.reduceLT,Nat.reduceLeDiff,Nat.reduceShiftRight,Nat.reduceMod]
  ·have hs:((x.natAbs:Int) - y.natAbs).sign=1:=Int.sign_eq_one_of_pos (by omega)
   have hsd:=subDigits_s (dg x.natAbs) (dg y.natAbs) (okD_dg _) (okD_dg _) (dg_mono _ _ (by omega)) (by omega) (by rw [e1,e1];omega)
   rw [e1,e1] at hsd
   have hok:=okD_dg ((x.natAbs:Int) - y.natAbs).toNat
   have hvd:=dVal_dg ((x.natAbs:Int) - y.natAbs).toNat
   have hle:(dg ((x.natAbs:Int) - y.natAbs).toNat).length≤1000000000:=by
    have:=dg_mono ((x.natAbs:Int) - y.natAbs).toNat x.natAbs (by omega);omega
   have hw:=wideOf_s x.sign _ hle hok (by omega)
   have hv:x.sign * dVal (dg ((x.natAbs:Int) - y.natAbs).toNat)=x+y:=by
    rw [hvd]
    rcases sx with ⟨q1,q2⟩ | ⟨q1,q2⟩ <;> rcases sy with ⟨q3,q4⟩ | ⟨q3,q4⟩ <;> rw [q2] <;> omega
   rw [hv,hr] at hw
   rw [hs] at hc
   simp only [c_base_WideAdd,wideA,s1,s2,h3,vZ,Int.reduceEq,Int.reduceNe,Int.reduceLT,Int.reduceLE,Nat.reduceEqDiff,Nat.reduceAdd,reduceIte,reduceCtorEq,Nat.reduceLT,Nat.reduceLeDiff,Nat.reduceShiftRight,Nat.reduceMod]
   refine callS_of hc ?_
   simp only [vZ,Int.reduceEq,Int.reduceNe,Int.reduceLT,Int.reduceLE,Nat.reduceEqDiff,Nat.reduceAdd,reduceIte,reduceCtorEq,Nat.reduceLT,Nat.reduceLeDiff,Nat.reduceShiftRight,Nat.reduceMod]
   refine callS_of hsd ?_
   simp only [vZ,Int.reduceEq,Int.reduceNe,Int.reduceLT,Int.reduceLE,Nat.reduceEqDiff,Nat.reduceAdd,reduceIte,reduceCtorEq,Nat.reduceLT,Nat.reduceLeDiff,Nat.reduceShiftRight,Nat.reduceMod]
   refine callS_of hw ?_
   simp only [vZ,Int.reduceEq,Int.reduceNe,Int.reduceLT,Int.reduceLE,Nat.reduceEqDiff,Nat.reduceAdd,reduceIte,reduceCtorEq,Nat.reduceLT,Nat.reduceLeDiff,Nat.reduceShiftRight,Nat.reduceMod]
theorem WideSub_s (x y:Int) (hx:wOk 100000 x) (hy:wOk 100000 y):Sound Tryz.prog 22 [wideA x,wideA y] (wideA (x - y)):=by
 refine sound_W f_base_WideSub (Nat.le_of_ble_eq_true rfl) ?_
 have hn:=WideNeg_s y
 have ha:=WideAdd_s x (-y) hx (wOk_neg hy)
 rw [show x + -y=x - y by omega] at ha
 have hr:∀ v,wideA v=.agg [.int .i64 v.sign,.sl (ints (dg v.natAbs))]:=fun _=>rfl
 rw [hr y,hr (-y)] at hn
 rw [hr x,hr (-y),hr (x - y)] at ha
 rw [hr x,hr y,hr (x - y)]
 simp only [c_base_WideSub,vZ,Int.reduceEq,Int.reduceNe,Int.reduceLT,Int.reduceLE,Nat.reduceEqDiff,Nat.reduceAdd,reduceIte,reduceCtorEq,Nat.reduceLT,Nat.reduceLeDiff,Nat.reduceShiftRight,Nat.reduceMod]
 refine callS_of hn ?_
 simp only [vZ,Int.reduceEq,Int.reduceNe,Int.reduceLT,Int.reduceLE,Nat.reduceEqDiff,Nat.reduceAdd,reduceIte,reduceCtorEq,Nat.reduceLT,Nat.reduceLeDiff,Nat.reduceShiftRight,Nat.reduceMod]
 refine callS_of ha ?_
 simp only [vZ,Int.reduceEq,Int.reduceNe,Int.reduceLT,Int.reduceLE,Nat.reduceEqDiff,Nat.reduceAdd,reduceIte,reduceCtorEq,Nat.reduceLT,Nat.reduceLeDiff,Nat.reduceShiftRight,Nat.reduceMod]
theorem WideCmp_s (x y:Int) (hx:wOk 100000 x) (hy:wOk 100000 y):Sound Tryz.prog 28 [wideA x,wideA y] (.int .i64 (x - y).sign):=by
 refine sound_W f_base_WideCmp (Nat.le_of_ble_eq_true rfl) ?_
 have ha:=WideSub_s x y hx hy
 have hr:∀ v,wideA v=.agg [.int .i64 v.sign,.sl (ints (dg v.natAbs))]:=fun _=>rfl
 rw [hr x,hr y,hr (x - y)] at ha
 rw [hr x,hr y]
 simp only [c_base_WideCmp,vZ,Int.reduceEq,Int.reduceNe,Int.reduceLT,Int.reduceLE,Nat.reduceEqDiff,Nat.reduceAdd,reduceIte,reduceCtorEq,Nat.reduceLT,Nat.reduceLeDiff,Nat.reduceShiftRight,Nat.reduceMod]
 refine callS_of ha ?_
 simp only [vZ,Int.reduceEq,Int.reduceNe,Int.reduceLT,Int.reduceLE,Nat.reduceEqDiff,Nat.reduceAdd,reduceIte,reduceCtorEq,Nat.reduceLT,Nat.reduceLeDiff,Nat.reduceShiftRight,Nat.reduceMod]
end Go.Proofs.YtgmpcbpmnimkoaaGreatDoor

/- Contracts: wide numbers of ints,and multiplied. By an AI agent;nothing here is trusted. -/
namespace Go.Proofs.YtgmpcbpmnimkoaaGreatDoor
open Go.Av

theorem pow_three {k:Nat} (h:(1000000000:Int) ^ k≤9223372036854775808):k≤2:=by
 by_cases hk:k≤2
 ·exact hk
 ·have h2:(1000000000:Nat) ^ 3≤1000000000 ^ k:=Nat.pow_le_pow_right (by omega) (by omega)
  have h3:((1000000000 ^ k:Nat):Int)=(1000000000:Int) ^ k:=by simp
  omega
theorem nilsGood:∀ x ∈ [AV.agg [.int .i64 0,.nils]],good x=true:=fun x hx=>by rw [List.mem_singleton.1 hx];rfl
theorem RnB.wide {s s':Store} {f:Nat→Option Nat} {ty sz:Nat}:RnB s s' f ⟨ty,sz,[AV.agg [.int .i64 0,.nils]]⟩ ⟨ty,sz,[AV.agg [.int .i64 0,.nils]]⟩:=RnB.same (B:=⟨ty,sz,[AV.agg [.int .i64 0,.nils]]⟩) nilsGood
set_option maxHeartbeats 4000000 in
theorem WideOf_s (n:Int) (hn:I64 n):Sound Tryz.prog 19 [.int .i64 n] (wideA n):=by
  refine sound_W f_base_WideOf (Nat.le_of_ble_eq_true rfl) ?_
  unfold I64 at hn
  have hmax:=maxLen_big
  obtain ⟨g,hg⟩:∃ g:Int,g=if n<0 then -1 else 1:=⟨_,rfl⟩
  have hgn:g * n.natAbs=n:=by rw [hg];split <;> omega
  have hg1:g=1∨g = -1:=by rw [hg];split <;> simp
  have hr:wideA n=.agg [.int .i64 n.sign,.sl (ints (dg n.natAbs))]:=rfl
  rw [hr]
  by_cases hneg:n<0
  all_goals
    first
      | (have hgg:g = -1:=by rw [hg,if_pos hneg]
         simp only [c_base_WideOf,hneg,vZ,Int.reduceEq,Int.reduceNe,Int.reduceLT,Int.reduceLE,Nat.reduceEqDiff,Nat.reduceAdd,reduceIte,reduceCtorEq,Nat.reduceLT,Nat.reduceLeDiff,Nat.reduceShiftRight,Nat.reduceMod])
      | (have hgg:g=1:=by rw [hg,if_neg hneg]
         simp only [c_base_WideOf,hneg,vZ,Int.reduceEq,Int.reduceNe,Int.reduceLT,Int.reduceLE,Nat.reduceEqDiff,Nat.reduceAdd,reduceIte,reduceCtorEq,Nat.reduceLT,Nat.reduceLeDiff,Nat.reduceShiftRight,Nat.reduceMod])
    rw [← hgg]
    refine W_loop (t:=.mk) (α:=PSigma fun p:Int × List Int=>okD p.2∧(n.natAbs:Int)=dVal p.2+1000000000 ^ p.2.length * p.1.natAbs∧p.2.length≤3) (fun x=>(envOf [(0,.int .i64 x.1.1),(2,.ptr 2 0 0),(3,.int .i64 g),(4,.buf 100 x.1.2.length)],stOf [(2,⟨38,2,[.agg [.int .i64 0,.nils]]⟩),(100,⟨3,1,ints x.1.2⟩)])) (fun x=>x.1.1.natAbs) ⟨(n,[]),(fun d hd=>by cases hd),by simp [dVal],by simp⟩ ?_ (fun ⟨⟨q,l⟩,h1,h2,h3⟩=>?_)
    · have hz:ints []=[]:=rfl
      refine weakX [(100,none)] (of_decide_eq_true rfl) (of_decide_eq_true rfl) ?_
      (simp only [hz,vcW,vZ,Int.reduceEq,Int.reduceNe,Int.reduceLT,Int.reduceLE,Nat.reduceEqDiff,Nat.reduceAdd,reduceIte,reduceCtorEq,Nat.reduceLT,Nat.reduceLeDiff,Nat.reduceShiftRight,Nat.reduceMod])
      repeat' (with_reducible refine And.intro ?_ ?_)
      any_goals (with_reducible exact RnB.wide)
      (repeat' first | exact trivial | (with_reducible first | exact RnB.fxB (ints_fxB _) | rfl | refine And.intro ?_ ?_) | (with_reducible (first | refine RnB.bb ?_ | refine RnB.nb ?_);simp only [vcW,vZ,Int.reduceEq,Int.reduceNe,Int.reduceLT,Int.reduceLE,Nat.reduceEqDiff,Nat.reduceAdd,reduceIte,reduceCtorEq,Nat.reduceLT,Nat.reduceLeDiff,Nat.reduceShiftRight,Nat.reduceMod]) | (with_reducible first | refine RnB.ii ?_ | refine RnB.app ?_) | (with_reducible refine RnB.fxB ?_;simp only [vcW,vZ,Int.reduceEq,Int.reduceNe,Int.reduceLT,Int.reduceLE,Nat.reduceEqDiff,Nat.reduceAdd,reduceIte,reduceCtorEq,Nat.reduceLT,Nat.reduceLeDiff,Nat.reduceShiftRight,Nat.reduceMod]) | omega)
    · simp only at h1 h2 h3
      have hv:=dVal_nonneg h1
      have hpp:(0:Int)<1000000000 ^ l.length:=Int.pow_pos (by omega)
      by_cases hq:q=0
      · subst hq
        have hval:dVal l=n.natAbs:=by rw [h2];simp
        have hw:=wideOf_s g l (by omega) h1 (by omega)
        rw [hval,hgn,hr] at hw
        have hbg:=borB_good (s:=stOf [(2,⟨38,2,[.agg [.int .i64 0,.nils]]⟩),(100,⟨3,1,ints l⟩)]) 4 l.length 3 1 (ints l) (by rw [ints_length]) (ints_fx _)
        simp only [vZ,Int.reduceEq,Int.reduceNe,Int.reduceLT,Int.reduceLE,Nat.reduceEqDiff,Nat.reduceAdd,reduceIte,reduceCtorEq,Nat.reduceLT,Nat.reduceLeDiff,Nat.reduceShiftRight,Nat.reduceMod]
        rw [hbg]
        refine callS_of hw ?_
        simp only [vcX,vZ,Int.reduceEq,Int.reduceNe,Int.reduceLT,Int.reduceLE,Nat.reduceEqDiff,Nat.reduceAdd,reduceIte,reduceCtorEq,Nat.reduceLT,Nat.reduceLeDiff,Nat.reduceShiftRight,Nat.reduceMod]
      · have hq1:(1:Int)≤q.natAbs:=by omega
        have hmul:(1000000000:Int) ^ l.length * 1≤1000000000 ^ l.length * q.natAbs:=Int.mul_le_mul_of_nonneg_left hq1 (by omega)
        have hl2:l.length≤2:=pow_three (by omega)
        have hqb:q.natAbs≤n.natAbs:=by
          have:(1:Int) * q.natAbs≤1000000000 ^ l.length * q.natAbs:=Int.mul_le_mul_of_nonneg_right (by omega) (by omega)
          omega
        have t1:(q.tmod 1000000000).natAbs=q.natAbs % 1000000000:=by rw [Int.natAbs_tmod];rfl
        have t2:(q.tdiv 1000000000).natAbs=q.natAbs / 1000000000:=by rw [Int.natAbs_tdiv];rfl
        have hsz:=Size_s (q.tmod 1000000000) (by unfold S63;omega)
        rw [t1] at hsz
        have hia:ints (l ++ [((q.natAbs % 1000000000:Nat):Int)])=ints l ++ [.int .i64 ((q.natAbs % 1000000000:Nat):Int)]:=ints_append _ _
        have ho:okD (l ++ [((q.natAbs % 1000000000:Nat):Int)]):=by
          intro d hd
          rcases List.mem_append.1 hd with e | e
          · exact h1 d e
          · rw [List.mem_singleton.1 e];omega
        have hvn:(n.natAbs:Int)=dVal (l ++ [((q.natAbs % 1000000000:Nat):Int)])+1000000000 ^ (l ++ [((q.natAbs % 1000000000:Nat):Int)]).length * ((q.tdiv 1000000000).natAbs:Int):=by
          rw [dVal_snoc,t2,List.length_append,List.length_singleton,Int.pow_succ,h2,Int.mul_assoc,Int.add_assoc,← Int.mul_add]
          congr 2
          omega
        have hne:(q ≠ 0)=True:=eq_true hq
        simp only [hq,vZ,Int.reduceEq,Int.reduceNe,Int.reduceLT,Int.reduceLE,Nat.reduceEqDiff,Nat.reduceAdd,reduceIte,reduceCtorEq,Nat.reduceLT,Nat.reduceLeDiff,Nat.reduceShiftRight,Nat.reduceMod]
        (repeat (with_reducible refine And.intro ?_ ?_;focus (first | omega | (unfold I64;omega))))
        refine callS_of hsz ?_
        simp only [ints_length,vZ,Int.reduceEq,Int.reduceNe,Int.reduceLT,Int.reduceLE,Nat.reduceEqDiff,Nat.reduceAdd,reduceIte,reduceCtorEq,Nat.reduceLT,Nat.reduceLeDiff,Nat.reduceShiftRight,Nat.reduceMod]
        (repeat (with_reducible refine And.intro ?_ ?_;focus (first | omega | (unfold I64;omega))))
        refine ⟨⟨(q.tdiv 1000000000,l ++ [((q.natAbs % 1000000000:Nat):Int)]),ho,hvn,by simp;omega⟩,by simp only;rw [t2];omega,?_⟩
        refine weakX [(100,some 14)] (of_decide_eq_true rfl) (of_decide_eq_true rfl) ?_
        (simp only [hia,vcW,vZ,Int.reduceEq,Int.reduceNe,Int.reduceLT,Int.reduceLE,Nat.reduceEqDiff,Nat.reduceAdd,reduceIte,reduceCtorEq,Nat.reduceLT,Nat.reduceLeDiff,Nat.reduceShiftRight,Nat.reduceMod])
        repeat' (with_reducible refine And.intro ?_ ?_)
        any_goals (with_reducible exact RnB.wide)
        (repeat' first | exact trivial | (with_reducible first | exact RnB.fxB (ints_fxB _) | rfl | refine And.intro ?_ ?_) | (with_reducible (first | refine RnB.bb ?_ | refine RnB.nb ?_);simp only [vcW,vZ,Int.reduceEq,Int.reduceNe,Int.reduceLT,Int.reduceLE,Nat.reduceEqDiff,Nat.reduceAdd,reduceIte,reduceCtorEq,Nat.reduceLT,Nat.reduceLeDiff,Nat.reduceShiftRight,Nat.reduceMod]) | (with_reducible first | refine RnB.ii ?_ | refine RnB.app ?_) | (with_reducible refine RnB.fxB ?_;simp only [vcW,vZ,Int.reduceEq,Int.reduceNe,Int.reduceLT,Int.reduceLE,Nat.reduceEqDiff,Nat.reduceAdd,reduceIte,reduceCtorEq,Nat.reduceLT,Nat.reduceLeDiff,Nat.reduceShiftRight,Nat.reduceMod]) | omega)
        all_goals first | exact hia.symm | exact RnB.fxB (by rw [← hia];exact ints_fxB _) | exact RnB.wide | simp
end Go.Proofs.YtgmpcbpmnimkoaaGreatDoor

/- Contracts: wide numbers multiplied. By an AI agent;nothing here is trusted. -/
namespace Go.Proofs.YtgmpcbpmnimkoaaGreatDoor
open Go.Av

theorem mkOk_z (N:Nat):mkOk 1 (List.replicate N (AV.int .i64 0)):=by
 intro x hx
 rw [List.eq_of_mem_replicate hx]
 exact ⟨rfl,rfl,by decide⟩
theorem ints_z (n:Nat):List.replicate n (AV.int .i64 0)=ints (List.replicate n 0):=by simp [ints]
theorem ints_st (l:List Int) (k:Nat) (n:Int):(ints l).set k (.int .i64 n)=ints (l.set k n):=by simp [ints,List.map_set]
theorem dVal_set:∀ (l:List Int) (j:Nat) (x:Int) (h:j<l.length),dVal (l.set j x)=dVal l+1000000000 ^ j * (x - l[j])
 | d :: l,0,x,h=>by simp [dVal];omega
 | d :: l,j+1,x,h=>by
  rw [List.set_cons_succ,dVal,dVal_set l j x (by simpa using h),dVal,List.getElem_cons_succ,Int.pow_succ,Int.mul_add,← Int.mul_assoc,Int.mul_comm 1000000000 ((1000000000:Int) ^ j)];omega
theorem okD_set {l:List Int} (h:okD l) (j:Nat) {x:Int} (hx:0≤x∧x<1000000000):okD (l.set j x):=by
 intro d hd
 rcases List.mem_or_eq_of_mem_set hd with e | e
 ·exact h d e
 ·rw [e];exact hx
theorem dAt_set_ne {l:List Int} {i j:Nat} {x:Int} (h:i ≠ j):dAt (l.set i x) j=dAt l j:=by
 unfold dAt List.getD
 rw [List.getElem?_set_ne h]
theorem dVal_zeros (n:Nat):dVal (List.replicate n 0)=0:=by
 induction n with
 | zero=>rfl
 | succ n ih=>rw [List.replicate_succ,dVal,ih];rfl
theorem dAt_zeros (n j:Nat):dAt (List.replicate n 0) j=0:=by
 unfold dAt List.getD
 rw [List.getElem?_replicate];split <;> rfl
theorem mul_step {V P o m c s r q:Int} (hs:s=o+m+c) (hr:r+1000000000 * q=s):V+P * (r - o)+P * 1000000000 * q=V+P * c+P * m:=by
 have h1:P * (r - o)+P * 1000000000 * q=P * (r - o+1000000000 * q):=by rw [Int.mul_add,Int.mul_assoc]
 have h2:r - o+1000000000 * q=c+m:=by omega
 rw [h2,Int.mul_add] at h1
 omega
theorem dd_bound {a b:Int} (ha:0≤a∧a<1000000000) (hb:0≤b∧b<1000000000):0≤a * b∧a * b≤999999999 * 999999999 :=
 ⟨Int.mul_nonneg ha.1 hb.1,Int.mul_le_mul (by omega) (by omega) hb.1 (by omega)⟩

set_option maxHeartbeats 8000000 in
theorem WideMul_s (x y:Int) (hx:wOk 100000 x) (hy:wOk 100000 y):Sound Tryz.prog 20 [wideA x,wideA y] (wideA (x * y)):=by
 refine sound_W f_base_WideMul (Nat.le_of_ble_eq_true rfl) ?_
 unfold wOk at hx hy
 have hmax:=maxLen_big
 have hr:∀ v,wideA v=.agg [.int .i64 v.sign,.sl (ints (dg v.natAbs))]:=fun _=>rfl
 have hsg:∀ v:Int, -1≤v.sign∧v.sign≤1:=fun v=>by
  rcases Int.lt_trichotomy v 0 with h | h | h
  ·rw [Int.sign_eq_neg_one_of_neg h];omega
  ·rw [h];decide
  ·rw [Int.sign_eq_one_of_pos h];omega
 have hs1:=hsg x
 have hs2:=hsg y
 have hsp : -1≤x.sign * y.sign∧x.sign * y.sign≤1:=by rw [← Int.sign_mul];exact hsg _
 have hfin:∀ l:List Int,okD l→l.length≤1000000000→dVal l=(x.natAbs:Int) * y.natAbs→Sound Tryz.prog 99 [.int .i64 (x.sign * y.sign),.sl (ints l)] (wideA (x * y)):=by
  intro l h1 h2 h3
  have hsgn:x.sign * y.sign * dVal l=x * y:=by
   rw [h3,Int.mul_assoc,← Int.mul_assoc y.sign,Int.mul_comm y.sign,Int.mul_assoc,Int.sign_mul_natAbs,← Int.mul_assoc,Int.sign_mul_natAbs]
  have:=wideOf_s (x.sign * y.sign) l h2 h1 (by
   by_cases q:x.sign * y.sign=0
   ·refine .inr (.inr ⟨q,?_⟩)
    rcases Int.mul_eq_zero.1 q with e | e
    ·rw [Int.sign_eq_zero_iff_zero] at e;rw [h3,e];simp
    ·rw [Int.sign_eq_zero_iff_zero] at e;rw [h3,e];simp
   ·omega)
  rw [hsgn] at this
  exact this
 have va:=dVal_dg x.natAbs
 have vb:=dVal_dg y.natAbs
 have oa:=okD_dg x.natAbs
 have ob:=okD_dg y.natAbs
 rw [← va,← vb] at hfin
 rw [hr x,hr y]
 generalize dg x.natAbs=a at *
 generalize dg y.natAbs=b at *
 generalize x.sign=sx at *
 generalize y.sign=sy at *
 obtain ⟨M,hM⟩:∃ M,M=a.length+b.length+1:=⟨_,rfl⟩
 have hMi:(a.length:Int)+b.length+1=(M:Int):=by omega
 rw [hr (x * y)] at hfin ⊢
 simp only [c_base_WideMul,hMi,vZ,Int.reduceEq,Int.reduceNe,Int.reduceLT,Int.reduceLE,Nat.reduceEqDiff,Nat.reduceAdd,reduceIte,reduceCtorEq,Nat.reduceLT,Nat.reduceLeDiff,Nat.reduceShiftRight,Nat.reduceMod]
 (repeat (with_reducible refine And.intro ?_ ?_;focus (first | omega | (unfold I64;omega))))
 refine ⟨mkOk_z _,?_⟩
 rw [ints_z]
 refine W_loop (t:=.mk) (α:=PSigma fun p:Nat × List Int=>p.1≤a.length∧okD p.2∧p.2.length=M∧dVal p.2=dPre a p.1 * dVal b∧(∀ j,p.1+b.length≤j→dAt p.2 j=0)) (fun x=>(envOf [(2,.ptr 2 0 0),(3,.ptr 3 0 0),(4,.ptr 4 0 0),(5,.buf 100 M),(6,.int .i64 x.1.1)],stOf [(2,⟨38,2,[.agg [.int .i64 sx,.sl (ints a)]]⟩),(3,⟨38,2,[.agg [.int .i64 sy,.sl (ints b)]]⟩),(4,⟨38,2,[.agg [.int .i64 0,.nils]]⟩),(100,⟨3,1,ints x.1.2⟩)])) (fun x=>a.length - x.1.1) ⟨(0,List.replicate M 0),Nat.zero_le _,(fun d hd=>by rw [List.eq_of_mem_replicate hd];omega),by simp,by rw [dVal_zeros];simp [dPre,dVal],fun j _=>dAt_zeros M j⟩ ?_ (fun ⟨⟨i,out⟩,hi,p1,p2,p3,p4⟩=>?_)
 ·refine weakX [(100,some 18)] (of_decide_eq_true rfl) (of_decide_eq_true rfl) ?_
  (simp only [vcW,vZ,Int.reduceEq,Int.reduceNe,Int.reduceLT,Int.reduceLE,Nat.reduceEqDiff,Nat.reduceAdd,reduceIte,reduceCtorEq,Nat.reduceLT,Nat.reduceLeDiff,Nat.reduceShiftRight,Nat.reduceMod])
  repeat' (with_reducible refine And.intro ?_ ?_)
  any_goals (with_reducible exact RnB.wide)
  (repeat' first | exact trivial | (with_reducible first | exact RnB.fxB (ints_fxB _) | rfl | refine And.intro ?_ ?_) | (with_reducible (first | refine RnB.bb ?_ | refine RnB.nb ?_);simp only [vcW,vZ,Int.reduceEq,Int.reduceNe,Int.reduceLT,Int.reduceLE,Nat.reduceEqDiff,Nat.reduceAdd,reduceIte,reduceCtorEq,Nat.reduceLT,Nat.reduceLeDiff,Nat.reduceShiftRight,Nat.reduceMod]) | (with_reducible first | refine RnB.ii ?_ | refine RnB.app ?_) | (with_reducible refine RnB.fxB ?_;simp only [vcW,vZ,Int.reduceEq,Int.reduceNe,Int.reduceLT,Int.reduceLE,Nat.reduceEqDiff,Nat.reduceAdd,reduceIte,reduceCtorEq,Nat.reduceLT,Nat.reduceLeDiff,Nat.reduceShiftRight,Nat.reduceMod]) | omega)
 ·simp only at hi p1 p2 p3 p4
  by_cases h':i<a.length
  ·have hc1:(i:Int)<a.length:=by omega
   have qa:=oa _ (List.getElem_mem h')
   have ga:=ints_get a i h'
   have hpa:dPre a (i+1)=dPre a i+1000000000 ^ i * a[i]:=by rw [dPre_succ,dAt_lt h']
   generalize a[i]=ai at *
   simp only [hc1,vZ,Int.reduceEq,Int.reduceNe,Int.reduceLT,Int.reduceLE,Nat.reduceEqDiff,Nat.reduceAdd,reduceIte,reduceCtorEq,Nat.reduceLT,Nat.reduceLeDiff,Nat.reduceShiftRight,Nat.reduceMod]
   refine W_loop (t:=.mk) (α:=PSigma fun p:Nat × List Int × Int=>p.1≤b.length∧okD p.2.1∧p.2.1.length=M∧(0≤p.2.2∧p.2.2<1000000000)∧dVal p.2.1+1000000000 ^ (i+p.1) * p.2.2=dPre a i * dVal b+1000000000 ^ i * (ai * dPre b p.1)∧(∀ j,i+b.length≤j→dAt p.2.1 j=0)) (fun x=>(envOf [(2,.ptr 2 0 0),(3,.ptr 3 0 0),(4,.ptr 4 0 0),(5,.buf 100 M),(6,.int .i64 i),(7,.int .i64 x.1.2.2),(8,.int .i64 x.1.1)],stOf [(2,⟨38,2,[.agg [.int .i64 sx,.sl (ints a)]]⟩),(3,⟨38,2,[.agg [.int .i64 sy,.sl (ints b)]]⟩),(4,⟨38,2,[.agg [.int .i64 0,.nils]]⟩),(100,⟨3,1,ints x.1.2.1⟩)])) (fun x=>b.length - x.1.1) ⟨(0,out,0),Nat.zero_le _,p1,p2,⟨by simp only;omega,by simp only;omega⟩,by simp only;rw [p3];simp [dPre,dVal],p4⟩ ?_ (fun ⟨⟨k,w,c⟩,hk,r1,r2,r3,r4,r5⟩=>?_)
   ·refine weakX [(100,some 100)] (of_decide_eq_true rfl) (of_decide_eq_true rfl) ?_
    (simp only [vcW,vZ,Int.reduceEq,Int.reduceNe,Int.reduceLT,Int.reduceLE,Nat.reduceEqDiff,Nat.reduceAdd,reduceIte,reduceCtorEq,Nat.reduceLT,Nat.reduceLeDiff,Nat.reduceShiftRight,Nat.reduceMod])
    repeat' (with_reducible refine And.intro ?_ ?_)
    any_goals (with_reducible exact RnB.wide)
    (repeat' first | exact trivial | (with_reducible first | exact RnB.fxB (ints_fxB _) | rfl | refine And.intro ?_ ?_) | (with_reducible (first | refine RnB.bb ?_ | refine RnB.nb ?_);simp only [vcW,vZ,Int.reduceEq,Int.reduceNe,Int.reduceLT,Int.reduceLE,Nat.reduceEqDiff,Nat.reduceAdd,reduceIte,reduceCtorEq,Nat.reduceLT,Nat.reduceLeDiff,Nat.reduceShiftRight,Nat.reduceMod]) | (with_reducible first | refine RnB.ii ?_ | refine RnB.app ?_) | (with_reducible refine RnB.fxB ?_;simp only [vcW,vZ,Int.reduceEq,Int.reduceNe,Int.reduceLT,Int.reduceLE,Nat.reduceEqDiff,Nat.reduceAdd,reduceIte,reduceCtorEq,Nat.reduceLT,Nat.reduceLeDiff,Nat.reduceShiftRight,Nat.reduceMod]) | omega)
   ·simp only at hk r1 r2 r3 r4 r5
    by_cases hk':k<b.length
    ·have hc2:(k:Int)<b.length:=by omega
     have qb:=ob _ (List.getElem_mem hk')
     have gb:=ints_get b k hk'
     have hpb:dPre b (k+1)=dPre b k+1000000000 ^ k * b[k]:=by rw [dPre_succ,dAt_lt hk']
     generalize b[k]=bk at *
     have hik:i+k<w.length:=by omega
     have hik2:(i:Int)+k=((i+k:Nat):Int):=by omega
     have qw:=r1 _ (List.getElem_mem hik)
     have gw:=ints_get w (i+k) hik
     have hset:=dVal_set w (i+k)
     have hdd:=dd_bound qa qb
     obtain ⟨S,hS⟩:∃ S,S=w[i+k]+ai * bk+c:=⟨_,rfl⟩
     have t1:S.tmod 1000000000=S % 1000000000:=Int.tmod_eq_emod_of_nonneg (by omega)
     have t2:S.tdiv 1000000000=S / 1000000000:=Int.tdiv_eq_ediv_of_nonneg (by omega)
     have n1:=okD_set r1 (i+k) (x:=S % 1000000000) ⟨by omega,by omega⟩
     have n2:(w.set (i+k) (S % 1000000000)).length=M:=by simp [r2]
     have n3:0≤S / 1000000000∧S / 1000000000<1000000000:=by omega
     have n4:dVal (w.set (i+k) (S % 1000000000))+1000000000 ^ (i+(k+1)) * (S / 1000000000)=dPre a i * dVal b+1000000000 ^ i * (ai * dPre b (k+1)):=by
      rw [hset _ hik,← Nat.add_assoc,Int.pow_succ,mul_step hS (by omega),r4,hpb,Int.mul_add ai,Int.mul_add (1000000000 ^ i),Int.pow_add]
      have:(1000000000:Int) ^ i * 1000000000 ^ k * (ai * bk)=1000000000 ^ i * (ai * (1000000000 ^ k * bk)):=by
       rw [Int.mul_assoc,← Int.mul_assoc (1000000000 ^ k),Int.mul_comm (1000000000 ^ k) ai,Int.mul_assoc]
      omega
     have n5:∀ j,i+b.length≤j→dAt (w.set (i+k) (S % 1000000000)) j=0:=fun j hj=>by rw [dAt_set_ne (by omega)];exact r5 j hj
     have hst:(ints w).set (i+k) (.int .i64 (S % 1000000000))=ints (w.set (i+k) (S % 1000000000)):=ints_st _ _ _
     generalize w[i+k]=wv at *
     simp only [hc2,hik2,ga,gb,gw,← hS,t1,t2,vZ,Int.reduceEq,Int.reduceNe,Int.reduceLT,Int.reduceLE,Nat.reduceEqDiff,Nat.reduceAdd,reduceIte,reduceCtorEq,Nat.reduceLT,Nat.reduceLeDiff,Nat.reduceShiftRight,Nat.reduceMod]
     (repeat (with_reducible refine And.intro ?_ ?_;focus (first | omega | (unfold I64;omega))))
     refine ⟨⟨(k+1,w.set (i+k) (S % 1000000000),S / 1000000000),hk',n1,n2,n3,n4,n5⟩,by simp only;omega,?_⟩
     refine weakX [(100,some 100)] (of_decide_eq_true rfl) (of_decide_eq_true rfl) ?_
     (simp only [vcW,vZ,Int.reduceEq,Int.reduceNe,Int.reduceLT,Int.reduceLE,Nat.reduceEqDiff,Nat.reduceAdd,reduceIte,reduceCtorEq,Nat.reduceLT,Nat.reduceLeDiff,Nat.reduceShiftRight,Nat.reduceMod])
     repeat' (with_reducible refine And.intro ?_ ?_)
     any_goals (with_reducible exact RnB.wide)
     (repeat' first | exact trivial | (with_reducible first | exact RnB.fxB (ints_fxB _) | rfl | refine And.intro ?_ ?_) | (with_reducible (first | refine RnB.bb ?_ | refine RnB.nb ?_);simp only [vcW,vZ,Int.reduceEq,Int.reduceNe,Int.reduceLT,Int.reduceLE,Nat.reduceEqDiff,Nat.reduceAdd,reduceIte,reduceCtorEq,Nat.reduceLT,Nat.reduceLeDiff,Nat.reduceShiftRight,Nat.reduceMod]) | (with_reducible first | refine RnB.ii ?_ | refine RnB.app ?_) | (with_reducible refine RnB.fxB ?_;simp only [vcW,vZ,Int.reduceEq,Int.reduceNe,Int.reduceLT,Int.reduceLE,Nat.reduceEqDiff,Nat.reduceAdd,reduceIte,reduceCtorEq,Nat.reduceLT,Nat.reduceLeDiff,Nat.reduceShiftRight,Nat.reduceMod]) | omega)
     all_goals exact RnB.eq hst (by rw [hst];exact ints_fxB _)
    ·have hkl:k=b.length:=by omega
     have hc2:¬ (k:Int)<b.length:=by omega
     have hik:i+b.length<w.length:=by omega
     have hik2:(i:Int)+b.length=((i+b.length:Nat):Int):=by omega
     have w0:w[i+b.length]=0:=by rw [← dAt_lt hik];exact r5 _ (Nat.le_refl _)
     have gw:=ints_get w (i+b.length) hik
     rw [w0] at gw
     have hset:=dVal_set w (i+b.length) c hik
     rw [w0] at hset
     have n1:=okD_set r1 (i+b.length) r3
     have n2:(w.set (i+b.length) c).length=M:=by simp [r2]
     have n3:dVal (w.set (i+b.length) c)=dPre a (i+1) * dVal b:=by
      rw [hset,Int.sub_zero,← hkl,r4,hkl,dPre_all (Nat.le_refl b.length),hpa,Int.add_mul,Int.mul_assoc]
     have n4:∀ j,i+1+b.length≤j→dAt (w.set (i+b.length) c) j=0:=fun j hj=>by rw [dAt_set_ne (by omega)];exact r5 j (by omega)
     have hst:(ints w).set (i+b.length) (.int .i64 c)=ints (w.set (i+b.length) c):=ints_st _ _ _
     simp only [hc2,hik2,gw,Int.zero_add,vZ,Int.reduceEq,Int.reduceNe,Int.reduceLT,Int.reduceLE,Nat.reduceEqDiff,Nat.reduceAdd,reduceIte,reduceCtorEq,Nat.reduceLT,Nat.reduceLeDiff,Nat.reduceShiftRight,Nat.reduceMod]
     (repeat (with_reducible refine And.intro ?_ ?_;focus (first | omega | (unfold I64;omega))))
     refine ⟨⟨(i+1,w.set (i+b.length) c),h',n1,n2,n3,n4⟩,by simp only;omega,?_⟩
     refine weakX [(100,some 100)] (of_decide_eq_true rfl) (of_decide_eq_true rfl) ?_
     (simp only [vcW,vZ,Int.reduceEq,Int.reduceNe,Int.reduceLT,Int.reduceLE,Nat.reduceEqDiff,Nat.reduceAdd,reduceIte,reduceCtorEq,Nat.reduceLT,Nat.reduceLeDiff,Nat.reduceShiftRight,Nat.reduceMod])
     repeat' (with_reducible refine And.intro ?_ ?_)
     any_goals (with_reducible exact RnB.wide)
     (repeat' first | exact trivial | (with_reducible first | exact RnB.fxB (ints_fxB _) | rfl | refine And.intro ?_ ?_) | (with_reducible (first | refine RnB.bb ?_ | refine RnB.nb ?_);simp only [vcW,vZ,Int.reduceEq,Int.reduceNe,Int.reduceLT,Int.reduceLE,Nat.reduceEqDiff,Nat.reduceAdd,reduceIte,reduceCtorEq,Nat.reduceLT,Nat.reduceLeDiff,Nat.reduceShiftRight,Nat.reduceMod]) | (with_reducible first | refine RnB.ii ?_ | refine RnB.app ?_) | (with_reducible refine RnB.fxB ?_;simp only [vcW,vZ,Int.reduceEq,Int.reduceNe,Int.reduceLT,Int.reduceLE,Nat.reduceEqDiff,Nat.reduceAdd,reduceIte,reduceCtorEq,Nat.reduceLT,Nat.reduceLeDiff,Nat.reduceShiftRight,Nat.reduceMod]) | omega)
     all_goals exact RnB.eq hst (by rw [hst];exact ints_fxB _)
  ·have hil:i=a.length:=by omega
   have hc1:¬ (i:Int)<a.length:=by omega
   rw [hil,dPre_all (Nat.le_refl _)] at p3
   have hw:=hfin out p1 (by omega) p3
   have hbg:=borB_good (s:=stOf [(2,⟨38,2,[.agg [.int .i64 sx,.sl (ints a)]]⟩),(3,⟨38,2,[.agg [.int .i64 sy,.sl (ints b)]]⟩),(4,⟨38,2,[.agg [.int .i64 0,.nils]]⟩),(100,⟨3,1,ints out⟩)]) 4 M 3 1 (ints out) (by rw [ints_length,p2]) (ints_fx _)
   have hsI:I64 (sx * sy):=by unfold I64;omega
   simp only [hc1,vZ,Int.reduceEq,Int.reduceNe,Int.reduceLT,Int.reduceLE,Nat.reduceEqDiff,Nat.reduceAdd,reduceIte,reduceCtorEq,Nat.reduceLT,Nat.reduceLeDiff,Nat.reduceShiftRight,Nat.reduceMod]
   (repeat (with_reducible refine And.intro ?_ ?_;focus (first | omega | (unfold I64;omega))))
   rw [hbg]
   refine callS_of hw ?_
   simp only [vcX,vZ,Int.reduceEq,Int.reduceNe,Int.reduceLT,Int.reduceLE,Nat.reduceEqDiff,Nat.reduceAdd,reduceIte,reduceCtorEq,Nat.reduceLT,Nat.reduceLeDiff,Nat.reduceShiftRight,Nat.reduceMod]
end Go.Proofs.YtgmpcbpmnimkoaaGreatDoor

/- Contracts: the model of charges,differences,both errors. By an AI agent;nothing here is trusted. -/
namespace Go.Proofs.YtgmpcbpmnimkoaaGreatDoor
open Go.Av

def oEnd (t ty sz:Nat) (es:List AV):Exit→Env→Store→Prop:=fun x e s=>(x=.normal∨x=.ret)∧ownV e s t ty sz es
theorem oEnd_n (t ty sz:Nat) (es:List AV) (e:Env) (s:Store):oEnd t ty sz es .normal e s=ownV e s t ty sz es:=propext ⟨fun h=>h.2,fun h=>⟨.inl rfl,h⟩⟩
theorem oEnd_r (t ty sz:Nat) (es:List AV) (e:Env) (s:Store):oEnd t ty sz es .ret e s=ownV e s t ty sz es:=propext ⟨fun h=>h.2,fun h=>⟨.inr rfl,h⟩⟩
theorem soundO_W {P:Program} {f:FuncId} {nt np t:Nat} {m:MC} (hF:cFun P f=some (nt,np,m,[(t,none)])) {args:List AV} (hla:args.length≤nt) {ty sz:Nat} {es:List AV} (hsz:0<sz)
  (h:W P nt m (oEnd t ty sz es) (argE args) noStore .mk):SoundO P f args ty sz es:=soundO_of hF hla hsz (W_sound h)
theorem ownV_i {e:Env} {s:Store} {t ty sz:Nat} {es:List AV} (k:Nat) (n:Nat) (h1:e t=.buf k n) (h2:n=es.length) (h3:s k=some (some ⟨ty,sz,es⟩)) (h4:es.all imm=true):ownV e s t ty sz es:=⟨k,by rw [← h2];exact h1,h3,h4⟩
theorem it_bd {items:List Int} (hi:∀ x ∈ items, -100≤x∧x≤100) (j:Nat) : -100≤items.getD j 0∧items.getD j 0≤100:=by
 by_cases h:j<items.length
 ·rw [getD_at h];exact hi _ (List.getElem_mem h)
 ·simp [List.getD,List.getElem?_eq_none (Nat.le_of_not_lt h)]
theorem ch_bd {ch:List Int} {C:Int} (hC:0≤C) (hc:∀ x ∈ ch, -C≤x∧x≤C) (k:Nat) : -C≤ch.getD k 0∧ch.getD k 0≤C:=by
 by_cases h:k<ch.length
 ·rw [getD_at h];exact hc _ (List.getElem_mem h)
 ·simp [List.getD,List.getElem?_eq_none (Nat.le_of_not_lt h)];omega
theorem mdT_bd {items ch:List Int} {C:Int} (hC:0≤C) (hi:∀ x ∈ items, -100≤x∧x≤100) (hc:∀ x ∈ ch, -C≤x∧x≤C) (n:Nat):∀ k, -(100 * C * k)≤mdT items ch n k∧mdT items ch n k≤100 * C * k
 | 0=>by simp [mdT]
 | k+1=>by
  have ih:=mdT_bd hC hi hc n k
  have h4:100 * C * ((k+1:Nat):Int)=100 * C * k+100 * C:=by rw [show ((k+1:Nat):Int)=(k:Int)+1 by omega,Int.mul_add,Int.mul_one]
  rw [mdT,h4]
  split
  ·have:=prod_bd hC (it_bd hi (n - k)) (ch_bd hC hc k)
   rw [Int.mul_comm (items.getD (n - k) 0)] at this;omega
  ·have:0≤100 * C:=by omega
   omega
theorem mdP_bd {items ch:List Int} {C:Int} (hC:0≤C) (hi:∀ x ∈ items, -100≤x∧x≤100) (hc:∀ x ∈ ch, -C≤x∧x≤C) (n k j:Nat) : -(100 * C * (k+1:Nat))≤mdP items ch n k j∧mdP items ch n k j≤100 * C * (k+1:Nat):=by
 have ih:=mdT_bd hC hi hc n k
 have h4:100 * C * ((k+1:Nat):Int)=100 * C * k+100 * C:=by rw [show ((k+1:Nat):Int)=(k:Int)+1 by omega,Int.mul_add,Int.mul_one]
 rw [mdP,h4]
 split
 ·have:=prod_bd hC (it_bd hi (n - k)) (ch_bd hC hc k)
  rw [Int.mul_comm (items.getD (n - k) 0)] at this;omega
 ·have:0≤100 * C:=by omega
  omega
theorem mdL_0 (items ch:List Int):mdL items ch 0 0=List.replicate (ch.length+items.length - 1) 0:=by
 apply List.ext_getElem
 ·simp [mdL]
 ·intro n h1 h2
  rw [mdL_get,mdP_0];simp [mdT]
theorem mdL_next (items ch:List Int) (k:Nat):mdL items ch k items.length=mdL items ch (k+1) 0:=by
 unfold mdL
 refine List.map_congr_left fun n _=>?_
 rw [mdP_next,mdP_0]
def mdA (items ch:List Int):List Int:=mdL items ch ch.length 0
theorem mdA_len (items ch:List Int):(mdA items ch).length=ch.length+items.length - 1:=mdL_len _ _ _ _
theorem mdA_get (items ch:List Int) {n:Nat} (h:n<(mdA items ch).length):(mdA items ch)[n]=mdT items ch n ch.length :=
 (mdL_get items ch ch.length 0 h).trans (mdP_0 _ _ _ _)
set_option maxHeartbeats 4000000 in
theorem model_s {items ch:List Int} (shifts:Int) {C:Int} (h1:1≤items.length) (h6:items.length≤6) (h8:ch.length≤8) (hC:0≤C∧C≤1000000000000) (hi:∀ x ∈ items, -100≤x∧x≤100) (hc:∀ x ∈ ch, -C≤x∧x≤C) :
  SoundO Tryz.prog 120 [tplA items shifts,.sl (ints ch)] 3 1 (ints (mdA items ch)):=by
 refine soundO_W f_pulse_model (Nat.le_of_ble_eq_true rfl) (by decide) ?_
 have hmax:=maxLen_big
 have hb:∀ n k j:Nat,k≤8 → -900000000000000≤mdP items ch n k j∧mdP items ch n k j≤900000000000000:=fun n k j hk=>by
  have h:=mdP_bd hC.1 hi hc n k j
  have h2:100 * C * ((k+1:Nat):Int)≤100000000000000 * 9:=Int.mul_le_mul (by omega) (by omega) (by omega) (by omega)
  omega
 obtain ⟨M,hM⟩:∃ M,M=ch.length+items.length - 1:=⟨_,rfl⟩
 have hMi:(ch.length:Int)+items.length - 1=(M:Int):=by omega
 simp only [c_pulse_model,tplA,hMi,vZ,Int.reduceEq,Int.reduceNe,Int.reduceLT,Int.reduceLE,Nat.reduceEqDiff,Nat.reduceAdd,reduceIte,reduceCtorEq,Nat.reduceLT,Nat.reduceLeDiff,Nat.reduceShiftRight,Nat.reduceMod]
 (repeat (with_reducible refine And.intro ?_ ?_;focus (first | omega | (unfold I64;omega))))
 refine ⟨mkOk_z _,?_⟩
 have hl0:mdL items ch 0 0=List.replicate M 0:=by rw [hM];exact mdL_0 _ _
 rw [ints_z,← hl0]
 refine W_loop (t:=.mk) (α:=PSigma fun i:Nat=>i≤ch.length) (fun ⟨i,_⟩=>(envOf [(2,.ptr 2 0 0),(5,.buf 100 M),(18,.sl (ints ch)),(19,.int .i64 ch.length),(20,.int .i64 i)],stOf [(2,⟨24,2,[.agg [.sl (ints items),.int .i64 shifts]]⟩),(100,⟨3,1,ints (mdL items ch i 0)⟩)])) (fun x=>ch.length - x.1) ⟨0,Nat.zero_le _⟩ ?_ (fun ⟨i,hin⟩=>?_)
 ·refine weakX [(100,some 17)] (of_decide_eq_true rfl) (of_decide_eq_true rfl) ?_
  (simp only [vcW,vZ,Int.reduceEq,Int.reduceNe,Int.reduceLT,Int.reduceLE,Nat.reduceEqDiff,Nat.reduceAdd,reduceIte,reduceCtorEq,Nat.reduceLT,Nat.reduceLeDiff,Nat.reduceShiftRight,Nat.reduceMod])
  (repeat' first | exact trivial | (with_reducible first | exact RnB.fxB (ints_fxB _) | rfl | refine And.intro ?_ ?_) | (with_reducible (first | refine RnB.bb ?_ | refine RnB.nb ?_);simp only [vcW,vZ,Int.reduceEq,Int.reduceNe,Int.reduceLT,Int.reduceLE,Nat.reduceEqDiff,Nat.reduceAdd,reduceIte,reduceCtorEq,Nat.reduceLT,Nat.reduceLeDiff,Nat.reduceShiftRight,Nat.reduceMod]) | (with_reducible first | refine RnB.ii ?_ | refine RnB.app ?_) | (with_reducible refine RnB.fxB ?_;simp only [vcW,vZ,Int.reduceEq,Int.reduceNe,Int.reduceLT,Int.reduceLE,Nat.reduceEqDiff,Nat.reduceAdd,reduceIte,reduceCtorEq,Nat.reduceLT,Nat.reduceLeDiff,Nat.reduceShiftRight,Nat.reduceMod]) | omega)
 ·dsimp only at hin ⊢
  by_cases h':i<ch.length
  ·have hc1:(i:Int)<ch.length:=by omega
   simp only [hc1,ints_get ch i h',vZ,Int.reduceEq,Int.reduceNe,Int.reduceLT,Int.reduceLE,Nat.reduceEqDiff,Nat.reduceAdd,reduceIte,reduceCtorEq,Nat.reduceLT,Nat.reduceLeDiff,Nat.reduceShiftRight,Nat.reduceMod]
   (repeat (with_reducible refine And.intro ?_ ?_;focus (first | omega | (unfold I64;omega))))
   refine W_loop (t:=.mk) (α:=PSigma fun j:Nat=>j≤items.length) (fun ⟨j,_⟩=>(envOf [(2,.ptr 2 0 0),(5,.buf 100 M),(6,.int .i64 i),(7,.int .i64 ch[i]),(18,.sl (ints ch)),(19,.int .i64 ch.length),(20,.int .i64 i),(26,.sl (ints items)),(27,.int .i64 items.length),(28,.int .i64 j)],stOf [(2,⟨24,2,[.agg [.sl (ints items),.int .i64 shifts]]⟩),(100,⟨3,1,ints (mdL items ch i j)⟩)])) (fun x=>items.length - x.1) ⟨0,Nat.zero_le _⟩ ?_ (fun ⟨j,hjn⟩=>?_)
   ·refine weakX [(100,some 100)] (of_decide_eq_true rfl) (of_decide_eq_true rfl) ?_
    (simp only [vcW,vZ,Int.reduceEq,Int.reduceNe,Int.reduceLT,Int.reduceLE,Nat.reduceEqDiff,Nat.reduceAdd,reduceIte,reduceCtorEq,Nat.reduceLT,Nat.reduceLeDiff,Nat.reduceShiftRight,Nat.reduceMod])
    (repeat' first | exact trivial | (with_reducible first | exact RnB.fxB (ints_fxB _) | rfl | refine And.intro ?_ ?_) | (with_reducible (first | refine RnB.bb ?_ | refine RnB.nb ?_);simp only [vcW,vZ,Int.reduceEq,Int.reduceNe,Int.reduceLT,Int.reduceLE,Nat.reduceEqDiff,Nat.reduceAdd,reduceIte,reduceCtorEq,Nat.reduceLT,Nat.reduceLeDiff,Nat.reduceShiftRight,Nat.reduceMod]) | (with_reducible first | refine RnB.ii ?_ | refine RnB.app ?_) | (with_reducible refine RnB.fxB ?_;simp only [vcW,vZ,Int.reduceEq,Int.reduceNe,Int.reduceLT,Int.reduceLE,Nat.reduceEqDiff,Nat.reduceAdd,reduceIte,reduceCtorEq,Nat.reduceLT,Nat.reduceLeDiff,Nat.reduceShiftRight,Nat.reduceMod]) | omega)
   ·dsimp only at hjn ⊢
    by_cases h2:j<items.length
    ·have hc2:(j:Int)<items.length:=by omega
     have hlen:=mdL_len items ch i j
     have hij:i+j<(mdL items ch i j).length:=by omega
     have hij2:(i:Int)+j=((i+j:Nat):Int):=by omega
     have b1:=hb (i+j) i j (by omega)
     have b2:=hb (i+j) i (j+1) (by omega)
     have hgl:=mdL_get items ch i j hij
     have hset:=mdL_set items ch (k:=i) (j:=j) (by omega)
     have hP:=mdP_succ items ch (i+j) i j
     rw [if_pos rfl] at hP
     rw [getD_at h',getD_at h2] at hset hP
     have hp:=prod_bd hC.1 (hi items[j] (List.getElem_mem h2)) (hc ch[i] (List.getElem_mem h'))
     rw [Int.mul_comm items[j]] at hp
     have gw:=ints_get (mdL items ch i j) (i+j) hij
     rw [hgl] at gw
     have hst:(ints (mdL items ch i j)).set (i+j) (.int .i64 (mdP items ch (i+j) i j+ch[i] * items[j]))=ints (mdL items ch i (j+1)):=by rw [ints_st,hset]
     have hlM:(i+j:Nat)<M:=by omega
     have hlM':((i+j:Nat):Int)<M:=by omega
     simp only [hc2,ints_get items j h2,hij2,gw,ints_length,hlen,vZ,Int.reduceEq,Int.reduceNe,Int.reduceLT,Int.reduceLE,Nat.reduceEqDiff,Nat.reduceAdd,reduceIte,reduceCtorEq,Nat.reduceLT,Nat.reduceLeDiff,Nat.reduceShiftRight,Nat.reduceMod]
     (repeat (with_reducible refine And.intro ?_ ?_;focus (first | omega | (unfold I64;omega))))
     refine ⟨⟨j+1,h2⟩,by simp only;omega,?_⟩
     refine weakX [(100,some 100)] (of_decide_eq_true rfl) (of_decide_eq_true rfl) ?_
     (simp only [vcW,vZ,Int.reduceEq,Int.reduceNe,Int.reduceLT,Int.reduceLE,Nat.reduceEqDiff,Nat.reduceAdd,reduceIte,reduceCtorEq,Nat.reduceLT,Nat.reduceLeDiff,Nat.reduceShiftRight,Nat.reduceMod])
     (repeat' first | exact trivial | (with_reducible first | exact RnB.fxB (ints_fxB _) | rfl | refine And.intro ?_ ?_) | (with_reducible (first | refine RnB.bb ?_ | refine RnB.nb ?_);simp only [vcW,vZ,Int.reduceEq,Int.reduceNe,Int.reduceLT,Int.reduceLE,Nat.reduceEqDiff,Nat.reduceAdd,reduceIte,reduceCtorEq,Nat.reduceLT,Nat.reduceLeDiff,Nat.reduceShiftRight,Nat.reduceMod]) | (with_reducible first | refine RnB.ii ?_ | refine RnB.app ?_) | (with_reducible refine RnB.fxB ?_;simp only [vcW,vZ,Int.reduceEq,Int.reduceNe,Int.reduceLT,Int.reduceLE,Nat.reduceEqDiff,Nat.reduceAdd,reduceIte,reduceCtorEq,Nat.reduceLT,Nat.reduceLeDiff,Nat.reduceShiftRight,Nat.reduceMod]) | omega)
     all_goals exact RnB.eq hst (by rw [hst];exact ints_fxB _)
    ·have hjl:j=items.length:=by omega
     subst hjl
     have hc2:¬ (items.length:Int)<items.length:=by omega
     have hn:=mdL_next items ch i
     simp only [hc2,vZ,Int.reduceEq,Int.reduceNe,Int.reduceLT,Int.reduceLE,Nat.reduceEqDiff,Nat.reduceAdd,reduceIte,reduceCtorEq,Nat.reduceLT,Nat.reduceLeDiff,Nat.reduceShiftRight,Nat.reduceMod]
     (repeat (with_reducible refine And.intro ?_ ?_;focus (first | omega | (unfold I64;omega))))
     refine ⟨⟨i+1,h'⟩,by simp only;omega,?_⟩
     refine weakX [(100,some 100)] (of_decide_eq_true rfl) (of_decide_eq_true rfl) ?_
     (simp only [vcW,vZ,Int.reduceEq,Int.reduceNe,Int.reduceLT,Int.reduceLE,Nat.reduceEqDiff,Nat.reduceAdd,reduceIte,reduceCtorEq,Nat.reduceLT,Nat.reduceLeDiff,Nat.reduceShiftRight,Nat.reduceMod])
     (repeat' first | exact trivial | (with_reducible first | exact RnB.fxB (ints_fxB _) | rfl | refine And.intro ?_ ?_) | (with_reducible (first | refine RnB.bb ?_ | refine RnB.nb ?_);simp only [vcW,vZ,Int.reduceEq,Int.reduceNe,Int.reduceLT,Int.reduceLE,Nat.reduceEqDiff,Nat.reduceAdd,reduceIte,reduceCtorEq,Nat.reduceLT,Nat.reduceLeDiff,Nat.reduceShiftRight,Nat.reduceMod]) | (with_reducible first | refine RnB.ii ?_ | refine RnB.app ?_) | (with_reducible refine RnB.fxB ?_;simp only [vcW,vZ,Int.reduceEq,Int.reduceNe,Int.reduceLT,Int.reduceLE,Nat.reduceEqDiff,Nat.reduceAdd,reduceIte,reduceCtorEq,Nat.reduceLT,Nat.reduceLeDiff,Nat.reduceShiftRight,Nat.reduceMod]) | omega)
     all_goals exact RnB.eq (congrArg ints hn) (by rw [hn];exact ints_fxB _)
  ·have hil:i=ch.length:=by omega
   subst hil
   have hc1:¬ (ch.length:Int)<ch.length:=by omega
   have hlM:M=(ints (mdA items ch)).length:=by rw [ints_length,mdA_len];exact hM
   simp only [hc1,oEnd_r,vZ,Int.reduceEq,Int.reduceNe,Int.reduceLT,Int.reduceLE,Nat.reduceEqDiff,Nat.reduceAdd,reduceIte,reduceCtorEq,Nat.reduceLT,Nat.reduceLeDiff,Nat.reduceShiftRight,Nat.reduceMod]
   exact ownV_i 100 M rfl hlM rfl (Go.Av.ints_imm _)
end Go.Proofs.YtgmpcbpmnimkoaaGreatDoor

