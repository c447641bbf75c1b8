/- The tables of the library, as the rows say that they lie: what the layer wants of them. By an AI agent; nothing here is trusted. -/
import Derived.Test.YtpaklfjlbocfcaaGreatDoorRows
import Derived.Test.YtpaklfjlbocfcaaGreatDoorLayC
import Derived.Test.YtpaklfjlbocfcaaGreatDoorKode
import Derived.Test.YtpaklfjlbocfcaaGreatDoorLayD
import Derived.ProofKit
import Derived.LaidMore
import Derived.OpenShut
import Derived.Stop.Joined
import Derived.LaidLaws
import Derived.Lay
set_option linter.defProp false
set_option linter.unusedSimpArgs false
set_option linter.unusedVariables false
namespace Go.Proofs.YtpaklfjlbocfcaaGreatDoor
open Go.ChangeShapes Go.WideShapes Go.ChangeAt Go.RowKit
open Go.Av

def laidP:List (String × DataW Unit):=[("math/bits.deBruijn32tab",Rows.laid_math_bits_deBruijn32tab),("math/bits.deBruijn64tab",Rows.laid_math_bits_deBruijn64tab),("internal/strconv.uint64pow10",Rows.laid_internal_strconv_uint64pow10),("unicode/utf8.acceptRanges",Rows.laid_unicode_utf8_acceptRanges),("strconv.ErrRange",Rows.laid_strconv_ErrRange),("strconv.ErrSyntax",Rows.laid_strconv_ErrSyntax),("unicode/utf8.first",Rows.laid_unicode_utf8_first)]

theorem ownKn:ownKnob Tryz.prog.godebug=none:=by kernel_rfl
set_option maxRecDepth 100000 in
theorem door_met (os:Os) (args:Array Value):laidMetH Tryz.prog laidP ((World.laidAll Tryz.prog os laidP).forCall (fun _ _=>0) ⟨#[],args,[]⟩).memory:=by
 rw [MakeChecks.laidMetH_plain _ _ _ (by kernel_rfl)]
 exact laidMet_laidAll _ (by kernel_rfl) (by kernel_rfl)

theorem tab_cells {W:World} {g:Nat} {name:String} {t e:TypeId} {n f:Nat} {k:IntKind} {cs:Array Value} {ns:List Int} {p:List MemPlace} {H:Type} {enc:TypeId × Value→H} {sp:Nat→Bool} {held:Bool} (hg:Tryz.prog.globalNamed name=some g)
  (hv:W.var? Tryz.prog name=some cs) (ht:Tryz.prog.underlying t=some (.array n e)) (he:Tryz.prog.underlying e=some (.int k)) (hc:Tryz.prog.cellsOf e=1) (hct:Tryz.prog.cellsOf t=n) (hn:ns.length=n) (hpos:0<n)
  (hd:DataW.trod enc Tryz.prog W 0 sp held f t cs.toList=some (.agg (ns.map fun m=>.lit (.int k m)),p)) :
  g<W.heap.size∧∃ cur ty fr,W.heap[g]?=some (.cells cur ty fr)∧cur.size=ns.length∧∀ (j:Nat) (m:Int),ns[j]?=some m→cur[j]?=some (.int k m):=by
 obtain ⟨xs,m1,rfl,hx1,hcl,hlen,hel⟩:=DataW.trod_array ht hd
 simp only [Prod.mk.injEq,DataW.agg.injEq] at hx1
 have key:∀ (j:Nat) (m:Int),ns[j]?=some m→cs[j]?=some (.int k m):=by
  intro j m hj
  have hjn:j<n:=by rw [← hn];exact (List.getElem?_eq_some_iff.1 hj).1
  have h1:=hel j hjn
  rw [hc,Nat.mul_one] at h1
  obtain ⟨x,hx⟩:∃ x,xs[j]?=some x:=⟨xs[j]'(by omega),List.getElem?_eq_getElem (by omega)⟩
  rw [hx] at h1
  obtain ⟨q,e1,e2,_⟩:=DataW.trod_int he h1
  have h2:(xs.map (·.1))[j]?=some (.lit (.int k q)):=by rw [List.getElem?_map,hx,e2];rfl
  rw [← hx1.1,List.getElem?_map,hj] at h2
  simp only [Option.map_some,Option.some.injEq,DataW.lit.injEq,Lit.int.injEq,true_and] at h2
  subst h2
  have h3:((cs.toList.drop j).take 1)[0]?=some (.int k m):=by rw [e1];rfl
  rw [List.getElem?_take,if_pos (by omega),List.getElem?_drop] at h3
  simpa using h3
 have h0:∃ m,ns[0]?=some m:=⟨ns[0]'(by omega),List.getElem?_eq_getElem (by omega)⟩
 obtain ⟨m0,hm0⟩:=h0
 have hcell:=World.var?_cell hg hv
 have hb:∃ cur ty fr,W.heap[g]?=some (.cells cur ty fr):=by
  have:=(hcell 0).trans (key 0 m0 hm0)
  unfold World.cell? at this
  split at this
  ·rename_i cur ty fr hb;exact ⟨cur,ty,fr,hb⟩
  ·cases this
 obtain ⟨cur,ty,fr,hb⟩:=hb
 refine ⟨(Array.getElem?_eq_some_iff.1 hb).1,cur,ty,fr,hb,?_,fun j m hj=>?_⟩
 ·have h1:cs.size=n:=by rw [← Array.length_toList,hcl,hct]
  have hce:∀ i,cur[i]?=cs[i]?:=fun i=>by
   have:=hcell i
   unfold World.cell? at this
   rw [hb] at this
   simpa using this
  have h2:cs.size=cur.size:=by
   have e1:=hce cs.size
   have e2:=hce cur.size
   rw [Array.getElem?_eq_none (Nat.le_refl _)] at e2
   rw [Array.getElem?_eq_none (xs:=cs) (Nat.le_refl _),Array.getElem?_eq_none_iff] at e1
   have:=Array.getElem?_eq_none_iff.1 e2.symm
   omega
  omega
 have:=(hcell j).trans (key j m hj)
 unfold World.cell? at this
 rw [hb] at this
 simpa using this

theorem err_cells {W:World} {g:Nat} {name nm:String} {t:TypeId} {f:Nat} {ms:Array (String × TypeId)} {cs:Array Value} {p:List MemPlace} {H:Type} {enc:TypeId × Value→H} {sp:Nat→Bool} {d:DataW H} (hg:Tryz.prog.globalNamed name=some g)
  (hv:W.var? Tryz.prog name=some cs) (ht:Tryz.prog.underlying t=some (.interface ms)) (hd:DataW.trod enc Tryz.prog W 0 sp false f t cs.toList=some (.iface nm d,p)) :
  g<W.heap.size∧∃ cur ty fr te pe,W.heap[g]?=some (.cells cur ty fr)∧cur[0]?=some (.iface te pe):=by
 obtain ⟨f1,u,v,hcs,_,_⟩:=iface_of_trod ht hd
 have hc:cs[0]?=some (.iface u v):=by
  rw [← Array.getElem?_toList,hcs];rfl
 have:=(World.var?_cell hg hv 0).trans hc
 unfold World.cell? at this
 split at this
 ·rename_i cur ty fr hb
  exact ⟨(Array.getElem?_eq_some_iff.1 hb).1,cur,ty,fr,u,v,hb,by simpa using this⟩
 ·cases this

theorem gES:Tryz.prog.globalNamed "strconv.ErrSyntax"=some 5:=by kernel_rfl
theorem gER:Tryz.prog.globalNamed "strconv.ErrRange"=some 6:=by kernel_rfl
theorem g32:Tryz.prog.globalNamed "math/bits.deBruijn32tab"=some 0:=by kernel_rfl
theorem g64:Tryz.prog.globalNamed "math/bits.deBruijn64tab"=some 1:=by kernel_rfl
theorem g10:Tryz.prog.globalNamed "internal/strconv.uint64pow10"=some 9:=by kernel_rfl

theorem of_laid {W:World} (h:laidMetH Tryz.prog laidP W):GOk (fun b=>b<W.heap.size) W:=by
 rw [MakeChecks.laidMetH_plain _ _ _ (by kernel_rfl)] at h
 obtain ⟨ps,⟨n0,t0,cs0,f0,p0,q0,hn0,ht0,hv0,hd0,⟨n1,t1,cs1,f1,p1,q1,hn1,ht1,hv1,hd1,⟨n2,t2,cs2,f2,p2,q2,hn2,ht2,hv2,hd2,⟨n3,t3,cs3,f3,p3,q3,hn3,ht3,hv3,hd3,⟨n4,t4,cs4,f4,p4,q4,hn4,ht4,hv4,hd4,⟨n5,t5,cs5,f5,p5,q5,hn5,ht5,hv5,hd5,_⟩,_⟩,_⟩,_⟩,_⟩,_⟩,_⟩:=h
 obtain rfl:=Option.some.inj (g32.symm.trans hn0)
 obtain rfl:=Option.some.inj (g64.symm.trans hn1)
 obtain rfl:=Option.some.inj (g10.symm.trans hn2)
 obtain rfl:=Option.some.inj ((show (Tryz.prog.globals[0]?).map (·.type)=some 248 by kernel_rfl).symm.trans ht0)
 obtain rfl:=Option.some.inj ((show (Tryz.prog.globals[1]?).map (·.type)=some 249 by kernel_rfl).symm.trans ht1)
 obtain rfl:=Option.some.inj ((show (Tryz.prog.globals[9]?).map (·.type)=some 282 by kernel_rfl).symm.trans ht2)
 obtain rfl:=Option.some.inj (gER.symm.trans hn4)
 obtain rfl:=Option.some.inj (gES.symm.trans hn5)
 obtain rfl:=Option.some.inj ((show (Tryz.prog.globals[6]?).map (·.type)=some 212 by kernel_rfl).symm.trans ht4)
 obtain rfl:=Option.some.inj ((show (Tryz.prog.globals[5]?).map (·.type)=some 212 by kernel_rfl).symm.trans ht5)
 have e4:=err_cells hn4 hv4 Tryz.underlying212 hd4
 have e5:=err_cells hn5 hv5 Tryz.underlying212 hd5
 have c0:=tab_cells (ns:=[0,1,28,2,29,14,24,3,30,22,20,15,25,17,4,8,31,27,13,23,21,19,16,7,26,12,18,6,11,5,10,9]) hn0 hv0 Tryz.underlying248 Tryz.underlying5 (by kernel_rfl) (by kernel_rfl) rfl (by decide) hd0
 have c1:=tab_cells (ns:=[0,1,56,2,57,49,28,3,61,58,42,50,38,29,17,4,62,47,59,36,45,43,51,22,53,39,33,30,24,18,12,5,63,55,48,27,60,41,37,16,46,35,44,21,52,32,23,11,54,26,40,15,34,20,31,10,25,14,19,9,13,8,7,6]) hn1 hv1 Tryz.underlying249 Tryz.underlying5 (by kernel_rfl) (by kernel_rfl) rfl (by decide) hd1
 have c2:=tab_cells (ns:=[1,10,100,1000,10000,100000,1000000,10000000,100000000,1000000000,10000000000,100000000000,1000000000000,10000000000000,100000000000000,1000000000000000,10000000000000000,100000000000000000,1000000000000000000,10000000000000000000]) hn2 hv2 Tryz.underlying282 Tryz.underlying186 (by kernel_rfl) (by kernel_rfl) rfl (by decide) hd2
 refine ⟨fun p hp=>?_,fun g hg=>?_⟩
 rotate_left
 ·simp only [gErr,List.nil_append,List.mem_append,List.mem_singleton] at hg
  rcases hg with rfl | rfl
  ·exact e5
  ·exact e4
 simp only [gTab,List.nil_append,List.mem_append,List.mem_singleton] at hp
 rcases hp with (rfl | rfl) | rfl
 ·exact c1
 ·exact c0
 ·exact c2
end Go.Proofs.YtpaklfjlbocfcaaGreatDoor

/- Parts that all chapters share. Contracts of small functions. By an AI agent;nothing here is trusted. -/
namespace Go.Proofs.YtpaklfjlbocfcaaGreatDoor
open Go.Av

abbrev i64 (n:Int):AV:=.int .i64 n
def firstErr (l:List Int):Int:=(l.find? (· ≠ 0)).getD 0

def idxOf {α:Type} (l:List α) (p:α→Bool):Int:=match l.findIdx? p with
 | some i=>i
 | none => -1

theorem map_fx1 {caps:List AV} (h:∀ c ∈ caps,fx1 c=true) (s:Store) (n:Nat):caps.map (bor s n)=caps:=by
 conv=>rhs;rw [← List.map_id caps]
 exact List.map_congr_left fun c hc=>(fx1_spec (h c hc)).2 s n

theorem idxFunc_int_s (l:List Int) (f:FuncId) (caps:List AV) (p:Int→Bool) (hl:l.length<4000000000000000000) (hc:∀ c ∈ caps,fx1 c=true)
  (hp:∀ x ∈ l,Sound Tryz.prog f (.int .i64 x :: caps) (.bool (p x))):Sound Tryz.prog 168 [.sl (ints l),.fn f caps] (.int .i64 (idxOf l p)):=by
 refine sound_W f_slices_IndexFunc_int_int (Nat.le_of_ble_eq_true rfl) ?_
 simp only [c_slices_IndexFunc_int_int,vcC,Int.reduceEq,Int.reduceNe,Int.reduceLT,Int.reduceLE,Nat.reduceEqDiff,Nat.reduceAdd,reduceIte,reduceCtorEq,Nat.reduceLT,Nat.reduceLeDiff,eq_self,vcP]
 refine W_loop (α:=PSigma fun i:Nat=>i≤l.length∧∀ x ∈ l.take i,p x=false) (fun i=>(envOf [(0,.sl (ints l)),(1,.fn f caps),(6,.sl (ints l)),(7,.int .i64 l.length),(8,.int .i64 i.1)],noStore)) (fun i=>l.length - i.1) ⟨0,by simp⟩ (weakE _ ?_) (fun ⟨i,hi,hn⟩=>?_)
 ·simp only [vcC,Int.reduceEq,Int.reduceNe,Int.reduceLT,Int.reduceLE,Nat.reduceEqDiff,Nat.reduceAdd,reduceIte,reduceCtorEq,Nat.reduceLT,Nat.reduceLeDiff,eq_self,vcP];rfl
 ·simp only [vcC,Int.reduceEq,Int.reduceNe,Int.reduceLT,Int.reduceLE,Nat.reduceEqDiff,Nat.reduceAdd,reduceIte,reduceCtorEq,Nat.reduceLT,Nat.reduceLeDiff,eq_self,vcP]
  refine brB_split (fun h=>?_) (fun h=>?_)
  ·have h':i<l.length:=by (simp only [decide_eq_true_eq,decide_eq_false_iff_not,Bool.not_true,I64,Bool.not_eq_true',Bool.not_eq_false',bne_iff_ne,beq_iff_eq,ne_eq] at *;omega)
   simp only [ints_get l i h',vcC,Int.reduceEq,Int.reduceNe,Int.reduceLT,Int.reduceLE,Nat.reduceEqDiff,Nat.reduceAdd,reduceIte,reduceCtorEq,Nat.reduceLT,Nat.reduceLeDiff,eq_self,vcP]
   refine ⟨by omega,?_⟩
   simp only [List.map_append,List.cons_append,List.nil_append,map_fx1 hc,vcC,Int.reduceEq,Int.reduceNe,Int.reduceLT,Int.reduceLE,Nat.reduceEqDiff,Nat.reduceAdd,reduceIte,reduceCtorEq,Nat.reduceLT,Nat.reduceLeDiff,eq_self,vcP]
   refine callS_of (hp _ (List.getElem_mem h')) ?_
   simp only [vcC,Int.reduceEq,Int.reduceNe,Int.reduceLT,Int.reduceLE,Nat.reduceEqDiff,Nat.reduceAdd,reduceIte,reduceCtorEq,Nat.reduceLT,Nat.reduceLeDiff,eq_self,vcP]
   refine brB_split (fun h=>?_) (fun h=>?_)
   ·simp only [vcC,Int.reduceEq,Int.reduceNe,Int.reduceLT,Int.reduceLE,Nat.reduceEqDiff,Nat.reduceAdd,reduceIte,reduceCtorEq,Nat.reduceLT,Nat.reduceLeDiff,eq_self,vcP]
    have hs:l.findIdx? p=some i:=by
     rw [List.findIdx?_eq_some_iff_getElem]
     refine ⟨h',h,fun j hj=>?_⟩
     have:=hn l[j] (by rw [List.mem_take_iff_getElem];exact ⟨j,by omega,rfl⟩)
     simp [this]
    simp [idxOf,hs]
   ·simp only [vcC,Int.reduceEq,Int.reduceNe,Int.reduceLT,Int.reduceLE,Nat.reduceEqDiff,Nat.reduceAdd,reduceIte,reduceCtorEq,Nat.reduceLT,Nat.reduceLeDiff,eq_self,vcP]
    refine ⟨by (simp only [decide_eq_true_eq,decide_eq_false_iff_not,Bool.not_true,I64,Bool.not_eq_true',Bool.not_eq_false',bne_iff_ne,beq_iff_eq,ne_eq] at *;omega),⟨i+1,by omega,?_⟩,by simp only;omega,weakE _ ?_⟩
    ·rw [List.take_succ_eq_append_getElem h']
     intro x hx
     rcases List.mem_append.1 hx with hx | hx
     ·exact hn x hx
     ·simp at hx;rw [hx];exact h
    ·simp only [vcC,Int.reduceEq,Int.reduceNe,Int.reduceLT,Int.reduceLE,Nat.reduceEqDiff,Nat.reduceAdd,reduceIte,reduceCtorEq,Nat.reduceLT,Nat.reduceLeDiff,eq_self,vcP];simp
  ·simp only [vcC,Int.reduceEq,Int.reduceNe,Int.reduceLT,Int.reduceLE,Nat.reduceEqDiff,Nat.reduceAdd,reduceIte,reduceCtorEq,Nat.reduceLT,Nat.reduceLeDiff,eq_self,vcP]
   have:i=l.length:=by (simp only [decide_eq_true_eq,decide_eq_false_iff_not,Bool.not_true,I64,Bool.not_eq_true',Bool.not_eq_false',bne_iff_ne,beq_iff_eq,ne_eq] at *;omega)
   subst this
   rw [List.take_length] at hn
   have hs:l.findIdx? p=none:=List.findIdx?_eq_none_iff.2 hn
   simp [idxOf,hs]

theorem idxOf_any {α:Type} (l:List α) (p:α→Bool):(decide (0≤idxOf l p))=l.any p:=by
 unfold idxOf
 cases h:l.findIdx? p with
 | none =>
  rw [List.findIdx?_eq_none_iff] at h
  have:l.any p=false:=by simpa using h
  rw [this];rfl
 | some i =>
  rw [List.findIdx?_eq_some_iff_getElem] at h
  obtain ⟨hi,hp,_⟩:=h
  have:l.any p=true:=List.any_eq_true.2 ⟨_,List.getElem_mem hi,hp⟩
  rw [this];simp

theorem contFunc_int_s (l:List Int) (f:FuncId) (caps:List AV) (p:Int→Bool) (hl:l.length<4000000000000000000) (hc:∀ c ∈ caps,fx1 c=true)
  (hp:∀ x ∈ l,Sound Tryz.prog f (.int .i64 x :: caps) (.bool (p x))):Sound Tryz.prog 113 [.sl (ints l),.fn f caps] (.bool (l.any p)):=by
 refine sound_W f_slices_ContainsFunc_int_int (Nat.le_of_ble_eq_true rfl) ?_
 simp only [c_slices_ContainsFunc_int_int,map_fx1 hc,vcC,Int.reduceEq,Int.reduceNe,Int.reduceLT,Int.reduceLE,Nat.reduceEqDiff,Nat.reduceAdd,reduceIte,reduceCtorEq,Nat.reduceLT,Nat.reduceLeDiff,eq_self,vcP]
 refine callS_of (idxFunc_int_s l f caps p hl hc hp) ?_
 simp only [vcC,Int.reduceEq,Int.reduceNe,Int.reduceLT,Int.reduceLE,Nat.reduceEqDiff,Nat.reduceAdd,reduceIte,reduceCtorEq,Nat.reduceLT,Nat.reduceLeDiff,eq_self,vcP]
 rw [idxOf_any]

end Go.Proofs.YtpaklfjlbocfcaaGreatDoor

/- Contracts of the small functions of the base. By an AI agent;nothing here is trusted. -/
namespace Go.Proofs.YtpaklfjlbocfcaaGreatDoor
open Go.Av

theorem Within_s (n lo hi:Int):Sound Tryz.prog 40 [.int .i64 n,.int .i64 lo,.int .i64 hi] (.bool (decide (lo≤n∧n≤hi))):=by
 refine sound_W f_base_Within (Nat.le_of_ble_eq_true rfl) ?_
 simp only [c_base_Within,vcC,Int.reduceEq,Int.reduceNe,Int.reduceLT,Int.reduceLE,Nat.reduceEqDiff,Nat.reduceAdd,reduceIte,reduceCtorEq,Nat.reduceLT,Nat.reduceLeDiff,eq_self,vcP]
 refine brB_split (fun h=>?_) (fun h=>?_) <;> simp only [h,vcC,Int.reduceEq,Int.reduceNe,Int.reduceLT,Int.reduceLE,Nat.reduceEqDiff,Nat.reduceAdd,reduceIte,reduceCtorEq,Nat.reduceLT,Nat.reduceLeDiff,eq_self,vcP]
 ·exact bool_eq (by simp at h;simp [h])
 ·simp at h;simp;omega

theorem tdiv_floor (n by_:Int) (hb:0<by_):(if n.tmod by_<0 then n.tdiv by_ - 1 else n.tdiv by_)=n / by_:=by
 have h1:=Int.mul_tdiv_add_tmod n by_
 have h2:n.tmod by_<by_:=Int.tmod_lt_of_pos n hb
 have h3 : -by_<n.tmod by_:=by
  have:=Int.lt_tmod_of_pos n hb
  omega
 split
 ·rename_i h
  symm
  rw [Int.ediv_eq_iff_of_pos hb]
  constructor
  ·rw [Int.sub_mul];rw [Int.mul_comm] at h1;omega
  ·rw [Int.sub_mul];rw [Int.mul_comm] at h1;omega
 ·symm
  rw [Int.ediv_eq_iff_of_pos hb]
  rw [Int.mul_comm] at h1
  constructor
  ·omega
  ·omega

theorem tdiv_I64 {n by_:Int} (hn:I64 n) (hb:0<by_) : -9223372036854775808≤n.tdiv by_∧n.tdiv by_≤9223372036854775807∧(n.tmod by_<0 → -9223372036854775807≤n.tdiv by_):=by
 have h1:=Int.mul_tdiv_add_tmod n by_
 have h2:n.tmod by_<by_:=Int.tmod_lt_of_pos n hb
 have h3 : -by_<n.tmod by_:=Int.lt_tmod_of_pos n hb
 have ha:(n.tdiv by_).natAbs≤n.natAbs:=by
  rw [Int.natAbs_tdiv];exact Nat.div_le_self _ _
 obtain ⟨q1,q2⟩:=hn
 have hu:n.tdiv by_≤9223372036854775807:=by
  by_cases hn0:0≤n
  ·omega
  ·have:n.tdiv by_≤0:=by
    have:=Int.tdiv_nonneg (a := -n) (b:=by_) (by omega) (by omega)
    rw [Int.neg_tdiv] at this;omega
   omega
 refine ⟨by omega,hu,fun h=>?_⟩
 by_cases hb1:by_=1
 ·subst hb1;rw [Int.tmod_one] at h;omega
 ·have:(n.tdiv by_).natAbs≤n.natAbs / 2:=by
   rw [Int.natAbs_tdiv]
   exact Nat.div_le_div_left (by omega) (by omega)
  omega

theorem Floor_s (n by_:Int) (hn:I64 n) (hb:0<by_):Sound Tryz.prog 107 [.int .i64 n,.int .i64 by_] (.int .i64 (n / by_)):=by
 refine sound_W f_base_Floor (Nat.le_of_ble_eq_true rfl) ?_
 obtain ⟨h1,h2,h3⟩:=tdiv_I64 hn hb
 have h0:=tdiv_floor n by_ hb
 simp only [c_base_Floor,vcC,Int.reduceEq,Int.reduceNe,Int.reduceLT,Int.reduceLE,Nat.reduceEqDiff,Nat.reduceAdd,reduceIte,reduceCtorEq,Nat.reduceLT,Nat.reduceLeDiff,eq_self,vcP]
 refine ⟨by omega,by (simp only [decide_eq_true_eq,decide_eq_false_iff_not,Bool.not_true,I64,Bool.not_eq_true',Bool.not_eq_false',bne_iff_ne,beq_iff_eq,ne_eq] at *;omega),by omega,?_⟩
 refine brB_split (fun h=>?_) (fun h=>?_)
 ·have h':n.tmod by_<0:=by simpa using h
  rw [if_pos h'] at h0
  simp only [h,vcC,Int.reduceEq,Int.reduceNe,Int.reduceLT,Int.reduceLE,Nat.reduceEqDiff,Nat.reduceAdd,reduceIte,reduceCtorEq,Nat.reduceLT,Nat.reduceLeDiff,eq_self,vcP]
  refine ⟨by have:=h3 h';(simp only [decide_eq_true_eq,decide_eq_false_iff_not,Bool.not_true,I64,Bool.not_eq_true',Bool.not_eq_false',bne_iff_ne,beq_iff_eq,ne_eq] at *;omega),?_⟩
  rw [h0]
 ·have h':¬ n.tmod by_<0:=by simpa using h
  rw [if_neg h'] at h0
  simp only [h,vcC,Int.reduceEq,Int.reduceNe,Int.reduceLT,Int.reduceLE,Nat.reduceEqDiff,Nat.reduceAdd,reduceIte,reduceCtorEq,Nat.reduceLT,Nat.reduceLeDiff,eq_self,vcP]
  rw [h0]

theorem Ceil_s (n by_:Int) (hn:I64 n) (hn':I64 (-n)) (hb:0<by_) (hr:I64 (-(-n / by_))):Sound Tryz.prog 47 [.int .i64 n,.int .i64 by_] (.int .i64 (-(-n / by_))):=by
 refine sound_W f_base_Ceil (Nat.le_of_ble_eq_true rfl) ?_
 simp only [c_base_Ceil,vcC,Int.reduceEq,Int.reduceNe,Int.reduceLT,Int.reduceLE,Nat.reduceEqDiff,Nat.reduceAdd,reduceIte,reduceCtorEq,Nat.reduceLT,Nat.reduceLeDiff,eq_self,vcP]
 refine ⟨hn',?_⟩
 refine callS_of (Floor_s _ _ hn' hb) ?_
 simp only [vcC,Int.reduceEq,Int.reduceNe,Int.reduceLT,Int.reduceLE,Nat.reduceEqDiff,Nat.reduceAdd,reduceIte,reduceCtorEq,Nat.reduceLT,Nat.reduceLeDiff,eq_self,vcP]
 exact hr
end Go.Proofs.YtpaklfjlbocfcaaGreatDoor

/- Contracts of the base: copies,comparisons,fractions. By an AI agent;nothing here is trusted. -/
namespace Go.Proofs.YtpaklfjlbocfcaaGreatDoor
open Go.Av

theorem newsOk_ints (l:List Int):newsOk 1 (ints l):=by
 intro x hx
 obtain ⟨n,_,rfl⟩:=List.mem_map.1 hx
 exact ⟨rfl,rfl⟩
theorem maxLen_big:4000000000000≤maxLen:=by decide

theorem CopyInts_s (l:List Int) (hl:l.length≤1000000000):Sound Tryz.prog 49 [.sl (ints l)] (.sl (ints l)):=by
 refine sound_W f_base_CopyInts (Nat.le_of_ble_eq_true rfl) ?_
 have hm:=maxLen_big
 simp only [c_base_CopyInts,vZ,Int.reduceEq,Int.reduceNe,Int.reduceLT,Int.reduceLE,Nat.reduceEqDiff,Nat.reduceAdd,reduceIte,reduceCtorEq,Nat.reduceLT,Nat.reduceLeDiff,Nat.reduceShiftRight,Nat.reduceMod]
 refine ⟨newsOk_ints l,⟨by omega,by omega⟩,?_⟩
 rw [borB_good _ _ _ _ _ (by simp [ints]) (ints_fx _)]

theorem Has_s (l:List Int) (n:Int) (hl:l.length≤1000000000):Sound Tryz.prog 50 [.sl (ints l),.int .i64 n] (.bool (decide (n ∈ l))):=by
 refine sound_W f_base_Has (Nat.le_of_ble_eq_true rfl) ?_
 simp only [c_base_Has,vZ,Int.reduceEq,Int.reduceNe,Int.reduceLT,Int.reduceLE,Nat.reduceEqDiff,Nat.reduceAdd,reduceIte,reduceCtorEq,Nat.reduceLT,Nat.reduceLeDiff,Nat.reduceShiftRight,Nat.reduceMod]
 refine W_loop (α:=PSigma fun i:Nat=>i≤l.length∧∀ x ∈ l.take i,x ≠ n) (fun i=>(envOf [(0,.sl (ints l)),(1,.int .i64 n),(5,.int .i64 i.1)],noStore)) (fun i=>l.length - i.1) ⟨0,by simp⟩ (weakE _ ?_) (fun ⟨i,hi,hn⟩=>?_)
 ·simp only [vZ,Int.reduceEq,Int.reduceNe,Int.reduceLT,Int.reduceLE,Nat.reduceEqDiff,Nat.reduceAdd,reduceIte,reduceCtorEq,Nat.reduceLT,Nat.reduceLeDiff,Nat.reduceShiftRight,Nat.reduceMod];rfl
 ·simp only [vZ,Int.reduceEq,Int.reduceNe,Int.reduceLT,Int.reduceLE,Nat.reduceEqDiff,Nat.reduceAdd,reduceIte,reduceCtorEq,Nat.reduceLT,Nat.reduceLeDiff,Nat.reduceShiftRight,Nat.reduceMod]
  refine brB_split (fun h=>?_) (fun h=>?_)
  ·have h':i<l.length:=by (simp only [decide_eq_true_eq,decide_eq_false_iff_not,Bool.not_true,I64,Bool.not_eq_true',Bool.not_eq_false',bne_iff_ne,beq_iff_eq,ne_eq] at *;omega)
   simp only [ints_get l i h',vZ,Int.reduceEq,Int.reduceNe,Int.reduceLT,Int.reduceLE,Nat.reduceEqDiff,Nat.reduceAdd,reduceIte,reduceCtorEq,Nat.reduceLT,Nat.reduceLeDiff,Nat.reduceShiftRight,Nat.reduceMod]
   refine ⟨by omega,?_⟩
   refine brB_split (fun h=>?_) (fun h=>?_)
   ·simp only [vZ,Int.reduceEq,Int.reduceNe,Int.reduceLT,Int.reduceLE,Nat.reduceEqDiff,Nat.reduceAdd,reduceIte,reduceCtorEq,Nat.reduceLT,Nat.reduceLeDiff,Nat.reduceShiftRight,Nat.reduceMod]
    simp only [decide_eq_true_eq] at h
    have:n ∈ l:=h ▸ List.getElem_mem h'
    simp [this]
   ·simp only [vZ,Int.reduceEq,Int.reduceNe,Int.reduceLT,Int.reduceLE,Nat.reduceEqDiff,Nat.reduceAdd,reduceIte,reduceCtorEq,Nat.reduceLT,Nat.reduceLeDiff,Nat.reduceShiftRight,Nat.reduceMod]
    refine ⟨by (simp only [decide_eq_true_eq,decide_eq_false_iff_not,Bool.not_true,I64,Bool.not_eq_true',Bool.not_eq_false',bne_iff_ne,beq_iff_eq,ne_eq] at *;omega),⟨i+1,by omega,?_⟩,by simp only;omega,weakE _ ?_⟩
    ·rw [List.take_succ_eq_append_getElem h']
     intro x hx
     rcases List.mem_append.1 hx with hx | hx
     ·exact hn x hx
     ·simp at hx h;rw [hx];exact h
    ·simp only [vZ,Int.reduceEq,Int.reduceNe,Int.reduceLT,Int.reduceLE,Nat.reduceEqDiff,Nat.reduceAdd,reduceIte,reduceCtorEq,Nat.reduceLT,Nat.reduceLeDiff,Nat.reduceShiftRight,Nat.reduceMod];simp
  ·simp only [vZ,Int.reduceEq,Int.reduceNe,Int.reduceLT,Int.reduceLE,Nat.reduceEqDiff,Nat.reduceAdd,reduceIte,reduceCtorEq,Nat.reduceLT,Nat.reduceLeDiff,Nat.reduceShiftRight,Nat.reduceMod]
   have:i=l.length:=by (simp only [decide_eq_true_eq,decide_eq_false_iff_not,Bool.not_true,I64,Bool.not_eq_true',Bool.not_eq_false',bne_iff_ne,beq_iff_eq,ne_eq] at *;omega)
   subst this
   rw [List.take_length] at hn
   have:n ∉ l:=fun hm=>hn n hm rfl
   simp [this]

theorem Ints_s (a b:List Int) (ha:a.length≤1000000000):Sound Tryz.prog 33 [.sl (ints a),.sl (ints b)] (.bool (decide (a=b))):=by
 refine sound_W f_base_Ints (Nat.le_of_ble_eq_true rfl) ?_
 simp only [c_base_Ints,vZ,Int.reduceEq,Int.reduceNe,Int.reduceLT,Int.reduceLE,Nat.reduceEqDiff,Nat.reduceAdd,reduceIte,reduceCtorEq,Nat.reduceLT,Nat.reduceLeDiff,Nat.reduceShiftRight,Nat.reduceMod]
 refine brB_split (fun h=>?_) (fun h=>?_)
 ·simp only [vZ,Int.reduceEq,Int.reduceNe,Int.reduceLT,Int.reduceLE,Nat.reduceEqDiff,Nat.reduceAdd,reduceIte,reduceCtorEq,Nat.reduceLT,Nat.reduceLeDiff,Nat.reduceShiftRight,Nat.reduceMod]
  have:a ≠ b:=fun hab=>by subst hab;simp at h
  simp [this]
 ·have hlen:a.length=b.length:=by (simp only [decide_eq_true_eq,decide_eq_false_iff_not,Bool.not_true,I64,Bool.not_eq_true',Bool.not_eq_false',bne_iff_ne,beq_iff_eq,ne_eq] at *;omega)
  simp only [vZ,Int.reduceEq,Int.reduceNe,Int.reduceLT,Int.reduceLE,Nat.reduceEqDiff,Nat.reduceAdd,reduceIte,reduceCtorEq,Nat.reduceLT,Nat.reduceLeDiff,Nat.reduceShiftRight,Nat.reduceMod]
  refine W_loop (α:=PSigma fun i:Nat=>i≤a.length∧a.take i=b.take i) (fun i=>(envOf [(0,.sl (ints a)),(1,.sl (ints b)),(5,.int .i64 i.1)],noStore)) (fun i=>a.length - i.1) ⟨0,by simp⟩ (weakE _ ?_) (fun ⟨i,hi,hn⟩=>?_)
  ·simp only [vZ,Int.reduceEq,Int.reduceNe,Int.reduceLT,Int.reduceLE,Nat.reduceEqDiff,Nat.reduceAdd,reduceIte,reduceCtorEq,Nat.reduceLT,Nat.reduceLeDiff,Nat.reduceShiftRight,Nat.reduceMod];rfl
  ·simp only [vZ,Int.reduceEq,Int.reduceNe,Int.reduceLT,Int.reduceLE,Nat.reduceEqDiff,Nat.reduceAdd,reduceIte,reduceCtorEq,Nat.reduceLT,Nat.reduceLeDiff,Nat.reduceShiftRight,Nat.reduceMod]
   refine brB_split (fun h=>?_) (fun h=>?_)
   ·have h':i<a.length:=by (simp only [decide_eq_true_eq,decide_eq_false_iff_not,Bool.not_true,I64,Bool.not_eq_true',Bool.not_eq_false',bne_iff_ne,beq_iff_eq,ne_eq] at *;omega)
    have h2:i<b.length:=by omega
    simp only [ints_get a i h',ints_get b i h2,vZ,Int.reduceEq,Int.reduceNe,Int.reduceLT,Int.reduceLE,Nat.reduceEqDiff,Nat.reduceAdd,reduceIte,reduceCtorEq,Nat.reduceLT,Nat.reduceLeDiff,Nat.reduceShiftRight,Nat.reduceMod]
    refine ⟨by omega,by omega,?_⟩
    refine brB_split (fun h=>?_) (fun h=>?_)
    ·simp only [vZ,Int.reduceEq,Int.reduceNe,Int.reduceLT,Int.reduceLE,Nat.reduceEqDiff,Nat.reduceAdd,reduceIte,reduceCtorEq,Nat.reduceLT,Nat.reduceLeDiff,Nat.reduceShiftRight,Nat.reduceMod]
     have:a ≠ b:=fun hab=>by subst hab;simp at h
     simp [this]
    ·simp only [vZ,Int.reduceEq,Int.reduceNe,Int.reduceLT,Int.reduceLE,Nat.reduceEqDiff,Nat.reduceAdd,reduceIte,reduceCtorEq,Nat.reduceLT,Nat.reduceLeDiff,Nat.reduceShiftRight,Nat.reduceMod]
     refine ⟨by (simp only [decide_eq_true_eq,decide_eq_false_iff_not,Bool.not_true,I64,Bool.not_eq_true',Bool.not_eq_false',bne_iff_ne,beq_iff_eq,ne_eq] at *;omega),⟨i+1,by omega,?_⟩,by simp only;omega,weakE _ ?_⟩
     ·rw [List.take_succ_eq_append_getElem h',List.take_succ_eq_append_getElem h2,hn]
      simp at h;rw [h]
     ·simp only [vZ,Int.reduceEq,Int.reduceNe,Int.reduceLT,Int.reduceLE,Nat.reduceEqDiff,Nat.reduceAdd,reduceIte,reduceCtorEq,Nat.reduceLT,Nat.reduceLeDiff,Nat.reduceShiftRight,Nat.reduceMod];simp
   ·simp only [vZ,Int.reduceEq,Int.reduceNe,Int.reduceLT,Int.reduceLE,Nat.reduceEqDiff,Nat.reduceAdd,reduceIte,reduceCtorEq,Nat.reduceLT,Nat.reduceLeDiff,Nat.reduceShiftRight,Nat.reduceMod]
    have:i=a.length:=by (simp only [decide_eq_true_eq,decide_eq_false_iff_not,Bool.not_true,I64,Bool.not_eq_true',Bool.not_eq_false',bne_iff_ne,beq_iff_eq,ne_eq] at *;omega)
    subst this
    have hb:a=b:=by
     have:=hn
     rw [List.take_length,hlen,List.take_length] at this
     exact this
    simp [hb]

def S63 (n:Int):Prop := -9223372036854775807≤n∧n≤9223372036854775807
theorem max_neg (n:Int):max n (-n)=n.natAbs:=by omega
theorem gcd_tmod (a b:Int):Int.gcd b (a.tmod b)=Int.gcd a b:=by
 unfold Int.gcd
 rw [Int.natAbs_tmod,Nat.gcd_comm,← Nat.gcd_rec,Nat.gcd_comm]
theorem tmod_S {a b:Int} (hb:S63 b) (h0:b ≠ 0):S63 (a.tmod b)∧(a.tmod b).natAbs<b.natAbs:=by
 have h:(a.tmod b).natAbs<b.natAbs:=by
  rw [Int.natAbs_tmod]
  exact Nat.mod_lt _ (by omega)
 unfold S63 at hb ⊢
 exact ⟨by omega,h⟩
def lowG (num den:Int):Int:=if den<0 then -(Int.gcd num den) else Int.gcd num den
def lowN (num den:Int):Int:=num.tdiv (lowG num den)
def lowD (num den:Int):Int:=den.tdiv (lowG num den)
def fracA (n d:Int):AV:=.agg [.int .i64 n,.int .i64 d]
theorem tdiv_S {a b:Int} (ha:S63 a):S63 (a.tdiv b):=by
 have:(a.tdiv b).natAbs≤a.natAbs:=by rw [Int.natAbs_tdiv];exact Nat.div_le_self _ _
 unfold S63 at *;omega
theorem lowG_ne {num den:Int} (hd:den ≠ 0):lowG num den ≠ 0:=by
 have:0<Int.gcd num den:=Int.gcd_pos_of_ne_zero_right _ hd
 unfold lowG;split <;> omega
def smallF (n d:Int):Bool:=decide (-1000000000≤n∧n≤1000000000) && decide (1≤d∧d≤1000000000)
theorem IsSmall_s (n d:Int):Sound Tryz.prog 43 [fracA n d] (.bool (smallF n d)):=by
 refine sound_W f_base_IsSmall (Nat.le_of_ble_eq_true rfl) ?_
 unfold smallF
 simp only [c_base_IsSmall,fracA,vZ,Int.reduceEq,Int.reduceNe,Int.reduceLT,Int.reduceLE,Nat.reduceEqDiff,Nat.reduceAdd,reduceIte,reduceCtorEq,Nat.reduceLT,Nat.reduceLeDiff,Nat.reduceShiftRight,Nat.reduceMod]
 refine callS_of (Within_s _ _ _) ?_
 simp only [vZ,Int.reduceEq,Int.reduceNe,Int.reduceLT,Int.reduceLE,Nat.reduceEqDiff,Nat.reduceAdd,reduceIte,reduceCtorEq,Nat.reduceLT,Nat.reduceLeDiff,Nat.reduceShiftRight,Nat.reduceMod]
 by_cases h : -1000000000≤n∧n≤1000000000
 ·simp only [h,vZ,Int.reduceEq,Int.reduceNe,Int.reduceLT,Int.reduceLE,Nat.reduceEqDiff,Nat.reduceAdd,reduceIte,reduceCtorEq,Nat.reduceLT,Nat.reduceLeDiff,Nat.reduceShiftRight,Nat.reduceMod]
  refine callS_of (Within_s _ _ _) ?_
  simp only [h,vZ,Int.reduceEq,Int.reduceNe,Int.reduceLT,Int.reduceLE,Nat.reduceEqDiff,Nat.reduceAdd,reduceIte,reduceCtorEq,Nat.reduceLT,Nat.reduceLeDiff,Nat.reduceShiftRight,Nat.reduceMod]
 ·simp only [h,vZ,Int.reduceEq,Int.reduceNe,Int.reduceLT,Int.reduceLE,Nat.reduceEqDiff,Nat.reduceAdd,reduceIte,reduceCtorEq,Nat.reduceLT,Nat.reduceLeDiff,Nat.reduceShiftRight,Nat.reduceMod]
theorem Mod_s (n m:Int) (hn:I64 n) (hm:I64 m) (h0:0<m):Sound Tryz.prog 106 [.int .i64 n,.int .i64 m] (.int .i64 (n % m)):=by
 refine sound_W f_base_Mod (Nat.le_of_ble_eq_true rfl) ?_
 have h1:n.tmod m<m:=Int.tmod_lt_of_pos n h0
 have h2 : -m<n.tmod m:=Int.lt_tmod_of_pos n h0
 have h3:n % m=if n.tmod m<0 then n.tmod m+m else n.tmod m:=by
  have e:=Int.tmod_def n m
  have f:=tdiv_floor n m h0
  rw [Int.emod_def]
  split at f
  ·rename_i h;rw [if_pos h,← f,Int.mul_sub,e];omega
  ·rename_i h;rw [if_neg h,← f,e]
 simp only [c_base_Mod,vZ,Int.reduceEq,Int.reduceNe,Int.reduceLT,Int.reduceLE,Nat.reduceEqDiff,Nat.reduceAdd,reduceIte,reduceCtorEq,Nat.reduceLT,Nat.reduceLeDiff,Nat.reduceShiftRight,Nat.reduceMod]
 refine ⟨by omega,?_⟩
 rw [h3]
 refine brB_split (fun h=>?_) (fun h=>?_)
 ·simp only [decide_eq_true_eq] at h
  simp only [h,vZ,Int.reduceEq,Int.reduceNe,Int.reduceLT,Int.reduceLE,Nat.reduceEqDiff,Nat.reduceAdd,reduceIte,reduceCtorEq,Nat.reduceLT,Nat.reduceLeDiff,Nat.reduceShiftRight,Nat.reduceMod]
  (simp only [decide_eq_true_eq,decide_eq_false_iff_not,Bool.not_true,I64,Bool.not_eq_true',Bool.not_eq_false',bne_iff_ne,beq_iff_eq,ne_eq] at *;omega)
 ·simp only [Bool.not_true,decide_eq_false_iff_not] at h
  simp only [h,vZ,Int.reduceEq,Int.reduceNe,Int.reduceLT,Int.reduceLE,Nat.reduceEqDiff,Nat.reduceAdd,reduceIte,reduceCtorEq,Nat.reduceLT,Nat.reduceLeDiff,Nat.reduceShiftRight,Nat.reduceMod]
end Go.Proofs.YtpaklfjlbocfcaaGreatDoor

/- Contracts of the chapter of watches: small functions. By an AI agent;nothing here is trusted. -/
namespace Go.Proofs.YtpaklfjlbocfcaaGreatDoor
open Go.Av

theorem within_s (n lo hi:Int):Sound Tryz.prog 99 [.int .i64 n,.int .i64 lo,.int .i64 hi] (.bool (decide (lo≤n∧n≤hi))):=by
 refine sound_W f_watch_within (Nat.le_of_ble_eq_true rfl) ?_
 simp only [c_watch_within,vcC,Int.reduceEq,Int.reduceNe,Int.reduceLT,Int.reduceLE,Nat.reduceEqDiff,Nat.reduceAdd,reduceIte,reduceCtorEq,Nat.reduceLT,Nat.reduceLeDiff,eq_self,vcP]
 refine brB_split (fun h=>?_) (fun h=>?_) <;> simp only [h,vcC,Int.reduceEq,Int.reduceNe,Int.reduceLT,Int.reduceLE,Nat.reduceEqDiff,Nat.reduceAdd,reduceIte,reduceCtorEq,Nat.reduceLT,Nat.reduceLeDiff,eq_self,vcP]
 ·exact bool_eq (by simp at h;simp [h])
 ·simp at h;simp;omega

theorem unless_s (ok:Bool) (e:Int):Sound Tryz.prog 98 [.bool ok,.int .i64 e] (.int .i64 (if ok then 0 else e)):=by
 refine sound_W f_watch_unless (Nat.le_of_ble_eq_true rfl) ?_
 simp only [c_watch_unless,vcC,Int.reduceEq,Int.reduceNe,Int.reduceLT,Int.reduceLE,Nat.reduceEqDiff,Nat.reduceAdd,reduceIte,reduceCtorEq,Nat.reduceLT,Nat.reduceLeDiff,eq_self,vcP]
 refine brB_split (fun h=>?_) (fun h=>?_) <;> subst h <;> simp only [vcC,Int.reduceEq,Int.reduceNe,Int.reduceLT,Int.reduceLE,Nat.reduceEqDiff,Nat.reduceAdd,reduceIte,reduceCtorEq,Nat.reduceLT,Nat.reduceLeDiff,eq_self,vcP]

theorem first_s (l:List Int) (hl:l.length<4000000000000000000):Sound Tryz.prog 96 [.sl (ints l)] (.int .i64 (firstErr l)):=by
 refine sound_W f_watch_first (Nat.le_of_ble_eq_true rfl) ?_
 simp only [c_watch_first,vcC,Int.reduceEq,Int.reduceNe,Int.reduceLT,Int.reduceLE,Nat.reduceEqDiff,Nat.reduceAdd,reduceIte,reduceCtorEq,Nat.reduceLT,Nat.reduceLeDiff,eq_self,vcP]
 refine W_loop (α:=PSigma fun i:Nat=>i≤l.length∧∀ x ∈ l.take i,x=0) (fun i=>(envOf [(5,.sl (ints l)),(6,.int .i64 l.length),(7,.int .i64 i.1)],noStore)) (fun i=>l.length - i.1) ⟨0,by simp⟩ (weakE _ ?_) (fun ⟨i,hi,hn⟩=>?_)
 ·simp only [vcC,Int.reduceEq,Int.reduceNe,Int.reduceLT,Int.reduceLE,Nat.reduceEqDiff,Nat.reduceAdd,reduceIte,reduceCtorEq,Nat.reduceLT,Nat.reduceLeDiff,eq_self,vcP];rfl
 ·simp only [vcC,Int.reduceEq,Int.reduceNe,Int.reduceLT,Int.reduceLE,Nat.reduceEqDiff,Nat.reduceAdd,reduceIte,reduceCtorEq,Nat.reduceLT,Nat.reduceLeDiff,eq_self,vcP]
  refine brB_split (fun h=>?_) (fun h=>?_)
  ·have h':i<l.length:=by (simp only [decide_eq_true_eq,decide_eq_false_iff_not,Bool.not_true,I64,Bool.not_eq_true',Bool.not_eq_false',bne_iff_ne,beq_iff_eq,ne_eq] at *;omega)
   simp only [ints_get l i h',vcC,Int.reduceEq,Int.reduceNe,Int.reduceLT,Int.reduceLE,Nat.reduceEqDiff,Nat.reduceAdd,reduceIte,reduceCtorEq,Nat.reduceLT,Nat.reduceLeDiff,eq_self,vcP]
   refine ⟨by omega,?_⟩
   refine brB_split (fun h=>?_) (fun h=>?_)
   ·simp only [vcC,Int.reduceEq,Int.reduceNe,Int.reduceLT,Int.reduceLE,Nat.reduceEqDiff,Nat.reduceAdd,reduceIte,reduceCtorEq,Nat.reduceLT,Nat.reduceLeDiff,eq_self,vcP]
    have h0:l[i] ≠ 0:=by simpa using h
    have hs:l.find? (· ≠ 0)=some l[i]:=by
     rw [List.find?_eq_some_iff_getElem]
     exact ⟨by simpa using h0,i,h',rfl,fun j hj=>by simp [hn l[j] (by rw [List.mem_take_iff_getElem];exact ⟨j,by omega,rfl⟩)]⟩
    unfold firstErr
    rw [hs];rfl
   ·simp only [vcC,Int.reduceEq,Int.reduceNe,Int.reduceLT,Int.reduceLE,Nat.reduceEqDiff,Nat.reduceAdd,reduceIte,reduceCtorEq,Nat.reduceLT,Nat.reduceLeDiff,eq_self,vcP]
    refine ⟨by (simp only [decide_eq_true_eq,decide_eq_false_iff_not,Bool.not_true,I64,Bool.not_eq_true',Bool.not_eq_false',bne_iff_ne,beq_iff_eq,ne_eq] at *;omega),⟨i+1,by omega,?_⟩,by simp only;omega,weakE _ ?_⟩
    ·rw [List.take_succ_eq_append_getElem h']
     intro x hx
     rcases List.mem_append.1 hx with hx | hx
     ·exact hn x hx
     ·simp at hx h;rw [hx,h]
    ·simp only [vcC,Int.reduceEq,Int.reduceNe,Int.reduceLT,Int.reduceLE,Nat.reduceEqDiff,Nat.reduceAdd,reduceIte,reduceCtorEq,Nat.reduceLT,Nat.reduceLeDiff,eq_self,vcP];simp
  ·simp only [vcC,Int.reduceEq,Int.reduceNe,Int.reduceLT,Int.reduceLE,Nat.reduceEqDiff,Nat.reduceAdd,reduceIte,reduceCtorEq,Nat.reduceLT,Nat.reduceLeDiff,eq_self,vcP]
   have:i=l.length:=by (simp only [decide_eq_true_eq,decide_eq_false_iff_not,Bool.not_true,I64,Bool.not_eq_true',Bool.not_eq_false',bne_iff_ne,beq_iff_eq,ne_eq] at *;omega)
   subst this
   unfold firstErr
   rw [List.take_length] at hn
   rw [List.find?_eq_none.2 (fun x hx=>by simp [hn x hx])]
   rfl

theorem thresholdErr_s (n:Int):Sound Tryz.prog 102 [.int .i64 n] (.int .i64 (if 0≤n∧n≤100000 then 0 else 2)):=by
 refine sound_W f_watch_thresholdErr (Nat.le_of_ble_eq_true rfl) ?_
 simp only [c_watch_thresholdErr,vcC,Int.reduceEq,Int.reduceNe,Int.reduceLT,Int.reduceLE,Nat.reduceEqDiff,Nat.reduceAdd,reduceIte,reduceCtorEq,Nat.reduceLT,Nat.reduceLeDiff,eq_self,vcP]
 refine callS_of (within_s _ _ _) ?_
 simp only [vcC,Int.reduceEq,Int.reduceNe,Int.reduceLT,Int.reduceLE,Nat.reduceEqDiff,Nat.reduceAdd,reduceIte,reduceCtorEq,Nat.reduceLT,Nat.reduceLeDiff,eq_self,vcP]
 refine callS_of (unless_s _ _) ?_
 simp only [vcC,Int.reduceEq,Int.reduceNe,Int.reduceLT,Int.reduceLE,Nat.reduceEqDiff,Nat.reduceAdd,reduceIte,reduceCtorEq,Nat.reduceLT,Nat.reduceLeDiff,eq_self,vcP]
 simp

theorem odd_1_s (n most:Int):Sound Tryz.prog 199 [.int .i64 n,.eptr (.int .i64 most) 0] (.bool (decide (¬ (0≤n∧n≤most)))):=by
 refine sound_W f_watch_odd_1 (Nat.le_of_ble_eq_true rfl) ?_
 simp only [c_watch_odd_1,vcC,Int.reduceEq,Int.reduceNe,Int.reduceLT,Int.reduceLE,Nat.reduceEqDiff,Nat.reduceAdd,reduceIte,reduceCtorEq,Nat.reduceLT,Nat.reduceLeDiff,eq_self,vcP]
 refine callS_of (within_s _ _ _) ?_
 simp only [vcC,Int.reduceEq,Int.reduceNe,Int.reduceLT,Int.reduceLE,Nat.reduceEqDiff,Nat.reduceAdd,reduceIte,reduceCtorEq,Nat.reduceLT,Nat.reduceLeDiff,eq_self,vcP]
 simp only [decide_not]

theorem odd_s (l:List Int) (most:Int) (hl:l.length<4000000000000000000):Sound Tryz.prog 151 [.sl (ints l),.int .i64 most] (.bool (!l.all fun n=>decide (0≤n∧n≤most))):=by
 refine sound_W f_watch_odd (Nat.le_of_ble_eq_true rfl) ?_
 simp only [c_watch_odd,vcC,Int.reduceEq,Int.reduceNe,Int.reduceLT,Int.reduceLE,Nat.reduceEqDiff,Nat.reduceAdd,reduceIte,reduceCtorEq,Nat.reduceLT,Nat.reduceLeDiff,eq_self,vcP]
 refine callS_of (contFunc_int_s l _ _ (fun n=>decide (¬ (0≤n∧n≤most))) hl (by simp [fx1]) (fun x _=>odd_1_s x most)) ?_
 simp only [vcC,Int.reduceEq,Int.reduceNe,Int.reduceLT,Int.reduceLE,Nat.reduceEqDiff,Nat.reduceAdd,reduceIte,reduceCtorEq,Nat.reduceLT,Nat.reduceLeDiff,eq_self,vcP]
 congr 1
 rw [List.not_all_eq_any_not]
 simp only [decide_not]

theorem first2_s (a b:Int):Sound Tryz.prog 96 [.sl [.int .i64 a,.int .i64 b]] (.int .i64 (if a ≠ 0 then a else b)):=by
 have h:=first_s [a,b] (by simp)
 have e:firstErr [a,b]=if a ≠ 0 then a else b:=by
  unfold firstErr
  by_cases ha:a=0 <;> by_cases hb:b=0 <;> simp [ha,hb]
 rw [e] at h
 exact h
theorem first3_s (a b c:Int):Sound Tryz.prog 96 [.sl [.int .i64 a,.int .i64 b,.int .i64 c]] (.int .i64 (if a ≠ 0 then a else if b ≠ 0 then b else c)):=by
 have h:=first_s [a,b,c] (by simp)
 have e:firstErr [a,b,c]=if a ≠ 0 then a else if b ≠ 0 then b else c:=by
  unfold firstErr
  by_cases ha:a=0 <;> by_cases hb:b=0 <;> by_cases hc:c=0 <;> simp [ha,hb,hc]
 rw [e] at h
 exact h

def countsE (l:List Int):Int:=if 60<l.length then 8 else if l.all (fun n=>decide (0≤n∧n≤1000000)) then 0 else 2
theorem countsErr_s (l:List Int) (hl:l.length<4000000000000000000):Sound Tryz.prog 165 [.sl (ints l)] (.int .i64 (countsE l)):=by
 refine sound_W f_watch_countsErr (Nat.le_of_ble_eq_true rfl) ?_
 simp only [c_watch_countsErr,vcC,Int.reduceEq,Int.reduceNe,Int.reduceLT,Int.reduceLE,Nat.reduceEqDiff,Nat.reduceAdd,reduceIte,reduceCtorEq,Nat.reduceLT,Nat.reduceLeDiff,eq_self,vcP]
 refine callS_of (unless_s _ _) ?_
 simp only [vcC,Int.reduceEq,Int.reduceNe,Int.reduceLT,Int.reduceLE,Nat.reduceEqDiff,Nat.reduceAdd,reduceIte,reduceCtorEq,Nat.reduceLT,Nat.reduceLeDiff,eq_self,vcP]
 refine callS_of (odd_s _ _ hl) ?_
 simp only [vcC,Int.reduceEq,Int.reduceNe,Int.reduceLT,Int.reduceLE,Nat.reduceEqDiff,Nat.reduceAdd,reduceIte,reduceCtorEq,Nat.reduceLT,Nat.reduceLeDiff,eq_self,vcP]
 refine callS_of (unless_s _ _) ?_
 simp only [vcC,Int.reduceEq,Int.reduceNe,Int.reduceLT,Int.reduceLE,Nat.reduceEqDiff,Nat.reduceAdd,reduceIte,reduceCtorEq,Nat.reduceLT,Nat.reduceLeDiff,eq_self,vcP]
 refine callS_of (first2_s _ _) ?_
 simp only [vcC,Int.reduceEq,Int.reduceNe,Int.reduceLT,Int.reduceLE,Nat.reduceEqDiff,Nat.reduceAdd,reduceIte,reduceCtorEq,Nat.reduceLT,Nat.reduceLeDiff,eq_self,vcP]
 unfold countsE
 congr 1
 by_cases h:l.length≤60
 ·have:¬ 60<l.length:=by omega
  have h2:(l.length:Int)≤60:=by omega
  simp only [h2,this,decide_true,if_true,if_false,ne_eq,not_true_eq_false,Bool.not_not]
 ·have:60<l.length:=by omega
  have h2:¬ (l.length:Int)≤60:=by omega
  simp [this,h2]
end Go.Proofs.YtpaklfjlbocfcaaGreatDoor

/- Contracts: rules,windows,alarms. By an AI agent;nothing here is trusted. -/
namespace Go.Proofs.YtpaklfjlbocfcaaGreatDoor
open Go.Av

structure Rule where
 mean:Int
 spread:Int
 window:Int
 limit:Int
def Rule.av (r:Rule):AV:=.agg [.int .i64 r.mean,.int .i64 r.spread,.int .i64 r.window,.int .i64 r.limit]
def Rule.ok (r:Rule):Prop:=(0≤r.mean∧r.mean≤1000000)∧(1≤r.spread∧r.spread≤1000000)∧(1≤r.window∧r.window≤60)∧(0≤r.limit∧r.limit≤1000)
instance (r:Rule):Decidable r.ok:=by unfold Rule.ok;exact inferInstance
def ruleE (r:Rule):Int:=if r.ok then 0 else 2

theorem CheckRule_s (r:Rule):Sound Tryz.prog 79 [r.av] (.int .i64 (ruleE r)):=by
 refine sound_W f_watch_CheckRule (Nat.le_of_ble_eq_true rfl) ?_
 simp only [c_watch_CheckRule,Rule.av,vcC,Int.reduceEq,Int.reduceNe,Int.reduceLT,Int.reduceLE,Nat.reduceEqDiff,Nat.reduceAdd,reduceIte,reduceCtorEq,Nat.reduceLT,Nat.reduceLeDiff,eq_self,vcP]
 repeat' first | (refine callS_of (within_s _ _ _) ?_;simp only [vcC,Int.reduceEq,Int.reduceNe,Int.reduceLT,Int.reduceLE,Nat.reduceEqDiff,Nat.reduceAdd,reduceIte,reduceCtorEq,Nat.reduceLT,Nat.reduceLeDiff,eq_self,vcP]) | (refine callS_of (unless_s _ _) ?_;simp only [vcC,Int.reduceEq,Int.reduceNe,Int.reduceLT,Int.reduceLE,Nat.reduceEqDiff,Nat.reduceAdd,reduceIte,reduceCtorEq,Nat.reduceLT,Nat.reduceLeDiff,eq_self,vcP]) | (refine brB_split (fun h=>?_) (fun h=>?_) <;> simp only [h,vcC,Int.reduceEq,Int.reduceNe,Int.reduceLT,Int.reduceLE,Nat.reduceEqDiff,Nat.reduceAdd,reduceIte,reduceCtorEq,Nat.reduceLT,Nat.reduceLeDiff,eq_self,vcP]) | (refine And.intro ?_ ?_)
 all_goals (congr 1;simp only [ruleE,Rule.ok];simp only [decide_eq_true_eq,Bool.not_true,decide_eq_false_iff_not] at *;simp [*])

theorem bothErr_s (r:Rule) (l:List Int) (hl:l.length<4000000000000000000):Sound Tryz.prog 108 [r.av,.sl (ints l)] (.int .i64 (if ruleE r ≠ 0 then ruleE r else countsE l)):=by
 refine sound_W f_watch_bothErr (Nat.le_of_ble_eq_true rfl) ?_
 simp only [c_watch_bothErr,Rule.av,vcC,Int.reduceEq,Int.reduceNe,Int.reduceLT,Int.reduceLE,Nat.reduceEqDiff,Nat.reduceAdd,reduceIte,reduceCtorEq,Nat.reduceLT,Nat.reduceLeDiff,eq_self,vcP]
 repeat' first | (refine callS_of (CheckRule_s r) ?_;simp only [vcC,Int.reduceEq,Int.reduceNe,Int.reduceLT,Int.reduceLE,Nat.reduceEqDiff,Nat.reduceAdd,reduceIte,reduceCtorEq,Nat.reduceLT,Nat.reduceLeDiff,eq_self,vcP]) | (refine callS_of (countsErr_s l hl) ?_;simp only [vcC,Int.reduceEq,Int.reduceNe,Int.reduceLT,Int.reduceLE,Nat.reduceEqDiff,Nat.reduceAdd,reduceIte,reduceCtorEq,Nat.reduceLT,Nat.reduceLeDiff,eq_self,vcP]) | (refine callS_of (first2_s _ _) ?_;simp only [vcC,Int.reduceEq,Int.reduceNe,Int.reduceLT,Int.reduceLE,Nat.reduceEqDiff,Nat.reduceAdd,reduceIte,reduceCtorEq,Nat.reduceLT,Nat.reduceLeDiff,eq_self,vcP]) | (refine brB_split (fun h=>?_) (fun h=>?_) <;> simp only [h,vcC,Int.reduceEq,Int.reduceNe,Int.reduceLT,Int.reduceLE,Nat.reduceEqDiff,Nat.reduceAdd,reduceIte,reduceCtorEq,Nat.reduceLT,Nat.reduceLeDiff,eq_self,vcP]) | (refine And.intro ?_ ?_)
end Go.Proofs.YtpaklfjlbocfcaaGreatDoor

/- Contracts: windows. By an AI agent;nothing here is trusted. -/

namespace Go.Proofs.YtpaklfjlbocfcaaGreatDoor
open Go.Av

def preSum (mean:Int) (l:List Int) (k:Nat):Int:=(l.take k).sum - k * mean
def excess (r:Rule) (l:List Int) (b:Nat):Int:=preSum r.mean l (b+1) - preSum r.mean l (b+1 - r.window.toNat)
def winsTo (r:Rule) (l:List Int) (n:Nat):List (Nat × Int):=((List.range n).filter fun b=>decide (r.window.toNat≤b+1)).map fun b=>(b,excess r l b)
def wins (r:Rule) (l:List Int):List (Nat × Int):=winsTo r l l.length
def winA (p:Nat × Int):List AV:=[.int .i64 p.1,.int .i64 p.2]

theorem preSum_succ (mean:Int) (l:List Int) (k:Nat) (h:k<l.length):preSum mean l (k+1)=preSum mean l k+(l[k] - mean):=by
 unfold preSum
 rw [List.take_succ_eq_append_getElem h,List.sum_append]
 simp
 rw [Int.add_mul]
 omega

theorem countsE_ok {l:List Int} (h:countsE l=0):l.length≤60∧∀ x ∈ l,0≤x∧x≤1000000:=by
 unfold countsE at h
 split at h
 ·cases h
 ·split at h
  ·rename_i h1 h2
   exact ⟨by omega,fun x hx=>by simpa using List.all_eq_true.1 h2 x hx⟩
  ·cases h
theorem ruleE_ok {r:Rule} (h:ruleE r=0):r.ok:=by
 unfold ruleE at h
 split at h
 ·assumption
 ·cases h

theorem preSum_bound {mean:Int} {l:List Int} (hm:0≤mean∧mean≤1000000) (hl:∀ x ∈ l,0≤x∧x≤1000000):∀ k,k≤l.length → -(1000000 * (k:Int))≤preSum mean l k∧preSum mean l k≤1000000 * (k:Int)
 | 0,_=>by simp [preSum]
 | k+1,h=>by
  have ih:=preSum_bound hm hl k (by omega)
  have hx:=hl l[k] (List.getElem_mem (by omega))
  rw [preSum_succ mean l k (by omega)]
  omega

theorem winsTo_succ (r:Rule) (l:List Int) (i:Nat):winsTo r l (i+1)=if r.window.toNat≤i+1 then winsTo r l i ++ [(i,excess r l i)] else winsTo r l i:=by
 unfold winsTo
 rw [List.range_succ,List.filter_append,List.map_append]
 by_cases h:r.window.toNat≤i+1
 ·rw [if_pos h,List.filter_cons_of_pos (by simpa using h)];rfl
 ·rw [if_neg h,List.filter_cons_of_neg (by simpa using h)];simp
theorem winsTo_le (r:Rule) (l:List Int) (i n:Nat) (h:i≤n):∃ rest,winsTo r l n=winsTo r l i ++ rest:=by
 obtain ⟨k,rfl⟩:=Nat.exists_eq_add_of_le h
 induction k with
 | zero=>exact ⟨[],by simp⟩
 | succ k ih =>
  obtain ⟨rest,hr⟩:=ih (by omega)
  rw [← Nat.add_assoc,winsTo_succ]
  split
  ·exact ⟨rest ++ [(i+k,excess r l (i+k))],by rw [hr,List.append_assoc]⟩
  ·exact ⟨rest,hr⟩

theorem deadAll_no:deadAll noStore=noStore:=rfl

theorem windows_1_s (r:Rule) (hr:r.ok) (l:List Int) (hl:countsE l=0):SeqA Tryz.prog 202 [.eptr (.sl (ints l)) 0,.eptr r.av 0] ((wins r l).map winA):=by
 refine seq_W f_watch_windows_1 (Nat.le_of_ble_eq_true rfl) fun y=>?_
 obtain ⟨hlen,hel⟩:=countsE_ok hl
 obtain ⟨hm,_,hw,_⟩:=hr
 have hb:=preSum_bound (mean:=r.mean) hm hel
 simp only [c_watch_windows_1,Rule.av,vcC,Int.reduceEq,Int.reduceNe,Int.reduceLT,Int.reduceLE,Nat.reduceEqDiff,Nat.reduceAdd,reduceIte,reduceCtorEq,Nat.reduceLT,Nat.reduceLeDiff,eq_self,vcP,WY_skip,WY_reg,WY_regY,WY_seq,WY_cond,WY_block,WY_exit,WY_ret,VY_nil,VY_yld,VY_yldg,VY_ps,seqY_n,seqY_r,seqY_x,blockY_n,blockY_r,blockY_x,isCallvs,isCallv,isY,List.any_cons,List.any_nil,Bool.or_false,Bool.or_true,Bool.false_or,Bool.and_false,Bool.false_and]
 refine WY_loop (α:=PSigma fun i:Nat=>i≤l.length) (fun i=>((envOf [(0,.yld y),(1,.eptr (.sl (ints l)) 0),(2,.eptr r.av 0),(4,.int .i64 (preSum r.mean l i.1 - preSum r.mean l (i.1 - r.window.toNat))),(7,.sl (ints l)),(8,.int .i64 l.length),(9,.int .i64 i.1)],noStore),some ((winsTo r l i.1).map winA)))
  (fun i=>l.length - i.1) ⟨0,by simp⟩ (weakE _ ?_) ?_ (fun ⟨i,hi⟩=>?_)
 ·simp only [Rule.av,vcC,Int.reduceEq,Int.reduceNe,Int.reduceLT,Int.reduceLE,Nat.reduceEqDiff,Nat.reduceAdd,reduceIte,reduceCtorEq,Nat.reduceLT,Nat.reduceLeDiff,eq_self,vcP,WY_skip,WY_reg,WY_regY,WY_seq,WY_cond,WY_block,WY_exit,WY_ret,VY_nil,VY_yld,VY_yldg,VY_ps,seqY_n,seqY_r,seqY_x,blockY_n,blockY_r,blockY_x,isCallvs,isCallv,isY,List.any_cons,List.any_nil,Bool.or_false,Bool.or_true,Bool.false_or,Bool.and_false,Bool.false_and];simp [preSum]
 ·simp [winsTo]
 ·simp only [Rule.av,vcC,Int.reduceEq,Int.reduceNe,Int.reduceLT,Int.reduceLE,Nat.reduceEqDiff,Nat.reduceAdd,reduceIte,reduceCtorEq,Nat.reduceLT,Nat.reduceLeDiff,eq_self,vcP,WY_skip,WY_reg,WY_regY,WY_seq,WY_cond,WY_block,WY_exit,WY_ret,VY_nil,VY_yld,VY_yldg,VY_ps,seqY_n,seqY_r,seqY_x,blockY_n,blockY_r,blockY_x,isCallvs,isCallv,isY,List.any_cons,List.any_nil,Bool.or_false,Bool.or_true,Bool.false_or,Bool.and_false,Bool.false_and]
  refine brB_split (fun h=>?_) (fun h=>?_)
  ·have h':i<l.length:=by (simp only [decide_eq_true_eq,decide_eq_false_iff_not,Bool.not_true,I64,Bool.not_eq_true',Bool.not_eq_false',bne_iff_ne,beq_iff_eq,ne_eq] at *;omega)
   simp only [ints_get l i h',vcC,Int.reduceEq,Int.reduceNe,Int.reduceLT,Int.reduceLE,Nat.reduceEqDiff,Nat.reduceAdd,reduceIte,reduceCtorEq,Nat.reduceLT,Nat.reduceLeDiff,eq_self,vcP,WY_skip,WY_reg,WY_regY,WY_seq,WY_cond,WY_block,WY_exit,WY_ret,VY_nil,VY_yld,VY_yldg,VY_ps,seqY_n,seqY_r,seqY_x,blockY_n,blockY_r,blockY_x,isCallvs,isCallv,isY,List.any_cons,List.any_nil,Bool.or_false,Bool.or_true,Bool.false_or,Bool.and_false,Bool.false_and]
   have hx:=hel l[i] (List.getElem_mem h')
   have hs1:=preSum_succ r.mean l i h'
   have b1:=hb i hi
   have b2:=hb (i - r.window.toNat) (by omega)
   have b3:=hb (i+1) h'
   refine ⟨by omega,by (simp only [decide_eq_true_eq,decide_eq_false_iff_not,Bool.not_true,I64,Bool.not_eq_true',Bool.not_eq_false',bne_iff_ne,beq_iff_eq,ne_eq] at *;omega),by (simp only [decide_eq_true_eq,decide_eq_false_iff_not,Bool.not_true,I64,Bool.not_eq_true',Bool.not_eq_false',bne_iff_ne,beq_iff_eq,ne_eq] at *;omega),?_⟩
   refine brB_split (fun h=>?_) (fun h=>?_)
   ·simp only [vcC,Int.reduceEq,Int.reduceNe,Int.reduceLT,Int.reduceLE,Nat.reduceEqDiff,Nat.reduceAdd,reduceIte,reduceCtorEq,Nat.reduceLT,Nat.reduceLeDiff,eq_self,vcP,WY_skip,WY_reg,WY_regY,WY_seq,WY_cond,WY_block,WY_exit,WY_ret,VY_nil,VY_yld,VY_yldg,VY_ps,seqY_n,seqY_r,seqY_x,blockY_n,blockY_r,blockY_x,isCallvs,isCallv,isY,List.any_cons,List.any_nil,Bool.or_false,Bool.or_true,Bool.false_or,Bool.and_false,Bool.false_and]
    have hw2:r.window.toNat≤i:=by (simp only [decide_eq_true_eq,decide_eq_false_iff_not,Bool.not_true,I64,Bool.not_eq_true',Bool.not_eq_false',bne_iff_ne,beq_iff_eq,ne_eq] at *;omega)
    have hgi:((i:Int) - r.window).toNat=i - r.window.toNat:=by omega
    have hget:=ints_get l (i - r.window.toNat) (by omega)
    simp only [hgi,hget,vcC,Int.reduceEq,Int.reduceNe,Int.reduceLT,Int.reduceLE,Nat.reduceEqDiff,Nat.reduceAdd,reduceIte,reduceCtorEq,Nat.reduceLT,Nat.reduceLeDiff,eq_self,vcP,WY_skip,WY_reg,WY_regY,WY_seq,WY_cond,WY_block,WY_exit,WY_ret,VY_nil,VY_yld,VY_yldg,VY_ps,seqY_n,seqY_r,seqY_x,blockY_n,blockY_r,blockY_x,isCallvs,isCallv,isY,List.any_cons,List.any_nil,Bool.or_false,Bool.or_true,Bool.false_or,Bool.and_false,Bool.false_and]
    have hy:=hel (l[i - r.window.toNat]'(by omega)) (List.getElem_mem _)
    have hs2:=preSum_succ r.mean l (i - r.window.toNat) (by omega)
    have hii:i - r.window.toNat+1=i+1 - r.window.toNat:=by omega
    rw [hii] at hs2
    have b4:=hb (i+1 - r.window.toNat) (by omega)
    have hs:preSum r.mean l i - preSum r.mean l (i - r.window.toNat)+(l[i] - r.mean) - ((l[i - r.window.toNat]'(by omega)) - r.mean)=preSum r.mean l (i+1) - preSum r.mean l (i+1 - r.window.toNat):=by omega
    rw [hs]
    refine ⟨by (simp only [decide_eq_true_eq,decide_eq_false_iff_not,Bool.not_true,I64,Bool.not_eq_true',Bool.not_eq_false',bne_iff_ne,beq_iff_eq,ne_eq] at *;omega),by (simp only [decide_eq_true_eq,decide_eq_false_iff_not,Bool.not_true,I64,Bool.not_eq_true',Bool.not_eq_false',bne_iff_ne,beq_iff_eq,ne_eq] at *;omega),by (simp only [decide_eq_true_eq,decide_eq_false_iff_not,Bool.not_true,I64,Bool.not_eq_true',Bool.not_eq_false',bne_iff_ne,beq_iff_eq,ne_eq] at *;omega),by (simp only [decide_eq_true_eq,decide_eq_false_iff_not,Bool.not_true,I64,Bool.not_eq_true',Bool.not_eq_false',bne_iff_ne,beq_iff_eq,ne_eq] at *;omega),by (simp only [decide_eq_true_eq,decide_eq_false_iff_not,Bool.not_true,I64,Bool.not_eq_true',Bool.not_eq_false',bne_iff_ne,beq_iff_eq,ne_eq] at *;omega),?_⟩
    refine brB_split (fun h2=>?_) (fun h2=>?_)
    ·have hwi:r.window.toNat≤i+1:=by (simp only [decide_eq_true_eq,decide_eq_false_iff_not,Bool.not_true,I64,Bool.not_eq_true',Bool.not_eq_false',bne_iff_ne,beq_iff_eq,ne_eq] at *;omega)
     simp only [h2,vcC,Int.reduceEq,Int.reduceNe,Int.reduceLT,Int.reduceLE,Nat.reduceEqDiff,Nat.reduceAdd,reduceIte,reduceCtorEq,Nat.reduceLT,Nat.reduceLeDiff,eq_self,vcP,WY_skip,WY_reg,WY_regY,WY_seq,WY_cond,WY_block,WY_exit,WY_ret,VY_nil,VY_yld,VY_yldg,VY_ps,seqY_n,seqY_r,seqY_x,blockY_n,blockY_r,blockY_x,isCallvs,isCallv,isY,List.any_cons,List.any_nil,Bool.or_false,Bool.or_true,Bool.false_or,Bool.and_false,Bool.false_and]
     obtain ⟨rest,hrest⟩:=winsTo_le r l (i+1) l.length (by omega)
     have hx:=winsTo_succ r l i
     rw [if_pos hwi] at hx
     rw [hx] at hrest
     have hex:excess r l i=preSum r.mean l (i+1) - preSum r.mean l (i+1 - r.window.toNat):=rfl
     rw [← hex]
     refine yS_of ((winsTo r l i).map winA) (rest.map winA) rfl ?_ ?_ ?_
     ·unfold wins;rw [hrest];simp [winA]
     ·simp only [deadAll_no,vcC,Int.reduceEq,Int.reduceNe,Int.reduceLT,Int.reduceLE,Nat.reduceEqDiff,Nat.reduceAdd,reduceIte,reduceCtorEq,Nat.reduceLT,Nat.reduceLeDiff,eq_self,vcP,WY_skip,WY_reg,WY_regY,WY_seq,WY_cond,WY_block,WY_exit,WY_ret,VY_nil,VY_yld,VY_yldg,VY_ps,seqY_n,seqY_r,seqY_x,blockY_n,blockY_r,blockY_x,isCallvs,isCallv,isY,List.any_cons,List.any_nil,Bool.or_false,Bool.or_true,Bool.false_or,Bool.and_false,Bool.false_and]
      refine ⟨by (simp only [decide_eq_true_eq,decide_eq_false_iff_not,Bool.not_true,I64,Bool.not_eq_true',Bool.not_eq_false',bne_iff_ne,beq_iff_eq,ne_eq] at *;omega),⟨i+1,by omega⟩,by simp only;omega,weakE _ ?_,?_⟩
      ·simp only [Rule.av,vcC,Int.reduceEq,Int.reduceNe,Int.reduceLT,Int.reduceLE,Nat.reduceEqDiff,Nat.reduceAdd,reduceIte,reduceCtorEq,Nat.reduceLT,Nat.reduceLeDiff,eq_self,vcP,WY_skip,WY_reg,WY_regY,WY_seq,WY_cond,WY_block,WY_exit,WY_ret,VY_nil,VY_yld,VY_yldg,VY_ps,seqY_n,seqY_r,seqY_x,blockY_n,blockY_r,blockY_x,isCallvs,isCallv,isY,List.any_cons,List.any_nil,Bool.or_false,Bool.or_true,Bool.false_or,Bool.and_false,Bool.false_and];simp [hex]
      ·simp only [hx];simp [winA]
     ·simp only [deadAll_no,vcC,Int.reduceEq,Int.reduceNe,Int.reduceLT,Int.reduceLE,Nat.reduceEqDiff,Nat.reduceAdd,reduceIte,reduceCtorEq,Nat.reduceLT,Nat.reduceLeDiff,eq_self,vcP,WY_skip,WY_reg,WY_regY,WY_seq,WY_cond,WY_block,WY_exit,WY_ret,VY_nil,VY_yld,VY_yldg,VY_ps,seqY_n,seqY_r,seqY_x,blockY_n,blockY_r,blockY_x,isCallvs,isCallv,isY,List.any_cons,List.any_nil,Bool.or_false,Bool.or_true,Bool.false_or,Bool.and_false,Bool.false_and];simp
    ·have hwi:¬ r.window.toNat≤i+1:=by (simp only [decide_eq_true_eq,decide_eq_false_iff_not,Bool.not_true,I64,Bool.not_eq_true',Bool.not_eq_false',bne_iff_ne,beq_iff_eq,ne_eq] at *;omega)
     simp only [h2,vcC,Int.reduceEq,Int.reduceNe,Int.reduceLT,Int.reduceLE,Nat.reduceEqDiff,Nat.reduceAdd,reduceIte,reduceCtorEq,Nat.reduceLT,Nat.reduceLeDiff,eq_self,vcP,WY_skip,WY_reg,WY_regY,WY_seq,WY_cond,WY_block,WY_exit,WY_ret,VY_nil,VY_yld,VY_yldg,VY_ps,seqY_n,seqY_r,seqY_x,blockY_n,blockY_r,blockY_x,isCallvs,isCallv,isY,List.any_cons,List.any_nil,Bool.or_false,Bool.or_true,Bool.false_or,Bool.and_false,Bool.false_and]
     refine ⟨by (simp only [decide_eq_true_eq,decide_eq_false_iff_not,Bool.not_true,I64,Bool.not_eq_true',Bool.not_eq_false',bne_iff_ne,beq_iff_eq,ne_eq] at *;omega),⟨i+1,by omega⟩,by simp only;omega,weakE _ ?_,?_⟩
     ·simp only [Rule.av,vcC,Int.reduceEq,Int.reduceNe,Int.reduceLT,Int.reduceLE,Nat.reduceEqDiff,Nat.reduceAdd,reduceIte,reduceCtorEq,Nat.reduceLT,Nat.reduceLeDiff,eq_self,vcP,WY_skip,WY_reg,WY_regY,WY_seq,WY_cond,WY_block,WY_exit,WY_ret,VY_nil,VY_yld,VY_yldg,VY_ps,seqY_n,seqY_r,seqY_x,blockY_n,blockY_r,blockY_x,isCallvs,isCallv,isY,List.any_cons,List.any_nil,Bool.or_false,Bool.or_true,Bool.false_or,Bool.and_false,Bool.false_and];simp
     ·rw [winsTo_succ,if_neg hwi]
   ·simp only [vcC,Int.reduceEq,Int.reduceNe,Int.reduceLT,Int.reduceLE,Nat.reduceEqDiff,Nat.reduceAdd,reduceIte,reduceCtorEq,Nat.reduceLT,Nat.reduceLeDiff,eq_self,vcP,WY_skip,WY_reg,WY_regY,WY_seq,WY_cond,WY_block,WY_exit,WY_ret,VY_nil,VY_yld,VY_yldg,VY_ps,seqY_n,seqY_r,seqY_x,blockY_n,blockY_r,blockY_x,isCallvs,isCallv,isY,List.any_cons,List.any_nil,Bool.or_false,Bool.or_true,Bool.false_or,Bool.and_false,Bool.false_and]
    have hw2:¬ r.window.toNat≤i:=by (simp only [decide_eq_true_eq,decide_eq_false_iff_not,Bool.not_true,I64,Bool.not_eq_true',Bool.not_eq_false',bne_iff_ne,beq_iff_eq,ne_eq] at *;omega)
    have hz:i - r.window.toNat=0:=by omega
    have hz2:i+1 - r.window.toNat=0:=by omega
    have hs:preSum r.mean l i - preSum r.mean l (i - r.window.toNat)+(l[i] - r.mean)=preSum r.mean l (i+1) - preSum r.mean l (i+1 - r.window.toNat):=by rw [hz,hz2];omega
    rw [hs]
    refine ⟨by (simp only [decide_eq_true_eq,decide_eq_false_iff_not,Bool.not_true,I64,Bool.not_eq_true',Bool.not_eq_false',bne_iff_ne,beq_iff_eq,ne_eq] at *;omega),?_⟩
    refine brB_split (fun h2=>?_) (fun h2=>?_)
    ·have hwi:r.window.toNat≤i+1:=by (simp only [decide_eq_true_eq,decide_eq_false_iff_not,Bool.not_true,I64,Bool.not_eq_true',Bool.not_eq_false',bne_iff_ne,beq_iff_eq,ne_eq] at *;omega)
     simp only [h2,vcC,Int.reduceEq,Int.reduceNe,Int.reduceLT,Int.reduceLE,Nat.reduceEqDiff,Nat.reduceAdd,reduceIte,reduceCtorEq,Nat.reduceLT,Nat.reduceLeDiff,eq_self,vcP,WY_skip,WY_reg,WY_regY,WY_seq,WY_cond,WY_block,WY_exit,WY_ret,VY_nil,VY_yld,VY_yldg,VY_ps,seqY_n,seqY_r,seqY_x,blockY_n,blockY_r,blockY_x,isCallvs,isCallv,isY,List.any_cons,List.any_nil,Bool.or_false,Bool.or_true,Bool.false_or,Bool.and_false,Bool.false_and]
     obtain ⟨rest,hrest⟩:=winsTo_le r l (i+1) l.length (by omega)
     have hx:=winsTo_succ r l i
     rw [if_pos hwi] at hx
     rw [hx] at hrest
     have hex:excess r l i=preSum r.mean l (i+1) - preSum r.mean l (i+1 - r.window.toNat):=rfl
     rw [← hex]
     refine yS_of ((winsTo r l i).map winA) (rest.map winA) rfl ?_ ?_ ?_
     ·unfold wins;rw [hrest];simp [winA]
     ·simp only [deadAll_no,vcC,Int.reduceEq,Int.reduceNe,Int.reduceLT,Int.reduceLE,Nat.reduceEqDiff,Nat.reduceAdd,reduceIte,reduceCtorEq,Nat.reduceLT,Nat.reduceLeDiff,eq_self,vcP,WY_skip,WY_reg,WY_regY,WY_seq,WY_cond,WY_block,WY_exit,WY_ret,VY_nil,VY_yld,VY_yldg,VY_ps,seqY_n,seqY_r,seqY_x,blockY_n,blockY_r,blockY_x,isCallvs,isCallv,isY,List.any_cons,List.any_nil,Bool.or_false,Bool.or_true,Bool.false_or,Bool.and_false,Bool.false_and]
      refine ⟨by (simp only [decide_eq_true_eq,decide_eq_false_iff_not,Bool.not_true,I64,Bool.not_eq_true',Bool.not_eq_false',bne_iff_ne,beq_iff_eq,ne_eq] at *;omega),⟨i+1,by omega⟩,by simp only;omega,weakE _ ?_,?_⟩
      ·simp only [Rule.av,vcC,Int.reduceEq,Int.reduceNe,Int.reduceLT,Int.reduceLE,Nat.reduceEqDiff,Nat.reduceAdd,reduceIte,reduceCtorEq,Nat.reduceLT,Nat.reduceLeDiff,eq_self,vcP,WY_skip,WY_reg,WY_regY,WY_seq,WY_cond,WY_block,WY_exit,WY_ret,VY_nil,VY_yld,VY_yldg,VY_ps,seqY_n,seqY_r,seqY_x,blockY_n,blockY_r,blockY_x,isCallvs,isCallv,isY,List.any_cons,List.any_nil,Bool.or_false,Bool.or_true,Bool.false_or,Bool.and_false,Bool.false_and];simp [hex]
      ·simp only [hx];simp [winA]
     ·simp only [deadAll_no,vcC,Int.reduceEq,Int.reduceNe,Int.reduceLT,Int.reduceLE,Nat.reduceEqDiff,Nat.reduceAdd,reduceIte,reduceCtorEq,Nat.reduceLT,Nat.reduceLeDiff,eq_self,vcP,WY_skip,WY_reg,WY_regY,WY_seq,WY_cond,WY_block,WY_exit,WY_ret,VY_nil,VY_yld,VY_yldg,VY_ps,seqY_n,seqY_r,seqY_x,blockY_n,blockY_r,blockY_x,isCallvs,isCallv,isY,List.any_cons,List.any_nil,Bool.or_false,Bool.or_true,Bool.false_or,Bool.and_false,Bool.false_and];simp
    ·have hwi:¬ r.window.toNat≤i+1:=by (simp only [decide_eq_true_eq,decide_eq_false_iff_not,Bool.not_true,I64,Bool.not_eq_true',Bool.not_eq_false',bne_iff_ne,beq_iff_eq,ne_eq] at *;omega)
     simp only [h2,vcC,Int.reduceEq,Int.reduceNe,Int.reduceLT,Int.reduceLE,Nat.reduceEqDiff,Nat.reduceAdd,reduceIte,reduceCtorEq,Nat.reduceLT,Nat.reduceLeDiff,eq_self,vcP,WY_skip,WY_reg,WY_regY,WY_seq,WY_cond,WY_block,WY_exit,WY_ret,VY_nil,VY_yld,VY_yldg,VY_ps,seqY_n,seqY_r,seqY_x,blockY_n,blockY_r,blockY_x,isCallvs,isCallv,isY,List.any_cons,List.any_nil,Bool.or_false,Bool.or_true,Bool.false_or,Bool.and_false,Bool.false_and]
     refine ⟨by (simp only [decide_eq_true_eq,decide_eq_false_iff_not,Bool.not_true,I64,Bool.not_eq_true',Bool.not_eq_false',bne_iff_ne,beq_iff_eq,ne_eq] at *;omega),⟨i+1,by omega⟩,by simp only;omega,weakE _ ?_,?_⟩
     ·simp only [Rule.av,vcC,Int.reduceEq,Int.reduceNe,Int.reduceLT,Int.reduceLE,Nat.reduceEqDiff,Nat.reduceAdd,reduceIte,reduceCtorEq,Nat.reduceLT,Nat.reduceLeDiff,eq_self,vcP,WY_skip,WY_reg,WY_regY,WY_seq,WY_cond,WY_block,WY_exit,WY_ret,VY_nil,VY_yld,VY_yldg,VY_ps,seqY_n,seqY_r,seqY_x,blockY_n,blockY_r,blockY_x,isCallvs,isCallv,isY,List.any_cons,List.any_nil,Bool.or_false,Bool.or_true,Bool.false_or,Bool.and_false,Bool.false_and];simp
     ·rw [winsTo_succ,if_neg hwi]
  ·simp only [vcC,Int.reduceEq,Int.reduceNe,Int.reduceLT,Int.reduceLE,Nat.reduceEqDiff,Nat.reduceAdd,reduceIte,reduceCtorEq,Nat.reduceLT,Nat.reduceLeDiff,eq_self,vcP,WY_skip,WY_reg,WY_regY,WY_seq,WY_cond,WY_block,WY_exit,WY_ret,VY_nil,VY_yld,VY_yldg,VY_ps,seqY_n,seqY_r,seqY_x,blockY_n,blockY_r,blockY_x,isCallvs,isCallv,isY,List.any_cons,List.any_nil,Bool.or_false,Bool.or_true,Bool.false_or,Bool.and_false,Bool.false_and]
   have:i=l.length:=by (simp only [decide_eq_true_eq,decide_eq_false_iff_not,Bool.not_true,I64,Bool.not_eq_true',Bool.not_eq_false',bne_iff_ne,beq_iff_eq,ne_eq] at *;omega)
   subst this
   simp [wins]
end Go.Proofs.YtpaklfjlbocfcaaGreatDoor

/- Contracts: alarms. By an AI agent;nothing here is trusted. -/
namespace Go.Proofs.YtpaklfjlbocfcaaGreatDoor
open Go.Av

theorem sq_bound {x B:Int} (h1 : -B≤x) (h2:x≤B):0≤x * x∧x * x≤B * B:=by
 have hB:0≤B:=by omega
 rcases Int.le_total 0 x with h | h
 ·exact ⟨Int.mul_nonneg h h,Int.mul_le_mul h2 h2 h hB⟩
 ·rw [← Int.neg_mul_neg x x]
  exact ⟨Int.mul_nonneg (by omega) (by omega),Int.mul_le_mul (by omega) (by omega) (by omega) hB⟩
theorem mul_bound {a b A B:Int} (h1:0≤a) (h2:a≤A) (h3:0≤b) (h4:b≤B):0≤a * b∧a * b≤A * B :=
 ⟨Int.mul_nonneg h1 h3,Int.mul_le_mul h2 h4 h3 (by omega)⟩

theorem window_s (r:Rule) (l:List Int):Sound Tryz.prog 166 [r.av,.sl (ints l)] (.fn 202 [.eptr (.sl (ints l)) 0,.eptr r.av 0]):=by
 refine sound_W f_watch_windows (Nat.le_of_ble_eq_true rfl) ?_
 simp only [c_watch_windows,Rule.av,vcC,Int.reduceEq,Int.reduceNe,Int.reduceLT,Int.reduceLE,Nat.reduceEqDiff,Nat.reduceAdd,reduceIte,reduceCtorEq,Nat.reduceLT,Nat.reduceLeDiff,eq_self,vcP]

def isAlarm (r:Rule) (x:Int):Prop:=0<x∧r.limit * r.limit * r.window * r.spread<100 * x * x
instance (r:Rule) (x:Int):Decidable (isAlarm r x):=by unfold isAlarm;exact inferInstance
def alarmsL (r:Rule) (ws:List (Nat × Int)):List Int:=(ws.filter fun p=>decide (isAlarm r p.2)).map fun p=>(p.1:Int)

theorem at_prefix {α β:Type} {L:List α} {f:α→β} {pre:List β} {x:β} {rest:List β} (h:pre ++ x :: rest=L.map f):∃ hk:pre.length<L.length,x=f L[pre.length]:=by
 have hlen:pre.length<L.length:=by have:=congrArg List.length h;simp at this;omega
 refine ⟨hlen,?_⟩
 have:=congrArg (fun l=>l[pre.length]?) h
 simp [hlen] at this
 exact this

theorem wins_bound {r:Rule} (hr:r.ok) {l:List Int} (hl:countsE l=0):∀ p ∈ wins r l,p.1<l.length ∧ -120000000≤p.2∧p.2≤120000000:=by
 intro p hp
 obtain ⟨hlen,hel⟩:=countsE_ok hl
 unfold wins winsTo at hp
 obtain ⟨b,hb,rfl⟩:=List.mem_map.1 hp
 have hb':=List.mem_range.1 (List.mem_filter.1 hb).1
 have h1:=preSum_bound hr.1 hel (b+1) (by omega)
 have h2:=preSum_bound hr.1 hel (b+1 - r.window.toNat) (by omega)
 refine ⟨hb',?_⟩
 simp only [excess]
 omega
theorem wins_length (r:Rule) (l:List Int):(wins r l).length≤l.length:=by
 unfold wins winsTo
 rw [List.length_map]
 have:=List.length_filter_le (fun b=>decide (r.window.toNat≤b+1)) (List.range l.length)
 simpa using this
theorem alarmsL_succ (r:Rule) (ws:List (Nat × Int)) (k:Nat) (h:k<ws.length):alarmsL r (ws.take (k+1))=alarmsL r (ws.take k) ++ (if isAlarm r ws[k].2 then [(ws[k].1:Int)] else []):=by
 unfold alarmsL
 rw [List.take_succ_eq_append_getElem h,List.filter_append,List.map_append]
 by_cases hi:isAlarm r ws[k].2
 ·rw [if_pos hi,List.filter_cons_of_pos (by simpa using hi)];rfl
 ·rw [if_neg hi,List.filter_cons_of_neg (by simpa using hi)];rfl
theorem alarmsL_le (r:Rule) (ws:List (Nat × Int)):(alarmsL r ws).length≤ws.length:=by
 unfold alarmsL
 rw [List.length_map]
 exact List.length_filter_le _ _
theorem maxLen_ge:4000000000000≤maxLen:=by decide

theorem alarms_s (r:Rule) (hr:r.ok) (l:List Int) (hl:countsE l=0):Sound Tryz.prog 109 [r.av,.sl (ints l)] (.sl (ints (alarmsL r (wins r l)))):=by
 refine sound_W f_watch_alarms (Nat.le_of_ble_eq_true rfl) ?_
 simp only [c_watch_alarms,Rule.av,vcC,Int.reduceEq,Int.reduceNe,Int.reduceLT,Int.reduceLE,Nat.reduceEqDiff,Nat.reduceAdd,reduceIte,reduceCtorEq,Nat.reduceLT,Nat.reduceLeDiff,eq_self,vcP]
 refine callS_of (window_s r l) ?_
 simp only [Rule.av,vZ,Int.reduceEq,Int.reduceNe,Int.reduceLT,Int.reduceLE,Nat.reduceEqDiff,Nat.reduceAdd,reduceIte,reduceCtorEq,Nat.reduceLT,Nat.reduceLeDiff,Nat.reduceShiftRight,Nat.reduceMod]
 refine W_weakR (t:=.mk) _ (weakS [(2,.ptr 2 0 0),(5,.ptr 5 0 0),(10,.fn 202 [.eptr (.sl (ints l)) 0,.eptr r.av 0])] [(2,some 2,⟨23,4,[r.av]⟩),(5,some 5,⟨45,1,[.buf 100 0]⟩),(100,none,⟨3,1,ints []⟩)] (show ([2,5,100]:List Nat).Nodup by decide) (show ([2,5]:List Nat).Nodup by decide) ?_ ?_) ?_
 ·simp only [Rule.av,vcK,Int.reduceEq,Int.reduceNe,Int.reduceLT,Int.reduceLE,Nat.reduceEqDiff,Nat.reduceAdd,reduceIte,reduceCtorEq,Nat.reduceLT,Nat.reduceLeDiff,eq_self,vcP]
  exact ⟨RnB.fxB rfl,RnB.one (.virt 100 _ rfl rfl) rfl rfl rfl,rfl⟩
 ·simp only [Rule.av,vcK,Int.reduceEq,Int.reduceNe,Int.reduceLT,Int.reduceLE,Nat.reduceEqDiff,Nat.reduceAdd,reduceIte,reduceCtorEq,Nat.reduceLT,Nat.reduceLeDiff,eq_self,vcP]
  exact ⟨.ptr _ _ _ _ rfl,.ptr _ _ _ _ rfl,.imm _ rfl⟩
 ·refine W_rf (tt:=.mk) (xs:=(wins r l).map winA) rfl (by simp [imm]) rfl rfl (windows_1_s r hr l hl) (by intro x hx;obtain ⟨p,_,rfl⟩:=List.mem_map.1 hx;rfl) (fun pre=>stOf [(2,⟨23,4,[r.av]⟩),(5,⟨45,1,[.buf 100 (alarmsL r ((wins r l).take pre.length)).length]⟩),(100,⟨3,1,ints (alarmsL r ((wins r l).take pre.length))⟩)]) (Weak.refl _) (fun pre x rest hsp=>?_) ?_
  ·obtain ⟨hk,hx⟩:=at_prefix hsp
   subst hx
   obtain ⟨hp1,hp2,hp3⟩:=wins_bound hr hl (wins r l)[pre.length] (List.getElem_mem hk)
   have hsucc:=alarmsL_succ r (wins r l) pre.length hk
   have hal:=alarmsL_le r ((wins r l).take pre.length)
   have hwl:=wins_length r l
   have hll:=(countsE_ok hl).1
   have hm:=maxLen_ge
   rw [List.length_take] at hal
   have hlen1:(pre ++ [winA (wins r l)[pre.length]]).length=pre.length+1:=by simp
   rw [hlen1,hsucc]
   generalize hq:alarmsL r ((wins r l).take pre.length)=out at *
   generalize (wins r l)[pre.length]=p at *
   obtain ⟨b,x⟩:=p
   simp only at hp1 hp2 hp3
   have hno:¬ isAlarm r x→(if isAlarm r x then [(b:Int)] else [])=[]:=fun h=>if_neg h
   have hyes:isAlarm r x→(if isAlarm r x then [(b:Int)] else [])=[(b:Int)]:=fun h=>if_pos h
   obtain ⟨hr1,hr2,hr3,hr4⟩:=hr
   have q1:=sq_bound hp2 hp3
   have q2:=mul_bound hr4.1 hr4.2 hr4.1 hr4.2
   have q3:=mul_bound q2.1 q2.2 (by omega) hr3.2
   have q4:=mul_bound q3.1 q3.2 (by omega) hr2.2
   have q5:100 * x * x=100 * (x * x):=by rw [Int.mul_assoc]
   have stay:isAlarm r x=False→True:=fun _=>trivial
   simp only [Rule.av,winA,vZ,Int.reduceEq,Int.reduceNe,Int.reduceLT,Int.reduceLE,Nat.reduceEqDiff,Nat.reduceAdd,reduceIte,reduceCtorEq,Nat.reduceLT,Nat.reduceLeDiff,Nat.reduceShiftRight,Nat.reduceMod]
   refine brB_split (fun h=>?_) (fun h=>?_)
   ·simp only [h,vZ,Int.reduceEq,Int.reduceNe,Int.reduceLT,Int.reduceLE,Nat.reduceEqDiff,Nat.reduceAdd,reduceIte,reduceCtorEq,Nat.reduceLT,Nat.reduceLeDiff,Nat.reduceShiftRight,Nat.reduceMod]
    refine ⟨by (simp only [decide_eq_true_eq,decide_eq_false_iff_not,Bool.not_true,I64,Bool.not_eq_true',Bool.not_eq_false',bne_iff_ne,beq_iff_eq,ne_eq] at *;omega),by rw [q5];(simp only [decide_eq_true_eq,decide_eq_false_iff_not,Bool.not_true,I64,Bool.not_eq_true',Bool.not_eq_false',bne_iff_ne,beq_iff_eq,ne_eq] at *;omega),by (simp only [decide_eq_true_eq,decide_eq_false_iff_not,Bool.not_true,I64,Bool.not_eq_true',Bool.not_eq_false',bne_iff_ne,beq_iff_eq,ne_eq] at *;omega),by (simp only [decide_eq_true_eq,decide_eq_false_iff_not,Bool.not_true,I64,Bool.not_eq_true',Bool.not_eq_false',bne_iff_ne,beq_iff_eq,ne_eq] at *;omega),by (simp only [decide_eq_true_eq,decide_eq_false_iff_not,Bool.not_true,I64,Bool.not_eq_true',Bool.not_eq_false',bne_iff_ne,beq_iff_eq,ne_eq] at *;omega),?_⟩
    refine brB_split (fun h2=>?_) (fun h2=>?_)
    ·have ha:isAlarm r x:=⟨by simpa using h,by simpa using h2⟩
     rw [hyes ha]
     simp only [vZ,Int.reduceEq,Int.reduceNe,Int.reduceLT,Int.reduceLE,Nat.reduceEqDiff,Nat.reduceAdd,reduceIte,reduceCtorEq,Nat.reduceLT,Nat.reduceLeDiff,Nat.reduceShiftRight,Nat.reduceMod]
     rw [show (out ++ [(b:Int)]).length=out.length+1 by simp,ints_append]
     refine ⟨⟨by omega,by omega⟩,weakS [(2,.ptr 2 0 0),(5,.ptr 5 0 0),(10,.fn 202 [.eptr (.sl (ints l)) 0,.eptr r.av 0])] [(2,some 2,⟨23,4,[r.av]⟩),(5,some 5,⟨45,1,[.buf 100 (out.length+1)]⟩),(100,some 36,⟨3,1,ints out ++ ints [(b:Int)]⟩)] (show ([2,5,100]:List Nat).Nodup by decide) (show ([2,5,36]:List Nat).Nodup by decide) ?_ ?_⟩
     ·simp only [Rule.av,vcK,Int.reduceEq,Int.reduceNe,Int.reduceLT,Int.reduceLE,Nat.reduceEqDiff,Nat.reduceAdd,reduceIte,reduceCtorEq,Nat.reduceLT,Nat.reduceLeDiff,eq_self,vcP]
      exact ⟨RnB.fxB rfl,RnB.one (.buf _ _ _ rfl) rfl rfl rfl,RnB.fxB (by rw [List.all_append,ints_fxB];rfl)⟩
     ·simp only [Rule.av,vcK,Int.reduceEq,Int.reduceNe,Int.reduceLT,Int.reduceLE,Nat.reduceEqDiff,Nat.reduceAdd,reduceIte,reduceCtorEq,Nat.reduceLT,Nat.reduceLeDiff,eq_self,vcP]
      exact ⟨.ptr _ _ _ _ rfl,.ptr _ _ _ _ rfl,.imm _ rfl⟩
    ·have ha:¬ isAlarm r x:=fun hc=>by have:=hc.2;simp at h2;omega
     rw [hno ha]
     simp only [List.append_nil,vZ,Int.reduceEq,Int.reduceNe,Int.reduceLT,Int.reduceLE,Nat.reduceEqDiff,Nat.reduceAdd,reduceIte,reduceCtorEq,Nat.reduceLT,Nat.reduceLeDiff,Nat.reduceShiftRight,Nat.reduceMod]
     exact Weak.refl _
   ·have ha:¬ isAlarm r x:=fun hc=>by have:=hc.1;simp at h;omega
    rw [hno ha]
    simp only [h,List.append_nil,vZ,Int.reduceEq,Int.reduceNe,Int.reduceLT,Int.reduceLE,Nat.reduceEqDiff,Nat.reduceAdd,reduceIte,reduceCtorEq,Nat.reduceLT,Nat.reduceLeDiff,Nat.reduceShiftRight,Nat.reduceMod]
    exact Weak.refl _
  ·simp only [Rule.av,vZ,Int.reduceEq,Int.reduceNe,Int.reduceLT,Int.reduceLE,Nat.reduceEqDiff,Nat.reduceAdd,reduceIte,reduceCtorEq,Nat.reduceLT,Nat.reduceLeDiff,Nat.reduceShiftRight,Nat.reduceMod]
   rw [List.length_map,List.take_length]
   rw [borB_good _ _ _ _ _ (by simp [ints]) (ints_fx _)]

theorem AlarmsIn_s (r:Rule) (l:List Int) (hl:l.length<4000000000000000000):Sound Tryz.prog 48 [r.av,.sl (ints l)]
  (if ruleE r ≠ 0∨countsE l ≠ 0 then .tup [.sl [],.int .i64 (if ruleE r ≠ 0 then ruleE r else countsE l)] else .tup [.sl (ints (alarmsL r (wins r l))),.int .i64 0]):=by
 refine sound_W f_watch_AlarmsIn (Nat.le_of_ble_eq_true rfl) ?_
 simp only [c_watch_AlarmsIn,Rule.av,vZ,Int.reduceEq,Int.reduceNe,Int.reduceLT,Int.reduceLE,Nat.reduceEqDiff,Nat.reduceAdd,reduceIte,reduceCtorEq,Nat.reduceLT,Nat.reduceLeDiff,Nat.reduceShiftRight,Nat.reduceMod]
 refine callS_of (bothErr_s r l hl) ?_
 simp only [vZ,Int.reduceEq,Int.reduceNe,Int.reduceLT,Int.reduceLE,Nat.reduceEqDiff,Nat.reduceAdd,reduceIte,reduceCtorEq,Nat.reduceLT,Nat.reduceLeDiff,Nat.reduceShiftRight,Nat.reduceMod]
 refine brB_split (fun h=>?_) (fun h=>?_)
 ·simp only [vZ,Int.reduceEq,Int.reduceNe,Int.reduceLT,Int.reduceLE,Nat.reduceEqDiff,Nat.reduceAdd,reduceIte,reduceCtorEq,Nat.reduceLT,Nat.reduceLeDiff,Nat.reduceShiftRight,Nat.reduceMod]
  have:ruleE r ≠ 0∨countsE l ≠ 0:=by
   by_cases h1:ruleE r=0
   ·simp [h1] at h;exact .inr h
   ·exact .inl h1
  rw [if_pos this]
 ·simp only [vZ,Int.reduceEq,Int.reduceNe,Int.reduceLT,Int.reduceLE,Nat.reduceEqDiff,Nat.reduceAdd,reduceIte,reduceCtorEq,Nat.reduceLT,Nat.reduceLeDiff,Nat.reduceShiftRight,Nat.reduceMod]
  have h0:ruleE r=0∧countsE l=0:=by
   by_cases h1:ruleE r=0
   ·simp [h1] at h;exact ⟨h1,h⟩
   ·simp [h1] at h
  refine callS_of (alarms_s r (ruleE_ok h0.1) l h0.2) ?_
  simp only [vZ,Int.reduceEq,Int.reduceNe,Int.reduceLT,Int.reduceLE,Nat.reduceEqDiff,Nat.reduceAdd,reduceIte,reduceCtorEq,Nat.reduceLT,Nat.reduceLeDiff,Nat.reduceShiftRight,Nat.reduceMod]
  rw [if_neg (by simp [h0])]
end Go.Proofs.YtpaklfjlbocfcaaGreatDoor

/- The examples of the chapter,by running the abstract code. By an AI agent;nothing here is trusted. -/
namespace Go.Proofs.YtpaklfjlbocfcaaGreatDoor
open Go.Av

def unint:AV→Option Int
 | .int .i64 n=>some n
 | _=>none
def unints:List AV→Option (List Int)
 | []=>some []
 | x :: l=>match unint x,unints l with
  | some n,some m=>some (n :: m)
  | _,_=>none
theorem unints_some:∀ {l:List AV} {m:List Int},unints l=some m→l=ints m
 | [],m,h=>by cases h;rfl
 | x :: l,m,h=>by
  simp only [unints] at h
  split at h
  ·rename_i n k h1 h2
   cases h
   rw [unints_some h2]
   unfold unint at h1
   split at h1
   ·cases h1;rfl
   ·cases h1
  ·cases h

def itW:IterT:=fun g caps=>if g=202 then (match caps with
 | [.eptr (.sl es) 0,.eptr (.agg [.int .i64 a,.int .i64 b,.int .i64 c,.int .i64 d]) 0]=>(match unints es with
  | some l=>if Rule.ok ⟨a,b,c,d⟩∧countsE l=0 then some ((wins ⟨a,b,c,d⟩ l).map winA) else none
  | none=>none)
 | _=>none) else none
theorem itW_ok:∀ g caps xs,itW g caps=some xs→SeqA Tryz.prog g caps xs:=by
 intro g caps xs h
 unfold itW at h
 split at h
 ·rename_i hg
  subst hg
  split at h
  ·rename_i es a b c d
   split at h
   ·rename_i l hl
    split at h
    ·rename_i hc
     cases h
     rw [unints_some hl]
     exact windows_1_s ⟨a,b,c,d⟩ hc.1 l hc.2
    ·cases h
   ·cases h
  ·cases h
 ·cases h

end Go.Proofs.YtpaklfjlbocfcaaGreatDoor

/- Contracts: skies. By an AI agent;nothing here is trusted. -/
namespace Go.Proofs.YtpaklfjlbocfcaaGreatDoor
open Go.Av

def skyL (s:List (List Int)):List AV:=s.map fun l=>.sl (ints l)
def skyA (s:List (List Int)):AV:=.agg [.sl (skyL s)]
theorem skyL_length (s:List (List Int)):(skyL s).length=s.length:=by simp [skyL]
theorem skyL_get (s:List (List Int)) (i:Nat) (h:i<s.length):(skyL s)[i]?=some (.sl (ints s[i])):=by simp [skyL,h]

def sensE (l:List Int):Int:=if l.length=0 then 10 else if 6<l.length then 8 else if l.all (fun n=>decide (0≤n∧n≤1000)) then 0 else 2
def skyI:List (List Int)→Nat→Nat × Int
 | [],_=>(0,0)
 | l :: s,i=>if sensE l ≠ 0 then (i,sensE l) else skyI s (i+1)
def skyE (s:List (List Int)):Nat × Int:=if s.length=0 then (0,10) else if 6<s.length then (0,8) else skyI s 0

theorem sensE_eq (l:List Int):(if (if decide ((0:Int)<l.length)=true then (0:Int) else 10) ≠ 0 then (if decide ((0:Int)<l.length)=true then (0:Int) else 10) else
   if (if decide ((l.length:Int)≤6)=true then (0:Int) else 8) ≠ 0 then (if decide ((l.length:Int)≤6)=true then (0:Int) else 8) else (if (l.all fun n=>decide (0≤n∧n≤1000))=true then (0:Int) else 2))=sensE l:=by
 unfold sensE
 by_cases h1:l.length=0
 ·simp [h1]
 ·have h1':(0:Int)<l.length:=by omega
  by_cases h2:6<l.length
  ·have h2':¬ (l.length:Int)≤6:=by omega
   simp only [h1',h1,h2,h2',decide_true,decide_false,if_true,if_false]
   simp
  ·have h2':(l.length:Int)≤6:=by omega
   simp only [h1',h1,h2,h2',decide_true,if_true,if_false]
   simp

theorem skyI_at:∀ (s:List (List Int)) (k i:Nat),(∀ l ∈ s.take k,sensE l=0)→k≤s.length→skyI s i=skyI (s.drop k) (i+k)
 | s,0,i,_,_=>by simp
 | [],k+1,i,_,h=>by simp at h
 | l :: s,k+1,i,h,hk=>by
  have h0:sensE l=0:=h l (by simp)
  rw [skyI,if_neg (by simp [h0])]
  rw [skyI_at s k (i+1) (fun x hx=>h x (by simp [hx])) (by simpa using hk)]
  simp [Nat.add_assoc,Nat.add_comm 1 k]

theorem CheckSky_s (s:List (List Int)) (hs:s.length<4000000000000000000) (hl:∀ l ∈ s,l.length<4000000000000000000) :
  Sound Tryz.prog 81 [skyA s] (.tup [.int .i64 (skyE s).1,.int .i64 (skyE s).2]):=by
 refine sound_W f_watch_CheckSky (Nat.le_of_ble_eq_true rfl) ?_
 simp only [c_watch_CheckSky,skyA,skyL_length,vZ,Int.reduceEq,Int.reduceNe,Int.reduceLT,Int.reduceLE,Nat.reduceEqDiff,Nat.reduceAdd,reduceIte,reduceCtorEq,Nat.reduceLT,Nat.reduceLeDiff,Nat.reduceShiftRight,Nat.reduceMod]
 refine callS_of (unless_s _ _) ?_
 simp only [skyL_length,vZ,Int.reduceEq,Int.reduceNe,Int.reduceLT,Int.reduceLE,Nat.reduceEqDiff,Nat.reduceAdd,reduceIte,reduceCtorEq,Nat.reduceLT,Nat.reduceLeDiff,Nat.reduceShiftRight,Nat.reduceMod]
 refine callS_of (unless_s _ _) ?_
 simp only [skyL_length,vZ,Int.reduceEq,Int.reduceNe,Int.reduceLT,Int.reduceLE,Nat.reduceEqDiff,Nat.reduceAdd,reduceIte,reduceCtorEq,Nat.reduceLT,Nat.reduceLeDiff,Nat.reduceShiftRight,Nat.reduceMod]
 refine callS_of (first2_s _ _) ?_
 simp only [skyL_length,vZ,Int.reduceEq,Int.reduceNe,Int.reduceLT,Int.reduceLE,Nat.reduceEqDiff,Nat.reduceAdd,reduceIte,reduceCtorEq,Nat.reduceLT,Nat.reduceLeDiff,Nat.reduceShiftRight,Nat.reduceMod]
 have hE:(if (if decide ((0:Int)<s.length)=true then (0:Int) else 10) ≠ 0 then (if decide ((0:Int)<s.length)=true then (0:Int) else 10) else (if decide ((s.length:Int)≤6)=true then (0:Int) else 8))=(if s.length=0 then 10 else if 6<s.length then 8 else 0):=by
  by_cases h1:s.length=0
  ·simp [h1]
  ·have h1':(0:Int)<s.length:=by omega
   by_cases h2:6<s.length
   ·have h2':¬ (s.length:Int)≤6:=by omega
    simp [h1,h2,h2']
   ·have h2':(s.length:Int)≤6:=by omega
    simp [h1,h2,h2']
 rw [hE]
 refine And.intro (by intro _ k hk;simp [refsL,refs,upd] at hk;subst hk;simp [upd]) ?_
 refine brB_split (fun h=>?_) (fun h=>?_)
 ·simp only [vZ,Int.reduceEq,Int.reduceNe,Int.reduceLT,Int.reduceLE,Nat.reduceEqDiff,Nat.reduceAdd,reduceIte,reduceCtorEq,Nat.reduceLT,Nat.reduceLeDiff,Nat.reduceShiftRight,Nat.reduceMod]
  unfold skyE
  by_cases h1:s.length=0
  ·rw [if_pos h1,if_pos h1];rfl
  ·rw [if_neg h1,if_neg h1] at *
   by_cases h2:6<s.length
   ·rw [if_pos h2,if_pos h2];rfl
   ·simp [h1,h2] at h
 ·have h1:s.length ≠ 0:=by intro hc;simp [hc] at h
  have h2:¬ 6<s.length:=by intro hc;simp [hc,h1] at h
  have hsky:skyE s=skyI s 0:=by unfold skyE;rw [if_neg h1,if_neg h2]
  rw [hsky]
  simp only [skyL_length,vZ,Int.reduceEq,Int.reduceNe,Int.reduceLT,Int.reduceLE,Nat.reduceEqDiff,Nat.reduceAdd,reduceIte,reduceCtorEq,Nat.reduceLT,Nat.reduceLeDiff,Nat.reduceShiftRight,Nat.reduceMod]
  refine W_loop (t:=.mk) (α:=PSigma fun i:Nat=>i≤s.length∧∀ l ∈ s.take i,sensE l=0) (fun i=>(envOf [(1,.ptr 1 0 0),(24,.sl (skyL s)),(25,.int .i64 s.length),(26,.int .i64 i.1)],stOf [(1,⟨26,1,[.agg [.sl (skyL s)]]⟩)])) (fun i=>s.length - i.1) ⟨0,by simp⟩ (weakS [(1,.ptr 1 0 0),(24,.sl (skyL s)),(25,.int .i64 s.length),(26,.int .i64 0)] [(1,some 1,⟨26,1,[.agg [.sl (skyL s)]]⟩)] (show ([1]:List Nat).Nodup by decide) (show ([1]:List Nat).Nodup by decide) ?_ ?_) (fun ⟨i,hi,hn⟩=>?_)
  ·simp only [skyL_length,vcK,Int.reduceEq,Int.reduceNe,Int.reduceLT,Int.reduceLE,Nat.reduceEqDiff,Nat.reduceAdd,reduceIte,reduceCtorEq,Nat.reduceLT,Nat.reduceLeDiff,eq_self,vcP]
   exact RnB.fxB rfl
  ·simp only [skyL_length,vcK,Int.reduceEq,Int.reduceNe,Int.reduceLT,Int.reduceLE,Nat.reduceEqDiff,Nat.reduceAdd,reduceIte,reduceCtorEq,Nat.reduceLT,Nat.reduceLeDiff,eq_self,vcP]
   exact ⟨.ptr _ _ _ _ rfl,.imm _ rfl,.imm _ rfl,.imm _ rfl⟩
  ·simp only [vZ,Int.reduceEq,Int.reduceNe,Int.reduceLT,Int.reduceLE,Nat.reduceEqDiff,Nat.reduceAdd,reduceIte,reduceCtorEq,Nat.reduceLT,Nat.reduceLeDiff,Nat.reduceShiftRight,Nat.reduceMod]
   refine brB_split (fun h=>?_) (fun h=>?_)
   ·have h':i<s.length:=by (simp only [decide_eq_true_eq,decide_eq_false_iff_not,Bool.not_true,I64,Bool.not_eq_true',Bool.not_eq_false',bne_iff_ne,beq_iff_eq,ne_eq] at *;omega)
    simp only [skyL_get s i h',vZ,Int.reduceEq,Int.reduceNe,Int.reduceLT,Int.reduceLE,Nat.reduceEqDiff,Nat.reduceAdd,reduceIte,reduceCtorEq,Nat.reduceLT,Nat.reduceLeDiff,Nat.reduceShiftRight,Nat.reduceMod]
    refine ⟨by omega,?_⟩
    refine callS_of (unless_s _ _) ?_
    simp only [vZ,Int.reduceEq,Int.reduceNe,Int.reduceLT,Int.reduceLE,Nat.reduceEqDiff,Nat.reduceAdd,reduceIte,reduceCtorEq,Nat.reduceLT,Nat.reduceLeDiff,Nat.reduceShiftRight,Nat.reduceMod]
    refine callS_of (unless_s _ _) ?_
    simp only [vZ,Int.reduceEq,Int.reduceNe,Int.reduceLT,Int.reduceLE,Nat.reduceEqDiff,Nat.reduceAdd,reduceIte,reduceCtorEq,Nat.reduceLT,Nat.reduceLeDiff,Nat.reduceShiftRight,Nat.reduceMod]
    refine callS_of (odd_s _ _ (hl _ (List.getElem_mem h'))) ?_
    simp only [vZ,Int.reduceEq,Int.reduceNe,Int.reduceLT,Int.reduceLE,Nat.reduceEqDiff,Nat.reduceAdd,reduceIte,reduceCtorEq,Nat.reduceLT,Nat.reduceLeDiff,Nat.reduceShiftRight,Nat.reduceMod]
    refine callS_of (unless_s _ _) ?_
    simp only [Bool.not_not,vZ,Int.reduceEq,Int.reduceNe,Int.reduceLT,Int.reduceLE,Nat.reduceEqDiff,Nat.reduceAdd,reduceIte,reduceCtorEq,Nat.reduceLT,Nat.reduceLeDiff,Nat.reduceShiftRight,Nat.reduceMod]
    refine callS_of (first3_s _ _ _) ?_
    simp only [vZ,Int.reduceEq,Int.reduceNe,Int.reduceLT,Int.reduceLE,Nat.reduceEqDiff,Nat.reduceAdd,reduceIte,reduceCtorEq,Nat.reduceLT,Nat.reduceLeDiff,Nat.reduceShiftRight,Nat.reduceMod]
    rw [sensE_eq]
    refine brB_split (fun h=>?_) (fun h=>?_)
    ·simp only [vZ,Int.reduceEq,Int.reduceNe,Int.reduceLT,Int.reduceLE,Nat.reduceEqDiff,Nat.reduceAdd,reduceIte,reduceCtorEq,Nat.reduceLT,Nat.reduceLeDiff,Nat.reduceShiftRight,Nat.reduceMod]
     rw [skyI_at s i 0 hn hi,List.drop_eq_getElem_cons h',skyI,if_pos (by simpa using h)]
     simp
    ·simp only [vZ,Int.reduceEq,Int.reduceNe,Int.reduceLT,Int.reduceLE,Nat.reduceEqDiff,Nat.reduceAdd,reduceIte,reduceCtorEq,Nat.reduceLT,Nat.reduceLeDiff,Nat.reduceShiftRight,Nat.reduceMod]
     refine ⟨by (simp only [decide_eq_true_eq,decide_eq_false_iff_not,Bool.not_true,I64,Bool.not_eq_true',Bool.not_eq_false',bne_iff_ne,beq_iff_eq,ne_eq] at *;omega),⟨i+1,h',?_⟩,by simp only;omega,weakS [(1,.ptr 1 0 0),(24,.sl (skyL s)),(25,.int .i64 s.length),(26,.int .i64 (i+1:Nat))] [(1,some 1,⟨26,1,[.agg [.sl (skyL s)]]⟩)] (show ([1]:List Nat).Nodup by decide) (show ([1]:List Nat).Nodup by decide) ?_ ?_⟩
     ·rw [List.take_succ_eq_append_getElem h']
      intro x hx
      rcases List.mem_append.1 hx with hx | hx
      ·exact hn x hx
      ·simp at hx h;rw [hx];exact h
     ·simp only [skyL_length,vcK,Int.reduceEq,Int.reduceNe,Int.reduceLT,Int.reduceLE,Nat.reduceEqDiff,Nat.reduceAdd,reduceIte,reduceCtorEq,Nat.reduceLT,Nat.reduceLeDiff,eq_self,vcP]
      exact RnB.fxB rfl
     ·simp only [skyL_length,vcK,Int.reduceEq,Int.reduceNe,Int.reduceLT,Int.reduceLE,Nat.reduceEqDiff,Nat.reduceAdd,reduceIte,reduceCtorEq,Nat.reduceLT,Nat.reduceLeDiff,eq_self,vcP]
      exact ⟨.ptr _ _ _ _ rfl,.imm _ rfl,.imm _ rfl,.imm _ rfl⟩
   ·simp only [vZ,Int.reduceEq,Int.reduceNe,Int.reduceLT,Int.reduceLE,Nat.reduceEqDiff,Nat.reduceAdd,reduceIte,reduceCtorEq,Nat.reduceLT,Nat.reduceLeDiff,Nat.reduceShiftRight,Nat.reduceMod]
    have:i=s.length:=by (simp only [decide_eq_true_eq,decide_eq_false_iff_not,Bool.not_true,I64,Bool.not_eq_true',Bool.not_eq_false',bne_iff_ne,beq_iff_eq,ne_eq] at *;omega)
    subst this
    rw [skyI_at s s.length 0 hn (Nat.le_refl _)]
    simp [skyI]
end Go.Proofs.YtpaklfjlbocfcaaGreatDoor

/- Contracts: sums of skies. By an AI agent;nothing here is trusted. -/
namespace Go.Proofs.YtpaklfjlbocfcaaGreatDoor
open Go.Av

def binsE (bins:Int):Int:=if 1≤bins∧bins≤3 then 0 else 2
theorem binsErr_s (s:List (List Int)) (bins:Int) (hs:s.length<4000000000000000000) (hl:∀ l ∈ s,l.length<4000000000000000000) :
  Sound Tryz.prog 97 [skyA s,.int .i64 bins] (.int .i64 (if (skyE s).2 ≠ 0 then (skyE s).2 else binsE bins)):=by
 refine sound_W f_watch_binsErr (Nat.le_of_ble_eq_true rfl) ?_
 simp only [c_watch_binsErr,skyA,vZ,Int.reduceEq,Int.reduceNe,Int.reduceLT,Int.reduceLE,Nat.reduceEqDiff,Nat.reduceAdd,reduceIte,reduceCtorEq,Nat.reduceLT,Nat.reduceLeDiff,Nat.reduceShiftRight,Nat.reduceMod]
 refine callS_of (CheckSky_s s hs hl) ?_
 simp only [vZ,Int.reduceEq,Int.reduceNe,Int.reduceLT,Int.reduceLE,Nat.reduceEqDiff,Nat.reduceAdd,reduceIte,reduceCtorEq,Nat.reduceLT,Nat.reduceLeDiff,Nat.reduceShiftRight,Nat.reduceMod]
 refine callS_of (within_s _ _ _) ?_
 simp only [vZ,Int.reduceEq,Int.reduceNe,Int.reduceLT,Int.reduceLE,Nat.reduceEqDiff,Nat.reduceAdd,reduceIte,reduceCtorEq,Nat.reduceLT,Nat.reduceLeDiff,Nat.reduceShiftRight,Nat.reduceMod]
 refine callS_of (unless_s _ _) ?_
 simp only [vZ,Int.reduceEq,Int.reduceNe,Int.reduceLT,Int.reduceLE,Nat.reduceEqDiff,Nat.reduceAdd,reduceIte,reduceCtorEq,Nat.reduceLT,Nat.reduceLeDiff,Nat.reduceShiftRight,Nat.reduceMod]
 refine callS_of (first2_s _ _) ?_
 simp only [vZ,Int.reduceEq,Int.reduceNe,Int.reduceLT,Int.reduceLE,Nat.reduceEqDiff,Nat.reduceAdd,reduceIte,reduceCtorEq,Nat.reduceLT,Nat.reduceLeDiff,Nat.reduceShiftRight,Nat.reduceMod]
 simp only [binsE,decide_eq_true_eq]
end Go.Proofs.YtpaklfjlbocfcaaGreatDoor

/- Contracts: maxima and minima,sums of parts. By an AI agent;nothing here is trusted. -/
namespace Go.Proofs.YtpaklfjlbocfcaaGreatDoor
open Go.Av

def mxTo (l:List Int) (n:Nat):Int:=(l.take n).foldl max (l.headD 0)
def mnTo (l:List Int) (n:Nat):Int:=(l.take n).foldl min (l.headD 0)
theorem mxTo_succ (l:List Int) (n:Nat) (h:n<l.length):mxTo l (n+1)=max (mxTo l n) l[n]:=by
 unfold mxTo;rw [List.take_succ_eq_append_getElem h,List.foldl_append];rfl
theorem mnTo_succ (l:List Int) (n:Nat) (h:n<l.length):mnTo l (n+1)=min (mnTo l n) l[n]:=by
 unfold mnTo;rw [List.take_succ_eq_append_getElem h,List.foldl_append];rfl
theorem mxTo_one (l:List Int) (h:0<l.length):mxTo l 1=l[0]:=by
 cases l with
 | nil=>simp at h
 | cons a l=>simp [mxTo]
theorem mnTo_one (l:List Int) (h:0<l.length):mnTo l 1=l[0]:=by
 cases l with
 | nil=>simp at h
 | cons a l=>simp [mnTo]
def mxL (l:List Int):Int:=mxTo l l.length
def mnL (l:List Int):Int:=mnTo l l.length

theorem Max_s (l:List Int) (h0:0<l.length) (hl:l.length<4000000000000000000):Sound Tryz.prog 157 [.sl (ints l)] (.int .i64 (mxL l)):=by
 refine sound_W f_slices_Max_int_int (Nat.le_of_ble_eq_true rfl) ?_
 have h1:¬ (l.length:Int)<1:=by omega
 simp only [c_slices_Max_int_int,h1,show Int.toNat 0=0 from rfl,ints_get l 0 h0,vZ,Int.reduceEq,Int.reduceNe,Int.reduceLT,Int.reduceLE,Nat.reduceEqDiff,Nat.reduceAdd,reduceIte,reduceCtorEq,Nat.reduceLT,Nat.reduceLeDiff,Nat.reduceShiftRight,Nat.reduceMod]
 rw [← mxTo_one l h0]
 refine W_loop (t:=.mk) (α:=PSigma fun i:Nat=>i≤(l.length - 1)∧(True)) (fun ⟨i,_⟩=>((envOf [(0,.sl (ints l)),(3,.int .i64 (mxTo l (1+i))),(4,.int .i64 ((1+i:Nat):Int))],stOf []))) (fun i=>(l.length - 1) - i.1) ⟨0,Nat.zero_le _,?_⟩ ?_ (fun ⟨i,hi,hn⟩=>?_)
 ·trivial
 ·refine weakX [] (of_decide_eq_true rfl) (of_decide_eq_true rfl) ?_
  (simp only [vcW,vZ,Int.reduceEq,Int.reduceNe,Int.reduceLT,Int.reduceLE,Nat.reduceEqDiff,Nat.reduceAdd,reduceIte,reduceCtorEq,Nat.reduceLT,Nat.reduceLeDiff,Nat.reduceShiftRight,Nat.reduceMod])
  (repeat' first | exact trivial | (with_reducible first | exact RnB.fxB (ints_fxB _) | rfl | refine And.intro ?_ ?_) | (with_reducible (first | refine RnB.bb ?_ | refine RnB.nb ?_);simp only [vcW,vZ,Int.reduceEq,Int.reduceNe,Int.reduceLT,Int.reduceLE,Nat.reduceEqDiff,Nat.reduceAdd,reduceIte,reduceCtorEq,Nat.reduceLT,Nat.reduceLeDiff,Nat.reduceShiftRight,Nat.reduceMod]) | (with_reducible first | refine RnB.ii ?_ | refine RnB.app ?_) | (with_reducible refine RnB.fxB ?_;simp only [vcW,vZ,Int.reduceEq,Int.reduceNe,Int.reduceLT,Int.reduceLE,Nat.reduceEqDiff,Nat.reduceAdd,reduceIte,reduceCtorEq,Nat.reduceLT,Nat.reduceLeDiff,Nat.reduceShiftRight,Nat.reduceMod]) | omega)
 ·simp only [vZ,Int.reduceEq,Int.reduceNe,Int.reduceLT,Int.reduceLE,Nat.reduceEqDiff,Nat.reduceAdd,reduceIte,reduceCtorEq,Nat.reduceLT,Nat.reduceLeDiff,Nat.reduceShiftRight,Nat.reduceMod]
  refine brB_split (fun h=>?_) (fun h=>?_)
  ·have h':1+i<l.length:=by (simp only [decide_eq_true_eq,decide_eq_false_iff_not,Bool.not_true,I64,Bool.not_eq_true',Bool.not_eq_false',bne_iff_ne,beq_iff_eq,ne_eq] at *;omega)
   have hs:=mxTo_succ l (1+i) h'
   simp only [ints_get l (1+i) h',vZ,Int.reduceEq,Int.reduceNe,Int.reduceLT,Int.reduceLE,Nat.reduceEqDiff,Nat.reduceAdd,reduceIte,reduceCtorEq,Nat.reduceLT,Nat.reduceLeDiff,Nat.reduceShiftRight,Nat.reduceMod]
   refine ⟨by (simp only [decide_eq_true_eq,decide_eq_false_iff_not,Bool.not_true,I64,Bool.not_eq_true',Bool.not_eq_false',bne_iff_ne,beq_iff_eq,ne_eq] at *;omega),by (simp only [decide_eq_true_eq,decide_eq_false_iff_not,Bool.not_true,I64,Bool.not_eq_true',Bool.not_eq_false',bne_iff_ne,beq_iff_eq,ne_eq] at *;omega),⟨⟨i+1,by (simp only [decide_eq_true_eq,decide_eq_false_iff_not,Bool.not_true,I64,Bool.not_eq_true',Bool.not_eq_false',bne_iff_ne,beq_iff_eq,ne_eq] at *;omega),?_⟩,by simp only;(try simp only [decide_eq_true_eq] at *);omega,?_⟩⟩
   ·trivial
   ·refine weakX [] (of_decide_eq_true rfl) (of_decide_eq_true rfl) ?_
    (simp only [← Nat.add_assoc,hs,vcW,vZ,Int.reduceEq,Int.reduceNe,Int.reduceLT,Int.reduceLE,Nat.reduceEqDiff,Nat.reduceAdd,reduceIte,reduceCtorEq,Nat.reduceLT,Nat.reduceLeDiff,Nat.reduceShiftRight,Nat.reduceMod])
    (repeat' first | exact trivial | (with_reducible first | exact RnB.fxB (ints_fxB _) | rfl | refine And.intro ?_ ?_) | (with_reducible (first | refine RnB.bb ?_ | refine RnB.nb ?_);simp only [vcW,vZ,Int.reduceEq,Int.reduceNe,Int.reduceLT,Int.reduceLE,Nat.reduceEqDiff,Nat.reduceAdd,reduceIte,reduceCtorEq,Nat.reduceLT,Nat.reduceLeDiff,Nat.reduceShiftRight,Nat.reduceMod]) | (with_reducible first | refine RnB.ii ?_ | refine RnB.app ?_) | (with_reducible refine RnB.fxB ?_;simp only [vcW,vZ,Int.reduceEq,Int.reduceNe,Int.reduceLT,Int.reduceLE,Nat.reduceEqDiff,Nat.reduceAdd,reduceIte,reduceCtorEq,Nat.reduceLT,Nat.reduceLeDiff,Nat.reduceShiftRight,Nat.reduceMod]) | omega)
  ·simp only [vZ,Int.reduceEq,Int.reduceNe,Int.reduceLT,Int.reduceLE,Nat.reduceEqDiff,Nat.reduceAdd,reduceIte,reduceCtorEq,Nat.reduceLT,Nat.reduceLeDiff,Nat.reduceShiftRight,Nat.reduceMod]
   have he:l.length=1+i:=by (simp only [decide_eq_true_eq,decide_eq_false_iff_not,Bool.not_true,I64,Bool.not_eq_true',Bool.not_eq_false',bne_iff_ne,beq_iff_eq,ne_eq] at *;omega)
   unfold mxL
   rw [he]

theorem Min_s (l:List Int) (h0:0<l.length) (hl:l.length<4000000000000000000):Sound Tryz.prog 164 [.sl (ints l)] (.int .i64 (mnL l)):=by
 refine sound_W f_slices_Min_int_int (Nat.le_of_ble_eq_true rfl) ?_
 have h1:¬ (l.length:Int)<1:=by omega
 simp only [c_slices_Min_int_int,h1,show Int.toNat 0=0 from rfl,ints_get l 0 h0,vZ,Int.reduceEq,Int.reduceNe,Int.reduceLT,Int.reduceLE,Nat.reduceEqDiff,Nat.reduceAdd,reduceIte,reduceCtorEq,Nat.reduceLT,Nat.reduceLeDiff,Nat.reduceShiftRight,Nat.reduceMod]
 rw [← mnTo_one l h0]
 refine W_loop (t:=.mk) (α:=PSigma fun i:Nat=>i≤(l.length - 1)∧(True)) (fun ⟨i,_⟩=>((envOf [(0,.sl (ints l)),(3,.int .i64 (mnTo l (1+i))),(4,.int .i64 ((1+i:Nat):Int))],stOf []))) (fun i=>(l.length - 1) - i.1) ⟨0,Nat.zero_le _,?_⟩ ?_ (fun ⟨i,hi,hn⟩=>?_)
 ·trivial
 ·refine weakX [] (of_decide_eq_true rfl) (of_decide_eq_true rfl) ?_
  (simp only [vcW,vZ,Int.reduceEq,Int.reduceNe,Int.reduceLT,Int.reduceLE,Nat.reduceEqDiff,Nat.reduceAdd,reduceIte,reduceCtorEq,Nat.reduceLT,Nat.reduceLeDiff,Nat.reduceShiftRight,Nat.reduceMod])
  (repeat' first | exact trivial | (with_reducible first | exact RnB.fxB (ints_fxB _) | rfl | refine And.intro ?_ ?_) | (with_reducible (first | refine RnB.bb ?_ | refine RnB.nb ?_);simp only [vcW,vZ,Int.reduceEq,Int.reduceNe,Int.reduceLT,Int.reduceLE,Nat.reduceEqDiff,Nat.reduceAdd,reduceIte,reduceCtorEq,Nat.reduceLT,Nat.reduceLeDiff,Nat.reduceShiftRight,Nat.reduceMod]) | (with_reducible first | refine RnB.ii ?_ | refine RnB.app ?_) | (with_reducible refine RnB.fxB ?_;simp only [vcW,vZ,Int.reduceEq,Int.reduceNe,Int.reduceLT,Int.reduceLE,Nat.reduceEqDiff,Nat.reduceAdd,reduceIte,reduceCtorEq,Nat.reduceLT,Nat.reduceLeDiff,Nat.reduceShiftRight,Nat.reduceMod]) | omega)
 ·simp only [vZ,Int.reduceEq,Int.reduceNe,Int.reduceLT,Int.reduceLE,Nat.reduceEqDiff,Nat.reduceAdd,reduceIte,reduceCtorEq,Nat.reduceLT,Nat.reduceLeDiff,Nat.reduceShiftRight,Nat.reduceMod]
  refine brB_split (fun h=>?_) (fun h=>?_)
  ·have h':1+i<l.length:=by (simp only [decide_eq_true_eq,decide_eq_false_iff_not,Bool.not_true,I64,Bool.not_eq_true',Bool.not_eq_false',bne_iff_ne,beq_iff_eq,ne_eq] at *;omega)
   have hs:=mnTo_succ l (1+i) h'
   simp only [ints_get l (1+i) h',vZ,Int.reduceEq,Int.reduceNe,Int.reduceLT,Int.reduceLE,Nat.reduceEqDiff,Nat.reduceAdd,reduceIte,reduceCtorEq,Nat.reduceLT,Nat.reduceLeDiff,Nat.reduceShiftRight,Nat.reduceMod]
   refine ⟨by (simp only [decide_eq_true_eq,decide_eq_false_iff_not,Bool.not_true,I64,Bool.not_eq_true',Bool.not_eq_false',bne_iff_ne,beq_iff_eq,ne_eq] at *;omega),by (simp only [decide_eq_true_eq,decide_eq_false_iff_not,Bool.not_true,I64,Bool.not_eq_true',Bool.not_eq_false',bne_iff_ne,beq_iff_eq,ne_eq] at *;omega),⟨⟨i+1,by (simp only [decide_eq_true_eq,decide_eq_false_iff_not,Bool.not_true,I64,Bool.not_eq_true',Bool.not_eq_false',bne_iff_ne,beq_iff_eq,ne_eq] at *;omega),?_⟩,by simp only;(try simp only [decide_eq_true_eq] at *);omega,?_⟩⟩
   ·trivial
   ·refine weakX [] (of_decide_eq_true rfl) (of_decide_eq_true rfl) ?_
    (simp only [← Nat.add_assoc,hs,vcW,vZ,Int.reduceEq,Int.reduceNe,Int.reduceLT,Int.reduceLE,Nat.reduceEqDiff,Nat.reduceAdd,reduceIte,reduceCtorEq,Nat.reduceLT,Nat.reduceLeDiff,Nat.reduceShiftRight,Nat.reduceMod])
    (repeat' first | exact trivial | (with_reducible first | exact RnB.fxB (ints_fxB _) | rfl | refine And.intro ?_ ?_) | (with_reducible (first | refine RnB.bb ?_ | refine RnB.nb ?_);simp only [vcW,vZ,Int.reduceEq,Int.reduceNe,Int.reduceLT,Int.reduceLE,Nat.reduceEqDiff,Nat.reduceAdd,reduceIte,reduceCtorEq,Nat.reduceLT,Nat.reduceLeDiff,Nat.reduceShiftRight,Nat.reduceMod]) | (with_reducible first | refine RnB.ii ?_ | refine RnB.app ?_) | (with_reducible refine RnB.fxB ?_;simp only [vcW,vZ,Int.reduceEq,Int.reduceNe,Int.reduceLT,Int.reduceLE,Nat.reduceEqDiff,Nat.reduceAdd,reduceIte,reduceCtorEq,Nat.reduceLT,Nat.reduceLeDiff,Nat.reduceShiftRight,Nat.reduceMod]) | omega)
  ·simp only [vZ,Int.reduceEq,Int.reduceNe,Int.reduceLT,Int.reduceLE,Nat.reduceEqDiff,Nat.reduceAdd,reduceIte,reduceCtorEq,Nat.reduceLT,Nat.reduceLeDiff,Nat.reduceShiftRight,Nat.reduceMod]
   have he:l.length=1+i:=by (simp only [decide_eq_true_eq,decide_eq_false_iff_not,Bool.not_true,I64,Bool.not_eq_true',Bool.not_eq_false',bne_iff_ne,beq_iff_eq,ne_eq] at *;omega)
   unfold mnL
   rw [he]
end Go.Proofs.YtpaklfjlbocfcaaGreatDoor

/- Sums of skies,in plain Lean. By an AI agent;nothing here is trusted. -/
namespace Go.Proofs.YtpaklfjlbocfcaaGreatDoor
open Go.Av

def lin:List Int→(Int→Int)→Int
 | [],_=>0
 | x :: v,f=>x * f 0+lin v (fun a=>f (a+1))
theorem lin_append:∀ (v w:List Int) (f:Int→Int),lin (v ++ w) f=lin v f+lin w (fun a=>f (a+v.length))
 | [],w,f=>by simp [lin]
 | x :: v,w,f=>by
  simp only [List.cons_append,lin,lin_append v w,List.length_cons,Int.add_assoc]
  have:(fun a:Int=>f (a+((v.length:Int)+1)))=(fun a=>f (a+((v.length+1:Nat):Int))):=rfl
  rw [← this]
theorem lin_take (v:List Int) (f:Int→Int) (a:Nat) (h:a<v.length):lin (v.take (a+1)) f=lin (v.take a) f+v[a] * f a:=by
 rw [List.take_succ_eq_append_getElem h,lin_append]
 simp [lin,List.length_take,Nat.min_eq_left (Nat.le_of_lt h)]
theorem lin_zero (m:Nat):∀ (f:Int→Int),lin (List.replicate m 0) f=0:=by
 induction m with
 | zero=>intro f;rfl
 | succ m ih=>intro f;simp [List.replicate_succ,lin,ih]
def upd1 (nx:List Int) (p:Nat) (n:Int):List Int:=nx.set p (nx.getD p 0+n)
theorem upd1_length (nx:List Int) (p:Nat) (n:Int):(upd1 nx p n).length=nx.length:=by simp [upd1]
theorem lin_upd1:∀ (nx:List Int) (p:Nat) (n:Int) (f:Int→Int),p<nx.length→lin (upd1 nx p n) f=lin nx f+n * f p
 | x :: nx,0,n,f,_=>by simp [upd1,lin,Int.add_mul];omega
 | x :: nx,p+1,n,f,h=>by
  have:=lin_upd1 nx p n (fun a=>f (a+1)) (by simpa using h)
  simp only [upd1] at this ⊢
  simp only [List.set_cons_succ,List.getD_cons_succ,lin,this]
  have e:f ((p:Int)+1)=f ((p+1:Nat):Int):=rfl
  rw [e];omega
theorem lin_one:∀ (v:List Int),lin v (fun _=>1)=v.sum
 | []=>rfl
 | x :: v=>by simp [lin,lin_one v]
theorem lin_cmul:∀ (v:List Int) (f:Int→Int) (c:Int),lin v (fun a=>c * f a)=c * lin v f
 | [],_,_=>by simp [lin]
 | x :: v,f,c=>by simp only [lin,lin_cmul v];rw [Int.mul_add,Int.mul_left_comm]
theorem sum_nonneg:∀ {v:List Int},(∀ x ∈ v,0≤x)→0≤v.sum
 | [],_=>by simp
 | x :: v,h=>by
  have:=sum_nonneg (v:=v) fun y hy=>h y (List.mem_cons_of_mem _ hy)
  have:=h x List.mem_cons_self
  simp only [List.sum_cons];omega
theorem le_sum:∀ {v:List Int},(∀ x ∈ v,0≤x)→∀ x ∈ v,x≤v.sum
 | y :: v,h,x,hx=>by
  have h1:=sum_nonneg (v:=v) fun y hy=>h y (List.mem_cons_of_mem _ hy)
  have h2:=h y List.mem_cons_self
  simp only [List.sum_cons]
  rcases List.mem_cons.1 hx with e | e
  ·omega
  ·have:=le_sum (v:=v) (fun y hy=>h y (List.mem_cons_of_mem _ hy)) x e
   omega

theorem foldl_max_le:∀ (l:List Int) (a:Int),a≤l.foldl max a∧∀ c ∈ l,c≤l.foldl max a
 | [],a=>⟨Int.le_refl _,by simp⟩
 | x :: l,a=>by
  obtain ⟨h1,h2⟩:=foldl_max_le l (max a x)
  refine ⟨by simp only [List.foldl_cons];omega,fun c hc=>?_⟩
  rcases List.mem_cons.1 hc with e | e
  ·simp only [List.foldl_cons];omega
  ·exact h2 c e
theorem le_mxL {l:List Int} {c:Int} (h:c ∈ l):c≤mxL l:=by
 unfold mxL mxTo;rw [List.take_length];exact (foldl_max_le l _).2 c h
theorem mxL_mem {l:List Int} (h:0<l.length):mxL l ∈ l:=by
 have:∀ (l:List Int) (a:Int),l.foldl max a=a∨l.foldl max a ∈ l:=by
  intro l
  induction l with
  | nil=>intro a;exact .inl rfl
  | cons x l ih =>
   intro a
   simp only [List.foldl_cons]
   rcases ih (max a x) with e | e
   ·rw [e]
    rcases Int.le_total a x with q | q
    ·right;rw [Int.max_eq_right q];exact List.mem_cons_self
    ·left;exact Int.max_eq_left q
   ·exact .inr (List.mem_cons_of_mem _ e)
 unfold mxL mxTo
 rw [List.take_length]
 cases l with
 | nil=>simp at h
 | cons x l =>
  rcases this (x :: l) x with e | e
  ·simp only [List.headD_cons];rw [e];exact List.mem_cons_self
  ·exact e

def rowTo (at_:Nat) (n:Int) (l:List Int) (nx:List Int):List Int:=l.foldl (fun nx c=>upd1 nx (at_+c.toNat) n) nx
def convTo (v l:List Int) (a:Nat):List Int:=(List.range a).foldl (fun nx i=>rowTo i (v.getD i 0) l nx) (List.replicate (v.length+(mxL l).toNat) 0)
def conv (v l:List Int):List Int:=convTo v l v.length
theorem rowTo_length (a:Nat) (n:Int):∀ (l nx:List Int),(rowTo a n l nx).length=nx.length
 | [],_=>rfl
 | c :: l,nx=>by rw [rowTo,List.foldl_cons,← rowTo,rowTo_length a n l,upd1_length]
theorem rowTo_succ (a:Nat) (n:Int) (l nx:List Int) (j:Nat) (h:j<l.length):rowTo a n (l.take (j+1)) nx=upd1 (rowTo a n (l.take j) nx) (a+l[j].toNat) n:=by
 unfold rowTo;rw [List.take_succ_eq_append_getElem h,List.foldl_append];rfl
theorem convTo_succ (v l:List Int) (a:Nat):convTo v l (a+1)=rowTo a (v.getD a 0) l (convTo v l a):=by
 unfold convTo;rw [List.range_succ,List.foldl_append];rfl
theorem convTo_length (v l:List Int) (a:Nat):(convTo v l a).length=v.length+(mxL l).toNat:=by
 induction a with
 | zero=>simp [convTo]
 | succ a ih=>rw [convTo_succ,rowTo_length,ih]
theorem lin_row (a:Nat) (n:Int) (f:Int→Int):∀ (l nx:List Int),(∀ c ∈ l,0≤c∧a+c.toNat<nx.length)→lin (rowTo a n l nx) f=lin nx f+n * (l.map fun c=>f (a+c)).sum
 | [],nx,_=>by simp [rowTo]
 | c :: l,nx,h=>by
  have h0:=h c List.mem_cons_self
  rw [rowTo,List.foldl_cons,← rowTo,lin_row a n f l (upd1 nx (a+c.toNat) n) (fun d hd=>by rw [upd1_length];exact h d (List.mem_cons_of_mem _ hd)),lin_upd1 _ _ _ _ h0.2]
  have e:((a+c.toNat:Nat):Int)=a+c:=by omega
  rw [e,List.map_cons,List.sum_cons,Int.mul_add];omega
theorem lin_convTo (v l:List Int) (hl:∀ c ∈ l,0≤c) (f:Int→Int):∀ (a:Nat),a≤v.length→lin (convTo v l a) f=lin (v.take a) (fun x=>(l.map fun c=>f (x+c)).sum)
 | 0,_=>by simp [convTo,lin_zero,lin]
 | a+1,h=>by
  rw [convTo_succ,lin_row,lin_convTo v l hl f a (by omega),lin_take v _ a h]
  ·have ha':a<v.length:=h
   simp [List.getD,List.getElem?_eq_getElem ha']
  ·intro c hc
   have:=le_mxL hc
   have:=hl c hc
   rw [convTo_length];omega
theorem conv_length (v l:List Int):(conv v l).length=v.length+(mxL l).toNat:=convTo_length v l _

theorem upd1_nonneg {nx:List Int} {p:Nat} {n:Int} (h:∀ x ∈ nx,0≤x) (hn:0≤n):∀ x ∈ upd1 nx p n,0≤x:=by
 intro x hx
 unfold upd1 at hx
 rcases List.mem_or_eq_of_mem_set hx with e | e
 ·exact h x e
 ·have:0≤nx.getD p 0:=by
   unfold List.getD
   cases hq:nx[p]? with
   | none=>simp
   | some y=>simpa using h y (List.mem_of_getElem? hq)
  omega
theorem row_nonneg {a:Nat} {n:Int} (hn:0≤n):∀ (l nx:List Int),(∀ x ∈ nx,0≤x)→∀ x ∈ rowTo a n l nx,0≤x
 | [],_,h=>h
 | c :: l,nx,h=>by
  rw [rowTo,List.foldl_cons,← rowTo]
  exact row_nonneg hn l _ (upd1_nonneg h hn)
theorem getD_nonneg {v:List Int} (h:∀ x ∈ v,0≤x) (p:Nat):0≤v.getD p 0:=by
 unfold List.getD
 cases hq:v[p]? with
 | none=>simp
 | some y=>simpa using h y (List.mem_of_getElem? hq)
theorem convTo_nonneg {v:List Int} (hv:∀ x ∈ v,0≤x) (l:List Int) (a:Nat):∀ x ∈ convTo v l a,0≤x:=by
 induction a with
 | zero=>intro x hx;simp [convTo] at hx;omega
 | succ a ih=>rw [convTo_succ];exact row_nonneg (getD_nonneg hv a) l _ ih
theorem sum_take_le {v:List Int} (hv:∀ x ∈ v,0≤x) (a:Nat):(v.take a).sum≤v.sum:=by
 have h:v.sum=(v.take a).sum+(v.drop a).sum:=by rw [← List.sum_append,List.take_append_drop]
 have:=sum_nonneg (v:=v.drop a) fun x hx=>hv x (List.mem_of_mem_drop hx)
 omega
theorem map_one_sum:∀ (l:List Int),(l.map fun _=>(1:Int)).sum=l.length
 | []=>rfl
 | x :: l=>by simp only [List.map_cons,List.sum_cons,map_one_sum l,List.length_cons];omega
theorem lin_const (v:List Int) (c:Int):lin v (fun _=>c)=c * v.sum:=by
 have:=lin_cmul v (fun _=>1) c
 simp only [Int.mul_one] at this;rw [this,lin_one]
theorem convTo_sum {v l:List Int} (hl:∀ c ∈ l,0≤c) {a:Nat} (ha:a≤v.length):(convTo v l a).sum=l.length * (v.take a).sum:=by
 rw [← lin_one,lin_convTo v l hl _ a ha,map_one_sum,lin_const]
theorem conv_sum {v l:List Int} (hl:∀ c ∈ l,0≤c):(conv v l).sum=l.length * v.sum:=by
 unfold conv;rw [convTo_sum hl (Nat.le_refl _),List.take_length]
theorem part_sum {v l:List Int} (hl:∀ c ∈ l,0≤c) {a:Nat} (ha:a<v.length) (j:Nat) :
  (rowTo a v[a] (l.take j) (convTo v l a)).sum=l.length * (v.take a).sum+v[a] * (l.take j).length:=by
 rw [← lin_one,lin_row,lin_one,convTo_sum hl (Nat.le_of_lt ha),map_one_sum]
 intro c hc
 have hm:=List.mem_of_mem_take hc
 have:=le_mxL hm
 have:=hl c hm
 rw [convTo_length];omega
theorem part_le {v l:List Int} (hv:∀ x ∈ v,0≤x) (hl:∀ c ∈ l,0≤c) {a:Nat} (ha:a<v.length) (j:Nat) :
  ∀ x ∈ rowTo a v[a] (l.take j) (convTo v l a),0≤x∧x≤l.length * v.sum:=by
 intro x hx
 have hn:=row_nonneg (a:=a) (hv v[a] (List.getElem_mem ha)) (l.take j) _ (convTo_nonneg hv l a)
 refine ⟨hn x hx,?_⟩
 have h1:=le_sum hn x hx
 rw [part_sum hl ha] at h1
 have h2:(v.take (a+1)).sum≤v.sum:=sum_take_le hv (a+1)
 rw [List.take_succ_eq_append_getElem ha,List.sum_append,List.sum_singleton] at h2
 have h3:(l.length:Int) * ((v.take a).sum+v[a])≤l.length * v.sum:=Int.mul_le_mul_of_nonneg_left h2 (by omega)
 have h4:((l.take j).length:Int)≤l.length:=by rw [List.length_take];omega
 have h5:=Int.mul_le_mul_of_nonneg_left h4 (hv v[a] (List.getElem_mem ha))
 rw [Int.mul_add] at h3
 have h6:(l.length:Int) * v[a]=v[a] * l.length:=Int.mul_comm _ _
 omega
end Go.Proofs.YtpaklfjlbocfcaaGreatDoor

/- Contracts: the sums of a sky. By an AI agent;nothing here is trusted. -/
namespace Go.Proofs.YtpaklfjlbocfcaaGreatDoor
open Go.Av

def sTo (s:List (List Int)) (v:List Int) (j:Nat):List Int:=(s.take j).foldl conv v
def bTo (s:List (List Int)):Nat→List Int
 | 0=>[1]
 | b+1=>s.foldl conv (bTo s b)
theorem sTo_succ (s:List (List Int)) (v:List Int) (j:Nat) (h:j<s.length):sTo s v (j+1)=conv (sTo s v j) s[j]:=by
 unfold sTo;rw [List.take_succ_eq_append_getElem h,List.foldl_append];rfl
theorem sTo_all (s:List (List Int)) (v:List Int):sTo s v s.length=s.foldl conv v:=by unfold sTo;rw [List.take_length]

structure Vok (m:Nat) (v:List Int):Prop where
 nn:∀ x ∈ v,0≤x
 le:v.length≤1+1000 * m
 pos:0<v.length
 sum:v.sum≤(6:Int) ^ m
theorem Vok.mono {m m':Nat} {v:List Int} (h:Vok m v) (hm:m≤m'):Vok m' v :=
 ⟨h.nn,by have:=h.le;omega,h.pos,Int.le_trans h.sum (Int.ofNat_le.2 (Nat.pow_le_pow_right (n:=6) (by omega) hm))⟩
theorem sensE_ok {l:List Int} (h:sensE l=0):0<l.length∧l.length≤6∧∀ c ∈ l,0≤c∧c≤1000:=by
 unfold sensE at h
 by_cases h1:l.length=0
 ·rw [if_pos h1] at h;omega
 ·rw [if_neg h1] at h
  by_cases h2:6<l.length
  ·rw [if_pos h2] at h;omega
  ·rw [if_neg h2] at h
   by_cases h3:(l.all fun n=>decide (0≤n∧n≤1000))=true
   ·exact ⟨by omega,by omega,by simpa using h3⟩
   ·rw [if_neg h3] at h;omega
theorem Vok.conv {m:Nat} {v l:List Int} (h:Vok m v) (hl:sensE l=0):Vok (m+1) (conv v l):=by
 obtain ⟨h1,h2,h3⟩:=sensE_ok hl
 have hm:=h3 _ (mxL_mem h1)
 have hle:=h.le
 have hp:=h.pos
 refine ⟨convTo_nonneg h.nn l _,by rw [conv_length];omega,by rw [conv_length];omega,?_⟩
 rw [conv_sum (fun c hc=>(h3 c hc).1),Int.pow_succ]
 have hs:=sum_nonneg h.nn
 have q1:(l.length:Int) * v.sum≤6 * v.sum:=Int.mul_le_mul_of_nonneg_right (by omega) hs
 have:=h.sum
 omega
def skyOk (s:List (List Int)):Prop:=(0<s.length∧s.length≤6)∧∀ l ∈ s,sensE l=0
theorem skyI_ok:∀ (s:List (List Int)) (i:Nat),(skyI s i).2=0→∀ l ∈ s,sensE l=0
 | [],_,_=>by simp
 | l :: s,i,h=>by
  intro x hx
  rw [skyI] at h
  by_cases h0:sensE l=0
  ·rw [if_neg (by simpa using h0)] at h
   rcases List.mem_cons.1 hx with e | e
   ·rw [e];exact h0
   ·exact skyI_ok s _ h x e
  ·rw [if_pos h0] at h;exact absurd h h0
theorem skyE_ok {s:List (List Int)} (h:(skyE s).2=0):skyOk s:=by
 unfold skyE at h
 by_cases h1:s.length=0
 ·rw [if_pos h1] at h;exact absurd h (by decide)
 ·rw [if_neg h1] at h
  by_cases h2:6<s.length
  ·rw [if_pos h2] at h;exact absurd h (by decide)
  ·rw [if_neg h2] at h
   exact ⟨⟨by omega,by omega⟩,skyI_ok s 0 h⟩
theorem Vok_fold:∀ (s:List (List Int)) (m:Nat) (v:List Int),Vok m v→(∀ l ∈ s,sensE l=0)→Vok (m+s.length) (s.foldl conv v)
 | [],m,v,h,_=>h
 | l :: s,m,v,h,hs=>by
  have:=Vok_fold s (m+1) _ (h.conv (hs l List.mem_cons_self)) fun x hx=>hs x (List.mem_cons_of_mem _ hx)
  simpa [List.foldl_cons,Nat.add_assoc,Nat.add_comm 1] using this
theorem Vok_b {s:List (List Int)} (hs:skyOk s):∀ (b:Nat),Vok (6 * b) (bTo s b)
 | 0=>⟨by simp [bTo],by simp [bTo],by simp [bTo],by simp [bTo]⟩
 | b+1=>(Vok_fold s _ _ (Vok_b hs b) hs.2).mono (by have:=hs.1.2;omega)
theorem Vok_s {s:List (List Int)} (hs:skyOk s) (b j:Nat) (hj:j≤s.length):Vok (6 * b+j) (sTo s (bTo s b) j):=by
 have:=Vok_fold (s.take j) _ _ (Vok_b hs b) fun l hl=>hs.2 l (List.mem_of_mem_take hl)
 rw [List.length_take,Nat.min_eq_left hj] at this
 exact this
theorem ints_set (l:List Int) (k:Nat) (n:Int):(ints l).set k (.int .i64 n)=ints (l.set k n):=by simp [ints,List.map_set]
theorem ints_set' (l:List Int) (k:Nat) (n m:Int):(ints l).set k (putIn (.int .i64 m) 0 (.int .i64 n))=ints (l.set k n):=ints_set l k n
theorem ints_zero (n:Nat):List.replicate n (AV.int .i64 0)=ints (List.replicate n 0):=by simp [ints]

theorem rowTo_nil (a:Nat) (n:Int) (nx:List Int):rowTo a n [] nx=nx:=rfl
theorem exists_eq_nat (n:Nat):∃ q:Nat,q=n:=⟨n,rfl⟩
theorem convTo_zero (v l:List Int):convTo v l 0=List.replicate (v.length+(mxL l).toNat) 0:=rfl
theorem sTo_zero (s:List (List Int)) (v:List Int):sTo s v 0=v:=rfl
theorem bTo_zero (s:List (List Int)):bTo s 0=[1]:=rfl
theorem bTo_succ (s:List (List Int)) (b:Nat):bTo s (b+1)=sTo s (bTo s b) s.length:=by rw [sTo_all];rfl
theorem conv_all (v l:List Int):conv v l=convTo v l v.length:=rfl
theorem upd1_eq (nx:List Int) (q:Nat) (n:Int) (h:q<nx.length):nx.set q (nx[q]+n)=upd1 nx q n:=by unfold upd1;simp [List.getD,List.getElem?_eq_getElem h]
theorem convTo_one (v l:List Int) (a:Nat) (ha:a<v.length):convTo v l (a+1)=rowTo a v[a] l (convTo v l a):=by
 rw [convTo_succ];simp [List.getD,List.getElem?_eq_getElem ha]
theorem part_I64 {v l:List Int} (hv:∀ x ∈ v,0≤x) (hl:∀ c ∈ l,0≤c) (hle:l.length≤6) (hvs:v.sum≤101559956668416) {a:Nat} (ha:a<v.length) (j:Nat) :
  ∀ x ∈ rowTo a v[a] (l.take j) (convTo v l a),I64 x:=by
 intro x hx
 have h1:=part_le hv hl ha j x hx
 have:=Int.mul_le_mul_of_nonneg_right (show (l.length:Int)≤6 by omega) (sum_nonneg hv)
 unfold I64;omega
theorem row_upd {v l:List Int} {a k N:Nat} (ha:a<v.length) (hk:k<l.length) (hl:∀ c ∈ l,0≤c∧c≤1000) (hN:N=v.length+(mxL l).toNat) (q:Nat) (hq:q=a+l[k].toNat) :
  (a:Int)+l[k]=(q:Int)∧q<N∧rowTo a v[a] (l.take (k+1)) (convTo v l a)=upd1 (rowTo a v[a] (l.take k) (convTo v l a)) q v[a]:=by
 have h1:=hl _ (List.getElem_mem hk)
 have h2:=le_mxL (List.getElem_mem hk)
 refine ⟨by omega,by omega,?_⟩
 rw [rowTo_succ a v[a] l (convTo v l a) k hk,hq]
theorem upd_I64 {nx:List Int} {q:Nat} {n:Int} (hq:q<nx.length) (h:∀ x ∈ upd1 nx q n,I64 x):I64 (nx[q]+n) :=
 h _ (by rw [← upd1_eq nx q n hq];exact List.mem_set hq _)
attribute [local irreducible] rowTo convTo conv bTo sTo upd1 mxL
theorem mkOk_zero (N:Nat):mkOk 1 (List.replicate N (AV.int .i64 0)):=by
 intro x hx
 rw [List.eq_of_mem_replicate hx]
 exact ⟨rfl,rfl,by decide⟩
set_option maxHeartbeats 4000000 in
theorem sums_s (s:List (List Int)) (hs:skyOk s) (b:Nat) (hb:b≤3):Sound Tryz.prog 100 [skyA s,.int .i64 b] (.sl (ints (bTo s b))):=by
 refine sound_W f_watch_sums (Nat.le_of_ble_eq_true rfl) ?_
 obtain ⟨⟨hs1,hs2⟩,hsl⟩:=id hs
 simp only [c_watch_sums,skyA,vZ,Int.reduceEq,Int.reduceNe,Int.reduceLT,Int.reduceLE,Nat.reduceEqDiff,Nat.reduceAdd,reduceIte,reduceCtorEq,Nat.reduceLT,Nat.reduceLeDiff,Nat.reduceShiftRight,Nat.reduceMod]
 refine W_loop (t:=.mk) (α:=PSigma fun i:Nat=>i≤b∧(True)) (fun ⟨i,_⟩=>((envOf [(2,.ptr 2 0 0),(5,.buf 100 (bTo s i).length),(14,.int .i64 b),(15,.int .i64 i)],stOf [(2,⟨26,1,[.agg [.sl (skyL s)]]⟩),(100,⟨3,1,ints (bTo s i)⟩)]))) (fun i=>b - i.1) ⟨0,Nat.zero_le _,?_⟩ ?_ (fun ⟨i,hi,hn⟩=>?_)
 ·trivial
 ·have h0:=bTo_zero s
  refine weakX [(100,some 13)] (of_decide_eq_true rfl) (of_decide_eq_true rfl) ?_
  (simp only [h0,vcW,vZ,Int.reduceEq,Int.reduceNe,Int.reduceLT,Int.reduceLE,Nat.reduceEqDiff,Nat.reduceAdd,reduceIte,reduceCtorEq,Nat.reduceLT,Nat.reduceLeDiff,Nat.reduceShiftRight,Nat.reduceMod])
  (repeat' first | exact trivial | (with_reducible first | exact RnB.fxB (ints_fxB _) | rfl | refine And.intro ?_ ?_) | (with_reducible (first | refine RnB.bb ?_ | refine RnB.nb ?_);simp only [vcW,vZ,Int.reduceEq,Int.reduceNe,Int.reduceLT,Int.reduceLE,Nat.reduceEqDiff,Nat.reduceAdd,reduceIte,reduceCtorEq,Nat.reduceLT,Nat.reduceLeDiff,Nat.reduceShiftRight,Nat.reduceMod]) | (with_reducible first | refine RnB.ii ?_ | refine RnB.app ?_) | (with_reducible refine RnB.fxB ?_;simp only [vcW,vZ,Int.reduceEq,Int.reduceNe,Int.reduceLT,Int.reduceLE,Nat.reduceEqDiff,Nat.reduceAdd,reduceIte,reduceCtorEq,Nat.reduceLT,Nat.reduceLeDiff,Nat.reduceShiftRight,Nat.reduceMod]) | omega)
  exact RnB.eq rfl rfl
 ·simp only [vZ,Int.reduceEq,Int.reduceNe,Int.reduceLT,Int.reduceLE,Nat.reduceEqDiff,Nat.reduceAdd,reduceIte,reduceCtorEq,Nat.reduceLT,Nat.reduceLeDiff,Nat.reduceShiftRight,Nat.reduceMod]
  refine brB_split (fun h=>?_) (fun h=>?_)
  ·have h':i<b:=by (simp only [decide_eq_true_eq,decide_eq_false_iff_not,Bool.not_true,I64,Bool.not_eq_true',Bool.not_eq_false',bne_iff_ne,beq_iff_eq,ne_eq] at *;omega)
   clear h
   simp only [skyL_length,vZ,Int.reduceEq,Int.reduceNe,Int.reduceLT,Int.reduceLE,Nat.reduceEqDiff,Nat.reduceAdd,reduceIte,reduceCtorEq,Nat.reduceLT,Nat.reduceLeDiff,Nat.reduceShiftRight,Nat.reduceMod]
   have hst:=sTo_zero s (bTo s i)
   rw [← hst]
   refine W_loop (t:=.mk) (α:=PSigma fun j:Nat=>j≤s.length∧True) (fun ⟨j,_⟩=>(envOf [(2,.ptr 2 0 0),(5,.buf 100 (sTo s (bTo s i) j).length),(14,.int .i64 b),(15,.int .i64 i),(18,.sl (skyL s)),(19,.int .i64 s.length),(20,.int .i64 j)],stOf [(2,⟨26,1,[.agg [.sl (skyL s)]]⟩),(100,⟨3,1,ints (sTo s (bTo s i) j)⟩)])) (fun j=>s.length - j.1) ⟨0,Nat.zero_le _,trivial⟩ ?_ (fun ⟨j,hj,_⟩=>?_)
   ·refine weakX [] (of_decide_eq_true rfl) (of_decide_eq_true rfl) ?_
    (simp only [vcW,vZ,Int.reduceEq,Int.reduceNe,Int.reduceLT,Int.reduceLE,Nat.reduceEqDiff,Nat.reduceAdd,reduceIte,reduceCtorEq,Nat.reduceLT,Nat.reduceLeDiff,Nat.reduceShiftRight,Nat.reduceMod])
    (repeat' first | exact trivial | (with_reducible first | exact RnB.fxB (ints_fxB _) | rfl | refine And.intro ?_ ?_) | (with_reducible (first | refine RnB.bb ?_ | refine RnB.nb ?_);simp only [vcW,vZ,Int.reduceEq,Int.reduceNe,Int.reduceLT,Int.reduceLE,Nat.reduceEqDiff,Nat.reduceAdd,reduceIte,reduceCtorEq,Nat.reduceLT,Nat.reduceLeDiff,Nat.reduceShiftRight,Nat.reduceMod]) | (with_reducible first | refine RnB.ii ?_ | refine RnB.app ?_) | (with_reducible refine RnB.fxB ?_;simp only [vcW,vZ,Int.reduceEq,Int.reduceNe,Int.reduceLT,Int.reduceLE,Nat.reduceEqDiff,Nat.reduceAdd,reduceIte,reduceCtorEq,Nat.reduceLT,Nat.reduceLeDiff,Nat.reduceShiftRight,Nat.reduceMod]) | omega)
   ·simp only [vZ,Int.reduceEq,Int.reduceNe,Int.reduceLT,Int.reduceLE,Nat.reduceEqDiff,Nat.reduceAdd,reduceIte,reduceCtorEq,Nat.reduceLT,Nat.reduceLeDiff,Nat.reduceShiftRight,Nat.reduceMod]
    refine brB_split (fun h=>?_) (fun h=>?_)
    ·have hj':j<s.length:=by (simp only [decide_eq_true_eq,decide_eq_false_iff_not,Bool.not_true,I64,Bool.not_eq_true',Bool.not_eq_false',bne_iff_ne,beq_iff_eq,ne_eq] at *;omega)
     clear h
     have hv:=Vok_s hs i j hj
     have hv2:=hv.mono (show 6 * i+j≤18 by omega)
     have hsu:=sTo_succ s (bTo s i) j hj'
     have hse:=hsl _ (List.getElem_mem hj')
     obtain ⟨l1,l2,l3⟩:=sensE_ok hse
     generalize hL:s[j]=l at *
     generalize hV:sTo s (bTo s i) j=v at *
     have hvn:=hv2.nn
     have hvl:=hv2.le
     have hvs:v.sum≤101559956668416:=hv2.sum
     have hm:=l3 _ (mxL_mem l1)
     simp only [skyL_get s j hj',hL,vZ,Int.reduceEq,Int.reduceNe,Int.reduceLT,Int.reduceLE,Nat.reduceEqDiff,Nat.reduceAdd,reduceIte,reduceCtorEq,Nat.reduceLT,Nat.reduceLeDiff,Nat.reduceShiftRight,Nat.reduceMod]
     refine ⟨by omega,?_⟩
     refine callS_of (Max_s l l1 (by omega)) ?_
     obtain ⟨N,hN⟩:∃ N:Nat,N=v.length+(mxL l).toNat:=⟨_,rfl⟩
     have hN2:(v.length:Int)+mxL l=(N:Int):=by omega
     simp only [hN2,vZ,Int.reduceEq,Int.reduceNe,Int.reduceLT,Int.reduceLE,Nat.reduceEqDiff,Nat.reduceAdd,reduceIte,reduceCtorEq,Nat.reduceLT,Nat.reduceLeDiff,Nat.reduceShiftRight,Nat.reduceMod]
     refine ⟨by (simp only [decide_eq_true_eq,decide_eq_false_iff_not,Bool.not_true,I64,Bool.not_eq_true',Bool.not_eq_false',bne_iff_ne,beq_iff_eq,ne_eq] at *;omega),by omega,mkOk_zero _,?_⟩
     rw [ints_zero]
     have hc0:List.replicate N (0:Int)=convTo v l 0:=by rw [hN,convTo_zero]
     rw [hc0]
     refine W_loop (t:=.mk) (α:=PSigma fun a:Nat=>a≤v.length∧True) (fun ⟨a,_⟩=>(envOf [(2,.ptr 2 0 0),(5,.buf 100 v.length),(7,.sl (ints l)),(8,.buf 101 N),(14,.int .i64 b),(15,.int .i64 i),(18,.sl (skyL s)),(19,.int .i64 s.length),(20,.int .i64 j),(30,.buf 100 v.length),(31,.int .i64 v.length),(32,.int .i64 a)],stOf [(2,⟨26,1,[.agg [.sl (skyL s)]]⟩),(100,⟨3,1,ints v⟩),(101,⟨3,1,ints (convTo v l a)⟩)])) (fun a=>v.length - a.1) ⟨0,Nat.zero_le _,trivial⟩ ?_ (fun ⟨a,ha,_⟩=>?_)
     ·refine weakX [(101,some 29)] (of_decide_eq_true rfl) (of_decide_eq_true rfl) ?_
      (simp only [vcW,vZ,Int.reduceEq,Int.reduceNe,Int.reduceLT,Int.reduceLE,Nat.reduceEqDiff,Nat.reduceAdd,reduceIte,reduceCtorEq,Nat.reduceLT,Nat.reduceLeDiff,Nat.reduceShiftRight,Nat.reduceMod])
      (repeat' first | exact trivial | (with_reducible first | exact RnB.fxB (ints_fxB _) | rfl | refine And.intro ?_ ?_) | (with_reducible (first | refine RnB.bb ?_ | refine RnB.nb ?_);simp only [vcW,vZ,Int.reduceEq,Int.reduceNe,Int.reduceLT,Int.reduceLE,Nat.reduceEqDiff,Nat.reduceAdd,reduceIte,reduceCtorEq,Nat.reduceLT,Nat.reduceLeDiff,Nat.reduceShiftRight,Nat.reduceMod]) | (with_reducible first | refine RnB.ii ?_ | refine RnB.app ?_) | (with_reducible refine RnB.fxB ?_;simp only [vcW,vZ,Int.reduceEq,Int.reduceNe,Int.reduceLT,Int.reduceLE,Nat.reduceEqDiff,Nat.reduceAdd,reduceIte,reduceCtorEq,Nat.reduceLT,Nat.reduceLeDiff,Nat.reduceShiftRight,Nat.reduceMod]) | omega)
     ·simp only [vZ,Int.reduceEq,Int.reduceNe,Int.reduceLT,Int.reduceLE,Nat.reduceEqDiff,Nat.reduceAdd,reduceIte,reduceCtorEq,Nat.reduceLT,Nat.reduceLeDiff,Nat.reduceShiftRight,Nat.reduceMod]
      refine brB_split (fun h=>?_) (fun h=>?_)
      ·have ha':a<v.length:=by (simp only [decide_eq_true_eq,decide_eq_false_iff_not,Bool.not_true,I64,Bool.not_eq_true',Bool.not_eq_false',bne_iff_ne,beq_iff_eq,ne_eq] at *;omega)
       clear h
       have hrow:∀ j,(rowTo a v[a] (l.take j) (convTo v l a)).length=N:=fun j=>by rw [rowTo_length,convTo_length,hN]
       have hbd:=fun j=>part_I64 hvn (fun c hc=>(l3 c hc).1) l2 hvs ha' j
       have hcs:=convTo_one v l a ha'
       clear hvs hv2 hv
       simp only [ints_get v a ha',vZ,Int.reduceEq,Int.reduceNe,Int.reduceLT,Int.reduceLE,Nat.reduceEqDiff,Nat.reduceAdd,reduceIte,reduceCtorEq,Nat.reduceLT,Nat.reduceLeDiff,Nat.reduceShiftRight,Nat.reduceMod]
       refine ⟨by omega,?_⟩
       refine W_loop (t:=.mk) (α:=PSigma fun k:Nat=>k≤l.length∧True) (fun ⟨k,_⟩=>(envOf [(2,.ptr 2 0 0),(5,.buf 100 v.length),(7,.sl (ints l)),(8,.buf 101 N),(9,.int .i64 a),(10,.int .i64 v[a]),(14,.int .i64 b),(15,.int .i64 i),(18,.sl (skyL s)),(19,.int .i64 s.length),(20,.int .i64 j),(30,.buf 100 v.length),(31,.int .i64 v.length),(32,.int .i64 a),(37,.sl (ints l)),(38,.int .i64 l.length),(39,.int .i64 k)],stOf [(2,⟨26,1,[.agg [.sl (skyL s)]]⟩),(100,⟨3,1,ints v⟩),(101,⟨3,1,ints (rowTo a v[a] (l.take k) (convTo v l a))⟩)])) (fun k=>l.length - k.1) ⟨0,Nat.zero_le _,trivial⟩ ?_ (fun ⟨k,hk,_⟩=>?_)
       ·refine weakX [] (of_decide_eq_true rfl) (of_decide_eq_true rfl) ?_
        (simp only [List.take_zero,rowTo_nil,vcW,vZ,Int.reduceEq,Int.reduceNe,Int.reduceLT,Int.reduceLE,Nat.reduceEqDiff,Nat.reduceAdd,reduceIte,reduceCtorEq,Nat.reduceLT,Nat.reduceLeDiff,Nat.reduceShiftRight,Nat.reduceMod])
        (repeat' first | exact trivial | (with_reducible first | exact RnB.fxB (ints_fxB _) | rfl | refine And.intro ?_ ?_) | (with_reducible (first | refine RnB.bb ?_ | refine RnB.nb ?_);simp only [vcW,vZ,Int.reduceEq,Int.reduceNe,Int.reduceLT,Int.reduceLE,Nat.reduceEqDiff,Nat.reduceAdd,reduceIte,reduceCtorEq,Nat.reduceLT,Nat.reduceLeDiff,Nat.reduceShiftRight,Nat.reduceMod]) | (with_reducible first | refine RnB.ii ?_ | refine RnB.app ?_) | (with_reducible refine RnB.fxB ?_;simp only [vcW,vZ,Int.reduceEq,Int.reduceNe,Int.reduceLT,Int.reduceLE,Nat.reduceEqDiff,Nat.reduceAdd,reduceIte,reduceCtorEq,Nat.reduceLT,Nat.reduceLeDiff,Nat.reduceShiftRight,Nat.reduceMod]) | omega)
       ·simp only [vZ,Int.reduceEq,Int.reduceNe,Int.reduceLT,Int.reduceLE,Nat.reduceEqDiff,Nat.reduceAdd,reduceIte,reduceCtorEq,Nat.reduceLT,Nat.reduceLeDiff,Nat.reduceShiftRight,Nat.reduceMod]
        refine brB_split (fun h=>?_) (fun h=>?_)
        ·have hk':k<l.length:=by (simp only [decide_eq_true_eq,decide_eq_false_iff_not,Bool.not_true,I64,Bool.not_eq_true',Bool.not_eq_false',bne_iff_ne,beq_iff_eq,ne_eq] at *;omega)
         clear h
         have hb1:=hbd (k+1)
         have hrl:=hrow k
         clear hbd hrow
         have hlk:∃ z:Nat,z=a+(l[k]'hk').toNat:=exists_eq_nat _
         cases hlk with | intro q hq =>
         have hru:=row_upd ha' hk' l3 hN q hq
         have hq1:=hru.1
         have hq2:=hru.2.1
         have hrs:=hru.2.2
         clear hru
         rw [hrs] at hb1
         have hqn:q<(rowTo a v[a] (l.take k) (convTo v l a)).length:=hrl ▸ hq2
         have hset:=upd1_eq _ q (v[a]'ha') hqn
         have hent:=upd_I64 hqn hb1
         simp only [ints_get l k hk',hq1,vZ,Int.reduceEq,Int.reduceNe,Int.reduceLT,Int.reduceLE,Nat.reduceEqDiff,Nat.reduceAdd,reduceIte,reduceCtorEq,Nat.reduceLT,Nat.reduceLeDiff,Nat.reduceShiftRight,Nat.reduceMod]
         have hqN:I64 (q:Int):=by unfold I64;omega
         refine ⟨by omega,hqN,⟨by omega,by omega,by omega⟩,?_⟩
         simp only [ints_get _ q hqn,hent,ints_set',hset,vZ,Int.reduceEq,Int.reduceNe,Int.reduceLT,Int.reduceLE,Nat.reduceEqDiff,Nat.reduceAdd,reduceIte,reduceCtorEq,Nat.reduceLT,Nat.reduceLeDiff,Nat.reduceShiftRight,Nat.reduceMod]
         refine ⟨⟨by omega,by omega,by omega⟩,by unfold I64;omega,⟨⟨k+1,hk',trivial⟩,by simp only;omega,?_⟩⟩
         refine weakX [] (of_decide_eq_true rfl) (of_decide_eq_true rfl) ?_
         (simp only [hrs,vcW,vZ,Int.reduceEq,Int.reduceNe,Int.reduceLT,Int.reduceLE,Nat.reduceEqDiff,Nat.reduceAdd,reduceIte,reduceCtorEq,Nat.reduceLT,Nat.reduceLeDiff,Nat.reduceShiftRight,Nat.reduceMod])
         (repeat' first | exact trivial | (with_reducible first | exact RnB.fxB (ints_fxB _) | rfl | refine And.intro ?_ ?_) | (with_reducible (first | refine RnB.bb ?_ | refine RnB.nb ?_);simp only [vcW,vZ,Int.reduceEq,Int.reduceNe,Int.reduceLT,Int.reduceLE,Nat.reduceEqDiff,Nat.reduceAdd,reduceIte,reduceCtorEq,Nat.reduceLT,Nat.reduceLeDiff,Nat.reduceShiftRight,Nat.reduceMod]) | (with_reducible first | refine RnB.ii ?_ | refine RnB.app ?_) | (with_reducible refine RnB.fxB ?_;simp only [vcW,vZ,Int.reduceEq,Int.reduceNe,Int.reduceLT,Int.reduceLE,Nat.reduceEqDiff,Nat.reduceAdd,reduceIte,reduceCtorEq,Nat.reduceLT,Nat.reduceLeDiff,Nat.reduceShiftRight,Nat.reduceMod]) | omega)
         refine RnB.eq (by rw [ints_set,hset]) ?_
         rw [ints_set,hset];exact ints_fxB _
        ·have hkl:k=l.length:=by (simp only [decide_eq_true_eq,decide_eq_false_iff_not,Bool.not_true,I64,Bool.not_eq_true',Bool.not_eq_false',bne_iff_ne,beq_iff_eq,ne_eq] at *;omega)
         cases hkl
         simp only [vZ,Int.reduceEq,Int.reduceNe,Int.reduceLT,Int.reduceLE,Nat.reduceEqDiff,Nat.reduceAdd,reduceIte,reduceCtorEq,Nat.reduceLT,Nat.reduceLeDiff,Nat.reduceShiftRight,Nat.reduceMod]
         refine ⟨by unfold I64;omega,⟨⟨a+1,ha',trivial⟩,by simp only;omega,?_⟩⟩
         refine weakX [] (of_decide_eq_true rfl) (of_decide_eq_true rfl) ?_
         (simp only [hcs,List.take_length,vcW,vZ,Int.reduceEq,Int.reduceNe,Int.reduceLT,Int.reduceLE,Nat.reduceEqDiff,Nat.reduceAdd,reduceIte,reduceCtorEq,Nat.reduceLT,Nat.reduceLeDiff,Nat.reduceShiftRight,Nat.reduceMod])
         (repeat' first | exact trivial | (with_reducible first | exact RnB.fxB (ints_fxB _) | rfl | refine And.intro ?_ ?_) | (with_reducible (first | refine RnB.bb ?_ | refine RnB.nb ?_);simp only [vcW,vZ,Int.reduceEq,Int.reduceNe,Int.reduceLT,Int.reduceLE,Nat.reduceEqDiff,Nat.reduceAdd,reduceIte,reduceCtorEq,Nat.reduceLT,Nat.reduceLeDiff,Nat.reduceShiftRight,Nat.reduceMod]) | (with_reducible first | refine RnB.ii ?_ | refine RnB.app ?_) | (with_reducible refine RnB.fxB ?_;simp only [vcW,vZ,Int.reduceEq,Int.reduceNe,Int.reduceLT,Int.reduceLE,Nat.reduceEqDiff,Nat.reduceAdd,reduceIte,reduceCtorEq,Nat.reduceLT,Nat.reduceLeDiff,Nat.reduceShiftRight,Nat.reduceMod]) | omega)
      ·have hal:a=v.length:=by (simp only [decide_eq_true_eq,decide_eq_false_iff_not,Bool.not_true,I64,Bool.not_eq_true',Bool.not_eq_false',bne_iff_ne,beq_iff_eq,ne_eq] at *;omega)
       cases hal
       have hcl:(convTo v l v.length).length=N:=by rw [convTo_length,hN]
       simp only [vZ,Int.reduceEq,Int.reduceNe,Int.reduceLT,Int.reduceLE,Nat.reduceEqDiff,Nat.reduceAdd,reduceIte,reduceCtorEq,Nat.reduceLT,Nat.reduceLeDiff,Nat.reduceShiftRight,Nat.reduceMod]
       refine ⟨by unfold I64;omega,⟨⟨j+1,hj',trivial⟩,by simp only;omega,?_⟩⟩
       refine weakX [(100,some 101)] (of_decide_eq_true rfl) (of_decide_eq_true rfl) ?_
       (simp only [hsu,conv_all,hcl,vcW,vZ,Int.reduceEq,Int.reduceNe,Int.reduceLT,Int.reduceLE,Nat.reduceEqDiff,Nat.reduceAdd,reduceIte,reduceCtorEq,Nat.reduceLT,Nat.reduceLeDiff,Nat.reduceShiftRight,Nat.reduceMod])
       (repeat' first | exact trivial | (with_reducible first | exact RnB.fxB (ints_fxB _) | rfl | refine And.intro ?_ ?_) | (with_reducible (first | refine RnB.bb ?_ | refine RnB.nb ?_);simp only [vcW,vZ,Int.reduceEq,Int.reduceNe,Int.reduceLT,Int.reduceLE,Nat.reduceEqDiff,Nat.reduceAdd,reduceIte,reduceCtorEq,Nat.reduceLT,Nat.reduceLeDiff,Nat.reduceShiftRight,Nat.reduceMod]) | (with_reducible first | refine RnB.ii ?_ | refine RnB.app ?_) | (with_reducible refine RnB.fxB ?_;simp only [vcW,vZ,Int.reduceEq,Int.reduceNe,Int.reduceLT,Int.reduceLE,Nat.reduceEqDiff,Nat.reduceAdd,reduceIte,reduceCtorEq,Nat.reduceLT,Nat.reduceLeDiff,Nat.reduceShiftRight,Nat.reduceMod]) | omega)
    ·have hjs:j=s.length:=by (simp only [decide_eq_true_eq,decide_eq_false_iff_not,Bool.not_true,I64,Bool.not_eq_true',Bool.not_eq_false',bne_iff_ne,beq_iff_eq,ne_eq] at *;omega)
     cases hjs
     simp only [vZ,Int.reduceEq,Int.reduceNe,Int.reduceLT,Int.reduceLE,Nat.reduceEqDiff,Nat.reduceAdd,reduceIte,reduceCtorEq,Nat.reduceLT,Nat.reduceLeDiff,Nat.reduceShiftRight,Nat.reduceMod]
     refine ⟨by unfold I64;omega,⟨⟨i+1,h',trivial⟩,by simp only;omega,?_⟩⟩
     refine weakX [] (of_decide_eq_true rfl) (of_decide_eq_true rfl) ?_
     (simp only [bTo_succ,vcW,vZ,Int.reduceEq,Int.reduceNe,Int.reduceLT,Int.reduceLE,Nat.reduceEqDiff,Nat.reduceAdd,reduceIte,reduceCtorEq,Nat.reduceLT,Nat.reduceLeDiff,Nat.reduceShiftRight,Nat.reduceMod])
     (repeat' first | exact trivial | (with_reducible first | exact RnB.fxB (ints_fxB _) | rfl | refine And.intro ?_ ?_) | (with_reducible (first | refine RnB.bb ?_ | refine RnB.nb ?_);simp only [vcW,vZ,Int.reduceEq,Int.reduceNe,Int.reduceLT,Int.reduceLE,Nat.reduceEqDiff,Nat.reduceAdd,reduceIte,reduceCtorEq,Nat.reduceLT,Nat.reduceLeDiff,Nat.reduceShiftRight,Nat.reduceMod]) | (with_reducible first | refine RnB.ii ?_ | refine RnB.app ?_) | (with_reducible refine RnB.fxB ?_;simp only [vcW,vZ,Int.reduceEq,Int.reduceNe,Int.reduceLT,Int.reduceLE,Nat.reduceEqDiff,Nat.reduceAdd,reduceIte,reduceCtorEq,Nat.reduceLT,Nat.reduceLeDiff,Nat.reduceShiftRight,Nat.reduceMod]) | omega)
  ·have hib:i=b:=by (simp only [decide_eq_true_eq,decide_eq_false_iff_not,Bool.not_true,I64,Bool.not_eq_true',Bool.not_eq_false',bne_iff_ne,beq_iff_eq,ne_eq] at *;omega)
   cases hib
   simp only [vZ,Int.reduceEq,Int.reduceNe,Int.reduceLT,Int.reduceLE,Nat.reduceEqDiff,Nat.reduceAdd,reduceIte,reduceCtorEq,Nat.reduceLT,Nat.reduceLeDiff,Nat.reduceShiftRight,Nat.reduceMod]
   rw [borB_good _ _ _ _ _ (by simp [ints]) (ints_fx _)]
end Go.Proofs.YtpaklfjlbocfcaaGreatDoor

/- The reference's sums,in plain Lean. By an AI agent;nothing here is trusted. -/
namespace Go.Proofs.YtpaklfjlbocfcaaGreatDoor
open Go.Av

def colTo (v:List Int) (c:Int) (nx:List Int) (n:Nat):List Int:=(List.range n).foldl (fun nx a=>upd1 nx (a+c.toNat) (v.getD a 0)) nx
def colsTo (v l:List Int) (k:Nat):List Int:=(l.take k).foldl (fun nx c=>colTo v c nx v.length) (List.replicate (v.length+(mxL l).toNat) 0)
def mx0 (l:List Int) (k:Nat):Int:=(l.take k).foldl max 0
end Go.Proofs.YtpaklfjlbocfcaaGreatDoor

/- Contracts: the reference's sums. By an AI agent;nothing here is trusted. -/
namespace Go.Proofs.YtpaklfjlbocfcaaGreatDoor
open Go.Av

attribute [local irreducible] rowTo convTo conv bTo sTo upd1 mxL colTo colsTo mx0
end Go.Proofs.YtpaklfjlbocfcaaGreatDoor

/- Contracts: cases,ways. By an AI agent;nothing here is trusted. -/
namespace Go.Proofs.YtpaklfjlbocfcaaGreatDoor
open Go.Av

theorem drop_sum_succ (v:List Int) (k:Nat) (h:k<v.length):(v.drop k).sum=v[k]+(v.drop (k+1)).sum:=by rw [List.drop_eq_getElem_cons h,List.sum_cons]
theorem drop_sum_bound {v:List Int} (hv:∀ x ∈ v,0≤x) (k:Nat):0≤(v.drop k).sum∧(v.drop k).sum≤v.sum:=by
 have h1:=sum_nonneg (v:=v.drop k) fun x hx=>hv x (List.mem_of_mem_drop hx)
 have h2:=sum_nonneg (v:=v.take k) fun x hx=>hv x (List.mem_of_mem_take hx)
 have h:v.sum=(v.take k).sum+(v.drop k).sum:=by rw [← List.sum_append,List.take_append_drop]
 omega

def midSum (v:List Int) (at_ n:Nat):Int:=((v.drop at_).take n).sum
theorem midSum_succ (v:List Int) (a n:Nat) (h:a+n<v.length):midSum v a (n+1)=midSum v a n+v[a+n]:=by
 unfold midSum
 have h':n<(v.drop a).length:=by rw [List.length_drop];omega
 rw [List.take_succ_eq_append_getElem h',List.sum_append]
 simp
theorem midSum_bound {v:List Int} (hv:∀ x ∈ v,0≤x) (a n:Nat):0≤midSum v a n∧midSum v a n≤v.sum:=by
 have h1:=sum_take_le (v:=v.drop a) (fun x hx=>hv x (List.mem_of_mem_drop hx)) n
 have h2:=(drop_sum_bound hv a).2
 exact ⟨sum_nonneg fun x hx=>hv x (List.mem_of_mem_drop (List.mem_of_mem_take hx)),by unfold midSum;omega⟩
theorem midSum_all (v:List Int) (a n:Nat) (h:v.length≤a+n):midSum v a n=(v.drop a).sum:=by
 unfold midSum;rw [List.take_of_length_le (by rw [List.length_drop];omega)]

theorem from_s (v:List Int) (hv:∀ x ∈ v,0≤x) (hs:v.sum≤4000000000000000000) (hl:v.length<4000000000000000000) (a:Nat) (ha:a≤4000000000000000000) :
  Sound Tryz.prog 101 [.sl (ints v),.int .i64 a] (.int .i64 (v.drop a).sum):=by
 refine sound_W f_watch_from (Nat.le_of_ble_eq_true rfl) ?_
 simp only [c_watch_from,vZ,Int.reduceEq,Int.reduceNe,Int.reduceLT,Int.reduceLE,Nat.reduceEqDiff,Nat.reduceAdd,reduceIte,reduceCtorEq,Nat.reduceLT,Nat.reduceLeDiff,Nat.reduceShiftRight,Nat.reduceMod]
 have h0:midSum v a 0=0:=rfl
 refine W_loop (t:=.mk) (α:=PSigma fun i:Nat=>i≤(v.length - a)∧(True)) (fun ⟨i,_⟩=>((envOf [(0,.sl (ints v)),(5,.int .i64 (midSum v a i)),(6,.int .i64 ((a+i:Nat):Int))],stOf []))) (fun i=>(v.length - a) - i.1) ⟨0,Nat.zero_le _,?_⟩ ?_ (fun ⟨i,hi,hn⟩=>?_)
 ·trivial
 ·refine weakX [] (of_decide_eq_true rfl) (of_decide_eq_true rfl) ?_
  (simp only [h0,Nat.add_zero,vcW,vZ,Int.reduceEq,Int.reduceNe,Int.reduceLT,Int.reduceLE,Nat.reduceEqDiff,Nat.reduceAdd,reduceIte,reduceCtorEq,Nat.reduceLT,Nat.reduceLeDiff,Nat.reduceShiftRight,Nat.reduceMod])
  (repeat' first | exact trivial | (with_reducible first | exact RnB.fxB (ints_fxB _) | rfl | refine And.intro ?_ ?_) | (with_reducible (first | refine RnB.bb ?_ | refine RnB.nb ?_);simp only [vcW,vZ,Int.reduceEq,Int.reduceNe,Int.reduceLT,Int.reduceLE,Nat.reduceEqDiff,Nat.reduceAdd,reduceIte,reduceCtorEq,Nat.reduceLT,Nat.reduceLeDiff,Nat.reduceShiftRight,Nat.reduceMod]) | (with_reducible first | refine RnB.ii ?_ | refine RnB.app ?_) | (with_reducible refine RnB.fxB ?_;simp only [vcW,vZ,Int.reduceEq,Int.reduceNe,Int.reduceLT,Int.reduceLE,Nat.reduceEqDiff,Nat.reduceAdd,reduceIte,reduceCtorEq,Nat.reduceLT,Nat.reduceLeDiff,Nat.reduceShiftRight,Nat.reduceMod]) | omega)
 ·simp only [vZ,Int.reduceEq,Int.reduceNe,Int.reduceLT,Int.reduceLE,Nat.reduceEqDiff,Nat.reduceAdd,reduceIte,reduceCtorEq,Nat.reduceLT,Nat.reduceLeDiff,Nat.reduceShiftRight,Nat.reduceMod]
  refine brB_split (fun h=>?_) (fun h=>?_)
  ·have h':a+i<v.length:=by (simp only [decide_eq_true_eq,decide_eq_false_iff_not,Bool.not_true,I64,Bool.not_eq_true',Bool.not_eq_false',bne_iff_ne,beq_iff_eq,ne_eq] at *;omega)
   have hs:=midSum_succ v a i h'
   have b1:=midSum_bound hv a i
   have b2:=midSum_bound hv a (i+1)
   rw [hs] at b2
   simp only [ints_get v (a+i) h',vZ,Int.reduceEq,Int.reduceNe,Int.reduceLT,Int.reduceLE,Nat.reduceEqDiff,Nat.reduceAdd,reduceIte,reduceCtorEq,Nat.reduceLT,Nat.reduceLeDiff,Nat.reduceShiftRight,Nat.reduceMod]
   refine ⟨by omega,by unfold I64;omega,by unfold I64;omega,⟨⟨i+1,by omega,trivial⟩,by simp only;omega,?_⟩⟩
   refine weakX [] (of_decide_eq_true rfl) (of_decide_eq_true rfl) ?_
   (simp only [← Nat.add_assoc,hs,vcW,vZ,Int.reduceEq,Int.reduceNe,Int.reduceLT,Int.reduceLE,Nat.reduceEqDiff,Nat.reduceAdd,reduceIte,reduceCtorEq,Nat.reduceLT,Nat.reduceLeDiff,Nat.reduceShiftRight,Nat.reduceMod])
   (repeat' first | exact trivial | (with_reducible first | exact RnB.fxB (ints_fxB _) | rfl | refine And.intro ?_ ?_) | (with_reducible (first | refine RnB.bb ?_ | refine RnB.nb ?_);simp only [vcW,vZ,Int.reduceEq,Int.reduceNe,Int.reduceLT,Int.reduceLE,Nat.reduceEqDiff,Nat.reduceAdd,reduceIte,reduceCtorEq,Nat.reduceLT,Nat.reduceLeDiff,Nat.reduceShiftRight,Nat.reduceMod]) | (with_reducible first | refine RnB.ii ?_ | refine RnB.app ?_) | (with_reducible refine RnB.fxB ?_;simp only [vcW,vZ,Int.reduceEq,Int.reduceNe,Int.reduceLT,Int.reduceLE,Nat.reduceEqDiff,Nat.reduceAdd,reduceIte,reduceCtorEq,Nat.reduceLT,Nat.reduceLeDiff,Nat.reduceShiftRight,Nat.reduceMod]) | omega)
  ·simp only [vZ,Int.reduceEq,Int.reduceNe,Int.reduceLT,Int.reduceLE,Nat.reduceEqDiff,Nat.reduceAdd,reduceIte,reduceCtorEq,Nat.reduceLT,Nat.reduceLeDiff,Nat.reduceShiftRight,Nat.reduceMod]
   rw [midSum_all v a i (by (simp only [decide_eq_true_eq,decide_eq_false_iff_not,Bool.not_true,I64,Bool.not_eq_true',Bool.not_eq_false',bne_iff_ne,beq_iff_eq,ne_eq] at *;omega))]
end Go.Proofs.YtpaklfjlbocfcaaGreatDoor

/- Contracts: cases,ways,thresholds of a sky. By an AI agent;nothing here is trusted. -/
namespace Go.Proofs.YtpaklfjlbocfcaaGreatDoor
open Go.Av

def skyBE (s:List (List Int)) (bins:Int):Int:=if (skyE s).2 ≠ 0 then (skyE s).2 else binsE bins
theorem skyBE_ok {s:List (List Int)} {bins:Int} (h:skyBE s bins=0):skyOk s∧1≤bins∧bins≤3:=by
 unfold skyBE at h
 by_cases h1:(skyE s).2=0
 ·rw [if_neg (by simpa using h1)] at h
  refine ⟨skyE_ok h1,?_⟩
  unfold binsE at h
  by_cases h2:1≤bins∧bins≤3
  ·exact h2
  ·rw [if_neg h2] at h;omega
 ·rw [if_pos h1] at h;exact absurd h h1
theorem bTo_facts {s:List (List Int)} (hs:skyOk s) {b:Nat} (hb:b≤3):(∀ x ∈ bTo s b,0≤x)∧(bTo s b).sum≤101559956668416∧(bTo s b).length≤18001∧0<(bTo s b).length:=by
 have h:=(Vok_b hs b).mono (show 6 * b≤18 by omega)
 exact ⟨h.nn,h.sum,by have:=h.le;omega,h.pos⟩

def thrE (n:Int):Int:=if 0≤n∧n≤100000 then 0 else 2
def skyTE (s:List (List Int)) (bins n:Int):Int:=if skyBE s bins ≠ 0 then skyBE s bins else thrE n
def thr (v:List Int) (per:Int):Nat→Nat
 | 0=>0
 | k+1=>if 1000 * (v.drop k).sum≤per * v.sum then thr v per k else k+1
def riskE (s:List (List Int)) (bins per:Int):Int:=if skyBE s bins ≠ 0 then skyBE s bins else if 0≤per∧per≤1000 then 0 else 2
theorem riskE_ok {s:List (List Int)} {bins per:Int} (hE:riskE s bins per=0):skyBE s bins=0∧0≤per∧per≤1000:=by
 unfold riskE at hE
 by_cases hB:skyBE s bins=0
 ·rw [if_neg (by simpa using hB)] at hE
  by_cases hT:0≤per∧per≤1000
  ·exact ⟨hB,hT⟩
  ·rw [if_neg hT] at hE;omega
 ·rw [if_pos hB] at hE;exact absurd hE hB
theorem ThresholdFor_s (s:List (List Int)) (bins per:Int) (hs:s.length<4000000000000000000) (hl:∀ l ∈ s,l.length<4000000000000000000) :
  Sound Tryz.prog 41 [skyA s,.int .i64 bins,.int .i64 per] (.tup [.int .i64 (if riskE s bins per=0 then ((thr (bTo s bins.toNat) per (bTo s bins.toNat).length:Nat):Int) else 0),.int .i64 (riskE s bins per)]):=by
 refine sound_W f_watch_ThresholdFor (Nat.le_of_ble_eq_true rfl) ?_
 simp only [c_watch_ThresholdFor,skyA,vZ,Int.reduceEq,Int.reduceNe,Int.reduceLT,Int.reduceLE,Nat.reduceEqDiff,Nat.reduceAdd,reduceIte,reduceCtorEq,Nat.reduceLT,Nat.reduceLeDiff,Nat.reduceShiftRight,Nat.reduceMod]
 refine callS_of (binsErr_s s bins hs hl) ?_
 simp only [vZ,Int.reduceEq,Int.reduceNe,Int.reduceLT,Int.reduceLE,Nat.reduceEqDiff,Nat.reduceAdd,reduceIte,reduceCtorEq,Nat.reduceLT,Nat.reduceLeDiff,Nat.reduceShiftRight,Nat.reduceMod]
 refine callS_of (within_s _ _ _) ?_
 simp only [vZ,Int.reduceEq,Int.reduceNe,Int.reduceLT,Int.reduceLE,Nat.reduceEqDiff,Nat.reduceAdd,reduceIte,reduceCtorEq,Nat.reduceLT,Nat.reduceLeDiff,Nat.reduceShiftRight,Nat.reduceMod]
 refine callS_of (unless_s _ _) ?_
 simp only [vZ,Int.reduceEq,Int.reduceNe,Int.reduceLT,Int.reduceLE,Nat.reduceEqDiff,Nat.reduceAdd,reduceIte,reduceCtorEq,Nat.reduceLT,Nat.reduceLeDiff,Nat.reduceShiftRight,Nat.reduceMod]
 refine callS_of (first2_s _ _) ?_
 simp only [vZ,Int.reduceEq,Int.reduceNe,Int.reduceLT,Int.reduceLE,Nat.reduceEqDiff,Nat.reduceAdd,reduceIte,reduceCtorEq,Nat.reduceLT,Nat.reduceLeDiff,Nat.reduceShiftRight,Nat.reduceMod]
 rw [show (if (skyE s).2 ≠ 0 then (skyE s).2 else binsE bins)=skyBE s bins from rfl,show (if decide (0≤per∧per≤1000)=true then (0:Int) else 2)=(if 0≤per∧per≤1000 then 0 else 2) by simp only [decide_eq_true_eq],show (if skyBE s bins ≠ 0 then skyBE s bins else if 0≤per∧per≤1000 then 0 else 2)=riskE s bins per from rfl]
 by_cases hE:riskE s bins per=0
 case neg=>simp only [hE,vZ,Int.reduceEq,Int.reduceNe,Int.reduceLT,Int.reduceLE,Nat.reduceEqDiff,Nat.reduceAdd,reduceIte,reduceCtorEq,Nat.reduceLT,Nat.reduceLeDiff,Nat.reduceShiftRight,Nat.reduceMod]
 obtain ⟨hB,p1,p2⟩:=riskE_ok hE
 obtain ⟨hok,b1,b2⟩:=skyBE_ok hB
 obtain ⟨b,hb⟩:∃ b:Nat,bins=(b:Int):=⟨bins.toNat,by omega⟩
 subst hb
 obtain ⟨f1,f2,f3,f4⟩:=bTo_facts hok (show b≤3 by omega)
 simp only [hE,vZ,Int.reduceEq,Int.reduceNe,Int.reduceLT,Int.reduceLE,Nat.reduceEqDiff,Nat.reduceAdd,reduceIte,reduceCtorEq,Nat.reduceLT,Nat.reduceLeDiff,Nat.reduceShiftRight,Nat.reduceMod]
 refine callS_of (sums_s s hok b (by omega)) ?_
 rw [show (b:Int).toNat=b from rfl]
 have hdb:=fun k=>drop_sum_bound f1 k
 have hds:=fun k h=>drop_sum_succ (bTo s b) k h
 generalize bTo s b=v at *
 simp only [vZ,Int.reduceEq,Int.reduceNe,Int.reduceLT,Int.reduceLE,Nat.reduceEqDiff,Nat.reduceAdd,reduceIte,reduceCtorEq,Nat.reduceLT,Nat.reduceLeDiff,Nat.reduceShiftRight,Nat.reduceMod]
 refine callS_of (from_s v f1 (by omega) (by omega) 0 (by omega)) ?_
 simp only [List.drop_zero,vZ,Int.reduceEq,Int.reduceNe,Int.reduceLT,Int.reduceLE,Nat.reduceEqDiff,Nat.reduceAdd,reduceIte,reduceCtorEq,Nat.reduceLT,Nat.reduceLeDiff,Nat.reduceShiftRight,Nat.reduceMod]
 have hpt:=mul_bound p1 p2 (hdb 0).1 (hdb 0).2
 rw [List.drop_zero] at hpt
 refine W_loop (t:=.mk) (α:=PSigma fun k:Nat=>k≤v.length∧thr v per k=thr v per v.length) (fun ⟨k,_⟩=>(envOf [(2,.int .i64 per),(9,.sl (ints v)),(10,.int .i64 v.sum),(11,.int .i64 k),(12,.int .i64 (v.drop k).sum)],stOf [])) (fun k=>k.1) ⟨v.length,Nat.le_refl _,rfl⟩ ?_ (fun ⟨k,hk,hn⟩=>?_)
 ·have h0:(v.drop v.length).sum=0:=by simp
  refine weakX [] (of_decide_eq_true rfl) (of_decide_eq_true rfl) ?_
  (simp only [h0,vcW,vZ,Int.reduceEq,Int.reduceNe,Int.reduceLT,Int.reduceLE,Nat.reduceEqDiff,Nat.reduceAdd,reduceIte,reduceCtorEq,Nat.reduceLT,Nat.reduceLeDiff,Nat.reduceShiftRight,Nat.reduceMod])
  (repeat' first | exact trivial | (with_reducible first | exact RnB.fxB (ints_fxB _) | rfl | refine And.intro ?_ ?_) | (with_reducible (first | refine RnB.bb ?_ | refine RnB.nb ?_);simp only [vcW,vZ,Int.reduceEq,Int.reduceNe,Int.reduceLT,Int.reduceLE,Nat.reduceEqDiff,Nat.reduceAdd,reduceIte,reduceCtorEq,Nat.reduceLT,Nat.reduceLeDiff,Nat.reduceShiftRight,Nat.reduceMod]) | (with_reducible first | refine RnB.ii ?_ | refine RnB.app ?_) | (with_reducible refine RnB.fxB ?_;simp only [vcW,vZ,Int.reduceEq,Int.reduceNe,Int.reduceLT,Int.reduceLE,Nat.reduceEqDiff,Nat.reduceAdd,reduceIte,reduceCtorEq,Nat.reduceLT,Nat.reduceLeDiff,Nat.reduceShiftRight,Nat.reduceMod]) | omega)
 ·cases k with
  | zero =>
   have hz:¬ (0:Int)<((0:Nat):Int):=by omega
   simp only [hz,hE,vZ,Int.reduceEq,Int.reduceNe,Int.reduceLT,Int.reduceLE,Nat.reduceEqDiff,Nat.reduceAdd,reduceIte,reduceCtorEq,Nat.reduceLT,Nat.reduceLeDiff,Nat.reduceShiftRight,Nat.reduceMod]
   rw [← hn];rfl
  | succ k =>
   have hk2:((k+1:Nat):Int) - 1=(k:Int):=by omega
   have hk3:(0:Int)<((k+1:Nat):Int):=by omega
   have hkv:k<v.length:=by omega
   have d1:=hdb k
   have d2:=hdb (k+1)
   have d3:=hds k hkv
   have d4:(v.drop (k+1)).sum+v[k]=(v.drop k).sum:=by omega
   have d5:v[k]+(v.drop (k+1)).sum=(v.drop k).sum:=by omega
   have hth:thr v per (k+1)=if 1000 * (v.drop k).sum≤per * v.sum then thr v per k else k+1:=rfl
   rw [hth] at hn
   by_cases hc:1000 * (v.drop k).sum≤per * v.sum
   ·rw [if_pos hc] at hn
    simp only [hk3,hk2,ints_get v k hkv,d4,vZ,Int.reduceEq,Int.reduceNe,Int.reduceLT,Int.reduceLE,Nat.reduceEqDiff,Nat.reduceAdd,reduceIte,reduceCtorEq,Nat.reduceLT,Nat.reduceLeDiff,Nat.reduceShiftRight,Nat.reduceMod]
    refine ⟨by unfold I64;omega,by omega,by unfold I64;omega,by unfold I64;omega,by unfold I64;omega,?_⟩
    simp only [hc,hk2,ints_get v k hkv,d4,hE,vZ,Int.reduceEq,Int.reduceNe,Int.reduceLT,Int.reduceLE,Nat.reduceEqDiff,Nat.reduceAdd,reduceIte,reduceCtorEq,Nat.reduceLT,Nat.reduceLeDiff,Nat.reduceShiftRight,Nat.reduceMod]
    refine ⟨by unfold I64;omega,by omega,by unfold I64;omega,⟨⟨k,by omega,hn⟩,by simp only;omega,?_⟩⟩
    refine weakX [] (of_decide_eq_true rfl) (of_decide_eq_true rfl) ?_
    (simp only [vcW,vZ,Int.reduceEq,Int.reduceNe,Int.reduceLT,Int.reduceLE,Nat.reduceEqDiff,Nat.reduceAdd,reduceIte,reduceCtorEq,Nat.reduceLT,Nat.reduceLeDiff,Nat.reduceShiftRight,Nat.reduceMod])
    (repeat' first | exact trivial | (with_reducible first | exact RnB.fxB (ints_fxB _) | rfl | refine And.intro ?_ ?_) | (with_reducible (first | refine RnB.bb ?_ | refine RnB.nb ?_);simp only [vcW,vZ,Int.reduceEq,Int.reduceNe,Int.reduceLT,Int.reduceLE,Nat.reduceEqDiff,Nat.reduceAdd,reduceIte,reduceCtorEq,Nat.reduceLT,Nat.reduceLeDiff,Nat.reduceShiftRight,Nat.reduceMod]) | (with_reducible first | refine RnB.ii ?_ | refine RnB.app ?_) | (with_reducible refine RnB.fxB ?_;simp only [vcW,vZ,Int.reduceEq,Int.reduceNe,Int.reduceLT,Int.reduceLE,Nat.reduceEqDiff,Nat.reduceAdd,reduceIte,reduceCtorEq,Nat.reduceLT,Nat.reduceLeDiff,Nat.reduceShiftRight,Nat.reduceMod]) | omega)
   ·rw [if_neg hc] at hn
    simp only [hk3,hk2,ints_get v k hkv,d4,vZ,Int.reduceEq,Int.reduceNe,Int.reduceLT,Int.reduceLE,Nat.reduceEqDiff,Nat.reduceAdd,reduceIte,reduceCtorEq,Nat.reduceLT,Nat.reduceLeDiff,Nat.reduceShiftRight,Nat.reduceMod]
    refine ⟨by unfold I64;omega,by omega,by unfold I64;omega,by unfold I64;omega,by unfold I64;omega,?_⟩
    simp only [hc,hk2,ints_get v k hkv,d4,hE,vZ,Int.reduceEq,Int.reduceNe,Int.reduceLT,Int.reduceLE,Nat.reduceEqDiff,Nat.reduceAdd,reduceIte,reduceCtorEq,Nat.reduceLT,Nat.reduceLeDiff,Nat.reduceShiftRight,Nat.reduceMod]
    rw [← hn]
end Go.Proofs.YtpaklfjlbocfcaaGreatDoor

/- Contracts: what the law of counted skies asks. By an AI agent;nothing here is trusted. -/
namespace Go.Proofs.YtpaklfjlbocfcaaGreatDoor
open Go.Av

end Go.Proofs.YtpaklfjlbocfcaaGreatDoor

/- Contracts: the reference's checks of skies. By an AI agent;nothing here is trusted. -/
namespace Go.Proofs.YtpaklfjlbocfcaaGreatDoor
open Go.Av

theorem BinsErr_s (bins:Int):Sound Tryz.prog 39 [.int .i64 bins] (.int .i64 (binsE bins)):=by
 refine sound_W f_ref08_BinsErr (Nat.le_of_ble_eq_true rfl) ?_
 simp only [c_ref08_BinsErr,vZ,Int.reduceEq,Int.reduceNe,Int.reduceLT,Int.reduceLE,Nat.reduceEqDiff,Nat.reduceAdd,reduceIte,reduceCtorEq,Nat.reduceLT,Nat.reduceLeDiff,Nat.reduceShiftRight,Nat.reduceMod]
 refine callS_of (Within_s _ _ _) ?_
 unfold binsE
 by_cases h:1≤bins∧bins≤3
 ·simp only [h,vZ,Int.reduceEq,Int.reduceNe,Int.reduceLT,Int.reduceLE,Nat.reduceEqDiff,Nat.reduceAdd,reduceIte,reduceCtorEq,Nat.reduceLT,Nat.reduceLeDiff,Nat.reduceShiftRight,Nat.reduceMod]
 ·simp only [h,vZ,Int.reduceEq,Int.reduceNe,Int.reduceLT,Int.reduceLE,Nat.reduceEqDiff,Nat.reduceAdd,reduceIte,reduceCtorEq,Nat.reduceLT,Nat.reduceLeDiff,Nat.reduceShiftRight,Nat.reduceMod]

def okTo (l:List Int) (k:Nat):Prop:=∀ c ∈ l.take k,0≤c∧c≤1000
theorem okTo_succ {l:List Int} {k:Nat} (h:k<l.length) (hk:okTo l k) (hc:0≤l[k]∧l[k]≤1000):okTo l (k+1):=by
 unfold okTo
 rw [List.take_succ_eq_append_getElem h]
 intro x hx
 rcases List.mem_append.1 hx with e | e
 ·exact hk x e
 ·simp at e;rw [e];exact hc
theorem sensE_all {l:List Int} (h1:l.length ≠ 0) (h2:¬ 6<l.length) (h:okTo l l.length):sensE l=0:=by
 unfold sensE okTo at *
 rw [List.take_length] at h
 rw [if_neg h1,if_neg h2,if_pos (by simpa using h)]
theorem sensE_bad {l:List Int} (h1:l.length ≠ 0) (h2:¬ 6<l.length) {k:Nat} (hk:k<l.length) (h:¬ (0≤l[k]∧l[k]≤1000)):sensE l=2:=by
 unfold sensE
 rw [if_neg h1,if_neg h2,if_neg]
 intro hc
 rw [List.all_eq_true] at hc
 exact h (by simpa using hc _ (List.getElem_mem hk))

set_option maxHeartbeats 4000000 in
theorem refCheckSky_s (s:List (List Int)) (hs:s.length<4000000000000000000) (hl:∀ l ∈ s,l.length<4000000000000000000) :
  Sound Tryz.prog 86 [skyA s] (.tup [.int .i64 (skyE s).1,.int .i64 (skyE s).2]):=by
 refine sound_W f_ref08_CheckSky (Nat.le_of_ble_eq_true rfl) ?_
 by_cases h0:s.length=0
 ·have e:skyE s=(0,10):=by unfold skyE;rw [if_pos h0]
  have h0':(s.length:Int)=0:=by omega
  simp only [c_ref08_CheckSky,skyA,skyL_length,h0',e,vZ,Int.reduceEq,Int.reduceNe,Int.reduceLT,Int.reduceLE,Nat.reduceEqDiff,Nat.reduceAdd,reduceIte,reduceCtorEq,Nat.reduceLT,Nat.reduceLeDiff,Nat.reduceShiftRight,Nat.reduceMod]
  rfl
 by_cases h6:6<s.length
 ·have e:skyE s=(0,8):=by unfold skyE;rw [if_neg h0,if_pos h6]
  have h0':¬ (s.length:Int)=0:=by omega
  have h6':(6:Int)<s.length:=by omega
  simp only [c_ref08_CheckSky,skyA,skyL_length,h0',h6',e,vZ,Int.reduceEq,Int.reduceNe,Int.reduceLT,Int.reduceLE,Nat.reduceEqDiff,Nat.reduceAdd,reduceIte,reduceCtorEq,Nat.reduceLT,Nat.reduceLeDiff,Nat.reduceShiftRight,Nat.reduceMod]
  rfl
 have e:skyE s=skyI s 0:=by unfold skyE;rw [if_neg h0,if_neg h6]
 have h0':¬ (s.length:Int)=0:=by omega
 have h6':¬ (6:Int)<s.length:=by omega
 rw [e]
 simp only [c_ref08_CheckSky,skyA,skyL_length,h0',h6',vZ,Int.reduceEq,Int.reduceNe,Int.reduceLT,Int.reduceLE,Nat.reduceEqDiff,Nat.reduceAdd,reduceIte,reduceCtorEq,Nat.reduceLT,Nat.reduceLeDiff,Nat.reduceShiftRight,Nat.reduceMod]
 refine W_loop (t:=.mk) (α:=PSigma fun i:Nat=>i≤s.length∧(∀ l ∈ s.take i,sensE l=0)) (fun ⟨i,_⟩=>((envOf [(1,.ptr 1 0 0),(4,.int .i64 i)],stOf [(1,⟨26,1,[.agg [.sl (skyL s)]]⟩)]))) (fun i=>s.length - i.1) ⟨0,Nat.zero_le _,?_⟩ ?_ (fun ⟨i,hi,hn⟩=>?_)
 ·simp
 ·refine weakX [] (of_decide_eq_true rfl) (of_decide_eq_true rfl) ?_
  (simp only [vcW,vZ,Int.reduceEq,Int.reduceNe,Int.reduceLT,Int.reduceLE,Nat.reduceEqDiff,Nat.reduceAdd,reduceIte,reduceCtorEq,Nat.reduceLT,Nat.reduceLeDiff,Nat.reduceShiftRight,Nat.reduceMod])
  (repeat' first | exact trivial | (with_reducible first | exact RnB.fxB (ints_fxB _) | rfl | refine And.intro ?_ ?_) | (with_reducible (first | refine RnB.bb ?_ | refine RnB.nb ?_);simp only [vcW,vZ,Int.reduceEq,Int.reduceNe,Int.reduceLT,Int.reduceLE,Nat.reduceEqDiff,Nat.reduceAdd,reduceIte,reduceCtorEq,Nat.reduceLT,Nat.reduceLeDiff,Nat.reduceShiftRight,Nat.reduceMod]) | (with_reducible first | refine RnB.ii ?_ | refine RnB.app ?_) | (with_reducible refine RnB.fxB ?_;simp only [vcW,vZ,Int.reduceEq,Int.reduceNe,Int.reduceLT,Int.reduceLE,Nat.reduceEqDiff,Nat.reduceAdd,reduceIte,reduceCtorEq,Nat.reduceLT,Nat.reduceLeDiff,Nat.reduceShiftRight,Nat.reduceMod]) | omega)
 ·simp only [skyL_length,vZ,Int.reduceEq,Int.reduceNe,Int.reduceLT,Int.reduceLE,Nat.reduceEqDiff,Nat.reduceAdd,reduceIte,reduceCtorEq,Nat.reduceLT,Nat.reduceLeDiff,Nat.reduceShiftRight,Nat.reduceMod]
  refine brB_split (fun h=>?_) (fun h=>?_)
  ·have h':i<s.length:=by (simp only [decide_eq_true_eq,decide_eq_false_iff_not,Bool.not_true,I64,Bool.not_eq_true',Bool.not_eq_false',bne_iff_ne,beq_iff_eq,ne_eq] at *;omega)
   clear h
   have hat:skyI s 0=if sensE s[i] ≠ 0 then (i,sensE s[i]) else skyI (s.drop (i+1)) (i+1):=by
    rw [skyI_at s i 0 hn hi,List.drop_eq_getElem_cons h',skyI];simp
   have hlen:=hl _ (List.getElem_mem h')
   have hnx:sensE s[i]=0→∀ l ∈ s.take (i+1),sensE l=0:=by
    intro hz x hx
    rw [List.take_succ_eq_append_getElem h'] at hx
    rcases List.mem_append.1 hx with q | q
    ·exact hn x q
    ·simp at q;rw [q];exact hz
   have hg:=skyL_get s i h'
   generalize s[i]=l at *
   by_cases l0:l.length=0
   ·have hz:sensE l=10:=by unfold sensE;rw [if_pos l0]
    rw [hz] at hat
    have l0':(l.length:Int)=0:=by omega
    rw [if_pos (by omega)] at hat
    simp only [hg,ints_length,l0',hat,vZ,Int.reduceEq,Int.reduceNe,Int.reduceLT,Int.reduceLE,Nat.reduceEqDiff,Nat.reduceAdd,reduceIte,reduceCtorEq,Nat.reduceLT,Nat.reduceLeDiff,Nat.reduceShiftRight,Nat.reduceMod]
    omega
   by_cases l6:6<l.length
   ·have hz:sensE l=8:=by unfold sensE;rw [if_neg l0,if_pos l6]
    rw [hz] at hat
    have l0':¬ (l.length:Int)=0:=by omega
    have l6':(6:Int)<l.length:=by omega
    rw [if_pos (by omega)] at hat
    simp only [hg,ints_length,l0',l6',hat,vZ,Int.reduceEq,Int.reduceNe,Int.reduceLT,Int.reduceLE,Nat.reduceEqDiff,Nat.reduceAdd,reduceIte,reduceCtorEq,Nat.reduceLT,Nat.reduceLeDiff,Nat.reduceShiftRight,Nat.reduceMod]
    exact ⟨by omega,by omega⟩
   have l0':¬ (l.length:Int)=0:=by omega
   have l6':¬ (6:Int)<l.length:=by omega
   simp only [hg,ints_length,l0',l6',vZ,Int.reduceEq,Int.reduceNe,Int.reduceLT,Int.reduceLE,Nat.reduceEqDiff,Nat.reduceAdd,reduceIte,reduceCtorEq,Nat.reduceLT,Nat.reduceLeDiff,Nat.reduceShiftRight,Nat.reduceMod]
   refine ⟨by omega,by omega,?_⟩
   refine W_loop (t:=.mk) (α:=PSigma fun k:Nat=>k≤l.length∧okTo l k) (fun ⟨k,_⟩=>(envOf [(1,.ptr 1 0 0),(4,.int .i64 i),(5,.int .i64 k)],stOf [(1,⟨26,1,[.agg [.sl (skyL s)]]⟩)])) (fun k=>l.length - k.1) ⟨0,Nat.zero_le _,by unfold okTo;simp⟩ ?_ (fun ⟨k,hk,ho⟩=>?_)
   ·refine weakX [] (of_decide_eq_true rfl) (of_decide_eq_true rfl) ?_
    (simp only [vcW,vZ,Int.reduceEq,Int.reduceNe,Int.reduceLT,Int.reduceLE,Nat.reduceEqDiff,Nat.reduceAdd,reduceIte,reduceCtorEq,Nat.reduceLT,Nat.reduceLeDiff,Nat.reduceShiftRight,Nat.reduceMod])
    (repeat' first | exact trivial | (with_reducible first | exact RnB.fxB (ints_fxB _) | rfl | refine And.intro ?_ ?_) | (with_reducible (first | refine RnB.bb ?_ | refine RnB.nb ?_);simp only [vcW,vZ,Int.reduceEq,Int.reduceNe,Int.reduceLT,Int.reduceLE,Nat.reduceEqDiff,Nat.reduceAdd,reduceIte,reduceCtorEq,Nat.reduceLT,Nat.reduceLeDiff,Nat.reduceShiftRight,Nat.reduceMod]) | (with_reducible first | refine RnB.ii ?_ | refine RnB.app ?_) | (with_reducible refine RnB.fxB ?_;simp only [vcW,vZ,Int.reduceEq,Int.reduceNe,Int.reduceLT,Int.reduceLE,Nat.reduceEqDiff,Nat.reduceAdd,reduceIte,reduceCtorEq,Nat.reduceLT,Nat.reduceLeDiff,Nat.reduceShiftRight,Nat.reduceMod]) | omega)
   ·simp only [hg,ints_length,vZ,Int.reduceEq,Int.reduceNe,Int.reduceLT,Int.reduceLE,Nat.reduceEqDiff,Nat.reduceAdd,reduceIte,reduceCtorEq,Nat.reduceLT,Nat.reduceLeDiff,Nat.reduceShiftRight,Nat.reduceMod]
    refine ⟨by omega,?_⟩
    refine brB_split (fun h=>?_) (fun h=>?_)
    ·have hk':k<l.length:=by (simp only [decide_eq_true_eq,decide_eq_false_iff_not,Bool.not_true,I64,Bool.not_eq_true',Bool.not_eq_false',bne_iff_ne,beq_iff_eq,ne_eq] at *;omega)
     clear h
     simp only [hg,ints_get l k hk',vZ,Int.reduceEq,Int.reduceNe,Int.reduceLT,Int.reduceLE,Nat.reduceEqDiff,Nat.reduceAdd,reduceIte,reduceCtorEq,Nat.reduceLT,Nat.reduceLeDiff,Nat.reduceShiftRight,Nat.reduceMod]
     refine ⟨by omega,by omega,?_⟩
     refine callS_of (Within_s _ _ _) ?_
     by_cases hc:0≤l[k]∧l[k]≤1000
     ·simp only [hc,vZ,Int.reduceEq,Int.reduceNe,Int.reduceLT,Int.reduceLE,Nat.reduceEqDiff,Nat.reduceAdd,reduceIte,reduceCtorEq,Nat.reduceLT,Nat.reduceLeDiff,Nat.reduceShiftRight,Nat.reduceMod]
      refine ⟨by unfold I64;omega,⟨⟨k+1,hk',okTo_succ hk' ho hc⟩,by simp only;omega,?_⟩⟩
      refine weakX [] (of_decide_eq_true rfl) (of_decide_eq_true rfl) ?_
      (simp only [vcW,vZ,Int.reduceEq,Int.reduceNe,Int.reduceLT,Int.reduceLE,Nat.reduceEqDiff,Nat.reduceAdd,reduceIte,reduceCtorEq,Nat.reduceLT,Nat.reduceLeDiff,Nat.reduceShiftRight,Nat.reduceMod])
      (repeat' first | exact trivial | (with_reducible first | exact RnB.fxB (ints_fxB _) | rfl | refine And.intro ?_ ?_) | (with_reducible (first | refine RnB.bb ?_ | refine RnB.nb ?_);simp only [vcW,vZ,Int.reduceEq,Int.reduceNe,Int.reduceLT,Int.reduceLE,Nat.reduceEqDiff,Nat.reduceAdd,reduceIte,reduceCtorEq,Nat.reduceLT,Nat.reduceLeDiff,Nat.reduceShiftRight,Nat.reduceMod]) | (with_reducible first | refine RnB.ii ?_ | refine RnB.app ?_) | (with_reducible refine RnB.fxB ?_;simp only [vcW,vZ,Int.reduceEq,Int.reduceNe,Int.reduceLT,Int.reduceLE,Nat.reduceEqDiff,Nat.reduceAdd,reduceIte,reduceCtorEq,Nat.reduceLT,Nat.reduceLeDiff,Nat.reduceShiftRight,Nat.reduceMod]) | omega)
     ·have hz:=sensE_bad l0 l6 hk' hc
      rw [hz] at hat
      rw [if_pos (by omega)] at hat
      simp only [hc,hat,vZ,Int.reduceEq,Int.reduceNe,Int.reduceLT,Int.reduceLE,Nat.reduceEqDiff,Nat.reduceAdd,reduceIte,reduceCtorEq,Nat.reduceLT,Nat.reduceLeDiff,Nat.reduceShiftRight,Nat.reduceMod]
    ·have hkl:k=l.length:=by (simp only [decide_eq_true_eq,decide_eq_false_iff_not,Bool.not_true,I64,Bool.not_eq_true',Bool.not_eq_false',bne_iff_ne,beq_iff_eq,ne_eq] at *;omega)
     cases hkl
     have hz:=sensE_all l0 l6 ho
     simp only [vZ,Int.reduceEq,Int.reduceNe,Int.reduceLT,Int.reduceLE,Nat.reduceEqDiff,Nat.reduceAdd,reduceIte,reduceCtorEq,Nat.reduceLT,Nat.reduceLeDiff,Nat.reduceShiftRight,Nat.reduceMod]
     refine ⟨by unfold I64;omega,⟨⟨i+1,h',hnx hz⟩,by simp only;omega,?_⟩⟩
     refine weakX [] (of_decide_eq_true rfl) (of_decide_eq_true rfl) ?_
     (simp only [vcW,vZ,Int.reduceEq,Int.reduceNe,Int.reduceLT,Int.reduceLE,Nat.reduceEqDiff,Nat.reduceAdd,reduceIte,reduceCtorEq,Nat.reduceLT,Nat.reduceLeDiff,Nat.reduceShiftRight,Nat.reduceMod])
     (repeat' first | exact trivial | (with_reducible first | exact RnB.fxB (ints_fxB _) | rfl | refine And.intro ?_ ?_) | (with_reducible (first | refine RnB.bb ?_ | refine RnB.nb ?_);simp only [vcW,vZ,Int.reduceEq,Int.reduceNe,Int.reduceLT,Int.reduceLE,Nat.reduceEqDiff,Nat.reduceAdd,reduceIte,reduceCtorEq,Nat.reduceLT,Nat.reduceLeDiff,Nat.reduceShiftRight,Nat.reduceMod]) | (with_reducible first | refine RnB.ii ?_ | refine RnB.app ?_) | (with_reducible refine RnB.fxB ?_;simp only [vcW,vZ,Int.reduceEq,Int.reduceNe,Int.reduceLT,Int.reduceLE,Nat.reduceEqDiff,Nat.reduceAdd,reduceIte,reduceCtorEq,Nat.reduceLT,Nat.reduceLeDiff,Nat.reduceShiftRight,Nat.reduceMod]) | omega)
  ·have hi':i=s.length:=by (simp only [decide_eq_true_eq,decide_eq_false_iff_not,Bool.not_true,I64,Bool.not_eq_true',Bool.not_eq_false',bne_iff_ne,beq_iff_eq,ne_eq] at *;omega)
   cases hi'
   simp only [vZ,Int.reduceEq,Int.reduceNe,Int.reduceLT,Int.reduceLE,Nat.reduceEqDiff,Nat.reduceAdd,reduceIte,reduceCtorEq,Nat.reduceLT,Nat.reduceLeDiff,Nat.reduceShiftRight,Nat.reduceMod]
   rw [skyI_at s s.length 0 hn (Nat.le_refl _)]
   simp [skyI]
end Go.Proofs.YtpaklfjlbocfcaaGreatDoor

/- Contracts: light skies. By an AI agent;nothing here is trusted. -/
namespace Go.Proofs.YtpaklfjlbocfcaaGreatDoor
open Go.Av

theorem SkyErr_s (s:List (List Int)) (hs:s.length<4000000000000000000) (hl:∀ l ∈ s,l.length<4000000000000000000) :
  Sound Tryz.prog 20 [skyA s] (.int .i64 (skyE s).2):=by
 refine sound_W f_ref08_SkyErr (Nat.le_of_ble_eq_true rfl) ?_
 simp only [c_ref08_SkyErr,skyA,vZ,Int.reduceEq,Int.reduceNe,Int.reduceLT,Int.reduceLE,Nat.reduceEqDiff,Nat.reduceAdd,reduceIte,reduceCtorEq,Nat.reduceLT,Nat.reduceLeDiff,Nat.reduceShiftRight,Nat.reduceMod]
 refine callS_of (refCheckSky_s s hs hl) ?_
 simp only [vZ,Int.reduceEq,Int.reduceNe,Int.reduceLT,Int.reduceLE,Nat.reduceEqDiff,Nat.reduceAdd,reduceIte,reduceCtorEq,Nat.reduceLT,Nat.reduceLeDiff,Nat.reduceShiftRight,Nat.reduceMod]

end Go.Proofs.YtpaklfjlbocfcaaGreatDoor

/- Contracts: a sky copied. By an AI agent;nothing here is trusted. -/
namespace Go.Proofs.YtpaklfjlbocfcaaGreatDoor
open Go.Av

theorem skyL_append (s u:List (List Int)):skyL (s ++ u)=skyL s ++ skyL u:=by simp [skyL]
theorem skyL_succ (s:List (List Int)) (i:Nat) (h:i<s.length):skyL (s.take (i+1))=skyL (s.take i) ++ [.sl (ints s[i])]:=by
 rw [List.take_succ_eq_append_getElem h,skyL_append];rfl
theorem skyL_fxB (s:List (List Int)):(skyL s).all Go.Av.fx=true:=List.all_eq_true.2 fun x hx=>by
 obtain ⟨l,_,rfl⟩:=List.mem_map.1 hx
 rfl
theorem RnB.agg1 {s s':Store} {f:Nat→Option Nat} {ty sz:Nat} {c c':AV} (e:cellsOf (.agg [c])=[c]) (e':cellsOf (.agg [c'])=[c']) (hc:cell c'=true) (h:vR s' f c c') :
  RnB s s' f ⟨ty,sz,[.agg [c]]⟩ ⟨ty,sz,[.agg [c']]⟩:=by
 refine ⟨rfl,rfl,rfl,fun i x x' h1 h2=>?_⟩
 cases i with
 | zero =>
  simp at h1 h2;subst h1;subst h2
  refine ⟨by rw [e,e'];rfl,fun d hd=>by rw [e'] at hd;simp at hd;subst hd;exact hc,fun o d d' k3 k4=>?_⟩
  rw [e] at k3;rw [e'] at k4
  cases o with
  | zero=>simp at k3 k4;subst k3;subst k4;exact vR_rn h
  | succ o=>simp at k3
 | succ i=>simp at h1

theorem RnB.nilA {s s':Store} {f:Nat→Option Nat} {ty sz:Nat}:RnB s s' f ⟨ty,sz,[.agg [.nils]]⟩ ⟨ty,sz,[.agg [.nils]]⟩:=RnB.same fun x hx=>by
 simp at hx;subst hx;rfl
set_option maxHeartbeats 4000000 in
theorem CopySky_s (s:List (List Int)) (hs:s.length≤1000000000) (hl:∀ l ∈ s,l.length≤1000000000) :
  Sound Tryz.prog 11 [skyA s] (skyA s):=by
 refine sound_W f_ref08_CopySky (Nat.le_of_ble_eq_true rfl) ?_
 simp only [c_ref08_CopySky,skyA,vZ,Int.reduceEq,Int.reduceNe,Int.reduceLT,Int.reduceLE,Nat.reduceEqDiff,Nat.reduceAdd,reduceIte,reduceCtorEq,Nat.reduceLT,Nat.reduceLeDiff,Nat.reduceShiftRight,Nat.reduceMod]
 have hmax:=maxLen_big
 have h0:skyL (s.take 0)=[]:=rfl
 have hlen:∀ i,i≤s.length→(skyL (s.take i)).length=i:=fun i hi=>by rw [skyL_length,List.length_take,Nat.min_eq_left hi]
 refine W_loop (t:=.mk) (α:=PSigma fun i:Nat=>i≤s.length∧(True)) (fun ⟨i,_⟩=>((envOf [(1,.ptr 1 0 0),(2,.ptr 2 0 0),(3,.ptr 3 0 0),(4,.int .i64 i)],stOf [(1,⟨26,1,[.agg [.sl (skyL s)]]⟩),(2,⟨26,1,[.agg [.nils]]⟩),(3,⟨26,1,[.agg [.buf 100 i]]⟩),(100,⟨45,1,skyL (s.take i)⟩)]))) (fun i=>s.length - i.1) ⟨0,Nat.zero_le _,?_⟩ ?_ (fun ⟨i,hi,hn⟩=>?_)
 ·trivial
 ·refine weakX [(100,none)] (of_decide_eq_true rfl) (of_decide_eq_true rfl) ?_
  (simp only [h0,vcW,vZ,Int.reduceEq,Int.reduceNe,Int.reduceLT,Int.reduceLE,Nat.reduceEqDiff,Nat.reduceAdd,reduceIte,reduceCtorEq,Nat.reduceLT,Nat.reduceLeDiff,Nat.reduceShiftRight,Nat.reduceMod])
  refine ⟨rfl,RnB.fxB rfl,RnB.nilA,RnB.agg1 rfl rfl rfl ⟨rfl,rfl,_,rfl⟩,rfl⟩
 ·simp only [skyL_length,vZ,Int.reduceEq,Int.reduceNe,Int.reduceLT,Int.reduceLE,Nat.reduceEqDiff,Nat.reduceAdd,reduceIte,reduceCtorEq,Nat.reduceLT,Nat.reduceLeDiff,Nat.reduceShiftRight,Nat.reduceMod]
  refine brB_split (fun h=>?_) (fun h=>?_)
  ·have h':i<s.length:=by (simp only [decide_eq_true_eq,decide_eq_false_iff_not,Bool.not_true,I64,Bool.not_eq_true',Bool.not_eq_false',bne_iff_ne,beq_iff_eq,ne_eq] at *;omega)
   clear h
   have hg:=skyL_get s i h'
   have hll:=hl _ (List.getElem_mem h')
   have hi1:=hlen i hi
   have hsu:=skyL_succ s i h'
   simp only [hg,vZ,Int.reduceEq,Int.reduceNe,Int.reduceLT,Int.reduceLE,Nat.reduceEqDiff,Nat.reduceAdd,reduceIte,reduceCtorEq,Nat.reduceLT,Nat.reduceLeDiff,Nat.reduceShiftRight,Nat.reduceMod]
   refine ⟨by omega,?_⟩
   refine callS_of (CopyInts_s s[i] hll) ?_
   simp only [hi1,vZ,Int.reduceEq,Int.reduceNe,Int.reduceLT,Int.reduceLE,Nat.reduceEqDiff,Nat.reduceAdd,reduceIte,reduceCtorEq,Nat.reduceLT,Nat.reduceLeDiff,Nat.reduceShiftRight,Nat.reduceMod]
   refine ⟨⟨by omega,by omega⟩,by unfold I64;omega,⟨⟨i+1,h',trivial⟩,by simp only;omega,?_⟩⟩
   refine weakX [(100,some 21)] (of_decide_eq_true rfl) (of_decide_eq_true rfl) ?_
   (simp only [hsu,vcW,vZ,Int.reduceEq,Int.reduceNe,Int.reduceLT,Int.reduceLE,Nat.reduceEqDiff,Nat.reduceAdd,reduceIte,reduceCtorEq,Nat.reduceLT,Nat.reduceLeDiff,Nat.reduceShiftRight,Nat.reduceMod])
   refine ⟨by omega,RnB.fxB rfl,RnB.nilA,RnB.agg1 rfl rfl rfl ⟨rfl,rfl⟩,RnB.eq rfl ?_⟩
   rw [List.all_append,skyL_fxB];rfl
  ·have hi':i=s.length:=by (simp only [decide_eq_true_eq,decide_eq_false_iff_not,Bool.not_true,I64,Bool.not_eq_true',Bool.not_eq_false',bne_iff_ne,beq_iff_eq,ne_eq] at *;omega)
   cases hi'
   rw [List.take_length]
   simp only [vZ,Int.reduceEq,Int.reduceNe,Int.reduceLT,Int.reduceLE,Nat.reduceEqDiff,Nat.reduceAdd,reduceIte,reduceCtorEq,Nat.reduceLT,Nat.reduceLeDiff,Nat.reduceShiftRight,Nat.reduceMod]
   rw [borB_good _ _ _ _ _ (by rw [skyL_length]) (List.all_eq_true.1 (skyL_fxB s))]
end Go.Proofs.YtpaklfjlbocfcaaGreatDoor

/- Contracts: all cases written out. By an AI agent;nothing here is trusted. -/
namespace Go.Proofs.YtpaklfjlbocfcaaGreatDoor
open Go.Av

def wr:List (List Int)→Int→Int
 | [],t=>if t≤0 then 1 else 0
 | l :: s,t=>(l.map fun c=>wr s (t - c)).sum
end Go.Proofs.YtpaklfjlbocfcaaGreatDoor

/- The law WatchCounted,in plain Lean. By an AI agent;nothing here is trusted. -/
namespace Go.Proofs.YtpaklfjlbocfcaaGreatDoor
open Go.Av

theorem thr_le (v:List Int) (per:Int):∀ k,thr v per k≤k
 | 0=>Nat.le_refl _
 | k+1=>by
  have:=thr_le v per k
  unfold thr;split <;> omega
theorem thr_keeps (v:List Int) (per:Int):∀ k,1000 * (v.drop k).sum≤per * v.sum→1000 * (v.drop (thr v per k)).sum≤per * v.sum
 | 0,h=>h
 | k+1,h=>by
  unfold thr
  by_cases hc:1000 * (v.drop k).sum≤per * v.sum
  ·rw [if_pos hc];exact thr_keeps v per k hc
  ·rw [if_neg hc];exact h
theorem foldl_sum_pos:∀ (s:List (List Int)) (v:List Int),(∀ l ∈ s,sensE l=0)→1≤v.sum→1≤(s.foldl conv v).sum
 | [],v,_,h=>h
 | l :: s,v,hs,h=>by
  obtain ⟨h1,h2,h3⟩:=sensE_ok (hs l List.mem_cons_self)
  refine foldl_sum_pos s _ (fun x hx=>hs x (List.mem_cons_of_mem _ hx)) ?_
  rw [conv_sum (fun c hc=>(h3 c hc).1)]
  have:=Int.mul_le_mul_of_nonneg_right (show (1:Int)≤l.length by omega) (show 0≤v.sum by omega)
  omega
theorem bTo_sum_pos {s:List (List Int)} (hs:∀ l ∈ s,sensE l=0):∀ b,1≤(bTo s b).sum
 | 0=>by simp [bTo]
 | b+1=>foldl_sum_pos s _ hs (bTo_sum_pos hs b)
end Go.Proofs.YtpaklfjlbocfcaaGreatDoor

/- Contracts of the reference: rules,excesses,alarms. By an AI agent;nothing here is trusted. -/
namespace Go.Proofs.YtpaklfjlbocfcaaGreatDoor
open Go.Av

end Go.Proofs.YtpaklfjlbocfcaaGreatDoor

/- Contracts: excesses,alarms and first ones,both ways. By an AI agent;nothing here is trusted. -/
namespace Go.Proofs.YtpaklfjlbocfcaaGreatDoor
open Go.Av

end Go.Proofs.YtpaklfjlbocfcaaGreatDoor

/- Contracts: first alarms,strengths,the strongest bin,both ways. By an AI agent;nothing here is trusted. -/
namespace Go.Proofs.YtpaklfjlbocfcaaGreatDoor
open Go.Av

end Go.Proofs.YtpaklfjlbocfcaaGreatDoor

/- Contracts: fractions,strengths,the strongest bin,both ways. By an AI agent;nothing here is trusted. -/
namespace Go.Proofs.YtpaklfjlbocfcaaGreatDoor
open Go.Av

theorem divisor_s (a b:Int) (ha:S63 a) (hb:S63 b):Sound Tryz.prog 163 [.int .i64 a,.int .i64 b] (.int .i64 (Int.gcd a b)):=by
 refine sound_W f_watch_divisor (Nat.le_of_ble_eq_true rfl) ?_
 simp only [c_watch_divisor,vZ,Int.reduceEq,Int.reduceNe,Int.reduceLT,Int.reduceLE,Nat.reduceEqDiff,Nat.reduceAdd,reduceIte,reduceCtorEq,Nat.reduceLT,Nat.reduceLeDiff,Nat.reduceShiftRight,Nat.reduceMod]
 refine W_loop (α:=PSigma fun p:Int × Int=>S63 p.1∧S63 p.2∧Int.gcd p.1 p.2=Int.gcd a b) (fun p=>(envOf [(0,.int .i64 p.1.1),(1,.int .i64 p.1.2)],noStore)) (fun p=>p.1.2.natAbs) ⟨(a,b),ha,hb,rfl⟩ (weakE _ ?_) (fun ⟨p,h1,h2,h3⟩=>?_)
 ·simp only [vZ,Int.reduceEq,Int.reduceNe,Int.reduceLT,Int.reduceLE,Nat.reduceEqDiff,Nat.reduceAdd,reduceIte,reduceCtorEq,Nat.reduceLT,Nat.reduceLeDiff,Nat.reduceShiftRight,Nat.reduceMod]
 ·obtain ⟨x,y⟩:=p
  simp only at h1 h2 h3
  simp only [vZ,Int.reduceEq,Int.reduceNe,Int.reduceLT,Int.reduceLE,Nat.reduceEqDiff,Nat.reduceAdd,reduceIte,reduceCtorEq,Nat.reduceLT,Nat.reduceLeDiff,Nat.reduceShiftRight,Nat.reduceMod]
  refine brB_split (fun h=>?_) (fun h=>?_)
  ·have hy:y ≠ 0:=by simpa using h
   obtain ⟨t1,t2⟩:=tmod_S (a:=x) h2 hy
   simp only [vZ,Int.reduceEq,Int.reduceNe,Int.reduceLT,Int.reduceLE,Nat.reduceEqDiff,Nat.reduceAdd,reduceIte,reduceCtorEq,Nat.reduceLT,Nat.reduceLeDiff,Nat.reduceShiftRight,Nat.reduceMod]
   refine ⟨hy,⟨(y,x.tmod y),h2,t1,(gcd_tmod x y).trans h3⟩,t2,weakE _ ?_⟩
   simp only [vZ,Int.reduceEq,Int.reduceNe,Int.reduceLT,Int.reduceLE,Nat.reduceEqDiff,Nat.reduceAdd,reduceIte,reduceCtorEq,Nat.reduceLT,Nat.reduceLeDiff,Nat.reduceShiftRight,Nat.reduceMod]
  ·have hy:y=0:=by simpa using h
   subst hy
   unfold S63 at h1
   simp only [max_neg,vZ,Int.reduceEq,Int.reduceNe,Int.reduceLT,Int.reduceLE,Nat.reduceEqDiff,Nat.reduceAdd,reduceIte,reduceCtorEq,Nat.reduceLT,Nat.reduceLeDiff,Nat.reduceShiftRight,Nat.reduceMod]
   refine ⟨by (simp only [decide_eq_true_eq,decide_eq_false_iff_not,Bool.not_true,I64,Bool.not_eq_true',Bool.not_eq_false',bne_iff_ne,beq_iff_eq,ne_eq] at *;omega),?_⟩
   rw [← h3];simp [Int.gcd]

theorem lowest_s (num den:Int) (hn:S63 num) (hd:S63 den) (h0:0<den):Sound Tryz.prog 104 [.int .i64 num,.int .i64 den] (fracA (lowN num den) (lowD num den)):=by
 refine sound_W f_watch_lowest (Nat.le_of_ble_eq_true rfl) ?_
 have hne:=lowG_ne (num:=num) (den:=den) (by omega)
 have t1:=tdiv_S (b:=lowG num den) hn
 have t2:=tdiv_S (b:=lowG num den) hd
 unfold lowG at t1 t2 hne
 unfold S63 at t1 t2
 rw [if_neg (by omega)] at t1 t2 hne
 simp only [c_watch_lowest,vZ,Int.reduceEq,Int.reduceNe,Int.reduceLT,Int.reduceLE,Nat.reduceEqDiff,Nat.reduceAdd,reduceIte,reduceCtorEq,Nat.reduceLT,Nat.reduceLeDiff,Nat.reduceShiftRight,Nat.reduceMod]
 refine callS_of (divisor_s num den hn hd) ?_
 simp only [vZ,Int.reduceEq,Int.reduceNe,Int.reduceLT,Int.reduceLE,Nat.reduceEqDiff,Nat.reduceAdd,reduceIte,reduceCtorEq,Nat.reduceLT,Nat.reduceLeDiff,Nat.reduceShiftRight,Nat.reduceMod]
 refine ⟨hne,by (simp only [decide_eq_true_eq,decide_eq_false_iff_not,Bool.not_true,I64,Bool.not_eq_true',Bool.not_eq_false',bne_iff_ne,beq_iff_eq,ne_eq] at *;omega),hne,by (simp only [decide_eq_true_eq,decide_eq_false_iff_not,Bool.not_true,I64,Bool.not_eq_true',Bool.not_eq_false',bne_iff_ne,beq_iff_eq,ne_eq] at *;omega),?_⟩
 unfold fracA lowN lowD lowG
 rw [if_neg (by omega)]

theorem isSized_s (n most:Int) (hm:S63 most):Sound Tryz.prog 162 [.int .i64 n,.int .i64 most] (.bool (decide (-most≤n∧n≤most))):=by
 refine sound_W f_watch_isSized (Nat.le_of_ble_eq_true rfl) ?_
 unfold S63 at hm
 simp only [c_watch_isSized,vZ,Int.reduceEq,Int.reduceNe,Int.reduceLT,Int.reduceLE,Nat.reduceEqDiff,Nat.reduceAdd,reduceIte,reduceCtorEq,Nat.reduceLT,Nat.reduceLeDiff,Nat.reduceShiftRight,Nat.reduceMod]
 refine ⟨by (simp only [decide_eq_true_eq,decide_eq_false_iff_not,Bool.not_true,I64,Bool.not_eq_true',Bool.not_eq_false',bne_iff_ne,beq_iff_eq,ne_eq] at *;omega),?_⟩
 refine callS_of (within_s _ _ _) ?_
 simp only [vZ,Int.reduceEq,Int.reduceNe,Int.reduceLT,Int.reduceLE,Nat.reduceEqDiff,Nat.reduceAdd,reduceIte,reduceCtorEq,Nat.reduceLT,Nat.reduceLeDiff,Nat.reduceShiftRight,Nat.reduceMod]

theorem smallF_s (n d:Int) (hd:1≤d):Sound Tryz.prog 103 [fracA n d] (.tup (if smallF n d then [fracA n d,.int .i64 0] else [fracA 0 0,.int .i64 8])):=by
 refine sound_W f_watch_small (Nat.le_of_ble_eq_true rfl) ?_
 unfold smallF
 simp only [c_watch_small,fracA,vZ,Int.reduceEq,Int.reduceNe,Int.reduceLT,Int.reduceLE,Nat.reduceEqDiff,Nat.reduceAdd,reduceIte,reduceCtorEq,Nat.reduceLT,Nat.reduceLeDiff,Nat.reduceShiftRight,Nat.reduceMod]
 refine callS_of (isSized_s _ _ (by unfold S63;omega)) ?_
 simp only [vZ,Int.reduceEq,Int.reduceNe,Int.reduceLT,Int.reduceLE,Nat.reduceEqDiff,Nat.reduceAdd,reduceIte,reduceCtorEq,Nat.reduceLT,Nat.reduceLeDiff,Nat.reduceShiftRight,Nat.reduceMod]
 by_cases h : -1000000000≤n∧n≤1000000000
 ·by_cases h2:d≤1000000000
  ·have h3:¬ 1000000000<d:=by omega
   simp only [h,h3,h2,hd,vZ,Int.reduceEq,Int.reduceNe,Int.reduceLT,Int.reduceLE,Nat.reduceEqDiff,Nat.reduceAdd,reduceIte,reduceCtorEq,Nat.reduceLT,Nat.reduceLeDiff,Nat.reduceShiftRight,Nat.reduceMod]
  ·have h3:1000000000<d:=by omega
   have h4:¬ (1≤d∧d≤1000000000):=by omega
   simp only [h,h3,h4,vZ,Int.reduceEq,Int.reduceNe,Int.reduceLT,Int.reduceLE,Nat.reduceEqDiff,Nat.reduceAdd,reduceIte,reduceCtorEq,Nat.reduceLT,Nat.reduceLeDiff,Nat.reduceShiftRight,Nat.reduceMod]
 ·simp only [h,vZ,Int.reduceEq,Int.reduceNe,Int.reduceLT,Int.reduceLE,Nat.reduceEqDiff,Nat.reduceAdd,reduceIte,reduceCtorEq,Nat.reduceLT,Nat.reduceLeDiff,Nat.reduceShiftRight,Nat.reduceMod]

theorem lowD_pos {num den:Int} (h0:0<den):1≤lowD num den:=by
 unfold lowD lowG
 rw [if_neg (by omega)]
 have hd:((Int.gcd num den:Nat):Int) ∣ den:=Int.gcd_dvd_right _ _
 have hge:0≤((Int.gcd num den:Nat):Int):=Int.natCast_nonneg _
 generalize ((Int.gcd num den:Nat):Int)=g at *
 obtain ⟨k,hk⟩:=hd
 have hgp:0<g:=by
  rcases Int.lt_trichotomy g 0 with h | h | h
  ·omega
  ·subst h;rw [Int.zero_mul] at hk;omega
  ·exact h
 have:den.tdiv g=k:=by
  rw [hk];exact Int.mul_tdiv_cancel_left _ (by omega)
 rw [this]
 by_cases hk0:1≤k
 ·exact hk0
 ·exfalso
  have:=Int.mul_nonneg (a:=g) (b := -k) (by omega) (by omega)
  rw [Int.mul_neg,← hk] at this
  omega

def hasBin (r:Rule) (l:List Int) (bin:Int):Prop:=r.window - 1≤bin∧bin≤l.length - 1
instance (r:Rule) (l:List Int) (bin:Int):Decidable (hasBin r l bin):=by unfold hasBin;exact inferInstance

end Go.Proofs.YtpaklfjlbocfcaaGreatDoor

/- Contracts: the reference's cases,ways and threshold;false alarms. By an AI agent;nothing here is trusted. -/
namespace Go.Proofs.YtpaklfjlbocfcaaGreatDoor
open Go.Av

attribute [local irreducible] rowTo convTo conv bTo sTo upd1 mxL colTo colsTo mx0
def falN (s:List (List Int)) (b n:Nat):Int:=lowN ((bTo s b).drop n).sum (bTo s b).sum
def falD (s:List (List Int)) (b n:Nat):Int:=lowD ((bTo s b).drop n).sum (bTo s b).sum
def falL (s:List (List Int)) (b n:Nat):List AV:=if smallF (falN s b n) (falD s b n) then [fracA (falN s b n) (falD s b n),.int .i64 0] else [fracA 0 0,.int .i64 8]
theorem FalseAlarms_s (s:List (List Int)) (b n:Nat) (hs:s.length<4000000000000000000) (hl:∀ l ∈ s,l.length<4000000000000000000) (hE:skyTE s b n=0) :
  Sound Tryz.prog 42 [skyA s,.int .i64 b,.int .i64 n] (.tup (falL s b n)):=by
 refine sound_W f_watch_FalseAlarms (Nat.le_of_ble_eq_true rfl) ?_
 simp only [c_watch_FalseAlarms,skyA,vZ,Int.reduceEq,Int.reduceNe,Int.reduceLT,Int.reduceLE,Nat.reduceEqDiff,Nat.reduceAdd,reduceIte,reduceCtorEq,Nat.reduceLT,Nat.reduceLeDiff,Nat.reduceShiftRight,Nat.reduceMod]
 refine callS_of (binsErr_s s b hs hl) ?_
 simp only [vZ,Int.reduceEq,Int.reduceNe,Int.reduceLT,Int.reduceLE,Nat.reduceEqDiff,Nat.reduceAdd,reduceIte,reduceCtorEq,Nat.reduceLT,Nat.reduceLeDiff,Nat.reduceShiftRight,Nat.reduceMod]
 refine callS_of (thresholdErr_s n) ?_
 simp only [vZ,Int.reduceEq,Int.reduceNe,Int.reduceLT,Int.reduceLE,Nat.reduceEqDiff,Nat.reduceAdd,reduceIte,reduceCtorEq,Nat.reduceLT,Nat.reduceLeDiff,Nat.reduceShiftRight,Nat.reduceMod]
 refine callS_of (first2_s _ _) ?_
 simp only [vZ,Int.reduceEq,Int.reduceNe,Int.reduceLT,Int.reduceLE,Nat.reduceEqDiff,Nat.reduceAdd,reduceIte,reduceCtorEq,Nat.reduceLT,Nat.reduceLeDiff,Nat.reduceShiftRight,Nat.reduceMod]
 rw [show (if (skyE s).2 ≠ 0 then (skyE s).2 else binsE b)=skyBE s b from rfl,show (if 0≤(n:Int)∧(n:Int)≤100000 then (0:Int) else 2)=thrE n from rfl,show (if skyBE s b ≠ 0 then skyBE s b else thrE n)=skyTE s b n from rfl]
 have hB:skyBE s b=0∧thrE n=0:=by
  unfold skyTE at hE
  by_cases hB:skyBE s b=0
  ·rw [if_neg (by simpa using hB)] at hE;exact ⟨hB,hE⟩
  ·rw [if_pos hB] at hE;exact absurd hE hB
 obtain ⟨hok,b1,b2⟩:=skyBE_ok hB.1
 have hT:(n:Int)≤100000:=by
  have h2:=hB.2
  unfold thrE at h2
  by_cases hT:0≤(n:Int)∧(n:Int)≤100000
  ·exact hT.2
  ·rw [if_neg hT] at h2;omega
 obtain ⟨f1,f2,f3,f4⟩:=bTo_facts hok (show b≤3 by omega)
 have hpos:=bTo_sum_pos hok.2 b
 have hdb:=drop_sum_bound f1 n
 have hF:falL s b n=if smallF (falN s b n) (falD s b n) then [fracA (falN s b n) (falD s b n),.int .i64 0] else [fracA 0 0,.int .i64 8]:=rfl
 have hN:falN s b n=lowN ((bTo s b).drop n).sum (bTo s b).sum:=rfl
 have hD:falD s b n=lowD ((bTo s b).drop n).sum (bTo s b).sum:=rfl
 simp only [hE,vZ,Int.reduceEq,Int.reduceNe,Int.reduceLT,Int.reduceLE,Nat.reduceEqDiff,Nat.reduceAdd,reduceIte,reduceCtorEq,Nat.reduceLT,Nat.reduceLeDiff,Nat.reduceShiftRight,Nat.reduceMod]
 refine callS_of (sums_s s hok b (by omega)) ?_
 simp only [vZ,Int.reduceEq,Int.reduceNe,Int.reduceLT,Int.reduceLE,Nat.reduceEqDiff,Nat.reduceAdd,reduceIte,reduceCtorEq,Nat.reduceLT,Nat.reduceLeDiff,Nat.reduceShiftRight,Nat.reduceMod]
 refine callS_of (from_s _ f1 (by omega) (by omega) n (by omega)) ?_
 simp only [vZ,Int.reduceEq,Int.reduceNe,Int.reduceLT,Int.reduceLE,Nat.reduceEqDiff,Nat.reduceAdd,reduceIte,reduceCtorEq,Nat.reduceLT,Nat.reduceLeDiff,Nat.reduceShiftRight,Nat.reduceMod]
 refine callS_of (from_s _ f1 (by omega) (by omega) 0 (by omega)) ?_
 simp only [List.drop_zero,vZ,Int.reduceEq,Int.reduceNe,Int.reduceLT,Int.reduceLE,Nat.reduceEqDiff,Nat.reduceAdd,reduceIte,reduceCtorEq,Nat.reduceLT,Nat.reduceLeDiff,Nat.reduceShiftRight,Nat.reduceMod]
 refine callS_of (lowest_s _ _ (by unfold S63;omega) (by unfold S63;omega) (by omega)) ?_
 simp only [fracA,vZ,Int.reduceEq,Int.reduceNe,Int.reduceLT,Int.reduceLE,Nat.reduceEqDiff,Nat.reduceAdd,reduceIte,reduceCtorEq,Nat.reduceLT,Nat.reduceLeDiff,Nat.reduceShiftRight,Nat.reduceMod]
 refine callS_of (smallF_s _ _ (lowD_pos (by omega))) ?_
 rw [← hN,← hD,hF]
 by_cases hsm:smallF (falN s b n) (falD s b n)=true
 ·rw [if_pos hsm]
  simp only [fracA,vZ,Int.reduceEq,Int.reduceNe,Int.reduceLT,Int.reduceLE,Nat.reduceEqDiff,Nat.reduceAdd,reduceIte,reduceCtorEq,Nat.reduceLT,Nat.reduceLeDiff,Nat.reduceShiftRight,Nat.reduceMod]
 ·rw [if_neg hsm]
  simp only [fracA,vZ,Int.reduceEq,Int.reduceNe,Int.reduceLT,Int.reduceLE,Nat.reduceEqDiff,Nat.reduceAdd,reduceIte,reduceCtorEq,Nat.reduceLT,Nat.reduceLeDiff,Nat.reduceShiftRight,Nat.reduceMod]
end Go.Proofs.YtpaklfjlbocfcaaGreatDoor

/- Contracts: rises. By an AI agent;nothing here is trusted. -/
namespace Go.Proofs.YtpaklfjlbocfcaaGreatDoor
open Go.Av

theorem foldl_min_le:∀ (l:List Int) (a:Int),l.foldl min a≤a∧∀ c ∈ l,l.foldl min a≤c
 | [],a=>⟨Int.le_refl _,by simp⟩
 | c :: l,a=>by
  have h:=foldl_min_le l (min a c)
  rw [List.foldl_cons]
  refine ⟨by have:=h.1;omega,fun x hx=>?_⟩
  rcases List.mem_cons.1 hx with e | e
  ·rw [e];have:=h.1;omega
  ·exact h.2 x e
theorem foldl_min_mem:∀ (l:List Int) (a:Int),l.foldl min a=a∨l.foldl min a ∈ l
 | [],a=>.inl rfl
 | c :: l,a=>by
  rw [List.foldl_cons]
  rcases foldl_min_mem l (min a c) with h | h
  ·rw [h]
   by_cases hac:a≤c
   ·left;omega
   ·right;rw [show min a c=c by omega];exact List.mem_cons_self
  ·right;exact List.mem_cons_of_mem _ h
theorem mnL_le {l:List Int} {c:Int} (h:c ∈ l):mnL l≤c:=by
 unfold mnL mnTo;rw [List.take_length];exact (foldl_min_le l _).2 c h
theorem mnTo_mem {l:List Int} (h:0<l.length) (k:Nat):mnTo l k ∈ l:=by
 unfold mnTo
 rcases foldl_min_mem (l.take k) (l.headD 0) with e | e
 ·rw [e]
  cases l with
  | nil=>simp at h
  | cons a l=>simp
 ·exact List.mem_of_mem_take e
theorem mnL_mem {l:List Int} (h:0<l.length):mnL l ∈ l:=mnTo_mem h _
def qTo (s:List (List Int)) (i:Nat):Int:=((s.take i).map mnL).sum
def qS (s:List (List Int)):Int:=qTo s s.length
theorem qTo_succ (s:List (List Int)) (i:Nat) (h:i<s.length):qTo s (i+1)=qTo s i+mnL s[i]:=by
 unfold qTo;rw [List.take_succ_eq_append_getElem h,List.map_append,List.sum_append];simp
theorem qTo_bound {s:List (List Int)} (hs:skyOk s):∀ (i:Nat),i≤s.length→0≤qTo s i∧qTo s i≤1000 * i
 | 0,_=>by simp [qTo]
 | i+1,h=>by
  have ih:=qTo_bound hs i (by omega)
  have he:=sensE_ok (hs.2 _ (List.getElem_mem (show i<s.length by omega)))
  have hm:=he.2.2 _ (mnL_mem he.1)
  rw [qTo_succ s i (by omega)]
  omega

theorem quiet_s (s:List (List Int)) (hs:skyOk s):Sound Tryz.prog 105 [skyA s] (.int .i64 (qS s)):=by
 refine sound_W f_watch_quiet (Nat.le_of_ble_eq_true rfl) ?_
 obtain ⟨⟨hs1,hs2⟩,hsl⟩:=id hs
 simp only [c_watch_quiet,skyA,skyL_length,vZ,Int.reduceEq,Int.reduceNe,Int.reduceLT,Int.reduceLE,Nat.reduceEqDiff,Nat.reduceAdd,reduceIte,reduceCtorEq,Nat.reduceLT,Nat.reduceLeDiff,Nat.reduceShiftRight,Nat.reduceMod]
 have h0:qTo s 0=0:=rfl
 refine W_loop (t:=.mk) (α:=PSigma fun i:Nat=>i≤s.length∧(True)) (fun ⟨i,_⟩=>((envOf [(1,.ptr 1 0 0),(3,.int .i64 (qTo s i)),(7,.sl (skyL s)),(8,.int .i64 s.length),(9,.int .i64 i)],stOf [(1,⟨26,1,[.agg [.sl (skyL s)]]⟩)]))) (fun i=>s.length - i.1) ⟨0,Nat.zero_le _,?_⟩ ?_ (fun ⟨i,hi,hn⟩=>?_)
 ·trivial
 ·refine weakX [] (of_decide_eq_true rfl) (of_decide_eq_true rfl) ?_
  (simp only [h0,vcW,vZ,Int.reduceEq,Int.reduceNe,Int.reduceLT,Int.reduceLE,Nat.reduceEqDiff,Nat.reduceAdd,reduceIte,reduceCtorEq,Nat.reduceLT,Nat.reduceLeDiff,Nat.reduceShiftRight,Nat.reduceMod])
  (repeat' first | exact trivial | (with_reducible first | exact RnB.fxB (ints_fxB _) | rfl | refine And.intro ?_ ?_) | (with_reducible (first | refine RnB.bb ?_ | refine RnB.nb ?_);simp only [vcW,vZ,Int.reduceEq,Int.reduceNe,Int.reduceLT,Int.reduceLE,Nat.reduceEqDiff,Nat.reduceAdd,reduceIte,reduceCtorEq,Nat.reduceLT,Nat.reduceLeDiff,Nat.reduceShiftRight,Nat.reduceMod]) | (with_reducible first | refine RnB.ii ?_ | refine RnB.app ?_) | (with_reducible refine RnB.fxB ?_;simp only [vcW,vZ,Int.reduceEq,Int.reduceNe,Int.reduceLT,Int.reduceLE,Nat.reduceEqDiff,Nat.reduceAdd,reduceIte,reduceCtorEq,Nat.reduceLT,Nat.reduceLeDiff,Nat.reduceShiftRight,Nat.reduceMod]) | omega)
 ·simp only [vZ,Int.reduceEq,Int.reduceNe,Int.reduceLT,Int.reduceLE,Nat.reduceEqDiff,Nat.reduceAdd,reduceIte,reduceCtorEq,Nat.reduceLT,Nat.reduceLeDiff,Nat.reduceShiftRight,Nat.reduceMod]
  refine brB_split (fun h=>?_) (fun h=>?_)
  ·have h':i<s.length:=by (simp only [decide_eq_true_eq,decide_eq_false_iff_not,Bool.not_true,I64,Bool.not_eq_true',Bool.not_eq_false',bne_iff_ne,beq_iff_eq,ne_eq] at *;omega)
   clear h
   obtain ⟨l1,l2,l3⟩:=sensE_ok (hsl _ (List.getElem_mem h'))
   have hsu:=qTo_succ s i h'
   have b1:=qTo_bound hs i (by omega)
   have b2:=qTo_bound hs (i+1) (by omega)
   rw [hsu] at b2
   simp only [skyL_get s i h',vZ,Int.reduceEq,Int.reduceNe,Int.reduceLT,Int.reduceLE,Nat.reduceEqDiff,Nat.reduceAdd,reduceIte,reduceCtorEq,Nat.reduceLT,Nat.reduceLeDiff,Nat.reduceShiftRight,Nat.reduceMod]
   refine ⟨by omega,?_⟩
   refine callS_of (Min_s _ l1 (by omega)) ?_
   simp only [vZ,Int.reduceEq,Int.reduceNe,Int.reduceLT,Int.reduceLE,Nat.reduceEqDiff,Nat.reduceAdd,reduceIte,reduceCtorEq,Nat.reduceLT,Nat.reduceLeDiff,Nat.reduceShiftRight,Nat.reduceMod]
   refine ⟨by unfold I64;omega,by unfold I64;omega,⟨⟨i+1,h',trivial⟩,by simp only;omega,?_⟩⟩
   refine weakX [] (of_decide_eq_true rfl) (of_decide_eq_true rfl) ?_
   (simp only [hsu,vcW,vZ,Int.reduceEq,Int.reduceNe,Int.reduceLT,Int.reduceLE,Nat.reduceEqDiff,Nat.reduceAdd,reduceIte,reduceCtorEq,Nat.reduceLT,Nat.reduceLeDiff,Nat.reduceShiftRight,Nat.reduceMod])
   (repeat' first | exact trivial | (with_reducible first | exact RnB.fxB (ints_fxB _) | rfl | refine And.intro ?_ ?_) | (with_reducible (first | refine RnB.bb ?_ | refine RnB.nb ?_);simp only [vcW,vZ,Int.reduceEq,Int.reduceNe,Int.reduceLT,Int.reduceLE,Nat.reduceEqDiff,Nat.reduceAdd,reduceIte,reduceCtorEq,Nat.reduceLT,Nat.reduceLeDiff,Nat.reduceShiftRight,Nat.reduceMod]) | (with_reducible first | refine RnB.ii ?_ | refine RnB.app ?_) | (with_reducible refine RnB.fxB ?_;simp only [vcW,vZ,Int.reduceEq,Int.reduceNe,Int.reduceLT,Int.reduceLE,Nat.reduceEqDiff,Nat.reduceAdd,reduceIte,reduceCtorEq,Nat.reduceLT,Nat.reduceLeDiff,Nat.reduceShiftRight,Nat.reduceMod]) | omega)
  ·have hi':i=s.length:=by (simp only [decide_eq_true_eq,decide_eq_false_iff_not,Bool.not_true,I64,Bool.not_eq_true',Bool.not_eq_false',bne_iff_ne,beq_iff_eq,ne_eq] at *;omega)
   cases hi'
   simp only [vZ,Int.reduceEq,Int.reduceNe,Int.reduceLT,Int.reduceLE,Nat.reduceEqDiff,Nat.reduceAdd,reduceIte,reduceCtorEq,Nat.reduceLT,Nat.reduceLeDiff,Nat.reduceShiftRight,Nat.reduceMod]
   rfl

end Go.Proofs.YtpaklfjlbocfcaaGreatDoor

/- Contracts: rises that are never missed. By an AI agent;nothing here is trusted. -/
namespace Go.Proofs.YtpaklfjlbocfcaaGreatDoor
open Go.Av

def riseA (b t z:Int):AV:=.agg [.int .i64 b,.int .i64 t,.int .i64 z]
def nevE (s:List (List Int)) (b t z:Int):Int:=if skyBE s b ≠ 0 then skyBE s b else if thrE t ≠ 0 then thrE t else thrE z
def nevB (s:List (List Int)) (b t z:Int):Bool:=decide (t≤b * (qS s+z))
def riseN (s:List (List Int)) (b t:Int):Int:=max 0 ((t+b - 1) / b - qS s)
theorem thrE_ok {n:Int} (h:thrE n=0):0≤n∧n≤100000:=by
 unfold thrE at h
 by_cases hT:0≤n∧n≤100000
 ·exact hT
 ·rw [if_neg hT] at h;omega
theorem skyTE_ok {s:List (List Int)} {b t:Int} (h:skyTE s b t=0):skyBE s b=0∧thrE t=0:=by
 unfold skyTE at h
 by_cases hB:skyBE s b=0
 ·rw [if_neg (by simpa using hB)] at h;exact ⟨hB,h⟩
 ·rw [if_pos hB] at h;exact absurd h hB
theorem nevE_ok {s:List (List Int)} {b t z:Int} (h:nevE s b t z=0):skyBE s b=0∧thrE t=0∧thrE z=0:=by
 unfold nevE at h
 by_cases hB:skyBE s b=0
 ·rw [if_neg (by simpa using hB)] at h
  by_cases hT:thrE t=0
  ·rw [if_neg (by simpa using hT)] at h;exact ⟨hB,hT,h⟩
  ·rw [if_pos hT] at h;exact absurd h hT
 ·rw [if_pos hB] at h;exact absurd h hB
theorem qS_bound {s:List (List Int)} (hs:skyOk s):0≤qS s∧qS s≤6000:=by
 have:=qTo_bound hs s.length (Nat.le_refl _)
 have:=hs.1.2
 unfold qS;omega
theorem NeverMissed_s (s:List (List Int)) (b t z:Int) (hs:s.length<4000000000000000000) (hl:∀ l ∈ s,l.length<4000000000000000000) :
  Sound Tryz.prog 45 [skyA s,riseA b t z] (.tup [.bool (if nevE s b t z=0 then nevB s b t z else false),.int .i64 (nevE s b t z)]):=by
 refine sound_W f_watch_NeverMissed (Nat.le_of_ble_eq_true rfl) ?_
 simp only [c_watch_NeverMissed,skyA,riseA,vZ,Int.reduceEq,Int.reduceNe,Int.reduceLT,Int.reduceLE,Nat.reduceEqDiff,Nat.reduceAdd,reduceIte,reduceCtorEq,Nat.reduceLT,Nat.reduceLeDiff,Nat.reduceShiftRight,Nat.reduceMod]
 refine callS_of (binsErr_s s b hs hl) ?_
 simp only [vZ,Int.reduceEq,Int.reduceNe,Int.reduceLT,Int.reduceLE,Nat.reduceEqDiff,Nat.reduceAdd,reduceIte,reduceCtorEq,Nat.reduceLT,Nat.reduceLeDiff,Nat.reduceShiftRight,Nat.reduceMod]
 refine callS_of (thresholdErr_s t) ?_
 simp only [vZ,Int.reduceEq,Int.reduceNe,Int.reduceLT,Int.reduceLE,Nat.reduceEqDiff,Nat.reduceAdd,reduceIte,reduceCtorEq,Nat.reduceLT,Nat.reduceLeDiff,Nat.reduceShiftRight,Nat.reduceMod]
 refine callS_of (thresholdErr_s z) ?_
 simp only [vZ,Int.reduceEq,Int.reduceNe,Int.reduceLT,Int.reduceLE,Nat.reduceEqDiff,Nat.reduceAdd,reduceIte,reduceCtorEq,Nat.reduceLT,Nat.reduceLeDiff,Nat.reduceShiftRight,Nat.reduceMod]
 refine callS_of (first3_s _ _ _) ?_
 simp only [vZ,Int.reduceEq,Int.reduceNe,Int.reduceLT,Int.reduceLE,Nat.reduceEqDiff,Nat.reduceAdd,reduceIte,reduceCtorEq,Nat.reduceLT,Nat.reduceLeDiff,Nat.reduceShiftRight,Nat.reduceMod]
 rw [show (if (skyE s).2 ≠ 0 then (skyE s).2 else binsE b)=skyBE s b from rfl,show (if 0≤t∧t≤100000 then (0:Int) else 2)=thrE t from rfl,show (if 0≤z∧z≤100000 then (0:Int) else 2)=thrE z from rfl,show (if skyBE s b ≠ 0 then skyBE s b else if thrE t ≠ 0 then thrE t else thrE z)=nevE s b t z from rfl]
 by_cases hE:nevE s b t z=0
 case neg =>
  simp only [hE,vZ,Int.reduceEq,Int.reduceNe,Int.reduceLT,Int.reduceLE,Nat.reduceEqDiff,Nat.reduceAdd,reduceIte,reduceCtorEq,Nat.reduceLT,Nat.reduceLeDiff,Nat.reduceShiftRight,Nat.reduceMod]
  all_goals first | done | (intro _ k hk;simp [refsL,refs,upd] at hk;subst hk;simp [upd])
 obtain ⟨hB,hT,hZ⟩:=nevE_ok hE
 obtain ⟨hok,b1,b2⟩:=skyBE_ok hB
 have ht:=thrE_ok hT
 have hz:=thrE_ok hZ
 have hq:=qS_bound hok
 have hm:=mul_bound (a:=b) (b:=qS s+z) (A:=3) (B:=106000) (by omega) (by omega) (by omega) (by omega)
 simp only [hE,vZ,Int.reduceEq,Int.reduceNe,Int.reduceLT,Int.reduceLE,Nat.reduceEqDiff,Nat.reduceAdd,reduceIte,reduceCtorEq,Nat.reduceLT,Nat.reduceLeDiff,Nat.reduceShiftRight,Nat.reduceMod]
 refine ⟨by intro _ k hk;simp [refsL,refs,upd] at hk;subst hk;simp [upd],?_⟩
 refine callS_of (quiet_s s hok) ?_
 simp only [hE,vZ,Int.reduceEq,Int.reduceNe,Int.reduceLT,Int.reduceLE,Nat.reduceEqDiff,Nat.reduceAdd,reduceIte,reduceCtorEq,Nat.reduceLT,Nat.reduceLeDiff,Nat.reduceShiftRight,Nat.reduceMod]
 refine ⟨by unfold I64;omega,by unfold I64;omega,?_⟩
 rfl
theorem tdiv_ediv {a b:Int} (h:0≤a):a.tdiv b=a / b:=Int.tdiv_eq_ediv_of_nonneg h
theorem SmallestRise_s (s:List (List Int)) (b t:Int) (hs:s.length<4000000000000000000) (hl:∀ l ∈ s,l.length<4000000000000000000) :
  Sound Tryz.prog 44 [skyA s,.int .i64 b,.int .i64 t] (.tup [.int .i64 (if skyTE s b t=0 then riseN s b t else 0),.int .i64 (skyTE s b t)]):=by
 refine sound_W f_watch_SmallestRise (Nat.le_of_ble_eq_true rfl) ?_
 simp only [c_watch_SmallestRise,skyA,vZ,Int.reduceEq,Int.reduceNe,Int.reduceLT,Int.reduceLE,Nat.reduceEqDiff,Nat.reduceAdd,reduceIte,reduceCtorEq,Nat.reduceLT,Nat.reduceLeDiff,Nat.reduceShiftRight,Nat.reduceMod]
 refine callS_of (binsErr_s s b hs hl) ?_
 simp only [vZ,Int.reduceEq,Int.reduceNe,Int.reduceLT,Int.reduceLE,Nat.reduceEqDiff,Nat.reduceAdd,reduceIte,reduceCtorEq,Nat.reduceLT,Nat.reduceLeDiff,Nat.reduceShiftRight,Nat.reduceMod]
 refine callS_of (thresholdErr_s t) ?_
 simp only [vZ,Int.reduceEq,Int.reduceNe,Int.reduceLT,Int.reduceLE,Nat.reduceEqDiff,Nat.reduceAdd,reduceIte,reduceCtorEq,Nat.reduceLT,Nat.reduceLeDiff,Nat.reduceShiftRight,Nat.reduceMod]
 refine callS_of (first2_s _ _) ?_
 simp only [vZ,Int.reduceEq,Int.reduceNe,Int.reduceLT,Int.reduceLE,Nat.reduceEqDiff,Nat.reduceAdd,reduceIte,reduceCtorEq,Nat.reduceLT,Nat.reduceLeDiff,Nat.reduceShiftRight,Nat.reduceMod]
 rw [show (if (skyE s).2 ≠ 0 then (skyE s).2 else binsE b)=skyBE s b from rfl,show (if 0≤t∧t≤100000 then (0:Int) else 2)=thrE t from rfl,show (if skyBE s b ≠ 0 then skyBE s b else thrE t)=skyTE s b t from rfl]
 by_cases hE:skyTE s b t=0
 case neg=>simp only [hE,vZ,Int.reduceEq,Int.reduceNe,Int.reduceLT,Int.reduceLE,Nat.reduceEqDiff,Nat.reduceAdd,reduceIte,reduceCtorEq,Nat.reduceLT,Nat.reduceLeDiff,Nat.reduceShiftRight,Nat.reduceMod]
 obtain ⟨hB,hT⟩:=skyTE_ok hE
 obtain ⟨hok,b1,b2⟩:=skyBE_ok hB
 have ht:=thrE_ok hT
 have hq:=qS_bound hok
 have hdv:(t+b - 1).tdiv b=(t+b - 1) / b:=tdiv_ediv (by omega)
 have hd1:0≤(t+b - 1) / b:=Int.ediv_nonneg (by omega) (by omega)
 have hd2:(t+b - 1) / b≤t+b - 1:=Int.ediv_le_self _ (by omega)
 have hb0:¬ b=0:=by omega
 simp only [hE,hdv,vZ,Int.reduceEq,Int.reduceNe,Int.reduceLT,Int.reduceLE,Nat.reduceEqDiff,Nat.reduceAdd,reduceIte,reduceCtorEq,Nat.reduceLT,Nat.reduceLeDiff,Nat.reduceShiftRight,Nat.reduceMod]
 (repeat (with_reducible refine And.intro ?_ ?_;focus (first | omega | (unfold I64;omega))))
 refine callS_of (quiet_s s hok) ?_
 simp only [hE,hdv,vZ,Int.reduceEq,Int.reduceNe,Int.reduceLT,Int.reduceLE,Nat.reduceEqDiff,Nat.reduceAdd,reduceIte,reduceCtorEq,Nat.reduceLT,Nat.reduceLeDiff,Nat.reduceShiftRight,Nat.reduceMod]
 refine ⟨by unfold I64;omega,?_⟩
 rfl
end Go.Proofs.YtpaklfjlbocfcaaGreatDoor

/- Two ways to count false alarms: parts,and the plain law. By an AI agent;nothing here is trusted. -/
namespace Go.Proofs.YtpaklfjlbocfcaaGreatDoor
open Go.Av

def tabT:List (Nat × Nat × Nat × MC × List (Nat × Option (Option Nat))):=[(33,26,2,c_base_Ints,[(4,none)]),(37,31,0,c_top_watchAwake,[(0,none)]),(41,56,3,c_watch_ThresholdFor,[(6,none),(7,none)]),(48,16,2,c_watch_AlarmsIn,[(4,none),(5,none)]),(70,2,0,c_law08_Rule,[(0,(some (some 4)))]),(72,5,0,c_law08_Sky,[(0,(some (some 1)))]),(79,24,1,c_watch_CheckRule,[(2,none)]),(81,50,1,c_watch_CheckSky,[(2,none),(3,none)]),(96,15,1,c_watch_first,[(2,none)]),(97,18,2,c_watch_binsErr,[(4,none)]),(98,7,2,c_watch_unless,[(4,none)]),(99,15,3,c_watch_within,[(6,none)]),(100,58,2,c_watch_sums,[(4,none)]),(101,21,2,c_watch_from,[(4,none)]),(108,11,2,c_watch_bothErr,[(4,none)]),(109,38,2,c_watch_alarms,[(4,none)]),(113,9,2,c_slices_ContainsFunc_int_int,[(4,none)]),(151,8,2,c_watch_odd,[(4,none)]),(157,25,1,c_slices_Max_int_int,[(2,none)]),(165,13,1,c_watch_countsErr,[(2,none)]),(166,6,2,c_watch_windows,[(4,none)]),(168,19,2,c_slices_IndexFunc_int_int,[(4,none)]),(199,8,2,c_watch_odd_1,[(3,none)])]
theorem tabT_ok:∀ f c,lookC tabT f=some c→cFun Tryz.prog f=some c:=by
 refine lookC_ok ?_
 unfold tabT
 simp only [List.forall_mem_cons]
 exact ⟨f_base_Ints,f_top_watchAwake,f_watch_ThresholdFor,f_watch_AlarmsIn,f_law08_Rule,f_law08_Sky,f_watch_CheckRule,f_watch_CheckSky,f_watch_first,f_watch_binsErr,f_watch_unless,f_watch_within,f_watch_sums,f_watch_from,f_watch_bothErr,f_watch_alarms,f_slices_ContainsFunc_int_int,f_watch_odd,f_slices_Max_int_int,f_watch_countsErr,f_watch_windows,f_slices_IndexFunc_int_int,f_watch_odd_1,fun p hp=>by cases hp⟩
theorem awakeT_run:callN noExt itW (lookC tabT) 100 30 37 []=some (.bool true):=by kernel_rfl
theorem watchAwake_s:Sound Tryz.prog 37 [] (.bool true):=callN_sound noExt_ok itW_ok tabT_ok 30 _ _ _ awakeT_run

def smallW (s:List (List Int)):Bool:=decide (s.length≤4) && (s.all fun l=>decide (l.length≤4) && l.all fun c=>decide (0≤c∧c≤60)) && decide ((skyE s).2=0)
set_option maxHeartbeats 4000000 in
theorem watchSmall_s (s:List (List Int)) :
  Sound Tryz.prog 38 [skyA s] (.bool (smallW s)):=by
 refine sound_W f_top_watchSmall (Nat.le_of_ble_eq_true rfl) ?_
 by_cases h4:s.length≤4
 case neg =>
  have h4':(4:Int)<s.length:=by omega
  have:smallW s=false:=by unfold smallW;rw [decide_eq_false h4];rfl
  simp only [c_top_watchSmall,skyA,skyL_length,h4',this,vZ,Int.reduceEq,Int.reduceNe,Int.reduceLT,Int.reduceLE,Nat.reduceEqDiff,Nat.reduceAdd,reduceIte,reduceCtorEq,Nat.reduceLT,Nat.reduceLeDiff,Nat.reduceShiftRight,Nat.reduceMod]
 have h4':¬ (4:Int)<s.length:=by omega
 simp only [c_top_watchSmall,skyA,skyL_length,h4',vZ,Int.reduceEq,Int.reduceNe,Int.reduceLT,Int.reduceLE,Nat.reduceEqDiff,Nat.reduceAdd,reduceIte,reduceCtorEq,Nat.reduceLT,Nat.reduceLeDiff,Nat.reduceShiftRight,Nat.reduceMod]
 refine W_loop (t:=.mk) (α:=PSigma fun i:Nat=>i≤s.length∧((s.take i).all (fun l=>decide (l.length≤4) && l.all fun c=>decide (0≤c∧c≤60))=true)) (fun ⟨i,_⟩=>((envOf [(1,.ptr 1 0 0),(3,.int .i64 i)],stOf [(1,⟨26,1,[.agg [.sl (skyL s)]]⟩)]))) (fun i=>s.length - i.1) ⟨0,Nat.zero_le _,?_⟩ ?_ (fun ⟨i,hi,hn⟩=>?_)
 ·rfl
 ·refine weakX [] (of_decide_eq_true rfl) (of_decide_eq_true rfl) ?_
  (simp only [vcW,vZ,Int.reduceEq,Int.reduceNe,Int.reduceLT,Int.reduceLE,Nat.reduceEqDiff,Nat.reduceAdd,reduceIte,reduceCtorEq,Nat.reduceLT,Nat.reduceLeDiff,Nat.reduceShiftRight,Nat.reduceMod])
  (repeat' first | exact trivial | (with_reducible first | exact RnB.fxB (ints_fxB _) | rfl | refine And.intro ?_ ?_) | (with_reducible (first | refine RnB.bb ?_ | refine RnB.nb ?_);simp only [vcW,vZ,Int.reduceEq,Int.reduceNe,Int.reduceLT,Int.reduceLE,Nat.reduceEqDiff,Nat.reduceAdd,reduceIte,reduceCtorEq,Nat.reduceLT,Nat.reduceLeDiff,Nat.reduceShiftRight,Nat.reduceMod]) | (with_reducible first | refine RnB.ii ?_ | refine RnB.app ?_) | (with_reducible refine RnB.fxB ?_;simp only [vcW,vZ,Int.reduceEq,Int.reduceNe,Int.reduceLT,Int.reduceLE,Nat.reduceEqDiff,Nat.reduceAdd,reduceIte,reduceCtorEq,Nat.reduceLT,Nat.reduceLeDiff,Nat.reduceShiftRight,Nat.reduceMod]) | omega)
 ·simp only [skyL_length,vZ,Int.reduceEq,Int.reduceNe,Int.reduceLT,Int.reduceLE,Nat.reduceEqDiff,Nat.reduceAdd,reduceIte,reduceCtorEq,Nat.reduceLT,Nat.reduceLeDiff,Nat.reduceShiftRight,Nat.reduceMod]
  refine brB_split (fun h=>?_) (fun h=>?_)
  ·have h':i<s.length:=by (simp only [decide_eq_true_eq,decide_eq_false_iff_not,Bool.not_true,I64,Bool.not_eq_true',Bool.not_eq_false',bne_iff_ne,beq_iff_eq,ne_eq] at *;omega)
   clear h
   have hg:=skyL_get s i h'
   have hnx:s[i].length≤4→(s[i].all fun c=>decide (0≤c∧c≤60))=true→(s.take (i+1)).all (fun l=>decide (l.length≤4) && l.all fun c=>decide (0≤c∧c≤60))=true:=by
    intro h1 h2
    rw [List.take_succ_eq_append_getElem h',List.all_append,hn]
    simp only [List.all_cons,List.all_nil,decide_eq_true h1,h2];rfl
   have hbad:(decide (s[i].length≤4) && s[i].all fun c=>decide (0≤c∧c≤60))=false→smallW s=false:=by
    intro hz
    unfold smallW
    have:(s.all fun l=>decide (l.length≤4) && l.all fun c=>decide (0≤c∧c≤60))=false:=List.all_eq_false.2 ⟨s[i],List.getElem_mem h',by rw [hz];simp⟩
    rw [this,Bool.and_false,Bool.false_and]
   generalize s[i]=l at *
   by_cases h5:l.length≤4
   case neg =>
    have h5':(4:Int)<l.length:=by omega
    have hz:=hbad (by rw [decide_eq_false h5];rfl)
    simp only [hg,ints_length,h5',hz,vZ,Int.reduceEq,Int.reduceNe,Int.reduceLT,Int.reduceLE,Nat.reduceEqDiff,Nat.reduceAdd,reduceIte,reduceCtorEq,Nat.reduceLT,Nat.reduceLeDiff,Nat.reduceShiftRight,Nat.reduceMod]
    omega
   have h5':¬ (4:Int)<l.length:=by omega
   simp only [hg,ints_length,h5',vZ,Int.reduceEq,Int.reduceNe,Int.reduceLT,Int.reduceLE,Nat.reduceEqDiff,Nat.reduceAdd,reduceIte,reduceCtorEq,Nat.reduceLT,Nat.reduceLeDiff,Nat.reduceShiftRight,Nat.reduceMod]
   (repeat (with_reducible refine And.intro ?_ ?_;focus (first | omega | (unfold I64;omega))))
   refine W_loop (t:=.mk) (α:=PSigma fun k:Nat=>k≤l.length∧((l.take k).all fun c=>decide (0≤c∧c≤60))=true) (fun ⟨k,_⟩=>(envOf [(1,.ptr 1 0 0),(3,.int .i64 i),(4,.int .i64 k)],stOf [(1,⟨26,1,[.agg [.sl (skyL s)]]⟩)])) (fun k=>l.length - k.1) ⟨0,Nat.zero_le _,rfl⟩ ?_ (fun ⟨k,hk,ho⟩=>?_)
   ·refine weakX [] (of_decide_eq_true rfl) (of_decide_eq_true rfl) ?_
    (simp only [vcW,vZ,Int.reduceEq,Int.reduceNe,Int.reduceLT,Int.reduceLE,Nat.reduceEqDiff,Nat.reduceAdd,reduceIte,reduceCtorEq,Nat.reduceLT,Nat.reduceLeDiff,Nat.reduceShiftRight,Nat.reduceMod])
    (repeat' first | exact trivial | (with_reducible first | exact RnB.fxB (ints_fxB _) | rfl | refine And.intro ?_ ?_) | (with_reducible (first | refine RnB.bb ?_ | refine RnB.nb ?_);simp only [vcW,vZ,Int.reduceEq,Int.reduceNe,Int.reduceLT,Int.reduceLE,Nat.reduceEqDiff,Nat.reduceAdd,reduceIte,reduceCtorEq,Nat.reduceLT,Nat.reduceLeDiff,Nat.reduceShiftRight,Nat.reduceMod]) | (with_reducible first | refine RnB.ii ?_ | refine RnB.app ?_) | (with_reducible refine RnB.fxB ?_;simp only [vcW,vZ,Int.reduceEq,Int.reduceNe,Int.reduceLT,Int.reduceLE,Nat.reduceEqDiff,Nat.reduceAdd,reduceIte,reduceCtorEq,Nat.reduceLT,Nat.reduceLeDiff,Nat.reduceShiftRight,Nat.reduceMod]) | omega)
   ·simp only [hg,ints_length,vZ,Int.reduceEq,Int.reduceNe,Int.reduceLT,Int.reduceLE,Nat.reduceEqDiff,Nat.reduceAdd,reduceIte,reduceCtorEq,Nat.reduceLT,Nat.reduceLeDiff,Nat.reduceShiftRight,Nat.reduceMod]
    (repeat (with_reducible refine And.intro ?_ ?_;focus (first | omega | (unfold I64;omega))))
    refine brB_split (fun h=>?_) (fun h=>?_)
    ·have hk':k<l.length:=by (simp only [decide_eq_true_eq,decide_eq_false_iff_not,Bool.not_true,I64,Bool.not_eq_true',Bool.not_eq_false',bne_iff_ne,beq_iff_eq,ne_eq] at *;omega)
     clear h
     simp only [hg,ints_get l k hk',vZ,Int.reduceEq,Int.reduceNe,Int.reduceLT,Int.reduceLE,Nat.reduceEqDiff,Nat.reduceAdd,reduceIte,reduceCtorEq,Nat.reduceLT,Nat.reduceLeDiff,Nat.reduceShiftRight,Nat.reduceMod]
     (repeat (with_reducible refine And.intro ?_ ?_;focus (first | omega | (unfold I64;omega))))
     refine callS_of (Within_s _ _ _) ?_
     by_cases hc:0≤l[k]∧l[k]≤60
     ·simp only [hc,vZ,Int.reduceEq,Int.reduceNe,Int.reduceLT,Int.reduceLE,Nat.reduceEqDiff,Nat.reduceAdd,reduceIte,reduceCtorEq,Nat.reduceLT,Nat.reduceLeDiff,Nat.reduceShiftRight,Nat.reduceMod]
      (repeat (with_reducible refine And.intro ?_ ?_;focus (first | omega | (unfold I64;omega))))
      refine ⟨⟨k+1,hk',?_⟩,by simp only;omega,?_⟩
      ·rw [List.take_succ_eq_append_getElem hk',List.all_append,ho]
       simp [hc]
      ·refine weakX [] (of_decide_eq_true rfl) (of_decide_eq_true rfl) ?_
       (simp only [vcW,vZ,Int.reduceEq,Int.reduceNe,Int.reduceLT,Int.reduceLE,Nat.reduceEqDiff,Nat.reduceAdd,reduceIte,reduceCtorEq,Nat.reduceLT,Nat.reduceLeDiff,Nat.reduceShiftRight,Nat.reduceMod])
       (repeat' first | exact trivial | (with_reducible first | exact RnB.fxB (ints_fxB _) | rfl | refine And.intro ?_ ?_) | (with_reducible (first | refine RnB.bb ?_ | refine RnB.nb ?_);simp only [vcW,vZ,Int.reduceEq,Int.reduceNe,Int.reduceLT,Int.reduceLE,Nat.reduceEqDiff,Nat.reduceAdd,reduceIte,reduceCtorEq,Nat.reduceLT,Nat.reduceLeDiff,Nat.reduceShiftRight,Nat.reduceMod]) | (with_reducible first | refine RnB.ii ?_ | refine RnB.app ?_) | (with_reducible refine RnB.fxB ?_;simp only [vcW,vZ,Int.reduceEq,Int.reduceNe,Int.reduceLT,Int.reduceLE,Nat.reduceEqDiff,Nat.reduceAdd,reduceIte,reduceCtorEq,Nat.reduceLT,Nat.reduceLeDiff,Nat.reduceShiftRight,Nat.reduceMod]) | omega)
     ·have hz:=hbad (by
       have:(l.all fun c=>decide (0≤c∧c≤60))=false:=List.all_eq_false.2 ⟨l[k],List.getElem_mem hk',by simpa using hc⟩
       rw [this,Bool.and_false])
      simp only [hc,hz,vZ,Int.reduceEq,Int.reduceNe,Int.reduceLT,Int.reduceLE,Nat.reduceEqDiff,Nat.reduceAdd,reduceIte,reduceCtorEq,Nat.reduceLT,Nat.reduceLeDiff,Nat.reduceShiftRight,Nat.reduceMod]
    ·have hkl:k=l.length:=by (simp only [decide_eq_true_eq,decide_eq_false_iff_not,Bool.not_true,I64,Bool.not_eq_true',Bool.not_eq_false',bne_iff_ne,beq_iff_eq,ne_eq] at *;omega)
     cases hkl
     rw [List.take_length] at ho
     simp only [vZ,Int.reduceEq,Int.reduceNe,Int.reduceLT,Int.reduceLE,Nat.reduceEqDiff,Nat.reduceAdd,reduceIte,reduceCtorEq,Nat.reduceLT,Nat.reduceLeDiff,Nat.reduceShiftRight,Nat.reduceMod]
     (repeat (with_reducible refine And.intro ?_ ?_;focus (first | omega | (unfold I64;omega))))
     refine ⟨⟨i+1,h',hnx h5 ho⟩,by simp only;omega,?_⟩
     refine weakX [] (of_decide_eq_true rfl) (of_decide_eq_true rfl) ?_
     (simp only [vcW,vZ,Int.reduceEq,Int.reduceNe,Int.reduceLT,Int.reduceLE,Nat.reduceEqDiff,Nat.reduceAdd,reduceIte,reduceCtorEq,Nat.reduceLT,Nat.reduceLeDiff,Nat.reduceShiftRight,Nat.reduceMod])
     (repeat' first | exact trivial | (with_reducible first | exact RnB.fxB (ints_fxB _) | rfl | refine And.intro ?_ ?_) | (with_reducible (first | refine RnB.bb ?_ | refine RnB.nb ?_);simp only [vcW,vZ,Int.reduceEq,Int.reduceNe,Int.reduceLT,Int.reduceLE,Nat.reduceEqDiff,Nat.reduceAdd,reduceIte,reduceCtorEq,Nat.reduceLT,Nat.reduceLeDiff,Nat.reduceShiftRight,Nat.reduceMod]) | (with_reducible first | refine RnB.ii ?_ | refine RnB.app ?_) | (with_reducible refine RnB.fxB ?_;simp only [vcW,vZ,Int.reduceEq,Int.reduceNe,Int.reduceLT,Int.reduceLE,Nat.reduceEqDiff,Nat.reduceAdd,reduceIte,reduceCtorEq,Nat.reduceLT,Nat.reduceLeDiff,Nat.reduceShiftRight,Nat.reduceMod]) | omega)
  ·have hi':i=s.length:=by (simp only [decide_eq_true_eq,decide_eq_false_iff_not,Bool.not_true,I64,Bool.not_eq_true',Bool.not_eq_false',bne_iff_ne,beq_iff_eq,ne_eq] at *;omega)
   cases hi'
   rw [List.take_length] at hn
   have hsm:smallW s=decide ((skyE s).2=0):=by unfold smallW;rw [hn,decide_eq_true h4];rfl
   simp only [vZ,Int.reduceEq,Int.reduceNe,Int.reduceLT,Int.reduceLE,Nat.reduceEqDiff,Nat.reduceAdd,reduceIte,reduceCtorEq,Nat.reduceLT,Nat.reduceLeDiff,Nat.reduceShiftRight,Nat.reduceMod]
   refine callS_of (SkyErr_s s (by omega) (fun l h=>by have:=List.all_eq_true.1 hn l h;simp at this;omega)) ?_
   simp only [hsm,vZ,Int.reduceEq,Int.reduceNe,Int.reduceLT,Int.reduceLE,Nat.reduceEqDiff,Nat.reduceAdd,reduceIte,reduceCtorEq,Nat.reduceLT,Nat.reduceLeDiff,Nat.reduceShiftRight,Nat.reduceMod]

theorem countsE_of {l:List Int} (h1:l.length≤60) (h2:∀ x ∈ l,0≤x∧x≤1000000):countsE l=0:=by
 unfold countsE
 have:(l.all fun n=>decide (0≤n∧n≤1000000))=true:=by simpa using h2
 rw [if_neg (by omega),if_pos this]
end Go.Proofs.YtpaklfjlbocfcaaGreatDoor

/- Contracts: rings,what is frozen. By an AI agent;nothing here is trusted. -/
namespace Go.Proofs.YtpaklfjlbocfcaaGreatDoor
open Go.Av

structure Ring where
 cap:Int
 before:Int
 after:Int
def Ring.av (r:Ring):AV:=.agg [.int .i64 r.cap,.int .i64 r.before,.int .i64 r.after]
def Ring.ok (r:Ring):Prop:=(1≤r.cap∧r.cap≤60)∧(0≤r.before∧r.before≤60)∧(0≤r.after∧r.after≤60)
instance (r:Ring):Decidable r.ok:=by unfold Ring.ok;exact inferInstance
def ringE (r:Ring):Int:=if r.ok then 0 else 2
theorem ringE_ok {r:Ring} (h:ringE r=0):r.ok:=by
 unfold ringE at h
 by_cases hr:r.ok
 ·exact hr
 ·rw [if_neg hr] at h;omega

theorem CheckRing_s (r:Ring):Sound Tryz.prog 167 [r.av] (.int .i64 (ringE r)):=by
 refine sound_W f_watch_CheckRing (Nat.le_of_ble_eq_true rfl) ?_
 simp only [c_watch_CheckRing,Ring.av,vZ,Int.reduceEq,Int.reduceNe,Int.reduceLT,Int.reduceLE,Nat.reduceEqDiff,Nat.reduceAdd,reduceIte,reduceCtorEq,Nat.reduceLT,Nat.reduceLeDiff,Nat.reduceShiftRight,Nat.reduceMod]
 refine callS_of (within_s _ _ _) ?_
 by_cases h1:1≤r.cap∧r.cap≤60
 case neg =>
  have:ringE r=2:=if_neg fun h=>h1 h.1
  simp only [h1,vZ,Int.reduceEq,Int.reduceNe,Int.reduceLT,Int.reduceLE,Nat.reduceEqDiff,Nat.reduceAdd,reduceIte,reduceCtorEq,Nat.reduceLT,Nat.reduceLeDiff,Nat.reduceShiftRight,Nat.reduceMod]
  refine callS_of (unless_s _ _) ?_
  simp only [this,vZ,Int.reduceEq,Int.reduceNe,Int.reduceLT,Int.reduceLE,Nat.reduceEqDiff,Nat.reduceAdd,reduceIte,reduceCtorEq,Nat.reduceLT,Nat.reduceLeDiff,Nat.reduceShiftRight,Nat.reduceMod]
 simp only [h1,vZ,Int.reduceEq,Int.reduceNe,Int.reduceLT,Int.reduceLE,Nat.reduceEqDiff,Nat.reduceAdd,reduceIte,reduceCtorEq,Nat.reduceLT,Nat.reduceLeDiff,Nat.reduceShiftRight,Nat.reduceMod]
 refine callS_of (within_s _ _ _) ?_
 by_cases h2:0≤r.before∧r.before≤60
 case neg =>
  have:ringE r=2:=if_neg fun h=>h2 h.2.1
  simp only [h2,vZ,Int.reduceEq,Int.reduceNe,Int.reduceLT,Int.reduceLE,Nat.reduceEqDiff,Nat.reduceAdd,reduceIte,reduceCtorEq,Nat.reduceLT,Nat.reduceLeDiff,Nat.reduceShiftRight,Nat.reduceMod]
  refine callS_of (unless_s _ _) ?_
  simp only [this,vZ,Int.reduceEq,Int.reduceNe,Int.reduceLT,Int.reduceLE,Nat.reduceEqDiff,Nat.reduceAdd,reduceIte,reduceCtorEq,Nat.reduceLT,Nat.reduceLeDiff,Nat.reduceShiftRight,Nat.reduceMod]
 simp only [h2,vZ,Int.reduceEq,Int.reduceNe,Int.reduceLT,Int.reduceLE,Nat.reduceEqDiff,Nat.reduceAdd,reduceIte,reduceCtorEq,Nat.reduceLT,Nat.reduceLeDiff,Nat.reduceShiftRight,Nat.reduceMod]
 refine callS_of (within_s _ _ _) ?_
 by_cases h3:0≤r.after∧r.after≤60
 case neg =>
  have:ringE r=2:=if_neg fun h=>h3 h.2.2
  simp only [h3,vZ,Int.reduceEq,Int.reduceNe,Int.reduceLT,Int.reduceLE,Nat.reduceEqDiff,Nat.reduceAdd,reduceIte,reduceCtorEq,Nat.reduceLT,Nat.reduceLeDiff,Nat.reduceShiftRight,Nat.reduceMod]
  refine callS_of (unless_s _ _) ?_
  simp only [this,vZ,Int.reduceEq,Int.reduceNe,Int.reduceLT,Int.reduceLE,Nat.reduceEqDiff,Nat.reduceAdd,reduceIte,reduceCtorEq,Nat.reduceLT,Nat.reduceLeDiff,Nat.reduceShiftRight,Nat.reduceMod]
 have:ringE r=0:=if_pos ⟨h1,h2,h3⟩
 simp only [h3,vZ,Int.reduceEq,Int.reduceNe,Int.reduceLT,Int.reduceLE,Nat.reduceEqDiff,Nat.reduceAdd,reduceIte,reduceCtorEq,Nat.reduceLT,Nat.reduceLeDiff,Nat.reduceShiftRight,Nat.reduceMod]
 refine callS_of (unless_s _ _) ?_
 simp only [this,vZ,Int.reduceEq,Int.reduceNe,Int.reduceLT,Int.reduceLE,Nat.reduceEqDiff,Nat.reduceAdd,reduceIte,reduceCtorEq,Nat.reduceLT,Nat.reduceLeDiff,Nat.reduceShiftRight,Nat.reduceMod]

def alE1 (n last a:Int):Int:=if 0≤a∧a≤n - 1 then if last<a then 0 else 9 else 6
def alE (n:Int):Int→List Int→Int
 | _,[]=>0
 | last,a :: l=>if alE1 n last a ≠ 0 then alE1 n last a else alE n a l
def prevOf (l:List Int) (last:Int) (i:Nat):Int:=match i with
 | 0=>last
 | i+1=>l.getD i 0
theorem alE_take:∀ (n last:Int) (l:List Int) (i:Nat) (h:i<l.length),alE n last (l.take (i+1))=if alE n last (l.take i) ≠ 0 then alE n last (l.take i) else alE1 n (prevOf l last i) l[i]
 | n,last,a :: l,0,h=>by
  simp only [List.take_succ_cons,List.take_zero,alE,prevOf,List.getElem_cons_zero]
  by_cases h1:alE1 n last a=0 <;> simp [h1]
 | n,last,a :: l,i+1,h=>by
  have ih:=alE_take n a l i (by simpa using h)
  have hp:prevOf (a :: l) last (i+1)=prevOf l a i:=by cases i <;> rfl
  rw [List.take_succ_cons,List.take_succ_cons,hp]
  simp only [alE,List.getElem_cons_succ]
  by_cases h1:alE1 n last a=0
  ·simp only [h1,ne_eq,not_true_eq_false,if_false];exact ih
  ·simp only [h1,ne_eq,not_false_eq_true,if_true]
def alarmsE (n:Int) (l:List Int):Int:=alE n (-1) l

end Go.Proofs.YtpaklfjlbocfcaaGreatDoor

/- Contracts: the errors of a ring,its freezes. By an AI agent;nothing here is trusted. -/
namespace Go.Proofs.YtpaklfjlbocfcaaGreatDoor
open Go.Av

def rcE (r:Ring) (l:List Int):Int:=if ringE r ≠ 0 then ringE r else countsE l
def allE (r:Ring) (l al:List Int):Int:=if rcE r l ≠ 0 then rcE r l else alarmsE l.length al
def allTo (r:Ring) (l al:List Int) (i:Nat):Int:=if rcE r l ≠ 0 then rcE r l else alE l.length (-1) (al.take i)
theorem prevOf_succ (l:List Int) (i:Nat) (h:i<l.length):prevOf l (-1) (i+1)=l[i]:=by simp [prevOf,List.getD,List.getElem?_eq_getElem h]
theorem alE1_eq (n last a:Int):(if (if decide (0≤a∧a≤n - 1)=true then (0:Int) else 6) ≠ 0 then (if decide (0≤a∧a≤n - 1)=true then (0:Int) else 6) else (if decide (last<a)=true then (0:Int) else 9))=alE1 n last a:=by
 unfold alE1
 by_cases h1:0≤a∧a≤n - 1
 ·by_cases h2:last<a <;> simp [h1,h2]
 ·simp [h1]
theorem ringErr_s (r:Ring) (l al:List Int) (hl:l.length≤1000000000) (ha:al.length≤1000000000):Sound Tryz.prog 110 [r.av,.sl (ints l),.sl (ints al)] (.int .i64 (allE r l al)):=by
 refine sound_W f_watch_ringErr (Nat.le_of_ble_eq_true rfl) ?_
 simp only [c_watch_ringErr,Ring.av,vZ,Int.reduceEq,Int.reduceNe,Int.reduceLT,Int.reduceLE,Nat.reduceEqDiff,Nat.reduceAdd,reduceIte,reduceCtorEq,Nat.reduceLT,Nat.reduceLeDiff,Nat.reduceShiftRight,Nat.reduceMod]
 refine callS_of (CheckRing_s r) ?_
 simp only [vZ,Int.reduceEq,Int.reduceNe,Int.reduceLT,Int.reduceLE,Nat.reduceEqDiff,Nat.reduceAdd,reduceIte,reduceCtorEq,Nat.reduceLT,Nat.reduceLeDiff,Nat.reduceShiftRight,Nat.reduceMod]
 refine callS_of (countsErr_s l (by omega)) ?_
 simp only [vZ,Int.reduceEq,Int.reduceNe,Int.reduceLT,Int.reduceLE,Nat.reduceEqDiff,Nat.reduceAdd,reduceIte,reduceCtorEq,Nat.reduceLT,Nat.reduceLeDiff,Nat.reduceShiftRight,Nat.reduceMod]
 refine callS_of (first2_s _ _) ?_
 rw [show (if ringE r ≠ 0 then ringE r else countsE l)=rcE r l from rfl]
 have h0:allTo r l al 0=rcE r l:=by unfold allTo alE;by_cases h:rcE r l=0 <;> simp [h]
 simp only [vZ,Int.reduceEq,Int.reduceNe,Int.reduceLT,Int.reduceLE,Nat.reduceEqDiff,Nat.reduceAdd,reduceIte,reduceCtorEq,Nat.reduceLT,Nat.reduceLeDiff,Nat.reduceShiftRight,Nat.reduceMod]
 refine W_loop (t:=.mk) (α:=PSigma fun i:Nat=>i≤al.length∧(True)) (fun ⟨i,_⟩=>((envOf [(1,.sl (ints l)),(7,.int .i64 (allTo r l al i)),(8,.int .i64 (prevOf al (-1) i)),(17,.sl (ints al)),(18,.int .i64 al.length),(19,.int .i64 i)],stOf []))) (fun i=>al.length - i.1) ⟨0,Nat.zero_le _,?_⟩ ?_ (fun ⟨i,hi,hn⟩=>?_)
 ·trivial
 ·refine weakX [] (of_decide_eq_true rfl) (of_decide_eq_true rfl) ?_
  (simp only [h0,show prevOf al (-1) 0 = -1 from rfl,vcW,vZ,Int.reduceEq,Int.reduceNe,Int.reduceLT,Int.reduceLE,Nat.reduceEqDiff,Nat.reduceAdd,reduceIte,reduceCtorEq,Nat.reduceLT,Nat.reduceLeDiff,Nat.reduceShiftRight,Nat.reduceMod])
  (repeat' first | exact trivial | (with_reducible first | exact RnB.fxB (ints_fxB _) | rfl | refine And.intro ?_ ?_) | (with_reducible (first | refine RnB.bb ?_ | refine RnB.nb ?_);simp only [vcW,vZ,Int.reduceEq,Int.reduceNe,Int.reduceLT,Int.reduceLE,Nat.reduceEqDiff,Nat.reduceAdd,reduceIte,reduceCtorEq,Nat.reduceLT,Nat.reduceLeDiff,Nat.reduceShiftRight,Nat.reduceMod]) | (with_reducible first | refine RnB.ii ?_ | refine RnB.app ?_) | (with_reducible refine RnB.fxB ?_;simp only [vcW,vZ,Int.reduceEq,Int.reduceNe,Int.reduceLT,Int.reduceLE,Nat.reduceEqDiff,Nat.reduceAdd,reduceIte,reduceCtorEq,Nat.reduceLT,Nat.reduceLeDiff,Nat.reduceShiftRight,Nat.reduceMod]) | omega)
 ·simp only [vZ,Int.reduceEq,Int.reduceNe,Int.reduceLT,Int.reduceLE,Nat.reduceEqDiff,Nat.reduceAdd,reduceIte,reduceCtorEq,Nat.reduceLT,Nat.reduceLeDiff,Nat.reduceShiftRight,Nat.reduceMod]
  refine brB_split (fun h=>?_) (fun h=>?_)
  ·have h':i<al.length:=by (simp only [decide_eq_true_eq,decide_eq_false_iff_not,Bool.not_true,I64,Bool.not_eq_true',Bool.not_eq_false',bne_iff_ne,beq_iff_eq,ne_eq] at *;omega)
   clear h
   have hp:=prevOf_succ al i h'
   have hs:allTo r l al (i+1)=if allTo r l al i ≠ 0 then allTo r l al i else alE1 l.length (prevOf al (-1) i) al[i]:=by
    unfold allTo
    by_cases h0:rcE r l=0
    ·simp only [h0,ne_eq,not_true_eq_false,if_false];exact alE_take _ _ _ _ h'
    ·simp [h0]
   have he:=alE1_eq l.length (prevOf al (-1) i) al[i]
   have hg:=ints_get al i h'
   have hI:I64 ((l.length:Int) - 1):=by unfold I64;omega
   generalize al[i]=a at *
   generalize prevOf al (-1) i=pv at *
   simp only [hg,vZ,Int.reduceEq,Int.reduceNe,Int.reduceLT,Int.reduceLE,Nat.reduceEqDiff,Nat.reduceAdd,reduceIte,reduceCtorEq,Nat.reduceLT,Nat.reduceLeDiff,Nat.reduceShiftRight,Nat.reduceMod]
   (repeat (with_reducible refine And.intro ?_ ?_;focus (first | omega | (unfold I64;omega))))
   refine callS_of (within_s _ _ _) ?_
   simp only [vZ,Int.reduceEq,Int.reduceNe,Int.reduceLT,Int.reduceLE,Nat.reduceEqDiff,Nat.reduceAdd,reduceIte,reduceCtorEq,Nat.reduceLT,Nat.reduceLeDiff,Nat.reduceShiftRight,Nat.reduceMod]
   refine callS_of (unless_s _ _) ?_
   simp only [vZ,Int.reduceEq,Int.reduceNe,Int.reduceLT,Int.reduceLE,Nat.reduceEqDiff,Nat.reduceAdd,reduceIte,reduceCtorEq,Nat.reduceLT,Nat.reduceLeDiff,Nat.reduceShiftRight,Nat.reduceMod]
   refine callS_of (unless_s _ _) ?_
   simp only [vZ,Int.reduceEq,Int.reduceNe,Int.reduceLT,Int.reduceLE,Nat.reduceEqDiff,Nat.reduceAdd,reduceIte,reduceCtorEq,Nat.reduceLT,Nat.reduceLeDiff,Nat.reduceShiftRight,Nat.reduceMod]
   refine callS_of (first3_s _ _ _) ?_
   rw [he]
   simp only [vZ,Int.reduceEq,Int.reduceNe,Int.reduceLT,Int.reduceLE,Nat.reduceEqDiff,Nat.reduceAdd,reduceIte,reduceCtorEq,Nat.reduceLT,Nat.reduceLeDiff,Nat.reduceShiftRight,Nat.reduceMod]
   (repeat (with_reducible refine And.intro ?_ ?_;focus (first | omega | (unfold I64;omega))))
   refine ⟨⟨i+1,h',trivial⟩,by simp only;omega,?_⟩
   refine weakX [] (of_decide_eq_true rfl) (of_decide_eq_true rfl) ?_
   (simp only [hs,hp,vcW,vZ,Int.reduceEq,Int.reduceNe,Int.reduceLT,Int.reduceLE,Nat.reduceEqDiff,Nat.reduceAdd,reduceIte,reduceCtorEq,Nat.reduceLT,Nat.reduceLeDiff,Nat.reduceShiftRight,Nat.reduceMod])
   (repeat' first | exact trivial | (with_reducible first | exact RnB.fxB (ints_fxB _) | rfl | refine And.intro ?_ ?_) | (with_reducible (first | refine RnB.bb ?_ | refine RnB.nb ?_);simp only [vcW,vZ,Int.reduceEq,Int.reduceNe,Int.reduceLT,Int.reduceLE,Nat.reduceEqDiff,Nat.reduceAdd,reduceIte,reduceCtorEq,Nat.reduceLT,Nat.reduceLeDiff,Nat.reduceShiftRight,Nat.reduceMod]) | (with_reducible first | refine RnB.ii ?_ | refine RnB.app ?_) | (with_reducible refine RnB.fxB ?_;simp only [vcW,vZ,Int.reduceEq,Int.reduceNe,Int.reduceLT,Int.reduceLE,Nat.reduceEqDiff,Nat.reduceAdd,reduceIte,reduceCtorEq,Nat.reduceLT,Nat.reduceLeDiff,Nat.reduceShiftRight,Nat.reduceMod]) | omega)
  ·have:i=al.length:=by (simp only [decide_eq_true_eq,decide_eq_false_iff_not,Bool.not_true,I64,Bool.not_eq_true',Bool.not_eq_false',bne_iff_ne,beq_iff_eq,ne_eq] at *;omega)
   cases this
   simp only [vZ,Int.reduceEq,Int.reduceNe,Int.reduceLT,Int.reduceLE,Nat.reduceEqDiff,Nat.reduceAdd,reduceIte,reduceCtorEq,Nat.reduceLT,Nat.reduceLeDiff,Nat.reduceShiftRight,Nat.reduceMod]
   unfold allE allTo alarmsE
   rw [List.take_length]

def Ring.lo (r:Ring) (a:Int):Int:=max (max 0 (a - r.before)) (a - r.cap+1)
def Ring.hi (r:Ring) (n a:Int):Int:=min (n - 1) (a+r.after)
def frz1 (r:Ring) (n:Int) (out:List (Int × Int)) (a:Int):List (Int × Int) :=
 match out with
 | []=>[(r.lo a,r.hi n a)]
 | p :: out=>if r.lo a≤p.2+1 then (p.1,r.hi n a) :: out else (r.lo a,r.hi n a) :: p :: out
def frzTo (r:Ring) (n:Int) (al:List Int) (i:Nat):List (Int × Int):=(al.take i).foldl (frz1 r n) []
def frz (r:Ring) (n:Int) (al:List Int):List (Int × Int):=(frzTo r n al al.length).reverse
theorem frzTo_succ (r:Ring) (n:Int) (al:List Int) (i:Nat) (h:i<al.length):frzTo r n al (i+1)=frz1 r n (frzTo r n al i) al[i]:=by
 unfold frzTo;rw [List.take_succ_eq_append_getElem h,List.foldl_append];rfl
theorem frz1_le (r:Ring) (n:Int) (out:List (Int × Int)) (a:Int):(frz1 r n out a).length≤out.length+1:=by
 unfold frz1
 cases out with
 | nil=>simp
 | cons p out=>simp only;split <;> simp
theorem frzTo_le (r:Ring) (n:Int) (al:List Int):∀ (i:Nat),i≤al.length→(frzTo r n al i).length≤i
 | 0,_=>by simp [frzTo]
 | i+1,h=>by
  rw [frzTo_succ r n al i h]
  have:=frz1_le r n (frzTo r n al i) al[i]
  have:=frzTo_le r n al i (by omega)
  omega
def rngA2 (p:Int × Int):AV:=.agg [.int .i64 p.1,.int .i64 p.2]
def rngs (fs:List (Int × Int)):List AV:=fs.map rngA2
theorem rngs_length (fs:List (Int × Int)):(rngs fs).length=fs.length:=by simp [rngs]
theorem rngs_rev (p:Int × Int) (out:List (Int × Int)):rngs (p :: out).reverse=rngs out.reverse ++ [rngA2 p]:=by simp [rngs]
theorem rngs_last (p:Int × Int) (out:List (Int × Int)):(rngs (p :: out).reverse)[out.length]?=some (rngA2 p):=by
 rw [rngs_rev,List.getElem?_append_right (by rw [rngs_length,List.length_reverse];exact Nat.le_refl _)]
 simp [rngs_length]
theorem rngs_set (p q:Int × Int) (out:List (Int × Int)):(rngs (p :: out).reverse).set out.length (rngA2 q)=rngs (q :: out).reverse:=by
 rw [rngs_rev,rngs_rev,List.set_append_right _ _ (by rw [rngs_length,List.length_reverse];exact Nat.le_refl _)]
 simp [rngs_length]
theorem rngs_fxB (fs:List (Int × Int)):(rngs fs).all Go.Av.fx=true:=List.all_eq_true.2 fun x hx=>by
 obtain ⟨p,_,rfl⟩:=List.mem_map.1 hx
 rfl
theorem rngs_get (fs:List (Int × Int)) (i:Nat) (h:i<fs.length):(rngs fs)[i]?=some (rngA2 fs[i]):=by simp [rngs,h]

theorem frz_bd {r:Ring} (hr:r.ok) {n:Int} (hn:0≤n∧n≤60) {al:List Int} (ha:∀ a ∈ al,0≤a∧a≤60):∀ (i:Nat),i≤al.length→∀ p ∈ frzTo r n al i,(0≤p.1∧p.1≤60)∧(-1≤p.2∧p.2≤60)
 | 0,_=>by simp [frzTo]
 | i+1,h=>by
  intro p hp
  have ih:=frz_bd hr hn ha i (by omega)
  have hai:=ha _ (List.getElem_mem (show i<al.length from h))
  rw [frzTo_succ r n al i h] at hp
  generalize al[i]=a at *
  generalize frzTo r n al i=out at *
  obtain ⟨hr1,hr2,hr3⟩:=hr
  have hlo:r.lo a=max (max 0 (a - r.before)) (a - r.cap+1):=rfl
  have hhi:r.hi n a=min (n - 1) (a+r.after):=rfl
  have lb:0≤r.lo a∧r.lo a≤60:=by omega
  have hb : -1≤r.hi n a∧r.hi n a≤60:=by omega
  unfold frz1 at hp
  cases out with
  | nil =>
   simp only at hp
   rw [List.mem_singleton.1 hp]
   exact ⟨lb,hb⟩
  | cons q out =>
   simp only at hp
   by_cases hc:r.lo a≤q.2+1
   ·rw [if_pos hc] at hp
    rcases List.mem_cons.1 hp with e | e
    ·rw [e];exact ⟨(ih q List.mem_cons_self).1,hb⟩
    ·exact ih p (List.mem_cons_of_mem _ e)
   ·rw [if_neg hc] at hp
    rcases List.mem_cons.1 hp with e | e
    ·rw [e];exact ⟨lb,hb⟩
    ·exact ih p e

set_option maxHeartbeats 4000000 in
theorem freezes_s (r:Ring) (hr:r.ok) (n:Int) (hn:0≤n∧n≤60) (al:List Int) (ha:∀ a ∈ al,0≤a∧a≤60) (hal:al.length≤1000):Sound Tryz.prog 111 [r.av,.int .i64 n,.sl (ints al)] (.sl (rngs (frz r n al))):=by
 refine sound_W f_watch_freezes (Nat.le_of_ble_eq_true rfl) ?_
 have hn0:=hn
 have hn:=hn0
 obtain ⟨hr1,hr2,hr3⟩:=id hr
 have hmax:=maxLen_big
 simp only [c_watch_freezes,Ring.av,vZ,Int.reduceEq,Int.reduceNe,Int.reduceLT,Int.reduceLE,Nat.reduceEqDiff,Nat.reduceAdd,reduceIte,reduceCtorEq,Nat.reduceLT,Nat.reduceLeDiff,Nat.reduceShiftRight,Nat.reduceMod]
 refine W_loop (t:=.mk) (α:=PSigma fun i:Nat=>i≤al.length∧(True)) (fun ⟨i,_⟩=>((envOf [(1,.int .i64 n),(3,.ptr 3 0 0),(7,.buf 100 (frzTo r n al i).length),(12,.sl (ints al)),(13,.int .i64 al.length),(14,.int .i64 i)],stOf [(3,⟨91,3,[r.av]⟩),(100,⟨97,2,rngs (frzTo r n al i).reverse⟩)]))) (fun i=>al.length - i.1) ⟨0,Nat.zero_le _,?_⟩ ?_ (fun ⟨i,hi,hn⟩=>?_)
 ·trivial
 ·refine weakX [(100,none)] (of_decide_eq_true rfl) (of_decide_eq_true rfl) ?_
  have hz1:frzTo r n al 0=[]:=rfl
  have hz2:rngs (List.reverse [])=[]:=rfl
  (simp only [hz1,hz2,Ring.av,vcW,vZ,Int.reduceEq,Int.reduceNe,Int.reduceLT,Int.reduceLE,Nat.reduceEqDiff,Nat.reduceAdd,reduceIte,reduceCtorEq,Nat.reduceLT,Nat.reduceLeDiff,Nat.reduceShiftRight,Nat.reduceMod])
  (repeat' first | exact trivial | (with_reducible first | exact RnB.fxB (ints_fxB _) | rfl | refine And.intro ?_ ?_) | (with_reducible (first | refine RnB.bb ?_ | refine RnB.nb ?_);simp only [vcW,vZ,Int.reduceEq,Int.reduceNe,Int.reduceLT,Int.reduceLE,Nat.reduceEqDiff,Nat.reduceAdd,reduceIte,reduceCtorEq,Nat.reduceLT,Nat.reduceLeDiff,Nat.reduceShiftRight,Nat.reduceMod]) | (with_reducible first | refine RnB.ii ?_ | refine RnB.app ?_) | (with_reducible refine RnB.fxB ?_;simp only [vcW,vZ,Int.reduceEq,Int.reduceNe,Int.reduceLT,Int.reduceLE,Nat.reduceEqDiff,Nat.reduceAdd,reduceIte,reduceCtorEq,Nat.reduceLT,Nat.reduceLeDiff,Nat.reduceShiftRight,Nat.reduceMod]) | omega)
 ·simp only [vZ,Int.reduceEq,Int.reduceNe,Int.reduceLT,Int.reduceLE,Nat.reduceEqDiff,Nat.reduceAdd,reduceIte,reduceCtorEq,Nat.reduceLT,Nat.reduceLeDiff,Nat.reduceShiftRight,Nat.reduceMod]
  refine brB_split (fun h=>?_) (fun h=>?_)
  ·have h':i<al.length:=by (simp only [decide_eq_true_eq,decide_eq_false_iff_not,Bool.not_true,I64,Bool.not_eq_true',Bool.not_eq_false',bne_iff_ne,beq_iff_eq,ne_eq] at *;omega)
   clear h
   have hs:=frzTo_succ r n al i h'
   have hle:=frzTo_le r n al i hi
   have hg:=ints_get al i h'
   have hai:=ha _ (List.getElem_mem h')
   have hlo:r.lo al[i]=max (max 0 (al[i] - r.before)) (al[i] - r.cap+1):=rfl
   have hhi:r.hi n al[i]=min (n - 1) (al[i]+r.after):=rfl
   generalize al[i]=a at *
   generalize hout:frzTo r n al i=out at *
   have lb : -1≤r.lo a∧r.lo a≤60:=by omega
   have hb : -1≤r.hi n a∧r.hi n a≤60:=by omega
   cases out with
   | nil =>
    have hf:frz1 r n [] a=[(r.lo a,r.hi n a)]:=rfl
    rw [hf] at hs
    have hrg:rngs [(r.lo a,r.hi n a)].reverse=[.agg [.int .i64 (r.lo a),.int .i64 (r.hi n a)]]:=rfl
    have z0:¬ (0:Int)<((0:Nat):Int):=by omega
    have hz2:rngs (List.reverse [])=[]:=rfl
    simp only [hg,Ring.av,z0,hz2,vZ,Int.reduceEq,Int.reduceNe,Int.reduceLT,Int.reduceLE,Nat.reduceEqDiff,Nat.reduceAdd,reduceIte,reduceCtorEq,Nat.reduceLT,Nat.reduceLeDiff,Nat.reduceShiftRight,Nat.reduceMod]
    (repeat (with_reducible refine And.intro ?_ ?_;focus (first | omega | (unfold I64;omega))))
    refine ⟨⟨i+1,h',trivial⟩,by simp only;omega,?_⟩
    refine weakX [(100,some 62)] (of_decide_eq_true rfl) (of_decide_eq_true rfl) ?_
    (simp only [hs,hrg,Ring.av,← hlo,← hhi,vcW,vZ,Int.reduceEq,Int.reduceNe,Int.reduceLT,Int.reduceLE,Nat.reduceEqDiff,Nat.reduceAdd,reduceIte,reduceCtorEq,Nat.reduceLT,Nat.reduceLeDiff,Nat.reduceShiftRight,Nat.reduceMod])
    (repeat' first | exact trivial | (with_reducible first | exact RnB.fxB (ints_fxB _) | rfl | refine And.intro ?_ ?_) | (with_reducible (first | refine RnB.bb ?_ | refine RnB.nb ?_);simp only [vcW,vZ,Int.reduceEq,Int.reduceNe,Int.reduceLT,Int.reduceLE,Nat.reduceEqDiff,Nat.reduceAdd,reduceIte,reduceCtorEq,Nat.reduceLT,Nat.reduceLeDiff,Nat.reduceShiftRight,Nat.reduceMod]) | (with_reducible first | refine RnB.ii ?_ | refine RnB.app ?_) | (with_reducible refine RnB.fxB ?_;simp only [vcW,vZ,Int.reduceEq,Int.reduceNe,Int.reduceLT,Int.reduceLE,Nat.reduceEqDiff,Nat.reduceAdd,reduceIte,reduceCtorEq,Nat.reduceLT,Nat.reduceLeDiff,Nat.reduceShiftRight,Nat.reduceMod]) | omega)
   | cons p out =>
    have z1:(0:Int)<((out.length+1:Nat):Int):=by omega
    have z2:((out.length+1:Nat):Int) - 1=(out.length:Int):=by omega
    have hlast:=rngs_last p out
    rw [show rngA2 p=.agg [.int .i64 p.1,.int .i64 p.2] from rfl] at hlast
    have hll:(rngs (p :: out).reverse).length=out.length+1:=by rw [rngs_length,List.length_reverse];rfl
    have hp2:=(frz_bd hr hn0 ha i hi p (by rw [hout];exact List.mem_cons_self)).2
    have hlen:(p :: out).length=out.length+1:=rfl
    obtain ⟨es,hes⟩:∃ es,es=rngs (p :: out).reverse:=⟨_,rfl⟩
    have hset:∀ q,(rngs (p :: out).reverse).set out.length (.agg [.int .i64 p.1,.int .i64 q])=rngs ((p.1,q) :: out).reverse:=fun q=>rngs_set p (p.1,q) out
    by_cases hc:r.lo a≤p.2+1
    ·have hf:frz1 r n (p :: out) a=(p.1,r.hi n a) :: out:=if_pos hc
     rw [hf] at hs
     rw [← hes] at hlast hll hset ⊢
     simp only [hg,Ring.av,z1,z2,← hlo,← hhi,hlast,hc,vZ,Int.reduceEq,Int.reduceNe,Int.reduceLT,Int.reduceLE,Nat.reduceEqDiff,Nat.reduceAdd,reduceIte,reduceCtorEq,Nat.reduceLT,Nat.reduceLeDiff,Nat.reduceShiftRight,Nat.reduceMod]
     (repeat (with_reducible refine And.intro ?_ ?_;focus (first | omega | (unfold I64;omega))))
     refine ⟨⟨i+1,h',trivial⟩,by simp only;omega,?_⟩
     refine weakX [] (of_decide_eq_true rfl) (of_decide_eq_true rfl) ?_
     (simp only [hs,Ring.av,← hlo,← hhi,vcW,vZ,Int.reduceEq,Int.reduceNe,Int.reduceLT,Int.reduceLE,Nat.reduceEqDiff,Nat.reduceAdd,reduceIte,reduceCtorEq,Nat.reduceLT,Nat.reduceLeDiff,Nat.reduceShiftRight,Nat.reduceMod])
     (repeat' first | exact trivial | (with_reducible first | exact RnB.fxB (ints_fxB _) | rfl | refine And.intro ?_ ?_) | (with_reducible (first | refine RnB.bb ?_ | refine RnB.nb ?_);simp only [vcW,vZ,Int.reduceEq,Int.reduceNe,Int.reduceLT,Int.reduceLE,Nat.reduceEqDiff,Nat.reduceAdd,reduceIte,reduceCtorEq,Nat.reduceLT,Nat.reduceLeDiff,Nat.reduceShiftRight,Nat.reduceMod]) | (with_reducible first | refine RnB.ii ?_ | refine RnB.app ?_) | (with_reducible refine RnB.fxB ?_;simp only [vcW,vZ,Int.reduceEq,Int.reduceNe,Int.reduceLT,Int.reduceLE,Nat.reduceEqDiff,Nat.reduceAdd,reduceIte,reduceCtorEq,Nat.reduceLT,Nat.reduceLeDiff,Nat.reduceShiftRight,Nat.reduceMod]) | omega)
     exact RnB.eq (hset _) (by rw [hset];exact rngs_fxB _)
    ·have hf:frz1 r n (p :: out) a=(r.lo a,r.hi n a) :: p :: out:=if_neg hc
     rw [hf] at hs
     have hrg:rngs (List.reverse ((r.lo a,r.hi n a) :: p :: out))=rngs (p :: out).reverse ++ [AV.agg [AV.int IntKind.i64 (r.lo a),AV.int IntKind.i64 (r.hi n a)]]:=rngs_rev _ _
     rw [← hes] at hlast hll hset hrg ⊢
     simp only [hg,Ring.av,z1,z2,← hlo,← hhi,hlast,hc,vZ,Int.reduceEq,Int.reduceNe,Int.reduceLT,Int.reduceLE,Nat.reduceEqDiff,Nat.reduceAdd,reduceIte,reduceCtorEq,Nat.reduceLT,Nat.reduceLeDiff,Nat.reduceShiftRight,Nat.reduceMod]
     (repeat (with_reducible refine And.intro ?_ ?_;focus (first | omega | (unfold I64;omega))))
     refine ⟨⟨i+1,h',trivial⟩,by simp only;omega,?_⟩
     refine weakX [(100,some 62)] (of_decide_eq_true rfl) (of_decide_eq_true rfl) ?_
     (simp only [hs,hrg,Ring.av,← hlo,← hhi,vcW,vZ,Int.reduceEq,Int.reduceNe,Int.reduceLT,Int.reduceLE,Nat.reduceEqDiff,Nat.reduceAdd,reduceIte,reduceCtorEq,Nat.reduceLT,Nat.reduceLeDiff,Nat.reduceShiftRight,Nat.reduceMod])
     (repeat' first | exact trivial | (with_reducible first | exact RnB.fxB (ints_fxB _) | rfl | refine And.intro ?_ ?_) | (with_reducible (first | refine RnB.bb ?_ | refine RnB.nb ?_);simp only [vcW,vZ,Int.reduceEq,Int.reduceNe,Int.reduceLT,Int.reduceLE,Nat.reduceEqDiff,Nat.reduceAdd,reduceIte,reduceCtorEq,Nat.reduceLT,Nat.reduceLeDiff,Nat.reduceShiftRight,Nat.reduceMod]) | (with_reducible first | refine RnB.ii ?_ | refine RnB.app ?_) | (with_reducible refine RnB.fxB ?_;simp only [vcW,vZ,Int.reduceEq,Int.reduceNe,Int.reduceLT,Int.reduceLE,Nat.reduceEqDiff,Nat.reduceAdd,reduceIte,reduceCtorEq,Nat.reduceLT,Nat.reduceLeDiff,Nat.reduceShiftRight,Nat.reduceMod]) | omega)
     exact RnB.fxB (by rw [← hrg];exact rngs_fxB _)
  ·have:i=al.length:=by (simp only [decide_eq_true_eq,decide_eq_false_iff_not,Bool.not_true,I64,Bool.not_eq_true',Bool.not_eq_false',bne_iff_ne,beq_iff_eq,ne_eq] at *;omega)
   cases this
   simp only [vZ,Int.reduceEq,Int.reduceNe,Int.reduceLT,Int.reduceLE,Nat.reduceEqDiff,Nat.reduceAdd,reduceIte,reduceCtorEq,Nat.reduceLT,Nat.reduceLeDiff,Nat.reduceShiftRight,Nat.reduceMod]
   unfold frz
   rw [borB_good _ _ _ _ _ (by rw [rngs_length,List.length_reverse]) (List.all_eq_true.1 (rngs_fxB _))]
end Go.Proofs.YtpaklfjlbocfcaaGreatDoor

