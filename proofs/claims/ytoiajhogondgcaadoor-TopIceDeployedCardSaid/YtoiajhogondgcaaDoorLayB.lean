/- Maps whose keys are pairs of integers: the model's operations, and what they do to abstract values. By an AI agent; nothing here is trusted. -/
import Derived.Test.YtoiajhogondgcaaDoorLayA
import Derived.Laws.IdiomRangeMap
import Derived.RangeFuncRecord
import Derived.Laws.IdiomStrings
import Derived.TacticsIn
import Derived.OrdersIn
set_option linter.defProp false
set_option linter.unusedSimpArgs false
set_option linter.unusedVariables false
namespace Go.Av
variable {P:Program}

def intF (P:Program) (f:Field):Bool:=match P.underlying f.type,P.info? f.type with
 | some (.int .i64),some i=>i.size == 1
 | _,_=>false
def pairT (P:Program) (k:TypeId):Bool:=(!scalarT P k) && tagsOf P k == some [1,1] && (match P.underlying k with
 | some (.struct fs)=>fs.toList.all fun f=>intF P f && decide (f.offset<2)
 | _=>false)
def mapTy (P:Program) (t:TypeId):Bool:=match P.underlying t with
 | some (.map k e)=>pairT P k && (match P.underlying e,P.info? e with
  | some (.int .i64),some i=>(match i.zero with
   | some (.int .i64 0)=>true
   | _=>false)
  | _,_=>false)
 | _=>false

def pairV (c r:Int):Value:=.agg #[.int .i64 c,.int .i64 r]

theorem intF_run {f:Field} (hf:intF P f=true) (n:Nat) (em:Bool) (c r:Int) (ho:f.offset<2) (w:World) :
  ∃ v,(part f.type #[.int .i64 c,.int .i64 r] f.offset).run P w=.ok v w∧(Instr.checkKey em (n+1) f.type v).run P w=.ok () w:=by
 unfold intF at hf
 split at hf
 ·rename_i i hu hi
  have ha:(isAgg f.type).run P w=.ok false w:=by simp [isAgg,run_underlying hu]
  have hp:(part f.type #[.int .i64 c,.int .i64 r] f.offset).run P w=.ok (if f.offset=0 then .int .i64 c else .int .i64 r) w:=by
   unfold part
   simp only [Sem.run_bind,ha,Result.andThen_ok,Bool.false_eq_true,if_false]
   have:f.offset=0∨f.offset=1:=by omega
   rcases this with h | h <;> simp [h]
  refine ⟨_,hp,?_⟩
  split <;> simp [Instr.checkKey,run_underlying hu]
 ·cases hf

theorem run_checkKey_pair {k:TypeId} (hk:pairT P k=true) (em:Bool) (c r:Int) (w:World):(Instr.checkKey em 10000 k (pairV c r)).run P w=.ok () w:=by
 unfold pairT at hk
 simp only [Bool.and_eq_true] at hk
 obtain ⟨_,h⟩:=hk
 split at h
 ·rename_i fs hu
  have key:∀ n,(Instr.checkKey em (n+2) k (pairV c r)).run P w=.ok () w:=by
   intro n
   rw [Instr.checkKey]
   simp only [pairV,Sem.run_bind,run_underlying hu,Result.andThen_ok]
   rw [← Array.forIn_toList]
   generalize fs.toList=l at h
   induction l with
   | nil=>simp
   | cons f l ih =>
    simp only [List.all_cons,Bool.and_eq_true,decide_eq_true_eq] at h
    obtain ⟨⟨h1,h2⟩,h3⟩:=h
    obtain ⟨v,hr1,hr2⟩:=intF_run h1 n em c r h2 w
    have ih:=ih (by simpa using h3)
    by_cases hn:f.name = "_"
    ·simp [hn];simpa using ih
    ·simp [hn,hr1,hr2];simpa using ih
  exact key 9998
 ·cases h

theorem run_equal_pair {k:TypeId} (hk:pairT P k=true) (c r c' r':Int) (w:World):(Op.equal k (pairV c r) (pairV c' r')).run P w=.ok (c == c' && r == r') w:=by
 unfold pairT at hk
 simp only [Bool.and_eq_true,Bool.not_eq_true',beq_iff_eq] at hk
 obtain ⟨⟨hsc,ht⟩,_⟩:=hk
 unfold tagsOf at ht
 split at ht
 ·rename_i l hl
  split at ht
  ·rename_i hc
   obtain ⟨p,q,rfl⟩:∃ p q,l=[p,q]:=by
    match l,ht with
    | [p,q],_=>exact ⟨p,q,rfl⟩
    | [],ht=>simp at ht
    | [_],ht=>simp at ht
    | _ :: _ :: _ :: _,ht=>simp at ht
   obtain ⟨hc1,_⟩:=hc
   obtain ⟨p1,p2⟩:=p
   obtain ⟨q1,q2⟩:=q
   have hp:p1=0∧q1=1:=by simpa [List.range_succ] using hc1
   have hq:p2=1∧q2=1:=by simpa using ht
   obtain ⟨rfl,rfl⟩:=hp
   obtain ⟨rfl,rfl⟩:=hq
   have hv:∀ c r:Int,Val P w.heap (fun _=>False) (fun _=>none) (fun _=>none) k (pairV c r) [.int .i64 c,.int .i64 r]:=fun c r=>by
    simp only [Val,hsc,Bool.false_eq_true,if_false]
    refine ⟨_,rfl,fun i x hx=>?_⟩
    match i,hx with
    | 0,hx=>simp at hx;subst hx;exact ⟨_,rfl,.int _ _⟩
    | 1,hx=>simp at hx;subst hx;exact ⟨_,rfl,.int _ _⟩
   have:=run_cmp (P:=P) (w:=w) 6 k _ hl 10000 (by omega) w.heap _ _ _ _ (hv c r) (hv c' r') (by
    intro j hj
    simp at hj
    rcases hj with rfl | rfl <;> exact ⟨_,rfl⟩)
   refine this.trans ?_
   congr 1
   simp [eqAll,eq1,eqT]
   rfl
  ·cases ht
 ·cases ht

def idxM:Ents→Int→Int→Nat→Option (Nat × Int)
 | [],_,_,_=>none
 | e :: M,c,r,i=>if atK c r e then some (i,e.2.2.1) else idxM M c r (i+1)

theorem run_findKey_pair {k:TypeId} (hk:pairT P k=true) (c r:Int) (M:Ents) (w:World) :
  (Instr.findKey k (pairV c r) (M.map entOf)).run P w=.ok ((idxM M c r 0).map fun p=>(p.1,.int .i64 p.2)) w:=by
 have hask:∀ (M:Ents) (i:Nat),(Instr.findAsking k (pairV c r) (M.map entOf) i).run P w=.ok ((idxM M c r i).map fun p=>(p.1,.int .i64 p.2)) w:=by
  intro M
  induction M with
  | nil=>intro i;rfl
  | cons e M ih =>
   intro i
   have he:=run_equal_pair hk c r e.1 e.2.1 w
   simp only [List.map_cons,Instr.findAsking,Sem.run_bind]
   rw [show (entOf e).key=pairV e.1 e.2.1 from rfl,he]
   simp only [Result.andThen_ok]
   by_cases h:atK c r e=true
   ·have h':(c == e.1 && r == e.2.1)=true:=by
     simp only [atK,Bool.and_eq_true,beq_iff_eq] at h ⊢
     exact ⟨h.1.symm,h.2.symm⟩
    simp [idxM,h,h',entOf]
   ·have h':(c == e.1 && r == e.2.1)=false:=by
     rw [Bool.eq_false_iff]
     intro hh
     apply h
     simp only [atK,Bool.and_eq_true,beq_iff_eq] at hh ⊢
     exact ⟨hh.1.symm,hh.2.symm⟩
    simp only [h',Bool.false_eq_true,if_false,idxM]
    rw [if_neg h]
    exact ih (i+1)
 have hu:∃ fs,P.underlying k=some (.struct fs):=by
  unfold pairT at hk
  simp only [Bool.and_eq_true] at hk
  obtain ⟨_,h⟩:=hk
  split at h
  ·exact ⟨_,by assumption⟩
  ·cases h
 obtain ⟨fs,hu⟩:=hu
 cases M with
 | nil=>simp [Instr.findKey,run_underlying hu,Instr.findNow,idxM]
 | cons e M =>
  have hnow:Instr.findNow (.struct fs) (pairV c r) ((e :: M).map entOf) 0=none:=by
   simp [Instr.findNow,Instr.sameNow]
  simp only [Instr.findKey,Sem.run_bind,run_underlying hu,Result.andThen_ok,hnow]
  exact hask (e :: M) 0

theorem idxM_find (c r:Int):∀ (M:Ents) (i:Nat),(idxM M c r i).map (·.2)=findM M c r
 | [],_=>rfl
 | e :: M,i=>by
  by_cases h:atK c r e=true
  ·simp [idxM,findM,h]
  ·have:=idxM_find c r M (i+1)
   simp only [idxM,findM] at this ⊢
   rw [if_neg h,List.find?_cons_of_neg h]
   exact this
theorem idxM_set (c r n:Int) (clk:Nat):∀ (M:Ents) (i j:Nat) (v:Int),idxM M c r i=some (j,v) →
  i≤j∧(M.map entOf).modify (j - i) (fun e=>{ e with key:=pairV c r,val:=.int .i64 n })=(setM M clk c r n).map entOf∧(M[j - i]?).map (fun e=>(entOf e).key)=some (pairV c r)
 | [],_,_,_,h=>by simp [idxM] at h
 | e :: M,i,j,v,h=>by
  by_cases hk:atK c r e=true
  ·simp only [idxM,hk,if_true,Option.some.injEq,Prod.mk.injEq] at h
   obtain ⟨rfl,_⟩:=h
   have he:e.1=c∧e.2.1=r:=by simpa [atK] using hk
   refine ⟨Nat.le_refl _,?_,?_⟩
   ·simp [setM,hk,entOf,he.1,he.2,pairV]
   ·simp [entOf,he.1,he.2,pairV]
  ·simp only [idxM] at h
   rw [if_neg hk] at h
   obtain ⟨h1,h2,h3⟩:=idxM_set c r n clk M (i+1) j v h
   obtain ⟨q,rfl⟩:∃ q,j=i+1+q:=⟨j - (i+1),by omega⟩
   have e1:i+1+q - (i+1)=q:=by omega
   have e2:i+1+q - i=q+1:=by omega
   rw [e1] at h2 h3
   rw [e2]
   refine ⟨by omega,?_,?_⟩
   ·simp only [List.map_cons,List.modify_succ_cons,setM]
    rw [if_neg hk,h2];rfl
   ·simpa using h3
theorem idxM_new (c r n:Int) (clk:Nat):∀ (M:Ents) (i:Nat),idxM M c r i=none→setM M clk c r n=M ++ [(c,r,n,clk)]
 | [],_,_=>rfl
 | e :: M,i,h=>by
  by_cases hk:atK c r e=true
  ·simp [idxM,hk] at h
  ·simp only [idxM] at h
   rw [if_neg hk] at h
   simp only [setM]
   rw [if_neg hk,idxM_new c r n clk M (i+1) h];rfl
theorem idxM_del (c r:Int):∀ (M:Ents) (i j:Nat) (v:Int),idxM M c r i=some (j,v)→i≤j∧M.eraseIdx (j - i)=delM M c r
 | [],_,_,_,h=>by simp [idxM] at h
 | e :: M,i,j,v,h=>by
  by_cases hk:atK c r e=true
  ·simp only [idxM,hk,if_true,Option.some.injEq,Prod.mk.injEq] at h
   obtain ⟨rfl,_⟩:=h
   exact ⟨Nat.le_refl _,by simp [delM,hk]⟩
  ·simp only [idxM] at h
   rw [if_neg hk] at h
   obtain ⟨h1,h2⟩:=idxM_del c r M (i+1) j v h
   obtain ⟨q,rfl⟩:∃ q,j=i+1+q:=⟨j - (i+1),by omega⟩
   have e1:i+1+q - (i+1)=q:=by omega
   have e2:i+1+q - i=q+1:=by omega
   rw [e1] at h2
   rw [e2]
   refine ⟨by omega,?_⟩
   simp only [List.eraseIdx_cons_succ,delM]
   rw [if_neg hk,h2]
theorem idxM_delN (c r:Int):∀ (M:Ents) (i:Nat),idxM M c r i=none→delM M c r=M
 | [],_,_=>rfl
 | e :: M,i,h=>by
  by_cases hk:atK c r e=true
  ·simp [idxM,hk] at h
  ·simp only [idxM] at h
   rw [if_neg hk] at h
   simp only [delM]
   rw [if_neg hk,idxM_delN c r M (i+1) h]

theorem run_lookup_pair {t k el:TypeId} (ht:P.underlying t=some (.map k el)) (hk:pairT P k=true) (hz:∀ w,(zeroValue el).run P w=.ok (.int .i64 0) w) {M:Ents} {clk b:Nat} {w:World} (hb:w.heap[b]?=some (mapObj M clk)) (c r:Int) (ok:Bool) :
  (Instr.lookup t (.map (some b)) (pairV c r) ok).run P w=.ok (if ok then .tuple #[.int .i64 ((findM M c r).getD 0),.bool (findM M c r).isSome] else .int .i64 ((findM M c r).getD 0)) w:=by
 have hg:=MapKept.run_getObj_map (P:=P) hb
 have hf:=run_findKey_pair hk c r M w
 have hi:=idxM_find c r M 0
 simp only [Instr.lookup,Sem.run_bind,run_underlying ht,Result.andThen_ok,hg,run_checkKey_pair hk,Sem.run_pure,hf]
 cases h:idxM M c r 0 with
 | none=>rw [h] at hi;simp only [Option.map_none] at hi;simp [← hi,hz]
 | some p=>rw [h] at hi;simp only [Option.map_some] at hi;simp [← hi]

theorem run_stays_pair (c r:Int) (w:World):(Instr.keyThatStays (pairV c r) (pairV c r)).run P w=.ok (pairV c r) w:=by
 have:Instr.sameBits 10000 (pairV c r) (pairV c r)=true:=by
  show Instr.sameBits (9999+1) _ _=true
  simp only [pairV,Instr.sameBits]
  simp [Instr.sameBits]
 simp [Instr.keyThatStays,this]

theorem run_setObj_put {w:World} {b:Nat} {es:Array MapEntry} {clk:Nat} (hb:w.heap[b]?=some (.map es clk)) (o:Obj):(setObj b o).run P w=.ok () (w.putObj b o) :=
 MapKept.run_setObj_map o hb

theorem run_update_pair {t k el:TypeId} (ht:P.underlying t=some (.map k el)) (hk:pairT P k=true) {M:Ents} {clk b:Nat} {w:World} (hb:w.heap[b]?=some (mapObj M clk)) (c r n:Int) :
  (Instr.mapUpdate t (.map (some b)) (pairV c r) (.int .i64 n)).run P w=.ok () (w.putObj b (mapObj (setM M clk c r n) (clkM M clk c r))):=by
 have hg:=MapKept.run_getObj_map (P:=P) hb
 have hf:=run_findKey_pair hk c r M w
 have hi:=idxM_find c r M 0
 have hs:=fun o=>run_setObj_put (P:=P) hb o
 simp only [Instr.mapUpdate,Sem.run_bind,run_underlying ht,Result.andThen_ok,hg,run_checkKey_pair hk,hf]
 cases h:idxM M c r 0 with
 | none =>
  rw [h] at hi
  simp only [Option.map_none] at hi ⊢
  rw [hs]
  simp [mapObj,clkM,← hi,idxM_new c r n clk M 0 h,entOf,pairV]
 | some p =>
  obtain ⟨j,v⟩:=p
  rw [h] at hi
  obtain ⟨h1,h2,h3⟩:=idxM_set c r n clk M 0 j v h
  simp only [Nat.sub_zero] at h2 h3
  have hkey:(((M.map entOf).toArray[j]?).map (·.key)).getD (pairV c r)=pairV c r:=by
   have:((M.map entOf).toArray[j]?).map (·.key)=(M[j]?).map (fun e=>(entOf e).key):=by simp [Function.comp_def]
   rw [this,h3];rfl
  simp only [Option.map_some,Sem.run_bind,hkey,run_stays_pair,Result.andThen_ok,hs]
  congr 2
  simp only [mapObj,clkM,← hi,Option.map_some,Option.isSome_some,if_true]
  congr 1
  rw [← h2]
  simp

theorem run_delete_pair {t k el u:TypeId} (ht:P.underlying t=some (.map k el)) (hk:pairT P k=true) {M:Ents} {clk b:Nat} {w:World} (hb:w.heap[b]?=some (mapObj M clk)) (c r:Int) (tt:TypeId) :
  (Builtin.delete_ #[t,u] tt #[.map (some b),pairV c r]).run P w=.ok (.tuple #[]) (w.putObj b (mapObj (delM M c r) clk)):=by
 have hg:=MapKept.run_getObj_map (P:=P) hb
 have hf:=run_findKey_pair hk c r M w
 have hs:=fun o=>run_setObj_put (P:=P) hb o
 simp only [Builtin.delete_,List.getElem?_toArray,List.getElem?_cons_zero,List.getElem?_cons_succ,Sem.run_bind,run_underlying ht,Result.andThen_ok,hg,run_checkKey_pair hk,hf]
 cases h:idxM M c r 0 with
 | none=>simp [hs,idxM_delN c r M 0 h,mapObj]
 | some p =>
  obtain ⟨j,v⟩:=p
  obtain ⟨h1,h2⟩:=idxM_del c r M 0 j v h
  simp only [Nat.sub_zero] at h2
  simp only [Option.map_some,Sem.run_bind,hs,Result.andThen_ok,mapObj,← h2]
  have hme:∀ (l:Ents) (i:Nat),(l.map entOf).eraseIdx i=(l.eraseIdx i).map entOf:=by
   intro l
   induction l with
   | nil=>intro i;rfl
   | cons y l ih=>intro i;cases i <;> simp [ih]
  simp only [Array.eraseIdxIfInBounds,List.size_toArray,List.length_map]
  split
  ·simp [hme]
  ·rename_i hlt
   rw [List.eraseIdx_of_length_le (by omega)];simp

section
variable {N B:Nat} {w0:World} {ok0:F0} {ok:Nat→Prop} {ρ:Nat→Option Nat} {e:Env} {s:Store} {a:Act} {w:World}
theorem Rel.newM (hR:Rel N B w0 ok0 ok ρ e s a w) {d:Nat} {K:Blk} {o:MObj} {x:Obj} {w':World} (hd:s d=none) (hz:K.sz=0) (hes:K.es=[.mo o]) (hty:K.ty=o.kind) (hx:ObjIs ρ s o x) (hw:w'.heap=w.heap.push x) (hb:Below w.heap.size w w') :
  Rel N B w0 ok0 ok (upd ρ d (some w.heap.size)) e (upd s d (some (some K))) a w':=by
 have hne:∀ k,s k ≠ none→k ≠ d:=fun k hk e=>hk (e ▸ hd)
 have hold:∀ b,b<w.heap.size→w'.heap[b]?=w.heap[b]?:=fun b hb=>by rw [hw,Array.getElem?_push,if_neg (by omega)]
 have hg:Goes w.heap w'.heap ρ (upd ρ d (some w.heap.size)) s (upd s d (some (some K))):=by
  refine ⟨fun k hk=>by rw [upd_other _ _ _ _ (hne k (by simp [hk]))];exact hk,fun k K hk=>.inr ⟨K,?_,rfl,rfl,?_,fun b cur _ hb=>⟨cur,?_,rfl⟩⟩⟩
  ·rw [upd_other _ _ _ _ (hne k (by simp [hk]))];exact hk
  ·rw [upd_other _ _ _ _ (hne k (by simp [hk]))]
  ·rw [hold b (Array.getElem?_eq_some_iff.1 hb).1];exact hb
 have hh:∀ b,ok b→w'.heap[b]?=w.heap[b]?:=fun b hb=>hold b (hR.oklt b hb).1
 constructor
 ·exact hR.defers.mono (fun _ h=>h) hh
 ·exact hR.size
 ·exact hR.below.trans (hb.mono hR.base)
 ·rw [hw,Array.size_push];have:=hR.base;omega
 ·exact fun n=>(hR.tmps n).mono (fun _ h=>h) hh hg
 ·intro b hb;rw [hw,Array.size_push];have:=hR.oklt b hb;exact ⟨by omega,this.2⟩
 ·exact hR.okold
 ·intro k K' hk
  by_cases hkd:k=d
  ·subst hkd
   rw [upd_same] at hk
   cases hk
   exact .inr ⟨hz,w.heap.size,o,x,upd_same _ _ _,hR.base,fun h=>absurd (hR.oklt _ h).1 (Nat.lt_irrefl _),⟨_,hes,rfl⟩,hty,by rw [hw];simp,hx.mono hg⟩
  ·rw [upd_other _ _ _ _ hkd] at hk
   refine (hR.live k K' hk).mono (fun _ h=>h) hh hg (upd_other _ _ _ _ hkd) fun b hb=>⟨?_,fun _ h=>h⟩
   exact hold b (hR.bound hk hb).1
 ·intro k k' K K' b h1 h2 h3 h4
  by_cases hk:k=d <;> by_cases hk':k'=d
  ·rw [hk,hk']
  ·subst hk
   rw [upd_other _ _ _ _ hk'] at h2 h4
   rw [upd_same] at h3;cases h3
   have:=(hR.bound h2 h4).1;omega
  ·subst hk'
   rw [upd_other _ _ _ _ hk] at h1 h3
   rw [upd_same] at h4;cases h4
   have:=(hR.bound h1 h3).1;omega
  ·rw [upd_other _ _ _ _ hk] at h1 h3
   rw [upd_other _ _ _ _ hk'] at h2 h4
   exact hR.inj k k' K K' b h1 h2 h3 h4
 ·exact fun b hb=>(hh b (hR.okold b hb)).trans (hR.kept b hb)
 ·exact hR.goes.trans hg
 ·exact hR.gok

theorem Rel.setM (hR:Rel N B w0 ok0 ok ρ e s a w) {k b:Nat} {K K2:Blk} {o:MObj} {x:Obj} (hk:s k=some (some K)) (hr:ρ k=some b) (hz:K.sz=0) (hz2:K2.sz=0) (hty:K2.ty=K.ty) (hes:K2.es=[.mo o]) (hty2:K2.ty=o.kind) (hx:ObjIs ρ s o x) :
  Rel N B w0 ok0 ok ρ e (upd s k (some (some K2))) a (w.putObj b x):=by
 obtain ⟨hbl,hBb,hnok⟩:=hR.bound hk hr
 have hother:∀ j,j ≠ b→(w.putObj b x).heap[j]?=w.heap[j]?:=fun j hj=>World.putObj_heap_other hj
 have hsz:(w.putObj b x).heap.size=w.heap.size:=World.putObj_size
 have hg:Goes w.heap (w.putObj b x).heap ρ ρ s (upd s k (some (some K2))):=by
  refine ⟨fun j hj=>by rw [upd_other _ _ _ _ (by rintro rfl;rw [hk] at hj;cases hj)];exact hj,fun j J hj=>.inr ?_⟩
  by_cases hjk:j=k
  ·subst hjk
   rw [hk] at hj;cases hj
   refine ⟨_,upd_same _ _ _,hty,hz2.trans hz.symm,rfl,fun b' c' hb' hc'=>?_⟩
   rw [hr] at hb';cases hb'
   have:=hR.pos hk hr hc'
   omega
  ·refine ⟨J,by rw [upd_other _ _ _ _ hjk];exact hj,rfl,rfl,rfl,fun b' c' hb' hc'=>⟨c',?_,rfl⟩⟩
   rw [hother b' (fun h=>hjk (hR.inj j k J K b hj hk (h ▸ hb') hr))];exact hc'
 have hh:∀ b',ok b'→(w.putObj b x).heap[b']?=w.heap[b']?:=fun b' hb'=>hother b' (fun h=>hnok (h ▸ hb'))
 constructor
 ·exact hR.defers.mono (fun _ h=>h) hh
 ·exact hR.size
 ·exact hR.below.trans ⟨⟨rfl,rfl,rfl,Nat.le_of_eq hsz.symm,fun c hc=>hother c (by omega)⟩,Nat.le_refl _⟩
 ·rw [hsz];exact hR.base
 ·exact fun n=>(hR.tmps n).mono (fun _ h=>h) hh hg
 ·rw [hsz];exact hR.oklt
 ·exact hR.okold
 ·intro j J hj
  by_cases hjk:j=k
  ·subst hjk
   rw [upd_same] at hj;cases hj
   exact .inr ⟨hz2,b,o,x,hr,hBb,hnok,⟨_,hes,rfl⟩,hty2,World.putObj_heap_same hbl,hx.mono hg⟩
  ·rw [upd_other _ _ _ _ hjk] at hj
   refine (hR.live j J hj).mono (fun _ h=>h) hh hg rfl fun b' hb'=>⟨?_,fun _ h=>h⟩
   exact hother b' (fun h=>hjk (hR.inj j k J K b hj hk (h ▸ hb') hr))
 ·have key:∀ i I,upd s k (some (some K2)) i=some (some I)→∃ I',s i=some (some I'):=by
   intro i I hi
   by_cases hik:i=k
   ·exact ⟨K,hik ▸ hk⟩
   ·rw [upd_other _ _ _ _ hik] at hi;exact ⟨I,hi⟩
  intro j j' J J' b' h1 h2 h3 h4
  obtain ⟨I,g1⟩:=key j J h1
  obtain ⟨I',g2⟩:=key j' J' h2
  exact hR.inj j j' I I' b' g1 g2 h3 h4
 ·exact fun b' hb'=>(hh b' (hR.okold b' hb')).trans (hR.kept b' hb')
 ·exact hR.goes.trans hg
 ·exact hR.gok

theorem vr_pair {X:AV} {v:Value} {q:Int × Int} (hx:VR w.heap ok ρ s X v) (hq:keyP X=some q):v=pairV q.1 q.2:=by
 unfold keyP at hq
 split at hq
 ·rename_i c r
  cases hq
  cases hx with
  | agg cs vs hl hv =>
   have h0:=hv 0 _ rfl
   have h1:=hv 1 _ rfl
   generalize e0:vs.getD 0 undef=v0 at h0
   generalize e1:vs.getD 1 undef=v1 at h1
   cases h0
   cases h1
   have hl:vs.size=2:=hl.symm
   have:vs=#[vs.getD 0 undef,vs.getD 1 undef]:=by
    apply Array.ext
    ·simp [hl]
    ·intro i h1 h2
     have:i=0∨i=1:=by omega
     rcases this with rfl | rfl <;> simp [Array.getD,hl]
   rw [this,e0,e1];rfl
 ·cases hq

theorem mapOfB_eq {x:Option (Option Blk)} {m:Ents × Nat} (h:mapOfB x=some m):x=some (some (mapB m.1 m.2)):=by
 unfold mapOfB at h
 split at h
 ·cases h;rfl
 ·cases h
theorem iterOfB_eq {x:Option (Option Blk)} {m:Nat × Nat × List Nat × Nat} (h:iterOfB x=some m):x=some (some (iterB m.1 m.2.1 m.2.2.1 m.2.2.2)):=by
 unfold iterOfB at h
 split at h
 ·cases h;rfl
 ·cases h

theorem Rel.mapAt (hR:Rel N B w0 ok0 ok ρ e s a w) {k:Nat} {m:Ents × Nat} {v:Value} (hx:VR w.heap ok ρ s (.mp k) v) (hm:mapOfB (s k)=some m):∃ b,v=.map (some b)∧ρ k=some b∧w.heap[b]?=some (mapObj m.1 m.2):=by
 have hs:=mapOfB_eq hm
 cases hx with
 | mpd _ _ hd=>rw [hs] at hd;cases hd
 | mitd _ _ hd=>rw [hs] at hd;cases hd
 | mit _ K b hσ hr hz=>rw [hs] at hσ;cases hσ;cases hz.2
 | mp _ K b hσ hr hz =>
  obtain ⟨_,b',o,x,h1,h2,h3,⟨y,h4,h4'⟩,h5,h6,h7⟩:=(hR.live k _ hs).map rfl
  rw [hr] at h1;cases h1
  cases h4
  cases h4'
  cases h7
  exact ⟨b,rfl,hr,h6⟩

theorem Rel.mapOfAt (hR:Rel N B w0 ok0 ok ρ e s a w) {X:AV} {m:Ents × Nat} {v:Value} (hx:VR w.heap ok ρ s X v) (hm:mapOf s X=some m):∃ b,v=.map (some b)∧w.heap[b]?=some (mapObj m.1 m.2):=by
 cases X with
 | mp k=>obtain ⟨b,h1,_,h2⟩:=hR.mapAt hx hm;exact ⟨b,h1,h2⟩
 | mo o=>cases o with
  | map M clk =>
   cases hm
   cases hx with
   | mo _ _ b hok hb=>exact ⟨b,rfl,hb⟩
  | iter=>cases hm
  | nil=>cases hm
 | _=>cases hm

theorem mapTy_spec {t:TypeId} (h:mapTy P t=true):∃ k el,P.underlying t=some (.map k el)∧pairT P k=true∧∀ w,(zeroValue el).run P w=.ok (.int .i64 0) w:=by
 unfold mapTy at h
 split at h
 ·rename_i k el hu
  simp only [Bool.and_eq_true] at h
  obtain ⟨h1,h2⟩:=h
  refine ⟨k,el,hu,h1,fun w=>?_⟩
  split at h2
  ·rename_i i hi hinf
   split at h2
   ·rename_i hz
    simp [zeroValue,typeInfo,hinf,hz]
   ·cases h2
  ·cases h2
 ·cases h

theorem sim_mapGet (hR:Rel N B w0 ok0 ok ρ e s a w) {t:TypeId} (ht:mapTy P t=true) {x y:Operand} {c:Bool} {d:Nat} {v:AV} {s':Store} (hx:ex d (.mapo (.get c) [cX x,cX y]) e s=some (v,s')) :
  Sim N B w0 ok0 ok e a ((do pure (Next.value (← Instr.lookup t (a.eval x) (a.eval y) c)):Sem Next).run P w) v s':=by
 obtain ⟨k,el,h1,h2,h3⟩:=mapTy_spec ht
 simp only [ex,mapX,List.map_cons,List.map_nil] at hx
 obtain ⟨q,hq,hx⟩:=Option.bind_eq_some_iff.1 hx
 obtain ⟨m,hm,hx⟩:=Option.map_eq_some_iff.1 hx
 cases hx
 obtain ⟨b,hb,hh⟩:=hR.mapOfAt (hR.ev x) hm
 have hy:=vr_pair (hR.ev y) hq
 have hrun:=run_lookup_pair h1 h2 h3 hh q.1 q.2 c
 rw [hb,hy]
 refine Sim.same hR (val:=if c then .tuple #[.int .i64 ((findM m.1 q.1 q.2).getD 0),.bool (findM m.1 q.1 q.2).isSome] else .int .i64 ((findM m.1 q.1 q.2).getD 0)) (by simp [hrun]) ?_
 unfold getV
 cases c
 ·exact .int _ _
 ·refine .tup _ _ rfl fun i u hu=>?_
  match i,hu with
  | 0,hu=>simp at hu;subst hu;exact .int _ _
  | 1,hu=>simp at hu;subst hu;exact .bool _

theorem sim_mapSet (hR:Rel N B w0 ok0 ok ρ e s a w) {t:TypeId} (ht:mapTy P t=true) {x y z:Operand} {d:Nat} {v:AV} {s':Store} (hx:ex d (.mapo .set [cX x,cX y,cX z]) e s=some (v,s')) :
  Sim N B w0 ok0 ok e a ((do Instr.mapUpdate t (a.eval x) (a.eval y) (a.eval z);pure Next.skip:Sem Next).run P w) v s':=by
 obtain ⟨k,el,h1,h2,h3⟩:=mapTy_spec ht
 have vx:=hR.ev x
 have vz:=hR.ev z
 simp only [ex,mapX,List.map_cons,List.map_nil] at hx
 generalize (cX x).ev e=X at hx vx
 generalize (cX z).ev e=Z at hx vz
 split at hx
 ·rename_i l k' q n heq
  simp only [List.cons.injEq,and_true] at heq
  obtain ⟨rfl,rfl,rfl⟩:=heq
  obtain ⟨q,hq,hx⟩:=Option.bind_eq_some_iff.1 hx
  obtain ⟨m,hm,hx⟩:=Option.map_eq_some_iff.1 hx
  cases hx
  obtain ⟨b,hb,hr,hh⟩:=hR.mapAt vx hm
  have hy:=vr_pair (hR.ev y) hq
  have hz:a.eval z=.int .i64 n:=by generalize a.eval z=u at vz;cases vz;rfl
  have hrun:=run_update_pair h1 h2 hh q.1 q.2 n
  rw [hb,hy,hz]
  exact ⟨ok,ρ,_,fun _ h=>h,hR.setM (mapOfB_eq hm) hr rfl rfl rfl rfl rfl rfl,.inr ⟨by simp [hrun],rfl⟩⟩
 ·cases hx

theorem sim_mapDel (hR:Rel N B w0 ok0 ok ρ e s a w) {t u:TypeId} (ht:mapTy P t=true) {x y:Operand} {tt:TypeId} {d:Nat} {v:AV} {s':Store} (hx:ex d (.mapo .del [cX x,cX y]) e s=some (v,s')) :
  Sim N B w0 ok0 ok e a ((do pure (Next.value (← Builtin.delete_ #[t,u] tt #[a.eval x,a.eval y])):Sem Next).run P w) v s':=by
 obtain ⟨k,el,h1,h2,h3⟩:=mapTy_spec ht
 have vx:=hR.ev x
 simp only [ex,mapX,List.map_cons,List.map_nil] at hx
 generalize (cX x).ev e=X at hx vx
 split at hx
 ·rename_i l k' q heq
  simp only [List.cons.injEq,and_true] at heq
  obtain ⟨rfl,rfl⟩:=heq
  obtain ⟨q,hq,hx⟩:=Option.bind_eq_some_iff.1 hx
  obtain ⟨m,hm,hx⟩:=Option.map_eq_some_iff.1 hx
  cases hx
  obtain ⟨b,hb,hr,hh⟩:=hR.mapAt vx hm
  have hy:=vr_pair (hR.ev y) hq
  have hrun:=run_delete_pair (u:=u) h1 h2 hh q.1 q.2 tt
  rw [hb,hy]
  exact ⟨ok,ρ,_,fun _ h=>h,hR.setM (mapOfB_eq hm) hr rfl rfl rfl rfl rfl rfl,.inl ⟨.tuple #[],by simp [hrun],.tup _ _ rfl fun i c h=>by simp at h⟩⟩
 ·cases hx

theorem sim_mapMake (hR:Rel N B w0 ok0 ok ρ e s a w) {t:TypeId} {d:Nat} {v:AV} {s':Store} (hx:ex d (.mapo .make []) e s=some (v,s')) :
  Sim N B w0 ok0 ok e a ((do pure (Next.value (← Instr.makeMap t none)):Sem Next).run P w) v s':=by
 simp only [ex,mapX,List.map_nil] at hx
 obtain ⟨h1,hx⟩:=reqB_some hx
 cases hx
 have hn:=hR.newM (d:=d) (K:=mapB [] 0) (o:=.map [] 0) (x:=mapObj [] 0) (w':=w.alloc (mapObj [] 0)) (isNone_eq h1) rfl rfl rfl rfl rfl ((Below.refl _ _).alloc (Nat.le_refl _) _)
 exact ⟨ok,_,_,fun _ h=>h,hn,.inl ⟨.map (some w.heap.size),rfl,.mp d (mapB [] 0) _ (upd_same _ _ _) (upd_same _ _ _) ⟨rfl,rfl⟩⟩⟩

theorem sim_mapLen (hR:Rel N B w0 ok0 ok ρ e s a w) {t:TypeId} (ht:mapTy P t=true) {x:Operand} {tt:TypeId} {d:Nat} {v:AV} {s':Store} (hx:ex d (.mapo .len [cX x]) e s=some (v,s')) :
  Sim N B w0 ok0 ok e a ((do pure (Next.value (← Builtin.len_ #[t] tt #[a.eval x])):Sem Next).run P w) v s':=by
 obtain ⟨k,el,h1,h2,h3⟩:=mapTy_spec ht
 simp only [ex,mapX,List.map_cons,List.map_nil] at hx
 obtain ⟨m,hm,hx⟩:=Option.map_eq_some_iff.1 hx
 cases hx
 obtain ⟨b,hb,hh⟩:=hR.mapOfAt (hR.ev x) hm
 have hg:=MapKept.run_getObj_map (P:=P) hh
 rw [hb]
 refine Sim.same hR (val:=.int .i64 m.1.length) ?_ (.int _ _)
 simp [Builtin.len_,run_underlying h1,hg,goInt]

theorem sim_mapRange (hR:Rel N B w0 ok0 ok ρ e s a w) {t:TypeId} (ht:mapTy P t=true) {x:Operand} {d:Nat} {v:AV} {s':Store} (hx:ex d (.mapo .range [cX x]) e s=some (v,s')) :
  Sim N B w0 ok0 ok e a ((do pure (Next.value (← Instr.range t (a.eval x))):Sem Next).run P w) v s':=by
 obtain ⟨k,el,h1,h2,h3⟩:=mapTy_spec ht
 have vx:=hR.ev x
 simp only [ex,mapX,List.map_cons,List.map_nil] at hx
 generalize (cX x).ev e=X at hx vx
 split at hx
 ·rename_i l k' heq
  simp only [List.cons.injEq,and_true] at heq
  subst heq
  obtain ⟨m,hm,hx⟩:=Option.bind_eq_some_iff.1 hx
  obtain ⟨hd,hx⟩:=reqB_some hx
  cases hx
  obtain ⟨b,hb,hr,hh⟩:=hR.mapAt vx hm
  have hrun:=run_range_map (P:=P) w t k el b _ _ h1 hh
  have hn:=hR.newM (d:=d) (K:=iterB k' m.2 [] m.2) (o:=.iter k' m.2 [] m.2) (x:=.mapIter (some b) m.2 #[] m.2) (w':=w.alloc (.mapIter (some b) m.2 #[] m.2)) (isNone_eq hd) rfl rfl rfl
   ⟨b,rfl,.inr ⟨hr,_,mapOfB_eq hm⟩⟩ rfl ((Below.refl _ _).alloc (Nat.le_refl _) _)
  rw [hb]
  exact ⟨ok,_,_,fun _ h=>h,hn,.inl ⟨.pointer (some ⟨w.heap.size,0,none⟩),by simp [hrun],.mit d (iterB k' m.2 [] m.2) _ (upd_same _ _ _) (upd_same _ _ _) ⟨rfl,rfl⟩⟩⟩
 ·cases hx

theorem Rel.iterAt (hR:Rel N B w0 ok0 ok ρ e s a w) {k:Nat} {i:Nat × Nat × List Nat × Nat} {m:Ents × Nat} {v:Value} (hx:VR w.heap ok ρ s (.mp k) v) (hi:iterOfB (s k)=some i) (hm:mapOfB (s i.1)=some m) :
  ∃ b bm,v=.pointer (some ⟨b,0,none⟩)∧ρ k=some b∧ρ i.1=some bm∧w.heap[b]?=some (.mapIter (some bm) i.2.1 i.2.2.1.toArray i.2.2.2)∧w.heap[bm]?=some (mapObj m.1 m.2):=by
 have hs:=iterOfB_eq hi
 have hsm:=mapOfB_eq hm
 cases hx with
 | mpd _ _ hd=>rw [hs] at hd;cases hd
 | mitd _ _ hd=>rw [hs] at hd;cases hd
 | mp _ K b hσ hr hz=>rw [hs] at hσ;cases hσ;cases hz.2
 | mit _ K b hσ hr hz =>
  obtain ⟨_,b',o,x,h1,h2,h3,⟨y,h4,h4'⟩,h5,h6,h7⟩:=(hR.live k _ hs).map rfl
  rw [hr] at h1;cases h1
  cases h4
  cases h4'
  obtain ⟨bm,rfl,h8 | ⟨h8,_⟩⟩:=h7
  ·rw [hsm] at h8;cases h8
  ·obtain ⟨_,b',o,x,g1,g2,g3,⟨y,g4,g4'⟩,g5,g6,g7⟩:=(hR.live i.1 _ hsm).map rfl
   rw [h8] at g1;cases g1
   cases g4
   cases g4'
   cases g7
   exact ⟨b,bm,rfl,hr,h8,h6,g6⟩

theorem sim_mapEntry (hR:Rel N B w0 ok0 ok ρ e s a w) {x:Operand} {d:Nat} {v:AV} {s':Store} (hx:ex d (.mapo .entry [cX x]) e s=some (v,s')) :
  Sim N B w0 ok0 ok e a ((do pure (Next.value (← Instr.entry (a.eval x))):Sem Next).run P w) v s':=by
 have vx:=hR.ev x
 simp only [ex,mapX,List.map_cons,List.map_nil] at hx
 generalize (cX x).ev e=X at hx vx
 split at hx
 ·rename_i l k' heq
  simp only [List.cons.injEq,and_true] at heq
  subst heq
  obtain ⟨i,hi,hx⟩:=Option.bind_eq_some_iff.1 hx
  obtain ⟨m,hm,hx⟩:=Option.bind_eq_some_iff.1 hx
  obtain ⟨st,hst,hx⟩:=Option.bind_eq_some_iff.1 hx
  obtain ⟨hc,hx⟩:=reqB_some hx
  obtain ⟨en,hen,hx⟩:=Option.map_eq_some_iff.1 hx
  cases hx
  obtain ⟨b,bm,hb,hr,hrm,hh,hhm⟩:=hR.iterAt vx hi hm
  have hg1:(getObj b).run P w=.ok (.mapIter (some bm) i.2.1 i.2.2.1.toArray i.2.2.2) w:=by simp [getObj,Sem.run,hh]
  have hg2:=MapKept.run_getObj_map (P:=P) hhm
  have hback:i.2.2.1.toArray.back?=some st:=by simpa using hst
  have hfind:((m.1.map entOf).toArray.find? (fun e=>e.born == st))=some (entOf en):=by
   rw [List.find?_toArray,List.find?_map]
   have:((fun e:MapEntry=>e.born == st) ∘ entOf)=fun e=>e.2.2.2 == st:=rfl
   rw [this,hen];rfl
  have hcl:m.2=i.2.2.2:=by simpa using hc
  rw [hb]
  refine Sim.same hR (val:=.tuple #[(entOf en).key,(entOf en).val]) ?_ ?_
  ·simp [Instr.entry,hg1,hg2,hback,hcl,hfind]
  ·refine .tup _ _ rfl fun j u hu=>?_
   match j,hu with
   | 0,hu =>
    simp at hu;subst hu
    refine .agg _ _ rfl fun j u hu=>?_
    match j,hu with
    | 0,hu=>simp at hu;subst hu;exact .int _ _
    | 1,hu=>simp at hu;subst hu;exact .int _ _
   | 1,hu=>simp at hu;subst hu;exact .int _ _
 ·cases hx

def cOpM (P:Program) (o:Oper):Option MOp :=
 match o.op with
 | .makeMap _ none=>some (.mapo .make [])
 | .mapUpdate t m k x=>if mapTy P t then some (.mapo .set [cX m,cX k,cX x]) else none
 | .insert t m k x=>if mapTy P t then some (.mapo .set [cX m,cX k,cX x]) else none
 | .lookup t m k c=>if mapTy P t then some (.mapo (.get c) [cX m,cX k]) else none
 | .range t x=>if mapTy P t then some (.mapo .range [cX x]) else none
 | .entry x=>some (.mapo .entry [cX x])
 | .call c=>match c.callee with
  | .builtin .len=>match c.args.toList,c.argTypes.toList with
   | [x],[t]=>if mapTy P t then some (.mapo .len [cX x]) else none
   | _,_=>none
  | .builtin .delete=>match c.args.toList,c.argTypes.toList with
   | [x,y],[t,_]=>if mapTy P t then some (.mapo .del [cX x,cX y]) else none
   | _,_=>none
  | _=>none
 | _=>none

theorem sim_opM (hR:Rel N B w0 ok0 ok ρ e s a w) {o:Oper} {m:MOp} (hc:cOpM P o=some m) {d:Nat} {v:AV} {s':Store} (hx:ex d m e s=some (v,s')) :
  Sim N B w0 ok0 ok e a ((execOp a.eval o).run P w) v s':=by
 unfold cOpM at hc
 split at hc
 ·rename_i t hop
  cases hc
  have:=sim_mapMake (P:=P) (t:=t) hR hx
  unfold execOp;rw [hop];exact this
 ·rename_i t x y z hop
  split at hc
  ·rename_i ht
   cases hc
   have:=sim_mapSet (P:=P) hR ht hx
   unfold execOp;rw [hop];exact this
  ·cases hc
 ·rename_i t x y z hop
  split at hc
  ·rename_i ht
   cases hc
   have:=sim_mapSet (P:=P) hR ht hx
   unfold execOp;rw [hop];exact this
  ·cases hc
 ·rename_i t x y c hop
  split at hc
  ·rename_i ht
   cases hc
   have:=sim_mapGet (P:=P) hR ht hx
   unfold execOp;rw [hop];exact this
  ·cases hc
 ·rename_i t x hop
  split at hc
  ·rename_i ht
   cases hc
   have:=sim_mapRange (P:=P) hR ht hx
   unfold execOp;rw [hop];exact this
  ·cases hc
 ·rename_i x hop
  cases hc
  have:=sim_mapEntry (P:=P) hR hx
  unfold execOp;rw [hop];exact this
 ·rename_i c hop
  have hcall:∀ b,c.callee=.builtin b→∃ cs,execOp a.eval o=builtin b c.argTypes o.type cs (c.args.map a.eval):=by
   intro b hb
   have h1:execOp a.eval o=(do let dd ← resolve a.eval c o.type;invoke dd.target dd.args:Sem Next):=by unfold execOp;rw [hop]
   rw [h1]
   unfold resolve
   rw [hb]
   exact ⟨_,rfl⟩
  split at hc
  ·rename_i hb
   split at hc
   ·rename_i x t h1 h2
    have e1:c.args=#[x]:=by apply Array.toList_inj.1;simpa using h1
    have e2:c.argTypes=#[t]:=by apply Array.toList_inj.1;simpa using h2
    obtain ⟨cs,hcl⟩:=hcall _ hb
    have e3:(#[x]:Array Operand).map a.eval=#[a.eval x]:=by simp
    rw [hcl,e1,e2,e3]
    split at hc
    ·rename_i ht
     cases hc
     exact sim_mapLen (P:=P) (tt:=o.type) hR ht hx
    ·cases hc
   ·cases hc
  ·rename_i hb
   split at hc
   ·rename_i x y t u h1 h2
    have e1:c.args=#[x,y]:=by apply Array.toList_inj.1;simpa using h1
    have e2:c.argTypes=#[t,u]:=by apply Array.toList_inj.1;simpa using h2
    obtain ⟨cs,hcl⟩:=hcall _ hb
    have e3:(#[x,y]:Array Operand).map a.eval=#[a.eval x,a.eval y]:=by simp
    rw [hcl,e1,e2,e3]
    split at hc
    ·rename_i ht
     cases hc
     exact sim_mapDel (P:=P) (u:=u) (tt:=o.type) hR ht hx
    ·cases hc
   ·cases hc
  ·cases hc
 ·cases hc
end
end Go.Av

/- Every operation that is no call,in the model and at abstract values. By an AI agent;nothing here is trusted. -/
namespace Go.Av

theorem sim_eqI {P:Program} {N B:Nat} {w0:World} {ok0:F0} {ok:Nat→Prop} {ρ:Nat→Option Nat} {e:Env} {s:Store} {a:Act} {w:World} (hR:Rel N B w0 ok0 ok ρ e s a w) {neg:Bool} {op:BinOp} (hop:op=if neg then .neq else .eql) {t:TypeId} (ht:∃ ms,P.underlying t=some (.interface ms)) {x y:Operand}
  (hl:(isLit x || isLit y)=true) {d:Nat} {v:AV} {s':Store} (hx:ex d (.eqI neg (cX x) (cX y)) e s=some (v,s')) :
  Sim N B w0 ok0 ok e a ((do pure (Next.value (← (do eqGuard op t x y (a.eval x) (a.eval y);binOp op t (a.eval x) (a.eval y):Sem Value))):Sem Next).run P w) v s':=by
 have hv:=hR.ev x
 have hy:=hR.ev y
 obtain ⟨ms,ht⟩:=ht
 simp only [ex] at hx
 generalize (cX x).ev e=X at hx hv
 generalize (cX y).ev e=Y at hx hy
 generalize ex1:a.eval x=vx at hv
 generalize ey1:a.eval y=vy at hy
 split at hx
 ·cases hx;cases hv;cases hy
  refine Sim.same hR (val:=.bool (true != neg)) ?_ (.bool _)
  have hg:(eqGuard op t x y .nilIface .nilIface).run P w=.ok () w:=by
   clear ex1 ey1 hR
   unfold eqGuard
   cases neg <;> simp only [Bool.false_eq_true,if_false,if_true] at hop <;> subst hop <;> cases x <;> cases y <;> first
    | (cases hl;done)
    | simp
  have hd:∀ d:Nat,(Op.equalIn (d+1) t .nilIface .nilIface).run P w=.ok true w:=fun d=>by simp [Op.equalIn,run_underlying ht]
  have he:(Op.equal t .nilIface .nilIface).run P w=.ok true w:=hd 9999
  clear hd
  cases neg <;> simp only [Bool.false_eq_true,if_false,if_true] at hop <;> subst hop <;> simp [binOp,he,hg]
 ·cases hx;cases hy
  cases hv with
  | ifc t' v' =>
  refine Sim.same hR (val:=.bool (false != neg)) ?_ (.bool _)
  have hd:∀ d:Nat,(Op.equalIn (d+1) t (.iface t' v') .nilIface).run P w=.ok false w:=fun d=>by simp [Op.equalIn,run_underlying ht]
  have he:(Op.equal t (.iface t' v') .nilIface).run P w=.ok false w:=hd 9999
  clear hd
  cases neg <;> simp only [Bool.false_eq_true,if_false,if_true] at hop <;> subst hop <;> simp [binOp,he,eqGuard]
 ·cases hx;cases hv
  cases hy with
  | ifc t' v' =>
  refine Sim.same hR (val:=.bool (false != neg)) ?_ (.bool _)
  have hd:∀ d:Nat,(Op.equalIn (d+1) t .nilIface (.iface t' v')).run P w=.ok false w:=fun d=>by simp [Op.equalIn,run_underlying ht]
  have he:(Op.equal t .nilIface (.iface t' v')).run P w=.ok false w:=hd 9999
  clear hd
  cases neg <;> simp only [Bool.false_eq_true,if_false,if_true] at hop <;> subst hop <;> simp [binOp,he,eqGuard]
 ·cases hx

theorem sim_convB {P:Program} {N B:Nat} {w0:World} {ok0:F0} {ok:Nat→Prop} {ρ:Nat→Option Nat} {e:Env} {s:Store} {a:Act} {w:World} (hR:Rel N B w0 ok0 ok ρ e s a w) {src dst el:TypeId} (hs:P.underlying src=some (.slice el)) (hel:P.underlying el=some (.int .u8)) (hd:P.underlying dst=some .string) {x:Operand} {d:Nat} {v:AV} {s':Store}
  (hx:ex d (.convB (cX x)) e s=some (v,s')):Sim N B w0 ok0 ok e a ((do pure (Next.value (← convert src dst (a.eval x))):Sem Next).run P w) v s':=by
 have hv:=hR.ev x
 simp only [ex] at hx
 generalize (cX x).ev e=X at hx hv
 generalize ex1:a.eval x=vx at hv
 obtain ⟨l,h1,h2⟩:=Option.bind_eq_some_iff.1 hx
 obtain ⟨b,h3,h4⟩:=Option.map_eq_some_iff.1 h2
 cases h4
 obtain ⟨g1,g2⟩:=bytesOf_get h3
 have hsz:∀ y ∈ l,(cellsOf y).length=1∧cellsOk y:=by
  intro y hy
  obtain ⟨i,hi,rfl⟩:=List.getElem_of_mem hy
  obtain ⟨c,_,hc⟩:=g2 i _ (List.getElem?_eq_getElem hi)
  rw [hc]
  exact ⟨rfl,fun z hz=>by rw [List.mem_singleton.1 hz];rfl⟩
 obtain ⟨A,cap,nv,rfl,hA,hN⟩:=src_of hR hv h1 hsz
 refine Sim.same hR (val:=.string ⟨b.toArray⟩) ?_ (.str _ _ (by simp))
 by_cases hl0:l=[]
 ·subst hl0
  have:b=[]:=List.eq_nil_of_length_eq_zero (by simpa using g1)
  subst this
  cases A with
  | none =>
   have hr:=run_convert_bytes_string (P:=P) w src dst el none 0 cap hs hel hd
   have hr2:(convert src dst (.slice none 0 cap)).run P w=.ok (.string ⟨#[]⟩) w:=by rw [hr];rfl
   simp [hr2]
  | some A =>
   have hr:=run_convert_bytes_back (P:=P) w src dst el A cap [] hs hel hd (fun j hj=>absurd hj (Nat.not_lt_zero _))
   simp only [List.length_nil] at hr ⊢
   simp [hr]
 ·obtain ⟨b0,off,rfl,hcell⟩:=hA (by have:=List.length_pos_iff.2 hl0;exact this)
  have hr:=run_convert_bytes_back (P:=P) w src dst el ⟨b0,off,none⟩ cap b hs hel hd (fun j hj=>by
   have hjl:j<l.length:=by omega
   obtain ⟨c,hc1,hc2⟩:=g2 j _ (List.getElem?_eq_getElem hjl)
   have hbj:b[j]=c:=by rw [List.getElem?_eq_getElem hj] at hc1;exact Option.some.inj hc1
   have:=hN j _ 0 _ (List.getElem?_eq_getElem hjl) (by rw [hc2];rfl)
   rw [Nat.mul_one,Nat.add_zero] at this
   have hcj:=hcell j (by omega)
   generalize nv j=q at this hcj
   cases this
   rw [Addr.add_lit,hcj,hbj])
  rw [g1] at hr
  simp [hr]

def isCall:MOp→Bool
 | .call .. | .callv ..=>true
 | _=>false

section
variable {P:Program} {N B:Nat} {w0:World} {ok0:F0} {ok:Nat→Prop} {ρ:Nat→Option Nat} {e:Env} {s:Store} {a:Act} {w:World}

theorem sim_eq (hR:Rel N B w0 ok0 ok ρ e s a w) {neg:Bool} {op:BinOp} (hop:op=if neg then .neq else .eql) {t:TypeId} {x y:Operand} {m:MOp} (hc:cEq P neg op t x y=some m) {d:Nat} {v:AV} {s':Store}
  (hx:ex d m e s=some (v,s')) :
  Sim N B w0 ok0 ok e a ((do pure (Next.value (← (do eqGuard op t x y (a.eval x) (a.eval y);binOp op t (a.eval x) (a.eval y):Sem Value))):Sem Next).run P w) v s':=by
 unfold cEq at hc
 split at hc
 ·cases hc;exact sim_bin hR hx
 ·cases hc;exact sim_bin hR hx
 ·rename_i hu;cases hc;exact sim_eqB hR hop hu hx
 ·rename_i fs hu
  obtain ⟨l,h1,h2⟩:=Option.map_eq_some_iff.1 hc
  cases h2
  exact sim_eqS hR hop (by simp [scalarT,hu]) h1 hx
 ·rename_i n el hu
  obtain ⟨l,h1,h2⟩:=Option.map_eq_some_iff.1 hc
  cases h2
  exact sim_eqS hR hop (by simp [scalarT,hu]) h1 hx
 ·rename_i ms hu
  split at hc
  ·rename_i hl
   cases hc;exact sim_eqI hR hop ⟨ms,hu⟩ hl hx
  ·cases hc
 ·cases hc

theorem sim_op0 (hR:Rel N B w0 ok0 ok ρ e s a w) {o:Oper} {m:MOp} (hc:cOp0 P o=some m) (hm:isCall m=false) {d:Nat} {v:AV} {s':Store} (hx:ex d m e s=some (v,s')) :
  Sim N B w0 ok0 ok e a ((execOp a.eval o).run P w) v s':=by
 unfold cOp0 at hc
 split at hc
 ·rename_i x hop
  cases hc
  simp only [ex] at hx;cases hx
  exact Sim.same hR (val:=a.eval x) (by unfold execOp;rw [hop];rfl) (hR.ev x)
 ·rename_i x hop
  cases hc
  simp only [ex] at hx;cases hx
  exact Sim.same hR (val:=a.eval x) (by unfold execOp;rw [hop];rfl) (hR.ev x)
 ·rename_i c x y hop
  cases hc
  have:=sim_pick (P:=P) hR hx
  unfold execOp;rw [hop];exact this
 ·rename_i t hop
  split at hc
  ·rename_i i hi
   obtain ⟨z,hz,hm'⟩:=Option.map_eq_some_iff.1 hc
   cases hm'
   have:=sim_alloc (P:=P) hR hi hz hx
   unfold execOp;rw [hop];exact this
  ·cases hc
 ·rename_i t x hop
  obtain ⟨n,hn,hm'⟩:=Option.map_eq_some_iff.1 hc
  cases hm'
  have:=sim_box (P:=P) hR hx
  unfold execOp;rw [hop];exact this
 ·rename_i t parts hop
  split at hc
  ·rename_i i places hi hp
   split at hc
   ·rename_i z ps hz hps
    cases hc
    have:=sim_build (P:=P) hR hi hp hz hps hx
    unfold execOp;rw [hop];exact this
   ·cases hc
  ·cases hc
 ·rename_i t len parts hop
  split at hc
  ·rename_i el ht
   split at hc
   ·rename_i i hi
    split at hc
    ·rename_i hcond
     simp only [Bool.and_eq_true,decide_eq_true_eq] at hcond
     split at hc
     ·rename_i z hz
      split at hc
      ·rename_i hzs
       cases hc
       have:=sim_buildSlice (P:=P) hR ht hi hz hzs hcond.1 hcond.2 hx
       unfold execOp;rw [hop];exact this
      ·cases hc
     ·cases hc
    ·cases hc
   ·cases hc
  ·cases hc
 ·rename_i t x hop
  split at hc
  ·rename_i hs
   cases hc
   have:=sim_load (P:=P) hR (.inl ⟨rfl,hs⟩) hx
   unfold execOp;rw [hop];exact this
  ·split at hc
   ·rename_i fs hu
    obtain ⟨n,hn,hm'⟩:=Option.map_eq_some_iff.1 hc
    cases hm'
    have:=sim_load (P:=P) hR (.inr ⟨n,rfl,hn,fs,.inl hu⟩) hx
    unfold execOp;rw [hop];exact this
   ·rename_i k u hu
    obtain ⟨n,hn,hm'⟩:=Option.map_eq_some_iff.1 hc
    cases hm'
    have:=sim_load (P:=P) hR (.inr ⟨n,rfl,hn,#[],.inr ⟨k,u,hu⟩⟩) hx
    unfold execOp;rw [hop];exact this
   ·cases hc
 ·rename_i t x y hop
  obtain ⟨n,hn,hm'⟩:=Option.map_eq_some_iff.1 hc
  cases hm'
  have:=sim_store (P:=P) hR hn hx
  unfold execOp;rw [hop];exact this
 ·rename_i x hop
  cases hc
  exact sim_nil (P:=P) hR hop hx
 ·rename_i t x y u hop
  have:=sim_eq (P:=P) hR (neg:=false) rfl hc hx
  unfold execOp;rw [hop];exact this
 ·rename_i t x y u hop
  have:=sim_eq (P:=P) hR (neg:=true) rfl hc hx
  unfold execOp;rw [hop];exact this
 ·rename_i op t x y u _ _ hop
  cases hc
  have:=sim_bin (P:=P) (t:=t) hR hx
  unfold execOp;rw [hop];exact this
 ·rename_i op t x hop
  cases hc
  have:=sim_un (P:=P) hR hx
  unfold execOp;rw [hop];exact this
 ·rename_i src dst x hop
  split at hc
  ·rename_i k0 k h1 h2
   cases hc
   have:=sim_conv (P:=P) hR h1 h2 hx
   unfold execOp;rw [hop];exact this
  ·rename_i h1 h2
   cases hc
   have:=sim_convS (P:=P) hR h1 h2 hx
   unfold execOp;rw [hop];exact this
  ·rename_i el h1 h2
   split at hc
   ·rename_i hel
    cases hc
    have:=sim_convB (P:=P) hR h1 hel h2 hx
    unfold execOp;rw [hop];exact this
   ·cases hc
  ·cases hc
 ·rename_i f first caps hop
  split at hc
  ·rename_i h0
   cases hc
   have:=sim_makeFunc (P:=P) hR h0 hx
   unfold execOp;rw [hop];exact this
  ·cases hc
 ·rename_i t l c hop
  split at hc
  ·rename_i el ht
   split at hc
   ·rename_i i hi
    split at hc
    ·rename_i z hz
     split at hc
     ·rename_i hzs
      cases hc
      have:=sim_makeSlice (P:=P) hR ht hi hz hzs hx
      unfold execOp;rw [hop];exact this
     ·cases hc
    ·cases hc
   ·cases hc
  ·cases hc
 ·rename_i t x lo hi mx hop
  split at hc
  ·rename_i hmx
   have hmx':mx=none:=by cases mx <;> simp at hmx ⊢
   split at hc
   ·rename_i ht
    cases hc
    have:=sim_sliceS (P:=P) hR ht hmx' hx
    unfold execOp;rw [hop];exact this
   ·rename_i el ht
    obtain ⟨n,hn,hm'⟩:=Option.bind_eq_some_iff.1 hc
    split at hm'
    ·cases hm'
    ·rename_i hn0
     cases hm'
     have:=sim_sliceL (P:=P) hR ht hn hn0 hmx' hx
     unfold execOp;rw [hop];exact this
   ·rename_i len el ht
    split at hc
    ·rename_i hcond
     simp only [Bool.and_eq_true,beq_iff_eq,Option.isNone_iff_eq_none] at hcond
     obtain ⟨⟨hn,rfl⟩,rfl⟩:=hcond
     subst hmx'
     cases hc
     have:=sim_sliceA (P:=P) hR ht hn hx
     unfold execOp;rw [hop];exact this
    ·cases hc
   ·cases hc
  ·cases hc
 ·rename_i t x f hop
  split at hc
  ·rename_i fs ht
   split at hc
   ·rename_i fd hf
    split at hc
    ·rename_i n hn
     split at hc
     ·cases hc
     ·rename_i hn0
      cases hc
      have:=sim_fieldAddr (P:=P) hR ht hf hn hn0 hx
      unfold execOp;rw [hop];exact this
    ·cases hc
   ·cases hc
  ·cases hc
 ·rename_i t x f hop
  split at hc
  ·rename_i fs ht
   split at hc
   ·rename_i fd hf
    split at hc
    ·rename_i hs
     cases hc
     have:=sim_field (P:=P) hR ht hf (.inl ⟨rfl,hs⟩) hx
     unfold execOp;rw [hop];exact this
    ·split at hc
     ·rename_i fs' hu
      obtain ⟨n,hn,hm'⟩:=Option.map_eq_some_iff.1 hc
      cases hm'
      have:=sim_field (P:=P) hR ht hf (.inr ⟨n,rfl,hn,fs',.inl hu⟩) hx
      unfold execOp;rw [hop];exact this
     ·rename_i k u hu
      obtain ⟨n,hn,hm'⟩:=Option.map_eq_some_iff.1 hc
      cases hm'
      have:=sim_field (P:=P) hR ht hf (.inr ⟨n,rfl,hn,#[],.inr ⟨k,u,hu⟩⟩) hx
      unfold execOp;rw [hop];exact this
     ·cases hc
   ·cases hc
  ·cases hc
 ·rename_i t x i hop
  split at hc
  ·rename_i el ht
   obtain ⟨n,hn,hm'⟩:=Option.map_eq_some_iff.1 hc
   cases hm'
   have:=sim_indexAddr (P:=P) hR ht hn hx
   unfold execOp;rw [hop];exact this
  ·rename_i len el ht
   obtain ⟨n,hn,hm'⟩:=Option.map_eq_some_iff.1 hc
   cases hm'
   have:=sim_indexArr (P:=P) hR ht hn hx
   unfold execOp;rw [hop];exact this
  ·cases hc
 ·rename_i t x i hop
  split at hc
  ·rename_i ht
   cases hc
   have:=sim_index (P:=P) hR ht hx
   unfold execOp;rw [hop];exact this
  ·rename_i len el ht
   split at hc
   ·rename_i hs
    obtain ⟨n,hn,hm'⟩:=Option.map_eq_some_iff.1 hc
    cases hm'
    have:=sim_indexV (P:=P) hR ht hn (.inl ⟨rfl,hs⟩) hx
    unfold execOp;rw [hop];exact this
   ·split at hc
    ·rename_i fs' hu
     obtain ⟨n,hn,hm'⟩:=Option.map_eq_some_iff.1 hc
     cases hm'
     have:=sim_indexV (P:=P) hR ht hn (.inr ⟨rfl,fs',.inl hu⟩) hx
     unfold execOp;rw [hop];exact this
    ·rename_i k u hu
     obtain ⟨n,hn,hm'⟩:=Option.map_eq_some_iff.1 hc
     cases hm'
     have:=sim_indexV (P:=P) hR ht hn (.inr ⟨rfl,#[],.inr ⟨k,u,hu⟩⟩) hx
     unfold execOp;rw [hop];exact this
    ·cases hc
  ·cases hc
 ·rename_i x i hop
  cases hc
  have:=sim_extract (P:=P) hR hx
  unfold execOp;rw [hop];exact this
 ·rename_i c hop
  have hcall:∀ b,c.callee=.builtin b→∃ cs,execOp a.eval o=builtin b c.argTypes o.type cs (c.args.map a.eval):=by
   intro b hb
   have h1:execOp a.eval o=(do let dd ← resolve a.eval c o.type;invoke dd.target dd.args:Sem Next):=by unfold execOp;rw [hop]
   rw [h1]
   unfold resolve
   rw [hb]
   exact ⟨_,rfl⟩
  split at hc
  ·rename_i hb
   split at hc
   ·rename_i x t h1 h2
    have e1:c.args=#[x]:=by apply Array.toList_inj.1;simpa using h1
    have e2:c.argTypes=#[t]:=by apply Array.toList_inj.1;simpa using h2
    obtain ⟨cs,hcl⟩:=hcall _ hb
    have e3:(#[x]:Array Operand).map a.eval=#[a.eval x]:=by simp
    rw [hcl,e1,e2,e3]
    split at hc
    ·rename_i ht
     cases hc
     have:=sim_len (P:=P) (ty:=o.type) hR (.inl ⟨rfl,ht⟩) hx
     exact this
    ·rename_i el ht
     cases hc
     have:=sim_len (P:=P) (ty:=o.type) hR (.inr ⟨rfl,el,ht⟩) hx
     exact this
    ·cases hc
   ·cases hc
  ·rename_i hb
   split at hc
   ·rename_i x y t u h1 h2
    have e1:c.args=#[x,y]:=by apply Array.toList_inj.1;simpa using h1
    have e2:c.argTypes=#[t,u]:=by apply Array.toList_inj.1;simpa using h2
    obtain ⟨cs,hcl⟩:=hcall _ hb
    have e3:(#[x,y]:Array Operand).map a.eval=#[a.eval x,a.eval y]:=by simp
    rw [hcl,e1,e2,e3]
    split at hc
    ·rename_i htu
     subst htu
     split at hc
     ·rename_i el ht
      split at hc
      ·rename_i i hi
       split at hc
       ·rename_i z hz
        split at hc
        ·rename_i hzs
         cases hc
         have:=sim_append (P:=P) (ty:=o.type) hR ht hi hz hzs hx
         exact this
        ·cases hc
       ·cases hc
      ·cases hc
     ·cases hc
    ·cases hc
   ·cases hc
  ·rename_i hb
   cases hc
   obtain ⟨cs,hcl⟩:=hcall _ hb
   rw [hcl]
   exact sim_max (P:=P) hR hx
  ·rename_i hb
   cases hc
   obtain ⟨cs,hcl⟩:=hcall _ hb
   rw [hcl]
   exact sim_min (P:=P) hR hx
  ·cases hc;cases hm
  ·cases hc;cases hm
  ·cases hc
 ·cases hc

def stuck:MOp:=.copy 0 (.c .undef) (.c .undef)
def cOp (P:Program) (o:Oper):Option MOp:=match cOp0 P o with
 | some m=>some m
 | none=>match cOpM P o with
  | some m=>some m
  | none=>match o.op with
  | .call c=>match c.callee with
   | .builtin _=>some stuck
   | _=>none
  | .makeInterface .. | .panic _ | .slice .. | .convert ..=>some stuck
  | _=>none

theorem sim_op (hR:Rel N B w0 ok0 ok ρ e s a w) {o:Oper} {m:MOp} (hc:cOp P o=some m) (hm:isCall m=false) {d:Nat} {v:AV} {s':Store} (hx:ex d m e s=some (v,s')) :
  Sim N B w0 ok0 ok e a ((execOp a.eval o).run P w) v s':=by
 unfold cOp at hc
 split at hc
 ·rename_i m' h0
  cases hc
  exact sim_op0 hR h0 hm hx
 ·split at hc
  ·rename_i m' h0
   cases hc
   exact sim_opM hR h0 hx
  have hs:m=stuck:=by
   (repeat' split at hc) <;> first | (cases hc;done) | (cases hc;rfl)
  subst hs
  cases hx
theorem sim_frz (hR:Rel N B w0 ok0 ok ρ e s a w) {o:Oper} {ty sz n:Nat} {zero:AV} {parts:List (Nat × MX)} (hc:cOp P o=some (.buildSlice ty sz n zero parts)) {d:Nat} {v:AV} {s':Store} {es:List AV} (hx:ex d (.buildSlice ty sz n zero parts) e s=some (v,s'))
  (hs':s' d=some (some ⟨ty,sz,es⟩)) (hv':∃ k m,v=.buf k m) (he:(es.all fun x=>(cellsOf x).all scal1)=true) (hi':es.all imm=true):Sim N B w0 ok0 ok e a ((execOp a.eval o).run P w) (.sl es) s:=by
 unfold cOp at hc
 split at hc
 ·rename_i m' h0
  cases hc
  unfold cOp0 at h0
  split at h0
  all_goals first
   | (cases h0;done)
   | (obtain ⟨_,_,h⟩:=Option.map_eq_some_iff.1 h0;cases h;done)
   | ((repeat' split at h0) <;> first | (cases h0;done) | (obtain ⟨_,_,h⟩:=Option.map_eq_some_iff.1 h0;cases h;done) | (obtain ⟨_,_,h⟩:=Option.bind_eq_some_iff.1 h0;split at h <;> (cases h;done)))
   | (unfold cEq at h0;(repeat' split at h0) <;> first | (cases h0;done) | (obtain ⟨_,_,h⟩:=Option.map_eq_some_iff.1 h0;cases h;done))
   | skip
  rename_i t len parts' hop
  split at h0
  ·rename_i el ht
   split at h0
   ·rename_i i hi
    split at h0
    ·rename_i hcond
     simp only [Bool.and_eq_true,decide_eq_true_eq] at hcond
     split at h0
     ·rename_i z hz
      split at h0
      ·rename_i hzs
       cases h0
       have:=sim_buildSliceF (P:=P) hR ht hi hz hzs hcond.1 hcond.2 hx hs' hv' he hi'
       unfold execOp;rw [hop];exact this
      ·cases h0
     ·cases h0
    ·cases h0
   ·cases h0
  ·cases h0
 ·exfalso
  split at hc
  ·rename_i m' h
   cases hc
   unfold cOpM at h
   (repeat' split at h) <;> cases h
  ·(repeat' split at hc) <;> cases hc
end
end Go.Av

/- Calls: what a function does to abstract values,as a contract;what a frame hands to a call. By an AI agent;nothing here is trusted. -/
namespace Go.Av

def noStore:Store:=fun _=>none
def noPlace:Nat→Option Nat:=fun _=>none

theorem Goes.empty (h h':Array Obj) (ρ ρ':Nat→Option Nat) (σ':Store):Goes h h' ρ ρ' noStore σ' :=
 ⟨fun _ hk=>(by simp [noStore] at hk),fun _ _ hk=>(by simp [noStore] at hk)⟩

def CallsF (P:Program) (f:FuncId) (args:Array Value) (w:World) (R:Value→World→Prop):Prop :=
 (∃ v w',(callFunc f args).run P w=.ok (.value v) w'∧R v w') ∨
 ((callFunc f args).run P w=.ok (.enter f args) w∧Calls P f args w fun e w'=>∃ v,e=.returned v∧R v w')

def Sound (P:Program) (f:FuncId) (args:List AV) (v:AV):Prop :=
 ∀ (w:World) (ok:Nat→Prop) (cargs:Array Value),(∀ b,ok b→b<w.heap.size)→GOk ok w→cargs.size=args.length →
  (∀ (i:Nat) (x:AV),args[i]?=some x→VR w.heap ok noPlace noStore x (cargs.getD i undef)) →
  CallsF P f cargs w fun cv w'=>Below w.heap.size w w'∧VR w'.heap (fun b=>ok b∨(w.heap.size≤b∧b<w'.heap.size)) noPlace noStore v cv

def OwnR (w w':World) (ok:Nat→Prop) (ty sz:Nat) (es:List AV) (cv:Value):Prop :=
 (es=[]∧∃ a,cv=.slice a 0 0)∨∃ b cap cur,cv=.slice (some ⟨b,0,none⟩) es.length cap∧w.heap.size≤b∧w'.heap[b]?=some (.cells cur ty (0,0))∧es.length≤cap∧cap≤maxLen∧cur.size=cap * sz ∧
  Holds w'.heap (fun x=>(ok x∨(w.heap.size≤x∧x<w'.heap.size))∧x ≠ b) noPlace noStore sz es cur
def SoundO (P:Program) (f:FuncId) (args:List AV) (ty sz:Nat) (es:List AV):Prop :=
 0<sz∧∀ (w:World) (ok:Nat→Prop) (cargs:Array Value),(∀ b,ok b→b<w.heap.size)→GOk ok w→cargs.size=args.length →
  (∀ (i:Nat) (x:AV),args[i]?=some x→VR w.heap ok noPlace noStore x (cargs.getD i undef)) →
  CallsF P f cargs w fun cv w'=>Below w.heap.size w w'∧OwnR w w' ok ty sz es cv

def NewCells (w w':World):List Nat→List (TypeId × AV)→Prop
 | [],[]=>True
 | b :: bs,p :: ps=>(w.heap.size≤b∧b ∉ bs∧∃ cur cv,w'.heap[b]?=some (.cells cur p.1 (0,0))∧cur[0]?=some cv∧VR w'.heap (fun _=>False) noPlace noStore p.2 cv)∧NewCells w w' bs ps
 | _,_=>False
def SoundC (P:Program) (f:FuncId) (args:List AV) (g:FuncId) (news:List (TypeId × AV)):Prop :=
 (news ≠ []∧∀ p ∈ news,scal1 p.2=true∧cell p.2=true)∧∀ (w:World) (ok:Nat→Prop) (cargs:Array Value),(∀ b,ok b→b<w.heap.size)→GOk ok w→cargs.size=args.length →
  (∀ (i:Nat) (x:AV),args[i]?=some x→VR w.heap ok noPlace noStore x (cargs.getD i undef)) →
  CallsF P f cargs w fun cv w'=>Below w.heap.size w w'∧∃ bs,cv=.func (.func g) #[] (bs.map fun b=>Value.pointer (some ⟨b,0,none⟩)).toArray∧NewCells w w' bs news
def addK:List Nat→List (TypeId × AV)→Store→Store
 | k :: ks,p :: ps,s=>upd (addK ks ps s) k (some (some ⟨p.1,1,[p.2]⟩))
 | _,_,s=>s

def isRefK (k:Nat):AV→Bool
 | .ptr k' _ _=>k' == k
 | .buf k' _=>k' == k
 | .vw k' _ _ _=>k' == k
 | _=>false
noncomputable def borX (s:Store) (k:Nat) (x:AV):AV:=if isRefK k x then x else bor s 5 x
def SoundX (P:Program) (f:FuncId) (args:List AV) (k ty sz:Nat) (es:List AV) (v:AV) (es2:List AV):Prop :=
 ∀ (w:World) (ok:Nat→Prop) (cargs:Array Value) (b:Nat) (cur:Array Value),(∀ c,ok c→c<w.heap.size)→GOk ok w→¬ ok b→w.heap[b]?=some (.cells cur ty (0,0))→Holds w.heap (fun _=>False) noPlace noStore sz es cur→cargs.size=args.length →
  (∀ (i:Nat) (x:AV),args[i]?=some x→VR w.heap ok (upd noPlace k (some b)) (upd noStore k (some (some ⟨ty,sz,es⟩))) x (cargs.getD i undef)) →
  CallsF P f cargs w fun cv w'=>Below 0 w w'∧(∀ c,c<w.heap.size→c ≠ b→w'.heap[c]?=w.heap[c]?)∧(∃ cur',w'.heap[b]?=some (.cells cur' ty (0,0))∧cur'.size=cur.size∧Holds w'.heap (fun _=>False) noPlace noStore sz es2 cur')∧VR w'.heap (fun _=>False) noPlace noStore v cv

section
variable {P:Program} {N B:Nat} {w0:World} {ok0:F0} {ok:Nat→Prop} {ρ:Nat→Option Nat} {e:Env} {s:Store} {a:Act} {w:World}

theorem good_imm {x:AV} (h:good x=true):imm x=true∧cellsOk x:=by
 simp only [good,Bool.and_eq_true,List.all_eq_true] at h
 exact ⟨h.1,h.2⟩

theorem refs_imm (s:Store) {x:AV} (h:imm x=true):∀ n,refs s n x=[]
 | 0=>rfl
 | n+1=>by
  have hl:∀ {cs:List AV},immL cs=true→cs.all imm=true:=fun h=>List.all_eq_true.2 (imm_cell h)
  cases x with
  | buf k len=>cases h
  | ptr k i o=>cases h
  | vw k i o m=>cases h
  | mp k=>cases h
  | agg cs=>simp only [refs];rw [if_pos (hl h)]
  | tup cs=>simp only [refs];rw [if_pos (hl h)]
  | fn f cs=>simp only [refs];rw [if_pos (hl h)]
  | _=>rfl

theorem cellsOf_bor (s:Store) (n:Nat) (x:AV) (hx:cell x=true∨∃ cs,x=.agg cs) (hg:good (bor s n x)=true) :
    (cellsOf (bor s n x)).length=(cellsOf x).length∧∀ (o:Nat) (c':AV),(cellsOf (bor s n x))[o]?=some c'→∃ c m,(cellsOf x)[o]?=some c∧c'=bor s m c∧m≤n∧(∀ k ∈ refs s m c,k ∈ refs s n x):=by
  cases n with
  | zero =>
    simp only [bor] at hg ⊢
    split at hg
    · rename_i him
      rw [if_pos him]
      refine ⟨rfl,fun o c' hc=>⟨c',0,hc,?_,Nat.le_refl _,by simp [refs]⟩⟩
      simp [bor,imm_cells him c' (List.mem_of_getElem? hc)]
    · cases hg
  | succ n =>
    rcases hx with hx | ⟨cs,rfl⟩
    · have h1:cellsOf x=[x]:=by cases x <;> first | rfl | cases hx
      have hcell:cellsOf (bor s (n+1) x)=[bor s (n+1) x]:=by
        cases x <;> simp only [cell] at hx <;> first
          | (cases hx;done)
          | rfl
          | (simp only [bor]
             (repeat' split) <;> rfl)
      rw [h1,hcell]
      refine ⟨rfl,fun o c' hc=>?_⟩
      cases o with
      | zero=>simp at hc;subst hc;exact ⟨x,n+1,rfl,rfl,Nat.le_refl _,fun _ h=>h⟩
      | succ o=>simp at hc
    · simp only [bor,cellsOf]
      refine ⟨by simp,fun o c' hc=>?_⟩
      simp only [List.getElem?_map,Option.map_eq_some_iff] at hc
      obtain ⟨c,h1,h2⟩:=hc
      refine ⟨c,n,h1,h2.symm,Nat.le_succ n,fun k hk=>?_⟩
      simp only [refs]
      split
      · rename_i hall
        have:=List.all_eq_true.1 hall c (List.mem_of_getElem? h1)
        rw [refs_imm s this] at hk
        cases hk
      · exact List.mem_flatMap.2 ⟨c,List.mem_of_getElem? h1,hk⟩

theorem bor_vr (hR:Rel N B w0 ok0 ok ρ e s a w) (Rf:Nat→Prop):∀ (n:Nat) (x:AV) (v:Value),VR w.heap ok ρ s x v→(∀ k ∈ refs s n x,Rf k) →
  VR w.heap (fun b=>ok b∨∃ k K,Rf k∧s k=some (some K)∧ρ k=some b) noPlace noStore (bor s n x) v:=by
 have hok:∀ b,ok b→(ok b∨∃ k K,Rf k∧s k=some (some K)∧ρ k=some b):=fun _ h=>.inl h
 intro n
 induction n using Nat.strongRecOn with
 | ind n ih0 =>
 cases n with
 | zero =>
  intro x v hv _
  simp only [bor]
  split
  ·rename_i him
   exact hv.imm hok (fun _ _=>rfl) him
  ·exact .undef _
 | succ n =>
  intro x v hv hk
  have ih:=ih0 n (Nat.lt_succ_self n)
  have himm:imm x=true→bor s (n+1) x=x→VR w.heap (fun b=>ok b∨∃ k K,Rf k∧s k=some (some K)∧ρ k=some b) noPlace noStore (bor s (n+1) x) v:=fun h1 h2=>by
   rw [h2];exact hv.imm hok (fun _ _=>rfl) h1
  have hsub:∀ {cs:List AV},(∀ k ∈ (if cs.all imm then [] else cs.flatMap (refs s n)),Rf k)→∀ c ∈ cs,∀ k ∈ refs s n c,Rf k:=by
   intro cs h c hc k hk'
   apply h
   split
   ·rename_i hall
    rw [refs_imm s (List.all_eq_true.1 hall c hc)] at hk'
    cases hk'
   ·exact List.mem_flatMap.2 ⟨c,hc,hk'⟩
  cases hv with
  | undef v=>exact .undef _
  | int k n=>exact .int _ _
  | bool b=>exact .bool _
  | str l b hb=>exact .str _ _ hb
  | nilp=>exact .nilp
  | nilf=>exact .nilf
  | nili=>exact .nili
  | ifc t v=>exact .ifc t v
  | yld l=>exact .yld _
  | nils A=>exact .sl0 _ _
  | sl0 A cap=>exact .sl0 _ _
  | sl es b off sz cap cur ty fr vals ho hcap hb hs hc hvv =>
   exact himm rfl rfl
  | eptr x o b off cur ty fr vals ho hb hs hc hvv =>
   exact himm rfl rfl
  | agg cs vs hl hvv =>
   refine .agg _ _ (by simp [hl]) fun i c hc=>?_
   simp only [List.getElem?_map,Option.map_eq_some_iff] at hc
   obtain ⟨c0,h1,rfl⟩:=hc
   exact ih c0 _ (hvv i c0 h1) (hsub hk c0 (List.mem_of_getElem? h1))
  | tup cs vs hl hvv =>
   refine .tup _ _ (by simp [hl]) fun i c hc=>?_
   simp only [List.getElem?_map,Option.map_eq_some_iff] at hc
   obtain ⟨c0,h1,rfl⟩:=hc
   exact ih c0 _ (hvv i c0 h1) (hsub hk c0 (List.mem_of_getElem? h1))
  | fn f cs vs hl hvv =>
   refine .fn _ _ _ (by simp [hl]) fun i c hc=>?_
   simp only [List.getElem?_map,Option.map_eq_some_iff] at hc
   obtain ⟨c0,h1,rfl⟩:=hc
   exact ih c0 _ (hvv i c0 h1) (hsub hk c0 (List.mem_of_getElem? h1))
  | mpd k A hd=>simp only [bor,hd];exact .undef _
  | mitd k A hd=>simp only [bor,hd];exact .undef _
  | mo M clk b ho hb=>exact himm rfl rfl
  | mon=>exact himm rfl rfl
  | mit k K b hσ hr hz=>simp only [bor,hσ];rw [if_neg (fun h=>by have:=hz.2;rw [h.2] at this;cases this)];exact .undef _
  | mp k K b hσ hr hz =>
   simp only [bor,hσ]
   rw [if_pos hz]
   split
   ·rename_i M clk hes
    obtain ⟨_,b',o,x,h1,h2,h3,h4,h5,h6,h7⟩:=(hR.live k K hσ).map hz.1
    rw [hr] at h1;cases h1
    obtain ⟨y,h4,h8⟩:=h4
    rw [hes] at h4;cases h4
    cases h8
    cases h7
    exact .mo M clk b (.inr ⟨k,K,hk k (by simp [refs]),hσ,hr⟩) h6
   ·exact .undef _
  | bufd k len A l c hd=>simp only [bor,hd];exact .undef _
  | bufn k A K hσ hr =>
   simp only [bor,hσ]
   split
   ·simp;exact .sl0 _ _
   ·exact .undef _
  | buf k len K b cap cur hσ hr hb hlen hcap hcur =>
   simp only [bor,hσ]
   split
   ·rename_i hcond
    simp only [Bool.and_eq_true,decide_eq_true_eq,List.all_eq_true] at hcond
    obtain ⟨hle,hall⟩:=hcond
    have hRk:Rf k:=hk k (by simp [refs])
    obtain ⟨_,_,_,cur',hcur',hH⟩:=hR.boundC hσ hr (hR.pos hσ hr hb)
    rw [hb] at hcur';cases hcur'
    have hl':((K.es.take len).map (bor s n)).length=len:=by simp;omega
    have helem:∀ (i:Nat) (y:AV),((K.es.take len).map (bor s n))[i]?=some y→∃ z,K.es[i]?=some z∧y=bor s n z∧good y=true∧(∀ k ∈ refs s n z,Rf k):=by
     intro i y hy
     have hgood:=hall y (List.mem_of_getElem? hy)
     simp only [List.getElem?_map,Option.map_eq_some_iff] at hy
     obtain ⟨z,h1,rfl⟩:=hy
     have hz:K.es[i]?=some z:=by
      rw [List.getElem?_take] at h1
      split at h1
      ·exact h1
      ·cases h1
     refine ⟨z,hz,rfl,hgood,?_⟩
     apply hsub (cs:=K.es.take len) _ z (List.mem_of_getElem? h1)
     intro k' hk'
     exact hk k' (by simp only [refs,hσ];exact List.mem_cons_of_mem _ hk')
    have hsolid:∀ (i:Nat) (z:AV),K.es[i]?=some z→cell z=true∨∃ cs,z=.agg cs:=by
     intro i z hz
     have:=(hH i z hz).2.1
     cases z with
     | agg cs=>exact .inr ⟨cs,rfl⟩
     | undef=>exact absurd (this .undef (by simp [cellsOf])) (by simp [cell])
     | tup cs=>exact absurd (this (.tup cs) (by simp [cellsOf])) (by simp [cell])
     | _=>exact .inl rfl
    have:=VR.sl (h:=w.heap) (ok:=fun b=>ok b∨∃ k K,Rf k∧s k=some (some K)∧ρ k=some b) (ρ:=noPlace) (σ:=noStore) ((K.es.take len).map (bor s n)) b 0 K.sz cap cur K.ty (0,0)
     (fun i o=>(cur[i * K.sz+o]?).getD undef) (.inr ⟨k,K,hRk,hσ,hr⟩) (by rw [hl'];exact hlen) hb
     (fun i y hy=>by
      obtain ⟨z,h1,h2,h3,_⟩:=helem i y hy
      subst h2
      obtain ⟨g1,g2⟩:=good_imm h3
      exact ⟨by rw [(cellsOf_bor s n z (hsolid i z h1) h3).1];exact (hH i z h1).1,g2,g1⟩)
     (fun i y o c hy hc=>by
      obtain ⟨z,h1,h2,h3,_⟩:=helem i y hy
      subst h2
      obtain ⟨c0,m,q1,q2,_,_⟩:=(cellsOf_bor s n z (hsolid i z h1) h3).2 o c hc
      obtain ⟨cv,p1,p2⟩:=(hH i z h1).2.2 o c0 q1
      simp [p1])
     (fun i y o c hy hc=>by
      obtain ⟨z,h1,h2,h3,h4⟩:=helem i y hy
      subst h2
      obtain ⟨c0,m,q1,q2,q4,q3⟩:=(cellsOf_bor s n z (hsolid i z h1) h3).2 o c hc
      obtain ⟨cv,p1,p2⟩:=(hH i z h1).2.2 o c0 q1
      rw [p1,q2]
      exact ih0 m (by omega) c0 cv p2 (fun k' hk'=>h4 k' (q3 k' hk')))
    rw [hl'] at this
    exact this
   ·exact .undef _
  | ptrd k i o A hd=>simp only [bor,hd];exact .undef _
  | ptr k i o K b hσ hr hz =>
   simp only [bor,hσ]
   split
   ·rename_i el hel
    split
    ·rename_i hg
     have hRk:Rf k:=hk k (by simp [refs])
     obtain ⟨_,_,_,cur,hcur,hH⟩:=hR.boundC hσ hr hz
     have hsolid:cell el=true∨∃ cs,el=.agg cs:=by
      have:=(hH i el hel).2.1
      cases el with
      | agg cs=>exact .inr ⟨cs,rfl⟩
      | undef=>exact absurd (this .undef (by simp [cellsOf])) (by simp [cell])
      | tup cs=>exact absurd (this (.tup cs) (by simp [cellsOf])) (by simp [cell])
      | _=>exact .inl rfl
     have hrk:∀ k' ∈ refs s n el,Rf k':=by
      intro k' hk'
      apply hk
      simp only [refs,hσ,hel]
      split
      ·rename_i him;rw [refs_imm s him] at hk';cases hk'
      ·exact List.mem_cons_of_mem _ hk'
     obtain ⟨g1,g2⟩:=good_imm hg
     exact .eptr (bor s n el) o b (i * K.sz) cur K.ty (0,0) (fun j=>(cur[i * K.sz+j]?).getD undef) (.inr ⟨k,K,hRk,hσ,hr⟩) hcur ⟨g2,g1⟩
      (fun j c hc=>by
       obtain ⟨c0,m,q1,q2,_,_⟩:=(cellsOf_bor s n el hsolid hg).2 j c hc
       obtain ⟨cv,p1,p2⟩:=(hH i el hel).2.2 j c0 q1
       simp [p1])
      (fun j c hc=>by
       obtain ⟨c0,m,q1,q2,q4,q3⟩:=(cellsOf_bor s n el hsolid hg).2 j c hc
       obtain ⟨cv,p1,p2⟩:=(hH i el hel).2.2 j c0 q1
       rw [p1,q2]
       exact ih0 m (by omega) c0 cv p2 (fun k' hk'=>hrk k' (q3 k' hk')))
    ·exact .undef _
   ·exact .undef _
  | vwd k i o m A l c hd=>simp only [bor,hd];exact .undef _
  | vw k i o m K b hσ hr hz =>
   simp only [bor,hσ]
   split
   ·rename_i el hel
    split
    ·rename_i hcond
     simp only [Bool.and_eq_true,decide_eq_true_eq,List.all_eq_true] at hcond
     obtain ⟨hle,hall⟩:=hcond
     have hRk:Rf k:=hk k (by simp [refs])
     obtain ⟨_,_,_,cur,hcur,hH⟩:=hR.boundC hσ hr hz
     have hlen:(((cellsOf el).drop o).take m).length=m:=by simp;omega
     have hget:∀ (i:Nat) (y:AV),(((cellsOf el).drop o).take m)[i]?=some y→(cellsOf el)[o+i]?=some y:=by
      intro i y hy
      rw [List.getElem?_take] at hy
      split at hy
      ·rwa [List.getElem?_drop] at hy
      ·cases hy
     have hone:∀ y ∈ ((cellsOf el).drop o).take m,cellsOf y=[y]:=fun y hy=>by
      have:=(hall y hy).2
      cases y <;> first | rfl | cases this
     have zero:∀ {i q:Nat} {y c:AV},(((cellsOf el).drop o).take m)[i]?=some y→(cellsOf y)[q]?=some c→q=0∧c=y:=by
      intro i q y c hy hcc
      rw [hone y (List.mem_of_getElem? hy)] at hcc
      cases q with
      | zero=>simp at hcc;exact ⟨rfl,hcc.symm⟩
      | succ q=>simp at hcc
     have:=VR.sl (h:=w.heap) (ok:=fun b=>ok b∨∃ k K,Rf k∧s k=some (some K)∧ρ k=some b) (ρ:=noPlace) (σ:=noStore) (((cellsOf el).drop o).take m) b (i * K.sz+o) 1 m cur K.ty (0,0)
      (fun j _=>(cur[i * K.sz+(o+j)]?).getD undef) (.inr ⟨k,K,hRk,hσ,hr⟩) (by rw [hlen];exact Nat.le_refl _) hcur
      (fun j y hy=>by
       have hm:=List.mem_of_getElem? hy
       refine ⟨by rw [hone y hm];rfl,?_,(hall y hm).1⟩
       unfold cellsOk;rw [hone y hm];simpa using (hall y hm).2)
      (fun j y q c hy hcc=>by
       obtain ⟨rfl,rfl⟩:=zero hy hcc
       obtain ⟨cv,p1,p2⟩:=(hH i el hel).2.2 (o+j) c (hget j c hy)
       rw [Nat.mul_one,Nat.add_zero,Nat.add_assoc,p1];rfl)
      (fun j y q c hy hcc=>by
       obtain ⟨rfl,rfl⟩:=zero hy hcc
       obtain ⟨cv,p1,p2⟩:=(hH i el hel).2.2 (o+j) c (hget j c hy)
       rw [p1]
       exact p2.imm hok (fun _ _=>rfl) (hall c (List.mem_of_getElem? hy)).1)
     rw [hlen] at this
     exact this
    ·exact .undef _
   ·exact .undef _

theorem scal1_vr {h h':Array Obj} {ok ok':Nat→Prop} {ρ ρ':Nat→Option Nat} {σ σ':Store} {x:AV} {v:Value} (hs:scal1 x=true) (hv:VR h ok ρ σ x v):VR h' ok' ρ' σ' x v:=by
 cases hv <;> first | (cases hs;done) | (constructor;done) | exact .str _ _ (by assumption)

theorem scal_vr {h h':Array Obj} {ok ok':Nat→Prop} {ρ ρ':Nat→Option Nat} {σ σ':Store} {x:AV} {v:Value} (hs:scal x=true) (hv:VR h ok ρ σ x v):VR h' ok' ρ' σ' x v:=by
 have two:∀ {c:AV} {u:Value},(match c with | .agg ds=>ds.all scal1 | c=>scal1 c)=true→VR h ok ρ σ c u→VR h' ok' ρ' σ' c u:=by
  intro c u h1 h2
  cases h2 with
  | agg cs vs hl hvv=>exact .agg _ _ hl fun i c hc=>scal1_vr (List.all_eq_true.1 h1 c (List.mem_of_getElem? hc)) (hvv i c hc)
  | undef v=>exact .undef _
  | int k n=>exact .int _ _
  | bool b=>exact .bool _
  | str l b hb=>exact .str _ _ hb
  | nilp=>exact .nilp
  | nilf=>exact .nilf
  | nili=>exact .nili
  | ifc t v=>exact .ifc t v
  | _=>cases h1
 cases hv with
 | agg cs vs hl hvv=>exact .agg _ _ hl fun i c hc=>two (List.all_eq_true.1 hs c (List.mem_of_getElem? hc)) (hvv i c hc)
 | tup cs vs hl hvv=>exact .tup _ _ hl fun i c hc=>two (List.all_eq_true.1 hs c (List.mem_of_getElem? hc)) (hvv i c hc)
 | undef v=>exact .undef _
 | int k n=>exact .int _ _
 | bool b=>exact .bool _
 | str l b hb=>exact .str _ _ hb
 | nilp=>exact .nilp
 | nilf=>exact .nilf
 | nili=>exact .nili
 | ifc t v=>exact .ifc t v
 | _=>cases hs

theorem Rel.killAll (hR:Rel N B w0 ok0 ok ρ e s a w) (l:List Nat) (ok':Nat→Prop) (hok:∀ b,ok b→ok' b)
  (hnew:∀ b,ok' b→ok b∨∃ k K,k ∈ l∧s k=some (some K)∧ρ k=some b):Rel N B w0 ok0 ok' ρ e (killAll l s) a w:=by
 have hg:Goes w.heap w.heap ρ ρ s (Go.Av.killAll l s):=by
  refine ⟨fun j hj=>?_,fun j J hj=>?_⟩
  ·unfold Go.Av.killAll;split
   ·rw [hj]
   ·exact hj
  ·by_cases hjl:j ∈ l
   ·refine .inl ?_
    unfold Go.Av.killAll;rw [if_pos hjl,hj]
   ·exact .inr ⟨J,by unfold Go.Av.killAll;rw [if_neg hjl];exact hj,rfl,rfl,rfl,fun _ cur _ hb=>⟨cur,hb,rfl⟩⟩
 have key:∀ i I,Go.Av.killAll l s i=some (some I)→i ∉ l∧s i=some (some I):=by
  intro i I hi
  unfold Go.Av.killAll at hi
  split at hi
  ·split at hi <;> cases hi
  ·exact ⟨by assumption,hi⟩
 constructor
 ·exact hR.defers.mono hok (fun _ _=>rfl)
 ·exact hR.size
 ·exact hR.below
 ·exact hR.base
 ·exact fun n=>(hR.tmps n).mono hok (fun _ _=>rfl) hg
 ·intro b hb
  rcases hnew b hb with h | ⟨k,K,_,h1,h2⟩
  ·exact hR.oklt b h
  ·have:=hR.bound h1 h2;exact ⟨this.1,.inl this.2.1⟩
 ·exact fun b hb=>hok b (hR.okold b hb)
 ·intro j J hj
  obtain ⟨h1,h2⟩:=key j J hj
  refine (hR.live j J h2).mono hok (fun _ _=>rfl) hg rfl fun b hb=>⟨rfl,fun _ hno h=>?_⟩
  rcases hnew b h with h | ⟨k,K,h3,h4,h5⟩
  ·exact hno h
  ·exact h1 (hR.inj j k J K b h2 h4 hb h5 ▸ h3)
 ·intro j j' J J' b h1 h2 h3 h4
  exact hR.inj j j' J J' b (key j J h1).2 (key j' J' h2).2 h3 h4
 ·exact hR.kept
 ·exact hR.goes.trans hg
 ·exact hR.gok

def refsL (s:Store) (n:Nat) (l:List AV):List Nat:=l.flatMap (refs s n)

theorem call_sim (hR:Rel N B w0 ok0 ok ρ e s a w) {f:FuncId} {args:List AV} {cargs:Array Value} {v:AV} {s':Store} (hS:Sound P f (args.map (bor s 5)) v)
  (hs':s'=if scal v then s else killAll (refsL s 5 args) s) (hl:cargs.size=args.length) (hv:∀ (i:Nat) (x:AV),args[i]?=some x→VR w.heap ok ρ s x (cargs.getD i undef)) {R:Value→World→Prop}
  (hK:∀ ok' w' cv,Rel N B w0 ok0 ok' ρ e s' a w'→VR w'.heap ok' ρ s' v cv→R cv w'):CallsF P f cargs w R:=by
 have hc:=hS w (fun b=>ok b∨∃ k K,k ∈ refsL s 5 args∧s k=some (some K)∧ρ k=some b) cargs
  (fun b hb=>by
   rcases hb with h | ⟨k,K,_,h1,h2⟩
   ·exact (hR.oklt b h).1
   ·exact (hR.bound h1 h2).1)
  (hR.gnow.mono (fun _ h=>.inl h) (fun _ _=>rfl))
  (by simpa using hl)
  (fun i x hx=>by
   simp only [List.getElem?_map,Option.map_eq_some_iff] at hx
   obtain ⟨y,h1,rfl⟩:=hx
   exact bor_vr hR (fun k=>k ∈ refsL s 5 args) 5 y _ (hv i y h1) (fun k hk=>List.mem_flatMap.2 ⟨y,List.mem_of_getElem? h1,hk⟩))
 have fin:∀ cv w',(Below w.heap.size w w'∧VR w'.heap (fun b=>(ok b∨∃ k K,k ∈ refsL s 5 args∧s k=some (some K)∧ρ k=some b)∨(w.heap.size≤b∧b<w'.heap.size)) noPlace noStore v cv)→R cv w':=by
  rintro cv w' ⟨hb,hvv⟩
  have hR':=hR.grow hb
  by_cases hsc:scal v=true
  ·rw [if_pos hsc] at hs'
   subst hs'
   exact hK ok w' cv hR' (scal_vr hsc hvv)
  ·rw [if_neg hsc] at hs'
   subst hs'
   have h1:=hR'.killAll (refsL s 5 args) (fun b=>ok b∨∃ k K,k ∈ refsL s 5 args∧s k=some (some K)∧ρ k=some b) (fun _ h=>.inl h) (fun b h=>h)
   have h2:Rel N B w0 ok0 (fun b=>(ok b∨∃ k K,k ∈ refsL s 5 args∧s k=some (some K)∧ρ k=some b)∨(w.heap.size≤b∧b<w'.heap.size)) ρ e (Go.Av.killAll (refsL s 5 args) s) a w':=by
    constructor
    ·exact h1.defers.mono (fun _ h=>.inl h) (fun _ _=>rfl)
    ·exact h1.size
    ·exact h1.below
    ·exact h1.base
    ·exact fun n=>(h1.tmps n).mono (fun _ h=>.inl h) (fun _ _=>rfl) (Goes.refl _ _ _)
    ·intro b h
     rcases h with h | ⟨h,h'⟩
     ·exact h1.oklt b h
     ·exact ⟨h',.inl (Nat.le_trans hR.base h)⟩
    ·exact fun b h=>.inl (h1.okold b h)
    ·intro k K hk
     refine (h1.live k K hk).mono (fun _ h=>.inl h) (fun _ _=>rfl) (Goes.refl _ _ _) rfl fun b hb'=>⟨rfl,fun _ hno h=>?_⟩
     rcases h with h | ⟨h,h'⟩
     ·exact hno h
     ·-- a live key's block is older than the call
      unfold Go.Av.killAll at hk
      split at hk
      ·split at hk <;> cases hk
      ·have:=(hR.bound hk hb').1;omega
    ·exact h1.inj
    ·exact h1.kept
    ·exact h1.goes
    ·exact h1.gok
   exact hK _ w' cv h2 (hvv.mono (fun _ h=>h) (fun _ _=>rfl) (Goes.empty _ _ _ _ _))
 rcases hc with ⟨cv,w',h1,h2⟩ | ⟨h1,h2⟩
 ·exact .inl ⟨cv,w',h1,fin cv w' h2⟩
 ·exact .inr ⟨h1,h2.mono fun en w' ⟨cv,he,h3⟩=>⟨cv,he,fin cv w' h3⟩⟩
theorem Rel.adopt (hR:Rel N B w0 ok0 ok ρ e s a w) {n0:Nat} (hn:B≤n0) (hold:∀ b,ok b→b<n0) (hkeys:∀ k K b,s k=some (some K)→ρ k=some b→b<n0) {d ty sz:Nat} {es:List AV} (hd:s d=none) (hsz:0<sz) {cv:Value}
  (ho:(es=[]∧∃ a,cv=.slice a 0 0)∨∃ b cap cur,cv=.slice (some ⟨b,0,none⟩) es.length cap∧n0≤b∧w.heap[b]?=some (.cells cur ty (0,0))∧es.length≤cap∧cap≤maxLen∧cur.size=cap * sz ∧
   Holds w.heap (fun x=>(ok x∨(n0≤x∧x<w.heap.size))∧x ≠ b) noPlace noStore sz es cur) :
  ∃ ok' ρ',Rel N B w0 ok0 ok' ρ' e (upd s d (some (some ⟨ty,sz,es⟩))) a w∧VR w.heap ok' ρ' (upd s d (some (some ⟨ty,sz,es⟩))) (.buf d es.length) cv:=by
 have hne:∀ k,s k ≠ none→k ≠ d:=fun k hk e=>hk (e ▸ hd)
 have hg:∀ r:Option Nat,Goes w.heap w.heap ρ (upd ρ d r) s (upd s d (some (some ⟨ty,sz,es⟩))):=by
  intro r
  refine ⟨fun k hk=>by rw [upd_other _ _ _ _ (hne k (by simp [hk]))];exact hk,fun k K hk=>.inr ⟨K,?_,rfl,rfl,?_,fun b cur _ hb=>⟨cur,hb,rfl⟩⟩⟩
  ·rw [upd_other _ _ _ _ (hne k (by simp [hk]))];exact hk
  ·rw [upd_other _ _ _ _ (hne k (by simp [hk]))]
 rcases ho with ⟨rfl,A,rfl⟩ | ⟨b,cap,cur,rfl,h1,h2,h3,h4,h5,h6⟩
 ·refine ⟨ok,upd ρ d none,?_,.bufn d A ⟨ty,sz,[]⟩ (upd_same _ _ _) (upd_same _ _ _)⟩
  constructor
  ·exact hR.defers
  ·exact hR.size
  ·exact hR.below
  ·exact hR.base
  ·exact fun n=>(hR.tmps n).mono (fun _ h=>h) (fun _ _=>rfl) (hg none)
  ·exact hR.oklt
  ·exact hR.okold
  ·intro k K hk
   by_cases hkd:k=d
   ·subst hkd
    rw [upd_same] at hk
    cases hk
    exact .inl ⟨hsz,.inl ⟨upd_same _ _ _,rfl⟩⟩
   ·rw [upd_other _ _ _ _ hkd] at hk
    exact (hR.live k K hk).mono (fun _ h=>h) (fun _ _=>rfl) (hg none) (upd_other _ _ _ _ hkd) fun b hb=>⟨rfl,fun _ h=>h⟩
  ·intro k k' K K' b g1 g2 g3 g4
   have q1:k ≠ d:=fun q=>by subst q;rw [upd_same] at g3;cases g3
   have q2:k' ≠ d:=fun q=>by subst q;rw [upd_same] at g4;cases g4
   rw [upd_other _ _ _ _ q1] at g1 g3
   rw [upd_other _ _ _ _ q2] at g2 g4
   exact hR.inj k k' K K' b g1 g2 g3 g4
  ·exact hR.kept
  ·exact hR.goes.trans (hg none)
  ·exact hR.gok
 ·have hsub:∀ x,ok x→(ok x∨(n0≤x∧x<w.heap.size))∧x ≠ b:=fun x hx=>⟨.inl hx,by have:=hold x hx;omega⟩
  have hlt:=(Array.getElem?_eq_some_iff.1 h2).1
  refine ⟨fun x=>(ok x∨(n0≤x∧x<w.heap.size))∧x ≠ b,upd ρ d (some b),?_,.buf d es.length ⟨ty,sz,es⟩ b cap cur (upd_same _ _ _) (upd_same _ _ _) h2 h3 h4 h5⟩
  constructor
  ·exact hR.defers.mono hsub (fun _ _=>rfl)
  ·exact hR.size
  ·exact hR.below
  ·exact hR.base
  ·exact fun n=>(hR.tmps n).mono hsub (fun _ _=>rfl) (hg _)
  ·rintro x ⟨hx | ⟨g1,g2⟩,_⟩
   ·exact hR.oklt x hx
   ·exact ⟨g2,.inl (Nat.le_trans hn g1)⟩
  ·exact fun x hx=>hsub x (hR.okold x hx)
  ·intro k K hk
   by_cases hkd:k=d
   ·subst hkd
    rw [upd_same] at hk
    cases hk
    refine .inl ⟨hsz,.inr ⟨b,cur,upd_same _ _ _,Nat.le_trans hn h1,fun h=>h.2 rfl,h2,?_⟩⟩
    exact h6.mono (fun _ h=>h) (fun _ _=>rfl) (Goes.empty _ _ _ _ _)
   ·rw [upd_other _ _ _ _ hkd] at hk
    refine (hR.live k K hk).mono hsub (fun _ _=>rfl) (hg _) (upd_other _ _ _ _ hkd) fun b' hb'=>⟨rfl,fun _ hno h=>?_⟩
    have:=hkeys k K b' hk hb'
    rcases h.1 with h | ⟨h,_⟩
    ·exact hno h
    ·omega
  ·intro k k' K K' b' g1 g2 g3 g4
   by_cases hk:k=d <;> by_cases hk':k'=d
   ·rw [hk,hk']
   ·subst hk
    rw [upd_other _ _ _ _ hk'] at g2 g4
    rw [upd_same] at g3;cases g3
    have:=hkeys k' K' b g2 g4;omega
   ·subst hk'
    rw [upd_other _ _ _ _ hk] at g1 g3
    rw [upd_same] at g4;cases g4
    have:=hkeys k K b g1 g3;omega
   ·rw [upd_other _ _ _ _ hk] at g1 g3
    rw [upd_other _ _ _ _ hk'] at g2 g4
    exact hR.inj k k' K K' b' g1 g2 g3 g4
  ·exact hR.kept
  ·exact hR.goes.trans (hg _)
  ·exact hR.gok

def scalE (es:List AV):Bool:=es.all fun x=>(cellsOf x).all scal1
def ownS (es:List AV) (l:List Nat) (s:Store):Store:=if scalE es then s else Go.Av.killAll l s
theorem call_simO (hR:Rel N B w0 ok0 ok ρ e s a w) {f:FuncId} {args:List AV} {cargs:Array Value} {d ty sz:Nat} {es:List AV} {s':Store} (hS:SoundO P f (args.map (bor s 5)) ty sz es) (hd:s d=none)
  (hs':s'=upd (ownS es (refsL s 5 args) s) d (some (some ⟨ty,sz,es⟩))) (hl:cargs.size=args.length) (hv:∀ (i:Nat) (x:AV),args[i]?=some x→VR w.heap ok ρ s x (cargs.getD i undef)) {R:Value→World→Prop}
  (hK:∀ ok' ρ' w' cv,Rel N B w0 ok0 ok' ρ' e s' a w'→VR w'.heap ok' ρ' s' (.buf d es.length) cv→R cv w'):CallsF P f cargs w R:=by
 obtain ⟨hsz,hS⟩:=hS
 have hlt:∀ b,(ok b∨∃ k K,k ∈ refsL s 5 args∧s k=some (some K)∧ρ k=some b)→b<w.heap.size:=fun b hb=>by
  rcases hb with h | ⟨k,K,_,h1,h2⟩
  ·exact (hR.oklt b h).1
  ·exact (hR.bound h1 h2).1
 have hc:=hS w (fun b=>ok b∨∃ k K,k ∈ refsL s 5 args∧s k=some (some K)∧ρ k=some b) cargs hlt
  (hR.gnow.mono (fun _ h=>.inl h) (fun _ _=>rfl))
  (by simpa using hl)
  (fun i x hx=>by
   simp only [List.getElem?_map,Option.map_eq_some_iff] at hx
   obtain ⟨y,h1,rfl⟩:=hx
   exact bor_vr hR (fun k=>k ∈ refsL s 5 args) 5 y _ (hv i y h1) (fun k hk=>List.mem_flatMap.2 ⟨y,List.mem_of_getElem? h1,hk⟩))
 have fin:∀ cv w',(Below w.heap.size w w'∧OwnR w w' (fun b=>ok b∨∃ k K,k ∈ refsL s 5 args∧s k=some (some K)∧ρ k=some b) ty sz es cv)→R cv w':=by
  rintro cv w' ⟨hb,ho⟩
  have hR':=hR.grow hb
  unfold ownS at hs'
  by_cases hsc:scalE es=true
  ·rw [if_pos hsc] at hs'
   obtain ⟨ok',ρ',g1,g2⟩:=hR'.adopt hR.base (fun b hb=>(hR.oklt b hb).1) (fun k K b hk hb'=>(hR.bound hk hb').1) (d:=d) hd hsz (by
    rcases ho with h | ⟨b,cap,cur,q1,q2,q3,q4,q5,q6,q7⟩
    ·exact .inl h
    ·refine .inr ⟨b,cap,cur,q1,q2,q3,q4,q5,q6,fun i x hx=>⟨(q7 i x hx).1,(q7 i x hx).2.1,fun o c hcc=>?_⟩⟩
     obtain ⟨cv,p1,p2⟩:=(q7 i x hx).2.2 o c hcc
     exact ⟨cv,p1,scal1_vr (List.all_eq_true.1 (List.all_eq_true.1 hsc x (List.mem_of_getElem? hx)) c (List.mem_of_getElem? hcc)) p2⟩)
   subst hs'
   exact hK ok' ρ' w' cv g1 g2
  ·rw [if_neg hsc] at hs'
   have h1:=hR'.killAll (refsL s 5 args) (fun b=>ok b∨∃ k K,k ∈ refsL s 5 args∧s k=some (some K)∧ρ k=some b) (fun _ h=>.inl h) (fun b h=>h)
   have hk1:∀ k K,Go.Av.killAll (refsL s 5 args) s k=some (some K)→s k=some (some K):=fun k K hk=>by
    unfold Go.Av.killAll at hk
    split at hk
    ·split at hk <;> cases hk
    ·exact hk
   obtain ⟨ok',ρ',g1,g2⟩:=h1.adopt hR.base hlt (fun k K b hk hb'=>(hR.bound (hk1 k K hk) hb').1) (d:=d) (by
    unfold Go.Av.killAll
    split
    ·rw [hd]
    ·exact hd) hsz ho
   subst hs'
   exact hK ok' ρ' w' cv g1 g2
 rcases hc with ⟨cv,w',h1,h2⟩ | ⟨h1,h2⟩
 ·exact .inl ⟨cv,w',h1,fin cv w' h2⟩
 ·exact .inr ⟨h1,h2.mono fun en w' ⟨cv,he,h3⟩=>⟨cv,he,fin cv w' h3⟩⟩
theorem call_simN (hR:Rel N B w0 ok0 ok ρ e s a w) {f:FuncId} {args:List AV} {cargs:Array Value} {ty sz:Nat} {es:List AV} (hS:SoundO P f (args.map (bor s 5)) ty sz es) (he:(scalE es && es.all imm)=true)
  (hl:cargs.size=args.length) (hv:∀ (i:Nat) (x:AV),args[i]?=some x→VR w.heap ok ρ s x (cargs.getD i undef)) {R:Value→World→Prop}
  (hK:∀ ok' w' cv,Rel N B w0 ok0 ok' ρ e s a w'→VR w'.heap ok' ρ s (.sl es) cv→R cv w'):CallsF P f cargs w R:=by
 obtain ⟨hsz,hS⟩:=hS
 obtain ⟨he,hi⟩:=(Bool.and_eq_true _ _).mp he
 have hlt:∀ b,(ok b∨∃ k K,k ∈ refsL s 5 args∧s k=some (some K)∧ρ k=some b)→b<w.heap.size:=fun b hb=>by
  rcases hb with h | ⟨k,K,_,h1,h2⟩
  ·exact (hR.oklt b h).1
  ·exact (hR.bound h1 h2).1
 have hc:=hS w (fun b=>ok b∨∃ k K,k ∈ refsL s 5 args∧s k=some (some K)∧ρ k=some b) cargs hlt
  (hR.gnow.mono (fun _ h=>.inl h) (fun _ _=>rfl))
  (by simpa using hl)
  (fun i x hx=>by
   simp only [List.getElem?_map,Option.map_eq_some_iff] at hx
   obtain ⟨y,h1,rfl⟩:=hx
   exact bor_vr hR (fun k=>k ∈ refsL s 5 args) 5 y _ (hv i y h1) (fun k hk=>List.mem_flatMap.2 ⟨y,List.mem_of_getElem? h1,hk⟩))
 have fin:∀ cv w',(Below w.heap.size w w'∧OwnR w w' (fun b=>ok b∨∃ k K,k ∈ refsL s 5 args∧s k=some (some K)∧ρ k=some b) ty sz es cv)→R cv w':=by
  rintro cv w' ⟨hb,ho⟩
  have h1:=hR.grow hb
  have h2:Rel N B w0 ok0 (fun b=>ok b∨(w.heap.size≤b∧b<w'.heap.size)) ρ e s a w':=by
   constructor
   ·exact h1.defers.mono (fun _ h=>.inl h) (fun _ _=>rfl)
   ·exact h1.size
   ·exact h1.below
   ·exact h1.base
   ·exact fun n=>(h1.tmps n).mono (fun _ h=>.inl h) (fun _ _=>rfl) (Goes.refl _ _ _)
   ·intro b h
    rcases h with h | ⟨h,h'⟩
    ·exact h1.oklt b h
    ·exact ⟨h',.inl (Nat.le_trans hR.base h)⟩
   ·exact fun b h=>.inl (h1.okold b h)
   ·intro k K hk
    refine (h1.live k K hk).mono (fun _ h=>.inl h) (fun _ _=>rfl) (Goes.refl _ _ _) rfl fun b hb'=>⟨rfl,fun _ hno h=>?_⟩
    rcases h with h | ⟨h,h'⟩
    ·exact hno h
    ·have:=(hR.bound hk hb').1;omega
   ·exact h1.inj
   ·exact h1.kept
   ·exact h1.goes
   ·exact h1.gok
  refine hK _ w' cv h2 ?_
  rcases ho with ⟨rfl,a,rfl⟩ | ⟨b,cap,cur,rfl,q2,q3,q4,q5,q6,q7⟩
  ·exact .sl0 _ _
  ·have hb':b<w'.heap.size:=(Array.getElem?_eq_some_iff.1 q3).1
   refine .sl es b 0 sz cap cur ty (0,0) (fun i o=>(cur[i * sz+o]?).getD undef) (.inr ⟨q2,hb'⟩) q4 q3 (fun i x hx=>⟨(q7 i x hx).1,(q7 i x hx).2.1,List.all_eq_true.1 hi x (List.mem_of_getElem? hx)⟩) ?_ ?_
   ·intro i x o c hx hcc
    obtain ⟨cv,p1,_⟩:=(q7 i x hx).2.2 o c hcc
    rw [Nat.zero_add,p1];rfl
   ·intro i x o c hx hcc
    obtain ⟨cv,p1,p2⟩:=(q7 i x hx).2.2 o c hcc
    rw [p1]
    exact scal1_vr (List.all_eq_true.1 (List.all_eq_true.1 he x (List.mem_of_getElem? hx)) c (List.mem_of_getElem? hcc)) p2
 rcases hc with ⟨cv,w',h1,h2⟩ | ⟨h1,h2⟩
 ·exact .inl ⟨cv,w',h1,fin cv w' h2⟩
 ·exact .inr ⟨h1,h2.mono fun en w' ⟨cv,he,h3⟩=>⟨cv,he,fin cv w' h3⟩⟩
theorem Holds.scal {h h':Array Obj} {ok ok':Nat→Prop} {ρ ρ':Nat→Option Nat} {σ σ':Store} {sz:Nat} {es:List AV} {cur:Array Value} (hs:scalE es=true) (hH:Holds h ok ρ σ sz es cur):Holds h' ok' ρ' σ' sz es cur:=fun i x hx =>
 ⟨(hH i x hx).1,(hH i x hx).2.1,fun o c hc=>let ⟨cv,p,q⟩:=(hH i x hx).2.2 o c hc;⟨cv,p,scal1_vr (List.all_eq_true.1 (List.all_eq_true.1 hs x (List.mem_of_getElem? hx)) c (List.mem_of_getElem? hc)) q⟩⟩
def lentTo (k:Nat) (vs:List AV):Prop:=(∃ i o,AV.ptr k i o ∈ vs)∨∃ len,0<len∧AV.buf k len ∈ vs
theorem call_simX (hR:Rel N B w0 ok0 ok ρ e s a w) {f:FuncId} {args:List AV} {cargs:Array Value} {k ty sz:Nat} {es es2:List AV} {v:AV} (hk:s k=some (some ⟨ty,sz,es⟩)) (hs1:scalE es=true) (hs2:scalE es2=true) (hsv:scal v=true)
  (hn:∀ x ∈ args,isRefK k x=false→k ∉ refs s 5 x) (hp:lentTo k args) (hS:SoundX P f (args.map (borX s k)) k ty sz es v es2)
  (hl:cargs.size=args.length) (hv:∀ (i:Nat) (x:AV),args[i]?=some x→VR w.heap ok ρ s x (cargs.getD i undef)) {R:Value→World→Prop}
  (hK:∀ w' cv,Rel N B w0 ok0 ok ρ e (upd s k (some (some ⟨ty,sz,es2⟩))) a w'→VR w'.heap ok ρ (upd s k (some (some ⟨ty,sz,es2⟩))) v cv→R cv w'):CallsF P f cargs w R:=by
 obtain ⟨b,hρ,hz0⟩:∃ b,ρ k=some b∧0<sz:=by
  rcases hp with ⟨i,o,hm⟩ | ⟨len,hl0,hm⟩
  ·obtain ⟨j,hj⟩:=List.mem_iff_getElem?.1 hm
   have:=hv j _ hj
   generalize cargs.getD j undef=cv at this
   cases this with
   | ptrd _ _ _ _ hd=>rw [hk] at hd;cases hd
   | ptr _ _ _ B b hσ hr hz=>exact ⟨b,hr,by rw [hk] at hσ;cases hσ;exact hz⟩
  ·obtain ⟨j,hj⟩:=List.mem_iff_getElem?.1 hm
   have:=hv j _ hj
   generalize cargs.getD j undef=cv at this
   cases this with
   | bufd _ _ _ _ _ hd=>rw [hk] at hd;cases hd
   | bufn _ _ _ _ _=>omega
   | buf _ _ B b cap cur hσ hr hb _ _ _=>exact ⟨b,hr,hR.pos hk hr (by rw [hk] at hσ;cases hσ;exact hb)⟩
 obtain ⟨hbl,hBb,hnok,cur,hcur,hH⟩:=hR.boundC hk hρ hz0
 have hc:=hS w (fun c=>ok c∨∃ j K,j ≠ k∧s j=some (some K)∧ρ j=some c) cargs b cur
  (fun c hc=>by
   rcases hc with h | ⟨j,K,_,h1,h2⟩
   ·exact (hR.oklt c h).1
   ·exact (hR.bound h1 h2).1)
  (hR.gnow.mono (fun _ h=>.inl h) (fun _ _=>rfl))
  (fun hb=>by
   rcases hb with h | ⟨j,K,hj,h1,h2⟩
   ·exact hnok h
   ·exact hj (hR.inj j k K _ b h1 hk h2 hρ))
  hcur (hH.scal hs1) (by simpa using hl)
  (fun i x hx=>by
   simp only [List.getElem?_map,Option.map_eq_some_iff] at hx
   obtain ⟨y,h1,rfl⟩:=hx
   have hy:=hv i y h1
   unfold borX
   by_cases hr:isRefK k y=true
   ·rw [if_pos hr]
    generalize cargs.getD i undef=cv at hy
    cases hy with
    | ptrd j _ _ _ hd=>simp only [isRefK,beq_iff_eq] at hr;subst hr;rw [hk] at hd;cases hd
    | ptr j i o K b' hσ hr' hz =>
     simp only [isRefK,beq_iff_eq] at hr;subst hr
     rw [hk] at hσ;cases hσ
     rw [hρ] at hr';cases hr'
     exact .ptr _ _ _ ⟨ty,sz,es⟩ b (upd_same _ _ _) (upd_same _ _ _) hz
    | bufd j _ _ _ _ hd=>simp only [isRefK,beq_iff_eq] at hr;subst hr;rw [hk] at hd;cases hd
    | bufn j _ K hσ hr'=>simp only [isRefK,beq_iff_eq] at hr;subst hr;rw [hρ] at hr';cases hr'
    | buf j len K b' cap cur' hσ hr' hb' hlen hcap hcu =>
     simp only [isRefK,beq_iff_eq] at hr;subst hr
     rw [hk] at hσ;cases hσ
     rw [hρ] at hr';cases hr'
     exact .buf _ _ ⟨ty,sz,es⟩ b cap cur' (upd_same _ _ _) (upd_same _ _ _) hb' hlen hcap hcu
    | vwd j _ _ _ _ _ _ hd=>simp only [isRefK,beq_iff_eq] at hr;subst hr;rw [hk] at hd;cases hd
    | vw j i o m K b' hσ hr' hz =>
     simp only [isRefK,beq_iff_eq] at hr;subst hr
     rw [hk] at hσ;cases hσ
     rw [hρ] at hr';cases hr'
     exact .vw _ _ _ _ ⟨ty,sz,es⟩ b (upd_same _ _ _) (upd_same _ _ _) hz
    | _=>cases hr
   ·rw [if_neg hr]
    have hr':isRefK k y=false:=by simpa using hr
    exact (bor_vr hR (fun j=>j ≠ k) 5 y _ hy (fun j hj he=>hn y (List.mem_of_getElem? h1) hr' (he ▸ hj))).mono (fun _ h=>h) (fun _ _=>rfl) (Goes.empty _ _ _ _ _))
 have fin:∀ cv w',(Below 0 w w'∧(∀ c,c<w.heap.size→c ≠ b→w'.heap[c]?=w.heap[c]?)∧(∃ cur',w'.heap[b]?=some (.cells cur' ty (0,0))∧cur'.size=cur.size∧Holds w'.heap (fun _=>False) noPlace noStore sz es2 cur')∧VR w'.heap (fun _=>False) noPlace noStore v cv)→R cv w':=by
  rintro cv w' ⟨hb0,hoth,⟨cur',h1,h2,h3⟩,hvv⟩
  have hot:∀ j,j ≠ b→(w.putObj b (.cells cur' ty (0,0))).heap[j]?=w.heap[j]?:=fun j hj=>World.putObj_heap_other hj
  have hsz1:(w.putObj b (.cells cur' ty (0,0))).heap.size=w.heap.size:=World.putObj_size
  have hat:(w.putObj b (.cells cur' ty (0,0))).heap[b]?=some (.cells cur' ty (0,0)):=World.putObj_heap_same hbl
  have hR1:=hR.set (w':=w.putObj b (.cells cur' ty (0,0))) (cur':=cur') (es:=es2) hk hρ hcur h2 (h3.scal hs2) hat hot
   ⟨⟨rfl,rfl,rfl,Nat.le_of_eq hsz1.symm,fun c hc=>hot c (by omega)⟩,Nat.le_refl _⟩ hsz1
  have hR2:=hR1.grow (w':=w') (by
   rw [hsz1]
   refine ⟨⟨hb0.os,hb0.tape,hb0.output,by rw [hsz1];exact hb0.size,fun c hc=>?_⟩,hb0.drawn⟩
   by_cases hcb:c=b
   ·subst hcb;rw [h1,hat]
   ·rw [hoth c hc hcb,hot c hcb])
  exact hK w' cv hR2 (scal_vr hsv hvv)
 rcases hc with ⟨cv,w',h1,h2⟩ | ⟨h1,h2⟩
 ·exact .inl ⟨cv,w',h1,fin cv w' h2⟩
 ·exact .inr ⟨h1,h2.mono fun en w' ⟨cv,he,h3⟩=>⟨cv,he,fin cv w' h3⟩⟩
theorem cellsOf_scal1 {x:AV} (h:scal1 x=true):cellsOf x=[x]:=by cases x <;> first | rfl | cases h
theorem Rel.adoptP (hR:Rel N B w0 ok0 ok ρ e s a w) {b d ty:Nat} {x:AV} {cur:Array Value} {cv:Value} (hB:B≤b) (hno:¬ ok b) (hk:∀ k K,s k=some (some K)→ρ k ≠ some b) (hd:s d=none) (hx:scal1 x=true) (hc:cell x=true)
  (hb:w.heap[b]?=some (.cells cur ty (0,0))) (hcu:cur[0]?=some cv) (hv:VR w.heap (fun _=>False) noPlace noStore x cv):Rel N B w0 ok0 ok (upd ρ d (some b)) e (upd s d (some (some ⟨ty,1,[x]⟩))) a w:=by
 have hne:∀ k,s k ≠ none→k ≠ d:=fun k hk e=>hk (e ▸ hd)
 have hg:Goes w.heap w.heap ρ (upd ρ d (some b)) s (upd s d (some (some ⟨ty,1,[x]⟩))):=by
  refine ⟨fun k hk=>by rw [upd_other _ _ _ _ (hne k (by simp [hk]))];exact hk,fun k K hk=>.inr ⟨K,?_,rfl,rfl,?_,fun b cur _ hb=>⟨cur,hb,rfl⟩⟩⟩
  ·rw [upd_other _ _ _ _ (hne k (by simp [hk]))];exact hk
  ·rw [upd_other _ _ _ _ (hne k (by simp [hk]))]
 constructor
 ·exact hR.defers
 ·exact hR.size
 ·exact hR.below
 ·exact hR.base
 ·exact fun n=>(hR.tmps n).mono (fun _ h=>h) (fun _ _=>rfl) hg
 ·exact hR.oklt
 ·exact hR.okold
 ·intro k K hk'
  by_cases hkd:k=d
  ·subst hkd
   rw [upd_same] at hk'
   cases hk'
   refine .inl ⟨Nat.one_pos,.inr ⟨b,cur,upd_same _ _ _,hB,hno,hb,fun i y hy=>?_⟩⟩
   cases i with
   | zero =>
    simp at hy;subst hy
    rw [cellsOf_scal1 hx]
    refine ⟨rfl,fun c hcc=>by rw [cellsOf_scal1 hx] at hcc;simp at hcc;subst hcc;exact hc,fun o c ho=>?_⟩
    cases o with
    | zero=>simp at ho;subst ho;exact ⟨cv,by simpa using hcu,scal1_vr hx hv⟩
    | succ o=>simp at ho
   | succ i=>simp at hy
  ·rw [upd_other _ _ _ _ hkd] at hk'
   exact (hR.live k K hk').mono (fun _ h=>h) (fun _ _=>rfl) hg (upd_other _ _ _ _ hkd) fun b' hb'=>⟨rfl,fun _ h=>h⟩
 ·intro k k' K K' b' g1 g2 g3 g4
  by_cases h1:k=d <;> by_cases h2:k'=d
  ·rw [h1,h2]
  ·subst h1
   rw [upd_other _ _ _ _ h2] at g2 g4
   rw [upd_same] at g3;cases g3
   exact absurd g4 (hk k' K' g2)
  ·subst h2
   rw [upd_other _ _ _ _ h1] at g1 g3
   rw [upd_same] at g4;cases g4
   exact absurd g3 (hk k K g1)
  ·rw [upd_other _ _ _ _ h1] at g1 g3
   rw [upd_other _ _ _ _ h2] at g2 g4
   exact hR.inj k k' K K' b' g1 g2 g3 g4
 ·exact hR.kept
 ·exact hR.goes.trans hg
 ·exact hR.gok
theorem addK_other:∀ {ks:List Nat} {ps:List (TypeId × AV)} {s:Store} {k:Nat},k ∉ ks→addK ks ps s k=s k
 | [],[],_,_,_=>rfl
 | [],_ :: _,_,_,_=>rfl
 | _ :: _,[],_,_,_=>rfl
 | j :: ks,p :: ps,s,k,h=>by
  rw [List.mem_cons,not_or] at h
  rw [addK,upd_other _ _ _ _ h.1]
  exact addK_other h.2
theorem Rel.adoptC {w1:World} (hn:B≤w1.heap.size) (hold:∀ b,ok b→b<w1.heap.size) (hs1:∀ k K b,s k=some (some K)→ρ k=some b→b<w1.heap.size):∀ {ks bs:List Nat} {news:List (TypeId × AV)},ks.length=news.length→ks.Nodup→(∀ k ∈ ks,s k=none)→(∀ p ∈ news,scal1 p.2=true∧cell p.2=true) →
  NewCells w1 w bs news→Rel N B w0 ok0 ok ρ e s a w→∃ ρ',Rel N B w0 ok0 ok ρ' e (addK ks news s) a w∧bs.length=ks.length∧(∀ (i:Nat) (k b:Nat),ks[i]?=some k→bs[i]?=some b→ρ' k=some b∧∃ K,addK ks news s k=some (some K)∧0<K.sz) ∧
   ∀ k K b,addK ks news s k=some (some K)→ρ' k=some b→b<w1.heap.size∨b ∈ bs
 | [],[],[],_,_,_,_,_,hR=>⟨ρ,hR,rfl,fun i k b h=>by simp at h,fun k K b h1 h2=>.inl (hs1 k K b h1 h2)⟩
 | k :: ks,b :: bs,p :: news,hl,hn',hk,hp,hN,hR=>by
  obtain ⟨⟨h1,h2,cur,cv,h3,hcu,h4⟩,hN⟩:=hN
  obtain ⟨hkn,hnd⟩:=List.nodup_cons.1 hn'
  obtain ⟨ρ1,hR1,hl1,hi1,hb1⟩:=adoptC hn hold hs1 (ks:=ks) (bs:=bs) (news:=news) (by simpa using hl) hnd (fun j hj=>hk j (by simp [hj])) (fun q hq=>hp q (by simp [hq])) hN hR
  obtain ⟨q1,q2⟩:=hp p (by simp)
  have hd:addK ks news s k=none:=by rw [addK_other hkn];exact hk k (by simp)
  have hR2:=hR1.adoptP (b:=b) (d:=k) (ty:=p.1) (x:=p.2) (cv:=cv) (Nat.le_trans hn h1) (fun hb=>by have:=hold b hb;omega) (fun j K hj hjb=>by
   rcases hb1 j K b hj hjb with h | h
   ·omega
   ·exact h2 h) hd q1 q2 h3 hcu h4
  refine ⟨_,hR2,by simp [hl1],fun i j c g1 g2=>?_,fun j K c g1 g2=>?_⟩
  ·cases i with
   | zero =>
    simp at g1 g2;subst g1;subst g2
    exact ⟨upd_same _ _ _,_,upd_same _ _ _,Nat.one_pos⟩
   | succ i =>
    simp at g1 g2
    have hjk:j ≠ k:=fun h=>hkn (h ▸ List.mem_of_getElem? g1)
    obtain ⟨r1,K,r2,r3⟩:=hi1 i j c g1 g2
    exact ⟨by rw [upd_other _ _ _ _ hjk];exact r1,K,by rw [addK,upd_other _ _ _ _ hjk];exact r2,r3⟩
  ·by_cases hjk:j=k
   ·subst hjk
    rw [upd_same] at g2;cases g2
    exact .inr (by simp)
   ·rw [addK,upd_other _ _ _ _ hjk] at g1
    rw [upd_other _ _ _ _ hjk] at g2
    rcases hb1 j K c g1 g2 with h | h
    ·exact .inl h
    ·exact .inr (by simp [h])
 | [],_,_ :: _,hl,_,_,_,_,_=>by simp at hl
 | _ :: _,_,[],hl,_,_,_,_,_=>by simp at hl
 | [],_ :: _,[],_,_,_,_,hN,_=>hN.elim
 | _ :: _,[],_ :: _,_,_,_,_,hN,_=>hN.elim
theorem call_simC (hR:Rel N B w0 ok0 ok ρ e s a w) {f g:FuncId} {args:List AV} {cargs:Array Value} {news:List (TypeId × AV)} {ks:List Nat} (hS:SoundC P f (args.map (bor s 5)) g news) (hl':ks.length=news.length) (hnd:ks.Nodup) (hks:∀ k ∈ ks,s k=none)
  (hl:cargs.size=args.length) (hv:∀ (i:Nat) (x:AV),args[i]?=some x→VR w.heap ok ρ s x (cargs.getD i undef)) {R:Value→World→Prop}
  (hK:∀ ok' ρ' w' cv,Rel N B w0 ok0 ok' ρ' e (addK ks news s) a w'→VR w'.heap ok' ρ' (addK ks news s) (.fn g (ks.map fun k=>.ptr k 0 0)) cv→R cv w'):CallsF P f cargs w R:=by
 obtain ⟨⟨_,hnw⟩,hS⟩:=hS
 have hc:=hS w (fun b=>ok b∨∃ k K,k ∈ refsL s 5 args∧s k=some (some K)∧ρ k=some b) cargs
  (fun b hb=>by
   rcases hb with h | ⟨k,K,_,h1,h2⟩
   ·exact (hR.oklt b h).1
   ·exact (hR.bound h1 h2).1)
  (hR.gnow.mono (fun _ h=>.inl h) (fun _ _=>rfl))
  (by simpa using hl)
  (fun i x hx=>by
   simp only [List.getElem?_map,Option.map_eq_some_iff] at hx
   obtain ⟨y,h1,rfl⟩:=hx
   exact bor_vr hR (fun k=>k ∈ refsL s 5 args) 5 y _ (hv i y h1) (fun k hk=>List.mem_flatMap.2 ⟨y,List.mem_of_getElem? h1,hk⟩))
 have fin:∀ cv w',(Below w.heap.size w w'∧∃ bs,cv=.func (.func g) #[] (bs.map fun b=>Value.pointer (some ⟨b,0,none⟩)).toArray∧NewCells w w' bs news)→R cv w':=by
  rintro cv w' ⟨hb,bs,rfl,hN⟩
  have hR':=hR.grow hb
  obtain ⟨ρ',g1,g2,g3,_⟩:=Rel.adoptC (w1:=w) hR.base (fun b hb=>(hR.oklt b hb).1) (fun k K b h1 h2=>(hR.bound h1 h2).1) hl' hnd hks hnw hN hR'
  refine hK ok ρ' w' _ g1 (.fn _ _ _ (by simp [g2]) fun i c hc=>?_)
  simp only [List.getElem?_map,Option.map_eq_some_iff] at hc
  obtain ⟨k,hk,rfl⟩:=hc
  have hi:i<bs.length:=by have:=(List.getElem?_eq_some_iff.1 hk).1;omega
  obtain ⟨r1,K,r2,r3⟩:=g3 i k bs[i] hk (List.getElem?_eq_getElem hi)
  have:=VR.ptr (h:=w'.heap) (ok:=ok) (ρ:=ρ') (σ:=addK ks news s) k 0 0 K bs[i] r2 r1 r3
  simpa [Array.getD_eq_getD_getElem?,hi] using this
 rcases hc with ⟨cv,w',h1,h2⟩ | ⟨h1,h2⟩
 ·exact .inl ⟨cv,w',h1,fin cv w' h2⟩
 ·exact .inr ⟨h1,h2.mono fun en w' ⟨cv,he,h3⟩=>⟨cv,he,fin cv w' h3⟩⟩
end
end Go.Av

/- A region's operations one after the other,in the model and at abstract values. By an AI agent;nothing here is trusted. -/
namespace Go.Av

def Fr (ro:Option Nat):Fence:={ Fence.wide with round:=ro }

theorem calls_fr {ro:Option Nat} {n:Nat} {P:Program} {f:FuncId} {args:Array Value} {w:World} {R:Ending→World→Prop} (h:Calls P f args w R):CallsIn (Fr ro) n P f args w R :=
 callsIn_wide.2 h

theorem cOp_defer {P:Program} {o:Oper} {m:MOp} (h:cOp P o=some m):∀ c,o.op ≠ .defer c:=by
 intro c hc
 unfold cOp cOp0 cOpM at h
 rw [hc] at h
 simp at h

def guardOn (e:Env):Option (Nat × Bool)→Option Bool
 | none=>some true
 | some (n,w)=>match e n with
  | .bool b=>some (b == w)
  | .tup []=>some false
  | _=>none

def calledA (P:Program) (d:Nat) (f:FuncId) (vs:List AV) (s:Store) (v:AV) (s':Store):Prop :=
 (Sound P f (vs.map (bor s 5)) v∧s'=if scal v then s else killAll (refsL s 5 vs) s) ∨
 (∃ ty sz es,SoundO P f (vs.map (bor s 5)) ty sz es∧s d=none∧v=.buf d es.length∧s'=upd (ownS es (refsL s 5 vs) s) d (some (some ⟨ty,sz,es⟩))) ∨
 (∃ g news ks,SoundC P f (vs.map (bor s 5)) g news∧ks.length=news.length∧ks.Nodup∧(∀ k ∈ ks,s k=none)∧v=.fn g (ks.map fun k=>.ptr k 0 0)∧s'=addK ks news s) ∨
 (∃ ty sz es,SoundO P f (vs.map (bor s 5)) ty sz es∧(scalE es && es.all imm)=true∧v=.sl es∧s'=s) ∨
 ∃ k ty sz es es2,s k=some (some ⟨ty,sz,es⟩)∧scalE es=true∧scalE es2=true∧scal v=true∧(∀ x ∈ vs,isRefK k x=false→k ∉ refs s 5 x)∧lentTo k vs∧SoundX P f (vs.map (borX s k)) k ty sz es v es2∧s'=upd s k (some (some ⟨ty,sz,es2⟩))

def frzA (d ty sz n:Nat) (zero:AV) (parts:List (Nat × MX)) (e:Env) (s:Store) (v:AV) (s':Store):Prop :=
 ∃ es k m s0,ex d (.buildSlice ty sz n zero parts) e s=some (.buf k m,s0)∧s0 d=some (some ⟨ty,sz,es⟩)∧(scalE es && es.all imm)=true∧v=.sl es∧s'=s

def stepOp (P:Program) (d:Nat) (o:MOp) (e:Env) (s:Store) (v:AV) (s':Store):Prop :=
 match o with
 | .call f xs=>calledA P d f (xs.map (·.ev e)) s v s'
 | .callv x xs=>∃ f caps,x.ev e=.fn f caps∧calledA P d f (xs.map (·.ev e) ++ caps) s v s'
 | .buildSlice ty sz n zero parts=>ex d (.buildSlice ty sz n zero parts) e s=some (v,s')∨frzA d ty sz n zero parts e s v s'
 | o=>ex d o e s=some (v,s')
theorem step_cases {P:Program} {d:Nat} {o:MOp} {e:Env} {s:Store} {v:AV} {s':Store} (hm:isCall o=false) (h:stepOp P d o e s v s'):ex d o e s=some (v,s')∨∃ ty sz n zero parts,o=.buildSlice ty sz n zero parts∧frzA d ty sz n zero parts e s v s':=by
  cases o <;> first
    | (cases hm;done)
    | exact .inl h
    | (rcases h with h | h
       · exact .inl h
       · exact .inr ⟨_,_,_,_,_,rfl,h⟩)
theorem step_ex {P:Program} {d:Nat} {o:MOp} {e:Env} {s:Store} {v:AV} {s':Store} (hm:isCall o=false) (h:ex d o e s=some (v,s')):stepOp P d o e s v s':=by
 cases o <;> first
  | (cases hm;done)
  | exact h
  | exact .inl h

def MVal (P:Program) (m:MS) (e:Env) (s:Store) (v:AV) (s':Store):Prop :=
 (guardOn e m.g=some true∧stepOp P (m.d.getD 0) m.o e s v s')∨(guardOn e m.g=some false∧v=.tup []∧s'=s)

def dstOk (N:Nat):Option Nat→Bool
 | some d=>decide (d<N)
 | none=>true

def cMS (P:Program) (N:Nat) (ops:Array Oper) (o:Oper):Option MS :=
 if dstOk N o.dst=true then
  match cOp P o with
  | none=>none
  | some m=>match o.guard with
   | none=>some ⟨none,o.dst,m⟩
   | some (j,want)=>match (ops[j]?).bind (·.dst) with
    | some n=>some ⟨some (n,want),o.dst,m⟩
    | none=>none
 else none

theorem cEq_call {P:Program} {neg:Bool} {op:BinOp} {t:TypeId} {x y:Operand} {m:MOp} (h:cEq P neg op t x y=some m):isCall m=false:=by
 unfold cEq at h
 split at h <;> first
  | (cases h;rfl)
  | (simp only [Option.map_eq_some_iff] at h;obtain ⟨_,_,rfl⟩:=h;rfl)
  | (split at h <;> first | (cases h;rfl) | cases h)
  | cases h

theorem cOp_call {P:Program} {o:Oper} {m:MOp} (h:cOp P o=some m) (hm:isCall m=true) :
  ∃ c,o.op=.call c∧((∃ f,c.callee=.value (.func f)∧m=.call f (c.args.toList.map cX))∨(∃ t,c.callee=.value (.tmp t)∧m=.callv (.t t) (c.args.toList.map cX))):=by
 have h:cOp0 P o=some m:=by
  unfold cOp at h
  split at h
  ·rename_i m' h0
   cases h;exact h0
  ·exfalso
   split at h
   ·rename_i m' h0
    cases h
    unfold cOpM at h0
    (repeat' split at h0) <;> first | (cases h0;done) | (cases h0;cases hm)
   ·(repeat' split at h) <;> first | (cases h;done) | (cases h;cases hm)
 unfold cOp0 at h
 split at h
 case h_24 =>
  rename_i c hop
  refine ⟨c,hop,?_⟩
  split at h
  ·(repeat' split at h) <;> first | (cases h;done) | (cases h;cases hm)
  ·(repeat' split at h) <;> first | (cases h;done) | (cases h;cases hm)
  ·cases h;cases hm
  ·cases h;cases hm
  ·rename_i f hb;cases h;exact .inl ⟨f,hb,rfl⟩
  ·rename_i t hb;cases h;exact .inr ⟨t,hb,rfl⟩
  ·cases h
 all_goals first
  | (rw [cEq_call h] at hm;cases hm;done)
  | ((repeat' split at h) <;> first
    | (cases h;done)
    | (cases h;cases hm;done)
    | (obtain ⟨_,_,h⟩:=Option.bind_eq_some_iff.1 h;split at h <;> first | (cases h;done) | (cases h;cases hm;done))
    | (simp only [Option.map_eq_some_iff] at h;obtain ⟨_,_,rfl⟩:=h;cases hm))

section
variable {P:Program} {N B:Nat} {w0:World} {ok0:F0} {ok:Nat→Prop} {ρ:Nat→Option Nat} {e:Env} {s:Store} {a:Act} {w:World}

theorem put_defers (a:Act) (d:Option Nat) (v:Value):(a.put d v).defers=a.defers:=by cases d <;> rfl

theorem Rel.putO (hR:Rel N B w0 ok0 ok ρ e s a w) {d:Option Nat} (hd:∀ n,d=some n→n<N) {x:AV} {v:Value} (hv:VR w.heap ok ρ s x v) :
  Rel N B w0 ok0 ok ρ (putO e d x) s (a.put d v) w:=by
 cases d with
 | none=>exact hR
 | some d=>exact hR.put (hd d rfl) hv

theorem guard_wanted (hR:Rel N B w0 ok0 ok ρ e s a w) {ops:Array Oper} {o:Oper} {ms:MS} (hc:cMS P N ops o=some ms) {b:Bool} (hg:guardOn e ms.g=some b) :
  Region.wanted o (yielded ops a.tmps)=b:=by
 unfold cMS at hc
 split at hc
 ·split at hc
  ·cases hc
  ·split at hc
   ·rename_i hgd
    cases hc
    simp only [guardOn,Option.some.injEq] at hg
    subst hg
    simp [Region.wanted,hgd]
   ·rename_i j want hgd
    split at hc
    ·rename_i n hn
     cases hc
     simp only [guardOn] at hg
     have hv:=hR.tmps n
     simp only [Region.wanted,hgd,yielded,hn,Option.bind_some]
     split at hg
     ·rename_i q hq
      rw [hq] at hv
      generalize hu:a.tmps.getD n undef=u at hv
      cases hv
      have:a.tmps[n]?=some (.bool q):=by
       rw [Array.getD_eq_getD_getElem?] at hu
       cases h:a.tmps[n]? with
       | none=>rw [h] at hu;simp [undef] at hu
       | some x=>rw [h] at hu;simp at hu;rw [hu]
      rw [this]
      simp only [Option.some.injEq] at hg
      rw [← hg]
      cases q <;> cases want <;> rfl
     ·rename_i hq
      rw [hq] at hv
      generalize hu:a.tmps.getD n undef=u at hv
      cases hv with
      | tup _ vs hl _ =>
       have h0:vs=#[]:=Array.eq_empty_of_size_eq_zero hl.symm
       subst h0
       cases hg
       rw [Array.getD_eq_getD_getElem?] at hu
       cases h:a.tmps[n]? with
       | none=>simp
       | some x=>rw [h] at hu;simp at hu;rw [hu];simp
     ·cases hg
    ·cases hc
 ·cases hc

theorem cMS_op {ops:Array Oper} {o:Oper} {ms:MS} (hc:cMS P N ops o=some ms):cOp P o=some ms.o∧ms.d=o.dst∧∀ n,ms.d=some n→n<N:=by
 unfold cMS at hc
 split at hc
 ·rename_i hd
  have hd':∀ n,o.dst=some n→n<N:=by
   intro n hn;rw [hn] at hd;simpa [dstOk] using hd
  split at hc
  ·cases hc
  ·rename_i m hm
   split at hc
   ·cases hc;exact ⟨hm,rfl,hd'⟩
   ·split at hc
    ·cases hc;exact ⟨hm,rfl,hd'⟩
    ·cases hc
 ·cases hc

theorem step_sim (hR:Rel N B w0 ok0 ok ρ e s a w) {ops:Array Oper} {o:Oper} {ms:MS} (hc:cMS P N ops o=some ms) {v:AV} {s':Store} (hv:MVal P ms e s v s') {K:Act→World→Prop} {Q:Exit→Act→World→Prop} {ro:Option Nat} {rm:Nat}
  (hK:∀ ok' ρ' a' w',a'.defers=a.defers→Rel N B w0 ok0 ok' ρ' (putO e ms.d v) s' a' w'→K a' w') :
  if Region.wanted o (yielded ops a.tmps) then o.wpIn (Fr ro) rm P a w K Q else (∀ f,o.about P w a.eval=some f→(Fr ro).fn f)∧K (a.put o.dst undef) w:=by
 obtain ⟨h1,h2,h3⟩:=cMS_op hc
 rcases hv with ⟨hg,hs⟩ | ⟨hg,rfl,rfl⟩
 ·rw [guard_wanted hR hc hg]
  simp only [if_true]
  refine ⟨fun _ _=>trivial,?_⟩
  rw [Oper.semAt_eq _ _ _ (cOp_defer h1)]
  have plain:isCall ms.o=false→ex (ms.d.getD 0) ms.o e s=some (v,s')→o.uponIn (Fr ro) rm P a K Q ((execOp a.eval o).run P w):=by
   intro hm hx
   obtain ⟨ok',ρ',w',_,hR',h⟩:=sim_op hR h1 hm hx
   rcases h with ⟨val,hr,hvv⟩ | ⟨hr,rfl⟩
   ·rw [hr,Oper.uponIn_value,← h2]
    exact hK _ _ _ _ (put_defers _ _ _) (hR'.putO h3 hvv)
   ·rw [hr,Oper.uponIn_skip,← h2]
    exact hK _ _ _ _ (put_defers _ _ _) (hR'.putO h3 (.tup [] #[] rfl fun i c hc=>by simp at hc))
  have called:∀ (f:FuncId) (args:List AV) (cargs:Array Value),(execOp a.eval o).run P w=(callFunc f cargs).run P w→calledA P (ms.d.getD 0) f args s v s' →
    cargs.size=args.length→(∀ (i:Nat) (x:AV),args[i]?=some x→VR w.heap ok ρ s x (cargs.getD i undef))→o.uponIn (Fr ro) rm P a K Q ((execOp a.eval o).run P w):=by
   intro f args cargs hrun hca hl hvv
   rw [hrun]
   have:CallsF P f cargs w (fun cv w'=>K (a.put o.dst cv) w'):=by
    rcases hca with ⟨hS,hs'⟩ | ⟨ty,sz,es,hS,hd,rfl,hs'⟩ | ⟨g,news,ks,hS,q1,q2,q3,rfl,rfl⟩ | ⟨ty,sz,es,hS,he,rfl,rfl⟩ | ⟨k,ty,sz,es,es2,k1,k2,k3,k4,k5,k6,hS,rfl⟩
    ·exact call_sim hR hS hs' hl hvv (R:=fun cv w'=>K (a.put o.dst cv) w') (fun ok' w' cv hR' hv'=>by
      rw [← h2]
      exact hK _ _ _ _ (put_defers _ _ _) (hR'.putO h3 hv'))
    ·exact call_simO hR hS hd hs' hl hvv (R:=fun cv w'=>K (a.put o.dst cv) w') (fun ok' ρ' w' cv hR' hv'=>by
      rw [← h2]
      exact hK _ _ _ _ (put_defers _ _ _) (hR'.putO h3 hv'))
    ·exact call_simC hR hS q1 q2 q3 hl hvv (R:=fun cv w'=>K (a.put o.dst cv) w') (fun ok' ρ' w' cv hR' hv'=>by
      rw [← h2]
      exact hK _ _ _ _ (put_defers _ _ _) (hR'.putO h3 hv'))
    ·exact call_simN hR hS he hl hvv (R:=fun cv w'=>K (a.put o.dst cv) w') (fun ok' w' cv hR' hv'=>by
      rw [← h2]
      exact hK _ _ _ _ (put_defers _ _ _) (hR'.putO h3 hv'))
    ·exact call_simX hR k1 k2 k3 k4 k5 k6 hS hl hvv (R:=fun cv w'=>K (a.put o.dst cv) w') (fun w' cv hR' hv'=>by
      rw [← h2]
      exact hK _ _ _ _ (put_defers _ _ _) (hR'.putO h3 hv'))
   rcases this with ⟨cv,w',g1,g2⟩ | ⟨g1,g2⟩
   ·rw [g1,Oper.uponIn_value];exact g2
   ·rw [g1,Oper.uponIn_enter]
    refine ⟨(by intro h;cases h),?_⟩
    refine (calls_fr g2).mono fun en w' ⟨cv,he,hk⟩=>?_
    subst he
    exact hk
  have args:∀ (c:Call) (i:Nat) (x:AV),((c.args.toList.map cX).map (·.ev e))[i]?=some x→VR w.heap ok ρ s x ((c.args.map a.eval).getD i undef):=by
   intro c i x hx
   simp only [List.map_map,List.getElem?_map,Option.map_eq_some_iff,Array.getElem?_toList,Function.comp] at hx
   obtain ⟨y,hy,rfl⟩:=hx
   have:(c.args.map a.eval).getD i undef=a.eval y:=by simp [Array.getD_eq_getD_getElem?,hy]
   rw [this];exact hR.ev y
  cases hm:isCall ms.o with
  | false =>
   rcases step_cases hm hs with hx | ⟨ty,sz,n,zero,parts,ho,es,k,m,s0,q1,q2,q3,rfl,rfl⟩
   ·exact plain hm hx
   ·rw [ho] at h1
    obtain ⟨q3,q4⟩:=(Bool.and_eq_true _ _).mp q3
    obtain ⟨ok',ρ',w',_,hR',h⟩:=sim_frz hR h1 q1 q2 ⟨_,_,rfl⟩ q3 q4
    rcases h with ⟨val,hr,hvv⟩ | ⟨hr,hbad⟩
    ·rw [hr,Oper.uponIn_value,← h2]
     exact hK _ _ _ _ (put_defers _ _ _) (hR'.putO h3 hvv)
    ·cases hbad
  | true =>
   obtain ⟨c,hop,hcc⟩:=cOp_call h1 hm
   rcases hcc with ⟨f,hb,hmo⟩ | ⟨t,hb,hmo⟩
   ·rw [hmo] at hs
    simp only [stepOp] at hs
    refine called f _ (c.args.map a.eval) ?_ hs (by simp) (args c)
    unfold execOp;rw [hop]
    simp only [resolve,hb,Act.eval,Deferred.ofValue,pure_bind,invoke]
    simp
   ·rw [hmo] at hs
    simp only [stepOp] at hs
    obtain ⟨f,caps,g1,g2⟩:=hs
    have hv:=hR.ev (.tmp t)
    simp only [MX.ev] at g1
    simp only [cX,MX.ev,g1] at hv
    generalize hft:a.eval (.tmp t)=vf at hv
    cases hv with
    | fn _ _ vs hl hvv =>
     refine called f _ (c.args.map a.eval ++ vs) ?_ g2 (by simp [hl]) ?_
     ·unfold execOp;rw [hop]
      have:a.eval (.tmp t)=.func (.func f) #[] vs:=hft
      simp only [resolve,hb,this,Deferred.ofValue,pure_bind,invoke]
      simp
     ·intro i x hx
      rw [List.getElem?_append] at hx
      split at hx
      ·rename_i hi
       have:=args c i x hx
       rw [Array.getD_eq_getD_getElem?] at this ⊢
       rw [Array.getElem?_append_left (by simpa using hi)]
       exact this
      ·rename_i hi
       have:=hvv _ x hx
       rw [Array.getD_eq_getD_getElem?] at this ⊢
       rw [Array.getElem?_append_right (by simpa using hi)]
       simpa using this
 ·rw [guard_wanted hR hc hg]
  simp only [Bool.false_eq_true,if_false]
  rw [← h2]
  exact ⟨fun _ _=>trivial,hK _ _ _ _ (put_defers _ _ _) (hR.putO h3 (.tup [] #[] rfl fun i c hc=>by simp at hc))⟩
end
end Go.Av

/- What an operation hangs on: which slots,which keys;two that hang on nothing of each other may be done in either order. By an AI agent;nothing here is trusted. -/
namespace Go.Av

def usesX:MX→List Nat
 | .t n=>[n]
 | .c _=>[]

def xsOf:MOp→List MX
 | .mv x | .box _ _ x | .load _ x | .nilCheck x | .un _ x | .convI _ x | .convS x | .convB x | .fieldAddr x _ | .field x _ _ | .extract x _ | .len _ x=>[x]
 | .pick c a b=>[c,a,b]
 | .alloc ..=>[]
 | .build _ ps=>ps.map (·.2.2)
 | .buildSlice _ _ _ _ ps=>ps.map (·.2)
 | .store _ x y | .bin _ x y | .eqB _ x y | .eqI _ x y | .eqS _ _ x y | .makeSlice _ _ _ _ x y | .indexAddr x y _ | .indexArr x y _ _ | .index x y | .indexV x y _ _ _ | .append _ _ _ _ x y | .copy _ x y=>[x,y]
 | .slice _ _ x lo hi=>x :: (lo.toList ++ hi.toList)
 | .makeFunc _ xs | .call _ xs | .max xs | .min xs | .mapo _ xs=>xs
 | .callv x xs=>x :: xs

def uses (o:MOp):List Nat:=(xsOf o).flatMap usesX

def usesMS (m:MS):List Nat:=(match m.g with
 | some (n,_)=>[n]
 | none=>[]) ++ uses m.o

theorem ev_congr {e1 e2:Env} {x:MX} {l:List MX} (hl:x ∈ l) (h:∀ n ∈ l.flatMap usesX,e1 n=e2 n):x.ev e1=x.ev e2:=by
 cases x with
 | t n=>exact h n (List.mem_flatMap.2 ⟨_,hl,by simp [usesX]⟩)
 | c v=>rfl

theorem map_ev_congr {e1 e2:Env} {l:List MX} (h:∀ n ∈ l.flatMap usesX,e1 n=e2 n):l.map (·.ev e1)=l.map (·.ev e2) :=
 List.map_congr_left fun _ hx=>ev_congr hx h

theorem ex_congr {d:Nat} {o:MOp} {e1 e2:Env} {s:Store} (h:∀ n ∈ uses o,e1 n=e2 n):ex d o e1 s=ex d o e2 s:=by
 unfold uses at h
 have hx:∀ x ∈ xsOf o,x.ev e1=x.ev e2:=fun x hx=>ev_congr hx h
 cases o with
 | build z ps =>
  have:(ps.map fun p=>(p.1,p.2.1,p.2.2.ev e1))=ps.map fun p=>(p.1,p.2.1,p.2.2.ev e2) :=
   List.map_congr_left fun p hp=>by rw [hx p.2.2 (List.mem_map.2 ⟨p,hp,rfl⟩)]
  simp only [ex,this]
 | buildSlice ty sz n z ps =>
  have:(ps.map fun p=>(p.1,p.2.ev e1))=ps.map fun p=>(p.1,p.2.ev e2) :=
   List.map_congr_left fun p hp=>by rw [hx p.2 (List.mem_map.2 ⟨p,hp,rfl⟩)]
  simp only [ex,this]
 | slice str sz x lo hi =>
  have h1:=hx x (by simp [xsOf])
  have h2:loMx e1 lo=loMx e2 lo:=by cases lo with
   | none=>rfl
   | some y=>exact hx y (by simp [xsOf])
  have h3:∀ n,hiMx e1 n hi=hiMx e2 n hi:=fun n=>by cases hi with
   | none=>rfl
   | some y=>exact hx y (by simp [xsOf])
  simp only [ex,h1,h2,h3]
 | makeFunc f xs=>have:=map_ev_congr (l:=xs) h;simp only [ex,this]
 | max xs=>have:=map_ev_congr (l:=xs) h;simp only [ex,this]
 | min xs=>have:=map_ev_congr (l:=xs) h;simp only [ex,this]
 | mapo w xs=>have:=map_ev_congr (l:=xs) h;simp only [ex,this]
 | call f xs=>rfl
 | callv x xs=>rfl
 | alloc ty sz z=>rfl
 | copy sz x y=>rfl
 | pick c a b=>simp only [ex,hx c (by simp [xsOf]),hx a (by simp [xsOf]),hx b (by simp [xsOf])]
 | mv x | box _ _ x | load _ x | nilCheck x | un _ x | convI _ x | convS x | convB x | fieldAddr x _ | field x _ _ | extract x _ | len _ x=>simp only [ex,hx x (by simp [xsOf])]
 | store _ x y | bin _ x y | eqB _ x y | eqI _ x y | eqS _ _ x y | makeSlice _ _ _ _ x y | indexAddr x y _ | indexArr x y _ _ | index x y | indexV x y _ _ _ | append _ _ _ _ x y=>simp only [ex,hx x (by simp [xsOf]),hx y (by simp [xsOf])]

section
variable {P:Program}

theorem MVal.congr {m:MS} {e1 e2:Env} {s:Store} {v:AV} {s':Store} (hv:MVal P m e1 s v s') (h:∀ n ∈ usesMS m,e1 n=e2 n):MVal P m e2 s v s':=by
 have hg:guardOn e1 m.g=guardOn e2 m.g:=by
  unfold guardOn
  split
  ·rfl
  ·rename_i n w hgw
   rw [h n (by simp [usesMS,hgw])]
 have hu:∀ n ∈ uses m.o,e1 n=e2 n:=fun n hn=>h n (List.mem_append_right _ hn)
 unfold MVal at hv ⊢
 rw [← hg]
 refine hv.imp (fun ⟨h1,h2⟩=>⟨h1,?_⟩) id
 generalize m.o=o at hu h2
 cases o with
 | call f xs =>
  simp only [stepOp] at h2 ⊢
  have hxs:xs.map (·.ev e1)=xs.map (·.ev e2):=map_ev_congr hu
  rw [← hxs];exact h2
 | callv x xs =>
  simp only [stepOp] at h2 ⊢
  have hx:x.ev e1=x.ev e2:=ev_congr (l:=x :: xs) (by simp) hu
  have hxs:xs.map (·.ev e1)=xs.map (·.ev e2):=map_ev_congr fun n hn=>hu n (by simp only [uses,xsOf,List.flatMap_cons];exact List.mem_append_right _ hn)
  rw [← hx,← hxs];exact h2
 | buildSlice ty sz n zero parts =>
  simp only [stepOp] at h2 ⊢
  rcases h2 with h2 | ⟨es,k,m,s0,q1,q2⟩
  ·exact .inl (by rw [← ex_congr hu];exact h2)
  ·exact .inr ⟨es,k,m,s0,by rw [← ex_congr hu];exact q1,q2⟩
 | _=>simp only [stepOp] at h2 ⊢;rw [← ex_congr hu];exact h2

def wr:MOp→Bool
 | .alloc .. | .box .. | .buildSlice .. | .makeSlice .. | .store .. | .append .. | .copy ..=>true
 | .slice str ..=>!str
 | .mapo w _=>match w with
  | .get _ | .len | .entry=>false
  | _=>true
 | _=>false

theorem map_same {α β:Type} {o:Option α} {g:α→β} {s s':Store} {v:β} (h:o.map (fun v=>(g v,s))=some (v,s')):s'=s:=by
 obtain ⟨_,_,h⟩:=Option.map_eq_some_iff.1 h;cases h;rfl

theorem mapX_same {w:MapW} {d:Nat} {vs:List AV} {s:Store} {v:AV} {s':Store} (hw:(match w with
  | .get _ | .len | .entry=>false
  | _=>true)=false) (h:mapX w d vs s=some (v,s')):s'=s:=by
 cases w <;> first | (cases hw;done) | skip
 all_goals
  simp only [mapX] at h
  split at h <;> first | (cases h;done) | skip
 ·obtain ⟨_,_,h⟩:=Option.bind_eq_some_iff.1 h;exact map_same h
 ·exact map_same h
 ·obtain ⟨_,_,h⟩:=Option.bind_eq_some_iff.1 h;obtain ⟨_,_,h⟩:=Option.bind_eq_some_iff.1 h;obtain ⟨_,_,h⟩:=Option.bind_eq_some_iff.1 h
  obtain ⟨_,h⟩:=reqB_some h;exact map_same h

theorem ex_same {d:Nat} {o:MOp} {e:Env} {s:Store} {v:AV} {s':Store} (hw:wr o=false) (h:ex d o e s=some (v,s')):s'=s:=by
 by_cases hm:∃ w xs,o=.mapo w xs
 ·obtain ⟨w,xs,rfl⟩:=hm;exact mapX_same hw h
 cases o <;> first | (exact absurd ⟨_,_,rfl⟩ hm) | skip
 clear hm
 all_goals simp only [wr] at hw <;> first | (cases hw;done) | skip
 all_goals simp only [ex] at h
 all_goals first
  | (cases h;rfl)
  | exact map_same (g:=id) h
  | exact map_same h
  | ((repeat' split at h) <;> first
    | (cases h;done)
    | (cases h;rfl)
    | exact map_same (g:=id) h
    | exact map_same h
    | (obtain ⟨hq,h⟩:=req_some h;have h1:=hq.1;rw [h1] at hw;cases hw;done)
    | (obtain ⟨_,h⟩:=req_some h;first
      | (cases h;rfl)
      | exact map_same (g:=id) h
      | exact map_same h
      | (obtain ⟨_,_,h⟩:=Option.bind_eq_some_iff.1 h;obtain ⟨_,h⟩:=req_some h;cases h;rfl))
    | (obtain ⟨_,_,h⟩:=Option.bind_eq_some_iff.1 h;first | exact map_same (g:=id) h | exact map_same h)
    | (simp_all;done))

def refs1:AV→List Nat
 | .mp k=>[k]
 | .buf k _=>[k]
 | .ptr k _ _=>[k]
 | .vw k _ _ _=>[k]
 | _=>[]

def allocs:MOp→Bool
 | .alloc .. | .box .. | .buildSlice .. | .makeSlice .. | .append ..=>true
 | .mapo .make _ | .mapo .range _=>true
 | _=>false

def pureOp:MOp→Bool
 | .mv _ | .pick .. | .build .. | .bin .. | .eqB .. | .eqI .. | .eqS .. | .un .. | .convI .. | .convS _ | .makeFunc .. | .field .. | .index .. | .indexV .. | .extract .. | .max _ | .min _=>true
 | _=>false

def tk (d:Nat) (o:MOp) (e:Env):Option (List Nat) :=
 match o with
 | .call _ xs=>if (xs.map (·.ev e)).all imm then some [] else none
 | .callv x xs=>if (x.ev e :: xs.map (·.ev e)).all imm then some [] else none
 | .mapo .entry _=>none
 | o=>if pureOp o then some [] else some ((xsOf o).flatMap (fun x=>refs1 (x.ev e)) ++ (if allocs o then [d] else []))

theorem tk_wr {d:Nat} {o:MOp} {e:Env} (h:wr o=true):∃ T,tk d o e=some T:=by
 cases o <;> first
  | (rename_i w xs;cases w <;> first | (cases h;done) | exact ⟨_,rfl⟩)
  | (cases h;done)
  | (simp only [tk];split <;> exact ⟨_,rfl⟩)

theorem bor_imm:∀ (n:Nat) (s1 s2:Store) (x:AV),imm x=true→bor s1 n x=bor s2 n x
 | 0,_,_,_,_=>rfl
 | n+1,s1,s2,x,h=>by
  have hl:∀ {cs:List AV},immL cs=true→cs.map (bor s1 n)=cs.map (bor s2 n):=fun hc=>List.map_congr_left fun c hc'=>bor_imm n s1 s2 c (imm_cell hc c hc')
  cases x with
  | buf k len=>cases h
  | ptr k i o=>cases h
  | vw k i o m=>cases h
  | mp k=>cases h
  | agg cs=>simp only [bor];rw [hl h]
  | tup cs=>simp only [bor];rw [hl h]
  | fn f cs=>simp only [bor];rw [hl h]
  | _=>rfl

theorem killAll_nil (s:Store):killAll [] s=s:=by funext k;simp [killAll]

theorem refsL_imm (s:Store) (n:Nat) (l:List AV) (h:l.all imm=true):refsL s n l=[]:=by
 unfold refsL
 rw [List.flatMap_eq_nil_iff]
 exact fun x hx=>refs_imm s (List.all_eq_true.1 h x hx) n

def Local (T:List Nat) (s s':Store) (run:Store→Store→Prop):Prop :=
 (∀ k,k ∉ T→s' k=s k)∧∀ s2:Store,(∀ k ∈ T,s2 k=s k)→∃ s2',run s2 s2'∧(∀ k ∈ T,s2' k=s' k)∧∀ k,k ∉ T→s2' k=s2 k

theorem Local.same {T:List Nat} {s:Store} {run:Store→Store→Prop} (h:∀ s2:Store,(∀ k ∈ T,s2 k=s k)→run s2 s2):Local T s s run :=
 ⟨fun _ _=>rfl,fun s2 h2=>⟨s2,h s2 h2,h2,fun _ _=>rfl⟩⟩

theorem Local.upd {T:List Nat} {s:Store} {d:Nat} {B:Option Blk} {run:Store→Store→Prop} (hd:d ∈ T) (h:∀ s2:Store,(∀ k ∈ T,s2 k=s k)→run s2 (upd s2 d (some B))):Local T s (upd s d (some B)) run:=by
 refine ⟨fun k hk=>upd_other _ _ _ _ (fun e=>hk (e ▸ hd)),fun s2 h2=>⟨_,h s2 h2,fun k hk=>?_,fun k hk=>upd_other _ _ _ _ (fun e=>hk (e ▸ hd))⟩⟩
 by_cases hkd:k=d
 ·subst hkd;rw [upd_same,upd_same]
 ·rw [upd_other _ _ _ _ hkd,upd_other _ _ _ _ hkd];exact h2 k hk

theorem mk_local {T:List Nat} {d ty sz:Nat} {es:List AV} {v0 v:AV} {s s':Store} (h:mk d ty sz es v0 s=some (v,s')) (hd:d ∈ T):Local T s s' fun s2 s2'=>mk d ty sz es v0 s2=some (v,s2'):=by
 obtain ⟨h1,h2,h3,rfl,rfl⟩:=mk_some h
 refine Local.upd hd fun s2 hs2=>?_
 unfold mk
 rw [req_true ⟨(hs2 d hd).trans h1,h2,h3⟩]

theorem ex_pure {d:Nat} {o:MOp} {e:Env} (ho:pureOp o=true):∃ g:Option AV,∀ s,ex d o e s=g.map fun v=>(v,s):=by
 cases o <;> first | (cases ho;done) | skip
 case mv x=>exact ⟨some (x.ev e),fun s=>rfl⟩
 case pick c a b =>
  simp only [ex]
  generalize c.ev e=C
  cases C <;> first | exact ⟨none,fun _=>rfl⟩ | exact ⟨some _,fun _=>rfl⟩
 case build z ps=>exact ⟨(fillA z (ps.map fun p=>(p.1,p.2.1,p.2.2.ev e))).map .agg,fun s=>by simp only [ex,Option.map_map];rfl⟩
 case bin op x y=>exact ⟨binT op (x.ev e) (y.ev e),fun s=>rfl⟩
 case eqB neg x y =>
  simp only [ex]
  generalize x.ev e=X;generalize y.ev e=Y
  cases X <;> first | exact ⟨none,fun _=>rfl⟩ | (cases Y <;> first | exact ⟨none,fun _=>rfl⟩ | exact ⟨some _,fun _=>rfl⟩)
 case eqI neg x y =>
  simp only [ex]
  generalize x.ev e=X;generalize y.ev e=Y
  cases X <;> first | exact ⟨none,fun _=>rfl⟩ | (cases Y <;> first | exact ⟨none,fun _=>rfl⟩ | exact ⟨some _,fun _=>rfl⟩)
 case eqS neg tags x y =>
  simp only [ex]
  generalize x.ev e=X;generalize y.ev e=Y
  cases X <;> first | exact ⟨none,fun _=>rfl⟩ | skip
  rename_i p
  cases Y <;> first | exact ⟨none,fun _=>rfl⟩ | skip
  rename_i q
  exact ⟨(eqT tags p q).map fun t=>.bool (t != neg),fun s=>by simp only [Option.map_map];rfl⟩
 case un op x=>exact ⟨unA op (x.ev e),fun s=>rfl⟩
 case convI k x =>
  simp only [ex]
  generalize x.ev e=X
  cases X <;> first | exact ⟨none,fun _=>rfl⟩ | exact ⟨_,fun _=>rfl⟩
 case convS x =>
  simp only [ex]
  generalize x.ev e=X
  cases X <;> first | exact ⟨none,fun _=>rfl⟩ | exact ⟨some _,fun _=>rfl⟩
 case makeFunc f xs=>exact ⟨some (.fn f (xs.map (·.ev e))),fun s=>rfl⟩
 case field x off n =>
  simp only [ex]
  generalize x.ev e=X
  cases X <;> first | exact ⟨none,fun _=>rfl⟩ | exact ⟨_,fun _=>rfl⟩
 case index x y =>
  simp only [ex]
  generalize x.ev e=X;generalize y.ev e=Y
  cases X <;> first | exact ⟨none,fun _=>rfl⟩ | skip
  rename_i l
  cases Y <;> first | exact ⟨none,fun _=>rfl⟩ | skip
  rename_i k n
  exact ⟨req (0≤n) ((l[n.toNat]?).map fun b=>.int .u8 b.toNat),fun s=>by
   dsimp only
   by_cases hn:0≤n
   ·rw [req_true hn,req_true hn,Option.map_map];rfl
   ·simp [req,hn]⟩
 case indexV x y sz len n =>
  simp only [ex]
  generalize x.ev e=X;generalize y.ev e=Y
  cases X <;> first | exact ⟨none,fun _=>rfl⟩ | skip
  rename_i l
  cases Y <;> first | exact ⟨none,fun _=>rfl⟩ | skip
  rename_i k j
  exact ⟨req (0≤j∧j<len) (loadA n (.agg l) (j.toNat * sz)),fun s=>by
   dsimp only
   by_cases hn:0≤j∧j<len
   ·rw [req_true hn,req_true hn]
   ·simp [req,hn]⟩
 case extract x i =>
  simp only [ex]
  generalize x.ev e=X
  cases X <;> first | exact ⟨none,fun _=>rfl⟩ | exact ⟨_,fun _=>rfl⟩
 case max xs=>exact ⟨maxA (xs.map (·.ev e)),fun s=>rfl⟩
 case min xs=>exact ⟨minA (xs.map (·.ev e)),fun s=>rfl⟩

theorem ex_local {d:Nat} {o:MOp} {e:Env} {s:Store} {v:AV} {s':Store} (h:ex d o e s=some (v,s')) {T:List Nat} (hne:∀ xs,o ≠ .mapo .entry xs) (hT:T=(xsOf o).flatMap (fun x=>refs1 (x.ev e)) ++ (if allocs o then [d] else [])) :
  Local T s s' fun s2 s2'=>ex d o e s2=some (v,s2'):=by
 have hin:∀ x ∈ xsOf o,∀ k ∈ refs1 (x.ev e),k ∈ T:=fun x hx k hk=>by rw [hT];exact List.mem_append_left _ (List.mem_flatMap.2 ⟨x,hx,hk⟩)
 by_cases hp:pureOp o=true
 ·obtain ⟨g,hg⟩:=ex_pure (d:=d) (e:=e) hp
  rw [hg] at h
  have hs:=map_same (g:=id) h
  subst hs
  obtain ⟨u,h1,h2⟩:=Option.map_eq_some_iff.1 h
  cases h2
  exact Local.same fun s2 _=>by rw [hg,h1];rfl
 cases o with
 | alloc ty sz z=>simp only [ex] at h ⊢;exact mk_local h (by rw [hT];simp [allocs])
 | box ty sz x=>simp only [ex] at h ⊢;exact mk_local h (by rw [hT];simp [allocs])
 | buildSlice ty sz n z ps =>
  simp only [ex] at h ⊢
  obtain ⟨es,h1,h2⟩:=Option.bind_eq_some_iff.1 h
  rw [h1]
  simp only [Option.bind_some]
  split at h2
  ·rename_i hn
   cases h2
   exact Local.same fun s2 _=>by rw [if_pos hn]
  ·rename_i hn
   have:=mk_local h2 (T:=T) (by rw [hT];simp [allocs])
   simpa [hn] using this
 | makeSlice ty sz b z l c =>
  simp only [ex] at h ⊢
  split at h
  ·rename_i k1 n k2 m h1 h2
   obtain ⟨hq,h3⟩:=req_some h
   have:=mk_local h3 (T:=T) (by rw [hT];simp [allocs])
   simpa [req_true hq] using this
  ·cases h
 | store n x y =>
  simp only [ex] at h ⊢
  split at h
  ·rename_i k i q hx
   have hk:k ∈ T:=hin x (by simp [xsOf]) k (by rw [hx];simp [refs1])
   split at h
   ·rename_i K hK
    obtain ⟨el,h1,h2⟩:=Option.bind_eq_some_iff.1 h
    obtain ⟨hq,h3⟩:=req_some h2
    cases h3
    refine Local.upd hk fun s2 hs2=>?_
    simp only [(hs2 k hk).trans hK,h1,Option.bind_some]
    rw [req_true hq]
   ·cases h
  ·cases h
 | append ty sz b z x y =>
  simp only [ex] at h ⊢
  have hd:d ∈ T:=by rw [hT];simp [allocs]
  obtain ⟨news,h1,h2⟩:=Option.bind_eq_some_iff.1 h
  obtain ⟨hq,h3⟩:=req_some h2
  have hsrc:∀ s2:Store,(∀ k ∈ T,s2 k=s k)→srcOf sz s2 (y.ev e)=some news:=by
   intro s2 hs2
   rw [← h1]
   cases hy:y.ev e <;> simp only [srcOf]
   rename_i k len
   rw [hs2 k (hin y (by simp [xsOf]) k (by rw [hy];simp [refs1]))]
  split at h3
  ·rename_i hx
   obtain ⟨hq2,h4⟩:=req_some h3
   cases h4
   refine Local.upd hd fun s2 hs2=>?_
   rw [hsrc s2 hs2]
   simp only [Option.bind_some]
   rw [req_true ⟨(hs2 d hd).trans hq.1,hq.2⟩,req_true hq2]
  ·rename_i k len hx
   have hk:k ∈ T:=hin x (by simp [xsOf]) k (by rw [hx];simp [refs1])
   split at h3
   ·rename_i K hK
    obtain ⟨hq2,h4⟩:=req_some h3
    cases h4
    refine ⟨fun j hj=>?_,fun s2 hs2=>⟨upd (upd s2 k (some none)) d (some (some ⟨ty,sz,K.es ++ news⟩)),?_,fun j hj=>?_,fun j hj=>?_⟩⟩
    ·rw [upd_other _ _ _ _ (by rintro rfl;exact hj hd),upd_other _ _ _ _ (by rintro rfl;exact hj hk)]
    ·dsimp only
     rw [hsrc s2 hs2]
     simp only [Option.bind_some,(hs2 k hk).trans hK]
     rw [req_true ⟨(hs2 d hd).trans hq.1,hq.2⟩,req_true hq2]
    ·simp only [Go.Av.upd]
     split
     ·rfl
     ·split
      ·rfl
      ·exact hs2 j hj
    ·rw [upd_other _ _ _ _ (by rintro rfl;exact hj hd),upd_other _ _ _ _ (by rintro rfl;exact hj hk)]
   ·cases h3
  ·cases h3
 | slice str sz x lo hi =>
  simp only [ex] at h ⊢
  split at h
  ·rename_i l hx
   split at h
   ·rename_i k1 p k2 q h1 h2
    obtain ⟨hq,h3⟩:=req_some h
    cases h3
    exact Local.same fun s2 _=>by rw [req_true hq]
   ·cases h
  ·rename_i l hx
   split at h
   ·rename_i k1 p k2 q h1 h2
    obtain ⟨hq,h3⟩:=req_some h
    cases h3
    exact Local.same fun s2 _=>by rw [req_true hq]
   ·cases h
  ·rename_i k len hx
   have hk:k ∈ T:=hin x (by simp [xsOf]) k (by rw [hx];simp [refs1])
   split at h
   ·rename_i K hK
    split at h
    ·rename_i k1 p k2 q h1 h2
     obtain ⟨hq,h3⟩:=req_some h
     cases h3
     refine Local.upd hk fun s2 hs2=>?_
     simp only [(hs2 k hk).trans hK]
     rw [req_true hq]
    ·cases h
   ·cases h
  ·rename_i k i o hx
   have hk:k ∈ T:=hin x (by simp [xsOf]) k (by rw [hx];simp [refs1])
   have hs:=map_same (g:=id) h
   subst hs
   obtain ⟨u,h3,h4⟩:=Option.map_eq_some_iff.1 h
   cases h4
   exact Local.same fun s2 hs2=>by rw [hs2 k hk,h3];rfl
  ·rename_i el o hx
   have hs:=map_same (g:=id) h
   subst hs
   obtain ⟨u,h3,h4⟩:=Option.map_eq_some_iff.1 h
   cases h4
   exact Local.same fun s2 hs2=>by rw [h3];rfl
  ·cases h
 | load n x =>
  simp only [ex] at h ⊢
  split at h
  ·rename_i k i q hx
   have hk:k ∈ T:=hin x (by simp [xsOf]) k (by rw [hx];simp [refs1])
   split at h
   ·rename_i K hK
    obtain ⟨el,h1,h2⟩:=Option.bind_eq_some_iff.1 h
    have hs:=map_same (g:=id) h2
    subst hs
    obtain ⟨u,h3,h4⟩:=Option.map_eq_some_iff.1 h2
    cases h4
    exact Local.same fun s2 hs2=>by simp only [(hs2 k hk).trans hK,h1,Option.bind_some,h3,Option.map_some]
   ·cases h
  ·rename_i el q hx
   have hs:=map_same (g:=id) h
   subst hs
   obtain ⟨u,h3,h4⟩:=Option.map_eq_some_iff.1 h
   cases h4
   exact Local.same fun s2 hs2=>by simp only [h3,Option.map_some]
  ·cases h
 | nilCheck x =>
  simp only [ex] at h ⊢
  split at h
  ·rename_i k i q hx
   have hk:k ∈ T:=hin x (by simp [xsOf]) k (by rw [hx];simp [refs1])
   split at h
   ·rename_i K hK
    cases h
    exact Local.same fun s2 hs2=>by simp only [(hs2 k hk).trans hK]
   ·cases h
  ·cases h;exact Local.same fun s2 hs2=>rfl
  ·cases h;exact Local.same fun s2 hs2=>rfl
  ·cases h
 | fieldAddr x off =>
  simp only [ex] at h ⊢
  split at h
  ·rename_i k i q hx
   have hk:k ∈ T:=hin x (by simp [xsOf]) k (by rw [hx];simp [refs1])
   split at h
   ·rename_i K hK
    cases h
    exact Local.same fun s2 hs2=>by simp only [(hs2 k hk).trans hK]
   ·cases h
  ·cases h;exact Local.same fun s2 hs2=>rfl
  ·cases h
 | indexAddr x y sz =>
  simp only [ex] at h ⊢
  split at h
  ·rename_i l k1 n hx hy
   have hs:s'=s:=by
    obtain ⟨_,h⟩:=req_some h;obtain ⟨_,_,h⟩:=Option.bind_eq_some_iff.1 h;obtain ⟨_,h⟩:=req_some h;cases h;rfl
   subst hs
   obtain ⟨hq,h⟩:=req_some h;obtain ⟨el,h1,h⟩:=Option.bind_eq_some_iff.1 h;obtain ⟨hq2,h⟩:=req_some h
   cases h
   exact Local.same fun s2 hs2=>by rw [req_true hq,h1];simp only [Option.bind_some];rw [req_true hq2]
  ·rename_i k len k1 n hx hy
   have hk:k ∈ T:=hin x (by simp [xsOf]) k (by rw [hx];simp [refs1])
   split at h
   ·rename_i K hK
    obtain ⟨hq,h⟩:=req_some h
    cases h
    exact Local.same fun s2 hs2=>by simp only [(hs2 k hk).trans hK];rw [req_true hq]
   ·cases h
  ·cases h
 | indexArr x y sz len =>
  simp only [ex] at h ⊢
  split at h
  ·rename_i k j q k1 n hx hy
   have hk:k ∈ T:=hin x (by simp [xsOf]) k (by rw [hx];simp [refs1])
   split at h
   ·rename_i K hK
    obtain ⟨hq,h⟩:=req_some h
    cases h
    exact Local.same fun s2 hs2=>by simp only [(hs2 k hk).trans hK];rw [req_true hq]
   ·cases h
  ·rename_i el q k1 n hx hy
   obtain ⟨hq,h⟩:=req_some h
   cases h
   exact Local.same fun s2 hs2=>by rw [req_true hq]
  ·cases h
 | len str x =>
  simp only [ex] at h ⊢
  split at h
  ·obtain ⟨hq,h⟩:=req_some h;cases h;exact Local.same fun s2 hs2=>by rw [req_true hq]
  ·obtain ⟨hq,h⟩:=req_some h;cases h;exact Local.same fun s2 hs2=>by rw [req_true hq]
  ·rename_i k n hx
   have hk:k ∈ T:=hin x (by simp [xsOf]) k (by rw [hx];simp [refs1])
   split at h
   ·rename_i K hK
    obtain ⟨hq,h⟩:=req_some h
    cases h
    exact Local.same fun s2 hs2=>by simp only [(hs2 k hk).trans hK];rw [req_true hq]
   ·cases h
  ·obtain ⟨hq,h⟩:=req_some h;cases h;exact Local.same fun s2 hs2=>by rw [req_true hq]
  ·cases h
 | convB x =>
  simp only [ex] at h ⊢
  obtain ⟨l,h1,h2⟩:=Option.bind_eq_some_iff.1 h
  obtain ⟨b,h3,h4⟩:=Option.map_eq_some_iff.1 h2
  cases h4
  refine Local.same fun s2 hs2=>?_
  have hsrc:srcOf 1 s2 (x.ev e)=some l:=by
   rw [← h1]
   cases hy:x.ev e <;> simp only [srcOf]
   rename_i k len
   rw [hs2 k (hin x (by simp [xsOf]) k (by rw [hy];simp [refs1]))]
  rw [hsrc,Option.bind_some,h3];rfl
 | copy sz x y=>simp [ex] at h
 | call f xs=>simp [ex] at h
 | callv x xs=>simp [ex] at h
 | mapo w xs =>
  have hkey:∀ k,AV.mp k ∈ xs.map (·.ev e)→k ∈ T:=fun k hk=>by
   obtain ⟨x,hx,hxe⟩:=List.mem_map.1 hk
   exact hin x (by simpa [xsOf] using hx) k (by rw [hxe];simp [refs1])
  have hmap:∀ x ∈ xs.map (·.ev e),∀ s2:Store,(∀ k ∈ T,s2 k=s k)→mapOf s2 x=mapOf s x:=fun x hx s2 hs2=>by
   cases x <;> first | rfl | skip
   ·simp only [mapOf,hs2 _ (hkey _ hx)]
   ·rename_i o;cases o <;> rfl
  simp only [ex] at h ⊢
  generalize xs.map (·.ev e)=vs at h hkey hmap ⊢
  cases w <;> simp only [mapX] at h ⊢ <;> (split at h <;> first | (cases h;done) | skip)
  ·have hd:d ∈ T:=by rw [hT];simp [allocs]
   obtain ⟨h1,h⟩:=reqB_some h
   cases h
   exact Local.upd hd fun s2 hs2=>by rw [hs2 d hd,reqB_true h1]
  ·rename_i k q n
   have hk:=hkey k (by simp)
   obtain ⟨q1,h1,h⟩:=Option.bind_eq_some_iff.1 h
   obtain ⟨m,h2,h⟩:=Option.map_eq_some_iff.1 h
   cases h
   exact Local.upd hk fun s2 hs2=>by simp only [h1,Option.bind_some,hs2 k hk,h2,Option.map_some]
  ·rename_i ok x q
   obtain ⟨q1,h1,h⟩:=Option.bind_eq_some_iff.1 h
   obtain ⟨m,h2,h⟩:=Option.map_eq_some_iff.1 h
   cases h
   exact Local.same fun s2 hs2=>by simp only [h1,Option.bind_some,hmap x (by simp) s2 hs2,h2,Option.map_some]
  ·rename_i x
   obtain ⟨m,h2,h⟩:=Option.map_eq_some_iff.1 h
   cases h
   exact Local.same fun s2 hs2=>by simp only [hmap x (by simp) s2 hs2,h2,Option.map_some]
  ·rename_i k q
   have hk:=hkey k (by simp)
   obtain ⟨q1,h1,h⟩:=Option.bind_eq_some_iff.1 h
   obtain ⟨m,h2,h⟩:=Option.map_eq_some_iff.1 h
   cases h
   exact Local.upd hk fun s2 hs2=>by simp only [h1,Option.bind_some,hs2 k hk,h2,Option.map_some]
  ·rename_i k
   have hk:=hkey k (by simp)
   have hd:d ∈ T:=by rw [hT];simp [allocs]
   obtain ⟨m,h2,h⟩:=Option.bind_eq_some_iff.1 h
   obtain ⟨h3,h⟩:=reqB_some h
   cases h
   exact Local.upd hd fun s2 hs2=>by simp only [hs2 k hk,h2,Option.bind_some];rw [hs2 d hd,reqB_true h3]
  ·exact absurd rfl (hne _)
 | _=>exact absurd rfl hp
end
end Go.Av

/- A region whose order the model draws: whatever the order,it comes to the same. By an AI agent;nothing here is trusted. -/
namespace Go.Av

def tkM (m:MS) (e:Env):Option (List Nat):=tk (m.d.getD 0) m.o e

def argKeys (o:MOp) (e:Env) (s:Store):List Nat:=match o with
 | .call _ xs=>refsL s 5 (xs.map (·.ev e))
 | .callv x xs=>match x.ev e with
  | .fn _ caps=>refsL s 5 (xs.map (·.ev e) ++ caps)
  | _=>[]
 | _=>[]
def MValD (P:Program) (m:MS) (e:Env) (s:Store) (v:AV) (s':Store):Prop:=MVal P m e s v s'∧(isCall m.o=true→s'=s∧(guardOn e m.g=some true→∀ k ∈ argKeys m.o e s,s k ≠ none))

def newOp:MOp→Bool
 | .mapo .make _=>true
 | .alloc .. | .box .. | .buildSlice .. | .makeSlice ..=>true
 | _=>false
theorem mk_new {d ty sz:Nat} {es:List AV} {v0 v:AV} {s s':Store} (h:mk d ty sz es v0 s=some (v,s')):s d=none∧∃ B,s'=upd s d (some (some B)):=by
 obtain ⟨h1,_,_,_,h2⟩:=mk_some h
 exact ⟨h1,_,h2⟩
theorem ex_new {d:Nat} {o:MOp} {e:Env} {s:Store} {v:AV} {s':Store} (hn:newOp o=true) (h:ex d o e s=some (v,s')):s'=s∨(s d=none∧∃ B,s'=upd s d (some (some B))):=by
 cases o <;> first | (cases hn;done) | skip
 ·exact .inr (mk_new h)
 ·exact .inr (mk_new h)
 ·simp only [ex] at h
  obtain ⟨es,_,h⟩:=Option.bind_eq_some_iff.1 h
  split at h
  ·cases h;exact .inl rfl
  ·exact .inr (mk_new h)
 ·simp only [ex] at h
  split at h
  ·obtain ⟨_,h⟩:=req_some h;exact .inr (mk_new h)
  ·cases h
 ·rename_i w xs
  cases w <;> first | (cases hn;done) | skip
  simp only [ex,mapX] at h
  split at h
  ·obtain ⟨h1,h⟩:=reqB_some h;cases h;exact .inr ⟨isNone_eq h1,_,rfl⟩
  ·cases h

theorem flatRefs {s s2:Store} {n:Nat}:∀ {l:List AV},(∀ c ∈ l,refs s2 n c=refs s n c)→l.flatMap (refs s2 n)=l.flatMap (refs s n)
 | [],_=>rfl
 | c :: r,h=>by
  simp only [List.flatMap_cons]
  rw [h c (by simp),flatRefs (l:=r) fun c hc=>h c (by simp [hc])]
theorem bor_congr {s s2:Store}:∀ (n:Nat) (x:AV),(∀ k ∈ refs s n x,s2 k=s k)→bor s2 n x=bor s n x∧refs s2 n x=refs s n x
 | 0,x,_=>⟨rfl,rfl⟩
 | n+1,x,h=>by
  have lst:∀ (l:List AV),(l.all imm=true∨∀ k ∈ l.flatMap (refs s n),s2 k=s k)→l.map (bor s2 n)=l.map (bor s n)∧(l.all imm=false→l.flatMap (refs s2 n)=l.flatMap (refs s n)):=by
   intro l hl
   by_cases hi:l.all imm=true
   ·exact ⟨List.map_congr_left fun c hc=>bor_imm n _ _ c (List.all_eq_true.1 hi c hc),fun h=>by rw [hi] at h;cases h⟩
   ·have hl:=hl.resolve_left hi
    have ih:∀ c ∈ l,bor s2 n c=bor s n c∧refs s2 n c=refs s n c:=fun c hc=>bor_congr n c fun k hk=>hl k (List.mem_flatMap.2 ⟨c,hc,hk⟩)
    exact ⟨List.map_congr_left fun c hc=>(ih c hc).1,fun _=>flatRefs fun c hc=>(ih c hc).2⟩
  have agg:∀ (cs:List AV),(∀ k ∈ (if cs.all imm then [] else cs.flatMap (refs s n)),s2 k=s k)→cs.map (bor s2 n)=cs.map (bor s n)∧(if cs.all imm then [] else cs.flatMap (refs s2 n))=(if cs.all imm then [] else cs.flatMap (refs s n)):=by
   intro cs hcs
   by_cases hi:cs.all imm=true
   ·rw [if_pos hi,if_pos hi]
    exact ⟨(lst cs (.inl hi)).1,rfl⟩
   ·rw [if_neg hi] at hcs ⊢
    rw [if_neg hi]
    obtain ⟨g1,g2⟩:=lst cs (.inr hcs)
    exact ⟨g1,g2 (by simpa using hi)⟩
  cases x with
  | buf k len =>
   have hk:s2 k=s k:=h k (by simp [refs])
   simp only [bor,refs,hk]
   cases hs:s k with
   | none=>exact ⟨rfl,rfl⟩
   | some o =>
    cases o with
    | none=>exact ⟨rfl,rfl⟩
    | some B =>
     simp only [refs,hs] at h
     obtain ⟨g1,g2⟩:=agg (B.es.take len) fun k' hk'=>h k' (List.mem_cons_of_mem _ hk')
     simp only
     rw [g1,g2]
     exact ⟨rfl,rfl⟩
  | vw k i o m =>
   have hk:s2 k=s k:=h k (by simp [refs])
   simp only [bor,refs,hk]
   exact ⟨trivial,trivial⟩
  | mp k =>
   have hk:s2 k=s k:=h k (by simp [refs])
   simp only [bor,refs,hk]
   exact ⟨trivial,trivial⟩
  | ptr k i o =>
   have hk:s2 k=s k:=h k (by simp [refs])
   simp only [bor,refs,hk]
   cases hs:s k with
   | none=>exact ⟨rfl,rfl⟩
   | some q =>
    cases q with
    | none=>exact ⟨rfl,rfl⟩
    | some B =>
     simp only [refs,hs] at h
     simp only
     cases hel:B.es[i]? with
     | none=>exact ⟨rfl,rfl⟩
     | some el =>
      simp only [hel] at h
      simp only
      by_cases hi:imm el=true
      ·rw [if_pos hi,if_pos hi,bor_imm n s2 s el hi];exact ⟨rfl,rfl⟩
      ·rw [if_neg hi] at h
       rw [if_neg hi,if_neg hi]
       obtain ⟨g1,g2⟩:=bor_congr n el fun k' hk'=>h k' (List.mem_cons_of_mem _ hk')
       rw [g1,g2];exact ⟨rfl,rfl⟩
  | agg cs=>simp only [refs] at h;simp only [bor,refs];obtain ⟨g1,g2⟩:=agg cs h;rw [g1,g2];exact ⟨rfl,rfl⟩
  | tup cs=>simp only [refs] at h;simp only [bor,refs];obtain ⟨g1,g2⟩:=agg cs h;rw [g1,g2];exact ⟨rfl,rfl⟩
  | fn f cs=>simp only [refs] at h;simp only [bor,refs];obtain ⟨g1,g2⟩:=agg cs h;rw [g1,g2];exact ⟨rfl,rfl⟩
  | _=>exact ⟨rfl,rfl⟩
theorem refsL_congr {s s2:Store} {n:Nat} {l:List AV} (h:∀ k ∈ refsL s n l,s2 k=s k):l.map (bor s2 n)=l.map (bor s n)∧refsL s2 n l=refsL s n l:=by
 have ih:∀ c ∈ l,bor s2 n c=bor s n c∧refs s2 n c=refs s n c:=fun c hc=>bor_congr n c fun k hk=>h k (List.mem_flatMap.2 ⟨c,hc,hk⟩)
 exact ⟨List.map_congr_left fun c hc=>(ih c hc).1,flatRefs fun c hc=>(ih c hc).2⟩
theorem calledA_move {P:Program} {d:Nat} {f:FuncId} {vs:List AV} {s s2:Store} {v:AV} (h:calledA P d f vs s v s) (hk:∀ k ∈ refsL s 5 vs,s2 k=s k):calledA P d f vs s2 v s2:=by
 obtain ⟨e1,e2⟩:=refsL_congr hk
 rcases h with ⟨h1,h2⟩ | ⟨ty,sz,es,_,h2,_,h4⟩ | ⟨g,news,ks,⟨⟨hne,_⟩,_⟩,q1,_,q3,_,h4⟩ | ⟨ty,sz,es,g1,g2,g3,_⟩ | ⟨k,ty,sz,es,es2,k1,k2,k3,k4,k5,k6,k7,k8⟩
 ·refine .inl ⟨by rw [e1];exact h1,?_⟩
  rw [e2]
  by_cases hs:scal v=true
  ·rw [if_pos hs]
  ·rw [if_neg hs] at h2 ⊢
   funext k
   by_cases hkk:k ∈ refsL s 5 vs
   ·have:s k=killAll (refsL s 5 vs) s k:=by rw [← h2]
    unfold killAll at this ⊢
    rw [if_pos hkk] at this ⊢
    rw [hk k hkk];exact this
   ·unfold killAll;rw [if_neg hkk]
 ·exfalso
  have:s d=upd (ownS es (refsL s 5 vs) s) d (some (some ⟨ty,sz,es⟩)) d:=by rw [← h4]
  rw [upd_same,h2] at this
  cases this
 ·exfalso
  cases news with
  | nil=>exact hne rfl
  | cons p news =>
   cases ks with
   | nil=>simp at q1
   | cons k ks =>
    have:s k=addK (k :: ks) (p :: news) s k:=by rw [← h4]
    rw [addK,upd_same,q3 k (by simp)] at this
    cases this
 ·exact .inr (.inr (.inr (.inl ⟨ty,sz,es,by rw [e1];exact g1,g2,g3,rfl⟩)))
 ·have hkm:k ∈ refsL s 5 vs:=by
   rcases k6 with ⟨pi,po,hpm⟩ | ⟨len,_,hpm⟩
   ·exact List.mem_flatMap.2 ⟨_,hpm,by simp [refs]⟩
   ·exact List.mem_flatMap.2 ⟨_,hpm,by simp [refs]⟩
  have hs2k:s2 k=s k:=hk k hkm
  have hbc:∀ x ∈ vs,bor s2 5 x=bor s 5 x∧refs s2 5 x=refs s 5 x:=fun x hx=>bor_congr 5 x fun j hj=>hk j (List.mem_flatMap.2 ⟨x,hx,hj⟩)
  refine .inr (.inr (.inr (.inr ⟨k,ty,sz,es,es2,by rw [hs2k];exact k1,k2,k3,k4,fun x hx hr=>by rw [(hbc x hx).2];exact k5 x hx hr,k6,?_,?_⟩)))
  ·have:vs.map (borX s2 k)=vs.map (borX s k):=List.map_congr_left fun x hx=>by unfold borX;rw [(hbc x hx).1]
   rw [this];exact k7
  ·funext j
   by_cases hj:j=k
   ·subst hj
    rw [upd_same,hs2k]
    have:=congrFun k8 j
    rw [upd_same] at this;exact this
   ·rw [upd_other _ _ _ _ hj]

section
variable {P:Program}

theorem argKeys_congr {o:MOp} {e1 e2:Env} {s:Store} (hu:∀ n ∈ uses o,e1 n=e2 n):argKeys o e1 s=argKeys o e2 s:=by
 cases o with
 | call f xs =>
  have hxs:xs.map (·.ev e1)=xs.map (·.ev e2):=map_ev_congr hu
  simp only [argKeys,hxs]
 | callv x xs =>
  have hx:x.ev e1=x.ev e2:=ev_congr (l:=x :: xs) (by simp) hu
  have hxs:xs.map (·.ev e1)=xs.map (·.ev e2):=map_ev_congr fun n hn=>hu n (by simp only [uses,xsOf,List.flatMap_cons];exact List.mem_append_right _ hn)
  simp only [argKeys,hx,hxs]
 | _=>rfl
theorem guardOn_congr {m:MS} {e1 e2:Env} (h:∀ n ∈ usesMS m,e1 n=e2 n):guardOn e1 m.g=guardOn e2 m.g:=by
 unfold guardOn
 split
 ·rfl
 ·rename_i n w hgw
  rw [h n (by simp [usesMS,hgw])]
theorem MValD.congr {m:MS} {e1 e2:Env} {s:Store} {v:AV} {s':Store} (hv:MValD P m e1 s v s') (h:∀ n ∈ usesMS m,e1 n=e2 n):MValD P m e2 s v s':=by
 refine ⟨hv.1.congr h,fun hc=>?_⟩
 have:=hv.2 hc
 rw [guardOn_congr h,argKeys_congr (fun n hn=>h n (List.mem_append_right _ hn))] at this
 exact this
theorem stepOp_move {d:Nat} {e:Env} {s s2:Store} {v:AV}:∀ {o:MOp},isCall o=true→stepOp P d o e s v s→(∀ k ∈ argKeys o e s,s2 k=s k)→stepOp P d o e s2 v s2∧argKeys o e s2=argKeys o e s
 | .call f xs,_,h,hk=>⟨calledA_move h hk,(refsL_congr hk).2⟩
 | .callv x xs,_,h,hk=>by
  simp only [stepOp] at h ⊢
  obtain ⟨f,caps,g1,g2⟩:=h
  have hak:∀ s,argKeys (.callv x xs) e s=refsL s 5 (xs.map (·.ev e) ++ caps):=fun s=>by simp only [argKeys,g1]
  rw [hak] at hk
  rw [hak,hak]
  exact ⟨⟨f,caps,g1,calledA_move g2 hk⟩,(refsL_congr hk).2⟩
theorem MValD.move {m:MS} {e:Env} {s:Store} {v:AV} {s':Store} (hv:MValD P m e s v s') (hc:isCall m.o=true) {s2:Store} (hk:guardOn e m.g=some true→∀ k ∈ argKeys m.o e s,s2 k=s k):MValD P m e s2 v s2:=by
 obtain ⟨hs,hu⟩:=hv.2 hc
 subst hs
 rcases hv.1 with ⟨hg,h⟩ | ⟨hg,h1,_⟩
 ·obtain ⟨g1,g2⟩:=stepOp_move hc h (hk hg)
  refine ⟨.inl ⟨hg,g1⟩,fun _=>⟨rfl,fun _ k hkk=>?_⟩⟩
  rw [g2] at hkk
  rw [hk hg k hkk];exact hu hg k hkk
 ·exact ⟨.inr ⟨hg,h1,rfl⟩,fun _=>⟨rfl,fun h=>by rw [hg] at h;cases h⟩⟩
theorem MValD.same {m:MS} {e:Env} {s:Store} {v:AV} {s':Store} (hv:MValD P m e s v s') (hw:wr m.o=false):s'=s:=by
 rcases hv with ⟨⟨_,h⟩ | ⟨_,_,h⟩,hc⟩
 ·cases hm:isCall m.o with
  | true=>exact (hc hm).1
  | false =>
   have:ex (m.d.getD 0) m.o e s=some (v,s'):=by
    generalize m.o=o at h hm hw
    cases o <;> first | (cases hm;done) | (cases hw;done) | exact h
   exact ex_same hw this
 ·exact h

theorem MValD.local {m:MS} {e:Env} {s:Store} {v:AV} {s':Store} (hv:MValD P m e s v s') {T:List Nat} (hT:tkM m e=some T):Local T s s' fun s2 s2'=>MValD P m e s2 v s2':=by
 rcases hv with ⟨⟨hg,h⟩ | ⟨hg,h1,h2⟩,hc⟩
 ·cases hm:isCall m.o with
  | false =>
   by_cases hp:pureOp m.o=true
   ·have hex:∀ s s',(stepOp P (m.d.getD 0) m.o e s v s' ↔ ex (m.d.getD 0) m.o e s=some (v,s')):=by
     intro s s'
     generalize m.o=o at hm hp
     cases o <;> first | (cases hm;done) | (cases hp;done) | exact Iff.rfl
    obtain ⟨g,hgg⟩:=ex_pure (d:=m.d.getD 0) (e:=e) hp
    have h':=(hex s s').1 h
    rw [hgg] at h'
    have hs:=map_same (g:=id) h'
    subst hs
    obtain ⟨u,h1,h2⟩:=Option.map_eq_some_iff.1 h'
    cases h2
    exact Local.same fun s2 _=>⟨.inl ⟨hg,(hex s2 s2).2 (by rw [hgg,h1];rfl)⟩,fun h=>by rw [hm] at h;cases h⟩
   have hT':T=(xsOf m.o).flatMap (fun x=>refs1 (x.ev e)) ++ (if allocs m.o then [m.d.getD 0] else []):=by
    unfold tkM tk at hT
    generalize m.o=o at hm hT hp
    cases o <;> first | (cases hm;done) | (exact absurd rfl hp) | (rename_i w xs;cases w <;> first | (cases hT;done) | exact (Option.some.inj hT).symm) | (simp only [pureOp,Bool.false_eq_true,if_false,Option.some.injEq] at hT;exact hT.symm)
   have hne:∀ xs,m.o ≠ .mapo .entry xs:=fun xs he=>by unfold tkM tk at hT;rw [he] at hT;cases hT
   rcases step_cases hm h with hx | ⟨ty,sz,n,zero,parts,ho,es,k,m',s0,q1,q2,q3,q4,q5⟩
   ·obtain ⟨h1,h2⟩:=ex_local hx hne hT'
    refine ⟨h1,fun s2 hs2=>?_⟩
    obtain ⟨s2',g1,g2,g3⟩:=h2 s2 hs2
    exact ⟨s2',⟨.inl ⟨hg,step_ex hm g1⟩,fun h=>by rw [hm] at h;cases h⟩,g2,g3⟩
   ·subst q5
    rw [← ho] at q1
    obtain ⟨_,h2⟩:=ex_local q1 hne hT'
    have hd:m.d.getD 0 ∈ T:=by rw [hT',ho];simp [allocs]
    refine ⟨fun k _=>rfl,fun s2 hs2=>?_⟩
    obtain ⟨s2',g1,g2,g3⟩:=h2 s2 hs2
    refine ⟨s2,⟨.inl ⟨hg,?_⟩,fun h=>by rw [hm] at h;cases h⟩,fun k hk=>hs2 k hk,fun k _=>rfl⟩
    rw [ho] at g1 ⊢
    exact .inr ⟨es,k,m',s2',g1,(g2 _ hd).trans q2,q3,q4,rfl⟩
  | true =>
   have hs:=(hc hm).1
   subst hs
   have hnil:argKeys m.o e s'=[]:=by
    unfold tkM tk at hT
    generalize m.o=o at hm hT h
    cases o <;> first | (cases hm;done) | skip
    ·rename_i f xs
     simp only at hT
     split at hT
     ·rename_i him
      simp only [argKeys]
      exact refsL_imm s' 5 _ him
     ·cases hT
    ·rename_i x xs
     simp only at hT
     split at hT
     ·rename_i him
      simp only [stepOp] at h
      obtain ⟨f,caps,g1,_⟩:=h
      simp only [argKeys,g1]
      refine refsL_imm s' 5 _ ?_
      rw [List.all_eq_true] at him ⊢
      intro y hy
      rcases List.mem_append.1 hy with hy | hy
      ·exact him y (List.mem_cons_of_mem _ hy)
      ·have:=him (x.ev e) (by simp)
       rw [g1] at this
       exact imm_cell this y hy
     ·cases hT
   have hv:MValD P m e s' v s':=⟨.inl ⟨hg,h⟩,hc⟩
   exact Local.same fun s2 _=>hv.move hm fun _ k hk=>by rw [hnil] at hk;cases hk
 ·subst h2
  exact Local.same fun s2 _=>⟨.inr ⟨hg,h1,rfl⟩,fun _=>⟨rfl,fun h=>by rw [hg] at h;cases h⟩⟩

def dOf (m:MS):List Nat:=m.d.toList

def apart (x y:MS):Bool:=(dOf x).all (fun n=>!(usesMS y).contains n && !(dOf y).contains n) && (dOf y).all (fun n=>!(usesMS x).contains n)

theorem putO_other {e:Env} {d:Option Nat} {v:AV} {n:Nat} (h:n ∉ d.toList):putO e d v n=e n:=by
 cases d with
 | none=>rfl
 | some d=>exact upd_other _ _ _ _ (fun he=>h (by simp [he]))

theorem apart_spec {x y:MS} (h:apart x y=true):(∀ n ∈ usesMS y,n ∉ x.d.toList)∧(∀ n ∈ usesMS x,n ∉ y.d.toList)∧(∀ n ∈ x.d.toList,n ∉ y.d.toList):=by
 simp only [apart,dOf,Bool.and_eq_true,List.all_eq_true,Bool.not_eq_true',List.contains_eq_mem,decide_eq_false_iff_not] at h
 exact ⟨fun n hn hx=>(h.1 n hx).1 hn,fun n hn hy=>h.2 n hy hn,fun n hn hy=>(h.1 n hn).2 hy⟩

theorem putO_comm {e:Env} {d d':Option Nat} {v v':AV} (h:∀ n ∈ d.toList,n ∉ d'.toList):putO (putO e d v) d' v'=putO (putO e d' v') d v:=by
 cases d with
 | none=>rfl
 | some d =>
  cases d' with
  | none=>rfl
  | some d' =>
   have hne:d ≠ d':=fun he=>h d (by simp) (by simp [he])
   funext n
   simp only [putO,upd]
   by_cases h1:n=d' <;> by_cases h2:n=d <;> simp [h1,h2]
   all_goals first | (intro he;exact absurd he (by omega)) | omega | skip

theorem swap {x i:MS} {e:Env} {s s1 s2:Store} {vx vi:AV} (hx:MValD P x e s vx s1) (hi:MValD P i (putO e x.d vx) s1 vi s2) (ha:apart x i=true)
  (hm:(wr x.o=false∧wr i.o=false)∨(isCall x.o=true∧newOp i.o=true)∨∃ T T',tkM x e=some T∧tkM i e=some T'∧∀ k ∈ T,k ∉ T') :
  ∃ t,MValD P i e s vi t∧MValD P x (putO e i.d vi) t vx s2∧putO (putO e x.d vx) i.d vi=putO (putO e i.d vi) x.d vx:=by
 obtain ⟨a1,a2,a3⟩:=apart_spec ha
 have hi':MValD P i e s1 vi s2:=hi.congr fun n hn=>putO_other (a1 n hn)
 have hcomm:=putO_comm (e:=e) (v:=vx) (v':=vi) a3
 rcases hm with ⟨w1,w2⟩ | ⟨c1,c2⟩ | ⟨T,T',t1,t2,hd⟩
 ·have e1:=hx.same w1
  have e2:=hi'.same w2
  subst e1;subst e2
  exact ⟨_,hi',hx.congr fun n hn=>(putO_other (a2 n hn)).symm,hcomm⟩
 ·obtain ⟨hs1,hu⟩:=hx.2 c1
  subst hs1
  refine ⟨s2,hi',?_,hcomm⟩
  have hxm:MValD P x e s2 vx s2:=by
   rcases hi'.1 with ⟨hg,h⟩ | ⟨hg,_,h2⟩
   ·have him:isCall i.o=false:=by
     generalize i.o=o at c2
     cases o <;> first | (cases c2;done) | rfl
    rcases step_cases him h with hex | ⟨ty,sz,n,zero,parts,ho,es,k,m',s0,q1,q2,q3,q4,q5⟩
    case inr=>rw [q5];exact hx
    rcases ex_new c2 hex with h2 | ⟨h2,B,h3⟩
    ·rw [h2];exact hx
    ·refine hx.move c1 fun hg k hk=>?_
     rw [h3]
     exact upd_other _ _ _ _ fun e=>hu hg k hk (e ▸ h2)
   ·rw [h2];exact hx
  exact hxm.congr fun n hn=>(putO_other (a2 n hn)).symm
 ·obtain ⟨l1,l2⟩:=hx.local t1
  obtain ⟨r1,r2⟩:=hi'.local t2
  obtain ⟨t,g1,g2,g3⟩:=r2 s (fun k hk=>(l1 k (fun hT=>hd k hT hk)).symm)
  obtain ⟨u,q1,q2,q3⟩:=l2 t (fun k hk=>g3 k (hd k hk))
  have hu:u=s2:=by
   funext k
   by_cases hk:k ∈ T
   ·rw [q2 k hk,r1 k (hd k hk)]
   ·rw [q3 k hk]
    by_cases hk':k ∈ T'
    ·exact g2 k hk'
    ·rw [g3 k hk',r1 k hk',l1 k hk]
  subst hu
  exact ⟨t,g1,q1.congr fun n hn=>(putO_other (a2 n hn)).symm,hcomm⟩

def RunI (P:Program) (ss:List MS):List Nat→Env→Store→Env→Store→Prop
 | [],e,s,e',s'=>e'=e∧s'=s
 | i :: r,e,s,e',s'=>∃ m v s1,ss[i]?=some m∧MValD P m e s v s1∧RunI P ss r (putO e m.d v) s1 e' s'

theorem RunI.slot {ss:List MS} {n:Nat}:∀ {l:List Nat} {e:Env} {s:Store} {e':Env} {s':Store},RunI P ss l e s e' s'→(∀ z ∈ l,∀ m,ss[z]?=some m→n ∉ m.d.toList)→e' n=e n
 | [],e,s,e',s',h,_=>by rw [h.1]
 | i :: r,e,s,e',s',⟨m,v,s1,h1,h2,h3⟩,hn=>by
  rw [RunI.slot h3 (fun z hz=>hn z (List.mem_cons_of_mem _ hz))]
  exact putO_other (hn i (by simp) m h1)

def PairOk (ss:List MS) (conf:List (Nat × Nat)) (x i:Nat):Prop :=
 ∀ mx mi,ss[x]?=some mx→ss[i]?=some mi→apart mx mi=true∧((wr mx.o=false∧wr mi.o=false)∨(pureOp mx.o=true∨pureOp mi.o=true)∨((x,i) ∈ conf))

def LateOk (ss:List MS) (x:Nat):Prop:=∀ mx,ss[x]?=some mx→∀ z mz,x≤z→ss[z]?=some mz→∀ n ∈ usesMS mx,n ∉ mz.d.toList

def confAt (ss:List MS) (conf:List (Nat × Nat)) (e:Env):Prop:=∀ x i,(x,i) ∈ conf→∀ mx mi,ss[x]?=some mx→ss[i]?=some mi→(isCall mx.o=true∧newOp mi.o=true)∨∃ T T',tkM mx e=some T∧tkM mi e=some T'∧∀ k ∈ T,k ∉ T'

theorem tk_congr {m:MS} {e1 e2:Env} (h:∀ n ∈ usesMS m,e1 n=e2 n):tkM m e1=tkM m e2:=by
 have hu:∀ n ∈ uses m.o,e1 n=e2 n:=fun n hn=>h n (List.mem_append_right _ hn)
 unfold tkM
 generalize m.o=o at hu
 have hf:(xsOf o).flatMap (fun x=>refs1 (x.ev e1))=(xsOf o).flatMap (fun x=>refs1 (x.ev e2)):=by
  have:∀ l:List MX,(∀ n ∈ l.flatMap usesX,e1 n=e2 n)→l.flatMap (fun x=>refs1 (x.ev e1))=l.flatMap (fun x=>refs1 (x.ev e2)):=by
   intro l
   induction l with
   | nil=>intro _;rfl
   | cons x r ih =>
    intro hl
    simp only [List.flatMap_cons]
    rw [ih (fun n hn=>hl n (by rw [List.flatMap_cons];exact List.mem_append_right _ hn)),ev_congr (l:=x :: r) (by simp) hl]
  exact this _ hu
 cases o with
 | call f xs =>
  have hxs:xs.map (·.ev e1)=xs.map (·.ev e2):=map_ev_congr hu
  simp only [tk,hxs]
 | callv x xs =>
  have hx:x.ev e1=x.ev e2:=ev_congr (l:=x :: xs) (by simp) hu
  have hxs:xs.map (·.ev e1)=xs.map (·.ev e2):=map_ev_congr fun n hn=>hu n (by simp only [uses,xsOf,List.flatMap_cons];exact List.mem_append_right _ hn)
  simp only [tk,hx,hxs]
 | mapo w xs=>cases w <;> first | rfl | (simp only [tk];rw [hf])
 | _=>simp only [tk];rw [hf]

theorem bubble {ss:List MS} {conf:List (Nat × Nat)} {i:Nat} {mi:MS} (hi:ss[i]?=some mi) {post:List Nat} {e':Env} {s':Store} (hconf:confAt ss conf e') (hlate:∀ x j,(x,j) ∈ conf→LateOk ss x∧LateOk ss j)
  (hpost:∀ z ∈ post,i<z):∀ (pre:List Nat) (e:Env) (s:Store),RunI P ss (pre ++ i :: post) e s e' s'→(∀ x ∈ pre,x<i∧PairOk ss conf x i)→pre.Pairwise (·<·)→RunI P ss (i :: (pre ++ post)) e s e' s'
 | [],e,s,h,_,_=>h
 | x :: pre,e,s,⟨mx,vx,s1,h1,h2,h3⟩,hp,hord=>by
  have hord':=List.pairwise_cons.1 hord
  obtain ⟨mi',vi,s2,h4,h5,h6⟩:=bubble hi hconf hlate hpost pre _ _ h3 (fun y hy=>hp y (List.mem_cons_of_mem _ hy)) hord'.2
  rw [hi] at h4;cases h4
  obtain ⟨hlt,hpair⟩:=hp x (by simp)
  obtain ⟨ha,hm⟩:=hpair mx mi h1 hi
  have hmem:(wr mx.o=false∧wr mi.o=false)∨(isCall mx.o=true∧newOp mi.o=true)∨∃ T T',tkM mx e=some T∧tkM mi e=some T'∧∀ k ∈ T,k ∉ T':=by
   have hpure:∀ {m:MS},pureOp m.o=true→wr m.o=false∧tkM m e=some []:=by
    intro m h
    unfold tkM
    generalize m.o=o at h
    cases o <;> first | (cases h;done) | exact ⟨rfl,rfl⟩
   rcases hm with hm | (hm | hm) | hm
   ·exact .inl hm
   ·by_cases hw:wr mi.o=true
    ·obtain ⟨T',hT'⟩:=tk_wr (d:=mi.d.getD 0) (e:=e) hw
     exact .inr (.inr ⟨[],T',(hpure hm).2,hT',by simp⟩)
    ·exact .inl ⟨(hpure hm).1,by simpa using hw⟩
   ·by_cases hw:wr mx.o=true
    ·obtain ⟨T',hT'⟩:=tk_wr (d:=mx.d.getD 0) (e:=e) hw
     exact .inr (.inr ⟨T',[],hT',(hpure hm).2,by simp⟩)
    ·exact .inl ⟨by simpa using hw,(hpure hm).1⟩
   ·refine .inr ?_
    obtain ⟨lx,li⟩:=hlate x i hm
    rcases hconf x i hm mx mi h1 hi with hcn | ⟨T,T',t1,t2,t3⟩
    ·exact .inl hcn
    refine .inr ?_
    have hall:RunI P ss (x :: (pre ++ i :: post)) e s e' s':=⟨mx,vx,s1,h1,h2,h3⟩
    have ex1:∀ n ∈ usesMS mx,e' n=e n:=fun n hn=>hall.slot fun z hz m hm'=>lx mx h1 z m (by
     rcases List.mem_cons.1 hz with rfl | hz
     ·exact Nat.le_refl _
     ·rcases List.mem_append.1 hz with hz | hz
      ·exact Nat.le_of_lt (hord'.1 z hz)
      ·rcases List.mem_cons.1 hz with rfl | hz
       ·exact Nat.le_of_lt hlt
       ·exact Nat.le_of_lt (Nat.lt_trans hlt (hpost z hz))) hm' n hn
    have ei1:∀ n ∈ usesMS mi,e' n=e n:=fun n hn=>hall.slot fun z hz m hm'=>by
     rcases List.mem_cons.1 hz with rfl | hz
     ·rw [h1] at hm';cases hm';exact (apart_spec ha).1 n hn
     ·rcases List.mem_append.1 hz with hz | hz
      ·exact (apart_spec ((hp z (List.mem_cons_of_mem _ hz)).2 m mi hm' hi).1).1 n hn
      ·rcases List.mem_cons.1 hz with rfl | hz
       ·exact li mi hi z m (Nat.le_refl _) hm' n hn
       ·exact li mi hi z m (Nat.le_of_lt (hpost z hz)) hm' n hn
    exact ⟨T,T',by rw [← t1];exact tk_congr fun n hn=>(ex1 n hn).symm,by rw [← t2];exact tk_congr fun n hn=>(ei1 n hn).symm,t3⟩
  obtain ⟨t,g1,g2,g3⟩:=swap h2 h5 ha hmem
  refine ⟨mi,vi,t,hi,g1,mx,vx,s2,h1,g2,?_⟩
  rw [← g3];exact h6
end
end Go.Av

/- A whole region,in the model and at abstract values. By an AI agent;nothing here is trusted. -/
namespace Go.Av

def dirs (o:Oper):List Nat:=o.after.toList.filterMap fun e=>if Region.binds .any e then some e.on else none

def late (ss:List MS) (n x:Nat):Bool :=
 match ss[x]? with
 | some mx=>(List.range n).all fun z=>decide (z<x) || (match ss[z]? with
  | some mz=>(usesMS mx).all fun k=>!(mz.d.toList.contains k)
  | none=>true)
 | none=>false

def drawOk (ops:Array Oper) (ss:List MS) (bef:List (List Nat)) (conf:List (Nat × Nat)):Bool :=
 ((List.range ops.size).all fun j=>match ops[j]?,ss[j]?,bef[j]? with
  | some o,some mj,some bj =>
   (dirs o).all (fun x=>decide (x<j)) &&
   bj.all (fun x=>(dirs o).contains x || (dirs o).any fun y=>(bef.getD y []).contains x) &&
   (List.range j).all (fun i=>bj.contains i || (match ss[i]? with
    | some mi=>apart mi mj && ((!(wr mi.o) && !(wr mj.o)) || ((pureOp mi.o || pureOp mj.o) || conf.contains (i,j)))
    | none=>false))
  | _,_,_=>false) &&
 conf.all fun p=>late ss ops.size p.1 && late ss ops.size p.2

def rem (n:Nat) (listed:Array Bool):List Nat:=(List.range n).filter fun i=>!(listed.getD i true)

def Closed (ops:Array Oper) (listed:Array Bool):Prop:=∀ j o,listed.getD j false=true→ops[j]?=some o→∀ x ∈ dirs o,listed.getD x false=true

theorem mem_dirs {o:Oper} {x:Nat}:x ∈ dirs o ↔ ∃ e ∈ o.after,Region.binds .any e=true∧e.on=x:=by
 unfold dirs
 simp only [List.mem_filterMap,Array.mem_toList_iff]
 constructor
 ·rintro ⟨e,h1,h2⟩
  split at h2
  ·cases h2;exact ⟨e,h1,by assumption,rfl⟩
  ·cases h2
 ·rintro ⟨e,h1,h2,rfl⟩
  exact ⟨e,h1,by rw [if_pos h2]⟩

section
variable {P:Program} {N B:Nat} {w0:World} {ok0:F0} {ops:Array Oper} {ss:List MS} {bef:List (List Nat)} {conf:List (Nat × Nat)}

structure DrawOk (ops:Array Oper) (ss:List MS) (bef:List (List Nat)) (conf:List (Nat × Nat)):Prop where
 back:∀ (j:Nat) o,ops[j]?=some o→∀ x ∈ dirs o,x<j
 clos:∀ (j:Nat) o bj,ops[j]?=some o→bef[j]?=some bj→∀ x ∈ bj,x ∈ dirs o∨∃ y ∈ dirs o,x ∈ bef.getD y []
 len:∀ j,j<ops.size→∃ bj,bef[j]?=some bj
 pair:∀ (i j:Nat) bj,i<j→j<ops.size→bef[j]?=some bj→i ∉ bj→PairOk ss conf i j
 late:∀ x i,(x,i) ∈ conf→LateOk ss x∧LateOk ss i

theorem late_spec (hl:ss.length=ops.size) {x:Nat} (h:late ss ops.size x=true):LateOk ss x:=by
 intro mx hx z mz hz hmz n hn
 unfold late at h
 rw [hx] at h
 simp only [List.all_eq_true,List.mem_range] at h
 have hzl:z<ops.size:=by rw [← hl];exact (List.getElem?_eq_some_iff.1 hmz).1
 have:=h z hzl
 rw [hmz] at this
 simp only [Bool.or_eq_true,decide_eq_true_eq,List.all_eq_true,Bool.not_eq_true',List.contains_eq_mem,decide_eq_false_iff_not] at this
 rcases this with this | this
 ·omega
 ·exact this n hn

theorem drawOk_spec (hl:ss.length=ops.size) (h:drawOk ops ss bef conf=true):DrawOk ops ss bef conf:=by
 simp only [drawOk,Bool.and_eq_true,List.all_eq_true,List.mem_range] at h
 obtain ⟨h1,h2⟩:=h
 have key:∀ j,j<ops.size→∃ o mj bj,ops[j]?=some o∧ss[j]?=some mj∧bef[j]?=some bj∧(∀ x ∈ dirs o,x<j)∧(∀ x ∈ bj,x ∈ dirs o∨∃ y ∈ dirs o,x ∈ bef.getD y []) ∧
   ∀ i,i<j→i ∉ bj→∃ mi,ss[i]?=some mi∧apart mi mj=true∧((wr mi.o=false∧wr mj.o=false)∨(pureOp mi.o=true∨pureOp mj.o=true)∨(i,j) ∈ conf):=by
  intro j hj
  have:=h1 j hj
  split at this
  ·rename_i o mj bj e1 e2 e3
   refine ⟨o,mj,bj,e1,e2,e3,?_⟩
   simp only [Bool.and_eq_true,List.all_eq_true,decide_eq_true_eq,Bool.or_eq_true,List.contains_eq_mem,List.any_eq_true,List.mem_range] at this
   obtain ⟨⟨q1,q2⟩,q3⟩:=this
   refine ⟨q1,q2,fun i hi hni=>?_⟩
   have:=(q3 i hi).resolve_left hni
   split at this
   ·rename_i mi e4
    refine ⟨mi,e4,?_⟩
    simpa using this
   ·cases this
  ·cases this
 constructor
 ·intro j o ho x hx
  obtain ⟨o',mj,bj,e1,_,_,q,_⟩:=key j (Array.getElem?_eq_some_iff.1 ho).1
  rw [ho] at e1;cases e1;exact q x hx
 ·intro j o bj ho hb x hx
  obtain ⟨o',mj,bj',e1,_,e3,_,q,_⟩:=key j (Array.getElem?_eq_some_iff.1 ho).1
  rw [ho] at e1;cases e1;rw [hb] at e3;cases e3;exact q x hx
 ·intro j hj
  obtain ⟨_,_,bj,_,_,e3,_⟩:=key j hj
  exact ⟨bj,e3⟩
 ·intro i j bj hij hj hb hni mx mi hx hi
  obtain ⟨_,mj,bj',_,e2,e3,_,_,q⟩:=key j hj
  rw [hb] at e3;cases e3
  obtain ⟨mi',g1,g2,g3⟩:=q i hij hni
  rw [hx] at g1;cases g1
  rw [hi] at e2;cases e2
  exact ⟨g2,g3⟩
 ·intro x i hxi
  have:=h2 (x,i) hxi
  exact ⟨late_spec hl this.1,late_spec hl this.2⟩

theorem bef_listed (hD:DrawOk ops ss bef conf) {listed:Array Bool} (hc:Closed ops listed):∀ (j:Nat) o bj,ops[j]?=some o→bef[j]?=some bj→(∀ x ∈ dirs o,listed.getD x false=true)→∀ x ∈ bj,listed.getD x false=true:=by
 intro j
 induction j using Nat.strongRecOn with
 | ind j ih =>
  intro o bj ho hb hd x hx
  rcases hD.clos j o bj ho hb x hx with h | ⟨y,hy,hxy⟩
  ·exact hd x h
  ·have hyj:=hD.back j o ho y hy
   have hys:y<ops.size:=Nat.lt_trans hyj (Array.getElem?_eq_some_iff.1 ho).1
   obtain ⟨by_,hby⟩:=hD.len y hys
   have hoy:ops[y]?=some ops[y]:=Array.getElem?_eq_getElem hys
   have:bef.getD y []=by_:=by simp [List.getD,hby]
   rw [this] at hxy
   exact ih y hyj _ by_ hoy hby (hc y _ (hd y hy) hoy) x hxy

theorem rem_mem {n i:Nat} {listed:Array Bool}:i ∈ rem n listed ↔ i<n∧listed.getD i true=false:=by
 simp [rem]

theorem rem_sorted (n:Nat) (listed:Array Bool):(rem n listed).Pairwise (·<·):=List.Pairwise.filter _ List.pairwise_lt_range

theorem filter_ne_split {pre post:List Nat} {i:Nat} (h:(pre ++ i :: post).Pairwise (·<·)):(pre ++ i :: post).filter (fun j=>!(j == i))=pre ++ post:=by
 rw [List.pairwise_append] at h
 obtain ⟨_,h2,h3⟩:=h
 have h2':=List.pairwise_cons.1 h2
 rw [List.filter_append,List.filter_cons]
 have e1:pre.filter (fun j=>!(j == i))=pre:=List.filter_eq_self.2 fun x hx=>by
  have:=h3 x hx i (by simp)
  simp;omega
 have e2:post.filter (fun j=>!(j == i))=post:=List.filter_eq_self.2 fun x hx=>by
  have:=h2'.1 x hx
  simp;omega
 rw [e1,e2];simp

theorem rem_set {n i:Nat} {listed:Array Bool} (hs:listed.size=n) (hi:i<n):rem n (listed.setIfInBounds i true)=(rem n listed).filter fun j=>!(j == i):=by
 unfold rem
 rw [List.filter_filter]
 apply List.filter_congr
 intro j hj
 rw [List.mem_range] at hj
 by_cases hji:j=i
 ·subst hji
  simp [Array.getD,hs,hi]
 ·have:(listed.setIfInBounds i true).getD j true=listed.getD j true:=by
   simp only [Array.getD_eq_getD_getElem?]
   rw [Array.getElem?_setIfInBounds,if_neg (fun h=>hji h.symm)]
  rw [this]
  simp [hji]

theorem draw_any (hat:∀ (i:Nat) o,ops[i]?=some o→∃ m,ss[i]?=some m∧cMS P N ops o=some m) (hD:DrawOk ops ss bef conf) {ro:Option Nat} {rm:Nat} {e':Env} {s':Store} (hconf:confAt ss conf e') {Q:Exit→Act→World→Prop}
  (ds:List Deferred) (hQ:∀ ok' ρ' a' w',a'.defers=ds→Rel N B w0 ok0 ok' ρ' e' s' a' w'→Q .normal a' w') :
  ∀ (fuel:Nat) (listed:Array Bool) (e:Env) (s:Store) (ok:Nat→Prop) (ρ:Nat→Option Nat) (a:Act) (w:World),a.defers=ds→Rel N B w0 ok0 ok ρ e s a w→listed.size=ops.size→Closed ops listed →
   RunI P ss (rem ops.size listed) e s e' s'→(rem ops.size listed).length≤fuel→wpAnyIn (Fr ro) rm P .any ops Q fuel listed a w:=by
 have hnone:∀ (listed:Array Bool) (e:Env) (s:Store) (ok:Nat→Prop) (ρ:Nat→Option Nat) (a:Act) (w:World),a.defers=ds→Rel N B w0 ok0 ok ρ e s a w→RunI P ss (rem ops.size listed) e s e' s'→rem ops.size listed=[]→Q .normal a w:=by
  intro listed e s ok ρ a w had hR hrun h0
  rw [h0] at hrun
  obtain ⟨h1,h2⟩:=hrun
  rw [← h1,← h2] at hR
  exact hQ _ _ _ _ had hR
 have hready:∀ (listed:Array Bool),listed.size=ops.size→Region.ready .any ops listed=[]→rem ops.size listed=[]:=by
  intro listed hs h
  cases hr:rem ops.size listed with
  | nil=>rfl
  | cons x r =>
   exfalso
   have hx:x ∈ rem ops.size listed:=by rw [hr];simp
   obtain ⟨hxn,hxl⟩:=rem_mem.1 hx
   have ho:ops[x]?=some ops[x]:=Array.getElem?_eq_getElem hxn
   have:x ∈ Region.ready .any ops listed:=by
    rw [mem_ready]
    refine ⟨hxl,ops[x],ho,fun ed hed hb=>?_⟩
    have hlt:=hD.back x _ ho ed.on (mem_dirs.2 ⟨ed,hed,hb,rfl⟩)
    have hnot:ed.on ∉ rem ops.size listed:=by
     rw [hr]
     intro hin
     have hso:=rem_sorted ops.size listed
     rw [hr] at hso
     rcases List.mem_cons.1 hin with h | h
     ·omega
     ·have:=(List.pairwise_cons.1 hso).1 _ h;omega
    rw [rem_mem] at hnot
    have h2:listed.getD ed.on true=true:=by
     cases hb':listed.getD ed.on true with
     | true=>rfl
     | false=>exact absurd ⟨Nat.lt_trans hlt hxn,hb'⟩ hnot
    have hin:ed.on<listed.size:=by rw [hs];exact Nat.lt_trans hlt hxn
    simpa [Array.getD,hin] using h2
   rw [h] at this
   cases this
 intro fuel
 induction fuel with
 | zero =>
  intro listed e s ok ρ a w had hR hs hc hrun hlen
  have h0:rem ops.size listed=[]:=List.eq_nil_of_length_eq_zero (by omega)
  refine ⟨?_,hnone listed e s ok ρ a w had hR hrun h0⟩
  cases hr:Region.ready .any ops listed with
  | nil=>rfl
  | cons x r =>
   have hx:x ∈ Region.ready .any ops listed:=by rw [hr];simp
   rw [mem_ready] at hx
   obtain ⟨h1,o,h2,_⟩:=hx
   have:x ∈ rem ops.size listed:=rem_mem.2 ⟨(Array.getElem?_eq_some_iff.1 h2).1,h1⟩
   rw [h0] at this;cases this
 | succ fuel ih =>
  intro listed e s ok ρ a w had hR hs hc hrun hlen
  refine ⟨fun h=>hnone listed e s ok ρ a w had hR hrun (hready listed hs h),fun i hi=>?_⟩
  rw [mem_ready] at hi
  obtain ⟨h1,o,h2,h3⟩:=hi
  have hin:i<ops.size:=(Array.getElem?_eq_some_iff.1 h2).1
  obtain ⟨mi,hmi,hcm⟩:=hat i o h2
  have hdirs:∀ x ∈ dirs o,listed.getD x false=true:=by
   intro x hx
   obtain ⟨ed,q1,q2,rfl⟩:=mem_dirs.1 hx
   exact h3 ed q1 q2
  obtain ⟨bi,hbi⟩:=hD.len i hin
  have hbl:=bef_listed hD hc i o bi h2 hbi hdirs
  obtain ⟨pre,post,hsplit⟩:=List.append_of_mem (rem_mem.2 ⟨hin,h1⟩:i ∈ rem ops.size listed)
  have hsort:=rem_sorted ops.size listed
  rw [hsplit] at hsort hrun hlen
  obtain ⟨p1,p2,p3⟩:=List.pairwise_append.1 hsort
  have p2':=List.pairwise_cons.1 p2
  have hpre:∀ x ∈ pre,x<i∧PairOk ss conf x i:=by
   intro x hx
   have hlt:=p3 x hx i (by simp)
   refine ⟨hlt,hD.pair x i bi hlt hin hbi fun hxb=>?_⟩
   have hl1:=hbl x hxb
   have hxr:x ∈ rem ops.size listed:=by rw [hsplit];exact List.mem_append_left _ hx
   have hl2:=(rem_mem.1 hxr).2
   simp only [Array.getD_eq_getD_getElem?] at hl1 hl2
   cases hg:listed[x]? with
   | none=>rw [hg] at hl2;simp at hl2
   | some b=>rw [hg] at hl1 hl2;simp at hl1 hl2;rw [hl1] at hl2;cases hl2
  obtain ⟨m',v,s1,q1,q2,q3⟩:=bubble hmi hconf hD.late (fun z hz=>p2'.1 z hz) pre e s hrun hpre p1
  rw [hmi] at q1;cases q1
  unfold wpOpIn
  rw [h2]
  refine step_sim hR hcm q2.1 fun ok' ρ' a' w' hd' hR'=>?_
  have hrem:rem ops.size (listed.setIfInBounds i true)=pre ++ post:=by
   rw [rem_set hs hin,hsplit,filter_ne_split hsort]
  refine ih _ _ _ _ _ _ _ (hd'.trans had) hR' (by simpa using hs) ?_ (by rw [hrem];exact q3) (by rw [hrem];simp at hlen ⊢;omega)
  intro j oj hj hoj x hx
  by_cases hji:j=i
  ·subst hji
   rw [h2] at hoj;cases hoj
   exact getD_set_true (hdirs x hx)
  ·rw [getD_set_ne _ (fun h=>hji h.symm)] at hj
   exact getD_set_true (hc j oj hj hoj x hx)
end
end Go.Av

/- A region that draws,but for its last operations,each of which waits for all before it. By an AI agent;nothing here is trusted. -/
namespace Go.Av

section
variable {P:Program} {N B:Nat} {w0:World} {ok0:F0} {ops:Array Oper} {ss:List MS} {bef:List (List Nat)} {conf:List (Nat × Nat)}

def Tail (ops:Array Oper) (bef:List (List Nat)) (p:Nat):Prop:=∀ (j:Nat) bj,p≤j→j<ops.size→bef[j]?=some bj→∀ i,i<j→i ∈ bj

theorem rem_setP {n i:Nat} {listed:Array Bool} (hi:i<listed.size):rem n (listed.setIfInBounds i true)=(rem n listed).filter fun j=>!(j == i):=by
 unfold rem
 rw [List.filter_filter]
 apply List.filter_congr
 intro j hj
 rw [List.mem_range] at hj
 by_cases hji:j=i
 ·subst hji
  simp [Array.getD,hi]
 ·have:(listed.setIfInBounds i true).getD j true=listed.getD j true:=by
   simp only [Array.getD_eq_getD_getElem?]
   rw [Array.getElem?_setIfInBounds,if_neg (fun h=>hji h.symm)]
  rw [this]
  simp [hji]

theorem getD_TF {listed:Array Bool} {i:Nat} (hi:i<listed.size):listed.getD i true=listed.getD i false:=by simp [Array.getD,hi]

theorem tail_list (hD:DrawOk ops ss bef conf) {p:Nat} (hT:Tail ops bef p) {ro:Option Nat} {rm:Nat} {Q:Exit→Act→World→Prop} :
  ∀ (fuel q:Nat) (listed:Array Bool) (a:Act) (w:World),p≤q→q≤ops.size→listed.size=ops.size→(∀ j,j<q→listed.getD j false=true)→(∀ j,q≤j→listed.getD j false=false)→ops.size - q≤fuel →
   wpListIn (Fr ro) rm P ops Q (ops.toList.drop q) a w→wpAnyIn (Fr ro) rm P .any ops Q fuel listed a w:=by
 have hrd:∀ (q:Nat) (listed:Array Bool),p≤q→q≤ops.size→listed.size=ops.size→(∀ j,j<q→listed.getD j false=true)→(∀ j,q≤j→listed.getD j false=false) →
   ∀ i ∈ Region.ready .any ops listed,i=q∧q<ops.size:=by
  intro q listed hpq hq hs h1 h2 i hi
  rw [mem_ready] at hi
  obtain ⟨g1,o,g2,g3⟩:=hi
  have hin:i<ops.size:=(Array.getElem?_eq_some_iff.1 g2).1
  rw [getD_TF (by omega)] at g1
  have hqi:q≤i:=by
   rcases Nat.lt_or_ge i q with h | h
   ·rw [h1 i h] at g1;cases g1
   ·exact h
  have hc:Closed ops listed:=by
   intro j oj hj hoj x hx
   have hjq:j<q:=by
    rcases Nat.lt_or_ge j q with h | h
    ·exact h
    ·rw [h2 j h] at hj;cases hj
   exact h1 x (Nat.lt_trans (hD.back j oj hoj x hx) hjq)
  obtain ⟨bi,hbi⟩:=hD.len i hin
  have hbl:=bef_listed hD hc i o bi g2 hbi fun x hx=>by
   obtain ⟨ed,q1,q2,rfl⟩:=mem_dirs.1 hx
   exact g3 ed q1 q2
  rcases Nat.lt_or_ge q i with h | h
  ·have:=hbl q (hT i bi (by omega) hin hbi q h)
   rw [h2 q (Nat.le_refl _)] at this;cases this
  ·exact ⟨by omega,by omega⟩
 have hne:∀ (q:Nat) (listed:Array Bool),listed.size=ops.size→(∀ j,j<q→listed.getD j false=true)→(∀ j,q≤j→listed.getD j false=false)→q<ops.size→q ∈ Region.ready .any ops listed:=by
  intro q listed hs h1 h2 hq
  rw [mem_ready]
  refine ⟨by rw [getD_TF (by omega)];exact h2 q (Nat.le_refl _),ops[q],Array.getElem?_eq_getElem hq,fun ed hed hb=>?_⟩
  exact h1 ed.on (hD.back q _ (Array.getElem?_eq_getElem hq) ed.on (mem_dirs.2 ⟨ed,hed,hb,rfl⟩))
 intro fuel
 induction fuel with
 | zero =>
  intro q listed a w hpq hq hs h1 h2 hf h
  have hq':q=ops.size:=by omega
  rw [List.drop_of_length_le (by simp;omega)] at h
  refine ⟨?_,h⟩
  cases hr:Region.ready .any ops listed with
  | nil=>rfl
  | cons x r =>
   have:=hrd q listed hpq hq hs h1 h2 x (by rw [hr];simp)
   omega
 | succ fuel ih =>
  intro q listed a w hpq hq hs h1 h2 hf h
  refine ⟨fun h0=>?_,fun i hi=>?_⟩
  ·rcases Nat.lt_or_ge q ops.size with hl | hl
   ·have:=hne q listed hs h1 h2 hl
    rw [h0] at this;cases this
   ·rw [List.drop_of_length_le (by simp;omega)] at h
    exact h
  ·obtain ⟨rfl,hl⟩:=hrd q listed hpq hq hs h1 h2 i hi
   rw [List.drop_eq_getElem_cons (by simpa using hl)] at h
   have hs':(listed.setIfInBounds i true).size=ops.size:=by simpa using hs
   refine wpOpIn_mono (K:=wpListIn (Fr ro) rm P ops Q (ops.toList.drop (i+1))) (fun a w hk=>ih (i+1) _ a w (by omega) hl hs' (fun j hj=>?_) (fun j hj=>?_) (by omega) hk) ?_
   ·by_cases hji:j=i
    ·subst hji
     simp [Array.getD,show j<listed.size by omega]
    ·rw [getD_set_ne _ (fun h=>hji h.symm)]
     exact h1 j (by omega)
   ·rw [getD_set_ne _ (by omega)]
    exact h2 j (by omega)
   ·unfold wpOpIn
    rw [Array.getElem?_eq_getElem hl]
    simpa [wpListIn] using h

theorem draw_pre {p:Nat} (hp:p≤ops.size) (hT:Tail ops bef p) (hat:∀ (i:Nat) o,i<p→ops[i]?=some o→∃ m,ss[i]?=some m∧cMS P N ops o=some m) (hD:DrawOk ops ss bef conf) {ro:Option Nat} {rm:Nat} {e':Env} {s':Store} (hconf:confAt ss conf e') {Q:Exit→Act→World→Prop}
  (ds:List Deferred) (hQ:∀ ok' ρ' a' w',a'.defers=ds→Rel N B w0 ok0 ok' ρ' e' s' a' w'→wpListIn (Fr ro) rm P ops Q (ops.toList.drop p) a' w') :
  ∀ (fuel:Nat) (listed:Array Bool) (e:Env) (s:Store) (ok:Nat→Prop) (ρ:Nat→Option Nat) (a:Act) (w:World),a.defers=ds→Rel N B w0 ok0 ok ρ e s a w→listed.size=ops.size→Closed ops listed→(∀ j,p≤j→listed.getD j false=false) →
   RunI P ss (rem p listed) e s e' s'→(rem ops.size listed).length≤fuel→wpAnyIn (Fr ro) rm P .any ops Q fuel listed a w:=by
 have hall:∀ (listed:Array Bool),listed.size=ops.size→rem p listed=[]→∀ j,j<p→listed.getD j false=true:=by
  intro listed hs h0 j hj
  have:j ∉ rem p listed:=by rw [h0];simp
  rw [rem_mem] at this
  cases hb:listed.getD j true with
  | true=>rw [getD_TF (by omega)] at hb;exact hb
  | false=>exact absurd ⟨hj,hb⟩ this
 have hcnt:∀ (listed:Array Bool),listed.size=ops.size→(∀ j,p≤j→listed.getD j false=false)→ops.size - p≤(rem ops.size listed).length:=by
  intro listed hs h2
  have hsub:(List.range' p (ops.size - p)).Sublist (rem ops.size listed):=by
   have e1:List.range ops.size=List.range p ++ List.range' p (ops.size - p):=by
    have h:=List.range'_append_1 (s:=0) (m:=p) (n:=ops.size - p)
    rw [Nat.zero_add,show p+(ops.size - p)=ops.size by omega] at h
    rw [List.range_eq_range',List.range_eq_range',h]
   unfold rem
   rw [e1,List.filter_append]
   have e2:(List.range' p (ops.size - p)).filter (fun i=>!(listed.getD i true))=List.range' p (ops.size - p):=by
    rw [List.filter_eq_self]
    intro i hi
    rw [List.mem_range'_1] at hi
    rw [getD_TF (by omega),h2 i hi.1];rfl
   rw [e2]
   exact List.sublist_append_right _ _
  have:=hsub.length_le
  simpa using this
 intro fuel
 induction fuel with
 | zero =>
  intro listed e s ok ρ a w had hR hs hc htl hrun hlen
  have hc0:=hcnt listed hs htl
  have hpe:p=ops.size:=by omega
  have h0:rem p listed=[]:=by rw [hpe];exact List.eq_nil_of_length_eq_zero (by omega)
  rw [h0] at hrun
  obtain ⟨h1,h2⟩:=hrun
  rw [← h1,← h2] at hR
  exact tail_list hD hT 0 p listed a w (Nat.le_refl _) hp hs (hall listed hs h0) htl (by omega) (hQ _ _ _ _ had hR)
 | succ fuel ih =>
  intro listed e s ok ρ a w had hR hs hc htl hrun hlen
  have hc0:=hcnt listed hs htl
  by_cases h0:rem p listed=[]
  ·rw [h0] at hrun
   obtain ⟨h1,h2⟩:=hrun
   rw [← h1,← h2] at hR
   exact tail_list hD hT (fuel+1) p listed a w (Nat.le_refl _) hp hs (hall listed hs h0) htl (by omega) (hQ _ _ _ _ had hR)
  refine ⟨fun h=>?_,fun i hi=>?_⟩
  ·exfalso
   cases hr:rem p listed with
   | nil=>exact h0 hr
   | cons x r =>
    have hx:x ∈ rem p listed:=by rw [hr];simp
    obtain ⟨hxp,hxl⟩:=rem_mem.1 hx
    have hxn:x<ops.size:=by omega
    have ho:ops[x]?=some ops[x]:=Array.getElem?_eq_getElem hxn
    have:x ∈ Region.ready .any ops listed:=by
     rw [mem_ready]
     refine ⟨hxl,ops[x],ho,fun ed hed hb=>?_⟩
     have hlt:=hD.back x _ ho ed.on (mem_dirs.2 ⟨ed,hed,hb,rfl⟩)
     have hnot:ed.on ∉ rem p listed:=by
      rw [hr]
      intro hin
      have hso:=rem_sorted p listed
      rw [hr] at hso
      rcases List.mem_cons.1 hin with h | h
      ·omega
      ·have:=(List.pairwise_cons.1 hso).1 _ h;omega
     rw [rem_mem] at hnot
     cases hb':listed.getD ed.on true with
     | true=>rw [getD_TF (by omega)] at hb';exact hb'
     | false=>exact absurd ⟨Nat.lt_trans hlt hxp,hb'⟩ hnot
    rw [h] at this
    cases this
  rw [mem_ready] at hi
  obtain ⟨h1,o,h2,h3⟩:=hi
  have hin:i<ops.size:=(Array.getElem?_eq_some_iff.1 h2).1
  have hdirs:∀ x ∈ dirs o,listed.getD x false=true:=by
   intro x hx
   obtain ⟨ed,q1,q2,rfl⟩:=mem_dirs.1 hx
   exact h3 ed q1 q2
  obtain ⟨bi,hbi⟩:=hD.len i hin
  have hbl:=bef_listed hD hc i o bi h2 hbi hdirs
  have hip:i<p:=by
   rcases Nat.lt_or_ge i p with h | h
   ·exact h
   ·exfalso
    apply h0
    cases hr:rem p listed with
    | nil=>rfl
    | cons x r =>
     have hx:x ∈ rem p listed:=by rw [hr];simp
     obtain ⟨hxp,hxl⟩:=rem_mem.1 hx
     have:=hbl x (hT i bi h hin hbi x (by omega))
     rw [getD_TF (by omega),this] at hxl
     cases hxl
  obtain ⟨mi,hmi,hcm⟩:=hat i o hip h2
  obtain ⟨pre,post,hsplit⟩:=List.append_of_mem (rem_mem.2 ⟨hip,h1⟩:i ∈ rem p listed)
  have hsort:=rem_sorted p listed
  rw [hsplit] at hsort hrun
  obtain ⟨p1,p2,p3⟩:=List.pairwise_append.1 hsort
  have p2':=List.pairwise_cons.1 p2
  have hpre:∀ x ∈ pre,x<i∧PairOk ss conf x i:=by
   intro x hx
   have hlt:=p3 x hx i (by simp)
   refine ⟨hlt,hD.pair x i bi hlt hin hbi fun hxb=>?_⟩
   have hl1:=hbl x hxb
   have hxr:x ∈ rem p listed:=by rw [hsplit];exact List.mem_append_left _ hx
   have hl2:=(rem_mem.1 hxr).2
   rw [getD_TF (by omega),hl1] at hl2
   cases hl2
  obtain ⟨m',v,s1,q1,q2,q3⟩:=bubble hmi hconf hD.late (fun z hz=>p2'.1 z hz) pre e s hrun hpre p1
  rw [hmi] at q1;cases q1
  unfold wpOpIn
  rw [h2]
  refine step_sim hR hcm q2.1 fun ok' ρ' a' w' hd' hR'=>?_
  have hrem:rem p (listed.setIfInBounds i true)=pre ++ post:=by
   rw [rem_setP (by omega),hsplit,filter_ne_split hsort]
  have hrem2:(rem ops.size (listed.setIfInBounds i true)).length≤fuel:=by
   obtain ⟨pre2,post2,hsplit2⟩:=List.append_of_mem (rem_mem.2 ⟨hin,h1⟩:i ∈ rem ops.size listed)
   have hsort2:=rem_sorted ops.size listed
   rw [hsplit2] at hsort2 hlen
   rw [rem_setP (by omega),hsplit2,filter_ne_split hsort2]
   simp at hlen ⊢;omega
  refine ih _ _ _ _ _ _ _ (hd'.trans had) hR' (by simpa using hs) ?_ ?_ (by rw [hrem];exact q3) hrem2
  ·intro j oj hj hoj x hx
   by_cases hji:j=i
   ·subst hji
    rw [h2] at hoj;cases hoj
    exact getD_set_true (hdirs x hx)
   ·rw [getD_set_ne _ (fun h=>hji h.symm)] at hj
    exact getD_set_true (hc j oj hj hoj x hx)
  ·intro j hj
   rw [getD_set_ne _ (by omega)]
   exact htl j hj
end
end Go.Av

