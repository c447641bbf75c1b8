/- A range over a function that keeps three cells of its own (SplitSeq at one byte): the rule. Printed by gensj3.py. By an AI agent; nothing here is trusted. -/
import Derived.Test.YtpaklfjlbocfcaaGreatDoorLayD
import Derived.Test.YtpaklfjlbocfcaaGreatDoorConTopPulseBestCardC
import Derived.Test.YtpaklfjlbocfcaaGreatDoorProg
import Derived.Test.YtpaklfjlbocfcaaGreatDoorConTopPulseBestCardA
import Derived.Test.YtpaklfjlbocfcaaGreatDoorConTopPulseBestCardB
import Derived.OneCell
import Derived.Shelf.LaysM
import Derived.Shelf.LaysC
import Derived.Shelf.Strings.Prefix
import Derived.Lib.ItoaMem
set_option linter.defProp false
set_option linter.unusedSimpArgs false
set_option linter.unusedVariables false
namespace Go.Av
open Go.RowKit (Below)

def IterC (P:Program) (g:FuncId) (ty ti:TypeId) (c:UInt8):Prop :=
 (∀ args w,(callFunc g args).run P w=.ok (.enter g args) w) ∧
 ∀ (l:Nat) (s:List UInt8),s.length≤1000000→∀ (J:List (List UInt8)→List UInt8→World→Prop) (Jx:World→Prop) (b1 b2 b3:Nat),
  (∀ pre r w,J pre r w→w.cell? ⟨b1,0,none⟩=some (.string ⟨#[c]⟩)∧w.cell? ⟨b2,0,none⟩=some (.string ⟨r.toArray⟩)∧w.frozen? ⟨b2,0,none⟩=false∧w.cell? ⟨b3,0,none⟩=some (.int .i64 0)) →
  (∀ pre r w r',J pre r w→J pre r' (w.setCell ⟨b2,0,none⟩ (.string ⟨r'.toArray⟩))) →
  (∀ pre x rest r w,pre ++ x :: rest=Lin.cut c s→J pre r w→RoundOk P l #[.string ⟨x.toArray⟩] w fun b w'=>(b=true∧J (pre ++ [x]) r w')∨(b=false∧Jx w')) →
  ∀ W,J [] s W→Calls P g (#[.func (.yield l) #[] #[]] ++ #[.pointer (some ⟨b1,0,none⟩),.pointer (some ⟨b2,0,none⟩),.pointer (some ⟨b3,0,none⟩)]) W fun en W'=>(∃ v,en=.returned v)∧((∃ r,J (Lin.cut c s) r W')∨Jx W')
def WeakK (ks:List Nat) (p q:Env × Store):Prop :=
 (∀ k ∈ ks,∃ K,p.2 k=some (some K))∧∀ (N B:Nat) (w0:World) (ok0:F0) (ok:Nat→Prop) (ρ:Nat→Option Nat) (a:Act) (w:World),ok0.s=noStore→Rel N B w0 ok0 ok ρ p.1 p.2 a w →
  ∃ ok' ρ',(∀ k ∈ ks,ρ' k=ρ k)∧(∀ b,ok b→ok' b)∧Rel N B w0 ok0 ok' ρ' q.1 q.2 a w
def rfQK (ks:List Nat) (Q:Exit→Env→Store→Prop) (e:Env) (s':Store):Exit→Env→Store→Prop:=fun ex _ s2=>match ex with
 | .normal=>WeakK ks (e,s2) (e,s')
 | .ret=>Q .ret e s2
 | .exit id=>Q (.exit id) e s2
 | _=>False
theorem ptr_at {h:Array Obj} {ok:Nat→Prop} {ρ:Nat→Option Nat} {s:Store} {k:Nat} {K:Blk} {v:Value} (hk:s k=some (some K)) (hv:VR h ok ρ s (.ptr k 0 0) v):∃ b,ρ k=some b∧v=.pointer (some ⟨b,0,none⟩):=by
 cases hv with
 | ptrd _ _ _ A hd=>rw [hk] at hd;cases hd
 | ptr _ _ _ K' b hσ hr =>
  refine ⟨b,hr,?_⟩
  simp
theorem args_3 {vs:Array Value} {x y z:Value} (hlen:vs.size=3) (h0:vs.getD 0 undef=x) (h1:vs.getD 1 undef=y) (h2:vs.getD 2 undef=z):vs=#[x,y,z]:=by
 apply Array.ext
 ·simpa using hlen
 ·intro i hi1 hi2
  simp at hi2
  have:i=0∨i=1∨i=2:=by omega
  rcases this with rfl | rfl | rfl
  ·simpa [Array.getD,hi1] using h0
  ·simpa [Array.getD,hi1] using h1
  ·simpa [Array.getD,hi1] using h2

theorem str_val {h:Array Obj} {ok:Nat→Prop} {ρ:Nat→Option Nat} {σ:Store} {l:List UInt8} {v:Value} (hv:VR h ok ρ σ (.str l) v):v=.string ⟨l.toArray⟩:=by
 cases hv with
 | str _ b hs =>
  congr 1
  cases b with
  | mk d=>simp only at hs;subst hs;simp
theorem cell_at {N B:Nat} {w0:World} {ok0:F0} {ok:Nat→Prop} {ρ:Nat→Option Nat} {e:Env} {s:Store} {a:Act} {w:World} (hR:Rel N B w0 ok0 ok ρ e s a w) {k b:Nat} {t:TypeId} {x:AV} (hk:s k=some (some ⟨t,1,[x]⟩)) (hr:ρ k=some b) (hx:cellsOf x=[x]:=by rfl) :
  (∃ v,w.cell? ⟨b,0,none⟩=some v∧VR w.heap ok ρ s x v)∧w.frozen? ⟨b,0,none⟩=false:=by
 obtain ⟨_,_,_,cur,hcur,hH⟩:=hR.bound hk hr
 obtain ⟨h1,h2,h3⟩:=hH 0 x rfl
 obtain ⟨cv,p,q⟩:=h3 0 x (by rw [hx];rfl)
 refine ⟨⟨cv,?_,q⟩,?_⟩
 ·rw [cell_of_heap hcur];simpa using p
 ·simp [World.frozen?,hcur]
theorem set_at {N B:Nat} {w0:World} {ok0:F0} {ok:Nat→Prop} {ρ:Nat→Option Nat} {e:Env} {s:Store} {a:Act} {w:World} (hR:Rel N B w0 ok0 ok ρ e s a w) {k b:Nat} {t:TypeId} {x x':AV} (hk:s k=some (some ⟨t,1,[x]⟩)) (hr:ρ k=some b) (v:Value)
  (hx:cellsOf x'=[x']) (hc:cell x'=true) (hv:VR w.heap ok ρ s x' v):Rel N B w0 ok0 ok ρ e (upd s k (some (some ⟨t,1,[x']⟩))) a (w.setCell ⟨b,0,none⟩ v):=by
 obtain ⟨hbl,hBb,hnok,cur,hcur,hH⟩:=hR.bound hk hr
 have hsz:0<cur.size:=by
  obtain ⟨h1,h2,h3⟩:=hH 0 x rfl
  cases hcx:cellsOf x with
  | nil=>rw [hcx] at h1;cases h1
  | cons c0 r0 =>
   obtain ⟨cv,p,_⟩:=h3 0 c0 (by rw [hcx];rfl)
   have:=(Array.getElem?_eq_some_iff.1 p).1
   omega
 have hhb:(w.setCell ⟨b,0,none⟩ v).heap[b]?=some (.cells (cur.setIfInBounds 0 v) t (0,0)):=by
  simp only [World.setCell,Array.getElem?_modify,hcur]
  simp
 refine hR.set (K:=⟨t,1,[x]⟩) (cur':=cur.setIfInBounds 0 v) (es:=[x']) hk hr hcur (by simp) ?_ hhb (fun j hj=>Below.heap_setCell _ _ _ _ hj) ?_ ?_
 ·intro i y hy
  cases i with
  | zero =>
   simp at hy;subst hy
   refine ⟨by rw [hx];rfl,fun c hcc=>by rw [hx] at hcc;simp at hcc;subst hcc;exact hc,fun o c ho=>?_⟩
   rw [hx] at ho
   cases o with
   | zero=>simp at ho;subst ho;exact ⟨v,by simp [hsz],hv⟩
   | succ o=>simp at ho
  | succ i=>simp at hy
 ·exact (Below.refl b w).setCell (p:=⟨b,0,none⟩) (Nat.le_refl _) _
 ·simp [World.setCell]

section
variable {P:Program} {N B:Nat} {w0:World} {ok0:F0} {ok:Nat→Prop} {ρ:Nat→Option Nat} {e:Env} {s:Store} {a:Act} {w:World} {L:Nat} {r:Loop} {e1:Env} {a1:Act}
theorem Two.phaseG (h:Two N B w0 ok0 L r ok ρ s e a e1 a1 w) {m:MC} (hf:m.flat=true) {c:Code} (hc:cCode P N c=some m) {Q:Exit→Env→Store→Prop} (hm:AWM P N m Q e1 s) (l rm:Nat) :
  c.wpIn (Fr (some l)) rm P (fun x a1' w'=>∃ e1' s' ok' ρ',Two N B w0 ok0 L r ok' ρ' s' e a e1' a1' w'∧(∀ b,ok b→ok' b)∧(∀ b,ok b→w'.heap[b]?=w.heap[b]?)∧w.heap.size≤w'.heap.size∧Goes w.heap w'.heap ρ ρ' s s'∧Q x e1' s') a1 w:=by
 have hLlt:L<w.heap.size:=(Array.getElem?_eq_some_iff.1 h.hl).1
 have hR:Rel N B w ⟨fun b=>ok b∨b=L,ρ,s⟩ (fun b=>ok b∨b=L) ρ e1 s a1 w:=by
  constructor
  ·exact h.q1.defers.mono (fun _ h=>.inl h) (fun _ _=>rfl)
  ·exact h.q1.size
  ·exact Below.refl _ _
  ·exact h.q1.base
  ·exact fun n=>(h.q1.tmps n).mono (fun _ h=>.inl h) (fun _ _=>rfl) (Goes.refl _ _ _)
  ·exact fun b hb=>⟨hb.elim (fun hb=>(h.q1.oklt b hb).1) (fun hb=>hb ▸ hLlt),.inr hb⟩
  ·exact fun b hb=>hb
  ·exact fun k K hk=>(h.q1.live k K hk).mono (fun _ h=>.inl h) (fun _ _=>rfl) (Goes.refl _ _ _) rfl fun b hb=>⟨rfl,fun _ hno hY=>hY.elim hno fun hb'=>by
    subst hb'
    obtain ⟨_,_,_,cur,hcur,_⟩:=h.q1.bound hk hb
    rw [h.hl] at hcur;cases hcur⟩
  ·exact h.q1.inj
  ·exact fun _ _=>rfl
  ·exact Goes.refl _ _ _
  ·exact h.q1.gnow.mono (fun _ h=>.inl h) (fun _ _=>rfl)
 refine wpIn_mono (hm c hc (some l) rm B w _ _ ρ a1 w (.inl hf) hR) fun x a1' w' ⟨e1',s',ok1,ρ1,hR',hq⟩=>?_
 have hsame:∀ b,ok b→w'.heap[b]?=w.heap[b]?:=fun b hb=>hR'.kept b (.inl hb)
 have hL:w'.heap[L]?=some (.loop r):=(hR'.kept L (.inr rfl)).trans h.hl
 have hXc:∀ b,b=L→∀ cur ty fr,w'.heap[b]? ≠ some (.cells cur ty fr):=fun b hb cur ty fr hc=>by subst hb;rw [hL] at hc;cases hc
 have hok':∀ b,ok b→ok1 b∧¬ b=L:=fun b hb=>⟨hR'.okold b (.inl hb),fun hbL=>h.no (hbL ▸ hb)⟩
 have hsz:w.heap.size≤w'.heap.size:=hR'.below.size
 have oklt:∀ b,(ok1 b∧¬ b=L)→b<w'.heap.size∧(B≤b∨ok0 b):=fun b hb=>by
  obtain ⟨g1,g2⟩:=hR'.oklt b hb.1
  refine ⟨g1,g2.elim .inl fun g=>?_⟩
  rcases g with g | g
  ·exact (h.q.oklt b g).2
  ·exact absurd g hb.2
 refine ⟨e1',s',fun b=>ok1 b∧¬ b=L,ρ1,⟨?_,?_,hL,fun h=>h.2 rfl⟩,hok',hsame,hsz,hR'.goes,hq⟩
 ·constructor
  ·exact h.q.defers.mono hok' hsame
  ·exact h.q.size
  ·exact h.q.below.trans hR'.below
  ·exact hR'.base
  ·exact fun n=>(h.q.tmps n).mono hok' hsame hR'.goes
  ·exact oklt
  ·exact fun b hb=>hok' b (h.q.okold b hb)
  ·exact fun k K hk=>(hR'.live k K hk).less hXc
  ·exact hR'.inj
  ·exact fun b hb=>(hsame b (h.q.okold b hb)).trans (h.q.kept b hb)
  ·exact h.q.goes.trans hR'.goes
  ·exact h.q.gok
 ·constructor
  ·obtain ⟨Ds,d1,d2,d3⟩:=hR'.defers
   refine ⟨Ds,d1,d2,fun D hD=>⟨(d3 D hD).1,⟨(d3 D hD).2.1,fun hDL=>?_⟩,(d3 D hD).2.2⟩⟩
   subst hDL
   have:=(d3 D hD).2.2
   rw [hL] at this;cases this
  ·exact hR'.size
  ·exact h.q.below.trans hR'.below
  ·exact hR'.base
  ·exact fun n=>(hR'.tmps n).less hXc
  ·exact oklt
  ·exact fun b hb=>hok' b (h.q.okold b hb)
  ·exact fun k K hk=>(hR'.live k K hk).less hXc
  ·exact hR'.inj
  ·exact fun b hb=>(hsame b (h.q.okold b hb)).trans (h.q.kept b hb)
  ·exact h.q1.goes.trans hR'.goes
  ·exact h.q1.gok

theorem AWM.rfC {x:MX} {ps:List Nat} {ma mb:MC} {Q:Exit→Env→Store→Prop} {g:FuncId} {ty ti:TypeId} {ch:UInt8} {lst:List UInt8} {k1 k2 k3:Nat} (hx:x.ev e=.fn g [.ptr k1 0 0,.ptr k2 0 0,.ptr k3 0 0])
  (hk:s k1=some (some ⟨ty,1,[.str [ch]]⟩)∧s k2=some (some ⟨ty,1,[.str lst]⟩)∧s k3=some (some ⟨ti,1,[.int .i64 0]⟩))
  (hps:ps.length=1) (hfa:ma.flat=true) (hfb:mb.flat=true) (hit:IterC P g ty ti ch) (hlen:lst.length≤1000000) (st:List (List UInt8)→List UInt8→Store)
  (hst:∀ pre r,st pre r k1=some (some ⟨ty,1,[.str [ch]]⟩)∧st pre r k2=some (some ⟨ty,1,[.str r]⟩)∧st pre r k3=some (some ⟨ti,1,[.int .i64 0]⟩)) (hst2:∀ pre r r',upd (st pre r) k2 (some (some ⟨ty,1,[.str r']⟩))=st pre r')
  (h0:WeakK [k1,k2,k3] (e,s) (e,st [] lst))
  (hround:∀ (pre:List (List UInt8)) (x:List UInt8) (rest:List (List UInt8)) (r:List UInt8),pre ++ x :: rest=Lin.cut ch lst →
   AWM P N ma (fun ex e1 s1=>ex=.normal∧AWM P N mb (rfQK [k1,k2,k3] Q e (st (pre ++ [x]) r)) e1 s1) (updL e ps [.str x]) (st pre r))
  (hend:∀ r,Sat e (st (Lin.cut ch lst) r)→Q .normal e (st (Lin.cut ch lst) r)):AWM P N (.rf x ps ma mb) Q e s:=by
 intro c hc ro rm B w0 ok0 ok ρ a w hfl hR
 obtain ⟨rfl,hs0⟩:Plain ro ok0:=hfl.resolve_left (by simp [MC.flat])
 rcases cCode_inv hc with ⟨_,h'⟩ | ⟨_,_,_,_,_,_,h',_⟩ | ⟨_,_,_,_,_,h',_⟩ | ⟨_,_,_,_,_,_,h',_⟩ | ⟨_,_,_,_,h',_⟩ | ⟨_,_,_,h',_⟩ | ⟨_,_,h'⟩ | ⟨_,h'⟩ | ⟨g',ps',cx,cy,_,_,rfl,h',h1,h2,hpsN⟩ <;> first | (cases h';done) | skip
 cases h'
 have hv:=hR.ev g'
 rw [hx] at hv
 generalize hg:a.eval g'=av at hv
 cases hv with
 | fn _ _ vs hl hvv =>
 obtain ⟨⟨hk1,hk2,hk3⟩,hst0⟩:(s k1=some (some ⟨ty,1,[.str [ch]]⟩)∧s k2=some (some ⟨ty,1,[.str lst]⟩)∧s k3=some (some ⟨ti,1,[.int .i64 0]⟩))∧True:=⟨hk,trivial⟩
 obtain ⟨ok1,ρ1,hρ1,hsub,hR1⟩:=h0.2 N B w0 ok0 ok ρ a w hs0 hR
 obtain ⟨b1,hb1r,hv1⟩:=ptr_at hk1 (hvv 0 _ rfl)
 obtain ⟨b2,hb2r,hv2⟩:=ptr_at hk2 (hvv 1 _ rfl)
 obtain ⟨b3,hb3r,hv3⟩:=ptr_at hk3 (hvv 2 _ rfl)
 have hvs:vs=#[.pointer (some ⟨b1,0,none⟩),.pointer (some ⟨b2,0,none⟩),.pointer (some ⟨b3,0,none⟩)]:=args_3 (by simpa using hl.symm) hv1 hv2 hv3
 subst hvs
 refine wpIn_rangeFunc ?_
 intro fn hfn
 obtain ⟨rec,hrec⟩:∃ rec:LoopState→Option Code→Loop,rec=fun st pe=>{ state:=st,pending:=pe,fn,tmps:=a.tmps,params:=ps',assign:=cx,body:=cy,defers:=w.heap.size }:=⟨_,rfl⟩
 obtain ⟨W1,hW1⟩:∃ W1,(w.alloc (.deferred (some []))).alloc (.loop (rec .ready none))=W1:=⟨_,rfl⟩
 obtain ⟨L,hLdef⟩:∃ L,L=w.heap.size+1:=⟨_,rfl⟩
 have hL1:W1.heap[L]?=some (.loop (rec .ready none)):=by
  rw [← hW1,hLdef];have:=World.alloc_heap_new (w.alloc (.deferred (some []))) (.loop (rec .ready none));rwa [World.size_alloc] at this
 have hK1:W1.heap[w.heap.size]?=some (.deferred (some [])):=by
  rw [← hW1];exact (Below.heap_alloc _ _ _ (by simp)).trans (World.alloc_heap_new w _)
 have hb1:Below w.heap.size w W1:=by
  rw [← hW1];exact (((Below.refl _ w).alloc (Nat.le_refl _) _).alloc (by simp) _)
 have hsz1:W1.heap.size=w.heap.size+2:=by rw [← hW1];simp
 obtain ⟨am,ham⟩:∃ am:Act,am={ a with defers:=[{ target:=.collected w.heap.size,args:=#[] }] ++ a.defers }:=⟨_,rfl⟩
 have hBw:=hR.base
 have hRW:=hR1.grow hb1
 have hRm:Rel N B w0 ok0 (fun b=>ok1 b∨b=w.heap.size) ρ1 e (st [] lst) am W1:=by
  have:=hRW.moreOk (fun b=>b=w.heap.size) (fun b hb=>⟨by omega,.inl (by omega)⟩) (fun k K b hk hb hY=>by
   have:=(hR1.bound hk hb).1;omega)
  refine this.act (by rw [ham]) ?_
  obtain ⟨Ds,d1,d2,d3⟩:=this.defers
  obtain ⟨Ds',d1',d2',d3'⟩:=hR1.defers
  refine ⟨w.heap.size :: Ds',List.nodup_cons.2 ⟨fun h=>?_,d1'⟩,by rw [ham,d2'];rfl,fun D hD=>?_⟩
  ·have:=(Array.getElem?_eq_some_iff.1 (d3' _ h).2.2).1;omega
  ·rcases List.mem_cons.1 hD with rfl | hD
   ·exact ⟨hBw,.inr rfl,hK1⟩
   ·obtain ⟨g1,g2,g3⟩:=d3' D hD
    exact ⟨g1,.inl g2,(hb1.block D (Array.getElem?_eq_some_iff.1 g3).1).trans g3⟩
 have hBL:B≤L:=by omega
 obtain ⟨Qc,hQc⟩:∃ Qc:Exit→Act→World→Prop,Qc=fun x a' w'=>∃ e' s' ok' ρ',Rel N B w0 ok0 ok' ρ' e' s' a' w'∧Q x e' s':=⟨_,rfl⟩
 obtain ⟨J,hJ⟩:∃ J:List (List UInt8)→List UInt8→World→Prop,J=fun pre r W=>∃ ok' ρ',Rel N B w0 ok0 ok' ρ' e (st pre r) am W∧W.heap[L]?=some (.loop (rec .ready none))∧¬ ok' L∧(∀ b,ok b→ok' b)∧ρ' k1=some b1∧ρ' k2=some b2∧ρ' k3=some b3:=⟨_,rfl⟩
 obtain ⟨Jx,hJx⟩:∃ Jx:World→Prop,Jx=fun W=>∃ c s2 ok' ρ',Rel N B w0 ok0 ok' ρ' e s2 am W∧W.heap[L]?=some (.loop (rec .done (some c)))∧¬ ok' L∧((c=.ret∧Q .ret e s2)∨∃ id,c=.exit id∧Q (.exit id) e s2):=⟨_,rfl⟩
 refine ⟨L,[{ target:=.collected w.heap.size,args:=#[] }],W1,{ target:=.fn (.func g) #[.pointer (some ⟨b1,0,none⟩),.pointer (some ⟨b2,0,none⟩),.pointer (some ⟨b3,0,none⟩)],args:=#[.func (.yield L) #[] #[]] },W1,g,#[.func (.yield L) #[] #[]] ++ #[.pointer (some ⟨b1,0,none⟩),.pointer (some ⟨b2,0,none⟩),.pointer (some ⟨b3,0,none⟩)],W1,?_,?_,fun _ _=>trivial,?_,?_,?_⟩
 ·rw [← hW1,hrec,hLdef];exact run_enterLoop_outer _ _ _ _ _
 ·simp only [resolve,hg]
  simp [go_sem]
 ·simp only [invoke,go_sem]
  exact hit.1 _ _
 ·intro h;cases h
 have hnoL:¬ (ok1 L∨L=w.heap.size):=by
  rintro (h | h)
  ·have:=(hR1.oklt L h).1;omega
  ·omega
 have hlv:∀ {pre:List (List UInt8)} {r:List UInt8} {ok':Nat→Prop} {ρ':Nat→Option Nat} {W:World},Rel N B w0 ok0 ok' ρ' e (st pre r) am W→ρ' k1=some b1→ρ' k2=some b2→ρ' k3=some b3 →
   W.cell? ⟨b1,0,none⟩=some (.string ⟨#[ch]⟩)∧W.cell? ⟨b2,0,none⟩=some (.string ⟨r.toArray⟩)∧W.frozen? ⟨b2,0,none⟩=false∧W.cell? ⟨b3,0,none⟩=some (.int .i64 0):=by
  intro pre r ok' ρ' W hr r1 r2 r3
  obtain ⟨s1,s2,s3⟩:=hst pre r
  obtain ⟨c1,f1⟩:=cell_at hr s1 r1
  obtain ⟨c2,f2⟩:=cell_at hr s2 r2
  obtain ⟨c3,f3⟩:=cell_at hr s3 r3
  obtain ⟨v1,q1,p1⟩:=c1
  obtain ⟨v2,q2,p2⟩:=c2
  obtain ⟨v3,q3,p3⟩:=c3
  rw [str_val p1] at q1
  rw [str_val p2] at q2
  cases p3
  exact ⟨q1,q2,f2,q3⟩
 refine calls_fr (Calls.mono (hit.2 L lst hlen J Jx b1 b2 b3 ?_ ?_ ?_ W1 ?_) ?_)
 ·intro pre r W h
  rw [hJ] at h
  obtain ⟨ok',ρ',g1,g2,g3,g4,r1,r2,r3⟩:=h
  exact hlv g1 r1 r2 r3
 ·intro pre r W r' h
  rw [hJ] at h ⊢
  obtain ⟨ok',ρ',g1,g2,g3,g4,r1,r2,r3⟩:=h
  have hb2:=g1.bound (hst pre r).2.1 r2
  have hne:L ≠ b2:=fun h=>by
   obtain ⟨_,_,_,cur,hcur,_⟩:=hb2
   rw [← h,g2] at hcur;cases hcur
  have:=set_at g1 (hst pre r).2.1 r2 (.string ⟨r'.toArray⟩) (x':=.str r') rfl rfl (.str _ _ (by simp))
  rw [hst2] at this
  exact ⟨ok',ρ',this,(Below.heap_setCell _ _ _ _ hne).trans g2,g3,g4,r1,r2,r3⟩
 ·-- one round
  intro pre x rest r W hsplit hJp
  rw [hJ] at hJp
  obtain ⟨ok',ρ',g1,g2,g3,g4,r1,r2,r3⟩:=hJp
  have hy:=run_yield (P:=P) (args:=#[.string ⟨x.toArray⟩]) g2 (by rw [hrec];simpa using hps.symm)
  rw [hrec] at hy
  have hfold:=foldl_tmps (N:=N) (w:=W) (ok:=ok') (ρ:=ρ') (s:=st pre r) ps'.toList [.str x] [.string ⟨x.toArray⟩] e a.tmps hpsN hps rfl hR.size
   (fun n=>by have:=g1.tmps n;rw [ham] at this;exact this)
   (fun i v hv=>by
    cases i with
    | zero=>simp at hv;subst hv;exact .str _ _ (by simp)
    | succ i=>simp at hv)
  have hfold':(ps'.zip #[Value.string ⟨x.toArray⟩]).foldl (fun tmps (t,a)=>tmps.setIfInBounds t a) a.tmps=(ps'.toList.zip [Value.string ⟨x.toArray⟩]).foldl (fun t (p:Nat × Value)=>t.setIfInBounds p.1 p.2) a.tmps:=by
   rw [← Array.toList_zip,Array.foldl_toList]
  rw [← hfold'] at hfold
  have hT:Two N B w0 ok0 L (rec .ready none) ok' ρ' (st pre r) e am (updL e ps'.toList [.str x]) { tmps:=(ps'.zip #[Value.string ⟨x.toArray⟩]).foldl (fun tmps (t,a)=>tmps.setIfInBounds t a) a.tmps,defers:=[] } W :=
   ⟨g1,g1.frame hfold.1 hfold.2 rfl,g2,g3⟩
  refine ⟨fn,_,cx,cy,hy,fun rm'=>roundIn_of_wpIn (F:=Fr none) hfn ?_⟩
  refine wpIn_mono (hT.phaseG hfa h1 (hround pre x rest r hsplit) L rm') fun ex a1 w1 ⟨e1,s1,ok3,ρ3,hT1,hs1,hh1,hz1,hgo1,hex,hbody⟩=>?_
  subst hex
  refine ⟨_,run_beginRound hT1.hl (by rw [hrec]),?_⟩
  have hT2:=hT1.record hBL { rec .ready none with state:=.busy }
  refine wpIn_mono (hT2.phaseG hfb h2 hbody L rm') fun ex a2 w2 ⟨e2,s2,ok4,ρ4,hT3,hs3,hh3,hz3,hgo2,hq⟩=>?_
  have hend:∀ jump:Option Code,(Instr.endRound L jump).run P w2=.ok (.bool jump.isNone) (w2.putObj L (.loop (rec (if jump.isNone then .ready else .done) jump))):=fun jump=>by
   have:=run_endRound (P:=P) jump hT3.hl
   rw [hrec] at this ⊢
   exact this
  have hrec':∀ jump,Two N B w0 ok0 L (rec (if jump.isNone then .ready else .done) jump) ok4 ρ4 s2 e am e2 a2 (w2.putObj L (.loop (rec (if jump.isNone then .ready else .done) jump))):=fun jump=>hT3.record hBL _
  cases ex with
  | normal =>
   refine ⟨_,_,hend none,true,rfl,.inl ⟨rfl,?_⟩⟩
   have hT4:=hrec' none
   obtain ⟨ok5,ρ5,kρ,k1',k2'⟩:=hq.2 N B w0 ok0 ok4 ρ4 am _ hs0 hT4.q
   have k3':=k2'.off hT4.hl (fun h=>hT4.no (hT4.q.okold L h))
   have hno5:¬ (ok5 L∧¬ L=L):=fun h=>h.2 rfl
   have hpl:∀ k ∈ [k1,k2,k3],∀ K,st pre r k=some (some K)→ρ5 k=ρ' k:=fun k hkm K hK=>by
    obtain ⟨K2,hK2⟩:=hq.1 k hkm
    rw [kρ k hkm]
    have hK2':s2 k=some (some K2):=hK2
    rcases hgo1.live k K hK with d | ⟨K1,d1,_,_,d2,_⟩
    ·have:=hgo2.dead k d
     rw [hK2'] at this;cases this
    ·rcases hgo2.live k K1 d1 with d | ⟨_,_,_,_,d3,_⟩
     ·rw [hK2'] at d;cases d
     ·rw [d3,d2]
   obtain ⟨s1',s2',s3'⟩:=hst pre r
   rw [hJ]
   exact ⟨_,ρ5,k3',hT4.hl,hno5,fun b hb=>⟨k1' b (hs3 b (hs1 b (g4 b hb))),fun h=>g3 (h ▸ g4 b hb)⟩,(hpl k1 (by simp) _ s1').trans r1,(hpl k2 (by simp) _ s2').trans r2,(hpl k3 (by simp) _ s3').trans r3⟩
  | ret =>
   refine ⟨_,_,hend (some .ret),false,rfl,.inr ⟨rfl,?_⟩⟩
   rw [hJx]
   have hT4:=hrec' (some .ret)
   exact ⟨.ret,s2,ok4,ρ4,hT4.q,hT4.hl,hT4.no,.inl ⟨rfl,hq⟩⟩
  | exit id =>
   refine ⟨_,_,hend (some (.exit id)),false,rfl,.inr ⟨rfl,?_⟩⟩
   rw [hJx]
   have hT4:=hrec' (some (.exit id))
   exact ⟨.exit id,s2,ok4,ρ4,hT4.q,hT4.hl,hT4.no,.inr ⟨id,rfl,hq⟩⟩
  | _=>exact hq.elim
 ·rw [hJ]
  exact ⟨_,ρ1,hRm,hL1,hnoL,fun b hb=>.inl (hsub b hb),(hρ1 k1 (by simp)).trans hb1r,(hρ1 k2 (by simp)).trans hb2r,(hρ1 k3 (by simp)).trans hb3r⟩
 ·-- behind the iterator
  rintro en w' ⟨⟨v,rfl⟩,h⟩
  rcases h with ⟨r,h⟩ | h
  ·rw [hJ] at h
   obtain ⟨ok',ρ',g1,g2,g3,g4,_⟩:=h
   refine ⟨none,_,by have:=run_endLoop (P:=P) g2 (by rw [hrec];simp);rw [hrec] at this;exact this,?_⟩
   rw [← ham]
   exact ⟨e,st (Lin.cut ch lst) r,ok',ρ',g1.record g2 g3 hBL _,hend r ⟨_,_,_,_,_,_,_,_,g1⟩⟩
  ·rw [hJx] at h
   obtain ⟨c,s2,ok',ρ',g1,g2,g3,g4⟩:=h
   refine ⟨some c,_,by have:=run_endLoop (P:=P) g2 (by rw [hrec];simp);rw [hrec] at this;exact this,?_⟩
   rw [← ham]
   rcases g4 with ⟨rfl,hq⟩ | ⟨id,rfl,hq⟩
   ·exact wpIn_ret ⟨e,s2,ok',ρ',g1.record g2 g3 hBL _,hq⟩
   ·exact wpIn_exit ⟨e,s2,ok',ρ',g1.record g2 g3 hBL _,hq⟩
end
end Go.Av

/- strings.SplitSeq at one byte: its closure keeps the iterator's contract. By an AI agent;nothing here is trusted. -/
namespace Go.Proofs.YtpaklfjlbocfcaaGreatDoor
open Go.Av
open Go.RowKit

theorem splitC (c:UInt8):IterC Tryz.prog 196 9 3 c:=by
 refine ⟨fun args w=>callFunc_enter Tryz.func196 (by kernel_rfl) rfl _,?_⟩
 intro l s hs J Jx b1 b2 b3 hcell hset hround W h0
 refine callsIn_wide.1 (split1 Fence.wide rfl trivial trivial l c s hs J Jx b1 b2 b3 hcell hset ?_ ?_ W h0)
 ·intro pre x rest r w hsp hJ
  obtain ⟨fn,tmps,assign,body,hy,hR⟩:=hround pre x rest r w hsp hJ
  refine ⟨fn,tmps,assign,body,hy,fun rm=>(hR rm).mono ?_⟩
  rintro en w' ⟨b,rfl,⟨rfl,h⟩ | ⟨rfl,h⟩⟩
  ·exact .inl ⟨rfl,h⟩
  ·exact .inr ⟨rfl,h⟩
 ·intro n r w
  exact callsIn_wide.2 (Any.strings_Index_one sj_n143 r c w)
end Go.Proofs.YtpaklfjlbocfcaaGreatDoor

/- Weakenings that keep where some keys lie;the rule for a range over SplitSeq in marked code. Printed by gensj5.py. By an AI agent;nothing here is trusted. -/
namespace Go.Av
section
variable {e:Env} {s:Store}
theorem weak_rnK {e':Env} {s':Store} (ks:List Nat) (g:FuncId) (n0:Nat) (he:e n0=.fn g (ks.map fun k=>.ptr k 0 0)) (he':e' n0=e n0) (f:Nat→Option Nat) (hks:∀ k ∈ ks,f k=some k) (hinj:∀ k1 k2 k,f k1=some k→f k2=some k→k1=k2)
  (hs:∀ k',s' k'=none∨∃ B',s' k'=some (some B')∧((∃ k B,f k'=some k∧s k=some (some B)∧RnB s s' f B B')∨(f k'=none∧B'.es=[]∧0<B'.sz)))
  (hf:∀ k' k,f k'=some k→s' k' ≠ none) (hv:∀ n,n ≠ n0→Rn s s' f (e n) (e' n)):WeakK ks (e,s) (e',s'):=by
 refine ⟨fun k hk=>?_,?_⟩
 ·rcases hs k with h | ⟨B',h1,⟨k2,B,h2,h3,_⟩ | ⟨h2,_⟩⟩
  ·exact absurd h (hf k k (hks k hk))
  ·rw [hks k hk] at h2;cases h2;exact ⟨B,h3⟩
  ·rw [hks k hk] at h2;cases h2
 intro N B w0 ok0 ok ρ a w h0 hR
 obtain ⟨ρ',hρ'⟩:∃ ρ':Nat→Option Nat,ρ'=fun k'=>(f k').bind ρ:=⟨_,rfl⟩
 obtain ⟨ok',hok'⟩:∃ ok':Nat→Prop,ok'=fun b=>ok b∨∃ k K,s k=some (some K)∧ρ k=some b∧∀ k',f k' ≠ some k:=⟨_,rfl⟩
 have hsub:∀ b,ok b→ok' b:=fun b hb=>by rw [hok'];exact .inl hb
 have hcarry:∀ {k' k:Nat},f k'=some k→∃ K K',s k=some (some K)∧s' k'=some (some K')∧RnB s s' f K K'∧ρ' k'=ρ k:=by
  intro k' k hk
  rcases hs k' with h | ⟨K',h1,⟨k2,K,h2,h3,h4⟩ | ⟨h2,_,_⟩⟩
  ·exact absurd h (hf k' k hk)
  ·rw [hk] at h2;cases h2
   exact ⟨K,K',h3,h1,h4,by rw [hρ'];simp [hk]⟩
  ·rw [hk] at h2;cases h2
 have hval:∀ {x:AV} {v:Value},VR w.heap ok ρ s x v→∀ x',Rn s s' f x x'→VR w.heap ok' ρ' s' x' v:=by
  intro x v hx
  have himm:∀ {x:AV} {v:Value},VR w.heap ok ρ s x v→imm x=true→VR w.heap ok' ρ' s' x v:=fun hx hi=>hx.imm hsub (fun _ _=>rfl) hi
  induction hx with
  | agg cs vs hl hvv ih =>
   intro x' hr
   cases hr with
   | undef=>exact .undef _
   | imm _ hi=>exact himm (.agg cs vs hl hvv) hi
   | agg _ cs' hl' h =>
    refine .agg cs' vs (by omega) fun i c' hc'=>?_
    have hlt:i<cs.length:=by have:=(List.getElem?_eq_some_iff.1 hc').1;omega
    exact ih i cs[i] (List.getElem?_eq_getElem hlt) c' (h i _ _ (List.getElem?_eq_getElem hlt) hc')
  | tup cs vs hl hvv ih =>
   intro x' hr
   cases hr with
   | undef=>exact .undef _
   | imm _ hi=>exact himm (.tup cs vs hl hvv) hi
   | tup _ cs' hl' h =>
    refine .tup cs' vs (by omega) fun i c' hc'=>?_
    have hlt:i<cs.length:=by have:=(List.getElem?_eq_some_iff.1 hc').1;omega
    exact ih i cs[i] (List.getElem?_eq_getElem hlt) c' (h i _ _ (List.getElem?_eq_getElem hlt) hc')
  | nils A =>
   intro x' hr
   cases hr with
   | undef=>exact .undef _
   | imm _ hi=>exact .nils _
   | virt k' K' h hs' =>
    exact .bufn k' _ K' hs' (by rw [hρ'];simp [h])
   | nil0=>exact .sl0 _ _
  | bufd k len A l c hd =>
   intro x' hr
   cases hr with
   | undef=>exact .undef _
   | imm _ hi=>cases hi
   | buf _ k' _ h=>obtain ⟨K,K',h1,_⟩:=hcarry h;rw [hd] at h1;cases h1
   | fz _ _ K hk=>rw [hd] at hk;cases hk
  | bufn k A K hσ hr0 =>
   intro x' hr
   cases hr with
   | undef=>exact .undef _
   | imm _ hi=>cases hi
   | buf _ k' _ h =>
    obtain ⟨K1,K',h1,h2,h3,h4⟩:=hcarry h
    exact .bufn k' _ K' h2 (h4.trans hr0)
   | fz _ _ K hk hl hg hff=>simp;exact .sl0 _ _
  | buf k len K b cap cur hσ hr0 hb hlen hcap hcur =>
   intro x' hr
   cases hr with
   | undef=>exact .undef _
   | imm _ hi=>cases hi
   | buf _ k' _ h =>
    obtain ⟨K1,K',h1,h2,h3,h4⟩:=hcarry h
    rw [hσ] at h1;cases h1
    exact .buf k' len K' b cap cur h2 (h4.trans hr0) (by rw [h3.1];exact hb) hlen hcap (by rw [h3.2.1];exact hcur)
   | fz _ _ K1 hk hl hg hff =>
    rw [hσ] at hk;cases hk
    obtain ⟨hlt,_,_,cur',hcur',hH⟩:=hR.bound hσ hr0
    rw [hb] at hcur';cases hcur'
    have hokb:ok' b:=by rw [hok'];exact .inr ⟨k,K,hσ,hr0,hff⟩
    have hlt2:(K.es.take len).length=len:=by simp;omega
    have hget:∀ (i:Nat) (x:AV),(K.es.take len)[i]?=some x→K.es[i]?=some x:=fun i x hx=>by
     rw [List.getElem?_take] at hx;split at hx
     ·exact hx
     ·cases hx
    suffices hsl:VR w.heap ok' ρ' s' (.sl (K.es.take len)) (.slice (some ⟨b,0,none⟩) (K.es.take len).length cap) by rw [hlt2] at hsl;exact hsl
    refine .sl (K.es.take len) b 0 K.sz cap cur K.ty (0,0) (fun i o=>cur.getD (i * K.sz+o) undef) hokb (by rw [hlt2];exact hlen) hb (fun i x hx=>?_) (fun i x o c hx hc=>?_) (fun i x o c hx hc=>?_)
    ·have hx':=hget i x hx
     obtain ⟨g1,g2⟩:=good_imm (hg x (List.mem_of_getElem? hx'))
     exact ⟨(hH i x hx').1,g2,g1⟩
    ·obtain ⟨cv,p,q⟩:=(hH i x (hget i x hx)).2.2 o c hc
     rw [Nat.zero_add,p]
     simp [Array.getD_eq_getD_getElem?,p]
    ·obtain ⟨cv,p,q⟩:=(hH i x (hget i x hx)).2.2 o c hc
     have:cur.getD (i * K.sz+o) undef=cv:=by simp [Array.getD_eq_getD_getElem?,p]
     rw [this]
     exact himm q (imm_cells (good_imm (hg x (List.mem_of_getElem? (hget i x hx)))).1 c (List.mem_of_getElem? hc))
  | ptrd k i o A hd =>
   intro x' hr
   cases hr with
   | undef=>exact .undef _
   | imm _ hi=>cases hi
   | ptr _ k' _ _ h=>obtain ⟨K,K',h1,_⟩:=hcarry h;rw [hd] at h1;cases h1
  | ptr k i o K b hσ hr0 =>
   intro x' hr
   cases hr with
   | undef=>exact .undef _
   | imm _ hi=>cases hi
   | ptr _ k' _ _ h =>
    obtain ⟨K1,K',h1,h2,h3,h4⟩:=hcarry h
    rw [hσ] at h1;cases h1
    rw [← h3.2.1]
    exact .ptr k' i o K' b h2 (h4.trans hr0)
  | undef v=>intro x' hr;cases hr <;> exact .undef _
  | int k n=>intro x' hr;cases hr with
   | undef=>exact .undef _
   | imm _ hi=>exact .int _ _
  | bool b=>intro x' hr;cases hr with
   | undef=>exact .undef _
   | imm _ hi=>exact .bool _
  | str l b hb=>intro x' hr;cases hr with
   | undef=>exact .undef _
   | imm _ hi=>exact .str _ _ hb
  | nilp=>intro x' hr;cases hr with
   | undef=>exact .undef _
   | imm _ hi=>exact .nilp
  | nilf=>intro x' hr;cases hr with
   | undef=>exact .undef _
   | imm _ hi=>exact .nilf
  | ifc t v=>intro x' hr;cases hr with
   | undef=>exact .undef _
   | imm _ hi=>exact .ifc _ _
  | nili=>intro x' hr;cases hr with
   | undef=>exact .undef _
   | imm _ hi=>exact .nili
  | sl0 A cap=>intro x' hr;cases hr with
   | undef=>exact .undef _
   | imm _ hi=>exact .sl0 _ _
  | sl es b off sz cap cur ty fr vals ho hcap hb hs hc hvv _=>intro x' hr;cases hr with
   | undef=>exact .undef _
   | imm _ hi=>exact himm (.sl es b off sz cap cur ty fr vals ho hcap hb hs hc hvv) hi
  | eptr x o b off cur ty fr vals ho hb hs hc hvv _=>intro x' hr;cases hr with
   | undef=>exact .undef _
   | imm _ hi=>exact himm (.eptr x o b off cur ty fr vals ho hb hs hc hvv) hi
  | fn f caps vs hl hvv _=>intro x' hr;cases hr with
   | undef=>exact .undef _
   | imm _ hi=>exact himm (.fn f caps vs hl hvv) hi
  | yld l=>intro x' hr;cases hr with
   | undef=>exact .undef _
   | imm _ hi=>exact .yld l
 refine ⟨ok',ρ',fun k hk=>by rw [hρ'];simp [hks k hk],hsub,?_⟩
 constructor
 ·exact hR.defers.mono hsub (fun _ _=>rfl)
 ·exact hR.size
 ·exact hR.below
 ·exact hR.base
 ·intro n
  by_cases hn:n=n0
  ·subst hn
   have h1:=hR.tmps n
   simp only at h1 ⊢
   rw [he']
   rw [he] at h1 ⊢
   generalize a.tmps.getD n undef=v at h1
   cases h1 with
   | fn _ _ vs hl hvv =>
    refine .fn _ _ vs hl fun i c hc=>?_
    obtain ⟨k,hk,rfl⟩:=List.mem_map.1 (List.mem_of_getElem? hc)
    exact hval (hvv i _ hc) _ (.ptr k k 0 0 (hks k hk))
  ·exact hval (hR.tmps n) _ (hv n hn)
 ·intro b hb
  rw [hok'] at hb
  rcases hb with hb | ⟨k,K,h1,h2,_⟩
  ·exact hR.oklt b hb
  ·have:=hR.bound h1 h2;exact ⟨this.1,.inl this.2.1⟩
 ·exact fun b hb=>hsub b (hR.okold b hb)
 ·intro k' K' hk'
  rcases hs k' with h | ⟨K2,h1,h2⟩
  ·simp only at hk';rw [h] at hk';cases hk'
  simp only at hk'
  rw [h1] at hk';cases hk'
  rcases h2 with ⟨k,K,g1,g2,g3⟩ | ⟨g1,g2,g3⟩
  ·obtain ⟨l1,l2⟩:=hR.live k K g2
   refine ⟨by rw [g3.2.1];exact l1,?_⟩
   rcases l2 with ⟨l2,l3⟩ | ⟨b,cur,l2,l3,l4,l5,l6⟩
   ·exact .inl ⟨by rw [hρ'];simp [g1,l2],List.eq_nil_of_length_eq_zero (by rw [g3.2.2.1,l3];rfl)⟩
   ·refine .inr ⟨b,cur,by rw [hρ'];simp [g1,l2],l3,fun hb=>?_,by rw [g3.1];exact l5,fun i x' hx'=>?_⟩
    ·rw [hok'] at hb
     rcases hb with hb | ⟨k2,K2,q1,q2,q3⟩
     ·exact l4 hb
     ·have:=hR.inj k k2 K K2 b g2 q1 l2 q2
      subst this
      exact q3 k' g1
    ·have hlt:i<K.es.length:=by have:=(List.getElem?_eq_some_iff.1 hx').1;have:=g3.2.2.1;omega
     have hx:=List.getElem?_eq_getElem hlt
     obtain ⟨r1,r2,r3⟩:=g3.2.2.2 i _ x' hx hx'
     obtain ⟨p1,p2,p3⟩:=l6 i _ hx
     refine ⟨by rw [r1,p1,g3.2.1],r2,fun o c' hc'=>?_⟩
     have hlo:o<(cellsOf K.es[i]).length:=by have:=(List.getElem?_eq_some_iff.1 hc').1;omega
     have hco:=List.getElem?_eq_getElem hlo
     obtain ⟨cv,q1,q2⟩:=p3 o _ hco
     exact ⟨cv,by rw [g3.2.1];exact q1,hval q2 _ (r3 o _ c' hco hc')⟩
  ·exact ⟨g3,.inl ⟨by rw [hρ'];simp [g1],g2⟩⟩
 ·intro k1 k2 K1 K2 b h1 h2 h3 h4
  rw [hρ'] at h3 h4
  simp only [Option.bind_eq_some_iff] at h3 h4
  obtain ⟨j1,a1,a2⟩:=h3
  obtain ⟨j2,b1,b2⟩:=h4
  obtain ⟨L1,_,c1,_⟩:=hcarry a1
  obtain ⟨L2,_,c2,_⟩:=hcarry b1
  have:=hR.inj j1 j2 L1 L2 b c1 c2 a2 b2
  subst this
  exact hinj k1 k2 j1 a1 b1
 ·exact hR.kept
 ·rw [h0];exact Goes.empty _ _ _ _ _
 ·exact hR.gok
theorem weak_toK (ks:List Nat) (g:FuncId) (n0:Nat) (he:e n0=.fn g (ks.map fun k=>.ptr k 0 0)) (l:List (Nat × AV)) (m:List (Nat × Option Nat × Blk)) (hks:∀ k ∈ ks,keyOf m k=some k) (hd:(m.map (·.1)).Nodup) (hd':(m.filterMap (·.2.1)).Nodup)
  (hm:∀ p ∈ m,match p.2.1 with
   | some k=>∃ B,s k=some (some B)∧RnB s (stOf (m.map fun p=>(p.1,p.2.2))) (keyOf m) B p.2.2
   | none=>p.2.2.es=[]∧0<p.2.2.sz)
  (hl:∀ p ∈ l,Rn s (stOf (m.map fun p=>(p.1,p.2.2))) (keyOf m) (e p.1) p.2):WeakK ks (e,s) (upd (envOf l) n0 (e n0),stOf (m.map fun p=>(p.1,p.2.2))):=by

 have hst:∀ (m:List (Nat × Option Nat × Blk)),(m.map (·.1)).Nodup→∀ k',(stOf (m.map fun p=>(p.1,p.2.2)) k'=none∧keyOf m k'=none)∨∃ p ∈ m,p.1=k'∧stOf (m.map fun p=>(p.1,p.2.2)) k'=some (some p.2.2)∧keyOf m k'=p.2.1:=by
  intro m hn k'
  induction m with
  | nil=>exact .inl ⟨rfl,rfl⟩
  | cons p m ih =>
   obtain ⟨k,o,K⟩:=p
   simp only [List.map_cons,List.nodup_cons] at hn
   simp only [List.map_cons,stOf,keyOf]
   by_cases hk:k'=k
   ·subst hk;exact .inr ⟨_,List.mem_cons_self,rfl,upd_same _ _ _,by simp⟩
   ·rw [upd_other _ _ _ _ hk,if_neg hk]
    rcases ih hn.2 with h | ⟨p,h1,h2⟩
    ·exact .inl h
    ·exact .inr ⟨p,List.mem_cons_of_mem _ h1,h2⟩
 refine weak_rnK ks g n0 he (upd_same _ _ _) (keyOf m) hks ?_ ?_ ?_ ?_
 ·intro k1 k2 k h1 h2
  have key:∀ (m:List (Nat × Option Nat × Blk)),(m.filterMap (·.2.1)).Nodup→keyOf m k1=some k→keyOf m k2=some k→k1=k2:=by
   intro m hn h1 h2
   have hmem:∀ (m:List (Nat × Option Nat × Blk)) j,keyOf m j=some k→k ∈ m.filterMap (·.2.1):=by
    intro m j hj
    induction m with
    | nil=>cases hj
    | cons p m ih =>
     obtain ⟨k',o,K⟩:=p
     simp only [keyOf] at hj
     split at hj
     ·subst hj;simp
     ·have:=ih hj
      cases o <;> simp [this]
   induction m with
   | nil=>cases h1
   | cons p m ih =>
    obtain ⟨k',o,K⟩:=p
    simp only [keyOf] at h1 h2
    by_cases e1:k1=k' <;> by_cases e2:k2=k'
    ·rw [e1,e2]
    ·rw [if_pos e1] at h1;rw [if_neg e2] at h2
     subst h1
     simp only [List.filterMap_cons] at hn
     exact absurd (hmem m k2 h2) (List.nodup_cons.1 hn).1
    ·rw [if_neg e1] at h1;rw [if_pos e2] at h2
     subst h2
     simp only [List.filterMap_cons] at hn
     exact absurd (hmem m k1 h1) (List.nodup_cons.1 hn).1
    ·rw [if_neg e1] at h1;rw [if_neg e2] at h2
     refine ih ?_ h1 h2
     cases o with
     | none=>simpa using hn
     | some q=>simp only [List.filterMap_cons] at hn;exact (List.nodup_cons.1 hn).2
  exact key m hd' h1 h2
 ·intro k'
  rcases hst m hd k' with ⟨h,_⟩ | ⟨p,h1,h2,h3,h4⟩
  ·exact .inl h
  ·refine .inr ⟨p.2.2,h3,?_⟩
   have:=hm p h1
   rw [h4]
   split at this
   ·rename_i k hk
    obtain ⟨K,g1,g2⟩:=this
    exact .inl ⟨k,K,hk,g1,g2⟩
   ·rename_i hk
    exact .inr ⟨hk,this⟩
 ·intro k' k hk
  rcases hst m hd k' with ⟨_,h⟩ | ⟨p,h1,h2,h3,h4⟩
  ·rw [h] at hk;cases hk
  ·rw [h3];simp
 ·intro n hn0
  rw [upd_other _ _ _ _ hn0]
  clear hm
  induction l with
  | nil=>exact .undef _
  | cons p l ih =>
   obtain ⟨k,v⟩:=p
   simp only [envOf]
   by_cases hn:n=k
   ·subst hn;rw [upd_same];exact hl (n,v) (by simp)
   ·rw [upd_other _ _ _ _ hn];exact ih fun p hp=>hl p (by simp [hp])
theorem weakXK {l:List (Nat × AV)} {L:List (Nat × Blk)} (ks:List Nat) (g:FuncId) (n0:Nat) (he:e n0=.fn g (ks.map fun k=>.ptr k 0 0)) (x:List (Nat × Option Nat)) (hks:∀ k ∈ ks,keyOf (kN x L) k=some k) (hd:((kN x L).map (·.1)).Nodup) (hd':((kN x L).filterMap (·.2.1)).Nodup)
  (h:allV (stOf L) (keyOf (kN x L)) e l∧allW s (stOf L) (keyOf (kN x L)) x L):WeakK ks (e,s) (upd (envOf l) n0 (.fn g (ks.map fun k=>.ptr k 0 0)),stOf L):=by
 have:=weak_toK (e:=e) (s:=s) ks g n0 he l (kN x L) hks hd hd' (by rw [kN_map];exact allW_all h.2) (by rw [kN_map];exact allV_all h.1)
 rw [kN_map,he] at this
 exact this
theorem WeakK.weak {ks:List Nat} {p q:Env × Store} (h:WeakK ks p q):Weak p q:=fun N B w0 ok0 ok ρ a w h0 hR=>by
 obtain ⟨ok',ρ',_,h1,h2⟩:=h.2 N B w0 ok0 ok ρ a w h0 hR
 exact ⟨ok',ρ',h1,h2⟩
end
section
variable {P:Program} {N:Nat} {Q:Exit→Env→Store→Prop} {e:Env} {s:Store}
end
end Go.Av

/- A range over SplitSeq whose rounds keep what is known of the pieces so far. By an AI agent;nothing here is trusted. -/
namespace Go.Av

def rfQI (ks:List Nat) (Q:Exit→Env→Store→Prop) (e:Env) (i:Prop) (s':Store):Exit→Env→Store→Prop:=fun ex _ s2=>match ex with
 | .normal=>i∧WeakK ks (e,s2) (e,s')
 | .ret=>Q .ret e s2
 | .exit id=>Q (.exit id) e s2
 | _=>False
theorem rfQI_n (ks:List Nat) (Q:Exit→Env→Store→Prop) (e:Env) (i:Prop) (s':Store) (e2:Env) (s2:Store):rfQI ks Q e i s' .normal e2 s2=(i∧WeakK ks (e,s2) (e,s')):=rfl
theorem rfQI_r (ks:List Nat) (Q:Exit→Env→Store→Prop) (e:Env) (i:Prop) (s':Store) (e2:Env) (s2:Store):rfQI ks Q e i s' .ret e2 s2=Q .ret e s2:=rfl
theorem rfQI_x (ks:List Nat) (Q:Exit→Env→Store→Prop) (e:Env) (i:Prop) (s':Store) (id:Nat) (e2:Env) (s2:Store):rfQI ks Q e i s' (.exit id) e2 s2=Q (.exit id) e s2:=rfl
def badU (s:Store) (k:Nat):Store:=upd s k (some (some ⟨0,0,[]⟩))
theorem not_satU {e:Env} {s:Store} {k:Nat}:¬ Sat e (badU s k):=by
 rintro ⟨N,B,w0,ok0,ok,ρ,a,w,hR⟩
 have:=(hR.live k ⟨0,0,[]⟩ (upd_same _ _ _)).1
 exact absurd this (by decide)
theorem AWM_badU {P:Program} {N:Nat} {m:MC} {Q:Exit→Env→Store→Prop} {e e':Env} {s:Store} {k:Nat}:AWM P N m Q e' (badU s k):=by
 intro c hc ro rm B w0 ok0 ok ρ a w hfl hR
 exact absurd ⟨_,_,_,_,_,_,_,_,hR⟩ (not_satU (e:=e'))
theorem WeakK.refl {ks:List Nat} {p:Env × Store} (h:∀ k ∈ ks,∃ K,p.2 k=some (some K)):WeakK ks p p:=⟨h,fun _ _ _ _ ok ρ _ _ _ hR=>⟨ok,ρ,fun _ _=>rfl,fun _ h=>h,hR⟩⟩
section
variable {P:Program} {N:Nat} {Q:Exit→Env→Store→Prop} {e:Env} {s:Store}
theorem AWM.rfCI {x:MX} {ps:List Nat} {ma mb:MC} {g:FuncId} {ty ti:TypeId} {ch:UInt8} {lst:List UInt8} {k1 k2 k3:Nat} (k0:Nat) (hk0:k1 ≠ k0∧k2 ≠ k0∧k3 ≠ k0) (hx:x.ev e=.fn g [.ptr k1 0 0,.ptr k2 0 0,.ptr k3 0 0])
  (hps:ps.length=1) (hfa:ma.flat=true) (hfb:mb.flat=true) (hit:IterC P g ty ti ch) (hlen:lst.length≤1000000) (I:List (List UInt8)→Prop) (hI:I []) (st:List (List UInt8)→List UInt8→Store)
  (hst:∀ pre r,st pre r k1=some (some ⟨ty,1,[.str [ch]]⟩)∧st pre r k2=some (some ⟨ty,1,[.str r]⟩)∧st pre r k3=some (some ⟨ti,1,[.int .i64 0]⟩)) (hst2:∀ pre r r',upd (st pre r) k2 (some (some ⟨ty,1,[.str r']⟩))=st pre r')
  (h0:s=st [] lst)
  (hround:∀ (pre:List (List UInt8)) (x:List UInt8) (rest:List (List UInt8)) (r:List UInt8),pre ++ x :: rest=Lin.cut ch lst→I pre →
   AWM P N ma (fun ex e1 s1=>ex=.normal∧AWM P N mb (rfQI [k1,k2,k3] Q e (I (pre ++ [x])) (st (pre ++ [x]) r)) e1 s1) (updL e ps [.str x]) (st pre r))
  (hend:∀ r,I (Lin.cut ch lst)→Q .normal e (st (Lin.cut ch lst) r)):AWM P N (.rf x ps ma mb) Q e s:=by
 classical
 subst h0
 refine AWM.rfC hx (hst [] lst) hps hfa hfb hit hlen (fun pre r=>if I pre then st pre r else badU (st pre r) k0) (fun pre r=>?_) (fun pre r r'=>?_) ?_ (fun pre x rest r hsp=>?_) (fun r hsat=>?_)
 ·obtain ⟨a1,a2,a3⟩:=hst pre r
  split
  ·exact ⟨a1,a2,a3⟩
  ·unfold badU
   rw [upd_other _ _ _ _ hk0.1,upd_other _ _ _ _ hk0.2.1,upd_other _ _ _ _ hk0.2.2]
   exact ⟨a1,a2,a3⟩
 ·split
  ·exact hst2 pre r r'
  ·unfold badU
   rw [← hst2 pre r r']
   funext k
   simp only [upd_app]
   by_cases h1:k=k2
   ·subst h1;rw [if_pos rfl,if_neg hk0.2.1,if_pos rfl]
   ·rw [if_neg h1]
    by_cases h2:k=k0
    ·rw [if_pos h2,if_pos h2]
    ·rw [if_neg h2,if_neg h2,if_neg h1]
 ·simp only [hI,if_true]
  refine WeakK.refl fun k hk=>?_
  obtain ⟨a1,a2,a3⟩:=hst [] lst
  simp only [List.mem_cons,List.not_mem_nil,or_false] at hk
  rcases hk with rfl | rfl | rfl
  ·exact ⟨_,a1⟩
  ·exact ⟨_,a2⟩
  ·exact ⟨_,a3⟩
 ·by_cases hp:I pre
  ·simp only [hp,if_true]
   refine (hround pre x rest r hsp hp).mono fun ex e1 s1 ⟨h1,h2⟩=>⟨h1,h2.mono fun ex e2 s2 h=>?_⟩
   cases ex with
   | normal =>
    obtain ⟨g1,g2⟩:=h
    show WeakK _ _ _
    simp only [g1,if_true]
    exact g2
   | ret=>exact h
   | exit id=>exact h
   | _=>exact h.elim
  ·simp only [hp,if_false]
   exact AWM_badU (e:=e)
 ·by_cases hp:I (Lin.cut ch lst)
  ·simp only [hp,if_true]
   exact hend r hp
  ·simp only [hp,if_false] at hsat
   exact absurd hsat not_satU
theorem W_rfCI {x:MX} {ps:List Nat} {ma mb:MC} {g:FuncId} {ty ti:TypeId} {ch:UInt8} {lst:List UInt8} {k1 k2 k3:Nat} {tt} (k0:Nat) (hk0:k1 ≠ k0∧k2 ≠ k0∧k3 ≠ k0) (hx:x.ev e=.fn g [.ptr k1 0 0,.ptr k2 0 0,.ptr k3 0 0])
  (hps:ps.length=1) (hfa:ma.flat=true) (hfb:mb.flat=true) (hit:IterC P g ty ti ch) (hlen:lst.length≤1000000) (I:List (List UInt8)→Prop) (hI:I []) (st:List (List UInt8)→List UInt8→Store)
  (hst:∀ pre r,st pre r k1=some (some ⟨ty,1,[.str [ch]]⟩)∧st pre r k2=some (some ⟨ty,1,[.str r]⟩)∧st pre r k3=some (some ⟨ti,1,[.int .i64 0]⟩)) (hst2:∀ pre r r',upd (st pre r) k2 (some (some ⟨ty,1,[.str r']⟩))=st pre r')
  (h0:s=st [] lst)
  (hround:∀ (pre:List (List UInt8)) (x:List UInt8) (rest:List (List UInt8)) (r:List UInt8),pre ++ x :: rest=Lin.cut ch lst→I pre →
   W P N ma (fun ex e1 s1=>ex=.normal∧W P N mb (rfQI [k1,k2,k3] Q e (I (pre ++ [x])) (st (pre ++ [x]) r)) e1 s1 .mk) (updL e ps [.str x]) (st pre r) .mk)
  (hend:∀ r,I (Lin.cut ch lst)→Q .normal e (st (Lin.cut ch lst) r)):W P N (.rf x ps ma mb) Q e s tt :=
 AWM.rfCI k0 hk0 hx hps hfa hfb hit hlen I hI st hst hst2 h0 (fun pre x rest r h h'=>(W_sound (hround pre x rest r h h')).mono fun ex e1 s1 ⟨h1,h2⟩=>⟨h1,W_sound h2⟩) hend
end
end Go.Av

/- Off the library's shelf: the laying of strings.TrimPrefix. Printed by lays.py. By an AI agent;nothing here is trusted. -/
namespace Go.Proofs.YtpaklfjlbocfcaaGreatDoor
def tpRen:Go.Shelf.Ren:=⟨fun x=>match x with | 101=>158 | 206=>221 | 208=>200 | n=>n,fun x=>match x with | 3=>3 | 4=>4 | 9=>9 | n=>n,fun x=>x⟩
set_option maxRecDepth 100000 in
theorem tp_f101:Tryz.prog.funcs[tpRen.f 101]?=some (Go.Proofs.Body.n101 tpRen):=by kernel_rfl
set_option maxRecDepth 100000 in
theorem tp_f206:Tryz.prog.funcs[tpRen.f 206]?=some (Go.Proofs.Body.n206 tpRen):=by kernel_rfl
set_option maxRecDepth 100000 in
theorem tp_f208:Tryz.prog.funcs[tpRen.f 208]?=some (Go.Proofs.Body.n208 tpRen):=by kernel_rfl
theorem tp_n101:Go.Proofs.Lays.n101 Tryz.prog tpRen :=
 {mixed:=by kernel_rfl,
  f101:=tp_f101,
  f206:=tp_f206,
  f208:=tp_f208,
  t3:=Tryz.underlying3,
  a3:=Tryz.isAgg3,
  z3:=Tryz.sizeOf3,
  v3:=Tryz.zeroValue3,
  t4:=Tryz.underlying4,
  a4:=Tryz.isAgg4,
  z4:=Tryz.sizeOf4,
  v4:=Tryz.zeroValue4,
  t9:=Tryz.underlying9,
  a9:=Tryz.isAgg9,
  z9:=Tryz.sizeOf9,
  v9:=Tryz.zeroValue9 }
end Go.Proofs.YtpaklfjlbocfcaaGreatDoor

/- Contracts off the shelf: strings.TrimPrefix. By an AI agent;nothing here is trusted. -/
namespace Go.Proofs.YtpaklfjlbocfcaaGreatDoor
open Go.Av
open Go.RowKit (Below)

theorem TrimPrefix_s (s p:List UInt8):Sound Tryz.prog 158 [.str s,.str p] (.str (Lib.trimPrefix s p)):=by
 intro w ok cargs hok hG hlen hargs
 rw [args_2 (by simpa using hlen) (vr_str (hargs 0 _ rfl)) (vr_str (hargs 1 _ rfl))]
 refine .inr ⟨callFunc_enter Tryz.func158 (by kernel_rfl) rfl _,?_⟩
 exact (Any.strings_TrimPrefix tp_n101 ⟨s.toArray⟩ ⟨p.toArray⟩ w).mono fun e w' ⟨he,hw⟩=>⟨_,he,hw ▸ Below.refl _ _,.str _ _ (by simp)⟩
end Go.Proofs.YtpaklfjlbocfcaaGreatDoor

/- Contracts: numbers of pulses as words,and back. By an AI agent;nothing here is trusted. -/
namespace Go.Proofs.YtpaklfjlbocfcaaGreatDoor
open Go.Av

theorem format_s (l:List Int) (hl:∀ n ∈ l,I64 n) (hn:l.length≤100000):Sound Tryz.prog 90 [.sl (ints l)] (.str (Lib.join (l.map Lib.itoa) [32])):=by
 refine sound_W f_pulse_format (Nat.le_of_ble_eq_true rfl) ?_
 have hmax:=maxLen_str
 have hJ:=Join_s (l.map Lib.itoa) [32] (by simpa using Nat.le_trans hn (by decide)) (by
  refine Nat.le_trans (join_le 32 20 _ fun w hw=>?_) (by simp;omega)
  obtain ⟨n,hn,rfl⟩:=List.mem_map.1 hw
  exact itoa_le (hl n hn))
 change Sound _ _ [.sl (strs (l.map Lib.itoa)),_] _ at hJ
 simp only [c_pulse_format,vZ,Int.reduceEq,Int.reduceNe,Int.reduceLT,Int.reduceLE,Nat.reduceEqDiff,Nat.reduceAdd,reduceIte,reduceCtorEq,Nat.reduceLT,Nat.reduceLeDiff,Nat.reduceShiftRight,Nat.reduceMod]
 refine W_loop (t:=.mk) (α:=PSigma fun i:Nat=>i≤l.length) (fun ⟨i,_⟩=>(envOf [(3,.buf 100 i),(6,.sl (ints l)),(7,.int .i64 l.length),(8,.int .i64 i)],stOf [(100,⟨9,1,strs ((l.take i).map Lib.itoa)⟩)])) (fun p=>l.length - p.1) ⟨0,Nat.zero_le _⟩ ?_ (fun ⟨i,hi⟩=>?_)
 ·refine weakX [(100,none)] (of_decide_eq_true rfl) (of_decide_eq_true rfl) ?_
  (simp only [vcW,vZ,Int.reduceEq,Int.reduceNe,Int.reduceLT,Int.reduceLE,Nat.reduceEqDiff,Nat.reduceAdd,reduceIte,reduceCtorEq,Nat.reduceLT,Nat.reduceLeDiff,Nat.reduceShiftRight,Nat.reduceMod])
  (repeat' first | exact trivial | (with_reducible first | exact RnB.fxB (ints_fxB _) | rfl | refine And.intro ?_ ?_) | (with_reducible (first | refine RnB.bb ?_ | refine RnB.nb ?_);simp only [vcW,vZ,Int.reduceEq,Int.reduceNe,Int.reduceLT,Int.reduceLE,Nat.reduceEqDiff,Nat.reduceAdd,reduceIte,reduceCtorEq,Nat.reduceLT,Nat.reduceLeDiff,Nat.reduceShiftRight,Nat.reduceMod]) | (with_reducible first | refine RnB.ii ?_ | refine RnB.app ?_) | (with_reducible refine RnB.fxB ?_;simp only [vcW,vZ,Int.reduceEq,Int.reduceNe,Int.reduceLT,Int.reduceLE,Nat.reduceEqDiff,Nat.reduceAdd,reduceIte,reduceCtorEq,Nat.reduceLT,Nat.reduceLeDiff,Nat.reduceShiftRight,Nat.reduceMod]) | omega)
  all_goals first | rfl | trace_state
 ·dsimp only at hi ⊢
  have hlen:(strs ((l.take i).map Lib.itoa)).length=i:=by rw [strs_length,List.length_map,List.length_take];omega
  by_cases h':i<l.length
  ·have hc1:(i:Int)<l.length:=by omega
   have hg:=ints_get l i h'
   have ht:strs ((l.take (i+1)).map Lib.itoa)=strs ((l.take i).map Lib.itoa) ++ [.str (Lib.itoa l[i])]:=by rw [List.take_succ_eq_append_getElem h',List.map_append,strs_append];rfl
   simp only [hc1,hg,vZ,Int.reduceEq,Int.reduceNe,Int.reduceLT,Int.reduceLE,Nat.reduceEqDiff,Nat.reduceAdd,reduceIte,reduceCtorEq,Nat.reduceLT,Nat.reduceLeDiff,Nat.reduceShiftRight,Nat.reduceMod]
   refine ⟨by omega,callS_of (Itoa_s _ (hl _ (List.getElem_mem h'))) ?_⟩
   simp only [hlen,vZ,Int.reduceEq,Int.reduceNe,Int.reduceLT,Int.reduceLE,Nat.reduceEqDiff,Nat.reduceAdd,reduceIte,reduceCtorEq,Nat.reduceLT,Nat.reduceLeDiff,Nat.reduceShiftRight,Nat.reduceMod]
   refine ⟨⟨by omega,by omega⟩,by unfold I64;omega,⟨i+1,h'⟩,by (try simp only);omega,?_⟩
   rw [ht]
   refine weakX [(100,some 16)] (of_decide_eq_true rfl) (of_decide_eq_true rfl) ?_
   (simp only [vcW,vZ,Int.reduceEq,Int.reduceNe,Int.reduceLT,Int.reduceLE,Nat.reduceEqDiff,Nat.reduceAdd,reduceIte,reduceCtorEq,Nat.reduceLT,Nat.reduceLeDiff,Nat.reduceShiftRight,Nat.reduceMod])
   (repeat' first | exact trivial | (with_reducible first | exact RnB.fxB (ints_fxB _) | rfl | refine And.intro ?_ ?_) | (with_reducible (first | refine RnB.bb ?_ | refine RnB.nb ?_);simp only [vcW,vZ,Int.reduceEq,Int.reduceNe,Int.reduceLT,Int.reduceLE,Nat.reduceEqDiff,Nat.reduceAdd,reduceIte,reduceCtorEq,Nat.reduceLT,Nat.reduceLeDiff,Nat.reduceShiftRight,Nat.reduceMod]) | (with_reducible first | refine RnB.ii ?_ | refine RnB.app ?_) | (with_reducible refine RnB.fxB ?_;simp only [vcW,vZ,Int.reduceEq,Int.reduceNe,Int.reduceLT,Int.reduceLE,Nat.reduceEqDiff,Nat.reduceAdd,reduceIte,reduceCtorEq,Nat.reduceLT,Nat.reduceLeDiff,Nat.reduceShiftRight,Nat.reduceMod]) | omega)
   all_goals first | rfl | exact RnB.fxB (by rw [List.all_append,strs_fxB];rfl) | trace_state
  ·have hil:i=l.length:=by omega
   subst hil
   have hc1:¬ (l.length:Int)<l.length:=by omega
   rw [List.take_length] at *
   simp only [hc1,vZ,Int.reduceEq,Int.reduceNe,Int.reduceLT,Int.reduceLE,Nat.reduceEqDiff,Nat.reduceAdd,reduceIte,reduceCtorEq,Nat.reduceLT,Nat.reduceLeDiff,Nat.reduceShiftRight,Nat.reduceMod]
   rw [borB_good _ _ _ _ _ hlen.symm (strs_fx _)]
   refine callS_of hJ ?_
   simp only [vZ,Int.reduceEq,Int.reduceNe,Int.reduceLT,Int.reduceLE,Nat.reduceEqDiff,Nat.reduceAdd,reduceIte,reduceCtorEq,Nat.reduceLT,Nat.reduceLeDiff,Nat.reduceShiftRight,Nat.reduceMod]
def ppN (s:List UInt8) (k:Nat) (neg:Bool):List Int × Int:=if 60000<s.length then ([],8) else match Lin.nums neg k (Lin.cut 32 s) with
 | some l=>(l,0)
 | none=>([],7)
def ppV (s:List UInt8) (k:Nat) (neg:Bool):AV:=.tup [.sl (ints (ppN s k neg).1),.int .i64 (ppN s k neg).2]
def ppL (k:Nat) (neg:Bool) (pre:List (List UInt8)):List Int:=(Lin.nums neg k pre).getD []
def ppS (k:Nat) (neg:Bool) (pre:List (List UInt8)) (r:List UInt8):Store:=stOf [(4,⟨3,1,[.int .i64 k]⟩),(5,⟨4,1,[.bool neg]⟩),(6,⟨45,1,[.nils]⟩),(7,⟨32,1,[.int .i64 0]⟩),(8,⟨45,1,[.buf 100 (ppL k neg pre).length]⟩),(100,⟨3,1,ints (ppL k neg pre)⟩),
 (200,⟨9,1,[.str [32]]⟩),(201,⟨9,1,[.str r]⟩),(202,⟨3,1,[.int .i64 0]⟩)]
def ppE:Env:=upd (envOf [(4,.ptr 4 0 0),(5,.ptr 5 0 0),(6,.ptr 6 0 0),(7,.ptr 7 0 0),(8,.ptr 8 0 0)]) 16 (.fn 196 ([200,201,202].map fun k=>.ptr k 0 0))
theorem numU_none {neg:Bool} {k:Nat} {x:List UInt8} (hk:k≤18) (h:∀ n,Lib.atoiAll x=.ok n→(neg=true∨0≤n)→Lib.itoa n=x→k<(Lib.decDigits n.natAbs).length):Lin.numU neg k x=none:=by
 cases hu:Lin.numU neg k x with
 | none=>rfl
 | some n =>
  obtain ⟨g1,g2,g3,g4⟩:=(Lin.numU_atoi hk).1 hu
  have:=h n g1 g2 g3
  omega
set_option maxHeartbeats 1000000 in
theorem pparse_s (s:List UInt8) (k:Nat) (neg:Bool) (hk:k≤18) (hs:s.length≤100000):Sound Tryz.prog 91 [.str s,.int .i64 k,.bool neg] (ppV s k neg):=by
 refine sound_W f_pulse_parse (Nat.le_of_ble_eq_true rfl) ?_
 have hmax:=maxLen_str
 have hsc:scal1 AV.ifc=true:=rfl
 have hsn:scal1 AV.nili=true:=rfl
 have hnum:=Lin.cut_num 32 s
 by_cases hbig:60000<s.length
 ·have hb:(60000:Int)<s.length:=by omega
  have hv:ppV s k neg=.tup [.sl [],.int .i64 8]:=by unfold ppV ppN;rw [if_pos hbig];rfl
  simp only [c_pulse_parse,hb,hv,vZ,Int.reduceEq,Int.reduceNe,Int.reduceLT,Int.reduceLE,Nat.reduceEqDiff,Nat.reduceAdd,reduceIte,reduceCtorEq,Nat.reduceLT,Nat.reduceLeDiff,Nat.reduceShiftRight,Nat.reduceMod]
 have hb:¬ (60000:Int)<s.length:=by omega
 simp only [c_pulse_parse,hb,vZ,Int.reduceEq,Int.reduceNe,Int.reduceLT,Int.reduceLE,Nat.reduceEqDiff,Nat.reduceAdd,reduceIte,reduceCtorEq,Nat.reduceLT,Nat.reduceLeDiff,Nat.reduceShiftRight,Nat.reduceMod]
 refine callS_clo [200,201,202] (SplitSeq_s 32 s) rfl (of_decide_eq_true rfl) (by intro k hk;simp at hk;rcases hk with rfl | rfl | rfl <;> rfl) ?_
 simp only [vZ,Int.reduceEq,Int.reduceNe,Int.reduceLT,Int.reduceLE,Nat.reduceEqDiff,Nat.reduceAdd,reduceIte,reduceCtorEq,Nat.reduceLT,Nat.reduceLeDiff,Nat.reduceShiftRight,Nat.reduceMod]
 refine W_weakR (t:=.mk) (ppE,ppS k neg [] s) ?_ ?_
 ·refine (weakXK [200,201,202] 196 16 rfl [(100,none)] (by intro k hk;simp at hk;rcases hk with rfl | rfl | rfl <;> rfl) (of_decide_eq_true rfl) (of_decide_eq_true rfl) ?_).weak
  (simp only [ppL,Lin.nums,addK,vcW,vZ,Int.reduceEq,Int.reduceNe,Int.reduceLT,Int.reduceLE,Nat.reduceEqDiff,Nat.reduceAdd,reduceIte,reduceCtorEq,Nat.reduceLT,Nat.reduceLeDiff,Nat.reduceShiftRight,Nat.reduceMod])
  repeat' first | exact RnB.one (.imm AV.nils rfl) rfl rfl rfl | (with_reducible refine And.intro ?_ ?_)
  all_goals (repeat' first | exact trivial | (with_reducible first | exact RnB.fxB (ints_fxB _) | rfl | refine And.intro ?_ ?_) | (with_reducible (first | refine RnB.bb ?_ | refine RnB.nb ?_);simp only [vcW,vZ,Int.reduceEq,Int.reduceNe,Int.reduceLT,Int.reduceLE,Nat.reduceEqDiff,Nat.reduceAdd,reduceIte,reduceCtorEq,Nat.reduceLT,Nat.reduceLeDiff,Nat.reduceShiftRight,Nat.reduceMod]) | (with_reducible first | refine RnB.ii ?_ | refine RnB.app ?_) | (with_reducible refine RnB.fxB ?_;simp only [vcW,vZ,Int.reduceEq,Int.reduceNe,Int.reduceLT,Int.reduceLE,Nat.reduceEqDiff,Nat.reduceAdd,reduceIte,reduceCtorEq,Nat.reduceLT,Nat.reduceLeDiff,Nat.reduceShiftRight,Nat.reduceMod]) | omega)
 ·refine W_rfCI (tt:=.mk) (k1:=200) (k2:=201) (k3:=202) 999 ⟨by decide,by decide,by decide⟩ rfl rfl rfl rfl (splitC 32) (by omega) (fun pre=>∃ l,Lin.nums neg k pre=some l) ⟨[],rfl⟩ (ppS k neg) (fun pre r=>⟨rfl,rfl,rfl⟩) (fun pre r r'=>?_) rfl (fun pre x rest r hsp hI=>?_) (fun r hI=>?_)
  ·funext j
   unfold ppS
   by_cases h:j=201
   ·subst h;simp [stOf,upd_app]
   ·simp only [stOf,upd_app,h,if_false]
  ·obtain ⟨l,hI⟩:=hI
   have hL:ppL k neg pre=l:=by unfold ppL;rw [hI];rfl
   have hxm:x ∈ Lin.cut 32 s:=by rw [← hsp];simp
   have hxl:=Lin.cut_len x hxm
   have hll:=Lin.nums_len hI
   have hpl:pre.length≤(Lin.cut 32 s).length:=by rw [← hsp];simp
   have hno:Lin.numU neg k x=none→ppV s k neg=.tup [.sl [],.int .i64 7]:=fun h=>by
    have:Lin.nums neg k (Lin.cut 32 s)=none:=by rw [← hsp,Lin.nums_none h]
    unfold ppV ppN;rw [if_neg hbig,this];rfl
   simp only [ppE,ppS,hL,vZ,Int.reduceEq,Int.reduceNe,Int.reduceLT,Int.reduceLE,Nat.reduceEqDiff,Nat.reduceAdd,reduceIte,reduceCtorEq,Nat.reduceLT,Nat.reduceLeDiff,Nat.reduceShiftRight,Nat.reduceMod]
   refine callS_of (Atoi_s x (by omega)) ?_
   unfold atoiV
   cases ha:Lib.atoiAll x with
   | ok v =>
    have hv:=Lib.atoiAll_bounds ha
    by_cases hvn:v<0∧neg=false
    ·obtain ⟨hv0,rfl⟩:=hvn
     have hn:Lin.numU false k x=none:=numU_none hk fun n g1 g2 _=>by rw [ha] at g1;cases g1;simp at g2;omega
     rw [hno hn]
     simp only [rfQI_n,rfQI_r,rfQI_x,hsc,hsn,hv0,vZ,Int.reduceEq,Int.reduceNe,Int.reduceLT,Int.reduceLE,Nat.reduceEqDiff,Nat.reduceAdd,reduceIte,reduceCtorEq,Nat.reduceLT,Nat.reduceLeDiff,Nat.reduceShiftRight,Nat.reduceMod]
    have hTP:=TrimPrefix_s x [45]
    by_cases hi:Lib.itoa v=x
    ·have htr:Lib.trimPrefix x [45]=Lib.decDigits v.natAbs:=by rw [← hi];exact Lin.itoa_trim v
     rw [htr] at hTP
     by_cases hl7:(Lib.decDigits v.natAbs).length≤k
     ·have hn:Lin.numU neg k x=some v:=(Lin.numU_atoi hk).2 ⟨ha,by cases neg <;> simp at hvn ⊢;omega,hi,hl7⟩
      have hc:¬ (k:Int)<(Lib.decDigits v.natAbs).length:=by omega
      have hnext:=Lin.nums_snoc hI hn
      have hL2:ppL k neg (pre ++ [x])=l ++ [v]:=by unfold ppL;rw [hnext];rfl
      by_cases hv0:v<0
      ·obtain rfl:neg=true:=by cases neg <;> simp_all
       simp only [rfQI_n,rfQI_r,rfQI_x,hsc,hsn,hv0,vZ,Int.reduceEq,Int.reduceNe,Int.reduceLT,Int.reduceLE,Nat.reduceEqDiff,Nat.reduceAdd,reduceIte,reduceCtorEq,Nat.reduceLT,Nat.reduceLeDiff,Nat.reduceShiftRight,Nat.reduceMod]
       refine callS_of (Itoa_s v hv) ?_
       simp only [rfQI_n,rfQI_r,rfQI_x,hsc,hsn,hi,vZ,Int.reduceEq,Int.reduceNe,Int.reduceLT,Int.reduceLE,Nat.reduceEqDiff,Nat.reduceAdd,reduceIte,reduceCtorEq,Nat.reduceLT,Nat.reduceLeDiff,Nat.reduceShiftRight,Nat.reduceMod]
       refine callS_of hTP ?_
       simp only [rfQI_n,rfQI_r,rfQI_x,hsc,hsn,hc,vZ,Int.reduceEq,Int.reduceNe,Int.reduceLT,Int.reduceLE,Nat.reduceEqDiff,Nat.reduceAdd,reduceIte,reduceCtorEq,Nat.reduceLT,Nat.reduceLeDiff,Nat.reduceShiftRight,Nat.reduceMod]
       refine ⟨⟨by omega,by omega⟩,⟨_,hnext⟩,?_⟩
       rw [hL2,show (l ++ [v]).length=l.length+1 by simp,ints_append]
       refine weakXK [200,201,202] 196 16 rfl [(100,some 49)] (by intro k hk;simp at hk;rcases hk with rfl | rfl | rfl <;> rfl) (of_decide_eq_true rfl) (of_decide_eq_true rfl) ?_
       (simp only [vcW,vZ,Int.reduceEq,Int.reduceNe,Int.reduceLT,Int.reduceLE,Nat.reduceEqDiff,Nat.reduceAdd,reduceIte,reduceCtorEq,Nat.reduceLT,Nat.reduceLeDiff,Nat.reduceShiftRight,Nat.reduceMod])
       repeat' first | exact RnB.one (.imm AV.nils rfl) rfl rfl rfl | (with_reducible refine And.intro ?_ ?_)
       all_goals (repeat' first | exact trivial | (with_reducible first | exact RnB.fxB (ints_fxB _) | rfl | refine And.intro ?_ ?_) | (with_reducible (first | refine RnB.bb ?_ | refine RnB.nb ?_);simp only [vcW,vZ,Int.reduceEq,Int.reduceNe,Int.reduceLT,Int.reduceLE,Nat.reduceEqDiff,Nat.reduceAdd,reduceIte,reduceCtorEq,Nat.reduceLT,Nat.reduceLeDiff,Nat.reduceShiftRight,Nat.reduceMod]) | (with_reducible first | refine RnB.ii ?_ | refine RnB.app ?_) | (with_reducible refine RnB.fxB ?_;simp only [vcW,vZ,Int.reduceEq,Int.reduceNe,Int.reduceLT,Int.reduceLE,Nat.reduceEqDiff,Nat.reduceAdd,reduceIte,reduceCtorEq,Nat.reduceLT,Nat.reduceLeDiff,Nat.reduceShiftRight,Nat.reduceMod]) | omega)
       all_goals first | exact (ints_append _ _).symm | trace_state
      ·cases neg
       all_goals
        simp only [rfQI_n,rfQI_r,rfQI_x,hsc,hsn,hv0,vZ,Int.reduceEq,Int.reduceNe,Int.reduceLT,Int.reduceLE,Nat.reduceEqDiff,Nat.reduceAdd,reduceIte,reduceCtorEq,Nat.reduceLT,Nat.reduceLeDiff,Nat.reduceShiftRight,Nat.reduceMod]
        refine callS_of (Itoa_s v hv) ?_
        simp only [rfQI_n,rfQI_r,rfQI_x,hsc,hsn,hi,vZ,Int.reduceEq,Int.reduceNe,Int.reduceLT,Int.reduceLE,Nat.reduceEqDiff,Nat.reduceAdd,reduceIte,reduceCtorEq,Nat.reduceLT,Nat.reduceLeDiff,Nat.reduceShiftRight,Nat.reduceMod]
        refine callS_of hTP ?_
        simp only [rfQI_n,rfQI_r,rfQI_x,hsc,hsn,hc,vZ,Int.reduceEq,Int.reduceNe,Int.reduceLT,Int.reduceLE,Nat.reduceEqDiff,Nat.reduceAdd,reduceIte,reduceCtorEq,Nat.reduceLT,Nat.reduceLeDiff,Nat.reduceShiftRight,Nat.reduceMod]
        refine ⟨⟨by omega,by omega⟩,⟨_,hnext⟩,?_⟩
        rw [hL2,show (l ++ [v]).length=l.length+1 by simp,ints_append]
        refine weakXK [200,201,202] 196 16 rfl [(100,some 49)] (by intro k hk;simp at hk;rcases hk with rfl | rfl | rfl <;> rfl) (of_decide_eq_true rfl) (of_decide_eq_true rfl) ?_
        (simp only [vcW,vZ,Int.reduceEq,Int.reduceNe,Int.reduceLT,Int.reduceLE,Nat.reduceEqDiff,Nat.reduceAdd,reduceIte,reduceCtorEq,Nat.reduceLT,Nat.reduceLeDiff,Nat.reduceShiftRight,Nat.reduceMod])
        repeat' first | exact RnB.one (.imm AV.nils rfl) rfl rfl rfl | (with_reducible refine And.intro ?_ ?_)
        all_goals (repeat' first | exact trivial | (with_reducible first | exact RnB.fxB (ints_fxB _) | rfl | refine And.intro ?_ ?_) | (with_reducible (first | refine RnB.bb ?_ | refine RnB.nb ?_);simp only [vcW,vZ,Int.reduceEq,Int.reduceNe,Int.reduceLT,Int.reduceLE,Nat.reduceEqDiff,Nat.reduceAdd,reduceIte,reduceCtorEq,Nat.reduceLT,Nat.reduceLeDiff,Nat.reduceShiftRight,Nat.reduceMod]) | (with_reducible first | refine RnB.ii ?_ | refine RnB.app ?_) | (with_reducible refine RnB.fxB ?_;simp only [vcW,vZ,Int.reduceEq,Int.reduceNe,Int.reduceLT,Int.reduceLE,Nat.reduceEqDiff,Nat.reduceAdd,reduceIte,reduceCtorEq,Nat.reduceLT,Nat.reduceLeDiff,Nat.reduceShiftRight,Nat.reduceMod]) | omega)
        all_goals first | exact (ints_append _ _).symm | trace_state
     ·have hn:Lin.numU neg k x=none:=numU_none hk fun n g1 g2 g3=>by rw [ha] at g1;cases g1;omega
      have hc:(k:Int)<(Lib.decDigits v.natAbs).length:=by omega
      rw [hno hn]
      by_cases hv0:v<0
      ·obtain rfl:neg=true:=by cases neg <;> simp_all
       simp only [rfQI_n,rfQI_r,rfQI_x,hsc,hsn,hv0,vZ,Int.reduceEq,Int.reduceNe,Int.reduceLT,Int.reduceLE,Nat.reduceEqDiff,Nat.reduceAdd,reduceIte,reduceCtorEq,Nat.reduceLT,Nat.reduceLeDiff,Nat.reduceShiftRight,Nat.reduceMod]
       refine callS_of (Itoa_s v hv) ?_
       simp only [rfQI_n,rfQI_r,rfQI_x,hsc,hsn,hi,vZ,Int.reduceEq,Int.reduceNe,Int.reduceLT,Int.reduceLE,Nat.reduceEqDiff,Nat.reduceAdd,reduceIte,reduceCtorEq,Nat.reduceLT,Nat.reduceLeDiff,Nat.reduceShiftRight,Nat.reduceMod]
       refine callS_of hTP ?_
       simp only [rfQI_n,rfQI_r,rfQI_x,hsc,hsn,hc,vZ,Int.reduceEq,Int.reduceNe,Int.reduceLT,Int.reduceLE,Nat.reduceEqDiff,Nat.reduceAdd,reduceIte,reduceCtorEq,Nat.reduceLT,Nat.reduceLeDiff,Nat.reduceShiftRight,Nat.reduceMod]
      ·cases neg
       all_goals
        simp only [rfQI_n,rfQI_r,rfQI_x,hsc,hsn,hv0,vZ,Int.reduceEq,Int.reduceNe,Int.reduceLT,Int.reduceLE,Nat.reduceEqDiff,Nat.reduceAdd,reduceIte,reduceCtorEq,Nat.reduceLT,Nat.reduceLeDiff,Nat.reduceShiftRight,Nat.reduceMod]
        refine callS_of (Itoa_s v hv) ?_
        simp only [rfQI_n,rfQI_r,rfQI_x,hsc,hsn,hi,vZ,Int.reduceEq,Int.reduceNe,Int.reduceLT,Int.reduceLE,Nat.reduceEqDiff,Nat.reduceAdd,reduceIte,reduceCtorEq,Nat.reduceLT,Nat.reduceLeDiff,Nat.reduceShiftRight,Nat.reduceMod]
        refine callS_of hTP ?_
        simp only [rfQI_n,rfQI_r,rfQI_x,hsc,hsn,hc,vZ,Int.reduceEq,Int.reduceNe,Int.reduceLT,Int.reduceLE,Nat.reduceEqDiff,Nat.reduceAdd,reduceIte,reduceCtorEq,Nat.reduceLT,Nat.reduceLeDiff,Nat.reduceShiftRight,Nat.reduceMod]
    ·have hn:Lin.numU neg k x=none:=numU_none hk fun n g1 g2 g3=>by rw [ha] at g1;cases g1;exact absurd g3 hi
     rw [hno hn]
     by_cases hv0:v<0
     ·obtain rfl:neg=true:=by cases neg <;> simp_all
      simp only [rfQI_n,rfQI_r,rfQI_x,hsc,hsn,hv0,vZ,Int.reduceEq,Int.reduceNe,Int.reduceLT,Int.reduceLE,Nat.reduceEqDiff,Nat.reduceAdd,reduceIte,reduceCtorEq,Nat.reduceLT,Nat.reduceLeDiff,Nat.reduceShiftRight,Nat.reduceMod]
      refine callS_of (Itoa_s v hv) ?_
      simp only [rfQI_n,rfQI_r,rfQI_x,hsc,hsn,hi,vZ,Int.reduceEq,Int.reduceNe,Int.reduceLT,Int.reduceLE,Nat.reduceEqDiff,Nat.reduceAdd,reduceIte,reduceCtorEq,Nat.reduceLT,Nat.reduceLeDiff,Nat.reduceShiftRight,Nat.reduceMod]
     ·cases neg
      all_goals
       simp only [rfQI_n,rfQI_r,rfQI_x,hsc,hsn,hv0,vZ,Int.reduceEq,Int.reduceNe,Int.reduceLT,Int.reduceLE,Nat.reduceEqDiff,Nat.reduceAdd,reduceIte,reduceCtorEq,Nat.reduceLT,Nat.reduceLeDiff,Nat.reduceShiftRight,Nat.reduceMod]
       refine callS_of (Itoa_s v hv) ?_
       simp only [rfQI_n,rfQI_r,rfQI_x,hsc,hsn,hi,vZ,Int.reduceEq,Int.reduceNe,Int.reduceLT,Int.reduceLE,Nat.reduceEqDiff,Nat.reduceAdd,reduceIte,reduceCtorEq,Nat.reduceLT,Nat.reduceLeDiff,Nat.reduceShiftRight,Nat.reduceMod]
   | _ =>
    have hn:Lin.numU neg k x=none:=numU_none hk fun n g1 _ _=>by rw [ha] at g1;cases g1
    rw [hno hn]
    simp only [rfQI_n,rfQI_r,rfQI_x,hsc,hsn,vZ,Int.reduceEq,Int.reduceNe,Int.reduceLT,Int.reduceLE,Nat.reduceEqDiff,Nat.reduceAdd,reduceIte,reduceCtorEq,Nat.reduceLT,Nat.reduceLeDiff,Nat.reduceShiftRight,Nat.reduceMod]
  ·obtain ⟨l,hI⟩:=hI
   have hL:ppL k neg (Lin.cut 32 s)=l:=by unfold ppL;rw [hI];rfl
   rw [show ppV s k neg=.tup [.sl (ints l),.int .i64 0] by unfold ppV ppN;rw [if_neg hbig,hI]]
   simp only [rfQI_n,rfQI_r,rfQI_x,hsc,hsn,ppE,ppS,hL,vZ,Int.reduceEq,Int.reduceNe,Int.reduceLT,Int.reduceLE,Nat.reduceEqDiff,Nat.reduceAdd,reduceIte,reduceCtorEq,Nat.reduceLT,Nat.reduceLeDiff,Nat.reduceShiftRight,Nat.reduceMod]
   rw [borB_good _ _ _ _ _ (by simp [ints]) (ints_fx _)]
end Go.Proofs.YtpaklfjlbocfcaaGreatDoor

/- Contracts: numerals of the base (taken out of the fits of pulses). By an AI agent;nothing here is trusted. -/
namespace Go.Proofs.YtpaklfjlbocfcaaGreatDoor
open Go.Av
theorem itoa_zero:Lib.itoa 0=[48]:=by
 unfold Lib.itoa;rw [if_neg (by omega)]
 show Lib.decDigits 0=[48]
 rw [Lib.decDigits];rfl
end Go.Proofs.YtpaklfjlbocfcaaGreatDoor

/- Contracts: the reference cuts a string at a byte. By an AI agent;nothing here is trusted. -/
namespace Go.Proofs.YtpaklfjlbocfcaaGreatDoor
open Go.Av

end Go.Proofs.YtpaklfjlbocfcaaGreatDoor

/- Contracts: the reference's numbers of words. By an AI agent;nothing here is trusted. -/
namespace Go.Proofs.YtpaklfjlbocfcaaGreatDoor
open Go.Av

end Go.Proofs.YtpaklfjlbocfcaaGreatDoor

/- Contracts: the strings of waveforms and fits. By an AI agent;nothing here is trusted. -/
namespace Go.Proofs.YtpaklfjlbocfcaaGreatDoor
open Go.Av

def numS (l:List Int):List UInt8:=Lib.join (l.map Lib.itoa) [32]
theorem numS_le {l:List Int} (hl:∀ n ∈ l,I64 n):(numS l).length≤l.length * 21:=by
 have:=join_le 32 20 (l.map Lib.itoa) fun w hw=>by
  obtain ⟨n,hn,rfl⟩:=List.mem_map.1 hw
  exact itoa_le (hl n hn)
 simpa [numS] using this
theorem FormatWave_s (l:List Int) (hl:∀ n ∈ l,I64 n) (hn:l.length≤1000):Sound Tryz.prog 23 [waveA l] (.str (numS l)):=by
 refine sound_W f_pulse_FormatWave (Nat.le_of_ble_eq_true rfl) ?_
 have hF:=format_s l hl (by omega)
 simp only [c_pulse_FormatWave,waveA,vZ,Int.reduceEq,Int.reduceNe,Int.reduceLT,Int.reduceLE,Nat.reduceEqDiff,Nat.reduceAdd,reduceIte,reduceCtorEq,Nat.reduceLT,Nat.reduceLeDiff,Nat.reduceShiftRight,Nat.reduceMod]
 refine callS_of hF ?_
 simp only [numS,vZ,Int.reduceEq,Int.reduceNe,Int.reduceLT,Int.reduceLE,Nat.reduceEqDiff,Nat.reduceAdd,reduceIte,reduceCtorEq,Nat.reduceLT,Nat.reduceLeDiff,Nat.reduceShiftRight,Nat.reduceMod]
theorem FormatFit_s (den:Int) (ch:List Int) (hd:I64 den) (hl:∀ n ∈ ch,I64 n) (hn:ch.length≤1000):Sound Tryz.prog 25 [fitA den ch] (.str (numS (den :: ch))):=by
 refine sound_W f_pulse_FormatFit (Nat.le_of_ble_eq_true rfl) ?_
 have hmax:=maxLen_str
 have hF:=format_s (den :: ch) (fun n hn=>by rcases List.mem_cons.1 hn with rfl | h;exact hd;exact hl n h) (by simp;omega)
 have hi:ints (den :: ch)=.int .i64 den :: ints ch:=rfl
 rw [hi] at hF
 simp only [c_pulse_FormatFit,fitA,vZ,Int.reduceEq,Int.reduceNe,Int.reduceLT,Int.reduceLE,Nat.reduceEqDiff,Nat.reduceAdd,reduceIte,reduceCtorEq,Nat.reduceLT,Nat.reduceLeDiff,Nat.reduceShiftRight,Nat.reduceMod]
 refine ⟨newsOk_ints ch,⟨by omega,by omega⟩,?_⟩
 rw [borB_good _ _ _ _ _ (by simp [ints_length];omega) (by intro x hx;rcases List.mem_cons.1 hx with rfl | h;rfl;exact ints_fx _ x h)]
 refine callS_of hF ?_
 simp only [numS,vZ,Int.reduceEq,Int.reduceNe,Int.reduceLT,Int.reduceLE,Nat.reduceEqDiff,Nat.reduceAdd,reduceIte,reduceCtorEq,Nat.reduceLT,Nat.reduceLeDiff,Nat.reduceShiftRight,Nat.reduceMod]
def pwE (s:List UInt8):Int:=if (ppN s 5 true).2=0 then smE (ppN s 5 true).1 else (ppN s 5 true).2
def pwL (s:List UInt8):List Int:=if pwE s=0 then (ppN s 5 true).1 else []
def pfE (s:List UInt8):Int:=if (ppN s 13 false).2=0 then fE ((ppN s 13 false).1.headD 0) (ppN s 13 false).1.tail else (ppN s 13 false).2
def pfD (s:List UInt8):Int:=if pfE s=0 then (ppN s 13 false).1.headD 0 else 0
def pfL (s:List UInt8):List Int:=if pfE s=0 then (ppN s 13 false).1.tail else []
theorem ppN_len {s:List UInt8} (hs:s.length≤100000) (k:Nat) (neg:Bool):(ppN s k neg).1.length≤100001∧((ppN s k neg).2=0→(ppN s k neg).1 ≠ []):=by
 unfold ppN
 split
 ·exact ⟨by simp,fun h=>by cases h⟩
 ·split
  ·rename_i l h
   have h1:=Lin.nums_len h
   have h2:=Lin.cut_num 32 s
   have h3:=Lin.cut_ne 32 s
   refine ⟨by simp only;omega,fun _ hl=>?_⟩
   simp only at hl
   rw [hl] at h1
   exact h3 (List.eq_nil_of_length_eq_zero (by rw [← h1];rfl))
  ·exact ⟨by simp,fun h=>by cases h⟩
theorem ParseWave_s (s:List UInt8) (hs:s.length≤100000):Sound Tryz.prog 27 [.str s] (.tup [waveA (pwL s),.int .i64 (pwE s)]):=by
 refine sound_W f_pulse_ParseWave (Nat.le_of_ble_eq_true rfl) ?_
 have hP:=pparse_s s 5 true (by decide) hs
 have hlen:=(ppN_len hs 5 true).1
 unfold ppV at hP
 unfold pwL pwE
 generalize ppN s 5 true=q at *
 obtain ⟨l,e⟩:=q
 simp only at hP hlen ⊢
 have hS:=sampled_s l (by omega)
 have h5:((5:Nat):Int)=5:=rfl
 rw [h5] at hP
 simp only [c_pulse_ParseWave,vZ,Int.reduceEq,Int.reduceNe,Int.reduceLT,Int.reduceLE,Nat.reduceEqDiff,Nat.reduceAdd,reduceIte,reduceCtorEq,Nat.reduceLT,Nat.reduceLeDiff,Nat.reduceShiftRight,Nat.reduceMod]
 refine callS_of hP ?_
 by_cases he:e=0
 ·subst he
  simp only [vZ,Int.reduceEq,Int.reduceNe,Int.reduceLT,Int.reduceLE,Nat.reduceEqDiff,Nat.reduceAdd,reduceIte,reduceCtorEq,Nat.reduceLT,Nat.reduceLeDiff,Nat.reduceShiftRight,Nat.reduceMod]
  refine callS_of hS ?_
  by_cases h2:smE l=0
  ·simp only [h2,waveA,vZ,Int.reduceEq,Int.reduceNe,Int.reduceLT,Int.reduceLE,Nat.reduceEqDiff,Nat.reduceAdd,reduceIte,reduceCtorEq,Nat.reduceLT,Nat.reduceLeDiff,Nat.reduceShiftRight,Nat.reduceMod]
  ·simp only [h2,waveA,vZ,Int.reduceEq,Int.reduceNe,Int.reduceLT,Int.reduceLE,Nat.reduceEqDiff,Nat.reduceAdd,reduceIte,reduceCtorEq,Nat.reduceLT,Nat.reduceLeDiff,Nat.reduceShiftRight,Nat.reduceMod]
   rfl
 ·simp only [he,waveA,vZ,Int.reduceEq,Int.reduceNe,Int.reduceLT,Int.reduceLE,Nat.reduceEqDiff,Nat.reduceAdd,reduceIte,reduceCtorEq,Nat.reduceLT,Nat.reduceLeDiff,Nat.reduceShiftRight,Nat.reduceMod]
  rfl
theorem tk_slice1 (g:Option (Nat × Bool)) (d:Option Nat) (b:Bool) (sz:Nat) (x lo:MX) (e:Env):tkM ⟨g,d,.slice b sz x (some lo) none⟩ e=some (refs1 (x.ev e) ++ refs1 (lo.ev e)):=by simp [tkM,tk,pureOp,xsOf,allocs]
theorem cells_ints {l:List Int}:∀ x ∈ ints l,(cellsOf x).length=1:=fun x hx=>by
 obtain ⟨n,_,rfl⟩:=List.mem_map.1 hx
 rfl
theorem drop1_ints (l:List Int):(ints l).drop 1=ints l.tail:=by cases l <;> rfl
theorem ParseFit_s (s:List UInt8) (hs:s.length≤100000):Sound Tryz.prog 28 [.str s] (.tup [fitA (pfD s) (pfL s),.int .i64 (pfE s)]):=by
 refine sound_W f_pulse_ParseFit (Nat.le_of_ble_eq_true rfl) ?_
 have hP:=pparse_s s 13 false (by decide) hs
 have hlen:=(ppN_len hs 13 false)
 unfold ppV at hP
 unfold pfL pfD pfE
 generalize ppN s 13 false=q at *
 obtain ⟨l,e⟩:=q
 simp only at hP hlen ⊢
 have hS:=fitErr_s (l.headD 0) l.tail (by simp;omega)
 unfold fitA at hS
 have h5:((13:Nat):Int)=13:=rfl
 rw [h5] at hP
 simp only [c_pulse_ParseFit,vZ,Int.reduceEq,Int.reduceNe,Int.reduceLT,Int.reduceLE,Nat.reduceEqDiff,Nat.reduceAdd,reduceIte,reduceCtorEq,Nat.reduceLT,Nat.reduceLeDiff,Nat.reduceShiftRight,Nat.reduceMod]
 refine callS_of hP ?_
 by_cases he:e=0
 ·subst he
  obtain ⟨d,ch,rfl⟩:∃ d ch,l=d :: ch:=List.exists_cons_of_ne_nil (hlen.2 rfl)
  simp only [List.headD_cons,List.tail_cons] at hS ⊢
  have h0:(ints (d :: ch))[0]?=some (.int .i64 d):=rfl
  have t0:(0:Int).toNat=0:=rfl
  have t1:(1:Int).toNat=1:=rfl
  have hd1:=drop1_ints (d :: ch)
  simp only [List.tail_cons] at hd1
  have h1l:(1:Int)≤(d :: ch).length:=by simp only [List.length_cons];omega
  simp only [h0,t0,t1,hd1,ints_length,tk_slice1,vZ,Int.reduceEq,Int.reduceNe,Int.reduceLT,Int.reduceLE,Nat.reduceEqDiff,Nat.reduceAdd,reduceIte,reduceCtorEq,Nat.reduceLT,Nat.reduceLeDiff,Nat.reduceShiftRight,Nat.reduceMod]
  refine ⟨⟨by omega,cells_ints⟩,?_⟩
  refine callS_of hS ?_
  by_cases h2:fE d ch=0
  ·simp only [h2,fitA,vZ,Int.reduceEq,Int.reduceNe,Int.reduceLT,Int.reduceLE,Nat.reduceEqDiff,Nat.reduceAdd,reduceIte,reduceCtorEq,Nat.reduceLT,Nat.reduceLeDiff,Nat.reduceShiftRight,Nat.reduceMod]
  ·simp only [h2,fitA,vZ,Int.reduceEq,Int.reduceNe,Int.reduceLT,Int.reduceLE,Nat.reduceEqDiff,Nat.reduceAdd,reduceIte,reduceCtorEq,Nat.reduceLT,Nat.reduceLeDiff,Nat.reduceShiftRight,Nat.reduceMod]
   rfl
 ·simp only [he,fitA,vZ,Int.reduceEq,Int.reduceNe,Int.reduceLT,Int.reduceLE,Nat.reduceEqDiff,Nat.reduceAdd,reduceIte,reduceCtorEq,Nat.reduceLT,Nat.reduceLeDiff,Nat.reduceShiftRight,Nat.reduceMod]
  rfl
end Go.Proofs.YtpaklfjlbocfcaaGreatDoor

/- Contracts: the reference's waveforms and fits of strings. By an AI agent;nothing here is trusted. -/
namespace Go.Proofs.YtpaklfjlbocfcaaGreatDoor
open Go.Av

theorem nums_read (neg:Bool) (k:Nat) (n:Int) (l:List Int) (h:∀ m ∈ n :: l,(neg=true∨0≤m)∧(Lib.decDigits m.natAbs).length≤k):Lin.nums neg k (Lin.cut 32 (numS (n :: l)))=some (n :: l):=by
 unfold numS
 rw [Lin.cut_words (by decide) (by decide)]
 exact Lin.nums_itoa h
theorem wave_read {l:List Int} (h:smE l=0):pwL (numS l)=l∧pwE (numS l)=0:=by
 obtain ⟨h1,h2,h3⟩:=smE_ok h
 obtain ⟨n,r,rfl⟩:∃ n r,l=n :: r:=List.exists_cons_of_ne_nil (by rintro rfl;simp at h1)
 have hr:=nums_read true 5 n r fun m hm=>⟨.inl rfl,Lin.dec_len_lt (by decide) (by have:=h3 m hm;omega)⟩
 have hl:=numS_le (l:=n :: r) fun m hm=>by have:=h3 m hm;unfold I64;omega
 have hp:ppN (numS (n :: r)) 5 true=(n :: r,0):=by unfold ppN;rw [if_neg (by omega),hr]
 have he:pwE (numS (n :: r))=0:=by unfold pwE;rw [hp];simpa using h
 exact ⟨by unfold pwL;rw [if_pos he,hp],he⟩
theorem fit_read {d:Int} {ch:List Int} (h:fE d ch=0):pfD (numS (d :: ch))=d∧pfL (numS (d :: ch))=ch∧pfE (numS (d :: ch))=0:=by
 obtain ⟨h1,h2,h3⟩:=fE_ok h
 have hm:∀ m ∈ d :: ch,0≤m∧m≤1000000000000:=fun m hm=>by
  rcases List.mem_cons.1 hm with rfl | hm
  ·omega
  ·exact h3 m hm
 have hr:=nums_read false 13 d ch fun m hmm=>⟨.inr (hm m hmm).1,Lin.dec_len_lt (by decide) (by have:=hm m hmm;have:(10:Nat) ^ 13=10000000000000:=(by decide);omega)⟩
 have hl:=numS_le (l:=d :: ch) fun m hmm=>by have:=hm m hmm;unfold I64;omega
 simp only [List.length_cons] at hl
 have hp:ppN (numS (d :: ch)) 13 false=(d :: ch,0):=by unfold ppN;rw [if_neg (by omega),hr]
 have he:pfE (numS (d :: ch))=0:=by unfold pfE;rw [hp];simpa using h
 exact ⟨by unfold pfD;rw [if_pos he,hp];rfl,by unfold pfL;rw [if_pos he,hp];rfl,he⟩
end Go.Proofs.YtpaklfjlbocfcaaGreatDoor

/- Contracts of the reference: squares,numerals of wide numbers,what is kept. By an AI agent;nothing here is trusted. -/
namespace Go.Proofs.YtpaklfjlbocfcaaGreatDoor
open Go.Av

end Go.Proofs.YtpaklfjlbocfcaaGreatDoor

/- Contracts of the reference: digits of wide numbers. By an AI agent;nothing here is trusted. -/
namespace Go.Proofs.YtpaklfjlbocfcaaGreatDoor
open Go.Av

end Go.Proofs.YtpaklfjlbocfcaaGreatDoor

/- The law TopPulseBest: it answers true. By an AI agent;nothing here is trusted. -/
namespace Go.Proofs.YtpaklfjlbocfcaaGreatDoor
open Go.Av

set_option maxHeartbeats 4000000 in
theorem TB_28 (ch:List Int) (hc5:ch.length≤5) (hcb:∀ x ∈ ch,0≤x∧x≤1000) :
  WL Tryz.prog 299 cl_top_TopPulseBest_28 (endQ [(6,none)] (.bool true)) (envOf [(1,.sl (ints ch)),(33,.ptr 33 0 0)]) (stOf [(33,⟨47,2,[.agg [.int .i64 1,.sl (ints (tri ch))]]⟩)]) .mk:=by
 simp only [cl_top_TopPulseBest_28,cl_top_TopPulseBest_b2,vZ,Int.reduceEq,Int.reduceNe,Int.reduceLT,Int.reduceLE,Nat.reduceEqDiff,Nat.reduceAdd,reduceIte,reduceCtorEq,Nat.reduceLT,Nat.reduceLeDiff,Nat.reduceShiftRight,Nat.reduceMod]
 refine WL_loop (t:=.mk) (α:=PSigma fun i:Nat=>i≤ch.length) (fun x=>(envOf [(1,.sl (ints ch)),(33,.ptr 33 0 0),(35,.int .i64 x.1)],stOf [(33,⟨47,2,[.agg [.int .i64 1,.sl (ints (tri ch))]]⟩)])) (fun x=>ch.length - x.1) ⟨0,Nat.zero_le _⟩ ?_ (fun ⟨i,hi⟩=>?_)
 ·refine weakX [] (of_decide_eq_true rfl) (of_decide_eq_true rfl) ?_
  (simp only [vcW,vZ,Int.reduceEq,Int.reduceNe,Int.reduceLT,Int.reduceLE,Nat.reduceEqDiff,Nat.reduceAdd,reduceIte,reduceCtorEq,Nat.reduceLT,Nat.reduceLeDiff,Nat.reduceShiftRight,Nat.reduceMod])
  (repeat' first | exact trivial | (with_reducible first | exact RnB.fxB (ints_fxB _) | rfl | refine And.intro ?_ ?_) | (with_reducible (first | refine RnB.bb ?_ | refine RnB.nb ?_);simp only [vcW,vZ,Int.reduceEq,Int.reduceNe,Int.reduceLT,Int.reduceLE,Nat.reduceEqDiff,Nat.reduceAdd,reduceIte,reduceCtorEq,Nat.reduceLT,Nat.reduceLeDiff,Nat.reduceShiftRight,Nat.reduceMod]) | (with_reducible first | refine RnB.ii ?_ | refine RnB.app ?_) | (with_reducible refine RnB.fxB ?_;simp only [vcW,vZ,Int.reduceEq,Int.reduceNe,Int.reduceLT,Int.reduceLE,Nat.reduceEqDiff,Nat.reduceAdd,reduceIte,reduceCtorEq,Nat.reduceLT,Nat.reduceLeDiff,Nat.reduceShiftRight,Nat.reduceMod]) | omega)
 ·dsimp only at hi ⊢
  by_cases h':i<ch.length
  ·have hc1:(i:Int)<ch.length:=by omega
   have hg:=ints_get ch i h'
   have ht:i<(tri ch).length:=by rw [tri_len];exact h'
   have hg2:=ints_get (tri ch) i ht
   have he:(tri ch)[i]=3 * ch[i]:=by simp [tri]
   rw [he] at hg2
   have hx:=hcb _ (List.getElem_mem h')
   simp only [hc1,hg,hg2,ints_length,vZ,Int.reduceEq,Int.reduceNe,Int.reduceLT,Int.reduceLE,Nat.reduceEqDiff,Nat.reduceAdd,reduceIte,reduceCtorEq,Nat.reduceLT,Nat.reduceLeDiff,Nat.reduceShiftRight,Nat.reduceMod]
   refine ⟨by omega,by omega,by unfold I64;omega,by unfold I64;omega,⟨i+1,h'⟩,by (try simp only);omega,?_⟩
   refine weakX [] (of_decide_eq_true rfl) (of_decide_eq_true rfl) ?_
   (simp only [vcW,vZ,Int.reduceEq,Int.reduceNe,Int.reduceLT,Int.reduceLE,Nat.reduceEqDiff,Nat.reduceAdd,reduceIte,reduceCtorEq,Nat.reduceLT,Nat.reduceLeDiff,Nat.reduceShiftRight,Nat.reduceMod])
   (repeat' first | exact trivial | (with_reducible first | exact RnB.fxB (ints_fxB _) | rfl | refine And.intro ?_ ?_) | (with_reducible (first | refine RnB.bb ?_ | refine RnB.nb ?_);simp only [vcW,vZ,Int.reduceEq,Int.reduceNe,Int.reduceLT,Int.reduceLE,Nat.reduceEqDiff,Nat.reduceAdd,reduceIte,reduceCtorEq,Nat.reduceLT,Nat.reduceLeDiff,Nat.reduceShiftRight,Nat.reduceMod]) | (with_reducible first | refine RnB.ii ?_ | refine RnB.app ?_) | (with_reducible refine RnB.fxB ?_;simp only [vcW,vZ,Int.reduceEq,Int.reduceNe,Int.reduceLT,Int.reduceLE,Nat.reduceEqDiff,Nat.reduceAdd,reduceIte,reduceCtorEq,Nat.reduceLT,Nat.reduceLeDiff,Nat.reduceShiftRight,Nat.reduceMod]) | omega)
  ·have hil:i=ch.length:=by omega
   subst hil
   have hc1:¬ (ch.length:Int)<ch.length:=by omega
   simp only [hc1,ints_length,vZ,Int.reduceEq,Int.reduceNe,Int.reduceLT,Int.reduceLE,Nat.reduceEqDiff,Nat.reduceAdd,reduceIte,reduceCtorEq,Nat.reduceLT,Nat.reduceLeDiff,Nat.reduceShiftRight,Nat.reduceMod]
   refine WL_cut ?_
   simp only [cl_top_TopPulseBest_29,vZ,Int.reduceEq,Int.reduceNe,Int.reduceLT,Int.reduceLE,Nat.reduceEqDiff,Nat.reduceAdd,reduceIte,reduceCtorEq,Nat.reduceLT,Nat.reduceLeDiff,Nat.reduceShiftRight,Nat.reduceMod]
set_option maxHeartbeats 4000000 in
theorem TB_23 (items:List Int) (shifts:Int) (ch:List Int) (hT:teE items shifts=0) (hcl:(ch.length:Int)=shifts) (hcb:∀ x ∈ ch,0≤x∧x≤1000) (hsm:smE (mdA items ch)=0) :
  WL Tryz.prog 299 cl_top_TopPulseBest_23 (endQ [(6,none)] (.bool true)) (envOf [(1,.sl (ints ch)),(3,.ptr 3 0 0),(28,.sl (ints (hiL (mdA items ch)))),(29,.sl (ints (mdA items ch)))]) (stOf [(3,⟨102,2,[.agg [.sl (ints items),.int .i64 shifts]]⟩)]) .mk:=by
 obtain ⟨t1,t2,t3,t4⟩:=teE_ok hT
 have hml:=mdA_len items ch
 have hm24:=smE_ok hsm
 have hSE:=SamplesErr_s (hiL (mdA items ch))
 have hW1:=Wave_s (hiL (mdA items ch)) (by rw [hi_len];omega)
 have hW2:=Wave_s (mdA items ch) (by omega)
 have hJ:=Joined_s (hiL (mdA items ch)) (mdA items ch) 60 3 (by rw [hi_len];omega) (by omega)
 have hCT:=CopyTemplate_s items shifts (by omega)
 unfold tplA at hCT
 unfold waveA at hW1 hW2 hJ
 simp only [cl_top_TopPulseBest_23,vZ,Int.reduceEq,Int.reduceNe,Int.reduceLT,Int.reduceLE,Nat.reduceEqDiff,Nat.reduceAdd,reduceIte,reduceCtorEq,Nat.reduceLT,Nat.reduceLeDiff,Nat.reduceShiftRight,Nat.reduceMod]
 refine callS_of hSE ?_
 by_cases hse:smE (hiL (mdA items ch))=0
 case neg=>simp only [hse,vZ,Int.reduceEq,Int.reduceNe,Int.reduceLT,Int.reduceLE,Nat.reduceEqDiff,Nat.reduceAdd,reduceIte,reduceCtorEq,Nat.reduceLT,Nat.reduceLeDiff,Nat.reduceShiftRight,Nat.reduceMod]
 simp only [hse,vZ,Int.reduceEq,Int.reduceNe,Int.reduceLT,Int.reduceLE,Nat.reduceEqDiff,Nat.reduceAdd,reduceIte,reduceCtorEq,Nat.reduceLT,Nat.reduceLeDiff,Nat.reduceShiftRight,Nat.reduceMod]
 refine callS_of hW1 ?_
 simp only [vZ,Int.reduceEq,Int.reduceNe,Int.reduceLT,Int.reduceLE,Nat.reduceEqDiff,Nat.reduceAdd,reduceIte,reduceCtorEq,Nat.reduceLT,Nat.reduceLeDiff,Nat.reduceShiftRight,Nat.reduceMod]
 refine callS_of hW2 ?_
 simp only [vZ,Int.reduceEq,Int.reduceNe,Int.reduceLT,Int.reduceLE,Nat.reduceEqDiff,Nat.reduceAdd,reduceIte,reduceCtorEq,Nat.reduceLT,Nat.reduceLeDiff,Nat.reduceShiftRight,Nat.reduceMod]
 refine callS_of hJ ?_
 have hjE:jE (hiL (mdA items ch)) (mdA items ch) 60 3=0:=by
  unfold jE
  rw [if_neg (by simpa using hse),if_neg (by simpa using hsm),if_pos (hi_len _),if_pos (by decide)]
 rcases jE2_08 hjE with hj | hj
 case inr=>simp only [hj,vZ,Int.reduceEq,Int.reduceNe,Int.reduceLT,Int.reduceLE,Nat.reduceEqDiff,Nat.reduceAdd,reduceIte,reduceCtorEq,Nat.reduceLT,Nat.reduceLeDiff,Nat.reduceShiftRight,Nat.reduceMod]
 rw [jO_tri hj]
 have hjs:=jE2_sm hj
 rw [hi_len,jl_tri _ _ (Nat.le_refl _),List.take_of_length_le (by rw [tri_len];exact Nat.le_refl _)] at hjs
 have hfd:fdE items shifts (tri (mdA items ch))=0:=fdE_of hT hjs (by rw [tri_len,hml];omega)
 have hFt:=FitOf_s items shifts (tri (mdA items ch)) (by omega) (by rw [tri_len];omega)
 rw [← mdA_tri] at hfd hFt
 rw [found_model6 hfd (by rw [tri_len];exact hcl) (fun x hx=>by
  obtain ⟨y,hy,rfl⟩:=List.mem_map.1 hx
  have:=hcb y hy
  omega)] at hFt
 rw [mdA_tri] at hFt
 unfold tplA at hFt
 have hCI:=CopyInts_s (tri (mdA items ch)) (by rw [tri_len];omega)
 simp only [hj,vZ,Int.reduceEq,Int.reduceNe,Int.reduceLT,Int.reduceLE,Nat.reduceEqDiff,Nat.reduceAdd,reduceIte,reduceCtorEq,Nat.reduceLT,Nat.reduceLeDiff,Nat.reduceShiftRight,Nat.reduceMod]
 refine callS_of hCT ?_
 simp only [vZ,Int.reduceEq,Int.reduceNe,Int.reduceLT,Int.reduceLE,Nat.reduceEqDiff,Nat.reduceAdd,reduceIte,reduceCtorEq,Nat.reduceLT,Nat.reduceLeDiff,Nat.reduceShiftRight,Nat.reduceMod]
 refine callS_of hCI ?_
 simp only [vZ,Int.reduceEq,Int.reduceNe,Int.reduceLT,Int.reduceLE,Nat.reduceEqDiff,Nat.reduceAdd,reduceIte,reduceCtorEq,Nat.reduceLT,Nat.reduceLeDiff,Nat.reduceShiftRight,Nat.reduceMod]
 refine callS_of hFt ?_
 simp only [ints_length,tri_len,vZ,Int.reduceEq,Int.reduceNe,Int.reduceLT,Int.reduceLE,Nat.reduceEqDiff,Nat.reduceAdd,reduceIte,reduceCtorEq,Nat.reduceLT,Nat.reduceLeDiff,Nat.reduceShiftRight,Nat.reduceMod]
 refine WL_cutW (envOf [(1,.sl (ints ch)),(33,.ptr 33 0 0)],stOf [(33,⟨47,2,[.agg [.int .i64 1,.sl (ints (tri ch))]]⟩)]) rfl ?_ (TB_28 ch (by omega) hcb)
 refine weakX [] (of_decide_eq_true rfl) (of_decide_eq_true rfl) ?_
 (simp only [vcW,vZ,Int.reduceEq,Int.reduceNe,Int.reduceLT,Int.reduceLE,Nat.reduceEqDiff,Nat.reduceAdd,reduceIte,reduceCtorEq,Nat.reduceLT,Nat.reduceLeDiff,Nat.reduceShiftRight,Nat.reduceMod])
 (repeat' first | exact trivial | (with_reducible first | exact RnB.fxB (ints_fxB _) | rfl | refine And.intro ?_ ?_) | (with_reducible (first | refine RnB.bb ?_ | refine RnB.nb ?_);simp only [vcW,vZ,Int.reduceEq,Int.reduceNe,Int.reduceLT,Int.reduceLE,Nat.reduceEqDiff,Nat.reduceAdd,reduceIte,reduceCtorEq,Nat.reduceLT,Nat.reduceLeDiff,Nat.reduceShiftRight,Nat.reduceMod]) | (with_reducible first | refine RnB.ii ?_ | refine RnB.app ?_) | (with_reducible refine RnB.fxB ?_;simp only [vcW,vZ,Int.reduceEq,Int.reduceNe,Int.reduceLT,Int.reduceLE,Nat.reduceEqDiff,Nat.reduceAdd,reduceIte,reduceCtorEq,Nat.reduceLT,Nat.reduceLeDiff,Nat.reduceShiftRight,Nat.reduceMod]) | omega)
 all_goals first | rfl | trace_state
set_option maxHeartbeats 4000000 in
theorem TB_22 (items:List Int) (shifts:Int) (ch:List Int) (hT:teE items shifts=0) (hcl:(ch.length:Int)=shifts) (hcb:∀ x ∈ ch,0≤x∧x≤1000) (hsm:smE (mdA items ch)=0) :
  WL Tryz.prog 299 cl_top_TopPulseBest_22 (endQ [(6,none)] (.bool true)) (envOf [(1,.sl (ints ch)),(3,.ptr 3 0 0),(7,.sl (ints (mdA items ch))),(28,.nils),(29,.nils)]) (stOf [(3,⟨102,2,[.agg [.sl (ints items),.int .i64 shifts]]⟩)]) .mk:=by
 have hmax:=maxLen_big
 have h23:=TB_23 items shifts ch hT hcl hcb hsm
 have hm:=smE_ok hsm
 generalize mdA items ch=m at *
 have hin:ints []=[]:=rfl
 simp only [cl_top_TopPulseBest_22,cl_top_TopPulseBest_b0,vZ,Int.reduceEq,Int.reduceNe,Int.reduceLT,Int.reduceLE,Nat.reduceEqDiff,Nat.reduceAdd,reduceIte,reduceCtorEq,Nat.reduceLT,Nat.reduceLeDiff,Nat.reduceShiftRight,Nat.reduceMod]
 refine WL_loop (t:=.mk) (α:=PSigma fun i:Nat=>i≤m.length) (fun x=>(envOf [(1,.sl (ints ch)),(3,.ptr 3 0 0),(7,.sl (ints m)),(28,.buf 100 x.1),(29,.buf 101 x.1),(30,.int .i64 x.1)],stOf [(3,⟨102,2,[.agg [.sl (ints items),.int .i64 shifts]]⟩),(100,⟨3,1,ints ((hiL m).take x.1)⟩),(101,⟨3,1,ints (m.take x.1)⟩)])) (fun x=>m.length - x.1) ⟨0,Nat.zero_le _⟩ ?_ (fun ⟨i,hi⟩=>?_)
 ·refine weakX [(100,none),(101,none)] (of_decide_eq_true rfl) (of_decide_eq_true rfl) ?_
  (simp only [vcW,vZ,Int.reduceEq,Int.reduceNe,Int.reduceLT,Int.reduceLE,Nat.reduceEqDiff,Nat.reduceAdd,reduceIte,reduceCtorEq,Nat.reduceLT,Nat.reduceLeDiff,Nat.reduceShiftRight,Nat.reduceMod])
  (repeat' first | exact trivial | (with_reducible first | exact RnB.fxB (ints_fxB _) | rfl | refine And.intro ?_ ?_) | (with_reducible (first | refine RnB.bb ?_ | refine RnB.nb ?_);simp only [vcW,vZ,Int.reduceEq,Int.reduceNe,Int.reduceLT,Int.reduceLE,Nat.reduceEqDiff,Nat.reduceAdd,reduceIte,reduceCtorEq,Nat.reduceLT,Nat.reduceLeDiff,Nat.reduceShiftRight,Nat.reduceMod]) | (with_reducible first | refine RnB.ii ?_ | refine RnB.app ?_) | (with_reducible refine RnB.fxB ?_;simp only [vcW,vZ,Int.reduceEq,Int.reduceNe,Int.reduceLT,Int.reduceLE,Nat.reduceEqDiff,Nat.reduceAdd,reduceIte,reduceCtorEq,Nat.reduceLT,Nat.reduceLeDiff,Nat.reduceShiftRight,Nat.reduceMod]) | omega)
  all_goals first | rfl | trace_state
 ·dsimp only at hi ⊢
  by_cases h':i<m.length
  ·have hc1:(i:Int)<m.length:=by omega
   have hg:=ints_get m i h'
   have hx:=hm.2.2 _ (List.getElem_mem h')
   have hl1:((hiL m).take i).length=i:=by rw [List.length_take,hi_len];omega
   have hl2:(m.take i).length=i:=by rw [List.length_take];omega
   have hs1:ints ((hiL m).take (i+1))=ints ((hiL m).take i) ++ [.int .i64 (min 60 (3 * m[i]))]:=by
    rw [List.take_succ_eq_append_getElem (by rw [hi_len];exact h'),ints_append];simp [hiL,ints]
   have hs2:ints (m.take (i+1))=ints (m.take i) ++ [.int .i64 m[i]]:=by
    rw [List.take_succ_eq_append_getElem h',ints_append];rfl
   simp only [hc1,hg,ints_length,hl1,hl2,vZ,Int.reduceEq,Int.reduceNe,Int.reduceLT,Int.reduceLE,Nat.reduceEqDiff,Nat.reduceAdd,reduceIte,reduceCtorEq,Nat.reduceLT,Nat.reduceLeDiff,Nat.reduceShiftRight,Nat.reduceMod]
   refine ⟨by omega,by unfold I64;omega,⟨by omega,by omega⟩,by omega,⟨by omega,by omega⟩,by unfold I64;omega,⟨i+1,h'⟩,by (try simp only);omega,?_⟩
   rw [hs1,hs2]
   refine weakX [(100,some 234),(101,some 241)] (of_decide_eq_true rfl) (of_decide_eq_true rfl) ?_
   (simp only [vcW,vZ,Int.reduceEq,Int.reduceNe,Int.reduceLT,Int.reduceLE,Nat.reduceEqDiff,Nat.reduceAdd,reduceIte,reduceCtorEq,Nat.reduceLT,Nat.reduceLeDiff,Nat.reduceShiftRight,Nat.reduceMod])
   (repeat' first | exact trivial | (with_reducible first | exact RnB.fxB (ints_fxB _) | rfl | refine And.intro ?_ ?_) | (with_reducible (first | refine RnB.bb ?_ | refine RnB.nb ?_);simp only [vcW,vZ,Int.reduceEq,Int.reduceNe,Int.reduceLT,Int.reduceLE,Nat.reduceEqDiff,Nat.reduceAdd,reduceIte,reduceCtorEq,Nat.reduceLT,Nat.reduceLeDiff,Nat.reduceShiftRight,Nat.reduceMod]) | (with_reducible first | refine RnB.ii ?_ | refine RnB.app ?_) | (with_reducible refine RnB.fxB ?_;simp only [vcW,vZ,Int.reduceEq,Int.reduceNe,Int.reduceLT,Int.reduceLE,Nat.reduceEqDiff,Nat.reduceAdd,reduceIte,reduceCtorEq,Nat.reduceLT,Nat.reduceLeDiff,Nat.reduceShiftRight,Nat.reduceMod]) | omega)
   all_goals first | rfl | exact (ints_append _ [_]).symm | exact RnB.fxB (by rw [List.all_append,ints_fxB];rfl) | trace_state
  ·have hil:i=m.length:=by omega
   subst hil
   have hc1:¬ (m.length:Int)<m.length:=by omega
   have htk:(hiL m).take m.length=hiL m:=List.take_of_length_le (by rw [hi_len];exact Nat.le_refl _)
   rw [htk,List.take_length]
   simp only [hc1,ints_length,vZ,Int.reduceEq,Int.reduceNe,Int.reduceLT,Int.reduceLE,Nat.reduceEqDiff,Nat.reduceAdd,reduceIte,reduceCtorEq,Nat.reduceLT,Nat.reduceLeDiff,Nat.reduceShiftRight,Nat.reduceMod]
   refine WL_cutW (envOf [(1,.sl (ints ch)),(3,.ptr 3 0 0),(28,.sl (ints (hiL m))),(29,.sl (ints m))],stOf [(3,⟨102,2,[.agg [.sl (ints items),.int .i64 shifts]]⟩)]) rfl ?_ h23
   refine weakS [(1,.sl (ints ch)),(3,.ptr 3 0 0),(28,.sl (ints (hiL m))),(29,.sl (ints m))] [(3,some 3,⟨102,2,[.agg [.sl (ints items),.int .i64 shifts]]⟩)] (of_decide_eq_true rfl) (of_decide_eq_true rfl) ⟨⟨_,rfl,RnB.fxB rfl⟩,trivial⟩ ?_
   refine ⟨.imm _ rfl,.ptr _ _ _ _ rfl,?_,?_,trivial⟩
   ·have e:(ints (hiL m)).take m.length=ints (hiL m):=List.take_of_length_le (by rw [ints_length,hi_len];exact Nat.le_refl _)
    have hz:=Rn.fz (s:=stOf [(3,⟨102,2,[.agg [.sl (ints items),.int .i64 shifts]]⟩),(100,⟨3,1,ints (hiL m)⟩),(101,⟨3,1,ints m⟩)]) (s':=stOf [(3,⟨102,2,[.agg [.sl (ints items),.int .i64 shifts]]⟩)]) (f:=Go.Av.keyOf [(3,some 3,⟨102,2,[.agg [.sl (ints items),.int .i64 shifts]]⟩)]) 100 m.length _ rfl (by simp only [ints_length,hi_len];omega) (fun x hx=>(fx_spec (ints_fx _ x hx)).1) (fun k' hk=>by
     simp only [Go.Av.keyOf] at hk
     split at hk <;> cases hk)
    simp only [e] at hz
    exact hz
   ·have e:(ints m).take m.length=ints m:=List.take_of_length_le (by rw [ints_length];exact Nat.le_refl _)
    have hz:=Rn.fz (s:=stOf [(3,⟨102,2,[.agg [.sl (ints items),.int .i64 shifts]]⟩),(100,⟨3,1,ints (hiL m)⟩),(101,⟨3,1,ints m⟩)]) (s':=stOf [(3,⟨102,2,[.agg [.sl (ints items),.int .i64 shifts]]⟩)]) (f:=Go.Av.keyOf [(3,some 3,⟨102,2,[.agg [.sl (ints items),.int .i64 shifts]]⟩)]) 101 m.length _ rfl (by simp only [ints_length];omega) (fun x hx=>(fx_spec (ints_fx _ x hx)).1) (fun k' hk=>by
     simp only [Go.Av.keyOf] at hk
     split at hk <;> cases hk)
    simp only [e] at hz
    exact hz

set_option maxHeartbeats 8000000 in
theorem TopPulseBest_s (items:List Int) (shifts:Int) (ch:List Int) (d:Droop):Sound Tryz.prog 6 [tplA items shifts,.sl (ints ch),d.av] (.bool true):=by
 refine sound_WL f_top_TopPulseBest e_top_TopPulseBest (Nat.le_of_ble_eq_true rfl) ?_
 have hTE:=TemplateErr_s items shifts
 have hDE:=DroopErr_s d
 have hda:d.av=.agg [.int .i64 d.leak,.int .i64 d.div]:=rfl
 rw [hda] at hDE ⊢
 unfold tplA at hTE
 simp only [cl_top_TopPulseBest,tplA,vZ,Int.reduceEq,Int.reduceNe,Int.reduceLT,Int.reduceLE,Nat.reduceEqDiff,Nat.reduceAdd,reduceIte,reduceCtorEq,Nat.reduceLT,Nat.reduceLeDiff,Nat.reduceShiftRight,Nat.reduceMod]
 refine callS_of pulseShown_s ?_
 simp only [vZ,Int.reduceEq,Int.reduceNe,Int.reduceLT,Int.reduceLE,Nat.reduceEqDiff,Nat.reduceAdd,reduceIte,reduceCtorEq,Nat.reduceLT,Nat.reduceLeDiff,Nat.reduceShiftRight,Nat.reduceMod]
 refine callS_of hTE ?_
 by_cases hT:teE items shifts=0
 case neg=>simp only [hT,vZ,Int.reduceEq,Int.reduceNe,Int.reduceLT,Int.reduceLE,Nat.reduceEqDiff,Nat.reduceAdd,reduceIte,reduceCtorEq,Nat.reduceLT,Nat.reduceLeDiff,Nat.reduceShiftRight,Nat.reduceMod]
 obtain ⟨t1,t2,t3,t4⟩:=teE_ok hT
 have hCE:=ChargesErr_s items shifts ch (by omega)
 unfold tplA at hCE
 simp only [hT,vZ,Int.reduceEq,Int.reduceNe,Int.reduceLT,Int.reduceLE,Nat.reduceEqDiff,Nat.reduceAdd,reduceIte,reduceCtorEq,Nat.reduceLT,Nat.reduceLeDiff,Nat.reduceShiftRight,Nat.reduceMod]
 refine callS_of hCE ?_
 by_cases hC:crE shifts ch=0
 case neg=>simp only [hC,vZ,Int.reduceEq,Int.reduceNe,Int.reduceLT,Int.reduceLE,Nat.reduceEqDiff,Nat.reduceAdd,reduceIte,reduceCtorEq,Nat.reduceLT,Nat.reduceLeDiff,Nat.reduceShiftRight,Nat.reduceMod]
 simp only [hC,vZ,Int.reduceEq,Int.reduceNe,Int.reduceLT,Int.reduceLE,Nat.reduceEqDiff,Nat.reduceAdd,reduceIte,reduceCtorEq,Nat.reduceLT,Nat.reduceLeDiff,Nat.reduceShiftRight,Nat.reduceMod]
 refine callS_of hDE ?_
 by_cases hD:d.e=0
 case neg=>simp only [hD,vZ,Int.reduceEq,Int.reduceNe,Int.reduceLT,Int.reduceLE,Nat.reduceEqDiff,Nat.reduceAdd,reduceIte,reduceCtorEq,Nat.reduceLT,Nat.reduceLeDiff,Nat.reduceShiftRight,Nat.reduceMod]
 have hmo:moE items shifts ch=0:=by
  unfold moE;rw [if_neg (by simpa using hT)];exact hC
 obtain ⟨_,hcl,hcb⟩:=moE_ok hmo
 have hdok:d.ok:=by
  unfold Droop.e at hD
  split at hD
  ·assumption
  ·cases hD
 have hml:=mdA_len items ch
 have hCT:=CopyTemplate_s items shifts (by omega)
 have hCI:=CopyInts_s ch (by omega)
 have hMo:=Modelled_s items shifts ch (by omega) (by omega)
 have hmoO:moO items shifts ch=mdA items ch:=by unfold moO;rw [if_pos hmo]
 rw [hmo,hmoO] at hMo
 have hRM:=Model_s (items:=items) (ch:=ch) (shifts:=shifts) (C:=1000) (by omega) (by omega) hcl (by omega) (by omega) t2 (fun x hx=>by have:=hcb x hx;omega)
 have hIm:=Ints_s (mdA items ch) (mdA items ch) (by omega)
 have hSm:=SamplesErr_s (mdA items ch)
 unfold tplA at hCT hMo hRM
 simp only [hD,vZ,Int.reduceEq,Int.reduceNe,Int.reduceLT,Int.reduceLE,Nat.reduceEqDiff,Nat.reduceAdd,reduceIte,reduceCtorEq,Nat.reduceLT,Nat.reduceLeDiff,Nat.reduceShiftRight,Nat.reduceMod]
 refine callS_of hCT ?_
 simp only [vZ,Int.reduceEq,Int.reduceNe,Int.reduceLT,Int.reduceLE,Nat.reduceEqDiff,Nat.reduceAdd,reduceIte,reduceCtorEq,Nat.reduceLT,Nat.reduceLeDiff,Nat.reduceShiftRight,Nat.reduceMod]
 refine callS_of hCI ?_
 simp only [vZ,Int.reduceEq,Int.reduceNe,Int.reduceLT,Int.reduceLE,Nat.reduceEqDiff,Nat.reduceAdd,reduceIte,reduceCtorEq,Nat.reduceLT,Nat.reduceLeDiff,Nat.reduceShiftRight,Nat.reduceMod]
 refine callS_of hMo ?_
 simp only [vZ,Int.reduceEq,Int.reduceNe,Int.reduceLT,Int.reduceLE,Nat.reduceEqDiff,Nat.reduceAdd,reduceIte,reduceCtorEq,Nat.reduceLT,Nat.reduceLeDiff,Nat.reduceShiftRight,Nat.reduceMod]
 refine callS_of hRM ?_
 simp only [vZ,Int.reduceEq,Int.reduceNe,Int.reduceLT,Int.reduceLE,Nat.reduceEqDiff,Nat.reduceAdd,reduceIte,reduceCtorEq,Nat.reduceLT,Nat.reduceLeDiff,Nat.reduceShiftRight,Nat.reduceMod]
 refine callS_of hIm ?_
 simp only [vZ,Int.reduceEq,Int.reduceNe,Int.reduceLT,Int.reduceLE,Nat.reduceEqDiff,Nat.reduceAdd,reduceIte,reduceCtorEq,Nat.reduceLT,Nat.reduceLeDiff,Nat.reduceShiftRight,Nat.reduceMod]
 refine callS_of hSm ?_
 by_cases hsm:smE (mdA items ch)=0
 case neg=>simp only [hsm,vZ,Int.reduceEq,Int.reduceNe,Int.reduceLT,Int.reduceLE,Nat.reduceEqDiff,Nat.reduceAdd,reduceIte,reduceCtorEq,Nat.reduceLT,Nat.reduceLeDiff,Nat.reduceShiftRight,Nat.reduceMod]
 have h22:=TB_22 items shifts ch hT hcl hcb hsm
 have hRc:=Recorded_s d (mdA items ch) (by omega)
 have hCm:=CopyInts_s (mdA items ch) (by omega)
 have hm:=smE_ok hsm
 have hfd:fdE items shifts (mdA items ch)=0:=fdE_of hT hsm (by omega)
 have hFt:=FitOf_s items shifts (mdA items ch) (by omega) (by omega)
 rw [found_model6 hfd hcl (fun x hx=>by have:=hcb x hx;omega)] at hFt
 have hSF:=SameFit_s 1 1 ch ch (by omega)
 have hCF:=CopyFit_s 1 ch (by omega)
 have hfe:fE 1 ch=0:=by
  unfold fE
  rw [if_pos (by omega),if_neg (by omega),if_pos]
  exact List.all_eq_true.2 fun x hx=>decide_eq_true (by have:=hcb x hx;omega)
 have hcI:∀ n ∈ ch,I64 n:=fun n hn=>by have:=hcb n hn;unfold I64;omega
 have hFF:=FormatFit_s 1 ch (by unfold I64;omega) hcI (by omega)
 have hnl:(numS (1 :: ch)).length≤100000:=by
  have:=numS_le (l:=1 :: ch) (fun n hn=>by rcases List.mem_cons.1 hn with rfl | h;(unfold I64;omega);exact hcI n h)
  simp only [List.length_cons] at this;omega
 have hPF:=ParseFit_s (numS (1 :: ch)) hnl
 obtain ⟨r1,r2,r3⟩:=fit_read hfe
 rw [r1,r2,r3] at hPF
 have hbe:beE items shifts (mdA items ch) 1 ch=0:=by
  unfold beE;rw [if_neg (by simpa using hfd),if_neg (by simpa using hfe),if_pos hcl]
 have hEr:=ErrorOf_s items shifts (mdA items ch) 1 ch (by omega) (by omega) (by omega)
 have hera:erA items shifts (mdA items ch) 1 ch=[.agg [.str [48],.int .i64 1],.int .i64 0]:=by
  unfold erA;rw [if_neg (by simpa using hbe),dfL_model]
  have:Lib.decDigits 0=[48]:=itoa_zero
  rw [this]
 rw [hera] at hEr
 have hps:=parts_sum hfe
 have hCh:=ChargeOf_s 1 ch (by omega)
 have hcs:0≤ch.sum∧ch.sum≤5000:=by
  have:=sum_le hcb
  omega
 have hcha:chgA 1 ch=[fracA ch.sum 1,.int .i64 0]:=by
  unfold chgA
  rw [if_pos hfe,(low_one ch.sum).1,(low_one ch.sum).2,if_pos]
  unfold smallF
  simp;omega
 rw [hcha] at hCh
 have hSu:=Sum_s ch (by omega) hps.2
 have hWh:=Whole_s ch.sum
 have hPh:=PhotonsOf_s 1 1 ch (by omega)
 have hphe:phE 1 1 ch=0:=by unfold phE;rw [if_neg (by simpa using hfe),if_pos (by omega)]
 have hpho:phO 1 1 ch=ch:=by unfold phO;rw [if_pos hphe,phot_one]
 rw [hphe,hpho] at hPh
 have hIc:=Ints_s ch ch (by omega)
 have hKe:=IsKept_s items shifts (mdA items ch) 1 ch 0 (by omega) (by omega) (by omega)
 have hike:ikE items shifts (mdA items ch) 1 ch 0=0:=by unfold ikE;rw [if_neg (by simpa using hbe),if_pos (by omega)]
 have hkb:keptB items (mdA items ch) 1 ch 0=true:=by
  unfold keptB
  rw [md_sum items ch (by omega) (by omega)]
  simp
 rw [hike,hkb] at hKe
 simp only [decide_true,Bool.and_true] at hKe
 have hWm:=Wave_s (drpO d false (mdA items ch))
 unfold tplA at hFt hEr hKe
 unfold fitA at hSF hCF hFF hPF hEr hCh hPh
 unfold fracA at hCh hWh
 rw [hda] at hRc
 rcases drpE_08 (up:=false) hdok hsm with hr | hr
 case inr =>
  rw [hr] at hRc
  unfold waveA at hRc
  simp only [hsm,vZ,Int.reduceEq,Int.reduceNe,Int.reduceLT,Int.reduceLE,Nat.reduceEqDiff,Nat.reduceAdd,reduceIte,reduceCtorEq,Nat.reduceLT,Nat.reduceLeDiff,Nat.reduceShiftRight,Nat.reduceMod]
  refine callS_of hCm ?_
  simp only [vZ,Int.reduceEq,Int.reduceNe,Int.reduceLT,Int.reduceLE,Nat.reduceEqDiff,Nat.reduceAdd,reduceIte,reduceCtorEq,Nat.reduceLT,Nat.reduceLeDiff,Nat.reduceShiftRight,Nat.reduceMod]
  refine callS_of hRc ?_
  simp only [vZ,Int.reduceEq,Int.reduceNe,Int.reduceLT,Int.reduceLE,Nat.reduceEqDiff,Nat.reduceAdd,reduceIte,reduceCtorEq,Nat.reduceLT,Nat.reduceLeDiff,Nat.reduceShiftRight,Nat.reduceMod]
 obtain ⟨u1,u2,u3⟩:=drp_undone hr
 simp only [Bool.not_false] at u1 u2
 rw [hr] at hRc
 generalize drpO d false (mdA items ch)=w at *
 have hw:=smE_ok u3
 have hWv:=Wave_s w (by omega)
 have hwI:∀ n ∈ w,I64 n:=fun n hn=>by have:=hw.2.2 n hn;unfold I64;omega
 have hFW:=FormatWave_s w hwI (by omega)
 have hwl:(numS w).length≤100000:=by have:=numS_le hwI;omega
 have hPW:=ParseWave_s (numS w) hwl
 obtain ⟨q1,q2⟩:=wave_read u3
 rw [q1,q2] at hPW
 have hIw:=Ints_s w w (by omega)
 have hRs:=Restored_s d w (by omega)
 rw [u1,u2,hda] at hRs
 unfold waveA at hRc hWv hFW hPW hRs
 simp only [hsm,vZ,Int.reduceEq,Int.reduceNe,Int.reduceLT,Int.reduceLE,Nat.reduceEqDiff,Nat.reduceAdd,reduceIte,reduceCtorEq,Nat.reduceLT,Nat.reduceLeDiff,Nat.reduceShiftRight,Nat.reduceMod]
 refine callS_of hCm ?_
 simp only [vZ,Int.reduceEq,Int.reduceNe,Int.reduceLT,Int.reduceLE,Nat.reduceEqDiff,Nat.reduceAdd,reduceIte,reduceCtorEq,Nat.reduceLT,Nat.reduceLeDiff,Nat.reduceShiftRight,Nat.reduceMod]
 refine callS_of hRc ?_
 simp only [vZ,Int.reduceEq,Int.reduceNe,Int.reduceLT,Int.reduceLE,Nat.reduceEqDiff,Nat.reduceAdd,reduceIte,reduceCtorEq,Nat.reduceLT,Nat.reduceLeDiff,Nat.reduceShiftRight,Nat.reduceMod]
 refine callS_of hWv ?_
 simp only [vZ,Int.reduceEq,Int.reduceNe,Int.reduceLT,Int.reduceLE,Nat.reduceEqDiff,Nat.reduceAdd,reduceIte,reduceCtorEq,Nat.reduceLT,Nat.reduceLeDiff,Nat.reduceShiftRight,Nat.reduceMod]
 refine callS_of hFW ?_
 simp only [vZ,Int.reduceEq,Int.reduceNe,Int.reduceLT,Int.reduceLE,Nat.reduceEqDiff,Nat.reduceAdd,reduceIte,reduceCtorEq,Nat.reduceLT,Nat.reduceLeDiff,Nat.reduceShiftRight,Nat.reduceMod]
 refine callS_of hPW ?_
 simp only [vZ,Int.reduceEq,Int.reduceNe,Int.reduceLT,Int.reduceLE,Nat.reduceEqDiff,Nat.reduceAdd,reduceIte,reduceCtorEq,Nat.reduceLT,Nat.reduceLeDiff,Nat.reduceShiftRight,Nat.reduceMod]
 refine callS_of hIw ?_
 simp only [vZ,Int.reduceEq,Int.reduceNe,Int.reduceLT,Int.reduceLE,Nat.reduceEqDiff,Nat.reduceAdd,reduceIte,reduceCtorEq,Nat.reduceLT,Nat.reduceLeDiff,Nat.reduceShiftRight,Nat.reduceMod]
 refine callS_of hRs ?_
 simp only [vZ,Int.reduceEq,Int.reduceNe,Int.reduceLT,Int.reduceLE,Nat.reduceEqDiff,Nat.reduceAdd,reduceIte,reduceCtorEq,Nat.reduceLT,Nat.reduceLeDiff,Nat.reduceShiftRight,Nat.reduceMod]
 refine callS_of hIm ?_
 simp only [vZ,Int.reduceEq,Int.reduceNe,Int.reduceLT,Int.reduceLE,Nat.reduceEqDiff,Nat.reduceAdd,reduceIte,reduceCtorEq,Nat.reduceLT,Nat.reduceLeDiff,Nat.reduceShiftRight,Nat.reduceMod]
 refine callS_of hCT ?_
 simp only [vZ,Int.reduceEq,Int.reduceNe,Int.reduceLT,Int.reduceLE,Nat.reduceEqDiff,Nat.reduceAdd,reduceIte,reduceCtorEq,Nat.reduceLT,Nat.reduceLeDiff,Nat.reduceShiftRight,Nat.reduceMod]
 refine callS_of hCm ?_
 simp only [vZ,Int.reduceEq,Int.reduceNe,Int.reduceLT,Int.reduceLE,Nat.reduceEqDiff,Nat.reduceAdd,reduceIte,reduceCtorEq,Nat.reduceLT,Nat.reduceLeDiff,Nat.reduceShiftRight,Nat.reduceMod]
 refine callS_of hFt ?_
 simp only [vZ,Int.reduceEq,Int.reduceNe,Int.reduceLT,Int.reduceLE,Nat.reduceEqDiff,Nat.reduceAdd,reduceIte,reduceCtorEq,Nat.reduceLT,Nat.reduceLeDiff,Nat.reduceShiftRight,Nat.reduceMod]
 refine callS_of hCI ?_
 simp only [vZ,Int.reduceEq,Int.reduceNe,Int.reduceLT,Int.reduceLE,Nat.reduceEqDiff,Nat.reduceAdd,reduceIte,reduceCtorEq,Nat.reduceLT,Nat.reduceLeDiff,Nat.reduceShiftRight,Nat.reduceMod]
 refine callS_of hSF ?_
 simp only [vZ,Int.reduceEq,Int.reduceNe,Int.reduceLT,Int.reduceLE,Nat.reduceEqDiff,Nat.reduceAdd,reduceIte,reduceCtorEq,Nat.reduceLT,Nat.reduceLeDiff,Nat.reduceShiftRight,Nat.reduceMod]
 refine callS_of hCF ?_
 simp only [vZ,Int.reduceEq,Int.reduceNe,Int.reduceLT,Int.reduceLE,Nat.reduceEqDiff,Nat.reduceAdd,reduceIte,reduceCtorEq,Nat.reduceLT,Nat.reduceLeDiff,Nat.reduceShiftRight,Nat.reduceMod]
 refine callS_of hFF ?_
 simp only [vZ,Int.reduceEq,Int.reduceNe,Int.reduceLT,Int.reduceLE,Nat.reduceEqDiff,Nat.reduceAdd,reduceIte,reduceCtorEq,Nat.reduceLT,Nat.reduceLeDiff,Nat.reduceShiftRight,Nat.reduceMod]
 refine callS_of hPF ?_
 simp only [vZ,Int.reduceEq,Int.reduceNe,Int.reduceLT,Int.reduceLE,Nat.reduceEqDiff,Nat.reduceAdd,reduceIte,reduceCtorEq,Nat.reduceLT,Nat.reduceLeDiff,Nat.reduceShiftRight,Nat.reduceMod]
 refine callS_of hCT ?_
 simp only [vZ,Int.reduceEq,Int.reduceNe,Int.reduceLT,Int.reduceLE,Nat.reduceEqDiff,Nat.reduceAdd,reduceIte,reduceCtorEq,Nat.reduceLT,Nat.reduceLeDiff,Nat.reduceShiftRight,Nat.reduceMod]
 refine callS_of hCm ?_
 simp only [vZ,Int.reduceEq,Int.reduceNe,Int.reduceLT,Int.reduceLE,Nat.reduceEqDiff,Nat.reduceAdd,reduceIte,reduceCtorEq,Nat.reduceLT,Nat.reduceLeDiff,Nat.reduceShiftRight,Nat.reduceMod]
 refine callS_of hCF ?_
 simp only [vZ,Int.reduceEq,Int.reduceNe,Int.reduceLT,Int.reduceLE,Nat.reduceEqDiff,Nat.reduceAdd,reduceIte,reduceCtorEq,Nat.reduceLT,Nat.reduceLeDiff,Nat.reduceShiftRight,Nat.reduceMod]
 refine callS_of hEr ?_
 simp only [vZ,Int.reduceEq,Int.reduceNe,Int.reduceLT,Int.reduceLE,Nat.reduceEqDiff,Nat.reduceAdd,reduceIte,reduceCtorEq,Nat.reduceLT,Nat.reduceLeDiff,Nat.reduceShiftRight,Nat.reduceMod]
 refine callS_of hCF ?_
 simp only [vZ,Int.reduceEq,Int.reduceNe,Int.reduceLT,Int.reduceLE,Nat.reduceEqDiff,Nat.reduceAdd,reduceIte,reduceCtorEq,Nat.reduceLT,Nat.reduceLeDiff,Nat.reduceShiftRight,Nat.reduceMod]
 refine callS_of hCh ?_
 simp only [vZ,Int.reduceEq,Int.reduceNe,Int.reduceLT,Int.reduceLE,Nat.reduceEqDiff,Nat.reduceAdd,reduceIte,reduceCtorEq,Nat.reduceLT,Nat.reduceLeDiff,Nat.reduceShiftRight,Nat.reduceMod]
 refine callS_of hCF ?_
 simp only [vZ,Int.reduceEq,Int.reduceNe,Int.reduceLT,Int.reduceLE,Nat.reduceEqDiff,Nat.reduceAdd,reduceIte,reduceCtorEq,Nat.reduceLT,Nat.reduceLeDiff,Nat.reduceShiftRight,Nat.reduceMod]
 refine callS_of hPh ?_
 simp only [vZ,Int.reduceEq,Int.reduceNe,Int.reduceLT,Int.reduceLE,Nat.reduceEqDiff,Nat.reduceAdd,reduceIte,reduceCtorEq,Nat.reduceLT,Nat.reduceLeDiff,Nat.reduceShiftRight,Nat.reduceMod]
 refine callS_of hCT ?_
 simp only [vZ,Int.reduceEq,Int.reduceNe,Int.reduceLT,Int.reduceLE,Nat.reduceEqDiff,Nat.reduceAdd,reduceIte,reduceCtorEq,Nat.reduceLT,Nat.reduceLeDiff,Nat.reduceShiftRight,Nat.reduceMod]
 refine callS_of hCm ?_
 simp only [vZ,Int.reduceEq,Int.reduceNe,Int.reduceLT,Int.reduceLE,Nat.reduceEqDiff,Nat.reduceAdd,reduceIte,reduceCtorEq,Nat.reduceLT,Nat.reduceLeDiff,Nat.reduceShiftRight,Nat.reduceMod]
 refine callS_of hKe ?_
 simp only [vZ,Int.reduceEq,Int.reduceNe,Int.reduceLT,Int.reduceLE,Nat.reduceEqDiff,Nat.reduceAdd,reduceIte,reduceCtorEq,Nat.reduceLT,Nat.reduceLeDiff,Nat.reduceShiftRight,Nat.reduceMod]
 refine callS_of hSF ?_
 simp only [vZ,Int.reduceEq,Int.reduceNe,Int.reduceLT,Int.reduceLE,Nat.reduceEqDiff,Nat.reduceAdd,reduceIte,reduceCtorEq,Nat.reduceLT,Nat.reduceLeDiff,Nat.reduceShiftRight,Nat.reduceMod]
 refine callS_of hSu ?_
 simp only [vZ,Int.reduceEq,Int.reduceNe,Int.reduceLT,Int.reduceLE,Nat.reduceEqDiff,Nat.reduceAdd,reduceIte,reduceCtorEq,Nat.reduceLT,Nat.reduceLeDiff,Nat.reduceShiftRight,Nat.reduceMod]
 refine callS_of hWh ?_
 simp only [vZ,Int.reduceEq,Int.reduceNe,Int.reduceLT,Int.reduceLE,Nat.reduceEqDiff,Nat.reduceAdd,reduceIte,reduceCtorEq,Nat.reduceLT,Nat.reduceLeDiff,Nat.reduceShiftRight,Nat.reduceMod]
 refine callS_of hIc ?_
 simp only [vZ,Int.reduceEq,Int.reduceNe,Int.reduceLT,Int.reduceLE,Nat.reduceEqDiff,Nat.reduceAdd,reduceIte,reduceCtorEq,Nat.reduceLT,Nat.reduceLeDiff,Nat.reduceShiftRight,Nat.reduceMod]
 refine WL_cutW (envOf [(1,.sl (ints ch)),(3,.ptr 3 0 0),(7,.sl (ints (mdA items ch))),(28,.nils),(29,.nils)],stOf [(3,⟨102,2,[.agg [.sl (ints items),.int .i64 shifts]]⟩)]) rfl ?_ h22
 refine weakX [] (of_decide_eq_true rfl) (of_decide_eq_true rfl) ?_
 (simp only [vcW,vZ,Int.reduceEq,Int.reduceNe,Int.reduceLT,Int.reduceLE,Nat.reduceEqDiff,Nat.reduceAdd,reduceIte,reduceCtorEq,Nat.reduceLT,Nat.reduceLeDiff,Nat.reduceShiftRight,Nat.reduceMod])
 (repeat' first | exact trivial | (with_reducible first | exact RnB.fxB (ints_fxB _) | rfl | refine And.intro ?_ ?_) | (with_reducible (first | refine RnB.bb ?_ | refine RnB.nb ?_);simp only [vcW,vZ,Int.reduceEq,Int.reduceNe,Int.reduceLT,Int.reduceLE,Nat.reduceEqDiff,Nat.reduceAdd,reduceIte,reduceCtorEq,Nat.reduceLT,Nat.reduceLeDiff,Nat.reduceShiftRight,Nat.reduceMod]) | (with_reducible first | refine RnB.ii ?_ | refine RnB.app ?_) | (with_reducible refine RnB.fxB ?_;simp only [vcW,vZ,Int.reduceEq,Int.reduceNe,Int.reduceLT,Int.reduceLE,Nat.reduceEqDiff,Nat.reduceAdd,reduceIte,reduceCtorEq,Nat.reduceLT,Nat.reduceLeDiff,Nat.reduceShiftRight,Nat.reduceMod]) | omega)
end Go.Proofs.YtpaklfjlbocfcaaGreatDoor

