/- Weakening, said shortly: which keys are renamed; what is left are equations. By an AI agent; nothing here is trusted. -/
import Derived.Test.YtoiajhogondgcaaLayC
import Derived.Test.YtoiajhogondgcaaLayA
import Derived.Test.YtoiajhogondgcaaLayB
import Derived.LoopNIn
set_option linter.defProp false
set_option linter.unusedSimpArgs false
set_option linter.unusedVariables false
namespace Go.Av

def vR (s':Store) (f:Nat→Option Nat):AV→AV→Prop
 | _,.undef=>True
 | .buf k l,.buf k' l'=>f k'=some k∧l=l'
 | .ptr k i o,.ptr k' i' o'=>f k'=some k∧i=i'∧o=o'
 | .nils,.buf k' l'=>f k'=none∧l'=0∧∃ B,s' k'=some (some B)
 | .nils,.sl l=>l=[]
 | x,x'=>x=x'∧imm x=true
theorem vR_rn {s s':Store} {f:Nat→Option Nat} {x x':AV} (h:vR s' f x x'):Rn s s' f x x':=by
 cases x' with
 | undef=>exact .undef _
 | buf k' l' =>
  cases x <;> simp only [vR] at h <;> first
   | (obtain ⟨h1,rfl⟩:=h;exact .buf _ _ _ h1)
   | (obtain ⟨h1,rfl,B,h2⟩:=h;exact .virt _ B h1 h2)
   | (obtain ⟨h1,_⟩:=h;cases h1)
 | ptr k' i' o' =>
  cases x <;> simp only [vR] at h <;> first
   | (obtain ⟨h1,rfl,rfl⟩:=h;exact .ptr _ _ _ _ h1)
   | (obtain ⟨h1,_⟩:=h;cases h1)
 | sl l =>
  cases x <;> simp only [vR] at h <;> first
   | (subst h;exact .nil0)
   | (obtain ⟨h1,h2⟩:=h;cases h1;exact .imm _ h2)
   | (obtain ⟨h1,_⟩:=h;cases h1)
 | _ =>
  cases x <;> simp only [vR] at h <;> first
   | (obtain ⟨h1,h2⟩:=h;cases h1;exact .imm _ h2)
   | (obtain ⟨h1,_⟩:=h;cases h1)
section
variable {s':Store} {f:Nat→Option Nat}
theorem vR_undef (x:AV):vR s' f x .undef=True:=by cases x <;> rfl
theorem vR_buf (k l k' l':Nat):vR s' f (.buf k l) (.buf k' l')=(f k'=some k∧l=l'):=rfl
theorem vR_ptr (k i o k' i' o':Nat):vR s' f (.ptr k i o) (.ptr k' i' o')=(f k'=some k∧i=i'∧o=o'):=rfl
theorem vR_nb (k' l':Nat):vR s' f .nils (.buf k' l')=(f k'=none∧l'=0∧∃ B,s' k'=some (some B)):=rfl
theorem vR_ns (l:List AV):vR s' f .nils (.sl l)=(l=[]):=rfl
theorem vR_nn:vR s' f .nils .nils=True:=propext ⟨fun _=>trivial,fun _=>⟨rfl,rfl⟩⟩
theorem vR_int (k k':IntKind) (a b:Int):vR s' f (.int k a) (.int k' b)=(k=k'∧a=b):=by
 apply propext;constructor
 ·rintro ⟨h,_⟩;cases h;exact ⟨rfl,rfl⟩
 ·rintro ⟨rfl,rfl⟩;exact ⟨rfl,rfl⟩
theorem vR_bool (a b:Bool):vR s' f (.bool a) (.bool b)=(a=b):=by
 apply propext;constructor
 ·rintro ⟨h,_⟩;cases h;rfl
 ·rintro rfl;exact ⟨rfl,rfl⟩
theorem vR_str (a b:List UInt8):vR s' f (.str a) (.str b)=(a=b):=by
 apply propext;constructor
 ·rintro ⟨h,_⟩;cases h;rfl
 ·rintro rfl;exact ⟨rfl,rfl⟩
theorem vR_sl (a b:List AV):vR s' f (.sl a) (.sl b)=(a=b):=by
 apply propext;constructor
 ·rintro ⟨h,_⟩;cases h;rfl
 ·rintro rfl;exact ⟨rfl,rfl⟩
theorem vR_eptr (x y:AV) (o o':Nat):vR s' f (.eptr x o) (.eptr y o')=(x=y∧o=o'):=by
 apply propext;constructor
 ·rintro ⟨h,_⟩;cases h;exact ⟨rfl,rfl⟩
 ·rintro ⟨rfl,rfl⟩;exact ⟨rfl,rfl⟩
theorem vR_nilp:vR s' f .nilp .nilp=True:=propext ⟨fun _=>trivial,fun _=>⟨rfl,rfl⟩⟩
theorem vR_nili:vR s' f .nili .nili=True:=propext ⟨fun _=>trivial,fun _=>⟨rfl,rfl⟩⟩
theorem vR_ifc:vR s' f .ifc .ifc=True:=propext ⟨fun _=>trivial,fun _=>⟨rfl,rfl⟩⟩
theorem vR_fn (g g':FuncId) (cs cs':List AV):vR s' f (.fn g cs) (.fn g' cs')=(g=g'∧cs=cs'∧immL cs=true):=by
 apply propext;constructor
 ·rintro ⟨h,h2⟩;cases h;exact ⟨rfl,rfl,h2⟩
 ·rintro ⟨rfl,rfl,h⟩;exact ⟨rfl,h⟩
theorem vR_agg (cs cs':List AV):vR s' f (.agg cs) (.agg cs')=(cs=cs'∧immL cs=true):=by
 apply propext;constructor
 ·rintro ⟨h,h2⟩;cases h;exact ⟨rfl,h2⟩
 ·rintro ⟨rfl,h⟩;exact ⟨rfl,h⟩
end

def eR (s':Store) (f:Nat→Option Nat):List AV→List AV→Prop
 | [],[]=>True
 | x :: l,x' :: l'=>(cellsOf x=[x]∧cellsOf x'=[x']∧cell x'=true∧vR s' f x x')∧eR s' f l l'
 | _,_=>False
theorem eR_spec {s s':Store} {f:Nat→Option Nat}:∀ {l l':List AV},eR s' f l l'→l'.length=l.length∧∀ (i:Nat) (x x':AV),l[i]?=some x→l'[i]?=some x' →
  (cellsOf x').length=(cellsOf x).length∧cellsOk x'∧∀ (o:Nat) (c c':AV),(cellsOf x)[o]?=some c→(cellsOf x')[o]?=some c'→Rn s s' f c c'
 | [],[],_=>⟨rfl,fun i x x' h=>by simp at h⟩
 | y :: l,y' :: l',h=>by
  obtain ⟨⟨h1,h2,h3,h4⟩,h5⟩:=h
  obtain ⟨g1,g2⟩:=eR_spec (s:=s) h5
  refine ⟨by simp [g1],fun i x x' k1 k2=>?_⟩
  cases i with
  | zero =>
   simp at k1 k2;subst k1;subst k2
   refine ⟨by rw [h1,h2];rfl,fun c hc=>by rw [h2] at hc;simp at hc;subst hc;exact h3,fun o c c' k3 k4=>?_⟩
   rw [h1] at k3;rw [h2] at k4
   cases o with
   | zero=>simp at k3 k4;subst k3;subst k4;exact vR_rn h4
   | succ o=>simp at k3
  | succ i=>exact g2 i x x' (by simpa using k1) (by simpa using k2)
 | [],_ :: _,h=>h.elim
 | _ :: _,[],h=>h.elim
theorem RnB.cells {s s':Store} {f:Nat→Option Nat} {ty sz:Nat} {es es':List AV} (h:eR s' f es es'):RnB s s' f ⟨ty,sz,es⟩ ⟨ty,sz,es'⟩:=⟨rfl,rfl,(eR_spec (s:=s) h).1,(eR_spec h).2⟩
theorem RnB.eq {s s':Store} {f:Nat→Option Nat} {ty sz:Nat} {es es':List AV} (h:es=es') (hf:es.all Go.Av.fx=true):RnB s s' f ⟨ty,sz,es⟩ ⟨ty,sz,es'⟩:=by subst h;exact RnB.fxB hf

theorem RnB.bb {s s':Store} {f:Nat→Option Nat} {ty sz k l k' l':Nat} (h:f k'=some k∧l=l'):RnB s s' f ⟨ty,sz,[.buf k l]⟩ ⟨ty,sz,[.buf k' l']⟩:=RnB.cells ⟨⟨rfl,rfl,rfl,h⟩,trivial⟩
theorem RnB.nb {s s':Store} {f:Nat→Option Nat} {ty sz k' l':Nat} (h:f k'=none∧l'=0∧∃ B,s' k'=some (some B)):RnB s s' f ⟨ty,sz,[.nils]⟩ ⟨ty,sz,[.buf k' l']⟩:=RnB.cells ⟨⟨rfl,rfl,rfl,h⟩,trivial⟩
theorem RnB.ii {s s':Store} {f:Nat→Option Nat} {ty sz:Nat} {k:IntKind} {a b:Int} (h:a=b):RnB s s' f ⟨ty,sz,[.int k a]⟩ ⟨ty,sz,[.int k b]⟩:=by subst h;exact RnB.fxB rfl
theorem RnB.app {s s':Store} {f:Nat→Option Nat} {ty sz:Nat} {l:List Int} {a:Int} {es:List AV} (h:es=ints (l ++ [a])):RnB s s' f ⟨ty,sz,ints l ++ [.int .i64 a]⟩ ⟨ty,sz,es⟩:=by
 subst h;exact RnB.eq (by rw [ints_append];rfl) (by rw [List.all_append,ints_fxB];rfl)

def exK:List (Nat × Option Nat)→Nat→Option Nat
 | [],k=>some k
 | (a,b) :: r,k=>if k=a then b else exK r k
def kN (x:List (Nat × Option Nat)) (L:List (Nat × Blk)):List (Nat × Option Nat × Blk):=L.map fun p=>(p.1,exK x p.1,p.2)
def allW (s s':Store) (f:Nat→Option Nat) (x:List (Nat × Option Nat)):List (Nat × Blk)→Prop
 | []=>True
 | (k,B') :: L=>(match exK x k with
  | some k0=>∃ B,s k0=some (some B)∧RnB s s' f B B'
  | none=>B'.es=[]∧0<B'.sz)∧allW s s' f x L
def allV (s':Store) (f:Nat→Option Nat) (e:Env):List (Nat × AV)→Prop
 | []=>True
 | (n,v) :: l=>vR s' f (e n) v∧allV s' f e l
theorem kN_map (x:List (Nat × Option Nat)):∀ (L:List (Nat × Blk)),(kN x L).map (fun p=>(p.1,p.2.2))=L
 | []=>rfl
 | (k,B) :: L=>congrArg ((k,B) :: ·) (kN_map x L)
theorem allW_all {s s':Store} {f:Nat→Option Nat} {x:List (Nat × Option Nat)}:∀ {L:List (Nat × Blk)},allW s s' f x L→∀ p ∈ kN x L,match p.2.1 with
   | some k=>∃ B,s k=some (some B)∧RnB s s' f B p.2.2
   | none=>p.2.2.es=[]∧0<p.2.2.sz
 | [],_,p,hp=>by cases hp
 | (k,B) :: L,h,p,hp=>by
  rcases List.mem_cons.1 hp with rfl | hp
  ·exact h.1
  ·exact allW_all h.2 p hp
theorem allV_all {s s':Store} {f:Nat→Option Nat} {e:Env}:∀ {l:List (Nat × AV)},allV s' f e l→∀ p ∈ l,Rn s s' f (e p.1) p.2
 | [],_,p,hp=>by cases hp
 | (n,v) :: l,h,p,hp=>by
  rcases List.mem_cons.1 hp with rfl | hp
  ·exact vR_rn h.1
  ·exact allV_all h.2 p hp

theorem weakX {e:Env} {s:Store} {l:List (Nat × AV)} {L:List (Nat × Blk)} (x:List (Nat × Option Nat)) (hd:((kN x L).map (·.1)).Nodup) (hd':((kN x L).filterMap (·.2.1)).Nodup)
  (h:allV (stOf L) (keyOf (kN x L)) e l∧allW s (stOf L) (keyOf (kN x L)) x L):Weak (e,s) (envOf l,stOf L):=by
 have:=weak_to (e:=e) (s:=s) l (kN x L) hd hd' (by rw [kN_map];exact allW_all h.2) (by rw [kN_map];exact allV_all h.1)
 rw [kN_map] at this
 exact this
theorem weakXX {K:Nat} {e:Env} {s:Store} {l:List (Nat × AV)} {L:List (Nat × Blk)} (x:List (Nat × Option Nat)) (hK:keyOf (kN x L) K=some K) (hd:((kN x L).map (·.1)).Nodup) (hd':((kN x L).filterMap (·.2.1)).Nodup)
  (h:allV (stOf L) (keyOf (kN x L)) e l∧allW s (stOf L) (keyOf (kN x L)) x L):WeakX K (e,s) (envOf l,stOf L):=by
 have:=weak_toX (K:=K) (e:=e) (s:=s) l (kN x L) hK hd hd' (by rw [kN_map];exact allW_all h.2) (by rw [kN_map];exact allV_all h.1)
 rw [kN_map] at this
 exact this
theorem kN_nil (x:List (Nat × Option Nat)):kN x []=[]:=rfl
theorem kN_cons (x:List (Nat × Option Nat)) (k:Nat) (B:Blk) (L:List (Nat × Blk)):kN x ((k,B) :: L)=(k,exK x k,B) :: kN x L:=rfl
theorem exK_nil (k:Nat):exK [] k=some k:=rfl
theorem exK_cons (a:Nat) (b:Option Nat) (r:List (Nat × Option Nat)) (k:Nat):exK ((a,b) :: r) k=if k=a then b else exK r k:=rfl
theorem allW_nil (s s':Store) (f:Nat→Option Nat) (x:List (Nat × Option Nat)):allW s s' f x []=True:=rfl
def blkW (s s':Store) (f:Nat→Option Nat) (o:Option Nat) (B':Blk):Prop:=match o with
 | some k0=>∃ B,s k0=some (some B)∧RnB s s' f B B'
 | none=>B'.es=[]∧0<B'.sz
theorem allW_cons (s s':Store) (f:Nat→Option Nat) (x:List (Nat × Option Nat)) (k:Nat) (B':Blk) (L:List (Nat × Blk)):allW s s' f x ((k,B') :: L)=(blkW s s' f (exK x k) B'∧allW s s' f x L):=rfl
theorem blkW_some (s s':Store) (f:Nat→Option Nat) (k0:Nat) (B':Blk):blkW s s' f (some k0) B'=∃ B,s k0=some (some B)∧RnB s s' f B B':=rfl
theorem blkW_none (s s':Store) (f:Nat→Option Nat) (ty sz:Nat) (es:List AV):blkW s s' f none ⟨ty,sz,es⟩=(es=[]∧0<sz):=rfl
theorem allV_nil (s':Store) (f:Nat→Option Nat) (e:Env):allV s' f e []=True:=rfl
theorem allV_cons (s':Store) (f:Nat→Option Nat) (e:Env) (n:Nat) (v:AV) (l:List (Nat × AV)):allV s' f e ((n,v) :: l)=(vR s' f (e n) v∧allV s' f e l):=rfl
theorem keyOf_nil (k:Nat):keyOf [] k=none:=rfl
theorem exE (B0:Blk):(∃ B,some (some B0)=some (some B))=True:=propext ⟨fun _=>trivial,fun _=>⟨B0,rfl⟩⟩
theorem ints_nil:ints []=[]:=rfl
def vcW:=And.intro vcK <| And.intro @ints_nil <| And.intro @kN_nil <| And.intro @kN_cons <| And.intro @exK_nil <| And.intro @exK_cons <| And.intro @allW_nil <| And.intro @allW_cons <| And.intro @blkW_some <| And.intro @blkW_none <| And.intro @allV_nil <| And.intro @allV_cons <| And.intro @keyOf_nil <| And.intro @exE <| And.intro @vR_undef <| And.intro @vR_buf <| And.intro @vR_ptr <| And.intro @vR_nb <| And.intro @vR_ns <| And.intro @vR_nn <| And.intro @vR_int <| And.intro @vR_bool <| And.intro @vR_str <| And.intro @vR_sl <| And.intro @vR_eptr <| And.intro @vR_nilp <| And.intro @vR_nili <| And.intro @vR_ifc <| And.intro @vR_fn <| @vR_agg
end Go.Av

/- A range over a function that is left;conditions of regions that draw. By an AI agent;nothing here is trusted. -/
namespace Go.Av

def outQ (Q:Exit→Env→Store→Prop) (e:Env):Exit→Env→Store→Prop:=fun ex _ s2=>match ex with
 | .ret=>Q .ret e s2
 | .exit id=>Q (.exit id) e s2
 | _=>False
theorem outQ_r (Q:Exit→Env→Store→Prop) (e e2:Env) (s2:Store):outQ Q e .ret e2 s2=Q .ret e s2:=rfl
theorem outQ_x (Q:Exit→Env→Store→Prop) (e e2:Env) (s2:Store) (id:Nat):outQ Q e (.exit id) e2 s2=Q (.exit id) e s2:=rfl
theorem outQ_n (Q:Exit→Env→Store→Prop) (e e2:Env) (s2:Store):outQ Q e .normal e2 s2=False:=rfl

section
variable {P:Program} {N:Nat}
end

def confP (a b:Option (List Nat)):Prop:=match a,b with
 | some T,some T'=>disj T T'=true
 | _,_=>False
theorem confP_some (T T':List Nat):confP (some T) (some T')=(disj T T'=true):=rfl
def cnew (a b:MOp):Bool:=isCall a && newOp b
theorem confOk_cons (a b:MS) (l:List (MS × MS)) (e:Env):confOk ((a,b) :: l) e=((if cnew a.o b.o=true then True else confP (tkM a e) (tkM b e))∧confOk l e):=by
 apply propext
 constructor
 ·intro h
  refine ⟨?_,fun p hp=>h p (List.mem_cons_of_mem _ hp)⟩
  rcases h (a,b) List.mem_cons_self with ⟨c1,c2⟩ | ⟨T,T',h1,h2,h3⟩
  ·rw [if_pos (by unfold cnew;rw [c1,c2];rfl)];trivial
  ·split
   ·trivial
   ·simp only at h1 h2
    rw [h1,h2]
    refine List.all_eq_true.2 fun k hk=>?_
    have:=h3 k hk
    simpa using this
 ·rintro ⟨h1,h2⟩ p hp
  rcases List.mem_cons.1 hp with rfl | hp
  ·split at h1
   ·rename_i hc
    simp only [cnew,Bool.and_eq_true] at hc
    exact .inl hc
   ·refine .inr ?_
    simp only
    generalize tkM a e=A at h1
    generalize tkM b e=B at h1
    cases A with
    | none=>exact h1.elim
    | some T =>
     cases B with
     | none=>exact h1.elim
     | some T' =>
      refine ⟨T,T',rfl,rfl,fun k hk=>?_⟩
      have:=List.all_eq_true.1 h1 k hk
      simpa using this
  ·exact h2 p hp
theorem cnew_alloc (ty sz:Nat) (z:AV) (o:MOp):cnew (.alloc ty sz z) o=false:=Bool.false_and _
theorem newOp_alloc (ty sz:Nat) (z:AV):newOp (.alloc ty sz z)=true:=rfl
theorem cnew_box (ty sz:Nat) (x:MX) (o:MOp):cnew (.box ty sz x) o=false:=Bool.false_and _
theorem newOp_box (ty sz:Nat) (x:MX):newOp (.box ty sz x)=true:=rfl
theorem cnew_buildSlice (ty sz n:Nat) (z:AV) (ps:List (Nat × MX)) (o:MOp):cnew (.buildSlice ty sz n z ps) o=false:=Bool.false_and _
theorem newOp_buildSlice (ty sz n:Nat) (z:AV) (ps:List (Nat × MX)):newOp (.buildSlice ty sz n z ps)=true:=rfl
theorem cnew_makeSlice (ty sz by_:Nat) (z:AV) (l c:MX) (o:MOp):cnew (.makeSlice ty sz by_ z l c) o=false:=Bool.false_and _
theorem newOp_makeSlice (ty sz by_:Nat) (z:AV) (l c:MX):newOp (.makeSlice ty sz by_ z l c)=true:=rfl
theorem cnew_load (n:Option Nat) (x:MX) (o:MOp):cnew (.load n x) o=false:=Bool.false_and _
theorem newOp_load (n:Option Nat) (x:MX):newOp (.load n x)=false:=rfl
theorem cnew_store (n:Nat) (x v:MX) (o:MOp):cnew (.store n x v) o=false:=Bool.false_and _
theorem newOp_store (n:Nat) (x v:MX):newOp (.store n x v)=false:=rfl
theorem cnew_len (b:Bool) (x:MX) (o:MOp):cnew (.len b x) o=false:=Bool.false_and _
theorem newOp_len (b:Bool) (x:MX):newOp (.len b x)=false:=rfl
theorem cnew_indexAddr (x i:MX) (sz:Nat) (o:MOp):cnew (.indexAddr x i sz) o=false:=Bool.false_and _
theorem newOp_indexAddr (x i:MX) (sz:Nat):newOp (.indexAddr x i sz)=false:=rfl
theorem cnew_indexArr (x i:MX) (sz len:Nat) (o:MOp):cnew (.indexArr x i sz len) o=false:=Bool.false_and _
theorem newOp_indexArr (x i:MX) (sz len:Nat):newOp (.indexArr x i sz len)=false:=rfl
theorem cnew_fieldAddr (x:MX) (off:Nat) (o:MOp):cnew (.fieldAddr x off) o=false:=Bool.false_and _
theorem newOp_fieldAddr (x:MX) (off:Nat):newOp (.fieldAddr x off)=false:=rfl
theorem cnew_nilCheck (x:MX) (o:MOp):cnew (.nilCheck x) o=false:=Bool.false_and _
theorem newOp_nilCheck (x:MX):newOp (.nilCheck x)=false:=rfl
theorem cnew_append (ty sz by_:Nat) (z:AV) (s x:MX) (o:MOp):cnew (.append ty sz by_ z s x) o=false:=Bool.false_and _
theorem newOp_append (ty sz by_:Nat) (z:AV) (s x:MX):newOp (.append ty sz by_ z s x)=false:=rfl
theorem cnew_slice (str:Bool) (sz:Nat) (x:MX) (lo hi:Option MX) (o:MOp):cnew (.slice str sz x lo hi) o=false:=Bool.false_and _
theorem newOp_slice (str:Bool) (sz:Nat) (x:MX) (lo hi:Option MX):newOp (.slice str sz x lo hi)=false:=rfl
theorem cnew_call (f:FuncId) (xs:List MX) (o:MOp):cnew (.call f xs) o=newOp o:=Bool.true_and _
theorem newOp_call (f:FuncId) (xs:List MX):newOp (.call f xs)=false:=rfl
theorem cnew_callv (x:MX) (xs:List MX) (o:MOp):cnew (.callv x xs) o=newOp o:=Bool.true_and _
theorem newOp_callv (x:MX) (xs:List MX):newOp (.callv x xs)=false:=rfl
def vcCn:=And.intro @cnew_alloc <| And.intro @newOp_alloc <| And.intro @cnew_box <| And.intro @newOp_box <| And.intro @cnew_buildSlice <| And.intro @newOp_buildSlice <| And.intro @cnew_makeSlice <| And.intro @newOp_makeSlice <| And.intro @cnew_load <| And.intro @newOp_load <| And.intro @cnew_store <| And.intro @newOp_store <| And.intro @cnew_len <| And.intro @newOp_len <| And.intro @cnew_indexAddr <| And.intro @newOp_indexAddr <| And.intro @cnew_indexArr <| And.intro @newOp_indexArr <| And.intro @cnew_fieldAddr <| And.intro @newOp_fieldAddr <| And.intro @cnew_nilCheck <| And.intro @newOp_nilCheck <| And.intro @cnew_append <| And.intro @newOp_append <| And.intro @cnew_slice <| And.intro @newOp_slice <| And.intro @cnew_call <| And.intro @newOp_call <| And.intro @cnew_callv <| @newOp_callv
theorem tk_call (g:Option (Nat × Bool)) (d:Option Nat) (f:FuncId) (xs:List MX) (e:Env):tkM ⟨g,d,.call f xs⟩ e=if (xs.map fun x=>x.ev e).all imm=true then some [] else none:=rfl
theorem tk_alloc (g:Option (Nat × Bool)) (d:Option Nat) (ty sz:Nat) (z:AV) (e:Env):tkM ⟨g,d,.alloc ty sz z⟩ e=some [d.getD 0]:=rfl
theorem tk_box (g:Option (Nat × Bool)) (d:Option Nat) (ty sz:Nat) (x:MX) (e:Env):tkM ⟨g,d,.box ty sz x⟩ e=some (refs1 (x.ev e) ++ [d.getD 0]):=by simp [tkM,tk,pureOp,xsOf,allocs]
theorem tk_buildSlice (g:Option (Nat × Bool)) (d:Option Nat) (ty sz n:Nat) (z:AV) (ps:List (Nat × MX)) (e:Env):tkM ⟨g,d,.buildSlice ty sz n z ps⟩ e=some ((ps.map (·.2)).flatMap (fun x=>refs1 (x.ev e)) ++ [d.getD 0]):=by simp [tkM,tk,pureOp,xsOf,allocs]
theorem tk_makeSlice (g:Option (Nat × Bool)) (d:Option Nat) (ty sz by_:Nat) (z:AV) (l c:MX) (e:Env):tkM ⟨g,d,.makeSlice ty sz by_ z l c⟩ e=some (refs1 (l.ev e) ++ (refs1 (c.ev e) ++ [d.getD 0])):=by simp [tkM,tk,pureOp,xsOf,allocs]
theorem tk_load (g:Option (Nat × Bool)) (d:Option Nat) (n:Option Nat) (x:MX) (e:Env):tkM ⟨g,d,.load n x⟩ e=some (refs1 (x.ev e)):=by simp [tkM,tk,pureOp,xsOf,allocs]
theorem tk_store (g:Option (Nat × Bool)) (d:Option Nat) (n:Nat) (x v:MX) (e:Env):tkM ⟨g,d,.store n x v⟩ e=some (refs1 (x.ev e) ++ refs1 (v.ev e)):=by simp [tkM,tk,pureOp,xsOf,allocs]
theorem tk_len (g:Option (Nat × Bool)) (d:Option Nat) (b:Bool) (x:MX) (e:Env):tkM ⟨g,d,.len b x⟩ e=some (refs1 (x.ev e)):=by simp [tkM,tk,pureOp,xsOf,allocs]
theorem tk_indexAddr (g:Option (Nat × Bool)) (d:Option Nat) (x i:MX) (sz:Nat) (e:Env):tkM ⟨g,d,.indexAddr x i sz⟩ e=some (refs1 (x.ev e) ++ refs1 (i.ev e)):=by simp [tkM,tk,pureOp,xsOf,allocs]
theorem tk_fieldAddr (g:Option (Nat × Bool)) (d:Option Nat) (x:MX) (o:Nat) (e:Env):tkM ⟨g,d,.fieldAddr x o⟩ e=some (refs1 (x.ev e)):=by simp [tkM,tk,pureOp,xsOf,allocs]
theorem tk_nilCheck (g:Option (Nat × Bool)) (d:Option Nat) (x:MX) (e:Env):tkM ⟨g,d,.nilCheck x⟩ e=some (refs1 (x.ev e)):=by simp [tkM,tk,pureOp,xsOf,allocs]
theorem tk_append (g:Option (Nat × Bool)) (d:Option Nat) (ty sz by_:Nat) (z:AV) (s x:MX) (e:Env):tkM ⟨g,d,.append ty sz by_ z s x⟩ e=some (refs1 (s.ev e) ++ (refs1 (x.ev e) ++ [d.getD 0])):=by simp [tkM,tk,pureOp,xsOf,allocs]
theorem refs1_buf (k n:Nat):refs1 (.buf k n)=[k]:=rfl
theorem refs1_ptr (k i o:Nat):refs1 (.ptr k i o)=[k]:=rfl
theorem refs1_int (k:IntKind) (n:Int):refs1 (.int k n)=[]:=rfl
theorem refs1_bool (b:Bool):refs1 (.bool b)=[]:=rfl
theorem refs1_str (b:List UInt8):refs1 (.str b)=[]:=rfl
theorem refs1_sl (l:List AV):refs1 (.sl l)=[]:=rfl
theorem refs1_nils:refs1 .nils=[]:=rfl
theorem refs1_agg (l:List AV):refs1 (.agg l)=[]:=rfl
theorem refs1_tup (l:List AV):refs1 (.tup l)=[]:=rfl
theorem refs1_eptr (x:AV) (o:Nat):refs1 (.eptr x o)=[]:=rfl
theorem disj_nil (T:List Nat):disj [] T=true:=rfl
theorem disj_cons (k:Nat) (T T':List Nat):disj (k :: T) T'=(!(T'.contains k) && disj T T'):=rfl
theorem flatMap_nil' (f:MX→List Nat):List.flatMap f []=[]:=rfl
theorem flatMap_cons' (f:MX→List Nat) (x:MX) (l:List MX):List.flatMap f (x :: l)=f x ++ List.flatMap f l:=by simp
theorem contains_nil' (k:Nat):([]:List Nat).contains k=false:=rfl
theorem contains_cons' (k a:Nat) (l:List Nat):(a :: l).contains k=(decide (k=a) || l.contains k):=by
 rw [List.contains_cons]
 by_cases h:k=a <;> simp [h]
def vcD:=And.intro vcCn <| And.intro @refsL_imm <| And.intro @killAll_nil <| And.intro Bool.or_false <| And.intro Bool.false_or <| And.intro Bool.or_true <| And.intro Bool.true_or <| And.intro @confP_some <| And.intro @confOk_cons <| And.intro @tk_call <| And.intro @tk_alloc <| And.intro @tk_box <| And.intro @tk_buildSlice <| And.intro @tk_makeSlice <| And.intro @tk_load <| And.intro @tk_store <| And.intro @tk_len <| And.intro @tk_indexAddr <| And.intro @tk_fieldAddr <| And.intro @tk_nilCheck <| And.intro @tk_append <| And.intro @refs1_buf <| And.intro @refs1_ptr <| And.intro @refs1_int <| And.intro @refs1_bool <| And.intro @refs1_str <| And.intro @refs1_sl <| And.intro @refs1_nils <| And.intro @refs1_agg <| And.intro @refs1_tup <| And.intro @refs1_eptr <| And.intro @disj_nil <| And.intro @disj_cons <| And.intro @flatMap_nil' <| And.intro @flatMap_cons' <| And.intro @contains_nil' <| And.intro @contains_cons' <| And.intro @outQ_r <| And.intro @outQ_x <| @outQ_n
end Go.Av

/- Own buffers handed to a call: which keys are let go. By an AI agent;nothing here is trusted. -/
namespace Go.Av
def refsK (s:Store) (n len:Nat) (b:Option (Option Blk)):List Nat:=match b with
 | some (some B)=>if (B.es.take len).all imm then [] else (B.es.take len).flatMap (refs s n)
 | _=>[]
theorem refs_buf (s:Store) (n k len:Nat):refs s (n+1) (.buf k len)=k :: refsK s n len (s k):=rfl
theorem ints_imm (l:List Int):(ints l).all imm=true:=List.all_eq_true.2 fun x hx=>by
 obtain ⟨n,_,rfl⟩:=List.mem_map.1 hx;rfl
end Go.Av

/- A function that writes one block of its caller: the contract out of a verification condition. By an AI agent;nothing here is trusted. -/
namespace Go.Av
open Go.RowKit (Below)
variable {P:Program}
section
variable {N:Nat} {Q:Exit→Env→Store→Prop} {e:Env} {s:Store}
def rnd (P:Program) (N:Nat) (b:MC) (Q:Exit→Env→Store→Prop):Nat→Env→Store→Prop
 | 0,_,_=>False
 | n+1,e,s=>W P N b (seqQ (rnd P N b Q n) Q .mk) e s .mk
theorem rnd_s (b:MC) (n:Nat):rnd P N b Q (n+1) e s=W P N b (seqQ (rnd P N b Q n) Q .mk) e s .mk:=rfl
def rndW (P:Program) (N:Nat) (b:MC) (Q:Exit→Env→Store→Prop):Nat→Env→Store→Prop
 | 0,_,_=>False
 | n+1,e,s=>∃ q,Weak (e,s) q∧W P N b (seqQ (rndW P N b Q n) Q .mk) q.1 q.2 .mk
theorem rndW_of {b:MC} {n:Nat} (q:Env × Store) (hw:Weak (e,s) q) (h:W P N b (seqQ (rndW P N b Q n) Q .mk) q.1 q.2 .mk):rndW P N b Q (n+1) e s:=⟨q,hw,h⟩
theorem W_rndW {b:MC} {t} (n:Nat) (h:rndW P N b Q n e s):W P N (.loop b) Q e s t:=by
 intro c hc ro rm B w0 ok0 ok ρ a w hfl hR
 have hpl:Plain ro ok0:=hfl.resolve_left (by simp [MC.flat])
 rcases cCode_inv hc with ⟨_,h'⟩ | ⟨_,_,_,_,_,_,h',_⟩ | ⟨_,_,_,_,_,h',_⟩ | ⟨_,_,_,_,_,_,h',_⟩ | ⟨_,_,_,_,h',_⟩ | ⟨cx,_,rfl,h',h1⟩ | ⟨_,_,h'⟩ | ⟨_,h'⟩ | ⟨_,_,_,_,_,_,_,h',_⟩ <;> first | (cases h';done) | skip
 cases h'
 refine wpIn_loop_rounds n ?_
 clear hfl
 induction n generalizing e s ok ρ a w with
 | zero=>exact h.elim
 | succ n ih =>
  obtain ⟨q,hw,h⟩:=h
  obtain ⟨ok1,ρ1,_,hR1⟩:=hw N B w0 ok0 ok ρ a w hpl.2 hR
  refine wpIn_mono (W_sound h cx h1 ro rm B w0 ok0 ok1 ρ1 a w (.inr hpl) hR1) fun ex a' w' ⟨e',s',ok',ρ',hR',hq⟩=>?_
  cases ex with
  | normal=>exact ih (t:=.mk) hq _ _ _ _ hR'
  | _=>exact ⟨e',s',ok',ρ',hR',hq⟩
theorem rnd_W {b:MC}:∀ (n:Nat) {e:Env} {s:Store},rnd P N b Q n e s→∀ c,cCode P N c=some (.loop b)→∀ (ro:Option Nat) (rm:Nat) (B:Nat) (w0:World) (ok0:F0) (ok:Nat→Prop) (ρ:Nat→Option Nat) (a:Act) (w:World),Plain ro ok0→Rel N B w0 ok0 ok ρ e s a w →
  ∃ cx,c=.loop cx∧Code.roundsIn (Fr ro) rm P cx (fun x a' w'=>∃ e' s' ok' ρ',Rel N B w0 ok0 ok' ρ' e' s' a' w'∧Q x e' s') n a w:=by
 intro n e s h c hc ro rm B w0 ok0 ok ρ a w hpl hR
 rcases cCode_inv hc with ⟨_,h'⟩ | ⟨_,_,_,_,_,_,h',_⟩ | ⟨_,_,_,_,_,h',_⟩ | ⟨_,_,_,_,_,_,h',_⟩ | ⟨_,_,_,_,h',_⟩ | ⟨cx,_,rfl,h',h1⟩ | ⟨_,_,h'⟩ | ⟨_,h'⟩ | ⟨_,_,_,_,_,_,_,h',_⟩ <;> first | (cases h';done) | skip
 cases h'
 refine ⟨cx,rfl,?_⟩
 induction n generalizing e s ok ρ a w with
 | zero=>exact h.elim
 | succ n ih =>
  refine wpIn_mono (W_sound h cx h1 ro rm B w0 ok0 ok ρ a w (.inr hpl) hR) fun ex a' w' ⟨e',s',ok',ρ',hR',hq⟩=>?_
  cases ex with
  | normal=>exact ih hq _ _ _ _ hR'
  | _=>exact ⟨e',s',ok',ρ',hR',hq⟩
theorem W_rnd {b:MC} {t} (n:Nat) (h:rnd P N b Q n e s):W P N (.loop b) Q e s t:=by
 intro c hc ro rm B w0 ok0 ok ρ a w hfl hR
 obtain ⟨cx,rfl,hr⟩:=rnd_W n h c hc ro rm B w0 ok0 ok ρ a w (hfl.resolve_left (by simp [MC.flat])) hR
 exact wpIn_loop_rounds n hr

def AWX (P:Program) (N K:Nat) (m:MC) (Q:Exit→Env→Store→Prop) (e:Env) (s:Store):Prop:=∀ c,cCode P N c=some m→∀ (rm:Nat) (B:Nat) (w0:World) (ok0:F0) (ok:Nat→Prop) (ρ:Nat→Option Nat) (a:Act) (w:World),LentK K ok0.s→Rel N B w0 ok0 ok ρ e s a w →
  c.wpIn (Fr none) rm P (fun x a' w'=>∃ e' s' ok' ρ',Rel N B w0 ok0 ok' ρ' e' s' a' w'∧Q x e' s') a w
theorem AWM.x {m:MC} {K:Nat} (hf:m.flat=true) (h:AWM P N m Q e s):AWX P N K m Q e s:=fun c hc rm B w0 ok0 ok ρ a w _ hR=>h c hc none rm B w0 ok0 ok ρ a w (.inl hf) hR
theorem AWX.mono {m:MC} {K:Nat} {Q':Exit→Env→Store→Prop} (h:AWX P N K m Q e s) (hq:∀ x e' s',Q x e' s'→Q' x e' s'):AWX P N K m Q' e s :=
 fun c hc rm B w0 ok0 ok ρ a w h0 hR=>wpIn_mono (h c hc rm B w0 ok0 ok ρ a w h0 hR) fun _ _ _ ⟨e',s',ok',ρ',h1,h2⟩=>⟨e',s',ok',ρ',h1,hq _ _ _ h2⟩
theorem X_seq {K:Nat} {a b:MC} (h:AWX P N K a (seqQ (fun e s=>AWX P N K b Q e s) Q .mk) e s):AWX P N K (.seq a b) Q e s:=by
 intro c hc rm B w0 ok0 ok ρ a w h0 hR
 rcases cCode_inv hc with ⟨_,h'⟩ | ⟨_,_,_,_,_,_,h',_⟩ | ⟨cx,cy,_,_,rfl,h',h1,h2⟩ | ⟨_,_,_,_,_,_,h',_⟩ | ⟨_,_,_,_,h',_⟩ | ⟨_,_,_,h',_⟩ | ⟨_,_,h'⟩ | ⟨_,h'⟩ | ⟨_,_,_,_,_,_,_,h',_⟩ <;> first | (cases h';done) | skip
 cases h'
 refine wpIn_seq (wpIn_mono (h cx h1 rm B w0 ok0 ok ρ a w h0 hR) fun ex a' w' ⟨e',s',ok',ρ',hR',hq⟩=>?_)
 cases ex with
 | normal=>exact hq cy h2 rm B w0 ok0 ok' ρ' a' w' h0 hR'
 | _=>exact ⟨e',s',ok',ρ',hR',hq⟩
theorem X_cond {K:Nat} {x:MX} {p q:MC} (h:condS (x.ev e) (AWX P N K p Q e s) (AWX P N K q Q e s) .mk):AWX P N K (.cond x p q) Q e s:=by
 intro c hc rm B w0 ok0 ok ρ a w h0 hR
 rcases cCode_inv hc with ⟨_,h'⟩ | ⟨_,_,_,_,_,_,h',_⟩ | ⟨_,_,_,_,_,h',_⟩ | ⟨o,cx,cy,_,_,rfl,h',h1,h2⟩ | ⟨_,_,_,_,h',_⟩ | ⟨_,_,_,h',_⟩ | ⟨_,_,h'⟩ | ⟨_,h'⟩ | ⟨_,_,_,_,_,_,_,h',_⟩ <;> first | (cases h';done) | skip
 cases h'
 unfold condS at h
 split at h
 ·rename_i t ht
  have hv:=hR.ev o
  rw [ht] at hv
  generalize hav:a.eval o=av at hv
  cases hv
  refine wpIn_cond hav ?_
  cases t with
  | true=>exact h.1 rfl cx h1 rm B w0 ok0 ok ρ a w h0 hR
  | false=>exact h.2 rfl cy h2 rm B w0 ok0 ok ρ a w h0 hR
 ·exact h.elim
theorem X_block {K:Nat} {id:Nat} {p:MC} (h:AWX P N K p (blockQ id Q .mk) e s):AWX P N K (.block id p) Q e s:=by
 intro c hc rm B w0 ok0 ok ρ a w h0 hR
 rcases cCode_inv hc with ⟨_,h'⟩ | ⟨_,_,_,_,_,_,h',_⟩ | ⟨_,_,_,_,_,h',_⟩ | ⟨_,_,_,_,_,_,h',_⟩ | ⟨id',cx,_,rfl,h',h1⟩ | ⟨_,_,_,h',_⟩ | ⟨_,_,h'⟩ | ⟨_,h'⟩ | ⟨_,_,_,_,_,_,_,h',_⟩ <;> first | (cases h';done) | skip
 cases h'
 refine wpIn_block (wpIn_mono (h cx h1 rm B w0 ok0 ok ρ a w h0 hR) fun ex a' w' ⟨e',s',ok',ρ',hR',hq⟩=>?_)
 cases ex with
 | exit id' =>
  simp only [Exit.inBlock]
  simp only [blockQ] at hq
  split at hq
  ·rename_i hid;rw [if_pos hid];exact ⟨e',s',ok',ρ',hR',hq⟩
  ·rename_i hid;rw [if_neg hid];exact ⟨e',s',ok',ρ',hR',hq⟩
 | _=>exact ⟨e',s',ok',ρ',hR',hq⟩
def WX0 (P:Program) (N K:Nat):MC→(Exit→Env→Store→Prop)→Env→Store→Prop
 | .skip,Q,e,s=>Q .normal e s
 | .reg ss draw conf,Q,e,s=>V P draw ss e s (regK conf Q .mk) .mk
 | .seq a b,Q,e,s=>WX0 P N K a (seqQ (fun e s=>WX0 P N K b Q e s) Q .mk) e s
 | .cond x a b,Q,e,s=>condS (x.ev e) (WX0 P N K a Q e s) (WX0 P N K b Q e s) .mk
 | .block id a,Q,e,s=>WX0 P N K a (blockQ id Q .mk) e s
 | .exit id,Q,e,s=>Q (.exit id) e s
 | .ret,Q,e,s=>Q .ret e s
 | m,Q,e,s=>AWX P N K m Q e s
theorem WX0_sound {K:Nat}:∀ (m:MC) {Q:Exit→Env→Store→Prop} {e:Env} {s:Store},WX0 P N K m Q e s→AWX P N K m Q e s
 | .skip,_,_,_,h=>AWM.x rfl (M_skip (t:=.mk) h)
 | .reg _ _ _,_,_,_,h=>AWM.x rfl (M_reg (t:=.mk) h)
 | .seq a b,Q,_,_,h=>X_seq ((WX0_sound a h).mono fun x e s h=>by
   cases x with
   | normal=>exact WX0_sound b h
   | _=>exact h)
 | .cond _ a b,_,_,_,h=>X_cond (condS_mono (WX0_sound a) (WX0_sound b) h)
 | .block _ a,_,_,_,h=>X_block (WX0_sound a h)
 | .exit _,_,_,_,h=>AWM.x rfl (M_exit (t:=.mk) h)
 | .ret,_,_,_,h=>AWM.x rfl (M_ret (t:=.mk) h)
 | .loop _,_,_,_,h=>h
 | .rf _ _ _ _,_,_,_,h=>h
def WX (P:Program) (N K:Nat) (m:MC) (Q:Exit→Env→Store→Prop) (e:Env) (s:Store) (_:Tag (m,Q,e,s)):Prop:=WX0 P N K m Q e s
theorem WX_skip (K:Nat) (t):WX P N K .skip Q e s t=Q .normal e s:=rfl
theorem WX_reg (K:Nat) (ss:List MS) (draw:Bool) (conf:List (MS × MS)) (t):WX P N K (.reg ss draw conf) Q e s t=V P draw ss e s (regK conf Q .mk) .mk:=rfl
theorem WX_seq (K:Nat) (a b:MC) (t):WX P N K (.seq a b) Q e s t=WX P N K a (seqQ (fun e s=>WX P N K b Q e s .mk) Q .mk) e s .mk:=rfl
theorem WX_cond (K:Nat) (x:MX) (a b:MC) (t):WX P N K (.cond x a b) Q e s t=condS (x.ev e) (WX P N K a Q e s .mk) (WX P N K b Q e s .mk) .mk:=rfl
theorem WX_block (K:Nat) (id:Nat) (a:MC) (t):WX P N K (.block id a) Q e s t=WX P N K a (blockQ id Q .mk) e s .mk:=rfl
theorem WX_exit (K:Nat) (id:Nat) (t):WX P N K (.exit id) Q e s t=Q (.exit id) e s:=rfl
theorem WX_ret (K:Nat) (t):WX P N K .ret Q e s t=Q .ret e s:=rfl
theorem WX_sound {K:Nat} {m:MC} {t} (h:WX P N K m Q e s t):AWX P N K m Q e s:=WX0_sound m h
def rndX (P:Program) (N K:Nat) (b:MC) (Q:Exit→Env→Store→Prop):Nat→Env→Store→Prop
 | 0,_,_=>False
 | n+1,e,s=>∃ q,WeakX K (e,s) q∧WX P N K b (seqQ (rndX P N K b Q n) Q .mk) q.1 q.2 .mk
theorem rndX_of {K:Nat} {b:MC} {n:Nat} (q:Env × Store) (hw:WeakX K (e,s) q) (h:WX P N K b (seqQ (rndX P N K b Q n) Q .mk) q.1 q.2 .mk):rndX P N K b Q (n+1) e s:=⟨q,hw,h⟩
theorem WX_rnd {K:Nat} {b:MC} {t} (n:Nat) (h:rndX P N K b Q n e s):WX P N K (.loop b) Q e s t:=by
 intro c hc rm B w0 ok0 ok ρ a w h0 hR
 rcases cCode_inv hc with ⟨_,h'⟩ | ⟨_,_,_,_,_,_,h',_⟩ | ⟨_,_,_,_,_,h',_⟩ | ⟨_,_,_,_,_,_,h',_⟩ | ⟨_,_,_,_,h',_⟩ | ⟨cx,_,rfl,h',h1⟩ | ⟨_,_,h'⟩ | ⟨_,h'⟩ | ⟨_,_,_,_,_,_,_,h',_⟩ <;> first | (cases h';done) | skip
 cases h'
 refine wpIn_loop_rounds n ?_
 induction n generalizing e s ok ρ a w with
 | zero=>exact h.elim
 | succ n ih =>
  obtain ⟨q,hw,h⟩:=h
  obtain ⟨ok1,ρ1,_,hR1⟩:=hw N B w0 ok0 ok ρ a w h0 hR
  refine wpIn_mono (WX_sound h cx h1 rm B w0 ok0 ok1 ρ1 a w h0 hR1) fun ex a' w' ⟨e',s',ok',ρ',hR',hq⟩=>?_
  cases ex with
  | normal=>exact ih (t:=.mk) hq _ _ _ _ hR'
  | _=>exact ⟨e',s',ok',ρ',hR',hq⟩
end
theorem sound_XX {f:FuncId} {nt np:Nat} {m:MC} {rs:List (Nat × Option (Option Nat))} (hF:cFun P f=some (nt,np,m,rs)) {args:List AV} (hla:args.length≤nt) {k ty sz:Nat} (hsz:0<sz) {es es2:List AV} {v:AV} (hsv:scal v=true) (hs2:scalE es2=true)
    (h:AWX P nt k m (fun x e s=>(x=.normal∨x=.ret)∧resV e s rs=some v∧s k=some (some ⟨ty,sz,es2⟩)) (argE args) (upd noStore k (some (some ⟨ty,sz,es⟩)))):SoundX P f args k ty sz es v es2:=by
  intro w ok cargs b cur hok hG hnb hbc hHb hlen hargs
  have hblt:b<w.heap.size:=(Array.getElem?_eq_some_iff.1 hbc).1
  unfold cFun at hF
  split at hF
  · rename_i fn hf
    split at hF
    · rename_i c hb
      split at hF
      · cases hF
      · rename_i hname
        split at hF
        · rename_i m' rs' hm hrs
          cases hF
          refine .inr ⟨callFunc_enter hf (by simpa using hname) hb cargs,?_⟩
          refine callsIn_wide.1 (callsIn_of_wp_marks (F:=Fr none) (n:=1) hf hb trivial ?_ rfl)
          have hR:Rel fn.ntmps 0 w ⟨fun c=>c<w.heap.size∧c ≠ b,upd noPlace k (some b),upd noStore k (some (some ⟨ty,sz,es⟩)),fun c=>c<w.heap.size∧c ≠ b⟩ (fun c=>c<w.heap.size∧c ≠ b) (upd noPlace k (some b)) (argE args) (upd noStore k (some (some ⟨ty,sz,es⟩))) { tmps:=cargs ++ Array.replicate (fn.ntmps - cargs.size) undef,defers:=[] } w:=by
            constructor
            · exact .nil fun c hc=>⟨hc,hc,hc.1⟩
            · simp;omega
            · exact Below.refl _ _
            · exact Nat.zero_le _
            · intro n
              unfold argE
              by_cases hn:n<args.length
              · have h1:args[n]?=some args[n]:=List.getElem?_eq_getElem hn
                have h2:args.getD n .undef=args[n]:=by simp [List.getD,h1]
                rw [h2]
                have:=hargs n _ h1
                have h3:(cargs ++ Array.replicate (fn.ntmps - cargs.size) undef).getD n undef=cargs.getD n undef:=by
                  rw [Array.getD_eq_getD_getElem?,Array.getD_eq_getD_getElem?,Array.getElem?_append_left (by omega)]
                rw [h3];exact this.mono (fun c hc=>⟨hok c hc,fun e=>hnb (e ▸ hc)⟩) (fun _ _=>rfl) (Goes.refl _ _ _)
              · have h2:args.getD n .undef=.undef:=by simp [List.getD,List.getElem?_eq_none (Nat.le_of_not_lt hn)]
                rw [h2];exact .undef _
            · exact fun c hc=>⟨hc.1,.inr hc⟩
            · exact fun c hc=>hc
            · intro j K hj
              by_cases hjk:j=k
              · subst hjk
                rw [upd_same] at hj;cases hj
                refine ⟨hsz,.inr ⟨b,cur,upd_same _ _ _,Nat.zero_le _,fun h=>h.2 rfl,hbc,fun i x hx=>⟨(hHb i x hx).1,(hHb i x hx).2.1,fun o c hc=>?_⟩⟩⟩
                obtain ⟨cv,p1,p2⟩:=(hHb i x hx).2.2 o c hc
                exact ⟨cv,p1,p2.mono (fun _ h=>h.elim) (fun _ _=>rfl) (Goes.empty _ _ _ _ _)⟩
              · rw [upd_other _ _ _ _ hjk] at hj;cases hj
            · intro j j' K K' c hj hj' _ _
              have one:∀ {j K},upd noStore k (some (some ⟨ty,sz,es⟩)) j=some (some K)→j=k:=by
                intro j K hj
                by_cases hjk:j=k
                · exact hjk
                · rw [upd_other _ _ _ _ hjk] at hj;cases hj
              exact (one hj).trans (one hj').symm
            · exact fun _ _=>rfl
            · exact Goes.refl _ _ _
            · exact hG.mono (fun c hc=>⟨hok c hc,fun e=>hnb (e ▸ hc)⟩) (fun _ _=>rfl)
          refine wpIn_mono (h c hm 1 _ _ _ _ _ _ _ (fun j=>by
            by_cases hj:j=k
            · exact .inr ⟨hj,_,by rw [hj];exact upd_same _ _ _⟩
            · exact .inl (upd_other noStore k j _ hj)) hR) fun x a' w1 ⟨e',s',ok1,ρ',hR1,hx,hv,hk2⟩=>?_
          have fin:LeavesInM (Fr none) 1 P fn a'.tmps (fun en w'=>∃ cv,en=.returned cv∧Below 0 w w'∧(∀ c,c<w.heap.size→c ≠ b→w'.heap[c]?=w.heap[c]?)∧(∃ cur',w'.heap[b]?=some (.cells cur' ty (0,0))∧cur'.size=cur.size∧Holds w'.heap (fun _=>False) noPlace noStore sz es2 cur')∧VR w'.heap (fun _=>False) noPlace noStore v cv) a'.defers .returning w1:=by
           obtain ⟨_,Ds,d1,d2,d3⟩:=hR1.defers
           refine leaves_marks (fun b hb=>.inr hb) Ds ok1 a' w1 d1 d2 d3 hR1 fun ok' w' hR'=>?_
           have fin:∃ val,(results fn a'.tmps).run P w'=.ok val w'∧∃ cv,Ending.returned val=.returned cv∧Below 0 w w'∧(∀ c,c<w.heap.size→c ≠ b→w'.heap[c]?=w.heap[c]?)∧(∃ cur',w'.heap[b]?=some (.cells cur' ty (0,0))∧cur'.size=cur.size∧Holds w'.heap (fun _=>False) noPlace noStore sz es2 cur')∧VR w'.heap (fun _=>False) noPlace noStore v cv:=by
            unfold resV at hv
            have hrest:(∀ c,c<w.heap.size→c ≠ b→w'.heap[c]?=w.heap[c]?)∧(∃ cur',w'.heap[b]?=some (.cells cur' ty (0,0))∧cur'.size=cur.size∧Holds w'.heap (fun _=>False) noPlace noStore sz es2 cur'):=by
              refine ⟨fun c h1 h2=>hR'.kept c ⟨h1,h2⟩,?_⟩
              rcases hR'.goes.live k ⟨ty,sz,es⟩ (upd_same _ _ _) with hd | ⟨B',q1,q2,q3,q4,q5⟩
              · rw [hk2] at hd;cases hd
              · rw [hk2] at q1;cases q1
                have hρ:ρ' k=some b:=q4.trans (upd_same _ _ _)
                obtain ⟨cur',z1,z2⟩:=q5 b cur (upd_same _ _ _) hbc
                obtain ⟨_,_,_,cur2,y1,y2⟩:=hR'.bound hk2 hρ
                have y3:w'.heap[b]?=some (.cells cur2 ty (0,0)):=y1
                have z3:w'.heap[b]?=some (.cells cur' ty (0,0)):=z1
                rw [y3] at z3;cases z3
                exact ⟨_,y3,z2,y2.scal hs2⟩
            have hwid:∀ {x:AV} {u:Value},VR w'.heap ok' ρ' s' x u→VR w'.heap (fun c=>ok' c∨∃ j K,True∧s' j=some (some K)∧ρ' j=some c) noPlace noStore (bor s' 5 x) u:=by
              intro x u hu
              exact bor_vr hR' (fun _=>True) 5 x u hu (fun _ _=>trivial)
            split at hv
            · rename_i v0 hall
              cases hv
              obtain ⟨vals,k1,k2,k3⟩:=resAll_run hR' hrs hall
              obtain ⟨u,hu1,hu2⟩:=k3 0 v0 rfl
              have hvals:vals=[u]:=by
                cases vals with
                | nil=>simp at k2
                | cons z zs=>cases zs with
                  | nil=>simp at hu1;rw [hu1]
                  | cons _ _=>simp at k2
              subst hvals
              refine ⟨u,?_,u,rfl,hR'.below,hrest.1,hrest.2,scal_vr hsv (hwid hu2)⟩
              rw [results_eq,Sem.run_bind,Sem.run_map,k1]
              simp
            · rename_i vs hne hall
              cases hv
              obtain ⟨vals,k1,k2,k3⟩:=resAll_run hR' hrs hall
              have hne1:vals.toArray.size ≠ 1:=by
                intro h1
                simp at h1
                rw [k2] at h1
                obtain ⟨z,hz⟩:=List.length_eq_one_iff.1 h1
                subst hz
                exact hne z rfl
              refine ⟨.tuple vals.toArray,?_,_,rfl,hR'.below,hrest.1,hrest.2,scal_vr hsv (VR.tup _ _ (by simp [k2]) fun i x hx=>?_:VR w'.heap (fun c=>ok' c∨∃ j K,True∧s' j=some (some K)∧ρ' j=some c) noPlace noStore _ _)⟩
              · rw [results_eq,Sem.run_bind,Sem.run_map,k1]
                simp only [Result.andThen_ok]
                rw [dif_neg hne1]
                rfl
              · simp only [List.getElem?_map,Option.map_eq_some_iff] at hx
                obtain ⟨y,hy,rfl⟩:=hx
                obtain ⟨u,hu1,hu2⟩:=k3 i y hy
                have:vals.toArray.getD i undef=u:=by simp [Array.getD_eq_getD_getElem?,hu1]
                rw [this];exact hwid hu2
            · cases hv
           obtain ⟨val,v1,v2⟩:=fin
           exact ⟨val,v1,v2⟩
          rcases hx with rfl | rfl
          · exact fin
          · exact fin
        · cases hF
    · cases hF
  · cases hF
end Go.Av

namespace Go.Av
def vZ:=And.intro vcV<|And.intro vcD<|And.intro @eq_self.{1}<| vcP2
end Go.Av
