/- A range over a function that is left; conditions of regions that draw. By an AI agent; nothing here is trusted. -/
import Derived.Test.YtpaklfjlbocfcaaGreatDoorLayC
import Derived.Test.YtpaklfjlbocfcaaGreatDoorLayA
import Derived.Test.YtpaklfjlbocfcaaGreatDoorLayB
set_option linter.defProp false
set_option linter.unusedSimpArgs false
set_option linter.unusedVariables false
namespace Go.Av

def outQ (Q:Exit→Env→Store→Prop) (e:Env):Exit→Env→Store→Prop:=fun ex _ s2=>match ex with
 | .ret=>Q .ret e s2
 | .exit id=>Q (.exit id) e s2
 | _=>False
theorem outQ_r (Q:Exit→Env→Store→Prop) (e e2:Env) (s2:Store):outQ Q e .ret e2 s2=Q .ret e s2:=rfl
theorem outQ_x (Q:Exit→Env→Store→Prop) (e e2:Env) (s2:Store) (id:Nat):outQ Q e (.exit id) e2 s2=Q (.exit id) e s2:=rfl
theorem outQ_n (Q:Exit→Env→Store→Prop) (e e2:Env) (s2:Store):outQ Q e .normal e2 s2=False:=rfl

section
variable {P:Program} {N:Nat}
end

def confP (a b:Option (List Nat)):Prop:=match a,b with
 | some T,some T'=>disj T T'=true
 | _,_=>False
theorem confP_some (T T':List Nat):confP (some T) (some T')=(disj T T'=true):=rfl
def cnew (a b:MOp):Bool:=isCall a && newOp b
theorem confOk_cons (a b:MS) (l:List (MS × MS)) (e:Env):confOk ((a,b) :: l) e=((if cnew a.o b.o=true then True else confP (tkM a e) (tkM b e))∧confOk l e):=by
 apply propext
 constructor
 ·intro h
  refine ⟨?_,fun p hp=>h p (List.mem_cons_of_mem _ hp)⟩
  rcases h (a,b) List.mem_cons_self with ⟨c1,c2⟩ | ⟨T,T',h1,h2,h3⟩
  ·rw [if_pos (by unfold cnew;rw [c1,c2];rfl)];trivial
  ·split
   ·trivial
   ·simp only at h1 h2
    rw [h1,h2]
    refine List.all_eq_true.2 fun k hk=>?_
    have:=h3 k hk
    simpa using this
 ·rintro ⟨h1,h2⟩ p hp
  rcases List.mem_cons.1 hp with rfl | hp
  ·split at h1
   ·rename_i hc
    simp only [cnew,Bool.and_eq_true] at hc
    exact .inl hc
   ·refine .inr ?_
    simp only
    generalize tkM a e=A at h1
    generalize tkM b e=B at h1
    cases A with
    | none=>exact h1.elim
    | some T =>
     cases B with
     | none=>exact h1.elim
     | some T' =>
      refine ⟨T,T',rfl,rfl,fun k hk=>?_⟩
      have:=List.all_eq_true.1 h1 k hk
      simpa using this
  ·exact h2 p hp
theorem cnew_alloc (ty sz:Nat) (z:AV) (o:MOp):cnew (.alloc ty sz z) o=false:=Bool.false_and _
theorem newOp_alloc (ty sz:Nat) (z:AV):newOp (.alloc ty sz z)=true:=rfl
theorem cnew_box (ty sz:Nat) (x:MX) (o:MOp):cnew (.box ty sz x) o=false:=Bool.false_and _
theorem newOp_box (ty sz:Nat) (x:MX):newOp (.box ty sz x)=true:=rfl
theorem cnew_buildSlice (ty sz n:Nat) (z:AV) (ps:List (Nat × MX)) (o:MOp):cnew (.buildSlice ty sz n z ps) o=false:=Bool.false_and _
theorem newOp_buildSlice (ty sz n:Nat) (z:AV) (ps:List (Nat × MX)):newOp (.buildSlice ty sz n z ps)=true:=rfl
theorem cnew_makeSlice (ty sz by_:Nat) (z:AV) (l c:MX) (o:MOp):cnew (.makeSlice ty sz by_ z l c) o=false:=Bool.false_and _
theorem newOp_makeSlice (ty sz by_:Nat) (z:AV) (l c:MX):newOp (.makeSlice ty sz by_ z l c)=true:=rfl
theorem cnew_load (n:Option Nat) (x:MX) (o:MOp):cnew (.load n x) o=false:=Bool.false_and _
theorem newOp_load (n:Option Nat) (x:MX):newOp (.load n x)=false:=rfl
theorem cnew_store (n:Nat) (x v:MX) (o:MOp):cnew (.store n x v) o=false:=Bool.false_and _
theorem newOp_store (n:Nat) (x v:MX):newOp (.store n x v)=false:=rfl
theorem cnew_len (b:Bool) (x:MX) (o:MOp):cnew (.len b x) o=false:=Bool.false_and _
theorem newOp_len (b:Bool) (x:MX):newOp (.len b x)=false:=rfl
theorem cnew_indexAddr (x i:MX) (sz:Nat) (o:MOp):cnew (.indexAddr x i sz) o=false:=Bool.false_and _
theorem newOp_indexAddr (x i:MX) (sz:Nat):newOp (.indexAddr x i sz)=false:=rfl
theorem cnew_indexArr (x i:MX) (sz len:Nat) (o:MOp):cnew (.indexArr x i sz len) o=false:=Bool.false_and _
theorem newOp_indexArr (x i:MX) (sz len:Nat):newOp (.indexArr x i sz len)=false:=rfl
theorem cnew_fieldAddr (x:MX) (off:Nat) (o:MOp):cnew (.fieldAddr x off) o=false:=Bool.false_and _
theorem newOp_fieldAddr (x:MX) (off:Nat):newOp (.fieldAddr x off)=false:=rfl
theorem cnew_nilCheck (x:MX) (o:MOp):cnew (.nilCheck x) o=false:=Bool.false_and _
theorem newOp_nilCheck (x:MX):newOp (.nilCheck x)=false:=rfl
theorem cnew_append (ty sz by_:Nat) (z:AV) (s x:MX) (o:MOp):cnew (.append ty sz by_ z s x) o=false:=Bool.false_and _
theorem newOp_append (ty sz by_:Nat) (z:AV) (s x:MX):newOp (.append ty sz by_ z s x)=false:=rfl
theorem cnew_slice (str:Bool) (sz:Nat) (x:MX) (lo hi:Option MX) (o:MOp):cnew (.slice str sz x lo hi) o=false:=Bool.false_and _
theorem newOp_slice (str:Bool) (sz:Nat) (x:MX) (lo hi:Option MX):newOp (.slice str sz x lo hi)=false:=rfl
theorem cnew_call (f:FuncId) (xs:List MX) (o:MOp):cnew (.call f xs) o=newOp o:=Bool.true_and _
theorem newOp_call (f:FuncId) (xs:List MX):newOp (.call f xs)=false:=rfl
theorem cnew_callv (x:MX) (xs:List MX) (o:MOp):cnew (.callv x xs) o=newOp o:=Bool.true_and _
theorem newOp_callv (x:MX) (xs:List MX):newOp (.callv x xs)=false:=rfl
def vcCn:=And.intro @cnew_alloc <| And.intro @newOp_alloc <| And.intro @cnew_box <| And.intro @newOp_box <| And.intro @cnew_buildSlice <| And.intro @newOp_buildSlice <| And.intro @cnew_makeSlice <| And.intro @newOp_makeSlice <| And.intro @cnew_load <| And.intro @newOp_load <| And.intro @cnew_store <| And.intro @newOp_store <| And.intro @cnew_len <| And.intro @newOp_len <| And.intro @cnew_indexAddr <| And.intro @newOp_indexAddr <| And.intro @cnew_indexArr <| And.intro @newOp_indexArr <| And.intro @cnew_fieldAddr <| And.intro @newOp_fieldAddr <| And.intro @cnew_nilCheck <| And.intro @newOp_nilCheck <| And.intro @cnew_append <| And.intro @newOp_append <| And.intro @cnew_slice <| And.intro @newOp_slice <| And.intro @cnew_call <| And.intro @newOp_call <| And.intro @cnew_callv <| @newOp_callv
theorem tk_call (g:Option (Nat × Bool)) (d:Option Nat) (f:FuncId) (xs:List MX) (e:Env):tkM ⟨g,d,.call f xs⟩ e=if (xs.map fun x=>x.ev e).all imm=true then some [] else none:=rfl
theorem tk_alloc (g:Option (Nat × Bool)) (d:Option Nat) (ty sz:Nat) (z:AV) (e:Env):tkM ⟨g,d,.alloc ty sz z⟩ e=some [d.getD 0]:=rfl
theorem tk_box (g:Option (Nat × Bool)) (d:Option Nat) (ty sz:Nat) (x:MX) (e:Env):tkM ⟨g,d,.box ty sz x⟩ e=some (refs1 (x.ev e) ++ [d.getD 0]):=by simp [tkM,tk,pureOp,xsOf,allocs]
theorem tk_buildSlice (g:Option (Nat × Bool)) (d:Option Nat) (ty sz n:Nat) (z:AV) (ps:List (Nat × MX)) (e:Env):tkM ⟨g,d,.buildSlice ty sz n z ps⟩ e=some ((ps.map (·.2)).flatMap (fun x=>refs1 (x.ev e)) ++ [d.getD 0]):=by simp [tkM,tk,pureOp,xsOf,allocs]
theorem tk_makeSlice (g:Option (Nat × Bool)) (d:Option Nat) (ty sz by_:Nat) (z:AV) (l c:MX) (e:Env):tkM ⟨g,d,.makeSlice ty sz by_ z l c⟩ e=some (refs1 (l.ev e) ++ (refs1 (c.ev e) ++ [d.getD 0])):=by simp [tkM,tk,pureOp,xsOf,allocs]
theorem tk_load (g:Option (Nat × Bool)) (d:Option Nat) (n:Option Nat) (x:MX) (e:Env):tkM ⟨g,d,.load n x⟩ e=some (refs1 (x.ev e)):=by simp [tkM,tk,pureOp,xsOf,allocs]
theorem tk_store (g:Option (Nat × Bool)) (d:Option Nat) (n:Nat) (x v:MX) (e:Env):tkM ⟨g,d,.store n x v⟩ e=some (refs1 (x.ev e) ++ refs1 (v.ev e)):=by simp [tkM,tk,pureOp,xsOf,allocs]
theorem tk_len (g:Option (Nat × Bool)) (d:Option Nat) (b:Bool) (x:MX) (e:Env):tkM ⟨g,d,.len b x⟩ e=some (refs1 (x.ev e)):=by simp [tkM,tk,pureOp,xsOf,allocs]
theorem tk_indexAddr (g:Option (Nat × Bool)) (d:Option Nat) (x i:MX) (sz:Nat) (e:Env):tkM ⟨g,d,.indexAddr x i sz⟩ e=some (refs1 (x.ev e) ++ refs1 (i.ev e)):=by simp [tkM,tk,pureOp,xsOf,allocs]
theorem tk_fieldAddr (g:Option (Nat × Bool)) (d:Option Nat) (x:MX) (o:Nat) (e:Env):tkM ⟨g,d,.fieldAddr x o⟩ e=some (refs1 (x.ev e)):=by simp [tkM,tk,pureOp,xsOf,allocs]
theorem tk_nilCheck (g:Option (Nat × Bool)) (d:Option Nat) (x:MX) (e:Env):tkM ⟨g,d,.nilCheck x⟩ e=some (refs1 (x.ev e)):=by simp [tkM,tk,pureOp,xsOf,allocs]
theorem tk_append (g:Option (Nat × Bool)) (d:Option Nat) (ty sz by_:Nat) (z:AV) (s x:MX) (e:Env):tkM ⟨g,d,.append ty sz by_ z s x⟩ e=some (refs1 (s.ev e) ++ (refs1 (x.ev e) ++ [d.getD 0])):=by simp [tkM,tk,pureOp,xsOf,allocs]
theorem refs1_buf (k n:Nat):refs1 (.buf k n)=[k]:=rfl
theorem refs1_ptr (k i o:Nat):refs1 (.ptr k i o)=[k]:=rfl
theorem refs1_int (k:IntKind) (n:Int):refs1 (.int k n)=[]:=rfl
theorem refs1_bool (b:Bool):refs1 (.bool b)=[]:=rfl
theorem refs1_str (b:List UInt8):refs1 (.str b)=[]:=rfl
theorem refs1_sl (l:List AV):refs1 (.sl l)=[]:=rfl
theorem refs1_nils:refs1 .nils=[]:=rfl
theorem refs1_agg (l:List AV):refs1 (.agg l)=[]:=rfl
theorem refs1_tup (l:List AV):refs1 (.tup l)=[]:=rfl
theorem refs1_eptr (x:AV) (o:Nat):refs1 (.eptr x o)=[]:=rfl
theorem disj_nil (T:List Nat):disj [] T=true:=rfl
theorem disj_cons (k:Nat) (T T':List Nat):disj (k :: T) T'=(!(T'.contains k) && disj T T'):=rfl
theorem flatMap_nil' (f:MX→List Nat):List.flatMap f []=[]:=rfl
theorem flatMap_cons' (f:MX→List Nat) (x:MX) (l:List MX):List.flatMap f (x :: l)=f x ++ List.flatMap f l:=by simp
theorem contains_nil' (k:Nat):([]:List Nat).contains k=false:=rfl
theorem contains_cons' (k a:Nat) (l:List Nat):(a :: l).contains k=(decide (k=a) || l.contains k):=by
 rw [List.contains_cons]
 by_cases h:k=a <;> simp [h]
def vcD:=And.intro vcCn <| And.intro @refsL_imm <| And.intro @killAll_nil <| And.intro Bool.or_false <| And.intro Bool.false_or <| And.intro Bool.or_true <| And.intro Bool.true_or <| And.intro @confP_some <| And.intro @confOk_cons <| And.intro @tk_call <| And.intro @tk_alloc <| And.intro @tk_box <| And.intro @tk_buildSlice <| And.intro @tk_makeSlice <| And.intro @tk_load <| And.intro @tk_store <| And.intro @tk_len <| And.intro @tk_indexAddr <| And.intro @tk_fieldAddr <| And.intro @tk_nilCheck <| And.intro @tk_append <| And.intro @refs1_buf <| And.intro @refs1_ptr <| And.intro @refs1_int <| And.intro @refs1_bool <| And.intro @refs1_str <| And.intro @refs1_sl <| And.intro @refs1_nils <| And.intro @refs1_agg <| And.intro @refs1_tup <| And.intro @refs1_eptr <| And.intro @disj_nil <| And.intro @disj_cons <| And.intro @flatMap_nil' <| And.intro @flatMap_cons' <| And.intro @contains_nil' <| And.intro @contains_cons' <| And.intro @outQ_r <| And.intro @outQ_x <| @outQ_n
end Go.Av

/- Own buffers handed to a call: which keys are let go. By an AI agent;nothing here is trusted. -/
namespace Go.Av
def refsK (s:Store) (n len:Nat) (b:Option (Option Blk)):List Nat:=match b with
 | some (some B)=>if (B.es.take len).all imm then [] else (B.es.take len).flatMap (refs s n)
 | _=>[]
theorem refs_buf (s:Store) (n k len:Nat):refs s (n+1) (.buf k len)=k :: refsK s n len (s k):=rfl
end Go.Av

namespace Go.Av
def vZ:=And.intro vcV<|And.intro vcD<|And.intro @eq_self.{1}<| vcP2
end Go.Av
