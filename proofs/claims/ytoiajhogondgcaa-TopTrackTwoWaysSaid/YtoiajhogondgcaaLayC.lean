/- How a verification condition is worked out by simp, value by value: what is to come stands behind a tag, where simp does not look. By an AI agent; nothing here is trusted. -/
import Derived.Test.YtoiajhogondgcaaLayB
import Derived.ProofKit
import Derived.OpenShut
import Derived.ShutString
import Derived.ChangeOld
import Derived.Below
import Derived.Carry
set_option linter.defProp false
set_option linter.unusedSimpArgs false
set_option linter.unusedVariables false
namespace Go.Av

inductive Tag {α:Sort _} (a:α):Type where
 | mk

def letV (v:AV) (K:AV→Prop) (_:Tag K):Prop:=K v
def bV (o:Option AV) (K:AV→Prop) (_:Tag K):Prop:=∃ v,o=some v∧K v
def bL (o:Option (List AV)) (K:List AV→Prop) (_:Tag K):Prop:=∃ v,o=some v∧K v
def bP (o:Option (AV × Store)) (K:AV→Store→Prop) (_:Tag K):Prop:=∃ v s,o=some (v,s)∧K v s
def brB (b w:Bool) (X Y:Prop) (_:Tag (X,Y)):Prop:=(b=w→X)∧(b=!w→Y)
def onB (v:AV) (A:Bool→Prop) (C:Prop) (_:Tag (A,C)):Prop :=
 match v with
 | .bool b=>A b
 | .tup []=>C
 | _=>False
def letL (l:List AV) (K:List AV→Prop) (_:Tag K):Prop:=K l
def callS (P:Program) (nk:Bool) (d:Nat) (f:FuncId) (args:List AV) (l:List Nat) (vs:List AV) (s:Store) (K:AV→Store→Prop) (_:Tag (s,K)):Prop:=callP P nk d f args l vs s K
def onF (v:AV) (K:FuncId→List AV→Prop) (_:Tag K):Prop :=
 match v with
 | .fn f caps=>K f caps
 | _=>False

def V (P:Program) (nk:Bool) (ss:List MS) (e:Env) (s:Store) (K:Env→Store→Prop) (_:Tag (ss,e,s,K)):Prop:=vcL P nk ss e s K
def M (P:Program) (N:Nat) (m:MC) (Q:Exit→Env→Store→Prop) (e:Env) (s:Store) (_:Tag (m,Q,e,s)):Prop:=AWM P N m Q e s
def seqQ (K:Env→Store→Prop) (Q:Exit→Env→Store→Prop) (_:Tag (K,Q)):Exit→Env→Store→Prop:=fun x e s=>match x with
 | .normal=>K e s
 | x=>Q x e s
def blockQ (id:Nat) (Q:Exit→Env→Store→Prop) (_:Tag Q):Exit→Env→Store→Prop:=fun x e s=>match x with
 | .exit id'=>if id'=id then Q .normal e s else Q (.exit id') e s
 | x=>Q x e s
def regK (conf:List (MS × MS)) (Q:Exit→Env→Store→Prop) (_:Tag (conf,Q)):Env→Store→Prop:=fun e s=>confOk conf e∧Q .normal e s
def endQ (rs:List (Nat × Option (Option Nat))) (v:AV):Exit→Env→Store→Prop:=fun x e s=>(x=.normal∨x=.ret)∧resV e s rs=some v

section
variable {P:Program} {N:Nat} {nk:Bool} {r:List MS} {e:Env} {s:Store} {K:Env→Store→Prop}

theorem letV_eq (v:AV) (K:AV→Prop) (t):letV v K t=K v:=rfl
theorem letL_eq (v:List AV) (K:List AV→Prop) (t):letL v K t=K v:=rfl
theorem bV_some (v:AV) (K:AV→Prop) (t):bV (some v) K t=K v:=by
 apply propext;constructor
 ·rintro ⟨v',h,k⟩;cases h;exact k
 ·exact fun h=>⟨v,rfl,h⟩
theorem bV_none (K:AV→Prop) (t):bV none K t=False:=by
 apply propext;constructor
 ·rintro ⟨v',h,k⟩;cases h
 ·exact False.elim
theorem bV_req (c:Prop) (o:Option AV) (K:AV→Prop) (t):bV (req c o) K t=(c∧bV o K t):=by
 apply propext;constructor
 ·rintro ⟨v',h,k⟩;obtain ⟨h1,h2⟩:=req_some h;exact ⟨h1,v',h2,k⟩
 ·rintro ⟨h,v,h1,h2⟩;exact ⟨v,by rw [req_true h];exact h1,h2⟩
theorem bL_some (v:List AV) (K:List AV→Prop) (t):bL (some v) K t=K v:=by
 apply propext;constructor
 ·rintro ⟨v',h,k⟩;cases h;exact k
 ·exact fun h=>⟨v,rfl,h⟩
theorem bL_req (c:Prop) (o:Option (List AV)) (K:List AV→Prop) (t):bL (req c o) K t=(c∧bL o K t):=by
 apply propext;constructor
 ·rintro ⟨v',h,k⟩;obtain ⟨h1,h2⟩:=req_some h;exact ⟨h1,v',h2,k⟩
 ·rintro ⟨h,v,h1,h2⟩;exact ⟨v,by rw [req_true h];exact h1,h2⟩
theorem bP_some (v:AV) (s:Store) (K:AV→Store→Prop) (t):bP (some (v,s)) K t=K v s:=by
 apply propext;constructor
 ·rintro ⟨v',s',h,k⟩;cases h;exact k
 ·exact fun h=>⟨v,s,rfl,h⟩
theorem bP_none (K:AV→Store→Prop) (t):bP none K t=False:=by
 apply propext;constructor
 ·rintro ⟨v',s',h,k⟩;cases h
 ·exact False.elim
theorem bP_req (c:Prop) (o:Option (AV × Store)) (K:AV→Store→Prop) (t):bP (req c o) K t=(c∧bP o K t):=by
 apply propext;constructor
 ·rintro ⟨v',s',h,k⟩;obtain ⟨h1,h2⟩:=req_some h;exact ⟨h1,v',s',h2,k⟩
 ·rintro ⟨h,v,s,h1,h2⟩;exact ⟨v,s,by rw [req_true h];exact h1,h2⟩
theorem req_T {α:Type} (x:Option α):req True x=x:=req_true trivial x
theorem brB_tt (X Y:Prop) (t):brB true true X Y t=X:=by simp [brB]
theorem brB_ff (X Y:Prop) (t):brB false false X Y t=X:=by simp [brB]
theorem brB_tf (X Y:Prop) (t):brB true false X Y t=Y:=by simp [brB]
theorem brB_ft (X Y:Prop) (t):brB false true X Y t=Y:=by simp [brB]
theorem brB_split {b w:Bool} {X Y:Prop} {t} (h1:b=w→X) (h2:b=!w→Y):brB b w X Y t:=⟨h1,h2⟩
theorem onB_b (b:Bool) (A:Bool→Prop) (C:Prop) (t):onB (.bool b) A C t=A b:=rfl
theorem onB_v (A:Bool→Prop) (C:Prop) (t):onB (.tup []) A C t=C:=rfl
theorem onF_eq (f:FuncId) (caps:List AV) (K:FuncId→List AV→Prop) (t):onF (.fn f caps) K t=K f caps:=rfl
theorem callS_of {d:Nat} {f:FuncId} {args:List AV} {l:List Nat} {vs:List AV} {K:AV→Store→Prop} {t} {v:AV} (h:Sound P f args v) (hk:callK nk v l s K):callS P nk d f args l vs s K t:=.inl ⟨v,h,hk⟩
theorem callS_X {d:Nat} {f:FuncId} {args:List AV} {l:List Nat} {vs:List AV} {K:AV→Store→Prop} {t} (k:Nat) {ty sz:Nat} {es es2:List AV} {v:AV} (h:SoundX P f (vs.map (borX s k)) k ty sz es v es2) (hk:s k=some (some ⟨ty,sz,es⟩)) (h1:scalE es=true) (h2:scalE es2=true) (hv:scal v=true)
  (hn:∀ x ∈ vs,isRefK k x=false→k ∉ refs s 5 x) (hp:∃ i o,AV.ptr k i o ∈ vs) (hK:K v (upd s k (some (some ⟨ty,sz,es2⟩)))):callS P false d f args l vs s K t :=
 .inr (.inr (.inr (.inr ⟨rfl,k,ty,sz,es,es2,v,hk,h1,h2,hv,hn,hp,h,hK⟩)))

theorem upd_app {α:Type} (f:Nat→α) (n m:Nat) (x:α):upd f n x m=if m=n then x else f m:=rfl

def pickA (c a b:AV):Option AV:=match c with
 | .bool t=>some (if t then a else b)
 | _=>none
theorem pickA_t (a b:AV):pickA (.bool true) a b=some a:=rfl
theorem pickA_f (a b:AV):pickA (.bool false) a b=some b:=rfl

noncomputable def loadV (n:Option Nat) (x:AV) (s:Store):Option AV:=match x with
 | .ptr k i o=>match s k with
  | some (some B)=>(B.es[i]?).bind fun el=>loadA n el o
  | _=>none
 | .eptr el o=>loadA n el o
 | _=>none
noncomputable def loadB (n:Option Nat) (b:Option (Option Blk)) (i o:Nat):Option AV:=match b with
 | some (some B)=>(B.es[i]?).bind fun el=>loadA n el o
 | _=>none
theorem loadV_ptr (n:Option Nat) (k i o:Nat) (s:Store):loadV n (.ptr k i o) s=loadB n (s k) i o:=rfl
theorem loadV_eptr (n:Option Nat) (el:AV) (o:Nat) (s:Store):loadV n (.eptr el o) s=loadA n el o:=rfl
theorem loadB_live (n:Option Nat) (ty sz:Nat) (es:List AV) (i o:Nat):loadB n (some (some ⟨ty,sz,es⟩)) i o=(es[i]?).bind fun el=>loadA n el o:=rfl
theorem loadA_none (el:AV) (o:Nat):loadA none el o=(cellsOf el)[o]?:=rfl
theorem loadA_some (n:Nat) (el:AV) (o:Nat):loadA (some n) el o=req (o+n≤(cellsOf el).length) (some (.agg (((cellsOf el).drop o).take n))):=rfl

def nilA (x:AV) (s:Store):Option AV:=match x with
 | .ptr k i o=>match s k with
  | some (some _)=>some (.ptr k i o)
  | _=>none
 | .eptr el o=>some (.eptr el o)
 | .fn f caps=>some (.fn f caps)
 | _=>none
def liveO (b:Option (Option Blk)) (v:AV):Option AV:=match b with
 | some (some _)=>some v
 | _=>none
theorem liveO_live (B:Blk) (v:AV):liveO (some (some B)) v=some v:=rfl
theorem nilA_ptr (k i o:Nat) (s:Store):nilA (.ptr k i o) s=liveO (s k) (.ptr k i o):=by unfold nilA liveO;rfl
theorem nilA_eptr (el:AV) (o:Nat) (s:Store):nilA (.eptr el o) s=some (.eptr el o):=rfl
theorem nilA_fn (f:FuncId) (c:List AV) (s:Store):nilA (.fn f c) s=some (.fn f c):=rfl

def fieldAddrA (x:AV) (off:Nat) (s:Store):Option AV:=match x with
 | .ptr k i o=>match s k with
  | some (some _)=>some (.ptr k i (o+off))
  | _=>none
 | .eptr el o=>some (.eptr el (o+off))
 | _=>none
theorem fieldAddrA_ptr (k i o off:Nat) (s:Store):fieldAddrA (.ptr k i o) off s=liveO (s k) (.ptr k i (o+off)):=by unfold fieldAddrA liveO;rfl
theorem fieldAddrA_eptr (el:AV) (o off:Nat) (s:Store):fieldAddrA (.eptr el o) off s=some (.eptr el (o+off)):=rfl

noncomputable def indexAddrA (x i:AV) (sz:Nat) (s:Store):Option AV:=match x,i with
 | .sl l,.int _ n=>req (0≤n) ((l[n.toNat]?).bind fun el=>req ((cellsOf el).length=sz) (some (.eptr el 0)))
 | .buf k len,.int _ n=>match s k with
  | some (some B)=>req (0≤n∧n<len∧B.sz=sz∧len≤B.es.length) (some (.ptr k n.toNat 0))
  | _=>none
 | _,_=>none
noncomputable def ixB (b:Option (Option Blk)) (k len:Nat) (n:Int) (sz:Nat):Option AV:=match b with
 | some (some B)=>req (0≤n∧n<len∧B.sz=sz∧len≤B.es.length) (some (.ptr k n.toNat 0))
 | _=>none
theorem indexAddrA_sl (l:List AV) (k:IntKind) (n:Int) (sz:Nat) (s:Store):indexAddrA (.sl l) (.int k n) sz s=req (0≤n) ((l[n.toNat]?).bind fun el=>req ((cellsOf el).length=sz) (some (.eptr el 0))):=rfl
theorem indexAddrA_buf (kk len:Nat) (k:IntKind) (n:Int) (sz:Nat) (s:Store):indexAddrA (.buf kk len) (.int k n) sz s=ixB (s kk) kk len n sz:=by unfold indexAddrA ixB;rfl
theorem ixB_live (ty sz':Nat) (es:List AV) (k len:Nat) (n:Int) (sz:Nat):ixB (some (some ⟨ty,sz',es⟩)) k len n sz=req (0≤n∧n<len∧sz'=sz∧len≤es.length) (some (.ptr k n.toNat 0)):=rfl

noncomputable def indexArrA (x i:AV) (sz len:Nat) (s:Store):Option AV:=match x,i with
 | .ptr k j o,.int _ n=>match s k with
  | some (some _)=>req (0≤n∧n<len) (some (.ptr k j (o+n.toNat * sz)))
  | _=>none
 | .eptr el o,.int _ n=>req (0≤n∧n<len) (some (.eptr el (o+n.toNat * sz)))
 | _,_=>none
noncomputable def ixR (b:Option (Option Blk)) (v:AV) (n:Int) (len:Nat):Option AV:=match b with
 | some (some _)=>req (0≤n∧n<len) (some v)
 | _=>none
theorem indexArrA_ptr (kk j o:Nat) (k:IntKind) (n:Int) (sz len:Nat) (s:Store):indexArrA (.ptr kk j o) (.int k n) sz len s=ixR (s kk) (.ptr kk j (o+n.toNat * sz)) n len:=by unfold indexArrA ixR;rfl
theorem indexArrA_eptr (el:AV) (o:Nat) (k:IntKind) (n:Int) (sz len:Nat) (s:Store):indexArrA (.eptr el o) (.int k n) sz len s=req (0≤n∧n<len) (some (.eptr el (o+n.toNat * sz))):=rfl
theorem ixR_live (B:Blk) (v:AV) (n:Int) (len:Nat):ixR (some (some B)) v n len=req (0≤n∧n<len) (some v):=rfl

noncomputable def indexA (x i:AV):Option AV:=match x,i with
 | .str l,.int _ n=>req (0≤n) ((l[n.toNat]?).map fun b=>.int .u8 b.toNat)
 | _,_=>none
theorem indexA_str (l:List UInt8) (k:IntKind) (n:Int):indexA (.str l) (.int k n)=req (0≤n) ((l[n.toNat]?).map fun b=>.int .u8 b.toNat):=rfl
noncomputable def indexVA (x i:AV) (sz len:Nat) (n:Option Nat):Option AV:=match x,i with
 | .agg cs,.int _ j=>req (0≤j∧j<len) (loadA n (.agg cs) (j.toNat * sz))
 | _,_=>none
theorem indexVA_agg (cs:List AV) (k:IntKind) (j:Int) (sz len:Nat) (n:Option Nat):indexVA (.agg cs) (.int k j) sz len n=req (0≤j∧j<len) (loadA n (.agg cs) (j.toNat * sz)):=rfl
def extractA (x:AV) (i:Nat):Option AV:=match x with
 | .tup vs=>vs[i]?
 | _=>none
theorem extractA_tup (vs:List AV) (i:Nat):extractA (.tup vs) i=vs[i]?:=rfl
noncomputable def fieldA (x:AV) (off:Nat) (n:Option Nat):Option AV:=match x with
 | .agg cs=>loadA n (.agg cs) off
 | _=>none
theorem fieldA_agg (cs:List AV) (off:Nat) (n:Option Nat):fieldA (.agg cs) off n=loadA n (.agg cs) off:=rfl
noncomputable def lenA (str:Bool) (x:AV) (s:Store):Option AV:=match x with
 | .str l=>req (str=true) (some (.int .i64 l.length))
 | .sl l=>req (str=false) (some (.int .i64 l.length))
 | .buf k len=>match s k with
  | some (some _)=>req (str=false) (some (.int .i64 len))
  | _=>none
 | .nils=>req (str=false) (some (.int .i64 0))
 | _=>none
theorem lenA_str (l:List UInt8) (s:Store):lenA true (.str l) s=some (.int .i64 l.length):=req_true rfl _
theorem lenA_sl (l:List AV) (s:Store):lenA false (.sl l) s=some (.int .i64 l.length):=req_true rfl _
theorem lenA_nils (s:Store):lenA false .nils s=some (.int .i64 0):=req_true rfl _
theorem lenA_buf (k len:Nat) (s:Store):lenA false (.buf k len) s=liveO (s k) (.int .i64 len):=by
 unfold lenA liveO
 simp only
 split
 ·exact req_true trivial _
 ·rfl
noncomputable def convIA (k:IntKind) (x:AV):Option AV:=match x with
 | .int _ n=>if k=.i64 then req (I64 n) (some (.int .i64 n)) else some (.int k (k.wrap n))
 | _=>none
theorem convIA_i64 (k:IntKind) (n:Int):convIA .i64 (.int k n)=req (I64 n) (some (.int .i64 n)):=by simp [convIA]
theorem convIA_u8 (k:IntKind) (n:Int):convIA .u8 (.int k n)=some (.int .u8 (IntKind.u8.wrap n)):=by simp [convIA]
theorem convIA_u64 (k:IntKind) (n:Int):convIA .u64 (.int k n)=some (.int .u64 (IntKind.u64.wrap n)):=by simp [convIA]
def convSA (x:AV):Option AV:=match x with
 | .str l=>some (.str l)
 | _=>none
theorem convSA_str (l:List UInt8):convSA (.str l)=some (.str l):=rfl
def eqBA (neg:Bool) (x y:AV):Option AV:=match x,y with
 | .bool a,.bool b=>some (.bool (decide (a=b) != neg))
 | _,_=>none
theorem eqBA_b (neg a b:Bool):eqBA neg (.bool a) (.bool b)=some (.bool (decide (a=b) != neg)):=rfl
def eqIA (neg:Bool) (x y:AV):Option AV:=match x,y with
 | .nili,.nili=>some (.bool (true != neg))
 | .ifc,.nili=>some (.bool (false != neg))
 | .nili,.ifc=>some (.bool (false != neg))
 | _,_=>none
theorem eqIA_nn (neg:Bool):eqIA neg .nili .nili=some (.bool (true != neg)):=rfl
theorem eqIA_in (neg:Bool):eqIA neg .ifc .nili=some (.bool (false != neg)):=rfl
theorem eqIA_ni (neg:Bool):eqIA neg .nili .ifc=some (.bool (false != neg)):=rfl
def convBA (l:Option (List AV)):Option AV:=l.bind fun l=>(bytesOf l).map AV.str
theorem convBA_some (l:List AV):convBA (some l)=(bytesOf l).map AV.str:=rfl
def eqSA (neg:Bool) (tags:List Nat) (x y:AV):Option AV:=match x,y with
 | .agg a,.agg b=>(eqT tags a b).map fun t=>.bool (t != neg)
 | _,_=>none
theorem eqSA_agg (neg:Bool) (tags:List Nat) (a b:List AV):eqSA neg tags (.agg a) (.agg b)=(eqT tags a b).map fun t=>.bool (t != neg):=rfl

theorem arith_i64 (n:Int):arith .i64 n=req (I64 n) (some (.int .i64 n)):=by simp [arith]
theorem arith_u64 (n:Int):arith .u64 n=some (.int .u64 (IntKind.u64.wrap n)):=by simp [arith]
theorem binA_add (k k':IntKind) (a b:Int):binA .add (.int k a) (.int k' b)=req (k=k') (arith k (a+b)):=rfl
theorem binA_sub (k k':IntKind) (a b:Int):binA .sub (.int k a) (.int k' b)=req (k=k') (arith k (a - b)):=rfl
theorem binA_mul (k k':IntKind) (a b:Int):binA .mul (.int k a) (.int k' b)=req (k=k') (arith k (a * b)):=rfl
theorem binA_quo (k k':IntKind) (a b:Int):binA .quo (.int k a) (.int k' b)=req (k=k'∧b ≠ 0) (arith k (a.tdiv b)):=rfl
theorem binA_rem (k k':IntKind) (a b:Int):binA .rem (.int k a) (.int k' b)=req (k=k'∧b ≠ 0) (some (.int k (a.tmod b))):=rfl
theorem binA_eql (k k':IntKind) (a b:Int):binA .eql (.int k a) (.int k' b)=req (k=k') (some (.bool (decide (a=b)))):=rfl
theorem binA_neq (k k':IntKind) (a b:Int):binA .neq (.int k a) (.int k' b)=req (k=k') (some (.bool (!decide (a=b)))):=rfl
theorem binA_lss (k k':IntKind) (a b:Int):binA .lss (.int k a) (.int k' b)=req (k=k') (some (.bool (decide (a<b)))):=rfl
theorem binA_leq (k k':IntKind) (a b:Int):binA .leq (.int k a) (.int k' b)=req (k=k') (some (.bool (decide (a≤b)))):=rfl
theorem binA_gtr (k k':IntKind) (a b:Int):binA .gtr (.int k a) (.int k' b)=req (k=k') (some (.bool (decide (b<a)))):=rfl
theorem binA_geq (k k':IntKind) (a b:Int):binA .geq (.int k a) (.int k' b)=req (k=k') (some (.bool (decide (b≤a)))):=rfl
theorem binA_shl (k k':IntKind) (a b:Int):binA .shl (.int k a) (.int k' b)=req (0≤b) (some (.int k (k.wrap (a * 2 ^ min b.toNat k.bits)))):=rfl
theorem binA_shr (k k':IntKind) (a b:Int):binA .shr (.int k a) (.int k' b)=req (0≤b) (some (.int k (a.fdiv (2 ^ min b.toNat k.bits)))):=rfl
theorem binA_and (k k':IntKind) (a b:Int):binA .and (.int k a) (.int k' b)=req (k=k') (some (.int k (k.wrap ((BitVec.ofInt k.bits a) &&& (BitVec.ofInt k.bits b)).toNat))):=rfl
theorem binA_or (k k':IntKind) (a b:Int):binA .or (.int k a) (.int k' b)=req (k=k') (some (.int k (k.wrap ((BitVec.ofInt k.bits a) ||| (BitVec.ofInt k.bits b)).toNat))):=rfl
theorem binA_addS (a b:List UInt8):binA .add (.str a) (.str b)=req (a.length+b.length≤9223372036854775807) (some (.str (a ++ b))):=rfl
theorem binA_eqlS (a b:List UInt8):binA .eql (.str a) (.str b)=some (.bool (decide (a=b))):=rfl
theorem binA_neqS (a b:List UInt8):binA .neq (.str a) (.str b)=some (.bool (!decide (a=b))):=rfl
theorem unA_not (b:Bool):unA .not (.bool b)=some (.bool (!b)):=rfl
theorem unA_neg (k:IntKind) (n:Int):unA .neg (.int k n)=arith k (-n):=rfl

noncomputable def storeP (n:Nat) (x v:AV) (s:Store):Option (AV × Store):=match x with
 | .ptr k i o=>match s k with
  | some (some B)=>(B.es[i]?).bind fun el =>
    req (solid v=true∧(cellsOf v).length=n∧cellsOk v∧0<n∧o+n≤(cellsOf el).length)
     (some (.tup [],upd s k (some (some ⟨B.ty,B.sz,B.es.set i (putIn el o v)⟩))))
  | _=>none
 | _=>none
noncomputable def storeB (n k i o:Nat) (b:Option (Option Blk)) (v:AV) (s:Store):Option (AV × Store):=match b with
 | some (some B)=>(B.es[i]?).bind fun el =>
   req (solid v=true∧(cellsOf v).length=n∧cellsOk v∧0<n∧o+n≤(cellsOf el).length)
    (some (.tup [],upd s k (some (some ⟨B.ty,B.sz,B.es.set i (putIn el o v)⟩))))
 | _=>none
theorem storeP_ptr (n k i o:Nat) (v:AV) (s:Store):storeP n (.ptr k i o) v s=storeB n k i o (s k) v s:=rfl
theorem storeB_live (n k i o ty sz:Nat) (es:List AV) (v:AV) (s:Store):storeB n k i o (some (some ⟨ty,sz,es⟩)) v s =
  (es[i]?).bind fun el=>req (solid v=true∧(cellsOf v).length=n∧cellsOk v∧0<n∧o+n≤(cellsOf el).length)
    (some (.tup [],upd s k (some (some ⟨ty,sz,es.set i (putIn el o v)⟩)))):=rfl

noncomputable def appendP (d ty sz by_:Nat) (s0 x:AV) (s:Store):Option (AV × Store):=(srcOf sz s x).bind fun news =>
 req (s d=none∧0<sz∧(∀ y ∈ news,(cellsOf y).length=sz∧cellsOk y))
 (match s0 with
 | .nils=>req (news.length * by_≤140737488355328∧news.length≤maxLen) (some (.buf d news.length,upd s d (some (some ⟨ty,sz,news⟩))))
 | .buf k len=>match s k with
  | some (some B)=>req (len=B.es.length∧B.ty=ty∧B.sz=sz∧(len+news.length) * by_≤140737488355328∧len+news.length≤maxLen)
    (some (.buf d (len+news.length),upd (upd s k (some none)) d (some (some ⟨ty,sz,B.es ++ news⟩))))
  | _=>none
 | _=>none)
noncomputable def appendN (d ty sz by_:Nat) (s0:AV) (news:Option (List AV)) (s:Store):Option (AV × Store):=news.bind fun news =>
 req (s d=none∧0<sz∧(∀ y ∈ news,(cellsOf y).length=sz∧cellsOk y))
 (match s0 with
 | .nils=>req (news.length * by_≤140737488355328∧news.length≤maxLen) (some (.buf d news.length,upd s d (some (some ⟨ty,sz,news⟩))))
 | .buf k len=>match s k with
  | some (some B)=>req (len=B.es.length∧B.ty=ty∧B.sz=sz∧(len+news.length) * by_≤140737488355328∧len+news.length≤maxLen)
    (some (.buf d (len+news.length),upd (upd s k (some none)) d (some (some ⟨ty,sz,B.es ++ news⟩))))
  | _=>none
 | _=>none)
def srcB (sz len:Nat) (b:Option (Option Blk)):Option (List AV):=match b with
 | some (some B)=>if decide (len≤B.es.length) && decide (B.sz=sz) then some (B.es.take len) else none
 | _=>none
theorem srcOf_sl (sz:Nat) (s:Store) (l:List AV):srcOf sz s (.sl l)=some l:=rfl
theorem srcOf_nils (sz:Nat) (s:Store):srcOf sz s .nils=some []:=rfl
theorem srcOf_buf (sz k len:Nat) (s:Store):srcOf sz s (.buf k len)=srcB sz len (s k):=rfl
theorem srcB_live (sz len ty sz':Nat) (es:List AV):srcB sz len (some (some ⟨ty,sz',es⟩))=if decide (len≤es.length) && decide (sz'=sz) then some (es.take len) else none:=rfl
theorem appendP_eq (d ty sz by_:Nat) (s0 x:AV) (s:Store):appendP d ty sz by_ s0 x s=appendN d ty sz by_ s0 (srcOf sz s x) s:=rfl
noncomputable def appB (d ty sz by_ k len:Nat) (b:Option (Option Blk)) (news:List AV) (s:Store):Option (AV × Store):=match b with
 | some (some B)=>req (len=B.es.length∧B.ty=ty∧B.sz=sz∧(len+news.length) * by_≤140737488355328∧len+news.length≤maxLen)
   (some (.buf d (len+news.length),upd (upd s k (some none)) d (some (some ⟨ty,sz,B.es ++ news⟩))))
 | _=>none
theorem appendN_nils (d ty sz by_:Nat) (news:List AV) (s:Store):appendN d ty sz by_ .nils (some news) s =
  req (s d=none∧0<sz∧(∀ y ∈ news,(cellsOf y).length=sz∧cellsOk y)) (req (news.length * by_≤140737488355328∧news.length≤maxLen) (some (.buf d news.length,upd s d (some (some ⟨ty,sz,news⟩))))):=rfl
theorem appendN_buf (d ty sz by_ k len:Nat) (news:List AV) (s:Store):appendN d ty sz by_ (.buf k len) (some news) s =
  req (s d=none∧0<sz∧(∀ y ∈ news,(cellsOf y).length=sz∧cellsOk y)) (appB d ty sz by_ k len (s k) news s):=rfl
theorem appB_live (d ty sz by_ k len ty' sz':Nat) (es news:List AV) (s:Store):appB d ty sz by_ k len (some (some ⟨ty',sz',es⟩)) news s =
  req (len=es.length∧ty'=ty∧sz'=sz∧(len+news.length) * by_≤140737488355328∧len+news.length≤maxLen) (some (.buf d (len+news.length),upd (upd s k (some none)) d (some (some ⟨ty,sz,es ++ news⟩)))):=rfl

noncomputable def sliceP (str:Bool) (sz:Nat) (x lo:AV) (hi:Option AV) (s:Store):Option (AV × Store):=match x with
 | .str l=>match lo,hi.getD (.int .i64 l.length) with
  | .int _ a,.int _ b=>req (str=true∧0≤a∧a≤b∧b≤l.length) (some (.str ((l.take b.toNat).drop a.toNat),s))
  | _,_=>none
 | .sl l=>match lo,hi.getD (.int .i64 l.length) with
  | .int _ a,.int _ b=>req (str=false∧0≤a∧a≤b∧b≤l.length∧∀ x ∈ l,(cellsOf x).length=sz) (some (.sl ((l.take b.toNat).drop a.toNat),s))
  | _,_=>none
 | .buf k len=>match s k with
  | some (some B)=>match lo,hi.getD (.int .i64 len) with
   | .int _ a,.int _ b=>req (str=false∧0≤a∧a≤b∧b≤len∧len≤B.es.length∧B.sz=sz∧B.es.all imm=true) (some (.sl ((B.es.take b.toNat).drop a.toNat),upd s k (some none)))
   | _,_=>none
  | _=>none
 | .ptr k i o=>(req (str=true∧sz=0) (vwB (hi.getD (.int .i64 0)) k i o (s k))).map fun v=>(v,s)
 | .eptr el o=>(req (str=true∧sz=0) (vwE (hi.getD (.int .i64 0)) el o)).map fun v=>(v,s)
 | _=>none
noncomputable def vwP (b:Option (Option Blk)) (k i o:Nat) (n:Int) (s:Store):Option (AV × Store):=match b with
 | some (some B)=>(B.es[i]?).bind fun el=>req (0<n∧o+n.toNat≤(cellsOf el).length) (some (.vw k i o n.toNat,s))
 | _=>none
theorem sliceP_ptr (k i o:Nat) (lo:AV) (kk:IntKind) (n:Int) (s:Store):sliceP true 0 (.ptr k i o) lo (some (.int kk n)) s=vwP (s k) k i o n s:=by
 simp only [sliceP,req,and_self,if_true,Option.getD_some]
 unfold vwB vwP
 cases s k with
 | none=>rfl
 | some b=>cases b with
  | none=>rfl
  | some B =>
   simp only
   cases B.es[i]? with
   | none=>rfl
   | some el=>simp only [Option.bind_some];unfold req;split <;> rfl
theorem vwP_live (ty sz:Nat) (es:List AV) (k i o:Nat) (n:Int) (s:Store):vwP (some (some ⟨ty,sz,es⟩)) k i o n s=(es[i]?).bind fun el=>req (0<n∧o+n.toNat≤(cellsOf el).length) (some (.vw k i o n.toNat,s)):=rfl
theorem sliceP_eptr (el:AV) (o:Nat) (lo:AV) (kk:IntKind) (n:Int) (s:Store):sliceP true 0 (.eptr el o) lo (some (.int kk n)) s=req (0<n∧o+n.toNat≤(cellsOf el).length) (some (.sl (((cellsOf el).drop o).take n.toNat),s)):=by
 simp only [sliceP,req,and_self,if_true,Option.getD_some]
 unfold vwE
 simp only
 unfold req;split <;> rfl
noncomputable def slB (str:Bool) (sz k len:Nat) (b:Option (Option Blk)) (p q:Int) (s:Store):Option (AV × Store):=match b with
 | some (some B)=>req (str=false∧0≤p∧p≤q∧q≤len∧len≤B.es.length∧B.sz=sz∧B.es.all imm=true) (some (.sl ((B.es.take q.toNat).drop p.toNat),upd s k (some none)))
 | _=>none
theorem sliceP_str (sz:Nat) (l:List UInt8) (k k':IntKind) (a b:Int) (s:Store):sliceP true sz (.str l) (.int k a) (some (.int k' b)) s=req (0≤a∧a≤b∧b≤l.length) (some (.str ((l.take b.toNat).drop a.toNat),s)):=by
 simp [sliceP]
theorem sliceP_str0 (sz:Nat) (l:List UInt8) (k:IntKind) (a:Int) (s:Store):sliceP true sz (.str l) (.int k a) none s=req (0≤a∧a≤l.length) (some (.str (l.drop a.toNat),s)):=by
 simp [sliceP]
theorem sliceP_sl (sz:Nat) (l:List AV) (k k':IntKind) (a b:Int) (s:Store):sliceP false sz (.sl l) (.int k a) (some (.int k' b)) s=req (0≤a∧a≤b∧b≤l.length∧∀ x ∈ l,(cellsOf x).length=sz) (some (.sl ((l.take b.toNat).drop a.toNat),s)):=by
 simp [sliceP]
theorem sliceP_sl0 (sz:Nat) (l:List AV) (k:IntKind) (a:Int) (s:Store):sliceP false sz (.sl l) (.int k a) none s=req (0≤a∧a≤l.length∧∀ x ∈ l,(cellsOf x).length=sz) (some (.sl (l.drop a.toNat),s)):=by
 simp [sliceP]
theorem sliceP_buf (sz kk len:Nat) (k k':IntKind) (a b:Int) (s:Store):sliceP false sz (.buf kk len) (.int k a) (some (.int k' b)) s=slB false sz kk len (s kk) a b s:=by
 unfold sliceP slB;rfl
theorem sliceP_buf0 (sz kk len:Nat) (k:IntKind) (a:Int) (s:Store):sliceP false sz (.buf kk len) (.int k a) none s=slB false sz kk len (s kk) a len s:=by
 unfold sliceP slB;rfl
theorem slB_live (sz k len ty sz':Nat) (es:List AV) (p q:Int) (s:Store):slB false sz k len (some (some ⟨ty,sz',es⟩)) p q s =
  req (0≤p∧p≤q∧q≤len∧len≤es.length∧sz'=sz∧es.all imm=true) (some (.sl ((es.take q.toNat).drop p.toNat),upd s k (some none))):=by
 simp [slB]
def evO (e:Env):Option MX→Option AV
 | none=>none
 | some x=>some (x.ev e)
theorem evO_none (e:Env):evO e none=none:=rfl
theorem evO_some (e:Env) (x:MX):evO e (some x)=some (x.ev e):=rfl
theorem loMx_none (e:Env):loMx e none=.int .i64 0:=rfl
theorem loMx_some (e:Env) (x:MX):loMx e (some x)=x.ev e:=rfl
theorem ev_t (e:Env) (n:Nat):MX.ev e (.t n)=e n:=rfl
theorem ev_c (e:Env) (v:AV):MX.ev e (.c v)=v:=rfl

theorem mk_eq (d ty sz:Nat) (es:List AV) (v:AV) (s:Store):mk d ty sz es v s=req (s d=none∧0<sz∧∀ x ∈ es,solid x=true∧(cellsOf x).length=sz∧cellsOk x) (some (v,upd s d (some (some ⟨ty,sz,es⟩)))):=rfl

def isBin:MOp→Bool
 | .bin ..=>true
 | _=>false
theorem V_bP {d:Option Nat} {o:MOp} (hc:(isCall o || isBin o)=false) (t):V P nk (⟨none,d,o⟩ :: r) e s K t=bP (ex (d.getD 0) o e s) (fun v s'=>V P nk r (putO e d v) s' K .mk) .mk:=by
 unfold V bP
 rw [vcL]
 cases o <;> first | (cases hc;done) | rfl

theorem ex_bV {o:Option AV} {q:Option (AV × Store)} {Kp:AV→Store→Prop} {t} (h:q=o.map fun v=>(v,s)):bP q Kp t=bV o (fun v=>Kp v s) .mk:=by
 subst h
 unfold bP bV
 apply propext;constructor
 ·rintro ⟨v,s',h,k⟩
  obtain ⟨u,h1,h2⟩:=Option.map_eq_some_iff.1 h
  cases h2;exact ⟨_,h1,k⟩
 ·rintro ⟨v,h1,h2⟩;exact ⟨v,s,by rw [h1];rfl,h2⟩

theorem V_nil (t):V P nk [] e s K t=K e s:=rfl
theorem V_mv (d:Option Nat) (x:MX) (t):V P nk (⟨none,d,.mv x⟩ :: r) e s K t=letV (x.ev e) (fun v=>V P nk r (putO e d v) s K .mk) .mk:=by
 rw [V_bP rfl];exact bP_some _ _ _ _
theorem V_pick (d:Option Nat) (c a b:MX) (t):V P nk (⟨none,d,.pick c a b⟩ :: r) e s K t=bV (pickA (c.ev e) (a.ev e) (b.ev e)) (fun v=>V P nk r (putO e d v) s K .mk) .mk:=by
 rw [V_bP rfl];refine ex_bV ?_
 simp only [ex,pickA];generalize c.ev e=C;cases C <;> rfl
theorem V_bin (d:Option Nat) (op:BinOp) (x y:MX) (t):V P nk (⟨none,d,.bin op x y⟩ :: r) e s K t=bV (binA op (x.ev e) (y.ev e)) (fun v=>V P nk r (putO e d v) s K .mk) .mk:=by
 have h:V P nk (⟨none,d,.bin op x y⟩ :: r) e s K t=bP ((binA op (x.ev e) (y.ev e)).map fun v=>(v,s)) (fun v s'=>V P nk r (putO e d v) s' K .mk) .mk:=by
  unfold V bP
  rw [vcL]
  rfl
 rw [h];exact ex_bV rfl
theorem V_un (d:Option Nat) (op:UnOp) (x:MX) (t):V P nk (⟨none,d,.un op x⟩ :: r) e s K t=bV (unA op (x.ev e)) (fun v=>V P nk r (putO e d v) s K .mk) .mk:=by
 rw [V_bP rfl];exact ex_bV rfl
theorem V_eqB (d:Option Nat) (neg:Bool) (x y:MX) (t):V P nk (⟨none,d,.eqB neg x y⟩ :: r) e s K t=bV (eqBA neg (x.ev e) (y.ev e)) (fun v=>V P nk r (putO e d v) s K .mk) .mk:=by
 rw [V_bP rfl];refine ex_bV ?_
 simp only [ex];generalize x.ev e=X;generalize y.ev e=Y;cases X <;> first | rfl | (cases Y <;> rfl)
theorem V_eqI (d:Option Nat) (neg:Bool) (x y:MX) (t):V P nk (⟨none,d,.eqI neg x y⟩ :: r) e s K t=bV (eqIA neg (x.ev e) (y.ev e)) (fun v=>V P nk r (putO e d v) s K .mk) .mk:=by
 rw [V_bP rfl];refine ex_bV ?_
 simp only [ex];generalize x.ev e=X;generalize y.ev e=Y;cases X <;> first | rfl | (cases Y <;> rfl)
theorem V_convB (d:Option Nat) (x:MX) (t):V P nk (⟨none,d,.convB x⟩ :: r) e s K t=bV (convBA (srcOf 1 s (x.ev e))) (fun v=>V P nk r (putO e d v) s K .mk) .mk:=by
 rw [V_bP rfl];refine ex_bV ?_
 simp only [ex,convBA]
 cases srcOf 1 s (x.ev e) with
 | none=>rfl
 | some l=>simp only [Option.bind_some,Option.map_map];rfl
theorem V_eqS (d:Option Nat) (neg:Bool) (tags:List Nat) (x y:MX) (t):V P nk (⟨none,d,.eqS neg tags x y⟩ :: r) e s K t=bV (eqSA neg tags (x.ev e) (y.ev e)) (fun v=>V P nk r (putO e d v) s K .mk) .mk:=by
 rw [V_bP rfl];refine ex_bV ?_
 simp only [ex];generalize x.ev e=X;generalize y.ev e=Y;cases X <;> first | rfl | (cases Y <;> first | rfl | (simp only [eqSA,Option.map_map];rfl))
theorem V_convI (d:Option Nat) (k:IntKind) (x:MX) (t):V P nk (⟨none,d,.convI k x⟩ :: r) e s K t=bV (convIA k (x.ev e)) (fun v=>V P nk r (putO e d v) s K .mk) .mk:=by
 rw [V_bP rfl];refine ex_bV ?_
 simp only [ex];generalize x.ev e=X;cases X <;> rfl
theorem V_convS (d:Option Nat) (x:MX) (t):V P nk (⟨none,d,.convS x⟩ :: r) e s K t=bV (convSA (x.ev e)) (fun v=>V P nk r (putO e d v) s K .mk) .mk:=by
 rw [V_bP rfl];refine ex_bV ?_
 simp only [ex];generalize x.ev e=X;cases X <;> rfl
theorem V_load (d:Option Nat) (n:Option Nat) (x:MX) (t):V P nk (⟨none,d,.load n x⟩ :: r) e s K t=bV (loadV n (x.ev e) s) (fun v=>V P nk r (putO e d v) s K .mk) .mk:=by
 rw [V_bP rfl];refine ex_bV ?_
 simp only [ex,loadV];generalize x.ev e=X;cases X <;> first | rfl | skip
 rename_i k i o
 simp only
 cases hk:s k with
 | none=>rfl
 | some b =>
  cases b with
  | none=>rfl
  | some B=>simp only;cases B.es[i]? <;> rfl
theorem V_nilCheck (d:Option Nat) (x:MX) (t):V P nk (⟨none,d,.nilCheck x⟩ :: r) e s K t=bV (nilA (x.ev e) s) (fun v=>V P nk r (putO e d v) s K .mk) .mk:=by
 rw [V_bP rfl];refine ex_bV ?_
 simp only [ex,nilA];generalize x.ev e=X;cases X <;> first | rfl | (simp only;split <;> simp_all)
theorem V_fieldAddr (d:Option Nat) (x:MX) (off:Nat) (t):V P nk (⟨none,d,.fieldAddr x off⟩ :: r) e s K t=bV (fieldAddrA (x.ev e) off s) (fun v=>V P nk r (putO e d v) s K .mk) .mk:=by
 rw [V_bP rfl];refine ex_bV ?_
 simp only [ex,fieldAddrA];generalize x.ev e=X;cases X <;> first | rfl | (simp only;split <;> simp_all)
theorem V_field (d:Option Nat) (x:MX) (off:Nat) (n:Option Nat) (t):V P nk (⟨none,d,.field x off n⟩ :: r) e s K t=bV (fieldA (x.ev e) off n) (fun v=>V P nk r (putO e d v) s K .mk) .mk:=by
 rw [V_bP rfl];refine ex_bV ?_
 simp only [ex];generalize x.ev e=X;cases X <;> rfl
theorem V_indexAddr (d:Option Nat) (x y:MX) (sz:Nat) (t):V P nk (⟨none,d,.indexAddr x y sz⟩ :: r) e s K t=bV (indexAddrA (x.ev e) (y.ev e) sz s) (fun v=>V P nk r (putO e d v) s K .mk) .mk:=by
 rw [V_bP rfl];refine ex_bV ?_
 simp only [ex,indexAddrA];generalize x.ev e=X;generalize y.ev e=Y;cases X <;> first | rfl | skip
 all_goals cases Y <;> first | rfl | skip
 ·rename_i l k n
  simp only
  by_cases hn:0≤n
  ·rw [req_true hn,req_true hn]
   cases l[n.toNat]? with
   | none=>rfl
   | some el =>
    simp only [Option.bind_some]
    by_cases hc:(cellsOf el).length=sz
    ·rw [req_true hc,req_true hc];rfl
    ·simp [req,hc]
  ·simp [req,hn]
 ·rename_i k len k' n
  simp only
  split
  ·rename_i B hB
   rw [hB]
   simp only
   by_cases hc:0≤n∧n<len∧B.sz=sz∧len≤B.es.length
   ·rw [req_true hc,req_true hc];rfl
   ·simp [req,hc]
  ·rename_i h
   split
   ·rename_i B hB;exact absurd hB (h B)
   ·rfl
theorem V_indexArr (d:Option Nat) (x y:MX) (sz len:Nat) (t):V P nk (⟨none,d,.indexArr x y sz len⟩ :: r) e s K t=bV (indexArrA (x.ev e) (y.ev e) sz len s) (fun v=>V P nk r (putO e d v) s K .mk) .mk:=by
 rw [V_bP rfl];refine ex_bV ?_
 simp only [ex,indexArrA];generalize x.ev e=X;generalize y.ev e=Y;cases X <;> first | rfl | skip
 all_goals cases Y <;> first | rfl | skip
 ·rename_i k j o k' n
  simp only
  split
  ·rename_i B hB
   rw [hB]
   simp only
   by_cases hc:0≤n∧n<len
   ·rw [req_true hc,req_true hc];rfl
   ·simp [req,hc]
  ·rename_i h
   split
   ·rename_i B hB;exact absurd hB (h B)
   ·rfl
 ·rename_i el o k' n
  simp only
  by_cases hc:0≤n∧n<len
  ·rw [req_true hc,req_true hc];rfl
  ·simp [req,hc]
theorem V_index (d:Option Nat) (x y:MX) (t):V P nk (⟨none,d,.index x y⟩ :: r) e s K t=bV (indexA (x.ev e) (y.ev e)) (fun v=>V P nk r (putO e d v) s K .mk) .mk:=by
 rw [V_bP rfl];refine ex_bV ?_
 simp only [ex,indexA];generalize x.ev e=X;generalize y.ev e=Y;cases X <;> first | rfl | skip
 cases Y <;> first | rfl | skip
 rename_i l k n
 simp only
 by_cases hn:0≤n
 ·rw [req_true hn,req_true hn,Option.map_map];rfl
 ·simp [req,hn]
theorem V_indexV (d:Option Nat) (x y:MX) (sz len:Nat) (n:Option Nat) (t):V P nk (⟨none,d,.indexV x y sz len n⟩ :: r) e s K t=bV (indexVA (x.ev e) (y.ev e) sz len n) (fun v=>V P nk r (putO e d v) s K .mk) .mk:=by
 rw [V_bP rfl];refine ex_bV ?_
 simp only [ex,indexVA];generalize x.ev e=X;generalize y.ev e=Y;cases X <;> first | rfl | skip
 cases Y <;> first | rfl | skip
 rename_i l k j
 simp only
 by_cases hn:0≤j∧j<len
 ·rw [req_true hn,req_true hn]
 ·simp [req,hn]
theorem V_extract (d:Option Nat) (x:MX) (i:Nat) (t):V P nk (⟨none,d,.extract x i⟩ :: r) e s K t=bV (extractA (x.ev e) i) (fun v=>V P nk r (putO e d v) s K .mk) .mk:=by
 rw [V_bP rfl];refine ex_bV ?_
 simp only [ex];generalize x.ev e=X;cases X <;> rfl
theorem V_len (d:Option Nat) (str:Bool) (x:MX) (t):V P nk (⟨none,d,.len str x⟩ :: r) e s K t=bV (lenA str (x.ev e) s) (fun v=>V P nk r (putO e d v) s K .mk) .mk:=by
 rw [V_bP rfl];refine ex_bV ?_
 have hq:∀ (c:Prop) (v:AV),req c (some (v,s))=(req c (some v)).map fun v=>(v,s):=by
  intro c v
  by_cases h:c
  ·rw [req_true h,req_true h];rfl
  ·simp [req,h]
 simp only [ex,lenA];generalize x.ev e=X;cases X <;> first | rfl | (simp only [hq];done) | skip
 simp only
 split
 ·rename_i B hB;rw [hB];exact hq _ _
 ·rename_i h
  split
  ·rename_i B hB;exact absurd hB (h B)
  ·rfl
theorem V_max (d:Option Nat) (xs:List MX) (t):V P nk (⟨none,d,.max xs⟩ :: r) e s K t=bV (maxA (xs.map fun x=>x.ev e)) (fun v=>V P nk r (putO e d v) s K .mk) .mk:=by
 rw [V_bP rfl];exact ex_bV rfl
theorem V_min (d:Option Nat) (xs:List MX) (t):V P nk (⟨none,d,.min xs⟩ :: r) e s K t=bV (minA (xs.map fun x=>x.ev e)) (fun v=>V P nk r (putO e d v) s K .mk) .mk:=by
 rw [V_bP rfl];exact ex_bV rfl
theorem V_makeFunc (d:Option Nat) (f:FuncId) (xs:List MX) (t):V P nk (⟨none,d,.makeFunc f xs⟩ :: r) e s K t=letL (xs.map fun x=>x.ev e) (fun vs=>V P nk r (putO e d (.fn f vs)) s K .mk) .mk:=by
 rw [V_bP rfl];exact bP_some _ _ _ _
theorem V_build (d:Option Nat) (z:List AV) (ps:List (Nat × Nat × MX)) (t):V P nk (⟨none,d,.build z ps⟩ :: r) e s K t =
  bL (fillA z (ps.map fun p=>(p.1,p.2.1,p.2.2.ev e))) (fun cs=>V P nk r (putO e d (.agg cs)) s K .mk) .mk:=by
 rw [V_bP rfl]
 unfold bP bL
 simp only [ex]
 apply propext;constructor
 ·rintro ⟨v,s',h,k⟩
  obtain ⟨u,h1,h2⟩:=Option.map_eq_some_iff.1 h
  cases h2;exact ⟨_,h1,k⟩
 ·rintro ⟨v,h1,h2⟩;exact ⟨_,s,by rw [h1];rfl,h2⟩
theorem V_alloc (d:Option Nat) (ty sz:Nat) (z:AV) (t):V P nk (⟨none,d,.alloc ty sz z⟩ :: r) e s K t=bP (mk (d.getD 0) ty sz [z] (.ptr (d.getD 0) 0 0) s) (fun v s'=>V P nk r (putO e d v) s' K .mk) .mk:=V_bP rfl _
theorem V_box (d:Option Nat) (ty sz:Nat) (x:MX) (t):V P nk (⟨none,d,.box ty sz x⟩ :: r) e s K t=bP (mk (d.getD 0) ty sz [x.ev e] (.ptr (d.getD 0) 0 0) s) (fun v s'=>V P nk r (putO e d v) s' K .mk) .mk:=V_bP rfl _
theorem V_buildSlice (d:Option Nat) (ty sz n:Nat) (z:AV) (ps:List (Nat × MX)) (t):V P nk (⟨none,d,.buildSlice ty sz n z ps⟩ :: r) e s K t =
  bL (fillE sz (List.replicate n z) (ps.map fun p=>(p.1,p.2.ev e))) (fun es=>bP (if n=0 then some (.nils,s) else mk (d.getD 0) ty sz es (.buf (d.getD 0) n) s) (fun v s'=>V P nk r (putO e d v) s' K .mk) .mk) .mk:=by
 rw [V_bP rfl]
 unfold bP bL
 simp only [ex]
 apply propext;constructor
 ·rintro ⟨v,s',h,k⟩
  obtain ⟨u,h1,h2⟩:=Option.bind_eq_some_iff.1 h
  exact ⟨u,h1,v,s',h2,k⟩
 ·rintro ⟨u,h1,v,s',h2,k⟩;exact ⟨v,s',Option.bind_eq_some_iff.2 ⟨u,h1,h2⟩,k⟩
noncomputable def makeSliceP (d ty sz by_:Nat) (z l c:AV) (s:Store):Option (AV × Store):=match l,c with
 | .int _ n,.int _ m=>req (n=m∧0≤n∧(by_:Int) * n≤281474976710656∧n≤9223372036854775807) (mk d ty sz (List.replicate n.toNat z) (.buf d n.toNat) s)
 | _,_=>none
theorem makeSliceP_int (d ty sz by_:Nat) (z:AV) (k k':IntKind) (n m:Int) (s:Store):makeSliceP d ty sz by_ z (.int k n) (.int k' m) s =
  req (n=m∧0≤n∧(by_:Int) * n≤281474976710656∧n≤9223372036854775807) (mk d ty sz (List.replicate n.toNat z) (.buf d n.toNat) s):=rfl
theorem V_makeSlice (d:Option Nat) (ty sz by_:Nat) (z:AV) (l c:MX) (t):V P nk (⟨none,d,.makeSlice ty sz by_ z l c⟩ :: r) e s K t=bP (makeSliceP (d.getD 0) ty sz by_ z (l.ev e) (c.ev e) s) (fun v s'=>V P nk r (putO e d v) s' K .mk) .mk:=V_bP rfl _
theorem V_store (d:Option Nat) (n:Nat) (x y:MX) (t):V P nk (⟨none,d,.store n x y⟩ :: r) e s K t=bP (storeP n (x.ev e) (y.ev e) s) (fun v s'=>V P nk r (putO e d v) s' K .mk) .mk:=V_bP rfl _
theorem V_append (d:Option Nat) (ty sz by_:Nat) (z:AV) (x y:MX) (t):V P nk (⟨none,d,.append ty sz by_ z x y⟩ :: r) e s K t=bP (appendP (d.getD 0) ty sz by_ (x.ev e) (y.ev e) s) (fun v s'=>V P nk r (putO e d v) s' K .mk) .mk:=V_bP rfl _
theorem V_slice (d:Option Nat) (str:Bool) (sz:Nat) (x:MX) (lo hi:Option MX) (t):V P nk (⟨none,d,.slice str sz x lo hi⟩ :: r) e s K t=bP (sliceP str sz (x.ev e) (loMx e lo) (evO e hi) s) (fun v s'=>V P nk r (putO e d v) s' K .mk) .mk:=by
 rw [V_bP rfl]
 have:ex (d.getD 0) (.slice str sz x lo hi) e s=sliceP str sz (x.ev e) (loMx e lo) (evO e hi) s:=by
  have hh:∀ n,hiMx e n hi=(evO e hi).getD (.int .i64 n):=fun n=>by cases hi <;> rfl
  simp only [ex,hh]
  rfl
 rw [this]
theorem V_call (d:Option Nat) (f:FuncId) (xs:List MX) (t):V P nk (⟨none,d,.call f xs⟩ :: r) e s K t =
  letL (xs.map fun x=>x.ev e) (fun vs=>callS P nk (d.getD 0) f (vs.map (bor s 5)) (refsL s 5 vs) vs s (fun v s'=>V P nk r (putO e d v) s' K .mk) .mk) .mk:=rfl
theorem V_callv (d:Option Nat) (x:MX) (xs:List MX) (t):V P nk (⟨none,d,.callv x xs⟩ :: r) e s K t =
  onF (x.ev e) (fun f caps=>letL (xs.map (fun x=>x.ev e) ++ caps) (fun vs=>callS P nk (d.getD 0) f (vs.map (bor s 5)) (refsL s 5 vs) vs s (fun v s'=>V P nk r (putO e d v) s' K .mk) .mk) .mk) .mk:=rfl
theorem V_guard (n:Nat) (w:Bool) (d:Option Nat) (o:MOp) (t):V P nk (⟨some (n,w),d,o⟩ :: r) e s K t =
  onB (e n) (fun b=>brB b w (V P nk (⟨none,d,o⟩ :: r) (upd e n (.bool w)) s K .mk) (V P nk r (putO (upd e n (.bool (!w))) d (.tup [])) s K .mk) .mk) (V P nk r (putO e d (.tup [])) s K .mk) .mk:=by
 unfold V onB brB
 rw [vcL]
 rfl
theorem putO_some (d:Nat) (v:AV):putO e (some d) v=upd e d v:=rfl
theorem putO_none (v:AV):putO e none v=e:=rfl

theorem usedL_f (s:Store) (l:List Nat):usedL false s l=True:=propext ⟨fun _=>trivial,fun _ h=>by cases h⟩
theorem usedL_nil (nk:Bool) (s:Store):usedL nk s []=True:=propext ⟨fun _=>trivial,fun _ _ k hk=>by cases hk⟩
theorem usedL_imm (nk:Bool) (s:Store) {args:List AV} (h:args.all imm=true):usedL nk s (refsL s 5 args)=True:=by rw [refsL_imm s 5 args h];exact usedL_nil nk s
end

section
variable {P:Program} {N:Nat} {Q:Exit→Env→Store→Prop} {e:Env} {s:Store}

theorem M_of {m:MC} {t} (h:vcM P N m Q e s):M P N m Q e s t:=vcM_sound m h
theorem M_skip {t} (h:Q .normal e s):M P N .skip Q e s t:=M_of h
theorem M_reg {ss:List MS} {draw:Bool} {conf:List (MS × MS)} {t} (h:V P draw ss e s (regK conf Q .mk) .mk):M P N (.reg ss draw conf) Q e s t:=M_of h
theorem M_exit {id:Nat} {t} (h:Q (.exit id) e s):M P N (.exit id) Q e s t:=M_of h
theorem M_ret {t} (h:Q .ret e s):M P N .ret Q e s t:=M_of h
theorem M_seq {a b:MC} {t} (h:M P N a (seqQ (fun e s=>M P N b Q e s .mk) Q .mk) e s .mk):M P N (.seq a b) Q e s t:=by
 intro c hc ro rm B w0 ok0 ok ρ a w hfl hR
 rcases cCode_inv hc with ⟨_,h'⟩ | ⟨_,_,_,_,_,_,h',_⟩ | ⟨cx,cy,_,_,rfl,h',h1,h2⟩ | ⟨_,_,_,_,_,_,h',_⟩ | ⟨_,_,_,_,h',_⟩ | ⟨_,_,_,h',_⟩ | ⟨_,_,h'⟩ | ⟨_,h'⟩ | ⟨_,_,_,_,_,_,_,h',_⟩ <;> first | (cases h';done) | skip
 cases h'
 refine wpIn_seq (wpIn_mono (h cx h1 ro rm B w0 ok0 ok ρ a w (hfl.imp (fun h=>by simp only [MC.flat,Bool.and_eq_true] at h;exact h.1) id) hR) fun ex a' w' ⟨e',s',ok',ρ',hR',hq⟩=>?_)
 cases ex with
 | normal=>exact hq cy h2 ro rm B w0 ok0 ok' ρ' a' w' (hfl.imp (fun h=>by simp only [MC.flat,Bool.and_eq_true] at h;exact h.2) id) hR'
 | _=>exact ⟨e',s',ok',ρ',hR',hq⟩
def condS (v:AV) (A B:Prop) (_:Tag (A,B)):Prop:=match v with
 | .bool b=>brB b true A B .mk
 | _=>False
theorem condS_b (b:Bool) (A B:Prop) (t):condS (.bool b) A B t=brB b true A B .mk:=rfl
theorem M_cond {x:MX} {p q:MC} {t} (h:condS (x.ev e) (M P N p Q e s .mk) (M P N q Q e s .mk) .mk):M P N (.cond x p q) Q e s t:=by
 intro c hc ro rm B w0 ok0 ok ρ a w hfl hR
 rcases cCode_inv hc with ⟨_,h'⟩ | ⟨_,_,_,_,_,_,h',_⟩ | ⟨_,_,_,_,_,h',_⟩ | ⟨o,cx,cy,_,_,rfl,h',h1,h2⟩ | ⟨_,_,_,_,h',_⟩ | ⟨_,_,_,h',_⟩ | ⟨_,_,h'⟩ | ⟨_,h'⟩ | ⟨_,_,_,_,_,_,_,h',_⟩ <;> first | (cases h';done) | skip
 cases h'
 unfold condS at h
 split at h
 ·rename_i t ht
  have hv:=hR.ev o
  rw [ht] at hv
  generalize hav:a.eval o=av at hv
  cases hv
  refine wpIn_cond hav ?_
  cases t with
  | true=>exact h.1 rfl cx h1 ro rm B w0 ok0 ok ρ a w (hfl.imp (fun h=>by simp only [MC.flat,Bool.and_eq_true] at h;exact h.1) id) hR
  | false=>exact h.2 rfl cy h2 ro rm B w0 ok0 ok ρ a w (hfl.imp (fun h=>by simp only [MC.flat,Bool.and_eq_true] at h;exact h.2) id) hR
 ·exact h.elim
theorem M_block {id:Nat} {p:MC} {t} (h:M P N p (blockQ id Q .mk) e s .mk):M P N (.block id p) Q e s t:=by
 intro c hc ro rm B w0 ok0 ok ρ a w hfl hR
 rcases cCode_inv hc with ⟨_,h'⟩ | ⟨_,_,_,_,_,_,h',_⟩ | ⟨_,_,_,_,_,h',_⟩ | ⟨_,_,_,_,_,_,h',_⟩ | ⟨id',cx,_,rfl,h',h1⟩ | ⟨_,_,_,h',_⟩ | ⟨_,_,h'⟩ | ⟨_,h'⟩ | ⟨_,_,_,_,_,_,_,h',_⟩ <;> first | (cases h';done) | skip
 cases h'
 refine wpIn_block (wpIn_mono (h cx h1 ro rm B w0 ok0 ok ρ a w hfl hR) fun ex a' w' ⟨e',s',ok',ρ',hR',hq⟩=>?_)
 cases ex with
 | exit id' =>
  simp only [Exit.inBlock]
  simp only [blockQ] at hq
  split at hq
  ·rename_i hid;rw [if_pos hid];exact ⟨e',s',ok',ρ',hR',hq⟩
  ·rename_i hid;rw [if_neg hid];exact ⟨e',s',ok',ρ',hR',hq⟩
 | _=>exact ⟨e',s',ok',ρ',hR',hq⟩
theorem seqQ_n (K:Env→Store→Prop) (Q:Exit→Env→Store→Prop) (t) (e:Env) (s:Store):seqQ K Q t .normal e s=K e s:=rfl
theorem seqQ_r (K:Env→Store→Prop) (Q:Exit→Env→Store→Prop) (t) (e:Env) (s:Store):seqQ K Q t .ret e s=Q .ret e s:=rfl
theorem seqQ_x (K:Env→Store→Prop) (Q:Exit→Env→Store→Prop) (t) (id:Nat) (e:Env) (s:Store):seqQ K Q t (.exit id) e s=Q (.exit id) e s:=rfl
theorem blockQ_n (i:Nat) (Q:Exit→Env→Store→Prop) (t) (e:Env) (s:Store):blockQ i Q t .normal e s=Q .normal e s:=rfl
theorem blockQ_r (i:Nat) (Q:Exit→Env→Store→Prop) (t) (e:Env) (s:Store):blockQ i Q t .ret e s=Q .ret e s:=rfl
theorem blockQ_x (i:Nat) (Q:Exit→Env→Store→Prop) (t) (id:Nat) (e:Env) (s:Store):blockQ i Q t (.exit id) e s=if id=i then Q .normal e s else Q (.exit id) e s:=rfl
theorem regK_eq (conf:List (MS × MS)) (Q:Exit→Env→Store→Prop) (t) (e:Env) (s:Store):regK conf Q t e s=(confOk conf e∧Q .normal e s):=rfl
theorem confOk_nil (e:Env):confOk [] e=True:=propext ⟨fun _=>trivial,fun _ p hp=>by cases hp⟩

def W0 (P:Program) (N:Nat):MC→(Exit→Env→Store→Prop)→Env→Store→Prop
 | .skip,Q,e,s=>Q .normal e s
 | .reg ss draw conf,Q,e,s=>V P draw ss e s (regK conf Q .mk) .mk
 | .seq a b,Q,e,s=>W0 P N a (seqQ (fun e s=>W0 P N b Q e s) Q .mk) e s
 | .cond x a b,Q,e,s=>condS (x.ev e) (W0 P N a Q e s) (W0 P N b Q e s) .mk
 | .block id a,Q,e,s=>W0 P N a (blockQ id Q .mk) e s
 | .exit id,Q,e,s=>Q (.exit id) e s
 | .ret,Q,e,s=>Q .ret e s
 | m,Q,e,s=>AWM P N m Q e s

theorem condS_mono {v:AV} {A B A' B':Prop} (ha:A→A') (hb:B→B') (h:condS v A B .mk):condS v A' B' .mk:=by
 cases v with
 | bool b=>exact ⟨fun h'=>ha (h.1 h'),fun h'=>hb (h.2 h')⟩
 | _=>exact h

theorem W0_sound:∀ (m:MC) {Q:Exit→Env→Store→Prop} {e:Env} {s:Store},W0 P N m Q e s→AWM P N m Q e s
 | .skip,_,_,_,h=>M_skip (t:=.mk) h
 | .reg _ _ _,_,_,_,h=>M_reg (t:=.mk) h
 | .seq a b,Q,_,_,h=>M_seq (t:=.mk) ((W0_sound a h).mono fun x e s h=>by
   cases x with
   | normal=>exact W0_sound b h
   | _=>exact h)
 | .cond _ a b,_,_,_,h=>M_cond (t:=.mk) (condS_mono (W0_sound a) (W0_sound b) h)
 | .block _ a,_,_,_,h=>M_block (t:=.mk) (W0_sound a h)
 | .exit _,_,_,_,h=>M_exit (t:=.mk) h
 | .ret,_,_,_,h=>M_ret (t:=.mk) h
 | .loop _,_,_,_,h=>h
 | .rf ..,_,_,_,h=>h

def W (P:Program) (N:Nat) (m:MC) (Q:Exit→Env→Store→Prop) (e:Env) (s:Store) (_:Tag (m,Q,e,s)):Prop:=W0 P N m Q e s
theorem W_skip (t):W P N .skip Q e s t=Q .normal e s:=rfl
theorem W_reg (ss:List MS) (draw:Bool) (conf:List (MS × MS)) (t):W P N (.reg ss draw conf) Q e s t=V P draw ss e s (regK conf Q .mk) .mk:=rfl
theorem W_seq (a b:MC) (t):W P N (.seq a b) Q e s t=W P N a (seqQ (fun e s=>W P N b Q e s .mk) Q .mk) e s .mk:=rfl
theorem W_cond (x:MX) (a b:MC) (t):W P N (.cond x a b) Q e s t=condS (x.ev e) (W P N a Q e s .mk) (W P N b Q e s .mk) .mk:=rfl
theorem W_block (id:Nat) (a:MC) (t):W P N (.block id a) Q e s t=W P N a (blockQ id Q .mk) e s .mk:=rfl
theorem W_exit (id:Nat) (t):W P N (.exit id) Q e s t=Q (.exit id) e s:=rfl
theorem W_ret (t):W P N .ret Q e s t=Q .ret e s:=rfl

theorem W_sound {m:MC} {t} (h:W P N m Q e s t):AWM P N m Q e s:=W0_sound m h

theorem sound_W {f:FuncId} {nt np:Nat} {m:MC} {rs:List (Nat × Option (Option Nat))} (hF:cFun P f=some (nt,np,m,rs)) {args:List AV} (hla:args.length≤nt) {v:AV}
  (h:W P nt m (endQ rs v) (argE args) noStore .mk):Sound P f args v:=sound_of hF hla (W_sound h)
theorem endQ_n (rs:List (Nat × Option (Option Nat))) (v:AV) (e:Env) (s:Store):endQ rs v .normal e s=(resV e s rs=some v):=propext ⟨fun h=>h.2,fun h=>⟨.inl rfl,h⟩⟩
theorem endQ_r (rs:List (Nat × Option (Option Nat))) (v:AV) (e:Env) (s:Store):endQ rs v .ret e s=(resV e s rs=some v):=propext ⟨fun h=>h.2,fun h=>⟨.inr rfl,h⟩⟩
end
end Go.Av

/- One frame's state said in another way: keys renamed,buffers let go,slots forgotten. By an AI agent;nothing here is trusted. -/
namespace Go.Av
open Go.RowKit (Below)

inductive Rn (s s':Store) (f:Nat→Option Nat):AV→AV→Prop where
 | undef (x:AV):Rn s s' f x .undef
 | imm (x:AV) (h:imm x=true):Rn s s' f x x
 | buf (k k' len:Nat) (h:f k'=some k):Rn s s' f (.buf k len) (.buf k' len)
 | ptr (k k' i o:Nat) (h:f k'=some k):Rn s s' f (.ptr k i o) (.ptr k' i o)
 | virt (k':Nat) (B:Blk) (h:f k'=none) (hs:s' k'=some (some B)):Rn s s' f .nils (.buf k' 0)
 | nil0:Rn s s' f .nils (.sl [])
 | agg (cs cs':List AV) (hl:cs.length=cs'.length) (h:∀ (i:Nat) (c c':AV),cs[i]?=some c→cs'[i]?=some c'→Rn s s' f c c'):Rn s s' f (.agg cs) (.agg cs')
 | tup (cs cs':List AV) (hl:cs.length=cs'.length) (h:∀ (i:Nat) (c c':AV),cs[i]?=some c→cs'[i]?=some c'→Rn s s' f c c'):Rn s s' f (.tup cs) (.tup cs')
 | fz (k len:Nat) (B:Blk) (hk:s k=some (some B)) (hl:len≤B.es.length) (hg:∀ x ∈ B.es,good x=true) (hf:∀ k',f k' ≠ some k):Rn s s' f (.buf k len) (.sl (B.es.take len))

def RnB (s s':Store) (f:Nat→Option Nat) (B B':Blk):Prop :=
 B'.ty=B.ty∧B'.sz=B.sz∧B'.es.length=B.es.length∧∀ (i:Nat) (x x':AV),B.es[i]?=some x→B'.es[i]?=some x' →
  (cellsOf x').length=(cellsOf x).length∧cellsOk x'∧∀ (o:Nat) (c c':AV),(cellsOf x)[o]?=some c→(cellsOf x')[o]?=some c'→Rn s s' f c c'

theorem RnB.same {s s':Store} {f:Nat→Option Nat} {B:Blk} (h:∀ x ∈ B.es,good x=true):RnB s s' f B B:=by
 refine ⟨rfl,rfl,rfl,fun i x x' h1 h2=>?_⟩
 rw [h1] at h2;cases h2
 obtain ⟨g1,g2⟩:=good_imm (h x (List.mem_of_getElem? h1))
 refine ⟨rfl,g2,fun o c c' h3 h4=>?_⟩
 rw [h3] at h4;cases h4
 exact .imm _ (imm_cells g1 _ (List.mem_of_getElem? h3))

section
variable {N B:Nat} {w0:World} {ok0:F0} {ok:Nat→Prop} {ρ:Nat→Option Nat} {e:Env} {s:Store} {a:Act} {w:World}

theorem weak_rn0 {e':Env} {s':Store} (f:Nat→Option Nat) (hinj:∀ k1 k2 k,f k1=some k→f k2=some k→k1=k2)
  (hs:∀ k',s' k'=none∨∃ B',s' k'=some (some B')∧((∃ k B,f k'=some k∧s k=some (some B)∧RnB s s' f B B')∨(f k'=none∧B'.es=[]∧0<B'.sz)))
  (hf:∀ k' k,f k'=some k→s' k' ≠ none) (hv:∀ n,Rn s s' f (e n) (e' n)) (N B:Nat) (w0:World) (ok0:F0) (ok:Nat→Prop) (ρ:Nat→Option Nat) (a:Act) (w:World) (hR:Rel N B w0 ok0 ok ρ e s a w)
  (hG:Goes w0.heap w.heap ok0.ρ (fun k'=>(f k').bind ρ) ok0.s s'):∃ ok' ρ',(∀ b,ok b→ok' b)∧Rel N B w0 ok0 ok' ρ' e' s' a w:=by
 obtain ⟨ρ',hρ'⟩:∃ ρ':Nat→Option Nat,ρ'=fun k'=>(f k').bind ρ:=⟨_,rfl⟩
 obtain ⟨ok',hok'⟩:∃ ok':Nat→Prop,ok'=fun b=>ok b∨∃ k K,s k=some (some K)∧ρ k=some b∧∀ k',f k' ≠ some k:=⟨_,rfl⟩
 have hsub:∀ b,ok b→ok' b:=fun b hb=>by rw [hok'];exact .inl hb
 have hcarry:∀ {k' k:Nat},f k'=some k→∃ K K',s k=some (some K)∧s' k'=some (some K')∧RnB s s' f K K'∧ρ' k'=ρ k:=by
  intro k' k hk
  rcases hs k' with h | ⟨K',h1,⟨k2,K,h2,h3,h4⟩ | ⟨h2,_,_⟩⟩
  ·exact absurd h (hf k' k hk)
  ·rw [hk] at h2;cases h2
   exact ⟨K,K',h3,h1,h4,by rw [hρ'];simp [hk]⟩
  ·rw [hk] at h2;cases h2
 have hval:∀ {x:AV} {v:Value},VR w.heap ok ρ s x v→∀ x',Rn s s' f x x'→VR w.heap ok' ρ' s' x' v:=by
  intro x v hx
  have himm:∀ {x:AV} {v:Value},VR w.heap ok ρ s x v→imm x=true→VR w.heap ok' ρ' s' x v:=fun hx hi=>hx.imm hsub (fun _ _=>rfl) hi
  induction hx with
  | agg cs vs hl hvv ih =>
   intro x' hr
   cases hr with
   | undef=>exact .undef _
   | imm _ hi=>exact himm (.agg cs vs hl hvv) hi
   | agg _ cs' hl' h =>
    refine .agg cs' vs (by omega) fun i c' hc'=>?_
    have hlt:i<cs.length:=by have:=(List.getElem?_eq_some_iff.1 hc').1;omega
    exact ih i cs[i] (List.getElem?_eq_getElem hlt) c' (h i _ _ (List.getElem?_eq_getElem hlt) hc')
  | tup cs vs hl hvv ih =>
   intro x' hr
   cases hr with
   | undef=>exact .undef _
   | imm _ hi=>exact himm (.tup cs vs hl hvv) hi
   | tup _ cs' hl' h =>
    refine .tup cs' vs (by omega) fun i c' hc'=>?_
    have hlt:i<cs.length:=by have:=(List.getElem?_eq_some_iff.1 hc').1;omega
    exact ih i cs[i] (List.getElem?_eq_getElem hlt) c' (h i _ _ (List.getElem?_eq_getElem hlt) hc')
  | nils A =>
   intro x' hr
   cases hr with
   | undef=>exact .undef _
   | imm _ hi=>exact .nils _
   | virt k' K' h hs' =>
    exact .bufn k' _ K' hs' (by rw [hρ'];simp [h])
   | nil0=>exact .sl0 _ _
  | bufd k len A l c hd =>
   intro x' hr
   cases hr with
   | undef=>exact .undef _
   | imm _ hi=>cases hi
   | buf _ k' _ h=>obtain ⟨K,K',h1,_⟩:=hcarry h;rw [hd] at h1;cases h1
   | fz _ _ K hk=>rw [hd] at hk;cases hk
  | bufn k A K hσ hr0 =>
   intro x' hr
   cases hr with
   | undef=>exact .undef _
   | imm _ hi=>cases hi
   | buf _ k' _ h =>
    obtain ⟨K1,K',h1,h2,h3,h4⟩:=hcarry h
    exact .bufn k' _ K' h2 (h4.trans hr0)
   | fz _ _ K hk hl hg hff=>simp;exact .sl0 _ _
  | buf k len K b cap cur hσ hr0 hb hlen hcap hcur =>
   intro x' hr
   cases hr with
   | undef=>exact .undef _
   | imm _ hi=>cases hi
   | buf _ k' _ h =>
    obtain ⟨K1,K',h1,h2,h3,h4⟩:=hcarry h
    rw [hσ] at h1;cases h1
    exact .buf k' len K' b cap cur h2 (h4.trans hr0) (by rw [h3.1];exact hb) hlen hcap (by rw [h3.2.1];exact hcur)
   | fz _ _ K1 hk hl hg hff =>
    rw [hσ] at hk;cases hk
    obtain ⟨hlt,_,_,cur',hcur',hH⟩:=hR.bound hσ hr0
    rw [hb] at hcur';cases hcur'
    have hokb:ok' b:=by rw [hok'];exact .inr ⟨k,K,hσ,hr0,hff⟩
    have hlt2:(K.es.take len).length=len:=by simp;omega
    have hget:∀ (i:Nat) (x:AV),(K.es.take len)[i]?=some x→K.es[i]?=some x:=fun i x hx=>by
     rw [List.getElem?_take] at hx;split at hx
     ·exact hx
     ·cases hx
    suffices hsl:VR w.heap ok' ρ' s' (.sl (K.es.take len)) (.slice (some ⟨b,0,none⟩) (K.es.take len).length cap) by rw [hlt2] at hsl;exact hsl
    refine .sl (K.es.take len) b 0 K.sz cap cur K.ty (0,0) (fun i o=>cur.getD (i * K.sz+o) undef) hokb (by rw [hlt2];exact hlen) hb (fun i x hx=>?_) (fun i x o c hx hc=>?_) (fun i x o c hx hc=>?_)
    ·have hx':=hget i x hx
     obtain ⟨g1,g2⟩:=good_imm (hg x (List.mem_of_getElem? hx'))
     exact ⟨(hH i x hx').1,g2,g1⟩
    ·obtain ⟨cv,p,q⟩:=(hH i x (hget i x hx)).2.2 o c hc
     rw [Nat.zero_add,p]
     simp [Array.getD_eq_getD_getElem?,p]
    ·obtain ⟨cv,p,q⟩:=(hH i x (hget i x hx)).2.2 o c hc
     have:cur.getD (i * K.sz+o) undef=cv:=by simp [Array.getD_eq_getD_getElem?,p]
     rw [this]
     exact himm q (imm_cells (good_imm (hg x (List.mem_of_getElem? (hget i x hx)))).1 c (List.mem_of_getElem? hc))
  | ptrd k i o A hd =>
   intro x' hr
   cases hr with
   | undef=>exact .undef _
   | imm _ hi=>cases hi
   | ptr _ k' _ _ h=>obtain ⟨K,K',h1,_⟩:=hcarry h;rw [hd] at h1;cases h1
  | ptr k i o K b hσ hr0 =>
   intro x' hr
   cases hr with
   | undef=>exact .undef _
   | imm _ hi=>cases hi
   | ptr _ k' _ _ h =>
    obtain ⟨K1,K',h1,h2,h3,h4⟩:=hcarry h
    rw [hσ] at h1;cases h1
    rw [← h3.2.1]
    exact .ptr k' i o K' b h2 (h4.trans hr0)
  | vwd k i o n A l c hd=>intro x' hr;cases hr with
   | undef=>exact .undef _
   | imm _ hi=>cases hi
  | vw k i o n K b hσ hr0=>intro x' hr;cases hr with
   | undef=>exact .undef _
   | imm _ hi=>cases hi
  | undef v=>intro x' hr;cases hr <;> exact .undef _
  | int k n=>intro x' hr;cases hr with
   | undef=>exact .undef _
   | imm _ hi=>exact .int _ _
  | bool b=>intro x' hr;cases hr with
   | undef=>exact .undef _
   | imm _ hi=>exact .bool _
  | str l b hb=>intro x' hr;cases hr with
   | undef=>exact .undef _
   | imm _ hi=>exact .str _ _ hb
  | nilp=>intro x' hr;cases hr with
   | undef=>exact .undef _
   | imm _ hi=>exact .nilp
  | nilf=>intro x' hr;cases hr with
   | undef=>exact .undef _
   | imm _ hi=>exact .nilf
  | ifc t v=>intro x' hr;cases hr with
   | undef=>exact .undef _
   | imm _ hi=>exact .ifc _ _
  | nili=>intro x' hr;cases hr with
   | undef=>exact .undef _
   | imm _ hi=>exact .nili
  | sl0 A cap=>intro x' hr;cases hr with
   | undef=>exact .undef _
   | imm _ hi=>exact .sl0 _ _
  | sl es b off sz cap cur ty fr vals ho hcap hb hs hc hvv _=>intro x' hr;cases hr with
   | undef=>exact .undef _
   | imm _ hi=>exact himm (.sl es b off sz cap cur ty fr vals ho hcap hb hs hc hvv) hi
  | eptr x o b off cur ty fr vals ho hb hs hc hvv _=>intro x' hr;cases hr with
   | undef=>exact .undef _
   | imm _ hi=>exact himm (.eptr x o b off cur ty fr vals ho hb hs hc hvv) hi
  | fn f caps vs hl hvv _=>intro x' hr;cases hr with
   | undef=>exact .undef _
   | imm _ hi=>exact himm (.fn f caps vs hl hvv) hi
  | yld l=>intro x' hr;cases hr with
   | undef=>exact .undef _
   | imm _ hi=>exact .yld l
 refine ⟨ok',ρ',hsub,?_⟩
 constructor
 ·exact hR.defers.mono hsub (fun _ _=>rfl)
 ·exact hR.size
 ·exact hR.below
 ·exact hR.base
 ·exact fun n=>hval (hR.tmps n) _ (hv n)
 ·intro b hb
  rw [hok'] at hb
  rcases hb with hb | ⟨k,K,h1,h2,_⟩
  ·exact hR.oklt b hb
  ·have:=hR.bound h1 h2;exact ⟨this.1,.inl this.2.1⟩
 ·exact fun b hb=>hsub b (hR.okold b hb)
 ·intro k' K' hk'
  rcases hs k' with h | ⟨K2,h1,h2⟩
  ·rw [h] at hk';cases hk'
  rw [h1] at hk';cases hk'
  rcases h2 with ⟨k,K,g1,g2,g3⟩ | ⟨g1,g2,g3⟩
  ·obtain ⟨l1,l2⟩:=hR.live k K g2
   refine ⟨by rw [g3.2.1];exact l1,?_⟩
   rcases l2 with ⟨l2,l3⟩ | ⟨b,cur,l2,l3,l4,l5,l6⟩
   ·exact .inl ⟨by rw [hρ'];simp [g1,l2],List.eq_nil_of_length_eq_zero (by rw [g3.2.2.1,l3];rfl)⟩
   ·refine .inr ⟨b,cur,by rw [hρ'];simp [g1,l2],l3,fun hb=>?_,by rw [g3.1];exact l5,fun i x' hx'=>?_⟩
    ·rw [hok'] at hb
     rcases hb with hb | ⟨k2,K2,q1,q2,q3⟩
     ·exact l4 hb
     ·have:=hR.inj k k2 K K2 b g2 q1 l2 q2
      subst this
      exact q3 k' g1
    ·have hlt:i<K.es.length:=by have:=(List.getElem?_eq_some_iff.1 hx').1;have:=g3.2.2.1;omega
     have hx:=List.getElem?_eq_getElem hlt
     obtain ⟨r1,r2,r3⟩:=g3.2.2.2 i _ x' hx hx'
     obtain ⟨p1,p2,p3⟩:=l6 i _ hx
     refine ⟨by rw [r1,p1,g3.2.1],r2,fun o c' hc'=>?_⟩
     have hlo:o<(cellsOf K.es[i]).length:=by have:=(List.getElem?_eq_some_iff.1 hc').1;omega
     have hco:=List.getElem?_eq_getElem hlo
     obtain ⟨cv,q1,q2⟩:=p3 o _ hco
     exact ⟨cv,by rw [g3.2.1];exact q1,hval q2 _ (r3 o _ c' hco hc')⟩
  ·exact ⟨g3,.inl ⟨by rw [hρ'];simp [g1],g2⟩⟩
 ·intro k1 k2 K1 K2 b h1 h2 h3 h4
  rw [hρ'] at h3 h4
  simp only [Option.bind_eq_some_iff] at h3 h4
  obtain ⟨j1,a1,a2⟩:=h3
  obtain ⟨j2,b1,b2⟩:=h4
  obtain ⟨L1,_,c1,_⟩:=hcarry a1
  obtain ⟨L2,_,c2,_⟩:=hcarry b1
  have:=hR.inj j1 j2 L1 L2 b c1 c2 a2 b2
  subst this
  exact hinj k1 k2 j1 a1 b1
 ·exact hR.kept
 ·rw [hρ'];exact hG
 ·exact hR.gok
theorem weak_rn {e':Env} {s':Store} (f:Nat→Option Nat) (hinj:∀ k1 k2 k,f k1=some k→f k2=some k→k1=k2)
  (hs:∀ k',s' k'=none∨∃ B',s' k'=some (some B')∧((∃ k B,f k'=some k∧s k=some (some B)∧RnB s s' f B B')∨(f k'=none∧B'.es=[]∧0<B'.sz)))
  (hf:∀ k' k,f k'=some k→s' k' ≠ none) (hv:∀ n,Rn s s' f (e n) (e' n)):Weak (e,s) (e',s'):=fun N B w0 ok0 ok ρ a w h0 hR =>
 weak_rn0 f hinj hs hf hv N B w0 ok0 ok ρ a w hR (by rw [h0];exact Goes.empty _ _ _ _ _)
def LentK (K:Nat) (s0:Store):Prop:=∀ j,s0 j=none∨(j=K∧∃ B,s0 j=some (some B))
def WeakX (K:Nat) (p q:Env × Store):Prop :=
 ∀ (N B:Nat) (w0:World) (ok0:F0) (ok:Nat→Prop) (ρ:Nat→Option Nat) (a:Act) (w:World),LentK K ok0.s→Rel N B w0 ok0 ok ρ p.1 p.2 a w→∃ ok' ρ',(∀ b,ok b→ok' b)∧Rel N B w0 ok0 ok' ρ' q.1 q.2 a w
theorem WeakX.refl (K:Nat) (p:Env × Store):WeakX K p p:=fun _ _ _ _ ok ρ _ _ _ h=>⟨ok,ρ,fun _ h=>h,h⟩
theorem weak_rnX {K:Nat} {e':Env} {s':Store} (f:Nat→Option Nat) (hK:f K=some K) (hinj:∀ k1 k2 k,f k1=some k→f k2=some k→k1=k2)
  (hs:∀ k',s' k'=none∨∃ B',s' k'=some (some B')∧((∃ k B,f k'=some k∧s k=some (some B)∧RnB s s' f B B')∨(f k'=none∧B'.es=[]∧0<B'.sz)))
  (hf:∀ k' k,f k'=some k→s' k' ≠ none) (hv:∀ n,Rn s s' f (e n) (e' n)):WeakX K (e,s) (e',s'):=fun N B w0 ok0 ok ρ a w h0 hR =>
 weak_rn0 f hinj hs hf hv N B w0 ok0 ok ρ a w hR (by
  refine ⟨fun k hk=>?_,fun k B0 hk=>?_⟩
  ·rcases h0 k with h | ⟨_,_,h⟩ <;> (rw [hk] at h;cases h)
  ·rcases h0 k with h | ⟨rfl,_,_⟩
   ·rw [hk] at h;cases h
   ·rcases hs k with h | ⟨B',h1,⟨k2,B2,h2,h3,h4⟩ | ⟨h2,_⟩⟩
    ·exact absurd h (hf k k hK)
    ·rw [hK] at h2;cases h2
     rcases hR.goes.live k B0 hk with hd | ⟨B1,q1,q2,q3,q4,q5⟩
     ·simp only at hd;rw [h3] at hd;cases hd
     ·simp only at q1;rw [h3] at q1;cases q1
      exact .inr ⟨B',h1,h4.1.trans q2,h4.2.1.trans q3,by simp only [hK,Option.bind_some];exact q4,fun b cur hb hc=>q5 b cur hb hc⟩
    ·rw [hK] at h2;cases h2)
end

def envOf:List (Nat × AV)→Env
 | []=>fun _=>.undef
 | (n,v) :: l=>upd (envOf l) n v
def stOf:List (Nat × Blk)→Store
 | []=>fun _=>none
 | (k,B) :: l=>upd (stOf l) k (some (some B))
def keyOf:List (Nat × Option Nat × Blk)→Nat→Option Nat
 | [],_=>none
 | (k',o,_) :: l,k=>if k=k' then o else keyOf l k

theorem weak_env {e:Env} {s:Store} (l:List (Nat × AV)) (h:∀ p ∈ l,e p.1=p.2):Weak (e,s) (envOf l,s):=by
 intro N B w0 ok0 ok ρ a w h0 hR
 refine ⟨ok,ρ,fun _ h=>h,?_⟩
 have hv:∀ n,envOf l n=.undef∨envOf l n=e n:=by
  intro n
  clear hR
  induction l with
  | nil=>exact .inl rfl
  | cons p l ih =>
   obtain ⟨k,v⟩:=p
   simp only [envOf]
   by_cases hn:n=k
   ·subst hn;rw [upd_same];exact .inr (h (n,v) (by simp)).symm
   ·rw [upd_other _ _ _ _ hn];exact ih fun p hp=>h p (by simp [hp])
 constructor
 ·exact hR.defers
 ·exact hR.size
 ·exact hR.below
 ·exact hR.base
 ·intro n
  rcases hv n with h | h
  ·simp only;rw [h];exact .undef _
  ·simp only;rw [h];exact hR.tmps n
 ·exact hR.oklt
 ·exact hR.okold
 ·exact hR.live
 ·exact hR.inj
 ·exact hR.kept
 ·exact hR.goes
 ·exact hR.gok

theorem weak_pre {e:Env} {s:Store} (l:List (Nat × AV)) (m:List (Nat × Option Nat × Blk)) (hd:(m.map (·.1)).Nodup) (hd':(m.filterMap (·.2.1)).Nodup)
  (hm:∀ p ∈ m,match p.2.1 with
   | some k=>∃ B,s k=some (some B)∧RnB s (stOf (m.map fun p=>(p.1,p.2.2))) (keyOf m) B p.2.2
   | none=>p.2.2.es=[]∧0<p.2.2.sz)
  (hl:∀ p ∈ l,Rn s (stOf (m.map fun p=>(p.1,p.2.2))) (keyOf m) (e p.1) p.2):(∀ k1 k2 k,keyOf m k1=some k→keyOf m k2=some k→k1=k2) ∧
  (∀ k',stOf (m.map fun p=>(p.1,p.2.2)) k'=none∨∃ B',stOf (m.map fun p=>(p.1,p.2.2)) k'=some (some B')∧((∃ k B,keyOf m k'=some k∧s k=some (some B)∧RnB s (stOf (m.map fun p=>(p.1,p.2.2))) (keyOf m) B B')∨(keyOf m k'=none∧B'.es=[]∧0<B'.sz))) ∧
  (∀ k' k,keyOf m k'=some k→stOf (m.map fun p=>(p.1,p.2.2)) k' ≠ none)∧∀ n,Rn s (stOf (m.map fun p=>(p.1,p.2.2))) (keyOf m) (e n) (envOf l n):=by
 have hst:∀ (m:List (Nat × Option Nat × Blk)),(m.map (·.1)).Nodup→∀ k',(stOf (m.map fun p=>(p.1,p.2.2)) k'=none∧keyOf m k'=none)∨∃ p ∈ m,p.1=k'∧stOf (m.map fun p=>(p.1,p.2.2)) k'=some (some p.2.2)∧keyOf m k'=p.2.1:=by
  intro m hn k'
  induction m with
  | nil=>exact .inl ⟨rfl,rfl⟩
  | cons p m ih =>
   obtain ⟨k,o,K⟩:=p
   simp only [List.map_cons,List.nodup_cons] at hn
   simp only [List.map_cons,stOf,keyOf]
   by_cases hk:k'=k
   ·subst hk;exact .inr ⟨_,List.mem_cons_self,rfl,upd_same _ _ _,by simp⟩
   ·rw [upd_other _ _ _ _ hk,if_neg hk]
    rcases ih hn.2 with h | ⟨p,h1,h2⟩
    ·exact .inl h
    ·exact .inr ⟨p,List.mem_cons_of_mem _ h1,h2⟩
 refine ⟨?_,?_,?_,?_⟩
 ·intro k1 k2 k h1 h2
  have key:∀ (m:List (Nat × Option Nat × Blk)),(m.filterMap (·.2.1)).Nodup→keyOf m k1=some k→keyOf m k2=some k→k1=k2:=by
   intro m hn h1 h2
   have hmem:∀ (m:List (Nat × Option Nat × Blk)) j,keyOf m j=some k→k ∈ m.filterMap (·.2.1):=by
    intro m j hj
    induction m with
    | nil=>cases hj
    | cons p m ih =>
     obtain ⟨k',o,K⟩:=p
     simp only [keyOf] at hj
     split at hj
     ·subst hj;simp
     ·have:=ih hj
      cases o <;> simp [this]
   induction m with
   | nil=>cases h1
   | cons p m ih =>
    obtain ⟨k',o,K⟩:=p
    simp only [keyOf] at h1 h2
    by_cases e1:k1=k' <;> by_cases e2:k2=k'
    ·rw [e1,e2]
    ·rw [if_pos e1] at h1;rw [if_neg e2] at h2
     subst h1
     simp only [List.filterMap_cons] at hn
     exact absurd (hmem m k2 h2) (List.nodup_cons.1 hn).1
    ·rw [if_neg e1] at h1;rw [if_pos e2] at h2
     subst h2
     simp only [List.filterMap_cons] at hn
     exact absurd (hmem m k1 h1) (List.nodup_cons.1 hn).1
    ·rw [if_neg e1] at h1;rw [if_neg e2] at h2
     refine ih ?_ h1 h2
     cases o with
     | none=>simpa using hn
     | some q=>simp only [List.filterMap_cons] at hn;exact (List.nodup_cons.1 hn).2
  exact key m hd' h1 h2
 ·intro k'
  rcases hst m hd k' with ⟨h,_⟩ | ⟨p,h1,h2,h3,h4⟩
  ·exact .inl h
  ·refine .inr ⟨p.2.2,h3,?_⟩
   have:=hm p h1
   rw [h4]
   split at this
   ·rename_i k hk
    obtain ⟨K,g1,g2⟩:=this
    exact .inl ⟨k,K,hk,g1,g2⟩
   ·rename_i hk
    exact .inr ⟨hk,this⟩
 ·intro k' k hk
  rcases hst m hd k' with ⟨_,h⟩ | ⟨p,h1,h2,h3,h4⟩
  ·rw [h] at hk;cases hk
  ·rw [h3];simp
 ·intro n
  clear hm
  induction l with
  | nil=>exact .undef _
  | cons p l ih =>
   obtain ⟨k,v⟩:=p
   simp only [envOf]
   by_cases hn:n=k
   ·subst hn;rw [upd_same];exact hl (n,v) (by simp)
   ·rw [upd_other _ _ _ _ hn];exact ih fun p hp=>hl p (by simp [hp])
theorem weak_to {e:Env} {s:Store} (l:List (Nat × AV)) (m:List (Nat × Option Nat × Blk)) (hd:(m.map (·.1)).Nodup) (hd':(m.filterMap (·.2.1)).Nodup)
  (hm:∀ p ∈ m,match p.2.1 with
   | some k=>∃ B,s k=some (some B)∧RnB s (stOf (m.map fun p=>(p.1,p.2.2))) (keyOf m) B p.2.2
   | none=>p.2.2.es=[]∧0<p.2.2.sz)
  (hl:∀ p ∈ l,Rn s (stOf (m.map fun p=>(p.1,p.2.2))) (keyOf m) (e p.1) p.2):Weak (e,s) (envOf l,stOf (m.map fun p=>(p.1,p.2.2))) :=
 let ⟨h1,h2,h3,h4⟩:=weak_pre l m hd hd' hm hl
 weak_rn (keyOf m) h1 h2 h3 h4
theorem weak_toX {K:Nat} {e:Env} {s:Store} (l:List (Nat × AV)) (m:List (Nat × Option Nat × Blk)) (hK:keyOf m K=some K) (hd:(m.map (·.1)).Nodup) (hd':(m.filterMap (·.2.1)).Nodup)
  (hm:∀ p ∈ m,match p.2.1 with
   | some k=>∃ B,s k=some (some B)∧RnB s (stOf (m.map fun p=>(p.1,p.2.2))) (keyOf m) B p.2.2
   | none=>p.2.2.es=[]∧0<p.2.2.sz)
  (hl:∀ p ∈ l,Rn s (stOf (m.map fun p=>(p.1,p.2.2))) (keyOf m) (e p.1) p.2):WeakX K (e,s) (envOf l,stOf (m.map fun p=>(p.1,p.2.2))) :=
 let ⟨h1,h2,h3,h4⟩:=weak_pre l m hd hd' hm hl
 weak_rnX (keyOf m) hK h1 h2 h3 h4
end Go.Av

/- The steps of a condition,all in one;what stands at a function's end;loops. By an AI agent;nothing here is trusted. -/
namespace Go.Av

section
variable {P:Program} {N:Nat} {Q:Exit→Env→Store→Prop} {e:Env} {s:Store}

theorem resA_t (t:Nat):resA e s (t,none)=some (e t):=rfl
theorem resA_c (a:Nat) (n:Option Nat):resA e s (a,some n)=loadV n (e a) s:=by
 simp only [resA,ex,ev_t,loadV]
 generalize e a=X
 cases X <;> first | rfl | skip
 ·rename_i k i o
  simp only
  cases hk:s k with
  | none=>rfl
  | some b =>
   cases b with
   | none=>rfl
   | some B =>
    simp only
    cases B.es[i]? with
    | none=>rfl
    | some el=>simp [Option.map_map,Function.comp_def]
 ·rename_i x o
  simp only
  cases loadA n x o <;> rfl
theorem endQ_n1 (r:Nat × Option (Option Nat)) (v:AV):endQ [r] v .normal e s=bV (resA e s r) (fun x=>bor s 5 x=v) .mk:=by
 rw [endQ_n]
 unfold bV resV resAll resAll
 cases resA e s r <;> simp
theorem endQ_r1 (r:Nat × Option (Option Nat)) (v:AV):endQ [r] v .ret e s=bV (resA e s r) (fun x=>bor s 5 x=v) .mk:=by
 rw [endQ_r,← endQ_n];exact endQ_n1 r v
theorem endQ_n2 (r r':Nat × Option (Option Nat)) (v:AV):endQ [r,r'] v .normal e s=bV (resA e s r) (fun x=>bV (resA e s r') (fun y=>AV.tup [bor s 5 x,bor s 5 y]=v) .mk) .mk:=by
 rw [endQ_n]
 unfold bV resV resAll resAll resAll
 cases resA e s r <;> cases resA e s r' <;> simp
theorem endQ_r2 (r r':Nat × Option (Option Nat)) (v:AV):endQ [r,r'] v .ret e s=bV (resA e s r) (fun x=>bV (resA e s r') (fun y=>AV.tup [bor s 5 x,bor s 5 y]=v) .mk) .mk:=by
 rw [endQ_r,← endQ_n];exact endQ_n2 r r' v
theorem endQ_n3 (r r' r'':Nat × Option (Option Nat)) (v:AV):endQ [r,r',r''] v .normal e s=bV (resA e s r) (fun x=>bV (resA e s r') (fun y=>bV (resA e s r'') (fun z=>AV.tup [bor s 5 x,bor s 5 y,bor s 5 z]=v) .mk) .mk) .mk:=by
 rw [endQ_n]
 unfold bV resV resAll resAll resAll resAll
 cases resA e s r <;> cases resA e s r' <;> cases resA e s r'' <;> simp
theorem endQ_r3 (r r' r'':Nat × Option (Option Nat)) (v:AV):endQ [r,r',r''] v .ret e s=bV (resA e s r) (fun x=>bV (resA e s r') (fun y=>bV (resA e s r'') (fun z=>AV.tup [bor s 5 x,bor s 5 y,bor s 5 z]=v) .mk) .mk) .mk:=by
 rw [endQ_r,← endQ_n];exact endQ_n3 r r' r'' v

theorem bor_int (n:Nat) (k:IntKind) (i:Int):bor s (n+1) (.int k i)=.int k i:=rfl
theorem bor_bool (n:Nat) (b:Bool):bor s (n+1) (.bool b)=.bool b:=rfl
theorem bor_str (n:Nat) (l:List UInt8):bor s (n+1) (.str l)=.str l:=rfl
theorem bor_sl (n:Nat) (l:List AV):bor s (n+1) (.sl l)=.sl l:=rfl
theorem bor_nils (n:Nat):bor s (n+1) .nils=.sl []:=rfl
theorem bor_nilp (n:Nat):bor s (n+1) .nilp=.nilp:=rfl
theorem bor_nili (n:Nat):bor s (n+1) .nili=.nili:=rfl
theorem bor_ifc (n:Nat):bor s (n+1) .ifc=.ifc:=rfl
theorem bor_nilf (n:Nat):bor s (n+1) .nilf=.nilf:=rfl
theorem bor_eptr (n:Nat) (x:AV) (o:Nat):bor s (n+1) (.eptr x o)=.eptr x o:=rfl
theorem bor_agg (n:Nat) (cs:List AV):bor s (n+1) (.agg cs)=.agg (cs.map (bor s n)):=rfl
theorem bor_tup (n:Nat) (cs:List AV):bor s (n+1) (.tup cs)=.tup (cs.map (bor s n)):=rfl
theorem bor_fn (n:Nat) (f:FuncId) (cs:List AV):bor s (n+1) (.fn f cs)=.fn f (cs.map (bor s n)):=rfl
noncomputable def borB (s:Store) (n len:Nat) (b:Option (Option Blk)):AV:=match b with
 | some (some B)=>if decide (len≤B.es.length) && ((B.es.take len).map (bor s n)).all good then .sl ((B.es.take len).map (bor s n)) else .undef
 | _=>.undef
theorem bor_buf (n k len:Nat):bor s (n+1) (.buf k len)=borB s n len (s k):=rfl
noncomputable def borP (s:Store) (n i o:Nat) (b:Option (Option Blk)):AV:=match b with
 | some (some B)=>match B.es[i]? with
  | some el=>if good (bor s n el) then .eptr (bor s n el) o else .undef
  | none=>.undef
 | _=>.undef
theorem bor_ptr (n k i o:Nat):bor s (n+1) (.ptr k i o)=borP s n i o (s k):=rfl

noncomputable def borV (i o m:Nat) (b:Option (Option Blk)):AV:=match b with
 | some (some B)=>match B.es[i]? with
  | some el=>if decide (o+m≤(cellsOf el).length) && (((cellsOf el).drop o).take m).all (fun c=>imm c && cell c) then .sl (((cellsOf el).drop o).take m) else .undef
  | none=>.undef
 | _=>.undef
theorem bor_vw (n k i o m:Nat):bor s (n+1) (.vw k i o m)=borV i o m (s k):=rfl

def fx1:AV→Bool
 | .int .. | .bool _ | .str _ | .sl _ | .eptr .. | .nilp | .nilf | .nili | .ifc=>true
 | _=>false
def fx:AV→Bool
 | .agg cs=>cs.all fx1
 | x=>fx1 x
theorem fx1_spec {x:AV} (h:fx1 x=true):good x=true∧∀ s n,bor s n x=x:=by
 cases x <;> first
  | (cases h;done)
  | exact ⟨rfl,fun s n=>by cases n <;> rfl⟩
theorem fx_spec {x:AV} (h:fx x=true):good x=true∧∀ s n,bor s n x=x:=by
 cases x with
 | agg cs =>
  have hc:∀ c ∈ cs,fx1 c=true:=List.all_eq_true.1 h
  have hi:immL cs=true:=by
   clear h
   induction cs with
   | nil=>rfl
   | cons c cs ih =>
    have:=hc c (by simp)
    cases c <;> first
     | (cases this;done)
     | exact ih fun d hd=>hc d (by simp [hd])
  refine ⟨?_,fun s n=>?_⟩
  ·unfold good
   have:(cellsOf (.agg cs)).all cell=true:=List.all_eq_true.2 fun c hc'=>by
    have:=hc c hc'
    cases c <;> first | rfl | (cases this;done)
   rw [this]
   exact (Bool.and_true _).trans hi
  ·cases n with
   | zero =>
    have:imm (.agg cs)=true:=hi
    simp [bor,this]
   | succ n =>
    have:cs.map (bor s n)=cs:=by
     conv=>rhs;rw [← List.map_id cs]
     exact List.map_congr_left fun c hc'=>(fx1_spec (hc c hc')).2 s n
    simp only [bor,this]
 | _=>exact fx1_spec h
theorem borB_good (n len ty sz:Nat) (es:List AV) (hl:len=es.length) (hg:∀ x ∈ es,fx x=true):borB s n len (some (some ⟨ty,sz,es⟩))=.sl es:=by
 have hm:es.map (bor s n)=es:=by
  conv=>rhs;rw [← List.map_id es]
  exact List.map_congr_left fun x hx=>(fx_spec (hg x hx)).2 s n
 unfold borB
 subst hl
 simp only [List.take_length,hm]
 rw [if_pos]
 simp only [Nat.le_refl,decide_true,Bool.true_and]
 exact List.all_eq_true.2 fun x hx=>(fx_spec (hg x hx)).1

theorem borB_lit {n len ty sz:Nat} {es:List AV} (hl:len=es.length) (hg:es.all fx=true):borB s n len (some (some ⟨ty,sz,es⟩))=.sl es :=
 borB_good n len ty sz es hl (List.all_eq_true.1 hg)
theorem fx_int (k:IntKind) (n:Int):fx (.int k n)=true:=rfl
theorem fx_bool (b:Bool):fx (.bool b)=true:=rfl
theorem fx_str (l:List UInt8):fx (.str l)=true:=rfl
theorem fx_sl (l:List AV):fx (.sl l)=true:=rfl
theorem fx_agg (l:List AV):fx (.agg l)=l.all fx1:=rfl
theorem fx1_int (k:IntKind) (n:Int):fx1 (.int k n)=true:=rfl
theorem fx1_bool (b:Bool):fx1 (.bool b)=true:=rfl
theorem fx1_str (l:List UInt8):fx1 (.str l)=true:=rfl
theorem fx1_sl (l:List AV):fx1 (.sl l)=true:=rfl
theorem fx1_eptr (x:AV) (o:Nat):fx1 (.eptr x o)=true:=rfl
theorem borP_one {n o ty sz:Nat} {el:AV} (h:fx el=true):borP s n 0 o (some (some ⟨ty,sz,[el]⟩))=.eptr el o:=by
 have:=(fx_spec h).2 s n
 unfold borP
 simp only [List.getElem?_cons_zero,this]
 rw [if_pos (fx_spec h).1]
theorem borV_one {o m ty sz:Nat} {cs:List AV} (h:cs.all fx1=true) (hl:o+m≤cs.length):borV 0 o m (some (some ⟨ty,sz,[.agg cs]⟩))=.sl ((cs.drop o).take m):=by
 have hc:(decide (o+m≤(cellsOf (.agg cs)).length) && (((cellsOf (.agg cs)).drop o).take m).all (fun c=>imm c && cell c))=true:=by
  rw [Bool.and_eq_true]
  refine ⟨decide_eq_true hl,List.all_eq_true.2 fun c hc=>?_⟩
  have hf:=List.all_eq_true.1 h c (List.mem_of_mem_drop (List.mem_of_mem_take hc))
  have:cell c=true:=by cases c <;> first | rfl | cases hf
  rw [(good_imm (fx1_spec hf).1).1,this];rfl
 exact if_pos hc

def cellsB (x:AV):Bool:=(cellsOf x).all cell
def mkOk (sz:Nat) (es:List AV):Prop:=∀ x ∈ es,solid x=true∧(cellsOf x).length=sz∧cellsB x=true
def newsOk (sz:Nat) (es:List AV):Prop:=∀ x ∈ es,(cellsOf x).length=sz∧cellsB x=true
theorem cellsB_iff (x:AV):cellsOk x ↔ cellsB x=true:=by unfold cellsOk cellsB;rw [List.all_eq_true]
theorem mkOk_nil (sz:Nat):mkOk sz []=True:=propext ⟨fun _=>trivial,fun _ x hx=>by cases hx⟩
theorem mkOk_cons (sz:Nat) (x:AV) (l:List AV):mkOk sz (x :: l)=(solid x=true∧(cellsOf x).length=sz∧cellsB x=true∧mkOk sz l):=by
 apply propext;unfold mkOk;constructor
 ·intro h;have:=h x (by simp);exact ⟨this.1,this.2.1,this.2.2,fun y hy=>h y (by simp [hy])⟩
 ·rintro ⟨h1,h2,h3,h4⟩ y hy
  rcases List.mem_cons.1 hy with rfl | hy
  ·exact ⟨h1,h2,h3⟩
  ·exact h4 y hy
theorem newsOk_nil (sz:Nat):newsOk sz []=True:=propext ⟨fun _=>trivial,fun _ x hx=>by cases hx⟩
theorem newsOk_cons (sz:Nat) (x:AV) (l:List AV):newsOk sz (x :: l)=((cellsOf x).length=sz∧cellsB x=true∧newsOk sz l):=by
 apply propext;unfold newsOk;constructor
 ·intro h;have:=h x (by simp);exact ⟨this.1,this.2,fun y hy=>h y (by simp [hy])⟩
 ·rintro ⟨h1,h2,h4⟩ y hy
  rcases List.mem_cons.1 hy with rfl | hy
  ·exact ⟨h1,h2⟩
  ·exact h4 y hy
theorem mk_eq' (d ty sz:Nat) (es:List AV) (v:AV) (s:Store):mk d ty sz es v s=req (s d=none∧0<sz∧mkOk sz es) (some (v,upd s d (some (some ⟨ty,sz,es⟩)))):=by
 rw [mk_eq];unfold mkOk;simp only [cellsB_iff]
theorem appendN_nils' (d ty sz by_:Nat) (news:List AV) (s:Store):appendN d ty sz by_ .nils (some news) s =
  req (s d=none∧0<sz∧newsOk sz news) (req (news.length * by_≤140737488355328∧news.length≤maxLen) (some (.buf d news.length,upd s d (some (some ⟨ty,sz,news⟩))))):=by
 rw [appendN_nils];unfold newsOk;simp only [cellsB_iff]
theorem appendN_buf' (d ty sz by_ k len:Nat) (news:List AV) (s:Store):appendN d ty sz by_ (.buf k len) (some news) s =
  req (s d=none∧0<sz∧newsOk sz news) (appB d ty sz by_ k len (s k) news s):=by
 rw [appendN_buf];unfold newsOk;simp only [cellsB_iff]
theorem storeB_live' (n k i o ty sz:Nat) (es:List AV) (v:AV) (s:Store):storeB n k i o (some (some ⟨ty,sz,es⟩)) v s =
  (es[i]?).bind fun el=>req (solid v=true∧(cellsOf v).length=n∧cellsB v=true∧0<n∧o+n≤(cellsOf el).length)
    (some (.tup [],upd s k (some (some ⟨ty,sz,es.set i (putIn el o v)⟩)))):=by
 rw [storeB_live];simp only [cellsB_iff]
theorem solid_int (k:IntKind) (n:Int):solid (.int k n)=true:=rfl
theorem solid_bool (b:Bool):solid (.bool b)=true:=rfl
theorem solid_str (l:List UInt8):solid (.str l)=true:=rfl
theorem solid_sl (l:List AV):solid (.sl l)=true:=rfl
theorem solid_agg (l:List AV):solid (.agg l)=true:=rfl
theorem solid_nils:solid .nils=true:=rfl
theorem solid_buf (k n:Nat):solid (.buf k n)=true:=rfl
theorem solid_ptr (k i o:Nat):solid (.ptr k i o)=true:=rfl
theorem solid_eptr (x:AV) (o:Nat):solid (.eptr x o)=true:=rfl
theorem cellsB_int (k:IntKind) (n:Int):cellsB (.int k n)=true:=rfl
theorem cellsB_bool (b:Bool):cellsB (.bool b)=true:=rfl
theorem cellsB_str (l:List UInt8):cellsB (.str l)=true:=rfl
theorem cellsB_sl (l:List AV):cellsB (.sl l)=true:=rfl
theorem cellsB_agg (l:List AV):cellsB (.agg l)=l.all cell:=rfl
theorem cellsB_nils:cellsB .nils=true:=rfl
theorem cellsB_buf (k n:Nat):cellsB (.buf k n)=true:=rfl
theorem cellsB_ptr (k i o:Nat):cellsB (.ptr k i o)=true:=rfl
theorem cellsB_eptr (x:AV) (o:Nat):cellsB (.eptr x o)=true:=rfl
theorem cell_int (k:IntKind) (n:Int):cell (.int k n)=true:=rfl
theorem cell_bool (b:Bool):cell (.bool b)=true:=rfl
theorem cell_str (l:List UInt8):cell (.str l)=true:=rfl
theorem cell_sl (l:List AV):cell (.sl l)=true:=rfl
theorem cell_nils:cell .nils=true:=rfl
theorem cell_buf (k n:Nat):cell (.buf k n)=true:=rfl
theorem cell_ptr (k i o:Nat):cell (.ptr k i o)=true:=rfl
theorem cell_eptr (x:AV) (o:Nat):cell (.eptr x o)=true:=rfl
theorem putIn_agg (c:List AV) (o:Nat) (v:AV):putIn (.agg c) o v=.agg (setSeg c o (cellsOf v)):=rfl
theorem putIn_int (k:IntKind) (n:Int) (o:Nat) (v:AV):putIn (.int k n) o v=v:=rfl
theorem putIn_bool (b:Bool) (o:Nat) (v:AV):putIn (.bool b) o v=v:=rfl
theorem putIn_nils (o:Nat) (v:AV):putIn .nils o v=v:=rfl
theorem putIn_buf (k n o:Nat) (v:AV):putIn (.buf k n) o v=v:=rfl
theorem putIn_sl (l:List AV) (o:Nat) (v:AV):putIn (.sl l) o v=v:=rfl
theorem putIn_str (l:List UInt8) (o:Nat) (v:AV):putIn (.str l) o v=v:=rfl
theorem setSeg_nil (cs:List AV) (o:Nat):setSeg cs o []=cs:=by simp [setSeg]
theorem setSeg_cons (c:AV) (cs:List AV) (v:AV) (vs:List AV):setSeg (c :: cs) 0 (v :: vs)=v :: setSeg cs 0 vs:=by simp [setSeg]
theorem setSeg_succ (c:AV) (cs:List AV) (o:Nat) (vs:List AV):setSeg (c :: cs) (o+1) vs=c :: setSeg cs o vs:=by
 simp [setSeg,Nat.succ_add]
theorem fillA_nil (cs:List AV):fillA cs []=some cs:=rfl
theorem fillA_cons (cs:List AV) (o sz:Nat) (v:AV) (r:List (Nat × Nat × AV)):fillA cs ((o,sz,v) :: r)=req (solid v=true∧(cellsOf v).length=sz∧o+sz≤cs.length) (fillA (setSeg cs o (cellsOf v)) r):=rfl
theorem fillE_nil (sz:Nat) (es:List AV):fillE sz es []=some es:=rfl
theorem fillE_cons (sz:Nat) (es:List AV) (i:Nat) (v:AV) (r:List (Nat × AV)):fillE sz es ((i,v) :: r)=req (solid v=true∧(cellsOf v).length=sz∧i<es.length) (fillE sz (es.set i v) r):=rfl
def letS (s:Store) (K:Store→Prop) (_:Tag K):Prop:=K s
theorem callK_eq2 {nk:Bool} {l:List Nat} (v:AV) (Kc:AV→Store→Prop):callK nk v l s Kc=(usedL nk s l∧if scal v=true then Kc v s else if nk=true then l=[]∧Kc v s else letS (killAll l s) (fun s=>Kc v s) .mk):=rfl
theorem letS_eq (K:Store→Prop) (t):letS s K t=K s:=rfl
theorem refsL_nil:refsL s 5 []=[]:=rfl
theorem scal_int (k:IntKind) (n:Int):scal (.int k n)=true:=rfl
theorem scal_bool (b:Bool):scal (.bool b)=true:=rfl
theorem scal_str (l:List UInt8):scal (.str l)=true:=rfl

def allE (e:Env):List (Nat × AV)→Prop
 | []=>True
 | (n,v) :: l=>e n=v∧allE e l
theorem allE_nil (e:Env):allE e []=True:=rfl
theorem allE_cons (e:Env) (n:Nat) (v:AV) (l:List (Nat × AV)):allE e ((n,v) :: l)=(e n=v∧allE e l):=rfl
theorem allE_all {e:Env}:∀ {l:List (Nat × AV)},allE e l→∀ p ∈ l,e p.1=p.2
 | [],_,p,hp=>by cases hp
 | (n,v) :: l,h,p,hp=>by
  rcases List.mem_cons.1 hp with rfl | hp
  ·exact h.1
  ·exact allE_all h.2 p hp
theorem weakE {e:Env} {s:Store} (l:List (Nat × AV)) (h:allE e l):Weak (e,s) (envOf l,s):=weak_env l (allE_all h)
theorem envOf_nil (n:Nat):envOf [] n=.undef:=rfl
theorem envOf_cons (k:Nat) (v:AV) (l:List (Nat × AV)) (n:Nat):envOf ((k,v) :: l) n=if n=k then v else envOf l n:=rfl
theorem stOf_nil (n:Nat):stOf [] n=none:=rfl
theorem stOf_cons (k:Nat) (B:Blk) (l:List (Nat × Blk)) (n:Nat):stOf ((k,B) :: l) n=if n=k then some (some B) else stOf l n:=rfl
theorem noStore_app (n:Nat):noStore n=none:=rfl
theorem argE_nil (n:Nat):argE [] n=.undef:=rfl
theorem argE_zero (a:AV) (l:List AV):argE (a :: l) 0=a:=rfl
theorem argE_succ (a:AV) (l:List AV) (n:Nat):argE (a :: l) (n+1)=argE l n:=rfl
theorem bool_eq {p q:Prop} [Decidable p] [Decidable q] (h:p ↔ q):AV.bool (decide p)=AV.bool (decide q):=by
 have:decide p=decide q:=by simp [h]
 rw [this]

theorem W_loop {α:Type} (st:α→Env × Store) (mu:α→Nat) (x0:α) {b:MC} {t} (h0:Weak (e,s) (st x0))
  (hb:∀ x,W P N b (fun ex e' s'=>match ex with
   | .normal=>∃ y,mu y<mu x∧Weak (e',s') (st y)
   | ex=>Q ex e' s') (st x).1 (st x).2 .mk):W P N (.loop b) Q e s t :=
 AWM.loop st mu x0 h0 fun x=>W_sound (hb x)
end

def ints (l:List Int):List AV:=l.map (AV.int .i64)
theorem ints_length (l:List Int):(ints l).length=l.length:=by simp [ints]
theorem ints_fx (l:List Int):∀ x ∈ ints l,fx x=true:=by
 intro x hx
 obtain ⟨n,_,rfl⟩:=List.mem_map.1 hx
 rfl
theorem ints_get (l:List Int) (i:Nat) (h:i<l.length):(ints l)[i]?=some (.int .i64 l[i]):=by
 simp [ints,h]
theorem ints_append (l m:List Int):ints (l ++ m)=ints l ++ ints m:=by simp [ints]

theorem cellsOf_int (k:IntKind) (n:Int):cellsOf (.int k n)=[.int k n]:=rfl
theorem cellsOf_agg (cs:List AV):cellsOf (.agg cs)=cs:=rfl
theorem cellsOf_sl (l:List AV):cellsOf (.sl l)=[.sl l]:=rfl
theorem cellsOf_str (l:List UInt8):cellsOf (.str l)=[.str l]:=rfl
theorem cellsOf_bool (b:Bool):cellsOf (.bool b)=[.bool b]:=rfl
theorem cellsOf_nils:cellsOf .nils=[.nils]:=rfl
theorem cellsOf_buf (k n:Nat):cellsOf (.buf k n)=[.buf k n]:=rfl
theorem cellsOf_ptr (k i o:Nat):cellsOf (.ptr k i o)=[.ptr k i o]:=rfl
theorem cellsOf_eptr (x:AV) (o:Nat):cellsOf (.eptr x o)=[.eptr x o]:=rfl
end Go.Av

/- All steps of a condition under one name. By an AI agent;nothing here is trusted. -/
namespace Go.Av
def vc0:=And.intro @letV_eq <| And.intro @letL_eq <| And.intro @bV_some <| And.intro @bV_none <| And.intro @bV_req <| And.intro @bL_some <| And.intro @bL_req <| And.intro @bP_some <| And.intro @bP_none <| And.intro @bP_req <| And.intro @req_T <| And.intro @brB_tt <| And.intro @brB_ff <| And.intro @brB_tf <| And.intro @brB_ft <| And.intro @onB_b <| And.intro @onB_v <| And.intro @onF_eq <| And.intro @pickA_t <| @pickA_f
def vc1:=And.intro @loadV_ptr <| And.intro @loadV_eptr <| And.intro @loadB_live <| And.intro @loadA_none <| And.intro @loadA_some <| And.intro @liveO_live <| And.intro @nilA_ptr <| And.intro @nilA_eptr <| And.intro @nilA_fn <| And.intro @fieldAddrA_ptr <| And.intro @fieldAddrA_eptr <| And.intro @indexAddrA_sl <| And.intro @indexAddrA_buf <| And.intro @ixB_live <| And.intro @indexArrA_ptr <| And.intro @indexArrA_eptr <| And.intro @ixR_live <| And.intro @indexA_str <| And.intro @indexVA_agg <| And.intro @extractA_tup <| @fieldA_agg
def vc2:=And.intro @lenA_str <| And.intro @lenA_sl <| And.intro @lenA_nils <| And.intro @lenA_buf <| And.intro @convIA_i64 <| And.intro @convIA_u8 <| And.intro @convIA_u64 <| And.intro @convSA_str <| And.intro @eqBA_b <| And.intro @eqIA_nn <| And.intro @eqIA_in <| And.intro @eqIA_ni <| And.intro @convBA_some <| And.intro @eqSA_agg <| And.intro @arith_i64 <| And.intro @arith_u64 <| And.intro @binA_add <| And.intro @binA_sub <| And.intro @binA_mul <| And.intro @binA_quo <| And.intro @binA_rem <| And.intro @binA_eql <| And.intro @binA_neq <| @binA_lss
def vc3:=And.intro @binA_leq <| And.intro @binA_gtr <| And.intro @binA_geq <| And.intro @binA_shl <| And.intro @binA_shr <| And.intro @binA_and <| And.intro @binA_or <| And.intro @binA_addS <| And.intro @binA_eqlS <| And.intro @binA_neqS <| And.intro @unA_not <| And.intro @unA_neg <| And.intro @storeP_ptr <| And.intro @storeB_live' <| And.intro @srcOf_sl <| And.intro @srcOf_nils <| And.intro @srcOf_buf <| And.intro @srcB_live <| And.intro @appendP_eq <| @appendN_nils'
def vc4:=And.intro @appendN_buf' <| And.intro @appB_live <| And.intro @sliceP_str <| And.intro @sliceP_str0 <| And.intro @sliceP_sl <| And.intro @sliceP_sl0 <| And.intro @sliceP_buf <| And.intro @sliceP_buf0 <| And.intro @sliceP_ptr <| And.intro @vwP_live <| And.intro @sliceP_eptr <| And.intro @slB_live <| And.intro @evO_none <| And.intro @evO_some <| And.intro @loMx_none <| And.intro @loMx_some <| And.intro @ev_t <| And.intro @ev_c <| And.intro @mk_eq' <| And.intro @V_nil <| And.intro @V_mv <| And.intro @V_pick <| @V_bin
def vc5:=And.intro @V_un <| And.intro @V_eqB <| And.intro @V_eqI <| And.intro @V_convB <| And.intro @V_eqS <| And.intro @V_convI <| And.intro @V_convS <| And.intro @V_load <| And.intro @V_nilCheck <| And.intro @V_fieldAddr <| And.intro @V_field <| And.intro @V_indexAddr <| And.intro @V_indexArr <| And.intro @V_index <| And.intro @V_indexV <| And.intro @V_extract <| And.intro @V_len <| And.intro @V_max <| And.intro @V_min <| And.intro @V_makeFunc <| And.intro @V_build <| And.intro @V_alloc <| @V_box
def vc6:=And.intro @V_buildSlice <| And.intro @makeSliceP_int <| And.intro @V_makeSlice <| And.intro @V_store <| And.intro @V_append <| And.intro @V_slice <| And.intro @V_call <| And.intro @V_callv <| And.intro @V_guard <| And.intro @putO_some <| And.intro @putO_none <| And.intro @callK_eq2 <| And.intro @usedL_f <| And.intro @usedL_nil <| And.intro @usedL_imm <| And.intro @condS_b <| And.intro @seqQ_n <| And.intro @seqQ_r <| And.intro @seqQ_x <| And.intro @blockQ_n <| And.intro @blockQ_r <| And.intro @blockQ_x <| @regK_eq
def vc7:=And.intro @confOk_nil <| And.intro @W_skip <| And.intro @W_reg <| And.intro @W_seq <| And.intro @W_cond <| And.intro @W_block <| And.intro @W_exit <| And.intro @W_ret <| And.intro @resA_t <| And.intro @resA_c <| And.intro @endQ_n1 <| And.intro @endQ_r1 <| And.intro @endQ_n2 <| And.intro @endQ_r2 <| And.intro @endQ_n3 <| And.intro @endQ_r3 <| And.intro @bor_int <| And.intro @bor_bool <| And.intro @bor_str <| @bor_sl
def vc8:=And.intro @bor_nils <| And.intro @bor_nilp <| And.intro @bor_nili <| And.intro @bor_ifc <| And.intro @bor_nilf <| And.intro @bor_eptr <| And.intro @bor_agg <| And.intro @bor_tup <| And.intro @bor_fn <| And.intro @bor_buf <| And.intro @bor_vw <| And.intro @bor_ptr <| And.intro @refsL_nil <| And.intro @scal_int <| And.intro @scal_bool <| And.intro @scal_str <| @upd_app
def vc9:=And.intro @allE_nil <| And.intro @allE_cons <| And.intro @envOf_nil <| And.intro @envOf_cons <| And.intro @stOf_nil <| And.intro @stOf_cons <| And.intro @noStore_app <| And.intro @argE_nil <| And.intro @argE_zero <| @argE_succ
def vc10:=And.intro @fx_int <| And.intro @fx_bool <| And.intro @fx_str <| And.intro @fx_sl <| And.intro @fx_agg <| And.intro @fx1_int <| And.intro @fx1_bool <| And.intro @fx1_str <| And.intro @fx1_sl <| And.intro @fx1_eptr <| And.intro @borP_one <| And.intro @borV_one <| And.intro @borB_lit <| And.intro @mkOk_nil <| And.intro @mkOk_cons <| And.intro @newsOk_nil <| And.intro @newsOk_cons <| And.intro @solid_int <| And.intro @solid_bool <| And.intro @solid_str <| And.intro @solid_sl <| And.intro @solid_agg <| And.intro @solid_nils <| And.intro @solid_buf <| And.intro @solid_ptr <| And.intro @solid_eptr <| And.intro @cellsB_int <| And.intro @cellsB_bool <| And.intro @cellsB_str <| And.intro @cellsB_sl <| And.intro @cellsB_agg <| And.intro @cellsB_nils <| And.intro @cellsB_buf <| And.intro @cellsB_ptr <| And.intro @cellsB_eptr <| And.intro @cell_int <| And.intro @cell_bool <| And.intro @cell_str <| And.intro @cell_sl <| And.intro @cell_nils <| And.intro @cell_buf <| And.intro @cell_ptr <| And.intro @cell_eptr <| And.intro @putIn_agg <| And.intro @putIn_int <| And.intro @putIn_bool <| And.intro @putIn_nils <| And.intro @putIn_buf <| And.intro @putIn_sl <| And.intro @putIn_str <| And.intro @setSeg_nil <| And.intro @setSeg_cons <| And.intro @setSeg_succ <| And.intro @fillA_nil <| And.intro @fillA_cons <| And.intro @fillE_nil <| And.intro @fillE_cons <| And.intro @cellsOf_int <| And.intro @cellsOf_agg <| And.intro @cellsOf_sl <| And.intro @cellsOf_str <| And.intro @cellsOf_bool <| And.intro @cellsOf_nils <| And.intro @cellsOf_buf <| And.intro @cellsOf_ptr <| @cellsOf_eptr
def vcAll:=And.intro vc10 <| And.intro vc9 <| And.intro vc0 <| And.intro vc1 <| And.intro vc2 <| And.intro vc3 <| And.intro vc4 <| And.intro vc5 <| And.intro vc6 <| And.intro vc7 <| vc8
end Go.Av

/- Iterators' conditions,step by step;the statement that ranges. By an AI agent;nothing here is trusted. -/
namespace Go.Av

section
variable {P:Program} {l:Nat} {xs:List (List AV)} {N:Nat}

def yS (l:Nat) (xs:List (List AV)) (v:AV) (args:List AV) (t:Tr) (K:AV→Tr→Prop) (_:Tag K):Prop :=
 v=.yld l∧∃ pre rest,t=some pre∧pre ++ args :: rest=xs∧K (.bool true) (some (pre ++ [args]))∧K (.bool false) none

def isCallv:MOp→Bool
 | .callv ..=>true
 | _=>false

theorem isCallv_mv (x:MX):isCallv (.mv x)=false:=rfl
theorem isCallv_pick (c a b:MX):isCallv (.pick c a b)=false:=rfl
theorem isCallv_alloc (ty sz:Nat) (z:AV):isCallv (.alloc ty sz z)=false:=rfl
theorem isCallv_box (ty sz:Nat) (x:MX):isCallv (.box ty sz x)=false:=rfl
theorem isCallv_build (z:List AV) (ps:List (Nat × Nat × MX)):isCallv (.build z ps)=false:=rfl
theorem isCallv_buildSlice (ty sz n:Nat) (z:AV) (ps:List (Nat × MX)):isCallv (.buildSlice ty sz n z ps)=false:=rfl
theorem isCallv_load (n:Option Nat) (x:MX):isCallv (.load n x)=false:=rfl
theorem isCallv_store (n:Nat) (x v:MX):isCallv (.store n x v)=false:=rfl
theorem isCallv_nilCheck (x:MX):isCallv (.nilCheck x)=false:=rfl
theorem isCallv_bin (op:BinOp) (x y:MX):isCallv (.bin op x y)=false:=rfl
theorem isCallv_eqB (neg:Bool) (x y:MX):isCallv (.eqB neg x y)=false:=rfl
theorem isCallv_un (op:UnOp) (x:MX):isCallv (.un op x)=false:=rfl
theorem isCallv_convI (k:IntKind) (x:MX):isCallv (.convI k x)=false:=rfl
theorem isCallv_makeFunc (f:FuncId) (caps:List MX):isCallv (.makeFunc f caps)=false:=rfl
theorem isCallv_fieldAddr (x:MX) (off:Nat):isCallv (.fieldAddr x off)=false:=rfl
theorem isCallv_field (x:MX) (off:Nat) (n:Option Nat):isCallv (.field x off n)=false:=rfl
theorem isCallv_indexAddr (x i:MX) (sz:Nat):isCallv (.indexAddr x i sz)=false:=rfl
theorem isCallv_indexArr (x i:MX) (sz len:Nat):isCallv (.indexArr x i sz len)=false:=rfl
theorem isCallv_index (x i:MX):isCallv (.index x i)=false:=rfl
theorem isCallv_indexV (x i:MX) (sz len:Nat) (n:Option Nat):isCallv (.indexV x i sz len n)=false:=rfl
theorem isCallv_extract (x:MX) (i:Nat):isCallv (.extract x i)=false:=rfl
theorem isCallv_call (f:FuncId) (ys:List MX):isCallv (.call f ys)=false:=rfl
theorem isCallv_len (str:Bool) (x:MX):isCallv (.len str x)=false:=rfl
theorem isCallv_slice (str:Bool) (sz:Nat) (x:MX) (lo hi:Option MX):isCallv (.slice str sz x lo hi)=false:=rfl

def VY0 (P:Program) (l:Nat) (xs:List (List AV)):List MS→Env→Store→Tr→(Env→Store→Tr→Prop)→Prop
 | [],e,s,t,K=>K e s t
 | ⟨g,d,o⟩ :: r,e,s,t,K=>match o with
  | .callv x as=>match g with
   | none=>yS l xs (x.ev e) ((as.map fun x=>x.ev e).map (bor s 5)) t (fun v t'=>VY0 P l xs r (putO e d v) (deadAll s) t' K) .mk
   | some (n,w)=>onB (e n) (fun b=>brB b w (yS l xs (x.ev (upd e n (.bool w))) ((as.map fun x=>x.ev (upd e n (.bool w))).map (bor s 5)) t (fun v t'=>VY0 P l xs r (putO (upd e n (.bool w)) d v) (deadAll s) t' K) .mk)
     (VY0 P l xs r (putO (upd e n (.bool (!w))) d (.tup [])) s t K) .mk) (VY0 P l xs r (putO e d (.tup [])) s t K) .mk
  | o=>V P false [⟨g,d,o⟩] e s (fun e s=>VY0 P l xs r e s t K) .mk

theorem vcOp_mono {nk:Bool} {d:Nat} {o:MOp} {e:Env} {s:Store} {A B:AV→Store→Prop} (hab:∀ v s,A v s→B v s) (h:vcOp P nk d o e s A):vcOp P nk d o e s B:=by
 have hk:∀ {f:FuncId} {args:List AV} {l:List Nat} {vs:List AV},callP P nk d f args l vs s A→callP P nk d f args l vs s B:=by
  intro f args l vs h
  rcases h with ⟨v,h1,hu,h⟩ | ⟨hn,ty,sz,es,h1,h2,h3⟩ | ⟨hn,g,news,ks,h1,q1,q2,q3,h3⟩ | ⟨ty,sz,es,h1,he,hu,h3⟩ | ⟨hn,k,ty,sz,es,es2,v,k1,k2,k3,k4,k5,k6,k7,h3⟩
  ·refine .inl ⟨v,h1,hu,?_⟩
   split
   ·rename_i hs;rw [if_pos hs] at h;exact hab _ _ h
   ·rename_i hs
    rw [if_neg hs] at h
    split
    ·rename_i hn;rw [if_pos hn] at h;exact ⟨h.1,hab _ _ h.2⟩
    ·rename_i hn;rw [if_neg hn] at h;exact hab _ _ h
  ·exact .inr (.inl ⟨hn,ty,sz,es,h1,h2,hab _ _ h3⟩)
  ·exact .inr (.inr (.inl ⟨hn,g,news,ks,h1,q1,q2,q3,hab _ _ h3⟩))
  ·exact .inr (.inr (.inr (.inl ⟨ty,sz,es,h1,he,hu,hab _ _ h3⟩)))
  ·exact .inr (.inr (.inr (.inr ⟨hn,k,ty,sz,es,es2,v,k1,k2,k3,k4,k5,k6,k7,hab _ _ h3⟩)))
 cases o with
 | call f xs=>exact hk h
 | callv x xs =>
  simp only [vcOp] at h ⊢
  split at h
  ·exact hk h
  ·exact h.elim
 | _=>obtain ⟨v,t,h1,h2⟩:=h;exact ⟨v,t,h1,hab _ _ h2⟩

theorem vcL_mono {nk:Bool}:∀ {ss:List MS} {e:Env} {s:Store} {A B:Env→Store→Prop},(∀ e s,A e s→B e s)→vcL P nk ss e s A→vcL P nk ss e s B
 | [],_,_,_,_,hab,h=>hab _ _ h
 | ⟨g,d,o⟩ :: r,e,s,A,B,hab,h=>by
  cases g with
  | none=>exact vcOp_mono (fun v s h=>vcL_mono hab h) h
  | some nw =>
   obtain ⟨n,w⟩:=nw
   simp only [vcL] at h ⊢
   split at h
   ·exact ⟨fun hb=>vcOp_mono (fun v s h=>vcL_mono hab h) (h.1 hb),fun hb=>vcL_mono hab (h.2 hb)⟩
   ·exact vcL_mono hab h
   ·exact h.elim

theorem vcY_plain {g:Option (Nat × Bool)} {d:Option Nat} {o:MOp} (hm:isCallv o=false) {r:List MS} {e:Env} {s:Store} {t:Tr} {K:Env→Store→Tr→Prop} (h:vcL P false [⟨g,d,o⟩] e s fun e s=>vcY P l xs r e s t K):vcY P l xs (⟨g,d,o⟩ :: r) e s t K:=by
 have key:∀ {d:Nat} {e:Env} {K:AV→Store→Tr→Prop},vcOp P false d o e s (fun v s'=>K v s' t)→vcOpY P l xs d o e s t K:=by
  intro d e K h
  cases o <;> first
   | (cases hm;done)
   | exact h
 cases g with
 | none=>exact key (K:=fun v s' t'=>vcY P l xs r (putO e _ v) s' t' K) h
 | some nw =>
  obtain ⟨n,w⟩:=nw
  simp only [vcL] at h
  simp only [vcY]
  split at h
  ·rename_i b hb
   try rw [hb]
   exact ⟨fun hb=>key (K:=fun v s' t'=>vcY P l xs r (putO _ _ v) s' t' K) (h.1 hb),h.2⟩
  ·rename_i hb
   try rw [hb]
   exact h
  ·exact h.elim

theorem VY0_sound:∀ {ss:List MS} {e:Env} {s:Store} {t:Tr} {K:Env→Store→Tr→Prop},VY0 P l xs ss e s t K→vcY P l xs ss e s t K
 | [],_,_,_,_,h=>h
 | ⟨g,d,o⟩ :: r,e,s,t,K,h=>by
  cases o with
  | callv x as =>
   have one:∀ {e:Env} {dd:Nat},yS l xs (x.ev e) ((as.map fun x=>x.ev e).map (bor s 5)) t (fun v t'=>VY0 P l xs r (putO e d v) (deadAll s) t' K) .mk →
     vcOpY P l xs dd (.callv x as) e s t fun v s' t'=>vcY P l xs r (putO e d v) s' t' K:=by
    rintro e dd ⟨h0,pre,rest,h1,h2,h3,h4⟩
    unfold vcOpY
    simp only [h0]
    exact ⟨trivial,pre,rest,h1,h2,VY0_sound h3,VY0_sound h4⟩
   simp only [VY0] at h
   simp only [vcY]
   split at h
   ·exact one h
   ·rename_i n w
    unfold onB at h
    simp only
    split at h
    ·rename_i b hb
     try rw [hb]
     exact ⟨fun hbw=>one (h.1 hbw),fun hbw=>VY0_sound (h.2 hbw)⟩
    ·rename_i hb
     try rw [hb]
     exact VY0_sound h
    ·exact h.elim
  | _=>exact vcY_plain rfl (vcL_mono (fun e s h=>VY0_sound h) h)

def VY (P:Program) (l:Nat) (xs:List (List AV)) (ss:List MS) (e:Env) (s:Store) (t:Tr) (K:Env→Store→Tr→Prop) (_:Tag (ss,e,s,K)):Prop:=VY0 P l xs ss e s t K
variable {r:List MS} {e:Env} {s:Store} {t:Tr} {K:Env→Store→Tr→Prop}
theorem VY_nil (g):VY P l xs [] e s t K g=K e s t:=rfl
theorem VY_yld (d:Option Nat) (x:MX) (as:List MX) (g):VY P l xs (⟨none,d,.callv x as⟩ :: r) e s t K g =
  letV (x.ev e) (fun v=>letL (as.map fun x=>x.ev e) (fun as=>yS l xs v (as.map (bor s 5)) t (fun v t'=>VY P l xs r (putO e d v) (deadAll s) t' K .mk) .mk) .mk) .mk:=rfl
theorem VY_yldg (n:Nat) (w:Bool) (d:Option Nat) (x:MX) (as:List MX) (g):VY P l xs (⟨some (n,w),d,.callv x as⟩ :: r) e s t K g =
  onB (e n) (fun b=>brB b w (VY P l xs (⟨none,d,.callv x as⟩ :: r) (upd e n (.bool w)) s t K .mk) (VY P l xs r (putO (upd e n (.bool (!w))) d (.tup [])) s t K .mk) .mk) (VY P l xs r (putO e d (.tup [])) s t K .mk) .mk:=rfl
theorem yS_of {args:List AV} {Kt:AV→Tr→Prop} {g} (pre rest:List (List AV)) (ht:t=some pre) (hx:pre ++ args :: rest=xs) (h1:Kt (.bool true) (some (pre ++ [args]))) (h2:Kt (.bool false) none):yS l xs (.yld l) args t Kt g :=
 ⟨rfl,pre,rest,ht,hx,h1,h2⟩

def isY (ss:List MS):Bool:=ss.any fun m=>isCallv m.o
def seqY (K:Env→Store→Tr→Prop) (Q:Exit→Env→Store→Tr→Prop) (_:Tag (K,Q)):Exit→Env→Store→Tr→Prop:=fun x e s t=>match x with
 | .normal=>K e s t
 | x=>Q x e s t
def blockY (id:Nat) (Q:Exit→Env→Store→Tr→Prop) (_:Tag Q):Exit→Env→Store→Tr→Prop:=fun x e s t=>match x with
 | .exit id'=>if id'=id then Q .normal e s t else Q (.exit id') e s t
 | x=>Q x e s t
def WY0 (P:Program) (l:Nat) (xs:List (List AV)) (N:Nat):MC→(Exit→Env→Store→Tr→Prop)→Env→Store→Tr→Prop
 | .skip,Q,e,s,t=>Q .normal e s t
 | .reg ss draw conf,Q,e,s,t=>if isY ss && !draw then VY P l xs ss e s t (fun e s t=>Q .normal e s t) .mk else V P draw ss e s (fun e s=>confOk conf e∧Q .normal e s t) .mk
 | .seq a b,Q,e,s,t=>WY0 P l xs N a (seqY (fun e s t=>WY0 P l xs N b Q e s t) Q .mk) e s t
 | .cond x a b,Q,e,s,t=>condS (x.ev e) (WY0 P l xs N a Q e s t) (WY0 P l xs N b Q e s t) .mk
 | .block id a,Q,e,s,t=>WY0 P l xs N a (blockY id Q .mk) e s t
 | .exit id,Q,e,s,t=>Q (.exit id) e s t
 | .ret,Q,e,s,t=>Q .ret e s t
 | m,Q,e,s,t=>AIM P l xs N m Q e s t

theorem WY0_sound:∀ (m:MC) {Q:Exit→Env→Store→Tr→Prop} {e:Env} {s:Store} {t:Tr},WY0 P l xs N m Q e s t→AIM P l xs N m Q e s t
 | .skip,_,_,_,_,h=>AIM.skip h
 | .reg ss draw conf,_,_,_,_,h=>by
  simp only [WY0] at h
  split at h
  ·rename_i hc
   simp only [Bool.and_eq_true,Bool.not_eq_true'] at hc
   obtain ⟨_,rfl⟩:=hc
   exact AIM.regY (VY0_sound h)
  ·exact AIM.reg h
 | .seq a b,Q,_,_,_,h=>AIM.seq ((WY0_sound a h).mono fun x e s t h=>by
   cases x with
   | normal=>exact WY0_sound b h
   | _=>exact h)
 | .cond x a b,_,e,_,_,h=>by
  simp only [WY0] at h
  unfold condS at h
  split at h
  ·rename_i b hb
   exact AIM.cond hb (fun hb=>WY0_sound a (h.1 hb)) (fun hb=>WY0_sound _ (h.2 hb))
  ·exact h.elim
 | .block _ a,_,_,_,_,h=>AIM.block (WY0_sound a h)
 | .exit _,_,_,_,_,h=>AIM.exit h
 | .ret,_,_,_,_,h=>AIM.ret h
 | .loop _,_,_,_,_,h=>h
 | .rf ..,_,_,_,_,h=>h

def WY (P:Program) (l:Nat) (xs:List (List AV)) (N:Nat) (m:MC) (Q:Exit→Env→Store→Tr→Prop) (e:Env) (s:Store) (t:Tr) (_:Tag (m,Q,e,s)):Prop:=WY0 P l xs N m Q e s t
variable {Q:Exit→Env→Store→Tr→Prop}
theorem WY_skip (g):WY P l xs N .skip Q e s t g=Q .normal e s t:=rfl
theorem WY_reg {ss:List MS} {draw:Bool} {conf:List (MS × MS)} (h:(isY ss && !draw)=false) (g):WY P l xs N (.reg ss draw conf) Q e s t g=V P draw ss e s (fun e s=>confOk conf e∧Q .normal e s t) .mk:=by
 unfold WY;simp only [WY0,h];rfl
theorem WY_regY {ss:List MS} {conf:List (MS × MS)} (h:isY ss=true) (g):WY P l xs N (.reg ss false conf) Q e s t g=VY P l xs ss e s t (fun e s t=>Q .normal e s t) .mk:=by
 unfold WY;simp only [WY0,h];rfl
theorem WY_seq (a b:MC) (g):WY P l xs N (.seq a b) Q e s t g=WY P l xs N a (seqY (fun e s t=>WY P l xs N b Q e s t .mk) Q .mk) e s t .mk:=rfl
theorem WY_cond (x:MX) (a b:MC) (g):WY P l xs N (.cond x a b) Q e s t g=condS (x.ev e) (WY P l xs N a Q e s t .mk) (WY P l xs N b Q e s t .mk) .mk:=rfl
theorem WY_block (id:Nat) (a:MC) (g):WY P l xs N (.block id a) Q e s t g=WY P l xs N a (blockY id Q .mk) e s t .mk:=rfl
theorem WY_exit (id:Nat) (g):WY P l xs N (.exit id) Q e s t g=Q (.exit id) e s t:=rfl
theorem WY_ret (g):WY P l xs N .ret Q e s t g=Q .ret e s t:=rfl
theorem seqY_n (K:Env→Store→Tr→Prop) (Q:Exit→Env→Store→Tr→Prop) (g) (e:Env) (s:Store) (t:Tr):seqY K Q g .normal e s t=K e s t:=rfl
theorem seqY_r (K:Env→Store→Tr→Prop) (Q:Exit→Env→Store→Tr→Prop) (g) (e:Env) (s:Store) (t:Tr):seqY K Q g .ret e s t=Q .ret e s t:=rfl
theorem seqY_x (K:Env→Store→Tr→Prop) (Q:Exit→Env→Store→Tr→Prop) (g) (id:Nat) (e:Env) (s:Store) (t:Tr):seqY K Q g (.exit id) e s t=Q (.exit id) e s t:=rfl
theorem blockY_n (i:Nat) (Q:Exit→Env→Store→Tr→Prop) (g) (e:Env) (s:Store) (t:Tr):blockY i Q g .normal e s t=Q .normal e s t:=rfl
theorem blockY_r (i:Nat) (Q:Exit→Env→Store→Tr→Prop) (g) (e:Env) (s:Store) (t:Tr):blockY i Q g .ret e s t=Q .ret e s t:=rfl
theorem blockY_x (i:Nat) (Q:Exit→Env→Store→Tr→Prop) (g) (id:Nat) (e:Env) (s:Store) (t:Tr):blockY i Q g (.exit id) e s t=if id=i then Q .normal e s t else Q (.exit id) e s t:=rfl

theorem WY_sound {m:MC} {g} (h:WY P l xs N m Q e s t g):AIM P l xs N m Q e s t:=WY0_sound m h

theorem WY_loop {α:Type} (st:α→(Env × Store) × Tr) (mu:α→Nat) (x0:α) {b:MC} {g} (h0:Weak (e,s) (st x0).1) (ht0:t=(st x0).2)
  (hb:∀ x,WY P l xs N b (fun ex e' s' t'=>match ex with
   | .normal=>∃ y,mu y<mu x∧Weak (e',s') (st y).1∧t'=(st y).2
   | ex=>Q ex e' s' t') (st x).1.1 (st x).1.2 (st x).2 .mk):WY P l xs N (.loop b) Q e s t g :=
 AIM.loop st mu x0 h0 ht0 fun x=>WY_sound (hb x)

theorem W_rf {x:MX} {ps:List Nat} {ma mb:MC} {Q:Exit→Env→Store→Prop} {e:Env} {s:Store} {g:FuncId} {caps:List AV} {xs:List (List AV)} {tt} (hx:x.ev e=.fn g caps) (himm:∀ c ∈ caps,imm c=true)
  (hfa:ma.flat=true) (hfb:mb.flat=true) (hseq:SeqA P g caps xs) (hps:∀ x ∈ xs,x.length=ps.length) (st:List (List AV)→Store) (h0:Weak (e,s) (e,st []))
  (hround:∀ (pre:List (List AV)) (x:List AV) (rest:List (List AV)),pre ++ x :: rest=xs →
   W P N ma (fun ex e1 s1=>ex=.normal∧W P N mb (rfQ Q e (st (pre ++ [x]))) e1 s1 .mk) (updL e ps x) (st pre) .mk)
  (hend:Q .normal e (st xs)):W P N (.rf x ps ma mb) Q e s tt :=
 AWM.rf hx himm hfa hfb hseq hps st h0 (fun pre x rest h=>(W_sound (hround pre x rest h)).mono fun ex e1 s1 ⟨h1,h2⟩=>⟨h1,W_sound h2⟩) (fun _=>hend)
theorem rfQ_n (Q:Exit→Env→Store→Prop) (e:Env) (s':Store) (e2:Env) (s2:Store):rfQ Q e s' .normal e2 s2=Weak (e,s2) (e,s'):=rfl
theorem rfQ_r (Q:Exit→Env→Store→Prop) (e:Env) (s':Store) (e2:Env) (s2:Store):rfQ Q e s' .ret e2 s2=Q .ret e s2:=rfl
theorem rfQ_x (Q:Exit→Env→Store→Prop) (e:Env) (s':Store) (id:Nat) (e2:Env) (s2:Store):rfQ Q e s' (.exit id) e2 s2=Q (.exit id) e s2:=rfl
theorem updL_nil (e:Env) (vs:List AV):updL e [] vs=e:=by cases vs <;> rfl
theorem updL_cons (e:Env) (p:Nat) (ps:List Nat) (v:AV) (vs:List AV):updL e (p :: ps) (v :: vs)=updL (upd e p v) ps vs:=rfl
end

section
variable {P:Program} {l:Nat} {xs:List (List AV)} {r:List MS} {e:Env} {s:Store} {t:Tr} {K:Env→Store→Tr→Prop}
theorem VY_p_mv (g:Option (Nat × Bool)) (d:Option Nat) (x:MX) (gg):VY P l xs (⟨g,d,.mv x⟩ :: r) e s t K gg=V P false [⟨g,d,.mv x⟩] e s (fun e s=>VY P l xs r e s t K .mk) .mk:=rfl
theorem VY_p_pick (g:Option (Nat × Bool)) (d:Option Nat) (c a b:MX) (gg):VY P l xs (⟨g,d,.pick c a b⟩ :: r) e s t K gg=V P false [⟨g,d,.pick c a b⟩] e s (fun e s=>VY P l xs r e s t K .mk) .mk:=rfl
theorem VY_p_alloc (g:Option (Nat × Bool)) (d:Option Nat) (ty sz:Nat) (z:AV) (gg):VY P l xs (⟨g,d,.alloc ty sz z⟩ :: r) e s t K gg=V P false [⟨g,d,.alloc ty sz z⟩] e s (fun e s=>VY P l xs r e s t K .mk) .mk:=rfl
theorem VY_p_box (g:Option (Nat × Bool)) (d:Option Nat) (ty sz:Nat) (x:MX) (gg):VY P l xs (⟨g,d,.box ty sz x⟩ :: r) e s t K gg=V P false [⟨g,d,.box ty sz x⟩] e s (fun e s=>VY P l xs r e s t K .mk) .mk:=rfl
theorem VY_p_build (g:Option (Nat × Bool)) (d:Option Nat) (z:List AV) (ps:List (Nat × Nat × MX)) (gg):VY P l xs (⟨g,d,.build z ps⟩ :: r) e s t K gg=V P false [⟨g,d,.build z ps⟩] e s (fun e s=>VY P l xs r e s t K .mk) .mk:=rfl
theorem VY_p_buildSlice (g:Option (Nat × Bool)) (d:Option Nat) (ty sz n:Nat) (z:AV) (ps:List (Nat × MX)) (gg):VY P l xs (⟨g,d,.buildSlice ty sz n z ps⟩ :: r) e s t K gg=V P false [⟨g,d,.buildSlice ty sz n z ps⟩] e s (fun e s=>VY P l xs r e s t K .mk) .mk:=rfl
theorem VY_p_load (g:Option (Nat × Bool)) (d:Option Nat) (n:Option Nat) (x:MX) (gg):VY P l xs (⟨g,d,.load n x⟩ :: r) e s t K gg=V P false [⟨g,d,.load n x⟩] e s (fun e s=>VY P l xs r e s t K .mk) .mk:=rfl
theorem VY_p_store (g:Option (Nat × Bool)) (d:Option Nat) (n:Nat) (x v:MX) (gg):VY P l xs (⟨g,d,.store n x v⟩ :: r) e s t K gg=V P false [⟨g,d,.store n x v⟩] e s (fun e s=>VY P l xs r e s t K .mk) .mk:=rfl
theorem VY_p_nilCheck (g:Option (Nat × Bool)) (d:Option Nat) (x:MX) (gg):VY P l xs (⟨g,d,.nilCheck x⟩ :: r) e s t K gg=V P false [⟨g,d,.nilCheck x⟩] e s (fun e s=>VY P l xs r e s t K .mk) .mk:=rfl
theorem VY_p_bin (g:Option (Nat × Bool)) (d:Option Nat) (op:BinOp) (x y:MX) (gg):VY P l xs (⟨g,d,.bin op x y⟩ :: r) e s t K gg=V P false [⟨g,d,.bin op x y⟩] e s (fun e s=>VY P l xs r e s t K .mk) .mk:=rfl
theorem VY_p_eqB (g:Option (Nat × Bool)) (d:Option Nat) (neg:Bool) (x y:MX) (gg):VY P l xs (⟨g,d,.eqB neg x y⟩ :: r) e s t K gg=V P false [⟨g,d,.eqB neg x y⟩] e s (fun e s=>VY P l xs r e s t K .mk) .mk:=rfl
theorem VY_p_un (g:Option (Nat × Bool)) (d:Option Nat) (op:UnOp) (x:MX) (gg):VY P l xs (⟨g,d,.un op x⟩ :: r) e s t K gg=V P false [⟨g,d,.un op x⟩] e s (fun e s=>VY P l xs r e s t K .mk) .mk:=rfl
theorem VY_p_convI (g:Option (Nat × Bool)) (d:Option Nat) (k:IntKind) (x:MX) (gg):VY P l xs (⟨g,d,.convI k x⟩ :: r) e s t K gg=V P false [⟨g,d,.convI k x⟩] e s (fun e s=>VY P l xs r e s t K .mk) .mk:=rfl
theorem VY_p_makeFunc (g:Option (Nat × Bool)) (d:Option Nat) (f:FuncId) (caps:List MX) (gg):VY P l xs (⟨g,d,.makeFunc f caps⟩ :: r) e s t K gg=V P false [⟨g,d,.makeFunc f caps⟩] e s (fun e s=>VY P l xs r e s t K .mk) .mk:=rfl
theorem VY_p_fieldAddr (g:Option (Nat × Bool)) (d:Option Nat) (x:MX) (off:Nat) (gg):VY P l xs (⟨g,d,.fieldAddr x off⟩ :: r) e s t K gg=V P false [⟨g,d,.fieldAddr x off⟩] e s (fun e s=>VY P l xs r e s t K .mk) .mk:=rfl
theorem VY_p_field (g:Option (Nat × Bool)) (d:Option Nat) (x:MX) (off:Nat) (n:Option Nat) (gg):VY P l xs (⟨g,d,.field x off n⟩ :: r) e s t K gg=V P false [⟨g,d,.field x off n⟩] e s (fun e s=>VY P l xs r e s t K .mk) .mk:=rfl
theorem VY_p_indexAddr (g:Option (Nat × Bool)) (d:Option Nat) (x i:MX) (sz:Nat) (gg):VY P l xs (⟨g,d,.indexAddr x i sz⟩ :: r) e s t K gg=V P false [⟨g,d,.indexAddr x i sz⟩] e s (fun e s=>VY P l xs r e s t K .mk) .mk:=rfl
theorem VY_p_indexArr (g:Option (Nat × Bool)) (d:Option Nat) (x i:MX) (sz len:Nat) (gg):VY P l xs (⟨g,d,.indexArr x i sz len⟩ :: r) e s t K gg=V P false [⟨g,d,.indexArr x i sz len⟩] e s (fun e s=>VY P l xs r e s t K .mk) .mk:=rfl
theorem VY_p_index (g:Option (Nat × Bool)) (d:Option Nat) (x i:MX) (gg):VY P l xs (⟨g,d,.index x i⟩ :: r) e s t K gg=V P false [⟨g,d,.index x i⟩] e s (fun e s=>VY P l xs r e s t K .mk) .mk:=rfl
theorem VY_p_indexV (g:Option (Nat × Bool)) (d:Option Nat) (x i:MX) (sz len:Nat) (n:Option Nat) (gg):VY P l xs (⟨g,d,.indexV x i sz len n⟩ :: r) e s t K gg=V P false [⟨g,d,.indexV x i sz len n⟩] e s (fun e s=>VY P l xs r e s t K .mk) .mk:=rfl
theorem VY_p_extract (g:Option (Nat × Bool)) (d:Option Nat) (x:MX) (i:Nat) (gg):VY P l xs (⟨g,d,.extract x i⟩ :: r) e s t K gg=V P false [⟨g,d,.extract x i⟩] e s (fun e s=>VY P l xs r e s t K .mk) .mk:=rfl
theorem VY_p_call (g:Option (Nat × Bool)) (d:Option Nat) (f:FuncId) (ys:List MX) (gg):VY P l xs (⟨g,d,.call f ys⟩ :: r) e s t K gg=V P false [⟨g,d,.call f ys⟩] e s (fun e s=>VY P l xs r e s t K .mk) .mk:=rfl
theorem VY_p_len (g:Option (Nat × Bool)) (d:Option Nat) (str:Bool) (x:MX) (gg):VY P l xs (⟨g,d,.len str x⟩ :: r) e s t K gg=V P false [⟨g,d,.len str x⟩] e s (fun e s=>VY P l xs r e s t K .mk) .mk:=rfl
theorem VY_p_slice (g:Option (Nat × Bool)) (d:Option Nat) (str:Bool) (sz:Nat) (x:MX) (lo hi:Option MX) (gg):VY P l xs (⟨g,d,.slice str sz x lo hi⟩ :: r) e s t K gg=V P false [⟨g,d,.slice str sz x lo hi⟩] e s (fun e s=>VY P l xs r e s t K .mk) .mk:=rfl
end
def VY_ps:=And.intro @VY_p_mv <| And.intro @VY_p_pick <| And.intro @VY_p_alloc <| And.intro @VY_p_box <| And.intro @VY_p_build <| And.intro @VY_p_buildSlice <| And.intro @VY_p_load <| And.intro @VY_p_store <| And.intro @VY_p_nilCheck <| And.intro @VY_p_bin <| And.intro @VY_p_eqB <| And.intro @VY_p_un <| And.intro @VY_p_convI <| And.intro @VY_p_makeFunc <| And.intro @VY_p_fieldAddr <| And.intro @VY_p_field <| And.intro @VY_p_indexAddr <| And.intro @VY_p_indexArr <| And.intro @VY_p_index <| And.intro @VY_p_indexV <| And.intro @VY_p_extract <| And.intro @VY_p_call <| And.intro @VY_p_len <| @VY_p_slice
def isCallvs:=And.intro @isCallv_mv <| And.intro @isCallv_pick <| And.intro @isCallv_alloc <| And.intro @isCallv_box <| And.intro @isCallv_build <| And.intro @isCallv_buildSlice <| And.intro @isCallv_load <| And.intro @isCallv_store <| And.intro @isCallv_nilCheck <| And.intro @isCallv_bin <| And.intro @isCallv_eqB <| And.intro @isCallv_un <| And.intro @isCallv_convI <| And.intro @isCallv_makeFunc <| And.intro @isCallv_fieldAddr <| And.intro @isCallv_field <| And.intro @isCallv_indexAddr <| And.intro @isCallv_indexArr <| And.intro @isCallv_index <| And.intro @isCallv_indexV <| And.intro @isCallv_extract <| And.intro @isCallv_call <| And.intro @isCallv_len <| @isCallv_slice

theorem seq_W {P:Program} {f:FuncId} {nt np:Nat} {m:MC} (hF:cFun P f=some (nt,np,m,[])) {caps:List AV} (hla:caps.length+1≤nt) {xs:List (List AV)}
  (h:∀ l,WY P l xs nt m (fun x _ _ t=>(x=.normal∨x=.ret)∧(t=some xs∨t=none)) (argE (.yld l :: caps)) noStore (some []) .mk):SeqA P f caps xs :=
 seq_of hF hla fun l=>WY_sound (h l)
end Go.Av

/- Weakening,as it is used. By an AI agent;nothing here is trusted. -/
namespace Go.Av

def allK (s s':Store) (f:Nat→Option Nat):List (Nat × Option Nat × Blk)→Prop
 | []=>True
 | (_,some k,B') :: m=>(∃ B,s k=some (some B)∧RnB s s' f B B')∧allK s s' f m
 | (_,none,B') :: m=>(B'.es=[]∧0<B'.sz)∧allK s s' f m
def allR (s s':Store) (f:Nat→Option Nat) (e:Env):List (Nat × AV)→Prop
 | []=>True
 | (n,v) :: l=>Rn s s' f (e n) v∧allR s s' f e l

theorem RnB.fx {s s':Store} {f:Nat→Option Nat} {ty sz:Nat} {es:List AV} (h:∀ x ∈ es,fx x=true):RnB s s' f ⟨ty,sz,es⟩ ⟨ty,sz,es⟩:=RnB.same fun x hx=>(fx_spec (h x hx)).1
theorem RnB.fxB {s s':Store} {f:Nat→Option Nat} {ty sz:Nat} {es:List AV} (h:es.all Go.Av.fx=true):RnB s s' f ⟨ty,sz,es⟩ ⟨ty,sz,es⟩:=RnB.fx (List.all_eq_true.1 h)
theorem ints_fxB (l:List Int):(ints l).all Go.Av.fx=true:=List.all_eq_true.2 (ints_fx l)
theorem RnB.one {s s':Store} {f:Nat→Option Nat} {ty sz:Nat} {x x':AV} (h:Rn s s' f x x') (hx:cellsOf x=[x]) (hx':cellsOf x'=[x']) (hc:cell x'=true):RnB s s' f ⟨ty,sz,[x]⟩ ⟨ty,sz,[x']⟩:=by
 refine ⟨rfl,rfl,rfl,fun i y y' h1 h2=>?_⟩
 cases i with
 | zero =>
  simp at h1 h2
  subst h1;subst h2
  refine ⟨by rw [hx,hx'];rfl,fun c hcc=>by rw [hx'] at hcc;simp at hcc;subst hcc;exact hc,fun o c c' h3 h4=>?_⟩
  rw [hx] at h3;rw [hx'] at h4
  cases o with
  | zero=>simp at h3 h4;subst h3;subst h4;exact h
  | succ o=>simp at h3
 | succ i=>simp at h1

theorem W_weakR {P:Program} {N:Nat} {x:MX} {ps:List Nat} {a b:MC} {Q:Exit→Env→Store→Prop} {e:Env} {s:Store} {t} (q:Env × Store) (hw:Weak (e,s) q) (h:W P N (.rf x ps a b) Q q.1 q.2 .mk):W P N (.rf x ps a b) Q e s t:=AWM.weak rfl hw h
theorem allK_nil {s s':Store} {f:Nat→Option Nat}:allK s s' f []=True:=rfl
theorem allK_some {s s':Store} {f:Nat→Option Nat} (k' k:Nat) (B':Blk) (m:List (Nat × Option Nat × Blk)):allK s s' f ((k',some k,B') :: m)=((∃ B,s k=some (some B)∧RnB s s' f B B')∧allK s s' f m):=rfl
theorem allK_none {s s':Store} {f:Nat→Option Nat} (k':Nat) (B':Blk) (m:List (Nat × Option Nat × Blk)):allK s s' f ((k',none,B') :: m)=((B'.es=[]∧0<B'.sz)∧allK s s' f m):=rfl
theorem allR_nil {s s':Store} {f:Nat→Option Nat} {e:Env}:allR s s' f e []=True:=rfl
theorem allR_cons {s s':Store} {f:Nat→Option Nat} {e:Env} (n:Nat) (v:AV) (l:List (Nat × AV)):allR s s' f e ((n,v) :: l)=(Rn s s' f (e n) v∧allR s s' f e l):=rfl
theorem keyOf_cons (k':Nat) (o:Option Nat) (B:Blk) (l:List (Nat × Option Nat × Blk)) (k:Nat):keyOf ((k',o,B) :: l) k=if k=k' then o else keyOf l k:=rfl
theorem exB (B0:Blk) (p:Blk→Prop):(∃ B,some (some B0)=some (some B)∧p B)=p B0:=propext ⟨fun ⟨B,h,k⟩=>by cases h;exact k,fun h=>⟨B0,rfl,h⟩⟩
theorem imm_int (k:IntKind) (n:Int):imm (.int k n)=true:=rfl
theorem imm_bool (b:Bool):imm (.bool b)=true:=rfl
theorem imm_str (l:List UInt8):imm (.str l)=true:=rfl
theorem imm_sl (l:List AV):imm (.sl l)=true:=rfl
theorem imm_nils:imm .nils=true:=rfl
theorem imm_nilp:imm .nilp=true:=rfl
theorem imm_nili:imm .nili=true:=rfl
theorem imm_ifc:imm .ifc=true:=rfl
theorem imm_eptr (x:AV) (o:Nat):imm (.eptr x o)=true:=rfl
theorem imm_agg (l:List AV):imm (.agg l)=immL l:=rfl
theorem imm_fn (f:FuncId) (l:List AV):imm (.fn f l)=immL l:=rfl
theorem immL_nil:immL []=true:=rfl
theorem immL_int (k:IntKind) (n:Int) (l:List AV):immL (.int k n :: l)=immL l:=rfl
theorem immL_bool (b:Bool) (l:List AV):immL (.bool b :: l)=immL l:=rfl
theorem immL_str (s:List UInt8) (l:List AV):immL (.str s :: l)=immL l:=rfl
theorem immL_sl (s:List AV) (l:List AV):immL (.sl s :: l)=immL l:=rfl
theorem immL_nils (l:List AV):immL (.nils :: l)=immL l:=rfl
theorem immL_eptr (x:AV) (o:Nat) (l:List AV):immL (.eptr x o :: l)=immL l:=rfl
theorem killAll_imm {args:List AV} {s:Store} (h:args.all imm=true):killAll (refsL s 5 args) s=s:=by
 rw [refsL_imm s 5 args h,killAll_nil]
theorem scal_fn (f:FuncId) (l:List AV):scal (.fn f l)=false:=rfl
theorem scal_sl (l:List AV):scal (.sl l)=false:=rfl
theorem scal_eptr (x:AV) (o:Nat):scal (.eptr x o)=false:=rfl
theorem scal_agg (l:List AV):scal (.agg l)=l.all fun c=>match c with
  | .agg ds=>ds.all scal1
  | c=>scal1 c:=rfl
theorem scal_tup (l:List AV):scal (.tup l)=l.all fun c=>match c with
  | .agg ds=>ds.all scal1
  | c=>scal1 c:=rfl
theorem scal1_int (k:IntKind) (n:Int):scal1 (.int k n)=true:=rfl
theorem scal1_bool (b:Bool):scal1 (.bool b)=true:=rfl
theorem scal1_str (l:List UInt8):scal1 (.str l)=true:=rfl
theorem scal1_sl (l:List AV):scal1 (.sl l)=false:=rfl
def vcB:=And.intro @imm_int <| And.intro @imm_bool <| And.intro @imm_str <| And.intro @imm_sl <| And.intro @imm_nils <| And.intro @imm_nilp <| And.intro @imm_nili <| And.intro @imm_ifc <| And.intro @imm_eptr <| And.intro @imm_agg <| And.intro @imm_fn <| And.intro @immL_nil <| And.intro @immL_int <| And.intro @immL_bool <| And.intro @immL_str <| And.intro @immL_sl <| And.intro @immL_nils <| And.intro @immL_eptr <| And.intro @killAll_imm <| And.intro @letS_eq <| And.intro @scal_fn <| And.intro @scal_sl <| And.intro @scal_eptr <| And.intro @scal_agg <| And.intro @scal_tup <| And.intro @scal1_int <| And.intro @scal1_bool <| And.intro @scal1_str <| @scal1_sl
end Go.Av

/- The abstract operations with conditions that are decided by running;code that is run at known values;that what it comes to is what the code does. By an AI agent;nothing here is trusted. -/
namespace Go.Av

def reqD {α:Type} (c:Prop) [Decidable c] (x:Option α):Option α:=if c then x else none
theorem reqD_eq {α:Type} (c:Prop) [Decidable c] (x:Option α):reqD c x=req c x:=by
 by_cases h:c <;> simp [reqD,req,h]
instance instDecI64 (n:Int):Decidable (I64 n):=inferInstanceAs (Decidable (_∧_))
instance instDecCellsOk (x:AV):Decidable (cellsOk x):=inferInstanceAs (Decidable (∀ c ∈ cellsOf x,cell c=true))
def isNone {α:Type}:Option α→Bool
 | none=>true
 | some _=>false
instance instDecNone {α:Type} (o:Option α):Decidable (o=none):=match o with
 | none=>.isTrue rfl
 | some _=>.isFalse (fun h=>by cases h)

def fillAD (cells:List AV):List (Nat × Nat × AV)→Option (List AV)
 | []=>some cells
 | (off,sz,v) :: r=>reqD (solid v=true∧(cellsOf v).length=sz∧off+sz≤cells.length) (fillAD (setSeg cells off (cellsOf v)) r)

def fillED (sz:Nat) (es:List AV):List (Nat × AV)→Option (List AV)
 | []=>some es
 | (i,v) :: r=>reqD (solid v=true∧(cellsOf v).length=sz∧i<es.length) (fillED sz (es.set i v) r)

def mkD (d ty sz:Nat) (es:List AV) (v:AV) (s:Store):Option (AV × Store) :=
 reqD (s d=none∧0<sz∧∀ x ∈ es,solid x=true∧(cellsOf x).length=sz∧cellsOk x) (some (v,upd s d (some (some ⟨ty,sz,es⟩))))

def loadAD (n:Option Nat) (el:AV) (o:Nat):Option AV :=
 match n with
 | none=>(cellsOf el)[o]?
 | some n=>reqD (o+n≤(cellsOf el).length) (some (.agg (((cellsOf el).drop o).take n)))

def arithD (k:IntKind) (n:Int):Option AV:=if k=.i64 then reqD (I64 n) (some (.int .i64 n)) else some (.int k (k.wrap n))

def binD (op:BinOp) (x y:AV):Option AV :=
 match x,y with
 | .int k a,.int k' b =>
  match op with
  | .shl=>reqD (0≤b) (some (.int k (k.wrap (a * 2 ^ min b.toNat k.bits))))
  | .shr=>reqD (0≤b) (some (.int k (a.fdiv (2 ^ min b.toNat k.bits))))
  | .add=>reqD (k=k') (arithD k (a+b))
  | .sub=>reqD (k=k') (arithD k (a - b))
  | .mul=>reqD (k=k') (arithD k (a * b))
  | .quo=>reqD (k=k'∧b ≠ 0) (arithD k (a.tdiv b))
  | .rem=>reqD (k=k'∧b ≠ 0) (some (.int k (a.tmod b)))
  | .eql=>reqD (k=k') (some (.bool (decide (a=b))))
  | .neq=>reqD (k=k') (some (.bool (!decide (a=b))))
  | .lss=>reqD (k=k') (some (.bool (decide (a<b))))
  | .leq=>reqD (k=k') (some (.bool (decide (a≤b))))
  | .gtr=>reqD (k=k') (some (.bool (decide (b<a))))
  | .geq=>reqD (k=k') (some (.bool (decide (b≤a))))
  | .and=>reqD (k=k') (some (.int k (k.wrap ((BitVec.ofInt k.bits a) &&& (BitVec.ofInt k.bits b)).toNat)))
  | .or=>reqD (k=k') (some (.int k (k.wrap ((BitVec.ofInt k.bits a) ||| (BitVec.ofInt k.bits b)).toNat)))
  | .xor=>reqD (k=k') (some (.int k (k.wrap ((BitVec.ofInt k.bits a) ^^^ (BitVec.ofInt k.bits b)).toNat)))
  | .andNot=>none
 | .str a,.str b =>
  match op with
  | .add=>reqD (a.length+b.length≤9223372036854775807) (some (.str (a ++ b)))
  | .eql=>some (.bool (decide (a=b)))
  | .neq=>some (.bool (!decide (a=b)))
  | _=>none
 | _,_=>none

def unD (op:UnOp) (x:AV):Option AV :=
 match op,x with
 | .not,.bool b=>some (.bool (!b))
 | .neg,.int k n=>arithD k (-n)
 | _,_=>none

def vwBD (hi:AV) (k i o:Nat) (b:Option (Option Blk)):Option AV:=match b with
 | some (some B)=>match hi with
  | .int _ n=>(B.es[i]?).bind fun el=>reqD (0<n∧o+n.toNat≤(cellsOf el).length) (some (.vw k i o n.toNat))
  | _=>none
 | _=>none
def vwED (hi el:AV) (o:Nat):Option AV:=match hi with
 | .int _ n=>reqD (0<n∧o+n.toNat≤(cellsOf el).length) (some (.sl (((cellsOf el).drop o).take n.toNat)))
 | _=>none
theorem vwBD_eq (hi:AV) (k i o:Nat) (b:Option (Option Blk)):vwBD hi k i o b=vwB hi k i o b:=by simp only [vwBD,vwB,reqD_eq];rfl
theorem vwED_eq (hi el:AV) (o:Nat):vwED hi el o=vwE hi el o:=by simp only [vwED,vwE,reqD_eq];rfl

noncomputable def exD (d:Nat) (o:MOp) (e:Env) (s:Store):Option (AV × Store) :=
 match o with
 | .mv x=>some (x.ev e,s)
 | .pick c a b=>match c.ev e with
  | .bool t=>some (if t then a.ev e else b.ev e,s)
  | _=>none
 | .alloc ty sz z=>mkD d ty sz [z] (.ptr d 0 0) s
 | .box ty sz x=>mkD d ty sz [x.ev e] (.ptr d 0 0) s
 | .build zero parts=>(fillAD zero (parts.map fun p=>(p.1,p.2.1,p.2.2.ev e))).map fun cs=>(.agg cs,s)
 | .buildSlice ty sz n zero parts=>(fillED sz (List.replicate n zero) (parts.map fun p=>(p.1,p.2.ev e))).bind fun es =>
   if n=0 then some (.nils,s) else mkD d ty sz es (.buf d n) s
 | .load n x=>match x.ev e with
  | .ptr k i o=>match s k with
   | some (some B)=>(B.es[i]?).bind fun el=>(loadAD n el o).map fun v=>(v,s)
   | _=>none
  | .eptr el o=>(loadAD n el o).map fun v=>(v,s)
  | _=>none
 | .store n x v=>match x.ev e with
  | .ptr k i o=>match s k with
   | some (some B)=>(B.es[i]?).bind fun el =>
     reqD (solid (v.ev e)=true∧(cellsOf (v.ev e)).length=n∧cellsOk (v.ev e)∧0<n∧o+n≤(cellsOf el).length)
      (some (.tup [],upd s k (some (some ⟨B.ty,B.sz,B.es.set i (putIn el o (v.ev e))⟩))))
   | _=>none
  | _=>none
 | .nilCheck x=>match x.ev e with
  | .ptr k i o=>match s k with
   | some (some _)=>some (.ptr k i o,s)
   | _=>none
  | .eptr el o=>some (.eptr el o,s)
  | .fn f caps=>some (.fn f caps,s)
  | _=>none
 | .bin op x y=>(binT op (x.ev e) (y.ev e)).map fun v=>(v,s)
 | .eqB neg x y=>match x.ev e,y.ev e with
  | .bool a,.bool b=>some (.bool (decide (a=b) != neg),s)
  | _,_=>none
 | .eqS neg tags x y=>match x.ev e,y.ev e with
  | .agg a,.agg b=>(eqT tags a b).map fun t=>(.bool (t != neg),s)
  | _,_=>none
 | .eqI neg x y=>match x.ev e,y.ev e with
  | .nili,.nili=>some (.bool (true != neg),s)
  | .ifc,.nili=>some (.bool (false != neg),s)
  | .nili,.ifc=>some (.bool (false != neg),s)
  | _,_=>none
 | .convB x=>(srcOf 1 s (x.ev e)).bind fun l=>(bytesOf l).map fun b=>(.str b,s)
 | .un op x=>(unD op (x.ev e)).map fun v=>(v,s)
 | .convI k x=>match x.ev e with
  | .int _ n=>(if k=.i64 then reqD (I64 n) (some (.int .i64 n)) else some (.int k (k.wrap n))).map fun v=>(v,s)
  | _=>none
 | .convS x=>match x.ev e with
  | .str l=>some (.str l,s)
  | _=>none
 | .makeFunc f caps=>some (.fn f (caps.map (·.ev e)),s)
 | .makeSlice ty sz by_ zero l c=>match l.ev e,c.ev e with
  | .int _ n,.int _ m=>reqD (n=m∧0≤n∧(by_:Int) * n≤281474976710656∧n≤9223372036854775807) (mkD d ty sz (List.replicate n.toNat zero) (.buf d n.toNat) s)
  | _,_=>none
 | .slice str sz x lo hi=>match x.ev e with
  | .str l=>match loMx e lo,hiMx e l.length hi with
   | .int _ a,.int _ b=>reqD (str=true∧0≤a∧a≤b∧b≤l.length) (some (.str ((l.take b.toNat).drop a.toNat),s))
   | _,_=>none
  | .sl l=>match loMx e lo,hiMx e l.length hi with
   | .int _ a,.int _ b=>reqD (str=false∧0≤a∧a≤b∧b≤l.length∧∀ x ∈ l,(cellsOf x).length=sz) (some (.sl ((l.take b.toNat).drop a.toNat),s))
   | _,_=>none
  | .buf k len=>match s k with
   | some (some B)=>match loMx e lo,hiMx e len hi with
    | .int _ a,.int _ b=>reqD (str=false∧0≤a∧a≤b∧b≤len∧len≤B.es.length∧B.sz=sz∧B.es.all imm=true) (some (.sl ((B.es.take b.toNat).drop a.toNat),upd s k (some none)))
    | _,_=>none
   | _=>none
  | .ptr k i o=>(reqD (str=true∧sz=0) (vwBD (hiMx e 0 hi) k i o (s k))).map fun v=>(v,s)
  | .eptr el o=>(reqD (str=true∧sz=0) (vwED (hiMx e 0 hi) el o)).map fun v=>(v,s)
  | _=>none
 | .fieldAddr x off=>match x.ev e with
  | .ptr k i o=>match s k with
   | some (some _)=>some (.ptr k i (o+off),s)
   | _=>none
  | .eptr el o=>some (.eptr el (o+off),s)
  | _=>none
 | .field x off n=>match x.ev e with
  | .agg cs=>(loadAD n (.agg cs) off).map fun v=>(v,s)
  | _=>none
 | .indexAddr x i sz=>match x.ev e,i.ev e with
  | .sl l,.int _ n=>reqD (0≤n) ((l[n.toNat]?).bind fun el=>reqD ((cellsOf el).length=sz) (some (.eptr el 0,s)))
  | .buf k len,.int _ n=>match s k with
   | some (some B)=>reqD (0≤n∧n<len∧B.sz=sz∧len≤B.es.length) (some (.ptr k n.toNat 0,s))
   | _=>none
  | _,_=>none
 | .indexArr x i sz len=>match x.ev e,i.ev e with
  | .ptr k j o,.int _ n=>match s k with
   | some (some _)=>reqD (0≤n∧n<len) (some (.ptr k j (o+n.toNat * sz),s))
   | _=>none
  | .eptr el o,.int _ n=>reqD (0≤n∧n<len) (some (.eptr el (o+n.toNat * sz),s))
  | _,_=>none
 | .index x i=>match x.ev e,i.ev e with
  | .str l,.int _ n=>reqD (0≤n) ((l[n.toNat]?).map fun b=>(.int .u8 b.toNat,s))
  | _,_=>none
 | .indexV x i sz len n=>match x.ev e,i.ev e with
  | .agg cs,.int _ j=>reqD (0≤j∧j<len) ((loadAD n (.agg cs) (j.toNat * sz)).map fun v=>(v,s))
  | _,_=>none
 | .extract x i=>match x.ev e with
  | .tup vs=>(vs[i]?).map fun v=>(v,s)
  | _=>none
 | .len str x=>match x.ev e with
  | .str l=>reqD (str=true) (some (.int .i64 l.length,s))
  | .sl l=>reqD (str=false) (some (.int .i64 l.length,s))
  | .buf k len=>match s k with
   | some (some _)=>reqD (str=false) (some (.int .i64 len,s))
   | _=>none
  | .nils=>reqD (str=false) (some (.int .i64 0,s))
  | _=>none
 | .append ty sz by_ _ s0 x=>(srcOf sz s (x.ev e)).bind fun news =>
   reqD (s d=none∧0<sz∧(∀ y ∈ news,(cellsOf y).length=sz∧cellsOk y))
   (match s0.ev e with
   | .nils=>reqD (news.length * by_≤140737488355328∧news.length≤maxLen) (some (.buf d news.length,upd s d (some (some ⟨ty,sz,news⟩))))
   | .buf k len=>match s k with
    | some (some B)=>reqD (len=B.es.length∧B.ty=ty∧B.sz=sz∧(len+news.length) * by_≤140737488355328∧len+news.length≤maxLen)
      (some (.buf d (len+news.length),upd (upd s k (some none)) d (some (some ⟨ty,sz,B.es ++ news⟩))))
    | _=>none
   | _=>none)
 | .copy _ _ _=>none
 | .max xs=>(maxA (xs.map (·.ev e))).map fun v=>(v,s)
 | .min xs=>(minA (xs.map (·.ev e))).map fun v=>(v,s)
 | .call .. | .callv ..=>none

theorem fillAD_eq:∀ (l:List (Nat × Nat × AV)) (cells:List AV),fillAD cells l=fillA cells l
 | [],_=>rfl
 | (off,sz,v) :: r,cells=>by rw [fillAD,fillA,reqD_eq,fillAD_eq r]
theorem fillED_eq (sz:Nat):∀ (l:List (Nat × AV)) (es:List AV),fillED sz es l=fillE sz es l
 | [],_=>rfl
 | (i,v) :: r,es=>by rw [fillED,fillE,reqD_eq,fillED_eq sz r]
theorem mkD_eq (d ty sz:Nat) (es:List AV) (v:AV) (s:Store):mkD d ty sz es v s=mk d ty sz es v s:=by rw [mkD,mk,reqD_eq]
theorem loadAD_eq (n:Option Nat) (el:AV) (o:Nat):loadAD n el o=loadA n el o:=by
 cases n with
 | none=>rfl
 | some n=>simp only [loadAD,loadA,reqD_eq]
theorem arithD_eq (k:IntKind) (n:Int):arithD k n=arith k n:=by
 unfold arithD arith;split
 ·rw [reqD_eq]
 ·rfl
theorem binD_eq (op:BinOp) (x y:AV):binD op x y=binA op x y:=by
 cases x <;> first
  | rfl
  | (cases y <;> first
    | rfl
    | (cases op <;> simp only [binD,binA,reqD_eq,arithD_eq]))
theorem unD_eq (op:UnOp) (x:AV):unD op x=unA op x:=by
 cases op <;> cases x <;> first | rfl | simp only [unD,unA,arithD_eq]
theorem exD_eq (d:Nat) (o:MOp) (e:Env) (s:Store):exD d o e s=ex d o e s:=by
 cases o <;> first
  | rfl
  | (simp only [exD,ex,reqD_eq,vwBD_eq,vwED_eq,fillAD_eq,fillED_eq,mkD_eq,loadAD_eq,binD_eq,unD_eq,arithD_eq];done)
  | (simp only [exD,ex,reqD_eq,vwBD_eq,vwED_eq,fillAD_eq,fillED_eq,mkD_eq,loadAD_eq,binD_eq,unD_eq,arithD_eq];rfl)

abbrev CallT:=FuncId→List AV→Option AV
abbrev OwnT:=FuncId→List AV→Option (Nat × Nat × List AV)
structure CT where
 v:CallT
 o:OwnT
abbrev IterT:=FuncId→List AV→Option (List (List AV))

noncomputable def runCall (ct:CT) (nk:Bool) (d:Nat) (f:FuncId) (vs:List AV) (s:Store):Option (AV × Store) :=
 match cond nk none (ct.o f (vs.map (bor s 5))) with
 | some (ty,sz,es)=>cond (isNone (s d)) (some (.buf d es.length,upd (ownS es (refsL s 5 vs) s) d (some (some ⟨ty,sz,es⟩)))) none
 | none=>match ct.v f (vs.map (bor s 5)) with
  | none=>none
  | some v=>cond (nk && !((refsL s 5 vs).all fun k=>!isNone (s k))) none
    (if scal v then some (v,s) else if nk then (if (refsL s 5 vs).isEmpty then some (v,s) else none) else some (v,killAll (refsL s 5 vs) s))

noncomputable def runOp (ct:CT) (nk:Bool) (d:Nat) (o:MOp) (e:Env) (s:Store):Option (AV × Store) :=
 match o with
 | .call f xs=>runCall ct nk d f (xs.map (·.ev e)) s
 | .callv x xs=>match x.ev e with
  | .fn f caps=>runCall ct nk d f (xs.map (·.ev e) ++ caps) s
  | _=>none
 | .bin op x y=>(binD op (x.ev e) (y.ev e)).map fun v=>(v,s)
 | o=>exD d o e s

inductive T where
 | leaf
 | node (l:T) (v:AV) (r:T)
noncomputable def getT (t:T):Nat→AV :=
 T.rec (motive:=fun _=>Nat→AV) (fun _=>.undef) (fun _ v _ gl gr n=>Nat.casesOn (motive:=fun _=>AV) n v fun m=>cond (Nat.beq (m % 2) 0) (gl (m / 2)) (gr (m / 2))) t
noncomputable def setT (d:Nat):T→Nat→AV→T :=
 Nat.rec (motive:=fun _=>T→Nat→AV→T) (fun t _ _=>t) (fun _ st t n v =>
  T.casesOn (motive:=fun _=>T) t
   (Nat.casesOn (motive:=fun _=>T) n (.node .leaf v .leaf) fun m=>cond (Nat.beq (m % 2) 0) (.node (st .leaf (m / 2) v) .undef .leaf) (.node .leaf .undef (st .leaf (m / 2) v)))
   (fun l x r=>Nat.casesOn (motive:=fun _=>T) n (.node l v r) fun m=>cond (Nat.beq (m % 2) 0) (.node (st l (m / 2) v) x r) (.node l x (st r (m / 2) v)))) d
theorem getT_leaf (n:Nat):getT .leaf n=.undef:=rfl
theorem getT_zero (l:T) (v:AV) (r:T):getT (.node l v r) 0=v:=rfl
theorem getT_succ (l:T) (v:AV) (r:T) (m:Nat):getT (.node l v r) (m+1)=cond (Nat.beq (m % 2) 0) (getT l (m / 2)) (getT r (m / 2)):=rfl
theorem setT_leaf0 (d:Nat) (v:AV):setT (d+1) .leaf 0 v=.node .leaf v .leaf:=rfl
theorem setT_leafS (d:Nat) (m:Nat) (v:AV):setT (d+1) .leaf (m+1) v=cond (Nat.beq (m % 2) 0) (.node (setT d .leaf (m / 2) v) .undef .leaf) (.node .leaf .undef (setT d .leaf (m / 2) v)):=rfl
theorem setT_node0 (d:Nat) (l:T) (x:AV) (r:T) (v:AV):setT (d+1) (.node l x r) 0 v=.node l v r:=rfl
theorem setT_nodeS (d:Nat) (l:T) (x:AV) (r:T) (m:Nat) (v:AV):setT (d+1) (.node l x r) (m+1) v=cond (Nat.beq (m % 2) 0) (.node (setT d l (m / 2) v) x r) (.node l x (setT d r (m / 2) v)):=rfl

theorem get_setT:∀ (d:Nat) (t:T) (n:Nat) (v:AV),n+1<2 ^ d→∀ k,getT (setT d t n v) k=if k=n then v else getT t k
 | 0,_,_,_,h,_=>by omega
 | d+1,t,n,v,h,k=>by
  have hpow:2 ^ (d+1)=2 * 2 ^ d:=by rw [Nat.pow_succ];omega
  have key:∀ (l:T) (x:AV) (r:T) (m:Nat),n=m+1→getT (cond (Nat.beq (m % 2) 0) (.node (setT d l (m / 2) v) x r) (.node l x (setT d r (m / 2) v))) k=if k=n then v else getT (.node l x r) k:=by
   intro l x r m hm
   have ih:=get_setT d
   have hlt:m / 2+1<2 ^ d:=by omega
   cases k with
   | zero =>
    have:¬ (0=n):=by omega
    rw [if_neg this]
    cases Nat.beq (m % 2) 0 <;> rfl
   | succ j =>
    by_cases hb:m % 2=0
    ·have hb':Nat.beq (m % 2) 0=true:=by rw [hb];rfl
     rw [hb']
     simp only [cond_true,getT_succ]
     by_cases hj:j % 2=0
     ·have hj':Nat.beq (j % 2) 0=true:=by rw [hj];rfl
      rw [hj']
      simp only [cond_true]
      rw [ih l (m / 2) v hlt (j / 2)]
      by_cases hjm:j / 2=m / 2
      ·rw [if_pos hjm,if_pos (by omega)]
      ·rw [if_neg hjm,if_neg (by omega)]
     ·have hj':Nat.beq (j % 2) 0=false:=by
       have:j % 2=1:=by omega
       rw [this];rfl
      rw [hj',if_neg (by omega)];rfl
    ·have hm1:m % 2=1:=by omega
     have hb':Nat.beq (m % 2) 0=false:=by rw [hm1];rfl
     rw [hb']
     simp only [cond_false,getT_succ]
     by_cases hj:j % 2=0
     ·have hj':Nat.beq (j % 2) 0=true:=by rw [hj];rfl
      rw [hj',if_neg (by omega)];rfl
     ·have hj':Nat.beq (j % 2) 0=false:=by
       have:j % 2=1:=by omega
       rw [this];rfl
      rw [hj']
      simp only [cond_false]
      rw [ih r (m / 2) v hlt (j / 2)]
      by_cases hjm:j / 2=m / 2
      ·rw [if_pos hjm,if_pos (by omega)]
      ·rw [if_neg hjm,if_neg (by omega)]
  cases t with
  | leaf =>
   cases n with
   | zero =>
    rw [setT_leaf0]
    cases k with
    | zero=>rw [getT_zero,if_pos rfl]
    | succ j =>
     rw [getT_succ,if_neg (by omega)]
     cases Nat.beq (j % 2) 0 <;> rfl
   | succ m =>
    rw [setT_leafS]
    have:=key .leaf .undef .leaf m rfl
    rw [this]
    split
    ·rfl
    ·cases k with
     | zero=>rfl
     | succ j=>rw [getT_succ];cases Nat.beq (j % 2) 0 <;> rfl
  | node l x r =>
   cases n with
   | zero =>
    rw [setT_node0]
    cases k with
    | zero=>rw [getT_zero,if_pos rfl]
    | succ j=>rw [getT_succ,if_neg (by omega),getT_succ]
   | succ m =>
    rw [setT_nodeS]
    exact key l x r m rfl
noncomputable def putT (t:T) (n:Nat) (v:AV):Option T:=cond (Nat.ble n 4000) (some (setT 12 t n v)) none
theorem putT_some {t t':T} {n:Nat} {v:AV} (h:putT t n v=some t'):getT t'=upd (getT t) n v:=by
 unfold putT at h
 cases hb:Nat.ble n 4000 with
 | false=>rw [hb] at h;cases h
 | true =>
  rw [hb] at h
  cases h
  have:=Nat.le_of_ble_eq_true hb
  funext k
  rw [get_setT 12 t n v (by omega) k]
  rfl
noncomputable def putTO (t:T) (d:Option Nat) (v:AV):Option T:=match d with
 | some d=>putT t d v
 | none=>some t
theorem putTO_some {t t':T} {d:Option Nat} {v:AV} (h:putTO t d v=some t'):getT t'=putO (getT t) d v:=by
 cases d with
 | none=>cases h;rfl
 | some d=>exact putT_some h

noncomputable def runL (ct:CT) (nk:Bool):List MS→T→Store→Option (T × Store)
 | [],e,s=>some (e,s)
 | m :: r,e,s=>match m.g with
  | none=>match runOp ct nk (m.d.getD 0) m.o (getT e) s with
   | none=>none
   | some (v,t)=>match putTO e m.d v with
    | none=>none
    | some e1=>runL ct nk r e1 t
  | some (n,w)=>match getT e n with
   | .bool b=>if b=w then (match runOp ct nk (m.d.getD 0) m.o (getT e) s with
     | none=>none
     | some (v,t)=>match putTO e m.d v with
      | none=>none
      | some e1=>runL ct nk r e1 t)
    else (match putTO e m.d (.tup []) with
     | none=>none
     | some e1=>runL ct nk r e1 s)
   | .tup []=>(match putTO e m.d (.tup []) with
     | none=>none
     | some e1=>runL ct nk r e1 s)
   | _=>none

noncomputable def disj (T T':List Nat):Bool:=T.all fun k=>!(T'.contains k)
noncomputable def confB (conf:List (MS × MS)) (e:Env):Bool:=conf.all fun p=>(isCall p.1.o && newOp p.2.o) || (match tkM p.1 e,tkM p.2 e with
 | some T,some T'=>disj T T'
 | _,_=>false)

def CT.ok (P:Program) (ct:CT):Prop:=(∀ f a v,ct.v f a=some v→Sound P f a v)∧∀ f a q,ct.o f a=some q→SoundO P f a q.1 q.2.1 q.2.2
theorem isNone_t {α:Type} {x:Option α} (h:isNone x=true):x=none:=by cases x with
 | none=>rfl
 | some _=>cases h
theorem isNone_f {α:Type} {x:Option α} (h:(!isNone x)=true):x ≠ none:=by cases x with
 | none=>cases h
 | some _=>simp

section
variable {P:Program} {ct:CT} (hct:ct.ok P)
include hct

theorem runCall_some {nk:Bool} {d:Nat} {f:FuncId} {vs:List AV} {s:Store} {v:AV} {t:Store} (h:runCall ct nk d f vs s=some (v,t)) {K:AV→Store→Prop} (hk:K v t) :
  callP P nk d f (vs.map (bor s 5)) (refsL s 5 vs) vs s K:=by
 unfold runCall at h
 split at h
 ·rename_i ty sz es ho
  cases nk with
  | true=>cases ho
  | false =>
   cases hn:isNone (s d) with
   | false=>rw [hn] at h;cases h
   | true =>
    rw [hn] at h
    cases h
    exact .inr (.inl ⟨rfl,ty,sz,es,hct.2 _ _ _ ho,isNone_t hn,hk⟩)
 ·split at h
  ·cases h
  ·rename_i u hu
   cases hc:(nk && !((refsL s 5 vs).all fun k=>!isNone (s k))) with
   | true=>rw [hc] at h;cases h
   | false =>
    rw [hc] at h
    simp only [cond_false] at h
    refine .inl ⟨u,hct.1 _ _ _ hu,fun hnk k hkk=>?_,?_⟩
    ·subst hnk
     simp only [Bool.true_and,Bool.not_eq_false'] at hc
     exact isNone_f (List.all_eq_true.1 hc k hkk)
    split at h
    ·rename_i hs;cases h;rw [if_pos hs];exact hk
    ·rename_i hs
     rw [if_neg hs]
     split at h
     ·rename_i hn
      rw [if_pos hn]
      split at h
      ·rename_i he;cases h;exact ⟨List.isEmpty_iff.1 he,hk⟩
      ·cases h
     ·rename_i hn;cases h;rw [if_neg hn];exact hk

theorem runOp_some {nk:Bool} {d:Nat} {o:MOp} {e:Env} {s:Store} {v:AV} {t:Store} (h:runOp ct nk d o e s=some (v,t)) {K:AV→Store→Prop} (hk:K v t):vcOp P nk d o e s K:=by
 cases o with
 | call f xs=>exact runCall_some hct h hk
 | callv x xs =>
  simp only [runOp] at h
  simp only [vcOp]
  split at h
  ·rename_i f caps hx
   rw [hx]
   exact runCall_some hct h hk
  ·cases h
 | bin op x y=>exact ⟨v,t,by rw [← binD_eq];exact h,hk⟩
 | _=>exact ⟨v,t,by rw [← exD_eq];exact h,hk⟩

theorem runL_some {nk:Bool}:∀ {ss:List MS} {e:T} {s:Store} {e':T} {s':Store},runL ct nk ss e s=some (e',s')→∀ {K:Env→Store→Prop},K (getT e') s'→vcL P nk ss (getT e) s K
 | [],e,s,e',s',h,K,hk=>by
  simp only [runL,Option.some.injEq,Prod.mk.injEq] at h
  obtain ⟨rfl,rfl⟩:=h;exact hk
 | m :: r,e,s,e',s',h,K,hk=>by
  simp only [runL] at h
  simp only [vcL]
  split at h
  ·rename_i hg
   rw [hg]
   split at h
   ·cases h
   ·rename_i v t hv
    split at h
    ·cases h
    ·rename_i e1 he1
     refine runOp_some hct hv (K:=fun v t=>vcL P nk r (putO (getT e) m.d v) t K) ?_
     rw [← putTO_some he1]
     exact runL_some h hk
  ·rename_i n w hg
   rw [hg]
   simp only
   split at h
   ·rename_i b hb
    rw [hb]
    simp only
    split at h
    ·rename_i hbw
     split at h
     ·cases h
     ·rename_i v t hv
      split at h
      ·cases h
      ·rename_i e1 he1
       rw [upd_self (getT e) n (.bool w) (by rw [hb,hbw])]
       refine ⟨fun _=>runOp_some hct hv (K:=fun v t=>vcL P nk r (putO (getT e) m.d v) t K) ?_,fun h2=>by subst hbw;cases b <;> cases h2⟩
       rw [← putTO_some he1]
       exact runL_some h hk
    ·rename_i hbw
     split at h
     ·cases h
     ·rename_i e1 he1
      refine ⟨fun h2=>absurd h2 hbw,fun h2=>?_⟩
      rw [upd_self (getT e) n (.bool (!w)) (by rw [hb,h2]),← putTO_some he1]
      exact runL_some h hk
   ·rename_i hb
    rw [hb]
    split at h
    ·cases h
    ·rename_i e1 he1
     simp only
     rw [← putTO_some he1]
     exact runL_some h hk
   ·cases h
end

theorem confB_ok {conf:List (MS × MS)} {e:Env} (h:confB conf e=true):confOk conf e:=by
 intro p hp
 have:=List.all_eq_true.1 h p hp
 rcases Bool.or_eq_true_iff.1 this with hn | this
 ·exact .inl (by simpa using hn)
 split at this
 ·rename_i T T' h1 h2
  refine .inr ⟨T,T',h1,h2,fun k hk=>?_⟩
  have:=List.all_eq_true.1 this k hk
  simpa using this
 ·cases this

end Go.Av

/- Whole code run at known values;that what it comes to is what the code does. By an AI agent;nothing here is trusted. -/
namespace Go.Av

def rn1 (g:Nat→Option Nat) (x:AV):AV:=match x with
 | .buf k len=>match g k with
  | some k'=>.buf k' len
  | none=>.undef
 | .ptr k i o=>match g k with
  | some k'=>.ptr k' i o
  | none=>.undef
 | x=>if imm x then x else .undef
def rnV (g:Nat→Option Nat) (x:AV):AV:=match x with
 | .agg cs=>if immL cs then .agg cs else .agg (cs.map (rn1 g))
 | x=>rn1 g x
def rnBlk (g:Nat→Option Nat) (B:Blk):Blk:=⟨B.ty,B.sz,B.es.map (rnV g)⟩

section
variable {s s':Store} {f g:Nat→Option Nat} (hg:∀ k k',g k=some k'→f k'=some k)
include hg
theorem rn1_rn (x:AV):Rn s s' f x (rn1 g x):=by
  cases x <;> simp only [rn1] <;> first
    | (split
       · rename_i k' hk;first | exact .buf _ _ _ (hg _ _ hk) | exact .ptr _ _ _ _ (hg _ _ hk)
       · exact .undef _)
    | (split
       · rename_i hi;exact .imm _ hi
       · exact .undef _)
theorem rnV_rn (x:AV):Rn s s' f x (rnV g x):=by
 cases x <;> first
  | exact rn1_rn hg _
  | skip
 rename_i cs
 simp only [rnV]
 split
 ·rename_i hi;exact .imm _ hi
 ·refine .agg _ _ (by simp) fun i c c' h1 h2=>?_
  rw [List.getElem?_map,h1] at h2
  cases h2
  exact rn1_rn hg c
theorem rnBlk_rn {B:Blk} (hc:∀ x ∈ (rnBlk g B).es,cellsOk x):RnB s s' f B (rnBlk g B):=by
 refine ⟨rfl,rfl,by simp [rnBlk],fun i x x' h1 h2=>?_⟩
 have h2':=h2
 simp only [rnBlk] at h2
 rw [List.getElem?_map,h1] at h2
 cases h2
 have hok:=hc _ (List.mem_of_getElem? h2')
 have hn1:∀ y:AV,(∀ cs,y ≠ .agg cs)→cellsOf y=[y]∧(∀ cs,rn1 g y ≠ .agg cs):=by
  intro y hy
  refine ⟨by cases y <;> first | rfl | exact absurd rfl (hy _),fun cs=>?_⟩
  cases y <;> simp only [rn1] <;> first
   | exact absurd rfl (hy _)
   | (split <;> (intro h;cases h))
 have hone:∀ y:AV,(∀ cs,y ≠ .agg cs)→cellsOf y=[y]:=fun y hy=>(hn1 y hy).1
 by_cases hx:∃ cs,x=.agg cs
 ·obtain ⟨cs,rfl⟩:=hx
  refine ⟨?_,hok,fun o c c' h3 h4=>?_⟩
  ·simp only [rnV];split <;> simp [cellsOf]
  ·simp only [rnV] at h4
   split at h4
   ·rename_i hi
    simp only [cellsOf] at h3 h4
    rw [h3] at h4;cases h4
    exact .imm _ (imm_cell hi c (List.mem_of_getElem? h3))
   ·simp only [cellsOf] at h3 h4
    rw [List.getElem?_map,h3] at h4
    cases h4
    exact rn1_rn hg c
 ·have hx':∀ cs,x ≠ .agg cs:=fun cs h=>hx ⟨cs,h⟩
  have e1:=hone x hx'
  have e2:rnV g x=rn1 g x:=by cases x <;> first | rfl | exact absurd rfl (hx' _)
  have e3:=hone (rn1 g x) (hn1 x hx').2
  rw [e2] at hok ⊢
  refine ⟨by rw [e1,e3];rfl,hok,fun o c c' h3 h4=>?_⟩
  rw [e1] at h3;rw [e3] at h4
  cases o with
  | zero=>simp at h3 h4;subst h3;subst h4;exact rn1_rn hg x
  | succ o=>simp at h3
end

theorem weak_tm {e e':Env} {s:Store} (m:List (Nat × Option Nat × Blk)) (hd:(m.map (·.1)).Nodup) (hd':(m.filterMap (·.2.1)).Nodup)
  (hm:∀ p ∈ m,match p.2.1 with
   | some k=>∃ B,s k=some (some B)∧RnB s (stOf (m.map fun p=>(p.1,p.2.2))) (keyOf m) B p.2.2
   | none=>p.2.2.es=[]∧0<p.2.2.sz)
  (hl:∀ n,Rn s (stOf (m.map fun p=>(p.1,p.2.2))) (keyOf m) (e n) (e' n)):Weak (e,s) (e',stOf (m.map fun p=>(p.1,p.2.2))):=by
 have hst:∀ (m:List (Nat × Option Nat × Blk)),(m.map (·.1)).Nodup→∀ k',(stOf (m.map fun p=>(p.1,p.2.2)) k'=none∧keyOf m k'=none)∨∃ p ∈ m,p.1=k'∧stOf (m.map fun p=>(p.1,p.2.2)) k'=some (some p.2.2)∧keyOf m k'=p.2.1:=by
  intro m hn k'
  induction m with
  | nil=>exact .inl ⟨rfl,rfl⟩
  | cons p m ih =>
   obtain ⟨k,o,K⟩:=p
   simp only [List.map_cons,List.nodup_cons] at hn
   simp only [List.map_cons,stOf,keyOf]
   by_cases hk:k'=k
   ·subst hk;exact .inr ⟨_,List.mem_cons_self,rfl,upd_same _ _ _,by simp⟩
   ·rw [upd_other _ _ _ _ hk,if_neg hk]
    rcases ih hn.2 with h | ⟨p,h1,h2⟩
    ·exact .inl h
    ·exact .inr ⟨p,List.mem_cons_of_mem _ h1,h2⟩
 refine weak_rn (keyOf m) ?_ ?_ ?_ hl
 ·intro k1 k2 k h1 h2
  have key:∀ (m:List (Nat × Option Nat × Blk)),(m.filterMap (·.2.1)).Nodup→keyOf m k1=some k→keyOf m k2=some k→k1=k2:=by
   intro m hn h1 h2
   have hmem:∀ (m:List (Nat × Option Nat × Blk)) j,keyOf m j=some k→k ∈ m.filterMap (·.2.1):=by
    intro m j hj
    induction m with
    | nil=>cases hj
    | cons p m ih =>
     obtain ⟨k',o,K⟩:=p
     simp only [keyOf] at hj
     split at hj
     ·subst hj;simp
     ·have:=ih hj
      cases o <;> simp [this]
   induction m with
   | nil=>cases h1
   | cons p m ih =>
    obtain ⟨k',o,K⟩:=p
    simp only [keyOf] at h1 h2
    by_cases e1:k1=k' <;> by_cases e2:k2=k'
    ·rw [e1,e2]
    ·rw [if_pos e1] at h1;rw [if_neg e2] at h2
     subst h1
     simp only [List.filterMap_cons] at hn
     exact absurd (hmem m k2 h2) (List.nodup_cons.1 hn).1
    ·rw [if_neg e1] at h1;rw [if_pos e2] at h2
     subst h2
     simp only [List.filterMap_cons] at hn
     exact absurd (hmem m k1 h1) (List.nodup_cons.1 hn).1
    ·rw [if_neg e1] at h1;rw [if_neg e2] at h2
     refine ih ?_ h1 h2
     cases o with
     | none=>simpa using hn
     | some q=>simp only [List.filterMap_cons] at hn;exact (List.nodup_cons.1 hn).2
  exact key m hd' h1 h2
 ·intro k'
  rcases hst m hd k' with ⟨h,_⟩ | ⟨p,h1,h2,h3,h4⟩
  ·exact .inl h
  ·refine .inr ⟨p.2.2,h3,?_⟩
   have:=hm p h1
   rw [h4]
   split at this
   ·rename_i k hk
    obtain ⟨K,g1,g2⟩:=this
    exact .inl ⟨k,K,hk,g1,g2⟩
   ·rename_i hk
    exact .inr ⟨hk,this⟩
 ·intro k' k hk
  rcases hst m hd k' with ⟨_,h⟩ | ⟨p,h1,h2,h3,h4⟩
  ·rw [h] at hk;cases hk
  ·rw [h3];simp

def keys1:AV→List Nat
 | .buf k _=>[k]
 | .ptr k _ _=>[k]
 | _=>[]
def keysV:AV→List Nat
 | .agg cs=>cs.flatMap keys1
 | x=>keys1 x
def keysB (B:Blk):List Nat:=B.es.flatMap keysV
def addKeys (acc:List Nat):List Nat→List Nat
 | []=>acc
 | k :: l=>addKeys (if acc.contains k then acc else acc ++ [k]) l
def reach (s:Store):Nat→List Nat→List Nat
 | 0,ks=>ks
 | n+1,ks=>reach s n (addKeys ks (ks.flatMap fun k=>match s k with
  | some (some B)=>keysB B
  | _=>[]))
def liveOf (s:Store) (ks:List Nat):List (Nat × Blk):=ks.filterMap fun k=>match s k with
 | some (some B)=>some (k,B)
 | _=>none
def lookN (m:List (Nat × Nat)) (k:Nat):Option Nat:=match m with
 | []=>none
 | (a,b) :: r=>if k=a then some b else lookN r k
def tab (base:Nat):List (Nat × Blk)→List (Nat × Nat)
 | []=>[]
 | (k,_) :: r=>(k,base) :: tab (base+1) r
def mOf (g:Nat→Option Nat):List (Nat × Blk)→List (Nat × Option Nat × Blk)
 | []=>[]
 | (k,B) :: r=>match g k with
  | some k'=>(k',some k,rnBlk g B) :: mOf g r
  | none=>mOf g r

theorem mOf_mem {g:Nat→Option Nat}:∀ {l:List (Nat × Blk)} {p:Nat × Option Nat × Blk},p ∈ mOf g l→∃ k B,(k,B) ∈ l∧g k=some p.1∧p.2.1=some k∧p.2.2=rnBlk g B
 | [],p,h=>by cases h
 | (k,B) :: r,p,h=>by
  simp only [mOf] at h
  split at h
  ·rename_i k' hk
   rcases List.mem_cons.1 h with rfl | h
   ·exact ⟨k,B,List.mem_cons_self,hk,rfl,rfl⟩
   ·obtain ⟨k2,B2,h1,h2⟩:=mOf_mem h
    exact ⟨k2,B2,List.mem_cons_of_mem _ h1,h2⟩
  ·obtain ⟨k2,B2,h1,h2⟩:=mOf_mem h
   exact ⟨k2,B2,List.mem_cons_of_mem _ h1,h2⟩

def tabOk (g:Nat→Option Nat) (l:List (Nat × Blk)) (gl:List (Nat × Nat)):Bool :=
 decide ((mOf g l).map (·.1)).Nodup && decide ((mOf g l).filterMap (·.2.1)).Nodup && (mOf g l).all (fun p=>p.2.2.es.all fun x=>(cellsOf x).all cell) && gl.all fun p=>decide (keyOf (mOf g l) p.2=some p.1)

theorem liveOf_mem {s:Store} {ks:List Nat} {k:Nat} {B:Blk} (h:(k,B) ∈ liveOf s ks):s k=some (some B):=by
 unfold liveOf at h
 obtain ⟨k',_,h2⟩:=List.mem_filterMap.1 h
 split at h2
 ·rename_i B' hB;cases h2;exact hB
 ·cases h2

theorem lookN_mem:∀ {m:List (Nat × Nat)} {k k':Nat},lookN m k=some k'→(k,k') ∈ m
 | [],_,_,h=>by cases h
 | (a,b) :: r,k,k',h=>by
  simp only [lookN] at h
  split at h
  ·rename_i hk;cases h;subst hk;exact List.mem_cons_self
  ·exact List.mem_cons_of_mem _ (lookN_mem h)

theorem weak_tab {e e':Env} {s:Store} {ks:List Nat} {gl:List (Nat × Nat)} (h:tabOk (lookN gl) (liveOf s ks) gl=true) (he:(∀ k k',lookN gl k=some k'→keyOf (mOf (lookN gl) (liveOf s ks)) k'=some k) →
  ∀ n,Rn s (stOf ((mOf (lookN gl) (liveOf s ks)).map fun p=>(p.1,p.2.2))) (keyOf (mOf (lookN gl) (liveOf s ks))) (e n) (e' n)) :
  Weak (e,s) (e',stOf ((mOf (lookN gl) (liveOf s ks)).map fun p=>(p.1,p.2.2))):=by
 simp only [tabOk,Bool.and_eq_true,decide_eq_true_eq] at h
 obtain ⟨⟨⟨h1,h2⟩,h3⟩,h4⟩:=h
 have hg:∀ k k',lookN gl k=some k'→keyOf (mOf (lookN gl) (liveOf s ks)) k'=some k:=fun k k' hk=>by
  have:=List.all_eq_true.1 h4 (k,k') (lookN_mem hk)
  simpa using this
 refine weak_tm _ h1 h2 (fun p hp=>?_) (he hg)
 obtain ⟨k,B,g1,g2,g3,g4⟩:=mOf_mem hp
 rw [g3]
 refine ⟨B,liveOf_mem g1,?_⟩
 have:=List.all_eq_true.1 h3 p hp
 rw [g4] at this ⊢
 refine rnBlk_rn hg fun x hx=>?_
 have:=List.all_eq_true.1 this x hx
 exact List.all_eq_true.1 this

noncomputable def mapT (f:AV→AV) (t:T):T:=T.rec (motive:=fun _=>T) .leaf (fun _ v _ l r=>.node l (f v) r) t
noncomputable def allT (p:AV→Bool) (t:T):Bool:=T.rec (motive:=fun _=>Bool) true (fun _ v _ l r=>p v && (l && r)) t
noncomputable def keysT (t:T):List Nat:=T.rec (motive:=fun _=>List Nat) [] (fun _ v _ l r=>keysV v ++ (l ++ r)) t
theorem get_mapT {f:AV→AV} (hf:f .undef=.undef):∀ (t:T) (n:Nat),getT (mapT f t) n=f (getT t n):=by
 intro t
 induction t with
 | leaf=>intro n;exact hf.symm
 | node l v r ihl ihr =>
  intro n
  cases n with
  | zero=>rfl
  | succ m =>
   show getT (.node (mapT f l) (f v) (mapT f r)) (m+1)=f (getT (.node l v r) (m+1))
   rw [getT_succ,getT_succ]
   cases Nat.beq (m % 2) 0
   ·exact ihr _
   ·exact ihl _
theorem get_allT {p:AV→Bool} (hp:p .undef=true):∀ (t:T),allT p t=true→∀ n,p (getT t n)=true:=by
 intro t
 induction t with
 | leaf=>intro _ n;exact hp
 | node l v r ihl ihr =>
  intro h n
  have h':(p v && (allT p l && allT p r))=true:=h
  simp only [Bool.and_eq_true] at h'
  cases n with
  | zero=>exact h'.1
  | succ m =>
   rw [getT_succ]
   cases Nat.beq (m % 2) 0
   ·exact ihr h'.2.2 _
   ·exact ihl h'.2.1 _

structure St where
 e:T
 s:Store
 ks:List Nat

def isLow (N:Nat) (s:Store) (k:Nat):Bool:=Nat.blt k N && (match s k with
 | some _=>true
 | none=>false)
noncomputable def nrm (N:Nat) (q:St):Option St :=
  cond (q.ks.any (isLow N q.s))
    (let l:=liveOf q.s (reach q.s 4 (addKeys [] (keysT q.e)))
     let gl:=tab N l
     cond (tabOk (lookN gl) l gl) (some ⟨mapT (rnV (lookN gl)) q.e,stOf ((mOf (lookN gl) l).map fun p=>(p.1,p.2.2)),gl.map (·.2)⟩) none)
    (some q)

theorem nrm_weak {N:Nat} {q q':St} (h:nrm N q=some q'):Weak (getT q.e,q.s) (getT q'.e,q'.s):=by
 unfold nrm at h
 cases hc:q.ks.any (isLow N q.s) with
 | false=>rw [hc] at h;cases h;exact Weak.refl _
 | true =>
  rw [hc] at h
  simp only [cond_true] at h
  generalize hl:liveOf q.s (reach q.s 4 (addKeys [] (keysT q.e)))=l at h
  cases ht:tabOk (lookN (tab N l)) l (tab N l) with
  | false=>rw [ht] at h;cases h
  | true =>
   rw [ht] at h
   simp only [cond_true,Option.some.injEq] at h
   subst h
   subst hl
   exact weak_tab ht fun hg n=>by
    simp only
    rw [get_mapT rfl]
    exact rnV_rn hg _

def idTab (N top:Nat):List (Nat × Blk)→List (Nat × Nat)
 | []=>[]
 | (k,_) :: r=>if N≤k then (k,k) :: idTab N top r else (k,top) :: idTab N (top+1) r
def keyMax (N:Nat):List (Nat × Blk)→Nat
 | []=>N
 | (k,_) :: r=>max (k+1) (keyMax N r)
def keepV (g:Nat→Option Nat):AV→Bool
 | .buf k _=>decide (g k=some k)
 | .ptr k _ _=>decide (g k=some k)
 | x=>imm x
theorem keepV_rn {s s':Store} {f g:Nat→Option Nat} (hg:∀ k k',g k=some k'→f k'=some k) {x:AV} (h:keepV g x=true):Rn s s' f x x:=by
 cases x <;> simp only [keepV,decide_eq_true_eq] at h <;> first
  | exact .imm _ h
  | exact .buf _ _ _ (hg _ _ h)
  | exact .ptr _ _ _ _ (hg _ _ h)
noncomputable def cln (N:Nat) (e:T) (q:St):Option (Store × List Nat) :=
  cond (q.ks.any (isLow N q.s))
    (let l:=liveOf q.s (reach q.s 4 (addKeys [] (keysT e)))
     let gl:=idTab N (keyMax N l) l
     cond (tabOk (lookN gl) l gl && allT (keepV (lookN gl)) e) (some (stOf ((mOf (lookN gl) l).map fun p=>(p.1,p.2.2)),gl.map (·.2))) none)
    (some (q.s,q.ks))
def noBuf (q:Store):AV→AV
 | .buf _ _=>.undef
 | .ptr k i o=>(match q k with
  | some (some _)=>.ptr k i o
  | _=>.undef)
 | x=>x
theorem noBuf_weak (q:Store) (e:T) (s:Store):Weak (getT e,s) (getT (mapT (noBuf q) e),s):=by
  intro N' B w0 ok0 ok ρ a w h0 hR
  refine ⟨ok,ρ,fun _ h=>h,?_⟩
  have hv:∀ n,getT (mapT (noBuf q) e) n=.undef∨getT (mapT (noBuf q) e) n=getT e n:=by
    intro n
    rw [get_mapT rfl]
    cases getT e n <;> first
      | exact .inl rfl
      | exact .inr rfl
      | (rename_i k i o
         simp only [noBuf]
         split
         · exact .inr rfl
         · exact .inl rfl)
  constructor
  · exact hR.defers
  · exact hR.size
  · exact hR.below
  · exact hR.base
  · intro n
    rcases hv n with h | h
    · simp only;rw [h];exact .undef _
    · simp only;rw [h];exact hR.tmps n
  · exact hR.oklt
  · exact hR.okold
  · exact hR.live
  · exact hR.inj
  · exact hR.kept
  · exact hR.goes
  · exact hR.gok
theorem cln_weak {N:Nat} {e:T} {q:St} {p:Store × List Nat} (h:cln N e q=some p):Weak (getT e,q.s) (getT e,p.1):=by
 unfold cln at h
 cases hc:q.ks.any (isLow N q.s) with
 | false=>rw [hc] at h;cases h;exact Weak.refl _
 | true =>
  rw [hc] at h
  simp only [cond_true] at h
  generalize hl:liveOf q.s (reach q.s 4 (addKeys [] (keysT e)))=l at h
  cases ht:(tabOk (lookN (idTab N (keyMax N l) l)) l (idTab N (keyMax N l) l) && allT (keepV (lookN (idTab N (keyMax N l) l))) e) with
  | false=>rw [ht] at h;cases h
  | true =>
   rw [ht] at h
   simp only [cond_true,Option.some.injEq] at h
   subst h
   subst hl
   simp only [Bool.and_eq_true] at ht
   exact weak_tab ht.1 fun hg n=>keepV_rn hg (get_allT rfl _ ht.2 n)

abbrev RunR:=Option (Exit × St)
noncomputable def loopF (N:Nat) (f:St→RunR):Nat→St→RunR
 | 0,_=>none
 | n+1,q=>match nrm N q with
  | none=>none
  | some q1=>match f q1 with
   | some (.normal,q2)=>loopF N f n q2
   | r=>r

noncomputable def updTL (e:T):List Nat→List AV→Option T
 | p :: ps,v :: vs=>match putT e p v with
  | some e1=>updTL e1 ps vs
  | none=>none
 | _,_=>some e
theorem updTL_some:∀ {ps:List Nat} {vs:List AV} {e e':T},updTL e ps vs=some e'→getT e'=updL (getT e) ps vs
 | [],vs,e,e',h=>by cases h;cases vs <;> rfl
 | p :: ps,[],e,e',h=>by cases h;rfl
 | p :: ps,v :: vs,e,e',h=>by
  simp only [updTL] at h
  split at h
  ·rename_i e1 h1
   rw [updTL_some h,putT_some h1];rfl
  ·cases h

noncomputable def roundF (N:Nat) (fa fb:St→RunR) (e:T) (ps:List Nat) (x:List AV) (p:Store × List Nat):Option (Exit × Store × List Nat) :=
 match updTL e ps x with
 | none=>none
 | some e0=>match fa ⟨e0,p.1,p.2⟩ with
  | some (.normal,q1)=>match fb q1 with
   | some (.normal,q2)=>match cln N e q2 with
    | some p3=>some (.normal,p3.1,p3.2)
    | none=>none
   | some (.ret,q2)=>some (.ret,q2.s,q2.ks)
   | some (.exit id,q2)=>some (.exit id,q2.s,q2.ks)
   | _=>none
  | _=>none
noncomputable def rfF (N:Nat) (fa fb:St→RunR) (e:T) (ps:List Nat):List (List AV)→Store × List Nat→RunR
 | [],p=>some (.normal,⟨e,p.1,p.2⟩)
 | x :: xs,p=>match roundF N fa fb e ps x p with
  | some (.normal,p1)=>rfF N fa fb e ps xs p1
  | some (ex,p2)=>some (ex,⟨e,p2.1,p2.2⟩)
  | none=>none

def dests (ss:List MS):List Nat:=ss.filterMap fun m=>if allocs m.o || isCall m.o then m.d else none
noncomputable def runM (ct:CT) (it:IterT) (N fuel:Nat):MC→St→RunR
 | .skip,q=>some (.normal,q)
 | .reg ss draw conf,q=>match runL ct draw ss q.e q.s with
  | none=>none
  | some (e1,s1)=>if confB conf (getT e1) then some (.normal,⟨e1,s1,addKeys q.ks (dests ss)⟩) else none
 | .seq a b,q=>match runM ct it N fuel a q with
  | some (.normal,q1)=>runM ct it N fuel b q1
  | r=>r
 | .cond x a b,q=>match x.ev (getT q.e) with
  | .bool true=>runM ct it N fuel a q
  | .bool false=>runM ct it N fuel b q
  | _=>none
 | .block id a,q=>match runM ct it N fuel a q with
  | some (.exit id',q1)=>if id'=id then some (.normal,q1) else some (.exit id',q1)
  | r=>r
 | .loop a,q=>loopF N (runM ct it N fuel a) fuel q
 | .exit id,q=>some (.exit id,q)
 | .ret,q=>some (.ret,q)
 | .rf x ps a b,q=>match nrm N q with
  | none=>none
  | some q1=>match x.ev (getT (mapT (noBuf q1.s) q1.e)) with
   | .fn g caps=>if caps.all imm && a.flat && b.flat then (match it g caps with
    | some xs=>if xs.all (fun y=>decide (y.length=ps.length)) then rfF N (runM ct it N fuel a) (runM ct it N fuel b) (mapT (noBuf q1.s) q1.e) ps xs (q1.s,q1.ks) else none
    | none=>none) else none
   | _=>none

def badS:Store:=fun _=>some (some ⟨0,0,[]⟩)
theorem not_sat {e:Env}:¬ Sat e badS:=by
 rintro ⟨N,B,w0,ok0,ok,ρ,a,w,hR⟩
 have:=(hR.live 0 ⟨0,0,[]⟩ rfl).1
 exact absurd this (by decide)
theorem AWM_bad {P:Program} {N:Nat} {m:MC} {Q:Exit→Env→Store→Prop} {e:Env}:AWM P N m Q e badS:=by
 intro c hc ro rm B w0 ok0 ok ρ a w hfl hR
 exact absurd ⟨_,_,_,_,_,_,_,_,hR⟩ (not_sat (e:=e))

noncomputable def followF (N:Nat) (fa fb:St→RunR) (e:T) (ps:List Nat):List (List AV)→Store × List Nat→Option (Store × List Nat)
 | [],p=>some p
 | x :: xs,p=>match roundF N fa fb e ps x p with
  | some (.normal,p1)=>followF N fa fb e ps xs p1
  | _=>none
theorem follow_app {N:Nat} {fa fb:St→RunR} {e:T} {ps:List Nat}:∀ {pre ys:List (List AV)} {p:Store × List Nat},followF N fa fb e ps (pre ++ ys) p=(followF N fa fb e ps pre p).bind (followF N fa fb e ps ys)
 | [],_,_=>rfl
 | x :: pre,ys,p=>by
  simp only [List.cons_append,followF]
  split
  ·exact follow_app
  ·rfl
theorem rfF_app {N:Nat} {fa fb:St→RunR} {e:T} {ps:List Nat}:∀ {pre ys:List (List AV)} {p p1:Store × List Nat},followF N fa fb e ps pre p=some p1→rfF N fa fb e ps (pre ++ ys) p=rfF N fa fb e ps ys p1
 | [],_,_,_,h=>by cases h;rfl
 | x :: pre,ys,p,p1,h=>by
  simp only [followF] at h
  split at h
  ·rename_i p2 h2
   simp only [List.cons_append,rfF,h2]
   exact rfF_app h
  ·cases h
noncomputable def stO (o:Option (Store × List Nat)):Store:=match o with
 | some p=>p.1
 | none=>badS

section
variable {P:Program} {ct:CT} {it:IterT} (hct:ct.ok P) (hit:∀ g caps xs,it g caps=some xs→SeqA P g caps xs)
include hct hit

theorem runM_some {N fuel:Nat}:∀ {m:MC} {q:St} {x:Exit} {q':St},runM ct it N fuel m q=some (x,q')→∀ {Q:Exit→Env→Store→Prop},Q x (getT q'.e) q'.s→AWM P N m Q (getT q.e) q.s:=by
 intro m
 induction m with
 | skip=>intro q x q' h Q hq;cases h;exact M_skip (t:=.mk) hq
 | reg ss draw conf =>
  intro q x q' h Q hq
  simp only [runM] at h
  split at h
  ·cases h
  ·rename_i e1 s1 h1
   split at h
   ·rename_i hc
    cases h
    exact vcM_sound _ (runL_some hct h1 ⟨confB_ok hc,hq⟩)
   ·cases h
 | seq a b iha ihb =>
  intro q x q' h Q hq
  simp only [runM] at h
  split at h
  ·rename_i q1 h1
   exact M_seq (t:=.mk) (iha h1 (Q:=seqQ (fun e s=>M P N b Q e s .mk) Q .mk) (ihb h hq))
  ·rename_i hn
   refine M_seq (t:=.mk) (iha h (Q:=seqQ (fun e s=>M P N b Q e s .mk) Q .mk) ?_)
   cases x with
   | normal=>exact absurd h (hn _)
   | _=>exact hq
 | cond y a b iha ihb =>
  intro q x q' h Q hq
  simp only [runM] at h
  split at h
  ·rename_i hy
   refine M_cond (t:=.mk) ?_
   rw [hy]
   exact ⟨fun _=>iha h hq,(fun h2=>by cases h2)⟩
  ·rename_i hy
   refine M_cond (t:=.mk) ?_
   rw [hy]
   exact ⟨(fun h2=>by cases h2),fun _=>ihb h hq⟩
  ·cases h
 | block id a iha =>
  intro q x q' h Q hq
  simp only [runM] at h
  split at h
  ·rename_i id' q1 h1
   refine M_block (t:=.mk) (iha h1 (Q:=blockQ id Q .mk) ?_)
   simp only [blockQ]
   split at h
   ·rename_i hid;cases h;rw [if_pos hid];exact hq
   ·rename_i hid;cases h;rw [if_neg hid];exact hq
  ·rename_i hn
   refine M_block (t:=.mk) (iha h (Q:=blockQ id Q .mk) ?_)
   cases x with
   | exit id'=>exact absurd h (hn _ _)
   | _=>exact hq
 | loop a iha =>
  intro q x q' h Q hq
  simp only [runM] at h
  obtain ⟨f,hf⟩:∃ f,f=runM ct it N fuel a:=⟨_,rfl⟩
  rw [← hf] at h
  have hstart:∀ {n:Nat} {q:St},loopF N f n q=some (x,q')→∃ q1,nrm N q=some q1∧∃ k,n=k+1:=by
   intro n q h
   cases n with
   | zero=>cases h
   | succ n =>
    simp only [loopF] at h
    split at h
    ·cases h
    ·rename_i q1 h1;exact ⟨_,h1,n,rfl⟩
  have h00:=h
  obtain ⟨q0,hq0,_⟩:=hstart h
  have hpair:∀ {q0 q1:St},nrm N q0=some q1→((nrm N q0).map fun q=>(getT q.e,q.s)).getD (getT q0.e,q0.s)=(getT q1.e,q1.s):=fun h=>by rw [h];rfl
  refine AWM.loop (α:={ p:Nat × St // loopF N f p.1 p.2=some (x,q') }) (fun p=>((nrm N p.1.2).map fun q=>(getT q.e,q.s)).getD (getT p.1.2.e,p.1.2.s)) (fun p=>p.1.1) ⟨(fuel,q),h00⟩ ?_ ?_
  ·simp only
   rw [hpair hq0];exact nrm_weak hq0
  ·rintro ⟨⟨n,p0⟩,hp⟩
   simp only at hp ⊢
   obtain ⟨q1,hq1,k,rfl⟩:=hstart hp
   simp only [loopF,hq1] at hp
   rw [hpair hq1]
   split at hp
   ·rename_i q2 h2
    rw [hf] at h2
    refine iha h2 ?_
    obtain ⟨q3,hq3,_⟩:=hstart hp
    exact ⟨⟨(k,q2),hp⟩,Nat.lt_succ_self k,by simp only;rw [hpair hq3];exact nrm_weak hq3⟩
   ·rename_i hn
    rw [hf] at hp hn
    refine iha hp ?_
    cases x with
    | normal=>exact absurd hp (hn _)
    | _=>exact hq
 | exit id=>intro q x q' h Q hq;cases h;exact M_exit (t:=.mk) hq
 | ret=>intro q x q' h Q hq;cases h;exact M_ret (t:=.mk) hq
 | rf y ps a b iha ihb =>
  intro q x q' h Q hq
  simp only [runM] at h
  split at h
  ·cases h
  rename_i q0 h0
  split at h
  ·rename_i g caps hy
   split at h
   ·rename_i hc
    simp only [Bool.and_eq_true] at hc
    split at h
    ·rename_i xs hxs
     split at h
     ·rename_i hlen
      refine AWM.weak rfl ((nrm_weak h0).trans (noBuf_weak q0.s q0.e q0.s)) ?_
      simp only
      generalize mapT (noBuf q0.s) q0.e=e1 at *
      obtain ⟨p0,hp0⟩:∃ p0,p0=(q0.s,q0.ks):=⟨_,rfl⟩
      rw [← hp0] at h
      have hs0:q0.s=p0.1:=by rw [hp0]
      rw [hs0]
      clear hs0 hp0
      obtain ⟨fa,hfa⟩:∃ f,f=runM ct it N fuel a:=⟨_,rfl⟩
      obtain ⟨fb,hfb⟩:∃ f,f=runM ct it N fuel b:=⟨_,rfl⟩
      rw [← hfa,← hfb] at h
      refine AWM.rf hy (fun c hc'=>List.all_eq_true.1 hc.1.1 c hc') hc.1.2 hc.2 (hit _ _ _ hxs) (fun y hy'=>by simpa using List.all_eq_true.1 hlen y hy')
       (fun pre=>stO (followF N fa fb e1 ps pre p0)) (by simp only [followF,stO];exact Weak.refl _) ?_ ?_
      ·intro pre z rest hsplit
       cases hfol:followF N fa fb e1 ps pre p0 with
       | none=>simp only [stO];exact AWM_bad
       | some p1 =>
        simp only [stO]
        rw [← hsplit,rfF_app hfol] at h
        simp only [rfF] at h
        have hnext:followF N fa fb e1 ps (pre ++ [z]) p0=followF N fa fb e1 ps [z] p1:=by rw [follow_app,hfol];rfl
        rw [hnext]
        simp only [followF]
        generalize hround:roundF N fa fb e1 ps z p1=r at h
        unfold roundF at hround
        split at hround
        ·subst hround;cases h
        rename_i e0 he0
        rw [← updTL_some he0]
        split at hround
        ·rename_i q2 h2
         rw [hfa] at h2
         refine iha h2 ⟨rfl,?_⟩
         split at hround
         ·rename_i q3 h3
          rw [hfb] at h3
          refine ihb h3 ?_
          split at hround
          ·rename_i p4 hcl
           subst hround
           simp only [rfQ]
           exact cln_weak hcl
          ·subst hround;cases h
         ·rename_i q3 h3
          rw [hfb] at h3
          subst hround
          simp only [Option.some.injEq,Prod.mk.injEq] at h
          obtain ⟨rfl,rfl⟩:=h
          exact ihb h3 hq
         ·rename_i id q3 h3
          rw [hfb] at h3
          subst hround
          simp only [Option.some.injEq,Prod.mk.injEq] at h
          obtain ⟨rfl,rfl⟩:=h
          exact ihb h3 hq
         ·subst hround;cases h
        ·subst hround;cases h
      ·intro hsat
       cases hfol:followF N fa fb e1 ps xs p0 with
       | none=>rw [hfol] at hsat;exact absurd hsat not_sat
       | some p1 =>
        have:=rfF_app (ys:=[]) hfol
        rw [List.append_nil] at this
        rw [this] at h
        simp only [rfF,Option.some.injEq,Prod.mk.injEq] at h
        obtain ⟨rfl,rfl⟩:=h
        exact hq
     ·cases h
    ·cases h
   ·cases h
  ·cases h
end

noncomputable def resAD (e:Env) (s:Store):Nat × Option (Option Nat)→Option AV
 | (t,none)=>some (e t)
 | (a,some n)=>(exD 0 (.load n (.t a)) e s).map (·.1)
noncomputable def resAllD (e:Env) (s:Store):List (Nat × Option (Option Nat))→Option (List AV)
 | []=>some []
 | r :: l=>match resAD e s r,resAllD e s l with
  | some v,some vs=>some (v :: vs)
  | _,_=>none
noncomputable def resVD (e:Env) (s:Store) (l:List (Nat × Option (Option Nat))):Option AV :=
 match resAllD e s l with
 | some [v]=>some (bor s 5 v)
 | some vs=>some (.tup (vs.map (bor s 5)))
 | none=>none
theorem resAD_eq (e:Env) (s:Store) (r:Nat × Option (Option Nat)):resAD e s r=resA e s r:=by
 obtain ⟨t,o⟩:=r
 cases o with
 | none=>rfl
 | some n=>simp only [resAD,resA,exD_eq]
theorem resAllD_eq (e:Env) (s:Store):∀ l,resAllD e s l=resAll e s l
 | []=>rfl
 | r :: l=>by simp only [resAllD,resAll,resAD_eq,resAllD_eq e s l];rfl
theorem resVD_eq (e:Env) (s:Store) (l:List (Nat × Option (Option Nat))):resVD e s l=resV e s l:=by
 simp only [resVD,resV,resAllD_eq];rfl

abbrev CodeT:=FuncId→Option (Nat × Nat × MC × List (Nat × Option (Option Nat)))
noncomputable def argT (n:Nat) (t:T):List AV→Option T
 | []=>some t
 | a :: l=>match putT t n a with
  | some t1=>argT (n+1) t1 l
  | none=>none
theorem argT_some:∀ {l:List AV} {n:Nat} {t t':T},argT n t l=some t'→∀ k,getT t' k=if n≤k∧k<n+l.length then l.getD (k - n) .undef else getT t k
 | [],n,t,t',h,k=>by cases h;rw [if_neg (by simp)]
 | a :: l,n,t,t',h,k=>by
  simp only [argT] at h
  split at h
  ·rename_i t1 h1
   rw [argT_some h k,putT_some h1]
   by_cases hk:k=n
   ·subst hk
    rw [if_neg (by omega),upd_same,if_pos (by simp)]
    simp
   ·rw [upd_other _ _ _ _ hk]
    by_cases h2:n+1≤k∧k<n+1+l.length
    ·rw [if_pos h2,if_pos (by simp only [List.length_cons];omega)]
     have:k - n=(k - (n+1))+1:=by omega
     rw [this];simp
    ·rw [if_neg h2,if_neg (by simp only [List.length_cons];omega)]
  ·cases h
theorem argT_argE {l:List AV} {t:T} (h:argT 0 .leaf l=some t):getT t=argE l:=by
 funext k
 rw [argT_some h k]
 unfold argE
 by_cases hk:k<l.length
 ·rw [if_pos ⟨by omega,by omega⟩];simp
 ·rw [if_neg (by omega)]
  simp [List.getD,List.getElem?_eq_none (Nat.le_of_not_lt hk),getT_leaf]
noncomputable def runF (ct:CT) (it:IterT) (code:CodeT) (fuel:Nat) (f:FuncId) (args:List AV):Option AV :=
 match code f with
 | some (nt,_,m,rs)=>if args.length≤nt then (match argT 0 .leaf args with
  | some t=>(match runM ct it nt fuel m ⟨t,noStore,[]⟩ with
   | some (.normal,q)=>resVD (getT q.e) q.s rs
   | some (.ret,q)=>resVD (getT q.e) q.s rs
   | _=>none)
  | none=>none) else none
 | none=>none
noncomputable def ownD (e:Env) (s:Store) (rs:List (Nat × Option (Option Nat))):Option (Nat × Nat × List AV):=match rs with
 | [(t,none)]=>match e t with
  | .buf k len=>match s k with
   | some (some B)=>cond (Nat.beq B.es.length len && B.es.all imm && Nat.ble 1 B.sz) (some (B.ty,B.sz,B.es)) none
   | _=>none
  | _=>none
 | _=>none
theorem ownD_some {e:Env} {s:Store} {rs:List (Nat × Option (Option Nat))} {q:Nat × Nat × List AV} (h:ownD e s rs=some q):∃ t,rs=[(t,none)]∧ownV e s t q.1 q.2.1 q.2.2∧0<q.2.1:=by
 unfold ownD at h
 split at h
 ·rename_i t
  split at h
  ·rename_i k len hk
   split at h
   ·rename_i B hB
    cases hc:(Nat.beq B.es.length len && B.es.all imm && Nat.ble 1 B.sz) with
    | false=>rw [hc] at h;cases h
    | true =>
     rw [hc] at h
     cases h
     simp only [Bool.and_eq_true] at hc
     obtain ⟨⟨h1,h2⟩,h3⟩:=hc
     have h1:=Nat.eq_of_beq_eq_true h1
     have h3:=Nat.le_of_ble_eq_true h3
     exact ⟨t,rfl,⟨k,by rw [hk,h1],hB,h2⟩,h3⟩
   ·cases h
  ·cases h
 ·cases h
noncomputable def runFO (ct:CT) (it:IterT) (code:CodeT) (fuel:Nat) (f:FuncId) (args:List AV):Option (Nat × Nat × List AV) :=
 match code f with
 | some (nt,_,m,rs)=>if args.length≤nt then (match argT 0 .leaf args with
  | some t=>(match runM ct it nt fuel m ⟨t,noStore,[]⟩ with
   | some (.normal,q)=>ownD (getT q.e) q.s rs
   | some (.ret,q)=>ownD (getT q.e) q.s rs
   | _=>none)
  | none=>none) else none
 | none=>none
noncomputable def callX (ext:CT) (ow:FuncId→Bool) (it:IterT) (code:CodeT) (fuel:Nat):Nat→CT
 | 0=>ext
 | n+1=>⟨fun f args=>match ext.v f args with
   | some v=>some v
   | none=>runF (callX ext ow it code fuel n) it code fuel f args,
  fun f args=>cond (ow f) (match ext.o f args with
   | some v=>some v
   | none=>runFO (callX ext ow it code fuel n) it code fuel f args) none⟩

theorem callX_sound {P:Program} {ext:CT} {ow:FuncId→Bool} {it:IterT} {code:CodeT} {fuel:Nat} (hext:ext.ok P) (hit:∀ g caps xs,it g caps=some xs→SeqA P g caps xs)
  (hcode:∀ f c,code f=some c→cFun P f=some c):∀ (n:Nat),(callX ext ow it code fuel n).ok P
 | 0=>hext
 | n+1=>by
  have ih:=callX_sound (ow:=ow) (fuel:=fuel) hext hit hcode n
  refine ⟨fun f a v h=>?_,fun f a q h=>?_⟩
  ·simp only [callX] at h
   split at h
   ·rename_i u hu;cases h;exact hext.1 f a _ hu
   ·unfold runF at h
    split at h
    ·rename_i nt np m rs hc
     split at h
     ·rename_i hla
      split at h
      ·rename_i t ht
       have hte:=argT_argE ht
       split at h
       ·rename_i q hr
        rw [resVD_eq] at h
        exact sound_of (hcode _ _ hc) hla (by rw [← hte];exact runM_some ih hit hr ⟨.inl rfl,h⟩)
       ·rename_i q hr
        rw [resVD_eq] at h
        exact sound_of (hcode _ _ hc) hla (by rw [← hte];exact runM_some ih hit hr ⟨.inr rfl,h⟩)
       ·cases h
      ·cases h
     ·cases h
    ·cases h
  ·simp only [callX] at h
   cases how:ow f with
   | false=>rw [how] at h;cases h
   | true =>
    rw [how] at h
    simp only [cond_true] at h
    split at h
    ·rename_i u hu;cases h;exact hext.2 f a _ hu
    ·unfold runFO at h
     split at h
     ·rename_i nt np m rs hc
      split at h
      ·rename_i hla
       split at h
       ·rename_i t ht
        have hte:=argT_argE ht
        split at h
        ·rename_i q' hr
         obtain ⟨tt,rfl,ho,hsz⟩:=ownD_some h
         exact soundO_of (hcode _ _ hc) hla hsz (by rw [← hte];exact runM_some ih hit hr ⟨.inl rfl,ho⟩)
        ·rename_i q' hr
         obtain ⟨tt,rfl,ho,hsz⟩:=ownD_some h
         exact soundO_of (hcode _ _ hc) hla hsz (by rw [← hte];exact runM_some ih hit hr ⟨.inr rfl,ho⟩)
        ·cases h
       ·cases h
      ·cases h
     ·cases h
def lookC:List (Nat × Nat × Nat × MC × List (Nat × Option (Option Nat)))→CodeT
 | [],_=>none
 | (n,c) :: l,f=>if f=n then some c else lookC l f
theorem lookC_ok {P:Program}:∀ {l:List (Nat × Nat × Nat × MC × List (Nat × Option (Option Nat)))},(∀ p ∈ l,cFun P p.1=some p.2)→∀ f c,lookC l f=some c→cFun P f=some c
 | [],_,_,_,h=>by cases h
 | (n,c0) :: l,hl,f,c,h=>by
  simp only [lookC] at h
  split at h
  ·rename_i hf;cases h;subst hf;exact hl _ List.mem_cons_self
  ·exact lookC_ok (fun p hp=>hl p (List.mem_cons_of_mem _ hp)) f c h
end Go.Av

/- What a row says of the arguments,as abstract values;from a contract to a row. By an AI agent;nothing here is trusted. -/
namespace Go.Av
open Go.RowKit (Below)
open Go.ChangeShapes Go.WideShapes

def CRs (W:World) (xs:List AV) (cs:List Value):Prop :=
 xs.length=cs.length∧(∀ (i:Nat) (c:AV),xs[i]?=some c→VR W.heap (fun b=>b<W.heap.size) noPlace noStore c (cs.getD i undef))∧(∀ c ∈ xs,cell c=true)∧immL xs=true
def Rd (P:Program) (t:TypeId) {A:Type} (av:A→AV) (ok:A→Prop):Prop :=
 ∀ (H:Type) (enc:TypeId × Value→H) (W:World) (fuel:Nat) (cs:List Value) (x:DataW H × List MemPlace),DataW.trod enc P W 0 (fun _=>true) true fuel t cs=some x→∃ a,ok a∧CRs W (cellsOf (av a)) cs

theorem CRs.one {W:World} {x:AV} {v:Value} (h:VR W.heap (fun b=>b<W.heap.size) noPlace noStore x v) (h1:cell x=true) (h2:immL [x]=true):CRs W [x] [v]:=by
 refine ⟨rfl,fun i c hc=>?_,fun c hc=>?_,h2⟩
 ·cases i with
  | zero=>simp at hc;subst hc;exact h
  | succ i=>simp at hc
 ·simp at hc;subst hc;exact h1
theorem immL_append:∀ {a b:List AV},immL a=true→immL b=true→immL (a ++ b)=true
 | [],_,_,h=>h
 | x :: r,b,h,h'=>by
  cases x <;> simp only [List.cons_append,immL] at h ⊢ <;> first
   | exact immL_append h h'
   | (cases h;done)
theorem CRs.append {W:World} {xs ys:List AV} {cs ds:List Value} (h:CRs W xs cs) (k:CRs W ys ds):CRs W (xs ++ ys) (cs ++ ds):=by
 obtain ⟨h1,h2,h3,h4⟩:=h
 obtain ⟨k1,k2,k3,k4⟩:=k
 refine ⟨by simp [h1,k1],fun i c hc=>?_,fun c hc=>?_,immL_append h4 k4⟩
 ·by_cases hi:i<xs.length
  ·rw [List.getElem?_append_left hi] at hc
   have:=h2 i c hc
   rw [List.getD_eq_getElem?_getD,List.getElem?_append_left (by omega),← List.getD_eq_getElem?_getD]
   exact this
  ·rw [List.getElem?_append_right (by omega)] at hc
   have:=k2 (i - xs.length) c hc
   rw [List.getD_eq_getElem?_getD,List.getElem?_append_right (by omega),← h1,← List.getD_eq_getElem?_getD]
   exact this
 ·rcases List.mem_append.1 hc with hc | hc
  ·exact h3 c hc
  ·exact k3 c hc

section
variable {P:Program} {t:TypeId}

theorem Rd_i64 (ht:P.underlying t=some (.int .i64)):Rd P t (AV.int .i64) I64:=by
 intro H enc W fuel cs x h
 obtain ⟨n,rfl,rfl,hw⟩:=DataW.trod_int ht h
 refine ⟨n,?_,CRs.one (.int _ _) rfl rfl⟩
 simp only [Lit.wf,Bool.and_eq_true,decide_eq_true_eq] at hw
 have h1:IntKind.i64.min = -9223372036854775808:=by decide
 have h2:IntKind.i64.max=9223372036854775807:=by decide
 unfold I64;omega
theorem Rd_str (ht:P.underlying t=some .string):Rd P t AV.str (fun l=>l.length≤maxLen):=by
 intro H enc W fuel cs x h
 obtain ⟨s,rfl,rfl,hs⟩:=DataW.trod_string ht h
 exact ⟨s.data.toList,by simpa using hs,CRs.one (.str _ _ rfl) rfl rfl⟩

theorem Rd_slice {e:TypeId} {A:Type} {av:A→AV} {ok:A→Prop} {s:Nat} (ht:P.underlying t=some (.slice e)) (he:Rd P e av ok) (hcells:P.cellsOf e=s) (hpos:0<s)
  (hs:∀ a,(cellsOf (av a)).length=s) (him:∀ a,immL (cellsOf (av a))=true→imm (av a)=true) :
  Rd P t (fun l:List A=>.sl (l.map av)) (fun l=>l.length≤maxLen∧∀ a ∈ l,ok a):=by
 intro H enc W fuel cs x h
 rcases DataW.trod_slice ht h with ⟨rfl,_⟩ | ⟨a,len,cap,elems,rest,n,_,rfl,_,_,hlc,hcm,hel,hget,_,_⟩
 ·exact ⟨[],⟨by simp,fun a ha=>by cases ha⟩,CRs.one (.sl0 _ _) rfl rfl⟩
 ·have hex:∀ m,m≤len→∃ l:List A,l.length=m∧∀ i,i<m→∃ b csi,l[i]?=some b∧ok b∧W.cells? 0 (a.add (i * s)) s=some csi∧CRs W (cellsOf (av b)) csi:=by
   intro m
   induction m with
   | zero=>exact fun _=>⟨[],rfl,fun i hi=>by omega⟩
   | succ m ih =>
    intro hm
    obtain ⟨l,hl,hi⟩:=ih (by omega)
    have hg:=hget m (by omega)
    rw [hcells] at hg
    have hlt:m<elems.length:=by omega
    rw [List.getElem?_eq_getElem hlt] at hg
    obtain ⟨csi,h1,h2⟩:=Option.bind_eq_some_iff.1 hg
    obtain ⟨b,hb1,hb2⟩:=he H enc W n csi _ h2
    refine ⟨l ++ [b],by simp [hl],fun i hi'=>?_⟩
    by_cases him:i=m
    ·subst him
     exact ⟨b,csi,by rw [List.getElem?_append_right (by omega),hl];simp,hb1,h1,hb2⟩
    ·obtain ⟨b',csi',g1,g2,g3,g4⟩:=hi i (by omega)
     exact ⟨b',csi',by rw [List.getElem?_append_left (by omega)];exact g1,g2,g3,g4⟩
  obtain ⟨l,hl,hi⟩:=hex len (Nat.le_refl _)
  have hokl:∀ b ∈ l,ok b:=fun b hb=>by
   obtain ⟨i,hi',rfl⟩:=List.mem_iff_getElem.1 hb
   obtain ⟨b',_,g1,g2,_⟩:=hi i (by omega)
   rw [List.getElem?_eq_getElem hi'] at g1
   cases g1;exact g2
  refine ⟨l,⟨by omega,hokl⟩,CRs.one ?_ rfl rfl⟩
  by_cases h0:len=0
  ·subst h0
   have:l=[]:=List.eq_nil_of_length_eq_zero hl
   subst this
   exact .sl0 _ _
  ·obtain ⟨bk,off,spot⟩:=a
   have hcell:∀ i,i<len→∃ b csi,l[i]?=some b∧CRs W (cellsOf (av b)) csi∧csi.length=s∧∀ o,o<s→W.cell? (((⟨bk,off,spot⟩:Addr).add (i * s)).add o)=csi[o]?:=by
    intro i hi'
    obtain ⟨b,csi,g1,g2,g3,g4⟩:=hi i hi'
    obtain ⟨_,q1,q2⟩:=World.cells?_some g3
    exact ⟨b,csi,g1,g4,q1,q2⟩
   have hspot:spot=none:=by
    obtain ⟨b,csi,_,_,q1,q2⟩:=hcell 0 (by omega)
    have:=q2 0 hpos
    rw [List.getElem?_eq_getElem (by omega)] at this
    have:=World.cell?_spot this
    simp [Addr.add] at this
    exact this
   subst hspot
   simp only [add_plain] at hcell
   have hbl:∃ cur ty fr,W.heap[bk]?=some (.cells cur ty fr)∧∀ j v,W.cell? ⟨bk,j,none⟩=some v→cur[j]?=some v:=by
    obtain ⟨b,csi,_,_,q1,q2⟩:=hcell 0 (by omega)
    have:=q2 0 hpos
    rw [List.getElem?_eq_getElem (by omega)] at this
    unfold World.cell? at this
    split at this
    ·rename_i cur ty fr hb
     refine ⟨cur,ty,fr,hb,fun j v hv=>?_⟩
     unfold World.cell? at hv
     rw [hb] at hv
     simpa using hv
    ·cases this
   obtain ⟨cur,ty,fr,hb,hcur⟩:=hbl
   have key:=VR.sl (h:=W.heap) (ok:=fun b=>b<W.heap.size) (ρ:=noPlace) (σ:=noStore) (l.map av) bk off s cap cur ty fr (fun i o=>(cur[off+i * s+o]?).getD undef)
    (Array.getElem?_eq_some_iff.1 hb).1 (by simp [hl];exact hlc) hb ?_ ?_ ?_
   ·rw [List.length_map,hl] at key;exact key
   ·intro i y hy
    rw [List.getElem?_map] at hy
    obtain ⟨b,hb',rfl⟩:=Option.map_eq_some_iff.1 hy
    have hlt:i<len:=by have:=(List.getElem?_eq_some_iff.1 hb').1;omega
    obtain ⟨b2,csi,g1,g2,_⟩:=hcell i hlt
    obtain rfl:b2=b:=by rw [g1] at hb';exact Option.some.inj hb'
    exact ⟨hs b2,g2.2.2.1,him b2 g2.2.2.2⟩
   ·intro i y o c hy hc
    rw [List.getElem?_map] at hy
    obtain ⟨b,hb',rfl⟩:=Option.map_eq_some_iff.1 hy
    have hlt:i<len:=by have:=(List.getElem?_eq_some_iff.1 hb').1;omega
    obtain ⟨b2,csi,g1,g2,g3,g4⟩:=hcell i hlt
    obtain rfl:b2=b:=by rw [g1] at hb';exact Option.some.inj hb'
    have hos:o<s:=by have:=(List.getElem?_eq_some_iff.1 hc).1;rw [hs b2] at this;exact this
    have:=g4 o hos
    rw [List.getElem?_eq_getElem (by omega)] at this
    have:=hcur _ _ this
    simp [this]
   ·intro i y o c hy hc
    rw [List.getElem?_map] at hy
    obtain ⟨b,hb',rfl⟩:=Option.map_eq_some_iff.1 hy
    have hlt:i<len:=by have:=(List.getElem?_eq_some_iff.1 hb').1;omega
    obtain ⟨b2,csi,g1,g2,g3,g4⟩:=hcell i hlt
    obtain rfl:b2=b:=by rw [g1] at hb';exact Option.some.inj hb'
    have hos:o<s:=by have:=(List.getElem?_eq_some_iff.1 hc).1;rw [hs b2] at this;exact this
    have h4:=g4 o hos
    rw [List.getElem?_eq_getElem (by omega)] at h4
    have h5:=hcur _ _ h4
    have h6:=g2.2.1 o c hc
    have:csi.getD o undef=csi[o]:=by simp [List.getD,List.getElem?_eq_getElem (show o<csi.length by omega)]
    rw [this] at h6
    simp only [h5,Option.getD_some]
    exact h6

def RdF (P:Program) (off:Nat) (fs:List Field) {A:Type} (av:A→List AV) (ok:A→Prop):Prop :=
 ∀ (H:Type) (enc:TypeId × Value→H) (W:World) (fuel:Nat) (cs:List Value),
  (∀ f ∈ fs,∃ x,DataW.trod enc P W 0 (fun _=>true) true fuel f.type ((cs.drop f.offset).take (P.cellsOf f.type))=some x)→∃ a,ok a∧∀ n,n=(av a).length→CRs W (av a) ((cs.drop off).take n)
theorem RdF_nil (off:Nat):RdF P off [] (A:=Unit) (fun _=>[]) (fun _=>True):=by
 intro H enc W fuel cs h
 exact ⟨(),trivial,fun n hn=>by subst hn;exact ⟨by simp,(fun i c hc=>by simp at hc),(fun c hc=>by cases hc),rfl⟩⟩
theorem RdF_cons {off s:Nat} {f:Field} {fs:List Field} {A B:Type} {av:A→AV} {ok:A→Prop} {avs:B→List AV} {oks:B→Prop} (hf:Rd P f.type av ok) (ho:f.offset=off) (hc:P.cellsOf f.type=s)
  (hs:∀ a,(cellsOf (av a)).length=s) (hr:RdF P (off+s) fs avs oks):RdF P off (f :: fs) (A:=A × B) (fun p=>cellsOf (av p.1) ++ avs p.2) (fun p=>ok p.1∧oks p.2):=by
 intro H enc W fuel cs h
 obtain ⟨x,hx⟩:=h f (by simp)
 obtain ⟨a,ha,hca⟩:=hf H enc W fuel _ _ hx
 obtain ⟨b,hb,hcb⟩:=hr H enc W fuel cs (fun g hg=>h g (by simp [hg]))
 refine ⟨(a,b),⟨ha,hb⟩,fun n hn=>?_⟩
 subst hn
 have:=hca.append (hcb _ rfl)
 rw [hc,ho] at this
 simp only [List.length_append,hs a]
 have e:List.take s (List.drop off cs) ++ List.take (avs b).length (List.drop (off+s) cs)=List.take (s+(avs b).length) (List.drop off cs):=by
  rw [List.take_add,List.drop_drop]
 rw [e] at this
 exact this
theorem Rd_struct {fs:Array Field} {A:Type} {avs:A→List AV} {ok:A→Prop} {s:Nat} (ht:P.underlying t=some (.struct fs)) (h:RdF P 0 fs.toList avs ok) (hc:P.cellsOf t=s) (hs:∀ a,(avs a).length=s) :
  Rd P t (fun a=>.agg (avs a)) ok:=by
 intro H enc W fuel cs x hx
 obtain ⟨xs,n,_,_,hl,hlen,hf⟩:=DataW.trod_struct ht hx
 obtain ⟨a,ha,hca⟩:=h H enc W n cs (fun f hff=>by
  obtain ⟨i,hi,rfl⟩:=List.mem_iff_getElem.1 hff
  have hi':i<fs.size:=by simpa using hi
  have:=hf i fs[i] (by simp [hi'])
  rw [List.getElem?_eq_getElem (by omega)] at this
  exact ⟨_,by simpa using this⟩)
 refine ⟨a,ha,?_⟩
 have:=hca s (hs a).symm
 rw [List.drop_zero,List.take_of_length_le (by omega)] at this
 exact this

theorem Rd.agg {A:Type} {avs:A→List AV} {ok:A→Prop} {fs:Array Field} (h:Rd P t (fun a=>.agg (avs a)) ok) (ht:P.underlying t=some (.struct fs)) {H:Type} {enc:TypeId × Value→H} {W:World} {r:Reach} {b0:Nat} {v:Value} {d:DataW H} {p:List MemPlace}
  (hval:Value.okWide P W r b0 t v) (hd:DataW.Trod enc P W 0 (fun _=>true) true t v d p):∃ a,ok a∧VR W.heap (fun b=>b<W.heap.size) noPlace noStore (.agg (avs a)) v:=by
 obtain ⟨cs,rfl,_⟩:=okWide_struct ht hval
 obtain ⟨fuel,hf⟩:=hd
 obtain ⟨a,ha,h1,h2,_⟩:=h H enc W fuel _ _ hf
 refine ⟨a,ha,.agg _ _ (by simpa [Value.cells,cellsOf] using h1) fun i c hc=>?_⟩
 have:=h2 i c hc
 simpa [Value.cells,Array.getD_eq_getD_getElem?,List.getD_eq_getElem?_getD] using this
theorem Rd.one {A:Type} {av:A→AV} {ok:A→Prop} (h:Rd P t av ok) (hav:∀ a,cellsOf (av a)=[av a]) {H:Type} {enc:TypeId × Value→H} {W:World} {v:Value} {d:DataW H} {p:List MemPlace}
  (hv:v.cells=#[v]) (hd:DataW.Trod enc P W 0 (fun _=>true) true t v d p):∃ a,ok a∧VR W.heap (fun b=>b<W.heap.size) noPlace noStore (av a) v:=by
 obtain ⟨fuel,hf⟩:=hd
 obtain ⟨a,ha,h1,h2,_⟩:=h H enc W fuel _ _ hf
 refine ⟨a,ha,?_⟩
 have:=h2 0 (av a) (by rw [hav];rfl)
 rw [hv] at this
 simpa using this
theorem Rd.i64 (ht:P.underlying t=some (.int .i64)) {H:Type} {enc:TypeId × Value→H} {W:World} {r:Reach} {b0:Nat} {v:Value} {d:DataW H} {p:List MemPlace}
  (hval:Value.okWide P W r b0 t v) (hd:DataW.Trod enc P W 0 (fun _=>true) true t v d p):∃ n,I64 n∧VR W.heap (fun b=>b<W.heap.size) noPlace noStore (.int .i64 n) v:=by
 obtain ⟨n,rfl⟩:=okWide_int ht hval
 exact (Rd_i64 ht).one (fun _=>rfl) rfl hd
theorem Rd.sl {A:Type} {av:A→AV} {ok:List A→Prop} {e:TypeId} (h:Rd P t (fun l:List A=>.sl (l.map av)) ok) (ht:P.underlying t=some (.slice e)) {H:Type} {enc:TypeId × Value→H} {W:World} {r:Reach} {b0:Nat} {v:Value} {d:DataW H} {p:List MemPlace}
  (hval:Value.okWide P W r b0 t v) (hd:DataW.Trod enc P W 0 (fun _=>true) true t v d p):∃ l,ok l∧VR W.heap (fun b=>b<W.heap.size) noPlace noStore (.sl (l.map av)) v:=by
 obtain ⟨a,len,cap,rfl⟩:=okWide_slice ht hval
 exact h.one (fun _=>rfl) rfl hd
theorem Rd.str (ht:P.underlying t=some .string) {H:Type} {enc:TypeId × Value→H} {W:World} {r:Reach} {b0:Nat} {v:Value} {d:DataW H} {p:List MemPlace}
  (hval:Value.okWide P W r b0 t v) (hd:DataW.Trod enc P W 0 (fun _=>true) true t v d p):∃ l:List UInt8,l.length≤maxLen∧VR W.heap (fun b=>b<W.heap.size) noPlace noStore (.str l) v:=by
 obtain ⟨s,rfl⟩:=okWide_string ht hval
 exact (Rd_str ht).one (fun _=>rfl) rfl hd

theorem Rd_array {e:TypeId} {n s:Nat} {A:Type} {av:A→AV} {ok:A→Prop} (ht:P.underlying t=some (.array n e)) (he:Rd P e av ok) (hcells:P.cellsOf e=s) (hc:P.cellsOf t=n * s)
  (hs:∀ a,(cellsOf (av a)).length=s):Rd P t (fun l:List A=>.agg (l.flatMap fun a=>cellsOf (av a))) (fun l=>l.length=n∧∀ a ∈ l,ok a):=by
 intro H enc W fuel cs x hx
 obtain ⟨xs,k,_,_,hl,hlen,hget⟩:=DataW.trod_array ht hx
 have hex:∀ m,m≤n→∃ l:List A,l.length=m∧(∀ a ∈ l,ok a)∧CRs W (l.flatMap fun a=>cellsOf (av a)) (cs.take (m * s)):=by
  intro m
  induction m with
  | zero=>exact fun _=>⟨[],rfl,(fun a ha=>by cases ha),by simp,(fun i c hc=>by simp at hc),(fun c hc=>by cases hc),rfl⟩
  | succ m ih =>
   intro hm
   obtain ⟨l,h1,h2,h3⟩:=ih (by omega)
   have hg:∃ y,DataW.trod enc P W 0 (fun _=>true) true k e ((cs.drop (m * P.cellsOf e)).take (P.cellsOf e))=some y:=by
    have:=hget m (by omega)
    rw [List.getElem?_eq_getElem (by omega)] at this
    exact ⟨_,this⟩
   obtain ⟨y,hy⟩:=hg
   rw [hcells] at hy
   obtain ⟨a,ha1,ha2⟩:=he H enc W k _ _ hy
   refine ⟨l ++ [a],by simp [h1],fun b hb=>?_,?_⟩
   ·rcases List.mem_append.1 hb with hb | hb
    ·exact h2 b hb
    ·simp at hb;subst hb;exact ha1
   ·have:=h3.append ha2
    rw [List.flatMap_append]
    simp only [List.flatMap_cons,List.flatMap_nil,List.append_nil]
    rw [Nat.succ_mul,List.take_add]
    exact this
 obtain ⟨l,h1,h2,h3⟩:=hex n (Nat.le_refl _)
 refine ⟨l,⟨h1,h2⟩,?_⟩
 rw [List.take_of_length_le (by omega)] at h3
 exact h3
theorem Sound.calls {f:FuncId} {fn:Func} (hf:P.funcs[f]?=some fn) (hn:(fn.name == "runtime.NumGoroutine")=false) (hb:fn.body.isSome=true) {args:List AV} {b:Bool} (h:Sound P f args (.bool b)) {w:World} (hG:GOk (fun b=>b<w.heap.size) w) {cargs:Array Value}
  (hl:cargs.size=args.length) (hv:∀ (i:Nat) (x:AV),args[i]?=some x→VR w.heap (fun b=>b<w.heap.size) noPlace noStore x (cargs.getD i undef)) :
  Calls P f cargs w fun e w'=>e=.returned (.bool b)∧Below w.heap.size w w':=by
 obtain ⟨c,hc⟩:=Option.isSome_iff_exists.1 hb
 rcases h w (fun b=>b<w.heap.size) cargs (fun _ h=>h) hG hl hv with ⟨v,w',h1,h2⟩ | ⟨_,h2⟩
 ·rw [callFunc_enter hf hn hc] at h1
  cases h1
 ·refine h2.mono fun e w' ⟨v,he,hb',hvr⟩=>?_
  cases hvr
  exact ⟨he,hb'⟩
section
variable {h:Array Obj} {ok:Nat→Prop} {ρ:Nat→Option Nat} {σ:Store}
theorem vr3 {x0 x1 x2:AV} {v0 v1 v2:Value} (h0:VR h ok ρ σ x0 v0) (h1:VR h ok ρ σ x1 v1) (h2:VR h ok ρ σ x2 v2):∀ (i:Nat) (x:AV),[x0,x1,x2][i]?=some x→VR h ok ρ σ x (#[v0,v1,v2].getD i undef)
 | 0,x,hx=>by cases hx;exact h0
 | 1,x,hx=>by cases hx;exact h1
 | 2,x,hx=>by cases hx;exact h2
 | i+3,x,hx=>by simp at hx
end
end
end Go.Av

/- More steps: structs held against each other,max and min. By an AI agent;nothing here is trusted. -/
namespace Go.Av
theorem eqT_nil:eqT [] [] []=some true:=rfl
theorem eqT_int (ts:List Nat) (k:IntKind) (a b:Int) (r r':List AV):eqT (1 :: ts) (.int k a :: r) (.int k b :: r')=(eqT ts r r').map fun t=>decide (a=b) && t:=by simp [eqT]
theorem eqT_bool (ts:List Nat) (a b:Bool) (r r':List AV):eqT (0 :: ts) (.bool a :: r) (.bool b :: r')=(eqT ts r r').map fun t=>decide (a=b) && t:=rfl
theorem eqT_str (ts:List Nat) (a b:List UInt8) (r r':List AV):eqT (2 :: ts) (.str a :: r) (.str b :: r')=(eqT ts r r').map fun t=>decide (a=b) && t:=rfl
theorem maxA_cons (a:Int) (l:List AV):maxA (.int .i64 a :: l)=maxFrom a l:=rfl
theorem maxFrom_nil (a:Int):maxFrom a []=some (.int .i64 a):=rfl
theorem maxFrom_cons (a b:Int) (l:List AV):maxFrom a (.int .i64 b :: l)=maxFrom (max a b) l:=rfl
theorem minA_cons (a:Int) (l:List AV):minA (.int .i64 a :: l)=minFrom a l:=rfl
theorem minFrom_nil (a:Int):minFrom a []=some (.int .i64 a):=rfl
theorem minFrom_cons (a b:Int) (l:List AV):minFrom a (.int .i64 b :: l)=minFrom (min a b) l:=rfl
theorem bneB_true (b:Bool):(b != true)=!b:=by cases b <;> rfl
theorem bneB_false (b:Bool):(b != false)=b:=by cases b <;> rfl
def vcE:=And.intro @eqT_nil <| And.intro @eqT_int <| And.intro @eqT_bool <| And.intro @eqT_str <| And.intro @maxA_cons <| And.intro @maxFrom_nil <| And.intro @maxFrom_cons <| And.intro @minA_cons <| And.intro @minFrom_nil <| And.intro @minFrom_cons <| And.intro @bneB_true <| @bneB_false
end Go.Av

/- Conditions of long code: behind each region the slots that are not read again are forgotten. By an AI agent;nothing here is trusted. -/
namespace Go.Av

inductive ML where
 | skip
 | reg (m:Nat) (ss:List MS) (draw:Bool) (conf:List (MS × MS))
 | regW (m:Nat) (ss:List MS) (draw:Bool) (conf:List (MS × MS))
 | seq (a b:ML)
 | cond (x:MX) (a b:ML)
 | block (id:Nat) (a:ML)
 | loop (a:ML)
 | exit (id:Nat)
 | ret
 | rf (x:MX) (ps:List Nat) (a b:ML)
 | cut (a:ML)
def ML.er:ML→MC
 | .skip=>.skip
 | .reg _ ss draw conf=>.reg ss draw conf
 | .regW _ ss draw conf=>.reg ss draw conf
 | .seq a b=>.seq a.er b.er
 | .cond x a b=>.cond x a.er b.er
 | .block id a=>.block id a.er
 | .loop a=>.loop a.er
 | .exit id=>.exit id
 | .ret=>.ret
 | .rf x ps a b=>.rf x ps a.er b.er
 | .cut a=>a.er

def fgt (m:Nat) (e:Env):Env:=fun n=>if (m >>> n) % 2=1 then e n else .undef
theorem fgt_app (m:Nat) (e:Env) (n:Nat):fgt m e n=if (m >>> n) % 2=1 then e n else .undef:=rfl
theorem fgt_upd (m:Nat) (e:Env) (n:Nat) (v:AV):fgt m (upd e n v)=if (m >>> n) % 2=1 then upd (fgt m e) n v else fgt m e:=by
 funext k
 by_cases hk:k=n
 ·subst hk
  by_cases hm:(m >>> k) % 2=1
  ·rw [if_pos hm,upd_same];unfold fgt;rw [if_pos hm,upd_same]
  ·rw [if_neg hm];unfold fgt;rw [if_neg hm,if_neg hm]
 ·by_cases hm:(m >>> n) % 2=1
  ·rw [if_pos hm,upd_other _ _ _ _ hk];unfold fgt;rw [upd_other _ _ _ _ hk]
  ·rw [if_neg hm];unfold fgt;rw [upd_other _ _ _ _ hk]
def lf (m:Nat) (e:Env):Env:=fgt m e
theorem fgt_argE (m:Nat) (l:List AV):fgt m (argE l)=lf m (argE l):=rfl
theorem fgt_envOf (m:Nat) (l:List (Nat × AV)):fgt m (envOf l)=lf m (envOf l):=rfl
theorem fgt_lf (m k:Nat) (e:Env):fgt m (lf k e)=lf m (lf k e):=rfl
theorem lf_app (m:Nat) (e:Env) (n:Nat):lf m e n=if (m >>> n) % 2=1 then e n else .undef:=rfl
def letE (e:Env) (K:Env→Prop) (_:Tag K):Prop:=K e

section
variable {P:Program} {N:Nat} {Q:Exit→Env→Store→Prop} {e:Env} {s:Store}

theorem Rel.fgt {N B:Nat} {w0:World} {ok0:F0} {ok:Nat→Prop} {ρ:Nat→Option Nat} {a:Act} {w:World} (hR:Rel N B w0 ok0 ok ρ e s a w) (m:Nat):Rel N B w0 ok0 ok ρ (fgt m e) s a w:=by
 constructor
 ·exact hR.defers
 ·exact hR.size
 ·exact hR.below
 ·exact hR.base
 ·intro n
  unfold Go.Av.fgt
  split
  ·exact hR.tmps n
  ·exact .undef _
 ·exact hR.oklt
 ·exact hR.okold
 ·exact hR.live
 ·exact hR.inj
 ·exact hR.kept
 ·exact hR.goes
 ·exact hR.gok
theorem AWM.fgt {mc:MC} (m:Nat) (h:AWM P N mc (fun x e s=>Q x (fgt m e) s) e s):AWM P N mc Q e s:=by
 intro c hc ro rm B w0 ok0 ok ρ a w hfl hR
 refine wpIn_mono (h c hc ro rm B w0 ok0 ok ρ a w hfl hR) fun x a' w' ⟨e',s',ok',ρ',hR',hq⟩=>?_
 exact ⟨_,s',ok',ρ',hR'.fgt m,hq⟩

def regKL (m:Nat) (conf:List (MS × MS)) (Q:Exit→Env→Store→Prop) (_:Tag (conf,Q)):Env→Store→Prop:=fun e s=>confOk conf e∧Q .normal (fgt m e) s
theorem letE_eq (e:Env) (K:Env→Prop) (t):letE e K t=K e:=rfl
theorem regKL_eq (m:Nat) (conf:List (MS × MS)) (Q:Exit→Env→Store→Prop) (t) (e:Env) (s:Store):regKL m conf Q t e s=(confOk conf e∧letE (fgt m e) (fun e=>Q .normal e s) .mk):=rfl

def frzG (ty sz:Nat) (v:AV) (q:Option (Option Blk)) (F:List AV→Prop):Prop:=match v,q with
 | .buf _ _,some (some B)=>B.ty=ty∧B.sz=sz∧(scalE B.es && B.es.all imm)=true∧F B.es
 | _,_=>False
theorem frzG_buf (ty sz ty' sz' k m:Nat) (es:List AV) (F:List AV→Prop):frzG ty sz (.buf k m) (some (some ⟨ty',sz',es⟩)) F=(ty'=ty∧sz'=sz∧(scalE es && es.all imm)=true∧F es):=rfl
def isBS:MOp→Bool
 | .buildSlice ..=>true
 | _=>false
def vcOpW (P:Program) (nk:Bool) (d:Nat) (o:MOp) (e:Env) (s:Store) (K:AV→Store→Prop):Prop :=
 match o with
 | .bin op x y=>bindP ((binT op (x.ev e) (y.ev e)).map fun v=>(v,s)) K
 | .buildSlice ty sz n zero parts=>bindP (ex d (.buildSlice ty sz n zero parts) e s) fun v t=>frzG ty sz v (t d) fun es=>K (.sl es) s
 | o=>vcOp P nk d o e s K
theorem vcOpW_step {nk:Bool} {d:Nat} {o:MOp} {e:Env} {s:Store} {K:AV→Store→Prop} (h:vcOpW P nk d o e s K):∃ v t,stepOp P d o e s v t∧(nk=true→isCall o=true→t=s∧∀ k ∈ argKeys o e s,s k ≠ none)∧K v t:=by
 cases o with
 | bin op x y =>
  obtain ⟨v,t,h1,h2⟩:=h
  exact ⟨v,t,h1,(fun _ h=>by cases h),h2⟩
 | buildSlice ty sz n zero parts =>
  obtain ⟨v,t,h1,h2⟩:=h
  generalize hq:t d=q at h2
  unfold frzG at h2
  split at h2
  ·rename_i k m B
   obtain ⟨rfl,rfl,h3,h4⟩:=h2
   exact ⟨_,_,.inr ⟨B.es,k,m,t,h1,hq,h3,rfl,rfl⟩,(fun _ h=>by cases h),h4⟩
  ·exact h2.elim
 | _=>exact vcOp_step h
def vcLW (P:Program) (nk:Bool):List MS→Env→Store→(Env→Store→Prop)→Prop
 | [],e,s,K=>K e s
 | m :: r,e,s,K=>match m.g with
  | none=>vcOpW P nk (m.d.getD 0) m.o e s fun v t=>vcLW P nk r (putO e m.d v) t K
  | some _=>False
theorem vcLW_run {nk:Bool}:∀ {ss:List MS} {e:Env} {s:Store} {K:Env→Store→Prop},vcLW P nk ss e s K→∃ e' s',RunK P nk ss e s e' s'∧K e' s'
 | [],e,s,K,h=>⟨e,s,⟨rfl,rfl⟩,h⟩
 | m :: r,e,s,K,h=>by
  simp only [vcLW] at h
  split at h
  ·rename_i hg
   obtain ⟨v,t,h1,h2,h3⟩:=vcOpW_step h
   obtain ⟨e',s',g1,g2⟩:=vcLW_run h3
   exact ⟨e',s',⟨v,t,.inl ⟨by rw [hg];rfl,h1⟩,fun a b=>⟨(h2 a b).1,fun _=>(h2 a b).2⟩,g1⟩,g2⟩
  ·exact h.elim
def VW (P:Program) (nk:Bool) (ss:List MS) (e:Env) (s:Store) (K:Env→Store→Prop) (_:Tag (ss,e,s,K)):Prop:=vcLW P nk ss e s K
theorem VW_nil {nk:Bool} {K:Env→Store→Prop} (t):VW P nk [] e s K t=K e s:=rfl
theorem VW_bin {nk:Bool} {r:List MS} {K:Env→Store→Prop} (d:Option Nat) (op:BinOp) (x y:MX) (t):VW P nk (⟨none,d,.bin op x y⟩ :: r) e s K t=bV (binT op (x.ev e) (y.ev e)) (fun v=>VW P nk r (putO e d v) s K .mk) .mk:=by
 have h:VW P nk (⟨none,d,.bin op x y⟩ :: r) e s K t=bP ((binT op (x.ev e) (y.ev e)).map fun v=>(v,s)) (fun v s'=>VW P nk r (putO e d v) s' K .mk) .mk:=by
  unfold VW bP
  rw [vcLW]
  rfl
 rw [h];exact ex_bV rfl
theorem VW_op {nk:Bool} {r:List MS} {K:Env→Store→Prop} (d:Option Nat) {o:MOp} (ho:isBin o=false) (hb:isBS o=false) (t):VW P nk (⟨none,d,o⟩ :: r) e s K t=V P nk [⟨none,d,o⟩] e s (fun e s=>VW P nk r e s K .mk) .mk:=by
 unfold VW V
 cases o <;> first | (cases ho;done) | (cases hb;done) | rfl
theorem binT_add (k k':IntKind) (a b:Int):binT .add (.int k a) (.int k' b)=req (k=k') (some (.int k (k.wrap (a+b)))):=rfl
theorem binT_sub (k k':IntKind) (a b:Int):binT .sub (.int k a) (.int k' b)=req (k=k') (some (.int k (k.wrap (a - b)))):=rfl
theorem binT_mul (k k':IntKind) (a b:Int):binT .mul (.int k a) (.int k' b)=req (k=k') (some (.int k (k.wrap (a * b)))):=rfl
theorem binT_eql (x y:AV):binT .eql x y=binA .eql x y:=rfl
theorem binT_neq (x y:AV):binT .neq x y=binA .neq x y:=rfl
theorem binT_lss (x y:AV):binT .lss x y=binA .lss x y:=rfl
theorem binT_leq (x y:AV):binT .leq x y=binA .leq x y:=rfl
theorem binT_gtr (x y:AV):binT .gtr x y=binA .gtr x y:=rfl
theorem binT_geq (x y:AV):binT .geq x y=binA .geq x y:=rfl
theorem AWM_regW {draw:Bool} {ss:List MS} {conf:List (MS × MS)} {Q:Exit→Env→Store→Prop} (h:vcLW P draw ss e s fun e' s'=>confOk conf e'∧Q .normal e' s'):AWM P N (.reg ss draw conf) Q e s:=by
 intro c hc
 rcases cCode_inv hc with ⟨_,h'⟩ | ⟨id,ops,draw',ss',cf,rfl,h',hr⟩ | ⟨_,_,_,_,_,h',_⟩ | ⟨_,_,_,_,_,_,h',_⟩ | ⟨_,_,_,_,h',_⟩ | ⟨_,_,_,h',_⟩ | ⟨_,_,h'⟩ | ⟨_,h'⟩ | ⟨_,_,_,_,_,_,_,h',_⟩
 all_goals cases h'
 exact (reg_soundR hr (vcLW_run h)).aw

def WL0 (P:Program) (N:Nat):ML→(Exit→Env→Store→Prop)→Env→Store→Prop
 | .skip,Q,e,s=>Q .normal e s
 | .reg m ss draw conf,Q,e,s=>V P draw ss e s (regKL m conf Q .mk) .mk
 | .regW m ss draw conf,Q,e,s=>VW P draw ss e s (regKL m conf Q .mk) .mk
 | .seq a b,Q,e,s=>WL0 P N a (seqQ (fun e s=>WL0 P N b Q e s) Q .mk) e s
 | .cond x a b,Q,e,s=>condS (x.ev e) (WL0 P N a Q e s) (WL0 P N b Q e s) .mk
 | .block id a,Q,e,s=>WL0 P N a (blockQ id Q .mk) e s
 | .exit id,Q,e,s=>Q (.exit id) e s
 | .ret,Q,e,s=>Q .ret e s
 | m,Q,e,s=>AWM P N m.er Q e s

theorem WL0_sound:∀ (m:ML) {Q:Exit→Env→Store→Prop} {e:Env} {s:Store},WL0 P N m Q e s→AWM P N m.er Q e s
 | .skip,_,_,_,h=>M_skip (t:=.mk) h
 | .reg m _ _ _,Q,_,_,h=>AWM.fgt m (M_reg (t:=.mk) h)
 | .regW m _ _ _,Q,_,_,h=>AWM.fgt m (AWM_regW h)
 | .seq a b,Q,_,_,h=>M_seq (t:=.mk) ((WL0_sound a h).mono fun x e s h=>by
   cases x with
   | normal=>exact WL0_sound b h
   | _=>exact h)
 | .cond _ a b,_,_,_,h=>M_cond (t:=.mk) (condS_mono (WL0_sound a) (WL0_sound b) h)
 | .block _ a,_,_,_,h=>M_block (t:=.mk) (WL0_sound a h)
 | .exit _,_,_,_,h=>M_exit (t:=.mk) h
 | .ret,_,_,_,h=>M_ret (t:=.mk) h
 | .loop _,_,_,_,h=>h
 | .rf ..,_,_,_,h=>h
 | .cut _,_,_,_,h=>h
def WL (P:Program) (N:Nat) (m:ML) (Q:Exit→Env→Store→Prop) (e:Env) (s:Store) (_:Tag (m,Q,e,s)):Prop:=WL0 P N m Q e s
theorem WL_skip (t):WL P N .skip Q e s t=Q .normal e s:=rfl
theorem WL_reg (m:Nat) (ss:List MS) (draw:Bool) (conf:List (MS × MS)) (t):WL P N (.reg m ss draw conf) Q e s t=V P draw ss e s (regKL m conf Q .mk) .mk:=rfl
theorem WL_regW (m:Nat) (ss:List MS) (draw:Bool) (conf:List (MS × MS)) (t):WL P N (.regW m ss draw conf) Q e s t=VW P draw ss e s (regKL m conf Q .mk) .mk:=rfl
theorem WL_seq (a b:ML) (t):WL P N (.seq a b) Q e s t=WL P N a (seqQ (fun e s=>WL P N b Q e s .mk) Q .mk) e s .mk:=rfl
theorem WL_cond (x:MX) (a b:ML) (t):WL P N (.cond x a b) Q e s t=condS (x.ev e) (WL P N a Q e s .mk) (WL P N b Q e s .mk) .mk:=rfl
theorem WL_block (id:Nat) (a:ML) (t):WL P N (.block id a) Q e s t=WL P N a (blockQ id Q .mk) e s .mk:=rfl
theorem WL_exit (id:Nat) (t):WL P N (.exit id) Q e s t=Q (.exit id) e s:=rfl
theorem WL_ret (t):WL P N .ret Q e s t=Q .ret e s:=rfl
theorem WL_sound {m:ML} {t} (h:WL P N m Q e s t):AWM P N m.er Q e s:=WL0_sound m h

theorem sound_WL {f:FuncId} {nt np:Nat} {mc:MC} {rs:List (Nat × Option (Option Nat))} (hF:cFun P f=some (nt,np,mc,rs)) {m:ML} (hm:m.er=mc) {args:List AV} (hla:args.length≤nt) {v:AV}
  (h:WL P nt m (endQ rs v) (argE args) noStore .mk):Sound P f args v:=by
 subst hm;exact sound_of hF hla (WL_sound h)

theorem WL_loop {α:Type} (st:α→Env × Store) (mu:α→Nat) (x0:α) {b:ML} {t} (h0:Weak (e,s) (st x0))
  (hb:∀ x,WL P N b (fun ex e' s'=>match ex with
   | .normal=>∃ y,mu y<mu x∧Weak (e',s') (st y)
   | ex=>Q ex e' s') (st x).1 (st x).2 .mk):WL P N (.loop b) Q e s t :=
 AWM.loop st mu x0 h0 fun x=>WL_sound (hb x)
theorem WL_cut {a:ML} {t} (h:WL P N a Q e s .mk):WL P N (.cut a) Q e s t:=(WL_sound h:AWM P N a.er Q e s)
theorem WL_cutW {a:ML} {t} (q:Env × Store) (hf:a.er.flat=false) (hw:Weak (e,s) q) (h:WL P N a Q q.1 q.2 .mk):WL P N (.cut a) Q e s t:=(AWM.weak (m:=a.er) hf hw (WL_sound h):AWM P N a.er Q e s)
end
section
variable {P:Program} {nk:Bool} {r:List MS} {e:Env} {s:Store} {K:Env→Store→Prop}
theorem VW_mv (d:Option Nat) (x:MX) (t):VW P nk (⟨none,d,.mv x⟩ :: r) e s K t=V P nk [⟨none,d,.mv x⟩] e s (fun e s=>VW P nk r e s K .mk) .mk:=VW_op d rfl rfl t
theorem VW_call (d:Option Nat) (f:FuncId) (xs:List MX) (t):VW P nk (⟨none,d,.call f xs⟩ :: r) e s K t=V P nk [⟨none,d,.call f xs⟩] e s (fun e s=>VW P nk r e s K .mk) .mk:=VW_op d rfl rfl t
theorem VW_fieldAddr (d:Option Nat) (x:MX) (off:Nat) (t):VW P nk (⟨none,d,.fieldAddr x off⟩ :: r) e s K t=V P nk [⟨none,d,.fieldAddr x off⟩] e s (fun e s=>VW P nk r e s K .mk) .mk:=VW_op d rfl rfl t
theorem VW_load (d:Option Nat) (n:Option Nat) (x:MX) (t):VW P nk (⟨none,d,.load n x⟩ :: r) e s K t=V P nk [⟨none,d,.load n x⟩] e s (fun e s=>VW P nk r e s K .mk) .mk:=VW_op d rfl rfl t
theorem VW_len (d:Option Nat) (str:Bool) (x:MX) (t):VW P nk (⟨none,d,.len str x⟩ :: r) e s K t=V P nk [⟨none,d,.len str x⟩] e s (fun e s=>VW P nk r e s K .mk) .mk:=VW_op d rfl rfl t
theorem VW_buildSlice (d:Nat) (ty sz n:Nat) (zero:AV) (parts:List (Nat × MX)) (t):VW P nk (⟨none,some d,.buildSlice ty sz n zero parts⟩ :: r) e s K t=V P nk [⟨none,some d,.buildSlice ty sz n zero parts⟩] e s (fun e' s'=>frzG ty sz (e' d) (s' d) fun es=>VW P nk r (putO e (some d) (.sl es)) s K .mk) .mk:=by
 have h:∀ v:AV,putO e (some d) v d=v:=fun v=>upd_same _ _ _
 have h2:VW P nk (⟨none,some d,.buildSlice ty sz n zero parts⟩ :: r) e s K t=bindP (ex d (.buildSlice ty sz n zero parts) e s) (fun v s'=>frzG ty sz v (s' d) fun es=>VW P nk r (putO e (some d) (.sl es)) s K .mk):=rfl
 have h3:V P nk [⟨none,some d,.buildSlice ty sz n zero parts⟩] e s (fun e' s'=>frzG ty sz (e' d) (s' d) fun es=>VW P nk r (putO e (some d) (.sl es)) s K .mk) .mk=bindP (ex d (.buildSlice ty sz n zero parts) e s) (fun v s'=>frzG ty sz (putO e (some d) v d) (s' d) fun es=>VW P nk r (putO e (some d) (.sl es)) s K .mk):=rfl
 rw [h2,h3]
 congr 1
 funext v s'
 rw [h]
theorem VW_extract (d:Option Nat) (x:MX) (i:Nat) (t):VW P nk (⟨none,d,.extract x i⟩ :: r) e s K t=V P nk [⟨none,d,.extract x i⟩] e s (fun e s=>VW P nk r e s K .mk) .mk:=VW_op d rfl rfl t
theorem VW_un (d:Option Nat) (op:UnOp) (x:MX) (t):VW P nk (⟨none,d,.un op x⟩ :: r) e s K t=V P nk [⟨none,d,.un op x⟩] e s (fun e s=>VW P nk r e s K .mk) .mk:=VW_op d rfl rfl t
theorem VW_indexAddr (d:Option Nat) (x i:MX) (sz:Nat) (t):VW P nk (⟨none,d,.indexAddr x i sz⟩ :: r) e s K t=V P nk [⟨none,d,.indexAddr x i sz⟩] e s (fun e s=>VW P nk r e s K .mk) .mk:=VW_op d rfl rfl t
theorem VW_store (d:Option Nat) (n:Nat) (x v:MX) (t):VW P nk (⟨none,d,.store n x v⟩ :: r) e s K t=V P nk [⟨none,d,.store n x v⟩] e s (fun e s=>VW P nk r e s K .mk) .mk:=VW_op d rfl rfl t
theorem VW_build (d:Option Nat) (zero:List AV) (parts:List (Nat × Nat × MX)) (t):VW P nk (⟨none,d,.build zero parts⟩ :: r) e s K t=V P nk [⟨none,d,.build zero parts⟩] e s (fun e s=>VW P nk r e s K .mk) .mk:=VW_op d rfl rfl t
end
def vcWr:=And.intro @VW_nil <| And.intro @VW_bin <| And.intro @VW_mv <| And.intro @VW_call <| And.intro @VW_fieldAddr <| And.intro @VW_load <| And.intro @VW_len <| And.intro @VW_buildSlice <| And.intro @VW_extract <| And.intro @frzG_buf <| And.intro @VW_un <| And.intro @VW_indexAddr <| And.intro @VW_store <| And.intro @VW_build <| And.intro @binT_add <| And.intro @binT_sub <| And.intro @binT_mul <| And.intro @binT_eql <| And.intro @binT_neq <| And.intro @binT_lss <| And.intro @binT_leq <| And.intro @binT_gtr <| @binT_geq
theorem upd_upd {α:Type} (f:Nat→α) (n:Nat) (a b:α):upd (upd f n a) n b=upd f n b:=by
 funext k;unfold upd;split <;> rfl
def vcL':=And.intro @fgt_app <| And.intro @fgt_upd <| And.intro @fgt_argE <| And.intro @fgt_envOf <| And.intro @fgt_lf <| And.intro @lf_app <| And.intro @regKL_eq <| And.intro @letE_eq <| And.intro @WL_skip <| And.intro @WL_reg <| And.intro @WL_regW <| And.intro vcWr <| And.intro @WL_seq <| And.intro @WL_cond <| And.intro @WL_block <| And.intro @WL_exit <| And.intro @WL_ret <| @upd_upd
def vcP:=And.intro @Option.bind_some.{0,0} <| And.intro @Option.map_some.{0,0} <| And.intro @List.map_cons.{0,0} <| And.intro @List.map_nil.{0,0} <| And.intro @List.length_cons.{0} <| And.intro @List.length_nil.{0} <| And.intro @Option.getD_some.{0} <| And.intro @Option.getD_none.{0} <| And.intro @List.all_cons.{0} <| And.intro @List.all_nil.{0} <| And.intro @List.set_cons_zero.{0} <| And.intro @List.set_cons_succ.{0} <| And.intro @List.replicate_succ.{0} <| And.intro @List.replicate_zero.{0} <| And.intro @List.getElem?_cons_zero.{0} <| And.intro @List.getElem?_cons_succ.{0} <| And.intro @List.drop_succ_cons.{0} <| And.intro @List.drop_zero.{0} <| And.intro @List.take_succ_cons.{0} <| @List.take_zero.{0}
def vcP2:=And.intro @List.map_append.{0,0} <| And.intro @List.nil_append.{0} <| And.intro @List.cons_append.{0} <| vcP
def vcC:=And.intro vcAll <| And.intro @decide_true <| And.intro @decide_false <| And.intro @Bool.true_and <| And.intro @true_and <| And.intro @and_true <| And.intro @Bool.not_true <| And.intro @Bool.not_false <| And.intro @ints_length <| And.intro @Int.toNat_natCast <| And.intro @Bool.and_true <| @Bool.and_self
def vcV:=And.intro vcC <| And.intro vcB <| And.intro vcE <| And.intro vcL' <| And.intro @Bool.false_and <| And.intro @Bool.and_false <| And.intro @Bool.not_not <| And.intro @Bool.false_eq_true <| And.intro @rfQ_n <| And.intro @rfQ_r <| And.intro @rfQ_x <| And.intro @updL_cons <| @updL_nil
def vcK:=And.intro vcC <| And.intro @allK_nil <| And.intro @allK_some <| And.intro @allK_none <| And.intro @allR_nil <| And.intro @allR_cons <| And.intro @keyOf_cons <| And.intro @exB <| @Nat.lt_add_one
end Go.Av

