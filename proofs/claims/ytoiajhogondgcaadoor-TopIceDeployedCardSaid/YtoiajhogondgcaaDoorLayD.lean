/- Iterators' conditions, step by step; the statement that ranges. By an AI agent; nothing here is trusted. -/
import Derived.Test.YtoiajhogondgcaaDoorLayC
import Derived.Test.YtoiajhogondgcaaDoorLayA
import Derived.Test.YtoiajhogondgcaaDoorLayB
import Derived.ProofKit
import Derived.OpenShut
import Derived.ShutString
import Derived.ChangeOld
import Derived.Below
import Derived.Carry
import Derived.LoopNIn
import Derived.Maps.RangeRun
set_option linter.defProp false
set_option linter.unusedSimpArgs false
set_option linter.unusedVariables false
namespace Go.Av

section
variable {P:Program} {l:Nat} {xs:List (List AV)} {N:Nat}

def yS (l:Nat) (xs:List (List AV)) (v:AV) (args:List AV) (t:Tr) (K:AV→Tr→Prop) (_:Tag K):Prop :=
 v=.yld l∧∃ pre rest,t=some pre∧pre ++ args :: rest=xs∧K (.bool true) (some (pre ++ [args]))∧K (.bool false) none

def isCallv:MOp→Bool
 | .callv ..=>true
 | _=>false

theorem isCallv_mv (x:MX):isCallv (.mv x)=false:=rfl
theorem isCallv_pick (c a b:MX):isCallv (.pick c a b)=false:=rfl
theorem isCallv_alloc (ty sz:Nat) (z:AV):isCallv (.alloc ty sz z)=false:=rfl
theorem isCallv_box (ty sz:Nat) (x:MX):isCallv (.box ty sz x)=false:=rfl
theorem isCallv_build (z:List AV) (ps:List (Nat × Nat × MX)):isCallv (.build z ps)=false:=rfl
theorem isCallv_buildSlice (ty sz n:Nat) (z:AV) (ps:List (Nat × MX)):isCallv (.buildSlice ty sz n z ps)=false:=rfl
theorem isCallv_load (n:Option Nat) (x:MX):isCallv (.load n x)=false:=rfl
theorem isCallv_store (n:Nat) (x v:MX):isCallv (.store n x v)=false:=rfl
theorem isCallv_nilCheck (x:MX):isCallv (.nilCheck x)=false:=rfl
theorem isCallv_bin (op:BinOp) (x y:MX):isCallv (.bin op x y)=false:=rfl
theorem isCallv_eqB (neg:Bool) (x y:MX):isCallv (.eqB neg x y)=false:=rfl
theorem isCallv_un (op:UnOp) (x:MX):isCallv (.un op x)=false:=rfl
theorem isCallv_convI (k:IntKind) (x:MX):isCallv (.convI k x)=false:=rfl
theorem isCallv_makeFunc (f:FuncId) (caps:List MX):isCallv (.makeFunc f caps)=false:=rfl
theorem isCallv_fieldAddr (x:MX) (off:Nat):isCallv (.fieldAddr x off)=false:=rfl
theorem isCallv_field (x:MX) (off:Nat) (n:Option Nat):isCallv (.field x off n)=false:=rfl
theorem isCallv_indexAddr (x i:MX) (sz:Nat):isCallv (.indexAddr x i sz)=false:=rfl
theorem isCallv_indexArr (x i:MX) (sz len:Nat):isCallv (.indexArr x i sz len)=false:=rfl
theorem isCallv_index (x i:MX):isCallv (.index x i)=false:=rfl
theorem isCallv_indexV (x i:MX) (sz len:Nat) (n:Option Nat):isCallv (.indexV x i sz len n)=false:=rfl
theorem isCallv_extract (x:MX) (i:Nat):isCallv (.extract x i)=false:=rfl
theorem isCallv_call (f:FuncId) (ys:List MX):isCallv (.call f ys)=false:=rfl
theorem isCallv_len (str:Bool) (x:MX):isCallv (.len str x)=false:=rfl
theorem isCallv_slice (str:Bool) (sz:Nat) (x:MX) (lo hi:Option MX):isCallv (.slice str sz x lo hi)=false:=rfl

def VY0 (P:Program) (l:Nat) (xs:List (List AV)):List MS→Env→Store→Tr→(Env→Store→Tr→Prop)→Prop
 | [],e,s,t,K=>K e s t
 | ⟨g,d,o⟩ :: r,e,s,t,K=>match o with
  | .callv x as=>match g with
   | none=>yS l xs (x.ev e) ((as.map fun x=>x.ev e).map (bor s 5)) t (fun v t'=>VY0 P l xs r (putO e d v) (deadAll s) t' K) .mk
   | some (n,w)=>onB (e n) (fun b=>brB b w (yS l xs (x.ev (upd e n (.bool w))) ((as.map fun x=>x.ev (upd e n (.bool w))).map (bor s 5)) t (fun v t'=>VY0 P l xs r (putO (upd e n (.bool w)) d v) (deadAll s) t' K) .mk)
     (VY0 P l xs r (putO (upd e n (.bool (!w))) d (.tup [])) s t K) .mk) (VY0 P l xs r (putO e d (.tup [])) s t K) .mk
  | o=>V P false [⟨g,d,o⟩] e s (fun e s=>VY0 P l xs r e s t K) .mk

theorem vcOp_mono {nk:Bool} {d:Nat} {o:MOp} {e:Env} {s:Store} {A B:AV→Store→Prop} (hab:∀ v s,A v s→B v s) (h:vcOp P nk d o e s A):vcOp P nk d o e s B:=by
 have hk:∀ {f:FuncId} {args:List AV} {l:List Nat} {vs:List AV},callP P nk d f args l vs s A→callP P nk d f args l vs s B:=by
  intro f args l vs h
  rcases h with ⟨v,h1,hu,h⟩ | ⟨hn,ty,sz,es,h1,h2,h3⟩ | ⟨hn,g,news,ks,h1,q1,q2,q3,h3⟩ | ⟨ty,sz,es,h1,he,hu,h3⟩ | ⟨hn,k,ty,sz,es,es2,v,k1,k2,k3,k4,k5,k6,k7,h3⟩
  ·refine .inl ⟨v,h1,hu,?_⟩
   split
   ·rename_i hs;rw [if_pos hs] at h;exact hab _ _ h
   ·rename_i hs
    rw [if_neg hs] at h
    split
    ·rename_i hn;rw [if_pos hn] at h;exact ⟨h.1,hab _ _ h.2⟩
    ·rename_i hn;rw [if_neg hn] at h;exact hab _ _ h
  ·exact .inr (.inl ⟨hn,ty,sz,es,h1,h2,hab _ _ h3⟩)
  ·exact .inr (.inr (.inl ⟨hn,g,news,ks,h1,q1,q2,q3,hab _ _ h3⟩))
  ·exact .inr (.inr (.inr (.inl ⟨ty,sz,es,h1,he,hu,hab _ _ h3⟩)))
  ·exact .inr (.inr (.inr (.inr ⟨hn,k,ty,sz,es,es2,v,k1,k2,k3,k4,k5,k6,k7,hab _ _ h3⟩)))
 cases o with
 | call f xs=>exact hk h
 | callv x xs =>
  simp only [vcOp] at h ⊢
  split at h
  ·exact hk h
  ·exact h.elim
 | _=>obtain ⟨v,t,h1,h2⟩:=h;exact ⟨v,t,h1,hab _ _ h2⟩

theorem vcL_mono {nk:Bool}:∀ {ss:List MS} {e:Env} {s:Store} {A B:Env→Store→Prop},(∀ e s,A e s→B e s)→vcL P nk ss e s A→vcL P nk ss e s B
 | [],_,_,_,_,hab,h=>hab _ _ h
 | ⟨g,d,o⟩ :: r,e,s,A,B,hab,h=>by
  cases g with
  | none=>exact vcOp_mono (fun v s h=>vcL_mono hab h) h
  | some nw =>
   obtain ⟨n,w⟩:=nw
   simp only [vcL] at h ⊢
   split at h
   ·exact ⟨fun hb=>vcOp_mono (fun v s h=>vcL_mono hab h) (h.1 hb),fun hb=>vcL_mono hab (h.2 hb)⟩
   ·exact vcL_mono hab h
   ·exact h.elim

theorem vcY_plain {g:Option (Nat × Bool)} {d:Option Nat} {o:MOp} (hm:isCallv o=false) {r:List MS} {e:Env} {s:Store} {t:Tr} {K:Env→Store→Tr→Prop} (h:vcL P false [⟨g,d,o⟩] e s fun e s=>vcY P l xs r e s t K):vcY P l xs (⟨g,d,o⟩ :: r) e s t K:=by
 have key:∀ {d:Nat} {e:Env} {K:AV→Store→Tr→Prop},vcOp P false d o e s (fun v s'=>K v s' t)→vcOpY P l xs d o e s t K:=by
  intro d e K h
  cases o <;> first
   | (cases hm;done)
   | exact h
 cases g with
 | none=>exact key (K:=fun v s' t'=>vcY P l xs r (putO e _ v) s' t' K) h
 | some nw =>
  obtain ⟨n,w⟩:=nw
  simp only [vcL] at h
  simp only [vcY]
  split at h
  ·rename_i b hb
   try rw [hb]
   exact ⟨fun hb=>key (K:=fun v s' t'=>vcY P l xs r (putO _ _ v) s' t' K) (h.1 hb),h.2⟩
  ·rename_i hb
   try rw [hb]
   exact h
  ·exact h.elim

theorem VY0_sound:∀ {ss:List MS} {e:Env} {s:Store} {t:Tr} {K:Env→Store→Tr→Prop},VY0 P l xs ss e s t K→vcY P l xs ss e s t K
 | [],_,_,_,_,h=>h
 | ⟨g,d,o⟩ :: r,e,s,t,K,h=>by
  cases o with
  | callv x as =>
   have one:∀ {e:Env} {dd:Nat},yS l xs (x.ev e) ((as.map fun x=>x.ev e).map (bor s 5)) t (fun v t'=>VY0 P l xs r (putO e d v) (deadAll s) t' K) .mk →
     vcOpY P l xs dd (.callv x as) e s t fun v s' t'=>vcY P l xs r (putO e d v) s' t' K:=by
    rintro e dd ⟨h0,pre,rest,h1,h2,h3,h4⟩
    unfold vcOpY
    simp only [h0]
    exact ⟨trivial,pre,rest,h1,h2,VY0_sound h3,VY0_sound h4⟩
   simp only [VY0] at h
   simp only [vcY]
   split at h
   ·exact one h
   ·rename_i n w
    unfold onB at h
    simp only
    split at h
    ·rename_i b hb
     try rw [hb]
     exact ⟨fun hbw=>one (h.1 hbw),fun hbw=>VY0_sound (h.2 hbw)⟩
    ·rename_i hb
     try rw [hb]
     exact VY0_sound h
    ·exact h.elim
  | _=>exact vcY_plain rfl (vcL_mono (fun e s h=>VY0_sound h) h)

def VY (P:Program) (l:Nat) (xs:List (List AV)) (ss:List MS) (e:Env) (s:Store) (t:Tr) (K:Env→Store→Tr→Prop) (_:Tag (ss,e,s,K)):Prop:=VY0 P l xs ss e s t K
variable {r:List MS} {e:Env} {s:Store} {t:Tr} {K:Env→Store→Tr→Prop}
theorem VY_nil (g):VY P l xs [] e s t K g=K e s t:=rfl
theorem VY_yld (d:Option Nat) (x:MX) (as:List MX) (g):VY P l xs (⟨none,d,.callv x as⟩ :: r) e s t K g =
  letV (x.ev e) (fun v=>letL (as.map fun x=>x.ev e) (fun as=>yS l xs v (as.map (bor s 5)) t (fun v t'=>VY P l xs r (putO e d v) (deadAll s) t' K .mk) .mk) .mk) .mk:=rfl
theorem VY_yldg (n:Nat) (w:Bool) (d:Option Nat) (x:MX) (as:List MX) (g):VY P l xs (⟨some (n,w),d,.callv x as⟩ :: r) e s t K g =
  onB (e n) (fun b=>brB b w (VY P l xs (⟨none,d,.callv x as⟩ :: r) (upd e n (.bool w)) s t K .mk) (VY P l xs r (putO (upd e n (.bool (!w))) d (.tup [])) s t K .mk) .mk) (VY P l xs r (putO e d (.tup [])) s t K .mk) .mk:=rfl
theorem yS_of {args:List AV} {Kt:AV→Tr→Prop} {g} (pre rest:List (List AV)) (ht:t=some pre) (hx:pre ++ args :: rest=xs) (h1:Kt (.bool true) (some (pre ++ [args]))) (h2:Kt (.bool false) none):yS l xs (.yld l) args t Kt g :=
 ⟨rfl,pre,rest,ht,hx,h1,h2⟩

def isY (ss:List MS):Bool:=ss.any fun m=>isCallv m.o
def seqY (K:Env→Store→Tr→Prop) (Q:Exit→Env→Store→Tr→Prop) (_:Tag (K,Q)):Exit→Env→Store→Tr→Prop:=fun x e s t=>match x with
 | .normal=>K e s t
 | x=>Q x e s t
def blockY (id:Nat) (Q:Exit→Env→Store→Tr→Prop) (_:Tag Q):Exit→Env→Store→Tr→Prop:=fun x e s t=>match x with
 | .exit id'=>if id'=id then Q .normal e s t else Q (.exit id') e s t
 | x=>Q x e s t
def WY0 (P:Program) (l:Nat) (xs:List (List AV)) (N:Nat):MC→(Exit→Env→Store→Tr→Prop)→Env→Store→Tr→Prop
 | .skip,Q,e,s,t=>Q .normal e s t
 | .reg ss draw conf,Q,e,s,t=>if isY ss && !draw then VY P l xs ss e s t (fun e s t=>Q .normal e s t) .mk else V P draw ss e s (fun e s=>confOk conf e∧Q .normal e s t) .mk
 | .seq a b,Q,e,s,t=>WY0 P l xs N a (seqY (fun e s t=>WY0 P l xs N b Q e s t) Q .mk) e s t
 | .cond x a b,Q,e,s,t=>condS (x.ev e) (WY0 P l xs N a Q e s t) (WY0 P l xs N b Q e s t) .mk
 | .block id a,Q,e,s,t=>WY0 P l xs N a (blockY id Q .mk) e s t
 | .exit id,Q,e,s,t=>Q (.exit id) e s t
 | .ret,Q,e,s,t=>Q .ret e s t
 | .regT ss cf tl,Q,e,s,t=>V P true ss e s (fun e' s'=>confOk cf e'∧VY P l xs tl e' s' t (fun e s t=>Q .normal e s t) .mk) .mk
 | m,Q,e,s,t=>AIM P l xs N m Q e s t

theorem WY0_sound:∀ (m:MC) {Q:Exit→Env→Store→Tr→Prop} {e:Env} {s:Store} {t:Tr},WY0 P l xs N m Q e s t→AIM P l xs N m Q e s t
 | .skip,_,_,_,_,h=>AIM.skip h
 | .reg ss draw conf,_,_,_,_,h=>by
  simp only [WY0] at h
  split at h
  ·rename_i hc
   simp only [Bool.and_eq_true,Bool.not_eq_true'] at hc
   obtain ⟨_,rfl⟩:=hc
   exact AIM.regY (VY0_sound h)
  ·exact AIM.reg h
 | .seq a b,Q,_,_,_,h=>AIM.seq ((WY0_sound a h).mono fun x e s t h=>by
   cases x with
   | normal=>exact WY0_sound b h
   | _=>exact h)
 | .cond x a b,_,e,_,_,h=>by
  simp only [WY0] at h
  unfold condS at h
  split at h
  ·rename_i b hb
   exact AIM.cond hb (fun hb=>WY0_sound a (h.1 hb)) (fun hb=>WY0_sound _ (h.2 hb))
  ·exact h.elim
 | .block _ a,_,_,_,_,h=>AIM.block (WY0_sound a h)
 | .exit _,_,_,_,_,h=>AIM.exit h
 | .ret,_,_,_,_,h=>AIM.ret h
 | .loop _,_,_,_,_,h=>h
 | .rf ..,_,_,_,_,h=>h
 | .nextm ..,_,_,_,_,h=>h
 | .regT ..,_,_,_,_,h=>AIM.regT (vcL_mono (fun _ _ ⟨h1,h2⟩=>⟨h1,VY0_sound h2⟩) h)

def WY (P:Program) (l:Nat) (xs:List (List AV)) (N:Nat) (m:MC) (Q:Exit→Env→Store→Tr→Prop) (e:Env) (s:Store) (t:Tr) (_:Tag (m,Q,e,s)):Prop:=WY0 P l xs N m Q e s t
variable {Q:Exit→Env→Store→Tr→Prop}
theorem WY_skip (g):WY P l xs N .skip Q e s t g=Q .normal e s t:=rfl
theorem WY_reg {ss:List MS} {draw:Bool} {conf:List (MS × MS)} (h:(isY ss && !draw)=false) (g):WY P l xs N (.reg ss draw conf) Q e s t g=V P draw ss e s (fun e s=>confOk conf e∧Q .normal e s t) .mk:=by
 unfold WY;simp only [WY0,h];rfl
theorem WY_regY {ss:List MS} {conf:List (MS × MS)} (h:isY ss=true) (g):WY P l xs N (.reg ss false conf) Q e s t g=VY P l xs ss e s t (fun e s t=>Q .normal e s t) .mk:=by
 unfold WY;simp only [WY0,h];rfl
theorem WY_seq (a b:MC) (g):WY P l xs N (.seq a b) Q e s t g=WY P l xs N a (seqY (fun e s t=>WY P l xs N b Q e s t .mk) Q .mk) e s t .mk:=rfl
theorem WY_cond (x:MX) (a b:MC) (g):WY P l xs N (.cond x a b) Q e s t g=condS (x.ev e) (WY P l xs N a Q e s t .mk) (WY P l xs N b Q e s t .mk) .mk:=rfl
theorem WY_block (id:Nat) (a:MC) (g):WY P l xs N (.block id a) Q e s t g=WY P l xs N a (blockY id Q .mk) e s t .mk:=rfl
theorem WY_exit (id:Nat) (g):WY P l xs N (.exit id) Q e s t g=Q (.exit id) e s t:=rfl
theorem WY_regT (ss:List MS) (cf:List (MS × MS)) (tl:List MS) (g):WY P l xs N (.regT ss cf tl) Q e s t g=V P true ss e s (fun e' s'=>confOk cf e'∧VY P l xs tl e' s' t (fun e s t=>Q .normal e s t) .mk) .mk:=rfl
theorem WY_ret (g):WY P l xs N .ret Q e s t g=Q .ret e s t:=rfl
theorem seqY_n (K:Env→Store→Tr→Prop) (Q:Exit→Env→Store→Tr→Prop) (g) (e:Env) (s:Store) (t:Tr):seqY K Q g .normal e s t=K e s t:=rfl
theorem seqY_r (K:Env→Store→Tr→Prop) (Q:Exit→Env→Store→Tr→Prop) (g) (e:Env) (s:Store) (t:Tr):seqY K Q g .ret e s t=Q .ret e s t:=rfl
theorem seqY_x (K:Env→Store→Tr→Prop) (Q:Exit→Env→Store→Tr→Prop) (g) (id:Nat) (e:Env) (s:Store) (t:Tr):seqY K Q g (.exit id) e s t=Q (.exit id) e s t:=rfl
theorem blockY_n (i:Nat) (Q:Exit→Env→Store→Tr→Prop) (g) (e:Env) (s:Store) (t:Tr):blockY i Q g .normal e s t=Q .normal e s t:=rfl
theorem blockY_r (i:Nat) (Q:Exit→Env→Store→Tr→Prop) (g) (e:Env) (s:Store) (t:Tr):blockY i Q g .ret e s t=Q .ret e s t:=rfl
theorem blockY_x (i:Nat) (Q:Exit→Env→Store→Tr→Prop) (g) (id:Nat) (e:Env) (s:Store) (t:Tr):blockY i Q g (.exit id) e s t=if id=i then Q .normal e s t else Q (.exit id) e s t:=rfl

theorem WY_sound {m:MC} {g} (h:WY P l xs N m Q e s t g):AIM P l xs N m Q e s t:=WY0_sound m h

theorem WY_loop {α:Type} (st:α→(Env × Store) × Tr) (mu:α→Nat) (x0:α) {b:MC} {g} (h0:Weak (e,s) (st x0).1) (ht0:t=(st x0).2)
  (hb:∀ x,WY P l xs N b (fun ex e' s' t'=>match ex with
   | .normal=>∃ y,mu y<mu x∧Weak (e',s') (st y).1∧t'=(st y).2
   | ex=>Q ex e' s' t') (st x).1.1 (st x).1.2 (st x).2 .mk):WY P l xs N (.loop b) Q e s t g :=
 AIM.loop st mu x0 h0 ht0 fun x=>WY_sound (hb x)

theorem W_rf {x:MX} {ps:List Nat} {ma mb:MC} {Q:Exit→Env→Store→Prop} {e:Env} {s:Store} {g:FuncId} {caps:List AV} {xs:List (List AV)} {tt} (hx:x.ev e=.fn g caps) (himm:∀ c ∈ caps,imm c=true)
  (hfa:ma.flat=true) (hfb:mb.flat=true) (hseq:SeqA P g caps xs) (hps:∀ x ∈ xs,x.length=ps.length) (st:List (List AV)→Store) (h0:Weak (e,s) (e,st []))
  (hround:∀ (pre:List (List AV)) (x:List AV) (rest:List (List AV)),pre ++ x :: rest=xs →
   W P N ma (fun ex e1 s1=>ex=.normal∧W P N mb (rfQ Q e (st (pre ++ [x]))) e1 s1 .mk) (updL e ps x) (st pre) .mk)
  (hend:Q .normal e (st xs)):W P N (.rf x ps ma mb) Q e s tt :=
 AWM.rf hx himm hfa hfb hseq hps st h0 (fun pre x rest h=>(W_sound (hround pre x rest h)).mono fun ex e1 s1 ⟨h1,h2⟩=>⟨h1,W_sound h2⟩) (fun _=>hend)
theorem rfQ_n (Q:Exit→Env→Store→Prop) (e:Env) (s':Store) (e2:Env) (s2:Store):rfQ Q e s' .normal e2 s2=Weak (e,s2) (e,s'):=rfl
theorem rfQ_r (Q:Exit→Env→Store→Prop) (e:Env) (s':Store) (e2:Env) (s2:Store):rfQ Q e s' .ret e2 s2=Q .ret e s2:=rfl
theorem rfQ_x (Q:Exit→Env→Store→Prop) (e:Env) (s':Store) (id:Nat) (e2:Env) (s2:Store):rfQ Q e s' (.exit id) e2 s2=Q (.exit id) e s2:=rfl
theorem updL_nil (e:Env) (vs:List AV):updL e [] vs=e:=by cases vs <;> rfl
theorem updL_cons (e:Env) (p:Nat) (ps:List Nat) (v:AV) (vs:List AV):updL e (p :: ps) (v :: vs)=updL (upd e p v) ps vs:=rfl
end

section
variable {P:Program} {l:Nat} {xs:List (List AV)} {r:List MS} {e:Env} {s:Store} {t:Tr} {K:Env→Store→Tr→Prop}
theorem VY_p_mv (g:Option (Nat × Bool)) (d:Option Nat) (x:MX) (gg):VY P l xs (⟨g,d,.mv x⟩ :: r) e s t K gg=V P false [⟨g,d,.mv x⟩] e s (fun e s=>VY P l xs r e s t K .mk) .mk:=rfl
theorem VY_p_pick (g:Option (Nat × Bool)) (d:Option Nat) (c a b:MX) (gg):VY P l xs (⟨g,d,.pick c a b⟩ :: r) e s t K gg=V P false [⟨g,d,.pick c a b⟩] e s (fun e s=>VY P l xs r e s t K .mk) .mk:=rfl
theorem VY_p_alloc (g:Option (Nat × Bool)) (d:Option Nat) (ty sz:Nat) (z:AV) (gg):VY P l xs (⟨g,d,.alloc ty sz z⟩ :: r) e s t K gg=V P false [⟨g,d,.alloc ty sz z⟩] e s (fun e s=>VY P l xs r e s t K .mk) .mk:=rfl
theorem VY_p_box (g:Option (Nat × Bool)) (d:Option Nat) (ty sz:Nat) (x:MX) (gg):VY P l xs (⟨g,d,.box ty sz x⟩ :: r) e s t K gg=V P false [⟨g,d,.box ty sz x⟩] e s (fun e s=>VY P l xs r e s t K .mk) .mk:=rfl
theorem VY_p_build (g:Option (Nat × Bool)) (d:Option Nat) (z:List AV) (ps:List (Nat × Nat × MX)) (gg):VY P l xs (⟨g,d,.build z ps⟩ :: r) e s t K gg=V P false [⟨g,d,.build z ps⟩] e s (fun e s=>VY P l xs r e s t K .mk) .mk:=rfl
theorem VY_p_buildSlice (g:Option (Nat × Bool)) (d:Option Nat) (ty sz n:Nat) (z:AV) (ps:List (Nat × MX)) (gg):VY P l xs (⟨g,d,.buildSlice ty sz n z ps⟩ :: r) e s t K gg=V P false [⟨g,d,.buildSlice ty sz n z ps⟩] e s (fun e s=>VY P l xs r e s t K .mk) .mk:=rfl
theorem VY_p_load (g:Option (Nat × Bool)) (d:Option Nat) (n:Option Nat) (x:MX) (gg):VY P l xs (⟨g,d,.load n x⟩ :: r) e s t K gg=V P false [⟨g,d,.load n x⟩] e s (fun e s=>VY P l xs r e s t K .mk) .mk:=rfl
theorem VY_p_store (g:Option (Nat × Bool)) (d:Option Nat) (n:Nat) (x v:MX) (gg):VY P l xs (⟨g,d,.store n x v⟩ :: r) e s t K gg=V P false [⟨g,d,.store n x v⟩] e s (fun e s=>VY P l xs r e s t K .mk) .mk:=rfl
theorem VY_p_nilCheck (g:Option (Nat × Bool)) (d:Option Nat) (x:MX) (gg):VY P l xs (⟨g,d,.nilCheck x⟩ :: r) e s t K gg=V P false [⟨g,d,.nilCheck x⟩] e s (fun e s=>VY P l xs r e s t K .mk) .mk:=rfl
theorem VY_p_bin (g:Option (Nat × Bool)) (d:Option Nat) (op:BinOp) (x y:MX) (gg):VY P l xs (⟨g,d,.bin op x y⟩ :: r) e s t K gg=V P false [⟨g,d,.bin op x y⟩] e s (fun e s=>VY P l xs r e s t K .mk) .mk:=rfl
theorem VY_p_eqB (g:Option (Nat × Bool)) (d:Option Nat) (neg:Bool) (x y:MX) (gg):VY P l xs (⟨g,d,.eqB neg x y⟩ :: r) e s t K gg=V P false [⟨g,d,.eqB neg x y⟩] e s (fun e s=>VY P l xs r e s t K .mk) .mk:=rfl
theorem VY_p_un (g:Option (Nat × Bool)) (d:Option Nat) (op:UnOp) (x:MX) (gg):VY P l xs (⟨g,d,.un op x⟩ :: r) e s t K gg=V P false [⟨g,d,.un op x⟩] e s (fun e s=>VY P l xs r e s t K .mk) .mk:=rfl
theorem VY_p_convI (g:Option (Nat × Bool)) (d:Option Nat) (k:IntKind) (x:MX) (gg):VY P l xs (⟨g,d,.convI k x⟩ :: r) e s t K gg=V P false [⟨g,d,.convI k x⟩] e s (fun e s=>VY P l xs r e s t K .mk) .mk:=rfl
theorem VY_p_makeFunc (g:Option (Nat × Bool)) (d:Option Nat) (f:FuncId) (caps:List MX) (gg):VY P l xs (⟨g,d,.makeFunc f caps⟩ :: r) e s t K gg=V P false [⟨g,d,.makeFunc f caps⟩] e s (fun e s=>VY P l xs r e s t K .mk) .mk:=rfl
theorem VY_p_fieldAddr (g:Option (Nat × Bool)) (d:Option Nat) (x:MX) (off:Nat) (gg):VY P l xs (⟨g,d,.fieldAddr x off⟩ :: r) e s t K gg=V P false [⟨g,d,.fieldAddr x off⟩] e s (fun e s=>VY P l xs r e s t K .mk) .mk:=rfl
theorem VY_p_field (g:Option (Nat × Bool)) (d:Option Nat) (x:MX) (off:Nat) (n:Option Nat) (gg):VY P l xs (⟨g,d,.field x off n⟩ :: r) e s t K gg=V P false [⟨g,d,.field x off n⟩] e s (fun e s=>VY P l xs r e s t K .mk) .mk:=rfl
theorem VY_p_indexAddr (g:Option (Nat × Bool)) (d:Option Nat) (x i:MX) (sz:Nat) (gg):VY P l xs (⟨g,d,.indexAddr x i sz⟩ :: r) e s t K gg=V P false [⟨g,d,.indexAddr x i sz⟩] e s (fun e s=>VY P l xs r e s t K .mk) .mk:=rfl
theorem VY_p_indexArr (g:Option (Nat × Bool)) (d:Option Nat) (x i:MX) (sz len:Nat) (gg):VY P l xs (⟨g,d,.indexArr x i sz len⟩ :: r) e s t K gg=V P false [⟨g,d,.indexArr x i sz len⟩] e s (fun e s=>VY P l xs r e s t K .mk) .mk:=rfl
theorem VY_p_index (g:Option (Nat × Bool)) (d:Option Nat) (x i:MX) (gg):VY P l xs (⟨g,d,.index x i⟩ :: r) e s t K gg=V P false [⟨g,d,.index x i⟩] e s (fun e s=>VY P l xs r e s t K .mk) .mk:=rfl
theorem VY_p_indexV (g:Option (Nat × Bool)) (d:Option Nat) (x i:MX) (sz len:Nat) (n:Option Nat) (gg):VY P l xs (⟨g,d,.indexV x i sz len n⟩ :: r) e s t K gg=V P false [⟨g,d,.indexV x i sz len n⟩] e s (fun e s=>VY P l xs r e s t K .mk) .mk:=rfl
theorem VY_p_extract (g:Option (Nat × Bool)) (d:Option Nat) (x:MX) (i:Nat) (gg):VY P l xs (⟨g,d,.extract x i⟩ :: r) e s t K gg=V P false [⟨g,d,.extract x i⟩] e s (fun e s=>VY P l xs r e s t K .mk) .mk:=rfl
theorem VY_p_call (g:Option (Nat × Bool)) (d:Option Nat) (f:FuncId) (ys:List MX) (gg):VY P l xs (⟨g,d,.call f ys⟩ :: r) e s t K gg=V P false [⟨g,d,.call f ys⟩] e s (fun e s=>VY P l xs r e s t K .mk) .mk:=rfl
theorem VY_p_len (g:Option (Nat × Bool)) (d:Option Nat) (str:Bool) (x:MX) (gg):VY P l xs (⟨g,d,.len str x⟩ :: r) e s t K gg=V P false [⟨g,d,.len str x⟩] e s (fun e s=>VY P l xs r e s t K .mk) .mk:=rfl
theorem VY_p_slice (g:Option (Nat × Bool)) (d:Option Nat) (str:Bool) (sz:Nat) (x:MX) (lo hi:Option MX) (gg):VY P l xs (⟨g,d,.slice str sz x lo hi⟩ :: r) e s t K gg=V P false [⟨g,d,.slice str sz x lo hi⟩] e s (fun e s=>VY P l xs r e s t K .mk) .mk:=rfl
end
def VY_ps:=And.intro @VY_p_mv <| And.intro @VY_p_pick <| And.intro @VY_p_alloc <| And.intro @VY_p_box <| And.intro @VY_p_build <| And.intro @VY_p_buildSlice <| And.intro @VY_p_load <| And.intro @VY_p_store <| And.intro @VY_p_nilCheck <| And.intro @VY_p_bin <| And.intro @VY_p_eqB <| And.intro @VY_p_un <| And.intro @VY_p_convI <| And.intro @VY_p_makeFunc <| And.intro @VY_p_fieldAddr <| And.intro @VY_p_field <| And.intro @VY_p_indexAddr <| And.intro @VY_p_indexArr <| And.intro @VY_p_index <| And.intro @VY_p_indexV <| And.intro @VY_p_extract <| And.intro @VY_p_call <| And.intro @VY_p_len <| @VY_p_slice
def isCallvs:=And.intro @isCallv_mv <| And.intro @isCallv_pick <| And.intro @isCallv_alloc <| And.intro @isCallv_box <| And.intro @isCallv_build <| And.intro @isCallv_buildSlice <| And.intro @isCallv_load <| And.intro @isCallv_store <| And.intro @isCallv_nilCheck <| And.intro @isCallv_bin <| And.intro @isCallv_eqB <| And.intro @isCallv_un <| And.intro @isCallv_convI <| And.intro @isCallv_makeFunc <| And.intro @isCallv_fieldAddr <| And.intro @isCallv_field <| And.intro @isCallv_indexAddr <| And.intro @isCallv_indexArr <| And.intro @isCallv_index <| And.intro @isCallv_indexV <| And.intro @isCallv_extract <| And.intro @isCallv_call <| And.intro @isCallv_len <| @isCallv_slice

theorem seq_W {P:Program} {f:FuncId} {nt np:Nat} {m:MC} (hF:cFun P f=some (nt,np,m,[])) {caps:List AV} (hla:caps.length+1≤nt) {xs:List (List AV)}
  (h:∀ l,WY P l xs nt m (fun x _ _ t=>(x=.normal∨x=.ret)∧(t=some xs∨t=none)) (argE (.yld l :: caps)) noStore (some []) .mk):SeqA P f caps xs :=
 seq_of hF hla fun l=>WY_sound (h l)
end Go.Av

/- Weakening,as it is used. By an AI agent;nothing here is trusted. -/
namespace Go.Av

def allK (s s':Store) (f:Nat→Option Nat):List (Nat × Option Nat × Blk)→Prop
 | []=>True
 | (_,some k,B') :: m=>(∃ B,s k=some (some B)∧RnB s s' f B B')∧allK s s' f m
 | (_,none,B') :: m=>(B'.es=[]∧0<B'.sz)∧allK s s' f m
def allR (s s':Store) (f:Nat→Option Nat) (e:Env):List (Nat × AV)→Prop
 | []=>True
 | (n,v) :: l=>Rn s s' f (e n) v∧allR s s' f e l

theorem RnB.fx {s s':Store} {f:Nat→Option Nat} {ty sz:Nat} {es:List AV} (h:∀ x ∈ es,fx x=true):RnB s s' f ⟨ty,sz,es⟩ ⟨ty,sz,es⟩:=RnB.same fun x hx=>(fx_spec (h x hx)).1
theorem RnB.fxB {s s':Store} {f:Nat→Option Nat} {ty sz:Nat} {es:List AV} (h:es.all Go.Av.fx=true):RnB s s' f ⟨ty,sz,es⟩ ⟨ty,sz,es⟩:=RnB.fx (List.all_eq_true.1 h)
theorem ints_fxB (l:List Int):(ints l).all Go.Av.fx=true:=List.all_eq_true.2 (ints_fx l)
theorem RnB.one {s s':Store} {f:Nat→Option Nat} {ty sz:Nat} {x x':AV} (h:Rn s s' f x x') (hx:cellsOf x=[x]) (hx':cellsOf x'=[x']) (hc:cell x'=true):RnB s s' f ⟨ty,sz,[x]⟩ ⟨ty,sz,[x']⟩:=by
 refine ⟨rfl,rfl,rfl,fun i y y' h1 h2=>?_⟩
 cases i with
 | zero =>
  simp at h1 h2
  subst h1;subst h2
  refine ⟨by rw [hx,hx'];rfl,fun c hcc=>by rw [hx'] at hcc;simp at hcc;subst hcc;exact hc,fun o c c' h3 h4=>?_⟩
  rw [hx] at h3;rw [hx'] at h4
  cases o with
  | zero=>simp at h3 h4;subst h3;subst h4;exact h
  | succ o=>simp at h3
 | succ i=>simp at h1

theorem W_weakR {P:Program} {N:Nat} {x:MX} {ps:List Nat} {a b:MC} {Q:Exit→Env→Store→Prop} {e:Env} {s:Store} {t} (q:Env × Store) (hw:Weak (e,s) q) (h:W P N (.rf x ps a b) Q q.1 q.2 .mk):W P N (.rf x ps a b) Q e s t:=AWM.weak rfl hw h
theorem allK_nil {s s':Store} {f:Nat→Option Nat}:allK s s' f []=True:=rfl
theorem allK_some {s s':Store} {f:Nat→Option Nat} (k' k:Nat) (B':Blk) (m:List (Nat × Option Nat × Blk)):allK s s' f ((k',some k,B') :: m)=((∃ B,s k=some (some B)∧RnB s s' f B B')∧allK s s' f m):=rfl
theorem allK_none {s s':Store} {f:Nat→Option Nat} (k':Nat) (B':Blk) (m:List (Nat × Option Nat × Blk)):allK s s' f ((k',none,B') :: m)=((B'.es=[]∧0<B'.sz)∧allK s s' f m):=rfl
theorem allR_nil {s s':Store} {f:Nat→Option Nat} {e:Env}:allR s s' f e []=True:=rfl
theorem allR_cons {s s':Store} {f:Nat→Option Nat} {e:Env} (n:Nat) (v:AV) (l:List (Nat × AV)):allR s s' f e ((n,v) :: l)=(Rn s s' f (e n) v∧allR s s' f e l):=rfl
theorem keyOf_cons (k':Nat) (o:Option Nat) (B:Blk) (l:List (Nat × Option Nat × Blk)) (k:Nat):keyOf ((k',o,B) :: l) k=if k=k' then o else keyOf l k:=rfl
theorem exB (B0:Blk) (p:Blk→Prop):(∃ B,some (some B0)=some (some B)∧p B)=p B0:=propext ⟨fun ⟨B,h,k⟩=>by cases h;exact k,fun h=>⟨B0,rfl,h⟩⟩
theorem imm_int (k:IntKind) (n:Int):imm (.int k n)=true:=rfl
theorem imm_bool (b:Bool):imm (.bool b)=true:=rfl
theorem imm_str (l:List UInt8):imm (.str l)=true:=rfl
theorem imm_sl (l:List AV):imm (.sl l)=true:=rfl
theorem imm_nils:imm .nils=true:=rfl
theorem imm_nilp:imm .nilp=true:=rfl
theorem imm_nili:imm .nili=true:=rfl
theorem imm_ifc:imm .ifc=true:=rfl
theorem imm_eptr (x:AV) (o:Nat):imm (.eptr x o)=true:=rfl
theorem imm_agg (l:List AV):imm (.agg l)=immL l:=rfl
theorem imm_fn (f:FuncId) (l:List AV):imm (.fn f l)=immL l:=rfl
theorem immL_nil:immL []=true:=rfl
theorem immL_int (k:IntKind) (n:Int) (l:List AV):immL (.int k n :: l)=immL l:=rfl
theorem immL_bool (b:Bool) (l:List AV):immL (.bool b :: l)=immL l:=rfl
theorem immL_str (s:List UInt8) (l:List AV):immL (.str s :: l)=immL l:=rfl
theorem immL_sl (s:List AV) (l:List AV):immL (.sl s :: l)=immL l:=rfl
theorem immL_nils (l:List AV):immL (.nils :: l)=immL l:=rfl
theorem immL_eptr (x:AV) (o:Nat) (l:List AV):immL (.eptr x o :: l)=immL l:=rfl
theorem killAll_imm {args:List AV} {s:Store} (h:args.all imm=true):killAll (refsL s 5 args) s=s:=by
 rw [refsL_imm s 5 args h,killAll_nil]
theorem scal_fn (f:FuncId) (l:List AV):scal (.fn f l)=false:=rfl
theorem scal_sl (l:List AV):scal (.sl l)=false:=rfl
theorem scal_eptr (x:AV) (o:Nat):scal (.eptr x o)=false:=rfl
theorem scal_agg (l:List AV):scal (.agg l)=l.all fun c=>match c with
  | .agg ds=>ds.all scal1
  | c=>scal1 c:=rfl
theorem scal_tup (l:List AV):scal (.tup l)=l.all fun c=>match c with
  | .agg ds=>ds.all scal1
  | c=>scal1 c:=rfl
theorem scal1_int (k:IntKind) (n:Int):scal1 (.int k n)=true:=rfl
theorem scal1_bool (b:Bool):scal1 (.bool b)=true:=rfl
theorem scal1_str (l:List UInt8):scal1 (.str l)=true:=rfl
theorem scal1_sl (l:List AV):scal1 (.sl l)=false:=rfl
def vcB:=And.intro @imm_int <| And.intro @imm_bool <| And.intro @imm_str <| And.intro @imm_sl <| And.intro @imm_nils <| And.intro @imm_nilp <| And.intro @imm_nili <| And.intro @imm_ifc <| And.intro @imm_eptr <| And.intro @imm_agg <| And.intro @imm_fn <| And.intro @immL_nil <| And.intro @immL_int <| And.intro @immL_bool <| And.intro @immL_str <| And.intro @immL_sl <| And.intro @immL_nils <| And.intro @immL_eptr <| And.intro @killAll_imm <| And.intro @letS_eq <| And.intro @scal_fn <| And.intro @scal_sl <| And.intro @scal_eptr <| And.intro @scal_agg <| And.intro @scal_tup <| And.intro @scal1_int <| And.intro @scal1_bool <| And.intro @scal1_str <| @scal1_sl
end Go.Av

/- The abstract operations with conditions that are decided by running;code that is run at known values;that what it comes to is what the code does. By an AI agent;nothing here is trusted. -/
namespace Go.Av

def reqD {α:Type} (c:Prop) [Decidable c] (x:Option α):Option α:=if c then x else none
theorem reqD_eq {α:Type} (c:Prop) [Decidable c] (x:Option α):reqD c x=req c x:=by
 by_cases h:c <;> simp [reqD,req,h]
instance instDecI64 (n:Int):Decidable (I64 n):=inferInstanceAs (Decidable (_∧_))
instance instDecCellsOk (x:AV):Decidable (cellsOk x):=inferInstanceAs (Decidable (∀ c ∈ cellsOf x,cell c=true))
def isNone {α:Type}:Option α→Bool
 | none=>true
 | some _=>false
instance instDecNone {α:Type} (o:Option α):Decidable (o=none):=match o with
 | none=>.isTrue rfl
 | some _=>.isFalse (fun h=>by cases h)

def fillAD (cells:List AV):List (Nat × Nat × AV)→Option (List AV)
 | []=>some cells
 | (off,sz,v) :: r=>reqD (solid v=true∧(cellsOf v).length=sz∧off+sz≤cells.length) (fillAD (setSeg cells off (cellsOf v)) r)

def fillED (sz:Nat) (es:List AV):List (Nat × AV)→Option (List AV)
 | []=>some es
 | (i,v) :: r=>reqD (solid v=true∧(cellsOf v).length=sz∧i<es.length) (fillED sz (es.set i v) r)

def mkD (d ty sz:Nat) (es:List AV) (v:AV) (s:Store):Option (AV × Store) :=
 reqD (s d=none∧0<sz∧∀ x ∈ es,solid x=true∧(cellsOf x).length=sz∧cellsOk x) (some (v,upd s d (some (some ⟨ty,sz,es⟩))))

def loadAD (n:Option Nat) (el:AV) (o:Nat):Option AV :=
 match n with
 | none=>(cellsOf el)[o]?
 | some n=>reqD (o+n≤(cellsOf el).length) (some (.agg (((cellsOf el).drop o).take n)))

def arithD (k:IntKind) (n:Int):Option AV:=if k=.i64 then reqD (I64 n) (some (.int .i64 n)) else some (.int k (k.wrap n))

def binD (op:BinOp) (x y:AV):Option AV :=
 match x,y with
 | .int k a,.int k' b =>
  match op with
  | .shl=>reqD (0≤b) (some (.int k (k.wrap (a * 2 ^ min b.toNat k.bits))))
  | .shr=>reqD (0≤b) (some (.int k (a.fdiv (2 ^ min b.toNat k.bits))))
  | .add=>reqD (k=k') (arithD k (a+b))
  | .sub=>reqD (k=k') (arithD k (a - b))
  | .mul=>reqD (k=k') (arithD k (a * b))
  | .quo=>reqD (k=k'∧b ≠ 0) (arithD k (a.tdiv b))
  | .rem=>reqD (k=k'∧b ≠ 0) (some (.int k (a.tmod b)))
  | .eql=>reqD (k=k') (some (.bool (decide (a=b))))
  | .neq=>reqD (k=k') (some (.bool (!decide (a=b))))
  | .lss=>reqD (k=k') (some (.bool (decide (a<b))))
  | .leq=>reqD (k=k') (some (.bool (decide (a≤b))))
  | .gtr=>reqD (k=k') (some (.bool (decide (b<a))))
  | .geq=>reqD (k=k') (some (.bool (decide (b≤a))))
  | .and=>reqD (k=k') (some (.int k (k.wrap ((BitVec.ofInt k.bits a) &&& (BitVec.ofInt k.bits b)).toNat)))
  | .or=>reqD (k=k') (some (.int k (k.wrap ((BitVec.ofInt k.bits a) ||| (BitVec.ofInt k.bits b)).toNat)))
  | .xor=>reqD (k=k') (some (.int k (k.wrap ((BitVec.ofInt k.bits a) ^^^ (BitVec.ofInt k.bits b)).toNat)))
  | .andNot=>none
 | .str a,.str b =>
  match op with
  | .add=>reqD (a.length+b.length≤9223372036854775807) (some (.str (a ++ b)))
  | .eql=>some (.bool (decide (a=b)))
  | .neq=>some (.bool (!decide (a=b)))
  | _=>none
 | _,_=>none

def unD (op:UnOp) (x:AV):Option AV :=
 match op,x with
 | .not,.bool b=>some (.bool (!b))
 | .neg,.int k n=>arithD k (-n)
 | _,_=>none

def vwBD (hi:AV) (k i o:Nat) (b:Option (Option Blk)):Option AV:=match b with
 | some (some B)=>match hi with
  | .int _ n=>(B.es[i]?).bind fun el=>reqD (0<n∧o+n.toNat≤(cellsOf el).length) (some (.vw k i o n.toNat))
  | _=>none
 | _=>none
def vwED (hi el:AV) (o:Nat):Option AV:=match hi with
 | .int _ n=>reqD (0<n∧o+n.toNat≤(cellsOf el).length) (some (.sl (((cellsOf el).drop o).take n.toNat)))
 | _=>none
theorem vwBD_eq (hi:AV) (k i o:Nat) (b:Option (Option Blk)):vwBD hi k i o b=vwB hi k i o b:=by simp only [vwBD,vwB,reqD_eq];rfl
theorem vwED_eq (hi el:AV) (o:Nat):vwED hi el o=vwE hi el o:=by simp only [vwED,vwE,reqD_eq];rfl

noncomputable def exD (d:Nat) (o:MOp) (e:Env) (s:Store):Option (AV × Store) :=
 match o with
 | .mv x=>some (x.ev e,s)
 | .pick c a b=>match c.ev e with
  | .bool t=>some (if t then a.ev e else b.ev e,s)
  | _=>none
 | .alloc ty sz z=>mkD d ty sz [z] (.ptr d 0 0) s
 | .box ty sz x=>mkD d ty sz [x.ev e] (.ptr d 0 0) s
 | .build zero parts=>(fillAD zero (parts.map fun p=>(p.1,p.2.1,p.2.2.ev e))).map fun cs=>(.agg cs,s)
 | .buildSlice ty sz n zero parts=>(fillED sz (List.replicate n zero) (parts.map fun p=>(p.1,p.2.ev e))).bind fun es =>
   if n=0 then some (.nils,s) else mkD d ty sz es (.buf d n) s
 | .load n x=>match x.ev e with
  | .ptr k i o=>match s k with
   | some (some B)=>(B.es[i]?).bind fun el=>(loadAD n el o).map fun v=>(v,s)
   | _=>none
  | .eptr el o=>(loadAD n el o).map fun v=>(v,s)
  | _=>none
 | .store n x v=>match x.ev e with
  | .ptr k i o=>match s k with
   | some (some B)=>(B.es[i]?).bind fun el =>
     reqD (solid (v.ev e)=true∧(cellsOf (v.ev e)).length=n∧cellsOk (v.ev e)∧0<n∧o+n≤(cellsOf el).length)
      (some (.tup [],upd s k (some (some ⟨B.ty,B.sz,B.es.set i (putIn el o (v.ev e))⟩))))
   | _=>none
  | _=>none
 | .nilCheck x=>match x.ev e with
  | .ptr k i o=>match s k with
   | some (some _)=>some (.ptr k i o,s)
   | _=>none
  | .eptr el o=>some (.eptr el o,s)
  | .fn f caps=>some (.fn f caps,s)
  | _=>none
 | .bin op x y=>(binT op (x.ev e) (y.ev e)).map fun v=>(v,s)
 | .eqB neg x y=>match x.ev e,y.ev e with
  | .bool a,.bool b=>some (.bool (decide (a=b) != neg),s)
  | _,_=>none
 | .eqS neg tags x y=>match x.ev e,y.ev e with
  | .agg a,.agg b=>(eqT tags a b).map fun t=>(.bool (t != neg),s)
  | _,_=>none
 | .eqI neg x y=>match x.ev e,y.ev e with
  | .nili,.nili=>some (.bool (true != neg),s)
  | .ifc,.nili=>some (.bool (false != neg),s)
  | .nili,.ifc=>some (.bool (false != neg),s)
  | _,_=>none
 | .convB x=>(srcOf 1 s (x.ev e)).bind fun l=>(bytesOf l).map fun b=>(.str b,s)
 | .un op x=>(unD op (x.ev e)).map fun v=>(v,s)
 | .convI k x=>match x.ev e with
  | .int _ n=>(if k=.i64 then reqD (I64 n) (some (.int .i64 n)) else some (.int k (k.wrap n))).map fun v=>(v,s)
  | _=>none
 | .convS x=>match x.ev e with
  | .str l=>some (.str l,s)
  | _=>none
 | .makeFunc f caps=>some (.fn f (caps.map (·.ev e)),s)
 | .makeSlice ty sz by_ zero l c=>match l.ev e,c.ev e with
  | .int _ n,.int _ m=>reqD (n=m∧0≤n∧(by_:Int) * n≤281474976710656∧n≤9223372036854775807) (mkD d ty sz (List.replicate n.toNat zero) (.buf d n.toNat) s)
  | _,_=>none
 | .slice str sz x lo hi=>match x.ev e with
  | .str l=>match loMx e lo,hiMx e l.length hi with
   | .int _ a,.int _ b=>reqD (str=true∧0≤a∧a≤b∧b≤l.length) (some (.str ((l.take b.toNat).drop a.toNat),s))
   | _,_=>none
  | .sl l=>match loMx e lo,hiMx e l.length hi with
   | .int _ a,.int _ b=>reqD (str=false∧0≤a∧a≤b∧b≤l.length∧∀ x ∈ l,(cellsOf x).length=sz) (some (.sl ((l.take b.toNat).drop a.toNat),s))
   | _,_=>none
  | .buf k len=>match s k with
   | some (some B)=>match loMx e lo,hiMx e len hi with
    | .int _ a,.int _ b=>reqD (str=false∧0≤a∧a≤b∧b≤len∧len≤B.es.length∧B.sz=sz∧B.es.all imm=true) (some (.sl ((B.es.take b.toNat).drop a.toNat),upd s k (some none)))
    | _,_=>none
   | _=>none
  | .ptr k i o=>(reqD (str=true∧sz=0) (vwBD (hiMx e 0 hi) k i o (s k))).map fun v=>(v,s)
  | .eptr el o=>(reqD (str=true∧sz=0) (vwED (hiMx e 0 hi) el o)).map fun v=>(v,s)
  | _=>none
 | .fieldAddr x off=>match x.ev e with
  | .ptr k i o=>match s k with
   | some (some _)=>some (.ptr k i (o+off),s)
   | _=>none
  | .eptr el o=>some (.eptr el (o+off),s)
  | _=>none
 | .field x off n=>match x.ev e with
  | .agg cs=>(loadAD n (.agg cs) off).map fun v=>(v,s)
  | _=>none
 | .indexAddr x i sz=>match x.ev e,i.ev e with
  | .sl l,.int _ n=>reqD (0≤n) ((l[n.toNat]?).bind fun el=>reqD ((cellsOf el).length=sz) (some (.eptr el 0,s)))
  | .buf k len,.int _ n=>match s k with
   | some (some B)=>reqD (0≤n∧n<len∧B.sz=sz∧len≤B.es.length) (some (.ptr k n.toNat 0,s))
   | _=>none
  | _,_=>none
 | .indexArr x i sz len=>match x.ev e,i.ev e with
  | .ptr k j o,.int _ n=>match s k with
   | some (some _)=>reqD (0≤n∧n<len) (some (.ptr k j (o+n.toNat * sz),s))
   | _=>none
  | .eptr el o,.int _ n=>reqD (0≤n∧n<len) (some (.eptr el (o+n.toNat * sz),s))
  | _,_=>none
 | .index x i=>match x.ev e,i.ev e with
  | .str l,.int _ n=>reqD (0≤n) ((l[n.toNat]?).map fun b=>(.int .u8 b.toNat,s))
  | _,_=>none
 | .indexV x i sz len n=>match x.ev e,i.ev e with
  | .agg cs,.int _ j=>reqD (0≤j∧j<len) ((loadAD n (.agg cs) (j.toNat * sz)).map fun v=>(v,s))
  | _,_=>none
 | .extract x i=>match x.ev e with
  | .tup vs=>(vs[i]?).map fun v=>(v,s)
  | _=>none
 | .len str x=>match x.ev e with
  | .str l=>reqD (str=true) (some (.int .i64 l.length,s))
  | .sl l=>reqD (str=false) (some (.int .i64 l.length,s))
  | .buf k len=>match s k with
   | some (some _)=>reqD (str=false) (some (.int .i64 len,s))
   | _=>none
  | .nils=>reqD (str=false) (some (.int .i64 0,s))
  | _=>none
 | .append ty sz by_ _ s0 x=>(srcOf sz s (x.ev e)).bind fun news =>
   reqD (s d=none∧0<sz∧(∀ y ∈ news,(cellsOf y).length=sz∧cellsOk y))
   (match s0.ev e with
   | .nils=>reqD (news.length * by_≤140737488355328∧news.length≤maxLen) (some (.buf d news.length,upd s d (some (some ⟨ty,sz,news⟩))))
   | .buf k len=>match s k with
    | some (some B)=>reqD (len=B.es.length∧B.ty=ty∧B.sz=sz∧(len+news.length) * by_≤140737488355328∧len+news.length≤maxLen)
      (some (.buf d (len+news.length),upd (upd s k (some none)) d (some (some ⟨ty,sz,B.es ++ news⟩))))
    | _=>none
   | _=>none)
 | .copy _ _ _=>none
 | .max xs=>(maxA (xs.map (·.ev e))).map fun v=>(v,s)
 | .min xs=>(minA (xs.map (·.ev e))).map fun v=>(v,s)
 | .mapo w xs=>mapX w d (xs.map (·.ev e)) s
 | .call .. | .callv ..=>none

theorem fillAD_eq:∀ (l:List (Nat × Nat × AV)) (cells:List AV),fillAD cells l=fillA cells l
 | [],_=>rfl
 | (off,sz,v) :: r,cells=>by rw [fillAD,fillA,reqD_eq,fillAD_eq r]
theorem fillED_eq (sz:Nat):∀ (l:List (Nat × AV)) (es:List AV),fillED sz es l=fillE sz es l
 | [],_=>rfl
 | (i,v) :: r,es=>by rw [fillED,fillE,reqD_eq,fillED_eq sz r]
theorem mkD_eq (d ty sz:Nat) (es:List AV) (v:AV) (s:Store):mkD d ty sz es v s=mk d ty sz es v s:=by rw [mkD,mk,reqD_eq]
theorem loadAD_eq (n:Option Nat) (el:AV) (o:Nat):loadAD n el o=loadA n el o:=by
 cases n with
 | none=>rfl
 | some n=>simp only [loadAD,loadA,reqD_eq]
theorem arithD_eq (k:IntKind) (n:Int):arithD k n=arith k n:=by
 unfold arithD arith;split
 ·rw [reqD_eq]
 ·rfl
theorem binD_eq (op:BinOp) (x y:AV):binD op x y=binA op x y:=by
 cases x <;> first
  | rfl
  | (cases y <;> first
    | rfl
    | (cases op <;> simp only [binD,binA,reqD_eq,arithD_eq]))
theorem unD_eq (op:UnOp) (x:AV):unD op x=unA op x:=by
 cases op <;> cases x <;> first | rfl | simp only [unD,unA,arithD_eq]
theorem exD_eq (d:Nat) (o:MOp) (e:Env) (s:Store):exD d o e s=ex d o e s:=by
 cases o <;> first
  | rfl
  | (simp only [exD,ex,reqD_eq,vwBD_eq,vwED_eq,fillAD_eq,fillED_eq,mkD_eq,loadAD_eq,binD_eq,unD_eq,arithD_eq];done)
  | (simp only [exD,ex,reqD_eq,vwBD_eq,vwED_eq,fillAD_eq,fillED_eq,mkD_eq,loadAD_eq,binD_eq,unD_eq,arithD_eq];rfl)

abbrev CallT:=FuncId→List AV→Option AV
abbrev OwnT:=FuncId→List AV→Option (Nat × Nat × List AV)
structure CT where
 v:CallT
 o:OwnT
abbrev IterT:=FuncId→List AV→Option (List (List AV))

noncomputable def runCall (ct:CT) (nk:Bool) (d:Nat) (f:FuncId) (vs:List AV) (s:Store):Option (AV × Store) :=
 match cond nk none (ct.o f (vs.map (bor s 5))) with
 | some (ty,sz,es)=>cond (isNone (s d)) (some (.buf d es.length,upd (ownS es (refsL s 5 vs) s) d (some (some ⟨ty,sz,es⟩)))) none
 | none=>match ct.v f (vs.map (bor s 5)) with
  | none=>none
  | some v=>cond (nk && !((refsL s 5 vs).all fun k=>!isNone (s k))) none
    (if scal v then some (v,s) else if nk then (if (refsL s 5 vs).isEmpty then some (v,s) else none) else some (v,killAll (refsL s 5 vs) s))

noncomputable def runOp (ct:CT) (nk:Bool) (d:Nat) (o:MOp) (e:Env) (s:Store):Option (AV × Store) :=
 match o with
 | .call f xs=>runCall ct nk d f (xs.map (·.ev e)) s
 | .callv x xs=>match x.ev e with
  | .fn f caps=>runCall ct nk d f (xs.map (·.ev e) ++ caps) s
  | _=>none
 | .bin op x y=>(binD op (x.ev e) (y.ev e)).map fun v=>(v,s)
 | o=>exD d o e s

inductive T where
 | leaf
 | node (l:T) (v:AV) (r:T)
noncomputable def getT (t:T):Nat→AV :=
 T.rec (motive:=fun _=>Nat→AV) (fun _=>.undef) (fun _ v _ gl gr n=>Nat.casesOn (motive:=fun _=>AV) n v fun m=>cond (Nat.beq (m % 2) 0) (gl (m / 2)) (gr (m / 2))) t
noncomputable def setT (d:Nat):T→Nat→AV→T :=
 Nat.rec (motive:=fun _=>T→Nat→AV→T) (fun t _ _=>t) (fun _ st t n v =>
  T.casesOn (motive:=fun _=>T) t
   (Nat.casesOn (motive:=fun _=>T) n (.node .leaf v .leaf) fun m=>cond (Nat.beq (m % 2) 0) (.node (st .leaf (m / 2) v) .undef .leaf) (.node .leaf .undef (st .leaf (m / 2) v)))
   (fun l x r=>Nat.casesOn (motive:=fun _=>T) n (.node l v r) fun m=>cond (Nat.beq (m % 2) 0) (.node (st l (m / 2) v) x r) (.node l x (st r (m / 2) v)))) d
theorem getT_leaf (n:Nat):getT .leaf n=.undef:=rfl
theorem getT_zero (l:T) (v:AV) (r:T):getT (.node l v r) 0=v:=rfl
theorem getT_succ (l:T) (v:AV) (r:T) (m:Nat):getT (.node l v r) (m+1)=cond (Nat.beq (m % 2) 0) (getT l (m / 2)) (getT r (m / 2)):=rfl
theorem setT_leaf0 (d:Nat) (v:AV):setT (d+1) .leaf 0 v=.node .leaf v .leaf:=rfl
theorem setT_leafS (d:Nat) (m:Nat) (v:AV):setT (d+1) .leaf (m+1) v=cond (Nat.beq (m % 2) 0) (.node (setT d .leaf (m / 2) v) .undef .leaf) (.node .leaf .undef (setT d .leaf (m / 2) v)):=rfl
theorem setT_node0 (d:Nat) (l:T) (x:AV) (r:T) (v:AV):setT (d+1) (.node l x r) 0 v=.node l v r:=rfl
theorem setT_nodeS (d:Nat) (l:T) (x:AV) (r:T) (m:Nat) (v:AV):setT (d+1) (.node l x r) (m+1) v=cond (Nat.beq (m % 2) 0) (.node (setT d l (m / 2) v) x r) (.node l x (setT d r (m / 2) v)):=rfl

theorem get_setT:∀ (d:Nat) (t:T) (n:Nat) (v:AV),n+1<2 ^ d→∀ k,getT (setT d t n v) k=if k=n then v else getT t k
 | 0,_,_,_,h,_=>by omega
 | d+1,t,n,v,h,k=>by
  have hpow:2 ^ (d+1)=2 * 2 ^ d:=by rw [Nat.pow_succ];omega
  have key:∀ (l:T) (x:AV) (r:T) (m:Nat),n=m+1→getT (cond (Nat.beq (m % 2) 0) (.node (setT d l (m / 2) v) x r) (.node l x (setT d r (m / 2) v))) k=if k=n then v else getT (.node l x r) k:=by
   intro l x r m hm
   have ih:=get_setT d
   have hlt:m / 2+1<2 ^ d:=by omega
   cases k with
   | zero =>
    have:¬ (0=n):=by omega
    rw [if_neg this]
    cases Nat.beq (m % 2) 0 <;> rfl
   | succ j =>
    by_cases hb:m % 2=0
    ·have hb':Nat.beq (m % 2) 0=true:=by rw [hb];rfl
     rw [hb']
     simp only [cond_true,getT_succ]
     by_cases hj:j % 2=0
     ·have hj':Nat.beq (j % 2) 0=true:=by rw [hj];rfl
      rw [hj']
      simp only [cond_true]
      rw [ih l (m / 2) v hlt (j / 2)]
      by_cases hjm:j / 2=m / 2
      ·rw [if_pos hjm,if_pos (by omega)]
      ·rw [if_neg hjm,if_neg (by omega)]
     ·have hj':Nat.beq (j % 2) 0=false:=by
       have:j % 2=1:=by omega
       rw [this];rfl
      rw [hj',if_neg (by omega)];rfl
    ·have hm1:m % 2=1:=by omega
     have hb':Nat.beq (m % 2) 0=false:=by rw [hm1];rfl
     rw [hb']
     simp only [cond_false,getT_succ]
     by_cases hj:j % 2=0
     ·have hj':Nat.beq (j % 2) 0=true:=by rw [hj];rfl
      rw [hj',if_neg (by omega)];rfl
     ·have hj':Nat.beq (j % 2) 0=false:=by
       have:j % 2=1:=by omega
       rw [this];rfl
      rw [hj']
      simp only [cond_false]
      rw [ih r (m / 2) v hlt (j / 2)]
      by_cases hjm:j / 2=m / 2
      ·rw [if_pos hjm,if_pos (by omega)]
      ·rw [if_neg hjm,if_neg (by omega)]
  cases t with
  | leaf =>
   cases n with
   | zero =>
    rw [setT_leaf0]
    cases k with
    | zero=>rw [getT_zero,if_pos rfl]
    | succ j =>
     rw [getT_succ,if_neg (by omega)]
     cases Nat.beq (j % 2) 0 <;> rfl
   | succ m =>
    rw [setT_leafS]
    have:=key .leaf .undef .leaf m rfl
    rw [this]
    split
    ·rfl
    ·cases k with
     | zero=>rfl
     | succ j=>rw [getT_succ];cases Nat.beq (j % 2) 0 <;> rfl
  | node l x r =>
   cases n with
   | zero =>
    rw [setT_node0]
    cases k with
    | zero=>rw [getT_zero,if_pos rfl]
    | succ j=>rw [getT_succ,if_neg (by omega),getT_succ]
   | succ m =>
    rw [setT_nodeS]
    exact key l x r m rfl
noncomputable def putT (t:T) (n:Nat) (v:AV):Option T:=cond (Nat.ble n 4000) (some (setT 12 t n v)) none
theorem putT_some {t t':T} {n:Nat} {v:AV} (h:putT t n v=some t'):getT t'=upd (getT t) n v:=by
 unfold putT at h
 cases hb:Nat.ble n 4000 with
 | false=>rw [hb] at h;cases h
 | true =>
  rw [hb] at h
  cases h
  have:=Nat.le_of_ble_eq_true hb
  funext k
  rw [get_setT 12 t n v (by omega) k]
  rfl
noncomputable def putTO (t:T) (d:Option Nat) (v:AV):Option T:=match d with
 | some d=>putT t d v
 | none=>some t
theorem putTO_some {t t':T} {d:Option Nat} {v:AV} (h:putTO t d v=some t'):getT t'=putO (getT t) d v:=by
 cases d with
 | none=>cases h;rfl
 | some d=>exact putT_some h

noncomputable def runL (ct:CT) (nk:Bool):List MS→T→Store→Option (T × Store)
 | [],e,s=>some (e,s)
 | m :: r,e,s=>match m.g with
  | none=>match runOp ct nk (m.d.getD 0) m.o (getT e) s with
   | none=>none
   | some (v,t)=>match putTO e m.d v with
    | none=>none
    | some e1=>runL ct nk r e1 t
  | some (n,w)=>match getT e n with
   | .bool b=>if b=w then (match runOp ct nk (m.d.getD 0) m.o (getT e) s with
     | none=>none
     | some (v,t)=>match putTO e m.d v with
      | none=>none
      | some e1=>runL ct nk r e1 t)
    else (match putTO e m.d (.tup []) with
     | none=>none
     | some e1=>runL ct nk r e1 s)
   | .tup []=>(match putTO e m.d (.tup []) with
     | none=>none
     | some e1=>runL ct nk r e1 s)
   | _=>none

noncomputable def disj (T T':List Nat):Bool:=T.all fun k=>!(T'.contains k)
noncomputable def confB (conf:List (MS × MS)) (e:Env):Bool:=conf.all fun p=>(isCall p.1.o && newOp p.2.o) || (match tkM p.1 e,tkM p.2 e with
 | some T,some T'=>disj T T'
 | _,_=>false)

def CT.ok (P:Program) (ct:CT):Prop:=(∀ f a v,ct.v f a=some v→Sound P f a v)∧∀ f a q,ct.o f a=some q→SoundO P f a q.1 q.2.1 q.2.2
theorem isNone_t {α:Type} {x:Option α} (h:isNone x=true):x=none:=by cases x with
 | none=>rfl
 | some _=>cases h
theorem isNone_f {α:Type} {x:Option α} (h:(!isNone x)=true):x ≠ none:=by cases x with
 | none=>cases h
 | some _=>simp

section
variable {P:Program} {ct:CT} (hct:ct.ok P)
include hct

theorem runCall_some {nk:Bool} {d:Nat} {f:FuncId} {vs:List AV} {s:Store} {v:AV} {t:Store} (h:runCall ct nk d f vs s=some (v,t)) {K:AV→Store→Prop} (hk:K v t) :
  callP P nk d f (vs.map (bor s 5)) (refsL s 5 vs) vs s K:=by
 unfold runCall at h
 split at h
 ·rename_i ty sz es ho
  cases nk with
  | true=>cases ho
  | false =>
   cases hn:isNone (s d) with
   | false=>rw [hn] at h;cases h
   | true =>
    rw [hn] at h
    cases h
    exact .inr (.inl ⟨rfl,ty,sz,es,hct.2 _ _ _ ho,isNone_t hn,hk⟩)
 ·split at h
  ·cases h
  ·rename_i u hu
   cases hc:(nk && !((refsL s 5 vs).all fun k=>!isNone (s k))) with
   | true=>rw [hc] at h;cases h
   | false =>
    rw [hc] at h
    simp only [cond_false] at h
    refine .inl ⟨u,hct.1 _ _ _ hu,fun hnk k hkk=>?_,?_⟩
    ·subst hnk
     simp only [Bool.true_and,Bool.not_eq_false'] at hc
     exact isNone_f (List.all_eq_true.1 hc k hkk)
    split at h
    ·rename_i hs;cases h;rw [if_pos hs];exact hk
    ·rename_i hs
     rw [if_neg hs]
     split at h
     ·rename_i hn
      rw [if_pos hn]
      split at h
      ·rename_i he;cases h;exact ⟨List.isEmpty_iff.1 he,hk⟩
      ·cases h
     ·rename_i hn;cases h;rw [if_neg hn];exact hk

theorem runOp_some {nk:Bool} {d:Nat} {o:MOp} {e:Env} {s:Store} {v:AV} {t:Store} (h:runOp ct nk d o e s=some (v,t)) {K:AV→Store→Prop} (hk:K v t):vcOp P nk d o e s K:=by
 cases o with
 | call f xs=>exact runCall_some hct h hk
 | callv x xs =>
  simp only [runOp] at h
  simp only [vcOp]
  split at h
  ·rename_i f caps hx
   rw [hx]
   exact runCall_some hct h hk
  ·cases h
 | bin op x y=>exact ⟨v,t,by rw [← binD_eq];exact h,hk⟩
 | _=>exact ⟨v,t,by rw [← exD_eq];exact h,hk⟩

theorem runL_some {nk:Bool}:∀ {ss:List MS} {e:T} {s:Store} {e':T} {s':Store},runL ct nk ss e s=some (e',s')→∀ {K:Env→Store→Prop},K (getT e') s'→vcL P nk ss (getT e) s K
 | [],e,s,e',s',h,K,hk=>by
  simp only [runL,Option.some.injEq,Prod.mk.injEq] at h
  obtain ⟨rfl,rfl⟩:=h;exact hk
 | m :: r,e,s,e',s',h,K,hk=>by
  simp only [runL] at h
  simp only [vcL]
  split at h
  ·rename_i hg
   rw [hg]
   split at h
   ·cases h
   ·rename_i v t hv
    split at h
    ·cases h
    ·rename_i e1 he1
     refine runOp_some hct hv (K:=fun v t=>vcL P nk r (putO (getT e) m.d v) t K) ?_
     rw [← putTO_some he1]
     exact runL_some h hk
  ·rename_i n w hg
   rw [hg]
   simp only
   split at h
   ·rename_i b hb
    rw [hb]
    simp only
    split at h
    ·rename_i hbw
     split at h
     ·cases h
     ·rename_i v t hv
      split at h
      ·cases h
      ·rename_i e1 he1
       rw [upd_self (getT e) n (.bool w) (by rw [hb,hbw])]
       refine ⟨fun _=>runOp_some hct hv (K:=fun v t=>vcL P nk r (putO (getT e) m.d v) t K) ?_,fun h2=>by subst hbw;cases b <;> cases h2⟩
       rw [← putTO_some he1]
       exact runL_some h hk
    ·rename_i hbw
     split at h
     ·cases h
     ·rename_i e1 he1
      refine ⟨fun h2=>absurd h2 hbw,fun h2=>?_⟩
      rw [upd_self (getT e) n (.bool (!w)) (by rw [hb,h2]),← putTO_some he1]
      exact runL_some h hk
   ·rename_i hb
    rw [hb]
    split at h
    ·cases h
    ·rename_i e1 he1
     simp only
     rw [← putTO_some he1]
     exact runL_some h hk
   ·cases h
end

theorem confB_ok {conf:List (MS × MS)} {e:Env} (h:confB conf e=true):confOk conf e:=by
 intro p hp
 have:=List.all_eq_true.1 h p hp
 rcases Bool.or_eq_true_iff.1 this with hn | this
 ·exact .inl (by simpa using hn)
 split at this
 ·rename_i T T' h1 h2
  refine .inr ⟨T,T',h1,h2,fun k hk=>?_⟩
  have:=List.all_eq_true.1 this k hk
  simpa using this
 ·cases this

end Go.Av

/- Whole code run at known values;that what it comes to is what the code does. By an AI agent;nothing here is trusted. -/
namespace Go.Av

def rn1 (g:Nat→Option Nat) (x:AV):AV:=match x with
 | .buf k len=>match g k with
  | some k'=>.buf k' len
  | none=>.undef
 | .ptr k i o=>match g k with
  | some k'=>.ptr k' i o
  | none=>.undef
 | x=>if imm x then x else .undef
def rnV (g:Nat→Option Nat) (x:AV):AV:=match x with
 | .agg cs=>if immL cs then .agg cs else .agg (cs.map (rn1 g))
 | x=>rn1 g x
def rnBlk (g:Nat→Option Nat) (B:Blk):Blk:=⟨B.ty,B.sz,B.es.map (rnV g)⟩

section
variable {s s':Store} {f g:Nat→Option Nat} (hg:∀ k k',g k=some k'→f k'=some k)
include hg
theorem rn1_rn (x:AV):Rn s s' f x (rn1 g x):=by
  cases x <;> simp only [rn1] <;> first
    | (split
       · rename_i k' hk;first | exact .buf _ _ _ (hg _ _ hk) | exact .ptr _ _ _ _ (hg _ _ hk)
       · exact .undef _)
    | (split
       · rename_i hi;exact .imm _ hi
       · exact .undef _)
theorem rnV_rn (x:AV):Rn s s' f x (rnV g x):=by
 cases x <;> first
  | exact rn1_rn hg _
  | skip
 rename_i cs
 simp only [rnV]
 split
 ·rename_i hi;exact .imm _ hi
 ·refine .agg _ _ (by simp) fun i c c' h1 h2=>?_
  rw [List.getElem?_map,h1] at h2
  cases h2
  exact rn1_rn hg c
theorem rnBlk_rn {B:Blk} (hc:∀ x ∈ (rnBlk g B).es,cellsOk x):RnB s s' f B (rnBlk g B):=by
 refine ⟨rfl,rfl,by simp [rnBlk],fun i x x' h1 h2=>?_⟩
 have h2':=h2
 simp only [rnBlk] at h2
 rw [List.getElem?_map,h1] at h2
 cases h2
 have hok:=hc _ (List.mem_of_getElem? h2')
 have hn1:∀ y:AV,(∀ cs,y ≠ .agg cs)→cellsOf y=[y]∧(∀ cs,rn1 g y ≠ .agg cs):=by
  intro y hy
  refine ⟨by cases y <;> first | rfl | exact absurd rfl (hy _),fun cs=>?_⟩
  cases y <;> simp only [rn1] <;> first
   | exact absurd rfl (hy _)
   | (split <;> (intro h;cases h))
 have hone:∀ y:AV,(∀ cs,y ≠ .agg cs)→cellsOf y=[y]:=fun y hy=>(hn1 y hy).1
 by_cases hx:∃ cs,x=.agg cs
 ·obtain ⟨cs,rfl⟩:=hx
  refine ⟨?_,hok,fun o c c' h3 h4=>?_⟩
  ·simp only [rnV];split <;> simp [cellsOf]
  ·simp only [rnV] at h4
   split at h4
   ·rename_i hi
    simp only [cellsOf] at h3 h4
    rw [h3] at h4;cases h4
    exact .imm _ (imm_cell hi c (List.mem_of_getElem? h3))
   ·simp only [cellsOf] at h3 h4
    rw [List.getElem?_map,h3] at h4
    cases h4
    exact rn1_rn hg c
 ·have hx':∀ cs,x ≠ .agg cs:=fun cs h=>hx ⟨cs,h⟩
  have e1:=hone x hx'
  have e2:rnV g x=rn1 g x:=by cases x <;> first | rfl | exact absurd rfl (hx' _)
  have e3:=hone (rn1 g x) (hn1 x hx').2
  rw [e2] at hok ⊢
  refine ⟨by rw [e1,e3];rfl,hok,fun o c c' h3 h4=>?_⟩
  rw [e1] at h3;rw [e3] at h4
  cases o with
  | zero=>simp at h3 h4;subst h3;subst h4;exact rn1_rn hg x
  | succ o=>simp at h3
end

theorem weak_tm {e e':Env} {s:Store} (m:List (Nat × Option Nat × Blk)) (hd:(m.map (·.1)).Nodup) (hd':(m.filterMap (·.2.1)).Nodup)
  (hm:∀ p ∈ m,match p.2.1 with
   | some k=>∃ B,s k=some (some B)∧RnB s (stOf (m.map fun p=>(p.1,p.2.2))) (keyOf m) B p.2.2
   | none=>p.2.2.es=[]∧0<p.2.2.sz)
  (hl:∀ n,Rn s (stOf (m.map fun p=>(p.1,p.2.2))) (keyOf m) (e n) (e' n)):Weak (e,s) (e',stOf (m.map fun p=>(p.1,p.2.2))):=by
 have hst:∀ (m:List (Nat × Option Nat × Blk)),(m.map (·.1)).Nodup→∀ k',(stOf (m.map fun p=>(p.1,p.2.2)) k'=none∧keyOf m k'=none)∨∃ p ∈ m,p.1=k'∧stOf (m.map fun p=>(p.1,p.2.2)) k'=some (some p.2.2)∧keyOf m k'=p.2.1:=by
  intro m hn k'
  induction m with
  | nil=>exact .inl ⟨rfl,rfl⟩
  | cons p m ih =>
   obtain ⟨k,o,K⟩:=p
   simp only [List.map_cons,List.nodup_cons] at hn
   simp only [List.map_cons,stOf,keyOf]
   by_cases hk:k'=k
   ·subst hk;exact .inr ⟨_,List.mem_cons_self,rfl,upd_same _ _ _,by simp⟩
   ·rw [upd_other _ _ _ _ hk,if_neg hk]
    rcases ih hn.2 with h | ⟨p,h1,h2⟩
    ·exact .inl h
    ·exact .inr ⟨p,List.mem_cons_of_mem _ h1,h2⟩
 refine weak_rn (keyOf m) ?_ ?_ ?_ hl
 ·intro k1 k2 k h1 h2
  have key:∀ (m:List (Nat × Option Nat × Blk)),(m.filterMap (·.2.1)).Nodup→keyOf m k1=some k→keyOf m k2=some k→k1=k2:=by
   intro m hn h1 h2
   have hmem:∀ (m:List (Nat × Option Nat × Blk)) j,keyOf m j=some k→k ∈ m.filterMap (·.2.1):=by
    intro m j hj
    induction m with
    | nil=>cases hj
    | cons p m ih =>
     obtain ⟨k',o,K⟩:=p
     simp only [keyOf] at hj
     split at hj
     ·subst hj;simp
     ·have:=ih hj
      cases o <;> simp [this]
   induction m with
   | nil=>cases h1
   | cons p m ih =>
    obtain ⟨k',o,K⟩:=p
    simp only [keyOf] at h1 h2
    by_cases e1:k1=k' <;> by_cases e2:k2=k'
    ·rw [e1,e2]
    ·rw [if_pos e1] at h1;rw [if_neg e2] at h2
     subst h1
     simp only [List.filterMap_cons] at hn
     exact absurd (hmem m k2 h2) (List.nodup_cons.1 hn).1
    ·rw [if_neg e1] at h1;rw [if_pos e2] at h2
     subst h2
     simp only [List.filterMap_cons] at hn
     exact absurd (hmem m k1 h1) (List.nodup_cons.1 hn).1
    ·rw [if_neg e1] at h1;rw [if_neg e2] at h2
     refine ih ?_ h1 h2
     cases o with
     | none=>simpa using hn
     | some q=>simp only [List.filterMap_cons] at hn;exact (List.nodup_cons.1 hn).2
  exact key m hd' h1 h2
 ·intro k'
  rcases hst m hd k' with ⟨h,_⟩ | ⟨p,h1,h2,h3,h4⟩
  ·exact .inl h
  ·refine .inr ⟨p.2.2,h3,?_⟩
   have:=hm p h1
   rw [h4]
   split at this
   ·rename_i k hk
    obtain ⟨K,g1,g2⟩:=this
    exact .inl ⟨k,K,hk,g1,g2⟩
   ·rename_i hk
    exact .inr ⟨hk,this⟩
 ·intro k' k hk
  rcases hst m hd k' with ⟨_,h⟩ | ⟨p,h1,h2,h3,h4⟩
  ·rw [h] at hk;cases hk
  ·rw [h3];simp

def keys1:AV→List Nat
 | .buf k _=>[k]
 | .ptr k _ _=>[k]
 | _=>[]
def keysV:AV→List Nat
 | .agg cs=>cs.flatMap keys1
 | x=>keys1 x
def keysB (B:Blk):List Nat:=B.es.flatMap keysV
def addKeys (acc:List Nat):List Nat→List Nat
 | []=>acc
 | k :: l=>addKeys (if acc.contains k then acc else acc ++ [k]) l
def reach (s:Store):Nat→List Nat→List Nat
 | 0,ks=>ks
 | n+1,ks=>reach s n (addKeys ks (ks.flatMap fun k=>match s k with
  | some (some B)=>keysB B
  | _=>[]))
def liveOf (s:Store) (ks:List Nat):List (Nat × Blk):=ks.filterMap fun k=>match s k with
 | some (some B)=>some (k,B)
 | _=>none
def lookN (m:List (Nat × Nat)) (k:Nat):Option Nat:=match m with
 | []=>none
 | (a,b) :: r=>if k=a then some b else lookN r k
def tab (base:Nat):List (Nat × Blk)→List (Nat × Nat)
 | []=>[]
 | (k,_) :: r=>(k,base) :: tab (base+1) r
def mOf (g:Nat→Option Nat):List (Nat × Blk)→List (Nat × Option Nat × Blk)
 | []=>[]
 | (k,B) :: r=>match g k with
  | some k'=>(k',some k,rnBlk g B) :: mOf g r
  | none=>mOf g r

theorem mOf_mem {g:Nat→Option Nat}:∀ {l:List (Nat × Blk)} {p:Nat × Option Nat × Blk},p ∈ mOf g l→∃ k B,(k,B) ∈ l∧g k=some p.1∧p.2.1=some k∧p.2.2=rnBlk g B
 | [],p,h=>by cases h
 | (k,B) :: r,p,h=>by
  simp only [mOf] at h
  split at h
  ·rename_i k' hk
   rcases List.mem_cons.1 h with rfl | h
   ·exact ⟨k,B,List.mem_cons_self,hk,rfl,rfl⟩
   ·obtain ⟨k2,B2,h1,h2⟩:=mOf_mem h
    exact ⟨k2,B2,List.mem_cons_of_mem _ h1,h2⟩
  ·obtain ⟨k2,B2,h1,h2⟩:=mOf_mem h
   exact ⟨k2,B2,List.mem_cons_of_mem _ h1,h2⟩

def tabOk (g:Nat→Option Nat) (l:List (Nat × Blk)) (gl:List (Nat × Nat)):Bool :=
 decide ((mOf g l).map (·.1)).Nodup && decide ((mOf g l).filterMap (·.2.1)).Nodup && (mOf g l).all (fun p=>p.2.2.es.all fun x=>(cellsOf x).all cell) && gl.all fun p=>decide (keyOf (mOf g l) p.2=some p.1)

theorem liveOf_mem {s:Store} {ks:List Nat} {k:Nat} {B:Blk} (h:(k,B) ∈ liveOf s ks):s k=some (some B):=by
 unfold liveOf at h
 obtain ⟨k',_,h2⟩:=List.mem_filterMap.1 h
 split at h2
 ·rename_i B' hB;cases h2;exact hB
 ·cases h2

theorem lookN_mem:∀ {m:List (Nat × Nat)} {k k':Nat},lookN m k=some k'→(k,k') ∈ m
 | [],_,_,h=>by cases h
 | (a,b) :: r,k,k',h=>by
  simp only [lookN] at h
  split at h
  ·rename_i hk;cases h;subst hk;exact List.mem_cons_self
  ·exact List.mem_cons_of_mem _ (lookN_mem h)

theorem weak_tab {e e':Env} {s:Store} {ks:List Nat} {gl:List (Nat × Nat)} (h:tabOk (lookN gl) (liveOf s ks) gl=true) (he:(∀ k k',lookN gl k=some k'→keyOf (mOf (lookN gl) (liveOf s ks)) k'=some k) →
  ∀ n,Rn s (stOf ((mOf (lookN gl) (liveOf s ks)).map fun p=>(p.1,p.2.2))) (keyOf (mOf (lookN gl) (liveOf s ks))) (e n) (e' n)) :
  Weak (e,s) (e',stOf ((mOf (lookN gl) (liveOf s ks)).map fun p=>(p.1,p.2.2))):=by
 simp only [tabOk,Bool.and_eq_true,decide_eq_true_eq] at h
 obtain ⟨⟨⟨h1,h2⟩,h3⟩,h4⟩:=h
 have hg:∀ k k',lookN gl k=some k'→keyOf (mOf (lookN gl) (liveOf s ks)) k'=some k:=fun k k' hk=>by
  have:=List.all_eq_true.1 h4 (k,k') (lookN_mem hk)
  simpa using this
 refine weak_tm _ h1 h2 (fun p hp=>?_) (he hg)
 obtain ⟨k,B,g1,g2,g3,g4⟩:=mOf_mem hp
 rw [g3]
 refine ⟨B,liveOf_mem g1,?_⟩
 have:=List.all_eq_true.1 h3 p hp
 rw [g4] at this ⊢
 refine rnBlk_rn hg fun x hx=>?_
 have:=List.all_eq_true.1 this x hx
 exact List.all_eq_true.1 this

noncomputable def mapT (f:AV→AV) (t:T):T:=T.rec (motive:=fun _=>T) .leaf (fun _ v _ l r=>.node l (f v) r) t
noncomputable def allT (p:AV→Bool) (t:T):Bool:=T.rec (motive:=fun _=>Bool) true (fun _ v _ l r=>p v && (l && r)) t
noncomputable def keysT (t:T):List Nat:=T.rec (motive:=fun _=>List Nat) [] (fun _ v _ l r=>keysV v ++ (l ++ r)) t
theorem get_mapT {f:AV→AV} (hf:f .undef=.undef):∀ (t:T) (n:Nat),getT (mapT f t) n=f (getT t n):=by
 intro t
 induction t with
 | leaf=>intro n;exact hf.symm
 | node l v r ihl ihr =>
  intro n
  cases n with
  | zero=>rfl
  | succ m =>
   show getT (.node (mapT f l) (f v) (mapT f r)) (m+1)=f (getT (.node l v r) (m+1))
   rw [getT_succ,getT_succ]
   cases Nat.beq (m % 2) 0
   ·exact ihr _
   ·exact ihl _
theorem get_allT {p:AV→Bool} (hp:p .undef=true):∀ (t:T),allT p t=true→∀ n,p (getT t n)=true:=by
 intro t
 induction t with
 | leaf=>intro _ n;exact hp
 | node l v r ihl ihr =>
  intro h n
  have h':(p v && (allT p l && allT p r))=true:=h
  simp only [Bool.and_eq_true] at h'
  cases n with
  | zero=>exact h'.1
  | succ m =>
   rw [getT_succ]
   cases Nat.beq (m % 2) 0
   ·exact ihr h'.2.2 _
   ·exact ihl h'.2.1 _

structure St where
 e:T
 s:Store
 ks:List Nat

def isLow (N:Nat) (s:Store) (k:Nat):Bool:=Nat.blt k N && (match s k with
 | some _=>true
 | none=>false)
noncomputable def nrm (N:Nat) (q:St):Option St :=
  cond (q.ks.any (isLow N q.s))
    (let l:=liveOf q.s (reach q.s 4 (addKeys [] (keysT q.e)))
     let gl:=tab N l
     cond (tabOk (lookN gl) l gl) (some ⟨mapT (rnV (lookN gl)) q.e,stOf ((mOf (lookN gl) l).map fun p=>(p.1,p.2.2)),gl.map (·.2)⟩) none)
    (some q)

theorem nrm_weak {N:Nat} {q q':St} (h:nrm N q=some q'):Weak (getT q.e,q.s) (getT q'.e,q'.s):=by
 unfold nrm at h
 cases hc:q.ks.any (isLow N q.s) with
 | false=>rw [hc] at h;cases h;exact Weak.refl _
 | true =>
  rw [hc] at h
  simp only [cond_true] at h
  generalize hl:liveOf q.s (reach q.s 4 (addKeys [] (keysT q.e)))=l at h
  cases ht:tabOk (lookN (tab N l)) l (tab N l) with
  | false=>rw [ht] at h;cases h
  | true =>
   rw [ht] at h
   simp only [cond_true,Option.some.injEq] at h
   subst h
   subst hl
   exact weak_tab ht fun hg n=>by
    simp only
    rw [get_mapT rfl]
    exact rnV_rn hg _

def idTab (N top:Nat):List (Nat × Blk)→List (Nat × Nat)
 | []=>[]
 | (k,_) :: r=>if N≤k then (k,k) :: idTab N top r else (k,top) :: idTab N (top+1) r
def keyMax (N:Nat):List (Nat × Blk)→Nat
 | []=>N
 | (k,_) :: r=>max (k+1) (keyMax N r)
def keepV (g:Nat→Option Nat):AV→Bool
 | .buf k _=>decide (g k=some k)
 | .ptr k _ _=>decide (g k=some k)
 | x=>imm x
theorem keepV_rn {s s':Store} {f g:Nat→Option Nat} (hg:∀ k k',g k=some k'→f k'=some k) {x:AV} (h:keepV g x=true):Rn s s' f x x:=by
 cases x <;> simp only [keepV,decide_eq_true_eq] at h <;> first
  | exact .imm _ h
  | exact .buf _ _ _ (hg _ _ h)
  | exact .ptr _ _ _ _ (hg _ _ h)
noncomputable def cln (N:Nat) (e:T) (q:St):Option (Store × List Nat) :=
  cond (q.ks.any (isLow N q.s))
    (let l:=liveOf q.s (reach q.s 4 (addKeys [] (keysT e)))
     let gl:=idTab N (keyMax N l) l
     cond (tabOk (lookN gl) l gl && allT (keepV (lookN gl)) e) (some (stOf ((mOf (lookN gl) l).map fun p=>(p.1,p.2.2)),gl.map (·.2))) none)
    (some (q.s,q.ks))
def noBuf (q:Store):AV→AV
 | .buf _ _=>.undef
 | .ptr k i o=>(match q k with
  | some (some _)=>.ptr k i o
  | _=>.undef)
 | x=>x
theorem noBuf_weak (q:Store) (e:T) (s:Store):Weak (getT e,s) (getT (mapT (noBuf q) e),s):=by
  intro N' B w0 ok0 ok ρ a w h0 hR
  refine ⟨ok,ρ,fun _ h=>h,?_⟩
  have hv:∀ n,getT (mapT (noBuf q) e) n=.undef∨getT (mapT (noBuf q) e) n=getT e n:=by
    intro n
    rw [get_mapT rfl]
    cases getT e n <;> first
      | exact .inl rfl
      | exact .inr rfl
      | (rename_i k i o
         simp only [noBuf]
         split
         · exact .inr rfl
         · exact .inl rfl)
  constructor
  · exact hR.defers
  · exact hR.size
  · exact hR.below
  · exact hR.base
  · intro n
    rcases hv n with h | h
    · simp only;rw [h];exact .undef _
    · simp only;rw [h];exact hR.tmps n
  · exact hR.oklt
  · exact hR.okold
  · exact hR.live
  · exact hR.inj
  · exact hR.kept
  · exact hR.goes
  · exact hR.gok
theorem cln_weak {N:Nat} {e:T} {q:St} {p:Store × List Nat} (h:cln N e q=some p):Weak (getT e,q.s) (getT e,p.1):=by
 unfold cln at h
 cases hc:q.ks.any (isLow N q.s) with
 | false=>rw [hc] at h;cases h;exact Weak.refl _
 | true =>
  rw [hc] at h
  simp only [cond_true] at h
  generalize hl:liveOf q.s (reach q.s 4 (addKeys [] (keysT e)))=l at h
  cases ht:(tabOk (lookN (idTab N (keyMax N l) l)) l (idTab N (keyMax N l) l) && allT (keepV (lookN (idTab N (keyMax N l) l))) e) with
  | false=>rw [ht] at h;cases h
  | true =>
   rw [ht] at h
   simp only [cond_true,Option.some.injEq] at h
   subst h
   subst hl
   simp only [Bool.and_eq_true] at ht
   exact weak_tab ht.1 fun hg n=>keepV_rn hg (get_allT rfl _ ht.2 n)

abbrev RunR:=Option (Exit × St)
noncomputable def loopF (N:Nat) (f:St→RunR):Nat→St→RunR
 | 0,_=>none
 | n+1,q=>match nrm N q with
  | none=>none
  | some q1=>match f q1 with
   | some (.normal,q2)=>loopF N f n q2
   | r=>r

noncomputable def updTL (e:T):List Nat→List AV→Option T
 | p :: ps,v :: vs=>match putT e p v with
  | some e1=>updTL e1 ps vs
  | none=>none
 | _,_=>some e
theorem updTL_some:∀ {ps:List Nat} {vs:List AV} {e e':T},updTL e ps vs=some e'→getT e'=updL (getT e) ps vs
 | [],vs,e,e',h=>by cases h;cases vs <;> rfl
 | p :: ps,[],e,e',h=>by cases h;rfl
 | p :: ps,v :: vs,e,e',h=>by
  simp only [updTL] at h
  split at h
  ·rename_i e1 h1
   rw [updTL_some h,putT_some h1];rfl
  ·cases h

noncomputable def roundF (N:Nat) (fa fb:St→RunR) (e:T) (ps:List Nat) (x:List AV) (p:Store × List Nat):Option (Exit × Store × List Nat) :=
 match updTL e ps x with
 | none=>none
 | some e0=>match fa ⟨e0,p.1,p.2⟩ with
  | some (.normal,q1)=>match fb q1 with
   | some (.normal,q2)=>match cln N e q2 with
    | some p3=>some (.normal,p3.1,p3.2)
    | none=>none
   | some (.ret,q2)=>some (.ret,q2.s,q2.ks)
   | some (.exit id,q2)=>some (.exit id,q2.s,q2.ks)
   | _=>none
  | _=>none
noncomputable def rfF (N:Nat) (fa fb:St→RunR) (e:T) (ps:List Nat):List (List AV)→Store × List Nat→RunR
 | [],p=>some (.normal,⟨e,p.1,p.2⟩)
 | x :: xs,p=>match roundF N fa fb e ps x p with
  | some (.normal,p1)=>rfF N fa fb e ps xs p1
  | some (ex,p2)=>some (ex,⟨e,p2.1,p2.2⟩)
  | none=>none

def dests (ss:List MS):List Nat:=ss.filterMap fun m=>if allocs m.o || isCall m.o then m.d else none
noncomputable def runM (ct:CT) (it:IterT) (N fuel:Nat):MC→St→RunR
 | .skip,q=>some (.normal,q)
 | .reg ss draw conf,q=>match runL ct draw ss q.e q.s with
  | none=>none
  | some (e1,s1)=>if confB conf (getT e1) then some (.normal,⟨e1,s1,addKeys q.ks (dests ss)⟩) else none
 | .seq a b,q=>match runM ct it N fuel a q with
  | some (.normal,q1)=>runM ct it N fuel b q1
  | r=>r
 | .cond x a b,q=>match x.ev (getT q.e) with
  | .bool true=>runM ct it N fuel a q
  | .bool false=>runM ct it N fuel b q
  | _=>none
 | .block id a,q=>match runM ct it N fuel a q with
  | some (.exit id',q1)=>if id'=id then some (.normal,q1) else some (.exit id',q1)
  | r=>r
 | .loop a,q=>loopF N (runM ct it N fuel a) fuel q
 | .exit id,q=>some (.exit id,q)
 | .ret,q=>some (.ret,q)
 | .rf x ps a b,q=>match nrm N q with
  | none=>none
  | some q1=>match x.ev (getT (mapT (noBuf q1.s) q1.e)) with
   | .fn g caps=>if caps.all imm && a.flat && b.flat then (match it g caps with
    | some xs=>if xs.all (fun y=>decide (y.length=ps.length)) then rfF N (runM ct it N fuel a) (runM ct it N fuel b) (mapT (noBuf q1.s) q1.e) ps xs (q1.s,q1.ks) else none
    | none=>none) else none
   | _=>none
 | .nextm ..,_=>none
 | .regT ..,_=>none

def badS:Store:=fun _=>some (some ⟨0,0,[]⟩)
theorem not_sat {e:Env}:¬ Sat e badS:=by
 rintro ⟨N,B,w0,ok0,ok,ρ,a,w,hR⟩
 rcases hR.live 0 ⟨0,0,[]⟩ rfl with h | ⟨_,b,o,x,_,_,_,⟨y,h,_⟩,_⟩
 ·exact absurd h.1 (by decide)
 ·cases h
theorem AWM_bad {P:Program} {N:Nat} {m:MC} {Q:Exit→Env→Store→Prop} {e:Env}:AWM P N m Q e badS:=by
 intro c hc ro rm B w0 ok0 ok ρ a w hfl hR
 exact absurd ⟨_,_,_,_,_,_,_,_,hR⟩ (not_sat (e:=e))

noncomputable def followF (N:Nat) (fa fb:St→RunR) (e:T) (ps:List Nat):List (List AV)→Store × List Nat→Option (Store × List Nat)
 | [],p=>some p
 | x :: xs,p=>match roundF N fa fb e ps x p with
  | some (.normal,p1)=>followF N fa fb e ps xs p1
  | _=>none
theorem follow_app {N:Nat} {fa fb:St→RunR} {e:T} {ps:List Nat}:∀ {pre ys:List (List AV)} {p:Store × List Nat},followF N fa fb e ps (pre ++ ys) p=(followF N fa fb e ps pre p).bind (followF N fa fb e ps ys)
 | [],_,_=>rfl
 | x :: pre,ys,p=>by
  simp only [List.cons_append,followF]
  split
  ·exact follow_app
  ·rfl
theorem rfF_app {N:Nat} {fa fb:St→RunR} {e:T} {ps:List Nat}:∀ {pre ys:List (List AV)} {p p1:Store × List Nat},followF N fa fb e ps pre p=some p1→rfF N fa fb e ps (pre ++ ys) p=rfF N fa fb e ps ys p1
 | [],_,_,_,h=>by cases h;rfl
 | x :: pre,ys,p,p1,h=>by
  simp only [followF] at h
  split at h
  ·rename_i p2 h2
   simp only [List.cons_append,rfF,h2]
   exact rfF_app h
  ·cases h
noncomputable def stO (o:Option (Store × List Nat)):Store:=match o with
 | some p=>p.1
 | none=>badS

section
variable {P:Program} {ct:CT} {it:IterT} (hct:ct.ok P) (hit:∀ g caps xs,it g caps=some xs→SeqA P g caps xs)
include hct hit

theorem runM_some {N fuel:Nat}:∀ {m:MC} {q:St} {x:Exit} {q':St},runM ct it N fuel m q=some (x,q')→∀ {Q:Exit→Env→Store→Prop},Q x (getT q'.e) q'.s→AWM P N m Q (getT q.e) q.s:=by
 intro m
 induction m with
 | skip=>intro q x q' h Q hq;cases h;exact M_skip (t:=.mk) hq
 | reg ss draw conf =>
  intro q x q' h Q hq
  simp only [runM] at h
  split at h
  ·cases h
  ·rename_i e1 s1 h1
   split at h
   ·rename_i hc
    cases h
    exact vcM_sound _ (runL_some hct h1 ⟨confB_ok hc,hq⟩)
   ·cases h
 | seq a b iha ihb =>
  intro q x q' h Q hq
  simp only [runM] at h
  split at h
  ·rename_i q1 h1
   exact M_seq (t:=.mk) (iha h1 (Q:=seqQ (fun e s=>M P N b Q e s .mk) Q .mk) (ihb h hq))
  ·rename_i hn
   refine M_seq (t:=.mk) (iha h (Q:=seqQ (fun e s=>M P N b Q e s .mk) Q .mk) ?_)
   cases x with
   | normal=>exact absurd h (hn _)
   | _=>exact hq
 | cond y a b iha ihb =>
  intro q x q' h Q hq
  simp only [runM] at h
  split at h
  ·rename_i hy
   refine M_cond (t:=.mk) ?_
   rw [hy]
   exact ⟨fun _=>iha h hq,(fun h2=>by cases h2)⟩
  ·rename_i hy
   refine M_cond (t:=.mk) ?_
   rw [hy]
   exact ⟨(fun h2=>by cases h2),fun _=>ihb h hq⟩
  ·cases h
 | block id a iha =>
  intro q x q' h Q hq
  simp only [runM] at h
  split at h
  ·rename_i id' q1 h1
   refine M_block (t:=.mk) (iha h1 (Q:=blockQ id Q .mk) ?_)
   simp only [blockQ]
   split at h
   ·rename_i hid;cases h;rw [if_pos hid];exact hq
   ·rename_i hid;cases h;rw [if_neg hid];exact hq
  ·rename_i hn
   refine M_block (t:=.mk) (iha h (Q:=blockQ id Q .mk) ?_)
   cases x with
   | exit id'=>exact absurd h (hn _ _)
   | _=>exact hq
 | loop a iha =>
  intro q x q' h Q hq
  simp only [runM] at h
  obtain ⟨f,hf⟩:∃ f,f=runM ct it N fuel a:=⟨_,rfl⟩
  rw [← hf] at h
  have hstart:∀ {n:Nat} {q:St},loopF N f n q=some (x,q')→∃ q1,nrm N q=some q1∧∃ k,n=k+1:=by
   intro n q h
   cases n with
   | zero=>cases h
   | succ n =>
    simp only [loopF] at h
    split at h
    ·cases h
    ·rename_i q1 h1;exact ⟨_,h1,n,rfl⟩
  have h00:=h
  obtain ⟨q0,hq0,_⟩:=hstart h
  have hpair:∀ {q0 q1:St},nrm N q0=some q1→((nrm N q0).map fun q=>(getT q.e,q.s)).getD (getT q0.e,q0.s)=(getT q1.e,q1.s):=fun h=>by rw [h];rfl
  refine AWM.loop (α:={ p:Nat × St // loopF N f p.1 p.2=some (x,q') }) (fun p=>((nrm N p.1.2).map fun q=>(getT q.e,q.s)).getD (getT p.1.2.e,p.1.2.s)) (fun p=>p.1.1) ⟨(fuel,q),h00⟩ ?_ ?_
  ·simp only
   rw [hpair hq0];exact nrm_weak hq0
  ·rintro ⟨⟨n,p0⟩,hp⟩
   simp only at hp ⊢
   obtain ⟨q1,hq1,k,rfl⟩:=hstart hp
   simp only [loopF,hq1] at hp
   rw [hpair hq1]
   split at hp
   ·rename_i q2 h2
    rw [hf] at h2
    refine iha h2 ?_
    obtain ⟨q3,hq3,_⟩:=hstart hp
    exact ⟨⟨(k,q2),hp⟩,Nat.lt_succ_self k,by simp only;rw [hpair hq3];exact nrm_weak hq3⟩
   ·rename_i hn
    rw [hf] at hp hn
    refine iha hp ?_
    cases x with
    | normal=>exact absurd hp (hn _)
    | _=>exact hq
 | exit id=>intro q x q' h Q hq;cases h;exact M_exit (t:=.mk) hq
 | ret=>intro q x q' h Q hq;cases h;exact M_ret (t:=.mk) hq
 | nextm dt x ss=>intro q x q' h Q hq;cases h
 | regT ss cf tl=>intro q x q' h Q hq;cases h
 | rf y ps a b iha ihb =>
  intro q x q' h Q hq
  simp only [runM] at h
  split at h
  ·cases h
  rename_i q0 h0
  split at h
  ·rename_i g caps hy
   split at h
   ·rename_i hc
    simp only [Bool.and_eq_true] at hc
    split at h
    ·rename_i xs hxs
     split at h
     ·rename_i hlen
      refine AWM.weak rfl ((nrm_weak h0).trans (noBuf_weak q0.s q0.e q0.s)) ?_
      simp only
      generalize mapT (noBuf q0.s) q0.e=e1 at *
      obtain ⟨p0,hp0⟩:∃ p0,p0=(q0.s,q0.ks):=⟨_,rfl⟩
      rw [← hp0] at h
      have hs0:q0.s=p0.1:=by rw [hp0]
      rw [hs0]
      clear hs0 hp0
      obtain ⟨fa,hfa⟩:∃ f,f=runM ct it N fuel a:=⟨_,rfl⟩
      obtain ⟨fb,hfb⟩:∃ f,f=runM ct it N fuel b:=⟨_,rfl⟩
      rw [← hfa,← hfb] at h
      refine AWM.rf hy (fun c hc'=>List.all_eq_true.1 hc.1.1 c hc') hc.1.2 hc.2 (hit _ _ _ hxs) (fun y hy'=>by simpa using List.all_eq_true.1 hlen y hy')
       (fun pre=>stO (followF N fa fb e1 ps pre p0)) (by simp only [followF,stO];exact Weak.refl _) ?_ ?_
      ·intro pre z rest hsplit
       cases hfol:followF N fa fb e1 ps pre p0 with
       | none=>simp only [stO];exact AWM_bad
       | some p1 =>
        simp only [stO]
        rw [← hsplit,rfF_app hfol] at h
        simp only [rfF] at h
        have hnext:followF N fa fb e1 ps (pre ++ [z]) p0=followF N fa fb e1 ps [z] p1:=by rw [follow_app,hfol];rfl
        rw [hnext]
        simp only [followF]
        generalize hround:roundF N fa fb e1 ps z p1=r at h
        unfold roundF at hround
        split at hround
        ·subst hround;cases h
        rename_i e0 he0
        rw [← updTL_some he0]
        split at hround
        ·rename_i q2 h2
         rw [hfa] at h2
         refine iha h2 ⟨rfl,?_⟩
         split at hround
         ·rename_i q3 h3
          rw [hfb] at h3
          refine ihb h3 ?_
          split at hround
          ·rename_i p4 hcl
           subst hround
           simp only [rfQ]
           exact cln_weak hcl
          ·subst hround;cases h
         ·rename_i q3 h3
          rw [hfb] at h3
          subst hround
          simp only [Option.some.injEq,Prod.mk.injEq] at h
          obtain ⟨rfl,rfl⟩:=h
          exact ihb h3 hq
         ·rename_i id q3 h3
          rw [hfb] at h3
          subst hround
          simp only [Option.some.injEq,Prod.mk.injEq] at h
          obtain ⟨rfl,rfl⟩:=h
          exact ihb h3 hq
         ·subst hround;cases h
        ·subst hround;cases h
      ·intro hsat
       cases hfol:followF N fa fb e1 ps xs p0 with
       | none=>rw [hfol] at hsat;exact absurd hsat not_sat
       | some p1 =>
        have:=rfF_app (ys:=[]) hfol
        rw [List.append_nil] at this
        rw [this] at h
        simp only [rfF,Option.some.injEq,Prod.mk.injEq] at h
        obtain ⟨rfl,rfl⟩:=h
        exact hq
     ·cases h
    ·cases h
   ·cases h
  ·cases h
end

noncomputable def resAD (e:Env) (s:Store):Nat × Option (Option Nat)→Option AV
 | (t,none)=>some (e t)
 | (a,some n)=>(exD 0 (.load n (.t a)) e s).map (·.1)
noncomputable def resAllD (e:Env) (s:Store):List (Nat × Option (Option Nat))→Option (List AV)
 | []=>some []
 | r :: l=>match resAD e s r,resAllD e s l with
  | some v,some vs=>some (v :: vs)
  | _,_=>none
noncomputable def resVD (e:Env) (s:Store) (l:List (Nat × Option (Option Nat))):Option AV :=
 match resAllD e s l with
 | some [v]=>some (bor s 5 v)
 | some vs=>some (.tup (vs.map (bor s 5)))
 | none=>none
theorem resAD_eq (e:Env) (s:Store) (r:Nat × Option (Option Nat)):resAD e s r=resA e s r:=by
 obtain ⟨t,o⟩:=r
 cases o with
 | none=>rfl
 | some n=>simp only [resAD,resA,exD_eq]
theorem resAllD_eq (e:Env) (s:Store):∀ l,resAllD e s l=resAll e s l
 | []=>rfl
 | r :: l=>by simp only [resAllD,resAll,resAD_eq,resAllD_eq e s l];rfl
theorem resVD_eq (e:Env) (s:Store) (l:List (Nat × Option (Option Nat))):resVD e s l=resV e s l:=by
 simp only [resVD,resV,resAllD_eq];rfl

abbrev CodeT:=FuncId→Option (Nat × Nat × MC × List (Nat × Option (Option Nat)))
noncomputable def argT (n:Nat) (t:T):List AV→Option T
 | []=>some t
 | a :: l=>match putT t n a with
  | some t1=>argT (n+1) t1 l
  | none=>none
theorem argT_some:∀ {l:List AV} {n:Nat} {t t':T},argT n t l=some t'→∀ k,getT t' k=if n≤k∧k<n+l.length then l.getD (k - n) .undef else getT t k
 | [],n,t,t',h,k=>by cases h;rw [if_neg (by simp)]
 | a :: l,n,t,t',h,k=>by
  simp only [argT] at h
  split at h
  ·rename_i t1 h1
   rw [argT_some h k,putT_some h1]
   by_cases hk:k=n
   ·subst hk
    rw [if_neg (by omega),upd_same,if_pos (by simp)]
    simp
   ·rw [upd_other _ _ _ _ hk]
    by_cases h2:n+1≤k∧k<n+1+l.length
    ·rw [if_pos h2,if_pos (by simp only [List.length_cons];omega)]
     have:k - n=(k - (n+1))+1:=by omega
     rw [this];simp
    ·rw [if_neg h2,if_neg (by simp only [List.length_cons];omega)]
  ·cases h
theorem argT_argE {l:List AV} {t:T} (h:argT 0 .leaf l=some t):getT t=argE l:=by
 funext k
 rw [argT_some h k]
 unfold argE
 by_cases hk:k<l.length
 ·rw [if_pos ⟨by omega,by omega⟩];simp
 ·rw [if_neg (by omega)]
  simp [List.getD,List.getElem?_eq_none (Nat.le_of_not_lt hk),getT_leaf]
noncomputable def runF (ct:CT) (it:IterT) (code:CodeT) (fuel:Nat) (f:FuncId) (args:List AV):Option AV :=
 match code f with
 | some (nt,_,m,rs)=>if args.length≤nt then (match argT 0 .leaf args with
  | some t=>(match runM ct it nt fuel m ⟨t,noStore,[]⟩ with
   | some (.normal,q)=>resVD (getT q.e) q.s rs
   | some (.ret,q)=>resVD (getT q.e) q.s rs
   | _=>none)
  | none=>none) else none
 | none=>none
noncomputable def ownD (e:Env) (s:Store) (rs:List (Nat × Option (Option Nat))):Option (Nat × Nat × List AV):=match rs with
 | [(t,none)]=>match e t with
  | .buf k len=>match s k with
   | some (some B)=>cond (Nat.beq B.es.length len && B.es.all imm && Nat.ble 1 B.sz) (some (B.ty,B.sz,B.es)) none
   | _=>none
  | _=>none
 | _=>none
theorem ownD_some {e:Env} {s:Store} {rs:List (Nat × Option (Option Nat))} {q:Nat × Nat × List AV} (h:ownD e s rs=some q):∃ t,rs=[(t,none)]∧ownV e s t q.1 q.2.1 q.2.2∧0<q.2.1:=by
 unfold ownD at h
 split at h
 ·rename_i t
  split at h
  ·rename_i k len hk
   split at h
   ·rename_i B hB
    cases hc:(Nat.beq B.es.length len && B.es.all imm && Nat.ble 1 B.sz) with
    | false=>rw [hc] at h;cases h
    | true =>
     rw [hc] at h
     cases h
     simp only [Bool.and_eq_true] at hc
     obtain ⟨⟨h1,h2⟩,h3⟩:=hc
     have h1:=Nat.eq_of_beq_eq_true h1
     have h3:=Nat.le_of_ble_eq_true h3
     exact ⟨t,rfl,⟨k,by rw [hk,h1],hB,h2⟩,h3⟩
   ·cases h
  ·cases h
 ·cases h
noncomputable def runFO (ct:CT) (it:IterT) (code:CodeT) (fuel:Nat) (f:FuncId) (args:List AV):Option (Nat × Nat × List AV) :=
 match code f with
 | some (nt,_,m,rs)=>if args.length≤nt then (match argT 0 .leaf args with
  | some t=>(match runM ct it nt fuel m ⟨t,noStore,[]⟩ with
   | some (.normal,q)=>ownD (getT q.e) q.s rs
   | some (.ret,q)=>ownD (getT q.e) q.s rs
   | _=>none)
  | none=>none) else none
 | none=>none
noncomputable def callX (ext:CT) (ow:FuncId→Bool) (it:IterT) (code:CodeT) (fuel:Nat):Nat→CT
 | 0=>ext
 | n+1=>⟨fun f args=>match ext.v f args with
   | some v=>some v
   | none=>runF (callX ext ow it code fuel n) it code fuel f args,
  fun f args=>cond (ow f) (match ext.o f args with
   | some v=>some v
   | none=>runFO (callX ext ow it code fuel n) it code fuel f args) none⟩

theorem callX_sound {P:Program} {ext:CT} {ow:FuncId→Bool} {it:IterT} {code:CodeT} {fuel:Nat} (hext:ext.ok P) (hit:∀ g caps xs,it g caps=some xs→SeqA P g caps xs)
  (hcode:∀ f c,code f=some c→cFun P f=some c):∀ (n:Nat),(callX ext ow it code fuel n).ok P
 | 0=>hext
 | n+1=>by
  have ih:=callX_sound (ow:=ow) (fuel:=fuel) hext hit hcode n
  refine ⟨fun f a v h=>?_,fun f a q h=>?_⟩
  ·simp only [callX] at h
   split at h
   ·rename_i u hu;cases h;exact hext.1 f a _ hu
   ·unfold runF at h
    split at h
    ·rename_i nt np m rs hc
     split at h
     ·rename_i hla
      split at h
      ·rename_i t ht
       have hte:=argT_argE ht
       split at h
       ·rename_i q hr
        rw [resVD_eq] at h
        exact sound_of (hcode _ _ hc) hla (by rw [← hte];exact runM_some ih hit hr ⟨.inl rfl,h⟩)
       ·rename_i q hr
        rw [resVD_eq] at h
        exact sound_of (hcode _ _ hc) hla (by rw [← hte];exact runM_some ih hit hr ⟨.inr rfl,h⟩)
       ·cases h
      ·cases h
     ·cases h
    ·cases h
  ·simp only [callX] at h
   cases how:ow f with
   | false=>rw [how] at h;cases h
   | true =>
    rw [how] at h
    simp only [cond_true] at h
    split at h
    ·rename_i u hu;cases h;exact hext.2 f a _ hu
    ·unfold runFO at h
     split at h
     ·rename_i nt np m rs hc
      split at h
      ·rename_i hla
       split at h
       ·rename_i t ht
        have hte:=argT_argE ht
        split at h
        ·rename_i q' hr
         obtain ⟨tt,rfl,ho,hsz⟩:=ownD_some h
         exact soundO_of (hcode _ _ hc) hla hsz (by rw [← hte];exact runM_some ih hit hr ⟨.inl rfl,ho⟩)
        ·rename_i q' hr
         obtain ⟨tt,rfl,ho,hsz⟩:=ownD_some h
         exact soundO_of (hcode _ _ hc) hla hsz (by rw [← hte];exact runM_some ih hit hr ⟨.inr rfl,ho⟩)
        ·cases h
       ·cases h
      ·cases h
     ·cases h
def lookC:List (Nat × Nat × Nat × MC × List (Nat × Option (Option Nat)))→CodeT
 | [],_=>none
 | (n,c) :: l,f=>if f=n then some c else lookC l f
theorem lookC_ok {P:Program}:∀ {l:List (Nat × Nat × Nat × MC × List (Nat × Option (Option Nat)))},(∀ p ∈ l,cFun P p.1=some p.2)→∀ f c,lookC l f=some c→cFun P f=some c
 | [],_,_,_,h=>by cases h
 | (n,c0) :: l,hl,f,c,h=>by
  simp only [lookC] at h
  split at h
  ·rename_i hf;cases h;subst hf;exact hl _ List.mem_cons_self
  ·exact lookC_ok (fun p hp=>hl p (List.mem_cons_of_mem _ hp)) f c h
end Go.Av

/- What a row says of the arguments,as abstract values;from a contract to a row. By an AI agent;nothing here is trusted. -/
namespace Go.Av
open Go.ChangeShapes Go.WideShapes

def CRs (W:World) (xs:List AV) (cs:List Value):Prop :=
 xs.length=cs.length∧(∀ (i:Nat) (c:AV),xs[i]?=some c→VR W.heap (fun b=>b<W.heap.size) noPlace noStore c (cs.getD i undef))∧(∀ c ∈ xs,cell c=true)∧immL xs=true
def Rd (P:Program) (t:TypeId) {A:Type} (av:A→AV) (ok:A→Prop):Prop :=
 ∀ (H:Type) (enc:TypeId × Value→H) (W:World) (fuel:Nat) (cs:List Value) (x:DataW H × List MemPlace),DataW.trod enc P W 0 (fun _=>true) true fuel t cs=some x→∃ a,ok a∧CRs W (cellsOf (av a)) cs

theorem CRs.one {W:World} {x:AV} {v:Value} (h:VR W.heap (fun b=>b<W.heap.size) noPlace noStore x v) (h1:cell x=true) (h2:immL [x]=true):CRs W [x] [v]:=by
 refine ⟨rfl,fun i c hc=>?_,fun c hc=>?_,h2⟩
 ·cases i with
  | zero=>simp at hc;subst hc;exact h
  | succ i=>simp at hc
 ·simp at hc;subst hc;exact h1
theorem immL_append:∀ {a b:List AV},immL a=true→immL b=true→immL (a ++ b)=true
 | [],_,_,h=>h
 | x :: r,b,h,h'=>by
  have ih:immL r=true→immL (r ++ b)=true:=fun h=>immL_append h h'
  cases x <;> first
   | exact ih h
   | (cases h;done)
   | (rename_i o;cases o <;> first | exact ih h | (cases h;done))
theorem CRs.append {W:World} {xs ys:List AV} {cs ds:List Value} (h:CRs W xs cs) (k:CRs W ys ds):CRs W (xs ++ ys) (cs ++ ds):=by
 obtain ⟨h1,h2,h3,h4⟩:=h
 obtain ⟨k1,k2,k3,k4⟩:=k
 refine ⟨by simp [h1,k1],fun i c hc=>?_,fun c hc=>?_,immL_append h4 k4⟩
 ·by_cases hi:i<xs.length
  ·rw [List.getElem?_append_left hi] at hc
   have:=h2 i c hc
   rw [List.getD_eq_getElem?_getD,List.getElem?_append_left (by omega),← List.getD_eq_getElem?_getD]
   exact this
  ·rw [List.getElem?_append_right (by omega)] at hc
   have:=k2 (i - xs.length) c hc
   rw [List.getD_eq_getElem?_getD,List.getElem?_append_right (by omega),← h1,← List.getD_eq_getElem?_getD]
   exact this
 ·rcases List.mem_append.1 hc with hc | hc
  ·exact h3 c hc
  ·exact k3 c hc

section
variable {P:Program} {t:TypeId}

theorem Rd_i64 (ht:P.underlying t=some (.int .i64)):Rd P t (AV.int .i64) I64:=by
 intro H enc W fuel cs x h
 obtain ⟨n,rfl,rfl,hw⟩:=DataW.trod_int ht h
 refine ⟨n,?_,CRs.one (.int _ _) rfl rfl⟩
 simp only [Lit.wf,Bool.and_eq_true,decide_eq_true_eq] at hw
 have h1:IntKind.i64.min = -9223372036854775808:=by decide
 have h2:IntKind.i64.max=9223372036854775807:=by decide
 unfold I64;omega
theorem Rd_str (ht:P.underlying t=some .string):Rd P t AV.str (fun l=>l.length≤maxLen):=by
 intro H enc W fuel cs x h
 obtain ⟨s,rfl,rfl,hs⟩:=DataW.trod_string ht h
 exact ⟨s.data.toList,by simpa using hs,CRs.one (.str _ _ rfl) rfl rfl⟩

theorem Rd_slice {e:TypeId} {A:Type} {av:A→AV} {ok:A→Prop} {s:Nat} (ht:P.underlying t=some (.slice e)) (he:Rd P e av ok) (hcells:P.cellsOf e=s) (hpos:0<s)
  (hs:∀ a,(cellsOf (av a)).length=s) (him:∀ a,immL (cellsOf (av a))=true→imm (av a)=true) :
  Rd P t (fun l:List A=>.sl (l.map av)) (fun l=>l.length≤maxLen∧∀ a ∈ l,ok a):=by
 intro H enc W fuel cs x h
 rcases DataW.trod_slice ht h with ⟨rfl,_⟩ | ⟨a,len,cap,elems,rest,n,_,rfl,_,_,hlc,hcm,hel,hget,_,_⟩
 ·exact ⟨[],⟨by simp,fun a ha=>by cases ha⟩,CRs.one (.sl0 _ _) rfl rfl⟩
 ·have hex:∀ m,m≤len→∃ l:List A,l.length=m∧∀ i,i<m→∃ b csi,l[i]?=some b∧ok b∧W.cells? 0 (a.add (i * s)) s=some csi∧CRs W (cellsOf (av b)) csi:=by
   intro m
   induction m with
   | zero=>exact fun _=>⟨[],rfl,fun i hi=>by omega⟩
   | succ m ih =>
    intro hm
    obtain ⟨l,hl,hi⟩:=ih (by omega)
    have hg:=hget m (by omega)
    rw [hcells] at hg
    have hlt:m<elems.length:=by omega
    rw [List.getElem?_eq_getElem hlt] at hg
    obtain ⟨csi,h1,h2⟩:=Option.bind_eq_some_iff.1 hg
    obtain ⟨b,hb1,hb2⟩:=he H enc W n csi _ h2
    refine ⟨l ++ [b],by simp [hl],fun i hi'=>?_⟩
    by_cases him:i=m
    ·subst him
     exact ⟨b,csi,by rw [List.getElem?_append_right (by omega),hl];simp,hb1,h1,hb2⟩
    ·obtain ⟨b',csi',g1,g2,g3,g4⟩:=hi i (by omega)
     exact ⟨b',csi',by rw [List.getElem?_append_left (by omega)];exact g1,g2,g3,g4⟩
  obtain ⟨l,hl,hi⟩:=hex len (Nat.le_refl _)
  have hokl:∀ b ∈ l,ok b:=fun b hb=>by
   obtain ⟨i,hi',rfl⟩:=List.mem_iff_getElem.1 hb
   obtain ⟨b',_,g1,g2,_⟩:=hi i (by omega)
   rw [List.getElem?_eq_getElem hi'] at g1
   cases g1;exact g2
  refine ⟨l,⟨by omega,hokl⟩,CRs.one ?_ rfl rfl⟩
  by_cases h0:len=0
  ·subst h0
   have:l=[]:=List.eq_nil_of_length_eq_zero hl
   subst this
   exact .sl0 _ _
  ·obtain ⟨bk,off,spot⟩:=a
   have hcell:∀ i,i<len→∃ b csi,l[i]?=some b∧CRs W (cellsOf (av b)) csi∧csi.length=s∧∀ o,o<s→W.cell? (((⟨bk,off,spot⟩:Addr).add (i * s)).add o)=csi[o]?:=by
    intro i hi'
    obtain ⟨b,csi,g1,g2,g3,g4⟩:=hi i hi'
    obtain ⟨_,q1,q2⟩:=World.cells?_some g3
    exact ⟨b,csi,g1,g4,q1,q2⟩
   have hspot:spot=none:=by
    obtain ⟨b,csi,_,_,q1,q2⟩:=hcell 0 (by omega)
    have:=q2 0 hpos
    rw [List.getElem?_eq_getElem (by omega)] at this
    have:=World.cell?_spot this
    simp [Addr.add] at this
    exact this
   subst hspot
   simp only [add_plain] at hcell
   have hbl:∃ cur ty fr,W.heap[bk]?=some (.cells cur ty fr)∧∀ j v,W.cell? ⟨bk,j,none⟩=some v→cur[j]?=some v:=by
    obtain ⟨b,csi,_,_,q1,q2⟩:=hcell 0 (by omega)
    have:=q2 0 hpos
    rw [List.getElem?_eq_getElem (by omega)] at this
    unfold World.cell? at this
    split at this
    ·rename_i cur ty fr hb
     refine ⟨cur,ty,fr,hb,fun j v hv=>?_⟩
     unfold World.cell? at hv
     rw [hb] at hv
     simpa using hv
    ·cases this
   obtain ⟨cur,ty,fr,hb,hcur⟩:=hbl
   have key:=VR.sl (h:=W.heap) (ok:=fun b=>b<W.heap.size) (ρ:=noPlace) (σ:=noStore) (l.map av) bk off s cap cur ty fr (fun i o=>(cur[off+i * s+o]?).getD undef)
    (Array.getElem?_eq_some_iff.1 hb).1 (by simp [hl];exact hlc) hb ?_ ?_ ?_
   ·rw [List.length_map,hl] at key;exact key
   ·intro i y hy
    rw [List.getElem?_map] at hy
    obtain ⟨b,hb',rfl⟩:=Option.map_eq_some_iff.1 hy
    have hlt:i<len:=by have:=(List.getElem?_eq_some_iff.1 hb').1;omega
    obtain ⟨b2,csi,g1,g2,_⟩:=hcell i hlt
    obtain rfl:b2=b:=by rw [g1] at hb';exact Option.some.inj hb'
    exact ⟨hs b2,g2.2.2.1,him b2 g2.2.2.2⟩
   ·intro i y o c hy hc
    rw [List.getElem?_map] at hy
    obtain ⟨b,hb',rfl⟩:=Option.map_eq_some_iff.1 hy
    have hlt:i<len:=by have:=(List.getElem?_eq_some_iff.1 hb').1;omega
    obtain ⟨b2,csi,g1,g2,g3,g4⟩:=hcell i hlt
    obtain rfl:b2=b:=by rw [g1] at hb';exact Option.some.inj hb'
    have hos:o<s:=by have:=(List.getElem?_eq_some_iff.1 hc).1;rw [hs b2] at this;exact this
    have:=g4 o hos
    rw [List.getElem?_eq_getElem (by omega)] at this
    have:=hcur _ _ this
    simp [this]
   ·intro i y o c hy hc
    rw [List.getElem?_map] at hy
    obtain ⟨b,hb',rfl⟩:=Option.map_eq_some_iff.1 hy
    have hlt:i<len:=by have:=(List.getElem?_eq_some_iff.1 hb').1;omega
    obtain ⟨b2,csi,g1,g2,g3,g4⟩:=hcell i hlt
    obtain rfl:b2=b:=by rw [g1] at hb';exact Option.some.inj hb'
    have hos:o<s:=by have:=(List.getElem?_eq_some_iff.1 hc).1;rw [hs b2] at this;exact this
    have h4:=g4 o hos
    rw [List.getElem?_eq_getElem (by omega)] at h4
    have h5:=hcur _ _ h4
    have h6:=g2.2.1 o c hc
    have:csi.getD o undef=csi[o]:=by simp [List.getD,List.getElem?_eq_getElem (show o<csi.length by omega)]
    rw [this] at h6
    simp only [h5,Option.getD_some]
    exact h6

def RdF (P:Program) (off:Nat) (fs:List Field) {A:Type} (av:A→List AV) (ok:A→Prop):Prop :=
 ∀ (H:Type) (enc:TypeId × Value→H) (W:World) (fuel:Nat) (cs:List Value),
  (∀ f ∈ fs,∃ x,DataW.trod enc P W 0 (fun _=>true) true fuel f.type ((cs.drop f.offset).take (P.cellsOf f.type))=some x)→∃ a,ok a∧∀ n,n=(av a).length→CRs W (av a) ((cs.drop off).take n)
theorem RdF_nil (off:Nat):RdF P off [] (A:=Unit) (fun _=>[]) (fun _=>True):=by
 intro H enc W fuel cs h
 exact ⟨(),trivial,fun n hn=>by subst hn;exact ⟨by simp,(fun i c hc=>by simp at hc),(fun c hc=>by cases hc),rfl⟩⟩
theorem RdF_cons {off s:Nat} {f:Field} {fs:List Field} {A B:Type} {av:A→AV} {ok:A→Prop} {avs:B→List AV} {oks:B→Prop} (hf:Rd P f.type av ok) (ho:f.offset=off) (hc:P.cellsOf f.type=s)
  (hs:∀ a,(cellsOf (av a)).length=s) (hr:RdF P (off+s) fs avs oks):RdF P off (f :: fs) (A:=A × B) (fun p=>cellsOf (av p.1) ++ avs p.2) (fun p=>ok p.1∧oks p.2):=by
 intro H enc W fuel cs h
 obtain ⟨x,hx⟩:=h f (by simp)
 obtain ⟨a,ha,hca⟩:=hf H enc W fuel _ _ hx
 obtain ⟨b,hb,hcb⟩:=hr H enc W fuel cs (fun g hg=>h g (by simp [hg]))
 refine ⟨(a,b),⟨ha,hb⟩,fun n hn=>?_⟩
 subst hn
 have:=hca.append (hcb _ rfl)
 rw [hc,ho] at this
 simp only [List.length_append,hs a]
 have e:List.take s (List.drop off cs) ++ List.take (avs b).length (List.drop (off+s) cs)=List.take (s+(avs b).length) (List.drop off cs):=by
  rw [List.take_add,List.drop_drop]
 rw [e] at this
 exact this
theorem Rd_struct {fs:Array Field} {A:Type} {avs:A→List AV} {ok:A→Prop} {s:Nat} (ht:P.underlying t=some (.struct fs)) (h:RdF P 0 fs.toList avs ok) (hc:P.cellsOf t=s) (hs:∀ a,(avs a).length=s) :
  Rd P t (fun a=>.agg (avs a)) ok:=by
 intro H enc W fuel cs x hx
 obtain ⟨xs,n,_,_,hl,hlen,hf⟩:=DataW.trod_struct ht hx
 obtain ⟨a,ha,hca⟩:=h H enc W n cs (fun f hff=>by
  obtain ⟨i,hi,rfl⟩:=List.mem_iff_getElem.1 hff
  have hi':i<fs.size:=by simpa using hi
  have:=hf i fs[i] (by simp [hi'])
  rw [List.getElem?_eq_getElem (by omega)] at this
  exact ⟨_,by simpa using this⟩)
 refine ⟨a,ha,?_⟩
 have:=hca s (hs a).symm
 rw [List.drop_zero,List.take_of_length_le (by omega)] at this
 exact this

theorem Rd.agg {A:Type} {avs:A→List AV} {ok:A→Prop} {fs:Array Field} (h:Rd P t (fun a=>.agg (avs a)) ok) (ht:P.underlying t=some (.struct fs)) {H:Type} {enc:TypeId × Value→H} {W:World} {r:Reach} {b0:Nat} {v:Value} {d:DataW H} {p:List MemPlace}
  (hval:Value.okWide P W r b0 t v) (hd:DataW.Trod enc P W 0 (fun _=>true) true t v d p):∃ a,ok a∧VR W.heap (fun b=>b<W.heap.size) noPlace noStore (.agg (avs a)) v:=by
 obtain ⟨cs,rfl,_⟩:=okWide_struct ht hval
 obtain ⟨fuel,hf⟩:=hd
 obtain ⟨a,ha,h1,h2,_⟩:=h H enc W fuel _ _ hf
 refine ⟨a,ha,.agg _ _ (by simpa [Value.cells,cellsOf] using h1) fun i c hc=>?_⟩
 have:=h2 i c hc
 simpa [Value.cells,Array.getD_eq_getD_getElem?,List.getD_eq_getElem?_getD] using this
theorem Rd.one {A:Type} {av:A→AV} {ok:A→Prop} (h:Rd P t av ok) (hav:∀ a,cellsOf (av a)=[av a]) {H:Type} {enc:TypeId × Value→H} {W:World} {v:Value} {d:DataW H} {p:List MemPlace}
  (hv:v.cells=#[v]) (hd:DataW.Trod enc P W 0 (fun _=>true) true t v d p):∃ a,ok a∧VR W.heap (fun b=>b<W.heap.size) noPlace noStore (av a) v:=by
 obtain ⟨fuel,hf⟩:=hd
 obtain ⟨a,ha,h1,h2,_⟩:=h H enc W fuel _ _ hf
 refine ⟨a,ha,?_⟩
 have:=h2 0 (av a) (by rw [hav];rfl)
 rw [hv] at this
 simpa using this
theorem Rd.i64 (ht:P.underlying t=some (.int .i64)) {H:Type} {enc:TypeId × Value→H} {W:World} {r:Reach} {b0:Nat} {v:Value} {d:DataW H} {p:List MemPlace}
  (hval:Value.okWide P W r b0 t v) (hd:DataW.Trod enc P W 0 (fun _=>true) true t v d p):∃ n,I64 n∧VR W.heap (fun b=>b<W.heap.size) noPlace noStore (.int .i64 n) v:=by
 obtain ⟨n,rfl⟩:=okWide_int ht hval
 exact (Rd_i64 ht).one (fun _=>rfl) rfl hd
theorem Rd.sl {A:Type} {av:A→AV} {ok:List A→Prop} {e:TypeId} (h:Rd P t (fun l:List A=>.sl (l.map av)) ok) (ht:P.underlying t=some (.slice e)) {H:Type} {enc:TypeId × Value→H} {W:World} {r:Reach} {b0:Nat} {v:Value} {d:DataW H} {p:List MemPlace}
  (hval:Value.okWide P W r b0 t v) (hd:DataW.Trod enc P W 0 (fun _=>true) true t v d p):∃ l,ok l∧VR W.heap (fun b=>b<W.heap.size) noPlace noStore (.sl (l.map av)) v:=by
 obtain ⟨a,len,cap,rfl⟩:=okWide_slice ht hval
 exact h.one (fun _=>rfl) rfl hd
theorem Rd.str (ht:P.underlying t=some .string) {H:Type} {enc:TypeId × Value→H} {W:World} {r:Reach} {b0:Nat} {v:Value} {d:DataW H} {p:List MemPlace}
  (hval:Value.okWide P W r b0 t v) (hd:DataW.Trod enc P W 0 (fun _=>true) true t v d p):∃ l:List UInt8,l.length≤maxLen∧VR W.heap (fun b=>b<W.heap.size) noPlace noStore (.str l) v:=by
 obtain ⟨s,rfl⟩:=okWide_string ht hval
 exact (Rd_str ht).one (fun _=>rfl) rfl hd

theorem Sound.calls {f:FuncId} {fn:Func} (hf:P.funcs[f]?=some fn) (hn:(fn.name == "runtime.NumGoroutine")=false) (hb:fn.body.isSome=true) {args:List AV} {b:Bool} (h:Sound P f args (.bool b)) {w:World} (hG:GOk (fun b=>b<w.heap.size) w) {cargs:Array Value}
  (hl:cargs.size=args.length) (hv:∀ (i:Nat) (x:AV),args[i]?=some x→VR w.heap (fun b=>b<w.heap.size) noPlace noStore x (cargs.getD i undef)) :
  Calls P f cargs w fun e w'=>e=.returned (.bool b)∧Below w.heap.size w w':=by
 obtain ⟨c,hc⟩:=Option.isSome_iff_exists.1 hb
 rcases h w (fun b=>b<w.heap.size) cargs (fun _ h=>h) hG hl hv with ⟨v,w',h1,h2⟩ | ⟨_,h2⟩
 ·rw [callFunc_enter hf hn hc] at h1
  cases h1
 ·refine h2.mono fun e w' ⟨v,he,hb',hvr⟩=>?_
  cases hvr
  exact ⟨he,hb'⟩
section
variable {h:Array Obj} {ok:Nat→Prop} {ρ:Nat→Option Nat} {σ:Store}
theorem vr3 {x0 x1 x2:AV} {v0 v1 v2:Value} (h0:VR h ok ρ σ x0 v0) (h1:VR h ok ρ σ x1 v1) (h2:VR h ok ρ σ x2 v2):∀ (i:Nat) (x:AV),[x0,x1,x2][i]?=some x→VR h ok ρ σ x (#[v0,v1,v2].getD i undef)
 | 0,x,hx=>by cases hx;exact h0
 | 1,x,hx=>by cases hx;exact h1
 | 2,x,hx=>by cases hx;exact h2
 | i+3,x,hx=>by simp at hx
end
end
end Go.Av

/- More steps: structs held against each other,max and min. By an AI agent;nothing here is trusted. -/
namespace Go.Av
theorem eqT_nil:eqT [] [] []=some true:=rfl
theorem eqT_int (ts:List Nat) (k:IntKind) (a b:Int) (r r':List AV):eqT (1 :: ts) (.int k a :: r) (.int k b :: r')=(eqT ts r r').map fun t=>decide (a=b) && t:=by simp [eqT]
theorem eqT_bool (ts:List Nat) (a b:Bool) (r r':List AV):eqT (0 :: ts) (.bool a :: r) (.bool b :: r')=(eqT ts r r').map fun t=>decide (a=b) && t:=rfl
theorem eqT_str (ts:List Nat) (a b:List UInt8) (r r':List AV):eqT (2 :: ts) (.str a :: r) (.str b :: r')=(eqT ts r r').map fun t=>decide (a=b) && t:=rfl
theorem maxA_cons (a:Int) (l:List AV):maxA (.int .i64 a :: l)=maxFrom a l:=rfl
theorem maxFrom_nil (a:Int):maxFrom a []=some (.int .i64 a):=rfl
theorem maxFrom_cons (a b:Int) (l:List AV):maxFrom a (.int .i64 b :: l)=maxFrom (max a b) l:=rfl
theorem minA_cons (a:Int) (l:List AV):minA (.int .i64 a :: l)=minFrom a l:=rfl
theorem minFrom_nil (a:Int):minFrom a []=some (.int .i64 a):=rfl
theorem minFrom_cons (a b:Int) (l:List AV):minFrom a (.int .i64 b :: l)=minFrom (min a b) l:=rfl
theorem bneB_true (b:Bool):(b != true)=!b:=by cases b <;> rfl
theorem bneB_false (b:Bool):(b != false)=b:=by cases b <;> rfl
def vcE:=And.intro @eqT_nil <| And.intro @eqT_int <| And.intro @eqT_bool <| And.intro @eqT_str <| And.intro @maxA_cons <| And.intro @maxFrom_nil <| And.intro @maxFrom_cons <| And.intro @minA_cons <| And.intro @minFrom_nil <| And.intro @minFrom_cons <| And.intro @bneB_true <| @bneB_false
end Go.Av

/- Conditions of long code: behind each region the slots that are not read again are forgotten. By an AI agent;nothing here is trusted. -/
namespace Go.Av

inductive ML where
 | skip
 | reg (m:Nat) (ss:List MS) (draw:Bool) (conf:List (MS × MS))
 | regW (m:Nat) (ss:List MS) (draw:Bool) (conf:List (MS × MS))
 | seq (a b:ML)
 | cond (x:MX) (a b:ML)
 | block (id:Nat) (a:ML)
 | loop (a:ML)
 | exit (id:Nat)
 | ret
 | rf (x:MX) (ps:List Nat) (a b:ML)
 | cut (a:ML)
def ML.er:ML→MC
 | .skip=>.skip
 | .reg _ ss draw conf=>.reg ss draw conf
 | .regW _ ss draw conf=>.reg ss draw conf
 | .seq a b=>.seq a.er b.er
 | .cond x a b=>.cond x a.er b.er
 | .block id a=>.block id a.er
 | .loop a=>.loop a.er
 | .exit id=>.exit id
 | .ret=>.ret
 | .rf x ps a b=>.rf x ps a.er b.er
 | .cut a=>a.er

def fgt (m:Nat) (e:Env):Env:=fun n=>if (m >>> n) % 2=1 then e n else .undef
theorem fgt_app (m:Nat) (e:Env) (n:Nat):fgt m e n=if (m >>> n) % 2=1 then e n else .undef:=rfl
theorem fgt_upd (m:Nat) (e:Env) (n:Nat) (v:AV):fgt m (upd e n v)=if (m >>> n) % 2=1 then upd (fgt m e) n v else fgt m e:=by
 funext k
 by_cases hk:k=n
 ·subst hk
  by_cases hm:(m >>> k) % 2=1
  ·rw [if_pos hm,upd_same];unfold fgt;rw [if_pos hm,upd_same]
  ·rw [if_neg hm];unfold fgt;rw [if_neg hm,if_neg hm]
 ·by_cases hm:(m >>> n) % 2=1
  ·rw [if_pos hm,upd_other _ _ _ _ hk];unfold fgt;rw [upd_other _ _ _ _ hk]
  ·rw [if_neg hm];unfold fgt;rw [upd_other _ _ _ _ hk]
def lf (m:Nat) (e:Env):Env:=fgt m e
theorem fgt_argE (m:Nat) (l:List AV):fgt m (argE l)=lf m (argE l):=rfl
theorem fgt_envOf (m:Nat) (l:List (Nat × AV)):fgt m (envOf l)=lf m (envOf l):=rfl
theorem fgt_lf (m k:Nat) (e:Env):fgt m (lf k e)=lf m (lf k e):=rfl
theorem lf_app (m:Nat) (e:Env) (n:Nat):lf m e n=if (m >>> n) % 2=1 then e n else .undef:=rfl
def letE (e:Env) (K:Env→Prop) (_:Tag K):Prop:=K e

section
variable {P:Program} {N:Nat} {Q:Exit→Env→Store→Prop} {e:Env} {s:Store}

theorem Rel.fgt {N B:Nat} {w0:World} {ok0:F0} {ok:Nat→Prop} {ρ:Nat→Option Nat} {a:Act} {w:World} (hR:Rel N B w0 ok0 ok ρ e s a w) (m:Nat):Rel N B w0 ok0 ok ρ (fgt m e) s a w:=by
 constructor
 ·exact hR.defers
 ·exact hR.size
 ·exact hR.below
 ·exact hR.base
 ·intro n
  unfold Go.Av.fgt
  split
  ·exact hR.tmps n
  ·exact .undef _
 ·exact hR.oklt
 ·exact hR.okold
 ·exact hR.live
 ·exact hR.inj
 ·exact hR.kept
 ·exact hR.goes
 ·exact hR.gok
theorem AWM.fgt {mc:MC} (m:Nat) (h:AWM P N mc (fun x e s=>Q x (fgt m e) s) e s):AWM P N mc Q e s:=by
 intro c hc ro rm B w0 ok0 ok ρ a w hfl hR
 refine wpIn_mono (h c hc ro rm B w0 ok0 ok ρ a w hfl hR) fun x a' w' ⟨e',s',ok',ρ',hR',hq⟩=>?_
 exact ⟨_,s',ok',ρ',hR'.fgt m,hq⟩

def regKL (m:Nat) (conf:List (MS × MS)) (Q:Exit→Env→Store→Prop) (_:Tag (conf,Q)):Env→Store→Prop:=fun e s=>confOk conf e∧Q .normal (fgt m e) s
theorem letE_eq (e:Env) (K:Env→Prop) (t):letE e K t=K e:=rfl
theorem regKL_eq (m:Nat) (conf:List (MS × MS)) (Q:Exit→Env→Store→Prop) (t) (e:Env) (s:Store):regKL m conf Q t e s=(confOk conf e∧letE (fgt m e) (fun e=>Q .normal e s) .mk):=rfl

def frzG (ty sz:Nat) (v:AV) (q:Option (Option Blk)) (F:List AV→Prop):Prop:=match v,q with
 | .buf _ _,some (some B)=>B.ty=ty∧B.sz=sz∧(scalE B.es && B.es.all imm)=true∧F B.es
 | _,_=>False
theorem frzG_buf (ty sz ty' sz' k m:Nat) (es:List AV) (F:List AV→Prop):frzG ty sz (.buf k m) (some (some ⟨ty',sz',es⟩)) F=(ty'=ty∧sz'=sz∧(scalE es && es.all imm)=true∧F es):=rfl
def isBS:MOp→Bool
 | .buildSlice ..=>true
 | _=>false
def vcOpW (P:Program) (nk:Bool) (d:Nat) (o:MOp) (e:Env) (s:Store) (K:AV→Store→Prop):Prop :=
 match o with
 | .bin op x y=>bindP ((binT op (x.ev e) (y.ev e)).map fun v=>(v,s)) K
 | .buildSlice ty sz n zero parts=>bindP (ex d (.buildSlice ty sz n zero parts) e s) fun v t=>frzG ty sz v (t d) fun es=>K (.sl es) s
 | o=>vcOp P nk d o e s K
theorem vcOpW_step {nk:Bool} {d:Nat} {o:MOp} {e:Env} {s:Store} {K:AV→Store→Prop} (h:vcOpW P nk d o e s K):∃ v t,stepOp P d o e s v t∧(nk=true→isCall o=true→t=s∧∀ k ∈ argKeys o e s,s k ≠ none)∧K v t:=by
 cases o with
 | bin op x y =>
  obtain ⟨v,t,h1,h2⟩:=h
  exact ⟨v,t,h1,(fun _ h=>by cases h),h2⟩
 | buildSlice ty sz n zero parts =>
  obtain ⟨v,t,h1,h2⟩:=h
  generalize hq:t d=q at h2
  unfold frzG at h2
  split at h2
  ·rename_i k m B
   obtain ⟨rfl,rfl,h3,h4⟩:=h2
   exact ⟨_,_,.inr ⟨B.es,k,m,t,h1,hq,h3,rfl,rfl⟩,(fun _ h=>by cases h),h4⟩
  ·exact h2.elim
 | _=>exact vcOp_step h
def vcLW (P:Program) (nk:Bool):List MS→Env→Store→(Env→Store→Prop)→Prop
 | [],e,s,K=>K e s
 | m :: r,e,s,K=>match m.g with
  | none=>vcOpW P nk (m.d.getD 0) m.o e s fun v t=>vcLW P nk r (putO e m.d v) t K
  | some _=>False
theorem vcLW_run {nk:Bool}:∀ {ss:List MS} {e:Env} {s:Store} {K:Env→Store→Prop},vcLW P nk ss e s K→∃ e' s',RunK P nk ss e s e' s'∧K e' s'
 | [],e,s,K,h=>⟨e,s,⟨rfl,rfl⟩,h⟩
 | m :: r,e,s,K,h=>by
  simp only [vcLW] at h
  split at h
  ·rename_i hg
   obtain ⟨v,t,h1,h2,h3⟩:=vcOpW_step h
   obtain ⟨e',s',g1,g2⟩:=vcLW_run h3
   exact ⟨e',s',⟨v,t,.inl ⟨by rw [hg];rfl,h1⟩,fun a b=>⟨(h2 a b).1,fun _=>(h2 a b).2⟩,g1⟩,g2⟩
  ·exact h.elim
def VW (P:Program) (nk:Bool) (ss:List MS) (e:Env) (s:Store) (K:Env→Store→Prop) (_:Tag (ss,e,s,K)):Prop:=vcLW P nk ss e s K
theorem VW_nil {nk:Bool} {K:Env→Store→Prop} (t):VW P nk [] e s K t=K e s:=rfl
theorem VW_bin {nk:Bool} {r:List MS} {K:Env→Store→Prop} (d:Option Nat) (op:BinOp) (x y:MX) (t):VW P nk (⟨none,d,.bin op x y⟩ :: r) e s K t=bV (binT op (x.ev e) (y.ev e)) (fun v=>VW P nk r (putO e d v) s K .mk) .mk:=by
 have h:VW P nk (⟨none,d,.bin op x y⟩ :: r) e s K t=bP ((binT op (x.ev e) (y.ev e)).map fun v=>(v,s)) (fun v s'=>VW P nk r (putO e d v) s' K .mk) .mk:=by
  unfold VW bP
  rw [vcLW]
  rfl
 rw [h];exact ex_bV rfl
theorem VW_op {nk:Bool} {r:List MS} {K:Env→Store→Prop} (d:Option Nat) {o:MOp} (ho:isBin o=false) (hb:isBS o=false) (t):VW P nk (⟨none,d,o⟩ :: r) e s K t=V P nk [⟨none,d,o⟩] e s (fun e s=>VW P nk r e s K .mk) .mk:=by
 unfold VW V
 cases o <;> first | (cases ho;done) | (cases hb;done) | rfl
theorem binT_add (k k':IntKind) (a b:Int):binT .add (.int k a) (.int k' b)=req (k=k') (some (.int k (k.wrap (a+b)))):=rfl
theorem binT_sub (k k':IntKind) (a b:Int):binT .sub (.int k a) (.int k' b)=req (k=k') (some (.int k (k.wrap (a - b)))):=rfl
theorem binT_mul (k k':IntKind) (a b:Int):binT .mul (.int k a) (.int k' b)=req (k=k') (some (.int k (k.wrap (a * b)))):=rfl
theorem binT_eql (x y:AV):binT .eql x y=binA .eql x y:=rfl
theorem binT_neq (x y:AV):binT .neq x y=binA .neq x y:=rfl
theorem binT_lss (x y:AV):binT .lss x y=binA .lss x y:=rfl
theorem binT_leq (x y:AV):binT .leq x y=binA .leq x y:=rfl
theorem binT_gtr (x y:AV):binT .gtr x y=binA .gtr x y:=rfl
theorem binT_geq (x y:AV):binT .geq x y=binA .geq x y:=rfl
theorem AWM_regW {draw:Bool} {ss:List MS} {conf:List (MS × MS)} {Q:Exit→Env→Store→Prop} (h:vcLW P draw ss e s fun e' s'=>confOk conf e'∧Q .normal e' s'):AWM P N (.reg ss draw conf) Q e s:=by
 intro c hc
 rcases cCode_inv hc with ⟨_,h'⟩ | ⟨id,ops,draw',ss',cf,rfl,h',hr⟩ | ⟨_,_,_,_,_,h',_⟩ | ⟨_,_,_,_,_,_,h',_⟩ | ⟨_,_,_,_,h',_⟩ | ⟨_,_,_,h',_⟩ | ⟨_,_,h'⟩ | ⟨_,h'⟩ | ⟨_,_,_,_,_,_,_,h',_⟩ | ⟨_,_,_,_,_,_,_,h',_⟩ | ⟨_,_,_,_,_,_,h',_⟩
 all_goals cases h'
 exact (reg_soundR hr (vcLW_run h)).aw

def WL0 (P:Program) (N:Nat):ML→(Exit→Env→Store→Prop)→Env→Store→Prop
 | .skip,Q,e,s=>Q .normal e s
 | .reg m ss draw conf,Q,e,s=>V P draw ss e s (regKL m conf Q .mk) .mk
 | .regW m ss draw conf,Q,e,s=>VW P draw ss e s (regKL m conf Q .mk) .mk
 | .seq a b,Q,e,s=>WL0 P N a (seqQ (fun e s=>WL0 P N b Q e s) Q .mk) e s
 | .cond x a b,Q,e,s=>condS (x.ev e) (WL0 P N a Q e s) (WL0 P N b Q e s) .mk
 | .block id a,Q,e,s=>WL0 P N a (blockQ id Q .mk) e s
 | .exit id,Q,e,s=>Q (.exit id) e s
 | .ret,Q,e,s=>Q .ret e s
 | m,Q,e,s=>AWM P N m.er Q e s

theorem WL0_sound:∀ (m:ML) {Q:Exit→Env→Store→Prop} {e:Env} {s:Store},WL0 P N m Q e s→AWM P N m.er Q e s
 | .skip,_,_,_,h=>M_skip (t:=.mk) h
 | .reg m _ _ _,Q,_,_,h=>AWM.fgt m (M_reg (t:=.mk) h)
 | .regW m _ _ _,Q,_,_,h=>AWM.fgt m (AWM_regW h)
 | .seq a b,Q,_,_,h=>M_seq (t:=.mk) ((WL0_sound a h).mono fun x e s h=>by
   cases x with
   | normal=>exact WL0_sound b h
   | _=>exact h)
 | .cond _ a b,_,_,_,h=>M_cond (t:=.mk) (condS_mono (WL0_sound a) (WL0_sound b) h)
 | .block _ a,_,_,_,h=>M_block (t:=.mk) (WL0_sound a h)
 | .exit _,_,_,_,h=>M_exit (t:=.mk) h
 | .ret,_,_,_,h=>M_ret (t:=.mk) h
 | .loop _,_,_,_,h=>h
 | .rf ..,_,_,_,h=>h
 | .cut _,_,_,_,h=>h
def WL (P:Program) (N:Nat) (m:ML) (Q:Exit→Env→Store→Prop) (e:Env) (s:Store) (_:Tag (m,Q,e,s)):Prop:=WL0 P N m Q e s
theorem WL_skip (t):WL P N .skip Q e s t=Q .normal e s:=rfl
theorem WL_reg (m:Nat) (ss:List MS) (draw:Bool) (conf:List (MS × MS)) (t):WL P N (.reg m ss draw conf) Q e s t=V P draw ss e s (regKL m conf Q .mk) .mk:=rfl
theorem WL_regW (m:Nat) (ss:List MS) (draw:Bool) (conf:List (MS × MS)) (t):WL P N (.regW m ss draw conf) Q e s t=VW P draw ss e s (regKL m conf Q .mk) .mk:=rfl
theorem WL_seq (a b:ML) (t):WL P N (.seq a b) Q e s t=WL P N a (seqQ (fun e s=>WL P N b Q e s .mk) Q .mk) e s .mk:=rfl
theorem WL_cond (x:MX) (a b:ML) (t):WL P N (.cond x a b) Q e s t=condS (x.ev e) (WL P N a Q e s .mk) (WL P N b Q e s .mk) .mk:=rfl
theorem WL_block (id:Nat) (a:ML) (t):WL P N (.block id a) Q e s t=WL P N a (blockQ id Q .mk) e s .mk:=rfl
theorem WL_exit (id:Nat) (t):WL P N (.exit id) Q e s t=Q (.exit id) e s:=rfl
theorem WL_ret (t):WL P N .ret Q e s t=Q .ret e s:=rfl
theorem WL_sound {m:ML} {t} (h:WL P N m Q e s t):AWM P N m.er Q e s:=WL0_sound m h

theorem sound_WL {f:FuncId} {nt np:Nat} {mc:MC} {rs:List (Nat × Option (Option Nat))} (hF:cFun P f=some (nt,np,mc,rs)) {m:ML} (hm:m.er=mc) {args:List AV} (hla:args.length≤nt) {v:AV}
  (h:WL P nt m (endQ rs v) (argE args) noStore .mk):Sound P f args v:=by
 subst hm;exact sound_of hF hla (WL_sound h)

theorem WL_loop {α:Type} (st:α→Env × Store) (mu:α→Nat) (x0:α) {b:ML} {t} (h0:Weak (e,s) (st x0))
  (hb:∀ x,WL P N b (fun ex e' s'=>match ex with
   | .normal=>∃ y,mu y<mu x∧Weak (e',s') (st y)
   | ex=>Q ex e' s') (st x).1 (st x).2 .mk):WL P N (.loop b) Q e s t :=
 AWM.loop st mu x0 h0 fun x=>WL_sound (hb x)
theorem WL_cut {a:ML} {t} (h:WL P N a Q e s .mk):WL P N (.cut a) Q e s t:=(WL_sound h:AWM P N a.er Q e s)
theorem WL_cutW {a:ML} {t} (q:Env × Store) (hf:a.er.flat=false) (hw:Weak (e,s) q) (h:WL P N a Q q.1 q.2 .mk):WL P N (.cut a) Q e s t:=(AWM.weak (m:=a.er) hf hw (WL_sound h):AWM P N a.er Q e s)
end
section
variable {P:Program} {nk:Bool} {r:List MS} {e:Env} {s:Store} {K:Env→Store→Prop}
theorem VW_mv (d:Option Nat) (x:MX) (t):VW P nk (⟨none,d,.mv x⟩ :: r) e s K t=V P nk [⟨none,d,.mv x⟩] e s (fun e s=>VW P nk r e s K .mk) .mk:=VW_op d rfl rfl t
theorem VW_call (d:Option Nat) (f:FuncId) (xs:List MX) (t):VW P nk (⟨none,d,.call f xs⟩ :: r) e s K t=V P nk [⟨none,d,.call f xs⟩] e s (fun e s=>VW P nk r e s K .mk) .mk:=VW_op d rfl rfl t
theorem VW_fieldAddr (d:Option Nat) (x:MX) (off:Nat) (t):VW P nk (⟨none,d,.fieldAddr x off⟩ :: r) e s K t=V P nk [⟨none,d,.fieldAddr x off⟩] e s (fun e s=>VW P nk r e s K .mk) .mk:=VW_op d rfl rfl t
theorem VW_load (d:Option Nat) (n:Option Nat) (x:MX) (t):VW P nk (⟨none,d,.load n x⟩ :: r) e s K t=V P nk [⟨none,d,.load n x⟩] e s (fun e s=>VW P nk r e s K .mk) .mk:=VW_op d rfl rfl t
theorem VW_len (d:Option Nat) (str:Bool) (x:MX) (t):VW P nk (⟨none,d,.len str x⟩ :: r) e s K t=V P nk [⟨none,d,.len str x⟩] e s (fun e s=>VW P nk r e s K .mk) .mk:=VW_op d rfl rfl t
theorem VW_buildSlice (d:Nat) (ty sz n:Nat) (zero:AV) (parts:List (Nat × MX)) (t):VW P nk (⟨none,some d,.buildSlice ty sz n zero parts⟩ :: r) e s K t=V P nk [⟨none,some d,.buildSlice ty sz n zero parts⟩] e s (fun e' s'=>frzG ty sz (e' d) (s' d) fun es=>VW P nk r (putO e (some d) (.sl es)) s K .mk) .mk:=by
 have h:∀ v:AV,putO e (some d) v d=v:=fun v=>upd_same _ _ _
 have h2:VW P nk (⟨none,some d,.buildSlice ty sz n zero parts⟩ :: r) e s K t=bindP (ex d (.buildSlice ty sz n zero parts) e s) (fun v s'=>frzG ty sz v (s' d) fun es=>VW P nk r (putO e (some d) (.sl es)) s K .mk):=rfl
 have h3:V P nk [⟨none,some d,.buildSlice ty sz n zero parts⟩] e s (fun e' s'=>frzG ty sz (e' d) (s' d) fun es=>VW P nk r (putO e (some d) (.sl es)) s K .mk) .mk=bindP (ex d (.buildSlice ty sz n zero parts) e s) (fun v s'=>frzG ty sz (putO e (some d) v d) (s' d) fun es=>VW P nk r (putO e (some d) (.sl es)) s K .mk):=rfl
 rw [h2,h3]
 congr 1
 funext v s'
 rw [h]
theorem VW_extract (d:Option Nat) (x:MX) (i:Nat) (t):VW P nk (⟨none,d,.extract x i⟩ :: r) e s K t=V P nk [⟨none,d,.extract x i⟩] e s (fun e s=>VW P nk r e s K .mk) .mk:=VW_op d rfl rfl t
theorem VW_un (d:Option Nat) (op:UnOp) (x:MX) (t):VW P nk (⟨none,d,.un op x⟩ :: r) e s K t=V P nk [⟨none,d,.un op x⟩] e s (fun e s=>VW P nk r e s K .mk) .mk:=VW_op d rfl rfl t
theorem VW_indexAddr (d:Option Nat) (x i:MX) (sz:Nat) (t):VW P nk (⟨none,d,.indexAddr x i sz⟩ :: r) e s K t=V P nk [⟨none,d,.indexAddr x i sz⟩] e s (fun e s=>VW P nk r e s K .mk) .mk:=VW_op d rfl rfl t
theorem VW_store (d:Option Nat) (n:Nat) (x v:MX) (t):VW P nk (⟨none,d,.store n x v⟩ :: r) e s K t=V P nk [⟨none,d,.store n x v⟩] e s (fun e s=>VW P nk r e s K .mk) .mk:=VW_op d rfl rfl t
theorem VW_build (d:Option Nat) (zero:List AV) (parts:List (Nat × Nat × MX)) (t):VW P nk (⟨none,d,.build zero parts⟩ :: r) e s K t=V P nk [⟨none,d,.build zero parts⟩] e s (fun e s=>VW P nk r e s K .mk) .mk:=VW_op d rfl rfl t
end
def vcWr:=And.intro @VW_nil <| And.intro @VW_bin <| And.intro @VW_mv <| And.intro @VW_call <| And.intro @VW_fieldAddr <| And.intro @VW_load <| And.intro @VW_len <| And.intro @VW_buildSlice <| And.intro @VW_extract <| And.intro @frzG_buf <| And.intro @VW_un <| And.intro @VW_indexAddr <| And.intro @VW_store <| And.intro @VW_build <| And.intro @binT_add <| And.intro @binT_sub <| And.intro @binT_mul <| And.intro @binT_eql <| And.intro @binT_neq <| And.intro @binT_lss <| And.intro @binT_leq <| And.intro @binT_gtr <| @binT_geq
theorem upd_upd {α:Type} (f:Nat→α) (n:Nat) (a b:α):upd (upd f n a) n b=upd f n b:=by
 funext k;unfold upd;split <;> rfl
def vcL':=And.intro @fgt_app <| And.intro @fgt_upd <| And.intro @fgt_argE <| And.intro @fgt_envOf <| And.intro @fgt_lf <| And.intro @lf_app <| And.intro @regKL_eq <| And.intro @letE_eq <| And.intro @WL_skip <| And.intro @WL_reg <| And.intro @WL_regW <| And.intro vcWr <| And.intro @WL_seq <| And.intro @WL_cond <| And.intro @WL_block <| And.intro @WL_exit <| And.intro @WL_ret <| @upd_upd
def vcP:=And.intro @Option.bind_some.{0,0} <| And.intro @Option.map_some.{0,0} <| And.intro @List.map_cons.{0,0} <| And.intro @List.map_nil.{0,0} <| And.intro @List.length_cons.{0} <| And.intro @List.length_nil.{0} <| And.intro @Option.getD_some.{0} <| And.intro @Option.getD_none.{0} <| And.intro @List.all_cons.{0} <| And.intro @List.all_nil.{0} <| And.intro @List.set_cons_zero.{0} <| And.intro @List.set_cons_succ.{0} <| And.intro @List.replicate_succ.{0} <| And.intro @List.replicate_zero.{0} <| And.intro @List.getElem?_cons_zero.{0} <| And.intro @List.getElem?_cons_succ.{0} <| And.intro @List.drop_succ_cons.{0} <| And.intro @List.drop_zero.{0} <| And.intro @List.take_succ_cons.{0} <| @List.take_zero.{0}
def vcP2:=And.intro @List.map_append.{0,0} <| And.intro @List.nil_append.{0} <| And.intro @List.cons_append.{0} <| vcP
def vcC:=And.intro vcAll <| And.intro @decide_true <| And.intro @decide_false <| And.intro @Bool.true_and <| And.intro @true_and <| And.intro @and_true <| And.intro @Bool.not_true <| And.intro @Bool.not_false <| And.intro @ints_length <| And.intro @Int.toNat_natCast <| And.intro @Bool.and_true <| @Bool.and_self
def vcV:=And.intro vcC <| And.intro vcB <| And.intro vcE <| And.intro vcL' <| And.intro @Bool.false_and <| And.intro @Bool.and_false <| And.intro @Bool.not_not <| And.intro @Bool.false_eq_true <| And.intro @rfQ_n <| And.intro @rfQ_r <| And.intro @rfQ_x <| And.intro @updL_cons <| @updL_nil
def vcK:=And.intro vcC <| And.intro @allK_nil <| And.intro @allK_some <| And.intro @allK_none <| And.intro @allR_nil <| And.intro @allR_cons <| And.intro @keyOf_cons <| And.intro @exB <| @Nat.lt_add_one
end Go.Av

/- Weakening,said shortly: which keys are renamed;what is left are equations. By an AI agent;nothing here is trusted. -/
namespace Go.Av

def vR (s':Store) (f:Nat→Option Nat):AV→AV→Prop
 | _,.undef=>True
 | .buf k l,.buf k' l'=>f k'=some k∧l=l'
 | .ptr k i o,.ptr k' i' o'=>f k'=some k∧i=i'∧o=o'
 | .nils,.buf k' l'=>f k'=none∧l'=0∧∃ B,s' k'=some (some B)
 | .nils,.sl l=>l=[]
 | .mp k,.mp k'=>f k'=some k
 | x,x'=>x=x'∧imm x=true
theorem vR_rn {s s':Store} {f:Nat→Option Nat} {x x':AV} (h:vR s' f x x'):Rn s s' f x x':=by
 cases x' with
 | undef=>exact .undef _
 | buf k' l' =>
  cases x <;> simp only [vR] at h <;> first
   | (obtain ⟨h1,rfl⟩:=h;exact .buf _ _ _ h1)
   | (obtain ⟨h1,rfl,B,h2⟩:=h;exact .virt _ B h1 h2)
   | (obtain ⟨h1,_⟩:=h;cases h1)
 | ptr k' i' o' =>
  cases x <;> simp only [vR] at h <;> first
   | (obtain ⟨h1,rfl,rfl⟩:=h;exact .ptr _ _ _ _ h1)
   | (obtain ⟨h1,_⟩:=h;cases h1)
 | mp k' =>
  cases x <;> simp only [vR] at h <;> first
   | exact .mp _ _ h
   | (obtain ⟨h1,_⟩:=h;cases h1)
 | sl l =>
  cases x <;> simp only [vR] at h <;> first
   | (subst h;exact .nil0)
   | (obtain ⟨h1,h2⟩:=h;cases h1;exact .imm _ h2)
   | (obtain ⟨h1,_⟩:=h;cases h1)
 | _ =>
  cases x <;> simp only [vR] at h <;> first
   | (obtain ⟨h1,h2⟩:=h;cases h1;exact .imm _ h2)
   | (obtain ⟨h1,_⟩:=h;cases h1)
section
variable {s':Store} {f:Nat→Option Nat}
theorem vR_undef (x:AV):vR s' f x .undef=True:=by cases x <;> rfl
theorem vR_buf (k l k' l':Nat):vR s' f (.buf k l) (.buf k' l')=(f k'=some k∧l=l'):=rfl
theorem vR_ptr (k i o k' i' o':Nat):vR s' f (.ptr k i o) (.ptr k' i' o')=(f k'=some k∧i=i'∧o=o'):=rfl
theorem vR_nb (k' l':Nat):vR s' f .nils (.buf k' l')=(f k'=none∧l'=0∧∃ B,s' k'=some (some B)):=rfl
theorem vR_ns (l:List AV):vR s' f .nils (.sl l)=(l=[]):=rfl
theorem vR_mp (k k':Nat):vR s' f (.mp k) (.mp k')=(f k'=some k):=rfl
theorem vR_yld (a b:Nat):vR s' f (.yld a) (.yld b)=(a=b):=by
 apply propext;constructor
 ·rintro ⟨h,_⟩;cases h;rfl
 ·rintro rfl;exact ⟨rfl,rfl⟩
theorem vR_nn:vR s' f .nils .nils=True:=propext ⟨fun _=>trivial,fun _=>⟨rfl,rfl⟩⟩
theorem vR_int (k k':IntKind) (a b:Int):vR s' f (.int k a) (.int k' b)=(k=k'∧a=b):=by
 apply propext;constructor
 ·rintro ⟨h,_⟩;cases h;exact ⟨rfl,rfl⟩
 ·rintro ⟨rfl,rfl⟩;exact ⟨rfl,rfl⟩
theorem vR_bool (a b:Bool):vR s' f (.bool a) (.bool b)=(a=b):=by
 apply propext;constructor
 ·rintro ⟨h,_⟩;cases h;rfl
 ·rintro rfl;exact ⟨rfl,rfl⟩
theorem vR_str (a b:List UInt8):vR s' f (.str a) (.str b)=(a=b):=by
 apply propext;constructor
 ·rintro ⟨h,_⟩;cases h;rfl
 ·rintro rfl;exact ⟨rfl,rfl⟩
theorem vR_sl (a b:List AV):vR s' f (.sl a) (.sl b)=(a=b):=by
 apply propext;constructor
 ·rintro ⟨h,_⟩;cases h;rfl
 ·rintro rfl;exact ⟨rfl,rfl⟩
theorem vR_eptr (x y:AV) (o o':Nat):vR s' f (.eptr x o) (.eptr y o')=(x=y∧o=o'):=by
 apply propext;constructor
 ·rintro ⟨h,_⟩;cases h;exact ⟨rfl,rfl⟩
 ·rintro ⟨rfl,rfl⟩;exact ⟨rfl,rfl⟩
theorem vR_nilp:vR s' f .nilp .nilp=True:=propext ⟨fun _=>trivial,fun _=>⟨rfl,rfl⟩⟩
theorem vR_nili:vR s' f .nili .nili=True:=propext ⟨fun _=>trivial,fun _=>⟨rfl,rfl⟩⟩
theorem vR_ifc:vR s' f .ifc .ifc=True:=propext ⟨fun _=>trivial,fun _=>⟨rfl,rfl⟩⟩
theorem vR_fn (g g':FuncId) (cs cs':List AV):vR s' f (.fn g cs) (.fn g' cs')=(g=g'∧cs=cs'∧immL cs=true):=by
 apply propext;constructor
 ·rintro ⟨h,h2⟩;cases h;exact ⟨rfl,rfl,h2⟩
 ·rintro ⟨rfl,rfl,h⟩;exact ⟨rfl,h⟩
theorem vR_agg (cs cs':List AV):vR s' f (.agg cs) (.agg cs')=(cs=cs'∧immL cs=true):=by
 apply propext;constructor
 ·rintro ⟨h,h2⟩;cases h;exact ⟨rfl,h2⟩
 ·rintro ⟨rfl,h⟩;exact ⟨rfl,h⟩
end

def eR (s':Store) (f:Nat→Option Nat):List AV→List AV→Prop
 | [],[]=>True
 | x :: l,x' :: l'=>(cellsOf x=[x]∧cellsOf x'=[x']∧cell x'=true∧vR s' f x x')∧eR s' f l l'
 | _,_=>False
theorem eR_spec {s s':Store} {f:Nat→Option Nat}:∀ {l l':List AV},eR s' f l l'→l'.length=l.length∧∀ (i:Nat) (x x':AV),l[i]?=some x→l'[i]?=some x' →
  (cellsOf x').length=(cellsOf x).length∧cellsOk x'∧∀ (o:Nat) (c c':AV),(cellsOf x)[o]?=some c→(cellsOf x')[o]?=some c'→Rn s s' f c c'
 | [],[],_=>⟨rfl,fun i x x' h=>by simp at h⟩
 | y :: l,y' :: l',h=>by
  obtain ⟨⟨h1,h2,h3,h4⟩,h5⟩:=h
  obtain ⟨g1,g2⟩:=eR_spec (s:=s) h5
  refine ⟨by simp [g1],fun i x x' k1 k2=>?_⟩
  cases i with
  | zero =>
   simp at k1 k2;subst k1;subst k2
   refine ⟨by rw [h1,h2];rfl,fun c hc=>by rw [h2] at hc;simp at hc;subst hc;exact h3,fun o c c' k3 k4=>?_⟩
   rw [h1] at k3;rw [h2] at k4
   cases o with
   | zero=>simp at k3 k4;subst k3;subst k4;exact vR_rn h4
   | succ o=>simp at k3
  | succ i=>exact g2 i x x' (by simpa using k1) (by simpa using k2)
 | [],_ :: _,h=>h.elim
 | _ :: _,[],h=>h.elim
theorem RnB.cells {s s':Store} {f:Nat→Option Nat} {ty sz:Nat} {es es':List AV} (h:eR s' f es es'):RnB s s' f ⟨ty,sz,es⟩ ⟨ty,sz,es'⟩:=⟨rfl,rfl,(eR_spec (s:=s) h).1,(eR_spec h).2⟩
theorem RnB.eq {s s':Store} {f:Nat→Option Nat} {ty sz:Nat} {es es':List AV} (h:es=es') (hf:es.all Go.Av.fx=true):RnB s s' f ⟨ty,sz,es⟩ ⟨ty,sz,es'⟩:=by subst h;exact RnB.fxB hf

theorem RnB.bb {s s':Store} {f:Nat→Option Nat} {ty sz k l k' l':Nat} (h:f k'=some k∧l=l'):RnB s s' f ⟨ty,sz,[.buf k l]⟩ ⟨ty,sz,[.buf k' l']⟩:=RnB.cells ⟨⟨rfl,rfl,rfl,h⟩,trivial⟩
theorem RnB.nb {s s':Store} {f:Nat→Option Nat} {ty sz k' l':Nat} (h:f k'=none∧l'=0∧∃ B,s' k'=some (some B)):RnB s s' f ⟨ty,sz,[.nils]⟩ ⟨ty,sz,[.buf k' l']⟩:=RnB.cells ⟨⟨rfl,rfl,rfl,h⟩,trivial⟩
theorem RnB.ii {s s':Store} {f:Nat→Option Nat} {ty sz:Nat} {k:IntKind} {a b:Int} (h:a=b):RnB s s' f ⟨ty,sz,[.int k a]⟩ ⟨ty,sz,[.int k b]⟩:=by subst h;exact RnB.fxB rfl
theorem RnB.app {s s':Store} {f:Nat→Option Nat} {ty sz:Nat} {l:List Int} {a:Int} {es:List AV} (h:es=ints (l ++ [a])):RnB s s' f ⟨ty,sz,ints l ++ [.int .i64 a]⟩ ⟨ty,sz,es⟩:=by
 subst h;exact RnB.eq (by rw [ints_append];rfl) (by rw [List.all_append,ints_fxB];rfl)

def exK:List (Nat × Option Nat)→Nat→Option Nat
 | [],k=>some k
 | (a,b) :: r,k=>if k=a then b else exK r k
def kN (x:List (Nat × Option Nat)) (L:List (Nat × Blk)):List (Nat × Option Nat × Blk):=L.map fun p=>(p.1,exK x p.1,p.2)
def allW (s s':Store) (f:Nat→Option Nat) (x:List (Nat × Option Nat)):List (Nat × Blk)→Prop
 | []=>True
 | (k,B') :: L=>(match exK x k with
  | some k0=>∃ B,s k0=some (some B)∧RnB s s' f B B'
  | none=>B'.es=[]∧0<B'.sz)∧allW s s' f x L
def allV (s':Store) (f:Nat→Option Nat) (e:Env):List (Nat × AV)→Prop
 | []=>True
 | (n,v) :: l=>vR s' f (e n) v∧allV s' f e l
theorem kN_map (x:List (Nat × Option Nat)):∀ (L:List (Nat × Blk)),(kN x L).map (fun p=>(p.1,p.2.2))=L
 | []=>rfl
 | (k,B) :: L=>congrArg ((k,B) :: ·) (kN_map x L)
theorem allW_all {s s':Store} {f:Nat→Option Nat} {x:List (Nat × Option Nat)}:∀ {L:List (Nat × Blk)},allW s s' f x L→∀ p ∈ kN x L,match p.2.1 with
   | some k=>∃ B,s k=some (some B)∧RnB s s' f B p.2.2
   | none=>p.2.2.es=[]∧0<p.2.2.sz
 | [],_,p,hp=>by cases hp
 | (k,B) :: L,h,p,hp=>by
  rcases List.mem_cons.1 hp with rfl | hp
  ·exact h.1
  ·exact allW_all h.2 p hp
theorem allV_all {s s':Store} {f:Nat→Option Nat} {e:Env}:∀ {l:List (Nat × AV)},allV s' f e l→∀ p ∈ l,Rn s s' f (e p.1) p.2
 | [],_,p,hp=>by cases hp
 | (n,v) :: l,h,p,hp=>by
  rcases List.mem_cons.1 hp with rfl | hp
  ·exact vR_rn h.1
  ·exact allV_all h.2 p hp

theorem weakX {e:Env} {s:Store} {l:List (Nat × AV)} {L:List (Nat × Blk)} (x:List (Nat × Option Nat)) (hd:((kN x L).map (·.1)).Nodup) (hd':((kN x L).filterMap (·.2.1)).Nodup)
  (h:allV (stOf L) (keyOf (kN x L)) e l∧allW s (stOf L) (keyOf (kN x L)) x L):Weak (e,s) (envOf l,stOf L):=by
 have:=weak_to (e:=e) (s:=s) l (kN x L) hd hd' (by rw [kN_map];exact allW_all h.2) (by rw [kN_map];exact allV_all h.1)
 rw [kN_map] at this
 exact this
theorem kN_nil (x:List (Nat × Option Nat)):kN x []=[]:=rfl
theorem kN_cons (x:List (Nat × Option Nat)) (k:Nat) (B:Blk) (L:List (Nat × Blk)):kN x ((k,B) :: L)=(k,exK x k,B) :: kN x L:=rfl
theorem exK_nil (k:Nat):exK [] k=some k:=rfl
theorem exK_cons (a:Nat) (b:Option Nat) (r:List (Nat × Option Nat)) (k:Nat):exK ((a,b) :: r) k=if k=a then b else exK r k:=rfl
theorem allW_nil (s s':Store) (f:Nat→Option Nat) (x:List (Nat × Option Nat)):allW s s' f x []=True:=rfl
def blkW (s s':Store) (f:Nat→Option Nat) (o:Option Nat) (B':Blk):Prop:=match o with
 | some k0=>∃ B,s k0=some (some B)∧RnB s s' f B B'
 | none=>B'.es=[]∧0<B'.sz
theorem allW_cons (s s':Store) (f:Nat→Option Nat) (x:List (Nat × Option Nat)) (k:Nat) (B':Blk) (L:List (Nat × Blk)):allW s s' f x ((k,B') :: L)=(blkW s s' f (exK x k) B'∧allW s s' f x L):=rfl
theorem blkW_some (s s':Store) (f:Nat→Option Nat) (k0:Nat) (B':Blk):blkW s s' f (some k0) B'=∃ B,s k0=some (some B)∧RnB s s' f B B':=rfl
theorem blkW_none (s s':Store) (f:Nat→Option Nat) (ty sz:Nat) (es:List AV):blkW s s' f none ⟨ty,sz,es⟩=(es=[]∧0<sz):=rfl
theorem allV_nil (s':Store) (f:Nat→Option Nat) (e:Env):allV s' f e []=True:=rfl
theorem allV_cons (s':Store) (f:Nat→Option Nat) (e:Env) (n:Nat) (v:AV) (l:List (Nat × AV)):allV s' f e ((n,v) :: l)=(vR s' f (e n) v∧allV s' f e l):=rfl
theorem keyOf_nil (k:Nat):keyOf [] k=none:=rfl
theorem exE (B0:Blk):(∃ B,some (some B0)=some (some B))=True:=propext ⟨fun _=>trivial,fun _=>⟨B0,rfl⟩⟩
theorem ints_nil:ints []=[]:=rfl
def vcW:=And.intro vcK <| And.intro @vR_mp <| And.intro @vR_yld <| And.intro @ints_nil <| And.intro @kN_nil <| And.intro @kN_cons <| And.intro @exK_nil <| And.intro @exK_cons <| And.intro @allW_nil <| And.intro @allW_cons <| And.intro @blkW_some <| And.intro @blkW_none <| And.intro @allV_nil <| And.intro @allV_cons <| And.intro @keyOf_nil <| And.intro @exE <| And.intro @vR_undef <| And.intro @vR_buf <| And.intro @vR_ptr <| And.intro @vR_nb <| And.intro @vR_ns <| And.intro @vR_nn <| And.intro @vR_int <| And.intro @vR_bool <| And.intro @vR_str <| And.intro @vR_sl <| And.intro @vR_eptr <| And.intro @vR_nilp <| And.intro @vR_nili <| And.intro @vR_ifc <| And.intro @vR_fn <| @vR_agg
end Go.Av

/- A range over a function that is left;conditions of regions that draw. By an AI agent;nothing here is trusted. -/
namespace Go.Av

def outQ (Q:Exit→Env→Store→Prop) (e:Env):Exit→Env→Store→Prop:=fun ex _ s2=>match ex with
 | .ret=>Q .ret e s2
 | .exit id=>Q (.exit id) e s2
 | _=>False
theorem outQ_r (Q:Exit→Env→Store→Prop) (e e2:Env) (s2:Store):outQ Q e .ret e2 s2=Q .ret e s2:=rfl
theorem outQ_x (Q:Exit→Env→Store→Prop) (e e2:Env) (s2:Store) (id:Nat):outQ Q e (.exit id) e2 s2=Q (.exit id) e s2:=rfl
theorem outQ_n (Q:Exit→Env→Store→Prop) (e e2:Env) (s2:Store):outQ Q e .normal e2 s2=False:=rfl

section
variable {P:Program} {N:Nat}
end

def confP (a b:Option (List Nat)):Prop:=match a,b with
 | some T,some T'=>disj T T'=true
 | _,_=>False
theorem confP_some (T T':List Nat):confP (some T) (some T')=(disj T T'=true):=rfl
def cnew (a b:MOp):Bool:=isCall a && newOp b
theorem confOk_cons (a b:MS) (l:List (MS × MS)) (e:Env):confOk ((a,b) :: l) e=((if cnew a.o b.o=true then True else confP (tkM a e) (tkM b e))∧confOk l e):=by
 apply propext
 constructor
 ·intro h
  refine ⟨?_,fun p hp=>h p (List.mem_cons_of_mem _ hp)⟩
  rcases h (a,b) List.mem_cons_self with ⟨c1,c2⟩ | ⟨T,T',h1,h2,h3⟩
  ·rw [if_pos (by unfold cnew;rw [c1,c2];rfl)];trivial
  ·split
   ·trivial
   ·simp only at h1 h2
    rw [h1,h2]
    refine List.all_eq_true.2 fun k hk=>?_
    have:=h3 k hk
    simpa using this
 ·rintro ⟨h1,h2⟩ p hp
  rcases List.mem_cons.1 hp with rfl | hp
  ·split at h1
   ·rename_i hc
    simp only [cnew,Bool.and_eq_true] at hc
    exact .inl hc
   ·refine .inr ?_
    simp only
    generalize tkM a e=A at h1
    generalize tkM b e=B at h1
    cases A with
    | none=>exact h1.elim
    | some T =>
     cases B with
     | none=>exact h1.elim
     | some T' =>
      refine ⟨T,T',rfl,rfl,fun k hk=>?_⟩
      have:=List.all_eq_true.1 h1 k hk
      simpa using this
  ·exact h2 p hp
theorem cnew_alloc (ty sz:Nat) (z:AV) (o:MOp):cnew (.alloc ty sz z) o=false:=Bool.false_and _
theorem newOp_alloc (ty sz:Nat) (z:AV):newOp (.alloc ty sz z)=true:=rfl
theorem cnew_box (ty sz:Nat) (x:MX) (o:MOp):cnew (.box ty sz x) o=false:=Bool.false_and _
theorem newOp_box (ty sz:Nat) (x:MX):newOp (.box ty sz x)=true:=rfl
theorem cnew_buildSlice (ty sz n:Nat) (z:AV) (ps:List (Nat × MX)) (o:MOp):cnew (.buildSlice ty sz n z ps) o=false:=Bool.false_and _
theorem newOp_buildSlice (ty sz n:Nat) (z:AV) (ps:List (Nat × MX)):newOp (.buildSlice ty sz n z ps)=true:=rfl
theorem cnew_makeSlice (ty sz by_:Nat) (z:AV) (l c:MX) (o:MOp):cnew (.makeSlice ty sz by_ z l c) o=false:=Bool.false_and _
theorem newOp_makeSlice (ty sz by_:Nat) (z:AV) (l c:MX):newOp (.makeSlice ty sz by_ z l c)=true:=rfl
theorem cnew_load (n:Option Nat) (x:MX) (o:MOp):cnew (.load n x) o=false:=Bool.false_and _
theorem newOp_load (n:Option Nat) (x:MX):newOp (.load n x)=false:=rfl
theorem cnew_store (n:Nat) (x v:MX) (o:MOp):cnew (.store n x v) o=false:=Bool.false_and _
theorem newOp_store (n:Nat) (x v:MX):newOp (.store n x v)=false:=rfl
theorem cnew_len (b:Bool) (x:MX) (o:MOp):cnew (.len b x) o=false:=Bool.false_and _
theorem newOp_len (b:Bool) (x:MX):newOp (.len b x)=false:=rfl
theorem cnew_indexAddr (x i:MX) (sz:Nat) (o:MOp):cnew (.indexAddr x i sz) o=false:=Bool.false_and _
theorem newOp_indexAddr (x i:MX) (sz:Nat):newOp (.indexAddr x i sz)=false:=rfl
theorem cnew_indexArr (x i:MX) (sz len:Nat) (o:MOp):cnew (.indexArr x i sz len) o=false:=Bool.false_and _
theorem newOp_indexArr (x i:MX) (sz len:Nat):newOp (.indexArr x i sz len)=false:=rfl
theorem cnew_fieldAddr (x:MX) (off:Nat) (o:MOp):cnew (.fieldAddr x off) o=false:=Bool.false_and _
theorem newOp_fieldAddr (x:MX) (off:Nat):newOp (.fieldAddr x off)=false:=rfl
theorem cnew_nilCheck (x:MX) (o:MOp):cnew (.nilCheck x) o=false:=Bool.false_and _
theorem newOp_nilCheck (x:MX):newOp (.nilCheck x)=false:=rfl
theorem cnew_append (ty sz by_:Nat) (z:AV) (s x:MX) (o:MOp):cnew (.append ty sz by_ z s x) o=false:=Bool.false_and _
theorem newOp_append (ty sz by_:Nat) (z:AV) (s x:MX):newOp (.append ty sz by_ z s x)=false:=rfl
theorem cnew_slice (str:Bool) (sz:Nat) (x:MX) (lo hi:Option MX) (o:MOp):cnew (.slice str sz x lo hi) o=false:=Bool.false_and _
theorem newOp_slice (str:Bool) (sz:Nat) (x:MX) (lo hi:Option MX):newOp (.slice str sz x lo hi)=false:=rfl
theorem cnew_call (f:FuncId) (xs:List MX) (o:MOp):cnew (.call f xs) o=newOp o:=Bool.true_and _
theorem newOp_call (f:FuncId) (xs:List MX):newOp (.call f xs)=false:=rfl
theorem cnew_callv (x:MX) (xs:List MX) (o:MOp):cnew (.callv x xs) o=newOp o:=Bool.true_and _
theorem newOp_callv (x:MX) (xs:List MX):newOp (.callv x xs)=false:=rfl
def vcCn:=And.intro @cnew_alloc <| And.intro @newOp_alloc <| And.intro @cnew_box <| And.intro @newOp_box <| And.intro @cnew_buildSlice <| And.intro @newOp_buildSlice <| And.intro @cnew_makeSlice <| And.intro @newOp_makeSlice <| And.intro @cnew_load <| And.intro @newOp_load <| And.intro @cnew_store <| And.intro @newOp_store <| And.intro @cnew_len <| And.intro @newOp_len <| And.intro @cnew_indexAddr <| And.intro @newOp_indexAddr <| And.intro @cnew_indexArr <| And.intro @newOp_indexArr <| And.intro @cnew_fieldAddr <| And.intro @newOp_fieldAddr <| And.intro @cnew_nilCheck <| And.intro @newOp_nilCheck <| And.intro @cnew_append <| And.intro @newOp_append <| And.intro @cnew_slice <| And.intro @newOp_slice <| And.intro @cnew_call <| And.intro @newOp_call <| And.intro @cnew_callv <| @newOp_callv
theorem tk_call (g:Option (Nat × Bool)) (d:Option Nat) (f:FuncId) (xs:List MX) (e:Env):tkM ⟨g,d,.call f xs⟩ e=if (xs.map fun x=>x.ev e).all imm=true then some [] else none:=rfl
theorem tk_alloc (g:Option (Nat × Bool)) (d:Option Nat) (ty sz:Nat) (z:AV) (e:Env):tkM ⟨g,d,.alloc ty sz z⟩ e=some [d.getD 0]:=rfl
theorem tk_box (g:Option (Nat × Bool)) (d:Option Nat) (ty sz:Nat) (x:MX) (e:Env):tkM ⟨g,d,.box ty sz x⟩ e=some (refs1 (x.ev e) ++ [d.getD 0]):=by simp [tkM,tk,pureOp,xsOf,allocs]
theorem tk_buildSlice (g:Option (Nat × Bool)) (d:Option Nat) (ty sz n:Nat) (z:AV) (ps:List (Nat × MX)) (e:Env):tkM ⟨g,d,.buildSlice ty sz n z ps⟩ e=some ((ps.map (·.2)).flatMap (fun x=>refs1 (x.ev e)) ++ [d.getD 0]):=by simp [tkM,tk,pureOp,xsOf,allocs]
theorem tk_makeSlice (g:Option (Nat × Bool)) (d:Option Nat) (ty sz by_:Nat) (z:AV) (l c:MX) (e:Env):tkM ⟨g,d,.makeSlice ty sz by_ z l c⟩ e=some (refs1 (l.ev e) ++ (refs1 (c.ev e) ++ [d.getD 0])):=by simp [tkM,tk,pureOp,xsOf,allocs]
theorem tk_load (g:Option (Nat × Bool)) (d:Option Nat) (n:Option Nat) (x:MX) (e:Env):tkM ⟨g,d,.load n x⟩ e=some (refs1 (x.ev e)):=by simp [tkM,tk,pureOp,xsOf,allocs]
theorem tk_store (g:Option (Nat × Bool)) (d:Option Nat) (n:Nat) (x v:MX) (e:Env):tkM ⟨g,d,.store n x v⟩ e=some (refs1 (x.ev e) ++ refs1 (v.ev e)):=by simp [tkM,tk,pureOp,xsOf,allocs]
theorem tk_len (g:Option (Nat × Bool)) (d:Option Nat) (b:Bool) (x:MX) (e:Env):tkM ⟨g,d,.len b x⟩ e=some (refs1 (x.ev e)):=by simp [tkM,tk,pureOp,xsOf,allocs]
theorem tk_indexAddr (g:Option (Nat × Bool)) (d:Option Nat) (x i:MX) (sz:Nat) (e:Env):tkM ⟨g,d,.indexAddr x i sz⟩ e=some (refs1 (x.ev e) ++ refs1 (i.ev e)):=by simp [tkM,tk,pureOp,xsOf,allocs]
theorem tk_fieldAddr (g:Option (Nat × Bool)) (d:Option Nat) (x:MX) (o:Nat) (e:Env):tkM ⟨g,d,.fieldAddr x o⟩ e=some (refs1 (x.ev e)):=by simp [tkM,tk,pureOp,xsOf,allocs]
theorem tk_nilCheck (g:Option (Nat × Bool)) (d:Option Nat) (x:MX) (e:Env):tkM ⟨g,d,.nilCheck x⟩ e=some (refs1 (x.ev e)):=by simp [tkM,tk,pureOp,xsOf,allocs]
theorem tk_append (g:Option (Nat × Bool)) (d:Option Nat) (ty sz by_:Nat) (z:AV) (s x:MX) (e:Env):tkM ⟨g,d,.append ty sz by_ z s x⟩ e=some (refs1 (s.ev e) ++ (refs1 (x.ev e) ++ [d.getD 0])):=by simp [tkM,tk,pureOp,xsOf,allocs]
theorem refs1_buf (k n:Nat):refs1 (.buf k n)=[k]:=rfl
theorem refs1_ptr (k i o:Nat):refs1 (.ptr k i o)=[k]:=rfl
theorem refs1_int (k:IntKind) (n:Int):refs1 (.int k n)=[]:=rfl
theorem refs1_bool (b:Bool):refs1 (.bool b)=[]:=rfl
theorem refs1_str (b:List UInt8):refs1 (.str b)=[]:=rfl
theorem refs1_sl (l:List AV):refs1 (.sl l)=[]:=rfl
theorem refs1_nils:refs1 .nils=[]:=rfl
theorem refs1_agg (l:List AV):refs1 (.agg l)=[]:=rfl
theorem refs1_tup (l:List AV):refs1 (.tup l)=[]:=rfl
theorem refs1_eptr (x:AV) (o:Nat):refs1 (.eptr x o)=[]:=rfl
theorem disj_nil (T:List Nat):disj [] T=true:=rfl
theorem disj_cons (k:Nat) (T T':List Nat):disj (k :: T) T'=(!(T'.contains k) && disj T T'):=rfl
theorem flatMap_nil' (f:MX→List Nat):List.flatMap f []=[]:=rfl
theorem flatMap_cons' (f:MX→List Nat) (x:MX) (l:List MX):List.flatMap f (x :: l)=f x ++ List.flatMap f l:=by simp
theorem contains_nil' (k:Nat):([]:List Nat).contains k=false:=rfl
theorem contains_cons' (k a:Nat) (l:List Nat):(a :: l).contains k=(decide (k=a) || l.contains k):=by
 rw [List.contains_cons]
 by_cases h:k=a <;> simp [h]
def vcD:=And.intro vcCn <| And.intro @refsL_imm <| And.intro @killAll_nil <| And.intro Bool.or_false <| And.intro Bool.false_or <| And.intro Bool.or_true <| And.intro Bool.true_or <| And.intro @confP_some <| And.intro @confOk_cons <| And.intro @tk_call <| And.intro @tk_alloc <| And.intro @tk_box <| And.intro @tk_buildSlice <| And.intro @tk_makeSlice <| And.intro @tk_load <| And.intro @tk_store <| And.intro @tk_len <| And.intro @tk_indexAddr <| And.intro @tk_fieldAddr <| And.intro @tk_nilCheck <| And.intro @tk_append <| And.intro @refs1_buf <| And.intro @refs1_ptr <| And.intro @refs1_int <| And.intro @refs1_bool <| And.intro @refs1_str <| And.intro @refs1_sl <| And.intro @refs1_nils <| And.intro @refs1_agg <| And.intro @refs1_tup <| And.intro @refs1_eptr <| And.intro @disj_nil <| And.intro @disj_cons <| And.intro @flatMap_nil' <| And.intro @flatMap_cons' <| And.intro @contains_nil' <| And.intro @contains_cons' <| And.intro @outQ_r <| And.intro @outQ_x <| @outQ_n
end Go.Av

/- Own buffers handed to a call: which keys are let go. By an AI agent;nothing here is trusted. -/
namespace Go.Av
def refsK (s:Store) (n len:Nat) (b:Option (Option Blk)):List Nat:=match b with
 | some (some B)=>if (B.es.take len).all imm then [] else (B.es.take len).flatMap (refs s n)
 | _=>[]
theorem refs_buf (s:Store) (n k len:Nat):refs s (n+1) (.buf k len)=k :: refsK s n len (s k):=rfl
theorem ints_imm (l:List Int):(ints l).all imm=true:=List.all_eq_true.2 fun x hx=>by
 obtain ⟨n,_,rfl⟩:=List.mem_map.1 hx;rfl
end Go.Av

/- A function that writes one block of its caller: the contract out of a verification condition. By an AI agent;nothing here is trusted. -/
namespace Go.Av
variable {P:Program}
section
variable {N:Nat} {Q:Exit→Env→Store→Prop} {e:Env} {s:Store}
def rnd (P:Program) (N:Nat) (b:MC) (Q:Exit→Env→Store→Prop):Nat→Env→Store→Prop
 | 0,_,_=>False
 | n+1,e,s=>W P N b (seqQ (rnd P N b Q n) Q .mk) e s .mk
theorem rnd_s (b:MC) (n:Nat):rnd P N b Q (n+1) e s=W P N b (seqQ (rnd P N b Q n) Q .mk) e s .mk:=rfl
def AWX (P:Program) (N K:Nat) (m:MC) (Q:Exit→Env→Store→Prop) (e:Env) (s:Store):Prop:=∀ c,cCode P N c=some m→∀ (rm:Nat) (B:Nat) (w0:World) (ok0:F0) (ok:Nat→Prop) (ρ:Nat→Option Nat) (a:Act) (w:World),LentK K ok0.s→Rel N B w0 ok0 ok ρ e s a w →
  c.wpIn (Fr none) rm P (fun x a' w'=>∃ e' s' ok' ρ',Rel N B w0 ok0 ok' ρ' e' s' a' w'∧Q x e' s') a w
theorem AWM.x {m:MC} {K:Nat} (hf:m.flat=true) (h:AWM P N m Q e s):AWX P N K m Q e s:=fun c hc rm B w0 ok0 ok ρ a w _ hR=>h c hc none rm B w0 ok0 ok ρ a w (.inl hf) hR
theorem AWX.mono {m:MC} {K:Nat} {Q':Exit→Env→Store→Prop} (h:AWX P N K m Q e s) (hq:∀ x e' s',Q x e' s'→Q' x e' s'):AWX P N K m Q' e s :=
 fun c hc rm B w0 ok0 ok ρ a w h0 hR=>wpIn_mono (h c hc rm B w0 ok0 ok ρ a w h0 hR) fun _ _ _ ⟨e',s',ok',ρ',h1,h2⟩=>⟨e',s',ok',ρ',h1,hq _ _ _ h2⟩
end
end Go.Av

/- Ranges over maps,in whichever order: the rule of a step;the steps of operations on maps. By an AI agent;nothing here is trusted. -/
namespace Go.Av
variable {P:Program} {N:Nat} {Q:Exit→Env→Store→Prop} {e:Env} {s:Store}

def trueE (m:Int × Int × Int × Nat):AV:=.tup [.bool true,.agg [.int .i64 m.1,.int .i64 m.2.1],.int .i64 m.2.2.1]

theorem AWM.nextm {d:Nat} {x:MX} {ss:List MS} {k:Nat} {i:Nat × Nat × List Nat × Nat} {m:Ents × Nat} (hx:x.ev e=.mp k) (hi:iterOfB (s k)=some i) (hm:mapOfB (s i.1)=some m)
  (hold:∀ en ∈ m.1,en.2.2.2<i.2.1) (hsc:i.2.1≤i.2.2.2)
  (h0:(∀ en ∈ m.1,en.2.2.2 ∈ i.2.2.1)→vcL P false ss (upd e d (.tup [.bool false])) s (Q .normal))
  (h1:∀ en ∈ m.1,en.2.2.2 ∉ i.2.2.1→vcL P false ss (upd e d (trueE en)) (upd s k (some (some (iterB i.1 i.2.1 (i.2.2.1 ++ [en.2.2.2]) m.2)))) (Q .normal)):AWM P N (.nextm d x ss) Q e s:=by
 intro c hc ro rm B w0 ok0 ok ρ a w hfl hR
 rcases cCode_inv hc with ⟨_,h'⟩ | ⟨_,_,_,_,_,_,h',_⟩ | ⟨_,_,_,_,_,h',_⟩ | ⟨_,_,_,_,_,_,h',_⟩ | ⟨_,_,_,_,h',_⟩ | ⟨_,_,_,h',_⟩ | ⟨_,_,h'⟩ | ⟨_,h'⟩ | ⟨_,_,_,_,_,_,_,h',_⟩ | ⟨id,ops,draw,d',xo,ss',rfl,h',hn⟩ | ⟨_,_,_,_,_,_,h',_⟩ <;> first | (cases h';done) | skip
 cases h'
 unfold cNext at hn
 split at hn
 ·rename_i o l hl
  split at hn
  ·rename_i xo' d' hop hg hd
   split at hn
   ·rename_i hc
    simp only [Bool.and_eq_true,decide_eq_true_eq,Bool.not_eq_true'] at hc
    obtain ⟨hdN,hdr⟩:=hc
    subst hdr
    obtain ⟨ss',hss,hq⟩:=Option.map_eq_some_iff.1 hn
    cases hq
    refine wpIn_region_list ?_
    rw [hl]
    refine wpListIn_plain hg fun K hK=>⟨fun _ _=>trivial,?_⟩
    rw [Oper.semAt_eq _ _ _ (fun c=>by rw [hop];exact fun h=>by cases h)]
    have hexec:(execOp a.eval o).run P w=(do pure (Next.value (← Instr.next (a.eval xo) false o.type)):Sem Next).run P w:=by
     unfold execOp;rw [hop]
    rw [hexec]
    have hvx:VR w.heap ok ρ s (.mp k) (a.eval xo):=hx ▸ hR.ev xo
    obtain ⟨b,bm,hb,hr,hrm,hh,hhm⟩:=hR.iterAt hvx hi hm
    rw [hb]
    have hsI:=iterOfB_eq hi
    have hlst:∀ {ok':Nat→Prop} {v:AV} {val:Value} {s':Store} {w':World},Rel N B w0 ok0 ok' ρ e s' a w'→VR w'.heap ok' ρ s' v val→vcL P false ss (upd e d v) s' (Q .normal)→K (a.put o.dst val) w':=by
     intro ok' v val s' w' hR' hv hvc
     obtain ⟨e2,s2,hrun,hq⟩:=vcL_run hvc
     refine hK _ _ ?_
     rw [hd]
     exact run_list (a.put (some d) val).defers (fun ok2 ρ2 a2 w2 _ hR2=>⟨e2,s2,ok2,ρ2,hR2,hq⟩) hss hrun rfl (hR'.put hdN hv)
    have hstm:∀ z ∈ (m.1.map entOf).toArray.toList,z.born<i.2.1:=fun z hz=>by
     obtain ⟨m0,hm0,rfl⟩:∃ m0 ∈ m.1,entOf m0=z:=by simpa using hz
     exact hold m0 hm0
    rcases run_next_at (P:=P) w o.type b bm i.2.1 i.2.2.2 i.2.2.1.toArray (m.1.map entOf).toArray m.2 hh hhm hstm hsc with ⟨g0,hrun⟩ | ⟨en,hen,w1,hal,hrun⟩
    ·simp only [Sem.run_bind,hrun,Result.andThen_ok,Sem.run_pure]
     rw [Oper.uponIn_value]
     refine hlst hR (.tup _ _ rfl fun j u hu=>?_) (h0 fun en hen=>?_)
     ·match j,hu with
      | 0,hu=>simp at hu;subst hu;exact .bool _
     ·have:=all_seen _ _ g0 (entOf en) (by simpa using ⟨_,_,_,_,hen,rfl⟩)
      simpa [entOf] using this
    ·simp only [Sem.run_bind,hrun,Result.andThen_ok,Sem.run_pure]
     rw [Oper.uponIn_value]
     obtain ⟨hem,hes⟩:=mem_left hen
     obtain ⟨m0,hm0,rfl⟩:∃ m0 ∈ m.1,entOf m0=en:=by simpa using hem
     have hR1:Rel N B w0 ok0 ok ρ e s a w1:=by
      rcases hal with rfl | rfl
      ·exact hR
      ·exact hR.world (Below.refl _ _).drew rfl
     have hR2:=hR1.setM (o:=.iter i.1 i.2.1 (i.2.2.1 ++ [m0.2.2.2]) m.2) (x:=.mapIter (some bm) i.2.1 (i.2.2.1 ++ [m0.2.2.2]).toArray m.2) (K2:=iterB i.1 i.2.1 (i.2.2.1 ++ [m0.2.2.2]) m.2) hsI hr rfl rfl rfl rfl rfl
      ⟨bm,rfl,.inr ⟨hrm,_,mapOfB_eq hm⟩⟩
     have hw:ChangeMaps.setBlock w1 b (.mapIter (some bm) i.2.1 (i.2.2.1.toArray.push (entOf m0).born) m.2)=w1.putObj b (.mapIter (some bm) i.2.1 (i.2.2.1 ++ [m0.2.2.2]).toArray m.2):=by
      simp [ChangeMaps.setBlock,World.putObj,entOf]
     rw [hw]
     refine hlst hR2 (v:=trueE m0) (.tup _ _ rfl fun j u hu=>?_) (h1 m0 hm0 (by simpa [entOf] using hes))
     match j,hu with
     | 0,hu=>simp at hu;subst hu;exact .bool _
     | 1,hu =>
      simp at hu;subst hu
      refine .agg _ _ rfl fun j u hu=>?_
      match j,hu with
      | 0,hu=>simp at hu;subst hu;exact .int _ _
      | 1,hu=>simp at hu;subst hu;exact .int _ _
     | 2,hu=>simp at hu;subst hu;exact .int _ _
   ·cases hn
  ·cases hn
 ·cases hn

theorem W_nextm {d:Nat} {x:MX} {ss:List MS} {k:Nat} {i:Nat × Nat × List Nat × Nat} {m:Ents × Nat} {t} (hx:x.ev e=.mp k) (hi:iterOfB (s k)=some i) (hm:mapOfB (s i.1)=some m)
  (hold:∀ en ∈ m.1,en.2.2.2<i.2.1) (hsc:i.2.1≤i.2.2.2)
  (h0:(∀ en ∈ m.1,en.2.2.2 ∈ i.2.2.1)→V P false ss (upd e d (.tup [.bool false])) s (Q .normal) .mk)
  (h1:∀ en ∈ m.1,en.2.2.2 ∉ i.2.2.1→V P false ss (upd e d (trueE en)) (upd s k (some (some (iterB i.1 i.2.1 (i.2.2.1 ++ [en.2.2.2]) m.2)))) (Q .normal) .mk):W P N (.nextm d x ss) Q e s t :=
 AWM.nextm hx hi hm hold hsc h0 h1

section
variable {nk:Bool} {r:List MS} {K:Env→Store→Prop}
theorem V_mapo (d:Option Nat) (w:MapW) (xs:List MX) (t):V P nk (⟨none,d,.mapo w xs⟩ :: r) e s K t=bP (mapX w (d.getD 0) (xs.map (·.ev e)) s) (fun v s'=>V P nk r (putO e d v) s' K .mk) .mk:=V_bP rfl _
theorem mapX_make (d:Nat) (s:Store):mapX .make d [] s=reqB (s d).isNone (some (.mp d,upd s d (some (some (mapB [] 0))))):=rfl
theorem mapX_set (d k:Nat) (c r n:Int) (s:Store):mapX .set d [.mp k,.agg [.int .i64 c,.int .i64 r],.int .i64 n] s=(mapOfB (s k)).map fun m=>(.tup [],upd s k (some (some (mapB (setM m.1 m.2 c r n) (clkM m.1 m.2 c r))))):=rfl
theorem mapX_get (ok:Bool) (d:Nat) (x:AV) (c r:Int) (s:Store):mapX (.get ok) d [x,.agg [.int .i64 c,.int .i64 r]] s=(mapOf s x).map fun m=>(getV ok (findM m.1 c r),s):=rfl
theorem mapX_len (d:Nat) (x:AV) (s:Store):mapX .len d [x] s=(mapOf s x).map fun m=>(.int .i64 m.1.length,s):=rfl
theorem mapX_del (d k:Nat) (c r:Int) (s:Store):mapX .del d [.mp k,.agg [.int .i64 c,.int .i64 r]] s=(mapOfB (s k)).map fun m=>(.tup [],upd s k (some (some (mapB (delM m.1 c r) m.2)))):=rfl
theorem mapX_range (d k:Nat) (s:Store):mapX .range d [.mp k] s=(mapOfB (s k)).bind fun m=>reqB (s d).isNone (some (.mp d,upd s d (some (some (iterB k m.2 [] m.2))))):=rfl
theorem mapX_entry (d k:Nat) (s:Store):mapX .entry d [.mp k] s=(iterOfB (s k)).bind fun i=>(mapOfB (s i.1)).bind fun m=>i.2.2.1.getLast?.bind fun b=>reqB (m.2 == i.2.2.2) ((m.1.find? (fun e=>e.2.2.2 == b)).map fun e=>(.tup [.agg [.int .i64 e.1,.int .i64 e.2.1],.int .i64 e.2.2.1],s)):=rfl
theorem mapOfB_B (M:Ents) (clk:Nat):mapOfB (some (some (mapB M clk)))=some (M,clk):=rfl
theorem iterOfB_B (km since:Nat) (seen:List Nat) (last:Nat):iterOfB (some (some (iterB km since seen last)))=some (km,since,seen,last):=rfl
theorem mapOf_mp (k:Nat) (s:Store):mapOf s (.mp k)=mapOfB (s k):=rfl
theorem mapOf_mo (M:Ents) (clk:Nat) (s:Store):mapOf s (.mo (.map M clk))=some (M,clk):=rfl
theorem getV_t (x:Option Int):getV true x=.tup [.int .i64 (x.getD 0),.bool x.isSome]:=rfl
theorem getV_f (x:Option Int):getV false x=.int .i64 (x.getD 0):=rfl
theorem reqB_t {α:Type} (x:Option α):reqB true x=x:=rfl
theorem bor_mp (k:Nat) (M:Ents) (clk:Nat) (n:Nat) (s:Store) (h:s k=some (some (mapB M clk))):bor s (n+1) (.mp k)=.mo (.map M clk):=by simp [bor,h,mapB]
end
theorem cnew_mapo (w:MapW) (xs:List MX) (o:MOp):cnew (.mapo w xs) o=false:=Bool.false_and _
theorem newOp_make (xs:List MX):newOp (.mapo .make xs)=true:=rfl
theorem newOp_set (xs:List MX):newOp (.mapo .set xs)=false:=rfl
theorem newOp_get (b:Bool) (xs:List MX):newOp (.mapo (.get b) xs)=false:=rfl
theorem tk_make (g:Option (Nat × Bool)) (d:Option Nat) (xs:List MX) (e:Env):tkM ⟨g,d,.mapo .make xs⟩ e=some (xs.flatMap (fun x=>refs1 (x.ev e)) ++ [d.getD 0]):=rfl
theorem tk_set (g:Option (Nat × Bool)) (d:Option Nat) (xs:List MX) (e:Env):tkM ⟨g,d,.mapo .set xs⟩ e=some (xs.flatMap (fun x=>refs1 (x.ev e)) ++ []):=rfl
theorem tk_get (g:Option (Nat × Bool)) (d:Option Nat) (b:Bool) (xs:List MX) (e:Env):tkM ⟨g,d,.mapo (.get b) xs⟩ e=some (xs.flatMap (fun x=>refs1 (x.ev e)) ++ []):=rfl
theorem refs1_mp (k:Nat):refs1 (.mp k)=[k]:=rfl
theorem solid_mp (k:Nat):solid (.mp k)=true:=rfl
theorem solid_mo (o:MObj):solid (.mo o)=true:=rfl
theorem cellsOf_mp (k:Nat):cellsOf (.mp k)=[.mp k]:=rfl
theorem cellsOf_mo (o:MObj):cellsOf (.mo o)=[.mo o]:=rfl
theorem cellsB_mp (k:Nat):cellsB (.mp k)=true:=rfl
theorem cellsB_mo (o:MObj):cellsB (.mo o)=true:=rfl
theorem putIn_mo (o:MObj) (n:Nat) (v:AV):putIn (.mo o) n v=v:=rfl
theorem putIn_mp (k n:Nat) (v:AV):putIn (.mp k) n v=v:=rfl
def vcM3:=And.intro @solid_mp <| And.intro @solid_mo <| And.intro @cellsOf_mp <| And.intro @cellsOf_mo <| And.intro @cellsB_mp <| And.intro @cellsB_mo <| And.intro @putIn_mo <| @putIn_mp
theorem refs1_mo (o:MObj):refs1 (.mo o)=[]:=rfl
def vcM2:=And.intro @cnew_mapo <| And.intro @newOp_make <| And.intro @newOp_set <| And.intro @newOp_get <| And.intro @tk_make <| And.intro @tk_set <| And.intro @tk_get <| And.intro @refs1_mp <| And.intro @refs1_mo <| @Option.isNone_none.{0}
theorem RnB.map {s s':Store} {f:Nat→Option Nat} {M M':Ents} {clk clk':Nat} (h:M=M'∧clk=clk'):RnB s s' f (mapB M clk) (mapB M' clk'):=by
 obtain ⟨rfl,rfl⟩:=h
 exact RnB.same fun x hx=>by simp only [mapB,List.mem_singleton] at hx;subst hx;rfl
theorem RnB.iter {s s':Store} {f:Nat→Option Nat} {km since last since' last':Nat} {seen seen':List Nat} (h:f km=some km∧since=since'∧seen=seen'∧last=last'):RnB s s' f (iterB km since seen last) (iterB km since' seen' last'):=by
 obtain ⟨h,rfl,rfl,rfl⟩:=h
 refine ⟨rfl,rfl,rfl,fun i x x' h1 h2=>?_⟩
 rw [h1] at h2;cases h2
 have hx:=List.mem_of_getElem? h1
 simp only [iterB,List.mem_singleton] at hx
 subst hx
 refine ⟨rfl,fun c hc=>by simp only [cellsOf,List.mem_singleton] at hc;subst hc;rfl,fun o c c' h3 h4=>?_⟩
 rw [h3] at h4;cases h4
 have hc:=List.mem_of_getElem? h3
 simp only [cellsOf,List.mem_singleton] at hc
 subst hc
 exact .it _ _ _ _ h
theorem RnB.mm {s s':Store} {f:Nat→Option Nat} {ty sz k k':Nat} (h:f k'=some k):RnB s s' f ⟨ty,sz,[.mp k]⟩ ⟨ty,sz,[.mp k']⟩:=RnB.cells ⟨⟨rfl,rfl,rfl,h⟩,trivial⟩
def vcM1:=And.intro @V_mapo <| And.intro @mapX_make <| And.intro @mapX_set <| And.intro @mapX_get <| And.intro @mapX_len <| And.intro @mapX_del <| And.intro @mapX_range <| And.intro @mapX_entry <| And.intro @mapOfB_B <| And.intro @iterOfB_B <| And.intro @mapOf_mp <| And.intro @mapOf_mo <| And.intro @getV_t <| And.intro @getV_f <| @reqB_t
end Go.Av

namespace Go.Av
def vZ:=And.intro vcV<|And.intro vcD<|And.intro @eq_self.{1}<| vcP2
end Go.Av
