/- The package-level variables that a seat's rows say what they hold: tables of integers. By an AI agent; nothing here is trusted. -/
import GoSem.Claims
import Derived.Below
import Derived.Laws.Cells
import Derived.Laws.AppendOwn
import Derived.Laws.MakeOwn
import Derived.Orders
import Derived.KernelRfl
import Derived.Laws.Tables
import Derived.Laws.StructEq
import Derived.Laws.Slices
set_option linter.defProp false
set_option linter.unusedSimpArgs false
set_option linter.unusedVariables false
namespace Go.Av

def gTab:List (Nat × IntKind × List Int):=[]
 ++ [(0,.i64,[-1,0,0, -1,0,1,1,0])]
def gErr:List Nat:=[]
end Go.Av

/- Abstract values for Go's values: what a slice holds in place of where it lies. VR ties them to the model's values;Rel ties a whole frame. By an AI agent;nothing here is trusted. -/
namespace Go.Av

structure Below (B:Nat) (w w':World):Prop where
 kit:Go.RowKit.Below B w w'
 drawn:w.drawn≤w'.drawn
namespace Below
variable {B:Nat} {w w':World}
theorem os (h:Below B w w'):w'.os=w.os:=h.kit.os
theorem tape (h:Below B w w'):w'.tape=w.tape:=h.kit.tape
theorem output (h:Below B w w'):w'.output=w.output:=h.kit.output
theorem size (h:Below B w w'):w.heap.size≤w'.heap.size:=h.kit.size
theorem block (h:Below B w w'):∀ k,k<B→w'.heap[k]?=w.heap[k]?:=h.kit.block
theorem refl (B:Nat) (w:World):Below B w w:=⟨.refl B w,Nat.le_refl _⟩
theorem trans {a b c:World} (h:Below B a b) (k:Below B b c):Below B a c:=⟨h.kit.trans k.kit,Nat.le_trans h.drawn k.drawn⟩
theorem mono {B':Nat} (h:Below B w w') (hB:B'≤B):Below B' w w':=⟨h.kit.mono hB,h.drawn⟩
theorem drew {a:World} (h:Below B a w):Below B a w.drew:=⟨h.kit.drew,Nat.le_succ_of_le h.drawn⟩
theorem heap_alloc (w:World) (o:Obj) (k:Nat) (h:k<w.heap.size):(w.alloc o).heap[k]?=w.heap[k]?:=Go.RowKit.Below.heap_alloc w o k h
theorem alloc {a:World} (h:Below B a w) (hB:B≤w.heap.size) (o:Obj):Below B a (w.alloc o):=⟨h.kit.alloc hB o,h.drawn⟩
end Below

inductive MObj where
 | map (M:List (Int × Int × Int × Nat)) (clk:Nat)
 | iter (km since:Nat) (seen:List Nat) (last:Nat)
 | nil
def MObj.kind:MObj→Nat
 | .map ..=>0
 | .iter ..=>1
 | .nil=>2
def entOf (e:Int × Int × Int × Nat):MapEntry:={ key:=.agg #[.int .i64 e.1,.int .i64 e.2.1],val:=.int .i64 e.2.2.1,born:=e.2.2.2 }
def mapObj (M:List (Int × Int × Int × Nat)) (clk:Nat):Obj:=.map (M.map entOf).toArray clk

inductive AV where
 | undef
 | int (k:IntKind) (n:Int)
 | bool (b:Bool)
 | str (s:List UInt8)
 | nilp
 | nilf
 | nili
 | ifc
 | nils
 | agg (cs:List AV)
 | tup (vs:List AV)
 | sl (es:List AV)
 | buf (k len:Nat)
 | ptr (k i o:Nat)
 | vw (k i o n:Nat)
 | eptr (x:AV) (o:Nat)
 | fn (f:FuncId) (caps:List AV)
 | yld (l:Nat)
 | mp (k:Nat)
 | mo (o:MObj)

instance:Inhabited AV:=⟨.undef⟩

def cellsOf:AV→List AV
 | .agg cs=>cs
 | x=>[x]

def cell:AV→Bool
 | .undef | .agg _ | .tup _=>false
 | _=>true

def cellsOk (x:AV):Prop:=∀ c ∈ cellsOf x,cell c=true

def immL:List AV→Bool
 | []=>true
 | .buf .. :: _ | .ptr .. :: _ | .vw .. :: _ | .mp _ :: _ | .mo (.iter ..) :: _ | .agg _ :: _ | .tup _ :: _ | .fn .. :: _=>false
 | _ :: r=>immL r

def imm:AV→Bool
 | .buf .. | .ptr .. | .vw .. | .mp _ | .mo (.iter ..)=>false
 | .agg cs | .tup cs=>immL cs
 | .fn _ cs=>immL cs
 | _=>true

theorem imm_cell:∀ {cs:List AV},immL cs=true→∀ c ∈ cs,imm c=true
 | [],_,c,hc=>by cases hc
 | x :: r,h,c,hc=>by
  rcases List.mem_cons.1 hc with rfl | hc
  ·cases c <;> first | (simp [immL,imm] at h ⊢;done) | (rename_i o;cases o <;> simp [immL,imm] at h ⊢)
  ·exact imm_cell (by cases x <;> first | (simp [immL] at h;done) | (simp [immL] at h;exact h) | (rename_i o;cases o <;> first | (simp [immL] at h;done) | (simp [immL] at h;exact h))) c hc

theorem imm_cells {x:AV} (h:imm x=true):∀ c ∈ cellsOf x,imm c=true:=by
 cases x <;> simp only [cellsOf,List.mem_singleton,forall_eq] <;> first
  | exact h
  | exact imm_cell h

structure Blk where
 ty:TypeId
 sz:Nat
 es:List AV

abbrev Store:=Nat→Option (Option Blk)
abbrev Env:=Nat→AV

def upd {α:Type} (f:Nat→α) (n:Nat) (x:α):Nat→α:=fun m=>if m=n then x else f m

theorem upd_same {α:Type} (f:Nat→α) (n:Nat) (x:α):upd f n x n=x:=by simp [upd]
theorem upd_other {α:Type} (f:Nat→α) (n m:Nat) (x:α) (h:m ≠ n):upd f n x m=f m:=by simp [upd,h]

inductive VR (h:Array Obj) (ok:Nat→Prop) (ρ:Nat→Option Nat) (σ:Store):AV→Value→Prop where
 | undef (v:Value):VR h ok ρ σ .undef v
 | int (k:IntKind) (n:Int):VR h ok ρ σ (.int k n) (.int k n)
 | bool (b:Bool):VR h ok ρ σ (.bool b) (.bool b)
 | str (s:List UInt8) (b:ByteArray) (hs:b.data.toList=s):VR h ok ρ σ (.str s) (.string b)
 | nilp:VR h ok ρ σ .nilp (.pointer none)
 | nilf:VR h ok ρ σ .nilf .nilFunc
 | nili:VR h ok ρ σ .nili .nilIface
 | ifc (t:TypeId) (v:Value):VR h ok ρ σ .ifc (.iface t v)
 | nils (a:Option Addr):VR h ok ρ σ .nils (.slice a 0 0)
 | agg (cs:List AV) (vs:Array Value) (hl:cs.length=vs.size) (hv:∀ (i:Nat) (c:AV),cs[i]?=some c→VR h ok ρ σ c (vs.getD i undef)):VR h ok ρ σ (.agg cs) (.agg vs)
 | tup (cs:List AV) (vs:Array Value) (hl:cs.length=vs.size) (hv:∀ (i:Nat) (c:AV),cs[i]?=some c→VR h ok ρ σ c (vs.getD i undef)):VR h ok ρ σ (.tup cs) (.tuple vs)
 | sl0 (a:Option Addr) (cap:Nat):VR h ok ρ σ (.sl []) (.slice a 0 cap)
 | sl (es:List AV) (b off s cap:Nat) (cur:Array Value) (ty:TypeId) (fr:Nat × Nat) (vals:Nat→Nat→Value) (hok:ok b) (hcap:es.length≤cap)
   (hb:h[b]?=some (.cells cur ty fr)) (hs:∀ (i:Nat) (x:AV),es[i]?=some x→(cellsOf x).length=s∧cellsOk x∧imm x=true)
   (hc:∀ (i:Nat) (x:AV) (o:Nat) (c:AV),es[i]?=some x→(cellsOf x)[o]?=some c→cur[off+i * s+o]?=some (vals i o))
   (hv:∀ (i:Nat) (x:AV) (o:Nat) (c:AV),es[i]?=some x→(cellsOf x)[o]?=some c→VR h ok ρ σ c (vals i o)):VR h ok ρ σ (.sl es) (.slice (some ⟨b,off,none⟩) es.length cap)
 | eptr (x:AV) (o b off:Nat) (cur:Array Value) (ty:TypeId) (fr:Nat × Nat) (vals:Nat→Value) (hok:ok b)
   (hb:h[b]?=some (.cells cur ty fr)) (hs:cellsOk x∧imm x=true)
   (hc:∀ (j:Nat) (c:AV),(cellsOf x)[j]?=some c→cur[off+j]?=some (vals j))
   (hv:∀ (j:Nat) (c:AV),(cellsOf x)[j]?=some c→VR h ok ρ σ c (vals j)):VR h ok ρ σ (.eptr x o) (.pointer (some ⟨b,off+o,none⟩))
 | bufd (k len:Nat) (a:Option Addr) (l c:Nat) (hd:σ k=some none):VR h ok ρ σ (.buf k len) (.slice a l c)
 | bufn (k:Nat) (a:Option Addr) (B:Blk) (hσ:σ k=some (some B)) (hr:ρ k=none):VR h ok ρ σ (.buf k 0) (.slice a 0 0)
 | buf (k len:Nat) (B:Blk) (b cap:Nat) (cur:Array Value) (hσ:σ k=some (some B)) (hr:ρ k=some b) (hb:h[b]?=some (.cells cur B.ty (0,0)))
   (hlen:len≤cap) (hcap:cap≤maxLen) (hcur:cur.size=cap * B.sz):VR h ok ρ σ (.buf k len) (.slice (some ⟨b,0,none⟩) len cap)
 | ptrd (k i o:Nat) (a:Option Addr) (hd:σ k=some none):VR h ok ρ σ (.ptr k i o) (.pointer a)
 | ptr (k i o:Nat) (B:Blk) (b:Nat) (hσ:σ k=some (some B)) (hr:ρ k=some b) (hz:0<B.sz):VR h ok ρ σ (.ptr k i o) (.pointer (some ⟨b,i * B.sz+o,none⟩))
 | vwd (k i o n:Nat) (a:Option Addr) (l c:Nat) (hd:σ k=some none):VR h ok ρ σ (.vw k i o n) (.slice a l c)
 | vw (k i o n:Nat) (B:Blk) (b:Nat) (hσ:σ k=some (some B)) (hr:ρ k=some b) (hz:0<B.sz):VR h ok ρ σ (.vw k i o n) (.slice (some ⟨b,i * B.sz+o,none⟩) n n)
 | fn (f:FuncId) (caps:List AV) (vs:Array Value) (hl:caps.length=vs.size) (hv:∀ (i:Nat) (c:AV),caps[i]?=some c→VR h ok ρ σ c (vs.getD i undef)) :
   VR h ok ρ σ (.fn f caps) (.func (.func f) #[] vs)
 | yld (l:Nat):VR h ok ρ σ (.yld l) (.func (.yield l) #[] #[])
 | mpd (k:Nat) (a:Option Nat) (hd:σ k=some none):VR h ok ρ σ (.mp k) (.map a)
 | mitd (k:Nat) (a:Option Addr) (hd:σ k=some none):VR h ok ρ σ (.mp k) (.pointer a)
 | mp (k:Nat) (B:Blk) (b:Nat) (hσ:σ k=some (some B)) (hr:ρ k=some b) (hz:B.sz=0∧B.ty=0):VR h ok ρ σ (.mp k) (.map (some b))
 | mit (k:Nat) (B:Blk) (b:Nat) (hσ:σ k=some (some B)) (hr:ρ k=some b) (hz:B.sz=0∧B.ty=1):VR h ok ρ σ (.mp k) (.pointer (some ⟨b,0,none⟩))
 | mo (M:List (Int × Int × Int × Nat)) (clk b:Nat) (hok:ok b) (hb:h[b]?=some (mapObj M clk)):VR h ok ρ σ (.mo (.map M clk)) (.map (some b))
 | mon:VR h ok ρ σ (.mo .nil) (.map none)

structure Goes (h h':Array Obj) (ρ ρ':Nat→Option Nat) (σ σ':Store):Prop where
 dead:∀ k,σ k=some none→σ' k=some none
 live:∀ k B,σ k=some (some B)→σ' k=some none∨∃ B',σ' k=some (some B')∧B'.ty=B.ty∧B'.sz=B.sz∧ρ' k=ρ k ∧
  ∀ b cur,ρ k=some b→h[b]?=some (.cells cur B.ty (0,0))→∃ cur',h'[b]?=some (.cells cur' B.ty (0,0))∧cur'.size=cur.size

theorem VR.mono {h h':Array Obj} {ok ok':Nat→Prop} {ρ ρ':Nat→Option Nat} {σ σ':Store} (hok:∀ b,ok b→ok' b) (hh:∀ b,ok b→h'[b]?=h[b]?)
  (hg:Goes h h' ρ ρ' σ σ') {x:AV} {v:Value} (hx:VR h ok ρ σ x v):VR h' ok' ρ' σ' x v:=by
 induction hx with
 | undef v=>exact .undef v
 | int k n=>exact .int k n
 | bool b=>exact .bool b
 | str s b hs=>exact .str s b hs
 | nilp=>exact .nilp
 | nilf=>exact .nilf
 | nili=>exact .nili
 | ifc t v=>exact .ifc t v
 | nils a=>exact .nils a
 | agg cs vs hl _ ih=>exact .agg cs vs hl ih
 | tup cs vs hl _ ih=>exact .tup cs vs hl ih
 | sl0 a cap=>exact .sl0 a cap
 | sl es b off s cap cur ty fr vals ho hcap hb hs hc _ ih=>exact .sl es b off s cap cur ty fr vals (hok b ho) hcap ((hh b ho).trans hb) hs hc ih
 | eptr x o b off cur ty fr vals ho hb hs hc _ ih=>exact .eptr x o b off cur ty fr vals (hok b ho) ((hh b ho).trans hb) hs hc ih
 | bufd k len a l c hd=>exact .bufd k len a l c (hg.dead k hd)
 | bufn k a B hσ hr =>
  rcases hg.live k B hσ with hd | ⟨B',h1,_,_,h4,_⟩
  ·exact .bufd k 0 _ _ _ hd
  ·exact .bufn k a B' h1 (h4.trans hr)
 | buf k len B b cap cur hσ hr hb hlen hcap hcur =>
  rcases hg.live k B hσ with hd | ⟨B',h1,h2,h3,h4,h5⟩
  ·exact .bufd k len _ _ _ hd
  ·obtain ⟨cur',hb',hs'⟩:=h5 b cur hr hb
   exact .buf k len B' b cap cur' h1 (h4.trans hr) (by rw [h2];exact hb') hlen hcap (by rw [h3,hs',hcur])
 | ptrd k i o a hd=>exact .ptrd k i o a (hg.dead k hd)
 | ptr k i o B b hσ hr hz =>
  rcases hg.live k B hσ with hd | ⟨B',h1,h2,h3,h4,h5⟩
  ·exact .ptrd k i o _ hd
  ·rw [← h3];exact .ptr k i o B' b h1 (h4.trans hr) (by rw [h3];exact hz)
 | vwd k i o n a l c hd=>exact .vwd k i o n a l c (hg.dead k hd)
 | vw k i o n B b hσ hr hz =>
  rcases hg.live k B hσ with hd | ⟨B',h1,h2,h3,h4,h5⟩
  ·exact .vwd k i o n _ _ _ hd
  ·rw [← h3];exact .vw k i o n B' b h1 (h4.trans hr) (by rw [h3];exact hz)
 | fn f caps vs hl _ ih=>exact .fn f caps vs hl ih
 | yld l=>exact .yld l
 | mpd k a hd=>exact .mpd k a (hg.dead k hd)
 | mitd k a hd=>exact .mitd k a (hg.dead k hd)
 | mp k B b hσ hr hz =>
  rcases hg.live k B hσ with hd | ⟨B',h1,h2,h3,h4,h5⟩
  ·exact .mpd k _ hd
  ·exact .mp k B' b h1 (h4.trans hr) (by rw [h2,h3];exact hz)
 | mit k B b hσ hr hz =>
  rcases hg.live k B hσ with hd | ⟨B',h1,h2,h3,h4,h5⟩
  ·exact .mitd k _ hd
  ·exact .mit k B' b h1 (h4.trans hr) (by rw [h2,h3];exact hz)
 | mo M clk b ho hb=>exact .mo M clk b (hok b ho) ((hh b ho).trans hb)
 | mon=>exact .mon

theorem VR.imm {h h':Array Obj} {ok ok':Nat→Prop} {ρ ρ':Nat→Option Nat} {σ σ':Store} (hok:∀ b,ok b→ok' b) (hh:∀ b,ok b→h'[b]?=h[b]?)
  {x:AV} {v:Value} (hx:VR h ok ρ σ x v):imm x=true→VR h' ok' ρ' σ' x v:=by
 induction hx with
 | undef v=>exact fun _=>.undef v
 | int k n=>exact fun _=>.int k n
 | bool b=>exact fun _=>.bool b
 | str s b hs=>exact fun _=>.str s b hs
 | nilp=>exact fun _=>.nilp
 | nilf=>exact fun _=>.nilf
 | nili=>exact fun _=>.nili
 | ifc t v=>exact fun _=>.ifc t v
 | nils a=>exact fun _=>.nils a
 | agg cs vs hl _ ih=>exact fun hi=>.agg cs vs hl fun i c hc=>ih i c hc (imm_cell hi c (List.mem_of_getElem? hc))
 | tup cs vs hl _ ih=>exact fun hi=>.tup cs vs hl fun i c hc=>ih i c hc (imm_cell hi c (List.mem_of_getElem? hc))
 | sl0 a cap=>exact fun _=>.sl0 a cap
 | sl es b off s cap cur ty fr vals ho hcap hb hs hc _ ih =>
  exact fun _=>.sl es b off s cap cur ty fr vals (hok b ho) hcap ((hh b ho).trans hb) hs hc fun i x o c hx hc=>ih i x o c hx hc (imm_cells (hs i x hx).2.2 c (List.mem_of_getElem? hc))
 | eptr x o b off cur ty fr vals ho hb hs hc _ ih =>
  exact fun _=>.eptr x o b off cur ty fr vals (hok b ho) ((hh b ho).trans hb) hs hc fun j c hc=>ih j c hc (imm_cells hs.2 c (List.mem_of_getElem? hc))
 | bufd k len a l c hd=>intro hi;cases hi
 | bufn k a B hσ hr=>intro hi;cases hi
 | buf k len B b cap cur hσ hr hb hlen hcap hcur=>intro hi;cases hi
 | ptrd k i o a hd=>intro hi;cases hi
 | ptr k i o B b hσ hr hz=>intro hi;cases hi
 | vwd k i o n a l c hd=>intro hi;cases hi
 | vw k i o n B b hσ hr hz=>intro hi;cases hi
 | fn f caps vs hl _ ih=>exact fun hi=>.fn f caps vs hl fun i c hc=>ih i c hc (imm_cell hi c (List.mem_of_getElem? hc))
 | yld l=>exact fun _=>.yld l
 | mpd k a hd=>intro hi;cases hi
 | mitd k a hd=>intro hi;cases hi
 | mp k B b hσ hr hz=>intro hi;cases hi
 | mit k B b hσ hr hz=>intro hi;cases hi
 | mo M clk b ho hb=>exact fun _=>.mo M clk b (hok b ho) ((hh b ho).trans hb)
 | mon=>exact fun _=>.mon

def ObjIs (ρ:Nat→Option Nat) (σ:Store):MObj→Obj→Prop
 | .map M clk,x=>x=mapObj M clk
 | .iter km since seen last,x=>∃ m,x=.mapIter (some m) since seen.toArray last∧(σ km=some none∨(ρ km=some m∧∃ K,σ km=some (some K)))
 | .nil,_=>False
theorem ObjIs.noCells {ρ:Nat→Option Nat} {σ:Store} {o:MObj} {x:Obj} (h:ObjIs ρ σ o x):(∀ cur ty fr,x ≠ .cells cur ty fr)∧(∀ r,x ≠ .loop r)∧∀ l,x ≠ .deferred l:=by
 cases o with
 | map M clk=>cases h;exact ⟨fun _ _ _ h=>(by cases h),fun _ h=>(by cases h),fun _ h=>(by cases h)⟩
 | iter km since seen last=>obtain ⟨m,rfl,_⟩:=h;exact ⟨fun _ _ _ h=>(by cases h),fun _ h=>(by cases h),fun _ h=>(by cases h)⟩
 | nil=>exact h.elim
theorem ObjIs.mono {h h':Array Obj} {ρ ρ':Nat→Option Nat} {σ σ':Store} {o:MObj} {x:Obj} (hg:Goes h h' ρ ρ' σ σ') (ho:ObjIs ρ σ o x):ObjIs ρ' σ' o x:=by
 cases o with
 | nil=>exact ho.elim
 | map M clk=>exact ho
 | iter km since seen last =>
  obtain ⟨m,rfl,h1 | ⟨h1,K,h2⟩⟩:=ho
  ·exact ⟨m,rfl,.inl (hg.dead km h1)⟩
  ·rcases hg.live km K h2 with hd | ⟨K',g1,g2,g3,g4,g5⟩
   ·exact ⟨m,rfl,.inl hd⟩
   ·exact ⟨m,rfl,.inr ⟨g4.trans h1,K',g1⟩⟩

def MapOk (h:Array Obj) (ok:Nat→Prop) (ρ:Nat→Option Nat) (σ:Store) (B:Nat) (k:Nat) (K:Blk):Prop :=
 K.sz=0∧∃ b o x,ρ k=some b∧B≤b∧¬ ok b∧(∃ y,K.es=[y]∧cellsOf y=[.mo o])∧K.ty=o.kind∧h[b]?=some x∧ObjIs ρ σ o x

def CellsOk (h:Array Obj) (ok:Nat→Prop) (ρ:Nat→Option Nat) (σ:Store) (B:Nat) (k:Nat) (K:Blk):Prop :=
 0<K.sz∧((ρ k=none∧K.es=[])∨∃ b cur,ρ k=some b∧B≤b∧¬ ok b∧h[b]?=some (.cells cur K.ty (0,0)) ∧
  ∀ (i:Nat) (x:AV),K.es[i]?=some x→(cellsOf x).length=K.sz∧cellsOk x∧∀ (o:Nat) (c:AV),(cellsOf x)[o]?=some c→∃ cv,cur[i * K.sz+o]?=some cv∧VR h ok ρ σ c cv)

def LiveOk (h:Array Obj) (ok:Nat→Prop) (ρ:Nat→Option Nat) (σ:Store) (B:Nat) (k:Nat) (K:Blk):Prop :=
 CellsOk h ok ρ σ B k K∨MapOk h ok ρ σ B k K
section
variable {h:Array Obj} {ok:Nat→Prop} {ρ:Nat→Option Nat} {σ:Store} {B k:Nat} {K:Blk}
theorem LiveOk.cells (hl:LiveOk h ok ρ σ B k K) (hz:0<K.sz):CellsOk h ok ρ σ B k K:=by
 rcases hl with h | h
 ·exact h
 ·exact absurd h.1 (by omega)
theorem LiveOk.map (hl:LiveOk h ok ρ σ B k K) (hz:K.sz=0):MapOk h ok ρ σ B k K:=by
 rcases hl with h | h
 ·exact absurd h.1 (by omega)
 ·exact h
theorem LiveOk.pos_cells (hl:LiveOk h ok ρ σ B k K) {b:Nat} (hr:ρ k=some b) {cur:Array Value} {ty:TypeId} {fr:Nat × Nat} (hb:h[b]?=some (.cells cur ty fr)):0<K.sz:=by
 rcases hl with h | ⟨_,b',o,x,h1,_,_,_,_,h2,h3⟩
 ·exact h.1
 ·rw [hr] at h1;cases h1
  rw [hb] at h2;cases h2
  exact absurd rfl (h3.noCells.1 _ _ _)
end

def MarksOk (B:Nat) (base old:Nat→Prop) (h:Array Obj) (ok:Nat→Prop) (l:List Deferred):Prop :=
 (∀ D,old D→base D∧ok D∧D<h.size)∧∃ Ds:List Nat,Ds.Nodup∧l=Ds.map (fun D=>{ target:=.collected D,args:=#[] })∧∀ D ∈ Ds,(B≤D∧¬ old D)∧ok D∧h[D]?=some (.deferred (some []))

theorem MarksOk.mono {B:Nat} {base old:Nat→Prop} {h h':Array Obj} {ok ok':Nat→Prop} {l:List Deferred} (hm:MarksOk B base old h ok l) (hok:∀ b,ok b→ok' b) (hh:∀ b,ok b→h'[b]?=h[b]?):MarksOk B base old h' ok' l :=
 let ⟨h0,Ds,h1,h2,h3⟩:=hm
 ⟨fun D hD=>let ⟨g1,g2,g3⟩:=h0 D hD;⟨g1,hok D g2,(Array.getElem?_eq_some_iff.1 ((hh D g2).trans (Array.getElem?_eq_getElem g3))).1⟩,Ds,h1,h2,fun D hD=>⟨(h3 D hD).1,hok D (h3 D hD).2.1,(hh D (h3 D hD).2.1).trans (h3 D hD).2.2⟩⟩

theorem MarksOk.nil {B:Nat} {base old:Nat→Prop} {h:Array Obj} {ok:Nat→Prop} (h0:∀ D,old D→base D∧ok D∧D<h.size):MarksOk B base old h ok []:=⟨h0,[],List.nodup_nil,rfl,fun _ h=>by cases h⟩

theorem MarksOk.rebase {B:Nat} {base base' old:Nat→Prop} {h:Array Obj} {ok:Nat→Prop} {l:List Deferred} (hm:MarksOk B base old h ok l) (hb:∀ D,ok D→base' D):MarksOk B base' old h ok l:=⟨fun D hD=>⟨hb D (hm.1 D hD).2.1,(hm.1 D hD).2⟩,hm.2⟩

theorem Goes.trans {h h' h'':Array Obj} {ρ ρ' ρ'':Nat→Option Nat} {σ σ' σ'':Store} (g:Goes h h' ρ ρ' σ σ') (k:Goes h' h'' ρ' ρ'' σ' σ''):Goes h h'' ρ ρ'' σ σ'':=by
 refine ⟨fun j hj=>k.dead j (g.dead j hj),fun j J hj=>?_⟩
 rcases g.live j J hj with h1 | ⟨J',h1,h2,h3,h4,h5⟩
 ·exact .inl (k.dead j h1)
 ·rcases k.live j J' h1 with g1 | ⟨J'',g1,g2,g3,g4,g5⟩
  ·exact .inl g1
  ·refine .inr ⟨J'',g1,g2.trans h2,g3.trans h3,g4.trans h4,fun b cur hb hc=>?_⟩
   obtain ⟨c1,p1,p2⟩:=h5 b cur hb hc
   obtain ⟨c2,q1,q2⟩:=g5 b c1 (h4.trans hb) (by rw [h2];exact p1)
   exact ⟨c2,by rw [← h2];exact q1,q2.trans p2⟩

def GOk (ok:Nat→Prop) (w:World):Prop:=(∀ p ∈ gTab,ok p.1∧∃ cur ty fr,w.heap[p.1]?=some (.cells cur ty fr)∧cur.size=p.2.2.length∧∀ (j:Nat) (n:Int),p.2.2[j]?=some n→cur[j]?=some (.int p.2.1 n)) ∧
 ∀ g ∈ gErr,ok g∧∃ cur ty fr te pe,w.heap[g]?=some (.cells cur ty fr)∧cur[0]?=some (.iface te pe)
theorem GOk.mono {ok ok':Nat→Prop} {w w':World} (h:GOk ok w) (hok:∀ b,ok b→ok' b) (hh:∀ b,ok b→w'.heap[b]?=w.heap[b]?):GOk ok' w':=by
 refine ⟨fun p hp=>?_,fun g hg=>?_⟩
 ·obtain ⟨h1,cur,ty,fr,h2,h3⟩:=h.1 p hp
  exact ⟨hok _ h1,cur,ty,fr,(hh _ h1).trans h2,h3⟩
 ·obtain ⟨h1,cur,ty,fr,te,pe,h2,h3⟩:=h.2 g hg
  exact ⟨hok _ h1,cur,ty,fr,te,pe,(hh _ h1).trans h2,h3⟩
def gVal (g:Nat):AV:=match gTab.find? (fun p=>p.1 == g) with
 | some p=>.eptr (.agg (p.2.2.map (AV.int p.2.1))) 0
 | none=>.undef
theorem immL_ints (k:IntKind):∀ l:List Int,immL (l.map (AV.int k))=true
 | []=>rfl
 | _ :: l=>immL_ints k l
theorem GOk.vr {ok:Nat→Prop} {w:World} (h:GOk ok w) (ρ:Nat→Option Nat) (σ:Store) (g:Nat):VR w.heap ok ρ σ (gVal g) (.pointer (some ⟨g,0,none⟩)):=by
 unfold gVal
 split
 ·rename_i p hp
  have hm:=List.mem_of_find?_eq_some hp
  have hg:p.1=g:=by have:=List.find?_some hp;simpa using this
  obtain ⟨h1,cur,ty,fr,h2,_,h3⟩:=h.1 p hm
  subst hg
  have hc:∀ (j:Nat) (c:AV),(p.2.2.map (AV.int p.2.1))[j]?=some c→∃ n,p.2.2[j]?=some n∧c=.int p.2.1 n:=by
   intro j c hj
   rw [List.getElem?_map] at hj
   obtain ⟨n,hn,rfl⟩:=Option.map_eq_some_iff.1 hj
   exact ⟨n,hn,rfl⟩
  have:=VR.eptr (h:=w.heap) (ok:=ok) (ρ:=ρ) (σ:=σ) (.agg (p.2.2.map (AV.int p.2.1))) 0 p.1 0 cur ty fr (fun j=>.int p.2.1 (p.2.2.getD j 0)) h1 h2 ?_ ?_ ?_
  ·exact this
  ·refine ⟨fun c hcc=>?_,immL_ints _ _⟩
   obtain ⟨n,_,rfl⟩:=List.mem_map.1 hcc
   rfl
  ·intro j c hj
   obtain ⟨n,hn,rfl⟩:=hc j c hj
   rw [Nat.zero_add,h3 j n hn]
   simp [List.getD,hn]
  ·intro j c hj
   obtain ⟨n,hn,rfl⟩:=hc j c hj
   simp only [List.getD,hn,Option.getD_some]
   exact .int _ _
 ·exact .undef _

structure F0 where
 ok:Nat→Prop
 ρ:Nat→Option Nat
 s:Store
 old:Nat→Prop

instance:CoeFun F0 (fun _=>Nat→Prop):=⟨F0.ok⟩

structure Rel (N B:Nat) (w0:World) (ok0:F0) (ok:Nat→Prop) (ρ:Nat→Option Nat) (e:Env) (s:Store) (a:Act) (w:World):Prop where
 defers:MarksOk B ok0.ok ok0.old w.heap ok a.defers
 size:a.tmps.size=N
 below:Below B w0 w
 base:B≤w.heap.size
 tmps:∀ n,VR w.heap ok ρ s (e n) (a.tmps.getD n undef)
 oklt:∀ b,ok b→b<w.heap.size∧(B≤b∨ok0 b)
 okold:∀ b,ok0 b→ok b
 live:∀ k K,s k=some (some K)→LiveOk w.heap ok ρ s B k K
 inj:∀ k k' K K' b,s k=some (some K)→s k'=some (some K')→ρ k=some b→ρ k'=some b→k=k'
 kept:∀ b,ok0 b→w.heap[b]?=w0.heap[b]?
 goes:Goes w0.heap w.heap ok0.ρ ρ ok0.s s
 gok:GOk ok0.ok w0

section
variable {N B:Nat} {w0:World} {ok0:F0} {ok:Nat→Prop} {ρ:Nat→Option Nat} {e:Env} {s:Store} {a:Act} {w:World}

theorem Rel.put (hR:Rel N B w0 ok0 ok ρ e s a w) {d:Nat} (hd:d<N) {x:AV} {v:Value} (hv:VR w.heap ok ρ s x v) :
  Rel N B w0 ok0 ok ρ (upd e d x) s (a.put (some d) v) w where
 defers:=hR.defers
 size:=by simp [Act.put,hR.size]
 below:=hR.below
 base:=hR.base
 tmps n:=by
  by_cases hn:n=d
  ·subst hn
   rw [upd_same]
   have:(a.put (some n) v).tmps.getD n undef=v:=by
    have:=hR.size
    simp [Act.put,Array.getD,this,hd]
   rw [this];exact hv
  ·rw [upd_other _ _ _ _ hn]
   have:(a.put (some d) v).tmps.getD n undef=a.tmps.getD n undef:=by
    simp only [Act.put,Array.getD_eq_getD_getElem?]
    rw [Array.getElem?_setIfInBounds,if_neg (fun h=>hn h.symm)]
   rw [this];exact hR.tmps n
 oklt:=hR.oklt
 okold:=hR.okold
 live:=hR.live
 inj:=hR.inj
 kept:=hR.kept
 goes:=hR.goes
 gok:=hR.gok

theorem Rel.world (hR:Rel N B w0 ok0 ok ρ e s a w) {w':World} (hb:Below B w w') (hh:w'.heap=w.heap):Rel N B w0 ok0 ok ρ e s a w' where
 defers:=by rw [hh];exact hR.defers
 size:=hR.size
 below:=hR.below.trans hb
 base:=by rw [hh];exact hR.base
 tmps n:=by rw [hh];exact hR.tmps n
 oklt:=by rw [hh];exact hR.oklt
 okold:=hR.okold
 live:=by rw [hh];exact hR.live
 inj:=hR.inj
 kept:=by rw [hh];exact hR.kept
 goes:=by rw [hh];exact hR.goes
 gok:=hR.gok

theorem Goes.refl (h:Array Obj) (ρ:Nat→Option Nat) (σ:Store):Goes h h ρ ρ σ σ :=
 ⟨fun _ h=>h,fun _ B h=>.inr ⟨B,h,rfl,rfl,rfl,fun _ cur _ hb=>⟨cur,hb,rfl⟩⟩⟩

theorem LiveOk.mono {h h':Array Obj} {ok':Nat→Prop} {ρ':Nat→Option Nat} {σ σ':Store} {k:Nat} {K:Blk} (hl:LiveOk h ok ρ σ B k K)
  (hok:∀ b,ok b→ok' b) (hh:∀ b,ok b→h'[b]?=h[b]?) (hg:Goes h h' ρ ρ' σ σ') (hr:ρ' k=ρ k)
  (hb:∀ b,ρ k=some b→h'[b]?=h[b]?∧(B≤b→¬ ok b→¬ ok' b)):LiveOk h' ok' ρ' σ' B k K:=by
 rcases hl with hl | ⟨hz,b,o,x,h1,h2,h3,h4,h5,h6,h7⟩
 rotate_left
 ·exact .inr ⟨hz,b,o,x,hr.trans h1,h2,(hb b h1).2 h2 h3,h4,h5,(hb b h1).1.trans h6,h7.mono hg⟩
 refine .inl ⟨hl.1,?_⟩
 rcases hl.2 with ⟨h1,h2⟩ | ⟨b,cur,h1,h2,h3,h4,h5⟩
 ·exact .inl ⟨hr.trans h1,h2⟩
 ·refine .inr ⟨b,cur,hr.trans h1,h2,(hb b h1).2 h2 h3,(hb b h1).1.trans h4,fun i x hx=>⟨(h5 i x hx).1,(h5 i x hx).2.1,fun o c hc=>?_⟩⟩
  obtain ⟨cv,p,q⟩:=(h5 i x hx).2.2 o c hc
  exact ⟨cv,p,q.mono hok hh hg⟩

theorem VR.less {h:Array Obj} {σ:Store} {x:AV} {v:Value} {X:Nat→Prop} (hX:∀ b,X b→(∀ cur ty fr,h[b]? ≠ some (.cells cur ty fr))∧∀ M clk,h[b]? ≠ some (.map M clk)) (hx:VR h ok ρ σ x v):VR h (fun b=>ok b∧¬ X b) ρ σ x v:=by
 induction hx with
 | undef v=>exact .undef v
 | int k n=>exact .int k n
 | bool b=>exact .bool b
 | str s b hs=>exact .str s b hs
 | nilp=>exact .nilp
 | nilf=>exact .nilf
 | nili=>exact .nili
 | ifc t v=>exact .ifc t v
 | nils a=>exact .nils a
 | agg cs vs hl _ ih=>exact .agg cs vs hl ih
 | tup cs vs hl _ ih=>exact .tup cs vs hl ih
 | sl0 a cap=>exact .sl0 a cap
 | sl es b off s cap cur ty fr vals ho hcap hb hs hc _ ih=>exact .sl es b off s cap cur ty fr vals ⟨ho,fun hx=>(hX b hx).1 _ _ _ hb⟩ hcap hb hs hc ih
 | eptr x o b off cur ty fr vals ho hb hs hc _ ih=>exact .eptr x o b off cur ty fr vals ⟨ho,fun hx=>(hX b hx).1 _ _ _ hb⟩ hb hs hc ih
 | bufd k len a l c hd=>exact .bufd k len a l c hd
 | bufn k a B hσ hr=>exact .bufn k a B hσ hr
 | buf k len B b cap cur hσ hr hb hlen hcap hcur=>exact .buf k len B b cap cur hσ hr hb hlen hcap hcur
 | ptrd k i o a hd=>exact .ptrd k i o a hd
 | ptr k i o B b hσ hr hz=>exact .ptr k i o B b hσ hr hz
 | vwd k i o n a l c hd=>exact .vwd k i o n a l c hd
 | vw k i o n B b hσ hr hz=>exact .vw k i o n B b hσ hr hz
 | fn f caps vs hl _ ih=>exact .fn f caps vs hl ih
 | yld l=>exact .yld l
 | mpd k a hd=>exact .mpd k a hd
 | mitd k a hd=>exact .mitd k a hd
 | mp k B b hσ hr hz=>exact .mp k B b hσ hr hz
 | mit k B b hσ hr hz=>exact .mit k B b hσ hr hz
 | mo M clk b ho hb=>exact .mo M clk b ⟨ho,fun hx=>(hX b hx).2 _ _ hb⟩ hb
 | mon=>exact .mon

theorem Rel.forget (hR:Rel N B w0 ok0 ok ρ e s a w) (X:Nat→Prop) (hX:∀ b,X b→¬ ok0 b∧(∀ cur ty fr,w.heap[b]? ≠ some (.cells cur ty fr))∧(∀ M clk,w.heap[b]? ≠ some (.map M clk))∧∀ m a s c,w.heap[b]? ≠ some (.mapIter m a s c)) {w':World} (hb:Below B w w') (hsz:w.heap.size≤w'.heap.size)
  (hh:∀ b,¬ X b→b<w.heap.size→w'.heap[b]?=w.heap[b]?) {a':Act} (ht:a'.tmps=a.tmps) (hm:MarksOk B ok0.ok ok0.old w'.heap (fun b=>ok b∧¬ X b) a'.defers) :
  Rel N B w0 ok0 (fun b=>ok b∧¬ X b) ρ e s a' w':=by
 have hg:Goes w.heap w'.heap ρ ρ s s:=by
  refine ⟨fun _ h=>h,fun k K h=>.inr ⟨K,h,rfl,rfl,rfl,fun b cur _ hc=>⟨cur,?_,rfl⟩⟩⟩
  rw [hh b (fun hx=>(hX b hx).2.1 _ _ _ hc) (Array.getElem?_eq_some_iff.1 hc).1];exact hc
 have hok:∀ b,(ok b∧¬ X b)→w'.heap[b]?=w.heap[b]?:=fun b h=>hh b h.2 (hR.oklt b h.1).1
 constructor
 ·exact hm
 ·rw [ht];exact hR.size
 ·exact hR.below.trans hb
 ·exact Nat.le_trans hR.base hsz
 ·intro n
  rw [ht]
  exact ((hR.tmps n).less fun b hx=>⟨(hX b hx).2.1,(hX b hx).2.2.1⟩).mono (fun _ h=>h) hok hg
 ·exact fun b h=>⟨Nat.lt_of_lt_of_le (hR.oklt b h.1).1 hsz,(hR.oklt b h.1).2⟩
 ·exact fun b h=>⟨hR.okold b h,fun hx=>(hX b hx).1 h⟩
 ·intro k K hk
  rcases hR.live k K hk with ⟨h1,h2⟩ | ⟨hz,b,o,x,g1,g2,g3,g4,g5,g6,g7⟩
  rotate_left
  ·refine .inr ⟨hz,b,o,x,g1,g2,fun h=>g3 h.1,g4,g5,?_,g7.mono hg⟩
   rw [hh b ?_ (Array.getElem?_eq_some_iff.1 g6).1]
   ·exact g6
   ·intro hx
    obtain ⟨_,_,q1,q2⟩:=hX b hx
    cases o with
    | map M clk=>cases g7;exact q1 _ _ g6
    | iter km since seen last=>obtain ⟨m,rfl,_⟩:=g7;exact q2 _ _ _ _ g6
    | nil=>exact g7.elim
  refine .inl ⟨h1,?_⟩
  rcases h2 with h2 | ⟨b,cur,g1,g2,g3,g4,g5⟩
  ·exact .inl h2
  ·refine .inr ⟨b,cur,g1,g2,fun h=>g3 h.1,?_,fun i x hx=>⟨(g5 i x hx).1,(g5 i x hx).2.1,fun o c hc=>?_⟩⟩
   ·rw [hh b (fun hx=>(hX b hx).2.1 _ _ _ g4) (Array.getElem?_eq_some_iff.1 g4).1];exact g4
   ·obtain ⟨cv,p,q⟩:=(g5 i x hx).2.2 o c hc
    exact ⟨cv,p,(q.less fun b hx=>⟨(hX b hx).2.1,(hX b hx).2.2.1⟩).mono (fun _ h=>h) hok hg⟩
 ·exact hR.inj
 ·exact fun b h=>(hok b ⟨hR.okold b h,fun hx=>(hX b hx).1 h⟩).trans (hR.kept b h)
 ·exact hR.goes.trans hg
 ·exact hR.gok
end
end Go.Av

/- Abstract operations: what an operation of the model does to abstract values;the compiling of the model's code into them. By an AI agent;nothing here is trusted. -/
namespace Go.Av

inductive MX where
 | t (n:Nat)
 | c (v:AV)

def MX.ev (e:Env):MX→AV
 | .t n=>e n
 | .c v=>v

inductive MapW where
 | make | set | get (ok:Bool) | len | del | range | entry

inductive MOp where
 | mv (x:MX)
 | pick (c a b:MX)
 | alloc (ty sz:Nat) (zero:AV)
 | box (ty sz:Nat) (x:MX)
 | build (zero:List AV) (parts:List (Nat × Nat × MX))
 | buildSlice (ty sz n:Nat) (zero:AV) (parts:List (Nat × MX))
 | load (n:Option Nat) (x:MX)
 | store (n:Nat) (x v:MX)
 | nilCheck (x:MX)
 | bin (op:BinOp) (x y:MX)
 | eqB (neg:Bool) (x y:MX)
 | eqS (neg:Bool) (tags:List Nat) (x y:MX)
 | eqI (neg:Bool) (x y:MX)
 | convB (x:MX)
 | un (op:UnOp) (x:MX)
 | convI (k:IntKind) (x:MX)
 | convS (x:MX)
 | makeFunc (f:FuncId) (caps:List MX)
 | makeSlice (ty sz by_:Nat) (zero:AV) (l c:MX)
 | slice (str:Bool) (sz:Nat) (x:MX) (lo hi:Option MX)
 | fieldAddr (x:MX) (off:Nat)
 | field (x:MX) (off:Nat) (n:Option Nat)
 | indexAddr (x i:MX) (sz:Nat)
 | indexArr (x i:MX) (sz len:Nat)
 | index (x i:MX)
 | indexV (x i:MX) (sz len:Nat) (n:Option Nat)
 | extract (x:MX) (i:Nat)
 | call (f:FuncId) (xs:List MX)
 | callv (x:MX) (xs:List MX)
 | len (str:Bool) (x:MX)
 | append (ty sz by_:Nat) (zero:AV) (s x:MX)
 | copy (sz:Nat) (s x:MX)
 | max (xs:List MX)
 | min (xs:List MX)
 | mapo (w:MapW) (xs:List MX)

structure MS where
 g:Option (Nat × Bool)
 d:Option Nat
 o:MOp

inductive MC where
 | skip
 | reg (ss:List MS) (draw:Bool) (conf:List (MS × MS))
 | seq (a b:MC)
 | cond (x:MX) (a b:MC)
 | block (id:Nat) (a:MC)
 | loop (a:MC)
 | exit (id:Nat)
 | ret
 | rf (x:MX) (ps:List Nat) (a b:MC)
 | nextm (dt:Nat) (x:MX) (ss:List MS)
 | regT (ss:List MS) (conf:List (MS × MS)) (tl:List MS)

open Classical in
noncomputable def req {α:Type} (c:Prop) (x:Option α):Option α:=if c then x else none

theorem req_some {α:Type} {c:Prop} {x:Option α} {y:α} (h:req c x=some y):c∧x=some y:=by
 unfold req at h;split at h
 ·exact ⟨‹_›,h⟩
 ·cases h
theorem req_true {α:Type} {c:Prop} (h:c) (x:Option α):req c x=x:=by simp [req,h]

def I64 (n:Int):Prop := -9223372036854775808≤n∧n≤9223372036854775807

def solid:AV→Bool
 | .undef | .tup _=>false
 | _=>true

def setSeg (cs:List AV) (o:Nat) (vs:List AV):List AV:=cs.take o ++ vs ++ cs.drop (o+vs.length)

noncomputable def fillA (cells:List AV):List (Nat × Nat × AV)→Option (List AV)
 | []=>some cells
 | (off,sz,v) :: r=>req (solid v=true∧(cellsOf v).length=sz∧off+sz≤cells.length) (fillA (setSeg cells off (cellsOf v)) r)

noncomputable def fillE (sz:Nat) (es:List AV):List (Nat × AV)→Option (List AV)
 | []=>some es
 | (i,v) :: r=>req (solid v=true∧(cellsOf v).length=sz∧i<es.length) (fillE sz (es.set i v) r)

noncomputable def mk (d ty sz:Nat) (es:List AV) (v:AV) (s:Store):Option (AV × Store) :=
 req (s d=none∧0<sz∧∀ x ∈ es,solid x=true∧(cellsOf x).length=sz∧cellsOk x) (some (v,upd s d (some (some ⟨ty,sz,es⟩))))

noncomputable def loadA (n:Option Nat) (el:AV) (o:Nat):Option AV :=
 match n with
 | none=>(cellsOf el)[o]?
 | some n=>req (o+n≤(cellsOf el).length) (some (.agg (((cellsOf el).drop o).take n)))

def putIn (el:AV) (o:Nat) (v:AV):AV :=
 match el with
 | .agg c=>.agg (setSeg c o (cellsOf v))
 | _=>v

def eqT:List Nat→List AV→List AV→Option Bool
 | [],[],[]=>some true
 | 0 :: ts,.bool a :: r,.bool b :: r'=>(eqT ts r r').map (fun t=>decide (a=b) && t)
 | 1 :: ts,.int k a :: r,.int k' b :: r'=>if k=k' then (eqT ts r r').map (fun t=>decide (a=b) && t) else none
 | 2 :: ts,.str a :: r,.str b :: r'=>(eqT ts r r').map (fun t=>decide (a=b) && t)
 | _,_,_=>none

noncomputable def arith (k:IntKind) (n:Int):Option AV:=if k=.i64 then req (I64 n) (some (.int .i64 n)) else some (.int k (k.wrap n))

noncomputable def binA (op:BinOp) (x y:AV):Option AV :=
 match x,y with
 | .int k a,.int k' b =>
  match op with
  | .shl=>req (0≤b) (some (.int k (k.wrap (a * 2 ^ min b.toNat k.bits))))
  | .shr=>req (0≤b) (some (.int k (a.fdiv (2 ^ min b.toNat k.bits))))
  | .add=>req (k=k') (arith k (a+b))
  | .sub=>req (k=k') (arith k (a - b))
  | .mul=>req (k=k') (arith k (a * b))
  | .quo=>req (k=k'∧b ≠ 0) (arith k (a.tdiv b))
  | .rem=>req (k=k'∧b ≠ 0) (some (.int k (a.tmod b)))
  | .eql=>req (k=k') (some (.bool (decide (a=b))))
  | .neq=>req (k=k') (some (.bool (!decide (a=b))))
  | .lss=>req (k=k') (some (.bool (decide (a<b))))
  | .leq=>req (k=k') (some (.bool (decide (a≤b))))
  | .gtr=>req (k=k') (some (.bool (decide (b<a))))
  | .geq=>req (k=k') (some (.bool (decide (b≤a))))
  | .and=>req (k=k') (some (.int k (k.wrap ((BitVec.ofInt k.bits a) &&& (BitVec.ofInt k.bits b)).toNat)))
  | .or=>req (k=k') (some (.int k (k.wrap ((BitVec.ofInt k.bits a) ||| (BitVec.ofInt k.bits b)).toNat)))
  | .xor=>req (k=k') (some (.int k (k.wrap ((BitVec.ofInt k.bits a) ^^^ (BitVec.ofInt k.bits b)).toNat)))
  | .andNot=>none
 | .str a,.str b =>
  match op with
  | .add=>req (a.length+b.length≤9223372036854775807) (some (.str (a ++ b)))
  | .eql=>some (.bool (decide (a=b)))
  | .neq=>some (.bool (!decide (a=b)))
  | _=>none
 | _,_=>none

noncomputable def binT (op:BinOp) (x y:AV):Option AV :=
 match op,x,y with
 | .add,.int k a,.int k' b=>req (k=k') (some (.int k (k.wrap (a+b))))
 | .sub,.int k a,.int k' b=>req (k=k') (some (.int k (k.wrap (a - b))))
 | .mul,.int k a,.int k' b=>req (k=k') (some (.int k (k.wrap (a * b))))
 | op,x,y=>binA op x y

noncomputable def unA (op:UnOp) (x:AV):Option AV :=
 match op,x with
 | .not,.bool b=>some (.bool (!b))
 | .neg,.int k n=>arith k (-n)
 | _,_=>none

def maxFrom (a:Int):List AV→Option AV
 | []=>some (.int .i64 a)
 | .int .i64 b :: r=>maxFrom (max a b) r
 | _=>none
def minFrom (a:Int):List AV→Option AV
 | []=>some (.int .i64 a)
 | .int .i64 b :: r=>minFrom (min a b) r
 | _=>none
def maxA:List AV→Option AV
 | .int .i64 a :: r=>maxFrom a r
 | _=>none
def minA:List AV→Option AV
 | .int .i64 a :: r=>minFrom a r
 | _=>none

def loMx (e:Env):Option MX→AV
 | none=>.int .i64 0
 | some x=>x.ev e
def hiMx (e:Env) (n:Nat):Option MX→AV
 | none=>.int .i64 n
 | some x=>x.ev e

noncomputable def vwB (hi:AV) (k i o:Nat) (b:Option (Option Blk)):Option AV:=match b with
 | some (some B)=>match hi with
  | .int _ n=>(B.es[i]?).bind fun el=>req (0<n∧o+n.toNat≤(cellsOf el).length) (some (.vw k i o n.toNat))
  | _=>none
 | _=>none
noncomputable def vwE (hi el:AV) (o:Nat):Option AV:=match hi with
 | .int _ n=>req (0<n∧o+n.toNat≤(cellsOf el).length) (some (.sl (((cellsOf el).drop o).take n.toNat)))
 | _=>none

def good (x:AV):Bool:=imm x && (cellsOf x).all cell

noncomputable def bor (s:Store):Nat→AV→AV
 | 0,x=>if imm x then x else .undef
 | n+1,x=>match x with
  | .nils=>.sl []
  | .buf k len=>match s k with
   | some (some B)=>if decide (len≤B.es.length) && ((B.es.take len).map (bor s n)).all good then .sl ((B.es.take len).map (bor s n)) else .undef
   | _=>.undef
  | .ptr k i o=>match s k with
   | some (some B)=>match B.es[i]? with
    | some el=>if good (bor s n el) then .eptr (bor s n el) o else .undef
    | none=>.undef
   | _=>.undef
  | .vw k i o m=>match s k with
   | some (some B)=>match B.es[i]? with
    | some el=>if decide (o+m≤(cellsOf el).length) && (((cellsOf el).drop o).take m).all (fun c=>imm c && cell c) then .sl (((cellsOf el).drop o).take m) else .undef
    | none=>.undef
   | _=>.undef
  | .agg cs=>.agg (cs.map (bor s n))
  | .tup cs=>.tup (cs.map (bor s n))
  | .fn f cs=>.fn f (cs.map (bor s n))
  | .mp k=>match s k with
   | some (some B)=>if B.sz=0∧B.ty=0 then (match B.es with
    | [.mo (.map M clk)]=>.mo (.map M clk)
    | _=>.undef) else .undef
   | _=>.undef
  | x=>x

def refs (s:Store):Nat→AV→List Nat
 | 0,_=>[]
 | n+1,x=>match x with
  | .buf k len=>k :: (match s k with
   | some (some B)=>if (B.es.take len).all imm then [] else (B.es.take len).flatMap (refs s n)
   | _=>[])
  | .ptr k i _=>k :: (match s k with
   | some (some B)=>match B.es[i]? with
    | some el=>if imm el then [] else refs s n el
    | none=>[]
   | _=>[])
  | .vw k _ _ _=>[k]
  | .mp k=>[k]
  | .agg cs | .tup cs=>if cs.all imm then [] else cs.flatMap (refs s n)
  | .fn _ cs=>if cs.all imm then [] else cs.flatMap (refs s n)
  | _=>[]

def scal1:AV→Bool
 | .int .. | .bool _ | .str _ | .undef | .nilp | .nilf | .nili | .ifc=>true
 | _=>false

def scal:AV→Bool
 | .agg cs | .tup cs=>cs.all fun c=>match c with
  | .agg ds=>ds.all scal1
  | c=>scal1 c
 | x=>scal1 x

def killAll (l:List Nat) (s:Store):Store:=fun k=>if k ∈ l then (match s k with
 | none=>none
 | some _=>some none) else s k

def srcOf (sz:Nat) (s:Store):AV→Option (List AV)
 | .sl l=>some l
 | .buf k len=>match s k with
  | some (some B)=>if decide (len≤B.es.length) && decide (B.sz=sz) then some (B.es.take len) else none
  | _=>none
 | .nils=>some []
 | _=>none

def bytesOf:List AV→Option (List UInt8)
 | []=>some []
 | .int .u8 n :: r=>if 0≤n∧n<256 then (bytesOf r).map (UInt8.ofNat n.toNat :: ·) else none
 | _=>none
theorem bytesOf_get:∀ {l:List AV} {b:List UInt8},bytesOf l=some b→b.length=l.length∧∀ (i:Nat) (x:AV),l[i]?=some x→∃ c,b[i]?=some c∧x=.int .u8 (c.toNat:Int)
 | [],b,h=>by
  cases h;exact ⟨rfl,fun i x hx=>by simp at hx⟩
 | .int .u8 n :: r,b,h=>by
  simp only [bytesOf] at h
  split at h
  ·rename_i hn
   obtain ⟨b',h1,rfl⟩:=Option.map_eq_some_iff.1 h
   obtain ⟨h2,h3⟩:=bytesOf_get h1
   refine ⟨by simp [h2],fun i x hx=>?_⟩
   cases i with
   | zero =>
    simp at hx;subst hx
    refine ⟨_,rfl,?_⟩
    have:(UInt8.ofNat n.toNat).toNat=n.toNat:=by rw [UInt8.toNat_ofNat'];omega
    rw [this];congr 1;omega
   | succ i=>exact h3 i x hx
  ·cases h
 | .int .i8 _ :: _,_,h | .int .i16 _ :: _,_,h | .int .i32 _ :: _,_,h | .int .i64 _ :: _,_,h | .int .u16 _ :: _,_,h | .int .u32 _ :: _,_,h | .int .u64 _ :: _,_,h=>by cases h
 | .undef :: _,_,h | .bool _ :: _,_,h | .str _ :: _,_,h | .nilp :: _,_,h | .nilf :: _,_,h | .nili :: _,_,h | .ifc :: _,_,h | .nils :: _,_,h | .agg _ :: _,_,h | .tup _ :: _,_,h | .sl _ :: _,_,h | .buf _ _ :: _,_,h | .ptr _ _ _ :: _,_,h | .vw _ _ _ _ :: _,_,h | .eptr _ _ :: _,_,h | .fn _ _ :: _,_,h | .yld _ :: _,_,h=>by cases h

abbrev Ents:=List (Int × Int × Int × Nat)
def atK (c r:Int) (e:Int × Int × Int × Nat):Bool:=e.1 == c && e.2.1 == r
def findM (M:Ents) (c r:Int):Option Int:=(M.find? (atK c r)).map (·.2.2.1)
def setM:Ents→Nat→Int→Int→Int→Ents
 | [],clk,c,r,n=>[(c,r,n,clk)]
 | e :: M,clk,c,r,n=>if atK c r e then (e.1,e.2.1,n,e.2.2.2) :: M else e :: setM M clk c r n
def clkM (M:Ents) (clk:Nat) (c r:Int):Nat:=if (findM M c r).isSome then clk else clk+1
def delM:Ents→Int→Int→Ents
 | [],_,_=>[]
 | e :: M,c,r=>if atK c r e then M else e :: delM M c r
def mapB (M:Ents) (clk:Nat):Blk:=⟨0,0,[.mo (.map M clk)]⟩
def iterB (km since:Nat) (seen:List Nat) (last:Nat):Blk:=⟨1,0,[.mo (.iter km since seen last)]⟩
def mapOfB:Option (Option Blk)→Option (Ents × Nat)
 | some (some ⟨0,0,[.mo (.map M clk)]⟩)=>some (M,clk)
 | _=>none
def mapOf (s:Store):AV→Option (Ents × Nat)
 | .mp k=>mapOfB (s k)
 | .mo (.map M clk)=>some (M,clk)
 | _=>none
def iterOfB:Option (Option Blk)→Option (Nat × Nat × List Nat × Nat)
 | some (some ⟨1,0,[.mo (.iter km since seen last)]⟩)=>some (km,since,seen,last)
 | _=>none
def keyP:AV→Option (Int × Int)
 | .agg [.int .i64 c,.int .i64 r]=>some (c,r)
 | _=>none
def getV (ok:Bool) (x:Option Int):AV:=if ok then .tup [.int .i64 (x.getD 0),.bool x.isSome] else .int .i64 (x.getD 0)
def reqB {α:Type} (c:Bool) (x:Option α):Option α:=if c then x else none
theorem reqB_some {α:Type} {c:Bool} {x:Option α} {y:α} (h:reqB c x=some y):c=true∧x=some y:=by
 unfold reqB at h;split at h
 ·exact ⟨‹_›,h⟩
 ·cases h
theorem reqB_true {α:Type} {c:Bool} (h:c=true) (x:Option α):reqB c x=x:=by simp [reqB,h]
theorem isNone_eq {o:Option (Option Blk)} (h:o.isNone=true):o=none:=by cases o <;> first | rfl | cases h
def mapX (w:MapW) (d:Nat) (vs:List AV) (s:Store):Option (AV × Store) :=
 match w with
 | .make=>match vs with
  | []=>reqB (s d).isNone (some (.mp d,upd s d (some (some (mapB [] 0)))))
  | _=>none
 | .set=>match vs with
  | [.mp k,q,.int .i64 n]=>(keyP q).bind fun q=>(mapOfB (s k)).map fun m=>(.tup [],upd s k (some (some (mapB (setM m.1 m.2 q.1 q.2 n) (clkM m.1 m.2 q.1 q.2)))))
  | _=>none
 | .get ok=>match vs with
  | [x,q]=>(keyP q).bind fun q=>(mapOf s x).map fun m=>(getV ok (findM m.1 q.1 q.2),s)
  | _=>none
 | .len=>match vs with
  | [x]=>(mapOf s x).map fun m=>(.int .i64 m.1.length,s)
  | _=>none
 | .del=>match vs with
  | [.mp k,q]=>(keyP q).bind fun q=>(mapOfB (s k)).map fun m=>(.tup [],upd s k (some (some (mapB (delM m.1 q.1 q.2) m.2))))
  | _=>none
 | .range=>match vs with
  | [.mp k]=>(mapOfB (s k)).bind fun m=>reqB (s d).isNone (some (.mp d,upd s d (some (some (iterB k m.2 [] m.2)))))
  | _=>none
 | .entry=>match vs with
  | [.mp k]=>(iterOfB (s k)).bind fun i=>(mapOfB (s i.1)).bind fun m=>i.2.2.1.getLast?.bind fun b=>reqB (m.2 == i.2.2.2) ((m.1.find? (fun e=>e.2.2.2 == b)).map fun e=>(.tup [.agg [.int .i64 e.1,.int .i64 e.2.1],.int .i64 e.2.2.1],s))
  | _=>none

noncomputable def ex (d:Nat) (o:MOp) (e:Env) (s:Store):Option (AV × Store) :=
 match o with
 | .mv x=>some (x.ev e,s)
 | .pick c a b=>match c.ev e with
  | .bool t=>some (if t then a.ev e else b.ev e,s)
  | _=>none
 | .alloc ty sz z=>mk d ty sz [z] (.ptr d 0 0) s
 | .box ty sz x=>mk d ty sz [x.ev e] (.ptr d 0 0) s
 | .build zero parts=>(fillA zero (parts.map fun p=>(p.1,p.2.1,p.2.2.ev e))).map fun cs=>(.agg cs,s)
 | .buildSlice ty sz n zero parts=>(fillE sz (List.replicate n zero) (parts.map fun p=>(p.1,p.2.ev e))).bind fun es =>
   if n=0 then some (.nils,s) else mk d ty sz es (.buf d n) s
 | .load n x=>match x.ev e with
  | .ptr k i o=>match s k with
   | some (some B)=>(B.es[i]?).bind fun el=>(loadA n el o).map fun v=>(v,s)
   | _=>none
  | .eptr el o=>(loadA n el o).map fun v=>(v,s)
  | _=>none
 | .store n x v=>match x.ev e with
  | .ptr k i o=>match s k with
   | some (some B)=>(B.es[i]?).bind fun el =>
     req (solid (v.ev e)=true∧(cellsOf (v.ev e)).length=n∧cellsOk (v.ev e)∧0<n∧o+n≤(cellsOf el).length)
      (some (.tup [],upd s k (some (some ⟨B.ty,B.sz,B.es.set i (putIn el o (v.ev e))⟩))))
   | _=>none
  | _=>none
 | .nilCheck x=>match x.ev e with
  | .ptr k i o=>match s k with
   | some (some _)=>some (.ptr k i o,s)
   | _=>none
  | .eptr el o=>some (.eptr el o,s)
  | .fn f caps=>some (.fn f caps,s)
  | _=>none
 | .bin op x y=>(binT op (x.ev e) (y.ev e)).map fun v=>(v,s)
 | .eqB neg x y=>match x.ev e,y.ev e with
  | .bool a,.bool b=>some (.bool (decide (a=b) != neg),s)
  | _,_=>none
 | .eqS neg tags x y=>match x.ev e,y.ev e with
  | .agg a,.agg b=>(eqT tags a b).map fun t=>(.bool (t != neg),s)
  | _,_=>none
 | .eqI neg x y=>match x.ev e,y.ev e with
  | .nili,.nili=>some (.bool (true != neg),s)
  | .ifc,.nili=>some (.bool (false != neg),s)
  | .nili,.ifc=>some (.bool (false != neg),s)
  | _,_=>none
 | .convB x=>(srcOf 1 s (x.ev e)).bind fun l=>(bytesOf l).map fun b=>(.str b,s)
 | .un op x=>(unA op (x.ev e)).map fun v=>(v,s)
 | .convI k x=>match x.ev e with
  | .int _ n=>(if k=.i64 then req (I64 n) (some (.int .i64 n)) else some (.int k (k.wrap n))).map fun v=>(v,s)
  | _=>none
 | .convS x=>match x.ev e with
  | .str l=>some (.str l,s)
  | _=>none
 | .makeFunc f caps=>some (.fn f (caps.map (·.ev e)),s)
 | .makeSlice ty sz by_ zero l c=>match l.ev e,c.ev e with
  | .int _ n,.int _ m=>req (n=m∧0≤n∧(by_:Int) * n≤281474976710656∧n≤9223372036854775807) (mk d ty sz (List.replicate n.toNat zero) (.buf d n.toNat) s)
  | _,_=>none
 | .slice str sz x lo hi=>match x.ev e with
  | .str l=>match loMx e lo,hiMx e l.length hi with
   | .int _ a,.int _ b=>req (str=true∧0≤a∧a≤b∧b≤l.length) (some (.str ((l.take b.toNat).drop a.toNat),s))
   | _,_=>none
  | .sl l=>match loMx e lo,hiMx e l.length hi with
   | .int _ a,.int _ b=>req (str=false∧0≤a∧a≤b∧b≤l.length∧∀ x ∈ l,(cellsOf x).length=sz) (some (.sl ((l.take b.toNat).drop a.toNat),s))
   | _,_=>none
  | .buf k len=>match s k with
   | some (some B)=>match loMx e lo,hiMx e len hi with
    | .int _ a,.int _ b=>req (str=false∧0≤a∧a≤b∧b≤len∧len≤B.es.length∧B.sz=sz∧B.es.all imm=true) (some (.sl ((B.es.take b.toNat).drop a.toNat),upd s k (some none)))
    | _,_=>none
   | _=>none
  | .ptr k i o=>(req (str=true∧sz=0) (vwB (hiMx e 0 hi) k i o (s k))).map fun v=>(v,s)
  | .eptr el o=>(req (str=true∧sz=0) (vwE (hiMx e 0 hi) el o)).map fun v=>(v,s)
  | _=>none
 | .fieldAddr x off=>match x.ev e with
  | .ptr k i o=>match s k with
   | some (some _)=>some (.ptr k i (o+off),s)
   | _=>none
  | .eptr el o=>some (.eptr el (o+off),s)
  | _=>none
 | .field x off n=>match x.ev e with
  | .agg cs=>(loadA n (.agg cs) off).map fun v=>(v,s)
  | _=>none
 | .indexAddr x i sz=>match x.ev e,i.ev e with
  | .sl l,.int _ n=>req (0≤n) ((l[n.toNat]?).bind fun el=>req ((cellsOf el).length=sz) (some (.eptr el 0,s)))
  | .buf k len,.int _ n=>match s k with
   | some (some B)=>req (0≤n∧n<len∧B.sz=sz∧len≤B.es.length) (some (.ptr k n.toNat 0,s))
   | _=>none
  | _,_=>none
 | .indexArr x i sz len=>match x.ev e,i.ev e with
  | .ptr k j o,.int _ n=>match s k with
   | some (some _)=>req (0≤n∧n<len) (some (.ptr k j (o+n.toNat * sz),s))
   | _=>none
  | .eptr el o,.int _ n=>req (0≤n∧n<len) (some (.eptr el (o+n.toNat * sz),s))
  | _,_=>none
 | .index x i=>match x.ev e,i.ev e with
  | .str l,.int _ n=>req (0≤n) ((l[n.toNat]?).map fun b=>(.int .u8 b.toNat,s))
  | _,_=>none
 | .indexV x i sz len n=>match x.ev e,i.ev e with
  | .agg cs,.int _ j=>req (0≤j∧j<len) ((loadA n (.agg cs) (j.toNat * sz)).map fun v=>(v,s))
  | _,_=>none
 | .extract x i=>match x.ev e with
  | .tup vs=>(vs[i]?).map fun v=>(v,s)
  | _=>none
 | .len str x=>match x.ev e with
  | .str l=>req (str=true) (some (.int .i64 l.length,s))
  | .sl l=>req (str=false) (some (.int .i64 l.length,s))
  | .buf k len=>match s k with
   | some (some _)=>req (str=false) (some (.int .i64 len,s))
   | _=>none
  | .nils=>req (str=false) (some (.int .i64 0,s))
  | _=>none
 | .append ty sz by_ _ s0 x=>(srcOf sz s (x.ev e)).bind fun news =>
   req (s d=none∧0<sz∧(∀ y ∈ news,(cellsOf y).length=sz∧cellsOk y))
   (match s0.ev e with
   | .nils=>req (news.length * by_≤140737488355328∧news.length≤maxLen) (some (.buf d news.length,upd s d (some (some ⟨ty,sz,news⟩))))
   | .buf k len=>match s k with
    | some (some B)=>req (len=B.es.length∧B.ty=ty∧B.sz=sz∧(len+news.length) * by_≤140737488355328∧len+news.length≤maxLen)
      (some (.buf d (len+news.length),upd (upd s k (some none)) d (some (some ⟨ty,sz,B.es ++ news⟩))))
    | _=>none
   | _=>none)
 | .copy _ _ _=>none
 | .max xs=>(maxA (xs.map (·.ev e))).map fun v=>(v,s)
 | .min xs=>(minA (xs.map (·.ev e))).map fun v=>(v,s)
 | .mapo w xs=>mapX w d (xs.map (·.ev e)) s
 | .call .. | .callv ..=>none

def putO (e:Env) (d:Option Nat) (v:AV):Env :=
 match d with
 | some d=>upd e d v
 | none=>e

end Go.Av

/- What a frame's abstract state becomes as its store turns: a new block,a block written,a block let go. By an AI agent;nothing here is trusted. -/
namespace Go.Av

section
variable {h:Array Obj} {ok:Nat→Prop} {ρ:Nat→Option Nat} {σ:Store}

theorem VR.cells {x:AV} {v:Value} (hx:VR h ok ρ σ x v) (hs:solid x=true) :
  v.cells.size=(cellsOf x).length∧∀ (o:Nat) (c:AV),(cellsOf x)[o]?=some c→∃ cv,v.cells[o]?=some cv∧VR h ok ρ σ c cv:=by
 have one:∀ {y:AV} {u:Value},VR h ok ρ σ y u→cellsOf y=[y]→u.cells=#[u] →
   u.cells.size=(cellsOf y).length∧∀ (o:Nat) (c:AV),(cellsOf y)[o]?=some c→∃ cv,u.cells[o]?=some cv∧VR h ok ρ σ c cv:=by
  intro y u hy e1 e2
  rw [e1,e2]
  refine ⟨rfl,fun o c hc=>?_⟩
  cases o with
  | zero=>simp at hc;subst hc;exact ⟨u,rfl,hy⟩
  | succ o=>simp at hc
 have hx':=hx
 cases hx with
 | undef v=>cases hs
 | tup cs vs hl hv=>cases hs
 | agg cs vs hl hv =>
  refine ⟨hl.symm,fun o c hc=>?_⟩
  have ho:o<vs.size:=by
   rw [← hl];exact (List.getElem?_eq_some_iff.1 hc).1
  refine ⟨vs.getD o Go.undef,?_,hv o c hc⟩
  simp [Value.cells,Array.getD,ho]
 | _=>exact one hx' rfl rfl

theorem VR.oneCell {c:AV} {v:Value} (hx:VR h ok ρ σ c v) (hc:cell c=true):v.oneCell'=true:=by
 cases hx <;> first | rfl | (cases hc)

def ofV1:Value→AV
 | .int k n=>.int k n
 | .bool b=>.bool b
 | .string s=>.str s.data.toList
 | .slice none 0 0=>.nils
 | .pointer none=>.nilp
 | .nilFunc=>.nilf
 | .nilIface=>.nili
 | .map none=>.mo .nil
 | _=>.undef

def ofV:Value→AV
 | .agg cs=>.agg (cs.toList.map ofV1)
 | .tuple cs=>if cs.size=0 then .tup [] else .undef
 | v=>ofV1 v

theorem vr_ofV1 (v:Value):VR h ok ρ σ (ofV1 v) v:=by
 unfold ofV1;split <;> first | exact .str _ _ rfl | constructor

theorem vr_ofV (v:Value):VR h ok ρ σ (ofV v) v:=by
 unfold ofV;split
 ·rename_i cs
  refine .agg _ _ (by simp) fun i c hc=>?_
  simp only [List.getElem?_map,Option.map_eq_some_iff,Array.getElem?_toList] at hc
  obtain ⟨u,hu,rfl⟩:=hc
  have:cs.getD i undef=u:=by simp [Array.getD_eq_getD_getElem?,hu]
  rw [this];exact vr_ofV1 u
 ·rename_i cs
  split
  ·rename_i h0
   refine .tup [] cs (by simp [h0]) fun i c hc=>by simp at hc
  ·exact .undef _
 ·exact vr_ofV1 v

def cX:Operand→MX
 | .tmp t=>.t t
 | .const v=>.c (ofV v)
 | .func f=>.c (.fn f [])
 | .global g=>.c (gVal g)
end

section
variable {N B:Nat} {w0:World} {ok0:F0} {ok:Nat→Prop} {ρ:Nat→Option Nat} {e:Env} {s:Store} {a:Act} {w:World}

theorem Rel.gnow (hR:Rel N B w0 ok0 ok ρ e s a w):GOk ok w:=hR.gok.mono hR.okold hR.kept

theorem Rel.ev (hR:Rel N B w0 ok0 ok ρ e s a w) (x:Operand):VR w.heap ok ρ s ((cX x).ev e) (a.eval x):=by
 cases x with
 | tmp t=>exact hR.tmps t
 | const v=>exact vr_ofV v
 | func f=>exact .fn f [] #[] rfl fun i c hc=>by simp at hc
 | global g=>exact hR.gnow.vr _ _ g

def Holds (h:Array Obj) (ok:Nat→Prop) (ρ:Nat→Option Nat) (σ:Store) (sz:Nat) (es:List AV) (cur:Array Value):Prop :=
 ∀ (i:Nat) (x:AV),es[i]?=some x→(cellsOf x).length=sz∧cellsOk x∧∀ (o:Nat) (c:AV),(cellsOf x)[o]?=some c→∃ cv,cur[i * sz+o]?=some cv∧VR h ok ρ σ c cv

theorem Holds.mono {h h':Array Obj} {ok ok':Nat→Prop} {ρ ρ':Nat→Option Nat} {σ σ':Store} {sz:Nat} {es:List AV} {cur:Array Value} (hH:Holds h ok ρ σ sz es cur)
  (hok:∀ b,ok b→ok' b) (hh:∀ b,ok b→h'[b]?=h[b]?) (hg:Goes h h' ρ ρ' σ σ'):Holds h' ok' ρ' σ' sz es cur:=fun i x hx =>
 ⟨(hH i x hx).1,(hH i x hx).2.1,fun o c hc=>let ⟨cv,p,q⟩:=(hH i x hx).2.2 o c hc;⟨cv,p,q.mono hok hh hg⟩⟩

theorem Rel.bound (hR:Rel N B w0 ok0 ok ρ e s a w) {k:Nat} {K:Blk} {b:Nat} (hk:s k=some (some K)) (hr:ρ k=some b) :
  b<w.heap.size∧B≤b∧¬ ok b:=by
 rcases hR.live k K hk with ⟨_,h⟩ | ⟨_,b',o,x,h1,h2,h3,_,_,h4,_⟩
 rotate_left
 ·rw [hr] at h1;cases h1
  exact ⟨(Array.getElem?_eq_some_iff.1 h4).1,h2,h3⟩
 rcases h with ⟨h1,_⟩ | ⟨b',cur,h1,h2,h3,h4,h5⟩
 ·rw [hr] at h1;cases h1
 ·rw [hr] at h1;cases h1
  exact ⟨(Array.getElem?_eq_some_iff.1 h4).1,h2,h3⟩

theorem Rel.boundC (hR:Rel N B w0 ok0 ok ρ e s a w) {k:Nat} {K:Blk} {b:Nat} (hk:s k=some (some K)) (hr:ρ k=some b) (hz:0<K.sz) :
  b<w.heap.size∧B≤b∧¬ ok b∧∃ cur,w.heap[b]?=some (.cells cur K.ty (0,0))∧Holds w.heap ok ρ s K.sz K.es cur:=by
 obtain ⟨_,h⟩:=(hR.live k K hk).cells hz
 rcases h with ⟨h1,_⟩ | ⟨b',cur,h1,h2,h3,h4,h5⟩
 ·rw [hr] at h1;cases h1
 ·rw [hr] at h1;cases h1
  exact ⟨(Array.getElem?_eq_some_iff.1 h4).1,h2,h3,cur,h4,h5⟩

theorem Rel.noLoop (hR:Rel N B w0 ok0 ok ρ e s a w) {k:Nat} {K:Blk} {b:Nat} (hk:s k=some (some K)) (hr:ρ k=some b) (r:Loop):w.heap[b]? ≠ some (.loop r):=by
 rcases hR.live k K hk with ⟨_,h⟩ | ⟨_,b',o,x,h1,h2,h3,_,_,h4,h5⟩
 ·rcases h with ⟨h1,_⟩ | ⟨b',cur,h1,h2,h3,h4,h5⟩
  ·rw [hr] at h1;cases h1
  ·rw [hr] at h1;cases h1
   rw [h4];exact fun h=>by cases h
 ·rw [hr] at h1;cases h1
  rw [h4];exact fun h=>h5.noCells.2.1 r (Option.some.inj h)
theorem Rel.pos (hR:Rel N B w0 ok0 ok ρ e s a w) {k:Nat} {K:Blk} {b:Nat} (hk:s k=some (some K)) (hr:ρ k=some b) {cur:Array Value} {ty:TypeId} {fr:Nat × Nat} (hb:w.heap[b]?=some (.cells cur ty fr)):0<K.sz :=
 (hR.live k K hk).pos_cells hr hb

theorem Rel.new (hR:Rel N B w0 ok0 ok ρ e s a w) {d ty sz:Nat} {es:List AV} {cur:Array Value} {w':World} (hd:s d=none) (hsz:0<sz)
  (hH:Holds w.heap ok ρ s sz es cur) (hw:w'.heap=w.heap.push (.cells cur ty)) (hb:Below w.heap.size w w') :
  Goes w.heap w'.heap ρ (upd ρ d (some w.heap.size)) s (upd s d (some (some ⟨ty,sz,es⟩)))∧(∀ b,ok b→w'.heap[b]?=w.heap[b]?) ∧
  Rel N B w0 ok0 ok (upd ρ d (some w.heap.size)) e (upd s d (some (some ⟨ty,sz,es⟩))) a w':=by
 have hne:∀ k,s k ≠ none→k ≠ d:=fun k hk e=>hk (e ▸ hd)
 have hold:∀ b,b<w.heap.size→w'.heap[b]?=w.heap[b]?:=fun b hb=>by rw [hw,Array.getElem?_push,if_neg (by omega)]
 have hg:Goes w.heap w'.heap ρ (upd ρ d (some w.heap.size)) s (upd s d (some (some ⟨ty,sz,es⟩))):=by
  refine ⟨fun k hk=>by rw [upd_other _ _ _ _ (hne k (by simp [hk]))];exact hk,fun k K hk=>.inr ⟨K,?_,rfl,rfl,?_,fun b cur _ hb=>⟨cur,?_,rfl⟩⟩⟩
  ·rw [upd_other _ _ _ _ (hne k (by simp [hk]))];exact hk
  ·rw [upd_other _ _ _ _ (hne k (by simp [hk]))]
  ·rw [hold b (Array.getElem?_eq_some_iff.1 hb).1];exact hb
 have hh:∀ b,ok b→w'.heap[b]?=w.heap[b]?:=fun b hb=>hold b (hR.oklt b hb).1
 refine ⟨hg,hh,?_⟩
 constructor
 ·exact hR.defers.mono (fun _ h=>h) hh
 ·exact hR.size
 ·exact hR.below.trans (hb.mono hR.base)
 ·rw [hw,Array.size_push];have:=hR.base;omega
 ·exact fun n=>(hR.tmps n).mono (fun _ h=>h) hh hg
 ·intro b hb;rw [hw,Array.size_push];have:=hR.oklt b hb;exact ⟨by omega,this.2⟩
 ·exact hR.okold
 ·intro k K hk
  by_cases hkd:k=d
  ·subst hkd
   rw [upd_same] at hk
   cases hk
   refine .inl ⟨hsz,.inr ⟨w.heap.size,cur,upd_same _ _ _,hR.base,fun h=>absurd (hR.oklt _ h).1 (Nat.lt_irrefl _),by rw [hw];simp,?_⟩⟩
   exact hH.mono (fun _ h=>h) hh hg
  ·rw [upd_other _ _ _ _ hkd] at hk
   refine (hR.live k K hk).mono (fun _ h=>h) hh hg (upd_other _ _ _ _ hkd) fun b hb=>⟨?_,fun _ h=>h⟩
   exact hold b (hR.bound hk hb).1
 ·intro k k' K K' b h1 h2 h3 h4
  by_cases hk:k=d <;> by_cases hk':k'=d
  ·rw [hk,hk']
  ·subst hk
   rw [upd_other _ _ _ _ hk'] at h2 h4
   rw [upd_same] at h3;cases h3
   have:=(hR.bound h2 h4).1;omega
  ·subst hk'
   rw [upd_other _ _ _ _ hk] at h1 h3
   rw [upd_same] at h4;cases h4
   have:=(hR.bound h1 h3).1;omega
  ·rw [upd_other _ _ _ _ hk] at h1 h3
   rw [upd_other _ _ _ _ hk'] at h2 h4
   exact hR.inj k k' K K' b h1 h2 h3 h4
 ·exact fun b hb=>(hh b (hR.okold b hb)).trans (hR.kept b hb)
 ·exact hR.goes.trans hg
 ·exact hR.gok

theorem Rel.set (hR:Rel N B w0 ok0 ok ρ e s a w) {k b:Nat} {K:Blk} {es:List AV} {cur cur':Array Value} {w':World} (hk:s k=some (some K)) (hr:ρ k=some b)
  (hcur:w.heap[b]?=some (.cells cur K.ty (0,0))) (hsize:cur'.size=cur.size) (hH:Holds w.heap ok ρ s K.sz es cur')
  (hw:w'.heap[b]?=some (.cells cur' K.ty (0,0))) (hother:∀ j,j ≠ b→w'.heap[j]?=w.heap[j]?) (hb:Below b w w') (hsz:w'.heap.size=w.heap.size) :
  Rel N B w0 ok0 ok ρ e (upd s k (some (some ⟨K.ty,K.sz,es⟩))) a w':=by
 obtain ⟨hbl,hBb,hnok⟩:=hR.bound hk hr
 have hg:Goes w.heap w'.heap ρ ρ s (upd s k (some (some ⟨K.ty,K.sz,es⟩))):=by
  refine ⟨fun j hj=>by rw [upd_other _ _ _ _ (by rintro rfl;rw [hk] at hj;cases hj)];exact hj,fun j J hj=>.inr ?_⟩
  by_cases hjk:j=k
  ·subst hjk
   rw [hk] at hj;cases hj
   refine ⟨_,upd_same _ _ _,rfl,rfl,rfl,fun b' c' hb' hc'=>?_⟩
   rw [hr] at hb';cases hb'
   rw [hcur] at hc';cases hc'
   exact ⟨cur',hw,hsize⟩
  ·refine ⟨J,by rw [upd_other _ _ _ _ hjk];exact hj,rfl,rfl,rfl,fun b' c' hb' hc'=>⟨c',?_,rfl⟩⟩
   rw [hother b' (fun h=>hjk (hR.inj j k J K b hj hk (h ▸ hb') hr))];exact hc'
 have hh:∀ b',ok b'→w'.heap[b']?=w.heap[b']?:=fun b' hb'=>hother b' (fun h=>hnok (h ▸ hb'))
 constructor
 ·exact hR.defers.mono (fun _ h=>h) hh
 ·exact hR.size
 ·exact hR.below.trans (hb.mono hBb)
 ·rw [hsz];exact hR.base
 ·exact fun n=>(hR.tmps n).mono (fun _ h=>h) hh hg
 ·rw [hsz];exact hR.oklt
 ·exact hR.okold
 ·intro j J hj
  by_cases hjk:j=k
  ·subst hjk
   rw [upd_same] at hj;cases hj
   exact .inl ⟨show 0<K.sz from hR.pos hk hr hcur,.inr ⟨b,cur',hr,hBb,hnok,hw,hH.mono (fun _ h=>h) hh hg⟩⟩
  ·rw [upd_other _ _ _ _ hjk] at hj
   refine (hR.live j J hj).mono (fun _ h=>h) hh hg rfl fun b' hb'=>⟨?_,fun _ h=>h⟩
   exact hother b' (fun h=>hjk (hR.inj j k J K b hj hk (h ▸ hb') hr))
 ·intro j j' J J' b' h1 h2 h3 h4
  have key:∀ i I,upd s k (some (some ⟨K.ty,K.sz,es⟩)) i=some (some I)→∃ I',s i=some (some I'):=by
   intro i I hi
   by_cases hik:i=k
   ·exact ⟨K,hik ▸ hk⟩
   ·rw [upd_other _ _ _ _ hik] at hi;exact ⟨I,hi⟩
  obtain ⟨I1,g1⟩:=key j J h1
  obtain ⟨I2,g2⟩:=key j' J' h2
  exact hR.inj j j' I1 I2 b' g1 g2 h3 h4
 ·exact fun b hb=>(hh b (hR.okold b hb)).trans (hR.kept b hb)
 ·exact hR.goes.trans hg
 ·exact hR.gok

theorem Goes.kill (h:Array Obj) (ρ:Nat→Option Nat) (σ:Store) (k:Nat):Goes h h ρ ρ σ (upd σ k (some none)):=by
 refine ⟨fun j hj=>?_,fun j J hj=>?_⟩
 ·by_cases hjk:j=k
  ·subst hjk;exact upd_same _ _ _
  ·rw [upd_other _ _ _ _ hjk];exact hj
 ·by_cases hjk:j=k
  ·subst hjk;exact .inl (upd_same _ _ _)
  ·exact .inr ⟨J,by rw [upd_other _ _ _ _ hjk];exact hj,rfl,rfl,rfl,fun _ cur _ hb=>⟨cur,hb,rfl⟩⟩

theorem Rel.kill (hR:Rel N B w0 ok0 ok ρ e s a w) (k:Nat) (ok':Nat→Prop) (hok:∀ b,ok b→ok' b)
  (hnew:∀ b,ok' b→ok b∨∃ K,s k=some (some K)∧ρ k=some b):Rel N B w0 ok0 ok' ρ e (upd s k (some none)) a w:=by
 have hh:∀ b,ok b→w.heap[b]?=w.heap[b]?:=fun _ _=>rfl
 constructor
 ·exact hR.defers.mono hok hh
 ·exact hR.size
 ·exact hR.below
 ·exact hR.base
 ·exact fun n=>(hR.tmps n).mono hok hh (Goes.kill _ _ _ _)
 ·intro b hb
  rcases hnew b hb with h | ⟨K,h1,h2⟩
  ·exact hR.oklt b h
  ·have:=hR.bound h1 h2;exact ⟨this.1,.inl this.2.1⟩
 ·exact fun b hb=>hok b (hR.okold b hb)
 ·intro j J hj
  by_cases hjk:j=k
  ·subst hjk;rw [upd_same] at hj;cases hj
  ·rw [upd_other _ _ _ _ hjk] at hj
   refine (hR.live j J hj).mono hok hh (Goes.kill _ _ _ _) rfl fun b hb=>⟨rfl,fun _ hno h=>?_⟩
   rcases hnew b h with h | ⟨K,h1,h2⟩
   ·exact hno h
   ·exact hjk (hR.inj j k J K b hj h1 hb h2)
 ·intro j j' J J' b h1 h2 h3 h4
  have key:∀ i I,upd s k (some none) i=some (some I)→s i=some (some I):=by
   intro i I hi
   by_cases hik:i=k
   ·subst hik;rw [upd_same] at hi;cases hi
   ·rw [upd_other _ _ _ _ hik] at hi;exact hi
  exact hR.inj j j' J J' b (key j J h1) (key j' J' h2) h3 h4
 ·exact hR.kept
 ·exact hR.goes.trans (Goes.kill _ _ _ _)
 ·exact hR.gok
end
end Go.Av

/- The compiling of one operation,and that each does in the model what it does to abstract values. By an AI agent;nothing here is trusted. -/
namespace Go.Av

def sizeK (P:Program) (t:TypeId):Option Nat:=(P.info? t).map (·.size)

def placesOf (P:Program) (t:TypeId):Option (Nat→Option (Nat × Nat)) :=
 match P.underlying t with
 | some (.struct fs)=>(fs.toList.mapM fun f=>(P.info? f.type).map fun i=>(f.offset,i.size)).map fun l j=>l[j]?
 | some (.array _ el)=>(P.info? el).map fun i j=>some (j * i.size,i.size)
 | _=>none

def scalarT (P:Program) (t:TypeId):Bool :=
 match P.underlying t with
 | some (.struct _) | some (.array _ _) | none=>false
 | _=>true

def cmpF (P:Program) (g:TypeId→Option (List (Nat × Nat))):List Field→Option (List (Nat × Nat))
 | []=>some []
 | f :: r=>if f.name = "_" then none else match g f.type,P.info? f.type,cmpF P g r with
  | some l',some i,some l=>if l'.all (fun j=>decide (j.1<i.size)) then some (l'.map (fun j=>(f.offset+j.1,j.2)) ++ l) else none
  | _,_,_=>none

def arrF (el:TypeId) (n len:Nat):List Field:=(List.range len).map fun j=>{ name := "x",type:=el,offset:=j * n,embedded:=false,tag := "",pkgPath := "",byteOffset:=0 }

def cmpOffs (P:Program):Nat→TypeId→Option (List (Nat × Nat))
 | 0,_=>none
 | d+1,t =>
  match P.underlying t with
  | some .bool=>some [(0,0)]
  | some (.int _)=>some [(0,1)]
  | some .string=>some [(0,2)]
  | some (.struct fs)=>if P.stoodInHeld t then none else cmpF P (cmpOffs P d) fs.toList
  | some (.array len el)=>match P.info? el with
   | some i=>cmpF P (cmpOffs P d) (arrF el i.size len)
   | none=>none
  | _=>none

def tagsOf (P:Program) (t:TypeId):Option (List Nat) :=
 match cmpOffs P 6 t with
 | some l=>if l.map (·.1)=List.range l.length∧P.eqGuardType P.depth t=false then some (l.map (·.2)) else none
 | none=>none

def isLit:Operand→Bool
 | .const _=>true
 | _=>false

def cEq (P:Program) (neg:Bool) (op:BinOp) (t:TypeId) (x y:Operand):Option MOp :=
 match P.underlying t with
 | some (.int _) | some .string=>some (.bin op (cX x) (cX y))
 | some .bool=>some (.eqB neg (cX x) (cX y))
 | some (.struct _)=>(tagsOf P t).map fun l=>.eqS neg l (cX x) (cX y)
 | some (.array _ _)=>(tagsOf P t).map fun l=>.eqS neg l (cX x) (cX y)
 | some (.interface _)=>if (isLit x || isLit y)=true then some (.eqI neg (cX x) (cX y)) else none
 | _=>none

def cOp0 (P:Program) (o:Oper):Option MOp :=
 match o.op with
 | .move x | .assign x=>some (.mv (cX x))
 | .pick c a b=>some (.pick (cX c) (cX a) (cX b))
 | .alloc t=>match P.info? t with
  | some i=>i.zero.map fun z=>.alloc t i.size (ofV z)
  | none=>none
 | .box t x=>(sizeK P t).map fun n=>.box t n (cX x)
 | .build t parts=>match P.info? t,placesOf P t with
  | some i,some places=>match i.zero,parts.toList.mapM (fun p=>(places p.1).map fun q=>(q.1,q.2,cX p.2)) with
   | some (.agg z),some ps=>some (.build (z.toList.map ofV1) ps)
   | _,_=>none
  | _,_=>none
 | .buildSlice t len parts=>match P.underlying t with
  | some (.slice el)=>match P.info? el with
   | some i=>if len * i.size≤16777216 && decide (0<i.size) then (match i.zero with
    | some z=>if z.cells.size=i.size then some (.buildSlice el i.size len (ofV z) (parts.toList.map fun p=>(p.1,cX p.2))) else none
    | none=>none) else none
   | none=>none
  | _=>none
 | .load t x=>if scalarT P t then some (.load none (cX x)) else (match P.underlying t with
  | some (.struct _) | some (.array _ _)=>(sizeK P t).map fun n=>.load (some n) (cX x)
  | _=>none)
 | .store t x v=>(sizeK P t).map fun n=>.store n (cX x) (cX v)
 | .nilCheck x=>some (.nilCheck (cX x))
 | .binOp .eql t x y _=>cEq P false .eql t x y
 | .binOp .neq t x y _=>cEq P true .neq t x y
 | .binOp op _ x y _=>some (.bin op (cX x) (cX y))
 | .unOp op _ x=>some (.un op (cX x))
 | .convert src dst x=>match P.underlying src,P.underlying dst with
  | some (.int _),some (.int k)=>some (.convI k (cX x))
  | some .string,some .string=>some (.convS (cX x))
  | some (.slice el),some .string=>(match P.underlying el with
   | some (.int .u8)=>some (.convB (cX x))
   | _=>none)
  | _,_=>none
 | .makeFunc (.func f) first caps=>if first.size=0 then some (.makeFunc f (caps.toList.map cX)) else none
 | .makeSlice t l c=>match P.underlying t with
  | some (.slice el)=>match P.info? el with
   | some i=>match i.zero with
    | some z=>if z.cells.size=i.size then some (.makeSlice el i.size i.bytes (ofV z) (cX l) (cX c)) else none
    | none=>none
   | none=>none
  | _=>none
 | .slice t x lo hi mx=>if mx.isNone then (match P.underlying t with
  | some .string=>some (.slice true 1 (cX x) (lo.map cX) (hi.map cX))
  | some (.slice el)=>(sizeK P el).bind fun n=>if n=0 then none else some (.slice false n (cX x) (lo.map cX) (hi.map cX))
  | some (.array len el)=>if (sizeK P el == some 1 && lo.isNone && hi.isNone)=true then some (.slice true 0 (cX x) (some (.c .undef)) (some (.c (.int .i64 len)))) else none
  | _=>none) else none
 | .fieldAddr t x f=>match P.underlying t with
  | some (.struct fs)=>match fs[f]? with
   | some fd=>match sizeK P fd.type with
    | some n=>if n=0 then none else some (.fieldAddr (cX x) fd.offset)
    | none=>none
   | none=>none
  | _=>none
 | .field t x f=>match P.underlying t with
  | some (.struct fs)=>match fs[f]? with
   | some fd=>if scalarT P fd.type then some (.field (cX x) fd.offset none) else (match P.underlying fd.type with
    | some (.struct _) | some (.array _ _)=>(sizeK P fd.type).map fun n=>.field (cX x) fd.offset (some n)
    | _=>none)
   | none=>none
  | _=>none
 | .indexAddr t x i=>match P.underlying t with
  | some (.slice el)=>(sizeK P el).map fun n=>.indexAddr (cX x) (cX i) n
  | some (.array len el)=>(sizeK P el).map fun n=>.indexArr (cX x) (cX i) n len
  | _=>none
 | .index t x i=>match P.underlying t with
  | some .string=>some (.index (cX x) (cX i))
  | some (.array len el)=>if scalarT P el then (sizeK P el).map fun n=>.indexV (cX x) (cX i) n len none else (match P.underlying el with
   | some (.struct _) | some (.array _ _)=>(sizeK P el).map fun n=>.indexV (cX x) (cX i) n len (some n)
   | _=>none)
  | _=>none
 | .extract x i=>some (.extract (cX x) i)
 | .call c=>match c.callee with
  | .builtin .len=>match c.args.toList,c.argTypes.toList with
   | [x],[t]=>(match P.underlying t with
    | some .string=>some (.len true (cX x))
    | some (.slice _)=>some (.len false (cX x))
    | _=>none)
   | _,_=>none
  | .builtin .append=>match c.args.toList,c.argTypes.toList with
   | [x,y],[t,u]=>if t=u then (match P.underlying t with
    | some (.slice el)=>match P.info? el with
     | some i=>match i.zero with
      | some z=>if z.cells.size=i.size then some (.append el i.size i.bytes (ofV z) (cX x) (cX y)) else none
      | none=>none
     | none=>none
    | _=>none) else none
   | _,_=>none
  | .builtin .max=>some (.max (c.args.toList.map cX))
  | .builtin .min=>some (.min (c.args.toList.map cX))
  | .value (.func f)=>some (.call f (c.args.toList.map cX))
  | .value (.tmp t)=>some (.callv (.t t) (c.args.toList.map cX))
  | _=>none
 | _=>none

section
variable {P:Program} {N B:Nat} {w0:World} {ok0:F0} {ok:Nat→Prop} {ρ:Nat→Option Nat} {e:Env} {s:Store} {a:Act} {w:World}

def Sim (N B:Nat) (w0:World) (ok0:F0) (ok:Nat→Prop) (e:Env) (a:Act) (r:Result Next) (v:AV) (s':Store):Prop :=
 ∃ ok' ρ' w',(∀ b,ok b→ok' b)∧Rel N B w0 ok0 ok' ρ' e s' a w'∧((∃ val,r=.ok (.value val) w'∧VR w'.heap ok' ρ' s' v val)∨(r=.ok .skip w'∧v=.tup []))

theorem Sim.same (hR:Rel N B w0 ok0 ok ρ e s a w) {r:Result Next} {v:AV} {val:Value} (hr:r=.ok (.value val) w) (hv:VR w.heap ok ρ s v val) :
  Sim N B w0 ok0 ok e a r v s:=⟨ok,ρ,w,fun _ h=>h,hR,.inl ⟨val,hr,hv⟩⟩

theorem holds_one {h:Array Obj} {x:AV} {v:Value} (hv:VR h ok ρ s x v) {sz:Nat} (hs:solid x=true) (hl:(cellsOf x).length=sz) (hc:cellsOk x):Holds h ok ρ s sz [x] v.cells:=by
 intro i y hy
 cases i with
 | zero =>
  simp at hy;subst hy
  refine ⟨hl,hc,fun o c ho=>?_⟩
  simpa using (hv.cells hs).2 o c ho
 | succ i=>simp at hy

theorem mk_some {d ty sz:Nat} {es:List AV} {v v':AV} {s':Store} (h:mk d ty sz es v s=some (v',s')) :
  s d=none∧0<sz∧(∀ x ∈ es,solid x=true∧(cellsOf x).length=sz∧cellsOk x)∧v'=v∧s'=upd s d (some (some ⟨ty,sz,es⟩)):=by
 obtain ⟨⟨h1,h2,h3⟩,h4⟩:=req_some h
 cases h4
 exact ⟨h1,h2,h3,rfl,rfl⟩

theorem sim_var (hR:Rel N B w0 ok0 ok ρ e s a w) {d ty sz:Nat} {x v:AV} {s':Store} {val:Value} (hx:mk d ty sz [x] (.ptr d 0 0) s=some (v,s')) (hv:VR w.heap ok ρ s x val)
  {r:Result Next} (hr:r=.ok (.value (.pointer (some ⟨w.heap.size,0,none⟩))) (w.alloc (.cells val.cells ty))):Sim N B w0 ok0 ok e a r v s':=by
 obtain ⟨h1,h2,h3,rfl,rfl⟩:=mk_some hx
 obtain ⟨g1,g2,g3⟩:=h3 x (by simp)
 obtain ⟨p1,p2,p3⟩:=hR.new (w':=w.alloc (.cells val.cells ty)) h1 h2 (holds_one hv g1 g2 g3) rfl ((Below.refl _ _).alloc (Nat.le_refl _) _)
 refine ⟨ok,_,_,fun _ h=>h,p3,.inl ⟨_,hr,?_⟩⟩
 have:=VR.ptr (h:=(w.alloc (.cells val.cells ty)).heap) (ok:=ok) (ρ:=upd ρ d (some w.heap.size)) (σ:=upd s d (some (some ⟨ty,sz,[x]⟩))) d 0 0 ⟨ty,sz,[x]⟩ w.heap.size (upd_same _ _ _) (upd_same _ _ _) h2
 simpa using this

theorem loadA_vr {h:Array Obj} {el:AV} {n:Option Nat} {o:Nat} {v:AV} (hl:loadA n el o=some v) (f:Nat→Value)
  (hf:∀ (j:Nat) (c:AV),(cellsOf el)[j]?=some c→VR h ok ρ s c (f j)) :
  (n=none∧o<(cellsOf el).length∧VR h ok ρ s v (f o))∨(∃ m,n=some m∧o+m≤(cellsOf el).length∧VR h ok ρ s v (.agg ((List.range m).map fun j=>f (o+j)).toArray)):=by
 cases n with
 | none=>exact .inl ⟨rfl,(List.getElem?_eq_some_iff.1 hl).1,hf o v hl⟩
 | some m =>
  refine .inr ⟨m,rfl,?_⟩
  obtain ⟨h1,h2⟩:=req_some hl
  cases h2
  refine ⟨h1,.agg _ _ (by simp;omega) fun i c hc=>?_⟩
  rw [List.getElem?_take] at hc
  split at hc
  ·rename_i hi
   rw [List.getElem?_drop] at hc
   have:=hf (o+i) c hc
   simpa [Array.getD,hi] using this
  ·cases hc

theorem run_load_none {t:TypeId} (ht:scalarT P t=true) {b o:Nat} {v:Value} (hc:w.cell? ⟨b,o,none⟩=some v) :
  (Instr.loadAt t (.pointer (some ⟨b,o,none⟩))).run P w=.ok v w:=by
 unfold scalarT at ht
 split at ht <;> first | (cases ht;done) | skip
 rename_i d h1 h2 h3
 cases hu:P.underlying t with
 | none=>exact absurd hu h3
 | some d =>
  have hagg:(isAgg t).run P w=.ok false w:=by
   cases d <;> first
    | (exact absurd hu (h1 _))
    | (exact absurd hu (h2 _ _))
    | (simp [isAgg,run_underlying hu])
  simp [Instr.loadAt,Instr.sureAddr,loadVar,hagg,hc]

theorem run_load_agg {t:TypeId} (ht:∃ fs,P.underlying t=some (.struct fs)∨∃ n u,P.underlying t=some (.array n u)) {n:Nat} (hn:sizeK P t=some n) {b o:Nat} {f:Nat→Value}
  (hc:∀ j,j<n→w.cell? ⟨b,o+j,none⟩=some (f j)):(Instr.loadAt t (.pointer (some ⟨b,o,none⟩))).run P w=.ok (.agg ((List.range n).map f).toArray) w:=by
 have hagg:(isAgg t).run P w=.ok true w:=by
  obtain ⟨fs,h | ⟨n,u,h⟩⟩:=ht <;> simp [isAgg,run_underlying h]
 have hsz:(sizeOf t).run P w=.ok n w:=by
  unfold sizeK at hn
  cases hi:P.info? t with
  | none=>simp [hi] at hn
  | some i=>simp [hi] at hn;subst hn;simp [sizeOf,typeInfo,hi]
 have:=run_loadCells (P:=P) w ⟨b,o,none⟩ n f (fun j hj=>by rw [Addr.add_lit];exact hc j hj)
 simp [Instr.loadAt,Instr.sureAddr,loadVar,hagg,hsz,this]
end
end Go.Av

/- Each operation,in the model and at abstract values. By an AI agent;nothing here is trusted. -/
namespace Go.Av

section
variable {P:Program} {N B:Nat} {w0:World} {ok0:F0} {ok:Nat→Prop} {ρ:Nat→Option Nat} {e:Env} {s:Store} {a:Act} {w:World}

theorem cell_of_heap {b off:Nat} {cur:Array Value} {ty:TypeId} {fr:Nat × Nat} (h:w.heap[b]?=some (.cells cur ty fr)):w.cell? ⟨b,off,none⟩=cur[off]?:=by
 simp [World.cell?,h]

theorem load_run (hR:Rel N B w0 ok0 ok ρ e s a w) {t:TypeId} {x:Operand} {n:Option Nat} {d:Nat} {v:AV} {s':Store}
  (hn:(n=none∧scalarT P t=true)∨(∃ k,n=some k∧sizeK P t=some k∧∃ fs,P.underlying t=some (.struct fs)∨∃ m u,P.underlying t=some (.array m u)))
  (hx:ex d (.load n (cX x)) e s=some (v,s')):s'=s∧∃ val,(Instr.loadAt t (a.eval x)).run P w=.ok val w∧VR w.heap ok ρ s v val:=by
 have hv:=hR.ev x
 have fin:∀ (b q:Nat) (el:AV) (o:Nat) (f:Nat→Value),a.eval x=.pointer (some ⟨b,q+o,none⟩)→(loadA n el o).map (fun v=>(v,s))=some (v,s') →
   (∀ (j:Nat) (c:AV),(cellsOf el)[j]?=some c→w.cell? ⟨b,q+j,none⟩=some (f j)∧VR w.heap ok ρ s c (f j)) →
   s'=s∧∃ val,(Instr.loadAt t (a.eval x)).run P w=.ok val w∧VR w.heap ok ρ s v val:=by
  intro b q el o f he hl hf
  obtain ⟨u,hu,hu'⟩:=Option.map_eq_some_iff.1 hl
  cases hu'
  rcases loadA_vr hu f (fun j c hc=>(hf j c hc).2) with ⟨rfl,h1,h2⟩ | ⟨m,rfl,h1,h2⟩
  ·rcases hn with ⟨_,ht⟩ | ⟨_,h,_⟩
   ·have hc:=(hf o _ (List.getElem?_eq_getElem h1)).1
    refine ⟨rfl,f o,?_,h2⟩
    rw [he]
    exact run_load_none ht hc
   ·cases h
  ·rcases hn with ⟨h,_⟩ | ⟨k,h,hk,ht⟩
   ·cases h
   ·cases h
    refine ⟨rfl,.agg ((List.range m).map fun j=>f (o+j)).toArray,?_,h2⟩
    rw [he]
    have:=run_load_agg (P:=P) (w:=w) ht hk (b:=b) (o:=q+o) (f:=fun j=>f (o+j)) (fun j hj=>by
     have:=(hf (o+j) _ (List.getElem?_eq_getElem (by omega))).1
     rwa [Nat.add_assoc])
    exact this
 simp only [ex] at hx
 generalize (cX x).ev e=X at hx hv
 split at hx
 ·rename_i k i o
  split at hx
  ·rename_i K hk
   cases hel:K.es[i]? with
   | none=>simp [hel] at hx
   | some el =>
    simp only [hel,Option.bind_some] at hx
    generalize he:a.eval x=val at hv
    cases hv with
    | ptrd _ _ _ _ hd=>rw [hk] at hd;cases hd
    | ptr _ _ _ K' b hσ hr hz =>
     rw [hk] at hσ;cases hσ
     obtain ⟨_,_,_,cur,hcur,hH⟩:=hR.boundC hk hr hz
     obtain ⟨h1,h2,h3⟩:=hH i el hel
     rw [he] at fin
     refine fin b (i * K.sz) el o (fun j=>(cur[i * K.sz+j]?).getD undef) rfl hx fun j c hc=>?_
     obtain ⟨cv,g1,g2⟩:=h3 j c hc
     rw [cell_of_heap hcur,g1]
     exact ⟨rfl,g2⟩
  ·cases hx
 ·rename_i el o
  generalize he:a.eval x=val at hv
  cases hv with
  | eptr _ _ b off cur ty fr vals ho hb hs hc hvv =>
   rw [he] at fin
   refine fin b off el o vals rfl hx fun j c hcc=>?_
   rw [cell_of_heap hb,hc j c hcc]
   exact ⟨rfl,hvv j c hcc⟩
 ·cases hx

theorem sim_load (hR:Rel N B w0 ok0 ok ρ e s a w) {t:TypeId} {x:Operand} {n:Option Nat} {d:Nat} {v:AV} {s':Store}
  (hn:(n=none∧scalarT P t=true)∨(∃ k,n=some k∧sizeK P t=some k∧∃ fs,P.underlying t=some (.struct fs)∨∃ m u,P.underlying t=some (.array m u)))
  (hx:ex d (.load n (cX x)) e s=some (v,s')):Sim N B w0 ok0 ok e a ((do pure (Next.value (← Instr.loadAt t (a.eval x))):Sem Next).run P w) v s':=by
 obtain ⟨rfl,val,h1,h2⟩:=load_run hR hn hx
 exact Sim.same hR (val:=val) (by simp [h1]) h2

theorem getElem?_setSeg (cs:List AV) (o:Nat) (vs:List AV) (h:o+vs.length≤cs.length) (j:Nat) :
  (setSeg cs o vs)[j]?=if o≤j∧j<o+vs.length then vs[j - o]? else cs[j]?:=by
 unfold setSeg
 rw [List.append_assoc,List.getElem?_append]
 have hl:(cs.take o).length=o:=by simp;omega
 rw [hl]
 split
 ·rw [if_neg (by omega),List.getElem?_take,if_pos (by assumption)]
 ·rw [List.getElem?_append]
  split
  ·rw [if_pos (by omega)]
  ·rw [if_neg (by omega),List.getElem?_drop]
   congr 1;omega

theorem length_setSeg (cs:List AV) (o:Nat) (vs:List AV) (h:o+vs.length≤cs.length):(setSeg cs o vs).length=cs.length:=by
 unfold setSeg;simp;omega

theorem getElem?_seg (cur:List Value) (o:Nat) (vs:List Value) (h:o+vs.length≤cur.length) (j:Nat) :
  (cur.take o ++ vs ++ cur.drop (o+vs.length))[j]?=if o≤j∧j<o+vs.length then vs[j - o]? else cur[j]?:=by
 rw [List.append_assoc,List.getElem?_append]
 have hl:(cur.take o).length=o:=by simp;omega
 rw [hl]
 split
 ·rw [if_neg (by omega),List.getElem?_take,if_pos (by assumption)]
 ·rw [List.getElem?_append]
  split
  ·rw [if_pos (by omega)]
  ·rw [if_neg (by omega),List.getElem?_drop]
   congr 1;omega

theorem mem_setSeg {cs vs:List AV} {o:Nat} {c:AV} (h:c ∈ setSeg cs o vs):c ∈ cs∨c ∈ vs:=by
 unfold setSeg at h
 rcases List.mem_append.1 h with h | h
 ·rcases List.mem_append.1 h with h | h
  ·exact .inl (List.mem_of_mem_take h)
  ·exact .inr h
 ·exact .inl (List.mem_of_mem_drop h)

theorem cells_putIn {el v:AV} {o:Nat} (h:o+(cellsOf v).length≤(cellsOf el).length) (hpos:0<(cellsOf v).length) :
  cellsOf (putIn el o v)=setSeg (cellsOf el) o (cellsOf v):=by
 have one:∀ el':AV,cellsOf el'=[el']→o+(cellsOf v).length≤(cellsOf el').length→cellsOf v=setSeg (cellsOf el') o (cellsOf v):=by
  intro el' h1 h2
  rw [h1] at h2 ⊢
  simp at h2
  have ho:o=0:=by omega
  have hl:(cellsOf v).length=1:=by omega
  subst ho
  simp [setSeg,hl]
 cases el with
 | agg c=>rfl
 | _=>simp only [putIn];exact one _ rfl h

theorem sim_store (hR:Rel N B w0 ok0 ok ρ e s a w) {t:TypeId} {x y:Operand} {n:Nat} {d:Nat} {v:AV} {s':Store} (hn:sizeK P t=some n)
  (hx:ex d (.store n (cX x) (cX y)) e s=some (v,s')):Sim N B w0 ok0 ok e a ((do Instr.storeAt t (a.eval x) (a.eval y);pure Next.skip:Sem Next).run P w) v s':=by
 have hv:=hR.ev x
 have hy:=hR.ev y
 simp only [ex] at hx
 generalize (cX x).ev e=X at hx hv
 generalize (cX y).ev e=Y at hx hy
 split at hx
 ·rename_i k i o
  split at hx
  ·rename_i K hk
   cases hel:K.es[i]? with
   | none=>simp [hel] at hx
   | some el =>
    simp only [hel,Option.bind_some] at hx
    obtain ⟨⟨h1,h2,h3,hp,h4⟩,h5⟩:=req_some hx
    cases h5
    generalize he:a.eval x=val at hv
    cases hv with
    | ptrd _ _ _ _ hd=>rw [hk] at hd;cases hd
    | ptr _ _ _ K' b hσ hr hz =>
     rw [hk] at hσ;cases hσ
     obtain ⟨_,hBb,_,cur,hcur,hH⟩:=hR.boundC hk hr hz
     obtain ⟨q1,q2,q3⟩:=hH i el hel
     obtain ⟨c1,c2⟩:=hy.cells h1
     have hcl:(a.eval y).cells.toList.length=n:=by rw [Array.length_toList,c1,h2]
     have hfit:i * K.sz+o+n≤cur.size:=by
      have hlast:=q3 (o+n - 1) _ (List.getElem?_eq_getElem (by omega))
      obtain ⟨cv,g1,_⟩:=hlast
      have:=(Array.getElem?_eq_some_iff.1 g1).1
      omega
     have hone:∀ u ∈ (a.eval y).cells.toList,u.oneCell'=true:=by
      intro u hu
      obtain ⟨j,hj⟩:=List.mem_iff_getElem?.1 hu
      have hjl:j<(cellsOf Y).length:=by
       have:=(List.getElem?_eq_some_iff.1 hj).1
       rw [Array.length_toList,c1] at this;exact this
      obtain ⟨cv,g1,g2⟩:=c2 j _ (List.getElem?_eq_getElem hjl)
      rw [Array.getElem?_toList,g1] at hj
      cases hj
      exact g2.oneCell (h3 _ (List.getElem_mem hjl))
     have hst:=run_storeCells_at P b (i * K.sz+o) K.ty (a.eval y).cells.toList 0 cur w hcur (by rw [hcl];omega) hone
     simp only [Nat.add_zero] at hst
     have hsize:(sizeOf t).run P w=.ok n w:=by
      unfold sizeK at hn
      cases hi:P.info? t with
      | none=>simp [hi] at hn
      | some i=>simp [hi] at hn;subst hn;simp [sizeOf,typeInfo,hi]
     have hcs:(a.eval y).cells.size=n:=by rw [c1,h2]
     have hrun:(do Instr.storeAt t (a.eval x) (a.eval y);pure Next.skip:Sem Next).run P w=.ok .skip (w.setRow b (cur.toList.take (i * K.sz+o) ++ (a.eval y).cells.toList ++ cur.toList.drop (i * K.sz+o+(a.eval y).cells.toList.length)).toArray):=by
      rw [he]
      simp [Instr.storeAt,Instr.sureAddr,storeVar,hsize,hcs]
      rw [hst]
      simp [hcs]
     rw [he] at hrun
     refine ⟨ok,ρ,_,fun _ h=>h,?_,.inr ⟨hrun,rfl⟩⟩
     have hgetE:∀ j,(cur.toList.take (i * K.sz+o) ++ (a.eval y).cells.toList ++ cur.toList.drop (i * K.sz+o+(a.eval y).cells.toList.length))[j]? =
       if i * K.sz+o≤j∧j<i * K.sz+o+n then (a.eval y).cells[j - (i * K.sz+o)]? else cur[j]?:=by
      intro j
      rw [getElem?_seg _ _ _ (by rw [hcl,Array.length_toList];omega),hcl,Array.getElem?_toList,Array.getElem?_toList]
     refine hR.set hk hr hcur (cur':=(cur.toList.take (i * K.sz+o) ++ (a.eval y).cells.toList ++ cur.toList.drop (i * K.sz+o+(a.eval y).cells.toList.length)).toArray) ?_ ?_ (setRow_heap w b cur _ _ _ hcur) (fun j hj=>setRow_other w b j _ hj) ⟨⟨rfl,rfl,rfl,by simp,fun k' hk'=>setRow_other w b k' _ (by omega)⟩,Nat.le_refl _⟩ (by simp)
     ·simp only [List.size_toArray,List.length_append,List.length_take,List.length_drop,Array.length_toList] at hcl ⊢
      omega
     ·intro j el' hj
      have hsz:=hz
      by_cases hji:j=i
      ·subst hji
       have hjl:j<K.es.length:=(List.getElem?_eq_some_iff.1 hel).1
       rw [List.getElem?_set_self hjl] at hj
       cases hj
       have hput:=cells_putIn (el:=el) (o:=o) (by rw [h2];exact h4) (by omega)
       refine ⟨?_,?_,fun o' c hc=>?_⟩
       ·rw [hput,length_setSeg _ _ _ (by rw [h2];exact h4)];exact q1
       ·intro c hc
        rw [hput] at hc
        rcases mem_setSeg hc with hc | hc
        ·exact q2 c hc
        ·exact h3 c hc
       ·rw [hput,getElem?_setSeg _ _ _ (by rw [h2];exact h4),h2] at hc
        simp only [List.getElem?_toArray]
        rw [hgetE]
        split at hc
        ·rename_i hin
         rw [if_pos (by omega)]
         obtain ⟨cv,g1,g2⟩:=c2 _ c hc
         exact ⟨cv,by rw [← g1];congr 1;omega,g2⟩
        ·rename_i hin
         rw [if_neg (by omega)]
         exact q3 o' c hc
      ·rw [List.getElem?_set_ne (by omega)] at hj
       obtain ⟨r1,r2,r3⟩:=hH j el' hj
       refine ⟨r1,r2,fun o' c hc=>?_⟩
       have ho':o'<K.sz:=by rw [← r1];exact (List.getElem?_eq_some_iff.1 hc).1
       simp only [List.getElem?_toArray]
       rw [hgetE,if_neg]
       ·exact r3 o' c hc
       ·have:o+n≤K.sz:=by rw [← q1];exact h4
        rcases Nat.lt_or_gt_of_ne hji with h | h
        ·have:(j+1) * K.sz≤i * K.sz:=Nat.mul_le_mul_right _ h
         rw [Nat.add_mul] at this;omega
        ·have:(i+1) * K.sz≤j * K.sz:=Nat.mul_le_mul_right _ h
         rw [Nat.add_mul] at this;omega
  ·cases hx
 ·cases hx
end
end Go.Av

/- Each operation,in the model and at abstract values: the second part. By an AI agent;nothing here is trusted. -/
namespace Go.Av

theorem wrap_i64 {n:Int} (h:I64 n):IntKind.i64.wrap n=n:=by
 rw [IntKind.wrap_i64];unfold I64 at h;omega

section
variable {P:Program} {N B:Nat} {w0:World} {ok0:F0} {ok:Nat→Prop} {ρ:Nat→Option Nat} {e:Env} {s:Store} {a:Act} {w:World}

theorem arith_run {k:IntKind} {n:Int} {v:AV} (h:arith k n=some v):v=.int k (k.wrap n):=by
 unfold arith at h
 split at h
 ·rename_i hk;subst hk
  obtain ⟨h1,h2⟩:=req_some h
  cases h2;rw [wrap_i64 h1]
 ·cases h;rfl

theorem binA_T {op:BinOp} {x y v:AV} (h:binA op x y=some v):binT op x y=some v:=by
 unfold binT
 split
 ·simp only [binA] at h
  obtain ⟨rfl,h2⟩:=req_some h
  rw [arith_run h2];exact if_pos rfl
 ·simp only [binA] at h
  obtain ⟨rfl,h2⟩:=req_some h
  rw [arith_run h2];exact if_pos rfl
 ·simp only [binA] at h
  obtain ⟨rfl,h2⟩:=req_some h
  rw [arith_run h2];exact if_pos rfl
 ·exact h

theorem bytes_eq (a b:ByteArray):(a.toList == b.toList)=decide (a.data.toList=b.data.toList):=by
 rw [ByteArray.toList_eq,ByteArray.toList_eq]
 exact (Bool.beq_eq_decide_eq _ _)

def eq1 (tag:Nat) (c c':AV):Option Bool:=eqT [tag] [c] [c']

theorem eq1_scalar {h:Array Obj} {t:TypeId} {tag:Nat} (ht:(tag=0∧P.underlying t=some .bool)∨(tag=1∧∃ k,P.underlying t=some (.int k))∨(tag=2∧P.underlying t=some .string))
  {x y:Value} {c c':AV} (hx:VR h ok ρ s c x) (hy:VR h ok ρ s c' y) {q:Bool} (hq:eq1 tag c c'=some q) (d:Nat) :
  (Op.equalIn (d+1) t x y).run P w=.ok q w:=by
 rcases ht with ⟨rfl,ht⟩ | ⟨rfl,k,ht⟩ | ⟨rfl,ht⟩
 ·cases c <;> cases c' <;> simp [eq1,eqT] at hq
  subst hq
  cases hx;cases hy
  rw [run_equalIn_bool' w d t _ _ ht,Bool.beq_eq_decide_eq]
 ·cases c <;> cases c' <;> simp [eq1,eqT] at hq
  obtain ⟨rfl,rfl⟩:=hq
  cases hx;cases hy
  rw [run_equalIn_int w d t _ k _ _ ht,Bool.beq_eq_decide_eq]
 ·cases c <;> cases c' <;> simp [eq1,eqT] at hq
  subst hq
  cases hx with
  | str _ b hb =>
  cases hy with
  | str _ b' hb' =>
  rw [run_equalIn_string w d t _ _ ht,bytes_eq,hb,hb']

def Val (P:Program) (h:Array Obj) (ok:Nat→Prop) (ρ:Nat→Option Nat) (s:Store) (t:TypeId) (x:Value) (as:List AV):Prop :=
 if scalarT P t then ∃ c,as[0]?=some c∧VR h ok ρ s c x
 else ∃ xs,x=.agg xs∧∀ (i:Nat) (c:AV),as[i]?=some c→∃ u,xs[i]?=some u∧VR h ok ρ s c u

def eqAll (as bs:List AV) (l:List (Nat × Nat)):Bool:=l.all fun j=>(eq1 j.2 (as.getD j.1 .undef) (bs.getD j.1 .undef)).getD false

theorem run_part {h:Array Obj} {t:TypeId} {n off:Nat} (hn:sizeK P t=some n) {xs:Array Value} {as:List AV}
  (hxs:∀ (i:Nat) (c:AV),as[i]?=some c→∃ u,xs[i]?=some u∧VR h ok ρ s c u) (hsc:scalarT P t=true→∃ c,as[off]?=some c) (hag:scalarT P t=false→∃ d,P.underlying t=some d) :
  ∃ x,(part t xs off).run P w=.ok x w∧Val P h ok ρ s t x (if scalarT P t then as.drop off else (as.drop off).take n):=by
 have hsz:(sizeOf t).run P w=.ok n w:=by
  unfold sizeK at hn
  cases hi:P.info? t with
  | none=>simp [hi] at hn
  | some i=>simp [hi] at hn;subst hn;simp [sizeOf,typeInfo,hi]
 cases hs:scalarT P t with
 | true =>
  obtain ⟨c,hc⟩:=hsc hs
  obtain ⟨u,h1,h2⟩:=hxs off c hc
  refine ⟨u,?_,?_⟩
  ·unfold scalarT at hs
   split at hs <;> first | (cases hs;done) | skip
   rename_i d g1 g2 g3
   cases hu:P.underlying t with
   | none=>exact absurd hu g3
   | some d =>
    have hagg:(isAgg t).run P w=.ok false w:=by
     cases d <;> first
      | (exact absurd hu (g1 _))
      | (exact absurd hu (g2 _ _))
      | (simp [isAgg,run_underlying hu])
    simp [part,hagg,h1]
  ·simp [Val,hs]
   exact ⟨c,by simpa using hc,h2⟩
 | false =>
  obtain ⟨d,hu⟩:=hag hs
  have hagg:(isAgg t).run P w=.ok true w:=by
   unfold scalarT at hs
   rw [hu] at hs
   cases d <;> first | (cases hs;done) | simp [isAgg,run_underlying hu]
  refine ⟨.agg (xs.extract off (off+n)),by simp [part,hagg,hsz],?_⟩
  simp only [Val,hs,Bool.false_eq_true,if_false]
  refine ⟨_,rfl,fun i c hc=>?_⟩
  rw [List.getElem?_take] at hc
  split at hc
  ·rename_i hi
   rw [List.getElem?_drop] at hc
   obtain ⟨u,h1,h2⟩:=hxs _ c hc
   refine ⟨u,?_,h2⟩
   rw [Array.getElem?_extract,if_pos]
   ·exact h1
   ·have:=(Array.getElem?_eq_some_iff.1 h1).1
    omega
  ·cases hc

theorem run_equalIn_arr (w:World) (d:Nat) (t:TypeId) {el:TypeId} {len:Nat} {i:TypeInfo} (xs ys:Array Value) (hu:P.underlying t=some (.array len el)) (hi:P.info? el=some i) :
  (Op.equalIn (d+1) t (.agg xs) (.agg ys)).run P w=(Op.eqFields d xs ys (arrF el i.size len)).run P w:=by
 have hsz:∀ w,(sizeOf el).run P w=.ok i.size w:=fun w=>by simp [sizeOf,typeInfo,hi]
 simp only [Op.equalIn,Sem.run_bind,run_underlying hu,Result.andThen_ok,hsz,arrF]
 simp only [Std.Legacy.Range.forIn_eq_forIn_range',Std.Legacy.Range.size,Nat.sub_zero,Nat.add_one_sub_one,Nat.div_one,List.range_eq_range']
 generalize List.range' 0 len=is
 induction is generalizing w with
 | nil=>simp [Op.eqFields]
 | cons j is ih =>
  simp only [List.map_cons,List.forIn_cons,Op.eqFields,Sem.run_bind,ne_eq,show ¬ ("x":String) = "_" by decide,not_false_eq_true,if_true]
  generalize (part el xs (j * i.size)).run P w=r1
  cases r1 with
  | ok a w1 =>
   simp only [Result.andThen_ok]
   generalize (part el ys (j * i.size)).run P w1=r2
   cases r2 with
   | ok b w2 =>
    simp only [Result.andThen_ok]
    generalize (Op.equalIn d el a b).run P w2=r3
    cases r3 with
    | ok r w3 =>
     cases r
     ·simp only [Result.andThen_ok,Bool.not_false,if_true,Sem.run_pure]
     ·simp only [Result.andThen_ok,Bool.not_true,Bool.false_eq_true,if_false,Sem.run_pure]
      exact ih w3
    | halt x w3=>simp [Result.andThen]
   | halt x w2=>simp [Result.andThen]
  | halt x w1=>simp [Result.andThen]

theorem run_cmp:∀ (m:Nat) (t:TypeId) (l:List (Nat × Nat)),cmpOffs P m t=some l→∀ (dd:Nat),m≤dd→∀ (h:Array Obj) (x y:Value) (as bs:List AV),
  Val P h ok ρ s t x as→Val P h ok ρ s t y bs→(∀ j ∈ l,∃ q,eq1 j.2 (as.getD j.1 .undef) (bs.getD j.1 .undef)=some q) →
  (Op.equalIn dd t x y).run P w=.ok (eqAll as bs l) w:=by
 intro m
 induction m with
 | zero=>intro t l h;simp [cmpOffs] at h
 | succ m ih =>
  intro t l hl dd hdd h x y as bs hx hy hq
  obtain ⟨dd,rfl⟩:∃ d',dd=d'+1:=⟨dd - 1,by omega⟩
  have scal:∀ tag,l=[(0,tag)]→scalarT P t=true→((tag=0∧P.underlying t=some .bool)∨(tag=1∧∃ k,P.underlying t=some (.int k))∨(tag=2∧P.underlying t=some .string)) →
    (Op.equalIn (dd+1) t x y).run P w=.ok (eqAll as bs l) w:=by
   intro tag e1 e2 e3
   subst e1
   simp only [Val,e2,if_true] at hx hy
   obtain ⟨c,g1,g2⟩:=hx
   obtain ⟨c',g1',g2'⟩:=hy
   obtain ⟨q,hq⟩:=hq (0,tag) (by simp)
   have h1:as.getD 0 .undef=c:=by simp [List.getD,g1]
   have h2:bs.getD 0 .undef=c':=by simp [List.getD,g1']
   rw [h1,h2] at hq
   rw [eq1_scalar e3 g2 g2' hq dd]
   simp only [eqAll,List.all_cons,List.all_nil,Bool.and_true,h1,h2]
   rw [show (eq1 tag c c')=some q from hq];rfl
  have core:∀ (L:List Field) (l:List (Nat × Nat)) (xs ys:Array Value),(∀ (i:Nat) (c:AV),as[i]?=some c→∃ u,xs[i]?=some u∧VR h ok ρ s c u)→(∀ (i:Nat) (c:AV),bs[i]?=some c→∃ u,ys[i]?=some u∧VR h ok ρ s c u) →
    (∀ j ∈ l,∃ q,eq1 j.2 (as.getD j.1 .undef) (bs.getD j.1 .undef)=some q)→cmpF P (cmpOffs P m) L=some l→(Op.eqFields dd xs ys L).run P w=.ok (eqAll as bs l) w:=by
   clear hl hq hx hy scal
   intro L l xs ys hxs hys hq hl
   induction L generalizing l with
   | nil=>simp [cmpF] at hl;subst hl;simp [Op.eqFields,eqAll]
   | cons f r ihL =>
    simp only [cmpF] at hl
    split at hl
    ·cases hl
    ·rename_i hname
     split at hl
     ·rename_i l' i l2 g1 g2 g3
      split at hl
      ·rename_i hall
       cases hl
       have hrest:=ihL l2 (fun j hj=>hq j (List.mem_append_right _ hj)) g3
       have hn:sizeK P f.type=some i.size:=by simp [sizeK,g2]
       have hund:∃ d,P.underlying f.type=some d:=by
        cases hd:P.underlying f.type with
        | some d=>exact ⟨d,rfl⟩
        | none=>cases m with
         | zero=>simp [cmpOffs] at g1
         | succ m=>simp [cmpOffs,hd] at g1
       have hjlt:∀ j ∈ l',j.1<i.size:=fun j hj=>of_decide_eq_true (List.all_eq_true.1 hall j hj)
       have hhead:∀ (zs:List AV),(∀ j ∈ l',∃ c,zs[f.offset+j.1]?=some c)→scalarT P f.type=true→∃ c,zs[f.offset]?=some c:=by
        intro zs hz hs
        cases m with
        | zero=>simp [cmpOffs] at g1
        | succ m =>
         obtain ⟨d,hd⟩:=hund
         simp only [cmpOffs,hd] at g1
         simp only [scalarT,hd] at hs
         cases d <;> simp at g1 hs <;> subst g1 <;> simpa using hz _ (List.mem_singleton.2 rfl)
       have some1:∀ {tag:Nat} {p q:AV} {z:Bool},eq1 tag p q=some z→p ≠ .undef∧q ≠ .undef:=by
        intro tag p q z hz
        refine ⟨fun h=>?_,fun h=>?_⟩
        ·subst h;simp [eq1,eqT] at hz
        ·subst h
         revert hz
         cases p <;> simp [eq1,eqT]
       have hget:∀ (zs:List AV) (n:Nat),zs.getD n .undef ≠ .undef→∃ c,zs[n]?=some c:=by
        intro zs n hz
        cases hh:zs[n]? with
        | some c=>exact ⟨c,rfl⟩
        | none=>simp [List.getD,hh] at hz
       have has:∀ j ∈ l',∃ c,as[f.offset+j.1]?=some c:=by
        intro j hj
        obtain ⟨q,hq'⟩:=hq (f.offset+j.1,j.2) (List.mem_append_left _ (List.mem_map.2 ⟨j,hj,rfl⟩))
        exact hget _ _ (some1 hq').1
       have hbs:∀ j ∈ l',∃ c,bs[f.offset+j.1]?=some c:=by
        intro j hj
        obtain ⟨q,hq'⟩:=hq (f.offset+j.1,j.2) (List.mem_append_left _ (List.mem_map.2 ⟨j,hj,rfl⟩))
        exact hget _ _ (some1 hq').2
       obtain ⟨x1,rx,vx⟩:=run_part (P:=P) (w:=w) (off:=f.offset) hn hxs (hhead as has) (fun _=>hund)
       obtain ⟨y1,ry,vy⟩:=run_part (P:=P) (w:=w) (off:=f.offset) hn hys (hhead bs hbs) (fun _=>hund)
       have hloc:∀ (zs:List AV) (j:Nat),j<i.size→(if scalarT P f.type then zs.drop f.offset else (zs.drop f.offset).take i.size).getD j .undef=zs.getD (f.offset+j) .undef:=by
        intro zs j hj
        split
        ·simp [List.getD,List.getElem?_drop]
        ·simp [List.getD,hj]
       have heq:=ih f.type l' g1 dd (by omega) h x1 y1 _ _ vx vy (fun j hj=>by
        rw [hloc as j.1 (hjlt j hj),hloc bs j.1 (hjlt j hj)]
        exact hq (f.offset+j.1,j.2) (List.mem_append_left _ (List.mem_map.2 ⟨j,hj,rfl⟩)))
       have hall':eqAll (if scalarT P f.type then as.drop f.offset else (as.drop f.offset).take i.size) (if scalarT P f.type then bs.drop f.offset else (bs.drop f.offset).take i.size) l' =
         eqAll as bs (l'.map fun j=>(f.offset+j.1,j.2)):=by
        unfold eqAll
        rw [List.all_map,Bool.eq_iff_iff,List.all_eq_true,List.all_eq_true]
        constructor <;> intro hh j hj <;> have:=hh j hj
        ·rw [hloc as j.1 (hjlt j hj),hloc bs j.1 (hjlt j hj)] at this;exact this
        ·rw [hloc as j.1 (hjlt j hj),hloc bs j.1 (hjlt j hj)];exact this
       rw [hall'] at heq
       simp only [Op.eqFields,ne_eq,hname,not_false_eq_true,if_true,Sem.run_bind,rx,ry,heq,Result.andThen_ok]
       have happ:eqAll as bs (l'.map (fun j=>(f.offset+j.1,j.2)) ++ l2)=(eqAll as bs (l'.map fun j=>(f.offset+j.1,j.2)) && eqAll as bs l2):=by simp [eqAll,List.all_append]
       rw [happ]
       cases eqAll as bs (l'.map fun j=>(f.offset+j.1,j.2)) with
       | true=>simpa using hrest
       | false=>simp
      ·cases hl
     ·cases hl
  unfold cmpOffs at hl
  split at hl
  ·rename_i hu;cases hl;exact scal 0 rfl (by simp [scalarT,hu]) (.inl ⟨rfl,hu⟩)
  ·rename_i k hu;cases hl;exact scal 1 rfl (by simp [scalarT,hu]) (.inr (.inl ⟨rfl,_,hu⟩))
  ·rename_i hu;cases hl;exact scal 2 rfl (by simp [scalarT,hu]) (.inr (.inr ⟨rfl,hu⟩))
  ·rename_i fs hu
   split at hl
   ·cases hl
   ·rename_i hst
    have hsc:scalarT P t=false:=by simp [scalarT,hu]
    simp only [Val,hsc,Bool.false_eq_true,if_false] at hx hy
    obtain ⟨xs,rfl,hxs⟩:=hx
    obtain ⟨ys,rfl,hys⟩:=hy
    have hfo:P.fieldsOf t=fs:=by simp [Program.fieldsOf,hu]
    rw [run_equalIn_struct w dd t xs ys (by rw [hfo];exact hu) (by simpa using hst),hfo]
    exact core _ l xs ys hxs hys hq hl
  ·rename_i len el hu
   split at hl
   ·rename_i i hi
    have hsc:scalarT P t=false:=by simp [scalarT,hu]
    simp only [Val,hsc,Bool.false_eq_true,if_false] at hx hy
    obtain ⟨xs,rfl,hxs⟩:=hx
    obtain ⟨ys,rfl,hys⟩:=hy
    rw [run_equalIn_arr w dd t xs ys hu hi]
    exact core _ l xs ys hxs hys hq hl
   ·cases hl
  ·cases hl

theorem eqT_all:∀ (l:List (Nat × Nat)) (k:Nat) (as bs:List AV) (q:Bool),l.map (·.1)=List.range' k l.length→eqT (l.map (·.2)) (as.drop k) (bs.drop k)=some q →
  (∀ j ∈ l,∃ z,eq1 j.2 (as.getD j.1 .undef) (bs.getD j.1 .undef)=some z)∧eqAll as bs l=q
 | [],k,as,bs,q,_,h=>by
  simp only [List.map_nil] at h
  refine ⟨by simp,?_⟩
  cases h1:as.drop k <;> cases h2:bs.drop k <;> rw [h1,h2] at h <;> simp [eqT] at h
  simp [eqAll,h]
 | (i,tag) :: r,k,as,bs,q,hr,h=>by
  simp only [List.map_cons,List.length_cons,List.range'_succ,List.cons.injEq] at hr
  obtain ⟨rfl,hr⟩:=hr
  simp only [List.map_cons] at h
  have step:∃ z q',eq1 tag (as.getD i .undef) (bs.getD i .undef)=some z∧eqT (r.map (·.2)) (as.drop (i+1)) (bs.drop (i+1))=some q'∧q=(z && q'):=by
   cases ha:as.drop i with
   | nil=>rw [ha] at h;unfold eqT at h;split at h <;> simp_all
   | cons c as' =>
    cases hb:bs.drop i with
    | nil=>rw [ha,hb] at h;unfold eqT at h;split at h <;> simp_all
    | cons c' bs' =>
     have e1:as.getD i .undef=c:=by
      have:=congrArg (fun l:List AV=>l[0]?) ha
      simp at this
      simp [List.getD,this]
     have e2:bs.getD i .undef=c':=by
      have:=congrArg (fun l:List AV=>l[0]?) hb
      simp at this
      simp [List.getD,this]
     have d1:as.drop (i+1)=as':=by rw [← List.drop_drop,ha];rfl
     have d2:bs.drop (i+1)=bs':=by rw [← List.drop_drop,hb];rfl
     rw [e1,e2,d1,d2]
     rw [ha,hb] at h
     unfold eqT at h
     split at h
     ·simp_all
     ·rename_i g1 g2 g3
      simp only [List.cons.injEq] at g1 g2 g3
      obtain ⟨rfl,rfl⟩:=g1;obtain ⟨rfl,rfl⟩:=g2;obtain ⟨rfl,rfl⟩:=g3
      simp only [Option.map_eq_some_iff] at h
      obtain ⟨q',h1,h2⟩:=h
      exact ⟨_,q',by simp [eq1,eqT],h1,h2.symm⟩
     ·rename_i g1 g2 g3
      simp only [List.cons.injEq] at g1 g2 g3
      obtain ⟨rfl,rfl⟩:=g1;obtain ⟨rfl,rfl⟩:=g2;obtain ⟨rfl,rfl⟩:=g3
      split at h
      ·rename_i hk
       simp only [Option.map_eq_some_iff] at h
       obtain ⟨q',h1,h2⟩:=h
       exact ⟨_,q',by simp [eq1,eqT,hk],h1,h2.symm⟩
      ·cases h
     ·rename_i g1 g2 g3
      simp only [List.cons.injEq] at g1 g2 g3
      obtain ⟨rfl,rfl⟩:=g1;obtain ⟨rfl,rfl⟩:=g2;obtain ⟨rfl,rfl⟩:=g3
      simp only [Option.map_eq_some_iff] at h
      obtain ⟨q',h1,h2⟩:=h
      exact ⟨_,q',by simp [eq1,eqT],h1,h2.symm⟩
     ·cases h
  obtain ⟨z,q',h1,h2,h3⟩:=step
  obtain ⟨i1,i2⟩:=eqT_all r (i+1) as bs q' hr h2
  refine ⟨fun j hj=>?_,?_⟩
  ·rcases List.mem_cons.1 hj with rfl | hj
   ·exact ⟨z,h1⟩
   ·exact i1 j hj
  ·have:eqAll as bs ((i,tag) :: r)=((eq1 tag (as.getD i .undef) (bs.getD i .undef)).getD false && eqAll as bs r):=rfl
   rw [this,h1,i2,h3];rfl

theorem sim_eqS (hR:Rel N B w0 ok0 ok ρ e s a w) {neg:Bool} {op:BinOp} (hop:op=if neg then .neq else .eql) {t:TypeId} {x y:Operand} {tags:List Nat} {d:Nat} {v:AV} {s':Store}
  (hsc:scalarT P t=false) (ht:tagsOf P t=some tags) (hx:ex d (.eqS neg tags (cX x) (cX y)) e s=some (v,s')) :
  Sim N B w0 ok0 ok e a ((do pure (Next.value (← (do eqGuard op t x y (a.eval x) (a.eval y);binOp op t (a.eval x) (a.eval y):Sem Value))):Sem Next).run P w) v s':=by
 have hv:=hR.ev x
 have hy:=hR.ev y
 simp only [ex] at hx
 generalize (cX x).ev e=X at hx hv
 generalize (cX y).ev e=Y at hx hy
 split at hx
 ·rename_i as bs
  obtain ⟨q,hq,hq'⟩:=Option.map_eq_some_iff.1 hx
  cases hq'
  unfold tagsOf at ht
  split at ht
  ·rename_i l hl
   split at ht
   ·rename_i hc
    cases ht
    obtain ⟨hc1,hc2⟩:=hc
    have key:=eqT_all l 0 as bs q (by rw [hc1,List.range_eq_range']) (by simpa using hq)
    have vx:Val P w.heap ok ρ s t (a.eval x) as:=by
     generalize a.eval x=u at hv
     cases hv with
     | agg cs vs hl hvv =>
      simp only [Val,hsc,Bool.false_eq_true,if_false]
      refine ⟨_,rfl,fun i c hc=>⟨vs.getD i undef,?_,hvv i c hc⟩⟩
      have:i<vs.size:=by rw [← hl];exact (List.getElem?_eq_some_iff.1 hc).1
      simp [Array.getD,this]
    have vy:Val P w.heap ok ρ s t (a.eval y) bs:=by
     generalize a.eval y=u at hy
     cases hy with
     | agg cs vs hl hvv =>
      simp only [Val,hsc,Bool.false_eq_true,if_false]
      refine ⟨_,rfl,fun i c hc=>⟨vs.getD i undef,?_,hvv i c hc⟩⟩
      have:i<vs.size:=by rw [← hl];exact (List.getElem?_eq_some_iff.1 hc).1
      simp [Array.getD,this]
    have hrun:=run_cmp (w:=w) 6 t l hl 10000 (by omega) w.heap (a.eval x) (a.eval y) as bs vx vy key.1
    rw [key.2] at hrun
    obtain ⟨xs,ex1⟩:∃ xs,a.eval x=.agg xs:=by simp only [Val,hsc,Bool.false_eq_true,if_false] at vx;obtain ⟨xs,h,_⟩:=vx;exact ⟨xs,h⟩
    obtain ⟨ys,ey1⟩:∃ ys,a.eval y=.agg ys:=by simp only [Val,hsc,Bool.false_eq_true,if_false] at vy;obtain ⟨ys,h,_⟩:=vy;exact ⟨ys,h⟩
    rw [ex1,ey1] at hrun ⊢
    refine Sim.same hR (val:=.bool (q != neg)) ?_ (.bool _)
    have hg:=run_eqGuard_agg (P:=P) w op t x y xs ys hc2
    cases neg <;> simp only [Bool.false_eq_true,if_false,if_true] at hop <;> subst hop
    ·simp [hg,run_eql_struct,hrun]
    ·simp [hg,run_neq_struct,hrun]
   ·cases ht
  ·cases ht
 ·cases hx
end
end Go.Av

/- Each operation,in the model and at abstract values: the third part. By an AI agent;nothing here is trusted. -/
namespace Go.Av

section
variable {P:Program} {N B:Nat} {w0:World} {ok0:F0} {ok:Nat→Prop} {ρ:Nat→Option Nat} {e:Env} {s:Store} {a:Act} {w:World}

theorem size_run {t:TypeId} {n:Nat} (hn:sizeK P t=some n):(sizeOf t).run P w=.ok n w:=by
 unfold sizeK at hn
 cases hi:P.info? t with
 | none=>simp [hi] at hn
 | some i=>simp [hi] at hn;subst hn;simp [sizeOf,typeInfo,hi]

theorem sim_pick (hR:Rel N B w0 ok0 ok ρ e s a w) {x y z:Operand} {d:Nat} {v:AV} {s':Store} (hx:ex d (.pick (cX x) (cX y) (cX z)) e s=some (v,s')) :
  Sim N B w0 ok0 ok e a ((do pure (.value (if ← asBool (a.eval x) then a.eval y else a.eval z)):Sem Next).run P w) v s':=by
 have hv:=hR.ev x
 have h1:=hR.ev y
 have h2:=hR.ev z
 simp only [ex] at hx
 generalize (cX x).ev e=X at hx hv
 split at hx
 ·rename_i t
  cases hx
  generalize a.eval x=val at hv
  cases hv
  refine Sim.same hR (val:=if t then a.eval y else a.eval z) (by simp [asBool]) ?_
  cases t
  ·exact h2
  ·exact h1
 ·cases hx

theorem sim_alloc (hR:Rel N B w0 ok0 ok ρ e s a w) {t:TypeId} {i:TypeInfo} {z:Value} (hi:P.info? t=some i) (hz:i.zero=some z) {d:Nat} {v:AV} {s':Store}
  (hx:ex d (.alloc t i.size (ofV z)) e s=some (v,s')):Sim N B w0 ok0 ok e a ((do pure (Next.value (← Instr.alloc t true (.tuple #[]))):Sem Next).run P w) v s':=by
 simp only [ex] at hx
 refine sim_var hR hx (vr_ofV z) ?_
 simp [Instr.alloc,zeroValue,typeInfo,hi,hz,newVar,newRow]

theorem sim_box (hR:Rel N B w0 ok0 ok ρ e s a w) {t:TypeId} {n:Nat} {x:Operand} {d:Nat} {v:AV} {s':Store}
  (hx:ex d (.box t n (cX x)) e s=some (v,s')):Sim N B w0 ok0 ok e a ((do pure (Next.value (← Instr.box t (a.eval x))):Sem Next).run P w) v s':=by
 simp only [ex] at hx
 refine sim_var hR hx (hR.ev x) ?_
 simp [Instr.box,newVar,newRow]

theorem sim_nil (hR:Rel N B w0 ok0 ok ρ e s a w) {o:Oper} {x:Operand} (ho:o.op=.nilCheck x) {d:Nat} {v:AV} {s':Store}
  (hx:ex d (.nilCheck (cX x)) e s=some (v,s')):Sim N B w0 ok0 ok e a ((execOp a.eval o).run P w) v s':=by
 have hv:=hR.ev x
 simp only [ex] at hx
 generalize (cX x).ev e=X at hx hv
 have hrun:∀ val,a.eval x=val→(∃ p,val=.pointer (some p))∨(∃ f c,val=.func (.func f) #[] c)→(execOp a.eval o).run P w=.ok (.value val) w:=by
  intro val hval h
  unfold execOp
  rw [ho]
  simp only [hval]
  rcases h with ⟨p,rfl⟩ | ⟨f,c,rfl⟩ <;> rfl
 generalize he:a.eval x=val at hv
 split at hx
 ·rename_i k i q
  split at hx
  ·rename_i K hk
   cases hx
   cases hv with
   | ptr _ _ _ K b hσ hr hz=>exact Sim.same hR (hrun _ he (.inl ⟨_,rfl⟩)) (.ptr _ _ _ K b hσ hr hz)
   | ptrd _ _ _ p hd=>rw [hk] at hd;cases hd
  ·cases hx
 ·cases hx
  cases hv with
  | eptr el q b off cur ty fr vals ho hb hs hc hvv=>exact Sim.same hR (hrun _ he (.inl ⟨_,rfl⟩)) (.eptr _ _ b off cur ty fr vals ho hb hs hc hvv)
 ·cases hx
  cases hv with
  | fn f caps vs hl hvv=>exact Sim.same hR (hrun _ he (.inr ⟨_,_,rfl⟩)) (.fn _ _ vs hl hvv)
 ·cases hx

theorem sim_bin (hR:Rel N B w0 ok0 ok ρ e s a w) {op:BinOp} {t:TypeId} {x y:Operand} {d:Nat} {v:AV} {s':Store}
  (hx:ex d (.bin op (cX x) (cX y)) e s=some (v,s')) :
  Sim N B w0 ok0 ok e a ((do pure (Next.value (← (do eqGuard op t x y (a.eval x) (a.eval y);binOp op t (a.eval x) (a.eval y):Sem Value))):Sem Next).run P w) v s':=by
 have hv:=hR.ev x
 have hy:=hR.ev y
 simp only [ex] at hx
 obtain ⟨u,hu,hu'⟩:=Option.map_eq_some_iff.1 hx
 cases hu'
 generalize (cX x).ev e=X at hu hv
 generalize (cX y).ev e=Y at hu hy
 generalize ex1:a.eval x=vx at hv
 generalize ey1:a.eval y=vy at hy
 have fin:∀ val,(binOp op t vx vy).run P w=.ok val w→(eqGuard op t x y vx vy=pure ())→VR w.heap ok ρ s v val→
   Sim N B w0 ok0 ok e a ((do pure (Next.value (← (do eqGuard op t x y vx vy;binOp op t vx vy:Sem Value))):Sem Next).run P w) v s:=by
  intro val h1 h2 h3
  refine Sim.same hR (val:=val) ?_ h3
  rw [h2];simp [h1]
 unfold binT at hu
 split at hu
 ·obtain ⟨rfl,h2⟩:=req_some hu
  cases h2;cases hv;cases hy
  exact fin _ (by rw [binOp_add];rfl) (eqGuard_at_int ..) (.int _ _)
 ·obtain ⟨rfl,h2⟩:=req_some hu
  cases h2;cases hv;cases hy
  exact fin _ (by rw [binOp_sub];rfl) (eqGuard_at_int ..) (.int _ _)
 ·obtain ⟨rfl,h2⟩:=req_some hu
  cases h2;cases hv;cases hy
  exact fin _ (by rw [binOp_mul];rfl) (eqGuard_at_int ..) (.int _ _)
 rename_i n1 n2 n3
 clear n1 n2 n3
 unfold binA at hu
 split at hu
 ·rename_i k p k' q
  cases hv;cases hy
  have g0:=eqGuard_at_int op t x y (.int k' q) k p
  cases op
  case add =>
   obtain ⟨rfl,h2⟩:=req_some hu
   obtain rfl:=arith_run h2
   exact fin _ (by rw [binOp_add];rfl) g0 (.int _ _)
  case sub =>
   obtain ⟨rfl,h2⟩:=req_some hu
   obtain rfl:=arith_run h2
   exact fin _ (by rw [binOp_sub];rfl) g0 (.int _ _)
  case mul =>
   obtain ⟨rfl,h2⟩:=req_some hu
   obtain rfl:=arith_run h2
   exact fin _ (by rw [binOp_mul];rfl) g0 (.int _ _)
  case quo =>
   obtain ⟨⟨rfl,h1⟩,h2⟩:=req_some hu
   obtain rfl:=arith_run h2
   exact fin _ (by rw [binOp_quo];simp [Op.intDiv,h1]) g0 (.int _ _)
  case rem =>
   obtain ⟨⟨rfl,h1⟩,h2⟩:=req_some hu
   cases h2
   exact fin _ (by rw [binOp_rem];simp [Op.intDiv,h1]) g0 (.int _ _)
  case and =>
   obtain ⟨rfl,h2⟩:=req_some hu
   cases h2
   exact fin _ (by rw [binOp_and];rfl) g0 (.int _ _)
  case or =>
   obtain ⟨rfl,h2⟩:=req_some hu
   cases h2
   exact fin _ (by rw [binOp_or];rfl) g0 (.int _ _)
  case xor =>
   obtain ⟨rfl,h2⟩:=req_some hu
   cases h2
   exact fin _ (by rw [binOp_xor];rfl) g0 (.int _ _)
  case andNot=>cases hu
  case shl =>
   obtain ⟨h1,h2⟩:=req_some hu
   cases h2
   exact fin _ (by rw [binOp_shl];simp [Op.shift,Int.not_lt.2 h1]) g0 (.int _ _)
  case shr =>
   obtain ⟨h1,h2⟩:=req_some hu
   cases h2
   exact fin _ (by rw [binOp_shr];simp [Op.shift,Int.not_lt.2 h1]) g0 (.int _ _)
  case eql =>
   obtain ⟨rfl,h2⟩:=req_some hu
   cases h2
   exact fin _ (by rw [binOp_eql];rfl) g0 (by rw [Bool.beq_eq_decide_eq];exact .bool _)
  case neq =>
   obtain ⟨rfl,h2⟩:=req_some hu
   cases h2
   exact fin _ (by rw [binOp_neq];rfl) g0 (by rw [bne,Bool.beq_eq_decide_eq];exact .bool _)
  case lss =>
   obtain ⟨rfl,h2⟩:=req_some hu
   cases h2
   exact fin _ (by rw [binOp_lss];rfl) g0 (.bool _)
  case leq =>
   obtain ⟨rfl,h2⟩:=req_some hu
   cases h2
   exact fin _ (by rw [binOp_leq];rfl) g0 (.bool _)
  case gtr =>
   obtain ⟨rfl,h2⟩:=req_some hu
   cases h2
   exact fin _ (by rw [binOp_gtr];rfl) g0 (.bool _)
  case geq =>
   obtain ⟨rfl,h2⟩:=req_some hu
   cases h2
   exact fin _ (by rw [binOp_geq];rfl) g0 (.bool _)
 ·rename_i p q
  cases hv with
  | str _ b hb =>
  cases hy with
  | str _ b' hb' =>
  have g0:=eqGuard_at_string op t x y (.string b') b
  cases op <;> simp only at hu <;> first | (cases hu;done) | skip
  ·obtain ⟨h1,h2⟩:=req_some hu
   cases h2
   have hs1:b.size=p.length:=by rw [← hb,Array.length_toList];rfl
   have hs2:b'.size=q.length:=by rw [← hb',Array.length_toList];rfl
   refine fin (.string (b ++ b')) ?_ g0 (.str _ _ ?_)
   ·simp [binOp,Op.stringOp,hs1,hs2]
    omega
   ·rw [ByteArray.data_append,Array.toList_append,hb,hb']
  ·cases hu
   refine fin (.bool (decide (p=q))) ?_ g0 (.bool _)
   simp [binOp,Op.stringOp,bytes_eq,hb,hb']
  ·cases hu
   refine fin (.bool (!decide (p=q))) ?_ g0 (.bool _)
   simp [binOp,Op.stringOp,bytes_eq,hb,hb']
 ·cases hu

theorem sim_eqB (hR:Rel N B w0 ok0 ok ρ e s a w) {neg:Bool} {op:BinOp} (hop:op=if neg then .neq else .eql) {t:TypeId} (ht:P.underlying t=some .bool) {x y:Operand} {d:Nat} {v:AV} {s':Store}
  (hx:ex d (.eqB neg (cX x) (cX y)) e s=some (v,s')) :
  Sim N B w0 ok0 ok e a ((do pure (Next.value (← (do eqGuard op t x y (a.eval x) (a.eval y);binOp op t (a.eval x) (a.eval y):Sem Value))):Sem Next).run P w) v s':=by
 have hv:=hR.ev x
 have hy:=hR.ev y
 simp only [ex] at hx
 generalize (cX x).ev e=X at hx hv
 generalize (cX y).ev e=Y at hx hy
 generalize ex1:a.eval x=vx at hv
 generalize ey1:a.eval y=vy at hy
 split at hx
 ·rename_i p q
  cases hx
  cases hv;cases hy
  have g0:=eqGuard_at_bool op t x y (.bool q) p
  refine Sim.same hR (val:=.bool (decide (p=q) != neg)) ?_ (.bool _)
  have he:(Op.equal t (.bool p) (.bool q)).run P w=.ok (decide (p=q)) w:=by
   rw [← Bool.beq_eq_decide_eq]
   exact run_equalIn_bool' w 9999 t p q ht
  rw [g0]
  cases neg <;> simp only [Bool.false_eq_true,if_false,if_true] at hop <;> subst hop <;> simp [binOp,he]
 ·cases hx

theorem sim_un (hR:Rel N B w0 ok0 ok ρ e s a w) {op:UnOp} {x:Operand} {d:Nat} {v:AV} {s':Store}
  (hx:ex d (.un op (cX x)) e s=some (v,s')):Sim N B w0 ok0 ok e a ((do pure (Next.value (← Op.unary op (a.eval x))):Sem Next).run P w) v s':=by
 have hv:=hR.ev x
 simp only [ex] at hx
 obtain ⟨u,hu,hu'⟩:=Option.map_eq_some_iff.1 hx
 cases hu'
 generalize (cX x).ev e=X at hu hv
 generalize ex1:a.eval x=vx at hv
 unfold unA at hu
 split at hu
 ·cases hu;cases hv
  exact Sim.same hR rfl (.bool _)
 ·rename_i k n
  cases hv
  rw [arith_run hu]
  refine Sim.same hR (val:=.int k (k.wrap (0 - n))) rfl ?_
  rw [Int.zero_sub];exact .int _ _
 ·cases hu

theorem sim_conv (hR:Rel N B w0 ok0 ok ρ e s a w) {src dst:TypeId} {k0 k:IntKind} (hs:P.underlying src=some (.int k0)) (hd:P.underlying dst=some (.int k)) {x:Operand} {d:Nat} {v:AV} {s':Store}
  (hx:ex d (.convI k (cX x)) e s=some (v,s')):Sim N B w0 ok0 ok e a ((do pure (Next.value (← convert src dst (a.eval x))):Sem Next).run P w) v s':=by
 have hv:=hR.ev x
 simp only [ex] at hx
 generalize (cX x).ev e=X at hx hv
 generalize ex1:a.eval x=vx at hv
 split at hx
 ·rename_i k1 n
  cases hv
  have hr:(convert src dst (.int k1 n)).run P w=.ok (.int k (k.wrap n)) w:=by simp [convert,run_underlying hs,run_underlying hd,Conv.intToInt]
  obtain ⟨u,hu,hu'⟩:=Option.map_eq_some_iff.1 hx
  cases hu'
  refine Sim.same hR (val:=.int k (k.wrap n)) (by simp [hr]) ?_
  split at hu
  ·rename_i hk;subst hk
   obtain ⟨h1,h2⟩:=req_some hu
   cases h2;rw [wrap_i64 h1];exact .int _ _
  ·cases hu;exact .int _ _
 ·cases hx

theorem sim_convS (hR:Rel N B w0 ok0 ok ρ e s a w) {src dst:TypeId} (hs:P.underlying src=some .string) (hd:P.underlying dst=some .string) {x:Operand} {d:Nat} {v:AV} {s':Store}
  (hx:ex d (.convS (cX x)) e s=some (v,s')):Sim N B w0 ok0 ok e a ((do pure (Next.value (← convert src dst (a.eval x))):Sem Next).run P w) v s':=by
 have hv:=hR.ev x
 simp only [ex] at hx
 generalize (cX x).ev e=X at hx hv
 generalize ex1:a.eval x=vx at hv
 split at hx
 ·cases hx
  cases hv with
  | str _ b hb =>
  refine Sim.same hR (val:=.string b) ?_ (.str _ _ hb)
  simp [convert,run_underlying hs,run_underlying hd]
 ·cases hx

theorem sim_fieldAddr (hR:Rel N B w0 ok0 ok ρ e s a w) {t:TypeId} {fs:Array Field} {f n:Nat} {fd:Field} (ht:P.underlying t=some (.struct fs)) (hf:fs[f]?=some fd) (hn:sizeK P fd.type=some n) (hn0:n ≠ 0)
  {x:Operand} {d:Nat} {v:AV} {s':Store} (hx:ex d (.fieldAddr (cX x) fd.offset) e s=some (v,s')) :
  Sim N B w0 ok0 ok e a ((do pure (Next.value (← Instr.fieldAt t (a.eval x) f)):Sem Next).run P w) v s':=by
 have hv:=hR.ev x
 simp only [ex] at hx
 generalize (cX x).ev e=X at hx hv
 have hrun:∀ (b q:Nat),(do pure (Next.value (← Instr.fieldAt t (.pointer (some ⟨b,q,none⟩)) f)):Sem Next).run P w=.ok (.value (.pointer (some ⟨b,q+fd.offset,none⟩))) w:=by
  intro b q
  simp [Instr.fieldAt,run_underlying ht,hf,Instr.sureAddr,fieldPlace,size_run (w:=w) hn,hn0,Addr.add_lit]
 generalize ex1:a.eval x=vx at hv
 split at hx
 ·split at hx
  ·rename_i hk
   cases hx
   cases hv with
   | ptr k i o K b hσ hr hz =>
    refine Sim.same hR (hrun b _) ?_
    rw [Nat.add_assoc]
    exact .ptr _ _ _ K b hσ hr hz
   | ptrd _ _ _ p hd=>rw [hk] at hd;cases hd
  ·cases hx
 ·cases hx
  cases hv with
  | eptr el q b off cur ty fr vals ho hb hs hc hvv =>
   refine Sim.same hR (hrun b _) ?_
   rw [Nat.add_assoc]
   exact .eptr _ _ b off cur ty fr vals ho hb hs hc hvv
 ·cases hx

theorem sim_field (hR:Rel N B w0 ok0 ok ρ e s a w) {t:TypeId} {fs:Array Field} {f:Nat} {fd:Field} {n:Option Nat} (ht:P.underlying t=some (.struct fs)) (hf:fs[f]?=some fd)
  (hn:(n=none∧scalarT P fd.type=true)∨(∃ k,n=some k∧sizeK P fd.type=some k∧∃ fs,P.underlying fd.type=some (.struct fs)∨∃ m u,P.underlying fd.type=some (.array m u)))
  {x:Operand} {d:Nat} {v:AV} {s':Store} (hx:ex d (.field (cX x) fd.offset n) e s=some (v,s')) :
  Sim N B w0 ok0 ok e a ((do pure (Next.value (← Instr.field t (a.eval x) f)):Sem Next).run P w) v s':=by
 have hv:=hR.ev x
 simp only [ex] at hx
 generalize (cX x).ev e=X at hx hv
 generalize ex1:a.eval x=vx at hv
 split at hx
 ·rename_i cs
  obtain ⟨u,hu,hu'⟩:=Option.map_eq_some_iff.1 hx
  cases hu'
  cases hv with
  | agg _ vs hl hvv =>
   have hvs:∀ (i:Nat) (c:AV),cs[i]?=some c→∃ q,vs[i]?=some q∧VR w.heap ok ρ s c q:=by
    intro i c hc
    have:i<vs.size:=by rw [← hl];exact (List.getElem?_eq_some_iff.1 hc).1
    exact ⟨vs.getD i undef,by simp [Array.getD,this],hvv i c hc⟩
   have hrun:∀ val,(part fd.type vs fd.offset).run P w=.ok val w→(do pure (Next.value (← Instr.field t (.agg vs) f)):Sem Next).run P w=.ok (.value val) w:=by
    intro val hval
    simp [Instr.field,run_underlying ht,hf,asAgg,hval]
   rcases hn with ⟨rfl,hs⟩ | ⟨k,rfl,hk,ht'⟩
   ·obtain ⟨q,h1,h2⟩:=hvs _ _ (show cs[fd.offset]?=some v from hu)
    refine Sim.same hR (hrun q ?_) h2
    unfold scalarT at hs
    split at hs <;> first | (cases hs;done) | skip
    rename_i d g1 g2 g3
    cases hun:P.underlying fd.type with
    | none=>exact absurd hun g3
    | some d =>
     have hagg:(isAgg fd.type).run P w=.ok false w:=by
      cases d <;> first
       | (exact absurd hun (g1 _))
       | (exact absurd hun (g2 _ _))
       | (simp [isAgg,run_underlying hun])
     simp [part,hagg,h1]
   ·obtain ⟨h1,h2⟩:=req_some hu
    cases h2
    have hagg:(isAgg fd.type).run P w=.ok true w:=by
     obtain ⟨fs,h | ⟨n,u,h⟩⟩:=ht' <;> simp [isAgg,run_underlying h]
    simp only [cellsOf] at h1
    refine Sim.same hR (hrun (.agg (vs.extract fd.offset (fd.offset+k))) (by simp [part,hagg,size_run (w:=w) hk])) ?_
    simp only [cellsOf]
    refine .agg _ _ (by simp;omega) fun i c hc=>?_
    rw [List.getElem?_take] at hc
    split at hc
    ·rw [List.getElem?_drop] at hc
     obtain ⟨q,g1,g2⟩:=hvs _ c hc
     have:(vs.extract fd.offset (fd.offset+k)).getD i undef=q:=by
      rw [Array.getD_eq_getD_getElem?,Array.getElem?_extract,if_pos (by have:=(Array.getElem?_eq_some_iff.1 g1).1;omega),g1];rfl
     rw [this];exact g2
    ·cases hc
 ·cases hx

theorem sim_indexV (hR:Rel N B w0 ok0 ok ρ e s a w) {t el:TypeId} {len:Nat} {n:Option Nat} {sz:Nat} (ht:P.underlying t=some (.array len el)) (hsz:sizeK P el=some sz)
  (hn:(n=none∧scalarT P el=true)∨(n=some sz∧∃ fs,P.underlying el=some (.struct fs)∨∃ m u,P.underlying el=some (.array m u)))
  {x y:Operand} {d:Nat} {v:AV} {s':Store} (hx:ex d (.indexV (cX x) (cX y) sz len n) e s=some (v,s')) :
  Sim N B w0 ok0 ok e a ((do pure (Next.value (← Instr.index t (a.eval x) (a.eval y))):Sem Next).run P w) v s':=by
 have hv:=hR.ev x
 have hy:=hR.ev y
 simp only [ex] at hx
 generalize (cX x).ev e=X at hx hv
 generalize (cX y).ev e=Y at hx hy
 generalize ex1:a.eval x=vx at hv
 generalize ey1:a.eval y=vy at hy
 split at hx
 ·rename_i cs k j
  cases hy
  obtain ⟨⟨h0,h1⟩,hx⟩:=req_some hx
  obtain ⟨u,hu,hu'⟩:=Option.map_eq_some_iff.1 hx
  cases hu'
  cases hv with
  | agg _ vs hl hvv =>
   have hvs:∀ (i:Nat) (c:AV),cs[i]?=some c→∃ q,vs[i]?=some q∧VR w.heap ok ρ s c q:=by
    intro i c hc
    have:i<vs.size:=by rw [← hl];exact (List.getElem?_eq_some_iff.1 hc).1
    exact ⟨vs.getD i undef,by simp [Array.getD,this],hvv i c hc⟩
   have hrun:∀ val,(part el vs (j.toNat * sz)).run P w=.ok val w→(do pure (Next.value (← Instr.index t (.agg vs) (.int k j))):Sem Next).run P w=.ok (.value val) w:=by
    intro val hval
    simp [Instr.index,run_underlying ht,asIntOf,h0,h1,size_run (w:=w) hsz,hval]
   rcases hn with ⟨rfl,hs⟩ | ⟨rfl,ht'⟩
   ·obtain ⟨q,h1,h2⟩:=hvs _ _ (show cs[j.toNat * sz]?=some v from hu)
    refine Sim.same hR (hrun q ?_) h2
    unfold scalarT at hs
    split at hs <;> first | (cases hs;done) | skip
    rename_i d g1 g2 g3
    cases hun:P.underlying el with
    | none=>exact absurd hun g3
    | some d =>
     have hagg:(isAgg el).run P w=.ok false w:=by
      cases d <;> first
       | (exact absurd hun (g1 _))
       | (exact absurd hun (g2 _ _))
       | (simp [isAgg,run_underlying hun])
     simp [part,hagg,h1]
   ·obtain ⟨h1,h2⟩:=req_some hu
    cases h2
    have hagg:(isAgg el).run P w=.ok true w:=by
     obtain ⟨fs,h | ⟨n,u,h⟩⟩:=ht' <;> simp [isAgg,run_underlying h]
    simp only [cellsOf] at h1
    refine Sim.same hR (hrun (.agg (vs.extract (j.toNat * sz) (j.toNat * sz+sz))) (by simp [part,hagg,size_run (w:=w) hsz])) ?_
    simp only [cellsOf]
    refine .agg _ _ (by simp;omega) fun i c hc=>?_
    rw [List.getElem?_take] at hc
    split at hc
    ·rw [List.getElem?_drop] at hc
     obtain ⟨q,g1,g2⟩:=hvs _ c hc
     have:(vs.extract (j.toNat * sz) (j.toNat * sz+sz)).getD i undef=q:=by
      rw [Array.getD_eq_getD_getElem?,Array.getElem?_extract,if_pos (by have:=(Array.getElem?_eq_some_iff.1 g1).1;omega),g1];rfl
     rw [this];exact g2
    ·cases hc
 ·cases hx

theorem sim_extract (hR:Rel N B w0 ok0 ok ρ e s a w) {x:Operand} {i:Nat} {d:Nat} {v:AV} {s':Store} (hx:ex d (.extract (cX x) i) e s=some (v,s')) :
  Sim N B w0 ok0 ok e a ((do pure (Next.value (← Instr.extract (a.eval x) i)):Sem Next).run P w) v s':=by
 have hv:=hR.ev x
 simp only [ex] at hx
 generalize (cX x).ev e=X at hx hv
 generalize ex1:a.eval x=vx at hv
 split at hx
 ·rename_i vs0
  obtain ⟨u,hu,hu'⟩:=Option.map_eq_some_iff.1 hx
  cases hu'
  cases hv with
  | tup _ vs hl hvv =>
   have hi:i<vs.size:=by rw [← hl];exact (List.getElem?_eq_some_iff.1 hu).1
   refine Sim.same hR (val:=vs.getD i undef) ?_ (hvv i _ hu)
   simp [Instr.extract,Array.getD,hi]
 ·cases hx

theorem run_indexAt (t:TypeId) (el:TypeId) (ht:P.underlying t=some (.slice el)) {n:Nat} (hn:sizeK P el=some n) (b off:Nat) (len cap:Nat) (k:IntKind) (i:Int) (h0:0≤i) (h1:i<len) :
  (do pure (Next.value (← Instr.indexAt t (.slice (some ⟨b,off,none⟩) len cap) (.int k i))):Sem Next).run P w=.ok (.value (.pointer (some ⟨b,off+i.toNat * n,none⟩))) w:=by
 simp [Instr.indexAt,run_underlying ht,asIntOf,h0,h1,size_run (w:=w) hn,Addr.add_lit]

theorem sim_indexAddr (hR:Rel N B w0 ok0 ok ρ e s a w) {t el:TypeId} (ht:P.underlying t=some (.slice el)) {n:Nat} (hn:sizeK P el=some n) {x y:Operand} {d:Nat} {v:AV} {s':Store}
  (hx:ex d (.indexAddr (cX x) (cX y) n) e s=some (v,s')):Sim N B w0 ok0 ok e a ((do pure (Next.value (← Instr.indexAt t (a.eval x) (a.eval y))):Sem Next).run P w) v s':=by
 have hv:=hR.ev x
 have hy:=hR.ev y
 simp only [ex] at hx
 generalize (cX x).ev e=X at hx hv
 generalize (cX y).ev e=Y at hx hy
 generalize ex1:a.eval x=vx at hv
 generalize ey1:a.eval y=vy at hy
 split at hx
 ·rename_i l k i
  cases hy
  obtain ⟨h0,h1⟩:=req_some hx
  cases hel:l[i.toNat]? with
  | none=>simp [hel] at h1
  | some xel =>
   simp only [hel,Option.bind_some] at h1
   obtain ⟨h2,h3⟩:=req_some h1
   cases h3
   have hlt:=(List.getElem?_eq_some_iff.1 hel).1
   cases hv with
   | sl0 a' cap=>simp at hel
   | sl _ b off sz cap cur ty fr vals ho hcap hb hs hc hvv =>
    obtain ⟨g1,g2,g3⟩:=hs _ _ hel
    have hsz:sz=n:=by rw [← g1];exact h2
    subst hsz
    refine Sim.same hR (run_indexAt t el ht hn b off _ cap k i h0 (by omega)) ?_
    have:=VR.eptr (h:=w.heap) (ok:=ok) (ρ:=ρ) (σ:=s) xel 0 b (off+i.toNat * sz) cur ty fr (fun j=>vals i.toNat j) ho hb ⟨g2,g3⟩ (fun j c hj=>hc _ _ j c hel hj) (fun j c hj=>hvv _ _ j c hel hj)
    simpa using this
 ·rename_i k len k' i
  cases hy
  split at hx
  ·rename_i K hk
   obtain ⟨⟨h0,h1,h2,h3⟩,h4⟩:=req_some hx
   cases h4
   cases hv with
   | bufd _ _ _ _ _ hd=>rw [hk] at hd;cases hd
   | bufn _ a' K' hσ hr=>omega
   | buf _ _ K' b cap cur hσ hr hb hlen hcap hcur =>
    rw [hk] at hσ;cases hσ
    refine Sim.same hR (run_indexAt t el ht hn b 0 _ cap k' i h0 h1) ?_
    rw [Nat.zero_add,← h2]
    exact .ptr k i.toNat 0 K b hk hr (hR.pos hk hr hb)
  ·cases hx
 ·cases hx

theorem sim_indexArr (hR:Rel N B w0 ok0 ok ρ e s a w) {t el:TypeId} {len:Nat} (ht:P.underlying t=some (.array len el)) {n:Nat} (hn:sizeK P el=some n) {x y:Operand} {d:Nat} {v:AV} {s':Store}
  (hx:ex d (.indexArr (cX x) (cX y) n len) e s=some (v,s')):Sim N B w0 ok0 ok e a ((do pure (Next.value (← Instr.indexAt t (a.eval x) (a.eval y))):Sem Next).run P w) v s':=by
 have hv:=hR.ev x
 have hy:=hR.ev y
 simp only [ex] at hx
 generalize (cX x).ev e=X at hx hv
 generalize (cX y).ev e=Y at hx hy
 generalize ex1:a.eval x=vx at hv
 generalize ey1:a.eval y=vy at hy
 have hrun:∀ (b q:Nat) (k:IntKind) (i:Int),0≤i→i<len→(do pure (Next.value (← Instr.indexAt t (.pointer (some ⟨b,q,none⟩)) (.int k i))):Sem Next).run P w=.ok (.value (.pointer (some ⟨b,q+i.toNat * n,none⟩))) w:=by
  intro b q k i h0 h1
  simp [Instr.indexAt,run_underlying ht,asIntOf,Instr.sureAddr,h0,h1,size_run (w:=w) hn,Addr.add_lit]
 split at hx
 ·cases hy
  split at hx
  ·rename_i hk
   obtain ⟨⟨h0,h1⟩,h2⟩:=req_some hx
   cases h2
   cases hv with
   | ptr k i o K b hσ hr hz =>
    refine Sim.same hR (hrun b _ _ _ h0 h1) ?_
    rw [Nat.add_assoc]
    exact .ptr _ _ _ K b hσ hr hz
   | ptrd _ _ _ p hd=>rw [hk] at hd;cases hd
  ·cases hx
 ·cases hy
  obtain ⟨⟨h0,h1⟩,h2⟩:=req_some hx
  cases h2
  cases hv with
  | eptr el q b off cur ty fr vals ho hb hs hc hvv =>
   refine Sim.same hR (hrun b _ _ _ h0 h1) ?_
   rw [Nat.add_assoc]
   exact .eptr _ _ b off cur ty fr vals ho hb hs hc hvv
 ·cases hx

theorem sim_index (hR:Rel N B w0 ok0 ok ρ e s a w) {t:TypeId} (ht:P.underlying t=some .string) {x y:Operand} {d:Nat} {v:AV} {s':Store}
  (hx:ex d (.index (cX x) (cX y)) e s=some (v,s')):Sim N B w0 ok0 ok e a ((do pure (Next.value (← Instr.index t (a.eval x) (a.eval y))):Sem Next).run P w) v s':=by
 have hv:=hR.ev x
 have hy:=hR.ev y
 simp only [ex] at hx
 generalize (cX x).ev e=X at hx hv
 generalize (cX y).ev e=Y at hx hy
 generalize ex1:a.eval x=vx at hv
 generalize ey1:a.eval y=vy at hy
 split at hx
 ·rename_i l k i
  cases hy
  obtain ⟨h0,h1⟩:=req_some hx
  obtain ⟨u,hu,hu'⟩:=Option.map_eq_some_iff.1 h1
  cases hu'
  cases hv with
  | str _ b hb =>
   have hg:b[i.toNat]?=some u:=by
    have h2:i.toNat<b.size:=by
     have:=(List.getElem?_eq_some_iff.1 hu).1
     rw [← hb,Array.length_toList] at this;exact this
    have h3:b.data[i.toNat]?=some u:=by rw [← Array.getElem?_toList,hb];exact hu
    rw [getElem?_pos b i.toNat h2]
    have h4:=(Array.getElem?_eq_some_iff.1 h3).2
    rw [← h4];rfl
   refine Sim.same hR (val:=.int .u8 u.toNat) ?_ (.int _ _)
   simp [Instr.index,run_underlying ht,asIntOf,h0,hg]
 ·cases hx

theorem sim_len (hR:Rel N B w0 ok0 ok ρ e s a w) {t ty:TypeId} {str:Bool} (ht:(str=true∧P.underlying t=some .string)∨(str=false∧∃ el,P.underlying t=some (.slice el))) {x:Operand} {d:Nat} {v:AV} {s':Store}
  (hx:ex d (.len str (cX x)) e s=some (v,s')):Sim N B w0 ok0 ok e a ((do pure (Next.value (← Builtin.len_ #[t] ty #[a.eval x])):Sem Next).run P w) v s':=by
 have hv:=hR.ev x
 simp only [ex] at hx
 generalize (cX x).ev e=X at hx hv
 generalize ex1:a.eval x=vx at hv
 have hsl:∀ (b:Option Addr) (n c:Nat),str=false→(do pure (Next.value (← Builtin.len_ #[t] ty #[.slice b n c])):Sem Next).run P w=.ok (.value (.int .i64 n)) w:=by
  intro b n c h
  rcases ht with ⟨h1,_⟩ | ⟨_,el,h2⟩
  ·rw [h] at h1;cases h1
  ·simp [Builtin.len_,run_underlying h2,goInt]
 split at hx
 ·rename_i l
  obtain ⟨h0,h1⟩:=req_some hx
  cases h1
  cases hv with
  | str _ b hb =>
   have hs:b.size=l.length:=by rw [← hb,Array.length_toList];rfl
   rcases ht with ⟨_,h⟩ | ⟨h1,_⟩
   ·refine Sim.same hR (val:=.int .i64 b.size) (by simp [Builtin.len_,run_underlying h,goInt]) ?_
    rw [hs];exact .int _ _
   ·rw [h0] at h1;cases h1
 ·obtain ⟨h0,h1⟩:=req_some hx
  cases h1
  cases hv with
  | sl0 a' cap=>exact Sim.same hR (hsl _ _ _ h0) (.int _ _)
  | sl es b off sz cap cur ty fr vals ho hcap hb hs hc hvv=>exact Sim.same hR (hsl _ _ _ h0) (.int _ _)
 ·split at hx
  ·rename_i hk
   obtain ⟨h0,h1⟩:=req_some hx
   cases h1
   cases hv with
   | bufd _ _ a' l c hd=>rw [hk] at hd;cases hd
   | bufn _ a' K' hσ hr=>exact Sim.same hR (hsl _ _ _ h0) (.int _ _)
   | buf _ _ K' b cap cur hσ hr hb hlen hcap hcur=>exact Sim.same hR (hsl _ _ _ h0) (.int _ _)
  ·cases hx
 ·obtain ⟨h0,h1⟩:=req_some hx
  cases h1
  cases hv with
  | nils a'=>exact Sim.same hR (hsl _ _ _ h0) (.int _ _)
 ·cases hx

theorem sim_makeFunc (hR:Rel N B w0 ok0 ok ρ e s a w) {f:FuncId} {first caps:Array Operand} (hf:first.size=0) {d:Nat} {v:AV} {s':Store}
  (hx:ex d (.makeFunc f (caps.toList.map cX)) e s=some (v,s')):Sim N B w0 ok0 ok e a ((do pure (Next.value (← Instr.makeFunc (.func f) (first.map a.eval) (caps.map a.eval))):Sem Next).run P w) v s':=by
 simp only [ex] at hx
 cases hx
 have h0:first=#[]:=Array.eq_empty_of_size_eq_zero hf
 subst h0
 refine Sim.same hR (val:=.func (.func f) #[] (caps.map a.eval)) (by simp [Instr.makeFunc]) (.fn _ _ _ (by simp) fun i c hc=>?_)
 simp only [List.map_map,List.getElem?_map,Option.map_eq_some_iff,Array.getElem?_toList,Function.comp] at hc
 obtain ⟨x,hx,rfl⟩:=hc
 have:(caps.map a.eval).getD i undef=a.eval x:=by simp [Array.getD_eq_getD_getElem?,hx]
 rw [this];exact hR.ev x

theorem getD_max (x y:Int):(if y > x then y else x)=max x y:=by
 rcases Int.lt_or_le x y with h | h
 ·rw [if_pos h];omega
 ·rw [if_neg (by omega)];omega
theorem getD_min (x y:Int):(if y<x then y else x)=min x y:=by
 rcases Int.lt_or_le y x with h | h
 ·rw [if_pos h];omega
 ·rw [if_neg (by omega)];omega

theorem run_maxFrom:∀ (l:List Operand) (p:Int) (v:AV),maxFrom p (l.map fun x=>(cX x).ev e)=some v→Rel N B w0 ok0 ok ρ e s a w →
  ∃ n,v=.int .i64 n∧((l.map a.eval).foldlM Builtin.max2 (.int .i64 p):Sem Value).run P w=.ok (.int .i64 n) w
 | [],p,v,h,_=>by simp [maxFrom] at h;exact ⟨p,h.symm,rfl⟩
 | x :: r,p,v,h,hR=>by
  have hv:=hR.ev x
  simp only [List.map_cons] at h
  generalize (cX x).ev e=X at h hv
  generalize ex1:a.eval x=vx at hv
  unfold maxFrom at h
  split at h <;> first | (cases h;done) | skip
  ·rename_i h1;cases h1
  ·rename_i q r' h1
   cases h1
   cases hv
   obtain ⟨n,h2,h3⟩:=run_maxFrom r (max p q) v h hR
   refine ⟨n,h2,?_⟩
   simp only [List.map_cons,List.foldlM_cons,ex1,Builtin.max2,getD_max,Sem.run_bind,Sem.run_pure,Result.andThen_ok]
   exact h3
theorem run_minFrom:∀ (l:List Operand) (p:Int) (v:AV),minFrom p (l.map fun x=>(cX x).ev e)=some v→Rel N B w0 ok0 ok ρ e s a w →
  ∃ n,v=.int .i64 n∧((l.map a.eval).foldlM Builtin.min2 (.int .i64 p):Sem Value).run P w=.ok (.int .i64 n) w
 | [],p,v,h,_=>by simp [minFrom] at h;exact ⟨p,h.symm,rfl⟩
 | x :: r,p,v,h,hR=>by
  have hv:=hR.ev x
  simp only [List.map_cons] at h
  generalize (cX x).ev e=X at h hv
  generalize ex1:a.eval x=vx at hv
  unfold minFrom at h
  split at h <;> first | (cases h;done) | skip
  ·rename_i h1;cases h1
  ·rename_i q r' h1
   cases h1
   cases hv
   obtain ⟨n,h2,h3⟩:=run_minFrom r (min p q) v h hR
   refine ⟨n,h2,?_⟩
   simp only [List.map_cons,List.foldlM_cons,ex1,Builtin.min2,getD_min,Sem.run_bind,Sem.run_pure,Result.andThen_ok]
   exact h3

theorem sim_max (hR:Rel N B w0 ok0 ok ρ e s a w) {ts:Array TypeId} {t:TypeId} {xs:Array Operand} {d:Nat} {v:AV} {s':Store}
  (hx:ex d (.max (xs.toList.map cX)) e s=some (v,s')):Sim N B w0 ok0 ok e a ((do pure (Next.value (← Builtin.max_ ts t (xs.map a.eval))):Sem Next).run P w) v s':=by
 simp only [ex] at hx
 obtain ⟨u,hu,hu'⟩:=Option.map_eq_some_iff.1 hx
 cases hu'
 rw [List.map_map] at hu
 have hxs:(xs.map a.eval).toList=xs.toList.map a.eval:=by simp
 unfold Builtin.max_
 rw [hxs]
 cases hl:xs.toList with
 | nil=>rw [hl] at hu;simp [maxA] at hu
 | cons x r =>
  rw [hl] at hu
  have hv:=hR.ev x
  simp only [List.map_cons,Function.comp] at hu
  generalize (cX x).ev e=X at hu hv
  generalize ex1:a.eval x=vx at hv
  unfold maxA at hu
  split at hu <;> first | (cases hu;done) | skip
  rename_i p r' h1
  cases h1
  cases hv
  obtain ⟨n,rfl,h2⟩:=run_maxFrom (P:=P) r p v hu hR
  refine Sim.same hR (val:=.int .i64 n) ?_ (.int _ _)
  simp only [List.map_cons,ex1,Sem.run_bind,h2,Result.andThen_ok,Sem.run_pure]

theorem sim_min (hR:Rel N B w0 ok0 ok ρ e s a w) {ts:Array TypeId} {t:TypeId} {xs:Array Operand} {d:Nat} {v:AV} {s':Store}
  (hx:ex d (.min (xs.toList.map cX)) e s=some (v,s')):Sim N B w0 ok0 ok e a ((do pure (Next.value (← Builtin.min_ ts t (xs.map a.eval))):Sem Next).run P w) v s':=by
 simp only [ex] at hx
 obtain ⟨u,hu,hu'⟩:=Option.map_eq_some_iff.1 hx
 cases hu'
 rw [List.map_map] at hu
 have hxs:(xs.map a.eval).toList=xs.toList.map a.eval:=by simp
 unfold Builtin.min_
 rw [hxs]
 cases hl:xs.toList with
 | nil=>rw [hl] at hu;simp [minA] at hu
 | cons x r =>
  rw [hl] at hu
  have hv:=hR.ev x
  simp only [List.map_cons,Function.comp] at hu
  generalize (cX x).ev e=X at hu hv
  generalize ex1:a.eval x=vx at hv
  unfold minA at hu
  split at hu <;> first | (cases hu;done) | skip
  rename_i p r' h1
  cases h1
  cases hv
  obtain ⟨n,rfl,h2⟩:=run_minFrom (P:=P) r p v hu hR
  refine Sim.same hR (val:=.int .i64 n) ?_ (.int _ _)
  simp only [List.map_cons,ex1,Sem.run_bind,h2,Result.andThen_ok,Sem.run_pure]
end
end Go.Av

/- Each operation,in the model and at abstract values: the fourth part: slices cut,made,built,appended to;structs built. By an AI agent;nothing here is trusted. -/
namespace Go.Av

section
variable {P:Program} {N B:Nat} {w0:World} {ok0:F0} {ok:Nat→Prop} {ρ:Nat→Option Nat} {e:Env} {s:Store} {a:Act} {w:World}

theorem run_bounds (hR:Rel N B w0 ok0 ok ρ e s a w) (isSlice:Bool) (len cap:Nat) (lo hi:Option Operand) {k1 k2:IntKind} {p q:Int}
  (h1:loMx e (lo.map cX)=.int k1 p) (h2:hiMx e len (hi.map cX)=.int k2 q) (h0:0≤p) (hpq:p≤q) (hq:q≤cap) :
  (Instr.sliceBounds isSlice len cap (lo.map a.eval) (hi.map a.eval) none).run P w=.ok (p.toNat,q.toNat,cap) w:=by
 have hlo:(lo.map a.eval=none∧p=0)∨lo.map a.eval=some (.int k1 p):=by
  cases lo with
  | none=>simp [loMx] at h1;exact .inl ⟨rfl,h1.2.symm⟩
  | some x =>
   have hv:=hR.ev x
   simp only [Option.map_some,loMx] at h1
   rw [h1] at hv
   generalize ex1:a.eval x=vx at hv
   cases hv
   exact .inr (by simp [ex1])
 have hhi:(hi.map a.eval=none∧q=len)∨hi.map a.eval=some (.int k2 q):=by
  cases hi with
  | none=>simp [hiMx] at h2;exact .inl ⟨rfl,h2.2.symm⟩
  | some x =>
   have hv:=hR.ev x
   simp only [Option.map_some,hiMx] at h2
   rw [h2] at hv
   generalize ex1:a.eval x=vx at hv
   cases hv
   exact .inr (by simp [ex1])
 rcases hlo with ⟨e1,rfl⟩ | e1 <;> rcases hhi with ⟨e2,rfl⟩ | e2 <;> rw [e1,e2]
 ·simp [Instr.sliceBounds]
 ·simp [Instr.sliceBounds,run_sliceBound w k2 q cap _ hpq hq]
 ·simp [Instr.sliceBounds,run_sliceBound w k1 p len _ h0 hpq]
 ·have hpq':p≤(q.toNat:Int):=by omega
  simp [Instr.sliceBounds,run_sliceBound w k2 q cap _ (by omega) hq,run_sliceBound w k1 p q.toNat _ h0 hpq']

theorem sim_sliceS (hR:Rel N B w0 ok0 ok ρ e s a w) {t:TypeId} (ht:P.underlying t=some .string) {x:Operand} {lo hi mx:Option Operand} (hm:mx=none) {d:Nat} {v:AV} {s':Store}
  (hx:ex d (.slice true 1 (cX x) (lo.map cX) (hi.map cX)) e s=some (v,s')) :
  Sim N B w0 ok0 ok e a ((do pure (Next.value (← Instr.sliceAt t (a.eval x) (lo.map a.eval) (hi.map a.eval) (mx.map a.eval))):Sem Next).run P w) v s':=by
 subst hm
 have hv:=hR.ev x
 simp only [ex] at hx
 generalize (cX x).ev e=X at hx hv
 generalize ex1:a.eval x=vx at hv
 split at hx
 ·rename_i l
  split at hx
  ·rename_i k1 p k2 q h1 h2
   obtain ⟨⟨_,h3,h4,h5⟩,h6⟩:=req_some hx
   cases h6
   cases hv with
   | str _ b hb =>
    have hs:b.size=l.length:=by rw [← hb,Array.length_toList];rfl
    have hrun:=run_bounds (P:=P) hR false b.size b.size lo hi h1 (by rw [hs];exact h2) h3 h4 (by omega)
    refine Sim.same hR (val:=.string (b.extract p.toNat q.toNat)) ?_ (.str _ _ ?_)
    ·simp [Instr.sliceAt,run_underlying ht,Instr.slice,hrun]
    ·rw [ByteArray.data_extract,Array.toList_extract,hb]
     rw [List.extract_eq_take_drop,List.drop_take]
  ·cases hx
 ·split at hx
  ·obtain ⟨⟨h0,_⟩,_⟩:=req_some hx;cases h0
  ·cases hx
 ·split at hx
  ·split at hx
   ·obtain ⟨⟨h0,_⟩,_⟩:=req_some hx;cases h0
   ·cases hx
  ·cases hx
 ·obtain ⟨_,h0,_⟩:=Option.map_eq_some_iff.1 hx;obtain ⟨⟨_,h0⟩,_⟩:=req_some h0;cases h0
 ·obtain ⟨_,h0,_⟩:=Option.map_eq_some_iff.1 hx;obtain ⟨⟨_,h0⟩,_⟩:=req_some h0;cases h0
 ·cases hx

theorem run_sliceL {t el:TypeId} (ht:P.underlying t=some (.slice el)) {n:Nat} (hn:sizeK P el=some n) (A:Option Addr) (len cap:Nat) (lo hi:Option Value) {p q:Nat}
  (hb:(Instr.sliceBounds true len cap lo hi none).run P w=.ok (p,q,cap) w) :
  (do pure (Next.value (← Instr.sliceAt t (.slice A len cap) lo hi none)):Sem Next).run P w=.ok (.value (.slice (if cap=p then A else A.map (·.add (p * n))) (q - p) (cap - p))) w:=by
 simp [Instr.sliceAt,run_underlying ht,Instr.slice,hb,size_run (w:=w) hn]

theorem sim_sliceL (hR:Rel N B w0 ok0 ok ρ e s a w) {t el:TypeId} (ht:P.underlying t=some (.slice el)) {n:Nat} (hn:sizeK P el=some n) (hn0:n ≠ 0) {x:Operand} {lo hi mx:Option Operand} (hm:mx=none) {d:Nat} {v:AV} {s':Store}
  (hx:ex d (.slice false n (cX x) (lo.map cX) (hi.map cX)) e s=some (v,s')) :
  Sim N B w0 ok0 ok e a ((do pure (Next.value (← Instr.sliceAt t (a.eval x) (lo.map a.eval) (hi.map a.eval) (mx.map a.eval))):Sem Next).run P w) v s':=by
 subst hm
 have hv:=hR.ev x
 simp only [ex] at hx
 generalize (cX x).ev e=X at hx hv
 generalize ex1:a.eval x=vx at hv
 split at hx
 ·split at hx
  ·obtain ⟨⟨h0,_⟩,_⟩:=req_some hx;cases h0
  ·cases hx
 ·rename_i l
  split at hx
  ·rename_i k1 p k2 q h1 h2
   obtain ⟨⟨_,h3,h4,h5,h6⟩,h7⟩:=req_some hx
   cases h7
   have empty:∀ (A:Option Addr) (c:Nat),p=q→VR w.heap ok ρ s (.sl ((l.take q.toNat).drop p.toNat)) (.slice A (q.toNat - p.toNat) c):=by
    intro A c h
    have:(l.take q.toNat).drop p.toNat=[]:=by rw [List.drop_eq_nil_iff];simp;omega
    rw [this,h,Nat.sub_self]
    exact .sl0 _ _
   cases hv with
   | sl0 A cap =>
    have hb:=run_bounds (P:=P) hR true 0 cap lo hi h1 h2 h3 h4 (by simp at h5;omega)
    refine Sim.same hR (run_sliceL ht hn A 0 cap _ _ hb) (empty _ _ (by simp at h5;omega))
   | sl _ b off sz cap cur ty fr vals ho hcap hb hs hc hvv =>
    have hbb:=run_bounds (P:=P) hR true l.length cap lo hi h1 h2 h3 h4 (by omega)
    refine Sim.same hR (run_sliceL ht hn _ _ cap _ _ hbb) ?_
    by_cases hpq:p=q
    ·exact empty _ _ hpq
    ·rw [if_neg (by omega)]
     have hlen:((l.take q.toNat).drop p.toNat).length=q.toNat - p.toNat:=by simp;omega
     have hget:∀ (i:Nat) (y:AV),((l.take q.toNat).drop p.toNat)[i]?=some y→l[p.toNat+i]?=some y:=by
      intro i y hy
      rw [List.getElem?_drop,List.getElem?_take] at hy
      split at hy
      ·exact hy
      ·cases hy
     have hszn:sz=n:=by
      have hl0:0<l.length:=by omega
      have:=(hs 0 l[0] (List.getElem?_eq_getElem hl0)).1
      rw [h6 _ (List.getElem_mem hl0)] at this;exact this.symm
     subst hszn
     have:=VR.sl (h:=w.heap) (ok:=ok) (ρ:=ρ) (σ:=s) ((l.take q.toNat).drop p.toNat) b (off+p.toNat * sz) sz (cap - p.toNat) cur ty fr (fun i o=>vals (p.toNat+i) o) ho
      (by rw [hlen];omega) hb (fun i y hy=>hs _ y (hget i y hy))
      (fun i y o c hy hcc=>by
       have:=hc _ y o c (hget i y hy) hcc
       rwa [Nat.add_mul,← Nat.add_assoc] at this)
      (fun i y o c hy hcc=>hvv _ y o c (hget i y hy) hcc)
     rw [hlen] at this
     simpa [Addr.add_lit] using this
  ·cases hx
 ·rename_i k len
  split at hx
  ·rename_i K hk
   split at hx
   ·rename_i k1 p k2 q h1 h2
    obtain ⟨⟨_,h3,h4,h5,h6,h7,h8⟩,h9⟩:=req_some hx
    cases h9
    have empty:∀ (A:Option Addr) (c:Nat) {ok':Nat→Prop} {s'':Store},p=q→VR w.heap ok' ρ s'' (.sl ((K.es.take q.toNat).drop p.toNat)) (.slice A (q.toNat - p.toNat) c):=by
     intro A c ok' s'' h
     have:(K.es.take q.toNat).drop p.toNat=[]:=by rw [List.drop_eq_nil_iff];simp;omega
     rw [this,h,Nat.sub_self]
     exact .sl0 _ _
    cases hv with
    | bufd _ _ _ _ _ hd=>rw [hk] at hd;cases hd
    | bufn _ A K' hσ hr =>
     have hbb:=run_bounds (P:=P) hR true 0 0 lo hi h1 h2 h3 h4 (by omega)
     exact ⟨ok,ρ,w,fun _ h=>h,hR.kill k ok (fun _ h=>h) (fun _ h=>.inl h),.inl ⟨_,run_sliceL ht hn A 0 0 _ _ hbb,empty _ _ (by omega)⟩⟩
    | buf _ _ K' b cap cur hσ hr hb hlen hcap hcur =>
     rw [hk] at hσ;cases hσ
     have hbb:=run_bounds (P:=P) hR true len cap lo hi h1 h2 h3 h4 (by omega)
     have hok:∀ b',ok b'→ok b'∨b'=b:=fun _ h=>.inl h
     refine ⟨fun b'=>ok b'∨b'=b,ρ,w,hok,hR.kill k _ hok (fun b' h=>?_),.inl ⟨_,run_sliceL ht hn _ _ cap _ _ hbb,?_⟩⟩
     ·rcases h with h | h
      ·exact .inl h
      ·exact .inr ⟨K,hk,h ▸ hr⟩
     by_cases hpq:p=q
     ·exact empty _ _ hpq
     ·rw [if_neg (by omega)]
      have hlen':((K.es.take q.toNat).drop p.toNat).length=q.toNat - p.toNat:=by simp;omega
      have hget:∀ (i:Nat) (y:AV),((K.es.take q.toNat).drop p.toNat)[i]?=some y→K.es[p.toNat+i]?=some y:=by
       intro i y hy
       rw [List.getElem?_drop,List.getElem?_take] at hy
       split at hy
       ·exact hy
       ·cases hy
      obtain ⟨_,_,_,cur',hcur',hH⟩:=hR.boundC hk hr (hR.pos hk hr hb)
      rw [hb] at hcur';cases hcur'
      subst h7
      have himm:∀ y ∈ K.es,imm y=true:=fun y hy=>List.all_eq_true.1 h8 y hy
      have:=VR.sl (h:=w.heap) (ok:=fun b'=>ok b'∨b'=b) (ρ:=ρ) (σ:=upd s k (some none)) ((K.es.take q.toNat).drop p.toNat) b (0+p.toNat * K.sz) K.sz (cap - p.toNat) cur K.ty (0,0)
       (fun i o=>(cur[(p.toNat+i) * K.sz+o]?).getD undef) (.inr rfl) (by rw [hlen'];omega) hb
       (fun i y hy=>⟨(hH _ y (hget i y hy)).1,(hH _ y (hget i y hy)).2.1,himm y (List.mem_of_getElem? (hget i y hy))⟩)
       (fun i y o c hy hcc=>by
        obtain ⟨cv,g1,g2⟩:=(hH _ y (hget i y hy)).2.2 o c hcc
        have e1:0+p.toNat * K.sz+i * K.sz+o=(p.toNat+i) * K.sz+o:=by rw [Nat.add_mul,Nat.zero_add]
        rw [e1,g1];rfl)
       (fun i y o c hy hcc=>by
        obtain ⟨cv,g1,g2⟩:=(hH _ y (hget i y hy)).2.2 o c hcc
        rw [g1]
        exact g2.imm hok (fun _ _=>rfl) (imm_cells (himm y (List.mem_of_getElem? (hget i y hy))) c (List.mem_of_getElem? hcc)))
      rw [hlen'] at this
      simpa [Addr.add_lit] using this
   ·cases hx
  ·cases hx
 ·obtain ⟨_,h0,_⟩:=Option.map_eq_some_iff.1 hx;obtain ⟨⟨h0,_⟩,_⟩:=req_some h0;cases h0
 ·obtain ⟨_,h0,_⟩:=Option.map_eq_some_iff.1 hx;obtain ⟨⟨h0,_⟩,_⟩:=req_some h0;cases h0
 ·cases hx

theorem run_sliceArr {t el:TypeId} {len:Nat} (ht:P.underlying t=some (.array len el)) (hn:sizeK P el=some 1) (b off:Nat) :
  (do pure (Next.value (← Instr.sliceAt t (.pointer (some ⟨b,off,none⟩)) none none none)):Sem Next).run P w=.ok (.value (.slice (some ⟨b,off,none⟩) len len)) w:=by
 by_cases h0:len=0
 ·subst h0;simp [Instr.sliceAt,Instr.sureAddr,run_underlying ht,Instr.sliceBounds,size_run (w:=w) hn]
 ·simp [Instr.sliceAt,Instr.sureAddr,run_underlying ht,Instr.sliceBounds,size_run (w:=w) hn,h0,Addr.add]

theorem sim_sliceA (hR:Rel N B w0 ok0 ok ρ e s a w) {t el:TypeId} {len:Nat} (ht:P.underlying t=some (.array len el)) (hn:sizeK P el=some 1) {x:Operand} {d:Nat} {v:AV} {s':Store}
  (hx:ex d (.slice true 0 (cX x) (some (.c .undef)) (some (.c (.int .i64 len)))) e s=some (v,s')) :
  Sim N B w0 ok0 ok e a ((do pure (Next.value (← Instr.sliceAt t (a.eval x) none none none)):Sem Next).run P w) v s':=by
 have hv:=hR.ev x
 simp only [ex,loMx,hiMx] at hx
 generalize (cX x).ev e=X at hx hv
 generalize ex1:a.eval x=vx at hv
 simp only [MX.ev] at hx
 cases X <;> (try simp only [reduceCtorEq] at hx) <;> try (cases hx;done)
 case buf k l =>
  exfalso
  revert hx
  cases s k with
  | none=>simp
  | some o=>cases o <;> simp
 case ptr k i o =>
  obtain ⟨v1,h0,h1⟩:=Option.map_eq_some_iff.1 hx
  cases h1
  obtain ⟨_,h0⟩:=req_some h0
  unfold vwB at h0
  split at h0
  ·rename_i K hk
   obtain ⟨el1,h1,h2⟩:=Option.bind_eq_some_iff.1 h0
   obtain ⟨_,h3⟩:=req_some h2
   cases h3
   cases hv with
   | ptrd _ _ _ _ hd=>rw [hk] at hd;cases hd
   | ptr _ _ _ K' b hσ hr hz =>
    rw [Int.toNat_natCast]
    exact Sim.same hR (run_sliceArr ht hn _ _) (.vw _ _ _ _ K' b hσ hr hz)
  ·cases h0
 case eptr el1 o =>
  obtain ⟨v1,h0,h1⟩:=Option.map_eq_some_iff.1 hx
  cases h1
  obtain ⟨_,h0⟩:=req_some h0
  obtain ⟨⟨g1,g2⟩,h3⟩:=req_some h0
  cases h3
  cases hv with
  | eptr _ _ b off cur ty fr vals ho hb hs hc hvv =>
   rw [Int.toNat_natCast] at g2 ⊢
   have hlen:(((cellsOf el1).drop o).take len).length=len:=by simp;omega
   have hget:∀ (i:Nat) (y:AV),(((cellsOf el1).drop o).take len)[i]?=some y→(cellsOf el1)[o+i]?=some y:=by
    intro i y hy
    rw [List.getElem?_take] at hy
    split at hy
    ·rwa [List.getElem?_drop] at hy
    ·cases hy
   have hone:∀ y ∈ cellsOf el1,cellsOf y=[y]:=fun y hy=>by
    have:=hs.1 y hy
    cases y <;> first | rfl | cases this
   have:=VR.sl (h:=w.heap) (ok:=ok) (ρ:=ρ) (σ:=s) (((cellsOf el1).drop o).take len) b (off+o) 1 len cur ty fr (fun i _=>vals (o+i)) ho (by rw [hlen];exact Nat.le_refl _) hb
    (fun i y hy=>by
     have hm:=List.mem_of_getElem? (hget i y hy)
     refine ⟨by rw [hone y hm];rfl,?_,imm_cells hs.2 y hm⟩
     unfold cellsOk;rw [hone y hm];simpa using hs.1 y hm)
    (fun i y q c hy hcc=>by
     have hm:=List.mem_of_getElem? (hget i y hy)
     rw [hone y hm] at hcc
     have hq:q=0:=by cases q with
      | zero=>rfl
      | succ q=>simp at hcc
     subst hq
     have:=hc (o+i) y (hget i y hy)
     rw [Nat.mul_one,Nat.add_zero,Nat.add_assoc];exact this)
    (fun i y q c hy hcc=>by
     have hm:=List.mem_of_getElem? (hget i y hy)
     rw [hone y hm] at hcc
     have hq:q=0:=by cases q with
      | zero=>rfl
      | succ q=>simp at hcc
     subst hq
     simp at hcc;subst hcc
     exact hvv (o+i) y (hget i y hy))
   rw [hlen] at this
   exact Sim.same hR (run_sliceArr ht hn _ _) this

theorem getElem?_madeCells (z:Array Value) (n j:Nat) (hj:j<n):(madeCells z n)[j]?=some (z[j % z.size]!):=by
 simp [madeCells,hj]

theorem holds_made {z:Value} {sz n:Nat} (hz:z.cells.size=sz) (hs:solid (ofV z)=true) (hl:(cellsOf (ofV z)).length=sz) (hok:cellsOk (ofV z)) :
  Holds w.heap ok ρ s sz (List.replicate n (ofV z)) (madeCells z.cells (n * sz)):=by
 intro i x hx
 rw [List.getElem?_replicate] at hx
 split at hx
 ·rename_i hi
  cases hx
  refine ⟨hl,hok,fun o c hc=>?_⟩
  obtain ⟨cv,h1,h2⟩:=((vr_ofV (h:=w.heap) (ok:=ok) (ρ:=ρ) (σ:=s) z).cells hs).2 o c hc
  have ho:o<sz:=by rw [← hl];exact (List.getElem?_eq_some_iff.1 hc).1
  refine ⟨cv,?_,h2⟩
  have hlt:i * sz+o<n * sz:=by
   have:(i+1) * sz≤n * sz:=Nat.mul_le_mul_right _ hi
   rw [Nat.add_mul] at this;omega
  rw [getElem?_madeCells _ _ _ hlt,hz]
  have:(i * sz+o) % sz=o:=by rw [Nat.add_comm,Nat.add_mul_mod_self_right];exact Nat.mod_eq_of_lt ho
  rw [this]
  have hg:=(Array.getElem?_eq_some_iff.1 h1)
  obtain ⟨hlt',hg⟩:=hg
  simp [hlt',hg]
 ·cases hx

theorem sim_makeSlice (hR:Rel N B w0 ok0 ok ρ e s a w) {t el:TypeId} (ht:P.underlying t=some (.slice el)) {i:TypeInfo} (hi:P.info? el=some i) {z:Value} (hz:i.zero=some z) (hzs:z.cells.size=i.size)
  {x y:Operand} {d:Nat} {v:AV} {s':Store} (hx:ex d (.makeSlice el i.size i.bytes (ofV z) (cX x) (cX y)) e s=some (v,s')) :
  Sim N B w0 ok0 ok e a ((do pure (Next.value (← Instr.makeSlice t (a.eval x) (a.eval y))):Sem Next).run P w) v s':=by
 have hv:=hR.ev x
 have hy:=hR.ev y
 simp only [ex] at hx
 generalize (cX x).ev e=X at hx hv
 generalize (cX y).ev e=Y at hx hy
 generalize ex1:a.eval x=vx at hv
 generalize ey1:a.eval y=vy at hy
 split at hx
 ·rename_i k1 n k2 m
  cases hv;cases hy
  obtain ⟨⟨rfl,h0,h1,h2⟩,h3⟩:=req_some hx
  obtain ⟨g1,g2,g3,rfl,rfl⟩:=mk_some h3
  have hr:=run_make (P:=P) w t el i z ht hi hz k1 k2 n n h0 (Int.le_refl _) h1 h2
  have hH:Holds w.heap ok ρ s i.size (List.replicate n.toNat (ofV z)) (madeCells z.cells (n.toNat * i.size)):=by
   by_cases hn:n.toNat=0
   ·rw [hn];intro j x hx;simp at hx
   ·obtain ⟨q1,q2,q3⟩:=g3 (ofV z) (by simp [hn])
    exact holds_made hzs q1 q2 q3
  obtain ⟨p1,p2,p3⟩:=hR.new (w':=w.alloc (.cells (madeCells z.cells (n.toNat * i.size)) el)) g1 g2 hH rfl ((Below.refl _ _).alloc (Nat.le_refl _) _)
  refine ⟨ok,_,_,fun _ h=>h,p3,.inl ⟨.slice (some ⟨w.heap.size,0,none⟩) n.toNat n.toNat,by simp [hr],?_⟩⟩
  exact .buf d n.toNat ⟨el,i.size,_⟩ w.heap.size n.toNat (madeCells z.cells (n.toNat * i.size)) (upd_same _ _ _) (upd_same _ _ _) (heap_alloc_new w _) (Nat.le_refl _) (by simp only [maxLen];omega) (size_madeCells _ _)
 ·cases hx

theorem foldl_set (off:Nat):∀ (l:List Value) (k:Nat) (cs:Array Value),off+k+l.length≤cs.size →
  ((l.zipIdx k).foldl (fun cs (p:Value × Nat)=>cs.setIfInBounds (off+p.2) p.1) cs).size=cs.size ∧
  ∀ j:Nat,((l.zipIdx k).foldl (fun cs (p:Value × Nat)=>cs.setIfInBounds (off+p.2) p.1) cs)[j]?=if off+k≤j∧j<off+k+l.length then l[j - (off+k)]? else cs[j]?
 | [],k,cs,_=>⟨rfl,fun j=>by rw [if_neg (by simp)];rfl⟩
 | x :: r,k,cs,h=>by
  simp only [List.length_cons] at h
  obtain ⟨h1,h2⟩:=foldl_set off r (k+1) (cs.setIfInBounds (off+k) x) (by simp;omega)
  refine ⟨by simp only [List.zipIdx_cons,List.foldl_cons];rw [h1];simp,fun j=>?_⟩
  simp only [List.zipIdx_cons,List.foldl_cons,List.length_cons]
  rw [h2 j]
  by_cases hj:j=off+k
  ·subst hj
   rw [if_neg (by omega),if_pos (by omega),Nat.sub_self,Array.getElem?_setIfInBounds,if_pos rfl,if_pos (by omega)]
   rfl
  ·by_cases hin:off+(k+1)≤j∧j<off+(k+1)+r.length
   ·rw [if_pos hin,if_pos (by omega)]
    have:j - (off+k)=(j - (off+(k+1)))+1:=by omega
    rw [this,List.getElem?_cons_succ]
   ·rw [if_neg hin,if_neg (by omega),Array.getElem?_setIfInBounds,if_neg (by omega)]

theorem foldl_setA (off:Nat) (vs cs:Array Value) (h:off+vs.size≤cs.size) :
  (vs.zipIdx.foldl (fun cs (p:Value × Nat)=>cs.setIfInBounds (off+p.2) p.1) cs).size=cs.size ∧
  ∀ j:Nat,(vs.zipIdx.foldl (fun cs (p:Value × Nat)=>cs.setIfInBounds (off+p.2) p.1) cs)[j]?=if off≤j∧j<off+vs.size then vs[j - off]? else cs[j]?:=by
 have:=foldl_set off vs.toList 0 cs (by simpa using h)
 rw [← Array.foldl_toList,Array.toList_zipIdx]
 simpa using this

def CR (h:Array Obj) (ok:Nat→Prop) (ρ:Nat→Option Nat) (s:Store) (as:List AV) (cs:Array Value):Prop :=
 as.length=cs.size∧∀ (i:Nat) (c:AV),as[i]?=some c→∃ u,cs[i]?=some u∧VR h ok ρ s c u

theorem CR.seg {h:Array Obj} {as:List AV} {cs:Array Value} (hc:CR h ok ρ s as cs) {x:AV} {v:Value} (hv:VR h ok ρ s x v) (hs:solid x=true) {off:Nat} (hl:off+(cellsOf x).length≤as.length) :
  CR h ok ρ s (setSeg as off (cellsOf x)) (v.cells.zipIdx.foldl (fun cs (p:Value × Nat)=>cs.setIfInBounds (off+p.2) p.1) cs):=by
 obtain ⟨c1,c2⟩:=hv.cells hs
 obtain ⟨f1,f2⟩:=foldl_setA off v.cells cs (by rw [c1,← hc.1];exact hl)
 refine ⟨by rw [length_setSeg _ _ _ hl,f1];exact hc.1,fun i c hi=>?_⟩
 rw [getElem?_setSeg _ _ _ hl] at hi
 rw [f2 i,c1]
 split at hi
 ·rename_i hin;rw [if_pos hin];exact c2 _ c hi
 ·rename_i hin;rw [if_neg hin];exact hc.2 i c hi

theorem sim_build (hR:Rel N B w0 ok0 ok ρ e s a w) {t:TypeId} {i:TypeInfo} (hi:P.info? t=some i) {places:Nat→Option (Nat × Nat)} (hp:placesOf P t=some places) {z:Array Value} (hz:i.zero=some (.agg z))
  {parts:Array (Nat × Operand)} {ps:List (Nat × Nat × MX)} (hps:parts.toList.mapM (fun p=>(places p.1).map fun q=>(q.1,q.2,cX p.2))=some ps) {d:Nat} {v:AV} {s':Store}
  (hx:ex d (.build (z.toList.map ofV1) ps) e s=some (v,s')) :
  Sim N B w0 ok0 ok e a ((do pure (Next.value (← Instr.build t (parts.map fun (i,x)=>(i,a.eval x)))):Sem Next).run P w) v s':=by
 simp only [ex] at hx
 obtain ⟨res,h1,h2⟩:=Option.map_eq_some_iff.1 hx
 cases h2
 have hfill:∀ (l:List (Nat × Operand)) (ps:List (Nat × Nat × MX)) (as:List AV) (cs:Array Value),l.mapM (fun p=>(places p.1).map fun q=>(q.1,q.2,cX p.2))=some ps→CR w.heap ok ρ s as cs →
   fillA as (ps.map fun p=>(p.1,p.2.1,p.2.2.ev e))=some res→∃ cs',Instr.fill places cs (l.map fun (i,x)=>(i,a.eval x))=some cs'∧CR w.heap ok ρ s res cs':=by
  intro l
  induction l with
  | nil =>
   intro ps as cs h1 h2 h3
   simp at h1;subst h1
   simp [fillA] at h3;subst h3
   exact ⟨cs,rfl,h2⟩
  | cons p r ih =>
   intro ps as cs h1 h2 h3
   rw [List.mapM_cons] at h1
   cases hpl:places p.1 with
   | none=>simp [hpl] at h1
   | some q =>
    cases hr:r.mapM (fun p=>(places p.1).map fun q=>(q.1,q.2,cX p.2)) with
    | none=>simp [hpl,hr] at h1
    | some ps' =>
     simp [hpl,hr] at h1
     subst h1
     simp only [List.map_cons,fillA] at h3
     obtain ⟨⟨g1,g2,g3⟩,g4⟩:=req_some h3
     have hv:=hR.ev p.2
     obtain ⟨cs',k1,k2⟩:=ih ps' _ _ hr (h2.seg hv g1 (off:=q.1) (by rw [g2];exact g3)) g4
     refine ⟨cs',?_,k2⟩
     obtain ⟨c1,_⟩:=hv.cells g1
     simp only [List.map_cons,Instr.fill,hpl]
     rw [if_neg]
     ·simpa using k1
     ·rw [c1,g2,← h2.1]
      simp;omega
 have hcr:CR w.heap ok ρ s (z.toList.map ofV1) z:=by
  refine ⟨by simp,fun j c hc=>?_⟩
  simp only [List.getElem?_map,Option.map_eq_some_iff,Array.getElem?_toList] at hc
  obtain ⟨u,hu,rfl⟩:=hc
  exact ⟨u,hu,vr_ofV1 u⟩
 obtain ⟨cs',k1,k2⟩:=hfill _ ps _ z hps hcr h1
 have hbuilt:P.built t (parts.map fun (i,x)=>(i,a.eval x)).toList=some cs':=by
  unfold placesOf at hp
  cases hu:P.underlying t with
  | none=>rw [hu] at hp;cases hp
  | some dsc =>
   rw [hu] at hp
   cases dsc <;> first | (cases hp;done) | skip
   all_goals simp only at hp
   all_goals obtain ⟨l,hl,rfl⟩:=Option.map_eq_some_iff.1 hp
   ·simp only [Program.built,hi,hu,hz]
    rw [hl]
    simpa [Value.cells] using k1
   ·simp only [Program.built,hi,hu,hz]
    rw [hl]
    simpa [Value.cells] using k1
 refine Sim.same hR (val:=.agg cs') ?_ (.agg _ _ k2.1 fun j c hc=>?_)
 ·simp [run_build w t _ cs' hbuilt]
 ·obtain ⟨u,hu,hu'⟩:=k2.2 j c hc
  have:cs'.getD j undef=u:=by simp [Array.getD_eq_getD_getElem?,hu]
  rw [this];exact hu'
end
end Go.Av

/- Each operation,in the model and at abstract values: the fifth part: slice literals,append. By an AI agent;nothing here is trusted. -/
namespace Go.Av

section
variable {P:Program} {N B:Nat} {w0:World} {ok0:F0} {ok:Nat→Prop} {ρ:Nat→Option Nat} {e:Env} {s:Store} {a:Act} {w:World}

theorem Goes.grow {w w':World} (hb:Below w.heap.size w w') (ρ:Nat→Option Nat) (s:Store):Goes w.heap w'.heap ρ ρ s s:=by
 refine ⟨fun _ h=>h,fun k K h=>.inr ⟨K,h,rfl,rfl,rfl,fun b cur _ hc=>⟨cur,?_,rfl⟩⟩⟩
 rw [hb.block b (Array.getElem?_eq_some_iff.1 hc).1];exact hc

theorem Rel.grow (hR:Rel N B w0 ok0 ok ρ e s a w) {w':World} (hb:Below w.heap.size w w'):Rel N B w0 ok0 ok ρ e s a w':=by
 have hh:∀ b,ok b→w'.heap[b]?=w.heap[b]?:=fun b h=>hb.block b (hR.oklt b h).1
 constructor
 ·exact hR.defers.mono (fun _ h=>h) hh
 ·exact hR.size
 ·exact hR.below.trans (hb.mono hR.base)
 ·exact Nat.le_trans hR.base hb.size
 ·exact fun n=>(hR.tmps n).mono (fun _ h=>h) hh (Goes.grow hb ρ s)
 ·exact fun b h=>⟨Nat.lt_of_lt_of_le (hR.oklt b h).1 hb.size,(hR.oklt b h).2⟩
 ·exact hR.okold
 ·exact fun k K hk=>(hR.live k K hk).mono (fun _ h=>h) hh (Goes.grow hb ρ s) rfl fun b hb'=>⟨hb.block b (hR.bound hk hb').1,fun _ h=>h⟩
 ·exact hR.inj
 ·exact fun b hb=>(hh b (hR.okold b hb)).trans (hR.kept b hb)
 ·exact hR.goes.trans (Goes.grow hb ρ s)
 ·exact hR.gok

theorem Rel.rename (hR:Rel N B w0 ok0 ok ρ e s a w) {k d:Nat} {K:Blk} (hk:s k=some (some K)) (hd:s d=none) :
  Rel N B w0 ok0 ok (upd ρ d (ρ k)) e (upd (upd s k (some none)) d (some (some K))) a w:=by
 have hkd:k ≠ d:=by rintro rfl;rw [hk] at hd;cases hd
 have hg:Goes w.heap w.heap ρ (upd ρ d (ρ k)) s (upd (upd s k (some none)) d (some (some K))):=by
  refine ⟨fun j hj=>?_,fun j J hj=>?_⟩
  ·have h1:j ≠ d:=by rintro rfl;rw [hd] at hj;cases hj
   have h2:j ≠ k:=by rintro rfl;rw [hk] at hj;cases hj
   rw [upd_other _ _ _ _ h1,upd_other _ _ _ _ h2];exact hj
  ·have h1:j ≠ d:=by rintro rfl;rw [hd] at hj;cases hj
   by_cases h2:j=k
   ·subst h2;exact .inl (by rw [upd_other _ _ _ _ h1,upd_same])
   ·exact .inr ⟨J,by rw [upd_other _ _ _ _ h1,upd_other _ _ _ _ h2];exact hj,rfl,rfl,upd_other _ _ _ _ h1,fun _ cur _ hb=>⟨cur,hb,rfl⟩⟩
 have key:∀ j J,upd (upd s k (some none)) d (some (some K)) j=some (some J)→(j=d∧J=K)∨(j ≠ d∧j ≠ k∧s j=some (some J)):=by
  intro j J hj
  by_cases h1:j=d
  ·subst h1;rw [upd_same] at hj;cases hj;exact .inl ⟨rfl,rfl⟩
  ·rw [upd_other _ _ _ _ h1] at hj
   by_cases h2:j=k
   ·subst h2;rw [upd_same] at hj;cases hj
   ·rw [upd_other _ _ _ _ h2] at hj;exact .inr ⟨h1,h2,hj⟩
 constructor
 ·exact hR.defers
 ·exact hR.size
 ·exact hR.below
 ·exact hR.base
 ·exact fun n=>(hR.tmps n).mono (fun _ h=>h) (fun _ _=>rfl) hg
 ·exact hR.oklt
 ·exact hR.okold
 ·intro j J hj
  rcases key j J hj with ⟨rfl,rfl⟩ | ⟨h1,h2,h3⟩
  ·rcases hR.live k J hk with ⟨g1,g2⟩ | ⟨hz,b,o,x,p1,p2,p3,p4,p5,p6,p7⟩
   rotate_left
   ·exact .inr ⟨hz,b,o,x,by rw [upd_same];exact p1,p2,p3,p4,p5,p6,p7.mono hg⟩
   refine .inl ⟨g1,?_⟩
   rcases g2 with ⟨p1,p2⟩ | ⟨b,cur,p1,p2,p3,p4,p5⟩
   ·exact .inl ⟨by rw [upd_same];exact p1,p2⟩
   ·exact .inr ⟨b,cur,by rw [upd_same];exact p1,p2,p3,p4,fun i x hx=>⟨(p5 i x hx).1,(p5 i x hx).2.1,fun o c hc =>
     let ⟨cv,q1,q2⟩:=(p5 i x hx).2.2 o c hc;⟨cv,q1,q2.mono (fun _ h=>h) (fun _ _=>rfl) hg⟩⟩⟩
  ·exact (hR.live j J h3).mono (fun _ h=>h) (fun _ _=>rfl) hg (upd_other _ _ _ _ h1) fun b _=>⟨rfl,fun _ h=>h⟩
 ·intro j j' J J' b h1 h2 h3 h4
  rcases key j J h1 with ⟨rfl,rfl⟩ | ⟨g1,g2,g3⟩ <;> rcases key j' J' h2 with ⟨rfl,rfl⟩ | ⟨g1',g2',g3'⟩
  ·rfl
  ·rw [upd_same] at h3
   rw [upd_other _ _ _ _ g1'] at h4
   exact absurd (hR.inj j' k J' J b g3' hk h4 h3) g2'
  ·rw [upd_same] at h4
   rw [upd_other _ _ _ _ g1] at h3
   exact absurd (hR.inj j k J J' b g3 hk h3 h4) g2
  ·rw [upd_other _ _ _ _ g1] at h3
   rw [upd_other _ _ _ _ g1'] at h4
   exact hR.inj j j' J J' b g3 g3' h3 h4
 ·exact hR.kept
 ·exact hR.goes.trans hg
 ·exact hR.gok

theorem Rel.virtual (hR:Rel N B w0 ok0 ok ρ e s a w) {d ty sz:Nat} (hd:s d=none) (hsz:0<sz) :
  Rel N B w0 ok0 ok (upd ρ d none) e (upd s d (some (some ⟨ty,sz,[]⟩))) a w:=by
 have hne:∀ k,s k ≠ none→k ≠ d:=fun k hk e=>hk (e ▸ hd)
 have hg:Goes w.heap w.heap ρ (upd ρ d none) s (upd s d (some (some ⟨ty,sz,[]⟩))):=by
  refine ⟨fun k hk=>by rw [upd_other _ _ _ _ (hne k (by simp [hk]))];exact hk,fun k K hk=>.inr ⟨K,?_,rfl,rfl,?_,fun b cur _ hb=>⟨cur,hb,rfl⟩⟩⟩
  ·rw [upd_other _ _ _ _ (hne k (by simp [hk]))];exact hk
  ·rw [upd_other _ _ _ _ (hne k (by simp [hk]))]
 constructor
 ·exact hR.defers
 ·exact hR.size
 ·exact hR.below
 ·exact hR.base
 ·exact fun n=>(hR.tmps n).mono (fun _ h=>h) (fun _ _=>rfl) hg
 ·exact hR.oklt
 ·exact hR.okold
 ·intro k K hk
  by_cases hkd:k=d
  ·subst hkd
   rw [upd_same] at hk;cases hk
   exact .inl ⟨hsz,.inl ⟨upd_same _ _ _,rfl⟩⟩
  ·rw [upd_other _ _ _ _ hkd] at hk
   exact (hR.live k K hk).mono (fun _ h=>h) (fun _ _=>rfl) hg (upd_other _ _ _ _ hkd) fun b _=>⟨rfl,fun _ h=>h⟩
 ·intro k k' K K' b h1 h2 h3 h4
  by_cases hk:k=d
  ·subst hk;rw [upd_same] at h3;cases h3
  ·by_cases hk':k'=d
   ·subst hk';rw [upd_same] at h4;cases h4
   ·rw [upd_other _ _ _ _ hk] at h1 h3
    rw [upd_other _ _ _ _ hk'] at h2 h4
    exact hR.inj k k' K K' b h1 h2 h3 h4
 ·exact hR.kept
 ·exact hR.goes.trans hg
 ·exact hR.gok

def H0 (h:Array Obj) (ok:Nat→Prop) (ρ:Nat→Option Nat) (s:Store) (sz:Nat) (es:List AV) (cur:Array Value):Prop :=
 cur.size=es.length * sz∧∀ (i:Nat) (x:AV),es[i]?=some x→solid x=true→(cellsOf x).length=sz∧∀ (o:Nat) (c:AV),(cellsOf x)[o]?=some c→∃ cv,cur[i * sz+o]?=some cv∧VR h ok ρ s c cv

theorem H0.set {h:Array Obj} {sz:Nat} {es:List AV} {cur:Array Value} (hH:H0 h ok ρ s sz es cur) {x:AV} {v:Value} (hv:VR h ok ρ s x v) (hs:solid x=true) (hl:(cellsOf x).length=sz) {i:Nat} (hi:i<es.length) :
  H0 h ok ρ s sz (es.set i x) (v.cells.zipIdx.foldl (fun cs (p:Value × Nat)=>cs.setIfInBounds (i * sz+p.2) p.1) cur):=by
 obtain ⟨c1,c2⟩:=hv.cells hs
 have hfit:i * sz+v.cells.size≤cur.size:=by
  rw [c1,hl,hH.1]
  have:(i+1) * sz≤es.length * sz:=Nat.mul_le_mul_right _ hi
  rw [Nat.add_mul] at this;omega
 obtain ⟨f1,f2⟩:=foldl_setA (i * sz) v.cells cur hfit
 refine ⟨by rw [f1,hH.1];simp,fun j y hy hsy=>?_⟩
 by_cases hji:j=i
 ·subst hji
  rw [List.getElem?_set_self hi] at hy
  cases hy
  refine ⟨hl,fun o c hc=>?_⟩
  have ho:o<sz:=by rw [← hl];exact (List.getElem?_eq_some_iff.1 hc).1
  rw [f2,if_pos (by rw [c1,hl];omega)]
  have:=c2 o c hc
  rwa [show j * sz+o - j * sz=o by omega]
 ·rw [List.getElem?_set_ne (by omega)] at hy
  obtain ⟨g1,g2⟩:=hH.2 j y hy hsy
  refine ⟨g1,fun o c hc=>?_⟩
  have ho:o<sz:=by rw [← g1];exact (List.getElem?_eq_some_iff.1 hc).1
  rw [f2,if_neg]
  ·exact g2 o c hc
  ·rw [c1,hl]
   rcases Nat.lt_or_gt_of_ne hji with h | h
   ·have:(j+1) * sz≤i * sz:=Nat.mul_le_mul_right _ h
    rw [Nat.add_mul] at this;omega
   ·have:(i+1) * sz≤j * sz:=Nat.mul_le_mul_right _ h
    rw [Nat.add_mul] at this;omega

theorem sim_buildSlice (hR:Rel N B w0 ok0 ok ρ e s a w) {t el:TypeId} (ht:P.underlying t=some (.slice el)) {i:TypeInfo} (hi:P.info? el=some i) {z:Value} (hz:i.zero=some z) (hzs:z.cells.size=i.size)
  {n:Nat} (hn:n * i.size≤16777216) (hpos:0<i.size) {parts:Array (Nat × Operand)} {d:Nat} {v:AV} {s':Store}
  (hx:ex d (.buildSlice el i.size n (ofV z) (parts.toList.map fun p=>(p.1,cX p.2))) e s=some (v,s')) :
  Sim N B w0 ok0 ok e a ((do pure (Next.value (← Instr.buildSlice t n (parts.map fun (i,x)=>(i,a.eval x)))):Sem Next).run P w) v s':=by
 simp only [ex] at hx
 obtain ⟨es,h1,h2⟩:=Option.bind_eq_some_iff.1 hx
 have hfill:∀ (l:List (Nat × Operand)) (as:List AV) (cs:Array Value),H0 w.heap ok ρ s i.size as cs→fillE i.size as ((l.map fun p=>(p.1,cX p.2)).map fun p=>(p.1,p.2.ev e))=some es →
   ∃ cs',Instr.fill (fun j=>some (j * i.size,i.size)) cs (l.map fun (i,x)=>(i,a.eval x))=some cs'∧H0 w.heap ok ρ s i.size es cs':=by
  intro l
  induction l with
  | nil=>intro as cs g1 g2;simp [fillE] at g2;subst g2;exact ⟨cs,rfl,g1⟩
  | cons p r ih =>
   intro as cs g1 g2
   simp only [List.map_cons,fillE] at g2
   obtain ⟨⟨q1,q2,q3⟩,q4⟩:=req_some g2
   have hv:=hR.ev p.2
   obtain ⟨cs',k1,k2⟩:=ih _ _ (g1.set hv q1 q2 q3) q4
   refine ⟨cs',?_,k2⟩
   obtain ⟨c1,_⟩:=hv.cells q1
   simp only [List.map_cons,Instr.fill]
   rw [if_neg]
   ·exact k1
   ·rw [c1,q2,g1.1]
    have:(p.1+1) * i.size≤as.length * i.size:=Nat.mul_le_mul_right _ q3
    rw [Nat.add_mul] at this
    simp;omega
 have h0:H0 w.heap ok ρ s i.size (List.replicate n (ofV z)) (madeCells z.cells (n * i.size)):=by
  refine ⟨by simp [size_madeCells],fun j x hx hs=>?_⟩
  rw [List.getElem?_replicate] at hx
  split at hx
  ·cases hx
   obtain ⟨c1,c2⟩:=(vr_ofV (h:=w.heap) (ok:=ok) (ρ:=ρ) (σ:=s) z).cells hs
   have hl:(cellsOf (ofV z)).length=i.size:=by rw [← c1,hzs]
   refine ⟨hl,fun o c hc=>?_⟩
   rename_i hj
   obtain ⟨cv,h1,h2⟩:=c2 o c hc
   have ho:o<i.size:=by rw [← hl];exact (List.getElem?_eq_some_iff.1 hc).1
   refine ⟨cv,?_,h2⟩
   have hlt:j * i.size+o<n * i.size:=by
    have:(j+1) * i.size≤n * i.size:=Nat.mul_le_mul_right _ hj
    rw [Nat.add_mul] at this;omega
   rw [getElem?_madeCells _ _ _ hlt,hzs]
   have:(j * i.size+o) % i.size=o:=by rw [Nat.add_comm,Nat.add_mul_mod_self_right];exact Nat.mod_eq_of_lt ho
   rw [this]
   obtain ⟨hlt',hg⟩:=Array.getElem?_eq_some_iff.1 h1
   simp [hlt',hg]
  ·cases hx
 obtain ⟨cs',k1,k2⟩:=hfill parts.toList _ _ h0 h1
 have hrun:(do pure (Next.value (← Instr.buildSlice t n (parts.map fun (i,x)=>(i,a.eval x)))):Sem Next).run P w=.ok (.value (.slice (some ⟨w.heap.size,0,none⟩) n n)) (w.alloc (.cells cs' el)):=by
  have hk1:Instr.fill (fun j=>some (j * i.size,i.size)) (madeCells z.cells (n * i.size)) (parts.toList.map fun x=>(x.1,a.eval x.2))=some cs':=k1
  by_cases h:n * i.size=0
  ·have hm:madeCells z.cells (n * i.size)=#[]:=by rw [h];simp [madeCells,Array.range_zero']
   rw [hm] at hk1
   simp [Instr.buildSlice,run_underlying ht,sizeOf,typeInfo,hi,h,Array.range_zero',hk1,newRow]
  ·have hm:(Array.range (n * i.size)).map (z.cells[· % z.cells.size]!)=madeCells z.cells (n * i.size):=rfl
   have hnot:¬ (16777216<n * i.size):=by omega
   simp [Instr.buildSlice,run_underlying ht,sizeOf,typeInfo,hi,h,hnot,zeroValue,hz,hm,hk1,newRow]
 split at h2
 ·rename_i hn0
  cases h2
  subst hn0
  exact ⟨ok,ρ,_,fun _ h=>h,hR.grow ((Below.refl _ _).alloc (Nat.le_refl _) _),.inl ⟨_,hrun,.nils _⟩⟩
 ·obtain ⟨g1,g2,g3,rfl,rfl⟩:=mk_some h2
  have hH:Holds w.heap ok ρ s i.size es cs':=by
   intro j x hx
   obtain ⟨q1,q2,q3⟩:=g3 x (List.mem_of_getElem? hx)
   exact ⟨q2,q3,(k2.2 j x hx q1).2⟩
  obtain ⟨p1,p2,p3⟩:=hR.new (w':=w.alloc (.cells cs' el)) g1 g2 hH rfl ((Below.refl _ _).alloc (Nat.le_refl _) _)
  have hlen:es.length=n:=by
   have:∀ (l:List (Nat × AV)) (as:List AV),fillE i.size as l=some es→es.length=as.length:=by
    intro l
    induction l with
    | nil=>intro as h;simp [fillE] at h;rw [h]
    | cons p r ih=>intro as h;simp only [fillE] at h;obtain ⟨_,q⟩:=req_some h;rw [ih _ q];simp
   rw [this _ _ h1];simp
  refine ⟨ok,_,_,fun _ h=>h,p3,.inl ⟨_,hrun,?_⟩⟩
  refine .buf d n ⟨el,i.size,es⟩ w.heap.size n cs' (upd_same _ _ _) (upd_same _ _ _) (heap_alloc_new w _) (Nat.le_refl _) ?_ (by rw [k2.1,hlen])
  have:n≤n * i.size:=Nat.le_mul_of_pos_right n hpos
  simp only [maxLen];omega
theorem scal1_vrI {h h':Array Obj} {ok ok':Nat→Prop} {ρ ρ':Nat→Option Nat} {σ σ':Store} {x:AV} {v:Value} (hs:scal1 x=true) (hv:VR h ok ρ σ x v):VR h' ok' ρ' σ' x v:=by
 cases hv <;> first | (cases hs;done) | (constructor;done) | exact .str _ _ (by assumption)
theorem Rel.extend {w':World} {n0:Nat} (h1:Rel N B w0 ok0 ok ρ e s a w') (hB:B≤n0) (hkeys:∀ k K b,s k=some (some K)→ρ k=some b→b<n0) :
  Rel N B w0 ok0 (fun b=>ok b∨(n0≤b∧b<w'.heap.size)) ρ e s a w':=by
 constructor
 ·exact h1.defers.mono (fun _ h=>.inl h) (fun _ _=>rfl)
 ·exact h1.size
 ·exact h1.below
 ·exact h1.base
 ·exact fun n=>(h1.tmps n).mono (fun _ h=>.inl h) (fun _ _=>rfl) (Goes.refl _ _ _)
 ·intro b h
  rcases h with h | ⟨h,h'⟩
  ·exact h1.oklt b h
  ·exact ⟨h',.inl (Nat.le_trans hB h)⟩
 ·exact fun b h=>.inl (h1.okold b h)
 ·intro k K hk
  refine (h1.live k K hk).mono (fun _ h=>.inl h) (fun _ _=>rfl) (Goes.refl _ _ _) rfl fun b hb'=>⟨rfl,fun _ hno h=>?_⟩
  rcases h with h | ⟨h,h'⟩
  ·exact hno h
  ·have:=hkeys k K b hk hb';omega
 ·exact h1.inj
 ·exact h1.kept
 ·exact h1.goes
 ·exact h1.gok
theorem sim_buildSliceF (hR:Rel N B w0 ok0 ok ρ e s a w) {t el:TypeId} (ht:P.underlying t=some (.slice el)) {i:TypeInfo} (hi:P.info? el=some i) {z:Value} (hz:i.zero=some z) (hzs:z.cells.size=i.size)
  {n:Nat} (hn:n * i.size≤16777216) (hpos:0<i.size) {parts:Array (Nat × Operand)} {d:Nat} {v:AV} {s':Store}
  {es':List AV} (hx:ex d (.buildSlice el i.size n (ofV z) (parts.toList.map fun p=>(p.1,cX p.2))) e s=some (v,s')) (hs':s' d=some (some ⟨el,i.size,es'⟩)) (hv':∃ k m,v=.buf k m) (he:(es'.all fun x=>(cellsOf x).all scal1)=true) (hi':es'.all imm=true) :
  Sim N B w0 ok0 ok e a ((do pure (Next.value (← Instr.buildSlice t n (parts.map fun (i,x)=>(i,a.eval x)))):Sem Next).run P w) (.sl es') s:=by
 simp only [ex] at hx
 obtain ⟨es,h1,h2⟩:=Option.bind_eq_some_iff.1 hx
 have hfill:∀ (l:List (Nat × Operand)) (as:List AV) (cs:Array Value),H0 w.heap ok ρ s i.size as cs→fillE i.size as ((l.map fun p=>(p.1,cX p.2)).map fun p=>(p.1,p.2.ev e))=some es →
   ∃ cs',Instr.fill (fun j=>some (j * i.size,i.size)) cs (l.map fun (i,x)=>(i,a.eval x))=some cs'∧H0 w.heap ok ρ s i.size es cs':=by
  intro l
  induction l with
  | nil=>intro as cs g1 g2;simp [fillE] at g2;subst g2;exact ⟨cs,rfl,g1⟩
  | cons p r ih =>
   intro as cs g1 g2
   simp only [List.map_cons,fillE] at g2
   obtain ⟨⟨q1,q2,q3⟩,q4⟩:=req_some g2
   have hv:=hR.ev p.2
   obtain ⟨cs',k1,k2⟩:=ih _ _ (g1.set hv q1 q2 q3) q4
   refine ⟨cs',?_,k2⟩
   obtain ⟨c1,_⟩:=hv.cells q1
   simp only [List.map_cons,Instr.fill]
   rw [if_neg]
   ·exact k1
   ·rw [c1,q2,g1.1]
    have:(p.1+1) * i.size≤as.length * i.size:=Nat.mul_le_mul_right _ q3
    rw [Nat.add_mul] at this
    simp;omega
 have h0:H0 w.heap ok ρ s i.size (List.replicate n (ofV z)) (madeCells z.cells (n * i.size)):=by
  refine ⟨by simp [size_madeCells],fun j x hx hs=>?_⟩
  rw [List.getElem?_replicate] at hx
  split at hx
  ·cases hx
   obtain ⟨c1,c2⟩:=(vr_ofV (h:=w.heap) (ok:=ok) (ρ:=ρ) (σ:=s) z).cells hs
   have hl:(cellsOf (ofV z)).length=i.size:=by rw [← c1,hzs]
   refine ⟨hl,fun o c hc=>?_⟩
   rename_i hj
   obtain ⟨cv,h1,h2⟩:=c2 o c hc
   have ho:o<i.size:=by rw [← hl];exact (List.getElem?_eq_some_iff.1 hc).1
   refine ⟨cv,?_,h2⟩
   have hlt:j * i.size+o<n * i.size:=by
    have:(j+1) * i.size≤n * i.size:=Nat.mul_le_mul_right _ hj
    rw [Nat.add_mul] at this;omega
   rw [getElem?_madeCells _ _ _ hlt,hzs]
   have:(j * i.size+o) % i.size=o:=by rw [Nat.add_comm,Nat.add_mul_mod_self_right];exact Nat.mod_eq_of_lt ho
   rw [this]
   obtain ⟨hlt',hg⟩:=Array.getElem?_eq_some_iff.1 h1
   simp [hlt',hg]
  ·cases hx
 obtain ⟨cs',k1,k2⟩:=hfill parts.toList _ _ h0 h1
 have hrun:(do pure (Next.value (← Instr.buildSlice t n (parts.map fun (i,x)=>(i,a.eval x)))):Sem Next).run P w=.ok (.value (.slice (some ⟨w.heap.size,0,none⟩) n n)) (w.alloc (.cells cs' el)):=by
  have hk1:Instr.fill (fun j=>some (j * i.size,i.size)) (madeCells z.cells (n * i.size)) (parts.toList.map fun x=>(x.1,a.eval x.2))=some cs':=k1
  by_cases h:n * i.size=0
  ·have hm:madeCells z.cells (n * i.size)=#[]:=by rw [h];simp [madeCells,Array.range_zero']
   rw [hm] at hk1
   simp [Instr.buildSlice,run_underlying ht,sizeOf,typeInfo,hi,h,Array.range_zero',hk1,newRow]
  ·have hm:(Array.range (n * i.size)).map (z.cells[· % z.cells.size]!)=madeCells z.cells (n * i.size):=rfl
   have hnot:¬ (16777216<n * i.size):=by omega
   simp [Instr.buildSlice,run_underlying ht,sizeOf,typeInfo,hi,h,hnot,zeroValue,hz,hm,hk1,newRow]
 split at h2
 ·cases h2
  obtain ⟨k,m,hv'⟩:=hv'
  cases hv'
 ·obtain ⟨g1,g2,g3,rfl,rfl⟩:=mk_some h2
  rw [upd_same] at hs'
  cases hs'
  have hH:Holds w.heap ok ρ s i.size es' cs':=by
   intro j x hx
   obtain ⟨q1,q2,q3⟩:=g3 x (List.mem_of_getElem? hx)
   exact ⟨q2,q3,(k2.2 j x hx q1).2⟩
  have hlen:es'.length=n:=by
   have:∀ (l:List (Nat × AV)) (as:List AV),fillE i.size as l=some es'→es'.length=as.length:=by
    intro l
    induction l with
    | nil=>intro as h;simp [fillE] at h;rw [h]
    | cons p r ih=>intro as h;simp only [fillE] at h;obtain ⟨_,q⟩:=req_some h;rw [ih _ q];simp
   rw [this _ _ h1];simp
  have hg:=hR.grow ((Below.refl w.heap.size w).alloc (Nat.le_refl _) (.cells cs' el))
  have hext:=hg.extend hR.base (fun k K b hk hb=>(hR.bound hk hb).1)
  have hnew:=heap_alloc_new w (.cells cs' el)
  refine ⟨_,_,_,fun _ h=>.inl h,hext,.inl ⟨_,hrun,?_⟩⟩
  have hsz:w.heap.size<(w.alloc (.cells cs' el)).heap.size:=(Array.getElem?_eq_some_iff.1 hnew).1
  rw [← hlen]
  refine .sl es' w.heap.size 0 i.size es'.length cs' el (0,0) (fun j o=>(cs'[j * i.size+o]?).getD undef) (.inr ⟨Nat.le_refl _,hsz⟩) (Nat.le_refl _) hnew (fun j x hx=>⟨(hH j x hx).1,(hH j x hx).2.1,List.all_eq_true.1 hi' x (List.mem_of_getElem? hx)⟩) ?_ ?_
  ·intro j x o c hx hcc
   obtain ⟨cv,p1,_⟩:=(hH j x hx).2.2 o c hcc
   rw [Nat.zero_add,p1];rfl
  ·intro j x o c hx hcc
   obtain ⟨cv,p1,p2⟩:=(hH j x hx).2.2 o c hcc
   rw [p1]
   exact scal1_vrI (List.all_eq_true.1 (List.all_eq_true.1 he x (List.mem_of_getElem? hx)) c (List.mem_of_getElem? hcc)) p2
end
end Go.Av

/- Append,in the model and at abstract values. By an AI agent;nothing here is trusted. -/
namespace Go.Av

section
variable {P:Program} {N B:Nat} {w0:World} {ok0:F0} {ok:Nat→Prop} {ρ:Nat→Option Nat} {e:Env} {s:Store} {a:Act} {w:World}

theorem src_of (hR:Rel N B w0 ok0 ok ρ e s a w) {sz:Nat} {X:AV} {val:Value} {news:List AV} (hv:VR w.heap ok ρ s X val) (h:srcOf sz s X=some news) (hsz:∀ y ∈ news,(cellsOf y).length=sz∧cellsOk y) :
  ∃ (A:Option Addr) (c:Nat) (nv:Nat→Value),val=.slice A news.length c∧(0<news.length→∃ b off,A=some ⟨b,off,none⟩∧∀ j,j<news.length * sz→w.cell? ⟨b,off+j,none⟩=some (nv j)) ∧
   ∀ (i:Nat) (x:AV) (o:Nat) (c:AV),news[i]?=some x→(cellsOf x)[o]?=some c→VR w.heap ok ρ s c (nv (i * sz+o)):=by
 have split:∀ {l:List AV},(∀ y ∈ l,(cellsOf y).length=sz∧cellsOk y)→∀ j,j<l.length * sz→∃ (i:Nat) (x:AV) (o:Nat) (c:AV),l[i]?=some x∧(cellsOf x)[o]?=some c∧j=i * sz+o:=by
  intro l hl j hj
  have hpos:0<sz:=by
   rcases Nat.eq_zero_or_pos sz with h | h
   ·rw [h,Nat.mul_zero] at hj;omega
   ·exact h
  have hi:j / sz<l.length:=Nat.div_lt_of_lt_mul (by rw [Nat.mul_comm];exact hj)
  have ho:j % sz<sz:=Nat.mod_lt _ hpos
  have hx:=List.getElem?_eq_getElem hi
  have hlen:=(hl _ (List.getElem_mem hi)).1
  refine ⟨j / sz,l[j / sz],j % sz,_,hx,List.getElem?_eq_getElem (by omega),?_⟩
  rw [Nat.mul_comm];exact (Nat.div_add_mod j sz).symm
 cases X <;> simp only [srcOf] at h <;> first | (cases h;done) | skip
 ·cases h
  cases hv with
  | nils A=>exact ⟨A,0,fun _=>undef,rfl,fun h=>absurd h (by simp),fun i x o c hx=>by simp at hx⟩
 ·rename_i l
  cases h
  cases hv with
  | sl0 A cap=>exact ⟨A,cap,fun _=>undef,rfl,fun h=>absurd h (by simp),fun i x o c hx=>by simp at hx⟩
  | sl _ b off sz' cap cur ty fr vals ho hcap hb hs hc hvv =>
   by_cases hl0:news=[]
   ·subst hl0
    exact ⟨_,cap,fun _=>undef,rfl,fun h=>absurd h (by simp),fun i x o c hx=>by simp at hx⟩
   have hszz:sz'=sz:=by
    obtain ⟨y,ys,rfl⟩:=List.exists_cons_of_ne_nil hl0
    rw [← (hs 0 y rfl).1];exact (hsz y (by simp)).1
   subst hszz
   refine ⟨_,cap,fun j=>vals (j / sz') (j % sz'),rfl,fun _=>⟨b,off,rfl,fun j hj=>?_⟩,fun i x o c hx hcc=>?_⟩
   ·obtain ⟨i,x,o,c,h1,h2,rfl⟩:=split hsz j hj
    have ho':o<sz':=by rw [← (hs i x h1).1];exact (List.getElem?_eq_some_iff.1 h2).1
    rw [cell_of_heap hb,← Nat.add_assoc,hc i x o c h1 h2]
    have e1:(i * sz'+o) / sz'=i:=by rw [Nat.add_comm,Nat.add_mul_div_right _ _ (by omega),Nat.div_eq_of_lt ho',Nat.zero_add]
    have e2:(i * sz'+o) % sz'=o:=by rw [Nat.add_comm,Nat.add_mul_mod_self_right];exact Nat.mod_eq_of_lt ho'
    show some (vals i o)=some (vals ((i * sz'+o) / sz') ((i * sz'+o) % sz'))
    rw [e1,e2]
   ·have ho':o<sz':=by rw [← (hs i x hx).1];exact (List.getElem?_eq_some_iff.1 hcc).1
    have e1:(i * sz'+o) / sz'=i:=by rw [Nat.add_comm,Nat.add_mul_div_right _ _ (by omega),Nat.div_eq_of_lt ho',Nat.zero_add]
    have e2:(i * sz'+o) % sz'=o:=by rw [Nat.add_comm,Nat.add_mul_mod_self_right];exact Nat.mod_eq_of_lt ho'
    show VR w.heap ok ρ s c (vals ((i * sz'+o) / sz') ((i * sz'+o) % sz'))
    rw [e1,e2];exact hvv i x o c hx hcc
 ·rename_i k len
  split at h
  ·rename_i K hk
   split at h
   ·rename_i hcond
    cases h
    simp only [Bool.and_eq_true,decide_eq_true_eq] at hcond
    obtain ⟨hlen,hKs⟩:=hcond
    subst hKs
    have hl:(K.es.take len).length=len:=by simp;omega
    cases hv with
    | bufd _ _ _ _ _ hd=>rw [hk] at hd;cases hd
    | bufn _ A K' hσ hr=>exact ⟨A,0,fun _=>undef,by simp,fun h=>absurd h (by simp),fun i x o c hx=>by simp at hx⟩
    | buf _ _ K' b cap cur hσ hr hb hlen' hcap hcur =>
     rw [hk] at hσ;cases hσ
     obtain ⟨_,_,_,cur',hcur',hH⟩:=hR.boundC hk hr (hR.pos hk hr hb)
     rw [hb] at hcur';cases hcur'
     have hget:∀ (i:Nat) (y:AV),(K.es.take len)[i]?=some y→K.es[i]?=some y:=by
      intro i y hy
      rw [List.getElem?_take] at hy
      split at hy
      ·exact hy
      ·cases hy
     refine ⟨_,cap,fun j=>(cur[j]?).getD undef,by rw [hl],fun _=>⟨b,0,rfl,fun j hj=>?_⟩,fun i x o c hx hcc=>?_⟩
     ·obtain ⟨i,x,o,c,h1,h2,rfl⟩:=split hsz j hj
      obtain ⟨cv,g1,g2⟩:=(hH i x (hget i x h1)).2.2 o c h2
      rw [cell_of_heap hb,Nat.zero_add];simp [g1]
     ·obtain ⟨cv,g1,g2⟩:=(hH i x (hget i x hx)).2.2 o c hcc
      simpa [g1] using g2
   ·cases h
  ·cases h

theorem holds_append {h:Array Obj} {sz:Nat} {es news:List AV} {olds:List Value} {cur:Array Value} {nv:Nat→Value} (hold:Holds h ok ρ s sz es olds.toArray) (hlen:olds.length=es.length * sz)
  (hsz:∀ y ∈ news,(cellsOf y).length=sz∧cellsOk y) (hnv:∀ (i:Nat) (x:AV) (o:Nat) (c:AV),news[i]?=some x→(cellsOf x)[o]?=some c→VR h ok ρ s c (nv (i * sz+o)))
  (hcur:∀ j,j<es.length * sz+news.length * sz→cur[j]?=(olds ++ (List.range (news.length * sz)).map nv)[j]?):Holds h ok ρ s sz (es ++ news) cur:=by
 intro i x hx
 rw [List.getElem?_append] at hx
 split at hx
 ·rename_i hi
  obtain ⟨g1,g2,g3⟩:=hold i x hx
  refine ⟨g1,g2,fun o c hc=>?_⟩
  obtain ⟨cv,q1,q2⟩:=g3 o c hc
  have ho:o<sz:=by rw [← g1];exact (List.getElem?_eq_some_iff.1 hc).1
  have hlt:i * sz+o<es.length * sz:=by
   have:(i+1) * sz≤es.length * sz:=Nat.mul_le_mul_right _ hi
   rw [Nat.add_mul] at this;omega
  refine ⟨cv,?_,q2⟩
  rw [hcur _ (by omega),List.getElem?_append_left (by omega)]
  simpa using q1
 ·rename_i hi
  obtain ⟨g1,g2⟩:=hsz x (List.mem_of_getElem? hx)
  refine ⟨g1,g2,fun o c hc=>⟨_,?_,hnv _ x o c hx hc⟩⟩
  have ho:o<sz:=by rw [← g1];exact (List.getElem?_eq_some_iff.1 hc).1
  have hin:i - es.length<news.length:=(List.getElem?_eq_some_iff.1 hx).1
  have h1:(i - es.length) * sz+o<news.length * sz:=by
   have:(i - es.length+1) * sz≤news.length * sz:=Nat.mul_le_mul_right _ hin
   rw [Nat.add_mul] at this;omega
  have h2:i * sz+o=es.length * sz+((i - es.length) * sz+o):=by
   have:i * sz=es.length * sz+(i - es.length) * sz:=by rw [← Nat.add_mul];congr 1;omega
   omega
  rw [h2,hcur _ (by omega),List.getElem?_append_right (by omega),hlen]
  have h3:es.length * sz+((i - es.length) * sz+o) - es.length * sz=(i - es.length) * sz+o:=by omega
  rw [h3]
  simp [h1]

theorem sim_append (hR:Rel N B w0 ok0 ok ρ e s a w) {t el ty:TypeId} (ht:P.underlying t=some (.slice el)) {i:TypeInfo} (hi:P.info? el=some i) {z:Value} (hz:i.zero=some z) (hzs:z.cells.size=i.size)
  {x y:Operand} {d:Nat} {v zv:AV} {s':Store} (hx:ex d (.append el i.size i.bytes zv (cX x) (cX y)) e s=some (v,s')) :
  Sim N B w0 ok0 ok e a ((do pure (Next.value (← Builtin.append_ #[t,t] ty #[a.eval x,a.eval y])):Sem Next).run P w) v s':=by
 have hv:=hR.ev x
 have hy:=hR.ev y
 simp only [ex] at hx
 generalize (cX x).ev e=X at hx hv
 generalize (cX y).ev e=Y at hx hy
 obtain ⟨news,hsrc,hx1⟩:=Option.bind_eq_some_iff.1 hx
 clear hx
 obtain ⟨⟨hd,hpos,hsz⟩,hx⟩:=req_some hx1
 clear hx1
 obtain ⟨A,c2,nv,hval,hcells,hnv⟩:=src_of hR hy hsrc hsz
 generalize ex1:a.eval x=vx at hv
 rw [hval]
 have hone:∀ u ∈ (List.range (news.length * i.size)).map nv,u.oneCell'=true:=by
  intro u hu
  obtain ⟨j,hj,rfl⟩:=List.mem_map.1 hu
  rw [List.mem_range] at hj
  have hi':j / i.size<news.length:=Nat.div_lt_of_lt_mul (by rw [Nat.mul_comm];exact hj)
  have ho:j % i.size<i.size:=Nat.mod_lt _ hpos
  have hl:=(hsz _ (List.getElem_mem hi')).1
  have hh:=hnv _ _ (j % i.size) _ (List.getElem?_eq_getElem hi') (List.getElem?_eq_getElem (by omega))
  have e1:j / i.size * i.size+j % i.size=j:=by rw [Nat.mul_comm];exact Nat.div_add_mod j i.size
  rw [e1] at hh
  exact hh.oneCell ((hsz _ (List.getElem_mem hi')).2 _ (List.getElem_mem _))
 have none0:∀ (A':Option Addr) (n cap:Nat),news=[]→n≤cap→(do pure (Next.value (← Builtin.append_ #[t,t] ty #[.slice A' n cap,.slice A news.length c2])):Sem Next).run P w=.ok (.value (.slice A' n cap)) w:=by
  intro A' n cap h0 hle
  subst h0
  have hfc:(Builtin.firstCells i.size 0 (.slice A 0 c2)).run P w=.ok #[] w:=by
   cases A <;> simp [Builtin.firstCells,loadCells,loadCellsFrom]
  cases A' <;> simp [Builtin.append_,run_underlying ht,sizeOf,typeInfo,hi,Builtin.lenOf,hle,hfc,storeCells]
 have fresh:∀ (es:List AV) (A':Option Addr) (cap:Nat) (olds:List Value) {ok':Nat→Prop} {ρ':Nat→Option Nat} {s1:Store},(∀ b,ok b→ok' b)→Rel N B w0 ok0 ok' ρ' e s1 a w→s1 d=none→
   (∀ {x:AV} {u:Value},VR w.heap ok ρ s x u→VR w.heap ok' ρ' s1 x u)→0<news.length→cap<es.length+news.length→olds.length=es.length * i.size→Holds w.heap ok' ρ' s1 i.size es olds.toArray →
   (es.length=0∨∃ b',A'=some ⟨b',0,none⟩∧∀ j u,olds[j]?=some u→w.cell? ⟨b',j,none⟩=some u)→(A'=none→es.length=0∧cap=0) →
   (es.length+news.length) * i.bytes≤140737488355328→es.length+news.length≤maxLen →
   Sim N B w0 ok0 ok e a ((do pure (Next.value (← Builtin.append_ #[t,t] ty #[.slice A' es.length cap,.slice A news.length c2])):Sem Next).run P w) (.buf d (es.length+news.length)) (upd s1 d (some (some ⟨el,i.size,es ++ news⟩))):=by
  intro es A' cap olds ok' ρ' s1 hok' hR1 hd1 hmono hm hcap hol hH hA hA0 hby hml
  obtain ⟨b2,off2,hA2,hcl⟩:=hcells hm
  have hml':es.length+news.length≤9223372036854775807:=by simp only [maxLen] at hml;omega
  have hl2:((List.range (news.length * i.size)).map nv).length=news.length * i.size:=by simp
  have hn2:∀ (j:Nat) (u:Value),((List.range (news.length * i.size)).map nv)[j]?=some u→w.cell? ((⟨b2,off2,none⟩:Addr).add j)=some u:=by
   intro j u hu
   have hj:j<news.length * i.size:=by have:=(List.getElem?_eq_some_iff.1 hu).1;simpa using this
   simp [hj] at hu
   rw [Addr.add_lit,hcl j hj,hu]
  have hrun:∃ C,es.length+news.length≤C∧C≤maxLen∧(Builtin.append_ #[t,t] ty #[.slice A' es.length cap,.slice A news.length c2]).run P w =
    .ok (.slice (some ⟨w.heap.size,0,none⟩) (es.length+news.length) C) (w.drew.alloc (.cells (olds.toArray ++ ((List.range (news.length * i.size)).map nv).toArray ++ Builtin.zeroCells z.cells (C - (es.length+news.length))) el)):=by
   subst hA2
   cases A' with
   | none =>
    obtain ⟨h1,h2⟩:=hA0 rfl
    have ho:olds=[]:=List.eq_nil_of_length_eq_zero (by rw [hol,h1,Nat.zero_mul])
    subst ho;subst h2
    refine ⟨grownCap w news.length 0 el,by rw [h1,Nat.zero_add];exact grownCap_ge w _ _ _,grownCap_le_maxLen w _ _ _ (by omega),?_⟩
    rw [h1]
    have:=run_append_nil (P:=P) w t ty el i z ht hi hz ⟨b2,off2,none⟩ news.length c2 _ hl2 hn2 hm (by omega) (by rw [h1,Nat.zero_add] at hby;omega)
    simpa using this
   | some A1 =>
    refine ⟨grownCap w (es.length+news.length) cap el,grownCap_ge w _ _ _,grownCap_le_maxLen w _ _ _ hml,?_⟩
    have holds:∀ j u,olds[j]?=some u→w.cell? (A1.add j)=some u:=by
     intro j u hu
     rcases hA with h1 | ⟨b',h1,h2⟩
     ·have ho:olds=[]:=List.eq_nil_of_length_eq_zero (by rw [hol,h1,Nat.zero_mul])
      subst ho;simp at hu
     ·cases h1
      have:=h2 j u hu
      rw [Addr.add_lit,Nat.zero_add];exact this
    exact run_append_grow (P:=P) w t ty el i z ht hi hz A1 es.length cap olds hol holds ⟨b2,off2,none⟩ news.length c2 _ hl2 hn2 hcap (by omega) (growslice_fits hcap hby)
  obtain ⟨C,hC1,hC2,hrun⟩:=hrun
  have hHn:Holds w.heap ok' ρ' s1 i.size (es ++ news) (olds.toArray ++ ((List.range (news.length * i.size)).map nv).toArray ++ Builtin.zeroCells z.cells (C - (es.length+news.length))):=by
   refine holds_append (nv:=nv) hH hol hsz (fun i x o c h1 h2=>hmono (hnv i x o c h1 h2)) fun j hj=>?_
   rw [Array.getElem?_append_left (by simp [hol];omega)]
   simp
  obtain ⟨p1,p2,p3⟩:=hR1.new (w':=w.drew.alloc (.cells (olds.toArray ++ ((List.range (news.length * i.size)).map nv).toArray ++ Builtin.zeroCells z.cells (C - (es.length+news.length))) el)) (ty:=el) hd1 hpos hHn rfl
   ((Below.refl _ _).drew.alloc (Nat.le_refl _) _)
  refine ⟨ok',_,_,hok',p3,.inl ⟨_,by simp [hrun];rfl,?_⟩⟩
  refine .buf d _ ⟨el,i.size,es ++ news⟩ w.heap.size C _ (upd_same _ _ _) (upd_same _ _ _) (heap_alloc_new w.drew _) hC1 hC2 ?_
  simp only [Array.size_append,List.size_toArray,List.length_map,List.length_range,size_zeroCells,hol,hzs,← Nat.add_mul]
  congr 1;omega
 split at hx
 ·-- onto nothing
  obtain ⟨⟨h1,h2⟩,h3⟩:=req_some hx
  cases h3
  cases hv with
  | nils A' =>
   by_cases hm:news=[]
   ·subst hm
    refine ⟨ok,upd ρ d none,w,fun _ h=>h,hR.virtual hd hpos,.inl ⟨.slice A' 0 0,none0 A' 0 0 rfl (Nat.le_refl _),?_⟩⟩
    exact .bufn d A' ⟨el,i.size,[]⟩ (upd_same _ _ _) (upd_same _ _ _)
   ·have hm':0<news.length:=List.length_pos_iff.2 hm
    have:=fresh [] A' 0 [] (fun _ h=>h) hR hd (fun h=>h) hm' (by simpa using hm') (by simp) (fun j u hu=>by simp at hu) (.inl rfl) (fun _=>⟨rfl,rfl⟩) (by simpa using h1) (by simpa using h2)
    simpa using this
 ·rename_i k len
  split at hx
  ·rename_i K hk
   obtain ⟨⟨h1,h2,h3,h4,h5⟩,h6⟩:=req_some hx
   cases h6
   have hkd:k ≠ d:=by rintro rfl;rw [hk] at hd;cases hd
   have hd1:upd s k (some none) d=none:=by rw [upd_other _ _ _ _ (Ne.symm hkd)];exact hd
   have hKill:=hR.kill k ok (fun _ h=>h) (fun _ h=>.inl h)
   have hmono:∀ {x:AV} {u:Value},VR w.heap ok ρ s x u→VR w.heap ok ρ (upd s k (some none)) x u:=fun h=>h.mono (fun _ h=>h) (fun _ _=>rfl) (Goes.kill _ _ _ _)
   cases hv with
   | bufd _ _ _ _ _ hd=>rw [hk] at hd;cases hd
   | bufn _ A' K' hσ hr =>
    have hes:K.es=[]:=List.eq_nil_of_length_eq_zero h1.symm
    rw [hes,List.nil_append,Nat.zero_add]
    rw [Nat.zero_add] at h4 h5
    by_cases hm:news=[]
    ·subst hm
     refine ⟨ok,upd ρ d none,w,fun _ h=>h,hKill.virtual hd1 hpos,.inl ⟨.slice A' 0 0,none0 A' 0 0 rfl (Nat.le_refl _),?_⟩⟩
     exact .bufn d A' ⟨el,i.size,[]⟩ (upd_same _ _ _) (upd_same _ _ _)
    ·have hm':0<news.length:=List.length_pos_iff.2 hm
     have:=fresh [] A' 0 [] (fun _ h=>h) hKill hd1 hmono hm' (by simpa using hm') (by simp) (fun j u hu=>by simp at hu) (.inl rfl) (fun _=>⟨rfl,rfl⟩) (by simpa using h4) (by simpa using h5)
     simpa using this
   | buf _ _ K' b cap cur hσ hr hb hlen hcap hcur =>
    rw [hk] at hσ;cases hσ
    obtain ⟨hbl,hBb,hnok,cur',hcur',hH⟩:=hR.boundC hk hr (hR.pos hk hr hb)
    rw [hb] at hcur';cases hcur'
    obtain ⟨kty,ksz,kes⟩:=K
    simp only at h1 h2 h3 hb hcur hH
    subst h2;subst h3;subst h1
    by_cases hm:news=[]
    ·subst hm
     rw [List.append_nil,List.length_nil,Nat.add_zero]
     refine ⟨ok,upd ρ d (ρ k),w,fun _ h=>h,hR.rename hk hd,.inl ⟨.slice (some ⟨b,0,none⟩) kes.length cap,none0 _ _ _ rfl hlen,?_⟩⟩
     exact .buf d _ ⟨kty,i.size,kes⟩ b cap cur (upd_same _ _ _) ((upd_same _ _ _).trans hr) hb hlen hcap hcur
    ·have hm':0<news.length:=List.length_pos_iff.2 hm
     have hfitE:kes.length * i.size≤cur.size:=by rw [hcur];exact Nat.mul_le_mul_right _ hlen
     by_cases hroom:kes.length+news.length≤cap
     ·obtain ⟨b2,off2,hA2,hcl⟩:=hcells hm'
      subst hA2
      have hl2:((List.range (news.length * i.size)).map nv).length=news.length * i.size:=by simp
      have hn2:∀ (j:Nat) (u:Value),((List.range (news.length * i.size)).map nv)[j]?=some u→w.cell? ((⟨b2,off2,none⟩:Addr).add j)=some u:=by
       intro j u hu
       have hj:j<news.length * i.size:=by have:=(List.getElem?_eq_some_iff.1 hu).1;simpa using this
       simp [hj] at hu
       rw [Addr.add_lit,hcl j hj,hu]
      have hfit:kes.length * i.size+((List.range (news.length * i.size)).map nv).length≤cur.size:=by
       rw [hl2,hcur,← Nat.add_mul];exact Nat.mul_le_mul_right _ hroom
      have hrun:=run_append_room (P:=P) w t ty kty i ht hi b kes.length cap cur hb ⟨b2,off2,none⟩ news.length c2 _ hl2 hn2 hone hroom hfit
      have hHn:Holds w.heap ok ρ s i.size (kes ++ news) (cur.toList.take (kes.length * i.size) ++ (List.range (news.length * i.size)).map nv ++ cur.toList.drop (kes.length * i.size+((List.range (news.length * i.size)).map nv).length)).toArray:=by
       refine holds_append (nv:=nv) (olds:=cur.toList.take (kes.length * i.size)) ?_ (by simp;omega) hsz hnv fun j hj=>?_
       ·intro j x hx
        obtain ⟨g1,g2,g3⟩:=hH j x hx
        refine ⟨g1,g2,fun o c hc=>?_⟩
        obtain ⟨cv,q1,q2⟩:=g3 o c hc
        refine ⟨cv,?_,q2⟩
        have ho:o<i.size:=by rw [← g1];exact (List.getElem?_eq_some_iff.1 hc).1
        have hj':j<kes.length:=(List.getElem?_eq_some_iff.1 hx).1
        have hlt:j * i.size+o<kes.length * i.size:=by
         have:(j+1) * i.size≤kes.length * i.size:=Nat.mul_le_mul_right _ hj'
         rw [Nat.add_mul] at this;omega
        simp only [List.getElem?_toArray]
        rw [List.getElem?_take,if_pos hlt,Array.getElem?_toList];exact q1
       ·simp only [List.getElem?_toArray]
        rw [List.getElem?_append_left]
        simp only [List.length_append,List.length_take,Array.length_toList,hl2];omega
      have hset:=hR.set (w':=w.setRow b (cur.toList.take (kes.length * i.size) ++ (List.range (news.length * i.size)).map nv ++ cur.toList.drop (kes.length * i.size+((List.range (news.length * i.size)).map nv).length)).toArray) hk hr hb
       (cur':=(cur.toList.take (kes.length * i.size) ++ (List.range (news.length * i.size)).map nv ++ cur.toList.drop (kes.length * i.size+((List.range (news.length * i.size)).map nv).length)).toArray)
       (by simp only [List.size_toArray,List.length_append,List.length_take,List.length_drop,Array.length_toList];omega) hHn
       (setRow_heap w b cur _ _ _ hb) (fun j hj=>setRow_other w b j _ hj) ⟨⟨rfl,rfl,rfl,by simp,fun k' hk'=>setRow_other w b k' _ (by omega)⟩,Nat.le_refl _⟩ (by simp)
      have hren:=hset.rename (k:=k) (d:=d) (K:=⟨kty,i.size,kes ++ news⟩) (upd_same _ _ _) (by rw [upd_other _ _ _ _ (Ne.symm hkd)];exact hd)
      have hupd:upd (upd (upd s k (some (some ⟨kty,i.size,kes ++ news⟩))) k (some none)) d (some (some ⟨kty,i.size,kes ++ news⟩))=upd (upd s k (some none)) d (some (some ⟨kty,i.size,kes ++ news⟩)):=by
       funext j
       simp only [upd]
       split
       ·rfl
       ·split <;> rfl
      rw [hupd] at hren
      refine ⟨ok,_,_,fun _ h=>h,hren,.inl ⟨_,by simp [hrun];rfl,?_⟩⟩
      refine .buf d _ ⟨kty,i.size,kes ++ news⟩ b cap _ (upd_same _ _ _) ((upd_same _ _ _).trans hr) (setRow_heap w b cur _ _ _ hb) hroom hcap ?_
      simp only [List.size_toArray,List.length_append,List.length_take,List.length_drop,Array.length_toList] at hfit ⊢
      omega
     ·have hH1:Holds w.heap ok ρ (upd s k (some none)) i.size kes (cur.toList.take (kes.length * i.size)).toArray:=by
       intro j x hx
       obtain ⟨g1,g2,g3⟩:=hH j x hx
       refine ⟨g1,g2,fun o c hc=>?_⟩
       obtain ⟨cv,q1,q2⟩:=g3 o c hc
       refine ⟨cv,?_,hmono q2⟩
       have ho:o<i.size:=by rw [← g1];exact (List.getElem?_eq_some_iff.1 hc).1
       have hj':j<kes.length:=(List.getElem?_eq_some_iff.1 hx).1
       have hlt:j * i.size+o<kes.length * i.size:=by
        have:(j+1) * i.size≤kes.length * i.size:=Nat.mul_le_mul_right _ hj'
        rw [Nat.add_mul] at this;omega
       simp only [List.getElem?_toArray]
       rw [List.getElem?_take,if_pos hlt,Array.getElem?_toList];exact q1
      refine fresh kes (some ⟨b,0,none⟩) cap (cur.toList.take (kes.length * i.size)) (fun _ h=>h) hKill hd1 hmono hm' (by omega) (by simp;omega) hH1 (.inr ⟨b,rfl,fun j u hu=>?_⟩) (fun h=>by cases h) h4 h5
      rw [List.getElem?_take] at hu
      split at hu
      ·rw [cell_of_heap hb,← Array.getElem?_toList];exact hu
      ·cases hu
  ·cases hx
 ·cases hx
end
end Go.Av

namespace Go.Av
abbrev mO (d:Nat) (o:MOp):MS:=⟨none,some d,o⟩
abbrev mV (d s:Nat):MS:=⟨none,some d,.mv (.t s)⟩
abbrev mG (g:Nat) (b:Bool) (d:Nat) (o:MOp):MS:=⟨some (g,b),some d,o⟩
end Go.Av
