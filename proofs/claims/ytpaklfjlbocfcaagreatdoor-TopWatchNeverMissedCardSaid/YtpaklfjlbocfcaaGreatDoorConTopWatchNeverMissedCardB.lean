/- What freezes are, in plain Lean. By an AI agent; nothing here is trusted. -/
import Derived.Test.YtpaklfjlbocfcaaGreatDoorConTopWatchNeverMissedCardA
import Derived.Test.YtpaklfjlbocfcaaGreatDoorProg
import Derived.Test.YtpaklfjlbocfcaaGreatDoorLayD
import Derived.Test.YtpaklfjlbocfcaaGreatDoorLayA
import Derived.Test.YtpaklfjlbocfcaaGreatDoorKode
import Derived.Shelf.Slices.Clone
import Derived.Shelf.LaysM
import Derived.Shelf.LaysC
import Derived.Shelf.Strconv.Itoa3
import Derived.Lib.LaidTab
import Derived.Shelf.Strconv.AtoiAll
import Derived.Shelf.Strings.OnBuilder
import Derived.Lib.ItoaNum
import Derived.Lib.AtoiAll
import Derived.Lib.Join
import Derived.Lib.Bytealg
import Derived.Shelf.Strings.Search3
import Derived.RangeFuncKeeps
import Derived.WalkKit
import Derived.OwnWalkIn
import Derived.TacticsInMore
import Derived.LoopIn
import Derived.WalkSpells
import Derived.OneCell
set_option linter.defProp false
set_option linter.unusedSimpArgs false
set_option linter.unusedVariables false
namespace Go.Proofs.YtpaklfjlbocfcaaGreatDoor
open Go.Av

theorem alE_ok:∀ (n last:Int) (l:List Int),alE n last l=0→(∀ a ∈ l,(0≤a∧a≤n - 1)∧last<a)∧l.Pairwise (·<·)
 | n,last,[],_=>by simp
 | n,last,a :: l,h=>by
  simp only [alE] at h
  by_cases h1:alE1 n last a=0
  ·simp only [h1,ne_eq,not_true_eq_false,if_false] at h
   obtain ⟨i1,i2⟩:=alE_ok n a l h
   have ha:(0≤a∧a≤n - 1)∧last<a:=by
    unfold alE1 at h1
    by_cases q1:0≤a∧a≤n - 1
    ·rw [if_pos q1] at h1
     by_cases q2:last<a
     ·exact ⟨q1,q2⟩
     ·rw [if_neg q2] at h1;omega
    ·rw [if_neg q1] at h1;omega
   refine ⟨fun x hx=>?_,List.pairwise_cons.2 ⟨fun x hx=>(i1 x hx).2,i2⟩⟩
   rcases List.mem_cons.1 hx with e | e
   ·rw [e];exact ha
   ·exact ⟨(i1 x e).1,by have:=(i1 x e).2;omega⟩
  ·simp only [h1,ne_eq,not_false_eq_true,if_true] at h
def alOk (n:Int) (al:List Int):Prop:=(∀ a ∈ al,0≤a∧a≤n - 1)∧al.Pairwise (·<·)
theorem alarmsE_ok {n:Int} {al:List Int} (h:alarmsE n al=0):alOk n al:=by
 obtain ⟨h1,h2⟩:=alE_ok n (-1) al h
 exact ⟨fun a ha=>(h1 a ha).1,h2⟩
theorem alOk_len {n:Int}:∀ {al:List Int},alOk n al→0≤n→(al.length:Int)≤n:=by
 intro al h hn
 have key:∀ (k:Nat) (hk:k<al.length),(k:Int)≤al[k]:=by
  intro k
  induction k with
  | zero=>intro hk;exact (h.1 _ (List.getElem_mem hk)).1
  | succ k ih =>
   intro hk
   have h1:=ih (by omega)
   have h2:=List.pairwise_iff_getElem.1 h.2 k (k+1) (by omega) hk (by omega)
   omega
 by_cases h0:al.length=0
 ·omega
 ·have h1:=key (al.length - 1) (by omega)
  have h2:=(h.1 _ (List.getElem_mem (show al.length - 1<al.length by omega))).2
  omega

def inF (out:List (Int × Int)) (x:Int):Prop:=∃ p ∈ out,p.1≤x∧x≤p.2
structure FW (r:Ring) (n:Int) (al:List Int) (i:Nat) (out:List (Int × Int)):Prop where
 mem:∀ p ∈ out,0≤p.1∧p.1≤p.2∧p.2≤n - 1
 sep:out.Pairwise fun p q=>q.2+1<p.1
 cov:∀ x,inF out x ↔ ∃ a ∈ al.take i,r.lo a≤x∧x≤r.hi n a
 top:∀ (j:Nat) (h:j<al.length),i=j+1→∃ p rest,out=p :: rest∧p.2=r.hi n al[j]∧p.1≤r.lo al[j]
 emp:i=0→out=[]
theorem FW_all {r:Ring} (hr:r.ok) {n:Int} (hn:0≤n∧n≤60) {al:List Int} (ha:alOk n al):∀ (i:Nat),i≤al.length→FW r n al i (frzTo r n al i)
 | 0,_=>⟨by simp [frzTo],by simp [frzTo],by simp [frzTo,inF],fun j _ h=>by omega,fun _=>rfl⟩
 | i+1,h=>by
  have ih:=FW_all hr hn ha i (by omega)
  have hi:i<al.length:=h
  have hai:=ha.1 _ (List.getElem_mem hi)
  have hpv:∀ (j:Nat) (hj:j<al.length),i=j+1→al[j]<al[i]:=fun j hj e=>List.pairwise_iff_getElem.1 ha.2 j i hj hi (by omega)
  have htop:=ih.top
  have hemp:=ih.emp
  have hcov:=ih.cov
  have htk:∀ x,(∃ a ∈ al.take (i+1),r.lo a≤x∧x≤r.hi n a) ↔ ((∃ a ∈ al.take i,r.lo a≤x∧x≤r.hi n a)∨(r.lo al[i]≤x∧x≤r.hi n al[i])):=by
   intro x
   rw [List.take_succ_eq_append_getElem hi]
   constructor
   ·rintro ⟨a,ha,hx⟩
    rcases List.mem_append.1 ha with e | e
    ·exact .inl ⟨a,e,hx⟩
    ·rw [List.mem_singleton.1 e] at hx;exact .inr hx
   ·rintro (⟨a,ha,hx⟩ | hx)
    ·exact ⟨a,List.mem_append_left _ ha,hx⟩
    ·exact ⟨_,List.mem_append_right _ (List.mem_singleton.2 rfl),hx⟩
  have mono:∀ (j:Nat) (hj:j<al.length),i=j+1→r.lo al[j]≤r.lo al[i]∧r.hi n al[j]≤r.hi n al[i]:=by
   intro j hj e
   have:=hpv j hj e
   unfold Ring.lo Ring.hi
   omega
  obtain ⟨hr1,hr2,hr3⟩:=hr
  have hlo:r.lo al[i]=max (max 0 (al[i] - r.before)) (al[i] - r.cap+1):=rfl
  have hhi:r.hi n al[i]=min (n - 1) (al[i]+r.after):=rfl
  have own:0≤r.lo al[i]∧r.lo al[i]≤r.hi n al[i]∧r.hi n al[i]≤n - 1:=by omega
  have fin:∀ out',frzTo r n al (i+1)=out'→(∀ p ∈ out',0≤p.1∧p.1≤p.2∧p.2≤n - 1)→(out'.Pairwise fun p q=>q.2+1<p.1) →
    (∀ x,inF out' x ↔ (inF (frzTo r n al i) x∨(r.lo al[i]≤x∧x≤r.hi n al[i])))→(∃ p rest,out'=p :: rest∧p.2=r.hi n al[i]∧p.1≤r.lo al[i])→FW r n al (i+1) (frzTo r n al (i+1)):=by
   intro out' e h1 h2 h3 h4
   rw [e]
   refine ⟨h1,h2,fun x=>by rw [h3,hcov,htk],fun j hj e=>?_,fun e=>by omega⟩
   obtain rfl:j=i:=by omega
   exact h4
  have hs:=frzTo_succ r n al i hi
  cases hout:frzTo r n al i with
  | nil =>
   rw [hout] at hs
   refine fin _ hs ?_ ?_ ?_ ?_
   ·intro p hp;rw [List.mem_singleton.1 hp];exact own
   ·exact List.pairwise_singleton _ _
   ·intro x;rw [hout];simp [inF,frz1]
   ·exact ⟨_,_,rfl,rfl,Int.le_refl _⟩
  | cons p out =>
   rw [hout] at hs
   have ihm:=ih.mem
   have ihs:=ih.sep
   rw [hout] at ihm ihs htop hemp
   have hpm:=ihm p List.mem_cons_self
   have hi0:i ≠ 0:=fun e=>by have:=hemp e;simp at this
   obtain ⟨j,hj⟩:∃ j,i=j+1:=⟨i - 1,by omega⟩
   obtain ⟨p',rest,e,t1,t2⟩:=htop j (by omega) hj
   injection e with e1 e2
   subst e1;subst e2
   obtain ⟨m1,m2⟩:=mono j (by omega) hj
   obtain ⟨s1,s2⟩:=List.pairwise_cons.1 ihs
   by_cases hc:r.lo al[i]≤p.2+1
   ·have hf:frz1 r n (p :: out) al[i]=(p.1,r.hi n al[i]) :: out:=if_pos hc
    rw [hf] at hs
    refine fin _ hs ?_ ?_ ?_ ?_
    ·intro q hq
     rcases List.mem_cons.1 hq with e | e
     ·rw [e];simp only;omega
     ·exact ihm q (List.mem_cons_of_mem _ e)
    ·exact List.pairwise_cons.2 ⟨fun q hq=>s1 q hq,s2⟩
    ·intro x
     rw [hout]
     constructor
     ·rintro ⟨q,hq,hx⟩
      rcases List.mem_cons.1 hq with e | e
      ·rw [e] at hx
       simp only at hx
       by_cases hx2:x≤p.2
       ·exact .inl ⟨p,List.mem_cons_self,hx.1,hx2⟩
       ·exact .inr ⟨by omega,hx.2⟩
      ·exact .inl ⟨q,List.mem_cons_of_mem _ e,hx⟩
     ·rintro (⟨q,hq,hx⟩ | hx)
      ·rcases List.mem_cons.1 hq with e | e
       ·rw [e] at hx
        exact ⟨_,List.mem_cons_self,hx.1,by simp only;omega⟩
       ·exact ⟨q,List.mem_cons_of_mem _ e,hx⟩
      ·exact ⟨_,List.mem_cons_self,by simp only;omega,hx.2⟩
    ·exact ⟨_,_,rfl,rfl,by simp only;omega⟩
   ·have hf:frz1 r n (p :: out) al[i]=(r.lo al[i],r.hi n al[i]) :: p :: out:=if_neg hc
    rw [hf] at hs
    refine fin _ hs ?_ ?_ ?_ ?_
    ·intro q hq
     rcases List.mem_cons.1 hq with e | e
     ·rw [e];exact own
     ·exact ihm q e
    ·refine List.pairwise_cons.2 ⟨fun q hq=>?_,ihs⟩
     rcases List.mem_cons.1 hq with e | e
     ·rw [e];simp only;omega
     ·have:=s1 q e;simp only;omega
    ·intro x
     rw [hout]
     constructor
     ·rintro ⟨q,hq,hx⟩
      rcases List.mem_cons.1 hq with e | e
      ·rw [e] at hx;exact .inr hx
      ·exact .inl ⟨q,e,hx⟩
     ·rintro (⟨q,hq,hx⟩ | hx)
      ·exact ⟨q,List.mem_cons_of_mem _ hq,hx⟩
      ·exact ⟨_,List.mem_cons_self,hx⟩
    ·exact ⟨_,_,rfl,rfl,Int.le_refl _⟩

def keptP (r:Ring) (n:Int) (al:List Int) (x:Int):Prop:=∃ a ∈ al,r.lo a≤x∧x≤r.hi n a
instance (r:Ring) (n:Int) (al:List Int) (x:Int):Decidable (keptP r n al x):=by unfold keptP;exact inferInstance
theorem frz_mem {r:Ring} (hr:r.ok) {n:Int} (hn:0≤n∧n≤60) {al:List Int} (ha:alOk n al):∀ p ∈ frz r n al,0≤p.1∧p.1≤p.2∧p.2≤n - 1 :=
 fun p hp=>(FW_all hr hn ha al.length (Nat.le_refl _)).mem p (List.mem_reverse.1 hp)
theorem frz_len {r:Ring} {n:Int} {al:List Int}:(frz r n al).length≤al.length:=by
 unfold frz
 rw [List.length_reverse]
 exact frzTo_le r n al al.length (Nat.le_refl _)
end Go.Proofs.YtpaklfjlbocfcaaGreatDoor

/- Contracts off the library's shelf: slices.Clone. By an AI agent;nothing here is trusted. -/
namespace Go.Proofs.YtpaklfjlbocfcaaGreatDoor
open Go.Av
open Go.RowKit (Below)

def cloneRen:Go.Shelf.Ren:=⟨fun x=>match x with | 15=>112 | n=>n,fun x=>match x with | 22=>45 | 3=>3 | 4=>4 | n=>n,fun x=>x⟩
set_option maxRecDepth 100000 in
theorem cloneFn:Tryz.prog.funcs[cloneRen.f 15]?=some (Go.Proofs.Body2.n15 cloneRen):=by kernel_rfl
theorem cloneLay:Go.Proofs.Lays2.n15 Tryz.prog cloneRen :=
 {mixed:=by kernel_rfl,f15:=cloneFn,
  t3:=Tryz.underlying3,a3:=Tryz.isAgg3,z3:=Tryz.sizeOf3,v3:=Tryz.zeroValue3,t4:=Tryz.underlying4,
  a4:=Tryz.isAgg4,z4:=Tryz.sizeOf4,v4:=Tryz.zeroValue4,t22:=Tryz.underlying45,a22:=Tryz.isAgg45,
  z22:=Tryz.sizeOf45,v22:=Tryz.zeroValue45,i3:=by kernel_rfl }

theorem ints_at {l:List Int} {i:Nat} {x:AV} (h:(ints l)[i]?=some x):∃ hi:i<l.length,x=.int .i64 l[i]:=by
 have hi:i<l.length:=by
  have:=(List.getElem?_eq_some_iff.1 h).1
  rw [ints_length] at this;exact this
 rw [ints_get l i hi] at h
 exact ⟨hi,by injection h with h;exact h.symm⟩
theorem own_sl {w':World} {B:Nat} {e:TypeId} {v:Value} {l:List Int} {ok:Nat→Prop} (h:w'.ownsRow B e 1 v l.length (l.map (Value.int .i64))) :
  VR w'.heap (fun b=>ok b∨(B≤b∧b<w'.heap.size)) noPlace noStore (.sl (ints l)) v:=by
 obtain ⟨_,h⟩:=h
 rcases h with ⟨rfl,hn⟩ | ⟨g,cap,cur,rfl,hg,hb,hn,hcap,hcur,hx⟩
 ·have:l=[]:=List.eq_nil_of_length_eq_zero hn
  subst this
  exact .sl0 none 0
 ·have hlen:(ints l).length=l.length:=ints_length l
  rw [← hlen] at hn ⊢
  refine .sl (ints l) g 0 1 cap cur e (0,0) (fun i _=>.int .i64 (l.getD i 0)) (.inr ⟨hg,(Array.getElem?_eq_some_iff.1 hb).1⟩) hn hb ?_ ?_ ?_
  ·intro i x hi
   obtain ⟨_,rfl⟩:=ints_at hi
   exact ⟨rfl,fun c hc=>by rw [List.mem_singleton.1 hc];rfl,rfl⟩
  ·intro i x o c hi ho
   obtain ⟨hil,rfl⟩:=ints_at hi
   have h0:o=0:=by
    cases o with
    | zero=>rfl
    | succ o=>simp [cellsOf] at ho
   subst h0
   have h1:(cur.toList.take (l.length * 1))[i]?=(l.map (Value.int .i64))[i]?:=by rw [hx]
   rw [List.getElem?_take,if_pos (by omega),Array.getElem?_toList,List.getElem?_map,List.getElem?_eq_getElem hil] at h1
   show cur[0+i * 1+0]?=some (.int .i64 (l.getD i 0))
   rw [show 0+i * 1+0=i by omega,h1]
   simp [List.getD,List.getElem?_eq_getElem hil]
  ·intro i x o c hi ho
   obtain ⟨hil,rfl⟩:=ints_at hi
   cases o with
   | zero =>
    simp [cellsOf] at ho
    subst ho
    show VR _ _ _ _ _ (.int .i64 (l.getD i 0))
    rw [show l.getD i 0=l[i] by simp [List.getD,List.getElem?_eq_getElem hil]]
    exact .int _ _
   | succ o=>simp [cellsOf] at ho

theorem Clone_s (l:List Int) (hl:l.length≤1000000000):Sound Tryz.prog 112 [.sl (ints l)] (.sl (ints l)):=by
 intro w ok cargs hok _ hlen hargs
 have h0:=hargs 0 _ rfl
 have hc1:cargs=#[cargs.getD 0 undef]:=by
  apply Array.ext
  ·simpa using hlen
  ·intro i h1 h2
   simp at h2
   subst h2
   simp [Array.getD,h1]
 rw [hc1]
 generalize cargs.getD 0 undef=v at h0
 have hin:∀ v,(callFunc 112 #[v]).run Tryz.prog w=.ok (.enter 112 #[v]) w:=fun v =>
  Go.Av.callFunc_enter Tryz.func112 (by kernel_rfl) rfl #[v]
 cases l with
 | nil =>
  have h1:VR w.heap ok noPlace noStore (.sl []) v:=h0
  show CallsF _ _ _ _ fun cv w'=>Below w.heap.size w w'∧VR w'.heap (fun b=>ok b∨(w.heap.size≤b∧b<w'.heap.size)) noPlace noStore (.sl (ints [])) cv
  cases h1 with
  | sl0 a cap =>
   cases a with
   | none =>
    refine .inr ⟨hin _,(Any.slices_Clone_int_nil cloneLay 0 cap w).mono fun e w' ⟨he,hw⟩=>⟨_,he,?_,?_⟩⟩
    ·rw [hw];exact Below.refl _ _
    ·exact .sl0 none 0
   | some a =>
    refine .inr ⟨hin _,(Any.slices_Clone_int_zero cloneLay a cap w).mono fun e w' ⟨v',he,ho,_,hB⟩=>⟨v',he,hB,?_⟩⟩
    exact own_sl (l:=[]) ho
  | sl _ b off s cap cur ty fr vals hok' hcap hb hs hc hv =>
   refine .inr ⟨hin _,(Any.slices_Clone_int_zero cloneLay ⟨b,off,none⟩ cap w).mono fun e w' ⟨v',he,ho,_,hB⟩=>⟨v',he,hB,?_⟩⟩
   exact own_sl (l:=[]) ho
 | cons x r =>
  have hpos:0<(x :: r).length:=by simp
  generalize x :: r=l at *
  generalize hes:ints l=es at h0
  cases h0 with
  | sl0 a cap=>rw [← ints_length,hes] at hpos;simp at hpos
  | sl _ b off s cap cur ty fr vals hok' hcap hb hs hc hv =>
   subst hes
   have hs1:s=1:=(hs 0 _ (ints_get l 0 hpos)).1.symm
   subst hs1
   have hcell:∀ j,j<l.length→w.cell? ⟨b,off+j,none⟩=some (.int .i64 (l.getD j 0)):=by
    intro j hj
    have h1:=hc j _ 0 _ (ints_get l j hj) rfl
    have h2:=hv j _ 0 _ (ints_get l j hj) rfl
    generalize vals j 0=u at h1 h2
    cases h2
    rw [show off+j * 1+0=off+j by omega] at h1
    simp [World.cell?,hb,h1,List.getD,List.getElem?_eq_getElem hj]
   have hlen:(ints l).length=l.length:=ints_length l
   rw [hlen]
   refine .inr ⟨hin _,(Any.slices_Clone_int cloneLay b off l.length cap l w (Nat.le_refl _) (by omega) hcell).mono fun e w' ⟨v',he,ho,_,hB⟩=>⟨v',he,hB,?_⟩⟩
   rw [List.take_length] at ho
   exact own_sl ho

end Go.Proofs.YtpaklfjlbocfcaaGreatDoor

/- Contracts: what a ring keeps,what it loses. By an AI agent;nothing here is trusted. -/
namespace Go.Proofs.YtpaklfjlbocfcaaGreatDoor
open Go.Av

theorem allE_ok {r:Ring} {l al:List Int} (h:allE r l al=0):r.ok∧countsE l=0∧alOk l.length al:=by
 unfold allE rcE at h
 by_cases h1:ringE r=0
 ·by_cases h2:countsE l=0
  ·simp only [h1,h2,ne_eq,not_true_eq_false,if_false] at h
   exact ⟨ringE_ok h1,h2,alarmsE_ok h⟩
  ·simp only [h1,h2,ne_eq,not_true_eq_false,if_false,not_false_eq_true,if_true] at h
 ·simp only [h1,ne_eq,not_false_eq_true,if_true] at h
def cutL (l:List Int) (p:Int × Int):List Int:=(l.take (p.2+1).toNat).drop p.1.toNat
def frzA (l:List Int) (p:Int × Int):AV:=.agg [.int .i64 p.1,.int .i64 p.2,.sl (ints (cutL l p))]
def frzsA (l:List Int) (fs:List (Int × Int)):List AV:=fs.map (frzA l)
theorem frzsA_length (l:List Int) (fs:List (Int × Int)):(frzsA l fs).length=fs.length:=by simp [frzsA]
theorem frzsA_fxB (l:List Int) (fs:List (Int × Int)):(frzsA l fs).all Go.Av.fx=true:=List.all_eq_true.2 fun x hx=>by
 obtain ⟨p,_,rfl⟩:=List.mem_map.1 hx
 rfl
theorem frzsA_succ (l:List Int) (fs:List (Int × Int)) (i:Nat) (h:i<fs.length):frzsA l (fs.take (i+1))=frzsA l (fs.take i) ++ [frzA l fs[i]]:=by
 unfold frzsA;rw [List.take_succ_eq_append_getElem h,List.map_append];rfl
theorem ints_cut (l:List Int) (a b:Nat):((ints l).take b).drop a=ints ((l.take b).drop a):=by simp [ints,List.map_take,List.map_drop]
theorem cellsOf_ints {l:List Int}:∀ x ∈ ints l,(cellsOf x).length=1:=fun x hx=>by
 obtain ⟨n,_,rfl⟩:=List.mem_map.1 hx
 rfl

theorem tk_slice (g:Option (Nat × Bool)) (d:Option Nat) (b:Bool) (sz:Nat) (x lo hi:MX) (e:Env):tkM ⟨g,d,.slice b sz x (some lo) (some hi)⟩ e=some (refs1 (x.ev e) ++ (refs1 (lo.ev e) ++ refs1 (hi.ev e))):=by simp [tkM,tk,pureOp,xsOf,allocs]
set_option maxHeartbeats 4000000 in
theorem KeptBy_s (r:Ring) (l al:List Int) (hl:l.length≤1000000000) (ha:al.length≤1000000000):Sound Tryz.prog 51 [r.av,.sl (ints l),.sl (ints al)]
  (.tup [.sl (if allE r l al=0 then frzsA l (frz r l.length al) else []),.int .i64 (allE r l al)]):=by
 refine sound_W f_watch_KeptBy (Nat.le_of_ble_eq_true rfl) ?_
 simp only [c_watch_KeptBy,Ring.av,vZ,Int.reduceEq,Int.reduceNe,Int.reduceLT,Int.reduceLE,Nat.reduceEqDiff,Nat.reduceAdd,reduceIte,reduceCtorEq,Nat.reduceLT,Nat.reduceLeDiff,Nat.reduceShiftRight,Nat.reduceMod]
 refine callS_of (ringErr_s r l al hl ha) ?_
 by_cases hE:allE r l al=0
 case neg=>simp only [hE,vZ,Int.reduceEq,Int.reduceNe,Int.reduceLT,Int.reduceLE,Nat.reduceEqDiff,Nat.reduceAdd,reduceIte,reduceCtorEq,Nat.reduceLT,Nat.reduceLeDiff,Nat.reduceShiftRight,Nat.reduceMod]
 obtain ⟨hr,hc,hao⟩:=allE_ok hE
 have hl60:=(countsE_ok hc).1
 have hn:0≤(l.length:Int)∧(l.length:Int)≤60:=by omega
 have hal:=alOk_len hao hn.1
 have hfz:=freezes_s r hr l.length hn al (fun a h=>by have:=hao.1 a h;omega) (by omega)
 have hfm:=frz_mem hr hn hao
 have hfl:=frz_len (r:=r) (n:=l.length) (al:=al)
 generalize frz r l.length al=fs at *
 have hmax:=maxLen_big
 simp only [hE,vZ,Int.reduceEq,Int.reduceNe,Int.reduceLT,Int.reduceLE,Nat.reduceEqDiff,Nat.reduceAdd,reduceIte,reduceCtorEq,Nat.reduceLT,Nat.reduceLeDiff,Nat.reduceShiftRight,Nat.reduceMod]
 refine callS_of hfz ?_
 simp only [rngs_length,vZ,Int.reduceEq,Int.reduceNe,Int.reduceLT,Int.reduceLE,Nat.reduceEqDiff,Nat.reduceAdd,reduceIte,reduceCtorEq,Nat.reduceLT,Nat.reduceLeDiff,Nat.reduceShiftRight,Nat.reduceMod]
 have hz:frzsA l []=[]:=rfl
 refine W_loop (t:=.mk) (α:=PSigma fun i:Nat=>i≤fs.length∧(True)) (fun ⟨i,_⟩=>((envOf [(1,.sl (ints l)),(9,.buf 100 i),(23,.sl (rngs fs)),(24,.int .i64 fs.length),(25,.int .i64 i)],stOf [(100,⟨99,3,frzsA l (fs.take i)⟩)]))) (fun i=>fs.length - i.1) ⟨0,Nat.zero_le _,?_⟩ ?_ (fun ⟨i,hi,hn⟩=>?_)
 ·trivial
 ·refine weakX [(100,none)] (of_decide_eq_true rfl) (of_decide_eq_true rfl) ?_
  (simp only [hz,vcW,vZ,Int.reduceEq,Int.reduceNe,Int.reduceLT,Int.reduceLE,Nat.reduceEqDiff,Nat.reduceAdd,reduceIte,reduceCtorEq,Nat.reduceLT,Nat.reduceLeDiff,Nat.reduceShiftRight,Nat.reduceMod])
  (repeat' first | exact trivial | (with_reducible first | exact RnB.fxB (ints_fxB _) | rfl | refine And.intro ?_ ?_) | (with_reducible (first | refine RnB.bb ?_ | refine RnB.nb ?_);simp only [vcW,vZ,Int.reduceEq,Int.reduceNe,Int.reduceLT,Int.reduceLE,Nat.reduceEqDiff,Nat.reduceAdd,reduceIte,reduceCtorEq,Nat.reduceLT,Nat.reduceLeDiff,Nat.reduceShiftRight,Nat.reduceMod]) | (with_reducible first | refine RnB.ii ?_ | refine RnB.app ?_) | (with_reducible refine RnB.fxB ?_;simp only [vcW,vZ,Int.reduceEq,Int.reduceNe,Int.reduceLT,Int.reduceLE,Nat.reduceEqDiff,Nat.reduceAdd,reduceIte,reduceCtorEq,Nat.reduceLT,Nat.reduceLeDiff,Nat.reduceShiftRight,Nat.reduceMod]) | omega)
 ·simp only [vZ,Int.reduceEq,Int.reduceNe,Int.reduceLT,Int.reduceLE,Nat.reduceEqDiff,Nat.reduceAdd,reduceIte,reduceCtorEq,Nat.reduceLT,Nat.reduceLeDiff,Nat.reduceShiftRight,Nat.reduceMod]
  refine brB_split (fun h=>?_) (fun h=>?_)
  ·have h':i<fs.length:=by (simp only [decide_eq_true_eq,decide_eq_false_iff_not,Bool.not_true,I64,Bool.not_eq_true',Bool.not_eq_false',bne_iff_ne,beq_iff_eq,ne_eq] at *;omega)
   clear h
   have hg:=rngs_get fs i h'
   have hm:=hfm _ (List.getElem_mem h')
   have hsu:=frzsA_succ l fs i h'
   have hll:(frzsA l (fs.take i)).length=i:=by rw [frzsA_length,List.length_take];omega
   have hfa:frzA l fs[i]=.agg [.int .i64 fs[i].1,.int .i64 fs[i].2,.sl (ints (cutL l fs[i]))]:=rfl
   have hra:rngA2 fs[i]=.agg [.int .i64 fs[i].1,.int .i64 fs[i].2]:=rfl
   have hcut:((ints l).take (fs[i].2+1).toNat).drop fs[i].1.toNat=ints (cutL l fs[i]):=ints_cut l _ _
   have hcl:(cutL l fs[i]).length≤1000000000:=by unfold cutL;rw [List.length_drop,List.length_take];omega
   have hI:I64 (fs[i].2+1):=by unfold I64;omega
   rw [hra] at hg
   rw [hfa] at hsu
   generalize fs[i]=p at *
   generalize cutL l p=cs at *
   generalize frzsA l (fs.take i)=es at *
   simp only [hg,vZ,Int.reduceEq,Int.reduceNe,Int.reduceLT,Int.reduceLE,Nat.reduceEqDiff,Nat.reduceAdd,reduceIte,reduceCtorEq,Nat.reduceLT,Nat.reduceLeDiff,Nat.reduceShiftRight,Nat.reduceMod]
   (repeat (with_reducible refine And.intro ?_ ?_;focus (first | omega | (unfold I64;omega))))
   refine ⟨⟨by omega,by omega,by omega,cellsOf_ints⟩,?_⟩
   rw [hcut]
   refine callS_of (Clone_s cs hcl) ?_
   simp only [hll,tk_slice,vZ,Int.reduceEq,Int.reduceNe,Int.reduceLT,Int.reduceLE,Nat.reduceEqDiff,Nat.reduceAdd,reduceIte,reduceCtorEq,Nat.reduceLT,Nat.reduceLeDiff,Nat.reduceShiftRight,Nat.reduceMod]
   (repeat (with_reducible refine And.intro ?_ ?_;focus (first | omega | (unfold I64;omega))))
   refine ⟨⟨i+1,h',trivial⟩,by simp only;omega,?_⟩
   refine weakX [(100,some 41)] (of_decide_eq_true rfl) (of_decide_eq_true rfl) ?_
   (simp only [hsu,vcW,vZ,Int.reduceEq,Int.reduceNe,Int.reduceLT,Int.reduceLE,Nat.reduceEqDiff,Nat.reduceAdd,reduceIte,reduceCtorEq,Nat.reduceLT,Nat.reduceLeDiff,Nat.reduceShiftRight,Nat.reduceMod])
   (repeat' first | exact trivial | (with_reducible first | exact RnB.fxB (ints_fxB _) | rfl | refine And.intro ?_ ?_) | (with_reducible (first | refine RnB.bb ?_ | refine RnB.nb ?_);simp only [vcW,vZ,Int.reduceEq,Int.reduceNe,Int.reduceLT,Int.reduceLE,Nat.reduceEqDiff,Nat.reduceAdd,reduceIte,reduceCtorEq,Nat.reduceLT,Nat.reduceLeDiff,Nat.reduceShiftRight,Nat.reduceMod]) | (with_reducible first | refine RnB.ii ?_ | refine RnB.app ?_) | (with_reducible refine RnB.fxB ?_;simp only [vcW,vZ,Int.reduceEq,Int.reduceNe,Int.reduceLT,Int.reduceLE,Nat.reduceEqDiff,Nat.reduceAdd,reduceIte,reduceCtorEq,Nat.reduceLT,Nat.reduceLeDiff,Nat.reduceShiftRight,Nat.reduceMod]) | omega)
   exact RnB.fxB (by rw [← hsu];exact frzsA_fxB _ _)
  ·have:i=fs.length:=by (simp only [decide_eq_true_eq,decide_eq_false_iff_not,Bool.not_true,I64,Bool.not_eq_true',Bool.not_eq_false',bne_iff_ne,beq_iff_eq,ne_eq] at *;omega)
   cases this
   simp only [hE,vZ,Int.reduceEq,Int.reduceNe,Int.reduceLT,Int.reduceLE,Nat.reduceEqDiff,Nat.reduceAdd,reduceIte,reduceCtorEq,Nat.reduceLT,Nat.reduceLeDiff,Nat.reduceShiftRight,Nat.reduceMod]
   rw [List.take_length]
   rw [borB_good _ _ _ _ _ (by rw [frzsA_length]) (List.all_eq_true.1 (frzsA_fxB _ _))]

theorem LostBy_1_s (r:Ring) (a b:Int) (h:I64 (a - r.before)):Sound Tryz.prog 114 [.int .i64 a,.eptr (.int .i64 b) 0,.eptr r.av 0] (.bool (decide (a - r.before≤b∧b≤a))):=by
 refine sound_W f_watch_LostBy_1 (Nat.le_of_ble_eq_true rfl) ?_
 simp only [c_watch_LostBy_1,Ring.av,vZ,Int.reduceEq,Int.reduceNe,Int.reduceLT,Int.reduceLE,Nat.reduceEqDiff,Nat.reduceAdd,reduceIte,reduceCtorEq,Nat.reduceLT,Nat.reduceLeDiff,Nat.reduceShiftRight,Nat.reduceMod]
 (repeat (with_reducible refine And.intro ?_ ?_;focus (first | omega | (unfold I64;omega))))
 refine callS_of (within_s _ _ _) ?_
 simp only [vZ,Int.reduceEq,Int.reduceNe,Int.reduceLT,Int.reduceLE,Nat.reduceEqDiff,Nat.reduceAdd,reduceIte,reduceCtorEq,Nat.reduceLT,Nat.reduceLeDiff,Nat.reduceShiftRight,Nat.reduceMod]
theorem LostBy_2_s (p:Int × Int) (b:Int):Sound Tryz.prog 116 [rngA2 p,.eptr (.int .i64 b) 0] (.bool (decide (p.1≤b∧b≤p.2))):=by
 refine sound_W f_watch_LostBy_2 (Nat.le_of_ble_eq_true rfl) ?_
 simp only [c_watch_LostBy_2,rngA2,vZ,Int.reduceEq,Int.reduceNe,Int.reduceLT,Int.reduceLE,Nat.reduceEqDiff,Nat.reduceAdd,reduceIte,reduceCtorEq,Nat.reduceLT,Nat.reduceLeDiff,Nat.reduceShiftRight,Nat.reduceMod]
 refine callS_of (within_s _ _ _) ?_
 simp only [vZ,Int.reduceEq,Int.reduceNe,Int.reduceLT,Int.reduceLE,Nat.reduceEqDiff,Nat.reduceAdd,reduceIte,reduceCtorEq,Nat.reduceLT,Nat.reduceLeDiff,Nat.reduceShiftRight,Nat.reduceMod]

theorem fx1_immL:∀ {caps:List AV},(∀ c ∈ caps,fx1 c=true)→immL caps=true
 | [],_=>rfl
 | c :: r,h=>by
  have ih:=fx1_immL (caps:=r) fun x hx=>h x (List.mem_cons_of_mem _ hx)
  have h0:=h c List.mem_cons_self
  cases c <;> simp [fx1] at h0 <;> simp [immL,ih]
theorem idxFunc_rng_s (l:List (Int × Int)) (f:FuncId) (caps:List AV) (p:Int × Int→Bool) (hl:l.length<4000000000000000000) (hc:∀ c ∈ caps,fx1 c=true)
  (hp:∀ x ∈ l,Sound Tryz.prog f (rngA2 x :: caps) (.bool (p x))):Sound Tryz.prog 169 [.sl (rngs l),.fn f caps] (.int .i64 (idxOf l p)):=by
 refine sound_W f_slices_IndexFunc_api_Range_api_Range (Nat.le_of_ble_eq_true rfl) ?_
 simp only [c_slices_IndexFunc_api_Range_api_Range,rngs_length,vZ,Int.reduceEq,Int.reduceNe,Int.reduceLT,Int.reduceLE,Nat.reduceEqDiff,Nat.reduceAdd,reduceIte,reduceCtorEq,Nat.reduceLT,Nat.reduceLeDiff,Nat.reduceShiftRight,Nat.reduceMod]
 refine W_loop (t:=.mk) (α:=PSigma fun i:Nat=>i≤l.length∧∀ x ∈ l.take i,p x=false) (fun i=>(envOf [(0,.sl (rngs l)),(1,.fn f caps),(6,.sl (rngs l)),(7,.int .i64 l.length),(8,.int .i64 i.1)],stOf [])) (fun i=>l.length - i.1) ⟨0,by simp⟩ ?_ (fun ⟨i,hi,hn⟩=>?_)
 ·have himm:=fx1_immL hc
  refine weakX [] (of_decide_eq_true rfl) (of_decide_eq_true rfl) ?_
  (simp only [himm,vcW,vZ,Int.reduceEq,Int.reduceNe,Int.reduceLT,Int.reduceLE,Nat.reduceEqDiff,Nat.reduceAdd,reduceIte,reduceCtorEq,Nat.reduceLT,Nat.reduceLeDiff,Nat.reduceShiftRight,Nat.reduceMod])
  (repeat' first | exact trivial | (with_reducible first | exact RnB.fxB (ints_fxB _) | rfl | refine And.intro ?_ ?_) | (with_reducible (first | refine RnB.bb ?_ | refine RnB.nb ?_);simp only [vcW,vZ,Int.reduceEq,Int.reduceNe,Int.reduceLT,Int.reduceLE,Nat.reduceEqDiff,Nat.reduceAdd,reduceIte,reduceCtorEq,Nat.reduceLT,Nat.reduceLeDiff,Nat.reduceShiftRight,Nat.reduceMod]) | (with_reducible first | refine RnB.ii ?_ | refine RnB.app ?_) | (with_reducible refine RnB.fxB ?_;simp only [vcW,vZ,Int.reduceEq,Int.reduceNe,Int.reduceLT,Int.reduceLE,Nat.reduceEqDiff,Nat.reduceAdd,reduceIte,reduceCtorEq,Nat.reduceLT,Nat.reduceLeDiff,Nat.reduceShiftRight,Nat.reduceMod]) | omega)
 ·simp only [vZ,Int.reduceEq,Int.reduceNe,Int.reduceLT,Int.reduceLE,Nat.reduceEqDiff,Nat.reduceAdd,reduceIte,reduceCtorEq,Nat.reduceLT,Nat.reduceLeDiff,Nat.reduceShiftRight,Nat.reduceMod]
  refine brB_split (fun h=>?_) (fun h=>?_)
  ·have h':i<l.length:=by (simp only [decide_eq_true_eq,decide_eq_false_iff_not,Bool.not_true,I64,Bool.not_eq_true',Bool.not_eq_false',bne_iff_ne,beq_iff_eq,ne_eq] at *;omega)
   clear h
   have hg:=rngs_get l i h'
   have hpx:=hp _ (List.getElem_mem h')
   have hra:rngA2 l[i]=.agg [.int .i64 l[i].1,.int .i64 l[i].2]:=rfl
   rw [hra] at hg hpx
   simp only [hg,vZ,Int.reduceEq,Int.reduceNe,Int.reduceLT,Int.reduceLE,Nat.reduceEqDiff,Nat.reduceAdd,reduceIte,reduceCtorEq,Nat.reduceLT,Nat.reduceLeDiff,Nat.reduceShiftRight,Nat.reduceMod]
   (repeat (with_reducible refine And.intro ?_ ?_;focus (first | omega | (unfold I64;omega))))
   simp only [List.map_append,List.cons_append,List.nil_append,map_fx1 hc,vZ,Int.reduceEq,Int.reduceNe,Int.reduceLT,Int.reduceLE,Nat.reduceEqDiff,Nat.reduceAdd,reduceIte,reduceCtorEq,Nat.reduceLT,Nat.reduceLeDiff,Nat.reduceShiftRight,Nat.reduceMod]
   refine callS_of hpx ?_
   simp only [vZ,Int.reduceEq,Int.reduceNe,Int.reduceLT,Int.reduceLE,Nat.reduceEqDiff,Nat.reduceAdd,reduceIte,reduceCtorEq,Nat.reduceLT,Nat.reduceLeDiff,Nat.reduceShiftRight,Nat.reduceMod]
   refine brB_split (fun h=>?_) (fun h=>?_)
   ·simp only [vZ,Int.reduceEq,Int.reduceNe,Int.reduceLT,Int.reduceLE,Nat.reduceEqDiff,Nat.reduceAdd,reduceIte,reduceCtorEq,Nat.reduceLT,Nat.reduceLeDiff,Nat.reduceShiftRight,Nat.reduceMod]
    have hs:l.findIdx? p=some i:=by
     rw [List.findIdx?_eq_some_iff_getElem]
     refine ⟨h',h,fun j hj=>?_⟩
     have:=hn l[j] (by rw [List.mem_take_iff_getElem];exact ⟨j,by omega,rfl⟩)
     simp [this]
    simp [idxOf,hs]
   ·simp only [vZ,Int.reduceEq,Int.reduceNe,Int.reduceLT,Int.reduceLE,Nat.reduceEqDiff,Nat.reduceAdd,reduceIte,reduceCtorEq,Nat.reduceLT,Nat.reduceLeDiff,Nat.reduceShiftRight,Nat.reduceMod]
    (repeat (with_reducible refine And.intro ?_ ?_;focus (first | omega | (unfold I64;omega))))
    refine ⟨⟨i+1,h',?_⟩,by simp only;omega,?_⟩
    ·rw [List.take_succ_eq_append_getElem h']
     intro x hx
     rcases List.mem_append.1 hx with hx | hx
     ·exact hn x hx
     ·simp at hx;rw [hx];exact h
    ·have himm:=fx1_immL hc
     refine weakX [] (of_decide_eq_true rfl) (of_decide_eq_true rfl) ?_
     (simp only [himm,vcW,vZ,Int.reduceEq,Int.reduceNe,Int.reduceLT,Int.reduceLE,Nat.reduceEqDiff,Nat.reduceAdd,reduceIte,reduceCtorEq,Nat.reduceLT,Nat.reduceLeDiff,Nat.reduceShiftRight,Nat.reduceMod])
     (repeat' first | exact trivial | (with_reducible first | exact RnB.fxB (ints_fxB _) | rfl | refine And.intro ?_ ?_) | (with_reducible (first | refine RnB.bb ?_ | refine RnB.nb ?_);simp only [vcW,vZ,Int.reduceEq,Int.reduceNe,Int.reduceLT,Int.reduceLE,Nat.reduceEqDiff,Nat.reduceAdd,reduceIte,reduceCtorEq,Nat.reduceLT,Nat.reduceLeDiff,Nat.reduceShiftRight,Nat.reduceMod]) | (with_reducible first | refine RnB.ii ?_ | refine RnB.app ?_) | (with_reducible refine RnB.fxB ?_;simp only [vcW,vZ,Int.reduceEq,Int.reduceNe,Int.reduceLT,Int.reduceLE,Nat.reduceEqDiff,Nat.reduceAdd,reduceIte,reduceCtorEq,Nat.reduceLT,Nat.reduceLeDiff,Nat.reduceShiftRight,Nat.reduceMod]) | omega)
  ·simp only [vZ,Int.reduceEq,Int.reduceNe,Int.reduceLT,Int.reduceLE,Nat.reduceEqDiff,Nat.reduceAdd,reduceIte,reduceCtorEq,Nat.reduceLT,Nat.reduceLeDiff,Nat.reduceShiftRight,Nat.reduceMod]
   have:i=l.length:=by (simp only [decide_eq_true_eq,decide_eq_false_iff_not,Bool.not_true,I64,Bool.not_eq_true',Bool.not_eq_false',bne_iff_ne,beq_iff_eq,ne_eq] at *;omega)
   subst this
   rw [List.take_length] at hn
   have hs:l.findIdx? p=none:=List.findIdx?_eq_none_iff.2 hn
   simp [idxOf,hs]
theorem contFunc_rng_s (l:List (Int × Int)) (f:FuncId) (caps:List AV) (p:Int × Int→Bool) (hl:l.length<4000000000000000000) (hc:∀ c ∈ caps,fx1 c=true)
  (hp:∀ x ∈ l,Sound Tryz.prog f (rngA2 x :: caps) (.bool (p x))):Sound Tryz.prog 115 [.sl (rngs l),.fn f caps] (.bool (l.any p)):=by
 refine sound_W f_slices_ContainsFunc_api_Range_api_Range (Nat.le_of_ble_eq_true rfl) ?_
 simp only [c_slices_ContainsFunc_api_Range_api_Range,map_fx1 hc,vcC,Int.reduceEq,Int.reduceNe,Int.reduceLT,Int.reduceLE,Nat.reduceEqDiff,Nat.reduceAdd,reduceIte,reduceCtorEq,Nat.reduceLT,Nat.reduceLeDiff,eq_self,vcP]
 refine callS_of (idxFunc_rng_s l f caps p hl hc hp) ?_
 simp only [vcC,Int.reduceEq,Int.reduceNe,Int.reduceLT,Int.reduceLE,Nat.reduceEqDiff,Nat.reduceAdd,reduceIte,reduceCtorEq,Nat.reduceLT,Nat.reduceLeDiff,eq_self,vcP]
 rw [idxOf_any]

def asked (r:Ring) (al:List Int) (b:Int):Bool:=al.any fun a=>decide (a - r.before≤b∧b≤a)
def hasF (fs:List (Int × Int)) (b:Int):Bool:=fs.any fun p=>decide (p.1≤b∧b≤p.2)
def lostTo (r:Ring) (al:List Int) (fs:List (Int × Int)):Nat→List Int
 | 0=>[]
 | i+1=>lostTo r al fs i ++ (if asked r al i && !hasF fs i then [(i:Int)] else [])
theorem lostTo_le (r:Ring) (al:List Int) (fs:List (Int × Int)):∀ i,(lostTo r al fs i).length≤i
 | 0=>Nat.le_refl _
 | i+1=>by
  have:=lostTo_le r al fs i
  rw [lostTo,List.length_append]
  split <;> simp <;> omega
theorem lostTo_mem (r:Ring) (al:List Int) (fs:List (Int × Int)):∀ (i:Nat) (x:Int),x ∈ lostTo r al fs i ↔ (0≤x∧x<i)∧(asked r al x && !hasF fs x)=true
 | 0,x=>by simp [lostTo];omega
 | i+1,x=>by
  rw [lostTo,List.mem_append,lostTo_mem r al fs i x]
  by_cases h:(asked r al i && !hasF fs i)=true
  ·rw [if_pos h,List.mem_singleton]
   constructor
   ·rintro (⟨h1,h2⟩ | e)
    ·exact ⟨by omega,h2⟩
    ·rw [e];exact ⟨by omega,h⟩
   ·rintro ⟨h1,h2⟩
    by_cases e:x=i
    ·exact .inr e
    ·exact .inl ⟨by omega,h2⟩
  ·rw [if_neg h]
   constructor
   ·rintro (⟨h1,h2⟩ | e)
    ·exact ⟨by omega,h2⟩
    ·cases e
   ·rintro ⟨h1,h2⟩
    by_cases e:x=i
    ·rw [e] at h2;exact absurd h2 h
    ·exact .inl ⟨by omega,h2⟩
def lostL (r:Ring) (n:Nat) (al:List Int):List Int:=lostTo r al (frz r n al) n

set_option maxHeartbeats 4000000 in
theorem LostBy_s (r:Ring) (l al:List Int) (hl:l.length≤1000000000) (ha:al.length≤1000000000):Sound Tryz.prog 52 [r.av,.sl (ints l),.sl (ints al)]
  (.tup [.sl (ints (if allE r l al=0 then lostL r l.length al else [])),.int .i64 (allE r l al)]):=by
 refine sound_W f_watch_LostBy (Nat.le_of_ble_eq_true rfl) ?_
 simp only [c_watch_LostBy,Ring.av,vZ,Int.reduceEq,Int.reduceNe,Int.reduceLT,Int.reduceLE,Nat.reduceEqDiff,Nat.reduceAdd,reduceIte,reduceCtorEq,Nat.reduceLT,Nat.reduceLeDiff,Nat.reduceShiftRight,Nat.reduceMod]
 refine callS_of (ringErr_s r l al hl ha) ?_
 have hin:ints []=[]:=rfl
 by_cases hE:allE r l al=0
 case neg=>simp only [hE,hin,vZ,Int.reduceEq,Int.reduceNe,Int.reduceLT,Int.reduceLE,Nat.reduceEqDiff,Nat.reduceAdd,reduceIte,reduceCtorEq,Nat.reduceLT,Nat.reduceLeDiff,Nat.reduceShiftRight,Nat.reduceMod]
 obtain ⟨hr,hc,hao⟩:=allE_ok hE
 have hl60:=(countsE_ok hc).1
 have hn:0≤(l.length:Int)∧(l.length:Int)≤60:=by omega
 have hal:=alOk_len hao hn.1
 have hfz:=freezes_s r hr l.length hn al (fun a h=>by have:=hao.1 a h;omega) (by omega)
 have hfl:=frz_len (r:=r) (n:=l.length) (al:=al)
 unfold lostL
 generalize frz r l.length al=fs at *
 have hmax:=maxLen_big
 have hrb:=hr.2.1
 simp only [hE,vZ,Int.reduceEq,Int.reduceNe,Int.reduceLT,Int.reduceLE,Nat.reduceEqDiff,Nat.reduceAdd,reduceIte,reduceCtorEq,Nat.reduceLT,Nat.reduceLeDiff,Nat.reduceShiftRight,Nat.reduceMod]
 refine callS_of hfz ?_
 simp only [vZ,Int.reduceEq,Int.reduceNe,Int.reduceLT,Int.reduceLE,Nat.reduceEqDiff,Nat.reduceAdd,reduceIte,reduceCtorEq,Nat.reduceLT,Nat.reduceLeDiff,Nat.reduceShiftRight,Nat.reduceMod]
 refine W_loop (t:=.mk) (α:=PSigma fun i:Nat=>i≤l.length∧(True)) (fun ⟨i,_⟩=>((envOf [(2,.sl (ints al)),(3,.ptr 3 0 0),(9,.sl (rngs fs)),(10,.buf 100 (lostTo r al fs i).length),(27,.int .i64 l.length),(28,.int .i64 i)],stOf [(3,⟨91,3,[r.av]⟩),(100,⟨3,1,ints (lostTo r al fs i)⟩)]))) (fun i=>l.length - i.1) ⟨0,Nat.zero_le _,?_⟩ ?_ (fun ⟨i,hi,hn⟩=>?_)
 ·trivial
 ·have hz:lostTo r al fs 0=[]:=rfl
  refine weakX [(100,none)] (of_decide_eq_true rfl) (of_decide_eq_true rfl) ?_
  (simp only [hz,hin,Ring.av,vcW,vZ,Int.reduceEq,Int.reduceNe,Int.reduceLT,Int.reduceLE,Nat.reduceEqDiff,Nat.reduceAdd,reduceIte,reduceCtorEq,Nat.reduceLT,Nat.reduceLeDiff,Nat.reduceShiftRight,Nat.reduceMod])
  (repeat' first | exact trivial | (with_reducible first | exact RnB.fxB (ints_fxB _) | rfl | refine And.intro ?_ ?_) | (with_reducible (first | refine RnB.bb ?_ | refine RnB.nb ?_);simp only [vcW,vZ,Int.reduceEq,Int.reduceNe,Int.reduceLT,Int.reduceLE,Nat.reduceEqDiff,Nat.reduceAdd,reduceIte,reduceCtorEq,Nat.reduceLT,Nat.reduceLeDiff,Nat.reduceShiftRight,Nat.reduceMod]) | (with_reducible first | refine RnB.ii ?_ | refine RnB.app ?_) | (with_reducible refine RnB.fxB ?_;simp only [vcW,vZ,Int.reduceEq,Int.reduceNe,Int.reduceLT,Int.reduceLE,Nat.reduceEqDiff,Nat.reduceAdd,reduceIte,reduceCtorEq,Nat.reduceLT,Nat.reduceLeDiff,Nat.reduceShiftRight,Nat.reduceMod]) | omega)
 ·simp only [vZ,Int.reduceEq,Int.reduceNe,Int.reduceLT,Int.reduceLE,Nat.reduceEqDiff,Nat.reduceAdd,reduceIte,reduceCtorEq,Nat.reduceLT,Nat.reduceLeDiff,Nat.reduceShiftRight,Nat.reduceMod]
  refine brB_split (fun h=>?_) (fun h=>?_)
  ·have h':i<l.length:=by (simp only [decide_eq_true_eq,decide_eq_false_iff_not,Bool.not_true,I64,Bool.not_eq_true',Bool.not_eq_false',bne_iff_ne,beq_iff_eq,ne_eq] at *;omega)
   clear h
   have hle:=lostTo_le r al fs i
   have hs:lostTo r al fs (i+1)=lostTo r al fs i ++ (if asked r al i && !hasF fs i then [(i:Int)] else []):=rfl
   have hA:Sound Tryz.prog 113 [.sl (ints al),.fn 114 [.eptr (.int .i64 i) 0,.eptr r.av 0]] (.bool (asked r al i)) :=
    contFunc_int_s al _ _ (fun a=>decide (a - r.before≤(i:Int)∧(i:Int)≤a)) (by omega) (by simp [fx1,Ring.av]) (fun a ha=>LostBy_1_s r a i (by have:=hao.1 a ha;unfold I64;omega))
   have hH:Sound Tryz.prog 115 [.sl (rngs fs),.fn 116 [.eptr (.int .i64 i) 0]] (.bool (hasF fs i)) :=
    contFunc_rng_s fs _ _ (fun p=>decide (p.1≤(i:Int)∧(i:Int)≤p.2)) (by omega) (by simp [fx1]) (fun p _=>LostBy_2_s p i)
   generalize hout:lostTo r al fs i=out at *
   generalize asked r al i=A at *
   generalize hasF fs i=H at *
   simp only [Ring.av,vZ,Int.reduceEq,Int.reduceNe,Int.reduceLT,Int.reduceLE,Nat.reduceEqDiff,Nat.reduceAdd,reduceIte,reduceCtorEq,Nat.reduceLT,Nat.reduceLeDiff,Nat.reduceShiftRight,Nat.reduceMod]
   refine callS_of hA ?_
   simp only [vZ,Int.reduceEq,Int.reduceNe,Int.reduceLT,Int.reduceLE,Nat.reduceEqDiff,Nat.reduceAdd,reduceIte,reduceCtorEq,Nat.reduceLT,Nat.reduceLeDiff,Nat.reduceShiftRight,Nat.reduceMod]
   refine callS_of hH ?_
   by_cases hAH:(A && !H)=true
   ·obtain ⟨rfl,rfl⟩:A=true∧H=false:=by cases A <;> cases H <;> simp at hAH ⊢
    rw [if_pos hAH] at hs
    have hia:ints (out ++ [(i:Int)])=ints out ++ [.int .i64 i]:=ints_append _ _
    simp only [ints_length,vZ,Int.reduceEq,Int.reduceNe,Int.reduceLT,Int.reduceLE,Nat.reduceEqDiff,Nat.reduceAdd,reduceIte,reduceCtorEq,Nat.reduceLT,Nat.reduceLeDiff,Nat.reduceShiftRight,Nat.reduceMod]
    (repeat (with_reducible refine And.intro ?_ ?_;focus (first | omega | (unfold I64;omega))))
    refine ⟨⟨i+1,h',trivial⟩,by simp only;omega,?_⟩
    refine weakX [(100,some 45)] (of_decide_eq_true rfl) (of_decide_eq_true rfl) ?_
    (simp only [hs,Ring.av,hia,vcW,vZ,Int.reduceEq,Int.reduceNe,Int.reduceLT,Int.reduceLE,Nat.reduceEqDiff,Nat.reduceAdd,reduceIte,reduceCtorEq,Nat.reduceLT,Nat.reduceLeDiff,Nat.reduceShiftRight,Nat.reduceMod])
    (repeat' first | exact trivial | (with_reducible first | exact RnB.fxB (ints_fxB _) | rfl | refine And.intro ?_ ?_) | (with_reducible (first | refine RnB.bb ?_ | refine RnB.nb ?_);simp only [vcW,vZ,Int.reduceEq,Int.reduceNe,Int.reduceLT,Int.reduceLE,Nat.reduceEqDiff,Nat.reduceAdd,reduceIte,reduceCtorEq,Nat.reduceLT,Nat.reduceLeDiff,Nat.reduceShiftRight,Nat.reduceMod]) | (with_reducible first | refine RnB.ii ?_ | refine RnB.app ?_) | (with_reducible refine RnB.fxB ?_;simp only [vcW,vZ,Int.reduceEq,Int.reduceNe,Int.reduceLT,Int.reduceLE,Nat.reduceEqDiff,Nat.reduceAdd,reduceIte,reduceCtorEq,Nat.reduceLT,Nat.reduceLeDiff,Nat.reduceShiftRight,Nat.reduceMod]) | omega)
    ·simp
    ·exact hia.symm
   ·rw [if_neg hAH,List.append_nil] at hs
    cases A
    ·simp only [vZ,Int.reduceEq,Int.reduceNe,Int.reduceLT,Int.reduceLE,Nat.reduceEqDiff,Nat.reduceAdd,reduceIte,reduceCtorEq,Nat.reduceLT,Nat.reduceLeDiff,Nat.reduceShiftRight,Nat.reduceMod]
     (repeat (with_reducible refine And.intro ?_ ?_;focus (first | omega | (unfold I64;omega))))
     refine ⟨⟨i+1,h',trivial⟩,by simp only;omega,?_⟩
     refine weakX [] (of_decide_eq_true rfl) (of_decide_eq_true rfl) ?_
     (simp only [hs,Ring.av,vcW,vZ,Int.reduceEq,Int.reduceNe,Int.reduceLT,Int.reduceLE,Nat.reduceEqDiff,Nat.reduceAdd,reduceIte,reduceCtorEq,Nat.reduceLT,Nat.reduceLeDiff,Nat.reduceShiftRight,Nat.reduceMod])
     (repeat' first | exact trivial | (with_reducible first | exact RnB.fxB (ints_fxB _) | rfl | refine And.intro ?_ ?_) | (with_reducible (first | refine RnB.bb ?_ | refine RnB.nb ?_);simp only [vcW,vZ,Int.reduceEq,Int.reduceNe,Int.reduceLT,Int.reduceLE,Nat.reduceEqDiff,Nat.reduceAdd,reduceIte,reduceCtorEq,Nat.reduceLT,Nat.reduceLeDiff,Nat.reduceShiftRight,Nat.reduceMod]) | (with_reducible first | refine RnB.ii ?_ | refine RnB.app ?_) | (with_reducible refine RnB.fxB ?_;simp only [vcW,vZ,Int.reduceEq,Int.reduceNe,Int.reduceLT,Int.reduceLE,Nat.reduceEqDiff,Nat.reduceAdd,reduceIte,reduceCtorEq,Nat.reduceLT,Nat.reduceLeDiff,Nat.reduceShiftRight,Nat.reduceMod]) | omega)
    ·obtain rfl:H=true:=by cases H <;> simp at hAH ⊢
     simp only [vZ,Int.reduceEq,Int.reduceNe,Int.reduceLT,Int.reduceLE,Nat.reduceEqDiff,Nat.reduceAdd,reduceIte,reduceCtorEq,Nat.reduceLT,Nat.reduceLeDiff,Nat.reduceShiftRight,Nat.reduceMod]
     (repeat (with_reducible refine And.intro ?_ ?_;focus (first | omega | (unfold I64;omega))))
     refine ⟨⟨i+1,h',trivial⟩,by simp only;omega,?_⟩
     refine weakX [] (of_decide_eq_true rfl) (of_decide_eq_true rfl) ?_
     (simp only [hs,Ring.av,vcW,vZ,Int.reduceEq,Int.reduceNe,Int.reduceLT,Int.reduceLE,Nat.reduceEqDiff,Nat.reduceAdd,reduceIte,reduceCtorEq,Nat.reduceLT,Nat.reduceLeDiff,Nat.reduceShiftRight,Nat.reduceMod])
     (repeat' first | exact trivial | (with_reducible first | exact RnB.fxB (ints_fxB _) | rfl | refine And.intro ?_ ?_) | (with_reducible (first | refine RnB.bb ?_ | refine RnB.nb ?_);simp only [vcW,vZ,Int.reduceEq,Int.reduceNe,Int.reduceLT,Int.reduceLE,Nat.reduceEqDiff,Nat.reduceAdd,reduceIte,reduceCtorEq,Nat.reduceLT,Nat.reduceLeDiff,Nat.reduceShiftRight,Nat.reduceMod]) | (with_reducible first | refine RnB.ii ?_ | refine RnB.app ?_) | (with_reducible refine RnB.fxB ?_;simp only [vcW,vZ,Int.reduceEq,Int.reduceNe,Int.reduceLT,Int.reduceLE,Nat.reduceEqDiff,Nat.reduceAdd,reduceIte,reduceCtorEq,Nat.reduceLT,Nat.reduceLeDiff,Nat.reduceShiftRight,Nat.reduceMod]) | omega)
  ·have:i=l.length:=by (simp only [decide_eq_true_eq,decide_eq_false_iff_not,Bool.not_true,I64,Bool.not_eq_true',Bool.not_eq_false',bne_iff_ne,beq_iff_eq,ne_eq] at *;omega)
   cases this
   simp only [hE,vZ,Int.reduceEq,Int.reduceNe,Int.reduceLT,Int.reduceLE,Nat.reduceEqDiff,Nat.reduceAdd,reduceIte,reduceCtorEq,Nat.reduceLT,Nat.reduceLeDiff,Nat.reduceShiftRight,Nat.reduceMod]
   rw [borB_good _ _ _ _ _ (by simp [ints]) (ints_fx _)]
end Go.Proofs.YtpaklfjlbocfcaaGreatDoor

/- The library's functions as the shelf knows them: this program has them. Printed by a program. By an AI agent;nothing here is trusted. -/
namespace Go.Proofs.YtpaklfjlbocfcaaGreatDoor
def shRen:Go.Shelf.Ren:=⟨fun x=>match x with | 129=>223 | 171=>145 | 172=>149 | 205=>230 | 243=>191 | 244=>194 | 245=>195 | 246=>211 | 247=>214 | 279=>215 | 280=>216 | 281=>217 | 282=>218 | 283=>224 | 284=>225 | 285=>226 | 286=>227 | 287=>228 | 316=>229 | 317=>235 | 318=>236 | 319=>237 | 320=>127 | 321=>238 | 322=>239 | 337=>176 | 338=>177 | n=>n,fun x=>match x with | 0=>0 | 2=>2 | 3=>3 | 4=>4 | 5=>5 | 9=>9 | 20=>20 | 21=>21 | 37=>207 | 46=>184 | 51=>230 | 53=>186 | 75=>212 | 76=>213 | 80=>198 | 85=>259 | 127=>242 | 143=>285 | 145=>287 | 167=>258 | 168=>261 | 171=>266 | 173=>268 | 175=>270 | 210=>274 | 212=>282 | 213=>283 | 232=>248 | 233=>249 | n=>n,fun x=>match x with | 15=>5 | 16=>6 | 17=>9 | 18=>0 | 19=>1 | n=>n⟩
set_option maxRecDepth 100000 in
theorem sh_f129:Tryz.prog.funcs[shRen.f 129]?=some (Go.Proofs.Body.n129 shRen):=by kernel_rfl
set_option maxRecDepth 100000 in
theorem sh_f171:Tryz.prog.funcs[shRen.f 171]?=some (Go.Proofs.Body.n171 shRen):=by kernel_rfl
set_option maxRecDepth 100000 in
theorem sh_f243:Tryz.prog.funcs[shRen.f 243]?=some (Go.Proofs.Body.n243 shRen):=by kernel_rfl
set_option maxRecDepth 100000 in
theorem sh_f246:Tryz.prog.funcs[shRen.f 246]?=some (Go.Proofs.Body.n246 shRen):=by kernel_rfl
set_option maxRecDepth 100000 in
theorem sh_f283:Tryz.prog.funcs[shRen.f 283]?=some (Go.Proofs.Body.n283 shRen):=by kernel_rfl
set_option maxRecDepth 100000 in
theorem sh_f284:Tryz.prog.funcs[shRen.f 284]?=some (Go.Proofs.Body.n284 shRen):=by kernel_rfl
set_option maxRecDepth 100000 in
theorem sh_f285:Tryz.prog.funcs[shRen.f 285]?=some (Go.Proofs.Body.n285 shRen):=by kernel_rfl
set_option maxRecDepth 100000 in
theorem sh_f286:Tryz.prog.funcs[shRen.f 286]?=some (Go.Proofs.Body.n286 shRen):=by kernel_rfl
set_option maxRecDepth 100000 in
theorem sh_f317:Tryz.prog.funcs[shRen.f 317]?=some (Go.Proofs.Body.n317 shRen):=by kernel_rfl
set_option maxRecDepth 100000 in
theorem sh_f318:Tryz.prog.funcs[shRen.f 318]?=some (Go.Proofs.Body.n318 shRen):=by kernel_rfl
set_option maxRecDepth 100000 in
theorem sh_f319:Tryz.prog.funcs[shRen.f 319]?=some (Go.Proofs.Body.n319 shRen):=by kernel_rfl
set_option maxRecDepth 100000 in
theorem sh_f320:Tryz.prog.funcs[shRen.f 320]?=some (Go.Proofs.Body.n320 shRen):=by kernel_rfl
set_option maxRecDepth 100000 in
theorem sh_f337:Tryz.prog.funcs[shRen.f 337]?=some (Go.Proofs.Body.n337 shRen):=by kernel_rfl
set_option maxRecDepth 100000 in
theorem sh_f338:Tryz.prog.funcs[shRen.f 338]?=some (Go.Proofs.Body.n338 shRen):=by kernel_rfl
set_option maxRecDepth 100000 in
theorem sh_f172:Tryz.prog.funcs[shRen.f 172]?=some (Go.Proofs.Body.n172 shRen):=by kernel_rfl
set_option maxRecDepth 100000 in
theorem sh_f205:Tryz.prog.funcs[shRen.f 205]?=some (Go.Proofs.Body.n205 shRen):=by kernel_rfl
set_option maxRecDepth 100000 in
theorem sh_f244:Tryz.prog.funcs[shRen.f 244]?=some (Go.Proofs.Body.n244 shRen):=by kernel_rfl
set_option maxRecDepth 100000 in
theorem sh_f245:Tryz.prog.funcs[shRen.f 245]?=some (Go.Proofs.Body.n245 shRen):=by kernel_rfl
set_option maxRecDepth 100000 in
theorem sh_f247:Tryz.prog.funcs[shRen.f 247]?=some (Go.Proofs.Body.n247 shRen):=by kernel_rfl
set_option maxRecDepth 100000 in
theorem sh_f279:Tryz.prog.funcs[shRen.f 279]?=some (Go.Proofs.Body.n279 shRen):=by kernel_rfl
set_option maxRecDepth 100000 in
theorem sh_f280:Tryz.prog.funcs[shRen.f 280]?=some (Go.Proofs.Body.n280 shRen):=by kernel_rfl
set_option maxRecDepth 100000 in
theorem sh_f281:Tryz.prog.funcs[shRen.f 281]?=some (Go.Proofs.Body.n281 shRen):=by kernel_rfl
set_option maxRecDepth 100000 in
theorem sh_f282:Tryz.prog.funcs[shRen.f 282]?=some (Go.Proofs.Body.n282 shRen):=by kernel_rfl
set_option maxRecDepth 100000 in
theorem sh_f287:Tryz.prog.funcs[shRen.f 287]?=some (Go.Proofs.Body.n287 shRen):=by kernel_rfl
set_option maxRecDepth 100000 in
theorem sh_f316:Tryz.prog.funcs[shRen.f 316]?=some (Go.Proofs.Body.n316 shRen):=by kernel_rfl
set_option maxRecDepth 100000 in
theorem sh_f321:Tryz.prog.funcs[shRen.f 321]?=some (Go.Proofs.Body.n321 shRen):=by kernel_rfl
set_option maxRecDepth 100000 in
theorem sh_f322:Tryz.prog.funcs[shRen.f 322]?=some (Go.Proofs.Body.n322 shRen):=by kernel_rfl
theorem sh_n171:Go.Proofs.LaysM.n171 Tryz.prog shRen :=
 {mixed:=by kernel_rfl,
  f129:=sh_f129,
  f171:=sh_f171,
  f243:=sh_f243,
  f246:=sh_f246,
  f283:=sh_f283,
  f284:=sh_f284,
  f285:=sh_f285,
  f286:=sh_f286,
  f317:=sh_f317,
  f318:=sh_f318,
  f319:=sh_f319,
  f320:=sh_f320,
  f337:=sh_f337,
  f338:=sh_f338,
  t0:=Tryz.underlying0,
  a0:=Tryz.isAgg0,
  z0:=Tryz.sizeOf0,
  v0:=Tryz.zeroValue0,
  t2:=Tryz.underlying2,
  a2:=Tryz.isAgg2,
  z2:=Tryz.sizeOf2,
  v2:=Tryz.zeroValue2,
  t3:=Tryz.underlying3,
  a3:=Tryz.isAgg3,
  z3:=Tryz.sizeOf3,
  v3:=Tryz.zeroValue3,
  t4:=Tryz.underlying4,
  a4:=Tryz.isAgg4,
  z4:=Tryz.sizeOf4,
  v4:=Tryz.zeroValue4,
  t5:=Tryz.underlying5,
  a5:=Tryz.isAgg5,
  z5:=Tryz.sizeOf5,
  v5:=Tryz.zeroValue5,
  t9:=Tryz.underlying9,
  a9:=Tryz.isAgg9,
  z9:=Tryz.sizeOf9,
  v9:=Tryz.zeroValue9,
  t20:=Tryz.underlying20,
  a20:=Tryz.isAgg20,
  z20:=Tryz.sizeOf20,
  v20:=Tryz.zeroValue20,
  t37:=Tryz.underlying207,
  a37:=Tryz.isAgg207,
  z37:=Tryz.sizeOf207,
  v37:=Tryz.zeroValue207,
  t46:=Tryz.underlying184,
  a46:=Tryz.isAgg184,
  z46:=Tryz.sizeOf184,
  v46:=Tryz.zeroValue184,
  t51:=Tryz.underlying230,
  a51:=Tryz.isAgg230,
  z51:=Tryz.sizeOf230,
  v51:=Tryz.zeroValue230,
  t53:=Tryz.underlying186,
  a53:=Tryz.isAgg186,
  z53:=Tryz.sizeOf186,
  v53:=Tryz.zeroValue186,
  t171:=Tryz.underlying266,
  a171:=Tryz.isAgg266,
  z171:=Tryz.sizeOf266,
  v171:=Tryz.zeroValue266,
  t173:=Tryz.underlying268,
  a173:=Tryz.isAgg268,
  z173:=Tryz.sizeOf268,
  v173:=Tryz.zeroValue268,
  t212:=Tryz.underlying282,
  a212:=Tryz.isAgg282,
  z212:=Tryz.sizeOf282,
  v212:=Tryz.zeroValue282,
  t213:=Tryz.underlying283,
  a213:=Tryz.isAgg283,
  z213:=Tryz.sizeOf283,
  t232:=Tryz.underlying248,
  a232:=Tryz.isAgg248,
  z232:=Tryz.sizeOf248,
  v232:=Tryz.zeroValue248,
  t233:=Tryz.underlying249,
  a233:=Tryz.isAgg249,
  z233:=Tryz.sizeOf249,
  v233:=Tryz.zeroValue249,
  g17:=by kernel_rfl,
  g18:=by kernel_rfl,
  g19:=by kernel_rfl,
  i0:=by kernel_rfl,
  i2:=by kernel_rfl,
  i3:=by kernel_rfl,
  i4:=by kernel_rfl,
  i5:=by kernel_rfl,
  i9:=by kernel_rfl,
  i20:=by kernel_rfl,
  i37:=by kernel_rfl,
  i46:=by kernel_rfl,
  i51:=by kernel_rfl,
  i53:=by kernel_rfl,
  i171:=by kernel_rfl,
  i173:=by kernel_rfl,
  i212:=by kernel_rfl,
  i232:=by kernel_rfl,
  i233:=by kernel_rfl,
  m17:=by kernel_rfl,
  m18:=by kernel_rfl,
  m19:=by kernel_rfl }
theorem sh_n172:Go.Proofs.LaysC.n172 Tryz.prog shRen :=
 {mixed:=by kernel_rfl,
  f129:=sh_f129,
  f171:=sh_f171,
  f172:=sh_f172,
  f205:=sh_f205,
  f243:=sh_f243,
  f244:=sh_f244,
  f245:=sh_f245,
  f246:=sh_f246,
  f247:=sh_f247,
  f279:=sh_f279,
  f280:=sh_f280,
  f281:=sh_f281,
  f282:=sh_f282,
  f283:=sh_f283,
  f284:=sh_f284,
  f285:=sh_f285,
  f286:=sh_f286,
  f287:=sh_f287,
  f316:=sh_f316,
  f317:=sh_f317,
  f318:=sh_f318,
  f319:=sh_f319,
  f320:=sh_f320,
  f321:=sh_f321,
  f322:=sh_f322,
  f337:=sh_f337,
  f338:=sh_f338,
  t0:=Tryz.underlying0,
  a0:=Tryz.isAgg0,
  z0:=Tryz.sizeOf0,
  v0:=Tryz.zeroValue0,
  t2:=Tryz.underlying2,
  a2:=Tryz.isAgg2,
  z2:=Tryz.sizeOf2,
  v2:=Tryz.zeroValue2,
  t3:=Tryz.underlying3,
  a3:=Tryz.isAgg3,
  z3:=Tryz.sizeOf3,
  v3:=Tryz.zeroValue3,
  t4:=Tryz.underlying4,
  a4:=Tryz.isAgg4,
  z4:=Tryz.sizeOf4,
  v4:=Tryz.zeroValue4,
  t5:=Tryz.underlying5,
  a5:=Tryz.isAgg5,
  z5:=Tryz.sizeOf5,
  v5:=Tryz.zeroValue5,
  t9:=Tryz.underlying9,
  a9:=Tryz.isAgg9,
  z9:=Tryz.sizeOf9,
  v9:=Tryz.zeroValue9,
  t20:=Tryz.underlying20,
  a20:=Tryz.isAgg20,
  z20:=Tryz.sizeOf20,
  v20:=Tryz.zeroValue20,
  t21:=Tryz.underlying21,
  a21:=Tryz.isAgg21,
  z21:=Tryz.sizeOf21,
  v21:=Tryz.zeroValue21,
  t37:=Tryz.underlying207,
  a37:=Tryz.isAgg207,
  z37:=Tryz.sizeOf207,
  v37:=Tryz.zeroValue207,
  t46:=Tryz.underlying184,
  a46:=Tryz.isAgg184,
  z46:=Tryz.sizeOf184,
  v46:=Tryz.zeroValue184,
  t51:=Tryz.underlying230,
  a51:=Tryz.isAgg230,
  z51:=Tryz.sizeOf230,
  v51:=Tryz.zeroValue230,
  t53:=Tryz.underlying186,
  a53:=Tryz.isAgg186,
  z53:=Tryz.sizeOf186,
  v53:=Tryz.zeroValue186,
  t75:=Tryz.underlying212,
  a75:=Tryz.isAgg212,
  z75:=Tryz.sizeOf212,
  v75:=Tryz.zeroValue212,
  t76:=Tryz.underlying213,
  a76:=Tryz.isAgg213,
  z76:=Tryz.sizeOf213,
  v76:=Tryz.zeroValue213,
  t85:=Tryz.underlying259,
  a85:=Tryz.isAgg259,
  z85:=Tryz.sizeOf259,
  v85:=Tryz.zeroValue259,
  t127:=Tryz.underlying242,
  a127:=Tryz.isAgg242,
  z127:=Tryz.sizeOf242,
  v127:=Tryz.zeroValue242,
  t143:=Tryz.underlying285,
  a143:=Tryz.isAgg285,
  z143:=Tryz.sizeOf285,
  v143:=Tryz.zeroValue285,
  t145:=Tryz.underlying287,
  a145:=Tryz.isAgg287,
  z145:=Tryz.sizeOf287,
  v145:=Tryz.zeroValue287,
  t167:=Tryz.underlying258,
  a167:=Tryz.isAgg258,
  z167:=Tryz.sizeOf258,
  v167:=Tryz.zeroValue258,
  t168:=Tryz.underlying261,
  a168:=Tryz.isAgg261,
  z168:=Tryz.sizeOf261,
  v168:=Tryz.zeroValue261,
  t171:=Tryz.underlying266,
  a171:=Tryz.isAgg266,
  z171:=Tryz.sizeOf266,
  v171:=Tryz.zeroValue266,
  t173:=Tryz.underlying268,
  a173:=Tryz.isAgg268,
  z173:=Tryz.sizeOf268,
  v173:=Tryz.zeroValue268,
  t175:=Tryz.underlying270,
  a175:=Tryz.isAgg270,
  z175:=Tryz.sizeOf270,
  v175:=Tryz.zeroValue270,
  t210:=Tryz.underlying274,
  a210:=Tryz.isAgg274,
  z210:=Tryz.sizeOf274,
  v210:=Tryz.zeroValue274,
  t212:=Tryz.underlying282,
  a212:=Tryz.isAgg282,
  z212:=Tryz.sizeOf282,
  v212:=Tryz.zeroValue282,
  t213:=Tryz.underlying283,
  a213:=Tryz.isAgg283,
  z213:=Tryz.sizeOf283,
  t232:=Tryz.underlying248,
  a232:=Tryz.isAgg248,
  z232:=Tryz.sizeOf248,
  v232:=Tryz.zeroValue248,
  t233:=Tryz.underlying249,
  a233:=Tryz.isAgg249,
  z233:=Tryz.sizeOf249,
  v233:=Tryz.zeroValue249,
  g15:=by kernel_rfl,
  g16:=by kernel_rfl,
  g17:=by kernel_rfl,
  g18:=by kernel_rfl,
  g19:=by kernel_rfl,
  t80:=Tryz.underlying198,
  a80:=Tryz.isAgg198,
  z80:=Tryz.sizeOf198,
  v80:=Tryz.zeroValue198,
  i0:=by kernel_rfl,
  i2:=by kernel_rfl,
  i3:=by kernel_rfl,
  i4:=by kernel_rfl,
  i5:=by kernel_rfl,
  i9:=by kernel_rfl,
  i20:=by kernel_rfl,
  i21:=by kernel_rfl,
  i37:=by kernel_rfl,
  i46:=by kernel_rfl,
  i51:=by kernel_rfl,
  i53:=by kernel_rfl,
  i75:=by kernel_rfl,
  i76:=by kernel_rfl,
  i80:=by kernel_rfl,
  i85:=by kernel_rfl,
  i127:=by kernel_rfl,
  i143:=by kernel_rfl,
  i145:=by kernel_rfl,
  i167:=by kernel_rfl,
  i168:=by kernel_rfl,
  i171:=by kernel_rfl,
  i173:=by kernel_rfl,
  i175:=by kernel_rfl,
  i210:=by kernel_rfl,
  i212:=by kernel_rfl,
  i232:=by kernel_rfl,
  i233:=by kernel_rfl,
  m15:=by kernel_rfl,
  m16:=by kernel_rfl,
  m17:=by kernel_rfl,
  m18:=by kernel_rfl,
  m19:=by kernel_rfl,
  c0:=by kernel_rfl,
  c2:=by kernel_rfl,
  c3:=by kernel_rfl,
  c4:=by kernel_rfl,
  c5:=by kernel_rfl,
  c9:=by kernel_rfl,
  c20:=by kernel_rfl,
  c21:=by kernel_rfl,
  c37:=by kernel_rfl,
  c46:=by kernel_rfl,
  c51:=by kernel_rfl,
  c53:=by kernel_rfl,
  c75:=by kernel_rfl,
  c76:=by kernel_rfl,
  c80:=by kernel_rfl,
  c85:=by kernel_rfl,
  c127:=by kernel_rfl,
  c143:=by kernel_rfl,
  c145:=by kernel_rfl,
  c167:=by kernel_rfl,
  c168:=by kernel_rfl,
  c171:=by kernel_rfl,
  c173:=by kernel_rfl,
  c175:=by kernel_rfl,
  c210:=by kernel_rfl,
  c212:=by kernel_rfl,
  c213:=by kernel_rfl,
  c232:=by kernel_rfl,
  c233:=by kernel_rfl }
end Go.Proofs.YtpaklfjlbocfcaaGreatDoor

/- Contracts off the library's shelf: lengths in bits,numerals. By an AI agent;nothing here is trusted. -/
namespace Go.Proofs.YtpaklfjlbocfcaaGreatDoor
open Go.Av
open Go.RowKit (Below)

theorem vr_int {h:Array Obj} {ok:Nat→Prop} {ρ:Nat→Option Nat} {σ:Store} {k:IntKind} {n:Int} {v:Value} (hv:VR h ok ρ σ (.int k n) v):v=.int k n:=by cases hv;rfl
theorem vr_str {h:Array Obj} {ok:Nat→Prop} {ρ:Nat→Option Nat} {σ:Store} {l:List UInt8} {v:Value} (hv:VR h ok ρ σ (.str l) v):v=.string ⟨l.toArray⟩:=by
 cases hv with
 | str _ b hs =>
  congr 1
  cases b with
  | mk d=>simp only at hs;subst hs;simp
theorem args_1 {cargs:Array Value} {v:Value} (hlen:cargs.size=1) (h0:cargs.getD 0 undef=v):cargs=#[v]:=by
 apply Array.ext
 ·simpa using hlen
 ·intro i hi1 hi2
  simp at hi2
  subst hi2
  simpa [Array.getD,hi1] using h0
theorem args_2 {cargs:Array Value} {v u:Value} (hlen:cargs.size=2) (h0:cargs.getD 0 undef=v) (h1:cargs.getD 1 undef=u):cargs=#[v,u]:=by
 apply Array.ext
 ·simpa using hlen
 ·intro i hi1 hi2
  simp at hi2
  have:i=0∨i=1:=by omega
  rcases this with rfl | rfl
  ·simpa [Array.getD,hi1] using h0
  ·simpa [Array.getD,hi1] using h1
theorem below_drewN (w:World) (n:Nat):Below w.heap.size w (w.drewN n):=⟨rfl,rfl,rfl,Nat.le_refl _,fun _ _=>rfl⟩
theorem below_grow (w:World) (os:Array Obj):Below w.heap.size w (Go.Sort.grow w os) :=
 ⟨rfl,rfl,rfl,by simp [Go.Sort.grow],fun k hk=>by simp [Go.Sort.grow,Array.getElem?_append_left hk]⟩
theorem below_dg (w:World) (n:Nat) (os:Array Obj):Below w.heap.size w (Go.Sort.grow (w.drewN n) os):=(below_drewN w n).trans (below_grow (w.drewN n) os)

theorem tab_of {ok:Nat→Prop} {w:World} (hG:GOk ok w):Lib.TabIs Tryz.prog w "internal/strconv.uint64pow10" .u64 Lib.pow10Tab:=by
 have hm:(9,IntKind.u64,Lib.pow10Tab) ∈ gTab:=by
  have:Lib.pow10Tab=[1,10,100,1000,10000,100000,1000000,10000000,100000000,1000000000,10000000000,100000000000,1000000000000,10000000000000,100000000000000,1000000000000000,10000000000000000,100000000000000000,1000000000000000000,10000000000000000000]:=by decide +kernel
  rw [this];simp [gTab]
 obtain ⟨_,cur,ty,fr,h2,h3,h4⟩:=hG.1 _ hm
 have hg:Tryz.prog.globalNamed "internal/strconv.uint64pow10"=some 9:=by kernel_rfl
 unfold Lib.TabIs World.var?
 rw [hg]
 simp only [Option.bind_some,h2]
 congr 1
 apply Array.ext
 ·simpa using h3
 ·intro i h5 h6
  have hi:i<Lib.pow10Tab.length:=by simpa using h6
  have:=h4 i _ (List.getElem?_eq_getElem hi)
  rw [Array.getElem?_eq_getElem h5] at this
  simpa using this
theorem Itoa_s (n:Int) (hn:I64 n):Sound Tryz.prog 145 [.int .i64 n] (.str (Lib.itoa n)):=by
 intro w ok cargs hok hG hlen hargs
 rw [args_1 (by simpa using hlen) (vr_int (hargs 0 _ rfl))]
 refine .inr ⟨callFunc_enter Tryz.func145 (by kernel_rfl) rfl _,(Any.strconv_Itoa sh_n171 n hn.1 hn.2 w (tab_of hG)).mono fun e w' ⟨he,k,os,hw⟩=>⟨_,he,?_,?_⟩⟩
 ·rw [hw];exact below_dg _ _ _
 ·exact .str _ _ (by simp)
end Go.Proofs.YtpaklfjlbocfcaaGreatDoor

/- Contracts off the shelf: strconv.Atoi at every string. By an AI agent;nothing here is trusted. -/
namespace Go.Proofs.YtpaklfjlbocfcaaGreatDoor
open Go.Av
open Go.RowKit (Below)

def atoiV (s:List UInt8):AV:=match Lib.atoiAll s with
 | .ok v=>.tup [.int .i64 v,.nili]
 | .range=>.tup [.int .i64 (Lib.atoiSat s),.ifc]
 | _=>.tup [.int .i64 0,.ifc]
theorem err_of {ok:Nat→Prop} {w:World} (hG:GOk ok w) {g:Nat} (hg:g ∈ gErr):∃ ev,w.cell? ⟨g,0,none⟩=some ev∧(ev=.nilIface∨∃ te pe,ev=.iface te pe):=by
 obtain ⟨_,cur,ty,fr,te,pe,h1,h2⟩:=hG.2 g hg
 refine ⟨.iface te pe,?_,.inr ⟨te,pe,rfl⟩⟩
 rw [cell_of_heap h1];exact h2
theorem vr_pair {h:Array Obj} {ok:Nat→Prop} {ρ:Nat→Option Nat} {σ:Store} {x y:AV} {u v:Value} (h1:VR h ok ρ σ x u) (h2:VR h ok ρ σ y v):VR h ok ρ σ (.tup [x,y]) (.tuple #[u,v]):=by
 refine .tup _ _ rfl fun i c hc=>?_
 match i with
 | 0=>simp at hc;subst hc;exact h1
 | 1=>simp at hc;subst hc;exact h2
 | i+2=>simp at hc
theorem Atoi_s (s:List UInt8) (hs:s.length≤1000000):Sound Tryz.prog 149 [.str s] (atoiV s):=by
 intro w ok cargs hok hG hlen hargs
 rw [args_1 (by simpa using hlen) (vr_str (hargs 0 _ rfl))]
 refine .inr ⟨callFunc_enter Tryz.func149 (by kernel_rfl) rfl _,?_⟩
 have hsz:(⟨s.toArray⟩:ByteArray).size≤1000000:=by simpa [ByteArray.size] using hs
 unfold atoiV
 cases h:Lib.atoiAll s with
 | ok v =>
  refine (Any.strconv_Atoi_ok sh_n172 ⟨s.toArray⟩ (by omega) v (by simpa using h) w).mono fun e w' ⟨he,hw⟩=>⟨_,he,?_,vr_pair (.int _ _) .nili⟩
  rcases hw with hw | ⟨t,hw⟩ <;> rw [hw]
  ·exact Below.refl _ _
  ·exact Lib.bytesWorld_below _ _ _
 | range =>
  obtain ⟨ev,g1,g2⟩:=err_of hG (g:=6) (by simp [gErr])
  refine (Any.strconv_Atoi_range sh_n172 ⟨s.toArray⟩ (by omega) (by simpa using h) ev w g1 g2).mono fun e w' ⟨N,he,h1,h2,h3⟩=>⟨_,he,h3,?_⟩
  exact vr_pair (.int _ _) (.ifc _ _)
 | _ =>
  obtain ⟨ev,g1,g2⟩:=err_of hG (g:=5) (by simp [gErr])
  exact (Any.strconv_Atoi_syntax sh_n172 ⟨s.toArray⟩ (by omega) (by simpa using h) ev w g1 g2).mono fun e w' ⟨N,he,h1,h2,h3⟩=>⟨_,he,h3,vr_pair (.int _ _) (.ifc _ _)⟩
end Go.Proofs.YtpaklfjlbocfcaaGreatDoor

/- Off the library's shelf: the layings of strings.Index,Join,TrimPrefix. Printed by lays.py. By an AI agent;nothing here is trusted. -/
namespace Go.Proofs.YtpaklfjlbocfcaaGreatDoor
def sjRen:Go.Shelf.Ren:=⟨fun x=>match x with | 143=>198 | 156=>77 | 165=>146 | 166=>147 | 169=>148 | 217=>231 | 219=>220 | 224=>233 | 225=>232 | 240=>192 | 241=>193 | 266=>240 | 267=>234 | 276=>212 | 277=>213 | 314=>241 | n=>n,fun x=>match x with | 0=>0 | 3=>3 | 4=>4 | 5=>5 | 9=>9 | 20=>20 | 31=>138 | 37=>207 | 46=>184 | 51=>230 | 70=>206 | 72=>209 | 75=>212 | 76=>213 | 80=>198 | 127=>242 | 146=>288 | 164=>255 | n=>n,fun x=>match x with | 1=>4 | n=>n⟩
set_option maxRecDepth 100000 in
theorem sj_f143:Tryz.prog.funcs[sjRen.f 143]?=some (Go.Proofs.Body.n143 sjRen):=by kernel_rfl
set_option maxRecDepth 100000 in
theorem sj_f217:Tryz.prog.funcs[sjRen.f 217]?=some (Go.Proofs.Body.n217 sjRen):=by kernel_rfl
set_option maxRecDepth 100000 in
theorem sj_f219:Tryz.prog.funcs[sjRen.f 219]?=some (Go.Proofs.Body.n219 sjRen):=by kernel_rfl
set_option maxRecDepth 100000 in
theorem sj_f224:Tryz.prog.funcs[sjRen.f 224]?=some (Go.Proofs.Body.n224 sjRen):=by kernel_rfl
set_option maxRecDepth 100000 in
theorem sj_f225:Tryz.prog.funcs[sjRen.f 225]?=some (Go.Proofs.Body.n225 sjRen):=by kernel_rfl
set_option maxRecDepth 100000 in
theorem sj_f266:Tryz.prog.funcs[sjRen.f 266]?=some (Go.Proofs.Body.n266 sjRen):=by kernel_rfl
set_option maxRecDepth 100000 in
theorem sj_f267:Tryz.prog.funcs[sjRen.f 267]?=some (Go.Proofs.Body.n267 sjRen):=by kernel_rfl
set_option maxRecDepth 100000 in
theorem sj_f314:Tryz.prog.funcs[sjRen.f 314]?=some (Go.Proofs.Body.n314 sjRen):=by kernel_rfl
set_option maxRecDepth 100000 in
theorem sj_f156:Tryz.prog.funcs[sjRen.f 156]?=some (Go.Proofs.Body.n156 sjRen):=by kernel_rfl
set_option maxRecDepth 100000 in
theorem sj_f165:Tryz.prog.funcs[sjRen.f 165]?=some (Go.Proofs.Body.n165 sjRen):=by kernel_rfl
set_option maxRecDepth 100000 in
theorem sj_f166:Tryz.prog.funcs[sjRen.f 166]?=some (Go.Proofs.Body.n166 sjRen):=by kernel_rfl
set_option maxRecDepth 100000 in
theorem sj_f169:Tryz.prog.funcs[sjRen.f 169]?=some (Go.Proofs.Body.n169 sjRen):=by kernel_rfl
set_option maxRecDepth 100000 in
theorem sj_f240:Tryz.prog.funcs[sjRen.f 240]?=some (Go.Proofs.Body.n240 sjRen):=by kernel_rfl
set_option maxRecDepth 100000 in
theorem sj_f241:Tryz.prog.funcs[sjRen.f 241]?=some (Go.Proofs.Body.n241 sjRen):=by kernel_rfl
set_option maxRecDepth 100000 in
theorem sj_f276:Tryz.prog.funcs[sjRen.f 276]?=some (Go.Proofs.Body.n276 sjRen):=by kernel_rfl
set_option maxRecDepth 100000 in
theorem sj_f277:Tryz.prog.funcs[sjRen.f 277]?=some (Go.Proofs.Body.n277 sjRen):=by kernel_rfl
theorem sj_n143:Go.Proofs.Lays.n143 Tryz.prog sjRen :=
 {mixed:=by kernel_rfl,
  f143:=sj_f143,
  f217:=sj_f217,
  f219:=sj_f219,
  f224:=sj_f224,
  f225:=sj_f225,
  f266:=sj_f266,
  f267:=sj_f267,
  f314:=sj_f314,
  t3:=Tryz.underlying3,
  a3:=Tryz.isAgg3,
  z3:=Tryz.sizeOf3,
  v3:=Tryz.zeroValue3,
  t4:=Tryz.underlying4,
  a4:=Tryz.isAgg4,
  z4:=Tryz.sizeOf4,
  v4:=Tryz.zeroValue4,
  t5:=Tryz.underlying5,
  a5:=Tryz.isAgg5,
  z5:=Tryz.sizeOf5,
  v5:=Tryz.zeroValue5,
  t9:=Tryz.underlying9,
  a9:=Tryz.isAgg9,
  z9:=Tryz.sizeOf9,
  v9:=Tryz.zeroValue9,
  t46:=Tryz.underlying184,
  a46:=Tryz.isAgg184,
  z46:=Tryz.sizeOf184,
  v46:=Tryz.zeroValue184,
  t51:=Tryz.underlying230,
  a51:=Tryz.isAgg230,
  z51:=Tryz.sizeOf230,
  v51:=Tryz.zeroValue230,
  t146:=Tryz.underlying288,
  a146:=Tryz.isAgg288,
  z146:=Tryz.sizeOf288,
  v146:=Tryz.zeroValue288,
  g1:=by kernel_rfl }
theorem sj_n156:Go.Proofs.Lays.n156 Tryz.prog sjRen :=
 {mixed:=by kernel_rfl,
  f156:=sj_f156,
  f165:=sj_f165,
  f166:=sj_f166,
  f169:=sj_f169,
  f240:=sj_f240,
  f241:=sj_f241,
  f276:=sj_f276,
  f277:=sj_f277,
  t0:=Tryz.underlying0,
  a0:=Tryz.isAgg0,
  z0:=Tryz.sizeOf0,
  v0:=Tryz.zeroValue0,
  t3:=Tryz.underlying3,
  a3:=Tryz.isAgg3,
  z3:=Tryz.sizeOf3,
  v3:=Tryz.zeroValue3,
  t4:=Tryz.underlying4,
  a4:=Tryz.isAgg4,
  z4:=Tryz.sizeOf4,
  v4:=Tryz.zeroValue4,
  t9:=Tryz.underlying9,
  a9:=Tryz.isAgg9,
  z9:=Tryz.sizeOf9,
  v9:=Tryz.zeroValue9,
  t20:=Tryz.underlying20,
  a20:=Tryz.isAgg20,
  z20:=Tryz.sizeOf20,
  v20:=Tryz.zeroValue20,
  t31:=Tryz.underlying138,
  a31:=Tryz.isAgg138,
  z31:=Tryz.sizeOf138,
  v31:=Tryz.zeroValue138,
  t37:=Tryz.underlying207,
  a37:=Tryz.isAgg207,
  z37:=Tryz.sizeOf207,
  v37:=Tryz.zeroValue207,
  t70:=Tryz.underlying206,
  a70:=Tryz.isAgg206,
  z70:=Tryz.sizeOf206,
  v70:=Tryz.zeroValue206,
  t72:=Tryz.underlying209,
  a72:=Tryz.isAgg209,
  z72:=Tryz.sizeOf209,
  v72:=Tryz.zeroValue209,
  t75:=Tryz.underlying212,
  a75:=Tryz.isAgg212,
  z75:=Tryz.sizeOf212,
  v75:=Tryz.zeroValue212,
  t76:=Tryz.underlying213,
  a76:=Tryz.isAgg213,
  z76:=Tryz.sizeOf213,
  v76:=Tryz.zeroValue213,
  t127:=Tryz.underlying242,
  a127:=Tryz.isAgg242,
  z127:=Tryz.sizeOf242,
  v127:=Tryz.zeroValue242,
  t164:=Tryz.underlying255,
  a164:=Tryz.isAgg255,
  z164:=Tryz.sizeOf255,
  v164:=Tryz.zeroValue255 }
end Go.Proofs.YtpaklfjlbocfcaaGreatDoor

/- Contracts off the shelf: strings.Join. By an AI agent;nothing here is trusted. -/
namespace Go.Proofs.YtpaklfjlbocfcaaGreatDoor
open Go.Av
open Go.RowKit (Below)

theorem sjB:Builder.Extra Tryz.prog sjRen where
 sizeBuilder:=by kernel_rfl
 liesBuilder:=by kernel_rfl
 t5:=Tryz.underlying5
 a5:=Tryz.isAgg5
 z5:=Tryz.sizeOf5
 v5:=Tryz.zeroValue5
 infoByte:=by kernel_rfl
 cellsByte:=by kernel_rfl
 sizeByte:=by kernel_rfl
 neB5:=by decide
theorem ba_list (xs:List (List UInt8)):(xs.map fun x=>(⟨x.toArray⟩:ByteArray)).map (·.data.toList)=xs:=by
 induction xs with
 | nil=>rfl
 | cons x l ih=>simp only [List.map_cons,ih]
theorem Join_s (xs:List (List UInt8)) (sep:List UInt8) (hx:xs.length≤1000000) (hj:(Lib.join xs sep).length≤140737488355328):Sound Tryz.prog 77 [.sl (xs.map .str),.str sep] (.str (Lib.join xs sep)):=by
 intro w ok cargs hok hG hlen hargs
 have h0:=hargs 0 _ rfl
 have h1:=vr_str (hargs 1 _ rfl)
 obtain ⟨sv,hsv⟩:∃ sv,sv=cargs.getD 0 undef:=⟨_,rfl⟩
 rw [← hsv] at h0
 rw [args_2 (by simpa using hlen) hsv.symm h1]
 clear hargs hsv h1
 refine .inr ⟨callFunc_enter Tryz.func77 (by kernel_rfl) rfl _,?_⟩
 have hd:Lib.join ((xs.map fun x=>(⟨x.toArray⟩:ByteArray)).map (·.data.toList)) sep=Lib.join xs sep:=by rw [ba_list]
 generalize hes:xs.map AV.str=es at h0
 cases h0 with
 | sl0 A cap =>
  have hxs:xs=[]:=by cases xs <;> simp at hes ⊢
  subst hxs
  exact (Any.strings_Join_none sj_n156 sjB A cap ⟨sep.toArray⟩ w).mono fun e w' ⟨he,hw⟩=>⟨_,he,hw ▸ Below.refl _ _,.str _ _ (by simp [Lib.join])⟩
 | sl _ b off sz cap cur ty fr vals ho hcap hb hs hc hvv =>
  subst hes
  have hlt:b<w.heap.size:=(Array.getElem?_eq_some_iff.1 hb).1
  have:=Any.strings_Join sj_n156 sjB b off cap (xs.map fun x=>(⟨x.toArray⟩:ByteArray)) ⟨sep.toArray⟩ w ?_ hlt (by simpa using Nat.le_trans hx (by decide)) (by simpa using hcap) (by rw [ba_list];exact hj)
  ·rw [ba_list] at this
   simp only [List.length_map] at this ⊢
   exact this.mono fun e w' ⟨he,hw⟩=>⟨_,he,hw,.str _ _ (by simp)⟩
  ·intro j x hjx
   rw [List.getElem?_map] at hjx
   cases hy:xs[j]? with
   | none=>rw [hy] at hjx;cases hjx
   | some y =>
    rw [hy] at hjx
    simp at hjx;subst hjx
    have hm:(xs.map AV.str)[j]?=some (.str y):=by rw [List.getElem?_map,hy];rfl
    have hz:=(hs j _ hm).1
    have hc0:=hc j _ 0 (.str y) hm rfl
    have hv0:=hvv j _ 0 (.str y) hm rfl
    have hsz:sz=1:=by simpa [cellsOf] using hz.symm
    subst hsz
    rw [vr_str hv0] at hc0
    rw [cell_of_heap hb]
    simpa using hc0
end Go.Proofs.YtpaklfjlbocfcaaGreatDoor

/- Numerals,in plain Lean. By an AI agent;nothing here is trusted. -/
namespace Go.Lin
open Go.Lib

end Go.Lin

/- Numerals and what they spell,in plain Lean. By an AI agent;nothing here is trusted. -/
namespace Go.Lin
open Go.Lib

def isDig (c:UInt8):Bool:=decide (48≤c.toNat) && decide (c.toNat≤57)
def val (l:List UInt8):Nat:=l.foldl (fun a c=>a * 10+(c.toNat - 48)) 0
theorem val_snoc (l:List UInt8) (c:UInt8):val (l ++ [c])=val l * 10+(c.toNat - 48):=by simp [val,List.foldl_append]
theorem dig_ofNat {d:Nat} (h:d<10):(UInt8.ofNat (48+d)).toNat=48+d:=by
 rw [UInt8.toNat_ofNat'];omega
theorem dig_of {c:UInt8} (h:isDig c=true):c=UInt8.ofNat (48+(c.toNat - 48)):=by
 unfold isDig at h
 simp only [Bool.and_eq_true,decide_eq_true_eq] at h
 apply UInt8.toNat_inj.1
 rw [dig_ofNat (by omega)];omega
theorem dec_ne (u:Nat):decDigits u ≠ []:=by
 rw [decDigits];split <;> simp
theorem dec_dig:∀ u,(decDigits u).all isDig=true:=by
 intro u
 induction u using Nat.strongRecOn with
 | ind u ih =>
  rw [decDigits]
  split
  ·rename_i h
   simp only [isDig,List.all_cons,List.all_nil,Bool.and_true,dig_ofNat h,Bool.and_eq_true,decide_eq_true_eq];omega
  ·rename_i h
   simp only [List.all_append,ih (u / 10) (by omega),List.all_cons,List.all_nil,Bool.true_and,Bool.and_true]
   simp only [isDig,dig_ofNat (show u % 10<10 by omega),Bool.and_eq_true,decide_eq_true_eq];omega
theorem val_dec:∀ u,val (decDigits u)=u:=by
 intro u
 induction u using Nat.strongRecOn with
 | ind u ih =>
  rw [decDigits]
  split
  ·rename_i h
   simp only [val,List.foldl_cons,List.foldl_nil,dig_ofNat h];omega
  ·rename_i h
   rw [val_snoc,ih (u / 10) (by omega),dig_ofNat (by omega)];omega
theorem dec_head {u:Nat} (h:0<u):∃ c r,decDigits u=c :: r∧c.toNat ≠ 48:=by
 induction u using Nat.strongRecOn with
 | ind u ih =>
  rw [decDigits]
  split
  ·rename_i h'
   exact ⟨_,[],rfl,by rw [dig_ofNat h'];omega⟩
  ·rename_i h'
   obtain ⟨c,r,h1,h2⟩:=ih (u / 10) (by omega) (by omega)
   exact ⟨c,r ++ [UInt8.ofNat (48+u % 10)],by rw [h1];rfl,h2⟩
theorem dec_val:∀ (r:List UInt8) (c:UInt8),(c :: r).all isDig=true→(c.toNat ≠ 48∨r=[])→decDigits (val (c :: r))=c :: r:=by
 intro r
 generalize hr:r.reverse=s
 induction s generalizing r with
 | nil =>
  have:r=[]:=by simpa using hr
  subst this
  intro c h _
  simp only [List.all_cons,List.all_nil,Bool.and_true] at h
  have hv:val [c]=c.toNat - 48:=by simp [val]
  have h':=h
  unfold isDig at h'
  simp only [Bool.and_eq_true,decide_eq_true_eq] at h'
  rw [hv,decDigits,dif_pos (by omega),← dig_of h]
 | cons x s ih =>
  have:r=s.reverse ++ [x]:=by rw [← List.reverse_cons,← hr,List.reverse_reverse]
  subst this
  intro c h hc
  have hc':c.toNat ≠ 48:=hc.resolve_right (by simp)
  have e:c :: (s.reverse ++ [x])=(c :: s.reverse) ++ [x]:=rfl
  rw [e] at h ⊢
  simp only [List.all_append,List.all_cons,List.all_nil,Bool.and_true,Bool.and_eq_true] at h
  have h1:=ih s.reverse (List.reverse_reverse s) c (by simp only [List.all_cons,Bool.and_eq_true];exact h.1) (.inl hc')
  have hx:=h.2
  unfold isDig at hx
  simp only [Bool.and_eq_true,decide_eq_true_eq] at hx
  have hpos:0<val (c :: s.reverse):=by
   refine Nat.pos_of_ne_zero fun h0=>?_
   rw [h0,decDigits] at h1
   simp only [Nat.lt_irrefl,show (0:Nat)<10 by omega,dif_pos] at h1
   injection h1 with h1 _
   apply hc'
   rw [← h1];decide
  rw [val_snoc,decDigits,dif_neg (by omega)]
  have e1:(val (c :: s.reverse) * 10+(x.toNat - 48)) / 10=val (c :: s.reverse):=by omega
  have e2:(val (c :: s.reverse) * 10+(x.toNat - 48)) % 10=x.toNat - 48:=by omega
  rw [e1,e2,h1,← dig_of h.2]

def numD (k:Nat) (one:Bool) (ds:List UInt8):Option Nat:=if ds=[]∨k<ds.length∨(ds.head?=some 48∧one=true)∨ds.all isDig=false then none else some (val ds)
def numW (k:Nat) (w:List UInt8):Option Int:=if w.head?=some 45 then (numD k true w.tail).map fun (v:Nat) => -(v:Int) else (numD k (decide (1<w.length)) w).map fun (v:Nat)=>(v:Int)
theorem not45 {c:UInt8} (h:isDig c=true):c ≠ 45:=by
 intro e;subst e;revert h;decide
theorem numD_dec {k u:Nat} {one:Bool} (h:(decDigits u).length≤k) (h1:0<u∨one=false):numD k one (decDigits u)=some u:=by
 unfold numD
 rw [if_neg,val_dec]
 rintro (g | g | g | g)
 ·exact dec_ne _ g
 ·omega
 ·rcases h1 with h1 | h1
  ·obtain ⟨c,r,g1,g2⟩:=dec_head h1
   rw [g1] at g;simp at g;apply g2;rw [g.1];decide
  ·rw [h1] at g;exact absurd g.2 (by decide)
 ·rw [dec_dig] at g;cases g
theorem dec_numD {k u:Nat} {one:Bool} {ds:List UInt8} (h:numD k one ds=some u) (h1:one=decide (1<ds.length)∨one=true):ds=decDigits u∧ds.length≤k∧(one=true→0<u):=by
 unfold numD at h
 split at h
 ·cases h
 ·rename_i hn
  injection h with h
  cases ds with
  | nil=>exact absurd (.inl rfl) hn
  | cons c r =>
   have hd:(c :: r).all isDig=true:=by
    cases e:(c :: r).all isDig with
    | true=>rfl
    | false=>exact absurd (.inr (.inr (.inr e))) hn
   have hc:c.toNat ≠ 48∨r=[]:=by
    by_cases e:c.toNat=48
    ·right
     have ec:c=48:=UInt8.toNat_inj.1 e
     cases r with
     | nil=>rfl
     | cons x r=>exact absurd (.inr (.inr (.inl ⟨by rw [ec];rfl,by rcases h1 with h1 | h1 <;> simp [h1]⟩))) hn
    ·exact .inl e
   have hv:=dec_val r c hd hc
   refine ⟨by rw [← h,hv],Nat.le_of_not_lt fun g=>hn (.inr (.inl g)),fun ho=>?_⟩
   refine Nat.pos_of_ne_zero fun h0=>?_
   rw [h,h0,decDigits] at hv
   simp only [show (0:Nat)<10 by omega,dif_pos] at hv
   injection hv with g1 _
   exact hn (.inr (.inr (.inl ⟨by rw [← g1];rfl,ho⟩)))
theorem numW_itoa {k:Nat} {n:Int} (h:(decDigits n.natAbs).length≤k):numW k (itoa n)=some n:=by
 unfold itoa numW
 by_cases hn:n<0
 ·rw [if_pos hn,if_pos (by rfl),List.tail_cons,numD_dec h (.inl (by omega))]
  simp only [Option.map_some];congr 1;omega
 ·rw [if_neg hn,show n.toNat=n.natAbs by omega]
  obtain ⟨c,r,h1⟩:∃ c r,decDigits n.natAbs=c :: r:=List.exists_cons_of_ne_nil (dec_ne _)
  have hc:isDig c=true:=by have:=dec_dig n.natAbs;rw [h1] at this;simp at this;exact this.1
  have hd:¬ (decDigits n.natAbs).head?=some 45:=by rw [h1];simp;exact not45 hc
  rw [if_neg hd,numD_dec h]
  ·simp only [Option.map_some];congr 1;omega
  ·by_cases h0:0<n.natAbs
   ·exact .inl h0
   ·right
    have:n.natAbs=0:=by omega
    rw [this,decDigits];rfl
theorem itoa_numW {k:Nat} {w:List UInt8} {n:Int} (h:numW k w=some n):w=itoa n∧(decDigits n.natAbs).length≤k:=by
 unfold numW at h
 by_cases hw:w.head?=some 45
 ·rw [if_pos hw] at h
  obtain ⟨r,rfl⟩:∃ r,w=45 :: r:=by
   cases w with
   | nil=>cases hw
   | cons c r=>simp at hw;exact ⟨r,by rw [hw]⟩
  obtain ⟨u,h1,h2⟩:=Option.map_eq_some_iff.1 h
  obtain ⟨g1,g2,g3⟩:=dec_numD h1 (.inr rfl)
  have g3:=g3 rfl
  rw [List.tail_cons] at g1 g2
  have e:n.natAbs=u:=by omega
  rw [e]
  refine ⟨?_,by rw [← g1];exact g2⟩
  unfold itoa;rw [if_pos (by omega),e,g1]
 ·rw [if_neg hw] at h
  obtain ⟨u,h1,h2⟩:=Option.map_eq_some_iff.1 h
  obtain ⟨g1,g2,_⟩:=dec_numD h1 (.inl rfl)
  have e:n.natAbs=u:=by omega
  rw [e]
  refine ⟨?_,by rw [← g1];exact g2⟩
  unfold itoa;rw [if_neg (by omega),show n.toNat=u by omega,g1]

theorem parse_dig:∀ (l:List UInt8) (acc:Nat),l.all isDig=true→acc * 10 ^ l.length+val l<10000000000000000000→parseUint10 acc l=.ok (acc * 10 ^ l.length+val l)
 | [],acc,_,_=>by simp [parseUint10,val]
 | c :: r,acc,h,hb=>by
  simp only [List.all_cons,Bool.and_eq_true] at h
  have hc:=h.1
  unfold isDig at hc
  simp only [Bool.and_eq_true,decide_eq_true_eq] at hc
  have hv:∀ (r:List UInt8) (a:Nat),r.foldl (fun a c=>a * 10+(c.toNat - 48)) a=a * 10 ^ r.length+val r:=by
   intro r
   induction r with
   | nil=>intro a;simp [val]
   | cons x r ih =>
    intro a
    have e:val (x :: r)=(x.toNat - 48) * 10 ^ r.length+val r:=by
     show List.foldl _ (0 * 10+(x.toNat - 48)) r=_
     rw [ih];simp
    rw [List.foldl_cons,ih,e,List.length_cons,Nat.pow_succ,Nat.add_mul]
    rw [show a * (10 ^ r.length * 10)=a * 10 * 10 ^ r.length by rw [Nat.mul_comm (10 ^ r.length) 10,← Nat.mul_assoc]]
    omega
  have e:acc * 10 ^ (c :: r).length+val (c :: r)=(acc * 10+(c.toNat - 48)) * 10 ^ r.length+val r:=by
   rw [← hv,← hv];rfl
  rw [e] at hb ⊢
  have hp:1≤10 ^ r.length:=Nat.one_le_pow _ _ (by decide)
  have hle:acc * 10+(c.toNat - 48)≤(acc * 10+(c.toNat - 48)) * 10 ^ r.length:=Nat.le_mul_of_pos_right _ hp
  have ih:=parse_dig r (acc * 10+(c.toNat - 48)) h.2 hb
  simp only [parseUint10]
  rw [if_pos ⟨hc.1,hc.2⟩,if_neg (by omega),if_neg (by omega)]
  exact ih
theorem atoi_itoa {n:Int} (h:n.natAbs<9000000000000000000):atoiAll (itoa n)=.ok n:=by
 have hp:=parse_dig (decDigits n.natAbs) 0 (dec_dig _) (by rw [val_dec];omega)
 rw [val_dec,Nat.zero_mul,Nat.zero_add] at hp
 obtain ⟨c,r,h1⟩:∃ c r,decDigits n.natAbs=c :: r:=List.exists_cons_of_ne_nil (dec_ne _)
 have hc:isDig c=true:=by have:=dec_dig n.natAbs;rw [h1] at this;simp at this;exact this.1
 unfold isDig at hc
 simp only [Bool.and_eq_true,decide_eq_true_eq] at hc
 unfold itoa
 by_cases hn:n<0
 ·rw [if_pos hn]
  have e45:(45:UInt8).toNat=45:=by decide
  simp only [atoiAll,e45,or_true,if_true,parseMag,if_neg (dec_ne _),hp,not_true_eq_false,false_and,if_false,true_and]
  rw [if_neg (by omega)]
  congr 1;omega
 ·rw [if_neg hn,show n.toNat=n.natAbs by omega,h1]
  rw [h1] at hp
  have g1:¬ (c.toNat=43∨c.toNat=45):=by omega
  have g2:¬ c.toNat=45:=by omega
  have hm:parseMag (c :: r)=.ok n.natAbs:=by unfold parseMag;rw [if_neg (by simp)];exact hp
  unfold atoiAll
  have g3:¬ c.toNat=43:=by omega
  simp only [g3,hm,g2,or_self,not_false_eq_true,true_and,false_and,if_false]
  rw [if_neg (by omega)]
  congr 1;omega
end Go.Lin

/- Strings cut at a byte,joined,and read as numbers,in plain Lean. By an AI agent;nothing here is trusted. -/
namespace Go.Lin
open Go.Lib

def cut (c:UInt8):List UInt8→List (List UInt8)
 | []=>[[]]
 | x :: r=>if x=c then [] :: cut c r else (x :: (cut c r).headD []) :: (cut c r).tail
theorem cut_ne (c:UInt8) (s:List UInt8):cut c s ≠ []:=by
 cases s with
 | nil=>simp [cut]
 | cons x r=>unfold cut;split <;> simp
theorem cut_ht (c:UInt8) (s:List UInt8):(cut c s).headD [] :: (cut c s).tail=cut c s:=by
 have:=cut_ne c s
 cases h:cut c s with
 | nil=>exact absurd h this
 | cons a b=>rfl
theorem cut_no {c:UInt8}:∀ {s:List UInt8},(∀ x ∈ s,x ≠ c)→cut c s=[s]
 | [],_=>rfl
 | x :: r,h=>by
  have hr:=cut_no (c:=c) (s:=r) fun y hy=>h y (List.mem_cons_of_mem _ hy)
  unfold cut
  rw [if_neg (h x (by simp)),hr];rfl
theorem cut_app {c:UInt8}:∀ {p:List UInt8},(∀ x ∈ p,x ≠ c)→∀ r,cut c (p ++ c :: r)=p :: cut c r
 | [],_,r=>by rw [List.nil_append,cut,if_pos rfl]
 | x :: p,h,r=>by
  have hr:=cut_app (c:=c) (p:=p) (fun y hy=>h y (List.mem_cons_of_mem _ hy)) r
  rw [List.cons_append,cut,if_neg (h x (by simp)),hr];rfl
theorem cut_len {c:UInt8}:∀ {s:List UInt8},∀ p ∈ cut c s,p.length≤s.length
 | [],p,hp=>by rw [cut,List.mem_singleton] at hp;subst hp;exact Nat.le_refl _
 | y :: r,p,hp=>by
  have ih:=cut_len (c:=c) (s:=r)
  unfold cut at hp
  split at hp
  ·rcases List.mem_cons.1 hp with rfl | hp
   ·simp
   ·have:=ih p hp;simp;omega
  ·rcases List.mem_cons.1 hp with rfl | hp
   ·have:=ih ((cut c r).headD []) (by rw [← cut_ht c r];exact List.mem_cons_self)
    simp only [List.length_cons];omega
   ·have:=ih p (List.mem_of_mem_tail hp);simp only [List.length_cons];omega
theorem cut_num (c:UInt8):∀ s:List UInt8,(cut c s).length≤s.length+1
 | []=>by simp [cut]
 | y :: r=>by
  have ih:=cut_num c r
  unfold cut
  split
  ·simp;omega
  ·simp;omega
theorem idx_cases (c:UInt8):∀ s:List UInt8,(indexByte s c = -1∧∀ x ∈ s,x ≠ c)∨(0≤indexByte s c∧∃ p r,s=p ++ c :: r∧(p.length:Int)=indexByte s c∧∀ x ∈ p,x ≠ c)
 | []=>.inl ⟨rfl,fun x hx=>by cases hx⟩
 | b :: l=>by
  unfold indexByte
  by_cases hb:b=c
  ·subst hb
   right
   simp only [beq_self_eq_true,if_true]
   exact ⟨by omega,[],l,rfl,rfl,fun x hx=>by cases hx⟩
  ·have hb':(b == c)=false:=by simpa using hb
   rw [hb']
   rcases idx_cases c l with ⟨h1,h2⟩ | ⟨h1,p,r,h2,h3,h4⟩
   ·left
    have e:(if false=true then (0:Int) else if (indexByte l c == -1)=true then -1 else indexByte l c+1) = -1:=by rw [h1];rfl
    refine ⟨e,fun x hx=>?_⟩
    rcases List.mem_cons.1 hx with rfl | hx
    ·exact hb
    ·exact h2 x hx
   ·right
    have hne:(indexByte l c == -1)=false:=by
     have:indexByte l c ≠ -1:=by omega
     simpa using this
    simp only [hne,Bool.false_eq_true,if_false]
    refine ⟨by omega,b :: p,r,by rw [h2];rfl,by simp;omega,fun x hx=>?_⟩
    rcases List.mem_cons.1 hx with rfl | hx
    ·exact hb
    ·exact h4 x hx
theorem cut_join (c:UInt8):∀ (w:List UInt8) (ws:List (List UInt8)),(∀ v ∈ w :: ws,∀ x ∈ v,x ≠ c)→cut c (join (w :: ws) [c])=w :: ws
 | w,[],h=>by rw [join_one];exact cut_no (h w (by simp))
 | w,v :: ws,h=>by
  have ih:=cut_join c v ws fun u hu=>h u (List.mem_cons_of_mem _ hu)
  have e:join (w :: v :: ws) [c]=w ++ c :: join (v :: ws) [c]:=by
   rw [join_cons,join_cons];simp [joinTail]
  rw [e,cut_app (h w (by simp)),ih]
def numU (neg:Bool) (k:Nat) (w:List UInt8):Option Int:=if w.head?=some 45∧neg=false then none else numW k w
def nums (neg:Bool) (k:Nat):List (List UInt8)→Option (List Int)
 | []=>some []
 | w :: r=>match numU neg k w,nums neg k r with
  | some n,some l=>some (n :: l)
  | _,_=>none
theorem nums_len {neg:Bool} {k:Nat}:∀ {ws:List (List UInt8)} {l:List Int},nums neg k ws=some l→l.length=ws.length
 | [],l,h=>by simp [nums] at h;subst h;rfl
 | w :: r,l,h=>by
  unfold nums at h
  split at h
  ·rename_i h2
   injection h with h;subst h
   simp [nums_len h2]
  ·cases h
theorem nums_snoc {neg:Bool} {k:Nat} {w:List UInt8} {n:Int}:∀ {ws:List (List UInt8)} {l:List Int},nums neg k ws=some l→numU neg k w=some n→nums neg k (ws ++ [w])=some (l ++ [n])
 | [],l,h,h1=>by simp [nums] at h;subst h;simp [nums,h1]
 | v :: r,l,h,h1=>by
  unfold nums at h
  split at h
  ·rename_i a b hm1 hm2
   injection h with h;subst h
   rw [List.cons_append,nums,hm1,nums_snoc hm2 h1];rfl
  ·cases h
theorem nums_none {neg:Bool} {k:Nat} {w:List UInt8} (h:numU neg k w=none) (r:List (List UInt8)):∀ (ws:List (List UInt8)),nums neg k (ws ++ w :: r)=none
 | []=>by rw [List.nil_append,nums,h]
 | v :: ws=>by
  rw [List.cons_append,nums,nums_none h r ws]
  split
  ·rename_i h2;cases h2
  ·rfl
theorem head_itoa (n:Int):(itoa n).head?=some 45 ↔ n<0:=by
 unfold itoa
 by_cases hn:n<0
 ·rw [if_pos hn];simp [hn]
 ·rw [if_neg hn]
  obtain ⟨c,r,h1⟩:∃ c r,decDigits n.toNat=c :: r:=List.exists_cons_of_ne_nil (dec_ne _)
  have hc:isDig c=true:=by have:=dec_dig n.toNat;rw [h1] at this;simp at this;exact this.1
  have:=not45 hc
  rw [h1];simp [this,hn]
theorem dec_lt {u k:Nat} (h:(decDigits u).length≤k):u<10 ^ k:=by
 rw [decDigits_length] at h
 exact Nat.lt_of_lt_of_le (lt_pow_nDigits u) (Nat.pow_le_pow_right (by omega) h)
theorem numU_atoi {neg:Bool} {k:Nat} (hk:k≤18) {w:List UInt8} {n:Int}:numU neg k w=some n ↔ atoiAll w=.ok n∧(neg=true∨0≤n)∧itoa n=w∧(decDigits n.natAbs).length≤k:=by
 unfold numU
 constructor
 ·intro h
  split at h
  ·cases h
  ·rename_i hn
   obtain ⟨h1,h2⟩:=itoa_numW h
   have h3:=dec_lt h2
   have h4:(10:Nat) ^ k≤10 ^ 18:=Nat.pow_le_pow_right (by omega) hk
   refine ⟨by rw [h1];exact atoi_itoa (by omega),?_,h1.symm,h2⟩
   rw [h1,head_itoa] at hn
   cases neg with
   | true=>exact .inl rfl
   | false=>right;exact Int.not_lt.1 fun g=>hn ⟨g,rfl⟩
 ·rintro ⟨_,h2,rfl,h4⟩
  rw [if_neg]
  ·exact numW_itoa h4
  ·rw [head_itoa]
   rintro ⟨g1,g2⟩
   rcases h2 with h2 | h2
   ·rw [h2] at g2;cases g2
   ·omega
theorem itoa_len {n:Int} (h:0≤n):(itoa n).length=(decDigits n.natAbs).length:=by
 unfold itoa
 rw [if_neg (by omega)];congr 2;omega
theorem itoa_bytes (n:Int):∀ x ∈ itoa n,x=45∨isDig x=true:=by
 intro x hx
 have hd:∀ u,∀ x ∈ decDigits u,isDig x=true:=fun u=>List.all_eq_true.1 (dec_dig u)
 unfold itoa at hx
 split at hx
 ·rcases List.mem_cons.1 hx with rfl | hx
  ·exact .inl rfl
  ·exact .inr (hd _ x hx)
 ·exact .inr (hd _ x hx)
theorem itoa_no (n:Int) {c:UInt8} (h1:c ≠ 45) (h2:isDig c=false):∀ x ∈ itoa n,x ≠ c:=by
 intro x hx e
 subst e
 rcases itoa_bytes n x hx with h | h
 ·exact h1 h
 ·rw [h2] at h;cases h
theorem nums_itoa {neg:Bool} {k:Nat}:∀ {l:List Int},(∀ n ∈ l,(neg=true∨0≤n)∧(decDigits n.natAbs).length≤k)→nums neg k (l.map itoa)=some l
 | [],_=>rfl
 | n :: l,h=>by
  have h1:numU neg k (itoa n)=some n:=by
   obtain ⟨g1,g2⟩:=h n (by simp)
   unfold numU
   rw [if_neg,numW_itoa g2]
   rw [head_itoa]
   rintro ⟨e1,e2⟩
   rcases g1 with g1 | g1
   ·rw [g1] at e2;cases e2
   ·omega
  rw [List.map_cons,nums,h1,nums_itoa (l:=l) fun m hm=>h m (List.mem_cons_of_mem _ hm)]
theorem dec_len_lt {u k:Nat} (hk:0<k) (h:u<10 ^ k):(decDigits u).length≤k:=by
 rw [decDigits_length]
 induction k generalizing u with
 | zero=>omega
 | succ k ih =>
  by_cases h10:u<10
  ·rw [nDigits_small h10];omega
  ·rw [nDigits_big h10]
   have hk':0<k:=by
    refine Nat.pos_of_ne_zero fun e=>?_
    subst e;omega
   have:u / 10<10 ^ k:=by rw [Nat.pow_succ] at h;omega
   have:=ih hk' this
   omega
theorem cut_words {c:UInt8} (h1:c ≠ 45) (h2:isDig c=false) (n:Int) (l:List Int):cut c (join ((n :: l).map itoa) [c])=(n :: l).map itoa:=by
 rw [List.map_cons]
 refine cut_join c _ _ fun v hv=>?_
 rcases List.mem_cons.1 hv with rfl | hv
 ·exact itoa_no n h1 h2
 ·obtain ⟨m,_,rfl⟩:=List.mem_map.1 hv
  exact itoa_no m h1 h2
end Go.Lin

/- Contracts: numbers as words. By an AI agent;nothing here is trusted. -/
namespace Go.Proofs.YtpaklfjlbocfcaaGreatDoor
open Go.Av

def strs (l:List (List UInt8)):List AV:=l.map .str
theorem maxLen_str:4000000000000≤maxLen:=by decide
theorem strs_length (l:List (List UInt8)):(strs l).length=l.length:=List.length_map _
theorem strs_append (l m:List (List UInt8)):strs (l ++ m)=strs l ++ strs m:=List.map_append
theorem strs_fx (l:List (List UInt8)):∀ x ∈ strs l,fx x=true:=by
 intro x hx
 obtain ⟨y,_,rfl⟩:=List.mem_map.1 hx
 rfl
theorem strs_fxB (l:List (List UInt8)):(strs l).all Go.Av.fx=true:=List.all_eq_true.2 (strs_fx l)
theorem itoa_le {n:Int} (h:I64 n):(Lib.itoa n).length≤20:=by
 have h1:(Lib.decDigits n.natAbs).length≤19:=Lin.dec_len_lt (by decide) (by unfold I64 at h;omega)
 have h2:(Lib.decDigits n.toNat).length≤19:=Lin.dec_len_lt (by decide) (by unfold I64 at h;omega)
 unfold Lib.itoa
 split <;> simp <;> omega
theorem join_le (c:UInt8) (m:Nat):∀ ws:List (List UInt8),(∀ w ∈ ws,w.length≤m)→(Lib.join ws [c]).length≤ws.length * (m+1)
 | [],_=>by simp [Lib.join]
 | w :: ws,h=>by
  rw [Lib.join_cons]
  have h1:=h w (by simp)
  have:∀ l:List (List UInt8),(∀ w ∈ l,w.length≤m)→(Lib.joinTail [c] l).length≤l.length * (m+1):=by
   intro l
   induction l with
   | nil=>intro _;simp [Lib.joinTail]
   | cons x l ih =>
    intro hl
    have:=ih fun y hy=>hl y (by simp [hy])
    have hx:=hl x (by simp)
    simp only [Lib.joinTail,List.map_cons,List.flatten_cons,List.length_append,List.length_cons,List.length_nil,Nat.add_mul] at this ⊢
    omega
  have h2:=this ws fun y hy=>h y (by simp [hy])
  simp only [List.length_append,List.length_cons,Nat.add_mul]
  omega
theorem words_s (l:List Int) (hl:∀ n ∈ l,I64 n) (hn:l.length≤100000):Sound Tryz.prog 76 [.sl (ints l)] (.str (Lib.join (l.map Lib.itoa) [32])):=by
 refine sound_W f_watch_words (Nat.le_of_ble_eq_true rfl) ?_
 have hmax:=maxLen_str
 have hJ:=Join_s (l.map Lib.itoa) [32] (by simpa using Nat.le_trans hn (by decide)) (by
  refine Nat.le_trans (join_le 32 20 _ fun w hw=>?_) (by simp;omega)
  obtain ⟨n,hn,rfl⟩:=List.mem_map.1 hw
  exact itoa_le (hl n hn))
 change Sound _ _ [.sl (strs (l.map Lib.itoa)),_] _ at hJ
 simp only [c_watch_words,vZ,Int.reduceEq,Int.reduceNe,Int.reduceLT,Int.reduceLE,Nat.reduceEqDiff,Nat.reduceAdd,reduceIte,reduceCtorEq,Nat.reduceLT,Nat.reduceLeDiff,Nat.reduceShiftRight,Nat.reduceMod]
 refine W_loop (t:=.mk) (α:=PSigma fun i:Nat=>i≤l.length) (fun ⟨i,_⟩=>(envOf [(3,.buf 100 i),(6,.sl (ints l)),(7,.int .i64 l.length),(8,.int .i64 i)],stOf [(100,⟨9,1,strs ((l.take i).map Lib.itoa)⟩)])) (fun p=>l.length - p.1) ⟨0,Nat.zero_le _⟩ ?_ (fun ⟨i,hi⟩=>?_)
 ·refine weakX [(100,none)] (of_decide_eq_true rfl) (of_decide_eq_true rfl) ?_
  (simp only [vcW,vZ,Int.reduceEq,Int.reduceNe,Int.reduceLT,Int.reduceLE,Nat.reduceEqDiff,Nat.reduceAdd,reduceIte,reduceCtorEq,Nat.reduceLT,Nat.reduceLeDiff,Nat.reduceShiftRight,Nat.reduceMod])
  (repeat' first | exact trivial | (with_reducible first | exact RnB.fxB (ints_fxB _) | rfl | refine And.intro ?_ ?_) | (with_reducible (first | refine RnB.bb ?_ | refine RnB.nb ?_);simp only [vcW,vZ,Int.reduceEq,Int.reduceNe,Int.reduceLT,Int.reduceLE,Nat.reduceEqDiff,Nat.reduceAdd,reduceIte,reduceCtorEq,Nat.reduceLT,Nat.reduceLeDiff,Nat.reduceShiftRight,Nat.reduceMod]) | (with_reducible first | refine RnB.ii ?_ | refine RnB.app ?_) | (with_reducible refine RnB.fxB ?_;simp only [vcW,vZ,Int.reduceEq,Int.reduceNe,Int.reduceLT,Int.reduceLE,Nat.reduceEqDiff,Nat.reduceAdd,reduceIte,reduceCtorEq,Nat.reduceLT,Nat.reduceLeDiff,Nat.reduceShiftRight,Nat.reduceMod]) | omega)
  all_goals first | rfl | trace_state
 ·dsimp only at hi ⊢
  have hlen:(strs ((l.take i).map Lib.itoa)).length=i:=by rw [strs_length,List.length_map,List.length_take];omega
  by_cases h':i<l.length
  ·have hc1:(i:Int)<l.length:=by omega
   have hg:=ints_get l i h'
   have ht:strs ((l.take (i+1)).map Lib.itoa)=strs ((l.take i).map Lib.itoa) ++ [.str (Lib.itoa l[i])]:=by rw [List.take_succ_eq_append_getElem h',List.map_append,strs_append];rfl
   simp only [hc1,hg,vZ,Int.reduceEq,Int.reduceNe,Int.reduceLT,Int.reduceLE,Nat.reduceEqDiff,Nat.reduceAdd,reduceIte,reduceCtorEq,Nat.reduceLT,Nat.reduceLeDiff,Nat.reduceShiftRight,Nat.reduceMod]
   refine ⟨by omega,callS_of (Itoa_s _ (hl _ (List.getElem_mem h'))) ?_⟩
   simp only [hlen,vZ,Int.reduceEq,Int.reduceNe,Int.reduceLT,Int.reduceLE,Nat.reduceEqDiff,Nat.reduceAdd,reduceIte,reduceCtorEq,Nat.reduceLT,Nat.reduceLeDiff,Nat.reduceShiftRight,Nat.reduceMod]
   refine ⟨⟨by omega,by omega⟩,by unfold I64;omega,⟨i+1,h'⟩,by simp only;omega,?_⟩
   rw [ht]
   refine weakX [(100,some 16)] (of_decide_eq_true rfl) (of_decide_eq_true rfl) ?_
   (simp only [vcW,vZ,Int.reduceEq,Int.reduceNe,Int.reduceLT,Int.reduceLE,Nat.reduceEqDiff,Nat.reduceAdd,reduceIte,reduceCtorEq,Nat.reduceLT,Nat.reduceLeDiff,Nat.reduceShiftRight,Nat.reduceMod])
   (repeat' first | exact trivial | (with_reducible first | exact RnB.fxB (ints_fxB _) | rfl | refine And.intro ?_ ?_) | (with_reducible (first | refine RnB.bb ?_ | refine RnB.nb ?_);simp only [vcW,vZ,Int.reduceEq,Int.reduceNe,Int.reduceLT,Int.reduceLE,Nat.reduceEqDiff,Nat.reduceAdd,reduceIte,reduceCtorEq,Nat.reduceLT,Nat.reduceLeDiff,Nat.reduceShiftRight,Nat.reduceMod]) | (with_reducible first | refine RnB.ii ?_ | refine RnB.app ?_) | (with_reducible refine RnB.fxB ?_;simp only [vcW,vZ,Int.reduceEq,Int.reduceNe,Int.reduceLT,Int.reduceLE,Nat.reduceEqDiff,Nat.reduceAdd,reduceIte,reduceCtorEq,Nat.reduceLT,Nat.reduceLeDiff,Nat.reduceShiftRight,Nat.reduceMod]) | omega)
   all_goals first | rfl | exact RnB.fxB (by rw [List.all_append,strs_fxB];rfl) | trace_state
  ·have hil:i=l.length:=by omega
   subst hil
   have hc1:¬ (l.length:Int)<l.length:=by omega
   rw [List.take_length] at *
   simp only [hc1,vZ,Int.reduceEq,Int.reduceNe,Int.reduceLT,Int.reduceLE,Nat.reduceEqDiff,Nat.reduceAdd,reduceIte,reduceCtorEq,Nat.reduceLT,Nat.reduceLeDiff,Nat.reduceShiftRight,Nat.reduceMod]
   rw [borB_good _ _ _ _ _ hlen.symm (strs_fx _)]
   refine callS_of hJ ?_
   simp only [vZ,Int.reduceEq,Int.reduceNe,Int.reduceLT,Int.reduceLE,Nat.reduceEqDiff,Nat.reduceAdd,reduceIte,reduceCtorEq,Nat.reduceLT,Nat.reduceLeDiff,Nat.reduceShiftRight,Nat.reduceMod]
end Go.Proofs.YtpaklfjlbocfcaaGreatDoor

/- Contracts: numerals of the base (taken out of the fits of pulses). By an AI agent;nothing here is trusted. -/
namespace Go.Proofs.YtpaklfjlbocfcaaGreatDoor
open Go.Av
end Go.Proofs.YtpaklfjlbocfcaaGreatDoor

/- Contracts: the reference cuts a string at a byte. By an AI agent;nothing here is trusted. -/
namespace Go.Proofs.YtpaklfjlbocfcaaGreatDoor
open Go.Av

end Go.Proofs.YtpaklfjlbocfcaaGreatDoor

/- Contracts: the reference's numbers of words. By an AI agent;nothing here is trusted. -/
namespace Go.Proofs.YtpaklfjlbocfcaaGreatDoor
open Go.Av

end Go.Proofs.YtpaklfjlbocfcaaGreatDoor

/- strings.SplitSeq at one byte: what its closure yields. By an AI agent;nothing here is trusted. -/
namespace Go.Proofs.YtpaklfjlbocfcaaGreatDoor
open Go.Av
open Go.RowKit
attribute [local go_sem] Oper.semAt_some

theorem ba_cut (l x:List UInt8) (i j:Nat) (h:(l.drop i).take (j - i)=x):(⟨l.toArray⟩:ByteArray).extract i j=⟨x.toArray⟩:=by
 apply ByteArray.ext
 rw [ByteArray.data_extract]
 simp only [List.extract_toArray,List.extract_eq_take_drop]
 rw [h]
theorem wrap64_id {n:Int} (h : -9223372036854775808≤n∧n≤9223372036854775807):wrap64 n=n:=by
 unfold wrap64
 omega
set_option maxRecDepth 100000 in
theorem split1 (F:Fence) (hro:F.round=none) (hf0:F.fn 196) (hf1:F.fn 198) (l:Nat) (c:UInt8) (s:List UInt8) (hs:s.length≤1000000) (J:List (List UInt8)→List UInt8→World→Prop) (Jx:World→Prop) (b1 b2 b3:Nat)
  (hcell:∀ pre r w,J pre r w→w.cell? ⟨b1,0,none⟩=some (.string ⟨#[c]⟩)∧w.cell? ⟨b2,0,none⟩=some (.string ⟨r.toArray⟩)∧w.frozen? ⟨b2,0,none⟩=false∧w.cell? ⟨b3,0,none⟩=some (.int .i64 0))
  (hset:∀ pre r w r',J pre r w→J pre r' (w.setCell ⟨b2,0,none⟩ (.string ⟨r'.toArray⟩)))
  (hround:∀ pre x rest r w,pre ++ x :: rest=Lin.cut c s→J pre r w→∃ fn tmps assign body,(Instr.yield l #[.string ⟨x.toArray⟩]).run Tryz.prog w=.ok (.round l fn tmps assign body) w∧∀ rm,RoundIn F rm Tryz.prog l fn tmps assign body w fun en w'=>(en=.returned (.bool true)∧J (pre ++ [x]) r w')∨(en=.returned (.bool false)∧Jx w'))
  (hidx:∀ (n:Nat) (r:ByteArray) (w:World),CallsIn F n Tryz.prog 198 #[.string r,.string ⟨#[c]⟩] w fun e w'=>e=.returned (.int .i64 (Lib.indexByte r.data.toList c))∧w'=w)
  (W:World) (h0:J [] s W) :
  CallsIn F 1 Tryz.prog 196 #[.func (.yield l) #[] #[],.pointer (some ⟨b1,0,none⟩),.pointer (some ⟨b2,0,none⟩),.pointer (some ⟨b3,0,none⟩)] W fun e W'=>(∃ v,e=.returned v)∧((∃ r,J (Lin.cut c s) r W')∨Jx W'):=by
 refine callsIn_of_wp Tryz.func196 rfl hf0 ?_ hro
 simp only [Tryz.ntmps196,List.size_toArray,List.length_cons,List.length_nil,Nat.reduceAdd,Nat.reduceSub,Array.replicate_succ,Array.replicate_zero,List.push_toArray,List.append_toArray,List.nil_append,List.cons_append]
 obtain ⟨c1,c2,c3,c4⟩:=hcell _ _ _ h0
 have t9:=Tryz.underlying9;have a9:=Tryz.isAgg9;have z9:=Tryz.sizeOf9;have v9:=Tryz.zeroValue9;have u9:=run_underlying Tryz.underlying9
 have t3:=Tryz.underlying3;have a3:=Tryz.isAgg3;have z3:=Tryz.sizeOf3;have v3:=Tryz.zeroValue3;have u3:=run_underlying Tryz.underlying3
 have t4:=Tryz.underlying4;have a4:=Tryz.isAgg4;have z4:=Tryz.sizeOf4;have v4:=Tryz.zeroValue4;have u4:=run_underlying Tryz.underlying4
 gi_wp2
 trace_state
 gi_loopw [7] (fun _ wr=>∃ (pre:List (List UInt8)) (r:List UInt8),pre ++ Lin.cut c r=Lin.cut c s∧r.length≤s.length∧J pre r wr)
  (fun _ wr=>match wr.cell? ⟨b2,0,none⟩ with | some (.string b)=>b.size | _=>0)
 case atStart=>exact ⟨[],s,rfl,Nat.le_refl _,h0⟩
 case round =>
  obtain ⟨pre,r,hpre,hrl,hJ⟩:=hrel
  obtain ⟨d1,d2,d3,d4⟩:=hcell _ _ _ hJ
  rcases Lin.idx_cases c r with ⟨i1,i2⟩ | ⟨i1,p,r',i2,i3,i4⟩
  ·have hI:∀ (n:Nat) (w:World),CallsIn F n Tryz.prog 198 #[.string ⟨r.toArray⟩,.string ⟨#[c]⟩] w fun e w'=>e=.returned (.int .i64 (-1))∧w'=w:=fun n w=>(hidx n _ w).mono fun e w' ⟨h1,h2⟩=>⟨by rw [h1,i1],h2⟩
   rw [Lin.cut_no i2] at hpre
   obtain ⟨fn,tmps,assign,body,hy,hR⟩:=hround pre r [] r wr hpre hJ
   gi_wp2_with (gi_at_call 198;refine (hI _ _).mono ?_;rintro e w' ⟨rfl,rfl⟩)
   refine (hR _).mono ?_
   rintro e W' (⟨rfl,hJ'⟩ | ⟨rfl,hx⟩)
   ·gi_wp2
    go_end0
    exact ⟨⟨_,rfl⟩,.inl ⟨_,by rw [← hpre];exact hJ'⟩⟩
   ·gi_wp2
    go_end0
    exact ⟨⟨_,rfl⟩,.inr hx⟩
  ·subst i2
   have hpl:p.length+1+r'.length≤1000000:=by simp at hrl;omega
   have hI:∀ (n:Nat) (w:World),CallsIn F n Tryz.prog 198 #[.string ⟨(p ++ c :: r').toArray⟩,.string ⟨#[c]⟩] w fun e w'=>e=.returned (.int .i64 (p.length:Int))∧w'=w:=fun n w=>(hidx n _ w).mono fun e w' ⟨h1,h2⟩=>⟨by rw [h1,i3],h2⟩
   have hcut:Lin.cut c (p ++ c :: r')=p :: Lin.cut c r':=Lin.cut_app i4 r'
   rw [hcut] at hpre
   obtain ⟨fn,tmps,assign,body,hy,hR⟩:=hround pre p _ (p ++ c :: r') wr hpre hJ
   have he1:(⟨(p ++ c :: r').toArray⟩:ByteArray).extract 0 p.length=⟨p.toArray⟩:=ba_cut _ _ _ _ (by simp)
   have he2:(⟨(p ++ c :: r').toArray⟩:ByteArray).extract (p.length+1) (p.length+(r'.length+1))=⟨r'.toArray⟩:=ba_cut _ _ _ _ (by
    rw [show p ++ c :: r'=(p ++ [c]) ++ r' by simp,List.drop_left' (by simp)]
    exact List.take_of_length_le (by omega))
   have q1:wrap64 (p.length:Int)=(p.length:Int):=wrap64_id (by omega)
   have q2:wrap64 ((p.length:Int)+1)=(p.length:Int)+1:=wrap64_id (by omega)
   have q3:((p.length:Int)+1).toNat=p.length+1:=by omega
   have hpre2:(pre ++ [p]) ++ Lin.cut c r'=Lin.cut c s:=by rw [← hpre];simp
   clear hpre hcut i1 i3
   gi_wp2_with (gi_at_call 198;refine (hI _ _).mono ?_;rintro e w' ⟨rfl,rfl⟩)
   refine (hR _).mono ?_
   rintro e W' (⟨rfl,hJ'⟩ | ⟨rfl,hx⟩)
   ·obtain ⟨d1',d2',d3',d4'⟩:=hcell _ _ _ hJ'
    gi_wp2
    go_roundw
    case rel=>exact ⟨pre ++ [p],r',hpre2,by simp at hrl;omega,hset _ _ _ r' hJ'⟩
    case measure =>
     obtain ⟨_,e2,_⟩:=hcell _ _ _ (hset _ _ _ r' hJ')
     rw [e2,d2]
     simp [ByteArray.size]
     omega
   ·gi_wp2
    refine bodyPost_ret (results_none rfl _ _ _) rfl ?_
    exact ⟨⟨_,rfl⟩,.inr hx⟩
end Go.Proofs.YtpaklfjlbocfcaaGreatDoor

/- strings.SplitSeq at one byte: the call. By an AI agent;nothing here is trusted. -/
namespace Go.Proofs.YtpaklfjlbocfcaaGreatDoor
open Go.Av
open Go.RowKit

set_option maxHeartbeats 1000000 in
set_option maxRecDepth 100000 in
theorem SplitSeq_any (c:UInt8) (s:List UInt8) (w:World):Calls Tryz.prog 80 #[.string ⟨s.toArray⟩,.string ⟨#[c]⟩] w fun e w'=>∃ b1 b2 b3,
  e=.returned (.func (.func 196) #[] #[.pointer (some ⟨b1,0,none⟩),.pointer (some ⟨b2,0,none⟩),.pointer (some ⟨b3,0,none⟩)])∧(w.heap.size≤b1∧w.heap.size≤b2∧w.heap.size≤b3)∧(b2 ≠ b1∧b2 ≠ b3∧b1 ≠ b3) ∧
  w'.heap[b1]?=some (.cells #[.string ⟨#[c]⟩] 9 (0,0))∧w'.heap[b2]?=some (.cells #[.string ⟨s.toArray⟩] 9 (0,0))∧w'.heap[b3]?=some (.cells #[.int .i64 0] 3 (0,0))∧Below w.heap.size w w':=by
 have t9:=Tryz.underlying9;have a9:=Tryz.isAgg9;have z9:=Tryz.sizeOf9;have v9:=Tryz.zeroValue9;have u9:=run_underlying Tryz.underlying9
 have t3:=Tryz.underlying3;have a3:=Tryz.isAgg3;have z3:=Tryz.sizeOf3;have v3:=Tryz.zeroValue3;have u3:=run_underlying Tryz.underlying3
 have e213:∀ args w,(callFunc 150 args).run Tryz.prog w=.ok (.enter 150 args) w:=enters_of Tryz.func150 (by kernel_rfl) rfl
 go_enter Tryz.func80,Tryz.ntmps80
 go_wp2
 go_ret
 refine ⟨w.heap.size+1,w.heap.size,w.heap.size+1+1,rfl,⟨by omega,by omega,by omega⟩,⟨by omega,by omega,by omega⟩,?_,?_,?_,?_⟩
 ·exact (Below.heap_alloc _ _ _ (by rw [World.size_alloc,World.size_alloc];omega)).trans (by have:=World.alloc_heap_new (w.alloc (.cells #[.string ⟨s.toArray⟩] 9)) (.cells #[.string ⟨#[c]⟩] 9);rwa [World.size_alloc] at this)
 ·exact (Below.heap_alloc _ _ _ (by rw [World.size_alloc,World.size_alloc];omega)).trans ((Below.heap_alloc _ _ _ (by rw [World.size_alloc];omega)).trans (World.alloc_heap_new w _))
 ·have:=World.alloc_heap_new ((w.alloc (.cells #[.string ⟨s.toArray⟩] 9)).alloc (.cells #[.string ⟨#[c]⟩] 9)) (.cells #[.int .i64 0] 3)
  rwa [World.size_alloc,World.size_alloc] at this
 ·exact (((Below.refl _ w).alloc (Nat.le_refl _) _).alloc (by rw [World.size_alloc];omega) _).alloc (by rw [World.size_alloc,World.size_alloc];omega) _
theorem SplitSeq_s (c:UInt8) (s:List UInt8):SoundC Tryz.prog 80 [.str s,.str [c]] 196 [(9,.str [c]),(9,.str s),(3,.int .i64 0)]:=by
 refine ⟨⟨by simp,fun p hp=>?_⟩,?_⟩
 ·simp only [List.mem_cons,List.not_mem_nil,or_false] at hp
  rcases hp with rfl | rfl | rfl <;> exact ⟨rfl,rfl⟩
 ·intro w ok cargs hok hG hlen hargs
  rw [args_2 (by simpa using hlen) (vr_str (hargs 0 _ rfl)) (vr_str (hargs 1 _ rfl))]
  refine .inr ⟨callFunc_enter Tryz.func80 (by kernel_rfl) rfl _,(SplitSeq_any c s w).mono fun e w' ⟨b1,b2,b3,he,⟨h1,h2,h3⟩,⟨n1,n2,n3⟩,c1,c2,c3,hB⟩=>⟨_,he,hB,[b1,b2,b3],rfl,?_⟩⟩
  refine ⟨⟨h1,by simp;exact ⟨fun h=>n1 h.symm,n3⟩,_,_,c1,rfl,.str _ _ rfl⟩,⟨h2,by simp;exact n2,_,_,c2,rfl,.str _ _ (by simp)⟩,⟨h3,by simp,_,_,c3,rfl,.int _ _⟩,trivial⟩
end Go.Proofs.YtpaklfjlbocfcaaGreatDoor

/- A range over a function that keeps three cells of its own (SplitSeq at one byte): the rule. Printed by gensj3.py. By an AI agent;nothing here is trusted. -/
namespace Go.Av
open Go.RowKit (Below)

def IterC (P:Program) (g:FuncId) (ty ti:TypeId) (c:UInt8):Prop :=
 (∀ args w,(callFunc g args).run P w=.ok (.enter g args) w) ∧
 ∀ (l:Nat) (s:List UInt8),s.length≤1000000→∀ (J:List (List UInt8)→List UInt8→World→Prop) (Jx:World→Prop) (b1 b2 b3:Nat),
  (∀ pre r w,J pre r w→w.cell? ⟨b1,0,none⟩=some (.string ⟨#[c]⟩)∧w.cell? ⟨b2,0,none⟩=some (.string ⟨r.toArray⟩)∧w.frozen? ⟨b2,0,none⟩=false∧w.cell? ⟨b3,0,none⟩=some (.int .i64 0)) →
  (∀ pre r w r',J pre r w→J pre r' (w.setCell ⟨b2,0,none⟩ (.string ⟨r'.toArray⟩))) →
  (∀ pre x rest r w,pre ++ x :: rest=Lin.cut c s→J pre r w→RoundOk P l #[.string ⟨x.toArray⟩] w fun b w'=>(b=true∧J (pre ++ [x]) r w')∨(b=false∧Jx w')) →
  ∀ W,J [] s W→Calls P g (#[.func (.yield l) #[] #[]] ++ #[.pointer (some ⟨b1,0,none⟩),.pointer (some ⟨b2,0,none⟩),.pointer (some ⟨b3,0,none⟩)]) W fun en W'=>(∃ v,en=.returned v)∧((∃ r,J (Lin.cut c s) r W')∨Jx W')
def WeakK (ks:List Nat) (p q:Env × Store):Prop :=
 (∀ k ∈ ks,∃ K,p.2 k=some (some K))∧∀ (N B:Nat) (w0:World) (ok0:F0) (ok:Nat→Prop) (ρ:Nat→Option Nat) (a:Act) (w:World),ok0.s=noStore→Rel N B w0 ok0 ok ρ p.1 p.2 a w →
  ∃ ok' ρ',(∀ k ∈ ks,ρ' k=ρ k)∧(∀ b,ok b→ok' b)∧Rel N B w0 ok0 ok' ρ' q.1 q.2 a w
def rfQK (ks:List Nat) (Q:Exit→Env→Store→Prop) (e:Env) (s':Store):Exit→Env→Store→Prop:=fun ex _ s2=>match ex with
 | .normal=>WeakK ks (e,s2) (e,s')
 | .ret=>Q .ret e s2
 | .exit id=>Q (.exit id) e s2
 | _=>False
theorem ptr_at {h:Array Obj} {ok:Nat→Prop} {ρ:Nat→Option Nat} {s:Store} {k:Nat} {K:Blk} {v:Value} (hk:s k=some (some K)) (hv:VR h ok ρ s (.ptr k 0 0) v):∃ b,ρ k=some b∧v=.pointer (some ⟨b,0,none⟩):=by
 cases hv with
 | ptrd _ _ _ A hd=>rw [hk] at hd;cases hd
 | ptr _ _ _ K' b hσ hr =>
  refine ⟨b,hr,?_⟩
  simp
theorem args_3 {vs:Array Value} {x y z:Value} (hlen:vs.size=3) (h0:vs.getD 0 undef=x) (h1:vs.getD 1 undef=y) (h2:vs.getD 2 undef=z):vs=#[x,y,z]:=by
 apply Array.ext
 ·simpa using hlen
 ·intro i hi1 hi2
  simp at hi2
  have:i=0∨i=1∨i=2:=by omega
  rcases this with rfl | rfl | rfl
  ·simpa [Array.getD,hi1] using h0
  ·simpa [Array.getD,hi1] using h1
  ·simpa [Array.getD,hi1] using h2

theorem str_val {h:Array Obj} {ok:Nat→Prop} {ρ:Nat→Option Nat} {σ:Store} {l:List UInt8} {v:Value} (hv:VR h ok ρ σ (.str l) v):v=.string ⟨l.toArray⟩:=by
 cases hv with
 | str _ b hs =>
  congr 1
  cases b with
  | mk d=>simp only at hs;subst hs;simp
theorem cell_at {N B:Nat} {w0:World} {ok0:F0} {ok:Nat→Prop} {ρ:Nat→Option Nat} {e:Env} {s:Store} {a:Act} {w:World} (hR:Rel N B w0 ok0 ok ρ e s a w) {k b:Nat} {t:TypeId} {x:AV} (hk:s k=some (some ⟨t,1,[x]⟩)) (hr:ρ k=some b) (hx:cellsOf x=[x]:=by rfl) :
  (∃ v,w.cell? ⟨b,0,none⟩=some v∧VR w.heap ok ρ s x v)∧w.frozen? ⟨b,0,none⟩=false:=by
 obtain ⟨_,_,_,cur,hcur,hH⟩:=hR.bound hk hr
 obtain ⟨h1,h2,h3⟩:=hH 0 x rfl
 obtain ⟨cv,p,q⟩:=h3 0 x (by rw [hx];rfl)
 refine ⟨⟨cv,?_,q⟩,?_⟩
 ·rw [cell_of_heap hcur];simpa using p
 ·simp [World.frozen?,hcur]
theorem set_at {N B:Nat} {w0:World} {ok0:F0} {ok:Nat→Prop} {ρ:Nat→Option Nat} {e:Env} {s:Store} {a:Act} {w:World} (hR:Rel N B w0 ok0 ok ρ e s a w) {k b:Nat} {t:TypeId} {x x':AV} (hk:s k=some (some ⟨t,1,[x]⟩)) (hr:ρ k=some b) (v:Value)
  (hx:cellsOf x'=[x']) (hc:cell x'=true) (hv:VR w.heap ok ρ s x' v):Rel N B w0 ok0 ok ρ e (upd s k (some (some ⟨t,1,[x']⟩))) a (w.setCell ⟨b,0,none⟩ v):=by
 obtain ⟨hbl,hBb,hnok,cur,hcur,hH⟩:=hR.bound hk hr
 have hsz:0<cur.size:=by
  obtain ⟨h1,h2,h3⟩:=hH 0 x rfl
  cases hcx:cellsOf x with
  | nil=>rw [hcx] at h1;cases h1
  | cons c0 r0 =>
   obtain ⟨cv,p,_⟩:=h3 0 c0 (by rw [hcx];rfl)
   have:=(Array.getElem?_eq_some_iff.1 p).1
   omega
 have hhb:(w.setCell ⟨b,0,none⟩ v).heap[b]?=some (.cells (cur.setIfInBounds 0 v) t (0,0)):=by
  simp only [World.setCell,Array.getElem?_modify,hcur]
  simp
 refine hR.set (K:=⟨t,1,[x]⟩) (cur':=cur.setIfInBounds 0 v) (es:=[x']) hk hr hcur (by simp) ?_ hhb (fun j hj=>Below.heap_setCell _ _ _ _ hj) ?_ ?_
 ·intro i y hy
  cases i with
  | zero =>
   simp at hy;subst hy
   refine ⟨by rw [hx];rfl,fun c hcc=>by rw [hx] at hcc;simp at hcc;subst hcc;exact hc,fun o c ho=>?_⟩
   rw [hx] at ho
   cases o with
   | zero=>simp at ho;subst ho;exact ⟨v,by simp [hsz],hv⟩
   | succ o=>simp at ho
  | succ i=>simp at hy
 ·exact (Below.refl b w).setCell (p:=⟨b,0,none⟩) (Nat.le_refl _) _
 ·simp [World.setCell]

section
variable {P:Program} {N B:Nat} {w0:World} {ok0:F0} {ok:Nat→Prop} {ρ:Nat→Option Nat} {e:Env} {s:Store} {a:Act} {w:World} {L:Nat} {r:Loop} {e1:Env} {a1:Act}
theorem Two.phaseG (h:Two N B w0 ok0 L r ok ρ s e a e1 a1 w) {m:MC} (hf:m.flat=true) {c:Code} (hc:cCode P N c=some m) {Q:Exit→Env→Store→Prop} (hm:AWM P N m Q e1 s) (l rm:Nat) :
  c.wpIn (Fr (some l)) rm P (fun x a1' w'=>∃ e1' s' ok' ρ',Two N B w0 ok0 L r ok' ρ' s' e a e1' a1' w'∧(∀ b,ok b→ok' b)∧(∀ b,ok b→w'.heap[b]?=w.heap[b]?)∧w.heap.size≤w'.heap.size∧Goes w.heap w'.heap ρ ρ' s s'∧Q x e1' s') a1 w:=by
 have hLlt:L<w.heap.size:=(Array.getElem?_eq_some_iff.1 h.hl).1
 have hR:Rel N B w ⟨fun b=>ok b∨b=L,ρ,s⟩ (fun b=>ok b∨b=L) ρ e1 s a1 w:=by
  constructor
  ·exact h.q1.defers.mono (fun _ h=>.inl h) (fun _ _=>rfl)
  ·exact h.q1.size
  ·exact Below.refl _ _
  ·exact h.q1.base
  ·exact fun n=>(h.q1.tmps n).mono (fun _ h=>.inl h) (fun _ _=>rfl) (Goes.refl _ _ _)
  ·exact fun b hb=>⟨hb.elim (fun hb=>(h.q1.oklt b hb).1) (fun hb=>hb ▸ hLlt),.inr hb⟩
  ·exact fun b hb=>hb
  ·exact fun k K hk=>(h.q1.live k K hk).mono (fun _ h=>.inl h) (fun _ _=>rfl) (Goes.refl _ _ _) rfl fun b hb=>⟨rfl,fun _ hno hY=>hY.elim hno fun hb'=>by
    subst hb'
    obtain ⟨_,_,_,cur,hcur,_⟩:=h.q1.bound hk hb
    rw [h.hl] at hcur;cases hcur⟩
  ·exact h.q1.inj
  ·exact fun _ _=>rfl
  ·exact Goes.refl _ _ _
  ·exact h.q1.gnow.mono (fun _ h=>.inl h) (fun _ _=>rfl)
 refine wpIn_mono (hm c hc (some l) rm B w _ _ ρ a1 w (.inl hf) hR) fun x a1' w' ⟨e1',s',ok1,ρ1,hR',hq⟩=>?_
 have hsame:∀ b,ok b→w'.heap[b]?=w.heap[b]?:=fun b hb=>hR'.kept b (.inl hb)
 have hL:w'.heap[L]?=some (.loop r):=(hR'.kept L (.inr rfl)).trans h.hl
 have hXc:∀ b,b=L→∀ cur ty fr,w'.heap[b]? ≠ some (.cells cur ty fr):=fun b hb cur ty fr hc=>by subst hb;rw [hL] at hc;cases hc
 have hok':∀ b,ok b→ok1 b∧¬ b=L:=fun b hb=>⟨hR'.okold b (.inl hb),fun hbL=>h.no (hbL ▸ hb)⟩
 have hsz:w.heap.size≤w'.heap.size:=hR'.below.size
 have oklt:∀ b,(ok1 b∧¬ b=L)→b<w'.heap.size∧(B≤b∨ok0 b):=fun b hb=>by
  obtain ⟨g1,g2⟩:=hR'.oklt b hb.1
  refine ⟨g1,g2.elim .inl fun g=>?_⟩
  rcases g with g | g
  ·exact (h.q.oklt b g).2
  ·exact absurd g hb.2
 refine ⟨e1',s',fun b=>ok1 b∧¬ b=L,ρ1,⟨?_,?_,hL,fun h=>h.2 rfl⟩,hok',hsame,hsz,hR'.goes,hq⟩
 ·constructor
  ·exact h.q.defers.mono hok' hsame
  ·exact h.q.size
  ·exact h.q.below.trans hR'.below
  ·exact hR'.base
  ·exact fun n=>(h.q.tmps n).mono hok' hsame hR'.goes
  ·exact oklt
  ·exact fun b hb=>hok' b (h.q.okold b hb)
  ·exact fun k K hk=>(hR'.live k K hk).less hXc
  ·exact hR'.inj
  ·exact fun b hb=>(hsame b (h.q.okold b hb)).trans (h.q.kept b hb)
  ·exact h.q.goes.trans hR'.goes
  ·exact h.q.gok
 ·constructor
  ·obtain ⟨Ds,d1,d2,d3⟩:=hR'.defers
   refine ⟨Ds,d1,d2,fun D hD=>⟨(d3 D hD).1,⟨(d3 D hD).2.1,fun hDL=>?_⟩,(d3 D hD).2.2⟩⟩
   subst hDL
   have:=(d3 D hD).2.2
   rw [hL] at this;cases this
  ·exact hR'.size
  ·exact h.q.below.trans hR'.below
  ·exact hR'.base
  ·exact fun n=>(hR'.tmps n).less hXc
  ·exact oklt
  ·exact fun b hb=>hok' b (h.q.okold b hb)
  ·exact fun k K hk=>(hR'.live k K hk).less hXc
  ·exact hR'.inj
  ·exact fun b hb=>(hsame b (h.q.okold b hb)).trans (h.q.kept b hb)
  ·exact h.q1.goes.trans hR'.goes
  ·exact h.q1.gok

theorem AWM.rfC {x:MX} {ps:List Nat} {ma mb:MC} {Q:Exit→Env→Store→Prop} {g:FuncId} {ty ti:TypeId} {ch:UInt8} {lst:List UInt8} {k1 k2 k3:Nat} (hx:x.ev e=.fn g [.ptr k1 0 0,.ptr k2 0 0,.ptr k3 0 0])
  (hk:s k1=some (some ⟨ty,1,[.str [ch]]⟩)∧s k2=some (some ⟨ty,1,[.str lst]⟩)∧s k3=some (some ⟨ti,1,[.int .i64 0]⟩))
  (hps:ps.length=1) (hfa:ma.flat=true) (hfb:mb.flat=true) (hit:IterC P g ty ti ch) (hlen:lst.length≤1000000) (st:List (List UInt8)→List UInt8→Store)
  (hst:∀ pre r,st pre r k1=some (some ⟨ty,1,[.str [ch]]⟩)∧st pre r k2=some (some ⟨ty,1,[.str r]⟩)∧st pre r k3=some (some ⟨ti,1,[.int .i64 0]⟩)) (hst2:∀ pre r r',upd (st pre r) k2 (some (some ⟨ty,1,[.str r']⟩))=st pre r')
  (h0:WeakK [k1,k2,k3] (e,s) (e,st [] lst))
  (hround:∀ (pre:List (List UInt8)) (x:List UInt8) (rest:List (List UInt8)) (r:List UInt8),pre ++ x :: rest=Lin.cut ch lst →
   AWM P N ma (fun ex e1 s1=>ex=.normal∧AWM P N mb (rfQK [k1,k2,k3] Q e (st (pre ++ [x]) r)) e1 s1) (updL e ps [.str x]) (st pre r))
  (hend:∀ r,Sat e (st (Lin.cut ch lst) r)→Q .normal e (st (Lin.cut ch lst) r)):AWM P N (.rf x ps ma mb) Q e s:=by
 intro c hc ro rm B w0 ok0 ok ρ a w hfl hR
 obtain ⟨rfl,hs0⟩:Plain ro ok0:=hfl.resolve_left (by simp [MC.flat])
 rcases cCode_inv hc with ⟨_,h'⟩ | ⟨_,_,_,_,_,_,h',_⟩ | ⟨_,_,_,_,_,h',_⟩ | ⟨_,_,_,_,_,_,h',_⟩ | ⟨_,_,_,_,h',_⟩ | ⟨_,_,_,h',_⟩ | ⟨_,_,h'⟩ | ⟨_,h'⟩ | ⟨g',ps',cx,cy,_,_,rfl,h',h1,h2,hpsN⟩ <;> first | (cases h';done) | skip
 cases h'
 have hv:=hR.ev g'
 rw [hx] at hv
 generalize hg:a.eval g'=av at hv
 cases hv with
 | fn _ _ vs hl hvv =>
 obtain ⟨⟨hk1,hk2,hk3⟩,hst0⟩:(s k1=some (some ⟨ty,1,[.str [ch]]⟩)∧s k2=some (some ⟨ty,1,[.str lst]⟩)∧s k3=some (some ⟨ti,1,[.int .i64 0]⟩))∧True:=⟨hk,trivial⟩
 obtain ⟨ok1,ρ1,hρ1,hsub,hR1⟩:=h0.2 N B w0 ok0 ok ρ a w hs0 hR
 obtain ⟨b1,hb1r,hv1⟩:=ptr_at hk1 (hvv 0 _ rfl)
 obtain ⟨b2,hb2r,hv2⟩:=ptr_at hk2 (hvv 1 _ rfl)
 obtain ⟨b3,hb3r,hv3⟩:=ptr_at hk3 (hvv 2 _ rfl)
 have hvs:vs=#[.pointer (some ⟨b1,0,none⟩),.pointer (some ⟨b2,0,none⟩),.pointer (some ⟨b3,0,none⟩)]:=args_3 (by simpa using hl.symm) hv1 hv2 hv3
 subst hvs
 refine wpIn_rangeFunc ?_
 intro fn hfn
 obtain ⟨rec,hrec⟩:∃ rec:LoopState→Option Code→Loop,rec=fun st pe=>{ state:=st,pending:=pe,fn,tmps:=a.tmps,params:=ps',assign:=cx,body:=cy,defers:=w.heap.size }:=⟨_,rfl⟩
 obtain ⟨W1,hW1⟩:∃ W1,(w.alloc (.deferred (some []))).alloc (.loop (rec .ready none))=W1:=⟨_,rfl⟩
 obtain ⟨L,hLdef⟩:∃ L,L=w.heap.size+1:=⟨_,rfl⟩
 have hL1:W1.heap[L]?=some (.loop (rec .ready none)):=by
  rw [← hW1,hLdef];have:=World.alloc_heap_new (w.alloc (.deferred (some []))) (.loop (rec .ready none));rwa [World.size_alloc] at this
 have hK1:W1.heap[w.heap.size]?=some (.deferred (some [])):=by
  rw [← hW1];exact (Below.heap_alloc _ _ _ (by simp)).trans (World.alloc_heap_new w _)
 have hb1:Below w.heap.size w W1:=by
  rw [← hW1];exact (((Below.refl _ w).alloc (Nat.le_refl _) _).alloc (by simp) _)
 have hsz1:W1.heap.size=w.heap.size+2:=by rw [← hW1];simp
 obtain ⟨am,ham⟩:∃ am:Act,am={ a with defers:=[{ target:=.collected w.heap.size,args:=#[] }] ++ a.defers }:=⟨_,rfl⟩
 have hBw:=hR.base
 have hRW:=hR1.grow hb1
 have hRm:Rel N B w0 ok0 (fun b=>ok1 b∨b=w.heap.size) ρ1 e (st [] lst) am W1:=by
  have:=hRW.moreOk (fun b=>b=w.heap.size) (fun b hb=>⟨by omega,.inl (by omega)⟩) (fun k K b hk hb hY=>by
   have:=(hR1.bound hk hb).1;omega)
  refine this.act (by rw [ham]) ?_
  obtain ⟨Ds,d1,d2,d3⟩:=this.defers
  obtain ⟨Ds',d1',d2',d3'⟩:=hR1.defers
  refine ⟨w.heap.size :: Ds',List.nodup_cons.2 ⟨fun h=>?_,d1'⟩,by rw [ham,d2'];rfl,fun D hD=>?_⟩
  ·have:=(Array.getElem?_eq_some_iff.1 (d3' _ h).2.2).1;omega
  ·rcases List.mem_cons.1 hD with rfl | hD
   ·exact ⟨hBw,.inr rfl,hK1⟩
   ·obtain ⟨g1,g2,g3⟩:=d3' D hD
    exact ⟨g1,.inl g2,(hb1.block D (Array.getElem?_eq_some_iff.1 g3).1).trans g3⟩
 have hBL:B≤L:=by omega
 obtain ⟨Qc,hQc⟩:∃ Qc:Exit→Act→World→Prop,Qc=fun x a' w'=>∃ e' s' ok' ρ',Rel N B w0 ok0 ok' ρ' e' s' a' w'∧Q x e' s':=⟨_,rfl⟩
 obtain ⟨J,hJ⟩:∃ J:List (List UInt8)→List UInt8→World→Prop,J=fun pre r W=>∃ ok' ρ',Rel N B w0 ok0 ok' ρ' e (st pre r) am W∧W.heap[L]?=some (.loop (rec .ready none))∧¬ ok' L∧(∀ b,ok b→ok' b)∧ρ' k1=some b1∧ρ' k2=some b2∧ρ' k3=some b3:=⟨_,rfl⟩
 obtain ⟨Jx,hJx⟩:∃ Jx:World→Prop,Jx=fun W=>∃ c s2 ok' ρ',Rel N B w0 ok0 ok' ρ' e s2 am W∧W.heap[L]?=some (.loop (rec .done (some c)))∧¬ ok' L∧((c=.ret∧Q .ret e s2)∨∃ id,c=.exit id∧Q (.exit id) e s2):=⟨_,rfl⟩
 refine ⟨L,[{ target:=.collected w.heap.size,args:=#[] }],W1,{ target:=.fn (.func g) #[.pointer (some ⟨b1,0,none⟩),.pointer (some ⟨b2,0,none⟩),.pointer (some ⟨b3,0,none⟩)],args:=#[.func (.yield L) #[] #[]] },W1,g,#[.func (.yield L) #[] #[]] ++ #[.pointer (some ⟨b1,0,none⟩),.pointer (some ⟨b2,0,none⟩),.pointer (some ⟨b3,0,none⟩)],W1,?_,?_,fun _ _=>trivial,?_,?_,?_⟩
 ·rw [← hW1,hrec,hLdef];exact run_enterLoop_outer _ _ _ _ _
 ·simp only [resolve,hg]
  simp [go_sem]
 ·simp only [invoke,go_sem]
  exact hit.1 _ _
 ·intro h;cases h
 have hnoL:¬ (ok1 L∨L=w.heap.size):=by
  rintro (h | h)
  ·have:=(hR1.oklt L h).1;omega
  ·omega
 have hlv:∀ {pre:List (List UInt8)} {r:List UInt8} {ok':Nat→Prop} {ρ':Nat→Option Nat} {W:World},Rel N B w0 ok0 ok' ρ' e (st pre r) am W→ρ' k1=some b1→ρ' k2=some b2→ρ' k3=some b3 →
   W.cell? ⟨b1,0,none⟩=some (.string ⟨#[ch]⟩)∧W.cell? ⟨b2,0,none⟩=some (.string ⟨r.toArray⟩)∧W.frozen? ⟨b2,0,none⟩=false∧W.cell? ⟨b3,0,none⟩=some (.int .i64 0):=by
  intro pre r ok' ρ' W hr r1 r2 r3
  obtain ⟨s1,s2,s3⟩:=hst pre r
  obtain ⟨c1,f1⟩:=cell_at hr s1 r1
  obtain ⟨c2,f2⟩:=cell_at hr s2 r2
  obtain ⟨c3,f3⟩:=cell_at hr s3 r3
  obtain ⟨v1,q1,p1⟩:=c1
  obtain ⟨v2,q2,p2⟩:=c2
  obtain ⟨v3,q3,p3⟩:=c3
  rw [str_val p1] at q1
  rw [str_val p2] at q2
  cases p3
  exact ⟨q1,q2,f2,q3⟩
 refine calls_fr (Calls.mono (hit.2 L lst hlen J Jx b1 b2 b3 ?_ ?_ ?_ W1 ?_) ?_)
 ·intro pre r W h
  rw [hJ] at h
  obtain ⟨ok',ρ',g1,g2,g3,g4,r1,r2,r3⟩:=h
  exact hlv g1 r1 r2 r3
 ·intro pre r W r' h
  rw [hJ] at h ⊢
  obtain ⟨ok',ρ',g1,g2,g3,g4,r1,r2,r3⟩:=h
  have hb2:=g1.bound (hst pre r).2.1 r2
  have hne:L ≠ b2:=fun h=>by
   obtain ⟨_,_,_,cur,hcur,_⟩:=hb2
   rw [← h,g2] at hcur;cases hcur
  have:=set_at g1 (hst pre r).2.1 r2 (.string ⟨r'.toArray⟩) (x':=.str r') rfl rfl (.str _ _ (by simp))
  rw [hst2] at this
  exact ⟨ok',ρ',this,(Below.heap_setCell _ _ _ _ hne).trans g2,g3,g4,r1,r2,r3⟩
 ·-- one round
  intro pre x rest r W hsplit hJp
  rw [hJ] at hJp
  obtain ⟨ok',ρ',g1,g2,g3,g4,r1,r2,r3⟩:=hJp
  have hy:=run_yield (P:=P) (args:=#[.string ⟨x.toArray⟩]) g2 (by rw [hrec];simpa using hps.symm)
  rw [hrec] at hy
  have hfold:=foldl_tmps (N:=N) (w:=W) (ok:=ok') (ρ:=ρ') (s:=st pre r) ps'.toList [.str x] [.string ⟨x.toArray⟩] e a.tmps hpsN hps rfl hR.size
   (fun n=>by have:=g1.tmps n;rw [ham] at this;exact this)
   (fun i v hv=>by
    cases i with
    | zero=>simp at hv;subst hv;exact .str _ _ (by simp)
    | succ i=>simp at hv)
  have hfold':(ps'.zip #[Value.string ⟨x.toArray⟩]).foldl (fun tmps (t,a)=>tmps.setIfInBounds t a) a.tmps=(ps'.toList.zip [Value.string ⟨x.toArray⟩]).foldl (fun t (p:Nat × Value)=>t.setIfInBounds p.1 p.2) a.tmps:=by
   rw [← Array.toList_zip,Array.foldl_toList]
  rw [← hfold'] at hfold
  have hT:Two N B w0 ok0 L (rec .ready none) ok' ρ' (st pre r) e am (updL e ps'.toList [.str x]) { tmps:=(ps'.zip #[Value.string ⟨x.toArray⟩]).foldl (fun tmps (t,a)=>tmps.setIfInBounds t a) a.tmps,defers:=[] } W :=
   ⟨g1,g1.frame hfold.1 hfold.2 rfl,g2,g3⟩
  refine ⟨fn,_,cx,cy,hy,fun rm'=>roundIn_of_wpIn (F:=Fr none) hfn ?_⟩
  refine wpIn_mono (hT.phaseG hfa h1 (hround pre x rest r hsplit) L rm') fun ex a1 w1 ⟨e1,s1,ok3,ρ3,hT1,hs1,hh1,hz1,hgo1,hex,hbody⟩=>?_
  subst hex
  refine ⟨_,run_beginRound hT1.hl (by rw [hrec]),?_⟩
  have hT2:=hT1.record hBL { rec .ready none with state:=.busy }
  refine wpIn_mono (hT2.phaseG hfb h2 hbody L rm') fun ex a2 w2 ⟨e2,s2,ok4,ρ4,hT3,hs3,hh3,hz3,hgo2,hq⟩=>?_
  have hend:∀ jump:Option Code,(Instr.endRound L jump).run P w2=.ok (.bool jump.isNone) (w2.putObj L (.loop (rec (if jump.isNone then .ready else .done) jump))):=fun jump=>by
   have:=run_endRound (P:=P) jump hT3.hl
   rw [hrec] at this ⊢
   exact this
  have hrec':∀ jump,Two N B w0 ok0 L (rec (if jump.isNone then .ready else .done) jump) ok4 ρ4 s2 e am e2 a2 (w2.putObj L (.loop (rec (if jump.isNone then .ready else .done) jump))):=fun jump=>hT3.record hBL _
  cases ex with
  | normal =>
   refine ⟨_,_,hend none,true,rfl,.inl ⟨rfl,?_⟩⟩
   have hT4:=hrec' none
   obtain ⟨ok5,ρ5,kρ,k1',k2'⟩:=hq.2 N B w0 ok0 ok4 ρ4 am _ hs0 hT4.q
   have k3':=k2'.off hT4.hl (fun h=>hT4.no (hT4.q.okold L h))
   have hno5:¬ (ok5 L∧¬ L=L):=fun h=>h.2 rfl
   have hpl:∀ k ∈ [k1,k2,k3],∀ K,st pre r k=some (some K)→ρ5 k=ρ' k:=fun k hkm K hK=>by
    obtain ⟨K2,hK2⟩:=hq.1 k hkm
    rw [kρ k hkm]
    have hK2':s2 k=some (some K2):=hK2
    rcases hgo1.live k K hK with d | ⟨K1,d1,_,_,d2,_⟩
    ·have:=hgo2.dead k d
     rw [hK2'] at this;cases this
    ·rcases hgo2.live k K1 d1 with d | ⟨_,_,_,_,d3,_⟩
     ·rw [hK2'] at d;cases d
     ·rw [d3,d2]
   obtain ⟨s1',s2',s3'⟩:=hst pre r
   rw [hJ]
   exact ⟨_,ρ5,k3',hT4.hl,hno5,fun b hb=>⟨k1' b (hs3 b (hs1 b (g4 b hb))),fun h=>g3 (h ▸ g4 b hb)⟩,(hpl k1 (by simp) _ s1').trans r1,(hpl k2 (by simp) _ s2').trans r2,(hpl k3 (by simp) _ s3').trans r3⟩
  | ret =>
   refine ⟨_,_,hend (some .ret),false,rfl,.inr ⟨rfl,?_⟩⟩
   rw [hJx]
   have hT4:=hrec' (some .ret)
   exact ⟨.ret,s2,ok4,ρ4,hT4.q,hT4.hl,hT4.no,.inl ⟨rfl,hq⟩⟩
  | exit id =>
   refine ⟨_,_,hend (some (.exit id)),false,rfl,.inr ⟨rfl,?_⟩⟩
   rw [hJx]
   have hT4:=hrec' (some (.exit id))
   exact ⟨.exit id,s2,ok4,ρ4,hT4.q,hT4.hl,hT4.no,.inr ⟨id,rfl,hq⟩⟩
  | _=>exact hq.elim
 ·rw [hJ]
  exact ⟨_,ρ1,hRm,hL1,hnoL,fun b hb=>.inl (hsub b hb),(hρ1 k1 (by simp)).trans hb1r,(hρ1 k2 (by simp)).trans hb2r,(hρ1 k3 (by simp)).trans hb3r⟩
 ·-- behind the iterator
  rintro en w' ⟨⟨v,rfl⟩,h⟩
  rcases h with ⟨r,h⟩ | h
  ·rw [hJ] at h
   obtain ⟨ok',ρ',g1,g2,g3,g4,_⟩:=h
   refine ⟨none,_,by have:=run_endLoop (P:=P) g2 (by rw [hrec];simp);rw [hrec] at this;exact this,?_⟩
   rw [← ham]
   exact ⟨e,st (Lin.cut ch lst) r,ok',ρ',g1.record g2 g3 hBL _,hend r ⟨_,_,_,_,_,_,_,_,g1⟩⟩
  ·rw [hJx] at h
   obtain ⟨c,s2,ok',ρ',g1,g2,g3,g4⟩:=h
   refine ⟨some c,_,by have:=run_endLoop (P:=P) g2 (by rw [hrec];simp);rw [hrec] at this;exact this,?_⟩
   rw [← ham]
   rcases g4 with ⟨rfl,hq⟩ | ⟨id,rfl,hq⟩
   ·exact wpIn_ret ⟨e,s2,ok',ρ',g1.record g2 g3 hBL _,hq⟩
   ·exact wpIn_exit ⟨e,s2,ok',ρ',g1.record g2 g3 hBL _,hq⟩
end
end Go.Av

/- strings.SplitSeq at one byte: its closure keeps the iterator's contract. By an AI agent;nothing here is trusted. -/
namespace Go.Proofs.YtpaklfjlbocfcaaGreatDoor
open Go.Av
open Go.RowKit

theorem splitC (c:UInt8):IterC Tryz.prog 196 9 3 c:=by
 refine ⟨fun args w=>callFunc_enter Tryz.func196 (by kernel_rfl) rfl _,?_⟩
 intro l s hs J Jx b1 b2 b3 hcell hset hround W h0
 refine callsIn_wide.1 (split1 Fence.wide rfl trivial trivial l c s hs J Jx b1 b2 b3 hcell hset ?_ ?_ W h0)
 ·intro pre x rest r w hsp hJ
  obtain ⟨fn,tmps,assign,body,hy,hR⟩:=hround pre x rest r w hsp hJ
  refine ⟨fn,tmps,assign,body,hy,fun rm=>(hR rm).mono ?_⟩
  rintro en w' ⟨b,rfl,⟨rfl,h⟩ | ⟨rfl,h⟩⟩
  ·exact .inl ⟨rfl,h⟩
  ·exact .inr ⟨rfl,h⟩
 ·intro n r w
  exact callsIn_wide.2 (Any.strings_Index_one sj_n143 r c w)
end Go.Proofs.YtpaklfjlbocfcaaGreatDoor

/- Weakenings that keep where some keys lie;the rule for a range over SplitSeq in marked code. Printed by gensj5.py. By an AI agent;nothing here is trusted. -/
namespace Go.Av
section
variable {e:Env} {s:Store}
theorem weak_rnK {e':Env} {s':Store} (ks:List Nat) (g:FuncId) (n0:Nat) (he:e n0=.fn g (ks.map fun k=>.ptr k 0 0)) (he':e' n0=e n0) (f:Nat→Option Nat) (hks:∀ k ∈ ks,f k=some k) (hinj:∀ k1 k2 k,f k1=some k→f k2=some k→k1=k2)
  (hs:∀ k',s' k'=none∨∃ B',s' k'=some (some B')∧((∃ k B,f k'=some k∧s k=some (some B)∧RnB s s' f B B')∨(f k'=none∧B'.es=[]∧0<B'.sz)))
  (hf:∀ k' k,f k'=some k→s' k' ≠ none) (hv:∀ n,n ≠ n0→Rn s s' f (e n) (e' n)):WeakK ks (e,s) (e',s'):=by
 refine ⟨fun k hk=>?_,?_⟩
 ·rcases hs k with h | ⟨B',h1,⟨k2,B,h2,h3,_⟩ | ⟨h2,_⟩⟩
  ·exact absurd h (hf k k (hks k hk))
  ·rw [hks k hk] at h2;cases h2;exact ⟨B,h3⟩
  ·rw [hks k hk] at h2;cases h2
 intro N B w0 ok0 ok ρ a w h0 hR
 obtain ⟨ρ',hρ'⟩:∃ ρ':Nat→Option Nat,ρ'=fun k'=>(f k').bind ρ:=⟨_,rfl⟩
 obtain ⟨ok',hok'⟩:∃ ok':Nat→Prop,ok'=fun b=>ok b∨∃ k K,s k=some (some K)∧ρ k=some b∧∀ k',f k' ≠ some k:=⟨_,rfl⟩
 have hsub:∀ b,ok b→ok' b:=fun b hb=>by rw [hok'];exact .inl hb
 have hcarry:∀ {k' k:Nat},f k'=some k→∃ K K',s k=some (some K)∧s' k'=some (some K')∧RnB s s' f K K'∧ρ' k'=ρ k:=by
  intro k' k hk
  rcases hs k' with h | ⟨K',h1,⟨k2,K,h2,h3,h4⟩ | ⟨h2,_,_⟩⟩
  ·exact absurd h (hf k' k hk)
  ·rw [hk] at h2;cases h2
   exact ⟨K,K',h3,h1,h4,by rw [hρ'];simp [hk]⟩
  ·rw [hk] at h2;cases h2
 have hval:∀ {x:AV} {v:Value},VR w.heap ok ρ s x v→∀ x',Rn s s' f x x'→VR w.heap ok' ρ' s' x' v:=by
  intro x v hx
  have himm:∀ {x:AV} {v:Value},VR w.heap ok ρ s x v→imm x=true→VR w.heap ok' ρ' s' x v:=fun hx hi=>hx.imm hsub (fun _ _=>rfl) hi
  induction hx with
  | agg cs vs hl hvv ih =>
   intro x' hr
   cases hr with
   | undef=>exact .undef _
   | imm _ hi=>exact himm (.agg cs vs hl hvv) hi
   | agg _ cs' hl' h =>
    refine .agg cs' vs (by omega) fun i c' hc'=>?_
    have hlt:i<cs.length:=by have:=(List.getElem?_eq_some_iff.1 hc').1;omega
    exact ih i cs[i] (List.getElem?_eq_getElem hlt) c' (h i _ _ (List.getElem?_eq_getElem hlt) hc')
  | tup cs vs hl hvv ih =>
   intro x' hr
   cases hr with
   | undef=>exact .undef _
   | imm _ hi=>exact himm (.tup cs vs hl hvv) hi
   | tup _ cs' hl' h =>
    refine .tup cs' vs (by omega) fun i c' hc'=>?_
    have hlt:i<cs.length:=by have:=(List.getElem?_eq_some_iff.1 hc').1;omega
    exact ih i cs[i] (List.getElem?_eq_getElem hlt) c' (h i _ _ (List.getElem?_eq_getElem hlt) hc')
  | nils A =>
   intro x' hr
   cases hr with
   | undef=>exact .undef _
   | imm _ hi=>exact .nils _
   | virt k' K' h hs' =>
    exact .bufn k' _ K' hs' (by rw [hρ'];simp [h])
   | nil0=>exact .sl0 _ _
  | bufd k len A l c hd =>
   intro x' hr
   cases hr with
   | undef=>exact .undef _
   | imm _ hi=>cases hi
   | buf _ k' _ h=>obtain ⟨K,K',h1,_⟩:=hcarry h;rw [hd] at h1;cases h1
   | fz _ _ K hk=>rw [hd] at hk;cases hk
  | bufn k A K hσ hr0 =>
   intro x' hr
   cases hr with
   | undef=>exact .undef _
   | imm _ hi=>cases hi
   | buf _ k' _ h =>
    obtain ⟨K1,K',h1,h2,h3,h4⟩:=hcarry h
    exact .bufn k' _ K' h2 (h4.trans hr0)
   | fz _ _ K hk hl hg hff=>simp;exact .sl0 _ _
  | buf k len K b cap cur hσ hr0 hb hlen hcap hcur =>
   intro x' hr
   cases hr with
   | undef=>exact .undef _
   | imm _ hi=>cases hi
   | buf _ k' _ h =>
    obtain ⟨K1,K',h1,h2,h3,h4⟩:=hcarry h
    rw [hσ] at h1;cases h1
    exact .buf k' len K' b cap cur h2 (h4.trans hr0) (by rw [h3.1];exact hb) hlen hcap (by rw [h3.2.1];exact hcur)
   | fz _ _ K1 hk hl hg hff =>
    rw [hσ] at hk;cases hk
    obtain ⟨hlt,_,_,cur',hcur',hH⟩:=hR.bound hσ hr0
    rw [hb] at hcur';cases hcur'
    have hokb:ok' b:=by rw [hok'];exact .inr ⟨k,K,hσ,hr0,hff⟩
    have hlt2:(K.es.take len).length=len:=by simp;omega
    have hget:∀ (i:Nat) (x:AV),(K.es.take len)[i]?=some x→K.es[i]?=some x:=fun i x hx=>by
     rw [List.getElem?_take] at hx;split at hx
     ·exact hx
     ·cases hx
    suffices hsl:VR w.heap ok' ρ' s' (.sl (K.es.take len)) (.slice (some ⟨b,0,none⟩) (K.es.take len).length cap) by rw [hlt2] at hsl;exact hsl
    refine .sl (K.es.take len) b 0 K.sz cap cur K.ty (0,0) (fun i o=>cur.getD (i * K.sz+o) undef) hokb (by rw [hlt2];exact hlen) hb (fun i x hx=>?_) (fun i x o c hx hc=>?_) (fun i x o c hx hc=>?_)
    ·have hx':=hget i x hx
     obtain ⟨g1,g2⟩:=good_imm (hg x (List.mem_of_getElem? hx'))
     exact ⟨(hH i x hx').1,g2,g1⟩
    ·obtain ⟨cv,p,q⟩:=(hH i x (hget i x hx)).2.2 o c hc
     rw [Nat.zero_add,p]
     simp [Array.getD_eq_getD_getElem?,p]
    ·obtain ⟨cv,p,q⟩:=(hH i x (hget i x hx)).2.2 o c hc
     have:cur.getD (i * K.sz+o) undef=cv:=by simp [Array.getD_eq_getD_getElem?,p]
     rw [this]
     exact himm q (imm_cells (good_imm (hg x (List.mem_of_getElem? (hget i x hx)))).1 c (List.mem_of_getElem? hc))
  | ptrd k i o A hd =>
   intro x' hr
   cases hr with
   | undef=>exact .undef _
   | imm _ hi=>cases hi
   | ptr _ k' _ _ h=>obtain ⟨K,K',h1,_⟩:=hcarry h;rw [hd] at h1;cases h1
  | ptr k i o K b hσ hr0 =>
   intro x' hr
   cases hr with
   | undef=>exact .undef _
   | imm _ hi=>cases hi
   | ptr _ k' _ _ h =>
    obtain ⟨K1,K',h1,h2,h3,h4⟩:=hcarry h
    rw [hσ] at h1;cases h1
    rw [← h3.2.1]
    exact .ptr k' i o K' b h2 (h4.trans hr0)
  | undef v=>intro x' hr;cases hr <;> exact .undef _
  | int k n=>intro x' hr;cases hr with
   | undef=>exact .undef _
   | imm _ hi=>exact .int _ _
  | bool b=>intro x' hr;cases hr with
   | undef=>exact .undef _
   | imm _ hi=>exact .bool _
  | str l b hb=>intro x' hr;cases hr with
   | undef=>exact .undef _
   | imm _ hi=>exact .str _ _ hb
  | nilp=>intro x' hr;cases hr with
   | undef=>exact .undef _
   | imm _ hi=>exact .nilp
  | nilf=>intro x' hr;cases hr with
   | undef=>exact .undef _
   | imm _ hi=>exact .nilf
  | ifc t v=>intro x' hr;cases hr with
   | undef=>exact .undef _
   | imm _ hi=>exact .ifc _ _
  | nili=>intro x' hr;cases hr with
   | undef=>exact .undef _
   | imm _ hi=>exact .nili
  | sl0 A cap=>intro x' hr;cases hr with
   | undef=>exact .undef _
   | imm _ hi=>exact .sl0 _ _
  | sl es b off sz cap cur ty fr vals ho hcap hb hs hc hvv _=>intro x' hr;cases hr with
   | undef=>exact .undef _
   | imm _ hi=>exact himm (.sl es b off sz cap cur ty fr vals ho hcap hb hs hc hvv) hi
  | eptr x o b off cur ty fr vals ho hb hs hc hvv _=>intro x' hr;cases hr with
   | undef=>exact .undef _
   | imm _ hi=>exact himm (.eptr x o b off cur ty fr vals ho hb hs hc hvv) hi
  | fn f caps vs hl hvv _=>intro x' hr;cases hr with
   | undef=>exact .undef _
   | imm _ hi=>exact himm (.fn f caps vs hl hvv) hi
  | yld l=>intro x' hr;cases hr with
   | undef=>exact .undef _
   | imm _ hi=>exact .yld l
 refine ⟨ok',ρ',fun k hk=>by rw [hρ'];simp [hks k hk],hsub,?_⟩
 constructor
 ·exact hR.defers.mono hsub (fun _ _=>rfl)
 ·exact hR.size
 ·exact hR.below
 ·exact hR.base
 ·intro n
  by_cases hn:n=n0
  ·subst hn
   have h1:=hR.tmps n
   simp only at h1 ⊢
   rw [he']
   rw [he] at h1 ⊢
   generalize a.tmps.getD n undef=v at h1
   cases h1 with
   | fn _ _ vs hl hvv =>
    refine .fn _ _ vs hl fun i c hc=>?_
    obtain ⟨k,hk,rfl⟩:=List.mem_map.1 (List.mem_of_getElem? hc)
    exact hval (hvv i _ hc) _ (.ptr k k 0 0 (hks k hk))
  ·exact hval (hR.tmps n) _ (hv n hn)
 ·intro b hb
  rw [hok'] at hb
  rcases hb with hb | ⟨k,K,h1,h2,_⟩
  ·exact hR.oklt b hb
  ·have:=hR.bound h1 h2;exact ⟨this.1,.inl this.2.1⟩
 ·exact fun b hb=>hsub b (hR.okold b hb)
 ·intro k' K' hk'
  rcases hs k' with h | ⟨K2,h1,h2⟩
  ·simp only at hk';rw [h] at hk';cases hk'
  simp only at hk'
  rw [h1] at hk';cases hk'
  rcases h2 with ⟨k,K,g1,g2,g3⟩ | ⟨g1,g2,g3⟩
  ·obtain ⟨l1,l2⟩:=hR.live k K g2
   refine ⟨by rw [g3.2.1];exact l1,?_⟩
   rcases l2 with ⟨l2,l3⟩ | ⟨b,cur,l2,l3,l4,l5,l6⟩
   ·exact .inl ⟨by rw [hρ'];simp [g1,l2],List.eq_nil_of_length_eq_zero (by rw [g3.2.2.1,l3];rfl)⟩
   ·refine .inr ⟨b,cur,by rw [hρ'];simp [g1,l2],l3,fun hb=>?_,by rw [g3.1];exact l5,fun i x' hx'=>?_⟩
    ·rw [hok'] at hb
     rcases hb with hb | ⟨k2,K2,q1,q2,q3⟩
     ·exact l4 hb
     ·have:=hR.inj k k2 K K2 b g2 q1 l2 q2
      subst this
      exact q3 k' g1
    ·have hlt:i<K.es.length:=by have:=(List.getElem?_eq_some_iff.1 hx').1;have:=g3.2.2.1;omega
     have hx:=List.getElem?_eq_getElem hlt
     obtain ⟨r1,r2,r3⟩:=g3.2.2.2 i _ x' hx hx'
     obtain ⟨p1,p2,p3⟩:=l6 i _ hx
     refine ⟨by rw [r1,p1,g3.2.1],r2,fun o c' hc'=>?_⟩
     have hlo:o<(cellsOf K.es[i]).length:=by have:=(List.getElem?_eq_some_iff.1 hc').1;omega
     have hco:=List.getElem?_eq_getElem hlo
     obtain ⟨cv,q1,q2⟩:=p3 o _ hco
     exact ⟨cv,by rw [g3.2.1];exact q1,hval q2 _ (r3 o _ c' hco hc')⟩
  ·exact ⟨g3,.inl ⟨by rw [hρ'];simp [g1],g2⟩⟩
 ·intro k1 k2 K1 K2 b h1 h2 h3 h4
  rw [hρ'] at h3 h4
  simp only [Option.bind_eq_some_iff] at h3 h4
  obtain ⟨j1,a1,a2⟩:=h3
  obtain ⟨j2,b1,b2⟩:=h4
  obtain ⟨L1,_,c1,_⟩:=hcarry a1
  obtain ⟨L2,_,c2,_⟩:=hcarry b1
  have:=hR.inj j1 j2 L1 L2 b c1 c2 a2 b2
  subst this
  exact hinj k1 k2 j1 a1 b1
 ·exact hR.kept
 ·rw [h0];exact Goes.empty _ _ _ _ _
 ·exact hR.gok
theorem weak_toK (ks:List Nat) (g:FuncId) (n0:Nat) (he:e n0=.fn g (ks.map fun k=>.ptr k 0 0)) (l:List (Nat × AV)) (m:List (Nat × Option Nat × Blk)) (hks:∀ k ∈ ks,keyOf m k=some k) (hd:(m.map (·.1)).Nodup) (hd':(m.filterMap (·.2.1)).Nodup)
  (hm:∀ p ∈ m,match p.2.1 with
   | some k=>∃ B,s k=some (some B)∧RnB s (stOf (m.map fun p=>(p.1,p.2.2))) (keyOf m) B p.2.2
   | none=>p.2.2.es=[]∧0<p.2.2.sz)
  (hl:∀ p ∈ l,Rn s (stOf (m.map fun p=>(p.1,p.2.2))) (keyOf m) (e p.1) p.2):WeakK ks (e,s) (upd (envOf l) n0 (e n0),stOf (m.map fun p=>(p.1,p.2.2))):=by

 have hst:∀ (m:List (Nat × Option Nat × Blk)),(m.map (·.1)).Nodup→∀ k',(stOf (m.map fun p=>(p.1,p.2.2)) k'=none∧keyOf m k'=none)∨∃ p ∈ m,p.1=k'∧stOf (m.map fun p=>(p.1,p.2.2)) k'=some (some p.2.2)∧keyOf m k'=p.2.1:=by
  intro m hn k'
  induction m with
  | nil=>exact .inl ⟨rfl,rfl⟩
  | cons p m ih =>
   obtain ⟨k,o,K⟩:=p
   simp only [List.map_cons,List.nodup_cons] at hn
   simp only [List.map_cons,stOf,keyOf]
   by_cases hk:k'=k
   ·subst hk;exact .inr ⟨_,List.mem_cons_self,rfl,upd_same _ _ _,by simp⟩
   ·rw [upd_other _ _ _ _ hk,if_neg hk]
    rcases ih hn.2 with h | ⟨p,h1,h2⟩
    ·exact .inl h
    ·exact .inr ⟨p,List.mem_cons_of_mem _ h1,h2⟩
 refine weak_rnK ks g n0 he (upd_same _ _ _) (keyOf m) hks ?_ ?_ ?_ ?_
 ·intro k1 k2 k h1 h2
  have key:∀ (m:List (Nat × Option Nat × Blk)),(m.filterMap (·.2.1)).Nodup→keyOf m k1=some k→keyOf m k2=some k→k1=k2:=by
   intro m hn h1 h2
   have hmem:∀ (m:List (Nat × Option Nat × Blk)) j,keyOf m j=some k→k ∈ m.filterMap (·.2.1):=by
    intro m j hj
    induction m with
    | nil=>cases hj
    | cons p m ih =>
     obtain ⟨k',o,K⟩:=p
     simp only [keyOf] at hj
     split at hj
     ·subst hj;simp
     ·have:=ih hj
      cases o <;> simp [this]
   induction m with
   | nil=>cases h1
   | cons p m ih =>
    obtain ⟨k',o,K⟩:=p
    simp only [keyOf] at h1 h2
    by_cases e1:k1=k' <;> by_cases e2:k2=k'
    ·rw [e1,e2]
    ·rw [if_pos e1] at h1;rw [if_neg e2] at h2
     subst h1
     simp only [List.filterMap_cons] at hn
     exact absurd (hmem m k2 h2) (List.nodup_cons.1 hn).1
    ·rw [if_neg e1] at h1;rw [if_pos e2] at h2
     subst h2
     simp only [List.filterMap_cons] at hn
     exact absurd (hmem m k1 h1) (List.nodup_cons.1 hn).1
    ·rw [if_neg e1] at h1;rw [if_neg e2] at h2
     refine ih ?_ h1 h2
     cases o with
     | none=>simpa using hn
     | some q=>simp only [List.filterMap_cons] at hn;exact (List.nodup_cons.1 hn).2
  exact key m hd' h1 h2
 ·intro k'
  rcases hst m hd k' with ⟨h,_⟩ | ⟨p,h1,h2,h3,h4⟩
  ·exact .inl h
  ·refine .inr ⟨p.2.2,h3,?_⟩
   have:=hm p h1
   rw [h4]
   split at this
   ·rename_i k hk
    obtain ⟨K,g1,g2⟩:=this
    exact .inl ⟨k,K,hk,g1,g2⟩
   ·rename_i hk
    exact .inr ⟨hk,this⟩
 ·intro k' k hk
  rcases hst m hd k' with ⟨_,h⟩ | ⟨p,h1,h2,h3,h4⟩
  ·rw [h] at hk;cases hk
  ·rw [h3];simp
 ·intro n hn0
  rw [upd_other _ _ _ _ hn0]
  clear hm
  induction l with
  | nil=>exact .undef _
  | cons p l ih =>
   obtain ⟨k,v⟩:=p
   simp only [envOf]
   by_cases hn:n=k
   ·subst hn;rw [upd_same];exact hl (n,v) (by simp)
   ·rw [upd_other _ _ _ _ hn];exact ih fun p hp=>hl p (by simp [hp])
theorem weakXK {l:List (Nat × AV)} {L:List (Nat × Blk)} (ks:List Nat) (g:FuncId) (n0:Nat) (he:e n0=.fn g (ks.map fun k=>.ptr k 0 0)) (x:List (Nat × Option Nat)) (hks:∀ k ∈ ks,keyOf (kN x L) k=some k) (hd:((kN x L).map (·.1)).Nodup) (hd':((kN x L).filterMap (·.2.1)).Nodup)
  (h:allV (stOf L) (keyOf (kN x L)) e l∧allW s (stOf L) (keyOf (kN x L)) x L):WeakK ks (e,s) (upd (envOf l) n0 (.fn g (ks.map fun k=>.ptr k 0 0)),stOf L):=by
 have:=weak_toK (e:=e) (s:=s) ks g n0 he l (kN x L) hks hd hd' (by rw [kN_map];exact allW_all h.2) (by rw [kN_map];exact allV_all h.1)
 rw [kN_map,he] at this
 exact this
theorem WeakK.weak {ks:List Nat} {p q:Env × Store} (h:WeakK ks p q):Weak p q:=fun N B w0 ok0 ok ρ a w h0 hR=>by
 obtain ⟨ok',ρ',_,h1,h2⟩:=h.2 N B w0 ok0 ok ρ a w h0 hR
 exact ⟨ok',ρ',h1,h2⟩
end
section
variable {P:Program} {N:Nat} {Q:Exit→Env→Store→Prop} {e:Env} {s:Store}
end
end Go.Av

/- A range over SplitSeq whose rounds keep what is known of the pieces so far. By an AI agent;nothing here is trusted. -/
namespace Go.Av

def rfQI (ks:List Nat) (Q:Exit→Env→Store→Prop) (e:Env) (i:Prop) (s':Store):Exit→Env→Store→Prop:=fun ex _ s2=>match ex with
 | .normal=>i∧WeakK ks (e,s2) (e,s')
 | .ret=>Q .ret e s2
 | .exit id=>Q (.exit id) e s2
 | _=>False
theorem rfQI_n (ks:List Nat) (Q:Exit→Env→Store→Prop) (e:Env) (i:Prop) (s':Store) (e2:Env) (s2:Store):rfQI ks Q e i s' .normal e2 s2=(i∧WeakK ks (e,s2) (e,s')):=rfl
theorem rfQI_r (ks:List Nat) (Q:Exit→Env→Store→Prop) (e:Env) (i:Prop) (s':Store) (e2:Env) (s2:Store):rfQI ks Q e i s' .ret e2 s2=Q .ret e s2:=rfl
theorem rfQI_x (ks:List Nat) (Q:Exit→Env→Store→Prop) (e:Env) (i:Prop) (s':Store) (id:Nat) (e2:Env) (s2:Store):rfQI ks Q e i s' (.exit id) e2 s2=Q (.exit id) e s2:=rfl
def badU (s:Store) (k:Nat):Store:=upd s k (some (some ⟨0,0,[]⟩))
theorem not_satU {e:Env} {s:Store} {k:Nat}:¬ Sat e (badU s k):=by
 rintro ⟨N,B,w0,ok0,ok,ρ,a,w,hR⟩
 have:=(hR.live k ⟨0,0,[]⟩ (upd_same _ _ _)).1
 exact absurd this (by decide)
theorem AWM_badU {P:Program} {N:Nat} {m:MC} {Q:Exit→Env→Store→Prop} {e e':Env} {s:Store} {k:Nat}:AWM P N m Q e' (badU s k):=by
 intro c hc ro rm B w0 ok0 ok ρ a w hfl hR
 exact absurd ⟨_,_,_,_,_,_,_,_,hR⟩ (not_satU (e:=e'))
theorem WeakK.refl {ks:List Nat} {p:Env × Store} (h:∀ k ∈ ks,∃ K,p.2 k=some (some K)):WeakK ks p p:=⟨h,fun _ _ _ _ ok ρ _ _ _ hR=>⟨ok,ρ,fun _ _=>rfl,fun _ h=>h,hR⟩⟩
section
variable {P:Program} {N:Nat} {Q:Exit→Env→Store→Prop} {e:Env} {s:Store}
theorem AWM.rfCI {x:MX} {ps:List Nat} {ma mb:MC} {g:FuncId} {ty ti:TypeId} {ch:UInt8} {lst:List UInt8} {k1 k2 k3:Nat} (k0:Nat) (hk0:k1 ≠ k0∧k2 ≠ k0∧k3 ≠ k0) (hx:x.ev e=.fn g [.ptr k1 0 0,.ptr k2 0 0,.ptr k3 0 0])
  (hps:ps.length=1) (hfa:ma.flat=true) (hfb:mb.flat=true) (hit:IterC P g ty ti ch) (hlen:lst.length≤1000000) (I:List (List UInt8)→Prop) (hI:I []) (st:List (List UInt8)→List UInt8→Store)
  (hst:∀ pre r,st pre r k1=some (some ⟨ty,1,[.str [ch]]⟩)∧st pre r k2=some (some ⟨ty,1,[.str r]⟩)∧st pre r k3=some (some ⟨ti,1,[.int .i64 0]⟩)) (hst2:∀ pre r r',upd (st pre r) k2 (some (some ⟨ty,1,[.str r']⟩))=st pre r')
  (h0:s=st [] lst)
  (hround:∀ (pre:List (List UInt8)) (x:List UInt8) (rest:List (List UInt8)) (r:List UInt8),pre ++ x :: rest=Lin.cut ch lst→I pre →
   AWM P N ma (fun ex e1 s1=>ex=.normal∧AWM P N mb (rfQI [k1,k2,k3] Q e (I (pre ++ [x])) (st (pre ++ [x]) r)) e1 s1) (updL e ps [.str x]) (st pre r))
  (hend:∀ r,I (Lin.cut ch lst)→Q .normal e (st (Lin.cut ch lst) r)):AWM P N (.rf x ps ma mb) Q e s:=by
 classical
 subst h0
 refine AWM.rfC hx (hst [] lst) hps hfa hfb hit hlen (fun pre r=>if I pre then st pre r else badU (st pre r) k0) (fun pre r=>?_) (fun pre r r'=>?_) ?_ (fun pre x rest r hsp=>?_) (fun r hsat=>?_)
 ·obtain ⟨a1,a2,a3⟩:=hst pre r
  split
  ·exact ⟨a1,a2,a3⟩
  ·unfold badU
   rw [upd_other _ _ _ _ hk0.1,upd_other _ _ _ _ hk0.2.1,upd_other _ _ _ _ hk0.2.2]
   exact ⟨a1,a2,a3⟩
 ·split
  ·exact hst2 pre r r'
  ·unfold badU
   rw [← hst2 pre r r']
   funext k
   simp only [upd_app]
   by_cases h1:k=k2
   ·subst h1;rw [if_pos rfl,if_neg hk0.2.1,if_pos rfl]
   ·rw [if_neg h1]
    by_cases h2:k=k0
    ·rw [if_pos h2,if_pos h2]
    ·rw [if_neg h2,if_neg h2,if_neg h1]
 ·simp only [hI,if_true]
  refine WeakK.refl fun k hk=>?_
  obtain ⟨a1,a2,a3⟩:=hst [] lst
  simp only [List.mem_cons,List.not_mem_nil,or_false] at hk
  rcases hk with rfl | rfl | rfl
  ·exact ⟨_,a1⟩
  ·exact ⟨_,a2⟩
  ·exact ⟨_,a3⟩
 ·by_cases hp:I pre
  ·simp only [hp,if_true]
   refine (hround pre x rest r hsp hp).mono fun ex e1 s1 ⟨h1,h2⟩=>⟨h1,h2.mono fun ex e2 s2 h=>?_⟩
   cases ex with
   | normal =>
    obtain ⟨g1,g2⟩:=h
    show WeakK _ _ _
    simp only [g1,if_true]
    exact g2
   | ret=>exact h
   | exit id=>exact h
   | _=>exact h.elim
  ·simp only [hp,if_false]
   exact AWM_badU (e:=e)
 ·by_cases hp:I (Lin.cut ch lst)
  ·simp only [hp,if_true]
   exact hend r hp
  ·simp only [hp,if_false] at hsat
   exact absurd hsat not_satU
theorem W_rfCI {x:MX} {ps:List Nat} {ma mb:MC} {g:FuncId} {ty ti:TypeId} {ch:UInt8} {lst:List UInt8} {k1 k2 k3:Nat} {tt} (k0:Nat) (hk0:k1 ≠ k0∧k2 ≠ k0∧k3 ≠ k0) (hx:x.ev e=.fn g [.ptr k1 0 0,.ptr k2 0 0,.ptr k3 0 0])
  (hps:ps.length=1) (hfa:ma.flat=true) (hfb:mb.flat=true) (hit:IterC P g ty ti ch) (hlen:lst.length≤1000000) (I:List (List UInt8)→Prop) (hI:I []) (st:List (List UInt8)→List UInt8→Store)
  (hst:∀ pre r,st pre r k1=some (some ⟨ty,1,[.str [ch]]⟩)∧st pre r k2=some (some ⟨ty,1,[.str r]⟩)∧st pre r k3=some (some ⟨ti,1,[.int .i64 0]⟩)) (hst2:∀ pre r r',upd (st pre r) k2 (some (some ⟨ty,1,[.str r']⟩))=st pre r')
  (h0:s=st [] lst)
  (hround:∀ (pre:List (List UInt8)) (x:List UInt8) (rest:List (List UInt8)) (r:List UInt8),pre ++ x :: rest=Lin.cut ch lst→I pre →
   W P N ma (fun ex e1 s1=>ex=.normal∧W P N mb (rfQI [k1,k2,k3] Q e (I (pre ++ [x])) (st (pre ++ [x]) r)) e1 s1 .mk) (updL e ps [.str x]) (st pre r) .mk)
  (hend:∀ r,I (Lin.cut ch lst)→Q .normal e (st (Lin.cut ch lst) r)):W P N (.rf x ps ma mb) Q e s tt :=
 AWM.rfCI k0 hk0 hx hps hfa hfb hit hlen I hI st hst hst2 h0 (fun pre x rest r h h'=>(W_sound (hround pre x rest r h h')).mono fun ex e1 s1 ⟨h1,h2⟩=>⟨h1,W_sound h2⟩) hend
end
end Go.Av

/- Contracts: words as numbers. By an AI agent;nothing here is trusted. -/
namespace Go.Proofs.YtpaklfjlbocfcaaGreatDoor
open Go.Av

def prV (s:List UInt8):AV:=match Lin.nums false 7 (Lin.cut 32 s) with
 | some l=>.tup [.sl (ints l),.bool true]
 | none=>.tup [.sl [],.bool false]
def prL (pre:List (List UInt8)):List Int:=(Lin.nums false 7 pre).getD []
def prS (pre:List (List UInt8)) (r:List UInt8):Store:=stOf [(2,⟨45,1,[.nils]⟩),(3,⟨4,1,[.bool false]⟩),(4,⟨45,1,[.buf 100 (prL pre).length]⟩),(100,⟨3,1,ints (prL pre)⟩),
 (200,⟨9,1,[.str [32]]⟩),(201,⟨9,1,[.str r]⟩),(202,⟨3,1,[.int .i64 0]⟩)]
def prE:Env:=upd (envOf [(2,.ptr 2 0 0),(3,.ptr 3 0 0),(4,.ptr 4 0 0)]) 9 (.fn 196 ([200,201,202].map fun k=>.ptr k 0 0))
theorem parse_s (s:List UInt8) (hs:s.length≤100000):Sound Tryz.prog 78 [.str s] (prV s):=by
 refine sound_W f_watch_parse (Nat.le_of_ble_eq_true rfl) ?_
 have hmax:=maxLen_str
 have hsc:scal1 AV.ifc=true:=rfl
 have hsn:scal1 AV.nili=true:=rfl
 have hnum:=Lin.cut_num 32 s
 simp only [c_watch_parse,vZ,Int.reduceEq,Int.reduceNe,Int.reduceLT,Int.reduceLE,Nat.reduceEqDiff,Nat.reduceAdd,reduceIte,reduceCtorEq,Nat.reduceLT,Nat.reduceLeDiff,Nat.reduceShiftRight,Nat.reduceMod]
 refine callS_clo [200,201,202] (SplitSeq_s 32 s) rfl (of_decide_eq_true rfl) (by intro k hk;simp at hk;rcases hk with rfl | rfl | rfl <;> rfl) ?_
 simp only [vZ,Int.reduceEq,Int.reduceNe,Int.reduceLT,Int.reduceLE,Nat.reduceEqDiff,Nat.reduceAdd,reduceIte,reduceCtorEq,Nat.reduceLT,Nat.reduceLeDiff,Nat.reduceShiftRight,Nat.reduceMod]
 refine W_weakR (t:=.mk) (prE,prS [] s) ?_ ?_
 ·refine (weakXK [200,201,202] 196 9 rfl [(100,none)] (by intro k hk;simp at hk;rcases hk with rfl | rfl | rfl <;> rfl) (of_decide_eq_true rfl) (of_decide_eq_true rfl) ?_).weak
  (simp only [prL,Lin.nums,addK,vcW,vZ,Int.reduceEq,Int.reduceNe,Int.reduceLT,Int.reduceLE,Nat.reduceEqDiff,Nat.reduceAdd,reduceIte,reduceCtorEq,Nat.reduceLT,Nat.reduceLeDiff,Nat.reduceShiftRight,Nat.reduceMod])
  repeat' first | exact RnB.one (.imm AV.nils rfl) rfl rfl rfl | (with_reducible refine And.intro ?_ ?_)
  all_goals (repeat' first | exact trivial | (with_reducible first | exact RnB.fxB (ints_fxB _) | rfl | refine And.intro ?_ ?_) | (with_reducible (first | refine RnB.bb ?_ | refine RnB.nb ?_);simp only [vcW,vZ,Int.reduceEq,Int.reduceNe,Int.reduceLT,Int.reduceLE,Nat.reduceEqDiff,Nat.reduceAdd,reduceIte,reduceCtorEq,Nat.reduceLT,Nat.reduceLeDiff,Nat.reduceShiftRight,Nat.reduceMod]) | (with_reducible first | refine RnB.ii ?_ | refine RnB.app ?_) | (with_reducible refine RnB.fxB ?_;simp only [vcW,vZ,Int.reduceEq,Int.reduceNe,Int.reduceLT,Int.reduceLE,Nat.reduceEqDiff,Nat.reduceAdd,reduceIte,reduceCtorEq,Nat.reduceLT,Nat.reduceLeDiff,Nat.reduceShiftRight,Nat.reduceMod]) | omega)
 ·refine W_rfCI (tt:=.mk) (k1:=200) (k2:=201) (k3:=202) 999 ⟨by decide,by decide,by decide⟩ rfl rfl rfl rfl (splitC 32) (by omega) (fun pre=>∃ l,Lin.nums false 7 pre=some l) ⟨[],rfl⟩ prS (fun pre r=>⟨rfl,rfl,rfl⟩) (fun pre r r'=>?_) rfl (fun pre x rest r hsp hI=>?_) (fun r hI=>?_)
  ·funext k
   unfold prS
   by_cases h:k=201
   ·subst h;simp [stOf,upd_app]
   ·simp only [stOf,upd_app,h,if_false]
  ·obtain ⟨l,hI⟩:=hI
   have hL:prL pre=l:=by unfold prL;rw [hI];rfl
   have hxm:x ∈ Lin.cut 32 s:=by rw [← hsp];simp
   have hxl:=Lin.cut_len x hxm
   have hll:=Lin.nums_len hI
   have hpl:pre.length≤(Lin.cut 32 s).length:=by rw [← hsp];simp
   have hno:Lin.numU false 7 x=none→prV s=.tup [.sl [],.bool false]:=fun h=>by unfold prV;rw [← hsp,Lin.nums_none h]
   simp only [prE,prS,hL,vZ,Int.reduceEq,Int.reduceNe,Int.reduceLT,Int.reduceLE,Nat.reduceEqDiff,Nat.reduceAdd,reduceIte,reduceCtorEq,Nat.reduceLT,Nat.reduceLeDiff,Nat.reduceShiftRight,Nat.reduceMod]
   refine callS_of (Atoi_s x (by omega)) ?_
   unfold atoiV
   cases ha:Lib.atoiAll x with
   | ok v =>
    have hv:=Lib.atoiAll_bounds ha
    by_cases hv0:v<0
    ·have hn:Lin.numU false 7 x=none:=by
      cases hu:Lin.numU false 7 x with
      | none=>rfl
      | some n =>
       obtain ⟨g1,g2,_⟩:=(Lin.numU_atoi (by decide)).1 hu
       rw [ha] at g1;cases g1
       simp at g2;omega
     rw [hno hn]
     simp only [rfQI_n,rfQI_r,rfQI_x,hsc,hsn,hv0,vZ,Int.reduceEq,Int.reduceNe,Int.reduceLT,Int.reduceLE,Nat.reduceEqDiff,Nat.reduceAdd,reduceIte,reduceCtorEq,Nat.reduceLT,Nat.reduceLeDiff,Nat.reduceShiftRight,Nat.reduceMod]
    ·simp only [rfQI_n,rfQI_r,rfQI_x,hsc,hsn,hv0,vZ,Int.reduceEq,Int.reduceNe,Int.reduceLT,Int.reduceLE,Nat.reduceEqDiff,Nat.reduceAdd,reduceIte,reduceCtorEq,Nat.reduceLT,Nat.reduceLeDiff,Nat.reduceShiftRight,Nat.reduceMod]
     refine callS_of (Itoa_s v hv) ?_
     by_cases hi:Lib.itoa v=x
     ·simp only [rfQI_n,rfQI_r,rfQI_x,hsc,hsn,hi,vZ,Int.reduceEq,Int.reduceNe,Int.reduceLT,Int.reduceLE,Nat.reduceEqDiff,Nat.reduceAdd,reduceIte,reduceCtorEq,Nat.reduceLT,Nat.reduceLeDiff,Nat.reduceShiftRight,Nat.reduceMod]
      by_cases hl7:x.length≤7
      ·have hn:Lin.numU false 7 x=some v:=(Lin.numU_atoi (by decide)).2 ⟨ha,.inr (by omega),hi,by rw [← Lin.itoa_len (by omega),hi];exact hl7⟩
       have hc:¬ (7:Int)<x.length:=by omega
       have hnext:=Lin.nums_snoc hI hn
       have hL2:prL (pre ++ [x])=l ++ [v]:=by unfold prL;rw [hnext];rfl
       simp only [rfQI_n,rfQI_r,rfQI_x,hsc,hsn,hc,vZ,Int.reduceEq,Int.reduceNe,Int.reduceLT,Int.reduceLE,Nat.reduceEqDiff,Nat.reduceAdd,reduceIte,reduceCtorEq,Nat.reduceLT,Nat.reduceLeDiff,Nat.reduceShiftRight,Nat.reduceMod]
       refine ⟨⟨by omega,by omega⟩,⟨_,hnext⟩,?_⟩
       rw [hL2,show (l ++ [v]).length=l.length+1 by simp,ints_append]
       refine weakXK [200,201,202] 196 9 rfl [(100,some 36)] (by intro k hk;simp at hk;rcases hk with rfl | rfl | rfl <;> rfl) (of_decide_eq_true rfl) (of_decide_eq_true rfl) ?_
       (simp only [vcW,vZ,Int.reduceEq,Int.reduceNe,Int.reduceLT,Int.reduceLE,Nat.reduceEqDiff,Nat.reduceAdd,reduceIte,reduceCtorEq,Nat.reduceLT,Nat.reduceLeDiff,Nat.reduceShiftRight,Nat.reduceMod])
       repeat' first | exact RnB.one (.imm AV.nils rfl) rfl rfl rfl | (with_reducible refine And.intro ?_ ?_)
       all_goals (repeat' first | exact trivial | (with_reducible first | exact RnB.fxB (ints_fxB _) | rfl | refine And.intro ?_ ?_) | (with_reducible (first | refine RnB.bb ?_ | refine RnB.nb ?_);simp only [vcW,vZ,Int.reduceEq,Int.reduceNe,Int.reduceLT,Int.reduceLE,Nat.reduceEqDiff,Nat.reduceAdd,reduceIte,reduceCtorEq,Nat.reduceLT,Nat.reduceLeDiff,Nat.reduceShiftRight,Nat.reduceMod]) | (with_reducible first | refine RnB.ii ?_ | refine RnB.app ?_) | (with_reducible refine RnB.fxB ?_;simp only [vcW,vZ,Int.reduceEq,Int.reduceNe,Int.reduceLT,Int.reduceLE,Nat.reduceEqDiff,Nat.reduceAdd,reduceIte,reduceCtorEq,Nat.reduceLT,Nat.reduceLeDiff,Nat.reduceShiftRight,Nat.reduceMod]) | omega)
       all_goals exact (ints_append _ _).symm
      ·have hn:Lin.numU false 7 x=none:=by
        cases hu:Lin.numU false 7 x with
        | none=>rfl
        | some n =>
         obtain ⟨g1,g2,g3,g4⟩:=(Lin.numU_atoi (by decide)).1 hu
         rw [ha] at g1;cases g1
         rw [← Lin.itoa_len (by omega),hi] at g4
         omega
       have hc:(7:Int)<x.length:=by omega
       rw [hno hn]
       simp only [rfQI_n,rfQI_r,rfQI_x,hsc,hsn,hc,vZ,Int.reduceEq,Int.reduceNe,Int.reduceLT,Int.reduceLE,Nat.reduceEqDiff,Nat.reduceAdd,reduceIte,reduceCtorEq,Nat.reduceLT,Nat.reduceLeDiff,Nat.reduceShiftRight,Nat.reduceMod]
     ·have hn:Lin.numU false 7 x=none:=by
       cases hu:Lin.numU false 7 x with
       | none=>rfl
       | some n =>
        obtain ⟨g1,g2,g3,g4⟩:=(Lin.numU_atoi (by decide)).1 hu
        rw [ha] at g1;cases g1
        exact absurd g3 hi
      rw [hno hn]
      simp only [rfQI_n,rfQI_r,rfQI_x,hsc,hsn,hi,vZ,Int.reduceEq,Int.reduceNe,Int.reduceLT,Int.reduceLE,Nat.reduceEqDiff,Nat.reduceAdd,reduceIte,reduceCtorEq,Nat.reduceLT,Nat.reduceLeDiff,Nat.reduceShiftRight,Nat.reduceMod]
   | _ =>
    have hn:Lin.numU false 7 x=none:=by
     cases hu:Lin.numU false 7 x with
     | none=>rfl
     | some n =>
      obtain ⟨g1,_⟩:=(Lin.numU_atoi (by decide)).1 hu
      rw [ha] at g1;cases g1
    rw [hno hn]
    simp only [rfQI_n,rfQI_r,rfQI_x,hsc,hsn,vZ,Int.reduceEq,Int.reduceNe,Int.reduceLT,Int.reduceLE,Nat.reduceEqDiff,Nat.reduceAdd,reduceIte,reduceCtorEq,Nat.reduceLT,Nat.reduceLeDiff,Nat.reduceShiftRight,Nat.reduceMod]
  ·obtain ⟨l,hI⟩:=hI
   have hL:prL (Lin.cut 32 s)=l:=by unfold prL;rw [hI];rfl
   rw [show prV s=.tup [.sl (ints l),.bool true] by unfold prV;rw [hI]]
   simp only [rfQI_n,rfQI_r,rfQI_x,hsc,hsn,prE,prS,hL,vZ,Int.reduceEq,Int.reduceNe,Int.reduceLT,Int.reduceLE,Nat.reduceEqDiff,Nat.reduceAdd,reduceIte,reduceCtorEq,Nat.reduceLT,Nat.reduceLeDiff,Nat.reduceShiftRight,Nat.reduceMod]
   rw [borB_good _ _ _ _ _ (by simp [ints]) (ints_fx _)]
end Go.Proofs.YtpaklfjlbocfcaaGreatDoor

/- Contracts: the string of a rule,and back. By an AI agent;nothing here is trusted. -/
namespace Go.Proofs.YtpaklfjlbocfcaaGreatDoor
open Go.Av

def Rule.l (r:Rule):List Int:=[r.mean,r.spread,r.window,r.limit]
end Go.Proofs.YtpaklfjlbocfcaaGreatDoor

/- Contracts: the string of a sky. By an AI agent;nothing here is trusted. -/
namespace Go.Proofs.YtpaklfjlbocfcaaGreatDoor
open Go.Av

def rowS (l:List Int):List UInt8:=Lib.join (l.map Lib.itoa) [32]
def skyS (s:List (List Int)):List UInt8:=Lib.join (s.map rowS) [59]
theorem rowS_le {l:List Int} (hl:∀ n ∈ l,I64 n):(rowS l).length≤l.length * 21:=by
 have:=join_le 32 20 (l.map Lib.itoa) fun w hw=>by
  obtain ⟨n,hn,rfl⟩:=List.mem_map.1 hw
  exact itoa_le (hl n hn)
 simpa [rowS] using this
theorem FormatSky_s (s:List (List Int)) (hs:s.length≤1000) (hl:∀ l ∈ s,l.length≤1000∧∀ n ∈ l,I64 n):Sound Tryz.prog 10 [skyA s] (.str (skyS s)):=by
 refine sound_W f_watch_FormatSky (Nat.le_of_ble_eq_true rfl) ?_
 have hmax:=maxLen_str
 have hJ:=Join_s (s.map rowS) [59] (by simp;omega) (by
  refine Nat.le_trans (join_le 59 21000 _ fun w hw=>?_) (by simp;omega)
  obtain ⟨l,hm,rfl⟩:=List.mem_map.1 hw
  have:=rowS_le (hl l hm).2
  have:=(hl l hm).1
  omega)
 change Sound _ _ [.sl (strs (s.map rowS)),_] _ at hJ
 simp only [c_watch_FormatSky,skyA,skyL_length,vZ,Int.reduceEq,Int.reduceNe,Int.reduceLT,Int.reduceLE,Nat.reduceEqDiff,Nat.reduceAdd,reduceIte,reduceCtorEq,Nat.reduceLT,Nat.reduceLeDiff,Nat.reduceShiftRight,Nat.reduceMod]
 refine W_loop (t:=.mk) (α:=PSigma fun i:Nat=>i≤s.length) (fun ⟨i,_⟩=>(envOf [(3,.buf 100 i),(7,.sl (skyL s)),(8,.int .i64 s.length),(9,.int .i64 i)],stOf [(100,⟨9,1,strs ((s.take i).map rowS)⟩)])) (fun p=>s.length - p.1) ⟨0,Nat.zero_le _⟩ ?_ (fun ⟨i,hi⟩=>?_)
 ·refine weakX [(100,none)] (of_decide_eq_true rfl) (of_decide_eq_true rfl) ?_
  (simp only [vcW,vZ,Int.reduceEq,Int.reduceNe,Int.reduceLT,Int.reduceLE,Nat.reduceEqDiff,Nat.reduceAdd,reduceIte,reduceCtorEq,Nat.reduceLT,Nat.reduceLeDiff,Nat.reduceShiftRight,Nat.reduceMod])
  (repeat' first | exact trivial | (with_reducible first | exact RnB.fxB (ints_fxB _) | rfl | refine And.intro ?_ ?_) | (with_reducible (first | refine RnB.bb ?_ | refine RnB.nb ?_);simp only [vcW,vZ,Int.reduceEq,Int.reduceNe,Int.reduceLT,Int.reduceLE,Nat.reduceEqDiff,Nat.reduceAdd,reduceIte,reduceCtorEq,Nat.reduceLT,Nat.reduceLeDiff,Nat.reduceShiftRight,Nat.reduceMod]) | (with_reducible first | refine RnB.ii ?_ | refine RnB.app ?_) | (with_reducible refine RnB.fxB ?_;simp only [vcW,vZ,Int.reduceEq,Int.reduceNe,Int.reduceLT,Int.reduceLE,Nat.reduceEqDiff,Nat.reduceAdd,reduceIte,reduceCtorEq,Nat.reduceLT,Nat.reduceLeDiff,Nat.reduceShiftRight,Nat.reduceMod]) | omega)
  all_goals first | rfl | trace_state
 ·dsimp only at hi ⊢
  have hlen:(strs ((s.take i).map rowS)).length=i:=by rw [strs_length,List.length_map,List.length_take];omega
  by_cases h':i<s.length
  ·have hc1:(i:Int)<s.length:=by omega
   have hg:=skyL_get s i h'
   have hm:=hl _ (List.getElem_mem h')
   have hw:=words_s s[i] hm.2 (by omega)
   have ht:strs ((s.take (i+1)).map rowS)=strs ((s.take i).map rowS) ++ [.str (rowS s[i])]:=by rw [List.take_succ_eq_append_getElem h',List.map_append,strs_append];rfl
   simp only [hc1,hg,vZ,Int.reduceEq,Int.reduceNe,Int.reduceLT,Int.reduceLE,Nat.reduceEqDiff,Nat.reduceAdd,reduceIte,reduceCtorEq,Nat.reduceLT,Nat.reduceLeDiff,Nat.reduceShiftRight,Nat.reduceMod]
   refine ⟨by omega,callS_of hw ?_⟩
   simp only [hlen,vZ,Int.reduceEq,Int.reduceNe,Int.reduceLT,Int.reduceLE,Nat.reduceEqDiff,Nat.reduceAdd,reduceIte,reduceCtorEq,Nat.reduceLT,Nat.reduceLeDiff,Nat.reduceShiftRight,Nat.reduceMod]
   refine ⟨⟨by omega,by omega⟩,by unfold I64;omega,⟨i+1,h'⟩,by simp only;omega,?_⟩
   rw [ht]
   refine weakX [(100,some 17)] (of_decide_eq_true rfl) (of_decide_eq_true rfl) ?_
   (simp only [vcW,vZ,Int.reduceEq,Int.reduceNe,Int.reduceLT,Int.reduceLE,Nat.reduceEqDiff,Nat.reduceAdd,reduceIte,reduceCtorEq,Nat.reduceLT,Nat.reduceLeDiff,Nat.reduceShiftRight,Nat.reduceMod])
   (repeat' first | exact trivial | (with_reducible first | exact RnB.fxB (ints_fxB _) | rfl | refine And.intro ?_ ?_) | (with_reducible (first | refine RnB.bb ?_ | refine RnB.nb ?_);simp only [vcW,vZ,Int.reduceEq,Int.reduceNe,Int.reduceLT,Int.reduceLE,Nat.reduceEqDiff,Nat.reduceAdd,reduceIte,reduceCtorEq,Nat.reduceLT,Nat.reduceLeDiff,Nat.reduceShiftRight,Nat.reduceMod]) | (with_reducible first | refine RnB.ii ?_ | refine RnB.app ?_) | (with_reducible refine RnB.fxB ?_;simp only [vcW,vZ,Int.reduceEq,Int.reduceNe,Int.reduceLT,Int.reduceLE,Nat.reduceEqDiff,Nat.reduceAdd,reduceIte,reduceCtorEq,Nat.reduceLT,Nat.reduceLeDiff,Nat.reduceShiftRight,Nat.reduceMod]) | omega)
   all_goals first | rfl | exact RnB.fxB (by rw [List.all_append,strs_fxB];rfl) | trace_state
  ·have hil:i=s.length:=by omega
   subst hil
   have hc1:¬ (s.length:Int)<s.length:=by omega
   rw [List.take_length] at *
   simp only [hc1,vZ,Int.reduceEq,Int.reduceNe,Int.reduceLT,Int.reduceLE,Nat.reduceEqDiff,Nat.reduceAdd,reduceIte,reduceCtorEq,Nat.reduceLT,Nat.reduceLeDiff,Nat.reduceShiftRight,Nat.reduceMod]
   rw [borB_good _ _ _ _ _ hlen.symm (strs_fx _)]
   refine callS_of hJ ?_
   simp only [skyS,vZ,Int.reduceEq,Int.reduceNe,Int.reduceLT,Int.reduceLE,Nat.reduceEqDiff,Nat.reduceAdd,reduceIte,reduceCtorEq,Nat.reduceLT,Nat.reduceLeDiff,Nat.reduceShiftRight,Nat.reduceMod]
end Go.Proofs.YtpaklfjlbocfcaaGreatDoor

/- Contracts: the sky of a string. By an AI agent;nothing here is trusted. -/
namespace Go.Proofs.YtpaklfjlbocfcaaGreatDoor
open Go.Av

theorem RnB.agS {s s':Store} {f:Nat→Option Nat} {ty sz:Nat} {c c':AV} (e:cellsOf (.agg [c])=[c]) (e':cellsOf (.agg [c'])=[c']) (hc:cell c'=true) (h:Rn s s' f c c') :
  RnB s s' f ⟨ty,sz,[.agg [c]]⟩ ⟨ty,sz,[.agg [c']]⟩:=by
 refine ⟨rfl,rfl,rfl,fun i x x' h1 h2'=>?_⟩
 cases i with
 | zero =>
  simp at h1 h2';subst h1;subst h2'
  refine ⟨by rw [e,e'];rfl,fun q hq=>?_,fun o q q' k3 k4=>?_⟩
  ·rw [e'] at hq;simp at hq;subst hq;exact hc
  ·rw [e] at k3;rw [e'] at k4
   cases o with
   | zero=>simp at k3 k4;subst k3;subst k4;exact h
   | succ o=>simp at k3
 | succ i=>simp at h1
def rowsP:List (List UInt8)→Option (List (List Int))
 | []=>some []
 | p :: r=>match Lin.nums false 7 (Lin.cut 32 p),rowsP r with
  | some l,some R=>some (l :: R)
  | _,_=>none
theorem rowsP_len:∀ {ws:List (List UInt8)} {R:List (List Int)},rowsP ws=some R→R.length=ws.length
 | [],R,h=>by simp [rowsP] at h;subst h;rfl
 | w :: r,R,h=>by
  unfold rowsP at h
  split at h
  ·rename_i h2
   injection h with h;subst h
   simp [rowsP_len h2]
  ·cases h
theorem rowsP_snoc {w:List UInt8} {n:List Int}:∀ {ws:List (List UInt8)} {l:List (List Int)},rowsP ws=some l→Lin.nums false 7 (Lin.cut 32 w)=some n→rowsP (ws ++ [w])=some (l ++ [n])
 | [],l,h,h1=>by simp [rowsP] at h;subst h;simp [rowsP,h1]
 | v :: r,l,h,h1=>by
  unfold rowsP at h
  split at h
  ·rename_i a b hm1 hm2
   injection h with h;subst h
   rw [List.cons_append,rowsP,hm1,rowsP_snoc hm2 h1];rfl
  ·cases h
theorem rowsP_none {w:List UInt8} (h:Lin.nums false 7 (Lin.cut 32 w)=none) (r:List (List UInt8)):∀ (ws:List (List UInt8)),rowsP (ws ++ w :: r)=none
 | []=>by rw [List.nil_append,rowsP,h]
 | v :: ws=>by
  rw [List.cons_append,rowsP,rowsP_none h r ws]
  split
  ·rename_i h2;cases h2
  ·rfl
theorem rowsP_mem:∀ {ws:List (List UInt8)} {R:List (List Int)},rowsP ws=some R→∀ l ∈ R,∃ w ∈ ws,Lin.nums false 7 (Lin.cut 32 w)=some l
 | [],R,h=>by simp [rowsP] at h;subst h;intro l hl;cases hl
 | w :: r,R,h=>by
  unfold rowsP at h
  split at h
  ·rename_i a b h1 h2
   injection h with h;subst h
   intro l hl
   rcases List.mem_cons.1 hl with rfl | hl
   ·exact ⟨w,by simp,h1⟩
   ·obtain ⟨v,hv,g⟩:=rowsP_mem h2 l hl
    exact ⟨v,by simp [hv],g⟩
  ·cases h
theorem skyL_fxk (s:List (List Int)):(skyL s).all Go.Av.fx=true:=List.all_eq_true.2 fun x hx=>by
 obtain ⟨l,_,rfl⟩:=List.mem_map.1 hx
 rfl
def rdS (s:List UInt8):List (List Int) × Int:=if 60000<s.length then ([],8) else match rowsP (Lin.cut 59 s) with
 | some R=>if (skyE R).2 ≠ 0 then ([],(skyE R).2) else (R,0)
 | none=>([],7)
def psL (pre:List (List UInt8)):List (List Int):=(rowsP pre).getD []
def psS (pre:List (List UInt8)) (r:List UInt8):Store:=stOf [(2,⟨26,1,[.agg [.nils]]⟩),(3,⟨32,1,[.int .i64 0]⟩),(4,⟨26,1,[.agg [.buf 100 (psL pre).length]]⟩),(100,⟨45,1,skyL (psL pre)⟩),
 (200,⟨9,1,[.str [59]]⟩),(201,⟨9,1,[.str r]⟩),(202,⟨3,1,[.int .i64 0]⟩)]
def psE:Env:=upd (envOf [(2,.ptr 2 0 0),(3,.ptr 3 0 0),(4,.ptr 4 0 0)]) 15 (.fn 196 ([200,201,202].map fun k=>.ptr k 0 0))
theorem ParseSky_s (s:List UInt8) (hs:s.length≤100000):Sound Tryz.prog 13 [.str s] (.tup [skyA (rdS s).1,.int .i64 (rdS s).2]):=by
 refine sound_W f_watch_ParseSky (Nat.le_of_ble_eq_true rfl) ?_
 have hmax:=maxLen_str
 have hnum:=Lin.cut_num 59 s
 simp only [c_watch_ParseSky,vZ,Int.reduceEq,Int.reduceNe,Int.reduceLT,Int.reduceLE,Nat.reduceEqDiff,Nat.reduceAdd,reduceIte,reduceCtorEq,Nat.reduceLT,Nat.reduceLeDiff,Nat.reduceShiftRight,Nat.reduceMod]
 by_cases hbig:60000<s.length
 ·have hb':(60000:Int)<s.length:=by omega
  have hr:rdS s=([],8):=by unfold rdS;rw [if_pos hbig]
  simp only [hb',hr,skyA,vZ,Int.reduceEq,Int.reduceNe,Int.reduceLT,Int.reduceLE,Nat.reduceEqDiff,Nat.reduceAdd,reduceIte,reduceCtorEq,Nat.reduceLT,Nat.reduceLeDiff,Nat.reduceShiftRight,Nat.reduceMod]
  rfl
 ·have hb':¬ (60000:Int)<s.length:=by omega
  simp only [hb',vZ,Int.reduceEq,Int.reduceNe,Int.reduceLT,Int.reduceLE,Nat.reduceEqDiff,Nat.reduceAdd,reduceIte,reduceCtorEq,Nat.reduceLT,Nat.reduceLeDiff,Nat.reduceShiftRight,Nat.reduceMod]
  refine callS_clo [200,201,202] (SplitSeq_s 59 s) rfl (of_decide_eq_true rfl) (by intro k hk;simp at hk;rcases hk with rfl | rfl | rfl <;> rfl) ?_
  simp only [vZ,Int.reduceEq,Int.reduceNe,Int.reduceLT,Int.reduceLE,Nat.reduceEqDiff,Nat.reduceAdd,reduceIte,reduceCtorEq,Nat.reduceLT,Nat.reduceLeDiff,Nat.reduceShiftRight,Nat.reduceMod]
  refine W_weakR (t:=.mk) (psE,psS [] s) ?_ ?_
  ·refine (weakXK [200,201,202] 196 15 rfl [(100,none)] (by intro k hk;simp at hk;rcases hk with rfl | rfl | rfl <;> rfl) (of_decide_eq_true rfl) (of_decide_eq_true rfl) ?_).weak
   (simp only [psL,rowsP,addK,vcW,vZ,Int.reduceEq,Int.reduceNe,Int.reduceLT,Int.reduceLE,Nat.reduceEqDiff,Nat.reduceAdd,reduceIte,reduceCtorEq,Nat.reduceLT,Nat.reduceLeDiff,Nat.reduceShiftRight,Nat.reduceMod])
   repeat' first | exact RnB.agS rfl rfl rfl (.imm AV.nils rfl) | exact RnB.agS rfl rfl rfl (.virt 100 _ rfl rfl) | (with_reducible refine And.intro ?_ ?_)
   all_goals (repeat' first | exact trivial | (with_reducible first | exact RnB.fxB (ints_fxB _) | rfl | refine And.intro ?_ ?_) | (with_reducible (first | refine RnB.bb ?_ | refine RnB.nb ?_);simp only [vcW,vZ,Int.reduceEq,Int.reduceNe,Int.reduceLT,Int.reduceLE,Nat.reduceEqDiff,Nat.reduceAdd,reduceIte,reduceCtorEq,Nat.reduceLT,Nat.reduceLeDiff,Nat.reduceShiftRight,Nat.reduceMod]) | (with_reducible first | refine RnB.ii ?_ | refine RnB.app ?_) | (with_reducible refine RnB.fxB ?_;simp only [vcW,vZ,Int.reduceEq,Int.reduceNe,Int.reduceLT,Int.reduceLE,Nat.reduceEqDiff,Nat.reduceAdd,reduceIte,reduceCtorEq,Nat.reduceLT,Nat.reduceLeDiff,Nat.reduceShiftRight,Nat.reduceMod]) | omega)
   all_goals rfl
  ·refine W_rfCI (tt:=.mk) (k1:=200) (k2:=201) (k3:=202) 999 ⟨by decide,by decide,by decide⟩ rfl rfl rfl rfl (splitC 59) (by omega) (fun pre=>∃ l,rowsP pre=some l) ⟨[],rfl⟩ psS (fun pre r=>⟨rfl,rfl,rfl⟩) (fun pre r r'=>?_) rfl (fun pre x rest r hsp hI=>?_) (fun r hI=>?_)
   ·funext k
    unfold psS
    by_cases h:k=201
    ·subst h;simp [stOf,upd_app]
    ·simp only [stOf,upd_app,h,if_false]
   ·obtain ⟨R,hI⟩:=hI
    have hL:psL pre=R:=by unfold psL;rw [hI];rfl
    have hxm:x ∈ Lin.cut 59 s:=by rw [← hsp];simp
    have hxl:=Lin.cut_len x hxm
    have hll:=rowsP_len hI
    have hpl:pre.length≤(Lin.cut 59 s).length:=by rw [← hsp];simp
    have hP:=parse_s x (by omega)
    unfold prV at hP
    simp only [psE,psS,hL,vZ,Int.reduceEq,Int.reduceNe,Int.reduceLT,Int.reduceLE,Nat.reduceEqDiff,Nat.reduceAdd,reduceIte,reduceCtorEq,Nat.reduceLT,Nat.reduceLeDiff,Nat.reduceShiftRight,Nat.reduceMod]
    refine callS_of hP ?_
    cases hn:Lin.nums false 7 (Lin.cut 32 x) with
    | none =>
     have hr:rdS s=([],7):=by unfold rdS;rw [if_neg hbig,← hsp,rowsP_none hn]
     simp only [rfQI_n,rfQI_r,rfQI_x,hr,skyA,vZ,Int.reduceEq,Int.reduceNe,Int.reduceLT,Int.reduceLE,Nat.reduceEqDiff,Nat.reduceAdd,reduceIte,reduceCtorEq,Nat.reduceLT,Nat.reduceLeDiff,Nat.reduceShiftRight,Nat.reduceMod]
     rfl
    | some l =>
     have hnext:=rowsP_snoc hI hn
     have hL2:psL (pre ++ [x])=R ++ [l]:=by unfold psL;rw [hnext];rfl
     simp only [rfQI_n,rfQI_r,rfQI_x,skyL_length,vZ,Int.reduceEq,Int.reduceNe,Int.reduceLT,Int.reduceLE,Nat.reduceEqDiff,Nat.reduceAdd,reduceIte,reduceCtorEq,Nat.reduceLT,Nat.reduceLeDiff,Nat.reduceShiftRight,Nat.reduceMod]
     refine ⟨⟨by omega,by omega⟩,⟨_,hnext⟩,?_⟩
     rw [hL2,show (R ++ [l]).length=R.length+1 by simp,show skyL (R ++ [l])=skyL R ++ [.sl (ints l)] by simp [skyL]]
     refine weakXK [200,201,202] 196 15 rfl [(100,some 29)] (by intro k hk;simp at hk;rcases hk with rfl | rfl | rfl <;> rfl) (of_decide_eq_true rfl) (of_decide_eq_true rfl) ?_
     (simp only [vcW,vZ,Int.reduceEq,Int.reduceNe,Int.reduceLT,Int.reduceLE,Nat.reduceEqDiff,Nat.reduceAdd,reduceIte,reduceCtorEq,Nat.reduceLT,Nat.reduceLeDiff,Nat.reduceShiftRight,Nat.reduceMod])
     repeat' first | exact RnB.agS rfl rfl rfl (.imm AV.nils rfl) | exact RnB.agS rfl rfl rfl (.buf 29 100 _ rfl) | (with_reducible refine And.intro ?_ ?_)
     all_goals (repeat' first | exact trivial | (with_reducible first | exact RnB.fxB (ints_fxB _) | rfl | refine And.intro ?_ ?_) | (with_reducible (first | refine RnB.bb ?_ | refine RnB.nb ?_);simp only [vcW,vZ,Int.reduceEq,Int.reduceNe,Int.reduceLT,Int.reduceLE,Nat.reduceEqDiff,Nat.reduceAdd,reduceIte,reduceCtorEq,Nat.reduceLT,Nat.reduceLeDiff,Nat.reduceShiftRight,Nat.reduceMod]) | (with_reducible first | refine RnB.ii ?_ | refine RnB.app ?_) | (with_reducible refine RnB.fxB ?_;simp only [vcW,vZ,Int.reduceEq,Int.reduceNe,Int.reduceLT,Int.reduceLE,Nat.reduceEqDiff,Nat.reduceAdd,reduceIte,reduceCtorEq,Nat.reduceLT,Nat.reduceLeDiff,Nat.reduceShiftRight,Nat.reduceMod]) | omega)
     all_goals first | exact RnB.fxB (by rw [List.all_append,skyL_fxk];rfl) | trace_state
   ·obtain ⟨R,hI⟩:=hI
    have hL:psL (Lin.cut 59 s)=R:=by unfold psL;rw [hI];rfl
    have hll:=rowsP_len hI
    have hm:=rowsP_mem hI
    have hC:=CheckSky_s R (by omega) (fun l hl=>by
     obtain ⟨w,hw,hn⟩:=hm l hl
     have h1:=Lin.nums_len hn
     have h2:=Lin.cut_num 32 w
     have h3:=Lin.cut_len w hw
     omega)
    simp only [psE,psS,hL,vZ,Int.reduceEq,Int.reduceNe,Int.reduceLT,Int.reduceLE,Nat.reduceEqDiff,Nat.reduceAdd,reduceIte,reduceCtorEq,Nat.reduceLT,Nat.reduceLeDiff,Nat.reduceShiftRight,Nat.reduceMod]
    rw [borB_good _ _ _ _ _ (skyL_length R).symm (List.all_eq_true.1 (skyL_fxk R))]
    refine callS_of hC ?_
    by_cases he:(skyE R).2=0
    ·have hr:rdS s=(R,0):=by unfold rdS;rw [if_neg hbig,hI];simp [he]
     simp only [he,hr,skyA,vZ,Int.reduceEq,Int.reduceNe,Int.reduceLT,Int.reduceLE,Nat.reduceEqDiff,Nat.reduceAdd,reduceIte,reduceCtorEq,Nat.reduceLT,Nat.reduceLeDiff,Nat.reduceShiftRight,Nat.reduceMod]
     rw [borB_good _ _ _ _ _ (skyL_length R).symm (List.all_eq_true.1 (skyL_fxk R))]
    ·have hr:rdS s=([],(skyE R).2):=by unfold rdS;rw [if_neg hbig,hI];simp [he]
     simp only [he,hr,skyA,vZ,Int.reduceEq,Int.reduceNe,Int.reduceLT,Int.reduceLE,Nat.reduceEqDiff,Nat.reduceAdd,reduceIte,reduceCtorEq,Nat.reduceLT,Nat.reduceLeDiff,Nat.reduceShiftRight,Nat.reduceMod]
     rfl
end Go.Proofs.YtpaklfjlbocfcaaGreatDoor

/- Plain laws: a rule's and a sky's string are read again. By an AI agent;nothing here is trusted. -/
namespace Go.Proofs.YtpaklfjlbocfcaaGreatDoor
open Go.Av

theorem seven {n:Int} (h:0≤n∧n≤1000000):(Lib.decDigits n.natAbs).length≤7:=Lin.dec_len_lt (by decide) (by omega)
theorem words_read (n:Int) (l:List Int) (h:∀ m ∈ n :: l,0≤m∧m≤1000000):Lin.nums false 7 (Lin.cut 32 (Lib.join ((n :: l).map Lib.itoa) [32]))=some (n :: l):=by
 rw [Lin.cut_words (by decide) (by decide)]
 exact Lin.nums_itoa fun m hm=>⟨.inr (h m hm).1,seven (h m hm)⟩
theorem mem_join {c:UInt8} {x:UInt8}:∀ {ws:List (List UInt8)},x ∈ Lib.join ws [c]→x=c∨∃ w ∈ ws,x ∈ w
 | [],h=>by simp [Lib.join] at h
 | w :: ws,h=>by
  rw [Lib.join_cons,List.mem_append] at h
  rcases h with h | h
  ·exact .inr ⟨w,by simp,h⟩
  ·simp only [Lib.joinTail,List.mem_flatten,List.mem_map] at h
   obtain ⟨_,⟨v,hv,rfl⟩,hx⟩:=h
   simp at hx
   rcases hx with hx | hx
   ·exact .inl hx
   ·exact .inr ⟨v,by simp [hv],hx⟩
theorem row_no (l:List Int):∀ x ∈ rowS l,x ≠ 59:=by
 intro x hx
 rcases mem_join hx with rfl | ⟨w,hw,hxw⟩
 ·decide
 ·obtain ⟨n,_,rfl⟩:=List.mem_map.1 hw
  exact Lin.itoa_no n (by decide) (by decide) x hxw
theorem skyI_okK:∀ (s:List (List Int)) (i:Nat),(skyI s i).2=0→∀ l ∈ s,sensE l=0
 | [],_,_,l,hl=>by cases hl
 | a :: s,i,h,l,hl=>by
  unfold skyI at h
  split at h
  ·rename_i h1;exact absurd h h1
  ·rename_i h1
   rcases List.mem_cons.1 hl with rfl | hl
   ·simpa using h1
   ·exact skyI_okK s (i+1) h l hl
theorem sensE_okK {l:List Int} (h:sensE l=0):l ≠ []∧l.length≤6∧∀ n ∈ l,0≤n∧n≤1000:=by
 unfold sensE at h
 split at h
 ·cases h
 ·rename_i h1
  split at h
  ·cases h
  ·rename_i h2
   split at h
   ·rename_i h3
    refine ⟨fun hc=>h1 (by simp [hc]),by omega,fun n hn=>?_⟩
    simpa using List.all_eq_true.1 h3 n hn
   ·cases h
theorem rows_read:∀ (s:List (List Int)),(∀ l ∈ s,sensE l=0)→rowsP (s.map rowS)=some s
 | [],_=>rfl
 | l :: s,h=>by
  obtain ⟨h1,_,h3⟩:=sensE_okK (h l (by simp))
  obtain ⟨n,r,rfl⟩:∃ n r,l=n :: r:=by cases l with | nil=>exact absurd rfl h1 | cons n r=>exact ⟨n,r,rfl⟩
  have hw:=words_read n r fun m hm=>by have:=h3 m hm;omega
  rw [List.map_cons,rowsP,rows_read s fun x hx=>h x (by simp [hx])]
  unfold rowS
  rw [hw]
theorem sky_read (s:List (List Int)) (h:(skyE s).2=0):rdS (skyS s)=(s,0):=by
 have hs:s ≠ []∧s.length≤6∧∀ l ∈ s,sensE l=0:=by
  unfold skyE at h
  split at h
  ·cases h
  ·rename_i h1
   split at h
   ·cases h
   ·exact ⟨fun hc=>h1 (by simp [hc]),by omega,skyI_okK s 0 h⟩
 obtain ⟨h1,h2,h3⟩:=hs
 have hc:Lin.cut 59 (skyS s)=s.map rowS:=by
  cases s with
  | nil=>exact absurd rfl h1
  | cons a r =>
   unfold skyS
   rw [List.map_cons]
   refine Lin.cut_join 59 _ _ fun v hv x hx=>?_
   rw [← List.map_cons] at hv
   obtain ⟨l,_,rfl⟩:=List.mem_map.1 hv
   exact row_no l x hx
 have hl:(skyS s).length≤60000:=by
  refine Nat.le_trans (join_le 59 200 _ fun w hw=>?_) (by simp;omega)
  obtain ⟨l,hm,rfl⟩:=List.mem_map.1 hw
  obtain ⟨_,g2,g3⟩:=sensE_okK (h3 l hm)
  have:=rowS_le (l:=l) fun n hn=>by have:=g3 n hn;unfold I64;omega
  omega
 unfold rdS
 rw [if_neg (by omega),hc,rows_read s h3]
 simp [h]
end Go.Proofs.YtpaklfjlbocfcaaGreatDoor

/- Contracts: the reference's string of a rule. By an AI agent;nothing here is trusted. -/
namespace Go.Proofs.YtpaklfjlbocfcaaGreatDoor
open Go.Av

end Go.Proofs.YtpaklfjlbocfcaaGreatDoor

/- Contracts: the reference's numbers,rules and skies of strings. By an AI agent;nothing here is trusted. -/
namespace Go.Proofs.YtpaklfjlbocfcaaGreatDoor
open Go.Av

end Go.Proofs.YtpaklfjlbocfcaaGreatDoor

/- Contracts: lists of lists that are equal,the same sky. By an AI agent;nothing here is trusted. -/
namespace Go.Proofs.YtpaklfjlbocfcaaGreatDoor
open Go.Av

theorem Lists_s (a b:List (List Int)) (ha:a.length≤1000000000) (hl:∀ l ∈ a,l.length≤1000000000):Sound Tryz.prog 85 [.sl (skyL a),.sl (skyL b)] (.bool (decide (a=b))):=by
 refine sound_W f_base_Lists (Nat.le_of_ble_eq_true rfl) ?_
 by_cases hab:a.length=b.length
 ·have hab':(a.length:Int)=b.length:=by omega
  simp only [c_base_Lists,skyL_length,hab',vZ,Int.reduceEq,Int.reduceNe,Int.reduceLT,Int.reduceLE,Nat.reduceEqDiff,Nat.reduceAdd,reduceIte,reduceCtorEq,Nat.reduceLT,Nat.reduceLeDiff,Nat.reduceShiftRight,Nat.reduceMod]
  refine W_loop (t:=.mk) (α:=PSigma fun i:Nat=>i≤a.length∧a.take i=b.take i) (fun ⟨i,_⟩=>(envOf [(0,.sl (skyL a)),(1,.sl (skyL b)),(5,.int .i64 i)],stOf [])) (fun p=>a.length - p.1) ⟨0,Nat.zero_le _,rfl⟩ ?_ (fun ⟨i,hi,hn⟩=>?_)
  ·refine weakX [] (of_decide_eq_true rfl) (of_decide_eq_true rfl) ?_
   (simp only [vcW,vZ,Int.reduceEq,Int.reduceNe,Int.reduceLT,Int.reduceLE,Nat.reduceEqDiff,Nat.reduceAdd,reduceIte,reduceCtorEq,Nat.reduceLT,Nat.reduceLeDiff,Nat.reduceShiftRight,Nat.reduceMod])
   (repeat' first | exact trivial | (with_reducible first | exact RnB.fxB (ints_fxB _) | rfl | refine And.intro ?_ ?_) | (with_reducible (first | refine RnB.bb ?_ | refine RnB.nb ?_);simp only [vcW,vZ,Int.reduceEq,Int.reduceNe,Int.reduceLT,Int.reduceLE,Nat.reduceEqDiff,Nat.reduceAdd,reduceIte,reduceCtorEq,Nat.reduceLT,Nat.reduceLeDiff,Nat.reduceShiftRight,Nat.reduceMod]) | (with_reducible first | refine RnB.ii ?_ | refine RnB.app ?_) | (with_reducible refine RnB.fxB ?_;simp only [vcW,vZ,Int.reduceEq,Int.reduceNe,Int.reduceLT,Int.reduceLE,Nat.reduceEqDiff,Nat.reduceAdd,reduceIte,reduceCtorEq,Nat.reduceLT,Nat.reduceLeDiff,Nat.reduceShiftRight,Nat.reduceMod]) | omega)
   all_goals first | rfl | trace_state
  ·dsimp only at hi hn ⊢
   by_cases h':i<a.length
   ·have hc1:(i:Int)<b.length:=by omega
    have hb:i<b.length:=by omega
    have hg:=skyL_get a i h'
    have hg2:=skyL_get b i hb
    have hI:=Ints_s a[i] b[i] (hl _ (List.getElem_mem h'))
    simp only [hc1,hg,hg2,skyL_length,hab',vZ,Int.reduceEq,Int.reduceNe,Int.reduceLT,Int.reduceLE,Nat.reduceEqDiff,Nat.reduceAdd,reduceIte,reduceCtorEq,Nat.reduceLT,Nat.reduceLeDiff,Nat.reduceShiftRight,Nat.reduceMod]
    refine ⟨by omega,by omega,callS_of hI ?_⟩
    by_cases he:a[i]=b[i]
    ·simp only [he,vZ,Int.reduceEq,Int.reduceNe,Int.reduceLT,Int.reduceLE,Nat.reduceEqDiff,Nat.reduceAdd,reduceIte,reduceCtorEq,Nat.reduceLT,Nat.reduceLeDiff,Nat.reduceShiftRight,Nat.reduceMod]
     refine ⟨by unfold I64;omega,⟨i+1,h',by rw [List.take_succ_eq_append_getElem h',List.take_succ_eq_append_getElem hb,hn,he]⟩,by (try simp only);omega,?_⟩
     refine weakX [] (of_decide_eq_true rfl) (of_decide_eq_true rfl) ?_
     (simp only [vcW,vZ,Int.reduceEq,Int.reduceNe,Int.reduceLT,Int.reduceLE,Nat.reduceEqDiff,Nat.reduceAdd,reduceIte,reduceCtorEq,Nat.reduceLT,Nat.reduceLeDiff,Nat.reduceShiftRight,Nat.reduceMod])
     (repeat' first | exact trivial | (with_reducible first | exact RnB.fxB (ints_fxB _) | rfl | refine And.intro ?_ ?_) | (with_reducible (first | refine RnB.bb ?_ | refine RnB.nb ?_);simp only [vcW,vZ,Int.reduceEq,Int.reduceNe,Int.reduceLT,Int.reduceLE,Nat.reduceEqDiff,Nat.reduceAdd,reduceIte,reduceCtorEq,Nat.reduceLT,Nat.reduceLeDiff,Nat.reduceShiftRight,Nat.reduceMod]) | (with_reducible first | refine RnB.ii ?_ | refine RnB.app ?_) | (with_reducible refine RnB.fxB ?_;simp only [vcW,vZ,Int.reduceEq,Int.reduceNe,Int.reduceLT,Int.reduceLE,Nat.reduceEqDiff,Nat.reduceAdd,reduceIte,reduceCtorEq,Nat.reduceLT,Nat.reduceLeDiff,Nat.reduceShiftRight,Nat.reduceMod]) | omega)
     all_goals first | rfl | trace_state
    ·have hne:¬ a=b:=fun h=>he (by subst h;rfl)
     simp only [he,hne,vZ,Int.reduceEq,Int.reduceNe,Int.reduceLT,Int.reduceLE,Nat.reduceEqDiff,Nat.reduceAdd,reduceIte,reduceCtorEq,Nat.reduceLT,Nat.reduceLeDiff,Nat.reduceShiftRight,Nat.reduceMod]
   ·have hil:i=a.length:=by omega
    subst hil
    have hc1:¬ (a.length:Int)<a.length:=by omega
    have he:a=b:=by rw [List.take_length] at hn;rw [hn,hab,List.take_length]
    simp only [hc1,skyL_length,vZ,Int.reduceEq,Int.reduceNe,Int.reduceLT,Int.reduceLE,Nat.reduceEqDiff,Nat.reduceAdd,reduceIte,reduceCtorEq,Nat.reduceLT,Nat.reduceLeDiff,Nat.reduceShiftRight,Nat.reduceMod]
    simp [he]
 ·have hab':¬ (a.length:Int)=b.length:=by omega
  have hne:¬ a=b:=fun h=>hab (by rw [h])
  simp only [c_base_Lists,skyL_length,hab',hne,vZ,Int.reduceEq,Int.reduceNe,Int.reduceLT,Int.reduceLE,Nat.reduceEqDiff,Nat.reduceAdd,reduceIte,reduceCtorEq,Nat.reduceLT,Nat.reduceLeDiff,Nat.reduceShiftRight,Nat.reduceMod]
theorem SameSky_s (a b:List (List Int)) (ha:a.length≤1000000000) (hl:∀ l ∈ a,l.length≤1000000000):Sound Tryz.prog 18 [skyA a,skyA b] (.bool (decide (a=b))):=by
 refine sound_W f_ref08_SameSky (Nat.le_of_ble_eq_true rfl) ?_
 simp only [c_ref08_SameSky,skyA,vZ,Int.reduceEq,Int.reduceNe,Int.reduceLT,Int.reduceLE,Nat.reduceEqDiff,Nat.reduceAdd,reduceIte,reduceCtorEq,Nat.reduceLT,Nat.reduceLeDiff,Nat.reduceShiftRight,Nat.reduceMod]
 refine callS_of (Lists_s a b ha hl) ?_
 simp only [vZ,Int.reduceEq,Int.reduceNe,Int.reduceLT,Int.reduceLE,Nat.reduceEqDiff,Nat.reduceAdd,reduceIte,reduceCtorEq,Nat.reduceLT,Nat.reduceLeDiff,Nat.reduceShiftRight,Nat.reduceMod]
end Go.Proofs.YtpaklfjlbocfcaaGreatDoor

/- A star collapses: the sums of choices,the rise,the ring. By an AI agent;nothing here is trusted. -/
namespace Go.Proofs.YtpaklfjlbocfcaaGreatDoor
open Go.Av

def pickN (l ch:List Int) (i:Nat):Nat:=if i<ch.length then (ch.getD i 0 % l.length).toNat else 0
def pickV (l ch:List Int) (i:Nat):Int:=l.getD (pickN l ch i) 0
def caseTo (s:List (List Int)) (ch:List Int) (f:Nat):Nat→Int
 | 0=>0
 | j+1=>caseTo s ch f j+pickV (s.getD j []) ch (f+j)
theorem pickN_lt {l:List Int} (h:0<l.length) (ch:List Int) (i:Nat):pickN l ch i<l.length:=by
 unfold pickN
 split
 ·have h1:=Int.emod_nonneg (ch.getD i 0) (show (l.length:Int) ≠ 0 by omega)
  have h2:=Int.emod_lt_of_pos (ch.getD i 0) (show (0:Int)<l.length by omega)
  omega
 ·exact h
theorem pickV_eq {l:List Int} (h:0<l.length) (ch:List Int) (i:Nat):l[pickN l ch i]?=some (pickV l ch i):=by
 unfold pickV
 rw [List.getD,List.getElem?_eq_getElem (pickN_lt h ch i)];rfl
theorem pickV_mem {l:List Int} (h:0<l.length) (ch:List Int) (i:Nat):pickV l ch i ∈ l:=List.mem_of_getElem? (pickV_eq h ch i)
theorem caseTo_bd {s:List (List Int)} (hs:skyOk s) (h60:∀ l ∈ s,∀ c ∈ l,0≤c∧c≤60) (ch:List Int) (f:Nat):∀ j,j≤s.length→qTo s j≤caseTo s ch f j∧caseTo s ch f j≤60 * j
 | 0,_=>by simp [qTo,caseTo]
 | j+1,h=>by
  have ih:=caseTo_bd hs h60 ch f j (by omega)
  have hj:j<s.length:=h
  have hg:s.getD j []=s[j]:=by rw [List.getD,List.getElem?_eq_getElem hj];rfl
  have hl:=(sensE_ok (hs.2 _ (List.getElem_mem hj))).1
  have hm:=pickV_mem hl ch (f+j)
  have h1:=mnL_le hm
  have h2:=h60 _ (List.getElem_mem hj) _ hm
  rw [qTo_succ s j hj,caseTo,hg]
  omega
def caseS (s:List (List Int)) (ch:List Int) (f:Nat):Int:=caseTo s ch f s.length
theorem watchCase_s (s:List (List Int)) (hs:skyOk s) (h60:∀ l ∈ s,∀ c ∈ l,0≤c∧c≤60) (ch:List Int) (hch:∀ x ∈ ch,I64 x) (hcl:ch.length≤1000) (f:Nat) (hf:f≤1000) :
  Sound Tryz.prog 46 [skyA s,.sl (ints ch),.int .i64 f] (.int .i64 (caseS s ch f)):=by
 refine sound_W f_top_watchCase (Nat.le_of_ble_eq_true rfl) ?_
 have h6:=hs.1.2
 have hB:=caseTo_bd hs h60 ch f
 have hQ:=qTo_bound hs
 simp only [c_top_watchCase,skyA,vZ,Int.reduceEq,Int.reduceNe,Int.reduceLT,Int.reduceLE,Nat.reduceEqDiff,Nat.reduceAdd,reduceIte,reduceCtorEq,Nat.reduceLT,Nat.reduceLeDiff,Nat.reduceShiftRight,Nat.reduceMod]
 refine W_loop (t:=.mk) (α:=PSigma fun i:Nat=>i≤s.length) (fun ⟨i,_⟩=>(envOf [(1,.sl (ints ch)),(2,.int .i64 f),(3,.ptr 3 0 0),(7,.int .i64 (caseTo s ch f i)),(8,.int .i64 i)],stOf [(3,⟨26,1,[.agg [.sl (skyL s)]]⟩)])) (fun p=>s.length - p.1) ⟨0,Nat.zero_le _⟩ ?_ (fun ⟨i,hi⟩=>?_)
 ·refine weakX [] (of_decide_eq_true rfl) (of_decide_eq_true rfl) ?_
  (simp only [vcW,vZ,Int.reduceEq,Int.reduceNe,Int.reduceLT,Int.reduceLE,Nat.reduceEqDiff,Nat.reduceAdd,reduceIte,reduceCtorEq,Nat.reduceLT,Nat.reduceLeDiff,Nat.reduceShiftRight,Nat.reduceMod])
  (repeat' first | exact trivial | (with_reducible first | exact RnB.fxB (ints_fxB _) | rfl | refine And.intro ?_ ?_) | (with_reducible (first | refine RnB.bb ?_ | refine RnB.nb ?_);simp only [vcW,vZ,Int.reduceEq,Int.reduceNe,Int.reduceLT,Int.reduceLE,Nat.reduceEqDiff,Nat.reduceAdd,reduceIte,reduceCtorEq,Nat.reduceLT,Nat.reduceLeDiff,Nat.reduceShiftRight,Nat.reduceMod]) | (with_reducible first | refine RnB.ii ?_ | refine RnB.app ?_) | (with_reducible refine RnB.fxB ?_;simp only [vcW,vZ,Int.reduceEq,Int.reduceNe,Int.reduceLT,Int.reduceLE,Nat.reduceEqDiff,Nat.reduceAdd,reduceIte,reduceCtorEq,Nat.reduceLT,Nat.reduceLeDiff,Nat.reduceShiftRight,Nat.reduceMod]) | omega)
  all_goals first | rfl | trace_state
 ·dsimp only at hi ⊢
  have hBi:=hB i hi
  have hQi:=hQ i hi
  by_cases h':i<s.length
  ·have hc1:(i:Int)<s.length:=by omega
   have hg:=skyL_get s i h'
   have hgd:s.getD i []=s[i]:=by rw [List.getD,List.getElem?_eq_getElem h'];rfl
   have hl:=(sensE_ok (hs.2 _ (List.getElem_mem h')))
   have hBi1:=hB (i+1) h'
   have hQi1:=hQ (i+1) h'
   have hsucc:caseTo s ch f (i+1)=caseTo s ch f i+pickV s[i] ch (f+i):=by rw [caseTo,hgd]
   have hpl:=pickN_lt hl.1 ch (f+i)
   have hpv:(ints s[i])[pickN s[i] ch (f+i)]?=some (.int .i64 (pickV s[i] ch (f+i))):=by
    unfold ints;rw [List.getElem?_map,pickV_eq hl.1];rfl
   by_cases hc:f+i<ch.length
   ·have hc2:(f:Int)+i<ch.length:=by omega
    have hgc:(ints ch)[((f:Int)+i).toNat]?=some (.int .i64 (ch.getD (f+i) 0)):=by
     rw [show ((f:Int)+i).toNat=f+i by omega,ints_get ch (f+i) hc,List.getD,List.getElem?_eq_getElem hc];rfl
    have hgI:I64 (ch.getD (f+i) 0):=by
     rw [List.getD,List.getElem?_eq_getElem hc];exact hch _ (List.getElem_mem hc)
    have hM:=Mod_s (ch.getD (f+i) 0) s[i].length hgI (by unfold I64;omega) (by omega)
    have hpe:(ch.getD (f+i) 0 % (s[i].length:Int)).toNat=pickN s[i] ch (f+i):=by unfold pickN;rw [if_pos hc]
    have h1:=Int.emod_nonneg (ch.getD (f+i) 0) (show (s[i].length:Int) ≠ 0 by omega)
    simp only [hc1,hc2,hg,hgc,skyL_length,ints_length,vZ,Int.reduceEq,Int.reduceNe,Int.reduceLT,Int.reduceLE,Nat.reduceEqDiff,Nat.reduceAdd,reduceIte,reduceCtorEq,Nat.reduceLT,Nat.reduceLeDiff,Nat.reduceShiftRight,Nat.reduceMod]
    refine ⟨by unfold I64;omega,by unfold I64;omega,by omega,by omega,callS_of hM ?_⟩
    simp only [hpe,hpv,hg,vZ,Int.reduceEq,Int.reduceNe,Int.reduceLT,Int.reduceLE,Nat.reduceEqDiff,Nat.reduceAdd,reduceIte,reduceCtorEq,Nat.reduceLT,Nat.reduceLeDiff,Nat.reduceShiftRight,Nat.reduceMod]
    refine ⟨by omega,h1,by unfold I64;omega,by unfold I64;omega,⟨i+1,h'⟩,by (try simp only);omega,?_⟩
    rw [hsucc]
    refine weakX [] (of_decide_eq_true rfl) (of_decide_eq_true rfl) ?_
    (simp only [vcW,vZ,Int.reduceEq,Int.reduceNe,Int.reduceLT,Int.reduceLE,Nat.reduceEqDiff,Nat.reduceAdd,reduceIte,reduceCtorEq,Nat.reduceLT,Nat.reduceLeDiff,Nat.reduceShiftRight,Nat.reduceMod])
    (repeat' first | exact trivial | (with_reducible first | exact RnB.fxB (ints_fxB _) | rfl | refine And.intro ?_ ?_) | (with_reducible (first | refine RnB.bb ?_ | refine RnB.nb ?_);simp only [vcW,vZ,Int.reduceEq,Int.reduceNe,Int.reduceLT,Int.reduceLE,Nat.reduceEqDiff,Nat.reduceAdd,reduceIte,reduceCtorEq,Nat.reduceLT,Nat.reduceLeDiff,Nat.reduceShiftRight,Nat.reduceMod]) | (with_reducible first | refine RnB.ii ?_ | refine RnB.app ?_) | (with_reducible refine RnB.fxB ?_;simp only [vcW,vZ,Int.reduceEq,Int.reduceNe,Int.reduceLT,Int.reduceLE,Nat.reduceEqDiff,Nat.reduceAdd,reduceIte,reduceCtorEq,Nat.reduceLT,Nat.reduceLeDiff,Nat.reduceShiftRight,Nat.reduceMod]) | omega)
    all_goals first | rfl | trace_state
   ·have hc2:¬ (f:Int)+i<ch.length:=by omega
    have hpe:(0:Int).toNat=pickN s[i] ch (f+i):=by unfold pickN;rw [if_neg hc];rfl
    simp only [hc1,hc2,hg,skyL_length,ints_length,hpe,hpv,vZ,Int.reduceEq,Int.reduceNe,Int.reduceLT,Int.reduceLE,Nat.reduceEqDiff,Nat.reduceAdd,reduceIte,reduceCtorEq,Nat.reduceLT,Nat.reduceLeDiff,Nat.reduceShiftRight,Nat.reduceMod]
    refine ⟨by unfold I64;omega,by omega,by unfold I64;omega,by unfold I64;omega,⟨i+1,h'⟩,by (try simp only);omega,?_⟩
    rw [hsucc]
    refine weakX [] (of_decide_eq_true rfl) (of_decide_eq_true rfl) ?_
    (simp only [vcW,vZ,Int.reduceEq,Int.reduceNe,Int.reduceLT,Int.reduceLE,Nat.reduceEqDiff,Nat.reduceAdd,reduceIte,reduceCtorEq,Nat.reduceLT,Nat.reduceLeDiff,Nat.reduceShiftRight,Nat.reduceMod])
    (repeat' first | exact trivial | (with_reducible first | exact RnB.fxB (ints_fxB _) | rfl | refine And.intro ?_ ?_) | (with_reducible (first | refine RnB.bb ?_ | refine RnB.nb ?_);simp only [vcW,vZ,Int.reduceEq,Int.reduceNe,Int.reduceLT,Int.reduceLE,Nat.reduceEqDiff,Nat.reduceAdd,reduceIte,reduceCtorEq,Nat.reduceLT,Nat.reduceLeDiff,Nat.reduceShiftRight,Nat.reduceMod]) | (with_reducible first | refine RnB.ii ?_ | refine RnB.app ?_) | (with_reducible refine RnB.fxB ?_;simp only [vcW,vZ,Int.reduceEq,Int.reduceNe,Int.reduceLT,Int.reduceLE,Nat.reduceEqDiff,Nat.reduceAdd,reduceIte,reduceCtorEq,Nat.reduceLT,Nat.reduceLeDiff,Nat.reduceShiftRight,Nat.reduceMod]) | omega)
    all_goals first | rfl | trace_state
  ·have hil:i=s.length:=by omega
   subst hil
   have hc1:¬ (s.length:Int)<s.length:=by omega
   simp only [hc1,skyL_length,caseS,vZ,Int.reduceEq,Int.reduceNe,Int.reduceLT,Int.reduceLE,Nat.reduceEqDiff,Nat.reduceAdd,reduceIte,reduceCtorEq,Nat.reduceLT,Nat.reduceLeDiff,Nat.reduceShiftRight,Nat.reduceMod]
theorem low_keeps {num den per:Int} (hn:0≤num) (hd:0<den) (h:1000 * num≤per * den):1000 * lowN num den≤per * lowD num den:=by
 have hg:(0:Int)<Int.gcd num den:=by
  have:0<Int.gcd num den:=Int.gcd_pos_iff.2 (.inr (by omega))
  omega
 have hN:lowN num den * Int.gcd num den=num:=by
  unfold lowN lowG;rw [if_neg (by omega)];exact Int.tdiv_mul_cancel (Int.gcd_dvd_left ..)
 have hD:lowD num den * Int.gcd num den=den:=by
  unfold lowD lowG;rw [if_neg (by omega)];exact Int.tdiv_mul_cancel (Int.gcd_dvd_right ..)
 generalize lowN num den=a at *
 generalize lowD num den=b at *
 generalize (Int.gcd num den:Int)=g at *
 refine Int.le_of_mul_le_mul_right ?_ hg
 rw [Int.mul_assoc,Int.mul_assoc,hN,hD];exact h
theorem excess_last (r:Rule) (l:List Int) (B:Nat) (hB:r.window=B) (h:B≤l.length) (h0:0<l.length):excess r l (l.length - 1)=(l.drop (l.length - B)).sum - B * r.mean:=by
 unfold excess preSum
 rw [show l.length - 1+1=l.length by omega,hB,List.take_length]
 have h1:l.sum=(l.take (l.length - B)).sum+(l.drop (l.length - B)).sum:=by
  conv=>lhs;rw [← List.take_append_drop (l.length - B) l]
  rw [List.sum_append]
 have h2:((B:Int)).toNat=B:=rfl
 rw [h2,h1]
 have h3:((l.length - B:Nat):Int)=l.length - B:=by omega
 rw [h3,Int.sub_mul]
 omega
theorem mem_alarms (r:Rule) (l:List Int) (k:Nat) (hk:k<l.length) (hw:r.window.toNat≤k+1):(k:Int) ∈ alarmsL r (wins r l) ↔ isAlarm r (excess r l k):=by
 unfold alarmsL wins winsTo
 simp only [List.mem_map,List.mem_filter,List.mem_range,decide_eq_true_eq]
 constructor
 ·rintro ⟨p,⟨⟨b,⟨hb1,hb2⟩,rfl⟩,hp⟩,he⟩
  have:b=k:=Int.natCast_inj.1 (by simpa using he)
  subst this;exact hp
 ·intro h
  exact ⟨(k,excess r l k),⟨⟨k,⟨hk,hw⟩,rfl⟩,h⟩,rfl⟩
theorem alarm_lim0 {r:Rule} (h:r.limit=0) (x:Int):isAlarm r x ↔ 0<x:=by
 unfold isAlarm
 rw [h]
 constructor
 ·exact fun h=>h.1
 ·intro hx
  refine ⟨hx,?_⟩
  have:=Int.mul_pos (Int.mul_pos (show (0:Int)<100 by omega) hx) hx
  simpa using this
theorem frz_one (r:Ring) (n a:Int):frz r n [a]=[(r.lo a,r.hi n a)]:=rfl
theorem lost_none {r:Ring} {n:Nat} {a:Int} (h1:r.lo a≤a - r.before) (h2:a≤r.hi n a):lostL r n [a]=[]:=by
 refine List.eq_nil_iff_forall_not_mem.2 fun x hx=>?_
 unfold lostL at hx
 rw [lostTo_mem] at hx
 obtain ⟨_,hx⟩:=hx
 rw [frz_one] at hx
 simp [asked,hasF] at hx
 omega
def oEndN (t ty sz:Nat) (es:List AV):Exit→Env→Store→Prop:=fun x e s=>(x=.normal∨x=.ret)∧ownV e s t ty sz es
theorem oEndN_n (t ty sz:Nat) (es:List AV) (e:Env) (s:Store):oEndN t ty sz es .normal e s=ownV e s t ty sz es:=propext ⟨fun h=>h.2,fun h=>⟨.inl rfl,h⟩⟩
theorem oEndN_r (t ty sz:Nat) (es:List AV) (e:Env) (s:Store):oEndN t ty sz es .ret e s=ownV e s t ty sz es:=propext ⟨fun h=>h.2,fun h=>⟨.inr rfl,h⟩⟩
theorem soundO_N {P:Program} {f:FuncId} {nt np t:Nat} {m:MC} (hF:cFun P f=some (nt,np,m,[(t,none)])) {args:List AV} (hla:args.length≤nt) {ty sz:Nat} {es:List AV} (hsz:0<sz)
  (h:W P nt m (oEndN t ty sz es) (argE args) noStore .mk):SoundO P f args ty sz es:=soundO_of hF hla hsz (W_sound h)
theorem CopyInts_o (l:List Int) (hl:l.length≤1000000000):SoundO Tryz.prog 49 [.sl (ints l)] 3 1 (ints l):=by
 refine soundO_N f_base_CopyInts (Nat.le_of_ble_eq_true rfl) (by decide) ?_
 have hm:=maxLen_big
 simp only [c_base_CopyInts,oEndN_n,oEndN_r,vZ,Int.reduceEq,Int.reduceNe,Int.reduceLT,Int.reduceLE,Nat.reduceEqDiff,Nat.reduceAdd,reduceIte,reduceCtorEq,Nat.reduceLT,Nat.reduceLeDiff,Nat.reduceShiftRight,Nat.reduceMod]
 refine ⟨newsOk_ints l,⟨by omega,by omega⟩,5,by simp [upd,ints_length],by simp [upd],List.all_eq_true.2 fun x hx=>?_⟩
 obtain ⟨n,_,rfl⟩:=List.mem_map.1 hx
 rfl
theorem usedL_bufN {s:Store} {k len ty sz:Nat} {es rest:List AV} (hs:s k=some (some ⟨ty,sz,es⟩)) (he:(es.take len).all imm=true) (hr:rest.all imm=true):usedL true s (refsL s 5 (.buf k len :: rest)):=by
 intro _ j hj
 have h1:refsL s 5 (.buf k len :: rest)=[k]:=by
  have h2:refsL s 5 (.buf k len :: rest)=refs s 5 (.buf k len) ++ refsL s 5 rest:=rfl
  rw [h2,refsL_imm s 5 rest hr,refs_buf,hs,List.append_nil]
  unfold refsK
  simp only [he,if_true]
 rw [h1,List.mem_singleton] at hj
 rw [hj,hs];simp

theorem ints_scal (l:List Int):(scalE (ints l) && (ints l).all imm)=true:=by
 rw [Bool.and_eq_true]
 refine ⟨List.all_eq_true.2 fun x hx=>?_,List.all_eq_true.2 fun x hx=>?_⟩
 ·obtain ⟨n,_,rfl⟩:=List.mem_map.1 hx;rfl
 ·obtain ⟨n,_,rfl⟩:=List.mem_map.1 hx;rfl
theorem ints_immN (l:List Int) (n:Nat):((ints l).take n).all imm=true:=List.all_eq_true.2 fun x hx=>by
 obtain ⟨n,_,rfl⟩:=List.mem_map.1 (List.mem_of_mem_take hx);rfl
theorem tk_sliceN (g:Option (Nat × Bool)) (d:Option Nat) (b:Bool) (sz:Nat) (x lo:MX) (e:Env):tkM ⟨g,d,.slice b sz x (some lo) none⟩ e=some (refs1 (x.ev e) ++ refs1 (lo.ev e)):=by simp [tkM,tk,pureOp,xsOf,allocs]
def cntN (s:List (List Int)) (ch:List Int) (n:Int) (Q i:Nat):Int:=caseS s ch (i * s.length)+(if Q≤i then n else 0)
def cntL (s:List (List Int)) (ch:List Int) (n:Int) (Q b:Nat):List Int:=(List.range b).map (cntN s ch n Q)
def sumL (s:List (List Int)) (ch:List Int) (n:Int) (Q b:Nat):Int:=((cntL s ch n Q b).drop Q).sum
theorem cntL_len (s:List (List Int)) (ch:List Int) (n:Int) (Q b:Nat):(cntL s ch n Q b).length=b:=by simp [cntL]
theorem cntL_succ (s:List (List Int)) (ch:List Int) (n:Int) (Q b:Nat):cntL s ch n Q (b+1)=cntL s ch n Q b ++ [cntN s ch n Q b]:=by simp [cntL,List.range_succ]
theorem sumL_succ (s:List (List Int)) (ch:List Int) (n:Int) (Q b:Nat):sumL s ch n Q (b+1)=sumL s ch n Q b+(if Q≤b then cntN s ch n Q b else 0):=by
 unfold sumL
 rw [cntL_succ]
 by_cases h:Q≤b
 ·rw [if_pos h,List.drop_append_of_le_length (by rw [cntL_len];exact h),List.sum_append];simp
 ·rw [if_neg h,List.drop_eq_nil_of_le (by rw [List.length_append,cntL_len];simp;omega),List.drop_eq_nil_of_le (by rw [cntL_len];omega)];simp
theorem caseS_bd {s:List (List Int)} (hs:skyOk s) (h4:s.length≤4) (h60:∀ l ∈ s,∀ c ∈ l,0≤c∧c≤60) (ch:List Int) (f:Nat):qS s≤caseS s ch f∧caseS s ch f≤240∧0≤caseS s ch f:=by
 have h:=caseTo_bd hs h60 ch f s.length (Nat.le_refl _)
 have hq:=qTo_bound hs s.length (Nat.le_refl _)
 unfold caseS qS
 omega
theorem cntN_bd {s:List (List Int)} (hs:skyOk s) (h4:s.length≤4) (h60:∀ l ∈ s,∀ c ∈ l,0≤c∧c≤60) (ch:List Int) {n:Int} (hn:0≤n∧n≤100000) (Q i:Nat):0≤cntN s ch n Q i∧cntN s ch n Q i≤100240∧(Q≤i→qS s+n≤cntN s ch n Q i):=by
 have h:=caseS_bd hs h4 h60 ch (i * s.length)
 unfold cntN
 split <;> omega
theorem sumL_bd {s:List (List Int)} (hs:skyOk s) (h4:s.length≤4) (h60:∀ l ∈ s,∀ c ∈ l,0≤c∧c≤60) (ch:List Int) {n:Int} (hn:0≤n∧n≤100000) (Q:Nat):∀ k:Nat,(k:Int) * (qS s+n)≤sumL s ch n Q (Q+k)∧0≤sumL s ch n Q (Q+k)∧sumL s ch n Q (Q+k)≤100240 * k
 | 0=>by
  have:sumL s ch n Q (Q+0)=0:=by unfold sumL;rw [List.drop_eq_nil_of_le (by rw [cntL_len];omega)];rfl
  rw [this];simp
 | k+1=>by
  have ih:=sumL_bd hs h4 h60 ch hn Q k
  have hc:=cntN_bd hs h4 h60 ch hn Q (Q+k)
  have h3:=hc.2.2 (by omega)
  rw [show Q+(k+1)=(Q+k)+1 by omega,sumL_succ,if_pos (by omega)]
  have:((k+1:Nat):Int) * (qS s+n)=k * (qS s+n)+(qS s+n):=by rw [Int.natCast_add,Int.add_mul];simp
  rw [this]
  omega
theorem sumL_low (s:List (List Int)) (ch:List Int) (n:Int) (Q b:Nat) (h:b≤Q):sumL s ch n Q b=0:=by
 unfold sumL;rw [List.drop_eq_nil_of_le (by rw [cntL_len];omega)];rfl
def extL (s:List (List Int)) (ch cs:List Int) (i:Nat):List Int:=cs ++ (List.range i).map (caseS s ch)
theorem extL_len (s:List (List Int)) (ch cs:List Int) (i:Nat):(extL s ch cs i).length=cs.length+i:=by simp [extL]
theorem extL_succ (s:List (List Int)) (ch cs:List Int) (i:Nat):extL s ch cs (i+1)=extL s ch cs i ++ [caseS s ch i]:=by simp [extL,List.range_succ]
theorem extL_zero (s:List (List Int)) (ch cs:List Int):extL s ch cs 0=cs:=by simp [extL]
theorem rise_facts {b:Nat} {t q:Int} (hb:1≤b∧b≤3) (ht:0≤t∧t≤100000) (hq:0≤q):(0≤max 0 ((t+b - 1) / b - q)∧max 0 ((t+b - 1) / b - q)≤t)∧t≤b * (q+max 0 ((t+b - 1) / b - q)):=by
 obtain ⟨b1,b2⟩:=hb
 match b,b1,b2 with
 | 1,_,_=>simp only [Int.natCast_one];omega
 | 2,_,_=>simp only [show ((2:Nat):Int)=2 from rfl];omega
 | 3,_,_=>simp only [show ((3:Nat):Int)=3 from rfl];omega
theorem mean_facts {b:Nat} {t:Int} (hb:1≤b∧b≤3) (ht:0≤t∧t≤100000):(0 ≤ -(-t / (b:Int)) ∧ -(-t / (b:Int))≤100000)∧(0<t→b * max 0 (-(-t / (b:Int)) - 1)<t):=by
 obtain ⟨b1,b2⟩:=hb
 match b,b1,b2 with
 | 1,_,_=>simp only [Int.natCast_one];omega
 | 2,_,_=>simp only [show ((2:Nat):Int)=2 from rfl];omega
 | 3,_,_=>simp only [show ((3:Nat):Int)=3 from rfl];omega
end Go.Proofs.YtpaklfjlbocfcaaGreatDoor

/- The marked code of law functions;printed by a program. By an AI agent;nothing here is trusted. -/
namespace Go.Proofs.YtpaklfjlbocfcaaGreatDoor
open Go.Av
def cl_top_TopWatchNeverMissed_b2:ML:=(.seq (.seq (.reg 1809251394333065553493296640760748560207343510400633813116524750123711987860 [mV 247 26,mO 248 (.fieldAddr (.t 4) 3),mO 249 (.load none (.t 248)),mO 250 (.bin .lss (.t 247) (.t 249))] false []) (.cond (.t 250) .skip (.exit 2))) (.seq (.block 3 (.reg 69337236 [mV 253 17,mO 254 (.load (some 1) (.t 7)),mV 255 2,mV 256 26,mO 257 (.call 46 [(.t 254),(.t 255),(.t 256)]),mO 258 (.buildSlice 3 1 1 (.int .i64 0) [(0,(.t 257))]),mO 259 (.append 3 1 8 (.int .i64 0) (.t 253) (.t 258)),mV 17 259] false [])) (.reg 69337236 [mV 251 26,mO 252 (.bin .add (.t 251) (.c (.int .i64 1))),mV 26 252] false [])))
def cl_top_TopWatchNeverMissed_b0:ML:=(.seq (.seq (.reg 47890485652059026823698344598447161988085597569163924 [mV 169 19,mO 170 (.fieldAddr (.t 4) 2),mO 171 (.load none (.t 170)),mO 172 (.fieldAddr (.t 4) 0),mO 173 (.load none (.t 172)),mO 174 (.bin .add (.t 171) (.t 173)),mO 175 (.bin .lss (.t 169) (.t 174))] false []) (.cond (.t 175) .skip (.exit 0))) (.seq (.block 1 (.seq (.reg 1974932 [mO 178 (.load (some 1) (.t 7)),mV 179 2,mV 180 19,mO 181 (.fieldAddr (.t 7) 0),mO 182 (.load none (.t 181)),mO 183 (.len false (.t 182)),mO 184 (.bin .mul (.t 180) (.t 183)),mO 185 (.call 46 [(.t 178),(.t 179),(.t 184)]),mV 20 185] false []) (.seq (.seq (.reg 784637716923335095479473677900958302012794430558006289044 [mV 186 19,mO 187 (.fieldAddr (.t 4) 2),mO 188 (.load none (.t 187)),mO 189 (.bin .geq (.t 186) (.t 188))] false []) (.cond (.t 189) (.seq (.reg 1974932 [mV 190 20,mV 191 13,mO 192 (.bin .add (.t 190) (.t 191)),mV 20 192] false []) (.reg 1974932 [mV 193 18,mV 194 20,mO 195 (.bin .add (.t 193) (.t 194)),mV 18 195] false [])) .skip)) (.reg 926356 [mV 196 17,mV 197 20,mO 198 (.buildSlice 3 1 1 (.int .i64 0) [(0,(.t 197))]),mO 199 (.append 3 1 8 (.int .i64 0) (.t 196) (.t 198)),mV 17 199] false [])))) (.reg 926356 [mV 176 19,mO 177 (.bin .add (.t 176) (.c (.int .i64 1))),mV 19 177] false [])))
def cl_top_TopWatchNeverMissed_22:ML:=(.seq (.reg 136445968 [mO 260 (.fieldAddr (.t 4) 0),mO 261 (.load none (.t 260)),mO 262 (.fieldAddr (.t 4) 2),mO 263 (.load none (.t 262)),mO 264 (.bin .add (.t 261) (.t 263)),mO 265 (.fieldAddr (.t 4) 0),mO 266 (.load none (.t 265)),mO 267 (.bin .sub (.t 266) (.c (.int .i64 1))),mO 268 (.fieldAddr (.t 4) 3),mO 269 (.load none (.t 268)),mO 270 (.build [(.int .i64 0),(.int .i64 0),(.int .i64 0)] [(0,(1,(.t 264))),(1,(1,(.t 267))),(2,(1,(.t 269)))]),mO 27 (.alloc 91 3 (.agg [(.int .i64 0),(.int .i64 0),(.int .i64 0)])),⟨none,none,.store 3 (.t 27) (.t 270)⟩] false []) (.seq (.regW 941752336 [mO 272 (.load (some 3) (.t 27)),mV 273 17,mO 274 (.call 49 [(.t 273)]),mV 275 21,mO 276 (.buildSlice 3 1 1 (.int .i64 0) [(0,(.t 275))]),mO 277 (.call 51 [(.t 272),(.t 274),(.t 276)]),mV 271 277,mO 278 (.extract (.t 271) 0),mO 279 (.extract (.t 271) 1),mV 28 278,mV 29 279] true [(mO 272 (.load (some 3) (.t 27)),mO 276 (.buildSlice 3 1 1 (.int .i64 0) [(0,(.t 275))])),(mO 274 (.call 49 [(.t 273)]),mO 276 (.buildSlice 3 1 1 (.int .i64 0) [(0,(.t 275))]))]) (.seq (.regW 4026662928 [mO 281 (.load (some 3) (.t 27)),mV 282 17,mO 283 (.call 49 [(.t 282)]),mV 284 21,mO 285 (.buildSlice 3 1 1 (.int .i64 0) [(0,(.t 284))]),mO 286 (.call 52 [(.t 281),(.t 283),(.t 285)]),mV 280 286,mO 287 (.extract (.t 280) 0),mO 288 (.extract (.t 280) 1),mV 30 287,mV 31 288] true [(mO 281 (.load (some 3) (.t 27)),mO 285 (.buildSlice 3 1 1 (.int .i64 0) [(0,(.t 284))])),(mO 283 (.call 49 [(.t 282)]),mO 285 (.buildSlice 3 1 1 (.int .i64 0) [(0,(.t 284))]))]) (.seq (.reg 64 [mV 289 29,mO 290 (.bin .eql (.t 289) (.c (.int .i64 0))),mV 291 290,mG 291 true 292 (.mv (.t 28)),mG 291 true 293 (.len false (.t 292)),mG 291 true 294 (.bin .eql (.t 293) (.c (.int .i64 1))),mO 295 (.pick (.t 291) (.t 294) (.c (.bool false))),mV 296 295,mG 296 true 297 (.mv (.t 28)),mG 296 true 298 (.indexAddr (.t 297) (.c (.int .i64 0)) 3),mG 296 true 299 (.fieldAddr (.t 298) 0),mG 296 true 300 (.load (some 2) (.t 299)),mG 296 true 301 (.fieldAddr (.t 4) 2),mG 296 true 302 (.load none (.t 301)),mG 296 true 303 (.mv (.t 17)),mG 296 true 304 (.len false (.t 303)),mG 296 true 305 (.bin .sub (.t 304) (.c (.int .i64 1))),mG 296 true 306 (.build [(.int .i64 0),(.int .i64 0)] [(0,(1,(.t 302))),(1,(1,(.t 305)))]),mG 296 true 307 (.eqS false [1,1] (.t 300) (.t 306)),mO 308 (.pick (.t 296) (.t 307) (.c (.bool false))),mV 309 308,mG 309 true 310 (.mv (.t 28)),mG 309 true 311 (.indexAddr (.t 310) (.c (.int .i64 0)) 3),mG 309 true 312 (.fieldAddr (.t 311) 2),mG 309 true 313 (.load none (.t 312)),mG 309 true 314 (.mv (.t 17)),mG 309 true 315 (.fieldAddr (.t 4) 2),mG 309 true 316 (.load none (.t 315)),mG 309 true 317 (.slice false 1 (.t 314) (some (.t 316)) none),mG 309 true 318 (.call 33 [(.t 313),(.t 317)]),mO 319 (.pick (.t 309) (.t 318) (.c (.bool false))),mV 320 319,mG 320 true 321 (.mv (.t 31)),mG 320 true 322 (.bin .eql (.t 321) (.c (.int .i64 0))),mO 323 (.pick (.t 320) (.t 322) (.c (.bool false))),mV 324 323,mG 324 true 325 (.mv (.t 30)),mG 324 true 326 (.len false (.t 325)),mG 324 true 327 (.bin .eql (.t 326) (.c (.int .i64 0))),mO 328 (.pick (.t 324) (.t 327) (.c (.bool false))),mV 6 328] true [(mG 309 true 311 (.indexAddr (.t 310) (.c (.int .i64 0)) 3),mG 309 true 317 (.slice false 1 (.t 314) (some (.t 316)) none)),(mG 309 true 312 (.fieldAddr (.t 311) 2),mG 309 true 317 (.slice false 1 (.t 314) (some (.t 316)) none)),(mG 309 true 313 (.load none (.t 312)),mG 309 true 317 (.slice false 1 (.t 314) (some (.t 316)) none))]) .ret))))
def cl_top_TopWatchNeverMissed_21:ML:=(.seq (.seq (.reg 69337236 [mO 26 (.mv (.c (.int .i64 0)))] false []) (.block 2 (.loop cl_top_TopWatchNeverMissed_b2))) (.cut cl_top_TopWatchNeverMissed_22))
def cl_top_TopWatchNeverMissed_15:ML:=(.seq (.seq (.reg 6427752177035961102167848369364650410088811975131171341599380 [mV 200 18,mV 201 9,mO 202 (.bin .lss (.t 200) (.t 201))] false []) (.cond (.t 202) (.seq (.reg 64 [mO 6 (.mv (.c (.bool false)))] false []) .ret) .skip)) (.seq (.reg 2491028 [mV 203 17,mO 204 (.len false (.t 203)),mO 205 (.bin .sub (.t 204) (.c (.int .i64 1))),mV 21 205] false []) (.seq (.reg 6685332 [mV 206 9,mO 207 (.fieldAddr (.t 4) 0),mO 208 (.load none (.t 207)),mO 209 (.call 47 [(.t 206),(.t 208)]),mO 210 (.bin .sub (.t 209) (.c (.int .i64 1))),mO 211 (.max [(.c (.int .i64 0)),(.t 210)]),mO 212 (.fieldAddr (.t 4) 0),mO 213 (.load none (.t 212)),mO 214 (.build [(.int .i64 0),(.int .i64 0),(.int .i64 0),(.int .i64 0)] [(0,(1,(.t 211))),(1,(1,(.c (.int .i64 1)))),(2,(1,(.t 213)))]),mO 22 (.alloc 23 4 (.agg [(.int .i64 0),(.int .i64 0),(.int .i64 0),(.int .i64 0)])),⟨none,none,.store 4 (.t 22) (.t 214)⟩] true [(mO 207 (.fieldAddr (.t 4) 0),mO 22 (.alloc 23 4 (.agg [(.int .i64 0),(.int .i64 0),(.int .i64 0),(.int .i64 0)]))),(mO 208 (.load none (.t 207)),mO 22 (.alloc 23 4 (.agg [(.int .i64 0),(.int .i64 0),(.int .i64 0),(.int .i64 0)]))),(mO 209 (.call 47 [(.t 206),(.t 208)]),mO 22 (.alloc 23 4 (.agg [(.int .i64 0),(.int .i64 0),(.int .i64 0),(.int .i64 0)]))),(mO 212 (.fieldAddr (.t 4) 0),mO 22 (.alloc 23 4 (.agg [(.int .i64 0),(.int .i64 0),(.int .i64 0),(.int .i64 0)]))),(mO 213 (.load none (.t 212)),mO 22 (.alloc 23 4 (.agg [(.int .i64 0),(.int .i64 0),(.int .i64 0),(.int .i64 0)])))]) (.seq (.reg 31851156 [mO 216 (.load (some 4) (.t 22)),mV 217 17,mO 218 (.call 49 [(.t 217)]),mO 219 (.call 48 [(.t 216),(.t 218)]),mV 215 219,mO 220 (.extract (.t 215) 0),mO 221 (.extract (.t 215) 1),mV 23 220,mV 24 221] true []) (.seq (.reg 60949140 [mV 222 18,mO 223 (.fieldAddr (.t 4) 0),mO 224 (.load none (.t 223)),mO 225 (.fieldAddr (.t 22) 0),mO 226 (.load none (.t 225)),mO 227 (.bin .mul (.t 224) (.t 226)),mO 228 (.bin .sub (.t 222) (.t 227)),mV 25 228] false []) (.seq (.seq (.reg 113078212145816597093331040047546785012958969400039613319782796882729894036 [mV 229 24,mO 230 (.bin .neq (.t 229) (.c (.int .i64 0))),mV 231 230,mG 231 false 232 (.mv (.t 23)),mG 231 false 233 (.mv (.t 21)),mG 231 false 234 (.call 50 [(.t 232),(.t 233)]),mG 231 false 235 (.mv (.t 25)),mG 231 false 236 (.bin .gtr (.t 235) (.c (.int .i64 0))),mG 231 false 237 (.eqB true (.t 234) (.t 236)),mO 238 (.pick (.t 231) (.c (.bool true)) (.t 237)),mV 239 238,mG 239 false 240 (.mv (.t 9)),mG 239 false 241 (.bin .gtr (.t 240) (.c (.int .i64 0))),mG 239 false 242 (.mv (.t 241)),mG 242 true 243 (.mv (.t 25)),mG 242 true 244 (.bin .leq (.t 243) (.c (.int .i64 0))),mG 239 false 245 (.pick (.t 242) (.t 244) (.c (.bool false))),mO 246 (.pick (.t 239) (.c (.bool true)) (.t 245))] false []) (.cond (.t 246) (.seq (.reg 64 [mO 6 (.mv (.c (.bool false)))] false []) .ret) .skip)) (.cut cl_top_TopWatchNeverMissed_21)))))))
def cl_top_TopWatchNeverMissed_14:ML:=(.seq (.seq (.reg 926356 [mO 19 (.mv (.c (.int .i64 0)))] false []) (.block 0 (.loop cl_top_TopWatchNeverMissed_b0))) (.cut cl_top_TopWatchNeverMissed_15))
def cl_top_TopWatchNeverMissed:ML:=(.seq (.reg 28 [mO 3 (.box 26 1 (.t 0)),mO 4 (.box 70 4 (.t 1)),mO 6 (.mv (.c (.bool false)))] false []) (.seq (.seq (.reg 8589934620 [mO 32 (.call 37 []),mO 33 (.un .not (.t 32))] false []) (.cond (.t 33) (.seq (.reg 64 [mO 6 (.mv (.c (.bool false)))] false []) .ret) .skip)) (.seq (.seq (.reg 36893488147419103260 [mO 34 (.load (some 1) (.t 3)),mO 35 (.call 38 [(.t 34)]),mO 36 (.un .not (.t 35)),mV 37 36,mG 37 false 38 (.fieldAddr (.t 4) 0),mG 37 false 39 (.load none (.t 38)),mG 37 false 40 (.call 39 [(.t 39)]),mG 37 false 41 (.bin .neq (.t 40) (.c (.int .i64 0))),mO 42 (.pick (.t 37) (.c (.bool true)) (.t 41)),mV 43 42,mG 43 false 44 (.fieldAddr (.t 4) 1),mG 43 false 45 (.load none (.t 44)),mG 43 false 46 (.call 40 [(.t 45),(.c (.int .i64 0)),(.c (.int .i64 1000))]),mG 43 false 47 (.un .not (.t 46)),mO 48 (.pick (.t 43) (.c (.bool true)) (.t 47)),mV 49 48,mG 49 false 50 (.fieldAddr (.t 4) 2),mG 49 false 51 (.load none (.t 50)),mG 49 false 52 (.call 40 [(.t 51),(.c (.int .i64 0)),(.c (.int .i64 6))]),mG 49 false 53 (.un .not (.t 52)),mO 54 (.pick (.t 49) (.c (.bool true)) (.t 53)),mV 55 54,mG 55 false 56 (.fieldAddr (.t 4) 3),mG 55 false 57 (.load none (.t 56)),mG 55 false 58 (.call 40 [(.t 57),(.c (.int .i64 0)),(.c (.int .i64 6))]),mG 55 false 59 (.un .not (.t 58)),mO 60 (.pick (.t 55) (.c (.bool true)) (.t 59)),mV 61 60,mG 61 false 62 (.mv (.t 2)),mG 61 false 63 (.len false (.t 62)),mG 61 false 64 (.bin .gtr (.t 63) (.c (.int .i64 40))),mO 65 (.pick (.t 61) (.c (.bool true)) (.t 64))] false []) (.cond (.t 65) (.seq (.reg 64 [mO 6 (.mv (.c (.bool true)))] false []) .ret) .skip)) (.seq (.reg 412 [mO 67 (.load (some 1) (.t 3)),mO 68 (.call 11 [(.t 67)]),mO 69 (.call 10 [(.t 68)]),mO 70 (.call 13 [(.t 69)]),mV 66 70,mO 71 (.extract (.t 66) 0),mO 72 (.extract (.t 66) 1),mO 7 (.alloc 26 1 (.agg [.nils])),⟨none,none,.store 1 (.t 7) (.t 71)⟩,mV 8 72] false []) (.seq (.seq (.reg 1208925819614629174706324 [mV 73 8,mO 74 (.bin .neq (.t 73) (.c (.int .i64 0))),mV 75 74,mG 75 false 76 (.load (some 1) (.t 7)),mG 75 false 77 (.load (some 1) (.t 3)),mG 75 false 78 (.call 18 [(.t 76),(.t 77)]),mG 75 false 79 (.un .not (.t 78)),mO 80 (.pick (.t 75) (.c (.bool true)) (.t 79))] false []) (.cond (.t 80) (.seq (.reg 64 [mO 6 (.mv (.c (.bool false)))] false []) .ret) .skip)) (.seq (.reg 1684 [mO 82 (.load (some 1) (.t 7)),mO 83 (.call 11 [(.t 82)]),mO 84 (.fieldAddr (.t 4) 0),mO 85 (.load none (.t 84)),mO 86 (.fieldAddr (.t 4) 1),mO 87 (.load none (.t 86)),mO 88 (.call 41 [(.t 83),(.t 85),(.t 87)]),mV 81 88,mO 89 (.extract (.t 81) 0),mO 90 (.extract (.t 81) 1),mV 9 89,mV 10 90] true []) (.seq (.seq (.reg 158456325028528675187087901332 [mV 91 10,mO 92 (.bin .neq (.t 91) (.c (.int .i64 0))),mV 93 92,mG 93 false 94 (.mv (.t 9)),mG 93 false 95 (.call 40 [(.t 94),(.c (.int .i64 0)),(.c (.int .i64 100000))]),mG 93 false 96 (.un .not (.t 95)),mO 97 (.pick (.t 93) (.c (.bool true)) (.t 96))] false []) (.cond (.t 97) (.seq (.reg 64 [mO 6 (.mv (.c (.bool false)))] false []) .ret) .skip)) (.seq (.reg 6804 [mO 99 (.load (some 1) (.t 7)),mO 100 (.call 11 [(.t 99)]),mO 101 (.fieldAddr (.t 4) 0),mO 102 (.load none (.t 101)),mV 103 9,mO 104 (.call 42 [(.t 100),(.t 102),(.t 103)]),mV 98 104,mO 105 (.extract (.t 98) 0),mO 106 (.extract (.t 98) 1),mO 11 (.alloc 76 2 (.agg [(.int .i64 0),(.int .i64 0)])),⟨none,none,.store 2 (.t 11) (.t 105)⟩,mV 12 106] true [(mO 99 (.load (some 1) (.t 7)),mO 11 (.alloc 76 2 (.agg [(.int .i64 0),(.int .i64 0)]))),(mO 100 (.call 11 [(.t 99)]),mO 11 (.alloc 76 2 (.agg [(.int .i64 0),(.int .i64 0)]))),(mO 101 (.fieldAddr (.t 4) 0),mO 11 (.alloc 76 2 (.agg [(.int .i64 0),(.int .i64 0)]))),(mO 102 (.load none (.t 101)),mO 11 (.alloc 76 2 (.agg [(.int .i64 0),(.int .i64 0)]))),(mO 104 (.call 42 [(.t 100),(.t 102),(.t 103)]),mO 11 (.alloc 76 2 (.agg [(.int .i64 0),(.int .i64 0)])))]) (.seq (.seq (.reg 5444517870735015415413993718908291383956 [mV 107 12,mO 108 (.bin .neq (.t 107) (.c (.int .i64 0))),mV 109 108,mG 109 true 110 (.mv (.t 12)),mG 109 true 111 (.bin .neq (.t 110) (.c (.int .i64 8))),mO 112 (.pick (.t 109) (.t 111) (.c (.bool false))),mV 113 112,mG 113 false 114 (.mv (.t 12)),mG 113 false 115 (.bin .eql (.t 114) (.c (.int .i64 0))),mG 113 false 116 (.mv (.t 115)),mG 116 true 117 (.load (some 2) (.t 11)),mG 116 true 118 (.call 43 [(.t 117)]),mG 116 true 119 (.un .not (.t 118)),mG 116 true 120 (.mv (.t 119)),mG 120 false 121 (.fieldAddr (.t 11) 0),mG 120 false 122 (.load none (.t 121)),mG 120 false 123 (.bin .mul (.c (.int .i64 1000)) (.t 122)),mG 120 false 124 (.fieldAddr (.t 4) 1),mG 120 false 125 (.load none (.t 124)),mG 120 false 126 (.fieldAddr (.t 11) 1),mG 120 false 127 (.load none (.t 126)),mG 120 false 128 (.bin .mul (.t 125) (.t 127)),mG 120 false 129 (.bin .gtr (.t 123) (.t 128)),mG 116 true 130 (.pick (.t 120) (.c (.bool true)) (.t 129)),mG 113 false 131 (.pick (.t 116) (.t 130) (.c (.bool false))),mO 132 (.pick (.t 113) (.c (.bool true)) (.t 131))] false []) (.cond (.t 132) (.seq (.reg 64 [mO 6 (.mv (.c (.bool false)))] false []) .ret) .skip)) (.seq (.reg 25236 [mO 134 (.load (some 1) (.t 7)),mO 135 (.call 11 [(.t 134)]),mO 136 (.fieldAddr (.t 4) 0),mO 137 (.load none (.t 136)),mV 138 9,mO 139 (.call 44 [(.t 135),(.t 137),(.t 138)]),mV 133 139,mO 140 (.extract (.t 133) 0),mO 141 (.extract (.t 133) 1),mV 13 140,mV 14 141] true []) (.seq (.reg 123540 [mO 143 (.load (some 1) (.t 7)),mO 144 (.call 11 [(.t 143)]),mO 145 (.fieldAddr (.t 4) 0),mO 146 (.load none (.t 145)),mV 147 9,mV 148 13,mO 149 (.build [(.int .i64 0),(.int .i64 0),(.int .i64 0)] [(0,(1,(.t 146))),(1,(1,(.t 147))),(2,(1,(.t 148)))]),mO 150 (.call 45 [(.t 144),(.t 149)]),mV 142 150,mO 151 (.extract (.t 142) 0),mO 152 (.extract (.t 142) 1),mV 15 151,mV 16 152] true []) (.seq (.seq (.reg 374144419156711147060143317175368453031918731010708 [mV 153 14,mO 154 (.bin .neq (.t 153) (.c (.int .i64 0))),mV 155 154,mG 155 false 156 (.mv (.t 13)),mG 155 false 157 (.mv (.t 9)),mG 155 false 158 (.call 40 [(.t 156),(.c (.int .i64 0)),(.t 157)]),mG 155 false 159 (.un .not (.t 158)),mO 160 (.pick (.t 155) (.c (.bool true)) (.t 159)),mV 161 160,mG 161 false 162 (.mv (.t 16)),mG 161 false 163 (.bin .neq (.t 162) (.c (.int .i64 0))),mO 164 (.pick (.t 161) (.c (.bool true)) (.t 163)),mV 165 164,mG 165 false 166 (.mv (.t 15)),mG 165 false 167 (.un .not (.t 166)),mO 168 (.pick (.t 165) (.c (.bool true)) (.t 167))] false []) (.cond (.t 168) (.seq (.reg 64 [mO 6 (.mv (.c (.bool false)))] false []) .ret) .skip)) (.seq (.reg 139924 [mO 17 (.mv (.c .nils))] false []) (.seq (.reg 402068 [mO 18 (.mv (.c (.int .i64 0)))] false []) (.cut cl_top_TopWatchNeverMissed_14)))))))))))))))
def c_top_TopWatchNeverMissed:MC:=cl_top_TopWatchNeverMissed.er
theorem f_top_TopWatchNeverMissed:cFun Tryz.prog 5=some (329,3,c_top_TopWatchNeverMissed,[(6,none)]):=by kernel_rfl
theorem e_top_TopWatchNeverMissed:cl_top_TopWatchNeverMissed.er=c_top_TopWatchNeverMissed:=rfl
end Go.Proofs.YtpaklfjlbocfcaaGreatDoor

