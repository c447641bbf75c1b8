/- Contracts of answers for boxes: the answer. By an AI agent; nothing here is trusted. -/
import Derived.Test.YtoiajhogondgcaaConTopTrackTwoWaysA
import Derived.Test.YtoiajhogondgcaaLayD
set_option linter.defProp false
set_option linter.unusedSimpArgs false
set_option linter.unusedVariables false
namespace Go.Proofs.Ytoiajhogondgcaa
open Go.Av

theorem tk_indexArr (g:Option (Nat × Bool)) (d:Option Nat) (x i:MX) (sz len:Nat) (e:Env):tkM ⟨g,d,.indexArr x i sz len⟩ e=some (refs1 (x.ev e) ++ refs1 (i.ev e)):=by simp [tkM,tk,pureOp,xsOf,allocs]
theorem mul_s {r s:EN} {a b n:Int} (hr:r.in a) (hs:s.in b) (h:a * b=n):(r.mul s).in n:=by subst h;exact (mul_in hr hs).2
def TM.rest (m:TM) (e:EN) (d a:Int):EN:=(e.mul ⟨-a, -a⟩).add ⟨m.k * d,m.k * d⟩
def TM.rx (m:TM) (b:TB) (p:TP):EN:=m.rest b.ex (p.p.x - m.px) (p.t - m.t)
def TM.ry (m:TM) (b:TB) (p:TP):EN:=m.rest b.ey (p.p.y - m.py) (p.t - m.t)
def TM.rz (m:TM) (b:TB) (p:TP):EN:=m.rest b.ez (p.p.z - m.pz) (p.t - m.t)
def TM.aP1 (m:TM) (b:TB) (p:TP):EN:=EN.z.add ((m.rx b p).mul b.ex)
def TM.aP2 (m:TM) (b:TB) (p:TP):EN:=(m.aP1 b p).add ((m.ry b p).mul b.ey)
def TM.aP3 (m:TM) (b:TB) (p:TP):EN:=(m.aP2 b p).add ((m.rz b p).mul b.ez)
def TM.aL1 (m:TM) (b:TB) (p:TP):EN:=EN.z.add (m.rx b p).sq
def TM.aL2 (m:TM) (b:TB) (p:TP):EN:=(m.aL1 b p).add (m.ry b p).sq
def TM.aL3 (m:TM) (b:TB) (p:TP):EN:=(m.aL2 b p).add (m.rz b p).sq
def TM.aF (m:TM) (b:TB):EN:=⟨max b.sqs.lo m.lo - m.slow,min b.sqs.hi m.hi - m.slow⟩
def TM.ans (m:TM) (b:TB) (p:TP):Int :=
 if (m.aL3 b p).hi=0∨((m.aP3 b p).hi≤0∧(m.aF b).hi * (m.aL3 b p).hi≤(m.aP3 b p).hi * (m.aP3 b p).hi) then 2
 else if 0<(m.aL3 b p).lo∧(0<(m.aP3 b p).lo∨(m.aP3 b p).lo * (m.aP3 b p).lo<(m.aF b).lo * (m.aL3 b p).lo) then 0 else 1
theorem kd_bd {m:TM} {p:TP} (hm:m.Ok) (hp:p.ok):(-40000≤m.k * (p.p.x - m.px)∧m.k * (p.p.x - m.px)≤40000)∧(-40000≤m.k * (p.p.y - m.py)∧m.k * (p.p.y - m.py)≤40000)∧(-40000≤m.k * (p.p.z - m.pz)∧m.k * (p.p.z - m.pz)≤40000):=by
 obtain ⟨⟨⟨c1,c2⟩,⟨c3,c4⟩,c5,c6⟩,ht,⟨hk,_⟩,_,_⟩:=hm
 simp only [TM.p] at c1 c2 c3 c4 c5 c6
 obtain ⟨⟨⟨b1,b2⟩,⟨b3,b4⟩,b5,b6⟩,b7,b8⟩:=hp
 have d1:=mul_le (a:=m.k) (b:=p.p.x - m.px) (m:=20) (n:=2000) (by omega) (by omega) (by omega) (by omega)
 have d2:=mul_le (a:=m.k) (b:=p.p.y - m.py) (m:=20) (n:=2000) (by omega) (by omega) (by omega) (by omega)
 have d3:=mul_le (a:=m.k) (b:=p.p.z - m.pz) (m:=20) (n:=2000) (by omega) (by omega) (by omega) (by omega)
 omega
theorem rest_in {m:TM} {p:TP} {e:EN} {d:Int} (hm:m.Ok) (hp:p.ok) (he:e.in 20) (hd : -40000≤m.k * d∧m.k * d≤40000):EN.in ⟨-(p.t - m.t), -(p.t - m.t)⟩ 20200∧(e.mul ⟨-(p.t - m.t), -(p.t - m.t)⟩).in 404000∧EN.in ⟨m.k * d,m.k * d⟩ 40000∧(m.rest e d (p.t - m.t)).in 444000:=by
 obtain ⟨_,ht,_,_,_⟩:=hm
 obtain ⟨_,b7,b8⟩:=hp
 have h1:EN.in ⟨-(p.t - m.t), -(p.t - m.t)⟩ 20200:=by unfold EN.in;simp only;omega
 have h2:=mul_s he h1 (n:=404000) (by decide)
 have h3:EN.in ⟨m.k * d,m.k * d⟩ 40000:=⟨hd,hd⟩
 exact ⟨h1,h2,h3,add_in h2 h3⟩
theorem sq_s {r:EN} {a n:Int} (hr:r.in a) (h:a * a=n):r.sq.in n:=by subst h;exact (sq_in hr).2
theorem add_s {r s:EN} {a b n:Int} (hr:r.in a) (hs:s.in b) (h:a+b=n):(r.add s).in n:=by subst h;exact add_in hr hs
theorem ans_in {m:TM} {b:TB} {p:TP} (hm:m.Ok) (hb:b.Ok) (hp:p.ok):((m.rx b p).in 444000∧(m.ry b p).in 444000∧(m.rz b p).in 444000)∧((m.aP1 b p).in 8880000∧(m.aP2 b p).in 17760000∧(m.aP3 b p).in 26640000) ∧
  ((m.aL1 b p).in 197136000000∧(m.aL2 b p).in 394272000000∧(m.aL3 b p).in 591408000000):=by
 obtain ⟨k1,k2,k3⟩:=kd_bd hm hp
 obtain ⟨e1,e2,e3⟩:=TB.e_in hb
 have r1:=(rest_in hm hp e1 k1).2.2.2
 have r2:=(rest_in hm hp e2 k2).2.2.2
 have r3:=(rest_in hm hp e3 k3).2.2.2
 have p1:(m.aP1 b p).in 8880000:=add_s z_in (mul_s r1 e1 rfl) (by decide)
 have p2:(m.aP2 b p).in 17760000:=add_s p1 (mul_s r2 e2 rfl) (by decide)
 have p3:(m.aP3 b p).in 26640000:=add_s p2 (mul_s r3 e3 rfl) (by decide)
 have l1:(m.aL1 b p).in 197136000000:=add_s z_in (sq_s r1 rfl) (by decide)
 have l2:(m.aL2 b p).in 394272000000:=add_s l1 (sq_s r2 rfl) (by decide)
 have l3:(m.aL3 b p).in 591408000000:=add_s l2 (sq_s r3 rfl) (by decide)
 exact ⟨⟨r1,r2,r3⟩,⟨p1,p2,p3⟩,l1,l2,l3⟩

set_option maxHeartbeats 8000000 in
set_option maxRecDepth 10000 in
theorem answer_s (m:TM) (b:TB) (p:TP) (hm:m.Ok) (hb:b.Ok) (hp:p.ok):Sound Try.prog 70 [m.av,b.av,p.av] (.int .i64 (m.ans b p)):=by
 refine sound_W f_track_model_answer (Nat.le_of_ble_eq_true rfl) ?_
 obtain ⟨⟨r1,r2,r3⟩,⟨p1,p2,p3⟩,l1,l2,l3⟩:=ans_in hm hb hp
 obtain ⟨k1,k2,k3⟩:=kd_bd hm hp
 obtain ⟨e1,e2,e3⟩:=TB.e_in hb
 have hsq:=sqs_in hb
 obtain ⟨s1,s2,s3⟩:=slow_le hm.r
 obtain ⟨⟨⟨c1,c2⟩,⟨c3,c4⟩,c5,c6⟩,ht,hr,ho,hs⟩:=hm
 have hm:m.Ok:=⟨⟨⟨c1,c2⟩,⟨c3,c4⟩,c5,c6⟩,ht,hr,ho,hs⟩
 simp only [TM.p] at c1 c2 c3 c4 c5 c6
 obtain ⟨⟨⟨b1,b2⟩,⟨b3,b4⟩,b5,b6⟩,b7,b8⟩:=hp
 have hp:p.ok:=⟨⟨⟨b1,b2⟩,⟨b3,b4⟩,b5,b6⟩,b7,b8⟩
 simp only [c_track_model_answer,TM.av,TB.av,TP.av,rnd_s,Int.reduceAdd,Int.reduceSub,decide_true,decide_false,i64_1,i64_2,i64_3,i64_4,true_and,Int.one_mul,Int.cast_ofNat_Int,Int.reduceToNat,Nat.zero_mul,Nat.reduceMul,Nat.zero_add,Nat.mul_one,List.getElem?_cons_zero,List.getElem?_cons_succ,vZ,Int.reduceEq,Int.reduceNe,Int.reduceLT,Int.reduceLE,Nat.reduceEqDiff,Nat.reduceAdd,reduceIte,reduceCtorEq,Nat.reduceLT,Nat.reduceLeDiff,Nat.reduceShiftRight,Nat.reduceMod]
 refine callS_of (minus_s p.p m.p (by unfold I64;simp only [TM.p];omega) (by unfold I64;simp only [TM.p];omega) (by unfold I64;simp only [TM.p];omega)) ?_
 simp only [V3.av,V3.sub,TM.p,rnd_s,Int.reduceAdd,Int.reduceSub,decide_true,decide_false,i64_1,i64_2,i64_3,i64_4,true_and,Int.one_mul,Int.cast_ofNat_Int,Int.reduceToNat,Nat.zero_mul,Nat.reduceMul,Nat.zero_add,Nat.mul_one,List.getElem?_cons_zero,List.getElem?_cons_succ,vZ,Int.reduceEq,Int.reduceNe,Int.reduceLT,Int.reduceLE,Nat.reduceEqDiff,Nat.reduceAdd,reduceIte,reduceCtorEq,Nat.reduceLT,Nat.reduceLeDiff,Nat.reduceShiftRight,Nat.reduceMod]
 (repeat (with_reducible refine And.intro ?_ ?_;focus (first | omega | (unfold I64;omega))))
 refine W_rndW 4 ?_
 refine rndW_of (envOf [(3,.ptr 3 0 0),(4,.ptr 4 0 0),(7,.ptr 7 0 0),(8,.int .i64 (p.t - m.t)),(9,.ptr 9 0 0),(10,.ptr 10 0 0),(30,.int .i64 0)],stOf [(3,⟨70,12,[m.av]⟩),(4,⟨28,6,[b.av]⟩),(7,⟨73,3,[(p.p.sub m.p).av]⟩),(9,⟨104,2,[EN.z.av]⟩),(10,⟨104,2,[EN.z.av]⟩)]) ?_ ?_
 ·refine weakX [] (of_decide_eq_true rfl) (of_decide_eq_true rfl) ?_
  (simp only [TM.av,TB.av,V3.av,V3.sub,TM.p,EN.av,EN.z,vcW,vZ,Int.reduceEq,Int.reduceNe,Int.reduceLT,Int.reduceLE,Nat.reduceEqDiff,Nat.reduceAdd,reduceIte,reduceCtorEq,Nat.reduceLT,Nat.reduceLeDiff,Nat.reduceShiftRight,Nat.reduceMod])
  (repeat' first | exact trivial | (with_reducible first | exact RnB.fxB (ints_fxB _) | rfl | refine And.intro ?_ ?_) | (with_reducible (first | refine RnB.bb ?_ | refine RnB.nb ?_);simp only [vcW,vZ,Int.reduceEq,Int.reduceNe,Int.reduceLT,Int.reduceLE,Nat.reduceEqDiff,Nat.reduceAdd,reduceIte,reduceCtorEq,Nat.reduceLT,Nat.reduceLeDiff,Nat.reduceShiftRight,Nat.reduceMod]) | (with_reducible first | refine RnB.ii ?_ | refine RnB.app ?_) | (with_reducible refine RnB.fxB ?_;simp only [vcW,vZ,Int.reduceEq,Int.reduceNe,Int.reduceLT,Int.reduceLE,Nat.reduceEqDiff,Nat.reduceAdd,reduceIte,reduceCtorEq,Nat.reduceLT,Nat.reduceLeDiff,Nat.reduceShiftRight,Nat.reduceMod]) | omega)
  all_goals first | rfl | exact RnB.fxB rfl
 simp only [TM.av,TB.av,V3.av,V3.sub,TM.p,EN.av,EN.z,tk_indexArr,rnd_s,Int.reduceAdd,Int.reduceSub,decide_true,decide_false,i64_1,i64_2,i64_3,i64_4,true_and,Int.one_mul,Int.cast_ofNat_Int,Int.reduceToNat,Nat.zero_mul,Nat.reduceMul,Nat.zero_add,Nat.mul_one,List.getElem?_cons_zero,List.getElem?_cons_succ,vZ,Int.reduceEq,Int.reduceNe,Int.reduceLT,Int.reduceLE,Nat.reduceEqDiff,Nat.reduceAdd,reduceIte,reduceCtorEq,Nat.reduceLT,Nat.reduceLeDiff,Nat.reduceShiftRight,Nat.reduceMod]
 (repeat (with_reducible refine And.intro ?_ ?_;focus (first | omega | (unfold I64;omega))))
 refine callS_of (times_in (r:=b.ex) (s:=⟨-(p.t - m.t), -(p.t - m.t)⟩) e1 (rest_in hm hp e1 k1).1 (by decide)) ?_
 simp only [EN.av,tk_indexArr,rnd_s,Int.reduceAdd,Int.reduceSub,decide_true,decide_false,i64_1,i64_2,i64_3,i64_4,true_and,Int.one_mul,Int.cast_ofNat_Int,Int.reduceToNat,Nat.zero_mul,Nat.reduceMul,Nat.zero_add,Nat.mul_one,List.getElem?_cons_zero,List.getElem?_cons_succ,vZ,Int.reduceEq,Int.reduceNe,Int.reduceLT,Int.reduceLE,Nat.reduceEqDiff,Nat.reduceAdd,reduceIte,reduceCtorEq,Nat.reduceLT,Nat.reduceLeDiff,Nat.reduceShiftRight,Nat.reduceMod]
 (repeat (with_reducible refine And.intro ?_ ?_;focus (first | omega | (unfold I64;omega))))
 refine callS_of (plus_in (r:=b.ex.mul ⟨-(p.t - m.t), -(p.t - m.t)⟩) (s:=⟨m.k * (p.p.x - m.px),m.k * (p.p.x - m.px)⟩) (rest_in hm hp e1 k1).2.1 (rest_in hm hp e1 k1).2.2.1 (by decide)) ?_
 simp only [EN.av,tk_indexArr,rnd_s,Int.reduceAdd,Int.reduceSub,decide_true,decide_false,i64_1,i64_2,i64_3,i64_4,true_and,Int.one_mul,Int.cast_ofNat_Int,Int.reduceToNat,Nat.zero_mul,Nat.reduceMul,Nat.zero_add,Nat.mul_one,List.getElem?_cons_zero,List.getElem?_cons_succ,vZ,Int.reduceEq,Int.reduceNe,Int.reduceLT,Int.reduceLE,Nat.reduceEqDiff,Nat.reduceAdd,reduceIte,reduceCtorEq,Nat.reduceLT,Nat.reduceLeDiff,Nat.reduceShiftRight,Nat.reduceMod]
 refine callS_of (times_in (r:=(m.rx b p)) (s:=b.ex) r1 e1 (by decide)) ?_
 simp only [EN.av,tk_indexArr,rnd_s,Int.reduceAdd,Int.reduceSub,decide_true,decide_false,i64_1,i64_2,i64_3,i64_4,true_and,Int.one_mul,Int.cast_ofNat_Int,Int.reduceToNat,Nat.zero_mul,Nat.reduceMul,Nat.zero_add,Nat.mul_one,List.getElem?_cons_zero,List.getElem?_cons_succ,vZ,Int.reduceEq,Int.reduceNe,Int.reduceLT,Int.reduceLE,Nat.reduceEqDiff,Nat.reduceAdd,reduceIte,reduceCtorEq,Nat.reduceLT,Nat.reduceLeDiff,Nat.reduceShiftRight,Nat.reduceMod]
 refine callS_of (plus_in (r:=EN.z) (s:=(m.rx b p).mul b.ex) z_in (mul_s r1 e1 rfl) (by decide)) ?_
 simp only [EN.av,tk_indexArr,rnd_s,Int.reduceAdd,Int.reduceSub,decide_true,decide_false,i64_1,i64_2,i64_3,i64_4,true_and,Int.one_mul,Int.cast_ofNat_Int,Int.reduceToNat,Nat.zero_mul,Nat.reduceMul,Nat.zero_add,Nat.mul_one,List.getElem?_cons_zero,List.getElem?_cons_succ,vZ,Int.reduceEq,Int.reduceNe,Int.reduceLT,Int.reduceLE,Nat.reduceEqDiff,Nat.reduceAdd,reduceIte,reduceCtorEq,Nat.reduceLT,Nat.reduceLeDiff,Nat.reduceShiftRight,Nat.reduceMod]
 refine callS_of (square_in (r:=(m.rx b p)) r1 (by decide)) ?_
 simp only [EN.av,tk_indexArr,rnd_s,Int.reduceAdd,Int.reduceSub,decide_true,decide_false,i64_1,i64_2,i64_3,i64_4,true_and,Int.one_mul,Int.cast_ofNat_Int,Int.reduceToNat,Nat.zero_mul,Nat.reduceMul,Nat.zero_add,Nat.mul_one,List.getElem?_cons_zero,List.getElem?_cons_succ,vZ,Int.reduceEq,Int.reduceNe,Int.reduceLT,Int.reduceLE,Nat.reduceEqDiff,Nat.reduceAdd,reduceIte,reduceCtorEq,Nat.reduceLT,Nat.reduceLeDiff,Nat.reduceShiftRight,Nat.reduceMod]
 refine callS_of (plus_in (r:=EN.z) (s:=(m.rx b p).sq) z_in (sq_s r1 rfl) (by decide)) ?_
 simp only [EN.av,tk_indexArr,rnd_s,Int.reduceAdd,Int.reduceSub,decide_true,decide_false,i64_1,i64_2,i64_3,i64_4,true_and,Int.one_mul,Int.cast_ofNat_Int,Int.reduceToNat,Nat.zero_mul,Nat.reduceMul,Nat.zero_add,Nat.mul_one,List.getElem?_cons_zero,List.getElem?_cons_succ,vZ,Int.reduceEq,Int.reduceNe,Int.reduceLT,Int.reduceLE,Nat.reduceEqDiff,Nat.reduceAdd,reduceIte,reduceCtorEq,Nat.reduceLT,Nat.reduceLeDiff,Nat.reduceShiftRight,Nat.reduceMod]
 refine rndW_of (envOf [(3,.ptr 3 0 0),(4,.ptr 4 0 0),(7,.ptr 7 0 0),(8,.int .i64 (p.t - m.t)),(9,.ptr 9 0 0),(10,.ptr 10 0 0),(30,.int .i64 1)],stOf [(3,⟨70,12,[m.av]⟩),(4,⟨28,6,[b.av]⟩),(7,⟨73,3,[(p.p.sub m.p).av]⟩),(9,⟨104,2,[(m.aP1 b p).av]⟩),(10,⟨104,2,[(m.aL1 b p).av]⟩)]) ?_ ?_
 ·refine weakX [] (of_decide_eq_true rfl) (of_decide_eq_true rfl) ?_
  (simp only [TM.av,TB.av,V3.av,V3.sub,TM.p,EN.av,EN.z,vcW,vZ,Int.reduceEq,Int.reduceNe,Int.reduceLT,Int.reduceLE,Nat.reduceEqDiff,Nat.reduceAdd,reduceIte,reduceCtorEq,Nat.reduceLT,Nat.reduceLeDiff,Nat.reduceShiftRight,Nat.reduceMod])
  (repeat' first | exact trivial | (with_reducible first | exact RnB.fxB (ints_fxB _) | rfl | refine And.intro ?_ ?_) | (with_reducible (first | refine RnB.bb ?_ | refine RnB.nb ?_);simp only [vcW,vZ,Int.reduceEq,Int.reduceNe,Int.reduceLT,Int.reduceLE,Nat.reduceEqDiff,Nat.reduceAdd,reduceIte,reduceCtorEq,Nat.reduceLT,Nat.reduceLeDiff,Nat.reduceShiftRight,Nat.reduceMod]) | (with_reducible first | refine RnB.ii ?_ | refine RnB.app ?_) | (with_reducible refine RnB.fxB ?_;simp only [vcW,vZ,Int.reduceEq,Int.reduceNe,Int.reduceLT,Int.reduceLE,Nat.reduceEqDiff,Nat.reduceAdd,reduceIte,reduceCtorEq,Nat.reduceLT,Nat.reduceLeDiff,Nat.reduceShiftRight,Nat.reduceMod]) | omega)
  all_goals first | rfl | exact RnB.fxB rfl
 simp only [TM.av,TB.av,V3.av,V3.sub,TM.p,EN.av,EN.z,tk_indexArr,rnd_s,Int.reduceAdd,Int.reduceSub,decide_true,decide_false,i64_1,i64_2,i64_3,i64_4,true_and,Int.one_mul,Int.cast_ofNat_Int,Int.reduceToNat,Nat.zero_mul,Nat.reduceMul,Nat.zero_add,Nat.mul_one,List.getElem?_cons_zero,List.getElem?_cons_succ,vZ,Int.reduceEq,Int.reduceNe,Int.reduceLT,Int.reduceLE,Nat.reduceEqDiff,Nat.reduceAdd,reduceIte,reduceCtorEq,Nat.reduceLT,Nat.reduceLeDiff,Nat.reduceShiftRight,Nat.reduceMod]
 (repeat (with_reducible refine And.intro ?_ ?_;focus (first | omega | (unfold I64;omega))))
 refine callS_of (times_in (r:=b.ey) (s:=⟨-(p.t - m.t), -(p.t - m.t)⟩) e2 (rest_in hm hp e2 k2).1 (by decide)) ?_
 simp only [EN.av,tk_indexArr,rnd_s,Int.reduceAdd,Int.reduceSub,decide_true,decide_false,i64_1,i64_2,i64_3,i64_4,true_and,Int.one_mul,Int.cast_ofNat_Int,Int.reduceToNat,Nat.zero_mul,Nat.reduceMul,Nat.zero_add,Nat.mul_one,List.getElem?_cons_zero,List.getElem?_cons_succ,vZ,Int.reduceEq,Int.reduceNe,Int.reduceLT,Int.reduceLE,Nat.reduceEqDiff,Nat.reduceAdd,reduceIte,reduceCtorEq,Nat.reduceLT,Nat.reduceLeDiff,Nat.reduceShiftRight,Nat.reduceMod]
 (repeat (with_reducible refine And.intro ?_ ?_;focus (first | omega | (unfold I64;omega))))
 refine callS_of (plus_in (r:=b.ey.mul ⟨-(p.t - m.t), -(p.t - m.t)⟩) (s:=⟨m.k * (p.p.y - m.py),m.k * (p.p.y - m.py)⟩) (rest_in hm hp e2 k2).2.1 (rest_in hm hp e2 k2).2.2.1 (by decide)) ?_
 simp only [EN.av,tk_indexArr,rnd_s,Int.reduceAdd,Int.reduceSub,decide_true,decide_false,i64_1,i64_2,i64_3,i64_4,true_and,Int.one_mul,Int.cast_ofNat_Int,Int.reduceToNat,Nat.zero_mul,Nat.reduceMul,Nat.zero_add,Nat.mul_one,List.getElem?_cons_zero,List.getElem?_cons_succ,vZ,Int.reduceEq,Int.reduceNe,Int.reduceLT,Int.reduceLE,Nat.reduceEqDiff,Nat.reduceAdd,reduceIte,reduceCtorEq,Nat.reduceLT,Nat.reduceLeDiff,Nat.reduceShiftRight,Nat.reduceMod]
 refine callS_of (times_in (r:=(m.ry b p)) (s:=b.ey) r2 e2 (by decide)) ?_
 simp only [EN.av,tk_indexArr,rnd_s,Int.reduceAdd,Int.reduceSub,decide_true,decide_false,i64_1,i64_2,i64_3,i64_4,true_and,Int.one_mul,Int.cast_ofNat_Int,Int.reduceToNat,Nat.zero_mul,Nat.reduceMul,Nat.zero_add,Nat.mul_one,List.getElem?_cons_zero,List.getElem?_cons_succ,vZ,Int.reduceEq,Int.reduceNe,Int.reduceLT,Int.reduceLE,Nat.reduceEqDiff,Nat.reduceAdd,reduceIte,reduceCtorEq,Nat.reduceLT,Nat.reduceLeDiff,Nat.reduceShiftRight,Nat.reduceMod]
 refine callS_of (plus_in (r:=(m.aP1 b p)) (s:=(m.ry b p).mul b.ey) p1 (mul_s r2 e2 rfl) (by decide)) ?_
 simp only [EN.av,tk_indexArr,rnd_s,Int.reduceAdd,Int.reduceSub,decide_true,decide_false,i64_1,i64_2,i64_3,i64_4,true_and,Int.one_mul,Int.cast_ofNat_Int,Int.reduceToNat,Nat.zero_mul,Nat.reduceMul,Nat.zero_add,Nat.mul_one,List.getElem?_cons_zero,List.getElem?_cons_succ,vZ,Int.reduceEq,Int.reduceNe,Int.reduceLT,Int.reduceLE,Nat.reduceEqDiff,Nat.reduceAdd,reduceIte,reduceCtorEq,Nat.reduceLT,Nat.reduceLeDiff,Nat.reduceShiftRight,Nat.reduceMod]
 refine callS_of (square_in (r:=(m.ry b p)) r2 (by decide)) ?_
 simp only [EN.av,tk_indexArr,rnd_s,Int.reduceAdd,Int.reduceSub,decide_true,decide_false,i64_1,i64_2,i64_3,i64_4,true_and,Int.one_mul,Int.cast_ofNat_Int,Int.reduceToNat,Nat.zero_mul,Nat.reduceMul,Nat.zero_add,Nat.mul_one,List.getElem?_cons_zero,List.getElem?_cons_succ,vZ,Int.reduceEq,Int.reduceNe,Int.reduceLT,Int.reduceLE,Nat.reduceEqDiff,Nat.reduceAdd,reduceIte,reduceCtorEq,Nat.reduceLT,Nat.reduceLeDiff,Nat.reduceShiftRight,Nat.reduceMod]
 refine callS_of (plus_in (r:=(m.aL1 b p)) (s:=(m.ry b p).sq) l1 (sq_s r2 rfl) (by decide)) ?_
 simp only [EN.av,tk_indexArr,rnd_s,Int.reduceAdd,Int.reduceSub,decide_true,decide_false,i64_1,i64_2,i64_3,i64_4,true_and,Int.one_mul,Int.cast_ofNat_Int,Int.reduceToNat,Nat.zero_mul,Nat.reduceMul,Nat.zero_add,Nat.mul_one,List.getElem?_cons_zero,List.getElem?_cons_succ,vZ,Int.reduceEq,Int.reduceNe,Int.reduceLT,Int.reduceLE,Nat.reduceEqDiff,Nat.reduceAdd,reduceIte,reduceCtorEq,Nat.reduceLT,Nat.reduceLeDiff,Nat.reduceShiftRight,Nat.reduceMod]
 refine rndW_of (envOf [(3,.ptr 3 0 0),(4,.ptr 4 0 0),(7,.ptr 7 0 0),(8,.int .i64 (p.t - m.t)),(9,.ptr 9 0 0),(10,.ptr 10 0 0),(30,.int .i64 2)],stOf [(3,⟨70,12,[m.av]⟩),(4,⟨28,6,[b.av]⟩),(7,⟨73,3,[(p.p.sub m.p).av]⟩),(9,⟨104,2,[(m.aP2 b p).av]⟩),(10,⟨104,2,[(m.aL2 b p).av]⟩)]) ?_ ?_
 ·refine weakX [] (of_decide_eq_true rfl) (of_decide_eq_true rfl) ?_
  (simp only [TM.av,TB.av,V3.av,V3.sub,TM.p,EN.av,EN.z,vcW,vZ,Int.reduceEq,Int.reduceNe,Int.reduceLT,Int.reduceLE,Nat.reduceEqDiff,Nat.reduceAdd,reduceIte,reduceCtorEq,Nat.reduceLT,Nat.reduceLeDiff,Nat.reduceShiftRight,Nat.reduceMod])
  (repeat' first | exact trivial | (with_reducible first | exact RnB.fxB (ints_fxB _) | rfl | refine And.intro ?_ ?_) | (with_reducible (first | refine RnB.bb ?_ | refine RnB.nb ?_);simp only [vcW,vZ,Int.reduceEq,Int.reduceNe,Int.reduceLT,Int.reduceLE,Nat.reduceEqDiff,Nat.reduceAdd,reduceIte,reduceCtorEq,Nat.reduceLT,Nat.reduceLeDiff,Nat.reduceShiftRight,Nat.reduceMod]) | (with_reducible first | refine RnB.ii ?_ | refine RnB.app ?_) | (with_reducible refine RnB.fxB ?_;simp only [vcW,vZ,Int.reduceEq,Int.reduceNe,Int.reduceLT,Int.reduceLE,Nat.reduceEqDiff,Nat.reduceAdd,reduceIte,reduceCtorEq,Nat.reduceLT,Nat.reduceLeDiff,Nat.reduceShiftRight,Nat.reduceMod]) | omega)
  all_goals first | rfl | exact RnB.fxB rfl
 simp only [TM.av,TB.av,V3.av,V3.sub,TM.p,EN.av,EN.z,tk_indexArr,rnd_s,Int.reduceAdd,Int.reduceSub,decide_true,decide_false,i64_1,i64_2,i64_3,i64_4,true_and,Int.one_mul,Int.cast_ofNat_Int,Int.reduceToNat,Nat.zero_mul,Nat.reduceMul,Nat.zero_add,Nat.mul_one,List.getElem?_cons_zero,List.getElem?_cons_succ,vZ,Int.reduceEq,Int.reduceNe,Int.reduceLT,Int.reduceLE,Nat.reduceEqDiff,Nat.reduceAdd,reduceIte,reduceCtorEq,Nat.reduceLT,Nat.reduceLeDiff,Nat.reduceShiftRight,Nat.reduceMod]
 (repeat (with_reducible refine And.intro ?_ ?_;focus (first | omega | (unfold I64;omega))))
 refine callS_of (times_in (r:=b.ez) (s:=⟨-(p.t - m.t), -(p.t - m.t)⟩) e3 (rest_in hm hp e3 k3).1 (by decide)) ?_
 simp only [EN.av,tk_indexArr,rnd_s,Int.reduceAdd,Int.reduceSub,decide_true,decide_false,i64_1,i64_2,i64_3,i64_4,true_and,Int.one_mul,Int.cast_ofNat_Int,Int.reduceToNat,Nat.zero_mul,Nat.reduceMul,Nat.zero_add,Nat.mul_one,List.getElem?_cons_zero,List.getElem?_cons_succ,vZ,Int.reduceEq,Int.reduceNe,Int.reduceLT,Int.reduceLE,Nat.reduceEqDiff,Nat.reduceAdd,reduceIte,reduceCtorEq,Nat.reduceLT,Nat.reduceLeDiff,Nat.reduceShiftRight,Nat.reduceMod]
 (repeat (with_reducible refine And.intro ?_ ?_;focus (first | omega | (unfold I64;omega))))
 refine callS_of (plus_in (r:=b.ez.mul ⟨-(p.t - m.t), -(p.t - m.t)⟩) (s:=⟨m.k * (p.p.z - m.pz),m.k * (p.p.z - m.pz)⟩) (rest_in hm hp e3 k3).2.1 (rest_in hm hp e3 k3).2.2.1 (by decide)) ?_
 simp only [EN.av,tk_indexArr,rnd_s,Int.reduceAdd,Int.reduceSub,decide_true,decide_false,i64_1,i64_2,i64_3,i64_4,true_and,Int.one_mul,Int.cast_ofNat_Int,Int.reduceToNat,Nat.zero_mul,Nat.reduceMul,Nat.zero_add,Nat.mul_one,List.getElem?_cons_zero,List.getElem?_cons_succ,vZ,Int.reduceEq,Int.reduceNe,Int.reduceLT,Int.reduceLE,Nat.reduceEqDiff,Nat.reduceAdd,reduceIte,reduceCtorEq,Nat.reduceLT,Nat.reduceLeDiff,Nat.reduceShiftRight,Nat.reduceMod]
 refine callS_of (times_in (r:=(m.rz b p)) (s:=b.ez) r3 e3 (by decide)) ?_
 simp only [EN.av,tk_indexArr,rnd_s,Int.reduceAdd,Int.reduceSub,decide_true,decide_false,i64_1,i64_2,i64_3,i64_4,true_and,Int.one_mul,Int.cast_ofNat_Int,Int.reduceToNat,Nat.zero_mul,Nat.reduceMul,Nat.zero_add,Nat.mul_one,List.getElem?_cons_zero,List.getElem?_cons_succ,vZ,Int.reduceEq,Int.reduceNe,Int.reduceLT,Int.reduceLE,Nat.reduceEqDiff,Nat.reduceAdd,reduceIte,reduceCtorEq,Nat.reduceLT,Nat.reduceLeDiff,Nat.reduceShiftRight,Nat.reduceMod]
 refine callS_of (plus_in (r:=(m.aP2 b p)) (s:=(m.rz b p).mul b.ez) p2 (mul_s r3 e3 rfl) (by decide)) ?_
 simp only [EN.av,tk_indexArr,rnd_s,Int.reduceAdd,Int.reduceSub,decide_true,decide_false,i64_1,i64_2,i64_3,i64_4,true_and,Int.one_mul,Int.cast_ofNat_Int,Int.reduceToNat,Nat.zero_mul,Nat.reduceMul,Nat.zero_add,Nat.mul_one,List.getElem?_cons_zero,List.getElem?_cons_succ,vZ,Int.reduceEq,Int.reduceNe,Int.reduceLT,Int.reduceLE,Nat.reduceEqDiff,Nat.reduceAdd,reduceIte,reduceCtorEq,Nat.reduceLT,Nat.reduceLeDiff,Nat.reduceShiftRight,Nat.reduceMod]
 refine callS_of (square_in (r:=(m.rz b p)) r3 (by decide)) ?_
 simp only [EN.av,tk_indexArr,rnd_s,Int.reduceAdd,Int.reduceSub,decide_true,decide_false,i64_1,i64_2,i64_3,i64_4,true_and,Int.one_mul,Int.cast_ofNat_Int,Int.reduceToNat,Nat.zero_mul,Nat.reduceMul,Nat.zero_add,Nat.mul_one,List.getElem?_cons_zero,List.getElem?_cons_succ,vZ,Int.reduceEq,Int.reduceNe,Int.reduceLT,Int.reduceLE,Nat.reduceEqDiff,Nat.reduceAdd,reduceIte,reduceCtorEq,Nat.reduceLT,Nat.reduceLeDiff,Nat.reduceShiftRight,Nat.reduceMod]
 refine callS_of (plus_in (r:=(m.aL2 b p)) (s:=(m.rz b p).sq) l2 (sq_s r3 rfl) (by decide)) ?_
 simp only [EN.av,tk_indexArr,rnd_s,Int.reduceAdd,Int.reduceSub,decide_true,decide_false,i64_1,i64_2,i64_3,i64_4,true_and,Int.one_mul,Int.cast_ofNat_Int,Int.reduceToNat,Nat.zero_mul,Nat.reduceMul,Nat.zero_add,Nat.mul_one,List.getElem?_cons_zero,List.getElem?_cons_succ,vZ,Int.reduceEq,Int.reduceNe,Int.reduceLT,Int.reduceLE,Nat.reduceEqDiff,Nat.reduceAdd,reduceIte,reduceCtorEq,Nat.reduceLT,Nat.reduceLeDiff,Nat.reduceShiftRight,Nat.reduceMod]
 refine rndW_of (envOf [(3,.ptr 3 0 0),(4,.ptr 4 0 0),(7,.ptr 7 0 0),(8,.int .i64 (p.t - m.t)),(9,.ptr 9 0 0),(10,.ptr 10 0 0),(30,.int .i64 3)],stOf [(3,⟨70,12,[m.av]⟩),(4,⟨28,6,[b.av]⟩),(7,⟨73,3,[(p.p.sub m.p).av]⟩),(9,⟨104,2,[(m.aP3 b p).av]⟩),(10,⟨104,2,[(m.aL3 b p).av]⟩)]) ?_ ?_
 ·refine weakX [] (of_decide_eq_true rfl) (of_decide_eq_true rfl) ?_
  (simp only [TM.av,TB.av,V3.av,V3.sub,TM.p,EN.av,EN.z,vcW,vZ,Int.reduceEq,Int.reduceNe,Int.reduceLT,Int.reduceLE,Nat.reduceEqDiff,Nat.reduceAdd,reduceIte,reduceCtorEq,Nat.reduceLT,Nat.reduceLeDiff,Nat.reduceShiftRight,Nat.reduceMod])
  (repeat' first | exact trivial | (with_reducible first | exact RnB.fxB (ints_fxB _) | rfl | refine And.intro ?_ ?_) | (with_reducible (first | refine RnB.bb ?_ | refine RnB.nb ?_);simp only [vcW,vZ,Int.reduceEq,Int.reduceNe,Int.reduceLT,Int.reduceLE,Nat.reduceEqDiff,Nat.reduceAdd,reduceIte,reduceCtorEq,Nat.reduceLT,Nat.reduceLeDiff,Nat.reduceShiftRight,Nat.reduceMod]) | (with_reducible first | refine RnB.ii ?_ | refine RnB.app ?_) | (with_reducible refine RnB.fxB ?_;simp only [vcW,vZ,Int.reduceEq,Int.reduceNe,Int.reduceLT,Int.reduceLE,Nat.reduceEqDiff,Nat.reduceAdd,reduceIte,reduceCtorEq,Nat.reduceLT,Nat.reduceLeDiff,Nat.reduceShiftRight,Nat.reduceMod]) | omega)
  all_goals first | rfl | exact RnB.fxB rfl
 simp only [TM.av,TB.av,V3.av,V3.sub,TM.p,EN.av,EN.z,tk_indexArr,rnd_s,Int.reduceAdd,Int.reduceSub,decide_true,decide_false,i64_1,i64_2,i64_3,i64_4,true_and,Int.one_mul,Int.cast_ofNat_Int,Int.reduceToNat,Nat.zero_mul,Nat.reduceMul,Nat.zero_add,Nat.mul_one,List.getElem?_cons_zero,List.getElem?_cons_succ,vZ,Int.reduceEq,Int.reduceNe,Int.reduceLT,Int.reduceLE,Nat.reduceEqDiff,Nat.reduceAdd,reduceIte,reduceCtorEq,Nat.reduceLT,Nat.reduceLeDiff,Nat.reduceShiftRight,Nat.reduceMod]
 refine callS_of (squares_s m b hb) ?_
 simp only [EN.av,tk_indexArr,rnd_s,Int.reduceAdd,Int.reduceSub,decide_true,decide_false,i64_1,i64_2,i64_3,i64_4,true_and,Int.one_mul,Int.cast_ofNat_Int,Int.reduceToNat,Nat.zero_mul,Nat.reduceMul,Nat.zero_add,Nat.mul_one,List.getElem?_cons_zero,List.getElem?_cons_succ,vZ,Int.reduceEq,Int.reduceNe,Int.reduceLT,Int.reduceLE,Nat.reduceEqDiff,Nat.reduceAdd,reduceIte,reduceCtorEq,Nat.reduceLT,Nat.reduceLeDiff,Nat.reduceShiftRight,Nat.reduceMod]
 refine callS_of (slow_s m (by unfold I64;omega) (by unfold I64;omega)) ?_
 simp only [EN.av,tk_indexArr,rnd_s,Int.reduceAdd,Int.reduceSub,decide_true,decide_false,i64_1,i64_2,i64_3,i64_4,true_and,Int.one_mul,Int.cast_ofNat_Int,Int.reduceToNat,Nat.zero_mul,Nat.reduceMul,Nat.zero_add,Nat.mul_one,List.getElem?_cons_zero,List.getElem?_cons_succ,vZ,Int.reduceEq,Int.reduceNe,Int.reduceLT,Int.reduceLE,Nat.reduceEqDiff,Nat.reduceAdd,reduceIte,reduceCtorEq,Nat.reduceLT,Nat.reduceLeDiff,Nat.reduceShiftRight,Nat.reduceMod]
 have f1:0≤max b.sqs.lo m.lo - m.slow∧max b.sqs.lo m.lo - m.slow≤41200:=by
  obtain ⟨⟨u1,u2⟩,u3,u4⟩:=hsq
  obtain ⟨_,⟨v1,v2⟩,⟨v3,v4⟩,_⟩:=hr
  omega
 have f2 : -41200≤min b.sqs.hi m.hi - m.slow∧min b.sqs.hi m.hi - m.slow≤41200:=by
  obtain ⟨⟨u1,u2⟩,u3,u4⟩:=hsq
  obtain ⟨_,⟨v1,v2⟩,⟨v3,v4⟩,_⟩:=hr
  omega
 refine ⟨by unfold I64;omega,?_⟩
 refine callS_of (slow_s m (by unfold I64;omega) (by unfold I64;omega)) ?_
 simp only [EN.av,tk_indexArr,rnd_s,Int.reduceAdd,Int.reduceSub,decide_true,decide_false,i64_1,i64_2,i64_3,i64_4,true_and,Int.one_mul,Int.cast_ofNat_Int,Int.reduceToNat,Nat.zero_mul,Nat.reduceMul,Nat.zero_add,Nat.mul_one,List.getElem?_cons_zero,List.getElem?_cons_succ,vZ,Int.reduceEq,Int.reduceNe,Int.reduceLT,Int.reduceLE,Nat.reduceEqDiff,Nat.reduceAdd,reduceIte,reduceCtorEq,Nat.reduceLT,Nat.reduceLeDiff,Nat.reduceShiftRight,Nat.reduceMod]
 refine ⟨by unfold I64;omega,?_⟩
 obtain ⟨⟨u1,u2⟩,u3,u4⟩:=p3
 obtain ⟨⟨w1,w2⟩,w3,w4⟩:=l3
 have g1:=mul_le (m:=26640000) (n:=26640000) u3 u4 u3 u4
 have g2:=mul_le (m:=26640000) (n:=26640000) u1 u2 u1 u2
 have g3:=mul_le (m:=41200) (n:=591408000000) f2.1 f2.2 w3 w4
 have g4:=mul_le (m:=41200) (n:=591408000000) (a:=max b.sqs.lo m.lo - m.slow) (b:=(m.aL3 b p).lo) (by omega) (by omega) (by omega) (by omega)
 by_cases q0:(m.aL3 b p).hi=0
 case pos =>
  simp only [q0,decide_true,rnd_s,Int.reduceAdd,Int.reduceSub,decide_true,decide_false,i64_1,i64_2,i64_3,i64_4,true_and,Int.one_mul,Int.cast_ofNat_Int,Int.reduceToNat,Nat.zero_mul,Nat.reduceMul,Nat.zero_add,Nat.mul_one,List.getElem?_cons_zero,List.getElem?_cons_succ,vZ,Int.reduceEq,Int.reduceNe,Int.reduceLT,Int.reduceLE,Nat.reduceEqDiff,Nat.reduceAdd,reduceIte,reduceCtorEq,Nat.reduceLT,Nat.reduceLeDiff,Nat.reduceShiftRight,Nat.reduceMod]
  simp only [TM.ans,q0,true_or,if_true]
 simp only [q0,decide_false,rnd_s,Int.reduceAdd,Int.reduceSub,decide_true,decide_false,i64_1,i64_2,i64_3,i64_4,true_and,Int.one_mul,Int.cast_ofNat_Int,Int.reduceToNat,Nat.zero_mul,Nat.reduceMul,Nat.zero_add,Nat.mul_one,List.getElem?_cons_zero,List.getElem?_cons_succ,vZ,Int.reduceEq,Int.reduceNe,Int.reduceLT,Int.reduceLE,Nat.reduceEqDiff,Nat.reduceAdd,reduceIte,reduceCtorEq,Nat.reduceLT,Nat.reduceLeDiff,Nat.reduceShiftRight,Nat.reduceMod]
 by_cases q1:(m.aP3 b p).hi≤0
 case neg =>
  simp only [q1,decide_false,rnd_s,Int.reduceAdd,Int.reduceSub,decide_true,decide_false,i64_1,i64_2,i64_3,i64_4,true_and,Int.one_mul,Int.cast_ofNat_Int,Int.reduceToNat,Nat.zero_mul,Nat.reduceMul,Nat.zero_add,Nat.mul_one,List.getElem?_cons_zero,List.getElem?_cons_succ,vZ,Int.reduceEq,Int.reduceNe,Int.reduceLT,Int.reduceLE,Nat.reduceEqDiff,Nat.reduceAdd,reduceIte,reduceCtorEq,Nat.reduceLT,Nat.reduceLeDiff,Nat.reduceShiftRight,Nat.reduceMod]
  by_cases q3:0<(m.aL3 b p).lo
  case neg =>
   simp only [q3,decide_false,rnd_s,Int.reduceAdd,Int.reduceSub,decide_true,decide_false,i64_1,i64_2,i64_3,i64_4,true_and,Int.one_mul,Int.cast_ofNat_Int,Int.reduceToNat,Nat.zero_mul,Nat.reduceMul,Nat.zero_add,Nat.mul_one,List.getElem?_cons_zero,List.getElem?_cons_succ,vZ,Int.reduceEq,Int.reduceNe,Int.reduceLT,Int.reduceLE,Nat.reduceEqDiff,Nat.reduceAdd,reduceIte,reduceCtorEq,Nat.reduceLT,Nat.reduceLeDiff,Nat.reduceShiftRight,Nat.reduceMod]
   simp only [TM.ans,TM.aF,q0,q1,q3,false_and,or_false,false_or,if_false]
  simp only [q3,decide_true,rnd_s,Int.reduceAdd,Int.reduceSub,decide_true,decide_false,i64_1,i64_2,i64_3,i64_4,true_and,Int.one_mul,Int.cast_ofNat_Int,Int.reduceToNat,Nat.zero_mul,Nat.reduceMul,Nat.zero_add,Nat.mul_one,List.getElem?_cons_zero,List.getElem?_cons_succ,vZ,Int.reduceEq,Int.reduceNe,Int.reduceLT,Int.reduceLE,Nat.reduceEqDiff,Nat.reduceAdd,reduceIte,reduceCtorEq,Nat.reduceLT,Nat.reduceLeDiff,Nat.reduceShiftRight,Nat.reduceMod]
  by_cases q4:0<(m.aP3 b p).lo
  case pos =>
   simp only [q4,decide_true,rnd_s,Int.reduceAdd,Int.reduceSub,decide_true,decide_false,i64_1,i64_2,i64_3,i64_4,true_and,Int.one_mul,Int.cast_ofNat_Int,Int.reduceToNat,Nat.zero_mul,Nat.reduceMul,Nat.zero_add,Nat.mul_one,List.getElem?_cons_zero,List.getElem?_cons_succ,vZ,Int.reduceEq,Int.reduceNe,Int.reduceLT,Int.reduceLE,Nat.reduceEqDiff,Nat.reduceAdd,reduceIte,reduceCtorEq,Nat.reduceLT,Nat.reduceLeDiff,Nat.reduceShiftRight,Nat.reduceMod]
   simp only [TM.ans,TM.aF,q0,q1,q3,q4,true_and,true_or,false_and,or_false,false_or,if_false,if_true]
  simp only [q4,decide_false,rnd_s,Int.reduceAdd,Int.reduceSub,decide_true,decide_false,i64_1,i64_2,i64_3,i64_4,true_and,Int.one_mul,Int.cast_ofNat_Int,Int.reduceToNat,Nat.zero_mul,Nat.reduceMul,Nat.zero_add,Nat.mul_one,List.getElem?_cons_zero,List.getElem?_cons_succ,vZ,Int.reduceEq,Int.reduceNe,Int.reduceLT,Int.reduceLE,Nat.reduceEqDiff,Nat.reduceAdd,reduceIte,reduceCtorEq,Nat.reduceLT,Nat.reduceLeDiff,Nat.reduceShiftRight,Nat.reduceMod]
  refine ⟨by unfold I64;omega,by unfold I64;omega,?_⟩
  by_cases q5:(m.aP3 b p).lo * (m.aP3 b p).lo<(max b.sqs.lo m.lo - m.slow) * (m.aL3 b p).lo
  case pos =>
   simp only [q5,decide_true,rnd_s,Int.reduceAdd,Int.reduceSub,decide_true,decide_false,i64_1,i64_2,i64_3,i64_4,true_and,Int.one_mul,Int.cast_ofNat_Int,Int.reduceToNat,Nat.zero_mul,Nat.reduceMul,Nat.zero_add,Nat.mul_one,List.getElem?_cons_zero,List.getElem?_cons_succ,vZ,Int.reduceEq,Int.reduceNe,Int.reduceLT,Int.reduceLE,Nat.reduceEqDiff,Nat.reduceAdd,reduceIte,reduceCtorEq,Nat.reduceLT,Nat.reduceLeDiff,Nat.reduceShiftRight,Nat.reduceMod]
   simp only [TM.ans,TM.aF,q0,q1,q3,q4,q5,true_and,or_true,false_and,or_false,false_or,if_false,if_true]
  simp only [q5,decide_false,rnd_s,Int.reduceAdd,Int.reduceSub,decide_true,decide_false,i64_1,i64_2,i64_3,i64_4,true_and,Int.one_mul,Int.cast_ofNat_Int,Int.reduceToNat,Nat.zero_mul,Nat.reduceMul,Nat.zero_add,Nat.mul_one,List.getElem?_cons_zero,List.getElem?_cons_succ,vZ,Int.reduceEq,Int.reduceNe,Int.reduceLT,Int.reduceLE,Nat.reduceEqDiff,Nat.reduceAdd,reduceIte,reduceCtorEq,Nat.reduceLT,Nat.reduceLeDiff,Nat.reduceShiftRight,Nat.reduceMod]
  simp only [TM.ans,TM.aF,q0,q1,q3,q4,q5,true_and,false_and,or_false,false_or,if_false]
 simp only [q1,decide_true,rnd_s,Int.reduceAdd,Int.reduceSub,decide_true,decide_false,i64_1,i64_2,i64_3,i64_4,true_and,Int.one_mul,Int.cast_ofNat_Int,Int.reduceToNat,Nat.zero_mul,Nat.reduceMul,Nat.zero_add,Nat.mul_one,List.getElem?_cons_zero,List.getElem?_cons_succ,vZ,Int.reduceEq,Int.reduceNe,Int.reduceLT,Int.reduceLE,Nat.reduceEqDiff,Nat.reduceAdd,reduceIte,reduceCtorEq,Nat.reduceLT,Nat.reduceLeDiff,Nat.reduceShiftRight,Nat.reduceMod]
 refine ⟨by unfold I64;omega,by unfold I64;omega,?_⟩
 by_cases q2:(min b.sqs.hi m.hi - m.slow) * (m.aL3 b p).hi≤(m.aP3 b p).hi * (m.aP3 b p).hi
 case pos =>
  simp only [q2,decide_true,rnd_s,Int.reduceAdd,Int.reduceSub,decide_true,decide_false,i64_1,i64_2,i64_3,i64_4,true_and,Int.one_mul,Int.cast_ofNat_Int,Int.reduceToNat,Nat.zero_mul,Nat.reduceMul,Nat.zero_add,Nat.mul_one,List.getElem?_cons_zero,List.getElem?_cons_succ,vZ,Int.reduceEq,Int.reduceNe,Int.reduceLT,Int.reduceLE,Nat.reduceEqDiff,Nat.reduceAdd,reduceIte,reduceCtorEq,Nat.reduceLT,Nat.reduceLeDiff,Nat.reduceShiftRight,Nat.reduceMod]
  simp only [TM.ans,TM.aF,q0,q1,q2,true_and,or_true,if_true]
 simp only [q2,decide_false,rnd_s,Int.reduceAdd,Int.reduceSub,decide_true,decide_false,i64_1,i64_2,i64_3,i64_4,true_and,Int.one_mul,Int.cast_ofNat_Int,Int.reduceToNat,Nat.zero_mul,Nat.reduceMul,Nat.zero_add,Nat.mul_one,List.getElem?_cons_zero,List.getElem?_cons_succ,vZ,Int.reduceEq,Int.reduceNe,Int.reduceLT,Int.reduceLE,Nat.reduceEqDiff,Nat.reduceAdd,reduceIte,reduceCtorEq,Nat.reduceLT,Nat.reduceLeDiff,Nat.reduceShiftRight,Nat.reduceMod]
 by_cases q3:0<(m.aL3 b p).lo
 case neg =>
  simp only [q3,decide_false,rnd_s,Int.reduceAdd,Int.reduceSub,decide_true,decide_false,i64_1,i64_2,i64_3,i64_4,true_and,Int.one_mul,Int.cast_ofNat_Int,Int.reduceToNat,Nat.zero_mul,Nat.reduceMul,Nat.zero_add,Nat.mul_one,List.getElem?_cons_zero,List.getElem?_cons_succ,vZ,Int.reduceEq,Int.reduceNe,Int.reduceLT,Int.reduceLE,Nat.reduceEqDiff,Nat.reduceAdd,reduceIte,reduceCtorEq,Nat.reduceLT,Nat.reduceLeDiff,Nat.reduceShiftRight,Nat.reduceMod]
  simp only [TM.ans,TM.aF,q0,q1,q2,and_false,q3,false_and,or_false,false_or,if_false]
 simp only [q3,decide_true,rnd_s,Int.reduceAdd,Int.reduceSub,decide_true,decide_false,i64_1,i64_2,i64_3,i64_4,true_and,Int.one_mul,Int.cast_ofNat_Int,Int.reduceToNat,Nat.zero_mul,Nat.reduceMul,Nat.zero_add,Nat.mul_one,List.getElem?_cons_zero,List.getElem?_cons_succ,vZ,Int.reduceEq,Int.reduceNe,Int.reduceLT,Int.reduceLE,Nat.reduceEqDiff,Nat.reduceAdd,reduceIte,reduceCtorEq,Nat.reduceLT,Nat.reduceLeDiff,Nat.reduceShiftRight,Nat.reduceMod]
 by_cases q4:0<(m.aP3 b p).lo
 case pos =>
  simp only [q4,decide_true,rnd_s,Int.reduceAdd,Int.reduceSub,decide_true,decide_false,i64_1,i64_2,i64_3,i64_4,true_and,Int.one_mul,Int.cast_ofNat_Int,Int.reduceToNat,Nat.zero_mul,Nat.reduceMul,Nat.zero_add,Nat.mul_one,List.getElem?_cons_zero,List.getElem?_cons_succ,vZ,Int.reduceEq,Int.reduceNe,Int.reduceLT,Int.reduceLE,Nat.reduceEqDiff,Nat.reduceAdd,reduceIte,reduceCtorEq,Nat.reduceLT,Nat.reduceLeDiff,Nat.reduceShiftRight,Nat.reduceMod]
  simp only [TM.ans,TM.aF,q0,q1,q2,and_false,q3,q4,true_and,true_or,false_and,or_false,false_or,if_false,if_true]
 simp only [q4,decide_false,rnd_s,Int.reduceAdd,Int.reduceSub,decide_true,decide_false,i64_1,i64_2,i64_3,i64_4,true_and,Int.one_mul,Int.cast_ofNat_Int,Int.reduceToNat,Nat.zero_mul,Nat.reduceMul,Nat.zero_add,Nat.mul_one,List.getElem?_cons_zero,List.getElem?_cons_succ,vZ,Int.reduceEq,Int.reduceNe,Int.reduceLT,Int.reduceLE,Nat.reduceEqDiff,Nat.reduceAdd,reduceIte,reduceCtorEq,Nat.reduceLT,Nat.reduceLeDiff,Nat.reduceShiftRight,Nat.reduceMod]
 refine ⟨by unfold I64;omega,by unfold I64;omega,?_⟩
 by_cases q5:(m.aP3 b p).lo * (m.aP3 b p).lo<(max b.sqs.lo m.lo - m.slow) * (m.aL3 b p).lo
 case pos =>
  simp only [q5,decide_true,rnd_s,Int.reduceAdd,Int.reduceSub,decide_true,decide_false,i64_1,i64_2,i64_3,i64_4,true_and,Int.one_mul,Int.cast_ofNat_Int,Int.reduceToNat,Nat.zero_mul,Nat.reduceMul,Nat.zero_add,Nat.mul_one,List.getElem?_cons_zero,List.getElem?_cons_succ,vZ,Int.reduceEq,Int.reduceNe,Int.reduceLT,Int.reduceLE,Nat.reduceEqDiff,Nat.reduceAdd,reduceIte,reduceCtorEq,Nat.reduceLT,Nat.reduceLeDiff,Nat.reduceShiftRight,Nat.reduceMod]
  simp only [TM.ans,TM.aF,q0,q1,q2,and_false,q3,q4,q5,true_and,or_true,false_and,or_false,false_or,if_false,if_true]
 simp only [q5,decide_false,rnd_s,Int.reduceAdd,Int.reduceSub,decide_true,decide_false,i64_1,i64_2,i64_3,i64_4,true_and,Int.one_mul,Int.cast_ofNat_Int,Int.reduceToNat,Nat.zero_mul,Nat.reduceMul,Nat.zero_add,Nat.mul_one,List.getElem?_cons_zero,List.getElem?_cons_succ,vZ,Int.reduceEq,Int.reduceNe,Int.reduceLT,Int.reduceLE,Nat.reduceEqDiff,Nat.reduceAdd,reduceIte,reduceCtorEq,Nat.reduceLT,Nat.reduceLeDiff,Nat.reduceShiftRight,Nat.reduceMod]
 simp only [TM.ans,TM.aF,q0,q1,q2,and_false,q3,q4,q5,true_and,false_and,or_false,false_or,if_false]
end Go.Proofs.Ytoiajhogondgcaa

/- Contracts of the ranges of scores in boxes. By an AI agent;nothing here is trusted. -/
namespace Go.Proofs.Ytoiajhogondgcaa
open Go.Av

def TM.hitR (m:TM) (b:TB) (h:TH):EN :=
  ⟨if m.ans b (m.early h)=0 then (if m.ans b (m.late h)=2 then min (h.w * m.mi) (h.w * m.no) else h.w * m.mi) else if m.ans b (m.late h)=2 then h.w * m.no else 0,
   if m.ans b (m.late h)=0 then (if m.ans b (m.early h)=2 then 0 else h.w * m.mi) else max (if m.ans b (m.early h)=2 then 0 else h.w * m.mi) (h.w * m.no)⟩
theorem hitR_bd {m:TM} (b:TB) {h:TH} (hm:m.Ok) (hh:h.ok):(0≤(m.hitR b h).lo∧(m.hitR b h).lo≤10000)∧(0≤(m.hitR b h).hi∧(m.hitR b h).hi≤10000):=by
 obtain ⟨h1,h2⟩:=weigh_bd hm hh
 unfold TM.hitR
 simp only
 constructor
 ·(repeat' split) <;> omega
 ·(repeat' split) <;> omega
def TM.scs (m:TM) (b:TB) (l:List TH):EN:=⟨(l.map fun h=>(m.hitR b h).lo).sum,(l.map fun h=>(m.hitR b h).hi).sum⟩
theorem scs_bd {m:TM} (b:TB) (hm:m.Ok):∀ {l:List TH},(∀ h ∈ l,h.ok)→(0≤(m.scs b l).lo∧(m.scs b l).lo≤10000 * l.length)∧(0≤(m.scs b l).hi∧(m.scs b l).hi≤10000 * l.length)
 | [],_=>by simp [TM.scs]
 | h :: l,ho=>by
  have a:=hitR_bd b hm (ho h (by simp))
  have c:=scs_bd (l:=l) b hm fun x hx=>ho x (by simp [hx])
  have d:(m.scs b (h :: l)).lo=(m.hitR b h).lo+(m.scs b l).lo:=by simp [TM.scs]
  have e:(m.scs b (h :: l)).hi=(m.hitR b h).hi+(m.scs b l).hi:=by simp [TM.scs]
  rw [d,e,List.length_cons]
  omega
theorem scs_take (m:TM) (b:TB) (l:List TH) (i:Nat) (h:i<l.length):m.scs b (l.take (i+1))=(m.scs b (l.take i)).add (m.hitR b l[i]):=by
 rw [List.take_succ_eq_append_getElem h]
 simp only [TM.scs,EN.add,List.map_append,List.map_cons,List.map_nil,List.sum_append,List.sum_cons,List.sum_nil,Int.add_zero]
set_option maxHeartbeats 8000000 in
set_option maxRecDepth 10000 in
theorem scores_s (m:TM) (b:TB) (l:List TH) (hm:m.Ok) (hb:b.Ok) (hl:l.length≤1000000) (ho:∀ h ∈ l,h.ok):Sound Try.prog 55 [m.av,b.av,.sl (hitsL l)] (m.scs b l).av:=by
 refine sound_W f_track_model_scores (Nat.le_of_ble_eq_true rfl) ?_
 simp only [c_track_model_scores,TM.av,TB.av,hitsL_length,vZ,Int.reduceEq,Int.reduceNe,Int.reduceLT,Int.reduceLE,Nat.reduceEqDiff,Nat.reduceAdd,reduceIte,reduceCtorEq,Nat.reduceLT,Nat.reduceLeDiff,Nat.reduceShiftRight,Nat.reduceMod]
 refine W_loop (t:=.mk) (α:=PSigma fun i:Nat=>i≤l.length∧(True)) (fun ⟨i,_⟩=>((envOf [(3,.ptr 3 0 0),(4,.ptr 4 0 0),(6,.ptr 6 0 0),(7,.ptr 7 0 0),(17,.sl (hitsL l)),(18,.int .i64 l.length),(19,.int .i64 i)],stOf [(3,⟨70,12,[m.av]⟩),(4,⟨28,6,[b.av]⟩),(6,⟨104,2,[.agg [.int .i64 0,.int .i64 0]]⟩),(7,⟨104,2,[(m.scs b (l.take i)).av]⟩)]))) (fun i=>l.length - i.1) ⟨0,Nat.zero_le _,?_⟩ ?_ (fun ⟨i,hi,hn⟩=>?_)
 ·trivial
 ·refine weakX [] (of_decide_eq_true rfl) (of_decide_eq_true rfl) ?_
  (simp only [TM.av,TB.av,EN.av,TM.scs,vcW,vZ,Int.reduceEq,Int.reduceNe,Int.reduceLT,Int.reduceLE,Nat.reduceEqDiff,Nat.reduceAdd,reduceIte,reduceCtorEq,Nat.reduceLT,Nat.reduceLeDiff,Nat.reduceShiftRight,Nat.reduceMod])
  (repeat' first | exact trivial | (with_reducible first | exact RnB.fxB (ints_fxB _) | rfl | refine And.intro ?_ ?_) | (with_reducible (first | refine RnB.bb ?_ | refine RnB.nb ?_);simp only [vcW,vZ,Int.reduceEq,Int.reduceNe,Int.reduceLT,Int.reduceLE,Nat.reduceEqDiff,Nat.reduceAdd,reduceIte,reduceCtorEq,Nat.reduceLT,Nat.reduceLeDiff,Nat.reduceShiftRight,Nat.reduceMod]) | (with_reducible first | refine RnB.ii ?_ | refine RnB.app ?_) | (with_reducible refine RnB.fxB ?_;simp only [vcW,vZ,Int.reduceEq,Int.reduceNe,Int.reduceLT,Int.reduceLE,Nat.reduceEqDiff,Nat.reduceAdd,reduceIte,reduceCtorEq,Nat.reduceLT,Nat.reduceLeDiff,Nat.reduceShiftRight,Nat.reduceMod]) | omega)
  all_goals first | rfl | exact RnB.fxB rfl
 ·simp only [vZ,Int.reduceEq,Int.reduceNe,Int.reduceLT,Int.reduceLE,Nat.reduceEqDiff,Nat.reduceAdd,reduceIte,reduceCtorEq,Nat.reduceLT,Nat.reduceLeDiff,Nat.reduceShiftRight,Nat.reduceMod]
  refine brB_split (fun h2=>?_) (fun h2=>?_)
  ·have h':i<l.length:=by (simp only [decide_eq_true_eq,decide_eq_false_iff_not,Bool.not_true,I64,Bool.not_eq_true',Bool.not_eq_false',bne_iff_ne,beq_iff_eq,ne_eq] at *;omega)
   simp only [hitsL_get l i h',TH.av,TM.av,TB.av,EN.av,rnd_s,Int.reduceAdd,Int.reduceSub,decide_true,decide_false,i64_1,i64_2,i64_3,i64_4,true_and,Int.one_mul,Int.cast_ofNat_Int,Int.reduceToNat,Nat.zero_mul,Nat.reduceMul,Nat.zero_add,Nat.mul_one,List.getElem?_cons_zero,List.getElem?_cons_succ,vZ,Int.reduceEq,Int.reduceNe,Int.reduceLT,Int.reduceLE,Nat.reduceEqDiff,Nat.reduceAdd,reduceIte,reduceCtorEq,Nat.reduceLT,Nat.reduceLeDiff,Nat.reduceShiftRight,Nat.reduceMod]
   refine ⟨by omega,?_⟩
   have hi':=ho l[i] (List.getElem_mem h')
   obtain ⟨o1,o2⟩:=TH.early_ok hm hi'
   obtain ⟨w1,w2⟩:=weigh_bd hm hi'
   have b1:=scs_bd (l:=l.take (i+1)) b hm fun x hx=>ho x (List.mem_of_mem_take hx)
   have b3:(l.take (i+1)).length≤1000000:=by simp;omega
   rw [scs_take m b l i h'] at b1
   refine callS_of (ends_ok hm hi') ?_
   simp only [TP.av,rnd_s,Int.reduceAdd,Int.reduceSub,decide_true,decide_false,i64_1,i64_2,i64_3,i64_4,true_and,Int.one_mul,Int.cast_ofNat_Int,Int.reduceToNat,Nat.zero_mul,Nat.reduceMul,Nat.zero_add,Nat.mul_one,List.getElem?_cons_zero,List.getElem?_cons_succ,vZ,Int.reduceEq,Int.reduceNe,Int.reduceLT,Int.reduceLE,Nat.reduceEqDiff,Nat.reduceAdd,reduceIte,reduceCtorEq,Nat.reduceLT,Nat.reduceLeDiff,Nat.reduceShiftRight,Nat.reduceMod]
   refine ⟨by unfold I64;omega,by unfold I64;omega,?_⟩
   refine callS_of (answer_s m b (m.early l[i]) hm hb o1) ?_
   simp only [TP.av,rnd_s,Int.reduceAdd,Int.reduceSub,decide_true,decide_false,i64_1,i64_2,i64_3,i64_4,true_and,Int.one_mul,Int.cast_ofNat_Int,Int.reduceToNat,Nat.zero_mul,Nat.reduceMul,Nat.zero_add,Nat.mul_one,List.getElem?_cons_zero,List.getElem?_cons_succ,vZ,Int.reduceEq,Int.reduceNe,Int.reduceLT,Int.reduceLE,Nat.reduceEqDiff,Nat.reduceAdd,reduceIte,reduceCtorEq,Nat.reduceLT,Nat.reduceLeDiff,Nat.reduceShiftRight,Nat.reduceMod]
   refine callS_of (answer_s m b (m.late l[i]) hm hb o2) ?_
   simp only [TP.av,rnd_s,Int.reduceAdd,Int.reduceSub,decide_true,decide_false,i64_1,i64_2,i64_3,i64_4,true_and,Int.one_mul,Int.cast_ofNat_Int,Int.reduceToNat,Nat.zero_mul,Nat.reduceMul,Nat.zero_add,Nat.mul_one,List.getElem?_cons_zero,List.getElem?_cons_succ,vZ,Int.reduceEq,Int.reduceNe,Int.reduceLT,Int.reduceLE,Nat.reduceEqDiff,Nat.reduceAdd,reduceIte,reduceCtorEq,Nat.reduceLT,Nat.reduceLeDiff,Nat.reduceShiftRight,Nat.reduceMod]
   have hE:(m.hitR b l[i]).av=.agg [.int .i64 (m.hitR b l[i]).lo,.int .i64 (m.hitR b l[i]).hi]:=rfl
   rcases (show m.ans b (m.early l[i])=0∨m.ans b (m.early l[i])=2∨(m.ans b (m.early l[i]) ≠ 0∧m.ans b (m.early l[i]) ≠ 2) by omega) with e1 | e1 | ⟨e1,e2⟩
   ·rcases (show m.ans b (m.late l[i])=0∨m.ans b (m.late l[i])=2∨(m.ans b (m.late l[i]) ≠ 0∧m.ans b (m.late l[i]) ≠ 2) by omega) with l1 | l1 | ⟨l1,l2⟩
    ·simp only [e1,l1,decide_true,decide_false,Int.reduceEq,Bool.not_true,Bool.not_false,EN.av,rnd_s,Int.reduceAdd,Int.reduceSub,decide_true,decide_false,i64_1,i64_2,i64_3,i64_4,true_and,Int.one_mul,Int.cast_ofNat_Int,Int.reduceToNat,Nat.zero_mul,Nat.reduceMul,Nat.zero_add,Nat.mul_one,List.getElem?_cons_zero,List.getElem?_cons_succ,vZ,Int.reduceEq,Int.reduceNe,Int.reduceLT,Int.reduceLE,Nat.reduceEqDiff,Nat.reduceAdd,reduceIte,reduceCtorEq,Nat.reduceLT,Nat.reduceLeDiff,Nat.reduceShiftRight,Nat.reduceMod]
     have hR:m.hitR b l[i]=⟨(l[i].w * m.mi),(l[i].w * m.mi)⟩:=by simp [TM.hitR,e1,l1]
     rw [hR] at b1
     refine callS_of (plus_s (m.scs b (l.take i)) ⟨(l[i].w * m.mi),(l[i].w * m.mi)⟩ (by unfold I64;dsimp only [EN.add] at b1 ⊢;omega) (by unfold I64;dsimp only [EN.add] at b1 ⊢;omega)) ?_
     simp only [EN.av,rnd_s,Int.reduceAdd,Int.reduceSub,decide_true,decide_false,i64_1,i64_2,i64_3,i64_4,true_and,Int.one_mul,Int.cast_ofNat_Int,Int.reduceToNat,Nat.zero_mul,Nat.reduceMul,Nat.zero_add,Nat.mul_one,List.getElem?_cons_zero,List.getElem?_cons_succ,vZ,Int.reduceEq,Int.reduceNe,Int.reduceLT,Int.reduceLE,Nat.reduceEqDiff,Nat.reduceAdd,reduceIte,reduceCtorEq,Nat.reduceLT,Nat.reduceLeDiff,Nat.reduceShiftRight,Nat.reduceMod]
     refine ⟨by unfold I64;omega,⟨⟨i+1,by omega,trivial⟩,by simp only;omega,?_⟩⟩
     refine weakX [] (of_decide_eq_true rfl) (of_decide_eq_true rfl) ?_
     (simp only [TM.av,TB.av,EN.av,scs_take m b l i h',hR,vcW,vZ,Int.reduceEq,Int.reduceNe,Int.reduceLT,Int.reduceLE,Nat.reduceEqDiff,Nat.reduceAdd,reduceIte,reduceCtorEq,Nat.reduceLT,Nat.reduceLeDiff,Nat.reduceShiftRight,Nat.reduceMod])
     (repeat' first | exact trivial | (with_reducible first | exact RnB.fxB (ints_fxB _) | rfl | refine And.intro ?_ ?_) | (with_reducible (first | refine RnB.bb ?_ | refine RnB.nb ?_);simp only [vcW,vZ,Int.reduceEq,Int.reduceNe,Int.reduceLT,Int.reduceLE,Nat.reduceEqDiff,Nat.reduceAdd,reduceIte,reduceCtorEq,Nat.reduceLT,Nat.reduceLeDiff,Nat.reduceShiftRight,Nat.reduceMod]) | (with_reducible first | refine RnB.ii ?_ | refine RnB.app ?_) | (with_reducible refine RnB.fxB ?_;simp only [vcW,vZ,Int.reduceEq,Int.reduceNe,Int.reduceLT,Int.reduceLE,Nat.reduceEqDiff,Nat.reduceAdd,reduceIte,reduceCtorEq,Nat.reduceLT,Nat.reduceLeDiff,Nat.reduceShiftRight,Nat.reduceMod]) | omega)
     all_goals first | rfl | exact RnB.fxB rfl | skip
    ·simp only [e1,l1,decide_true,decide_false,Int.reduceEq,Bool.not_true,Bool.not_false,EN.av,rnd_s,Int.reduceAdd,Int.reduceSub,decide_true,decide_false,i64_1,i64_2,i64_3,i64_4,true_and,Int.one_mul,Int.cast_ofNat_Int,Int.reduceToNat,Nat.zero_mul,Nat.reduceMul,Nat.zero_add,Nat.mul_one,List.getElem?_cons_zero,List.getElem?_cons_succ,vZ,Int.reduceEq,Int.reduceNe,Int.reduceLT,Int.reduceLE,Nat.reduceEqDiff,Nat.reduceAdd,reduceIte,reduceCtorEq,Nat.reduceLT,Nat.reduceLeDiff,Nat.reduceShiftRight,Nat.reduceMod]
     have hR:m.hitR b l[i]=⟨min (l[i].w * m.mi) (l[i].w * m.no),max (l[i].w * m.mi) (l[i].w * m.no)⟩:=by simp [TM.hitR,e1,l1]
     rw [hR] at b1
     refine callS_of (plus_s (m.scs b (l.take i)) ⟨min (l[i].w * m.mi) (l[i].w * m.no),max (l[i].w * m.mi) (l[i].w * m.no)⟩ (by unfold I64;dsimp only [EN.add] at b1 ⊢;omega) (by unfold I64;dsimp only [EN.add] at b1 ⊢;omega)) ?_
     simp only [EN.av,rnd_s,Int.reduceAdd,Int.reduceSub,decide_true,decide_false,i64_1,i64_2,i64_3,i64_4,true_and,Int.one_mul,Int.cast_ofNat_Int,Int.reduceToNat,Nat.zero_mul,Nat.reduceMul,Nat.zero_add,Nat.mul_one,List.getElem?_cons_zero,List.getElem?_cons_succ,vZ,Int.reduceEq,Int.reduceNe,Int.reduceLT,Int.reduceLE,Nat.reduceEqDiff,Nat.reduceAdd,reduceIte,reduceCtorEq,Nat.reduceLT,Nat.reduceLeDiff,Nat.reduceShiftRight,Nat.reduceMod]
     refine ⟨by unfold I64;omega,⟨⟨i+1,by omega,trivial⟩,by simp only;omega,?_⟩⟩
     refine weakX [] (of_decide_eq_true rfl) (of_decide_eq_true rfl) ?_
     (simp only [TM.av,TB.av,EN.av,scs_take m b l i h',hR,vcW,vZ,Int.reduceEq,Int.reduceNe,Int.reduceLT,Int.reduceLE,Nat.reduceEqDiff,Nat.reduceAdd,reduceIte,reduceCtorEq,Nat.reduceLT,Nat.reduceLeDiff,Nat.reduceShiftRight,Nat.reduceMod])
     (repeat' first | exact trivial | (with_reducible first | exact RnB.fxB (ints_fxB _) | rfl | refine And.intro ?_ ?_) | (with_reducible (first | refine RnB.bb ?_ | refine RnB.nb ?_);simp only [vcW,vZ,Int.reduceEq,Int.reduceNe,Int.reduceLT,Int.reduceLE,Nat.reduceEqDiff,Nat.reduceAdd,reduceIte,reduceCtorEq,Nat.reduceLT,Nat.reduceLeDiff,Nat.reduceShiftRight,Nat.reduceMod]) | (with_reducible first | refine RnB.ii ?_ | refine RnB.app ?_) | (with_reducible refine RnB.fxB ?_;simp only [vcW,vZ,Int.reduceEq,Int.reduceNe,Int.reduceLT,Int.reduceLE,Nat.reduceEqDiff,Nat.reduceAdd,reduceIte,reduceCtorEq,Nat.reduceLT,Nat.reduceLeDiff,Nat.reduceShiftRight,Nat.reduceMod]) | omega)
     all_goals first | rfl | exact RnB.fxB rfl | skip
    ·simp only [e1,l1,l2,decide_true,decide_false,Int.reduceEq,Bool.not_true,Bool.not_false,EN.av,rnd_s,Int.reduceAdd,Int.reduceSub,decide_true,decide_false,i64_1,i64_2,i64_3,i64_4,true_and,Int.one_mul,Int.cast_ofNat_Int,Int.reduceToNat,Nat.zero_mul,Nat.reduceMul,Nat.zero_add,Nat.mul_one,List.getElem?_cons_zero,List.getElem?_cons_succ,vZ,Int.reduceEq,Int.reduceNe,Int.reduceLT,Int.reduceLE,Nat.reduceEqDiff,Nat.reduceAdd,reduceIte,reduceCtorEq,Nat.reduceLT,Nat.reduceLeDiff,Nat.reduceShiftRight,Nat.reduceMod]
     have hR:m.hitR b l[i]=⟨(l[i].w * m.mi),max (l[i].w * m.mi) (l[i].w * m.no)⟩:=by simp [TM.hitR,e1,l1,l2]
     rw [hR] at b1
     refine callS_of (plus_s (m.scs b (l.take i)) ⟨(l[i].w * m.mi),max (l[i].w * m.mi) (l[i].w * m.no)⟩ (by unfold I64;dsimp only [EN.add] at b1 ⊢;omega) (by unfold I64;dsimp only [EN.add] at b1 ⊢;omega)) ?_
     simp only [EN.av,rnd_s,Int.reduceAdd,Int.reduceSub,decide_true,decide_false,i64_1,i64_2,i64_3,i64_4,true_and,Int.one_mul,Int.cast_ofNat_Int,Int.reduceToNat,Nat.zero_mul,Nat.reduceMul,Nat.zero_add,Nat.mul_one,List.getElem?_cons_zero,List.getElem?_cons_succ,vZ,Int.reduceEq,Int.reduceNe,Int.reduceLT,Int.reduceLE,Nat.reduceEqDiff,Nat.reduceAdd,reduceIte,reduceCtorEq,Nat.reduceLT,Nat.reduceLeDiff,Nat.reduceShiftRight,Nat.reduceMod]
     refine ⟨by unfold I64;omega,⟨⟨i+1,by omega,trivial⟩,by simp only;omega,?_⟩⟩
     refine weakX [] (of_decide_eq_true rfl) (of_decide_eq_true rfl) ?_
     (simp only [TM.av,TB.av,EN.av,scs_take m b l i h',hR,vcW,vZ,Int.reduceEq,Int.reduceNe,Int.reduceLT,Int.reduceLE,Nat.reduceEqDiff,Nat.reduceAdd,reduceIte,reduceCtorEq,Nat.reduceLT,Nat.reduceLeDiff,Nat.reduceShiftRight,Nat.reduceMod])
     (repeat' first | exact trivial | (with_reducible first | exact RnB.fxB (ints_fxB _) | rfl | refine And.intro ?_ ?_) | (with_reducible (first | refine RnB.bb ?_ | refine RnB.nb ?_);simp only [vcW,vZ,Int.reduceEq,Int.reduceNe,Int.reduceLT,Int.reduceLE,Nat.reduceEqDiff,Nat.reduceAdd,reduceIte,reduceCtorEq,Nat.reduceLT,Nat.reduceLeDiff,Nat.reduceShiftRight,Nat.reduceMod]) | (with_reducible first | refine RnB.ii ?_ | refine RnB.app ?_) | (with_reducible refine RnB.fxB ?_;simp only [vcW,vZ,Int.reduceEq,Int.reduceNe,Int.reduceLT,Int.reduceLE,Nat.reduceEqDiff,Nat.reduceAdd,reduceIte,reduceCtorEq,Nat.reduceLT,Nat.reduceLeDiff,Nat.reduceShiftRight,Nat.reduceMod]) | omega)
     all_goals first | rfl | exact RnB.fxB rfl | skip
   ·rcases (show m.ans b (m.late l[i])=0∨m.ans b (m.late l[i])=2∨(m.ans b (m.late l[i]) ≠ 0∧m.ans b (m.late l[i]) ≠ 2) by omega) with l1 | l1 | ⟨l1,l2⟩
    ·simp only [e1,l1,decide_true,decide_false,Int.reduceEq,Bool.not_true,Bool.not_false,EN.av,rnd_s,Int.reduceAdd,Int.reduceSub,decide_true,decide_false,i64_1,i64_2,i64_3,i64_4,true_and,Int.one_mul,Int.cast_ofNat_Int,Int.reduceToNat,Nat.zero_mul,Nat.reduceMul,Nat.zero_add,Nat.mul_one,List.getElem?_cons_zero,List.getElem?_cons_succ,vZ,Int.reduceEq,Int.reduceNe,Int.reduceLT,Int.reduceLE,Nat.reduceEqDiff,Nat.reduceAdd,reduceIte,reduceCtorEq,Nat.reduceLT,Nat.reduceLeDiff,Nat.reduceShiftRight,Nat.reduceMod]
     have hR:m.hitR b l[i]=⟨0,0⟩:=by simp [TM.hitR,e1,l1]
     rw [hR] at b1
     refine callS_of (plus_s (m.scs b (l.take i)) ⟨0,0⟩ (by unfold I64;dsimp only [EN.add] at b1 ⊢;omega) (by unfold I64;dsimp only [EN.add] at b1 ⊢;omega)) ?_
     simp only [EN.av,rnd_s,Int.reduceAdd,Int.reduceSub,decide_true,decide_false,i64_1,i64_2,i64_3,i64_4,true_and,Int.one_mul,Int.cast_ofNat_Int,Int.reduceToNat,Nat.zero_mul,Nat.reduceMul,Nat.zero_add,Nat.mul_one,List.getElem?_cons_zero,List.getElem?_cons_succ,vZ,Int.reduceEq,Int.reduceNe,Int.reduceLT,Int.reduceLE,Nat.reduceEqDiff,Nat.reduceAdd,reduceIte,reduceCtorEq,Nat.reduceLT,Nat.reduceLeDiff,Nat.reduceShiftRight,Nat.reduceMod]
     refine ⟨by unfold I64;omega,⟨⟨i+1,by omega,trivial⟩,by simp only;omega,?_⟩⟩
     refine weakX [] (of_decide_eq_true rfl) (of_decide_eq_true rfl) ?_
     (simp only [TM.av,TB.av,EN.av,scs_take m b l i h',hR,vcW,vZ,Int.reduceEq,Int.reduceNe,Int.reduceLT,Int.reduceLE,Nat.reduceEqDiff,Nat.reduceAdd,reduceIte,reduceCtorEq,Nat.reduceLT,Nat.reduceLeDiff,Nat.reduceShiftRight,Nat.reduceMod])
     (repeat' first | exact trivial | (with_reducible first | exact RnB.fxB (ints_fxB _) | rfl | refine And.intro ?_ ?_) | (with_reducible (first | refine RnB.bb ?_ | refine RnB.nb ?_);simp only [vcW,vZ,Int.reduceEq,Int.reduceNe,Int.reduceLT,Int.reduceLE,Nat.reduceEqDiff,Nat.reduceAdd,reduceIte,reduceCtorEq,Nat.reduceLT,Nat.reduceLeDiff,Nat.reduceShiftRight,Nat.reduceMod]) | (with_reducible first | refine RnB.ii ?_ | refine RnB.app ?_) | (with_reducible refine RnB.fxB ?_;simp only [vcW,vZ,Int.reduceEq,Int.reduceNe,Int.reduceLT,Int.reduceLE,Nat.reduceEqDiff,Nat.reduceAdd,reduceIte,reduceCtorEq,Nat.reduceLT,Nat.reduceLeDiff,Nat.reduceShiftRight,Nat.reduceMod]) | omega)
     all_goals first | rfl | exact RnB.fxB rfl | skip
    ·simp only [e1,l1,decide_true,decide_false,Int.reduceEq,Bool.not_true,Bool.not_false,EN.av,rnd_s,Int.reduceAdd,Int.reduceSub,decide_true,decide_false,i64_1,i64_2,i64_3,i64_4,true_and,Int.one_mul,Int.cast_ofNat_Int,Int.reduceToNat,Nat.zero_mul,Nat.reduceMul,Nat.zero_add,Nat.mul_one,List.getElem?_cons_zero,List.getElem?_cons_succ,vZ,Int.reduceEq,Int.reduceNe,Int.reduceLT,Int.reduceLE,Nat.reduceEqDiff,Nat.reduceAdd,reduceIte,reduceCtorEq,Nat.reduceLT,Nat.reduceLeDiff,Nat.reduceShiftRight,Nat.reduceMod]
     have hR:m.hitR b l[i]=⟨(l[i].w * m.no),max 0 (l[i].w * m.no)⟩:=by simp [TM.hitR,e1,l1]
     rw [hR] at b1
     refine callS_of (plus_s (m.scs b (l.take i)) ⟨(l[i].w * m.no),max 0 (l[i].w * m.no)⟩ (by unfold I64;dsimp only [EN.add] at b1 ⊢;omega) (by unfold I64;dsimp only [EN.add] at b1 ⊢;omega)) ?_
     simp only [EN.av,rnd_s,Int.reduceAdd,Int.reduceSub,decide_true,decide_false,i64_1,i64_2,i64_3,i64_4,true_and,Int.one_mul,Int.cast_ofNat_Int,Int.reduceToNat,Nat.zero_mul,Nat.reduceMul,Nat.zero_add,Nat.mul_one,List.getElem?_cons_zero,List.getElem?_cons_succ,vZ,Int.reduceEq,Int.reduceNe,Int.reduceLT,Int.reduceLE,Nat.reduceEqDiff,Nat.reduceAdd,reduceIte,reduceCtorEq,Nat.reduceLT,Nat.reduceLeDiff,Nat.reduceShiftRight,Nat.reduceMod]
     refine ⟨by unfold I64;omega,⟨⟨i+1,by omega,trivial⟩,by simp only;omega,?_⟩⟩
     refine weakX [] (of_decide_eq_true rfl) (of_decide_eq_true rfl) ?_
     (simp only [TM.av,TB.av,EN.av,scs_take m b l i h',hR,vcW,vZ,Int.reduceEq,Int.reduceNe,Int.reduceLT,Int.reduceLE,Nat.reduceEqDiff,Nat.reduceAdd,reduceIte,reduceCtorEq,Nat.reduceLT,Nat.reduceLeDiff,Nat.reduceShiftRight,Nat.reduceMod])
     (repeat' first | exact trivial | (with_reducible first | exact RnB.fxB (ints_fxB _) | rfl | refine And.intro ?_ ?_) | (with_reducible (first | refine RnB.bb ?_ | refine RnB.nb ?_);simp only [vcW,vZ,Int.reduceEq,Int.reduceNe,Int.reduceLT,Int.reduceLE,Nat.reduceEqDiff,Nat.reduceAdd,reduceIte,reduceCtorEq,Nat.reduceLT,Nat.reduceLeDiff,Nat.reduceShiftRight,Nat.reduceMod]) | (with_reducible first | refine RnB.ii ?_ | refine RnB.app ?_) | (with_reducible refine RnB.fxB ?_;simp only [vcW,vZ,Int.reduceEq,Int.reduceNe,Int.reduceLT,Int.reduceLE,Nat.reduceEqDiff,Nat.reduceAdd,reduceIte,reduceCtorEq,Nat.reduceLT,Nat.reduceLeDiff,Nat.reduceShiftRight,Nat.reduceMod]) | omega)
     all_goals first | rfl | exact RnB.fxB rfl | skip
    ·simp only [e1,l1,l2,decide_true,decide_false,Int.reduceEq,Bool.not_true,Bool.not_false,EN.av,rnd_s,Int.reduceAdd,Int.reduceSub,decide_true,decide_false,i64_1,i64_2,i64_3,i64_4,true_and,Int.one_mul,Int.cast_ofNat_Int,Int.reduceToNat,Nat.zero_mul,Nat.reduceMul,Nat.zero_add,Nat.mul_one,List.getElem?_cons_zero,List.getElem?_cons_succ,vZ,Int.reduceEq,Int.reduceNe,Int.reduceLT,Int.reduceLE,Nat.reduceEqDiff,Nat.reduceAdd,reduceIte,reduceCtorEq,Nat.reduceLT,Nat.reduceLeDiff,Nat.reduceShiftRight,Nat.reduceMod]
     have hR:m.hitR b l[i]=⟨0,max 0 (l[i].w * m.no)⟩:=by simp [TM.hitR,e1,l1,l2]
     rw [hR] at b1
     refine callS_of (plus_s (m.scs b (l.take i)) ⟨0,max 0 (l[i].w * m.no)⟩ (by unfold I64;dsimp only [EN.add] at b1 ⊢;omega) (by unfold I64;dsimp only [EN.add] at b1 ⊢;omega)) ?_
     simp only [EN.av,rnd_s,Int.reduceAdd,Int.reduceSub,decide_true,decide_false,i64_1,i64_2,i64_3,i64_4,true_and,Int.one_mul,Int.cast_ofNat_Int,Int.reduceToNat,Nat.zero_mul,Nat.reduceMul,Nat.zero_add,Nat.mul_one,List.getElem?_cons_zero,List.getElem?_cons_succ,vZ,Int.reduceEq,Int.reduceNe,Int.reduceLT,Int.reduceLE,Nat.reduceEqDiff,Nat.reduceAdd,reduceIte,reduceCtorEq,Nat.reduceLT,Nat.reduceLeDiff,Nat.reduceShiftRight,Nat.reduceMod]
     refine ⟨by unfold I64;omega,⟨⟨i+1,by omega,trivial⟩,by simp only;omega,?_⟩⟩
     refine weakX [] (of_decide_eq_true rfl) (of_decide_eq_true rfl) ?_
     (simp only [TM.av,TB.av,EN.av,scs_take m b l i h',hR,vcW,vZ,Int.reduceEq,Int.reduceNe,Int.reduceLT,Int.reduceLE,Nat.reduceEqDiff,Nat.reduceAdd,reduceIte,reduceCtorEq,Nat.reduceLT,Nat.reduceLeDiff,Nat.reduceShiftRight,Nat.reduceMod])
     (repeat' first | exact trivial | (with_reducible first | exact RnB.fxB (ints_fxB _) | rfl | refine And.intro ?_ ?_) | (with_reducible (first | refine RnB.bb ?_ | refine RnB.nb ?_);simp only [vcW,vZ,Int.reduceEq,Int.reduceNe,Int.reduceLT,Int.reduceLE,Nat.reduceEqDiff,Nat.reduceAdd,reduceIte,reduceCtorEq,Nat.reduceLT,Nat.reduceLeDiff,Nat.reduceShiftRight,Nat.reduceMod]) | (with_reducible first | refine RnB.ii ?_ | refine RnB.app ?_) | (with_reducible refine RnB.fxB ?_;simp only [vcW,vZ,Int.reduceEq,Int.reduceNe,Int.reduceLT,Int.reduceLE,Nat.reduceEqDiff,Nat.reduceAdd,reduceIte,reduceCtorEq,Nat.reduceLT,Nat.reduceLeDiff,Nat.reduceShiftRight,Nat.reduceMod]) | omega)
     all_goals first | rfl | exact RnB.fxB rfl | skip
   ·rcases (show m.ans b (m.late l[i])=0∨m.ans b (m.late l[i])=2∨(m.ans b (m.late l[i]) ≠ 0∧m.ans b (m.late l[i]) ≠ 2) by omega) with l1 | l1 | ⟨l1,l2⟩
    ·simp only [e1,e2,l1,decide_true,decide_false,Int.reduceEq,Bool.not_true,Bool.not_false,EN.av,rnd_s,Int.reduceAdd,Int.reduceSub,decide_true,decide_false,i64_1,i64_2,i64_3,i64_4,true_and,Int.one_mul,Int.cast_ofNat_Int,Int.reduceToNat,Nat.zero_mul,Nat.reduceMul,Nat.zero_add,Nat.mul_one,List.getElem?_cons_zero,List.getElem?_cons_succ,vZ,Int.reduceEq,Int.reduceNe,Int.reduceLT,Int.reduceLE,Nat.reduceEqDiff,Nat.reduceAdd,reduceIte,reduceCtorEq,Nat.reduceLT,Nat.reduceLeDiff,Nat.reduceShiftRight,Nat.reduceMod]
     have hR:m.hitR b l[i]=⟨0,(l[i].w * m.mi)⟩:=by simp [TM.hitR,e1,e2,l1]
     rw [hR] at b1
     refine callS_of (plus_s (m.scs b (l.take i)) ⟨0,(l[i].w * m.mi)⟩ (by unfold I64;dsimp only [EN.add] at b1 ⊢;omega) (by unfold I64;dsimp only [EN.add] at b1 ⊢;omega)) ?_
     simp only [EN.av,rnd_s,Int.reduceAdd,Int.reduceSub,decide_true,decide_false,i64_1,i64_2,i64_3,i64_4,true_and,Int.one_mul,Int.cast_ofNat_Int,Int.reduceToNat,Nat.zero_mul,Nat.reduceMul,Nat.zero_add,Nat.mul_one,List.getElem?_cons_zero,List.getElem?_cons_succ,vZ,Int.reduceEq,Int.reduceNe,Int.reduceLT,Int.reduceLE,Nat.reduceEqDiff,Nat.reduceAdd,reduceIte,reduceCtorEq,Nat.reduceLT,Nat.reduceLeDiff,Nat.reduceShiftRight,Nat.reduceMod]
     refine ⟨by unfold I64;omega,⟨⟨i+1,by omega,trivial⟩,by simp only;omega,?_⟩⟩
     refine weakX [] (of_decide_eq_true rfl) (of_decide_eq_true rfl) ?_
     (simp only [TM.av,TB.av,EN.av,scs_take m b l i h',hR,vcW,vZ,Int.reduceEq,Int.reduceNe,Int.reduceLT,Int.reduceLE,Nat.reduceEqDiff,Nat.reduceAdd,reduceIte,reduceCtorEq,Nat.reduceLT,Nat.reduceLeDiff,Nat.reduceShiftRight,Nat.reduceMod])
     (repeat' first | exact trivial | (with_reducible first | exact RnB.fxB (ints_fxB _) | rfl | refine And.intro ?_ ?_) | (with_reducible (first | refine RnB.bb ?_ | refine RnB.nb ?_);simp only [vcW,vZ,Int.reduceEq,Int.reduceNe,Int.reduceLT,Int.reduceLE,Nat.reduceEqDiff,Nat.reduceAdd,reduceIte,reduceCtorEq,Nat.reduceLT,Nat.reduceLeDiff,Nat.reduceShiftRight,Nat.reduceMod]) | (with_reducible first | refine RnB.ii ?_ | refine RnB.app ?_) | (with_reducible refine RnB.fxB ?_;simp only [vcW,vZ,Int.reduceEq,Int.reduceNe,Int.reduceLT,Int.reduceLE,Nat.reduceEqDiff,Nat.reduceAdd,reduceIte,reduceCtorEq,Nat.reduceLT,Nat.reduceLeDiff,Nat.reduceShiftRight,Nat.reduceMod]) | omega)
     all_goals first | rfl | exact RnB.fxB rfl | skip
    ·simp only [e1,e2,l1,decide_true,decide_false,Int.reduceEq,Bool.not_true,Bool.not_false,EN.av,rnd_s,Int.reduceAdd,Int.reduceSub,decide_true,decide_false,i64_1,i64_2,i64_3,i64_4,true_and,Int.one_mul,Int.cast_ofNat_Int,Int.reduceToNat,Nat.zero_mul,Nat.reduceMul,Nat.zero_add,Nat.mul_one,List.getElem?_cons_zero,List.getElem?_cons_succ,vZ,Int.reduceEq,Int.reduceNe,Int.reduceLT,Int.reduceLE,Nat.reduceEqDiff,Nat.reduceAdd,reduceIte,reduceCtorEq,Nat.reduceLT,Nat.reduceLeDiff,Nat.reduceShiftRight,Nat.reduceMod]
     have hR:m.hitR b l[i]=⟨(l[i].w * m.no),max (l[i].w * m.mi) (l[i].w * m.no)⟩:=by simp [TM.hitR,e1,e2,l1]
     rw [hR] at b1
     refine callS_of (plus_s (m.scs b (l.take i)) ⟨(l[i].w * m.no),max (l[i].w * m.mi) (l[i].w * m.no)⟩ (by unfold I64;dsimp only [EN.add] at b1 ⊢;omega) (by unfold I64;dsimp only [EN.add] at b1 ⊢;omega)) ?_
     simp only [EN.av,rnd_s,Int.reduceAdd,Int.reduceSub,decide_true,decide_false,i64_1,i64_2,i64_3,i64_4,true_and,Int.one_mul,Int.cast_ofNat_Int,Int.reduceToNat,Nat.zero_mul,Nat.reduceMul,Nat.zero_add,Nat.mul_one,List.getElem?_cons_zero,List.getElem?_cons_succ,vZ,Int.reduceEq,Int.reduceNe,Int.reduceLT,Int.reduceLE,Nat.reduceEqDiff,Nat.reduceAdd,reduceIte,reduceCtorEq,Nat.reduceLT,Nat.reduceLeDiff,Nat.reduceShiftRight,Nat.reduceMod]
     refine ⟨by unfold I64;omega,⟨⟨i+1,by omega,trivial⟩,by simp only;omega,?_⟩⟩
     refine weakX [] (of_decide_eq_true rfl) (of_decide_eq_true rfl) ?_
     (simp only [TM.av,TB.av,EN.av,scs_take m b l i h',hR,vcW,vZ,Int.reduceEq,Int.reduceNe,Int.reduceLT,Int.reduceLE,Nat.reduceEqDiff,Nat.reduceAdd,reduceIte,reduceCtorEq,Nat.reduceLT,Nat.reduceLeDiff,Nat.reduceShiftRight,Nat.reduceMod])
     (repeat' first | exact trivial | (with_reducible first | exact RnB.fxB (ints_fxB _) | rfl | refine And.intro ?_ ?_) | (with_reducible (first | refine RnB.bb ?_ | refine RnB.nb ?_);simp only [vcW,vZ,Int.reduceEq,Int.reduceNe,Int.reduceLT,Int.reduceLE,Nat.reduceEqDiff,Nat.reduceAdd,reduceIte,reduceCtorEq,Nat.reduceLT,Nat.reduceLeDiff,Nat.reduceShiftRight,Nat.reduceMod]) | (with_reducible first | refine RnB.ii ?_ | refine RnB.app ?_) | (with_reducible refine RnB.fxB ?_;simp only [vcW,vZ,Int.reduceEq,Int.reduceNe,Int.reduceLT,Int.reduceLE,Nat.reduceEqDiff,Nat.reduceAdd,reduceIte,reduceCtorEq,Nat.reduceLT,Nat.reduceLeDiff,Nat.reduceShiftRight,Nat.reduceMod]) | omega)
     all_goals first | rfl | exact RnB.fxB rfl | skip
    ·simp only [e1,e2,l1,l2,decide_true,decide_false,Int.reduceEq,Bool.not_true,Bool.not_false,EN.av,rnd_s,Int.reduceAdd,Int.reduceSub,decide_true,decide_false,i64_1,i64_2,i64_3,i64_4,true_and,Int.one_mul,Int.cast_ofNat_Int,Int.reduceToNat,Nat.zero_mul,Nat.reduceMul,Nat.zero_add,Nat.mul_one,List.getElem?_cons_zero,List.getElem?_cons_succ,vZ,Int.reduceEq,Int.reduceNe,Int.reduceLT,Int.reduceLE,Nat.reduceEqDiff,Nat.reduceAdd,reduceIte,reduceCtorEq,Nat.reduceLT,Nat.reduceLeDiff,Nat.reduceShiftRight,Nat.reduceMod]
     have hR:m.hitR b l[i]=⟨0,max (l[i].w * m.mi) (l[i].w * m.no)⟩:=by simp [TM.hitR,e1,e2,l1,l2]
     rw [hR] at b1
     refine callS_of (plus_s (m.scs b (l.take i)) ⟨0,max (l[i].w * m.mi) (l[i].w * m.no)⟩ (by unfold I64;dsimp only [EN.add] at b1 ⊢;omega) (by unfold I64;dsimp only [EN.add] at b1 ⊢;omega)) ?_
     simp only [EN.av,rnd_s,Int.reduceAdd,Int.reduceSub,decide_true,decide_false,i64_1,i64_2,i64_3,i64_4,true_and,Int.one_mul,Int.cast_ofNat_Int,Int.reduceToNat,Nat.zero_mul,Nat.reduceMul,Nat.zero_add,Nat.mul_one,List.getElem?_cons_zero,List.getElem?_cons_succ,vZ,Int.reduceEq,Int.reduceNe,Int.reduceLT,Int.reduceLE,Nat.reduceEqDiff,Nat.reduceAdd,reduceIte,reduceCtorEq,Nat.reduceLT,Nat.reduceLeDiff,Nat.reduceShiftRight,Nat.reduceMod]
     refine ⟨by unfold I64;omega,⟨⟨i+1,by omega,trivial⟩,by simp only;omega,?_⟩⟩
     refine weakX [] (of_decide_eq_true rfl) (of_decide_eq_true rfl) ?_
     (simp only [TM.av,TB.av,EN.av,scs_take m b l i h',hR,vcW,vZ,Int.reduceEq,Int.reduceNe,Int.reduceLT,Int.reduceLE,Nat.reduceEqDiff,Nat.reduceAdd,reduceIte,reduceCtorEq,Nat.reduceLT,Nat.reduceLeDiff,Nat.reduceShiftRight,Nat.reduceMod])
     (repeat' first | exact trivial | (with_reducible first | exact RnB.fxB (ints_fxB _) | rfl | refine And.intro ?_ ?_) | (with_reducible (first | refine RnB.bb ?_ | refine RnB.nb ?_);simp only [vcW,vZ,Int.reduceEq,Int.reduceNe,Int.reduceLT,Int.reduceLE,Nat.reduceEqDiff,Nat.reduceAdd,reduceIte,reduceCtorEq,Nat.reduceLT,Nat.reduceLeDiff,Nat.reduceShiftRight,Nat.reduceMod]) | (with_reducible first | refine RnB.ii ?_ | refine RnB.app ?_) | (with_reducible refine RnB.fxB ?_;simp only [vcW,vZ,Int.reduceEq,Int.reduceNe,Int.reduceLT,Int.reduceLE,Nat.reduceEqDiff,Nat.reduceAdd,reduceIte,reduceCtorEq,Nat.reduceLT,Nat.reduceLeDiff,Nat.reduceShiftRight,Nat.reduceMod]) | omega)
     all_goals first | rfl | exact RnB.fxB rfl | skip
  ·simp only [EN.av,rnd_s,Int.reduceAdd,Int.reduceSub,decide_true,decide_false,i64_1,i64_2,i64_3,i64_4,true_and,Int.one_mul,Int.cast_ofNat_Int,Int.reduceToNat,Nat.zero_mul,Nat.reduceMul,Nat.zero_add,Nat.mul_one,List.getElem?_cons_zero,List.getElem?_cons_succ,vZ,Int.reduceEq,Int.reduceNe,Int.reduceLT,Int.reduceLE,Nat.reduceEqDiff,Nat.reduceAdd,reduceIte,reduceCtorEq,Nat.reduceLT,Nat.reduceLeDiff,Nat.reduceShiftRight,Nat.reduceMod]
   have:i=l.length:=by (simp only [decide_eq_true_eq,decide_eq_false_iff_not,Bool.not_true,I64,Bool.not_eq_true',Bool.not_eq_false',bne_iff_ne,beq_iff_eq,ne_eq] at *;omega)
   subst this
   rw [List.take_length]
end Go.Proofs.Ytoiajhogondgcaa

/- Contracts: boxes that are proved;steps compared. By an AI agent;nothing here is trusted. -/
namespace Go.Proofs.Ytoiajhogondgcaa
open Go.Av

def TM.proved (m:TM) (b:TB) (l:List TH) (n:Int):Prop:=¬ m.common b∨n≤(m.scs b l).lo
instance (m:TM) (b:TB) (l:List TH) (n:Int):Decidable (m.proved b l n):=by unfold TM.proved;infer_instance
theorem proved_s (m:TM) (b:TB) (l:List TH) (n:Int) (hm:m.Ok) (hb:b.Ok) (hl:l.length≤1000000) (ho:∀ h ∈ l,h.ok):Sound Try.prog 49 [m.av,b.av,.sl (hitsL l),.int .i64 n] (.bool (decide (m.proved b l n))):=by
 refine sound_W f_track_model_proved (Nat.le_of_ble_eq_true rfl) ?_
 simp only [c_track_model_proved,TM.av,TB.av,vZ,Int.reduceEq,Int.reduceNe,Int.reduceLT,Int.reduceLE,Nat.reduceEqDiff,Nat.reduceAdd,reduceIte,reduceCtorEq,Nat.reduceLT,Nat.reduceLeDiff,Nat.reduceShiftRight,Nat.reduceMod]
 refine callS_of (squares_s m b hb) ?_
 by_cases q:m.common b
 case neg =>
  simp only [q,decide_false,Bool.not_false,EN.av,rnd_s,Int.reduceAdd,Int.reduceSub,decide_true,decide_false,i64_1,i64_2,i64_3,i64_4,true_and,Int.one_mul,Int.cast_ofNat_Int,Int.reduceToNat,Nat.zero_mul,Nat.reduceMul,Nat.zero_add,Nat.mul_one,List.getElem?_cons_zero,List.getElem?_cons_succ,vZ,Int.reduceEq,Int.reduceNe,Int.reduceLT,Int.reduceLE,Nat.reduceEqDiff,Nat.reduceAdd,reduceIte,reduceCtorEq,Nat.reduceLT,Nat.reduceLeDiff,Nat.reduceShiftRight,Nat.reduceMod]
  simp [TM.proved,q]
 simp only [q,decide_true,Bool.not_true,EN.av,rnd_s,Int.reduceAdd,Int.reduceSub,decide_true,decide_false,i64_1,i64_2,i64_3,i64_4,true_and,Int.one_mul,Int.cast_ofNat_Int,Int.reduceToNat,Nat.zero_mul,Nat.reduceMul,Nat.zero_add,Nat.mul_one,List.getElem?_cons_zero,List.getElem?_cons_succ,vZ,Int.reduceEq,Int.reduceNe,Int.reduceLT,Int.reduceLE,Nat.reduceEqDiff,Nat.reduceAdd,reduceIte,reduceCtorEq,Nat.reduceLT,Nat.reduceLeDiff,Nat.reduceShiftRight,Nat.reduceMod]
 refine callS_of (scores_s m b l hm hb hl ho) ?_
 simp only [EN.av,rnd_s,Int.reduceAdd,Int.reduceSub,decide_true,decide_false,i64_1,i64_2,i64_3,i64_4,true_and,Int.one_mul,Int.cast_ofNat_Int,Int.reduceToNat,Nat.zero_mul,Nat.reduceMul,Nat.zero_add,Nat.mul_one,List.getElem?_cons_zero,List.getElem?_cons_succ,vZ,Int.reduceEq,Int.reduceNe,Int.reduceLT,Int.reduceLE,Nat.reduceEqDiff,Nat.reduceAdd,reduceIte,reduceCtorEq,Nat.reduceLT,Nat.reduceLeDiff,Nat.reduceShiftRight,Nat.reduceMod]
 simp [TM.proved,q]

theorem isNaN_s (a:Int):Sound Try.prog 80 [.int .i64 a] (.bool false):=by
 refine sound_W f_cmp_isNaN_int (Nat.le_of_ble_eq_true rfl) ?_
 simp only [c_cmp_isNaN_int,vZ,Int.reduceEq,Int.reduceNe,Int.reduceLT,Int.reduceLE,Nat.reduceEqDiff,Nat.reduceAdd,reduceIte,reduceCtorEq,Nat.reduceLT,Nat.reduceLeDiff,Nat.reduceShiftRight,Nat.reduceMod]
def cI (a b:Int):Int:=if a<b then -1 else if b<a then 1 else 0
theorem Compare_s (a b:Int):Sound Try.prog 71 [.int .i64 a,.int .i64 b] (.int .i64 (cI a b)):=by
 refine sound_W f_cmp_Compare_int (Nat.le_of_ble_eq_true rfl) ?_
 simp only [c_cmp_Compare_int,vZ,Int.reduceEq,Int.reduceNe,Int.reduceLT,Int.reduceLE,Nat.reduceEqDiff,Nat.reduceAdd,reduceIte,reduceCtorEq,Nat.reduceLT,Nat.reduceLeDiff,Nat.reduceShiftRight,Nat.reduceMod]
 refine callS_of (isNaN_s _) ?_
 simp only [vZ,Int.reduceEq,Int.reduceNe,Int.reduceLT,Int.reduceLE,Nat.reduceEqDiff,Nat.reduceAdd,reduceIte,reduceCtorEq,Nat.reduceLT,Nat.reduceLeDiff,Nat.reduceShiftRight,Nat.reduceMod]
 refine callS_of (isNaN_s _) ?_
 simp only [vZ,Int.reduceEq,Int.reduceNe,Int.reduceLT,Int.reduceLE,Nat.reduceEqDiff,Nat.reduceAdd,reduceIte,reduceCtorEq,Nat.reduceLT,Nat.reduceLeDiff,Nat.reduceShiftRight,Nat.reduceMod]
 by_cases q:a<b
 ·simp only [q,decide_true,vZ,Int.reduceEq,Int.reduceNe,Int.reduceLT,Int.reduceLE,Nat.reduceEqDiff,Nat.reduceAdd,reduceIte,reduceCtorEq,Nat.reduceLT,Nat.reduceLeDiff,Nat.reduceShiftRight,Nat.reduceMod]
  simp [cI,q]
 ·simp only [q,decide_false,vZ,Int.reduceEq,Int.reduceNe,Int.reduceLT,Int.reduceLE,Nat.reduceEqDiff,Nat.reduceAdd,reduceIte,reduceCtorEq,Nat.reduceLT,Nat.reduceLeDiff,Nat.reduceShiftRight,Nat.reduceMod]
  by_cases q2:b<a
  ·simp only [q2,decide_true,vZ,Int.reduceEq,Int.reduceNe,Int.reduceLT,Int.reduceLE,Nat.reduceEqDiff,Nat.reduceAdd,reduceIte,reduceCtorEq,Nat.reduceLT,Nat.reduceLeDiff,Nat.reduceShiftRight,Nat.reduceMod]
   simp [cI,q,q2]
  ·simp only [q2,decide_false,vZ,Int.reduceEq,Int.reduceNe,Int.reduceLT,Int.reduceLE,Nat.reduceEqDiff,Nat.reduceAdd,reduceIte,reduceCtorEq,Nat.reduceLT,Nat.reduceLeDiff,Nat.reduceShiftRight,Nat.reduceMod]
   simp [cI,q,q2]
def V3.c (a b:V3):Int:=if cI a.x b.x ≠ 0 then cI a.x b.x else if cI a.y b.y ≠ 0 then cI a.y b.y else cI a.z b.z
def V3.lt (a b:V3):Prop:=a.x<b.x∨(a.x=b.x∧(a.y<b.y∨(a.y=b.y∧a.z<b.z)))
instance (a b:V3):Decidable (a.lt b):=by unfold V3.lt;infer_instance
theorem V3.c_lt (a b:V3):a.c b<0 ↔ a.lt b:=by
 unfold V3.c V3.lt cI
 (repeat' split) <;> omega
theorem Compare3_s (a b:V3):Sound Try.prog 56 [.sl a.l,.sl b.l] (.int .i64 (a.c b)):=by
 refine sound_W f_slices_Compare_int_int (Nat.le_of_ble_eq_true rfl) ?_
 simp only [c_slices_Compare_int_int,V3.l,rnd_s,Int.reduceAdd,Int.reduceSub,decide_true,decide_false,i64_1,i64_2,i64_3,i64_4,true_and,Int.one_mul,Int.cast_ofNat_Int,Int.reduceToNat,Nat.zero_mul,Nat.reduceMul,Nat.zero_add,Nat.mul_one,List.getElem?_cons_zero,List.getElem?_cons_succ,List.length_cons,List.length_nil,vZ,Int.reduceEq,Int.reduceNe,Int.reduceLT,Int.reduceLE,Nat.reduceEqDiff,Nat.reduceAdd,reduceIte,reduceCtorEq,Nat.reduceLT,Nat.reduceLeDiff,Nat.reduceShiftRight,Nat.reduceMod]
 refine W_rnd 4 ?_
 simp only [rnd_s,Int.reduceAdd,Int.reduceSub,decide_true,decide_false,i64_1,i64_2,i64_3,i64_4,true_and,Int.one_mul,Int.cast_ofNat_Int,Int.reduceToNat,Nat.zero_mul,Nat.reduceMul,Nat.zero_add,Nat.mul_one,List.getElem?_cons_zero,List.getElem?_cons_succ,List.length_cons,List.length_nil,vZ,Int.reduceEq,Int.reduceNe,Int.reduceLT,Int.reduceLE,Nat.reduceEqDiff,Nat.reduceAdd,reduceIte,reduceCtorEq,Nat.reduceLT,Nat.reduceLeDiff,Nat.reduceShiftRight,Nat.reduceMod]
 refine callS_of (Compare_s _ _) ?_
 by_cases q1:cI a.x b.x=0
 case neg =>
  simp only [q1,decide_false,Bool.not_false,rnd_s,Int.reduceAdd,Int.reduceSub,decide_true,decide_false,i64_1,i64_2,i64_3,i64_4,true_and,Int.one_mul,Int.cast_ofNat_Int,Int.reduceToNat,Nat.zero_mul,Nat.reduceMul,Nat.zero_add,Nat.mul_one,List.getElem?_cons_zero,List.getElem?_cons_succ,vZ,Int.reduceEq,Int.reduceNe,Int.reduceLT,Int.reduceLE,Nat.reduceEqDiff,Nat.reduceAdd,reduceIte,reduceCtorEq,Nat.reduceLT,Nat.reduceLeDiff,Nat.reduceShiftRight,Nat.reduceMod]
  simp [V3.c,q1]
 simp only [q1,decide_true,Bool.not_true,rnd_s,Int.reduceAdd,Int.reduceSub,decide_true,decide_false,i64_1,i64_2,i64_3,i64_4,true_and,Int.one_mul,Int.cast_ofNat_Int,Int.reduceToNat,Nat.zero_mul,Nat.reduceMul,Nat.zero_add,Nat.mul_one,List.getElem?_cons_zero,List.getElem?_cons_succ,List.length_cons,List.length_nil,vZ,Int.reduceEq,Int.reduceNe,Int.reduceLT,Int.reduceLE,Nat.reduceEqDiff,Nat.reduceAdd,reduceIte,reduceCtorEq,Nat.reduceLT,Nat.reduceLeDiff,Nat.reduceShiftRight,Nat.reduceMod]
 refine callS_of (Compare_s _ _) ?_
 by_cases q2:cI a.y b.y=0
 case neg =>
  simp only [q2,decide_false,Bool.not_false,rnd_s,Int.reduceAdd,Int.reduceSub,decide_true,decide_false,i64_1,i64_2,i64_3,i64_4,true_and,Int.one_mul,Int.cast_ofNat_Int,Int.reduceToNat,Nat.zero_mul,Nat.reduceMul,Nat.zero_add,Nat.mul_one,List.getElem?_cons_zero,List.getElem?_cons_succ,vZ,Int.reduceEq,Int.reduceNe,Int.reduceLT,Int.reduceLE,Nat.reduceEqDiff,Nat.reduceAdd,reduceIte,reduceCtorEq,Nat.reduceLT,Nat.reduceLeDiff,Nat.reduceShiftRight,Nat.reduceMod]
  simp [V3.c,q1,q2]
 simp only [q2,decide_true,Bool.not_true,rnd_s,Int.reduceAdd,Int.reduceSub,decide_true,decide_false,i64_1,i64_2,i64_3,i64_4,true_and,Int.one_mul,Int.cast_ofNat_Int,Int.reduceToNat,Nat.zero_mul,Nat.reduceMul,Nat.zero_add,Nat.mul_one,List.getElem?_cons_zero,List.getElem?_cons_succ,List.length_cons,List.length_nil,vZ,Int.reduceEq,Int.reduceNe,Int.reduceLT,Int.reduceLE,Nat.reduceEqDiff,Nat.reduceAdd,reduceIte,reduceCtorEq,Nat.reduceLT,Nat.reduceLeDiff,Nat.reduceShiftRight,Nat.reduceMod]
 refine callS_of (Compare_s _ _) ?_
 by_cases q3:cI a.z b.z=0
 case neg =>
  simp only [q3,decide_false,Bool.not_false,rnd_s,Int.reduceAdd,Int.reduceSub,decide_true,decide_false,i64_1,i64_2,i64_3,i64_4,true_and,Int.one_mul,Int.cast_ofNat_Int,Int.reduceToNat,Nat.zero_mul,Nat.reduceMul,Nat.zero_add,Nat.mul_one,List.getElem?_cons_zero,List.getElem?_cons_succ,vZ,Int.reduceEq,Int.reduceNe,Int.reduceLT,Int.reduceLE,Nat.reduceEqDiff,Nat.reduceAdd,reduceIte,reduceCtorEq,Nat.reduceLT,Nat.reduceLeDiff,Nat.reduceShiftRight,Nat.reduceMod]
  simp [V3.c,q1,q2]
 simp only [q3,decide_true,Bool.not_true,rnd_s,Int.reduceAdd,Int.reduceSub,decide_true,decide_false,i64_1,i64_2,i64_3,i64_4,true_and,Int.one_mul,Int.cast_ofNat_Int,Int.reduceToNat,Nat.zero_mul,Nat.reduceMul,Nat.zero_add,Nat.mul_one,List.getElem?_cons_zero,List.getElem?_cons_succ,List.length_cons,List.length_nil,vZ,Int.reduceEq,Int.reduceNe,Int.reduceLT,Int.reduceLE,Nat.reduceEqDiff,Nat.reduceAdd,reduceIte,reduceCtorEq,Nat.reduceLT,Nat.reduceLeDiff,Nat.reduceShiftRight,Nat.reduceMod]
 simp [V3.c,q1,q2,q3]

end Go.Proofs.Ytoiajhogondgcaa

/- Plain laws of tracks: what ranges hold,what is reached,halves. By an AI agent;nothing here is trusted. -/
namespace Go.Proofs.Ytoiajhogondgcaa
open Go.Av

def EN.has (r:EN) (x:Int):Prop:=r.lo≤x∧x≤r.hi
theorem lin_has {a b x:Int} (t:Int) (h1:a≤x) (h2:x≤b):min (a * t) (b * t)≤x * t∧x * t≤max (a * t) (b * t):=by
 by_cases ht:0≤t
 ·have g1:=Int.mul_le_mul_of_nonneg_right h1 ht
  have g2:=Int.mul_le_mul_of_nonneg_right h2 ht
  omega
 ·have g1:=Int.mul_le_mul_of_nonpos_right h1 (show t≤0 by omega)
  have g2:=Int.mul_le_mul_of_nonpos_right h2 (show t≤0 by omega)
  omega
theorem add_has {r s:EN} {x y:Int} (hx:r.has x) (hy:s.has y):(r.add s).has (x+y):=by
 unfold EN.has EN.add at *
 simp only
 omega
theorem mul_has {r s:EN} {x y:Int} (hx:r.has x) (hy:s.has y):(r.mul s).has (x * y):=by
 obtain ⟨h1,h2⟩:=hx
 obtain ⟨h3,h4⟩:=hy
 have a1:=lin_has s.lo h1 h2
 have a2:=lin_has s.hi h1 h2
 have a3:=lin_has x h3 h4
 rw [Int.mul_comm s.lo x,Int.mul_comm s.hi x,Int.mul_comm y x] at a3
 unfold EN.has EN.mul
 simp only
 generalize r.lo * s.lo=p at *
 generalize r.lo * s.hi=q at *
 generalize r.hi * s.lo=u at *
 generalize r.hi * s.hi=v at *
 omega
theorem sq_has {r:EN} {x:Int} (hx:r.has x):r.sq.has (x * x):=by
 obtain ⟨h1,h2⟩:=hx
 have a1:=lin_has r.lo h1 h2
 have a2:=lin_has r.hi h1 h2
 have a3:=lin_has x h1 h2
 have a4:0≤x * x:=by
  rcases Int.le_total 0 x with h | h
  ·exact Int.mul_nonneg h h
  ·exact Int.mul_nonneg_of_nonpos_of_nonpos h h
 rw [Int.mul_comm r.lo x,Int.mul_comm r.hi x] at a3
 unfold EN.sq
 split
 ·rename_i h
  unfold EN.has
  simp only
  have c1:r.hi * r.lo≤0:=Int.mul_nonpos_of_nonneg_of_nonpos h.2 h.1
  rw [Int.mul_comm r.lo r.hi] at a2
  have s1:0≤r.lo * r.lo:=Int.mul_nonneg_of_nonpos_of_nonpos h.1 h.1
  have s2:0≤r.hi * r.hi:=Int.mul_nonneg h.2 h.2
  omega
 ·rename_i h
  unfold EN.has
  simp only
  rcases (show 0<r.lo∨r.lo≤0 by omega) with g | g
  ·have b1:=Int.mul_le_mul h1 h1 (by omega) (show 0≤x by omega)
   have b2:=Int.mul_le_mul h2 h2 (show 0≤x by omega) (show 0≤r.hi by omega)
   omega
  ·have b1:=Int.mul_le_mul_of_nonpos_right h1 (show x≤0 by omega)
   have b2:=Int.mul_le_mul_of_nonpos_left (show r.lo≤0 by omega) h1
   have b3:=Int.mul_le_mul_of_nonpos_right h2 (show x≤0 by omega)
   have b4:=Int.mul_le_mul_of_nonpos_left (show r.hi≤0 by omega) h2
   omega

def TB.has (b:TB) (v:V3):Prop:=(b.lo.x≤v.x∧v.x≤b.hi.x)∧(b.lo.y≤v.y∧v.y≤b.hi.y)∧(b.lo.z≤v.z∧v.z≤b.hi.z)
instance (b:TB) (v:V3):Decidable (b.has v):=by unfold TB.has;infer_instance
theorem has_in {b:TB} {v:V3} (hb:b.Ok) (h:b.has v):v.in 20:=by
 obtain ⟨⟨⟨a1,a2⟩,⟨a3,a4⟩,a5,a6⟩,⟨⟨b1,b2⟩,⟨b3,b4⟩,b5,b6⟩,_⟩:=hb
 obtain ⟨⟨c1,c2⟩,⟨c3,c4⟩,c5,c6⟩:=h
 exact ⟨by omega,by omega,by omega⟩
theorem sqs_has {b:TB} {v:V3} (h:b.has v):b.sqs.has (v.dot v):=by
 have:=add_has (add_has (add_has (r:=EN.z) (x:=0) (by unfold EN.has EN.z;decide) (sq_has (r:=b.ex) h.1)) (sq_has (r:=b.ey) h.2.1)) (sq_has (r:=b.ez) h.2.2)
 rw [Int.zero_add] at this
 exact this
theorem common_of {m:TM} {b:TB} {v:V3} (h:b.has v) (hp:m.permits v):m.common b:=by
 obtain ⟨h1,h2⟩:=sqs_has h
 obtain ⟨p1,p2⟩:=hp
 exact ⟨by omega,by omega⟩
theorem rest_has {m:TM} {e:EN} {d a x:Int} (h:e.has x):(m.rest e d a).has (m.k * d - a * x):=by
 have h1:=mul_has h (s:=⟨-a, -a⟩) (y := -a) ⟨Int.le_refl _,Int.le_refl _⟩
 have h2:=add_has h1 (s:=⟨m.k * d,m.k * d⟩) (y:=m.k * d) ⟨Int.le_refl _,Int.le_refl _⟩
 have e:x * -a+m.k * d=m.k * d - a * x:=by rw [Int.mul_neg,Int.mul_comm x a];omega
 rw [e] at h2
 exact h2
theorem z_has:EN.z.has 0:=by unfold EN.has EN.z;decide
theorem left_has {m:TM} {b:TB} {v:V3} {p:TP} (h:b.has v):(m.aP3 b p).has ((m.left v p).dot v)∧(m.aL3 b p).has ((m.left v p).dot (m.left v p)):=by
 have r1:(m.rx b p).has (m.left v p).x:=rest_has h.1
 have r2:(m.ry b p).has (m.left v p).y:=rest_has h.2.1
 have r3:(m.rz b p).has (m.left v p).z:=rest_has h.2.2
 constructor
 ·have:=add_has (add_has (add_has z_has (mul_has r1 (s:=b.ex) h.1)) (mul_has r2 (s:=b.ey) h.2.1)) (mul_has r3 (s:=b.ez) h.2.2)
  rw [Int.zero_add] at this
  exact this
 ·have:=add_has (add_has (add_has z_has (sq_has r1)) (sq_has r2)) (sq_has r3)
  rw [Int.zero_add] at this
  exact this
theorem sq_nn (x:Int):0≤x * x:=by
 rcases Int.le_total 0 x with h | h
 ·exact Int.mul_nonneg h h
 ·exact Int.mul_nonneg_of_nonpos_of_nonpos h h
theorem dot_nn (v:V3):0≤v.dot v:=by
 have a:=sq_nn v.x
 have b:=sq_nn v.y
 have c:=sq_nn v.z
 unfold V3.dot;omega
theorem aF_has {m:TM} {b:TB} {v:V3} (h:b.has v) (hp:m.permits v):(m.aF b).has (v.dot v - m.slow):=by
 obtain ⟨h1,h2⟩:=sqs_has h
 obtain ⟨p1,p2⟩:=hp
 unfold EN.has TM.aF
 simp only
 omega
theorem ans_yes {m:TM} {b:TB} {v:V3} {p:TP} (hm:m.Ok) (h:b.has v) (hp:m.permits v) (ha:m.ans b p=2):m.reach v p:=by
 obtain ⟨⟨P1,P2⟩,L1,L2⟩:=left_has (m:=m) (p:=p) h
 obtain ⟨F1,F2⟩:=aF_has h hp
 have hs:=hm.s
 have hk:0≤v.dot v - m.slow:=by have:=hp.1;omega
 have hc:=dot_nn (m.left v p)
 unfold TM.ans at ha
 split at ha
 ·rename_i h1
  rcases h1 with h1 | ⟨h1,h2⟩
  ·exact .inl (by omega)
  ·refine .inr ⟨by omega,?_⟩
   have g1:(v.dot v - m.slow) * (m.left v p).dot (m.left v p)≤(m.aF b).hi * (m.aL3 b p).hi:=Int.mul_le_mul F2 L2 hc (by omega)
   have g2:(m.aP3 b p).hi * (m.aP3 b p).hi≤(m.left v p).dot v * (m.left v p).dot v:=by
    have a1:=Int.mul_le_mul_of_nonpos_right P2 (show (m.left v p).dot v≤0 by omega)
    have a2:=Int.mul_le_mul_of_nonpos_left h1 P2
    omega
   omega
 ·split at ha <;> cases ha
theorem ans_no {m:TM} {b:TB} {v:V3} {p:TP} (hm:m.Ok) (h:b.has v) (hp:m.permits v) (ha:m.ans b p=0):¬ m.reach v p:=by
 obtain ⟨⟨P1,P2⟩,L1,L2⟩:=left_has (m:=m) (p:=p) h
 obtain ⟨F1,F2⟩:=aF_has h hp
 have hs:=hm.s
 have hf:0≤(m.aF b).lo:=by unfold TM.aF;simp only;omega
 unfold TM.ans at ha
 split at ha
 ·cases ha
 ·split at ha
  ·rename_i _ h1
   obtain ⟨h1,h2⟩:=h1
   rintro (g | ⟨g1,g2⟩)
   ·omega
   ·rcases h2 with h2 | h2
    ·omega
    ·have a0:(m.aF b).lo * (m.aL3 b p).lo≤(v.dot v - m.slow) * (m.left v p).dot (m.left v p):=Int.mul_le_mul F1 L1 (by omega) (by omega)
     have a1:=Int.mul_le_mul_of_nonpos_right P1 g1
     have a2:=Int.mul_le_mul_of_nonpos_left (show (m.aP3 b p).lo≤0 by omega) P1
     omega
  ·cases ha
theorem slow_nn {m:TM} (hm:m.Ok):0≤m.slow:=by
 obtain ⟨hk,_,_,hl,_⟩:=hm.r
 unfold TM.slow
 exact Int.mul_nonneg (Int.mul_nonneg (by omega) (by omega)) (by omega)
theorem reach_mono {m:TM} {v:V3} {p q:TP} (hm:m.Ok) (hp:m.permits v) (he:p.p=q.p) (ht:p.t≤q.t) (h:m.reach v p):m.reach v q:=by
 have hs:=hm.s
 have hn:=slow_nn hm
 have hp1:=hp.1
 obtain ⟨d,hd,hd0⟩:∃ d,q.t=p.t+d∧0≤d:=⟨q.t - p.t,by omega,by omega⟩
 have ex:(m.left v q).x=(m.left v p).x - d * v.x:=by unfold TM.left;simp only [he,hd];grind
 have ey:(m.left v q).y=(m.left v p).y - d * v.y:=by unfold TM.left;simp only [he,hd];grind
 have ez:(m.left v q).z=(m.left v p).z - d * v.z:=by unfold TM.left;simp only [he,hd];grind
 have key:(m.left v p).dot v≤0∧(v.dot v - m.slow) * (m.left v p).dot (m.left v p)≤(m.left v p).dot v * (m.left v p).dot v:=by
  rcases h with h | h
  ·have a:=sq_nn (m.left v p).x
   have b:=sq_nn (m.left v p).y
   have c:=sq_nn (m.left v p).z
   have h':=h
   unfold V3.dot at h'
   have x0:(m.left v p).x=0:=by
    have:(m.left v p).x * (m.left v p).x=0:=by omega
    rcases Int.mul_eq_zero.1 this with h | h <;> exact h
   have y0:(m.left v p).y=0:=by
    have:(m.left v p).y * (m.left v p).y=0:=by omega
    rcases Int.mul_eq_zero.1 this with h | h <;> exact h
   have z0:(m.left v p).z=0:=by
    have:(m.left v p).z * (m.left v p).z=0:=by omega
    rcases Int.mul_eq_zero.1 this with h | h <;> exact h
   have b0:(m.left v p).dot v=0:=by unfold V3.dot;rw [x0,y0,z0];simp
   rw [h,b0];simp
  ·exact h
 obtain ⟨k1,k2⟩:=key
 have eB:(m.left v q).dot v=(m.left v p).dot v - d * v.dot v:=by unfold V3.dot;rw [ex,ey,ez];grind
 have eU:(m.left v q).dot (m.left v q)=(m.left v p).dot (m.left v p) - 2 * (d * (m.left v p).dot v)+d * d * v.dot v:=by unfold V3.dot;rw [ex,ey,ez];grind
 have hS:0≤v.dot v:=dot_nn v
 refine .inr ⟨?_,?_⟩
 ·rw [eB]
  have:=Int.mul_nonneg hd0 hS
  omega
 ·rw [eB,eU]
  generalize (m.left v p).dot v=B at *
  generalize (m.left v p).dot (m.left v p)=U at *
  generalize v.dot v=S at *
  generalize m.slow=w at *
  have g1:0≤d * (-B) * w:=Int.mul_nonneg (Int.mul_nonneg hd0 (by omega)) hn
  have g2:0≤d * d * S * w:=Int.mul_nonneg (Int.mul_nonneg (Int.mul_nonneg hd0 hd0) hS) hn
  have e:(B - d * S) * (B - d * S) - (S - w) * (U - 2 * (d * B)+d * d * S)=(B * B - (S - w) * U)+2 * (d * (-B) * w)+d * d * S * w:=by grind
  omega
end Go.Proofs.Ytoiajhogondgcaa

/- Plain laws of tracks: boxes of one step,scores in boxes,halves. By an AI agent;nothing here is trusted. -/
namespace Go.Proofs.Ytoiajhogondgcaa
open Go.Av

theorem hitR_le {m:TM} {b:TB} {v:V3} {h:TH} (hm:m.Ok) (hb:b.has v) (hp:m.permits v) (hh:h.ok):(m.hitR b h).lo≤m.pen v h:=by
 obtain ⟨w1,w2⟩:=weigh_bd hm hh
 have hea:=hm.r
 have ht:(m.late h).t≤(m.early h).t:=by
  obtain ⟨_,_,_,_,he,hl,_⟩:=hea
  unfold TM.early TM.late;simp only;omega
 have mono:=reach_mono (m:=m) (v:=v) (p:=m.late h) (q:=m.early h) hm hp rfl ht
 have no:=ans_no (m:=m) (b:=b) (v:=v) (p:=m.early h) hm hb hp
 have yes:=ans_yes (m:=m) (b:=b) (v:=v) (p:=m.late h) hm hb hp
 unfold TM.hitR TM.pen
 simp only
 by_cases e:m.ans b (m.early h)=0
 ·simp only [e,if_true,no e,if_false]
  split <;> omega
 ·simp only [e,if_false]
  by_cases l:m.ans b (m.late h)=2
  ·have r:=yes l
   simp only [l,if_true,mono r,r]
   omega
  ·simp only [l,if_false]
   (repeat' split) <;> omega
theorem scs_le {m:TM} {b:TB} {v:V3} (hm:m.Ok) (hb:b.has v) (hp:m.permits v):∀ {l:List TH},(∀ h ∈ l,h.ok)→(m.scs b l).lo≤m.score v l
 | [],_=>by simp [TM.scs,TM.score]
 | h :: l,ho=>by
  have a:=hitR_le hm hb hp (ho h (by simp))
  have c:=scs_le (l:=l) hm hb hp fun x hx=>ho x (by simp [hx])
  have d:(m.scs b (h :: l)).lo=(m.hitR b h).lo+(m.scs b l).lo:=by simp [TM.scs]
  have e:m.score v (h :: l)=m.pen v h+m.score v l:=by simp [TM.score]
  rw [d,e];omega

def EN.pt (x:Int):EN:=⟨x,x⟩
theorem add_pt (x y:Int):(EN.pt x).add (EN.pt y)=EN.pt (x+y):=rfl
theorem mul_pt (x y:Int):(EN.pt x).mul (EN.pt y)=EN.pt (x * y):=by unfold EN.mul EN.pt;simp
theorem sq_pt (x:Int):(EN.pt x).sq=EN.pt (x * x):=by
 unfold EN.sq EN.pt
 simp only
 split
 ·rename_i h
  have:x=0:=by omega
  subst this;simp
 ·simp
theorem z_pt:EN.z=EN.pt 0:=rfl
def TB.one (v:V3):TB:=⟨v,v⟩
theorem one_has (v w:V3):(TB.one v).has w ↔ w=v:=by
 cases v;cases w
 unfold TB.has TB.one
 simp only [V3.mk.injEq]
 omega
theorem one_sqs (v:V3):(TB.one v).sqs=EN.pt (v.dot v):=by
 have e:(TB.one v).sqs=((EN.z.add (EN.pt v.x).sq).add (EN.pt v.y).sq).add (EN.pt v.z).sq:=rfl
 rw [e,sq_pt,sq_pt,sq_pt,z_pt,add_pt,add_pt,add_pt]
 unfold V3.dot;congr 1;omega
theorem one_common {m:TM} {v:V3}:m.common (TB.one v) ↔ m.permits v:=by
 unfold TM.common TM.permits
 rw [one_sqs]
 unfold EN.pt
 exact Iff.rfl
theorem rest_pt (m:TM) (x d a:Int):m.rest (EN.pt x) d a=EN.pt (m.k * d - a * x):=by
 have e:m.rest (EN.pt x) d a=((EN.pt x).mul (EN.pt (-a))).add (EN.pt (m.k * d)):=rfl
 rw [e,mul_pt,add_pt]
 congr 1
 rw [Int.mul_neg,Int.mul_comm x a];omega
theorem one_P (m:TM) (v:V3) (p:TP):m.aP3 (TB.one v) p=EN.pt ((m.left v p).dot v):=by
 have e:m.aP3 (TB.one v) p=((EN.z.add ((m.rest (EN.pt v.x) (p.p.x - m.px) (p.t - m.t)).mul (EN.pt v.x))).add ((m.rest (EN.pt v.y) (p.p.y - m.py) (p.t - m.t)).mul (EN.pt v.y))).add ((m.rest (EN.pt v.z) (p.p.z - m.pz) (p.t - m.t)).mul (EN.pt v.z)):=rfl
 rw [e,rest_pt,rest_pt,rest_pt,mul_pt,mul_pt,mul_pt,z_pt,add_pt,add_pt,add_pt,Int.zero_add]
 rfl
theorem one_L (m:TM) (v:V3) (p:TP):m.aL3 (TB.one v) p=EN.pt ((m.left v p).dot (m.left v p)):=by
 have e:m.aL3 (TB.one v) p=((EN.z.add (m.rest (EN.pt v.x) (p.p.x - m.px) (p.t - m.t)).sq).add (m.rest (EN.pt v.y) (p.p.y - m.py) (p.t - m.t)).sq).add (m.rest (EN.pt v.z) (p.p.z - m.pz) (p.t - m.t)).sq:=rfl
 rw [e,rest_pt,rest_pt,rest_pt,sq_pt,sq_pt,sq_pt,z_pt,add_pt,add_pt,add_pt,Int.zero_add]
 rfl
theorem one_F {m:TM} {v:V3} (hp:m.permits v):m.aF (TB.one v)=EN.pt (v.dot v - m.slow):=by
 obtain ⟨p1,p2⟩:=hp
 unfold TM.aF
 rw [one_sqs]
 unfold EN.pt
 simp only
 congr 1 <;> omega
theorem one_ans {m:TM} {v:V3} (p:TP) (hp:m.permits v):m.ans (TB.one v) p=if m.reach v p then 2 else 0:=by
 have hc:=dot_nn (m.left v p)
 unfold TM.ans
 rw [one_P,one_L,one_F hp]
 unfold EN.pt
 simp only
 by_cases h:m.reach v p
 ·have h':(m.left v p).dot (m.left v p)=0∨(m.left v p).dot v≤0∧(v.dot v - m.slow) * (m.left v p).dot (m.left v p)≤(m.left v p).dot v * (m.left v p).dot v:=h
  rw [if_pos h',if_pos h]
 ·have h':¬ ((m.left v p).dot (m.left v p)=0∨(m.left v p).dot v≤0∧(v.dot v - m.slow) * (m.left v p).dot (m.left v p)≤(m.left v p).dot v * (m.left v p).dot v):=h
  rw [if_neg h',if_neg h,if_pos]
  refine ⟨by omega,?_⟩
  by_cases g:0<(m.left v p).dot v
  ·exact .inl g
  ·refine .inr ?_
   refine Decidable.byContradiction fun k=>h' (.inr ⟨by omega,by omega⟩)
theorem one_hitR {m:TM} {v:V3} {h:TH} (hm:m.Ok) (hp:m.permits v):(m.hitR (TB.one v) h).lo=m.pen v h:=by
 have hea:=hm.r
 have ht:(m.late h).t≤(m.early h).t:=by
  obtain ⟨_,_,_,_,he,hl,_⟩:=hea
  unfold TM.early TM.late;simp only;omega
 have mono:=reach_mono (m:=m) (v:=v) (p:=m.late h) (q:=m.early h) hm hp rfl ht
 unfold TM.hitR TM.pen
 simp only
 rw [one_ans (m.early h) hp,one_ans (m.late h) hp]
 by_cases e:m.reach v (m.early h)
 ·by_cases l:m.reach v (m.late h)
  ·simp [e,l]
  ·simp [e,l]
 ·have l:¬ m.reach v (m.late h):=fun g=>e (mono g)
  simp [e,l]
theorem one_scs {m:TM} {v:V3} (hm:m.Ok) (hp:m.permits v) (l:List TH):(m.scs (TB.one v) l).lo=m.score v l:=by
 unfold TM.scs TM.score
 simp only
 congr 1
 exact List.map_congr_left fun h _=>one_hitR hm hp

theorem mul_le2 {a b c d:Int} (h1:a≤b) (h2:c≤d) (h3:0≤c) (h4:0≤b):a * c≤b * d:=Int.mul_le_mul h1 h2 h3 h4
theorem one_of {b:TB} (hb:b.Ok) (hc:b.count=1):b=TB.one b.lo:=by
 obtain ⟨_,_,o1,o2,o3⟩:=hb
 have key:b.hi.x=b.lo.x∧b.hi.y=b.lo.y∧b.hi.z=b.lo.z:=by
  unfold TB.count at hc
  obtain ⟨p,hp⟩:∃ p,p=b.hi.x - b.lo.x+1:=⟨_,rfl⟩
  obtain ⟨q,hq⟩:∃ q,q=b.hi.y - b.lo.y+1:=⟨_,rfl⟩
  obtain ⟨r,hr⟩:∃ r,r=b.hi.z - b.lo.z+1:=⟨_,rfl⟩
  rw [← hp,← hq,← hr] at hc
  have p1:1≤p:=by omega
  have q1:1≤q:=by omega
  have r1:1≤r:=by omega
  have e1:=mul_le2 (a:=p) (b:=p) (c:=1) (d:=q) (Int.le_refl _) q1 (by omega) (by omega)
  have e2:=mul_le2 (a:=1) (b:=p) (c:=q) (d:=q) p1 (Int.le_refl _) (by omega) (by omega)
  have f1:=mul_le2 (a:=p * q) (b:=p * q) (c:=1) (d:=r) (Int.le_refl _) r1 (by omega) (by omega)
  have f2:=mul_le2 (a:=1) (b:=p * q) (c:=r) (d:=r) (by omega) (Int.le_refl _) (by omega) (by omega)
  omega
 obtain ⟨⟨a,b',c⟩,⟨d,e,f⟩⟩:=b
 obtain ⟨k1,k2,k3⟩:=key
 simp only at k1 k2 k3
 subst k1;subst k2;subst k3
 rfl
theorem count_pos {b:TB} (ho:b.ord):1≤b.count:=by
 obtain ⟨o1,o2,o3⟩:=ho
 unfold TB.count
 obtain ⟨p,hp⟩:∃ p,p=b.hi.x - b.lo.x+1:=⟨_,rfl⟩
 obtain ⟨q,hq⟩:∃ q,q=b.hi.y - b.lo.y+1:=⟨_,rfl⟩
 obtain ⟨r,hr⟩:∃ r,r=b.hi.z - b.lo.z+1:=⟨_,rfl⟩
 rw [← hp,← hq,← hr]
 have p1:1≤p:=by omega
 have q1:1≤q:=by omega
 have r1:1≤r:=by omega
 have e1:=mul_le2 (a:=1) (b:=p) (c:=1) (d:=q) p1 q1 (by omega) (by omega)
 have f1:=mul_le2 (a:=1) (b:=p * q) (c:=1) (d:=r) (by omega) r1 (by omega) (by omega)
 omega
theorem count_lt {b:TB} (ho:b.ord) (hc:1<b.count):b.lo.x<b.hi.x∨b.lo.y<b.hi.y∨b.lo.z<b.hi.z:=by
 obtain ⟨o1,o2,o3⟩:=ho
 refine Decidable.byContradiction fun h=>?_
 have e1:b.hi.x=b.lo.x:=by omega
 have e2:b.hi.y=b.lo.y:=by omega
 have e3:b.hi.z=b.lo.z:=by omega
 have:b.count=1:=by unfold TB.count;rw [e1,e2,e3];simp
 omega
theorem halves_ok {b:TB} (hb:b.Ok) (hc:1<b.count):b.h1.Ok∧b.h2.Ok∧b.h1.count+b.h2.count=b.count∧(∀ v,b.has v ↔ b.h1.has v∨b.h2.has v)∧b.h1.in b∧b.h2.in b∧b.h1.apart b.h2:=by
 have hlt:=count_lt hb.o hc
 obtain ⟨⟨⟨a1,a2⟩,⟨a3,a4⟩,a5,a6⟩,⟨⟨b1,b2⟩,⟨b3,b4⟩,b5,b6⟩,o1,o2,o3⟩:=hb
 have hs:(b.side=0∧b.lo.x<b.hi.x)∨(b.side=1∧b.lo.y<b.hi.y)∨(b.side=2∧b.lo.z<b.hi.z):=by
  unfold TB.side
  (repeat' split) <;> omega
 rcases hs with ⟨hs,hl⟩ | ⟨hs,hl⟩ | ⟨hs,hl⟩ <;> (
  refine ⟨⟨?_,?_,?_⟩,⟨?_,?_,?_⟩,?_,fun v=>?_,?_,?_,?_⟩ <;> simp only [TB.h1,TB.h2,hs,TB.ord,V3.in,TB.count,TB.has,TB.in,TB.apart] <;> first
   | omega
   | grind)
end Go.Proofs.Ytoiajhogondgcaa

/- The contract of best: it writes the step that is known. By an AI agent;nothing here is trusted. -/
namespace Go.Proofs.Ytoiajhogondgcaa
open Go.Av

structure KN where
 s:V3
 n:Int
def KN.av (k:KN):AV:=.agg [.int .i64 k.s.x,.int .i64 k.s.y,.int .i64 k.s.z,.int .i64 k.n]
def V3.o:V3:=⟨0,0,0⟩
def TM.best (m:TM) (l:List TH):Nat→TB→KN→KN
 | 0,_,k=>k
 | f+1,b,k=>if ¬ m.common b then k else if k.s ≠ V3.o∧k.n<(m.scs b l).lo then k else if 1<b.count then TM.best m l f b.h2 (TM.best m l f b.h1 k) else
  if k.s=V3.o∨m.score b.lo l<k.n∨(m.score b.lo l=k.n∧b.lo.lt k.s) then ⟨b.lo,m.score b.lo l⟩ else k

def endX (k ty sz:Nat) (es:List AV) (x:Exit) (_:Env) (s:Store):Prop:=(x=.normal∨x=.ret)∧s k=some (some ⟨ty,sz,es⟩)
theorem endX_n (k ty sz:Nat) (es:List AV) (e:Env) (s:Store):endX k ty sz es .normal e s=(s k=some (some ⟨ty,sz,es⟩)):=by simp [endX]
theorem endX_r (k ty sz:Nat) (es:List AV) (e:Env) (s:Store):endX k ty sz es .ret e s=(s k=some (some ⟨ty,sz,es⟩)):=by simp [endX]
theorem sound_WX {P:Program} {f:FuncId} {nt np:Nat} {m:MC} (hF:cFun P f=some (nt,np,m,[])) {args:List AV} (hla:args.length≤nt) {k ty sz:Nat} (hsz:0<sz) {es es2:List AV} (hs2:scalE es2=true)
  (h:WX P nt k m (endX k ty sz es2) (argE args) (upd noStore k (some (some ⟨ty,sz,es⟩))) .mk):SoundX P f args k ty sz es (.tup []) es2 :=
 sound_XX hF hla hsz rfl hs2 ((WX_sound h).mono fun x e s ⟨h1,h2⟩=>⟨h1,rfl,h2⟩)

theorem SoundX_eq {P:Program} {f:FuncId} {args args':List AV} {k ty sz:Nat} {es:List AV} {v:AV} {es2:List AV} (h:SoundX P f args k ty sz es v es2) (he:args'=args):SoundX P f args' k ty sz es v es2:=he ▸ h
theorem borX_p (s:Store) (k i o:Nat):borX s k (.ptr k i o)=.ptr k i o:=by simp [borX,isRefK]
theorem borX_fx {s:Store} {k:Nat} {x:AV} (h:fx x=true):borX s k x=x:=by
 unfold borX
 split
 ·rfl
 ·exact (fx_spec h).2 s 5
theorem hn_of {s:Store} {k:Nat} {vs:List AV} (h:(vs.all fun x=>imm x || isRefK k x)=true):∀ x ∈ vs,isRefK k x=false→k ∉ refs s 5 x:=by
 intro x hx hr hk
 have:=List.all_eq_true.1 h x hx
 rw [hr,Bool.or_false] at this
 rw [refs_imm s this] at hk
 cases hk
theorem hz0:(decide (V3.o.x=0) && (decide (V3.o.y=0) && decide (V3.o.z=0)))=true:=rfl
theorem tk_slice (g:Option (Nat × Bool)) (d:Option Nat) (str:Bool) (sz:Nat) (x a b:MX) (e:Env):tkM ⟨g,d,.slice str sz x (some a) (some b)⟩ e=some (refs1 (x.ev e) ++ (refs1 (a.ev e) ++ refs1 (b.ev e))):=by simp [tkM,tk,pureOp,xsOf,allocs]
theorem refs1_vw (k i o n:Nat):refs1 (.vw k i o n)=[k]:=rfl
theorem usedL_vw2 {nk:Bool} {s:Store} {k i o n k' i' o' n':Nat} (h:s k ≠ none) (h':s k' ≠ none):usedL nk s (refsL s 5 [.vw k i o n,.vw k' i' o' n']):=fun _ j hj=>by
 have:j=k∨j=k':=by simpa [refsL,refs] using hj
 rcases this with rfl | rfl
 ·exact h
 ·exact h'
theorem V3.o_iff (v:V3):v=V3.o ↔ v.x=0∧v.y=0∧v.z=0:=by
 cases v
 unfold V3.o
 exact V3.mk.injEq .. ▸ Iff.rfl
theorem kn_zero (k:KN):(decide (k.s.x=0) && (decide (k.s.y=0) && decide (k.s.z=0)))=decide (k.s=V3.o):=by
 apply Bool.eq_iff_iff.2
 rw [decide_eq_true_eq,V3.o_iff,Bool.and_eq_true,Bool.and_eq_true,decide_eq_true_eq,decide_eq_true_eq,decide_eq_true_eq]
set_option maxHeartbeats 2000000 in
set_option maxRecDepth 10000 in
theorem best_s (m:TM) (l:List TH) (hm:m.Ok) (hl:l.length≤1000000) (ho:∀ h ∈ l,h.ok):∀ (f:Nat) (b:TB) (k:KN),b.Ok→b.count≤f →
  SoundX Try.prog 29 [m.av,b.av,.sl (hitsL l),.ptr 1000 0 0] 1000 75 4 [k.av] (.tup []) [(TM.best m l f b k).av]:=by
 intro f
 induction f with
 | zero =>
  intro b k hb hc
  have:=count_pos hb.o
  omega
 | succ f ih =>
  intro b k hb hc
  refine sound_WX f_track_model_best (Nat.le_of_ble_eq_true rfl) (by decide) rfl ?_
  simp only [c_track_model_best,TM.av,TB.av,WX_skip,WX_reg,WX_seq,WX_cond,WX_block,WX_exit,WX_ret,endX_n,endX_r,rnd_s,Int.reduceAdd,Int.reduceSub,decide_true,decide_false,i64_1,i64_2,i64_3,i64_4,true_and,Int.one_mul,Int.cast_ofNat_Int,Int.reduceToNat,Nat.zero_mul,Nat.reduceMul,Nat.zero_add,Nat.mul_one,List.getElem?_cons_zero,List.getElem?_cons_succ,vZ,Int.reduceEq,Int.reduceNe,Int.reduceLT,Int.reduceLE,Nat.reduceEqDiff,Nat.reduceAdd,reduceIte,reduceCtorEq,Nat.reduceLT,Nat.reduceLeDiff,Nat.reduceShiftRight,Nat.reduceMod]
  refine callS_of (squares_s m b hb) ?_
  by_cases q0:m.common b
  case neg =>
   have e:TM.best m l (f+1) b k=k:=by simp [TM.best,q0]
   simp only [q0,e,decide_false,Bool.not_false,EN.av,WX_skip,WX_reg,WX_seq,WX_cond,WX_block,WX_exit,WX_ret,endX_n,endX_r,rnd_s,Int.reduceAdd,Int.reduceSub,decide_true,decide_false,i64_1,i64_2,i64_3,i64_4,true_and,Int.one_mul,Int.cast_ofNat_Int,Int.reduceToNat,Nat.zero_mul,Nat.reduceMul,Nat.zero_add,Nat.mul_one,List.getElem?_cons_zero,List.getElem?_cons_succ,vZ,Int.reduceEq,Int.reduceNe,Int.reduceLT,Int.reduceLE,Nat.reduceEqDiff,Nat.reduceAdd,reduceIte,reduceCtorEq,Nat.reduceLT,Nat.reduceLeDiff,Nat.reduceShiftRight,Nat.reduceMod]
  simp only [q0,KN.av,decide_true,Bool.not_true,EN.av,WX_skip,WX_reg,WX_seq,WX_cond,WX_block,WX_exit,WX_ret,endX_n,endX_r,rnd_s,Int.reduceAdd,Int.reduceSub,decide_true,decide_false,i64_1,i64_2,i64_3,i64_4,true_and,Int.one_mul,Int.cast_ofNat_Int,Int.reduceToNat,Nat.zero_mul,Nat.reduceMul,Nat.zero_add,Nat.mul_one,List.getElem?_cons_zero,List.getElem?_cons_succ,vZ,Int.reduceEq,Int.reduceNe,Int.reduceLT,Int.reduceLE,Nat.reduceEqDiff,Nat.reduceAdd,reduceIte,reduceCtorEq,Nat.reduceLT,Nat.reduceLeDiff,Nat.reduceShiftRight,Nat.reduceMod]
  have hzz:=kn_zero k
  simp only [hzz]
  by_cases z:k.s=V3.o
  case pos =>
   simp only [z,decide_true,Bool.not_true,WX_skip,WX_reg,WX_seq,WX_cond,WX_block,WX_exit,WX_ret,endX_n,endX_r,rnd_s,Int.reduceAdd,Int.reduceSub,decide_true,decide_false,i64_1,i64_2,i64_3,i64_4,true_and,Int.one_mul,Int.cast_ofNat_Int,Int.reduceToNat,Nat.zero_mul,Nat.reduceMul,Nat.zero_add,Nat.mul_one,List.getElem?_cons_zero,List.getElem?_cons_succ,vZ,Int.reduceEq,Int.reduceNe,Int.reduceLT,Int.reduceLE,Nat.reduceEqDiff,Nat.reduceAdd,reduceIte,reduceCtorEq,Nat.reduceLT,Nat.reduceLeDiff,Nat.reduceShiftRight,Nat.reduceMod]
   refine callS_of (count_s b hb.l hb.h) ?_
   simp only [EN.av,WX_skip,WX_reg,WX_seq,WX_cond,WX_block,WX_exit,WX_ret,endX_n,endX_r,rnd_s,Int.reduceAdd,Int.reduceSub,decide_true,decide_false,i64_1,i64_2,i64_3,i64_4,true_and,Int.one_mul,Int.cast_ofNat_Int,Int.reduceToNat,Nat.zero_mul,Nat.reduceMul,Nat.zero_add,Nat.mul_one,List.getElem?_cons_zero,List.getElem?_cons_succ,vZ,Int.reduceEq,Int.reduceNe,Int.reduceLT,Int.reduceLE,Nat.reduceEqDiff,Nat.reduceAdd,reduceIte,reduceCtorEq,Nat.reduceLT,Nat.reduceLeDiff,Nat.reduceShiftRight,Nat.reduceMod]
   by_cases c1:1<b.count
   case pos =>
    have g1:=(halves_ok hb c1).1
    have g2:=(halves_ok hb c1).2.1
    have g3:=(halves_ok hb c1).2.2.1
    have n1:=count_pos g1.o
    have n2:=count_pos g2.o
    simp only [c1,decide_true,WX_skip,WX_reg,WX_seq,WX_cond,WX_block,WX_exit,WX_ret,endX_n,endX_r,rnd_s,Int.reduceAdd,Int.reduceSub,decide_true,decide_false,i64_1,i64_2,i64_3,i64_4,true_and,Int.one_mul,Int.cast_ofNat_Int,Int.reduceToNat,Nat.zero_mul,Nat.reduceMul,Nat.zero_add,Nat.mul_one,List.getElem?_cons_zero,List.getElem?_cons_succ,vZ,Int.reduceEq,Int.reduceNe,Int.reduceLT,Int.reduceLE,Nat.reduceEqDiff,Nat.reduceAdd,reduceIte,reduceCtorEq,Nat.reduceLT,Nat.reduceLeDiff,Nat.reduceShiftRight,Nat.reduceMod]
    refine callS_of (halves_s b hb.l hb.h hb.o) ?_
    simp only [pairB,WX_skip,WX_reg,WX_seq,WX_cond,WX_block,WX_exit,WX_ret,endX_n,endX_r,rnd_s,Int.reduceAdd,Int.reduceSub,decide_true,decide_false,i64_1,i64_2,i64_3,i64_4,true_and,Int.one_mul,Int.cast_ofNat_Int,Int.reduceToNat,Nat.zero_mul,Nat.reduceMul,Nat.zero_add,Nat.mul_one,List.getElem?_cons_zero,List.getElem?_cons_succ,vZ,Int.reduceEq,Int.reduceNe,Int.reduceLT,Int.reduceLE,Nat.reduceEqDiff,Nat.reduceAdd,reduceIte,reduceCtorEq,Nat.reduceLT,Nat.reduceLeDiff,Nat.reduceShiftRight,Nat.reduceMod]
    refine WX_rnd 3 ?_
    refine rndX_of (envOf [(2,.sl (hitsL l)),(3,.ptr 1000 0 0),(4,.ptr 4 0 0),(44,pairB b.h1 b.h2),(45,.int .i64 0)],stOf [(4,⟨70,12,[m.av]⟩),(1000,⟨75,4,[k.av]⟩)]) ?_ ?_
    ·refine weakXX [] rfl (of_decide_eq_true rfl) (of_decide_eq_true rfl) ?_
     (simp only [TM.av,TB.av,KN.av,pairB,z,vcW,vZ,Int.reduceEq,Int.reduceNe,Int.reduceLT,Int.reduceLE,Nat.reduceEqDiff,Nat.reduceAdd,reduceIte,reduceCtorEq,Nat.reduceLT,Nat.reduceLeDiff,Nat.reduceShiftRight,Nat.reduceMod])
     (repeat' first | exact trivial | (with_reducible first | exact RnB.fxB (ints_fxB _) | rfl | refine And.intro ?_ ?_) | (with_reducible (first | refine RnB.bb ?_ | refine RnB.nb ?_);simp only [vcW,vZ,Int.reduceEq,Int.reduceNe,Int.reduceLT,Int.reduceLE,Nat.reduceEqDiff,Nat.reduceAdd,reduceIte,reduceCtorEq,Nat.reduceLT,Nat.reduceLeDiff,Nat.reduceShiftRight,Nat.reduceMod]) | (with_reducible first | refine RnB.ii ?_ | refine RnB.app ?_) | (with_reducible refine RnB.fxB ?_;simp only [vcW,vZ,Int.reduceEq,Int.reduceNe,Int.reduceLT,Int.reduceLE,Nat.reduceEqDiff,Nat.reduceAdd,reduceIte,reduceCtorEq,Nat.reduceLT,Nat.reduceLeDiff,Nat.reduceShiftRight,Nat.reduceMod]) | omega)
     all_goals first | rfl | exact RnB.fxB rfl
    simp only [TM.av,KN.av,pairB,WX_skip,WX_reg,WX_seq,WX_cond,WX_block,WX_exit,WX_ret,endX_n,endX_r,rnd_s,Int.reduceAdd,Int.reduceSub,decide_true,decide_false,i64_1,i64_2,i64_3,i64_4,true_and,Int.one_mul,Int.cast_ofNat_Int,Int.reduceToNat,Nat.zero_mul,Nat.reduceMul,Nat.zero_add,Nat.mul_one,List.getElem?_cons_zero,List.getElem?_cons_succ,vZ,Int.reduceEq,Int.reduceNe,Int.reduceLT,Int.reduceLE,Nat.reduceEqDiff,Nat.reduceAdd,reduceIte,reduceCtorEq,Nat.reduceLT,Nat.reduceLeDiff,Nat.reduceShiftRight,Nat.reduceMod]
    refine callS_X 1000 (es2:=[(TM.best m l f b.h1 k).av]) (v:=.tup []) (SoundX_eq (ih b.h1 k g1 (by omega)) (by simp only [borX_p,borX_fx,TM.av,TB.av,KN.av,WX_skip,WX_reg,WX_seq,WX_cond,WX_block,WX_exit,WX_ret,endX_n,endX_r,rnd_s,Int.reduceAdd,Int.reduceSub,decide_true,decide_false,i64_1,i64_2,i64_3,i64_4,true_and,Int.one_mul,Int.cast_ofNat_Int,Int.reduceToNat,Nat.zero_mul,Nat.reduceMul,Nat.zero_add,Nat.mul_one,List.getElem?_cons_zero,List.getElem?_cons_succ,vZ,Int.reduceEq,Int.reduceNe,Int.reduceLT,Int.reduceLE,Nat.reduceEqDiff,Nat.reduceAdd,reduceIte,reduceCtorEq,Nat.reduceLT,Nat.reduceLeDiff,Nat.reduceShiftRight,Nat.reduceMod])) (by simp only [KN.av,WX_skip,WX_reg,WX_seq,WX_cond,WX_block,WX_exit,WX_ret,endX_n,endX_r,rnd_s,Int.reduceAdd,Int.reduceSub,decide_true,decide_false,i64_1,i64_2,i64_3,i64_4,true_and,Int.one_mul,Int.cast_ofNat_Int,Int.reduceToNat,Nat.zero_mul,Nat.reduceMul,Nat.zero_add,Nat.mul_one,List.getElem?_cons_zero,List.getElem?_cons_succ,vZ,Int.reduceEq,Int.reduceNe,Int.reduceLT,Int.reduceLE,Nat.reduceEqDiff,Nat.reduceAdd,reduceIte,reduceCtorEq,Nat.reduceLT,Nat.reduceLeDiff,Nat.reduceShiftRight,Nat.reduceMod]) rfl rfl rfl (hn_of rfl) ?_ ?_
    ·exact ⟨0,0,by simp⟩
    simp only [TM.av,KN.av,WX_skip,WX_reg,WX_seq,WX_cond,WX_block,WX_exit,WX_ret,endX_n,endX_r,rnd_s,Int.reduceAdd,Int.reduceSub,decide_true,decide_false,i64_1,i64_2,i64_3,i64_4,true_and,Int.one_mul,Int.cast_ofNat_Int,Int.reduceToNat,Nat.zero_mul,Nat.reduceMul,Nat.zero_add,Nat.mul_one,List.getElem?_cons_zero,List.getElem?_cons_succ,vZ,Int.reduceEq,Int.reduceNe,Int.reduceLT,Int.reduceLE,Nat.reduceEqDiff,Nat.reduceAdd,reduceIte,reduceCtorEq,Nat.reduceLT,Nat.reduceLeDiff,Nat.reduceShiftRight,Nat.reduceMod]
    refine rndX_of (envOf [(2,.sl (hitsL l)),(3,.ptr 1000 0 0),(4,.ptr 4 0 0),(44,pairB b.h1 b.h2),(45,.int .i64 1)],stOf [(4,⟨70,12,[m.av]⟩),(1000,⟨75,4,[(TM.best m l f b.h1 k).av]⟩)]) ?_ ?_
    ·refine weakXX [] rfl (of_decide_eq_true rfl) (of_decide_eq_true rfl) ?_
     (simp only [TM.av,TB.av,KN.av,pairB,z,vcW,vZ,Int.reduceEq,Int.reduceNe,Int.reduceLT,Int.reduceLE,Nat.reduceEqDiff,Nat.reduceAdd,reduceIte,reduceCtorEq,Nat.reduceLT,Nat.reduceLeDiff,Nat.reduceShiftRight,Nat.reduceMod])
     (repeat' first | exact trivial | (with_reducible first | exact RnB.fxB (ints_fxB _) | rfl | refine And.intro ?_ ?_) | (with_reducible (first | refine RnB.bb ?_ | refine RnB.nb ?_);simp only [vcW,vZ,Int.reduceEq,Int.reduceNe,Int.reduceLT,Int.reduceLE,Nat.reduceEqDiff,Nat.reduceAdd,reduceIte,reduceCtorEq,Nat.reduceLT,Nat.reduceLeDiff,Nat.reduceShiftRight,Nat.reduceMod]) | (with_reducible first | refine RnB.ii ?_ | refine RnB.app ?_) | (with_reducible refine RnB.fxB ?_;simp only [vcW,vZ,Int.reduceEq,Int.reduceNe,Int.reduceLT,Int.reduceLE,Nat.reduceEqDiff,Nat.reduceAdd,reduceIte,reduceCtorEq,Nat.reduceLT,Nat.reduceLeDiff,Nat.reduceShiftRight,Nat.reduceMod]) | omega)
     all_goals first | rfl | exact RnB.fxB rfl
    simp only [TM.av,KN.av,pairB,WX_skip,WX_reg,WX_seq,WX_cond,WX_block,WX_exit,WX_ret,endX_n,endX_r,rnd_s,Int.reduceAdd,Int.reduceSub,decide_true,decide_false,i64_1,i64_2,i64_3,i64_4,true_and,Int.one_mul,Int.cast_ofNat_Int,Int.reduceToNat,Nat.zero_mul,Nat.reduceMul,Nat.zero_add,Nat.mul_one,List.getElem?_cons_zero,List.getElem?_cons_succ,vZ,Int.reduceEq,Int.reduceNe,Int.reduceLT,Int.reduceLE,Nat.reduceEqDiff,Nat.reduceAdd,reduceIte,reduceCtorEq,Nat.reduceLT,Nat.reduceLeDiff,Nat.reduceShiftRight,Nat.reduceMod]
    refine callS_X 1000 (es2:=[(TM.best m l f b.h2 (TM.best m l f b.h1 k)).av]) (v:=.tup []) (SoundX_eq (ih b.h2 (TM.best m l f b.h1 k) g2 (by omega)) (by simp only [borX_p,borX_fx,TM.av,TB.av,KN.av,WX_skip,WX_reg,WX_seq,WX_cond,WX_block,WX_exit,WX_ret,endX_n,endX_r,rnd_s,Int.reduceAdd,Int.reduceSub,decide_true,decide_false,i64_1,i64_2,i64_3,i64_4,true_and,Int.one_mul,Int.cast_ofNat_Int,Int.reduceToNat,Nat.zero_mul,Nat.reduceMul,Nat.zero_add,Nat.mul_one,List.getElem?_cons_zero,List.getElem?_cons_succ,vZ,Int.reduceEq,Int.reduceNe,Int.reduceLT,Int.reduceLE,Nat.reduceEqDiff,Nat.reduceAdd,reduceIte,reduceCtorEq,Nat.reduceLT,Nat.reduceLeDiff,Nat.reduceShiftRight,Nat.reduceMod])) (by simp only [KN.av,WX_skip,WX_reg,WX_seq,WX_cond,WX_block,WX_exit,WX_ret,endX_n,endX_r,rnd_s,Int.reduceAdd,Int.reduceSub,decide_true,decide_false,i64_1,i64_2,i64_3,i64_4,true_and,Int.one_mul,Int.cast_ofNat_Int,Int.reduceToNat,Nat.zero_mul,Nat.reduceMul,Nat.zero_add,Nat.mul_one,List.getElem?_cons_zero,List.getElem?_cons_succ,vZ,Int.reduceEq,Int.reduceNe,Int.reduceLT,Int.reduceLE,Nat.reduceEqDiff,Nat.reduceAdd,reduceIte,reduceCtorEq,Nat.reduceLT,Nat.reduceLeDiff,Nat.reduceShiftRight,Nat.reduceMod]) rfl rfl rfl (hn_of rfl) ?_ ?_
    ·exact ⟨0,0,by simp⟩
    simp only [TM.av,KN.av,WX_skip,WX_reg,WX_seq,WX_cond,WX_block,WX_exit,WX_ret,endX_n,endX_r,rnd_s,Int.reduceAdd,Int.reduceSub,decide_true,decide_false,i64_1,i64_2,i64_3,i64_4,true_and,Int.one_mul,Int.cast_ofNat_Int,Int.reduceToNat,Nat.zero_mul,Nat.reduceMul,Nat.zero_add,Nat.mul_one,List.getElem?_cons_zero,List.getElem?_cons_succ,vZ,Int.reduceEq,Int.reduceNe,Int.reduceLT,Int.reduceLE,Nat.reduceEqDiff,Nat.reduceAdd,reduceIte,reduceCtorEq,Nat.reduceLT,Nat.reduceLeDiff,Nat.reduceShiftRight,Nat.reduceMod]
    refine rndX_of (envOf [(2,.sl (hitsL l)),(3,.ptr 1000 0 0),(4,.ptr 4 0 0),(44,pairB b.h1 b.h2),(45,.int .i64 2)],stOf [(4,⟨70,12,[m.av]⟩),(1000,⟨75,4,[(TM.best m l f b.h2 (TM.best m l f b.h1 k)).av]⟩)]) ?_ ?_
    ·refine weakXX [] rfl (of_decide_eq_true rfl) (of_decide_eq_true rfl) ?_
     (simp only [TM.av,TB.av,KN.av,pairB,z,vcW,vZ,Int.reduceEq,Int.reduceNe,Int.reduceLT,Int.reduceLE,Nat.reduceEqDiff,Nat.reduceAdd,reduceIte,reduceCtorEq,Nat.reduceLT,Nat.reduceLeDiff,Nat.reduceShiftRight,Nat.reduceMod])
     (repeat' first | exact trivial | (with_reducible first | exact RnB.fxB (ints_fxB _) | rfl | refine And.intro ?_ ?_) | (with_reducible (first | refine RnB.bb ?_ | refine RnB.nb ?_);simp only [vcW,vZ,Int.reduceEq,Int.reduceNe,Int.reduceLT,Int.reduceLE,Nat.reduceEqDiff,Nat.reduceAdd,reduceIte,reduceCtorEq,Nat.reduceLT,Nat.reduceLeDiff,Nat.reduceShiftRight,Nat.reduceMod]) | (with_reducible first | refine RnB.ii ?_ | refine RnB.app ?_) | (with_reducible refine RnB.fxB ?_;simp only [vcW,vZ,Int.reduceEq,Int.reduceNe,Int.reduceLT,Int.reduceLE,Nat.reduceEqDiff,Nat.reduceAdd,reduceIte,reduceCtorEq,Nat.reduceLT,Nat.reduceLeDiff,Nat.reduceShiftRight,Nat.reduceMod]) | omega)
     all_goals first | rfl | exact RnB.fxB rfl
    simp only [TM.av,KN.av,pairB,WX_skip,WX_reg,WX_seq,WX_cond,WX_block,WX_exit,WX_ret,endX_n,endX_r,rnd_s,Int.reduceAdd,Int.reduceSub,decide_true,decide_false,i64_1,i64_2,i64_3,i64_4,true_and,Int.one_mul,Int.cast_ofNat_Int,Int.reduceToNat,Nat.zero_mul,Nat.reduceMul,Nat.zero_add,Nat.mul_one,List.getElem?_cons_zero,List.getElem?_cons_succ,vZ,Int.reduceEq,Int.reduceNe,Int.reduceLT,Int.reduceLE,Nat.reduceEqDiff,Nat.reduceAdd,reduceIte,reduceCtorEq,Nat.reduceLT,Nat.reduceLeDiff,Nat.reduceShiftRight,Nat.reduceMod]
    have e:TM.best m l (f+1) b k=(TM.best m l f b.h2 (TM.best m l f b.h1 k)):=by simp [TM.best,q0,z,c1]
    rw [e]
   simp only [c1,decide_false,WX_skip,WX_reg,WX_seq,WX_cond,WX_block,WX_exit,WX_ret,endX_n,endX_r,rnd_s,Int.reduceAdd,Int.reduceSub,decide_true,decide_false,i64_1,i64_2,i64_3,i64_4,true_and,Int.one_mul,Int.cast_ofNat_Int,Int.reduceToNat,Nat.zero_mul,Nat.reduceMul,Nat.zero_add,Nat.mul_one,List.getElem?_cons_zero,List.getElem?_cons_succ,vZ,Int.reduceEq,Int.reduceNe,Int.reduceLT,Int.reduceLE,Nat.reduceEqDiff,Nat.reduceAdd,reduceIte,reduceCtorEq,Nat.reduceLT,Nat.reduceLeDiff,Nat.reduceShiftRight,Nat.reduceMod]
   refine callS_of (score_s m b.lo l hm hb.l hl ho) ?_
   have e:TM.best m l (f+1) b k=⟨b.lo,m.score b.lo l⟩:=by simp [TM.best,q0,z,c1]
   simp only [V3.av,hz0,e,KN.av,tk_slice,refs1_vw,tk_indexArr,WX_skip,WX_reg,WX_seq,WX_cond,WX_block,WX_exit,WX_ret,endX_n,endX_r,rnd_s,Int.reduceAdd,Int.reduceSub,decide_true,decide_false,i64_1,i64_2,i64_3,i64_4,true_and,Int.one_mul,Int.cast_ofNat_Int,Int.reduceToNat,Nat.zero_mul,Nat.reduceMul,Nat.zero_add,Nat.mul_one,List.getElem?_cons_zero,List.getElem?_cons_succ,vZ,Int.reduceEq,Int.reduceNe,Int.reduceLT,Int.reduceLE,Nat.reduceEqDiff,Nat.reduceAdd,reduceIte,reduceCtorEq,Nat.reduceLT,Nat.reduceLeDiff,Nat.reduceShiftRight,Nat.reduceMod]
  case neg =>
   simp only [z,decide_false,Bool.not_false,WX_skip,WX_reg,WX_seq,WX_cond,WX_block,WX_exit,WX_ret,endX_n,endX_r,rnd_s,Int.reduceAdd,Int.reduceSub,decide_true,decide_false,i64_1,i64_2,i64_3,i64_4,true_and,Int.one_mul,Int.cast_ofNat_Int,Int.reduceToNat,Nat.zero_mul,Nat.reduceMul,Nat.zero_add,Nat.mul_one,List.getElem?_cons_zero,List.getElem?_cons_succ,vZ,Int.reduceEq,Int.reduceNe,Int.reduceLT,Int.reduceLE,Nat.reduceEqDiff,Nat.reduceAdd,reduceIte,reduceCtorEq,Nat.reduceLT,Nat.reduceLeDiff,Nat.reduceShiftRight,Nat.reduceMod]
   refine callS_of (scores_s m b l hm hb hl ho) ?_
   simp only [EN.av,WX_skip,WX_reg,WX_seq,WX_cond,WX_block,WX_exit,WX_ret,endX_n,endX_r,rnd_s,Int.reduceAdd,Int.reduceSub,decide_true,decide_false,i64_1,i64_2,i64_3,i64_4,true_and,Int.one_mul,Int.cast_ofNat_Int,Int.reduceToNat,Nat.zero_mul,Nat.reduceMul,Nat.zero_add,Nat.mul_one,List.getElem?_cons_zero,List.getElem?_cons_succ,vZ,Int.reduceEq,Int.reduceNe,Int.reduceLT,Int.reduceLE,Nat.reduceEqDiff,Nat.reduceAdd,reduceIte,reduceCtorEq,Nat.reduceLT,Nat.reduceLeDiff,Nat.reduceShiftRight,Nat.reduceMod]
   by_cases pr:k.n<(m.scs b l).lo
   case pos =>
    have e:TM.best m l (f+1) b k=k:=by simp [TM.best,q0,z,pr]
    simp only [pr,e,decide_true,KN.av,WX_skip,WX_reg,WX_seq,WX_cond,WX_block,WX_exit,WX_ret,endX_n,endX_r,rnd_s,Int.reduceAdd,Int.reduceSub,decide_true,decide_false,i64_1,i64_2,i64_3,i64_4,true_and,Int.one_mul,Int.cast_ofNat_Int,Int.reduceToNat,Nat.zero_mul,Nat.reduceMul,Nat.zero_add,Nat.mul_one,List.getElem?_cons_zero,List.getElem?_cons_succ,vZ,Int.reduceEq,Int.reduceNe,Int.reduceLT,Int.reduceLE,Nat.reduceEqDiff,Nat.reduceAdd,reduceIte,reduceCtorEq,Nat.reduceLT,Nat.reduceLeDiff,Nat.reduceShiftRight,Nat.reduceMod]
   simp only [pr,decide_false,WX_skip,WX_reg,WX_seq,WX_cond,WX_block,WX_exit,WX_ret,endX_n,endX_r,rnd_s,Int.reduceAdd,Int.reduceSub,decide_true,decide_false,i64_1,i64_2,i64_3,i64_4,true_and,Int.one_mul,Int.cast_ofNat_Int,Int.reduceToNat,Nat.zero_mul,Nat.reduceMul,Nat.zero_add,Nat.mul_one,List.getElem?_cons_zero,List.getElem?_cons_succ,vZ,Int.reduceEq,Int.reduceNe,Int.reduceLT,Int.reduceLE,Nat.reduceEqDiff,Nat.reduceAdd,reduceIte,reduceCtorEq,Nat.reduceLT,Nat.reduceLeDiff,Nat.reduceShiftRight,Nat.reduceMod]
   refine callS_of (count_s b hb.l hb.h) ?_
   simp only [EN.av,WX_skip,WX_reg,WX_seq,WX_cond,WX_block,WX_exit,WX_ret,endX_n,endX_r,rnd_s,Int.reduceAdd,Int.reduceSub,decide_true,decide_false,i64_1,i64_2,i64_3,i64_4,true_and,Int.one_mul,Int.cast_ofNat_Int,Int.reduceToNat,Nat.zero_mul,Nat.reduceMul,Nat.zero_add,Nat.mul_one,List.getElem?_cons_zero,List.getElem?_cons_succ,vZ,Int.reduceEq,Int.reduceNe,Int.reduceLT,Int.reduceLE,Nat.reduceEqDiff,Nat.reduceAdd,reduceIte,reduceCtorEq,Nat.reduceLT,Nat.reduceLeDiff,Nat.reduceShiftRight,Nat.reduceMod]
   by_cases c1:1<b.count
   case pos =>
    have g1:=(halves_ok hb c1).1
    have g2:=(halves_ok hb c1).2.1
    have g3:=(halves_ok hb c1).2.2.1
    have n1:=count_pos g1.o
    have n2:=count_pos g2.o
    simp only [c1,decide_true,WX_skip,WX_reg,WX_seq,WX_cond,WX_block,WX_exit,WX_ret,endX_n,endX_r,rnd_s,Int.reduceAdd,Int.reduceSub,decide_true,decide_false,i64_1,i64_2,i64_3,i64_4,true_and,Int.one_mul,Int.cast_ofNat_Int,Int.reduceToNat,Nat.zero_mul,Nat.reduceMul,Nat.zero_add,Nat.mul_one,List.getElem?_cons_zero,List.getElem?_cons_succ,vZ,Int.reduceEq,Int.reduceNe,Int.reduceLT,Int.reduceLE,Nat.reduceEqDiff,Nat.reduceAdd,reduceIte,reduceCtorEq,Nat.reduceLT,Nat.reduceLeDiff,Nat.reduceShiftRight,Nat.reduceMod]
    refine callS_of (halves_s b hb.l hb.h hb.o) ?_
    simp only [pairB,WX_skip,WX_reg,WX_seq,WX_cond,WX_block,WX_exit,WX_ret,endX_n,endX_r,rnd_s,Int.reduceAdd,Int.reduceSub,decide_true,decide_false,i64_1,i64_2,i64_3,i64_4,true_and,Int.one_mul,Int.cast_ofNat_Int,Int.reduceToNat,Nat.zero_mul,Nat.reduceMul,Nat.zero_add,Nat.mul_one,List.getElem?_cons_zero,List.getElem?_cons_succ,vZ,Int.reduceEq,Int.reduceNe,Int.reduceLT,Int.reduceLE,Nat.reduceEqDiff,Nat.reduceAdd,reduceIte,reduceCtorEq,Nat.reduceLT,Nat.reduceLeDiff,Nat.reduceShiftRight,Nat.reduceMod]
    refine WX_rnd 3 ?_
    refine rndX_of (envOf [(2,.sl (hitsL l)),(3,.ptr 1000 0 0),(4,.ptr 4 0 0),(44,pairB b.h1 b.h2),(45,.int .i64 0)],stOf [(4,⟨70,12,[m.av]⟩),(1000,⟨75,4,[k.av]⟩)]) ?_ ?_
    ·refine weakXX [] rfl (of_decide_eq_true rfl) (of_decide_eq_true rfl) ?_
     (simp only [TM.av,TB.av,KN.av,pairB,z,vcW,vZ,Int.reduceEq,Int.reduceNe,Int.reduceLT,Int.reduceLE,Nat.reduceEqDiff,Nat.reduceAdd,reduceIte,reduceCtorEq,Nat.reduceLT,Nat.reduceLeDiff,Nat.reduceShiftRight,Nat.reduceMod])
     (repeat' first | exact trivial | (with_reducible first | exact RnB.fxB (ints_fxB _) | rfl | refine And.intro ?_ ?_) | (with_reducible (first | refine RnB.bb ?_ | refine RnB.nb ?_);simp only [vcW,vZ,Int.reduceEq,Int.reduceNe,Int.reduceLT,Int.reduceLE,Nat.reduceEqDiff,Nat.reduceAdd,reduceIte,reduceCtorEq,Nat.reduceLT,Nat.reduceLeDiff,Nat.reduceShiftRight,Nat.reduceMod]) | (with_reducible first | refine RnB.ii ?_ | refine RnB.app ?_) | (with_reducible refine RnB.fxB ?_;simp only [vcW,vZ,Int.reduceEq,Int.reduceNe,Int.reduceLT,Int.reduceLE,Nat.reduceEqDiff,Nat.reduceAdd,reduceIte,reduceCtorEq,Nat.reduceLT,Nat.reduceLeDiff,Nat.reduceShiftRight,Nat.reduceMod]) | omega)
     all_goals first | rfl | exact RnB.fxB rfl
    simp only [TM.av,KN.av,pairB,WX_skip,WX_reg,WX_seq,WX_cond,WX_block,WX_exit,WX_ret,endX_n,endX_r,rnd_s,Int.reduceAdd,Int.reduceSub,decide_true,decide_false,i64_1,i64_2,i64_3,i64_4,true_and,Int.one_mul,Int.cast_ofNat_Int,Int.reduceToNat,Nat.zero_mul,Nat.reduceMul,Nat.zero_add,Nat.mul_one,List.getElem?_cons_zero,List.getElem?_cons_succ,vZ,Int.reduceEq,Int.reduceNe,Int.reduceLT,Int.reduceLE,Nat.reduceEqDiff,Nat.reduceAdd,reduceIte,reduceCtorEq,Nat.reduceLT,Nat.reduceLeDiff,Nat.reduceShiftRight,Nat.reduceMod]
    refine callS_X 1000 (es2:=[(TM.best m l f b.h1 k).av]) (v:=.tup []) (SoundX_eq (ih b.h1 k g1 (by omega)) (by simp only [borX_p,borX_fx,TM.av,TB.av,KN.av,WX_skip,WX_reg,WX_seq,WX_cond,WX_block,WX_exit,WX_ret,endX_n,endX_r,rnd_s,Int.reduceAdd,Int.reduceSub,decide_true,decide_false,i64_1,i64_2,i64_3,i64_4,true_and,Int.one_mul,Int.cast_ofNat_Int,Int.reduceToNat,Nat.zero_mul,Nat.reduceMul,Nat.zero_add,Nat.mul_one,List.getElem?_cons_zero,List.getElem?_cons_succ,vZ,Int.reduceEq,Int.reduceNe,Int.reduceLT,Int.reduceLE,Nat.reduceEqDiff,Nat.reduceAdd,reduceIte,reduceCtorEq,Nat.reduceLT,Nat.reduceLeDiff,Nat.reduceShiftRight,Nat.reduceMod])) (by simp only [KN.av,WX_skip,WX_reg,WX_seq,WX_cond,WX_block,WX_exit,WX_ret,endX_n,endX_r,rnd_s,Int.reduceAdd,Int.reduceSub,decide_true,decide_false,i64_1,i64_2,i64_3,i64_4,true_and,Int.one_mul,Int.cast_ofNat_Int,Int.reduceToNat,Nat.zero_mul,Nat.reduceMul,Nat.zero_add,Nat.mul_one,List.getElem?_cons_zero,List.getElem?_cons_succ,vZ,Int.reduceEq,Int.reduceNe,Int.reduceLT,Int.reduceLE,Nat.reduceEqDiff,Nat.reduceAdd,reduceIte,reduceCtorEq,Nat.reduceLT,Nat.reduceLeDiff,Nat.reduceShiftRight,Nat.reduceMod]) rfl rfl rfl (hn_of rfl) ?_ ?_
    ·exact ⟨0,0,by simp⟩
    simp only [TM.av,KN.av,WX_skip,WX_reg,WX_seq,WX_cond,WX_block,WX_exit,WX_ret,endX_n,endX_r,rnd_s,Int.reduceAdd,Int.reduceSub,decide_true,decide_false,i64_1,i64_2,i64_3,i64_4,true_and,Int.one_mul,Int.cast_ofNat_Int,Int.reduceToNat,Nat.zero_mul,Nat.reduceMul,Nat.zero_add,Nat.mul_one,List.getElem?_cons_zero,List.getElem?_cons_succ,vZ,Int.reduceEq,Int.reduceNe,Int.reduceLT,Int.reduceLE,Nat.reduceEqDiff,Nat.reduceAdd,reduceIte,reduceCtorEq,Nat.reduceLT,Nat.reduceLeDiff,Nat.reduceShiftRight,Nat.reduceMod]
    refine rndX_of (envOf [(2,.sl (hitsL l)),(3,.ptr 1000 0 0),(4,.ptr 4 0 0),(44,pairB b.h1 b.h2),(45,.int .i64 1)],stOf [(4,⟨70,12,[m.av]⟩),(1000,⟨75,4,[(TM.best m l f b.h1 k).av]⟩)]) ?_ ?_
    ·refine weakXX [] rfl (of_decide_eq_true rfl) (of_decide_eq_true rfl) ?_
     (simp only [TM.av,TB.av,KN.av,pairB,z,vcW,vZ,Int.reduceEq,Int.reduceNe,Int.reduceLT,Int.reduceLE,Nat.reduceEqDiff,Nat.reduceAdd,reduceIte,reduceCtorEq,Nat.reduceLT,Nat.reduceLeDiff,Nat.reduceShiftRight,Nat.reduceMod])
     (repeat' first | exact trivial | (with_reducible first | exact RnB.fxB (ints_fxB _) | rfl | refine And.intro ?_ ?_) | (with_reducible (first | refine RnB.bb ?_ | refine RnB.nb ?_);simp only [vcW,vZ,Int.reduceEq,Int.reduceNe,Int.reduceLT,Int.reduceLE,Nat.reduceEqDiff,Nat.reduceAdd,reduceIte,reduceCtorEq,Nat.reduceLT,Nat.reduceLeDiff,Nat.reduceShiftRight,Nat.reduceMod]) | (with_reducible first | refine RnB.ii ?_ | refine RnB.app ?_) | (with_reducible refine RnB.fxB ?_;simp only [vcW,vZ,Int.reduceEq,Int.reduceNe,Int.reduceLT,Int.reduceLE,Nat.reduceEqDiff,Nat.reduceAdd,reduceIte,reduceCtorEq,Nat.reduceLT,Nat.reduceLeDiff,Nat.reduceShiftRight,Nat.reduceMod]) | omega)
     all_goals first | rfl | exact RnB.fxB rfl
    simp only [TM.av,KN.av,pairB,WX_skip,WX_reg,WX_seq,WX_cond,WX_block,WX_exit,WX_ret,endX_n,endX_r,rnd_s,Int.reduceAdd,Int.reduceSub,decide_true,decide_false,i64_1,i64_2,i64_3,i64_4,true_and,Int.one_mul,Int.cast_ofNat_Int,Int.reduceToNat,Nat.zero_mul,Nat.reduceMul,Nat.zero_add,Nat.mul_one,List.getElem?_cons_zero,List.getElem?_cons_succ,vZ,Int.reduceEq,Int.reduceNe,Int.reduceLT,Int.reduceLE,Nat.reduceEqDiff,Nat.reduceAdd,reduceIte,reduceCtorEq,Nat.reduceLT,Nat.reduceLeDiff,Nat.reduceShiftRight,Nat.reduceMod]
    refine callS_X 1000 (es2:=[(TM.best m l f b.h2 (TM.best m l f b.h1 k)).av]) (v:=.tup []) (SoundX_eq (ih b.h2 (TM.best m l f b.h1 k) g2 (by omega)) (by simp only [borX_p,borX_fx,TM.av,TB.av,KN.av,WX_skip,WX_reg,WX_seq,WX_cond,WX_block,WX_exit,WX_ret,endX_n,endX_r,rnd_s,Int.reduceAdd,Int.reduceSub,decide_true,decide_false,i64_1,i64_2,i64_3,i64_4,true_and,Int.one_mul,Int.cast_ofNat_Int,Int.reduceToNat,Nat.zero_mul,Nat.reduceMul,Nat.zero_add,Nat.mul_one,List.getElem?_cons_zero,List.getElem?_cons_succ,vZ,Int.reduceEq,Int.reduceNe,Int.reduceLT,Int.reduceLE,Nat.reduceEqDiff,Nat.reduceAdd,reduceIte,reduceCtorEq,Nat.reduceLT,Nat.reduceLeDiff,Nat.reduceShiftRight,Nat.reduceMod])) (by simp only [KN.av,WX_skip,WX_reg,WX_seq,WX_cond,WX_block,WX_exit,WX_ret,endX_n,endX_r,rnd_s,Int.reduceAdd,Int.reduceSub,decide_true,decide_false,i64_1,i64_2,i64_3,i64_4,true_and,Int.one_mul,Int.cast_ofNat_Int,Int.reduceToNat,Nat.zero_mul,Nat.reduceMul,Nat.zero_add,Nat.mul_one,List.getElem?_cons_zero,List.getElem?_cons_succ,vZ,Int.reduceEq,Int.reduceNe,Int.reduceLT,Int.reduceLE,Nat.reduceEqDiff,Nat.reduceAdd,reduceIte,reduceCtorEq,Nat.reduceLT,Nat.reduceLeDiff,Nat.reduceShiftRight,Nat.reduceMod]) rfl rfl rfl (hn_of rfl) ?_ ?_
    ·exact ⟨0,0,by simp⟩
    simp only [TM.av,KN.av,WX_skip,WX_reg,WX_seq,WX_cond,WX_block,WX_exit,WX_ret,endX_n,endX_r,rnd_s,Int.reduceAdd,Int.reduceSub,decide_true,decide_false,i64_1,i64_2,i64_3,i64_4,true_and,Int.one_mul,Int.cast_ofNat_Int,Int.reduceToNat,Nat.zero_mul,Nat.reduceMul,Nat.zero_add,Nat.mul_one,List.getElem?_cons_zero,List.getElem?_cons_succ,vZ,Int.reduceEq,Int.reduceNe,Int.reduceLT,Int.reduceLE,Nat.reduceEqDiff,Nat.reduceAdd,reduceIte,reduceCtorEq,Nat.reduceLT,Nat.reduceLeDiff,Nat.reduceShiftRight,Nat.reduceMod]
    refine rndX_of (envOf [(2,.sl (hitsL l)),(3,.ptr 1000 0 0),(4,.ptr 4 0 0),(44,pairB b.h1 b.h2),(45,.int .i64 2)],stOf [(4,⟨70,12,[m.av]⟩),(1000,⟨75,4,[(TM.best m l f b.h2 (TM.best m l f b.h1 k)).av]⟩)]) ?_ ?_
    ·refine weakXX [] rfl (of_decide_eq_true rfl) (of_decide_eq_true rfl) ?_
     (simp only [TM.av,TB.av,KN.av,pairB,z,vcW,vZ,Int.reduceEq,Int.reduceNe,Int.reduceLT,Int.reduceLE,Nat.reduceEqDiff,Nat.reduceAdd,reduceIte,reduceCtorEq,Nat.reduceLT,Nat.reduceLeDiff,Nat.reduceShiftRight,Nat.reduceMod])
     (repeat' first | exact trivial | (with_reducible first | exact RnB.fxB (ints_fxB _) | rfl | refine And.intro ?_ ?_) | (with_reducible (first | refine RnB.bb ?_ | refine RnB.nb ?_);simp only [vcW,vZ,Int.reduceEq,Int.reduceNe,Int.reduceLT,Int.reduceLE,Nat.reduceEqDiff,Nat.reduceAdd,reduceIte,reduceCtorEq,Nat.reduceLT,Nat.reduceLeDiff,Nat.reduceShiftRight,Nat.reduceMod]) | (with_reducible first | refine RnB.ii ?_ | refine RnB.app ?_) | (with_reducible refine RnB.fxB ?_;simp only [vcW,vZ,Int.reduceEq,Int.reduceNe,Int.reduceLT,Int.reduceLE,Nat.reduceEqDiff,Nat.reduceAdd,reduceIte,reduceCtorEq,Nat.reduceLT,Nat.reduceLeDiff,Nat.reduceShiftRight,Nat.reduceMod]) | omega)
     all_goals first | rfl | exact RnB.fxB rfl
    simp only [TM.av,KN.av,pairB,WX_skip,WX_reg,WX_seq,WX_cond,WX_block,WX_exit,WX_ret,endX_n,endX_r,rnd_s,Int.reduceAdd,Int.reduceSub,decide_true,decide_false,i64_1,i64_2,i64_3,i64_4,true_and,Int.one_mul,Int.cast_ofNat_Int,Int.reduceToNat,Nat.zero_mul,Nat.reduceMul,Nat.zero_add,Nat.mul_one,List.getElem?_cons_zero,List.getElem?_cons_succ,vZ,Int.reduceEq,Int.reduceNe,Int.reduceLT,Int.reduceLE,Nat.reduceEqDiff,Nat.reduceAdd,reduceIte,reduceCtorEq,Nat.reduceLT,Nat.reduceLeDiff,Nat.reduceShiftRight,Nat.reduceMod]
    have e:TM.best m l (f+1) b k=(TM.best m l f b.h2 (TM.best m l f b.h1 k)):=by simp [TM.best,q0,z,pr,c1]
    rw [e]
   simp only [c1,decide_false,WX_skip,WX_reg,WX_seq,WX_cond,WX_block,WX_exit,WX_ret,endX_n,endX_r,rnd_s,Int.reduceAdd,Int.reduceSub,decide_true,decide_false,i64_1,i64_2,i64_3,i64_4,true_and,Int.one_mul,Int.cast_ofNat_Int,Int.reduceToNat,Nat.zero_mul,Nat.reduceMul,Nat.zero_add,Nat.mul_one,List.getElem?_cons_zero,List.getElem?_cons_succ,vZ,Int.reduceEq,Int.reduceNe,Int.reduceLT,Int.reduceLE,Nat.reduceEqDiff,Nat.reduceAdd,reduceIte,reduceCtorEq,Nat.reduceLT,Nat.reduceLeDiff,Nat.reduceShiftRight,Nat.reduceMod]
   refine callS_of (score_s m b.lo l hm hb.l hl ho) ?_
   simp only [V3.av,hzz,z,decide_false,tk_slice,refs1_vw,tk_indexArr,WX_skip,WX_reg,WX_seq,WX_cond,WX_block,WX_exit,WX_ret,endX_n,endX_r,rnd_s,Int.reduceAdd,Int.reduceSub,decide_true,decide_false,i64_1,i64_2,i64_3,i64_4,true_and,Int.one_mul,Int.cast_ofNat_Int,Int.reduceToNat,Nat.zero_mul,Nat.reduceMul,Nat.zero_add,Nat.mul_one,List.getElem?_cons_zero,List.getElem?_cons_succ,vZ,Int.reduceEq,Int.reduceNe,Int.reduceLT,Int.reduceLE,Nat.reduceEqDiff,Nat.reduceAdd,reduceIte,reduceCtorEq,Nat.reduceLT,Nat.reduceLeDiff,Nat.reduceShiftRight,Nat.reduceMod]
   by_cases n1:m.score b.lo l<k.n
   case pos =>
    have e:TM.best m l (f+1) b k=⟨b.lo,m.score b.lo l⟩:=by simp [TM.best,q0,z,pr,c1,n1]
    simp only [n1,e,V3.av,KN.av,decide_true,tk_slice,refs1_vw,tk_indexArr,WX_skip,WX_reg,WX_seq,WX_cond,WX_block,WX_exit,WX_ret,endX_n,endX_r,rnd_s,Int.reduceAdd,Int.reduceSub,decide_true,decide_false,i64_1,i64_2,i64_3,i64_4,true_and,Int.one_mul,Int.cast_ofNat_Int,Int.reduceToNat,Nat.zero_mul,Nat.reduceMul,Nat.zero_add,Nat.mul_one,List.getElem?_cons_zero,List.getElem?_cons_succ,vZ,Int.reduceEq,Int.reduceNe,Int.reduceLT,Int.reduceLE,Nat.reduceEqDiff,Nat.reduceAdd,reduceIte,reduceCtorEq,Nat.reduceLT,Nat.reduceLeDiff,Nat.reduceShiftRight,Nat.reduceMod]
   simp only [n1,decide_false,V3.av,KN.av,tk_slice,refs1_vw,tk_indexArr,WX_skip,WX_reg,WX_seq,WX_cond,WX_block,WX_exit,WX_ret,endX_n,endX_r,rnd_s,Int.reduceAdd,Int.reduceSub,decide_true,decide_false,i64_1,i64_2,i64_3,i64_4,true_and,Int.one_mul,Int.cast_ofNat_Int,Int.reduceToNat,Nat.zero_mul,Nat.reduceMul,Nat.zero_add,Nat.mul_one,List.getElem?_cons_zero,List.getElem?_cons_succ,vZ,Int.reduceEq,Int.reduceNe,Int.reduceLT,Int.reduceLE,Nat.reduceEqDiff,Nat.reduceAdd,reduceIte,reduceCtorEq,Nat.reduceLT,Nat.reduceLeDiff,Nat.reduceShiftRight,Nat.reduceMod]
   by_cases n2:m.score b.lo l=k.n
   case neg =>
    have e:TM.best m l (f+1) b k=k:=by simp [TM.best,q0,z,pr,c1,n1,n2]
    simp only [n2,e,V3.av,KN.av,decide_false,tk_slice,refs1_vw,tk_indexArr,WX_skip,WX_reg,WX_seq,WX_cond,WX_block,WX_exit,WX_ret,endX_n,endX_r,rnd_s,Int.reduceAdd,Int.reduceSub,decide_true,decide_false,i64_1,i64_2,i64_3,i64_4,true_and,Int.one_mul,Int.cast_ofNat_Int,Int.reduceToNat,Nat.zero_mul,Nat.reduceMul,Nat.zero_add,Nat.mul_one,List.getElem?_cons_zero,List.getElem?_cons_succ,vZ,Int.reduceEq,Int.reduceNe,Int.reduceLT,Int.reduceLE,Nat.reduceEqDiff,Nat.reduceAdd,reduceIte,reduceCtorEq,Nat.reduceLT,Nat.reduceLeDiff,Nat.reduceShiftRight,Nat.reduceMod]
   simp only [n2,decide_true,V3.av,KN.av,tk_slice,refs1_vw,tk_indexArr,WX_skip,WX_reg,WX_seq,WX_cond,WX_block,WX_exit,WX_ret,endX_n,endX_r,rnd_s,Int.reduceAdd,Int.reduceSub,decide_true,decide_false,i64_1,i64_2,i64_3,i64_4,true_and,Int.one_mul,Int.cast_ofNat_Int,Int.reduceToNat,Nat.zero_mul,Nat.reduceMul,Nat.zero_add,Nat.mul_one,List.getElem?_cons_zero,List.getElem?_cons_succ,vZ,Int.reduceEq,Int.reduceNe,Int.reduceLT,Int.reduceLE,Nat.reduceEqDiff,Nat.reduceAdd,reduceIte,reduceCtorEq,Nat.reduceLT,Nat.reduceLeDiff,Nat.reduceShiftRight,Nat.reduceMod]
   refine callS_of (Compare3_s b.lo k.s) ?_
   simp only [V3.av,KN.av,tk_slice,refs1_vw,tk_indexArr,WX_skip,WX_reg,WX_seq,WX_cond,WX_block,WX_exit,WX_ret,endX_n,endX_r,rnd_s,Int.reduceAdd,Int.reduceSub,decide_true,decide_false,i64_1,i64_2,i64_3,i64_4,true_and,Int.one_mul,Int.cast_ofNat_Int,Int.reduceToNat,Nat.zero_mul,Nat.reduceMul,Nat.zero_add,Nat.mul_one,List.getElem?_cons_zero,List.getElem?_cons_succ,vZ,Int.reduceEq,Int.reduceNe,Int.reduceLT,Int.reduceLE,Nat.reduceEqDiff,Nat.reduceAdd,reduceIte,reduceCtorEq,Nat.reduceLT,Nat.reduceLeDiff,Nat.reduceShiftRight,Nat.reduceMod]
   refine ⟨usedL_vw2 (by simp only [vZ,Int.reduceEq,Int.reduceNe,Int.reduceLT,Int.reduceLE,Nat.reduceEqDiff,Nat.reduceAdd,reduceIte,reduceCtorEq,Nat.reduceLT,Nat.reduceLeDiff,Nat.reduceShiftRight,Nat.reduceMod];simp) (by simp only [vZ,Int.reduceEq,Int.reduceNe,Int.reduceLT,Int.reduceLE,Nat.reduceEqDiff,Nat.reduceAdd,reduceIte,reduceCtorEq,Nat.reduceLT,Nat.reduceLeDiff,Nat.reduceShiftRight,Nat.reduceMod];simp),?_⟩
   by_cases n3:b.lo.c k.s<0
   case pos =>
    have e:TM.best m l (f+1) b k=⟨b.lo,m.score b.lo l⟩:=by simp [TM.best,q0,z,pr,c1,n1,n2,(V3.c_lt _ _).1 n3]
    simp only [n3,n2,e,V3.av,KN.av,decide_true,tk_slice,refs1_vw,tk_indexArr,WX_skip,WX_reg,WX_seq,WX_cond,WX_block,WX_exit,WX_ret,endX_n,endX_r,rnd_s,Int.reduceAdd,Int.reduceSub,decide_true,decide_false,i64_1,i64_2,i64_3,i64_4,true_and,Int.one_mul,Int.cast_ofNat_Int,Int.reduceToNat,Nat.zero_mul,Nat.reduceMul,Nat.zero_add,Nat.mul_one,List.getElem?_cons_zero,List.getElem?_cons_succ,vZ,Int.reduceEq,Int.reduceNe,Int.reduceLT,Int.reduceLE,Nat.reduceEqDiff,Nat.reduceAdd,reduceIte,reduceCtorEq,Nat.reduceLT,Nat.reduceLeDiff,Nat.reduceShiftRight,Nat.reduceMod]
   have n3':¬ b.lo.lt k.s:=fun h=>n3 ((V3.c_lt _ _).2 h)
   have e:TM.best m l (f+1) b k=k:=by simp [TM.best,q0,z,pr,c1,n1,n2,n3']
   simp only [n3,e,V3.av,KN.av,decide_false,tk_slice,refs1_vw,tk_indexArr,WX_skip,WX_reg,WX_seq,WX_cond,WX_block,WX_exit,WX_ret,endX_n,endX_r,rnd_s,Int.reduceAdd,Int.reduceSub,decide_true,decide_false,i64_1,i64_2,i64_3,i64_4,true_and,Int.one_mul,Int.cast_ofNat_Int,Int.reduceToNat,Nat.zero_mul,Nat.reduceMul,Nat.zero_add,Nat.mul_one,List.getElem?_cons_zero,List.getElem?_cons_succ,vZ,Int.reduceEq,Int.reduceNe,Int.reduceLT,Int.reduceLE,Nat.reduceEqDiff,Nat.reduceAdd,reduceIte,reduceCtorEq,Nat.reduceLT,Nat.reduceLeDiff,Nat.reduceShiftRight,Nat.reduceMod]
end Go.Proofs.Ytoiajhogondgcaa

/- The contract of BestIn;what it finds. By an AI agent;nothing here is trusted. -/
namespace Go.Proofs.Ytoiajhogondgcaa
open Go.Av

theorem SoundX_ren {P:Program} {f:FuncId} {pre:List AV} (hp:pre.all imm=true) {k k' ty sz:Nat} {es:List AV} {v:AV} {es2:List AV} (h:SoundX P f (pre ++ [.ptr k 0 0]) k ty sz es v es2):SoundX P f (pre ++ [.ptr k' 0 0]) k' ty sz es v es2:=by
 intro w ok cargs b cur hok hG hnb hbc hHb hlen hargs
 refine h w ok cargs b cur hok hG hnb hbc hHb (by simpa using hlen) fun i x hx=>?_
 by_cases hi:i<pre.length
 ·have h1:pre[i]?=some x:=by rw [List.getElem?_append_left hi] at hx;exact hx
  have h2:=hargs i x (by rw [List.getElem?_append_left hi];exact h1)
  exact h2.imm (fun _ h=>h) (fun _ _=>rfl) (List.all_eq_true.1 hp x (List.mem_of_getElem? h1))
 ·have hil:i=pre.length:=by
   have:=(List.getElem?_eq_some_iff.1 hx).1
   simp at this;omega
  subst hil
  have hx':x=.ptr k 0 0:=by simpa using hx.symm
  subst hx'
  have h2:=hargs pre.length (.ptr k' 0 0) (by simp)
  generalize cargs.getD pre.length undef=cv at h2
  cases h2 with
  | ptrd _ _ _ _ hd=>rw [upd_same] at hd;cases hd
  | ptr _ _ _ B b' hσ hr =>
   rw [upd_same] at hσ hr
   cases hσ;cases hr
   exact .ptr k 0 0 ⟨ty,sz,es⟩ b (upd_same _ _ _) (upd_same _ _ _)

theorem openE_ok {m:TM} {b:TB} {l:List TH} (h:openE m b l=0):m.Ok∧b.Ok∧b.count≤700∧l.length≤12∧∀ x ∈ l,x.ok:=by
 unfold openE at h
 by_cases h1:m.err=0
 case neg=>simp [h1] at h
 by_cases h2:b.err=0
 case neg=>simp [h1,h2] at h
 simp [h1,h2] at h
 obtain ⟨g1,g2,g3,g4⟩:=b.err_ok h2
 obtain ⟨g5,g6⟩:=hitsE_ok h
 exact ⟨m.err_ok h1,⟨g1,g2,g3⟩,g4,g5,g6⟩

def TM.bestOf (m:TM) (b:TB) (l:List TH):KN:=TM.best m l b.count.toNat b ⟨V3.o,0⟩
def bestV (m:TM) (b:TB) (l:List TH):V3:=if openE m b l=0 then (m.bestOf b l).s else V3.o
def bestN (m:TM) (b:TB) (l:List TH):Int:=if openE m b l=0 then (if (m.bestOf b l).s=V3.o then 0 else (m.bestOf b l).n) else 0
def bestE (m:TM) (b:TB) (l:List TH):Int:=if openE m b l=0 then (if (m.bestOf b l).s=V3.o then 12 else 0) else openE m b l
set_option maxHeartbeats 2000000 in
set_option maxRecDepth 10000 in
theorem BestIn_s (m:TM) (b:TB) (l:List TH) (hl:l.length<4000000000000000000):Sound Try.prog 9 [m.av,b.av,.sl (hitsL l)] (.tup [(bestV m b l).av,.int .i64 (bestN m b l),.int .i64 (bestE m b l)]):=by
 refine sound_W f_track_BestIn (Nat.le_of_ble_eq_true rfl) ?_
 by_cases q:openE m b l=0
 case neg =>
  have e1:bestV m b l=V3.o:=by simp [bestV,q]
  have e2:bestN m b l=0:=by simp [bestN,q]
  have e3:bestE m b l=openE m b l:=by simp [bestE,q]
  simp only [c_track_BestIn,TM.av,TB.av,V3.av,rnd_s,Int.reduceAdd,Int.reduceSub,decide_true,decide_false,i64_1,i64_2,i64_3,i64_4,true_and,Int.one_mul,Int.cast_ofNat_Int,Int.reduceToNat,Nat.zero_mul,Nat.reduceMul,Nat.zero_add,Nat.mul_one,List.getElem?_cons_zero,List.getElem?_cons_succ,vZ,Int.reduceEq,Int.reduceNe,Int.reduceLT,Int.reduceLE,Nat.reduceEqDiff,Nat.reduceAdd,reduceIte,reduceCtorEq,Nat.reduceLT,Nat.reduceLeDiff,Nat.reduceShiftRight,Nat.reduceMod]
  refine callS_of (openHits_s m b l hl) ?_
  simp only [q,e1,e2,e3,decide_false,Bool.not_false,TM.av,V3.av,V3.o,rnd_s,Int.reduceAdd,Int.reduceSub,decide_true,decide_false,i64_1,i64_2,i64_3,i64_4,true_and,Int.one_mul,Int.cast_ofNat_Int,Int.reduceToNat,Nat.zero_mul,Nat.reduceMul,Nat.zero_add,Nat.mul_one,List.getElem?_cons_zero,List.getElem?_cons_succ,vZ,Int.reduceEq,Int.reduceNe,Int.reduceLT,Int.reduceLE,Nat.reduceEqDiff,Nat.reduceAdd,reduceIte,reduceCtorEq,Nat.reduceLT,Nat.reduceLeDiff,Nat.reduceShiftRight,Nat.reduceMod]
 obtain ⟨hm,hb,hc,hl2,ho⟩:=openE_ok q
 have hpos:=count_pos hb.o
 have hS:=best_s m l hm (by omega) ho b.count.toNat b ⟨V3.o,0⟩ hb (by omega)
 have hS2:=SoundX_ren (k':=11) (pre:=[m.av,b.av,.sl (hitsL l)]) rfl hS
 have hzz:=kn_zero (m.bestOf b l)
 have e0:TM.best m l b.count.toNat b ⟨V3.o,0⟩=m.bestOf b l:=rfl
 rw [e0] at hS2
 simp only [c_track_BestIn,TM.av,TB.av,V3.av,rnd_s,Int.reduceAdd,Int.reduceSub,decide_true,decide_false,i64_1,i64_2,i64_3,i64_4,true_and,Int.one_mul,Int.cast_ofNat_Int,Int.reduceToNat,Nat.zero_mul,Nat.reduceMul,Nat.zero_add,Nat.mul_one,List.getElem?_cons_zero,List.getElem?_cons_succ,vZ,Int.reduceEq,Int.reduceNe,Int.reduceLT,Int.reduceLE,Nat.reduceEqDiff,Nat.reduceAdd,reduceIte,reduceCtorEq,Nat.reduceLT,Nat.reduceLeDiff,Nat.reduceShiftRight,Nat.reduceMod]
 refine callS_of (openHits_s m b l hl) ?_
 simp only [q,decide_true,Bool.not_true,TM.av,V3.av,V3.o,rnd_s,Int.reduceAdd,Int.reduceSub,decide_true,decide_false,i64_1,i64_2,i64_3,i64_4,true_and,Int.one_mul,Int.cast_ofNat_Int,Int.reduceToNat,Nat.zero_mul,Nat.reduceMul,Nat.zero_add,Nat.mul_one,List.getElem?_cons_zero,List.getElem?_cons_succ,vZ,Int.reduceEq,Int.reduceNe,Int.reduceLT,Int.reduceLE,Nat.reduceEqDiff,Nat.reduceAdd,reduceIte,reduceCtorEq,Nat.reduceLT,Nat.reduceLeDiff,Nat.reduceShiftRight,Nat.reduceMod]
 refine callS_X 11 (es2:=[(m.bestOf b l).av]) (v:=.tup []) (SoundX_eq hS2 (by simp only [borX_p,borX_fx,TM.av,TB.av,KN.av,List.cons_append,List.nil_append,rnd_s,Int.reduceAdd,Int.reduceSub,decide_true,decide_false,i64_1,i64_2,i64_3,i64_4,true_and,Int.one_mul,Int.cast_ofNat_Int,Int.reduceToNat,Nat.zero_mul,Nat.reduceMul,Nat.zero_add,Nat.mul_one,List.getElem?_cons_zero,List.getElem?_cons_succ,vZ,Int.reduceEq,Int.reduceNe,Int.reduceLT,Int.reduceLE,Nat.reduceEqDiff,Nat.reduceAdd,reduceIte,reduceCtorEq,Nat.reduceLT,Nat.reduceLeDiff,Nat.reduceShiftRight,Nat.reduceMod])) (by simp only [KN.av,V3.o,rnd_s,Int.reduceAdd,Int.reduceSub,decide_true,decide_false,i64_1,i64_2,i64_3,i64_4,true_and,Int.one_mul,Int.cast_ofNat_Int,Int.reduceToNat,Nat.zero_mul,Nat.reduceMul,Nat.zero_add,Nat.mul_one,List.getElem?_cons_zero,List.getElem?_cons_succ,vZ,Int.reduceEq,Int.reduceNe,Int.reduceLT,Int.reduceLE,Nat.reduceEqDiff,Nat.reduceAdd,reduceIte,reduceCtorEq,Nat.reduceLT,Nat.reduceLeDiff,Nat.reduceShiftRight,Nat.reduceMod]) rfl rfl rfl (hn_of rfl) ⟨0,0,by simp⟩ ?_
 by_cases z:(m.bestOf b l).s=V3.o
 case pos =>
  have e1:bestV m b l=V3.o:=by simp [bestV,q,z]
  have e2:bestN m b l=0:=by simp [bestN,q,z]
  have e3:bestE m b l=12:=by simp [bestE,q,z]
  simp only [z,hz0,e1,e2,e3,KN.av,V3.av,V3.o,rnd_s,Int.reduceAdd,Int.reduceSub,decide_true,decide_false,i64_1,i64_2,i64_3,i64_4,true_and,Int.one_mul,Int.cast_ofNat_Int,Int.reduceToNat,Nat.zero_mul,Nat.reduceMul,Nat.zero_add,Nat.mul_one,List.getElem?_cons_zero,List.getElem?_cons_succ,vZ,Int.reduceEq,Int.reduceNe,Int.reduceLT,Int.reduceLE,Nat.reduceEqDiff,Nat.reduceAdd,reduceIte,reduceCtorEq,Nat.reduceLT,Nat.reduceLeDiff,Nat.reduceShiftRight,Nat.reduceMod]
  skip
 case neg =>
  have e1:bestV m b l=(m.bestOf b l).s:=by simp [bestV,q]
  have e2:bestN m b l=(m.bestOf b l).n:=by simp [bestN,q,z]
  have e3:bestE m b l=0:=by simp [bestE,q,z]
  simp only [hzz,z,e1,e2,e3,decide_false,KN.av,V3.av,tk_indexArr,rnd_s,Int.reduceAdd,Int.reduceSub,decide_true,decide_false,i64_1,i64_2,i64_3,i64_4,true_and,Int.one_mul,Int.cast_ofNat_Int,Int.reduceToNat,Nat.zero_mul,Nat.reduceMul,Nat.zero_add,Nat.mul_one,List.getElem?_cons_zero,List.getElem?_cons_succ,vZ,Int.reduceEq,Int.reduceNe,Int.reduceLT,Int.reduceLE,Nat.reduceEqDiff,Nat.reduceAdd,reduceIte,reduceCtorEq,Nat.reduceLT,Nat.reduceLeDiff,Nat.reduceShiftRight,Nat.reduceMod]
  skip
end Go.Proofs.Ytoiajhogondgcaa

/- The iterator over the permitted steps of a box. By an AI agent;nothing here is trusted. -/
namespace Go.Proofs.Ytoiajhogondgcaa
open Go.Av

theorem fm_succ {α:Type} (f:Nat→List α) (k:Nat):(List.range (k+1)).flatMap f=(List.range k).flatMap f ++ f k:=by
 rw [List.range_succ,List.flatMap_append];simp
theorem fm_pre {α:Type} (f:Nat→List α) {k n:Nat} (h:k≤n):∃ r,(List.range n).flatMap f=(List.range k).flatMap f ++ r:=by
 obtain ⟨d,rfl⟩:=Nat.exists_eq_add_of_le h
 induction d with
 | zero=>exact ⟨[],by simp⟩
 | succ d ih =>
  obtain ⟨r,hr⟩:=ih (by omega)
  exact ⟨r ++ f (k+d),by rw [← Nat.add_assoc,fm_succ,hr,List.append_assoc]⟩
def TB.nx (b:TB):Nat:=(b.hi.x - b.lo.x+1).toNat
def TB.ny (b:TB):Nat:=(b.hi.y - b.lo.y+1).toNat
def TB.nz (b:TB):Nat:=(b.hi.z - b.lo.z+1).toNat
def TM.s3 (m:TM) (b:TB) (x y:Int) (k:Nat):List V3:=(List.range k).flatMap fun j:Nat=>if m.permits ⟨x,y,b.lo.z+j⟩ then [⟨x,y,b.lo.z+j⟩] else []
def TM.s2 (m:TM) (b:TB) (x:Int) (k:Nat):List V3:=(List.range k).flatMap fun j:Nat=>m.s3 b x (b.lo.y+j) b.nz
def TM.s1 (m:TM) (b:TB) (k:Nat):List V3:=(List.range k).flatMap fun i:Nat=>m.s2 b (b.lo.x+i) b.ny
def TM.steps (m:TM) (b:TB):List V3:=m.s1 b b.nx
theorem s3_succ (m:TM) (b:TB) (x y:Int) (k:Nat):m.s3 b x y (k+1)=m.s3 b x y k ++ if m.permits ⟨x,y,b.lo.z+k⟩ then [⟨x,y,b.lo.z+k⟩] else []:=fm_succ _ _
theorem s2_succ (m:TM) (b:TB) (x:Int) (k:Nat):m.s2 b x (k+1)=m.s2 b x k ++ m.s3 b x (b.lo.y+k) b.nz:=fm_succ _ _
theorem s1_succ (m:TM) (b:TB) (k:Nat):m.s1 b (k+1)=m.s1 b k ++ m.s2 b (b.lo.x+k) b.ny:=fm_succ _ _
theorem steps_pre (m:TM) (b:TB) {i j k:Nat} (hi:i<b.nx) (hj:j<b.ny) (hk:k≤b.nz):∃ r,m.steps b=m.s1 b i ++ (m.s2 b (b.lo.x+i) j ++ m.s3 b (b.lo.x+i) (b.lo.y+j) k) ++ r:=by
 obtain ⟨r1,h1⟩:=fm_pre (fun i:Nat=>m.s2 b (b.lo.x+i) b.ny) (show i+1≤b.nx by omega)
 obtain ⟨r2,h2⟩:=fm_pre (fun j':Nat=>m.s3 b (b.lo.x+i) (b.lo.y+j') b.nz) (show j+1≤b.ny by omega)
 obtain ⟨r3,h3⟩:=fm_pre (fun z:Nat=>if m.permits ⟨b.lo.x+i,b.lo.y+j,b.lo.z+z⟩ then [(⟨b.lo.x+i,b.lo.y+j,b.lo.z+z⟩:V3)] else []) hk
 refine ⟨r3 ++ r2 ++ r1,?_⟩
 have e1:m.steps b=(m.s1 b i ++ m.s2 b (b.lo.x+i) b.ny) ++ r1:=by rw [← s1_succ];exact h1
 have e2:m.s2 b (b.lo.x+i) b.ny=(m.s2 b (b.lo.x+i) j ++ m.s3 b (b.lo.x+i) (b.lo.y+j) b.nz) ++ r2:=by rw [← s2_succ];exact h2
 have e3:m.s3 b (b.lo.x+i) (b.lo.y+j) b.nz=m.s3 b (b.lo.x+i) (b.lo.y+j) k ++ r3:=h3
 rw [e1,e2,e3]
 simp only [List.append_assoc]
def stepA (v:V3):List AV:=[v.av]

theorem steps_s (m:TM) (b:TB):Sound Try.prog 33 [m.av,b.av] (.fn 57 [.eptr b.av 0,.eptr m.av 0]):=by
 refine sound_W f_track_model_steps (Nat.le_of_ble_eq_true rfl) ?_
 simp only [c_track_model_steps,TM.av,TB.av,vZ,Int.reduceEq,Int.reduceNe,Int.reduceLT,Int.reduceLE,Nat.reduceEqDiff,Nat.reduceAdd,reduceIte,reduceCtorEq,Nat.reduceLT,Nat.reduceLeDiff,Nat.reduceShiftRight,Nat.reduceMod]

set_option maxHeartbeats 4000000 in
set_option maxRecDepth 10000 in
theorem steps1_s (m:TM) (b:TB) (hb:b.Ok):SeqA Try.prog 57 [.eptr b.av 0,.eptr m.av 0] ((m.steps b).map stepA):=by
 refine seq_W f_track_model_steps_1 (Nat.le_of_ble_eq_true rfl) fun yl=>?_
 obtain ⟨⟨⟨a1,a2⟩,⟨a3,a4⟩,a5,a6⟩,⟨⟨b1,b2⟩,⟨b3,b4⟩,b5,b6⟩,o1,o2,o3⟩:=hb
 simp only [c_track_model_steps_1,TB.av,rnd_s,Int.reduceAdd,Int.reduceSub,decide_true,decide_false,i64_1,i64_2,i64_3,i64_4,true_and,Int.one_mul,Int.cast_ofNat_Int,Int.reduceToNat,Nat.zero_mul,Nat.reduceMul,Nat.zero_add,Nat.mul_one,List.getElem?_cons_zero,List.getElem?_cons_succ,vcC,Int.reduceEq,Int.reduceNe,Int.reduceLT,Int.reduceLE,Nat.reduceEqDiff,Nat.reduceAdd,reduceIte,reduceCtorEq,Nat.reduceLT,Nat.reduceLeDiff,eq_self,vcP,WY_skip,WY_reg,WY_regY,WY_seq,WY_cond,WY_block,WY_exit,WY_ret,VY_nil,VY_yld,VY_yldg,VY_ps,seqY_n,seqY_r,seqY_x,blockY_n,blockY_r,blockY_x,isCallvs,isCallv,isY,List.any_cons,List.any_nil,Bool.or_false,Bool.or_true,Bool.false_or,Bool.and_false,Bool.false_and]
 refine WY_loop (α:=PSigma fun i:Nat=>i≤b.nx) (fun i=>((envOf [(0,.yld yl),(1,.eptr b.av 0),(2,.eptr m.av 0),(4,.int .i64 (b.lo.x+i.1))],stOf []),some ((m.s1 b i.1).map stepA)))
  (fun i=>b.nx - i.1) ⟨0,by omega⟩ ?_ ?_ (fun ⟨i,hi⟩=>?_)
 ·refine weakX [] (of_decide_eq_true rfl) (of_decide_eq_true rfl) ?_
  (simp only [TB.av,vcW,vZ,Int.reduceEq,Int.reduceNe,Int.reduceLT,Int.reduceLE,Nat.reduceEqDiff,Nat.reduceAdd,reduceIte,reduceCtorEq,Nat.reduceLT,Nat.reduceLeDiff,Nat.reduceShiftRight,Nat.reduceMod])
  (repeat' first | exact trivial | (with_reducible first | exact RnB.fxB (ints_fxB _) | rfl | refine And.intro ?_ ?_) | (with_reducible (first | refine RnB.bb ?_ | refine RnB.nb ?_);simp only [vcW,vZ,Int.reduceEq,Int.reduceNe,Int.reduceLT,Int.reduceLE,Nat.reduceEqDiff,Nat.reduceAdd,reduceIte,reduceCtorEq,Nat.reduceLT,Nat.reduceLeDiff,Nat.reduceShiftRight,Nat.reduceMod]) | (with_reducible first | refine RnB.ii ?_ | refine RnB.app ?_) | (with_reducible refine RnB.fxB ?_;simp only [vcW,vZ,Int.reduceEq,Int.reduceNe,Int.reduceLT,Int.reduceLE,Nat.reduceEqDiff,Nat.reduceAdd,reduceIte,reduceCtorEq,Nat.reduceLT,Nat.reduceLeDiff,Nat.reduceShiftRight,Nat.reduceMod]) | omega)
  all_goals first | rfl | (simp;done) | exact ⟨rfl,rfl⟩
 ·simp [TM.s1]
 ·simp only [TB.av,rnd_s,Int.reduceAdd,Int.reduceSub,decide_true,decide_false,i64_1,i64_2,i64_3,i64_4,true_and,Int.one_mul,Int.cast_ofNat_Int,Int.reduceToNat,Nat.zero_mul,Nat.reduceMul,Nat.zero_add,Nat.mul_one,List.getElem?_cons_zero,List.getElem?_cons_succ,vcC,Int.reduceEq,Int.reduceNe,Int.reduceLT,Int.reduceLE,Nat.reduceEqDiff,Nat.reduceAdd,reduceIte,reduceCtorEq,Nat.reduceLT,Nat.reduceLeDiff,eq_self,vcP,WY_skip,WY_reg,WY_regY,WY_seq,WY_cond,WY_block,WY_exit,WY_ret,VY_nil,VY_yld,VY_yldg,VY_ps,seqY_n,seqY_r,seqY_x,blockY_n,blockY_r,blockY_x,isCallvs,isCallv,isY,List.any_cons,List.any_nil,Bool.or_false,Bool.or_true,Bool.false_or,Bool.and_false,Bool.false_and]
  refine brB_split (fun h=>?_) (fun h=>?_)
  ·have hi':i<b.nx:=by unfold TB.nx;simp at h;omega
   simp only [TB.av,rnd_s,Int.reduceAdd,Int.reduceSub,decide_true,decide_false,i64_1,i64_2,i64_3,i64_4,true_and,Int.one_mul,Int.cast_ofNat_Int,Int.reduceToNat,Nat.zero_mul,Nat.reduceMul,Nat.zero_add,Nat.mul_one,List.getElem?_cons_zero,List.getElem?_cons_succ,vcC,Int.reduceEq,Int.reduceNe,Int.reduceLT,Int.reduceLE,Nat.reduceEqDiff,Nat.reduceAdd,reduceIte,reduceCtorEq,Nat.reduceLT,Nat.reduceLeDiff,eq_self,vcP,WY_skip,WY_reg,WY_regY,WY_seq,WY_cond,WY_block,WY_exit,WY_ret,VY_nil,VY_yld,VY_yldg,VY_ps,seqY_n,seqY_r,seqY_x,blockY_n,blockY_r,blockY_x,isCallvs,isCallv,isY,List.any_cons,List.any_nil,Bool.or_false,Bool.or_true,Bool.false_or,Bool.and_false,Bool.false_and]
   refine WY_loop (α:=PSigma fun j:Nat=>j≤b.ny) (fun j=>((envOf [(0,.yld yl),(1,.eptr b.av 0),(2,.eptr m.av 0),(4,.int .i64 (b.lo.x+i)),(5,.int .i64 (b.lo.y+j.1))],stOf []),some ((m.s1 b i ++ m.s2 b (b.lo.x+i) j.1).map stepA)))
    (fun j=>b.ny - j.1) ⟨0,by omega⟩ ?_ ?_ (fun ⟨j,hj⟩=>?_)
   ·refine weakX [] (of_decide_eq_true rfl) (of_decide_eq_true rfl) ?_
    (simp only [TB.av,vcW,vZ,Int.reduceEq,Int.reduceNe,Int.reduceLT,Int.reduceLE,Nat.reduceEqDiff,Nat.reduceAdd,reduceIte,reduceCtorEq,Nat.reduceLT,Nat.reduceLeDiff,Nat.reduceShiftRight,Nat.reduceMod])
    (repeat' first | exact trivial | (with_reducible first | exact RnB.fxB (ints_fxB _) | rfl | refine And.intro ?_ ?_) | (with_reducible (first | refine RnB.bb ?_ | refine RnB.nb ?_);simp only [vcW,vZ,Int.reduceEq,Int.reduceNe,Int.reduceLT,Int.reduceLE,Nat.reduceEqDiff,Nat.reduceAdd,reduceIte,reduceCtorEq,Nat.reduceLT,Nat.reduceLeDiff,Nat.reduceShiftRight,Nat.reduceMod]) | (with_reducible first | refine RnB.ii ?_ | refine RnB.app ?_) | (with_reducible refine RnB.fxB ?_;simp only [vcW,vZ,Int.reduceEq,Int.reduceNe,Int.reduceLT,Int.reduceLE,Nat.reduceEqDiff,Nat.reduceAdd,reduceIte,reduceCtorEq,Nat.reduceLT,Nat.reduceLeDiff,Nat.reduceShiftRight,Nat.reduceMod]) | omega)
    all_goals first | rfl | (simp;done) | exact ⟨rfl,rfl⟩
   ·simp [TM.s2]
   ·simp only [TB.av,rnd_s,Int.reduceAdd,Int.reduceSub,decide_true,decide_false,i64_1,i64_2,i64_3,i64_4,true_and,Int.one_mul,Int.cast_ofNat_Int,Int.reduceToNat,Nat.zero_mul,Nat.reduceMul,Nat.zero_add,Nat.mul_one,List.getElem?_cons_zero,List.getElem?_cons_succ,vcC,Int.reduceEq,Int.reduceNe,Int.reduceLT,Int.reduceLE,Nat.reduceEqDiff,Nat.reduceAdd,reduceIte,reduceCtorEq,Nat.reduceLT,Nat.reduceLeDiff,eq_self,vcP,WY_skip,WY_reg,WY_regY,WY_seq,WY_cond,WY_block,WY_exit,WY_ret,VY_nil,VY_yld,VY_yldg,VY_ps,seqY_n,seqY_r,seqY_x,blockY_n,blockY_r,blockY_x,isCallvs,isCallv,isY,List.any_cons,List.any_nil,Bool.or_false,Bool.or_true,Bool.false_or,Bool.and_false,Bool.false_and]
    refine brB_split (fun h2=>?_) (fun h2=>?_)
    ·have hj':j<b.ny:=by unfold TB.ny;simp at h2;omega
     simp only [TB.av,rnd_s,Int.reduceAdd,Int.reduceSub,decide_true,decide_false,i64_1,i64_2,i64_3,i64_4,true_and,Int.one_mul,Int.cast_ofNat_Int,Int.reduceToNat,Nat.zero_mul,Nat.reduceMul,Nat.zero_add,Nat.mul_one,List.getElem?_cons_zero,List.getElem?_cons_succ,vcC,Int.reduceEq,Int.reduceNe,Int.reduceLT,Int.reduceLE,Nat.reduceEqDiff,Nat.reduceAdd,reduceIte,reduceCtorEq,Nat.reduceLT,Nat.reduceLeDiff,eq_self,vcP,WY_skip,WY_reg,WY_regY,WY_seq,WY_cond,WY_block,WY_exit,WY_ret,VY_nil,VY_yld,VY_yldg,VY_ps,seqY_n,seqY_r,seqY_x,blockY_n,blockY_r,blockY_x,isCallvs,isCallv,isY,List.any_cons,List.any_nil,Bool.or_false,Bool.or_true,Bool.false_or,Bool.and_false,Bool.false_and]
     refine WY_loop (α:=PSigma fun k:Nat=>k≤b.nz) (fun k=>((envOf [(0,.yld yl),(1,.eptr b.av 0),(2,.eptr m.av 0),(4,.int .i64 (b.lo.x+i)),(5,.int .i64 (b.lo.y+j)),(6,.int .i64 (b.lo.z+k.1))],stOf []),some ((m.s1 b i ++ (m.s2 b (b.lo.x+i) j ++ m.s3 b (b.lo.x+i) (b.lo.y+j) k.1)).map stepA)))
      (fun k=>b.nz - k.1) ⟨0,by omega⟩ ?_ ?_ (fun ⟨k,hk⟩=>?_)
     ·refine weakX [] (of_decide_eq_true rfl) (of_decide_eq_true rfl) ?_
      (simp only [TB.av,vcW,vZ,Int.reduceEq,Int.reduceNe,Int.reduceLT,Int.reduceLE,Nat.reduceEqDiff,Nat.reduceAdd,reduceIte,reduceCtorEq,Nat.reduceLT,Nat.reduceLeDiff,Nat.reduceShiftRight,Nat.reduceMod])
      (repeat' first | exact trivial | (with_reducible first | exact RnB.fxB (ints_fxB _) | rfl | refine And.intro ?_ ?_) | (with_reducible (first | refine RnB.bb ?_ | refine RnB.nb ?_);simp only [vcW,vZ,Int.reduceEq,Int.reduceNe,Int.reduceLT,Int.reduceLE,Nat.reduceEqDiff,Nat.reduceAdd,reduceIte,reduceCtorEq,Nat.reduceLT,Nat.reduceLeDiff,Nat.reduceShiftRight,Nat.reduceMod]) | (with_reducible first | refine RnB.ii ?_ | refine RnB.app ?_) | (with_reducible refine RnB.fxB ?_;simp only [vcW,vZ,Int.reduceEq,Int.reduceNe,Int.reduceLT,Int.reduceLE,Nat.reduceEqDiff,Nat.reduceAdd,reduceIte,reduceCtorEq,Nat.reduceLT,Nat.reduceLeDiff,Nat.reduceShiftRight,Nat.reduceMod]) | omega)
      all_goals first | rfl | (simp;done) | exact ⟨rfl,rfl⟩
     ·simp [TM.s3]
     ·simp only [TB.av,rnd_s,Int.reduceAdd,Int.reduceSub,decide_true,decide_false,i64_1,i64_2,i64_3,i64_4,true_and,Int.one_mul,Int.cast_ofNat_Int,Int.reduceToNat,Nat.zero_mul,Nat.reduceMul,Nat.zero_add,Nat.mul_one,List.getElem?_cons_zero,List.getElem?_cons_succ,vcC,Int.reduceEq,Int.reduceNe,Int.reduceLT,Int.reduceLE,Nat.reduceEqDiff,Nat.reduceAdd,reduceIte,reduceCtorEq,Nat.reduceLT,Nat.reduceLeDiff,eq_self,vcP,WY_skip,WY_reg,WY_regY,WY_seq,WY_cond,WY_block,WY_exit,WY_ret,VY_nil,VY_yld,VY_yldg,VY_ps,seqY_n,seqY_r,seqY_x,blockY_n,blockY_r,blockY_x,isCallvs,isCallv,isY,List.any_cons,List.any_nil,Bool.or_false,Bool.or_true,Bool.false_or,Bool.and_false,Bool.false_and]
      refine brB_split (fun h3=>?_) (fun h3=>?_)
      ·have hk':k<b.nz:=by unfold TB.nz;simp at h3;omega
       simp only [TB.av,TM.av,rnd_s,Int.reduceAdd,Int.reduceSub,decide_true,decide_false,i64_1,i64_2,i64_3,i64_4,true_and,Int.one_mul,Int.cast_ofNat_Int,Int.reduceToNat,Nat.zero_mul,Nat.reduceMul,Nat.zero_add,Nat.mul_one,List.getElem?_cons_zero,List.getElem?_cons_succ,vcC,Int.reduceEq,Int.reduceNe,Int.reduceLT,Int.reduceLE,Nat.reduceEqDiff,Nat.reduceAdd,reduceIte,reduceCtorEq,Nat.reduceLT,Nat.reduceLeDiff,eq_self,vcP,WY_skip,WY_reg,WY_regY,WY_seq,WY_cond,WY_block,WY_exit,WY_ret,VY_nil,VY_yld,VY_yldg,VY_ps,seqY_n,seqY_r,seqY_x,blockY_n,blockY_r,blockY_x,isCallvs,isCallv,isY,List.any_cons,List.any_nil,Bool.or_false,Bool.or_true,Bool.false_or,Bool.and_false,Bool.false_and]
       have hx:b.lo.x+i≤b.hi.x:=by simpa using h
       have hy:b.lo.y+j≤b.hi.y:=by simpa using h2
       have hz:b.lo.z+k≤b.hi.z:=by simpa using h3
       refine callS_of (permitted_s m ⟨b.lo.x+i,b.lo.y+j,b.lo.z+k⟩ ⟨by dsimp only;omega,by dsimp only;omega,by dsimp only;omega⟩) ?_
       obtain ⟨rest,hrest⟩:=steps_pre m b hi' hj' (show k+1≤b.nz by omega)
       rw [s3_succ] at hrest
       by_cases q:m.permits ⟨b.lo.x+i,b.lo.y+j,b.lo.z+k⟩
       case pos =>
        have q':m.lo≤(V3.mk (b.lo.x+i) (b.lo.y+j) (b.lo.z+k)).dot ⟨b.lo.x+i,b.lo.y+j,b.lo.z+k⟩∧(V3.mk (b.lo.x+i) (b.lo.y+j) (b.lo.z+k)).dot ⟨b.lo.x+i,b.lo.y+j,b.lo.z+k⟩≤m.hi:=q
        rw [if_pos q] at hrest
        simp only [q',and_self,decide_true,TB.av,TM.av,rnd_s,Int.reduceAdd,Int.reduceSub,decide_true,decide_false,i64_1,i64_2,i64_3,i64_4,true_and,Int.one_mul,Int.cast_ofNat_Int,Int.reduceToNat,Nat.zero_mul,Nat.reduceMul,Nat.zero_add,Nat.mul_one,List.getElem?_cons_zero,List.getElem?_cons_succ,vcC,Int.reduceEq,Int.reduceNe,Int.reduceLT,Int.reduceLE,Nat.reduceEqDiff,Nat.reduceAdd,reduceIte,reduceCtorEq,Nat.reduceLT,Nat.reduceLeDiff,eq_self,vcP,WY_skip,WY_reg,WY_regY,WY_seq,WY_cond,WY_block,WY_exit,WY_ret,VY_nil,VY_yld,VY_yldg,VY_ps,seqY_n,seqY_r,seqY_x,blockY_n,blockY_r,blockY_x,isCallvs,isCallv,isY,List.any_cons,List.any_nil,Bool.or_false,Bool.or_true,Bool.false_or,Bool.and_false,Bool.false_and]
        refine yS_of ((m.s1 b i ++ (m.s2 b (b.lo.x+i) j ++ m.s3 b (b.lo.x+i) (b.lo.y+j) k)).map stepA) (rest.map stepA) rfl ?_ ?_ ?_
        ·rw [hrest];simp [stepA,V3.av]
        ·simp only [Bool.not_true,TB.av,TM.av,rnd_s,Int.reduceAdd,Int.reduceSub,decide_true,decide_false,i64_1,i64_2,i64_3,i64_4,true_and,Int.one_mul,Int.cast_ofNat_Int,Int.reduceToNat,Nat.zero_mul,Nat.reduceMul,Nat.zero_add,Nat.mul_one,List.getElem?_cons_zero,List.getElem?_cons_succ,vcC,Int.reduceEq,Int.reduceNe,Int.reduceLT,Int.reduceLE,Nat.reduceEqDiff,Nat.reduceAdd,reduceIte,reduceCtorEq,Nat.reduceLT,Nat.reduceLeDiff,eq_self,vcP,WY_skip,WY_reg,WY_regY,WY_seq,WY_cond,WY_block,WY_exit,WY_ret,VY_nil,VY_yld,VY_yldg,VY_ps,seqY_n,seqY_r,seqY_x,blockY_n,blockY_r,blockY_x,isCallvs,isCallv,isY,List.any_cons,List.any_nil,Bool.or_false,Bool.or_true,Bool.false_or,Bool.and_false,Bool.false_and]
         refine ⟨by unfold I64;omega,⟨k+1,by omega⟩,by dsimp only;omega,?_,?_⟩
         ·refine weakX [] (of_decide_eq_true rfl) (of_decide_eq_true rfl) ?_
          (simp only [TB.av,vcW,vZ,Int.reduceEq,Int.reduceNe,Int.reduceLT,Int.reduceLE,Nat.reduceEqDiff,Nat.reduceAdd,reduceIte,reduceCtorEq,Nat.reduceLT,Nat.reduceLeDiff,Nat.reduceShiftRight,Nat.reduceMod])
          (repeat' first | exact trivial | (with_reducible first | exact RnB.fxB (ints_fxB _) | rfl | refine And.intro ?_ ?_) | (with_reducible (first | refine RnB.bb ?_ | refine RnB.nb ?_);simp only [vcW,vZ,Int.reduceEq,Int.reduceNe,Int.reduceLT,Int.reduceLE,Nat.reduceEqDiff,Nat.reduceAdd,reduceIte,reduceCtorEq,Nat.reduceLT,Nat.reduceLeDiff,Nat.reduceShiftRight,Nat.reduceMod]) | (with_reducible first | refine RnB.ii ?_ | refine RnB.app ?_) | (with_reducible refine RnB.fxB ?_;simp only [vcW,vZ,Int.reduceEq,Int.reduceNe,Int.reduceLT,Int.reduceLE,Nat.reduceEqDiff,Nat.reduceAdd,reduceIte,reduceCtorEq,Nat.reduceLT,Nat.reduceLeDiff,Nat.reduceShiftRight,Nat.reduceMod]) | omega)
          all_goals first | rfl | (simp;done) | exact ⟨rfl,rfl⟩ | omega
         ·dsimp only;rw [s3_succ,if_pos q];simp [stepA,V3.av]
        ·simp only [Bool.not_false,TB.av,TM.av,rnd_s,Int.reduceAdd,Int.reduceSub,decide_true,decide_false,i64_1,i64_2,i64_3,i64_4,true_and,Int.one_mul,Int.cast_ofNat_Int,Int.reduceToNat,Nat.zero_mul,Nat.reduceMul,Nat.zero_add,Nat.mul_one,List.getElem?_cons_zero,List.getElem?_cons_succ,vcC,Int.reduceEq,Int.reduceNe,Int.reduceLT,Int.reduceLE,Nat.reduceEqDiff,Nat.reduceAdd,reduceIte,reduceCtorEq,Nat.reduceLT,Nat.reduceLeDiff,eq_self,vcP,WY_skip,WY_reg,WY_regY,WY_seq,WY_cond,WY_block,WY_exit,WY_ret,VY_nil,VY_yld,VY_yldg,VY_ps,seqY_n,seqY_r,seqY_x,blockY_n,blockY_r,blockY_x,isCallvs,isCallv,isY,List.any_cons,List.any_nil,Bool.or_false,Bool.or_true,Bool.false_or,Bool.and_false,Bool.false_and]
         simp
       case neg =>
        have q':¬ (m.lo≤(V3.mk (b.lo.x+i) (b.lo.y+j) (b.lo.z+k)).dot ⟨b.lo.x+i,b.lo.y+j,b.lo.z+k⟩∧(V3.mk (b.lo.x+i) (b.lo.y+j) (b.lo.z+k)).dot ⟨b.lo.x+i,b.lo.y+j,b.lo.z+k⟩≤m.hi):=q
        rw [if_neg q,List.append_nil] at hrest
        simp only [q',decide_false,TB.av,TM.av,rnd_s,Int.reduceAdd,Int.reduceSub,decide_true,decide_false,i64_1,i64_2,i64_3,i64_4,true_and,Int.one_mul,Int.cast_ofNat_Int,Int.reduceToNat,Nat.zero_mul,Nat.reduceMul,Nat.zero_add,Nat.mul_one,List.getElem?_cons_zero,List.getElem?_cons_succ,vcC,Int.reduceEq,Int.reduceNe,Int.reduceLT,Int.reduceLE,Nat.reduceEqDiff,Nat.reduceAdd,reduceIte,reduceCtorEq,Nat.reduceLT,Nat.reduceLeDiff,eq_self,vcP,WY_skip,WY_reg,WY_regY,WY_seq,WY_cond,WY_block,WY_exit,WY_ret,VY_nil,VY_yld,VY_yldg,VY_ps,seqY_n,seqY_r,seqY_x,blockY_n,blockY_r,blockY_x,isCallvs,isCallv,isY,List.any_cons,List.any_nil,Bool.or_false,Bool.or_true,Bool.false_or,Bool.and_false,Bool.false_and]
        refine ⟨by unfold I64;omega,⟨k+1,by omega⟩,by dsimp only;omega,?_,?_⟩
        ·refine weakX [] (of_decide_eq_true rfl) (of_decide_eq_true rfl) ?_
         (simp only [TB.av,vcW,vZ,Int.reduceEq,Int.reduceNe,Int.reduceLT,Int.reduceLE,Nat.reduceEqDiff,Nat.reduceAdd,reduceIte,reduceCtorEq,Nat.reduceLT,Nat.reduceLeDiff,Nat.reduceShiftRight,Nat.reduceMod])
         (repeat' first | exact trivial | (with_reducible first | exact RnB.fxB (ints_fxB _) | rfl | refine And.intro ?_ ?_) | (with_reducible (first | refine RnB.bb ?_ | refine RnB.nb ?_);simp only [vcW,vZ,Int.reduceEq,Int.reduceNe,Int.reduceLT,Int.reduceLE,Nat.reduceEqDiff,Nat.reduceAdd,reduceIte,reduceCtorEq,Nat.reduceLT,Nat.reduceLeDiff,Nat.reduceShiftRight,Nat.reduceMod]) | (with_reducible first | refine RnB.ii ?_ | refine RnB.app ?_) | (with_reducible refine RnB.fxB ?_;simp only [vcW,vZ,Int.reduceEq,Int.reduceNe,Int.reduceLT,Int.reduceLE,Nat.reduceEqDiff,Nat.reduceAdd,reduceIte,reduceCtorEq,Nat.reduceLT,Nat.reduceLeDiff,Nat.reduceShiftRight,Nat.reduceMod]) | omega)
         all_goals first | rfl | (simp;done) | exact ⟨rfl,rfl⟩ | omega
        ·dsimp only;rw [s3_succ,if_neg q,List.append_nil]
      ·have hk':k=b.nz:=by unfold TB.nz at *;simp at h3;omega
       subst hk'
       have hy:b.lo.y+j≤b.hi.y:=by simpa using h2
       simp only [TB.av,TM.av,rnd_s,Int.reduceAdd,Int.reduceSub,decide_true,decide_false,i64_1,i64_2,i64_3,i64_4,true_and,Int.one_mul,Int.cast_ofNat_Int,Int.reduceToNat,Nat.zero_mul,Nat.reduceMul,Nat.zero_add,Nat.mul_one,List.getElem?_cons_zero,List.getElem?_cons_succ,vcC,Int.reduceEq,Int.reduceNe,Int.reduceLT,Int.reduceLE,Nat.reduceEqDiff,Nat.reduceAdd,reduceIte,reduceCtorEq,Nat.reduceLT,Nat.reduceLeDiff,eq_self,vcP,WY_skip,WY_reg,WY_regY,WY_seq,WY_cond,WY_block,WY_exit,WY_ret,VY_nil,VY_yld,VY_yldg,VY_ps,seqY_n,seqY_r,seqY_x,blockY_n,blockY_r,blockY_x,isCallvs,isCallv,isY,List.any_cons,List.any_nil,Bool.or_false,Bool.or_true,Bool.false_or,Bool.and_false,Bool.false_and]
       refine ⟨by unfold I64;omega,⟨j+1,by omega⟩,by dsimp only;omega,?_,?_⟩
       ·refine weakX [] (of_decide_eq_true rfl) (of_decide_eq_true rfl) ?_
        (simp only [TB.av,vcW,vZ,Int.reduceEq,Int.reduceNe,Int.reduceLT,Int.reduceLE,Nat.reduceEqDiff,Nat.reduceAdd,reduceIte,reduceCtorEq,Nat.reduceLT,Nat.reduceLeDiff,Nat.reduceShiftRight,Nat.reduceMod])
        (repeat' first | exact trivial | (with_reducible first | exact RnB.fxB (ints_fxB _) | rfl | refine And.intro ?_ ?_) | (with_reducible (first | refine RnB.bb ?_ | refine RnB.nb ?_);simp only [vcW,vZ,Int.reduceEq,Int.reduceNe,Int.reduceLT,Int.reduceLE,Nat.reduceEqDiff,Nat.reduceAdd,reduceIte,reduceCtorEq,Nat.reduceLT,Nat.reduceLeDiff,Nat.reduceShiftRight,Nat.reduceMod]) | (with_reducible first | refine RnB.ii ?_ | refine RnB.app ?_) | (with_reducible refine RnB.fxB ?_;simp only [vcW,vZ,Int.reduceEq,Int.reduceNe,Int.reduceLT,Int.reduceLE,Nat.reduceEqDiff,Nat.reduceAdd,reduceIte,reduceCtorEq,Nat.reduceLT,Nat.reduceLeDiff,Nat.reduceShiftRight,Nat.reduceMod]) | omega)
        all_goals first | rfl | (simp;done) | exact ⟨rfl,rfl⟩ | omega
       ·dsimp only;rw [s2_succ]
    ·have hj':j=b.ny:=by unfold TB.ny at *;simp at h2;omega
     subst hj'
     have hx:b.lo.x+i≤b.hi.x:=by simpa using h
     simp only [TB.av,TM.av,rnd_s,Int.reduceAdd,Int.reduceSub,decide_true,decide_false,i64_1,i64_2,i64_3,i64_4,true_and,Int.one_mul,Int.cast_ofNat_Int,Int.reduceToNat,Nat.zero_mul,Nat.reduceMul,Nat.zero_add,Nat.mul_one,List.getElem?_cons_zero,List.getElem?_cons_succ,vcC,Int.reduceEq,Int.reduceNe,Int.reduceLT,Int.reduceLE,Nat.reduceEqDiff,Nat.reduceAdd,reduceIte,reduceCtorEq,Nat.reduceLT,Nat.reduceLeDiff,eq_self,vcP,WY_skip,WY_reg,WY_regY,WY_seq,WY_cond,WY_block,WY_exit,WY_ret,VY_nil,VY_yld,VY_yldg,VY_ps,seqY_n,seqY_r,seqY_x,blockY_n,blockY_r,blockY_x,isCallvs,isCallv,isY,List.any_cons,List.any_nil,Bool.or_false,Bool.or_true,Bool.false_or,Bool.and_false,Bool.false_and]
     refine ⟨by unfold I64;omega,⟨i+1,by omega⟩,by dsimp only;omega,?_,?_⟩
     ·refine weakX [] (of_decide_eq_true rfl) (of_decide_eq_true rfl) ?_
      (simp only [TB.av,vcW,vZ,Int.reduceEq,Int.reduceNe,Int.reduceLT,Int.reduceLE,Nat.reduceEqDiff,Nat.reduceAdd,reduceIte,reduceCtorEq,Nat.reduceLT,Nat.reduceLeDiff,Nat.reduceShiftRight,Nat.reduceMod])
      (repeat' first | exact trivial | (with_reducible first | exact RnB.fxB (ints_fxB _) | rfl | refine And.intro ?_ ?_) | (with_reducible (first | refine RnB.bb ?_ | refine RnB.nb ?_);simp only [vcW,vZ,Int.reduceEq,Int.reduceNe,Int.reduceLT,Int.reduceLE,Nat.reduceEqDiff,Nat.reduceAdd,reduceIte,reduceCtorEq,Nat.reduceLT,Nat.reduceLeDiff,Nat.reduceShiftRight,Nat.reduceMod]) | (with_reducible first | refine RnB.ii ?_ | refine RnB.app ?_) | (with_reducible refine RnB.fxB ?_;simp only [vcW,vZ,Int.reduceEq,Int.reduceNe,Int.reduceLT,Int.reduceLE,Nat.reduceEqDiff,Nat.reduceAdd,reduceIte,reduceCtorEq,Nat.reduceLT,Nat.reduceLeDiff,Nat.reduceShiftRight,Nat.reduceMod]) | omega)
      all_goals first | rfl | (simp;done) | exact ⟨rfl,rfl⟩ | omega
     ·dsimp only;rw [s1_succ]
  ·have hi':i=b.nx:=by unfold TB.nx at *;simp at h;omega
   subst hi'
   simp only [TB.av,TM.av,rnd_s,Int.reduceAdd,Int.reduceSub,decide_true,decide_false,i64_1,i64_2,i64_3,i64_4,true_and,Int.one_mul,Int.cast_ofNat_Int,Int.reduceToNat,Nat.zero_mul,Nat.reduceMul,Nat.zero_add,Nat.mul_one,List.getElem?_cons_zero,List.getElem?_cons_succ,vcC,Int.reduceEq,Int.reduceNe,Int.reduceLT,Int.reduceLE,Nat.reduceEqDiff,Nat.reduceAdd,reduceIte,reduceCtorEq,Nat.reduceLT,Nat.reduceLeDiff,eq_self,vcP,WY_skip,WY_reg,WY_regY,WY_seq,WY_cond,WY_block,WY_exit,WY_ret,VY_nil,VY_yld,VY_yldg,VY_ps,seqY_n,seqY_r,seqY_x,blockY_n,blockY_r,blockY_x,isCallvs,isCallv,isY,List.any_cons,List.any_nil,Bool.or_false,Bool.or_true,Bool.false_or,Bool.and_false,Bool.false_and]
   simp [TM.steps]
end Go.Proofs.Ytoiajhogondgcaa

/- The contract of StepsIn. By an AI agent;nothing here is trusted. -/
namespace Go.Proofs.Ytoiajhogondgcaa
open Go.Av

theorem fm_len {α:Type} (f:Nat→List α) (c:Nat) (h:∀ j,(f j).length≤c):∀ k,((List.range k).flatMap f).length≤k * c
 | 0=>by simp
 | k+1=>by
  rw [fm_succ,List.length_append,Nat.add_mul]
  have:=fm_len f c h k
  have:=h k
  omega
theorem steps_len (m:TM) (b:TB):(m.steps b).length≤b.nx * (b.ny * (b.nz * 1)) :=
 fm_len _ _ (fun i=>fm_len _ _ (fun j=>fm_len _ _ (fun k=>by split <;> simp) _) _) _
theorem steps_len2 (m:TM) (b:TB) (ho:b.ord):((m.steps b).length:Int)≤b.count:=by
 obtain ⟨o1,o2,o3⟩:=ho
 have h:=steps_len m b
 have e:((b.nx * (b.ny * (b.nz * 1)):Nat):Int)=b.count:=by
  unfold TB.nx TB.ny TB.nz TB.count
  rw [Nat.mul_one,Int.natCast_mul,Int.natCast_mul,Int.toNat_of_nonneg (by omega),Int.toNat_of_nonneg (by omega),Int.toNat_of_nonneg (by omega),Int.mul_assoc]
 omega
theorem at_pre {α:Type} {L:List α} {f:α→List AV} {pre:List (List AV)} {x:List AV} {rest:List (List AV)} (h:pre ++ x :: rest=L.map f):∃ hk:pre.length<L.length,x=f L[pre.length]:=by
 have hlen:pre.length<L.length:=by have:=congrArg List.length h;simp at this;omega
 refine ⟨hlen,?_⟩
 have:=congrArg (fun l=>l[pre.length]?) h
 simp [hlen] at this
 exact this
def vecs (l:List V3):List AV:=l.map V3.av
theorem vecs_length (l:List V3):(vecs l).length=l.length:=by simp [vecs]
theorem vecs_fx (l:List V3):∀ x ∈ vecs l,fx x=true:=by
 intro x hx
 obtain ⟨n,_,rfl⟩:=List.mem_map.1 hx
 rfl
theorem vecs_fxB (l:List V3):(vecs l).all fx=true:=List.all_eq_true.2 (vecs_fx l)
theorem vecs_get (l:List V3) (i:Nat) (h:i<l.length):(vecs l)[i]?=some l[i].av:=by simp [vecs,h]
theorem vecs_one (v:V3):vecs [v]=[v.av]:=rfl
theorem vecs_append (l r:List V3):vecs (l ++ r)=vecs l ++ vecs r:=by simp [vecs]
def obE (m:TM) (b:TB):Int:=if m.err ≠ 0 then m.err else b.err
theorem obE_ok {m:TM} {b:TB} (h:obE m b=0):m.Ok∧b.Ok∧b.count≤700:=by
 unfold obE at h
 by_cases h1:m.err=0
 case neg=>simp [h1] at h
 simp [h1] at h
 obtain ⟨g1,g2,g3,g4⟩:=b.err_ok h
 exact ⟨m.err_ok h1,⟨g1,g2,g3⟩,g4⟩
set_option maxHeartbeats 4000000 in
set_option maxRecDepth 10000 in
theorem StepsIn_s (m:TM) (b:TB):Sound Try.prog 20 [m.av,b.av] (.tup [.sl (if obE m b=0 then vecs (m.steps b) else []),.int .i64 (obE m b)]):=by
 refine sound_W f_track_StepsIn (Nat.le_of_ble_eq_true rfl) ?_
 have hfold:(if m.err ≠ 0 then m.err else b.err)=obE m b:=rfl
 by_cases q:obE m b=0
 case neg =>
  simp only [c_track_StepsIn,TM.av,TB.av,rnd_s,Int.reduceAdd,Int.reduceSub,decide_true,decide_false,i64_1,i64_2,i64_3,i64_4,true_and,Int.one_mul,Int.cast_ofNat_Int,Int.reduceToNat,Nat.zero_mul,Nat.reduceMul,Nat.zero_add,Nat.mul_one,List.getElem?_cons_zero,List.getElem?_cons_succ,vZ,Int.reduceEq,Int.reduceNe,Int.reduceLT,Int.reduceLE,Nat.reduceEqDiff,Nat.reduceAdd,reduceIte,reduceCtorEq,Nat.reduceLT,Nat.reduceLeDiff,Nat.reduceShiftRight,Nat.reduceMod]
  refine callS_of (openBox_s m b) ?_
  simp only [TM.av,rnd_s,Int.reduceAdd,Int.reduceSub,decide_true,decide_false,i64_1,i64_2,i64_3,i64_4,true_and,Int.one_mul,Int.cast_ofNat_Int,Int.reduceToNat,Nat.zero_mul,Nat.reduceMul,Nat.zero_add,Nat.mul_one,List.getElem?_cons_zero,List.getElem?_cons_succ,vZ,Int.reduceEq,Int.reduceNe,Int.reduceLT,Int.reduceLE,Nat.reduceEqDiff,Nat.reduceAdd,reduceIte,reduceCtorEq,Nat.reduceLT,Nat.reduceLeDiff,Nat.reduceShiftRight,Nat.reduceMod]
  rw [hfold]
  simp only [q,decide_false,Bool.not_false,if_false,rnd_s,Int.reduceAdd,Int.reduceSub,decide_true,decide_false,i64_1,i64_2,i64_3,i64_4,true_and,Int.one_mul,Int.cast_ofNat_Int,Int.reduceToNat,Nat.zero_mul,Nat.reduceMul,Nat.zero_add,Nat.mul_one,List.getElem?_cons_zero,List.getElem?_cons_succ,vZ,Int.reduceEq,Int.reduceNe,Int.reduceLT,Int.reduceLE,Nat.reduceEqDiff,Nat.reduceAdd,reduceIte,reduceCtorEq,Nat.reduceLT,Nat.reduceLeDiff,Nat.reduceShiftRight,Nat.reduceMod]
 obtain ⟨hm,hb,hc⟩:=obE_ok q
 have hlen:=steps_len2 m b hb.o
 have hML:1000000000≤maxLen:=by decide
 simp only [c_track_StepsIn,TM.av,TB.av,rnd_s,Int.reduceAdd,Int.reduceSub,decide_true,decide_false,i64_1,i64_2,i64_3,i64_4,true_and,Int.one_mul,Int.cast_ofNat_Int,Int.reduceToNat,Nat.zero_mul,Nat.reduceMul,Nat.zero_add,Nat.mul_one,List.getElem?_cons_zero,List.getElem?_cons_succ,vZ,Int.reduceEq,Int.reduceNe,Int.reduceLT,Int.reduceLE,Nat.reduceEqDiff,Nat.reduceAdd,reduceIte,reduceCtorEq,Nat.reduceLT,Nat.reduceLeDiff,Nat.reduceShiftRight,Nat.reduceMod]
 refine callS_of (openBox_s m b) ?_
 simp only [hfold,q,decide_true,Bool.not_true,if_true,TM.av,TB.av,rnd_s,Int.reduceAdd,Int.reduceSub,decide_true,decide_false,i64_1,i64_2,i64_3,i64_4,true_and,Int.one_mul,Int.cast_ofNat_Int,Int.reduceToNat,Nat.zero_mul,Nat.reduceMul,Nat.zero_add,Nat.mul_one,List.getElem?_cons_zero,List.getElem?_cons_succ,vZ,Int.reduceEq,Int.reduceNe,Int.reduceLT,Int.reduceLE,Nat.reduceEqDiff,Nat.reduceAdd,reduceIte,reduceCtorEq,Nat.reduceLT,Nat.reduceLeDiff,Nat.reduceShiftRight,Nat.reduceMod]
 refine callS_of (steps_s m b) ?_
 simp only [TM.av,TB.av,rnd_s,Int.reduceAdd,Int.reduceSub,decide_true,decide_false,i64_1,i64_2,i64_3,i64_4,true_and,Int.one_mul,Int.cast_ofNat_Int,Int.reduceToNat,Nat.zero_mul,Nat.reduceMul,Nat.zero_add,Nat.mul_one,List.getElem?_cons_zero,List.getElem?_cons_succ,vZ,Int.reduceEq,Int.reduceNe,Int.reduceLT,Int.reduceLE,Nat.reduceEqDiff,Nat.reduceAdd,reduceIte,reduceCtorEq,Nat.reduceLT,Nat.reduceLeDiff,Nat.reduceShiftRight,Nat.reduceMod]
 refine W_weakR (t:=.mk) (envOf [(8,.ptr 8 0 0),(21,.fn 57 [.eptr b.av 0,.eptr m.av 0])],stOf [(8,⟨41,1,[.buf 100 0]⟩),(100,⟨22,3,vecs []⟩)]) ?_ ?_
 ·refine weakX [(100,none)] (of_decide_eq_true rfl) (of_decide_eq_true rfl) ?_
  (simp only [TM.av,TB.av,vcW,vZ,Int.reduceEq,Int.reduceNe,Int.reduceLT,Int.reduceLE,Nat.reduceEqDiff,Nat.reduceAdd,reduceIte,reduceCtorEq,Nat.reduceLT,Nat.reduceLeDiff,Nat.reduceShiftRight,Nat.reduceMod])
  (repeat' first | exact trivial | (with_reducible first | exact RnB.fxB (ints_fxB _) | rfl | refine And.intro ?_ ?_) | (with_reducible (first | refine RnB.bb ?_ | refine RnB.nb ?_);simp only [vcW,vZ,Int.reduceEq,Int.reduceNe,Int.reduceLT,Int.reduceLE,Nat.reduceEqDiff,Nat.reduceAdd,reduceIte,reduceCtorEq,Nat.reduceLT,Nat.reduceLeDiff,Nat.reduceShiftRight,Nat.reduceMod]) | (with_reducible first | refine RnB.ii ?_ | refine RnB.app ?_) | (with_reducible refine RnB.fxB ?_;simp only [vcW,vZ,Int.reduceEq,Int.reduceNe,Int.reduceLT,Int.reduceLE,Nat.reduceEqDiff,Nat.reduceAdd,reduceIte,reduceCtorEq,Nat.reduceLT,Nat.reduceLeDiff,Nat.reduceShiftRight,Nat.reduceMod]) | omega)
  all_goals first | rfl | exact RnB.fxB rfl | skip
 ·refine W_rf (tt:=.mk) (xs:=(m.steps b).map stepA) rfl (by simp [imm]) rfl rfl (steps1_s m b hb) (by intro x hx;obtain ⟨p,_,rfl⟩:=List.mem_map.1 hx;rfl) (fun pre=>stOf [(8,⟨41,1,[.buf 100 pre.length]⟩),(100,⟨22,3,vecs ((m.steps b).take pre.length)⟩)]) (by simpa using Weak.refl _) (fun pre x rest hsp=>?_) ?_
  ·obtain ⟨hk,hx⟩:=at_pre hsp
   subst hx
   have hlen1:(pre ++ [stepA (m.steps b)[pre.length]]).length=pre.length+1:=by simp
   rw [hlen1,List.take_succ_eq_append_getElem hk]
   simp only [stepA,V3.av,vecs_length,rnd_s,Int.reduceAdd,Int.reduceSub,decide_true,decide_false,i64_1,i64_2,i64_3,i64_4,true_and,Int.one_mul,Int.cast_ofNat_Int,Int.reduceToNat,Nat.zero_mul,Nat.reduceMul,Nat.zero_add,Nat.mul_one,List.getElem?_cons_zero,List.getElem?_cons_succ,vZ,Int.reduceEq,Int.reduceNe,Int.reduceLT,Int.reduceLE,Nat.reduceEqDiff,Nat.reduceAdd,reduceIte,reduceCtorEq,Nat.reduceLT,Nat.reduceLeDiff,Nat.reduceShiftRight,Nat.reduceMod]
   refine ⟨⟨by simp;omega,by omega,by omega⟩,?_⟩
   refine weakX [(100,some 26)] (of_decide_eq_true rfl) (of_decide_eq_true rfl) ?_
   (simp only [vecs_append,vecs_one,V3.av,vcW,vZ,Int.reduceEq,Int.reduceNe,Int.reduceLT,Int.reduceLE,Nat.reduceEqDiff,Nat.reduceAdd,reduceIte,reduceCtorEq,Nat.reduceLT,Nat.reduceLeDiff,Nat.reduceShiftRight,Nat.reduceMod])
   (repeat' first | exact trivial | (with_reducible first | exact RnB.fxB (ints_fxB _) | rfl | refine And.intro ?_ ?_) | (with_reducible (first | refine RnB.bb ?_ | refine RnB.nb ?_);simp only [vcW,vZ,Int.reduceEq,Int.reduceNe,Int.reduceLT,Int.reduceLE,Nat.reduceEqDiff,Nat.reduceAdd,reduceIte,reduceCtorEq,Nat.reduceLT,Nat.reduceLeDiff,Nat.reduceShiftRight,Nat.reduceMod]) | (with_reducible first | refine RnB.ii ?_ | refine RnB.app ?_) | (with_reducible refine RnB.fxB ?_;simp only [vcW,vZ,Int.reduceEq,Int.reduceNe,Int.reduceLT,Int.reduceLE,Nat.reduceEqDiff,Nat.reduceAdd,reduceIte,reduceCtorEq,Nat.reduceLT,Nat.reduceLeDiff,Nat.reduceShiftRight,Nat.reduceMod]) | omega)
   all_goals first | rfl | exact RnB.fxB (by rw [List.all_append,vecs_fxB];rfl) | skip
  ·simp only [rnd_s,Int.reduceAdd,Int.reduceSub,decide_true,decide_false,i64_1,i64_2,i64_3,i64_4,true_and,Int.one_mul,Int.cast_ofNat_Int,Int.reduceToNat,Nat.zero_mul,Nat.reduceMul,Nat.zero_add,Nat.mul_one,List.getElem?_cons_zero,List.getElem?_cons_succ,vZ,Int.reduceEq,Int.reduceNe,Int.reduceLT,Int.reduceLE,Nat.reduceEqDiff,Nat.reduceAdd,reduceIte,reduceCtorEq,Nat.reduceLT,Nat.reduceLeDiff,Nat.reduceShiftRight,Nat.reduceMod]
   rw [List.length_map,List.take_length,borB_good _ _ _ _ _ (by simp [vecs]) (vecs_fx _)]
   simp [q]
end Go.Proofs.Ytoiajhogondgcaa

/- The contract of ConeOf. By an AI agent;nothing here is trusted. -/
namespace Go.Proofs.Ytoiajhogondgcaa
open Go.Av

def TM.coneL (m:TM) (l:List TH) (t:Int) (L:List V3):List V3:=L.filter fun v=>decide (m.score v l≤t)
theorem coneL_succ (m:TM) (l:List TH) (t:Int) (L:List V3) (k:Nat) (h:k<L.length):m.coneL l t (L.take (k+1))=m.coneL l t (L.take k) ++ if m.score L[k] l≤t then [L[k]] else []:=by
 unfold TM.coneL
 rw [List.take_succ_eq_append_getElem h,List.filter_append]
 by_cases hi:m.score L[k] l≤t
 ·rw [if_pos hi,List.filter_cons_of_pos (by simpa using hi)];rfl
 ·rw [if_neg hi,List.filter_cons_of_neg (by simpa using hi)];rfl
theorem coneL_le (m:TM) (l:List TH) (t:Int) (L:List V3):(m.coneL l t L).length≤L.length:=List.length_filter_le _ _
theorem steps_mem {m:TM} {b:TB} {v:V3}:v ∈ m.steps b ↔ b.has v∧m.permits v:=by
 unfold TM.steps TM.s1 TM.s2 TM.s3 TB.nx TB.ny TB.nz
 simp only [List.mem_flatMap,List.mem_range]
 constructor
 ·rintro ⟨i,hi,j,hj,k,hk,h⟩
  split at h
  ·rename_i hp
   rw [List.mem_singleton] at h
   subst h
   refine ⟨⟨⟨?_,?_⟩,⟨?_,?_⟩,?_,?_⟩,hp⟩ <;> dsimp only <;> omega
  ·cases h
 ·rintro ⟨⟨⟨h1,h2⟩,⟨h3,h4⟩,h5,h6⟩,hp⟩
  refine ⟨(v.x - b.lo.x).toNat,by omega,(v.y - b.lo.y).toNat,by omega,(v.z - b.lo.z).toNat,by omega,?_⟩
  have e:(⟨b.lo.x+((v.x - b.lo.x).toNat:Int),b.lo.y+((v.y - b.lo.y).toNat:Int),b.lo.z+((v.z - b.lo.z).toNat:Int)⟩:V3)=v:=by
   cases v
   dsimp only at *
   congr 1 <;> omega
  rw [e,if_pos hp];simp
theorem best_bd {m:TM} {l:List TH} (hm:m.Ok) (hl:l.length≤12) (ho:∀ h ∈ l,h.ok):∀ (f:Nat) (b:TB) (k:KN),(0≤k.n∧k.n≤120000)→(0≤(TM.best m l f b k).n∧(TM.best m l f b k).n≤120000)
 | 0,_,_,h=>h
 | f+1,b,k,h=>by
  have hs:=score_bd (l:=l) b.lo hm ho
  unfold TM.best
  split
  ·exact h
  ·split
   ·exact h
   ·split
    ·exact best_bd hm hl ho f _ _ (best_bd hm hl ho f _ _ h)
    ·split
     ·dsimp only;omega
     ·exact h
theorem bestN_bd {m:TM} {b:TB} {l:List TH} (q:openE m b l=0):0≤bestN m b l∧bestN m b l≤120000:=by
 obtain ⟨hm,hb,hc,hl2,ho⟩:=openE_ok q
 have:=best_bd hm hl2 ho b.count.toNat b ⟨V3.o,0⟩ (by dsimp only;omega)
 unfold bestN TM.bestOf
 rw [if_pos q]
 split
 ·omega
 ·exact this
def TM.cone (m:TM) (b:TB) (l:List TH) (t:Int):List V3:=m.coneL l t (m.steps b)
set_option maxHeartbeats 4000000 in
set_option maxRecDepth 10000 in
theorem ConeOf_s (m:TM) (x:TS) (more:Int) (q:openE m x.b x.h=0) (hmo:0≤more∧more≤120000):Sound Try.prog 11 [m.av,x.av,.int .i64 more] (.tup [.sl (if bestE m x.b x.h=0 then vecs (m.cone x.b x.h (bestN m x.b x.h+more)) else []),.int .i64 (bestE m x.b x.h)]):=by
 refine sound_W f_track_ConeOf (Nat.le_of_ble_eq_true rfl) ?_
 obtain ⟨hm,hb,hc,hl2,ho⟩:=openE_ok q
 have hlen:=steps_len2 m x.b hb.o
 have hML:1000000000≤maxLen:=by decide
 have hmo':decide (0≤more∧more≤120000)=true:=decide_eq_true hmo
 simp only [c_track_ConeOf,TM.av,TS.av,rnd_s,Int.reduceAdd,Int.reduceSub,decide_true,decide_false,i64_1,i64_2,i64_3,i64_4,true_and,Int.one_mul,Int.cast_ofNat_Int,Int.reduceToNat,Nat.zero_mul,Nat.reduceMul,Nat.zero_add,Nat.mul_one,List.getElem?_cons_zero,List.getElem?_cons_succ,vZ,Int.reduceEq,Int.reduceNe,Int.reduceLT,Int.reduceLE,Nat.reduceEqDiff,Nat.reduceAdd,reduceIte,reduceCtorEq,Nat.reduceLT,Nat.reduceLeDiff,Nat.reduceShiftRight,Nat.reduceMod]
 refine callS_of (openHits_s m x.b x.h (by omega)) ?_
 simp only [q,TM.av,TB.av,rnd_s,Int.reduceAdd,Int.reduceSub,decide_true,decide_false,i64_1,i64_2,i64_3,i64_4,true_and,Int.one_mul,Int.cast_ofNat_Int,Int.reduceToNat,Nat.zero_mul,Nat.reduceMul,Nat.zero_add,Nat.mul_one,List.getElem?_cons_zero,List.getElem?_cons_succ,vZ,Int.reduceEq,Int.reduceNe,Int.reduceLT,Int.reduceLE,Nat.reduceEqDiff,Nat.reduceAdd,reduceIte,reduceCtorEq,Nat.reduceLT,Nat.reduceLeDiff,Nat.reduceShiftRight,Nat.reduceMod]
 refine callS_of (within_s _ _ _) ?_
 simp only [hmo',TM.av,TB.av,rnd_s,Int.reduceAdd,Int.reduceSub,decide_true,decide_false,i64_1,i64_2,i64_3,i64_4,true_and,Int.one_mul,Int.cast_ofNat_Int,Int.reduceToNat,Nat.zero_mul,Nat.reduceMul,Nat.zero_add,Nat.mul_one,List.getElem?_cons_zero,List.getElem?_cons_succ,vZ,Int.reduceEq,Int.reduceNe,Int.reduceLT,Int.reduceLE,Nat.reduceEqDiff,Nat.reduceAdd,reduceIte,reduceCtorEq,Nat.reduceLT,Nat.reduceLeDiff,Nat.reduceShiftRight,Nat.reduceMod]
 refine callS_of (unless_s _ _) ?_
 simp only [if_true,TM.av,TB.av,rnd_s,Int.reduceAdd,Int.reduceSub,decide_true,decide_false,i64_1,i64_2,i64_3,i64_4,true_and,Int.one_mul,Int.cast_ofNat_Int,Int.reduceToNat,Nat.zero_mul,Nat.reduceMul,Nat.zero_add,Nat.mul_one,List.getElem?_cons_zero,List.getElem?_cons_succ,vZ,Int.reduceEq,Int.reduceNe,Int.reduceLT,Int.reduceLE,Nat.reduceEqDiff,Nat.reduceAdd,reduceIte,reduceCtorEq,Nat.reduceLT,Nat.reduceLeDiff,Nat.reduceShiftRight,Nat.reduceMod]
 refine callS_of (first2_s _ _) ?_
 simp only [ne_eq,not_true_eq_false,if_false,decide_true,Bool.not_true,TM.av,TB.av,rnd_s,Int.reduceAdd,Int.reduceSub,decide_true,decide_false,i64_1,i64_2,i64_3,i64_4,true_and,Int.one_mul,Int.cast_ofNat_Int,Int.reduceToNat,Nat.zero_mul,Nat.reduceMul,Nat.zero_add,Nat.mul_one,List.getElem?_cons_zero,List.getElem?_cons_succ,vZ,Int.reduceEq,Int.reduceNe,Int.reduceLT,Int.reduceLE,Nat.reduceEqDiff,Nat.reduceAdd,reduceIte,reduceCtorEq,Nat.reduceLT,Nat.reduceLeDiff,Nat.reduceShiftRight,Nat.reduceMod]
 refine callS_of (BestIn_s m x.b x.h (by omega)) ?_
 by_cases q2:bestE m x.b x.h=0
 case neg =>
  simp only [q2,decide_false,Bool.not_false,if_false,TM.av,TB.av,V3.av,rnd_s,Int.reduceAdd,Int.reduceSub,decide_true,decide_false,i64_1,i64_2,i64_3,i64_4,true_and,Int.one_mul,Int.cast_ofNat_Int,Int.reduceToNat,Nat.zero_mul,Nat.reduceMul,Nat.zero_add,Nat.mul_one,List.getElem?_cons_zero,List.getElem?_cons_succ,vZ,Int.reduceEq,Int.reduceNe,Int.reduceLT,Int.reduceLE,Nat.reduceEqDiff,Nat.reduceAdd,reduceIte,reduceCtorEq,Nat.reduceLT,Nat.reduceLeDiff,Nat.reduceShiftRight,Nat.reduceMod]
 have hbd:=bestN_bd q
 simp only [q2,decide_true,Bool.not_true,TM.av,TB.av,V3.av,rnd_s,Int.reduceAdd,Int.reduceSub,decide_true,decide_false,i64_1,i64_2,i64_3,i64_4,true_and,Int.one_mul,Int.cast_ofNat_Int,Int.reduceToNat,Nat.zero_mul,Nat.reduceMul,Nat.zero_add,Nat.mul_one,List.getElem?_cons_zero,List.getElem?_cons_succ,vZ,Int.reduceEq,Int.reduceNe,Int.reduceLT,Int.reduceLE,Nat.reduceEqDiff,Nat.reduceAdd,reduceIte,reduceCtorEq,Nat.reduceLT,Nat.reduceLeDiff,Nat.reduceShiftRight,Nat.reduceMod]
 refine callS_of (steps_s m x.b) ?_
 simp only [TM.av,TB.av,rnd_s,Int.reduceAdd,Int.reduceSub,decide_true,decide_false,i64_1,i64_2,i64_3,i64_4,true_and,Int.one_mul,Int.cast_ofNat_Int,Int.reduceToNat,Nat.zero_mul,Nat.reduceMul,Nat.zero_add,Nat.mul_one,List.getElem?_cons_zero,List.getElem?_cons_succ,vZ,Int.reduceEq,Int.reduceNe,Int.reduceLT,Int.reduceLE,Nat.reduceEqDiff,Nat.reduceAdd,reduceIte,reduceCtorEq,Nat.reduceLT,Nat.reduceLeDiff,Nat.reduceShiftRight,Nat.reduceMod]
 refine W_weakR (t:=.mk) (envOf [(4,.ptr 4 0 0),(5,.ptr 5 0 0),(8,.ptr 8 0 0),(11,.ptr 11 0 0),(12,.ptr 12 0 0),(48,.fn 57 [.eptr x.b.av 0,.eptr m.av 0])],stOf [(4,⟨31,7,[x.av]⟩),(5,⟨3,1,[.int .i64 more]⟩),(8,⟨70,12,[m.av]⟩),(11,⟨3,1,[.int .i64 (bestN m x.b x.h)]⟩),(12,⟨41,1,[.buf 100 0]⟩),(100,⟨22,3,vecs []⟩)]) ?_ ?_
 ·refine weakX [(100,none)] (of_decide_eq_true rfl) (of_decide_eq_true rfl) ?_
  (simp only [TM.av,TB.av,TS.av,vcW,vZ,Int.reduceEq,Int.reduceNe,Int.reduceLT,Int.reduceLE,Nat.reduceEqDiff,Nat.reduceAdd,reduceIte,reduceCtorEq,Nat.reduceLT,Nat.reduceLeDiff,Nat.reduceShiftRight,Nat.reduceMod])
  (repeat' first | exact trivial | (with_reducible first | exact RnB.fxB (ints_fxB _) | rfl | refine And.intro ?_ ?_) | (with_reducible (first | refine RnB.bb ?_ | refine RnB.nb ?_);simp only [vcW,vZ,Int.reduceEq,Int.reduceNe,Int.reduceLT,Int.reduceLE,Nat.reduceEqDiff,Nat.reduceAdd,reduceIte,reduceCtorEq,Nat.reduceLT,Nat.reduceLeDiff,Nat.reduceShiftRight,Nat.reduceMod]) | (with_reducible first | refine RnB.ii ?_ | refine RnB.app ?_) | (with_reducible refine RnB.fxB ?_;simp only [vcW,vZ,Int.reduceEq,Int.reduceNe,Int.reduceLT,Int.reduceLE,Nat.reduceEqDiff,Nat.reduceAdd,reduceIte,reduceCtorEq,Nat.reduceLT,Nat.reduceLeDiff,Nat.reduceShiftRight,Nat.reduceMod]) | omega)
  all_goals first | rfl | exact RnB.fxB rfl | skip
 ·refine W_rf (tt:=.mk) (xs:=(m.steps x.b).map stepA) rfl (by simp [imm]) rfl rfl (steps1_s m x.b hb) (by intro x hx;obtain ⟨p,_,rfl⟩:=List.mem_map.1 hx;rfl) (fun pre=>stOf [(4,⟨31,7,[x.av]⟩),(5,⟨3,1,[.int .i64 more]⟩),(8,⟨70,12,[m.av]⟩),(11,⟨3,1,[.int .i64 (bestN m x.b x.h)]⟩),(12,⟨41,1,[.buf 100 (m.coneL x.h (bestN m x.b x.h+more) ((m.steps x.b).take pre.length)).length]⟩),(100,⟨22,3,vecs (m.coneL x.h (bestN m x.b x.h+more) ((m.steps x.b).take pre.length))⟩)]) (by simpa [TM.coneL] using Weak.refl _) (fun pre y rest hsp=>?_) ?_
  ·obtain ⟨hk,hx⟩:=at_pre hsp
   subst hx
   have hlen1:(pre ++ [stepA (m.steps x.b)[pre.length]]).length=pre.length+1:=by simp
   have hcl:=coneL_le m x.h (bestN m x.b x.h+more) ((m.steps x.b).take pre.length)
   have htl:((m.steps x.b).take pre.length).length≤(m.steps x.b).length:=by rw [List.length_take];omega
   have hv:=steps_mem.1 (List.getElem_mem hk)
   rw [hlen1,coneL_succ m x.h _ _ pre.length hk]
   generalize (m.steps x.b)[pre.length]=v at *
   generalize m.coneL x.h (bestN m x.b x.h+more) ((m.steps x.b).take pre.length)=out at *
   simp only [stepA,V3.av,TM.av,TS.av,vecs_length,rnd_s,Int.reduceAdd,Int.reduceSub,decide_true,decide_false,i64_1,i64_2,i64_3,i64_4,true_and,Int.one_mul,Int.cast_ofNat_Int,Int.reduceToNat,Nat.zero_mul,Nat.reduceMul,Nat.zero_add,Nat.mul_one,List.getElem?_cons_zero,List.getElem?_cons_succ,vZ,Int.reduceEq,Int.reduceNe,Int.reduceLT,Int.reduceLE,Nat.reduceEqDiff,Nat.reduceAdd,reduceIte,reduceCtorEq,Nat.reduceLT,Nat.reduceLeDiff,Nat.reduceShiftRight,Nat.reduceMod]
   refine callS_of (score_s m v x.h hm (has_in hb hv.1) (by omega) ho) ?_
   by_cases q3:m.score v x.h≤bestN m x.b x.h+more
   ·simp only [q3,decide_true,if_true,stepA,V3.av,TM.av,TS.av,vecs_length,tk_indexArr,rnd_s,Int.reduceAdd,Int.reduceSub,decide_true,decide_false,i64_1,i64_2,i64_3,i64_4,true_and,Int.one_mul,Int.cast_ofNat_Int,Int.reduceToNat,Nat.zero_mul,Nat.reduceMul,Nat.zero_add,Nat.mul_one,List.getElem?_cons_zero,List.getElem?_cons_succ,vZ,Int.reduceEq,Int.reduceNe,Int.reduceLT,Int.reduceLE,Nat.reduceEqDiff,Nat.reduceAdd,reduceIte,reduceCtorEq,Nat.reduceLT,Nat.reduceLeDiff,Nat.reduceShiftRight,Nat.reduceMod]
    refine ⟨by unfold I64;omega,⟨by omega,by omega⟩,?_⟩
    refine weakX [(100,some 62)] (of_decide_eq_true rfl) (of_decide_eq_true rfl) ?_
    (simp only [vecs_append,vecs_one,V3.av,List.length_append,List.length_cons,List.length_nil,TM.av,TS.av,rnd_s,Int.reduceAdd,Int.reduceSub,decide_true,decide_false,i64_1,i64_2,i64_3,i64_4,true_and,Int.one_mul,Int.cast_ofNat_Int,Int.reduceToNat,Nat.zero_mul,Nat.reduceMul,Nat.zero_add,Nat.mul_one,List.getElem?_cons_zero,List.getElem?_cons_succ,vcW,vZ,Int.reduceEq,Int.reduceNe,Int.reduceLT,Int.reduceLE,Nat.reduceEqDiff,Nat.reduceAdd,reduceIte,reduceCtorEq,Nat.reduceLT,Nat.reduceLeDiff,Nat.reduceShiftRight,Nat.reduceMod])
    (repeat' first | exact trivial | (with_reducible first | exact RnB.fxB (ints_fxB _) | rfl | refine And.intro ?_ ?_) | (with_reducible (first | refine RnB.bb ?_ | refine RnB.nb ?_);simp only [vcW,vZ,Int.reduceEq,Int.reduceNe,Int.reduceLT,Int.reduceLE,Nat.reduceEqDiff,Nat.reduceAdd,reduceIte,reduceCtorEq,Nat.reduceLT,Nat.reduceLeDiff,Nat.reduceShiftRight,Nat.reduceMod]) | (with_reducible first | refine RnB.ii ?_ | refine RnB.app ?_) | (with_reducible refine RnB.fxB ?_;simp only [vcW,vZ,Int.reduceEq,Int.reduceNe,Int.reduceLT,Int.reduceLE,Nat.reduceEqDiff,Nat.reduceAdd,reduceIte,reduceCtorEq,Nat.reduceLT,Nat.reduceLeDiff,Nat.reduceShiftRight,Nat.reduceMod]) | omega)
    all_goals first | rfl | exact RnB.fxB rfl | exact RnB.fxB (by rw [List.all_append,vecs_fxB];rfl) | skip
   ·simp only [q3,decide_false,if_false,List.append_nil,stepA,V3.av,TM.av,TS.av,vecs_length,tk_indexArr,rnd_s,Int.reduceAdd,Int.reduceSub,decide_true,decide_false,i64_1,i64_2,i64_3,i64_4,true_and,Int.one_mul,Int.cast_ofNat_Int,Int.reduceToNat,Nat.zero_mul,Nat.reduceMul,Nat.zero_add,Nat.mul_one,List.getElem?_cons_zero,List.getElem?_cons_succ,vZ,Int.reduceEq,Int.reduceNe,Int.reduceLT,Int.reduceLE,Nat.reduceEqDiff,Nat.reduceAdd,reduceIte,reduceCtorEq,Nat.reduceLT,Nat.reduceLeDiff,Nat.reduceShiftRight,Nat.reduceMod]
    refine ⟨by unfold I64;omega,?_⟩
    refine weakX [] (of_decide_eq_true rfl) (of_decide_eq_true rfl) ?_
    (simp only [TM.av,TS.av,vcW,vZ,Int.reduceEq,Int.reduceNe,Int.reduceLT,Int.reduceLE,Nat.reduceEqDiff,Nat.reduceAdd,reduceIte,reduceCtorEq,Nat.reduceLT,Nat.reduceLeDiff,Nat.reduceShiftRight,Nat.reduceMod])
    (repeat' first | exact trivial | (with_reducible first | exact RnB.fxB (ints_fxB _) | rfl | refine And.intro ?_ ?_) | (with_reducible (first | refine RnB.bb ?_ | refine RnB.nb ?_);simp only [vcW,vZ,Int.reduceEq,Int.reduceNe,Int.reduceLT,Int.reduceLE,Nat.reduceEqDiff,Nat.reduceAdd,reduceIte,reduceCtorEq,Nat.reduceLT,Nat.reduceLeDiff,Nat.reduceShiftRight,Nat.reduceMod]) | (with_reducible first | refine RnB.ii ?_ | refine RnB.app ?_) | (with_reducible refine RnB.fxB ?_;simp only [vcW,vZ,Int.reduceEq,Int.reduceNe,Int.reduceLT,Int.reduceLE,Nat.reduceEqDiff,Nat.reduceAdd,reduceIte,reduceCtorEq,Nat.reduceLT,Nat.reduceLeDiff,Nat.reduceShiftRight,Nat.reduceMod]) | omega)
    all_goals first | rfl | exact RnB.fxB rfl | exact RnB.fxB (vecs_fxB _) | skip
  ·simp only [rnd_s,Int.reduceAdd,Int.reduceSub,decide_true,decide_false,i64_1,i64_2,i64_3,i64_4,true_and,Int.one_mul,Int.cast_ofNat_Int,Int.reduceToNat,Nat.zero_mul,Nat.reduceMul,Nat.zero_add,Nat.mul_one,List.getElem?_cons_zero,List.getElem?_cons_succ,vZ,Int.reduceEq,Int.reduceNe,Int.reduceLT,Int.reduceLE,Nat.reduceEqDiff,Nat.reduceAdd,reduceIte,reduceCtorEq,Nat.reduceLT,Nat.reduceLeDiff,Nat.reduceShiftRight,Nat.reduceMod]
   rw [List.length_map,List.take_length,borB_good _ _ _ _ _ (by simp [vecs]) (vecs_fx _)]
   simp [q2,TM.cone]
end Go.Proofs.Ytoiajhogondgcaa

/- The contracts of cover and CoverOf. By an AI agent;nothing here is trusted. -/
namespace Go.Proofs.Ytoiajhogondgcaa
open Go.Av

def boxesL (l:List TB):List AV:=l.map TB.av
theorem boxesL_length (l:List TB):(boxesL l).length=l.length:=by simp [boxesL]
theorem boxesL_fx (l:List TB):∀ x ∈ boxesL l,fx x=true:=by
 intro x hx
 obtain ⟨n,_,rfl⟩:=List.mem_map.1 hx
 rfl
theorem boxesL_fxB (l:List TB):(boxesL l).all fx=true:=List.all_eq_true.2 (boxesL_fx l)
theorem boxesL_get (l:List TB) (i:Nat) (h:i<l.length):(boxesL l)[i]?=some l[i].av:=by simp [boxesL,h]
theorem boxesL_append (l r:List TB):boxesL (l ++ r)=boxesL l ++ boxesL r:=by simp [boxesL]
theorem newsOk_boxes (l:List TB):newsOk 6 (boxesL l):=by
 intro x hx
 obtain ⟨n,_,rfl⟩:=List.mem_map.1 hx
 exact ⟨rfl,rfl⟩
def TM.cover (m:TM) (l:List TH) (n:Int):Nat→TB→Option (List TB)
 | 0,_=>none
 | f+1,b=>if m.proved b l n then some [b] else if b.count=1 then none else (TM.cover m l n f b.h1).bind fun a=>(TM.cover m l n f b.h2).map fun c=>a ++ c
theorem cover_len {m:TM} {l:List TH} {n:Int}:∀ {f:Nat} {b:TB} {L:List TB},b.Ok→TM.cover m l n f b=some L→(L.length:Int)≤b.count
 | 0,_,_,_,h=>by cases h
 | f+1,b,L,hb,h=>by
  have hp:=count_pos hb.o
  unfold TM.cover at h
  split at h
  ·cases h;simpa using hp
  ·split at h
   ·cases h
   ·obtain ⟨a,h1,h2⟩:=Option.bind_eq_some_iff.1 h
    obtain ⟨c,h3,h4⟩:=Option.map_eq_some_iff.1 h2
    subst h4
    obtain ⟨g1,g2,g3,_⟩:=halves_ok hb (by omega)
    have i1:=cover_len g1 h1
    have i2:=cover_len g2 h3
    rw [List.length_append];omega
def covA (L:Option (List TB)):AV:=.tup [.sl (boxesL (L.getD [])),.bool L.isSome]

set_option maxHeartbeats 8000000 in
set_option maxRecDepth 10000 in
theorem cover_s (m:TM) (l:List TH) (n:Int) (hm:m.Ok) (hl:l.length≤1000000) (ho:∀ h ∈ l,h.ok):∀ (f:Nat) (b:TB),b.Ok→b.count≤f→f≤1000000 →
  Sound Try.prog 42 [m.av,b.av,.sl (hitsL l),.int .i64 n] (covA (TM.cover m l n f b)):=by
 intro f
 induction f with
 | zero =>
  intro b hb hc
  have:=count_pos hb.o
  omega
 | succ f ih =>
  intro b hb hc hf
  have hML:1000000000≤maxLen:=by decide
  refine sound_W f_track_model_cover (Nat.le_of_ble_eq_true rfl) ?_
  by_cases q0:m.proved b l n
  case pos =>
   have e:TM.cover m l n (f+1) b=some [b]:=by simp [TM.cover,q0]
   rw [e]
   simp only [c_track_model_cover,TM.av,TB.av,rnd_s,Int.reduceAdd,Int.reduceSub,decide_true,decide_false,i64_1,i64_2,i64_3,i64_4,true_and,Int.one_mul,Int.cast_ofNat_Int,Int.reduceToNat,Nat.zero_mul,Nat.reduceMul,Nat.zero_add,Nat.mul_one,List.getElem?_cons_zero,List.getElem?_cons_succ,vZ,Int.reduceEq,Int.reduceNe,Int.reduceLT,Int.reduceLE,Nat.reduceEqDiff,Nat.reduceAdd,reduceIte,reduceCtorEq,Nat.reduceLT,Nat.reduceLeDiff,Nat.reduceShiftRight,Nat.reduceMod]
   refine callS_of (proved_s m b l n hm hb hl ho) ?_
   simp only [q0,decide_true,TB.av,covA,rnd_s,Int.reduceAdd,Int.reduceSub,decide_true,decide_false,i64_1,i64_2,i64_3,i64_4,true_and,Int.one_mul,Int.cast_ofNat_Int,Int.reduceToNat,Nat.zero_mul,Nat.reduceMul,Nat.zero_add,Nat.mul_one,List.getElem?_cons_zero,List.getElem?_cons_succ,vZ,Int.reduceEq,Int.reduceNe,Int.reduceLT,Int.reduceLE,Nat.reduceEqDiff,Nat.reduceAdd,reduceIte,reduceCtorEq,Nat.reduceLT,Nat.reduceLeDiff,Nat.reduceShiftRight,Nat.reduceMod]
   rfl
  by_cases c1:b.count=1
  case pos =>
   have e:TM.cover m l n (f+1) b=none:=by simp [TM.cover,q0,c1]
   rw [e]
   simp only [c_track_model_cover,TM.av,TB.av,rnd_s,Int.reduceAdd,Int.reduceSub,decide_true,decide_false,i64_1,i64_2,i64_3,i64_4,true_and,Int.one_mul,Int.cast_ofNat_Int,Int.reduceToNat,Nat.zero_mul,Nat.reduceMul,Nat.zero_add,Nat.mul_one,List.getElem?_cons_zero,List.getElem?_cons_succ,vZ,Int.reduceEq,Int.reduceNe,Int.reduceLT,Int.reduceLE,Nat.reduceEqDiff,Nat.reduceAdd,reduceIte,reduceCtorEq,Nat.reduceLT,Nat.reduceLeDiff,Nat.reduceShiftRight,Nat.reduceMod]
   refine callS_of (proved_s m b l n hm hb hl ho) ?_
   simp only [q0,decide_false,TB.av,covA,rnd_s,Int.reduceAdd,Int.reduceSub,decide_true,decide_false,i64_1,i64_2,i64_3,i64_4,true_and,Int.one_mul,Int.cast_ofNat_Int,Int.reduceToNat,Nat.zero_mul,Nat.reduceMul,Nat.zero_add,Nat.mul_one,List.getElem?_cons_zero,List.getElem?_cons_succ,vZ,Int.reduceEq,Int.reduceNe,Int.reduceLT,Int.reduceLE,Nat.reduceEqDiff,Nat.reduceAdd,reduceIte,reduceCtorEq,Nat.reduceLT,Nat.reduceLeDiff,Nat.reduceShiftRight,Nat.reduceMod]
   refine callS_of (count_s b hb.l hb.h) ?_
   simp only [c1,decide_true,TB.av,covA,rnd_s,Int.reduceAdd,Int.reduceSub,decide_true,decide_false,i64_1,i64_2,i64_3,i64_4,true_and,Int.one_mul,Int.cast_ofNat_Int,Int.reduceToNat,Nat.zero_mul,Nat.reduceMul,Nat.zero_add,Nat.mul_one,List.getElem?_cons_zero,List.getElem?_cons_succ,vZ,Int.reduceEq,Int.reduceNe,Int.reduceLT,Int.reduceLE,Nat.reduceEqDiff,Nat.reduceAdd,reduceIte,reduceCtorEq,Nat.reduceLT,Nat.reduceLeDiff,Nat.reduceShiftRight,Nat.reduceMod]
   rfl
  have hp:=count_pos hb.o
  have c2:1<b.count:=by omega
  obtain ⟨g1,g2,g3,_⟩:=halves_ok hb c2
  have n1:=count_pos g1.o
  have n2:=count_pos g2.o
  have i1:=ih b.h1 g1 (by omega) (by omega)
  have i2:=ih b.h2 g2 (by omega) (by omega)
  have e:TM.cover m l n (f+1) b=(TM.cover m l n f b.h1).bind fun a=>(TM.cover m l n f b.h2).map fun c=>a ++ c:=by simp [TM.cover,q0,c1]
  rw [e]
  cases hA:TM.cover m l n f b.h1 with
  | none =>
   rw [hA] at i1
   simp only [c_track_model_cover,TM.av,TB.av,rnd_s,Int.reduceAdd,Int.reduceSub,decide_true,decide_false,i64_1,i64_2,i64_3,i64_4,true_and,Int.one_mul,Int.cast_ofNat_Int,Int.reduceToNat,Nat.zero_mul,Nat.reduceMul,Nat.zero_add,Nat.mul_one,List.getElem?_cons_zero,List.getElem?_cons_succ,vZ,Int.reduceEq,Int.reduceNe,Int.reduceLT,Int.reduceLE,Nat.reduceEqDiff,Nat.reduceAdd,reduceIte,reduceCtorEq,Nat.reduceLT,Nat.reduceLeDiff,Nat.reduceShiftRight,Nat.reduceMod]
   refine callS_of (proved_s m b l n hm hb hl ho) ?_
   simp only [q0,decide_false,TB.av,covA,rnd_s,Int.reduceAdd,Int.reduceSub,decide_true,decide_false,i64_1,i64_2,i64_3,i64_4,true_and,Int.one_mul,Int.cast_ofNat_Int,Int.reduceToNat,Nat.zero_mul,Nat.reduceMul,Nat.zero_add,Nat.mul_one,List.getElem?_cons_zero,List.getElem?_cons_succ,vZ,Int.reduceEq,Int.reduceNe,Int.reduceLT,Int.reduceLE,Nat.reduceEqDiff,Nat.reduceAdd,reduceIte,reduceCtorEq,Nat.reduceLT,Nat.reduceLeDiff,Nat.reduceShiftRight,Nat.reduceMod]
   refine callS_of (count_s b hb.l hb.h) ?_
   simp only [c1,decide_false,TB.av,covA,rnd_s,Int.reduceAdd,Int.reduceSub,decide_true,decide_false,i64_1,i64_2,i64_3,i64_4,true_and,Int.one_mul,Int.cast_ofNat_Int,Int.reduceToNat,Nat.zero_mul,Nat.reduceMul,Nat.zero_add,Nat.mul_one,List.getElem?_cons_zero,List.getElem?_cons_succ,vZ,Int.reduceEq,Int.reduceNe,Int.reduceLT,Int.reduceLE,Nat.reduceEqDiff,Nat.reduceAdd,reduceIte,reduceCtorEq,Nat.reduceLT,Nat.reduceLeDiff,Nat.reduceShiftRight,Nat.reduceMod]
   refine callS_of (halves_s b hb.l hb.h hb.o) ?_
   simp only [pairB,rnd_s,Int.reduceAdd,Int.reduceSub,decide_true,decide_false,i64_1,i64_2,i64_3,i64_4,true_and,Int.one_mul,Int.cast_ofNat_Int,Int.reduceToNat,Nat.zero_mul,Nat.reduceMul,Nat.zero_add,Nat.mul_one,List.getElem?_cons_zero,List.getElem?_cons_succ,vZ,Int.reduceEq,Int.reduceNe,Int.reduceLT,Int.reduceLE,Nat.reduceEqDiff,Nat.reduceAdd,reduceIte,reduceCtorEq,Nat.reduceLT,Nat.reduceLeDiff,Nat.reduceShiftRight,Nat.reduceMod]
   refine W_rndW 3 ?_
   refine rndW_of (envOf [(2,.sl (hitsL l)),(3,.int .i64 n),(4,.ptr 4 0 0),(10,.nils),(26,pairB b.h1 b.h2),(27,.int .i64 0)],stOf [(4,⟨70,12,[m.av]⟩)]) ?_ ?_
   ·refine weakX [] (of_decide_eq_true rfl) (of_decide_eq_true rfl) ?_
    (simp only [TM.av,TB.av,pairB,boxesL_append,List.length_append,vcW,vZ,Int.reduceEq,Int.reduceNe,Int.reduceLT,Int.reduceLE,Nat.reduceEqDiff,Nat.reduceAdd,reduceIte,reduceCtorEq,Nat.reduceLT,Nat.reduceLeDiff,Nat.reduceShiftRight,Nat.reduceMod])
    (repeat' first | exact trivial | (with_reducible first | exact RnB.fxB (ints_fxB _) | rfl | refine And.intro ?_ ?_) | (with_reducible (first | refine RnB.bb ?_ | refine RnB.nb ?_);simp only [vcW,vZ,Int.reduceEq,Int.reduceNe,Int.reduceLT,Int.reduceLE,Nat.reduceEqDiff,Nat.reduceAdd,reduceIte,reduceCtorEq,Nat.reduceLT,Nat.reduceLeDiff,Nat.reduceShiftRight,Nat.reduceMod]) | (with_reducible first | refine RnB.ii ?_ | refine RnB.app ?_) | (with_reducible refine RnB.fxB ?_;simp only [vcW,vZ,Int.reduceEq,Int.reduceNe,Int.reduceLT,Int.reduceLE,Nat.reduceEqDiff,Nat.reduceAdd,reduceIte,reduceCtorEq,Nat.reduceLT,Nat.reduceLeDiff,Nat.reduceShiftRight,Nat.reduceMod]) | omega)
    all_goals first | rfl | exact RnB.fxB rfl | exact RnB.fxB (boxesL_fxB _) | exact RnB.fxB (by rw [List.all_append,boxesL_fxB,boxesL_fxB];rfl) | skip
   simp only [TM.av,TB.av,pairB,rnd_s,Int.reduceAdd,Int.reduceSub,decide_true,decide_false,i64_1,i64_2,i64_3,i64_4,true_and,Int.one_mul,Int.cast_ofNat_Int,Int.reduceToNat,Nat.zero_mul,Nat.reduceMul,Nat.zero_add,Nat.mul_one,List.getElem?_cons_zero,List.getElem?_cons_succ,vZ,Int.reduceEq,Int.reduceNe,Int.reduceLT,Int.reduceLE,Nat.reduceEqDiff,Nat.reduceAdd,reduceIte,reduceCtorEq,Nat.reduceLT,Nat.reduceLeDiff,Nat.reduceShiftRight,Nat.reduceMod]
   refine callS_of i1 ?_
   simp only [covA,Option.getD_none,Option.isSome_none,Option.bind_none,rnd_s,Int.reduceAdd,Int.reduceSub,decide_true,decide_false,i64_1,i64_2,i64_3,i64_4,true_and,Int.one_mul,Int.cast_ofNat_Int,Int.reduceToNat,Nat.zero_mul,Nat.reduceMul,Nat.zero_add,Nat.mul_one,List.getElem?_cons_zero,List.getElem?_cons_succ,vZ,Int.reduceEq,Int.reduceNe,Int.reduceLT,Int.reduceLE,Nat.reduceEqDiff,Nat.reduceAdd,reduceIte,reduceCtorEq,Nat.reduceLT,Nat.reduceLeDiff,Nat.reduceShiftRight,Nat.reduceMod]
   rfl
  | some a =>
   have hal:=cover_len g1 hA
   rw [hA] at i1
   cases hC:TM.cover m l n f b.h2 with
   | none =>
    rw [hC] at i2
    simp only [c_track_model_cover,TM.av,TB.av,rnd_s,Int.reduceAdd,Int.reduceSub,decide_true,decide_false,i64_1,i64_2,i64_3,i64_4,true_and,Int.one_mul,Int.cast_ofNat_Int,Int.reduceToNat,Nat.zero_mul,Nat.reduceMul,Nat.zero_add,Nat.mul_one,List.getElem?_cons_zero,List.getElem?_cons_succ,vZ,Int.reduceEq,Int.reduceNe,Int.reduceLT,Int.reduceLE,Nat.reduceEqDiff,Nat.reduceAdd,reduceIte,reduceCtorEq,Nat.reduceLT,Nat.reduceLeDiff,Nat.reduceShiftRight,Nat.reduceMod]
    refine callS_of (proved_s m b l n hm hb hl ho) ?_
    simp only [q0,decide_false,TB.av,covA,rnd_s,Int.reduceAdd,Int.reduceSub,decide_true,decide_false,i64_1,i64_2,i64_3,i64_4,true_and,Int.one_mul,Int.cast_ofNat_Int,Int.reduceToNat,Nat.zero_mul,Nat.reduceMul,Nat.zero_add,Nat.mul_one,List.getElem?_cons_zero,List.getElem?_cons_succ,vZ,Int.reduceEq,Int.reduceNe,Int.reduceLT,Int.reduceLE,Nat.reduceEqDiff,Nat.reduceAdd,reduceIte,reduceCtorEq,Nat.reduceLT,Nat.reduceLeDiff,Nat.reduceShiftRight,Nat.reduceMod]
    refine callS_of (count_s b hb.l hb.h) ?_
    simp only [c1,decide_false,TB.av,covA,rnd_s,Int.reduceAdd,Int.reduceSub,decide_true,decide_false,i64_1,i64_2,i64_3,i64_4,true_and,Int.one_mul,Int.cast_ofNat_Int,Int.reduceToNat,Nat.zero_mul,Nat.reduceMul,Nat.zero_add,Nat.mul_one,List.getElem?_cons_zero,List.getElem?_cons_succ,vZ,Int.reduceEq,Int.reduceNe,Int.reduceLT,Int.reduceLE,Nat.reduceEqDiff,Nat.reduceAdd,reduceIte,reduceCtorEq,Nat.reduceLT,Nat.reduceLeDiff,Nat.reduceShiftRight,Nat.reduceMod]
    refine callS_of (halves_s b hb.l hb.h hb.o) ?_
    simp only [pairB,rnd_s,Int.reduceAdd,Int.reduceSub,decide_true,decide_false,i64_1,i64_2,i64_3,i64_4,true_and,Int.one_mul,Int.cast_ofNat_Int,Int.reduceToNat,Nat.zero_mul,Nat.reduceMul,Nat.zero_add,Nat.mul_one,List.getElem?_cons_zero,List.getElem?_cons_succ,vZ,Int.reduceEq,Int.reduceNe,Int.reduceLT,Int.reduceLE,Nat.reduceEqDiff,Nat.reduceAdd,reduceIte,reduceCtorEq,Nat.reduceLT,Nat.reduceLeDiff,Nat.reduceShiftRight,Nat.reduceMod]
    refine W_rndW 3 ?_
    refine rndW_of (envOf [(2,.sl (hitsL l)),(3,.int .i64 n),(4,.ptr 4 0 0),(10,.nils),(26,pairB b.h1 b.h2),(27,.int .i64 0)],stOf [(4,⟨70,12,[m.av]⟩)]) ?_ ?_
    ·refine weakX [] (of_decide_eq_true rfl) (of_decide_eq_true rfl) ?_
     (simp only [TM.av,TB.av,pairB,boxesL_append,List.length_append,vcW,vZ,Int.reduceEq,Int.reduceNe,Int.reduceLT,Int.reduceLE,Nat.reduceEqDiff,Nat.reduceAdd,reduceIte,reduceCtorEq,Nat.reduceLT,Nat.reduceLeDiff,Nat.reduceShiftRight,Nat.reduceMod])
     (repeat' first | exact trivial | (with_reducible first | exact RnB.fxB (ints_fxB _) | rfl | refine And.intro ?_ ?_) | (with_reducible (first | refine RnB.bb ?_ | refine RnB.nb ?_);simp only [vcW,vZ,Int.reduceEq,Int.reduceNe,Int.reduceLT,Int.reduceLE,Nat.reduceEqDiff,Nat.reduceAdd,reduceIte,reduceCtorEq,Nat.reduceLT,Nat.reduceLeDiff,Nat.reduceShiftRight,Nat.reduceMod]) | (with_reducible first | refine RnB.ii ?_ | refine RnB.app ?_) | (with_reducible refine RnB.fxB ?_;simp only [vcW,vZ,Int.reduceEq,Int.reduceNe,Int.reduceLT,Int.reduceLE,Nat.reduceEqDiff,Nat.reduceAdd,reduceIte,reduceCtorEq,Nat.reduceLT,Nat.reduceLeDiff,Nat.reduceShiftRight,Nat.reduceMod]) | omega)
     all_goals first | rfl | exact RnB.fxB rfl | exact RnB.fxB (boxesL_fxB _) | exact RnB.fxB (by rw [List.all_append,boxesL_fxB,boxesL_fxB];rfl) | skip
    simp only [TM.av,TB.av,pairB,rnd_s,Int.reduceAdd,Int.reduceSub,decide_true,decide_false,i64_1,i64_2,i64_3,i64_4,true_and,Int.one_mul,Int.cast_ofNat_Int,Int.reduceToNat,Nat.zero_mul,Nat.reduceMul,Nat.zero_add,Nat.mul_one,List.getElem?_cons_zero,List.getElem?_cons_succ,vZ,Int.reduceEq,Int.reduceNe,Int.reduceLT,Int.reduceLE,Nat.reduceEqDiff,Nat.reduceAdd,reduceIte,reduceCtorEq,Nat.reduceLT,Nat.reduceLeDiff,Nat.reduceShiftRight,Nat.reduceMod]
    refine callS_of i1 ?_
    simp only [covA,Option.getD_some,Option.isSome_some,boxesL_length,rnd_s,Int.reduceAdd,Int.reduceSub,decide_true,decide_false,i64_1,i64_2,i64_3,i64_4,true_and,Int.one_mul,Int.cast_ofNat_Int,Int.reduceToNat,Nat.zero_mul,Nat.reduceMul,Nat.zero_add,Nat.mul_one,List.getElem?_cons_zero,List.getElem?_cons_succ,vZ,Int.reduceEq,Int.reduceNe,Int.reduceLT,Int.reduceLE,Nat.reduceEqDiff,Nat.reduceAdd,reduceIte,reduceCtorEq,Nat.reduceLT,Nat.reduceLeDiff,Nat.reduceShiftRight,Nat.reduceMod]
    refine ⟨newsOk_boxes a,⟨by omega,by omega⟩,?_⟩
    refine rndW_of (envOf [(2,.sl (hitsL l)),(3,.int .i64 n),(4,.ptr 4 0 0),(10,.buf 100 a.length),(26,pairB b.h1 b.h2),(27,.int .i64 1)],stOf [(4,⟨70,12,[m.av]⟩),(100,⟨28,6,boxesL a⟩)]) ?_ ?_
    ·refine weakX [(100,some 42)] (of_decide_eq_true rfl) (of_decide_eq_true rfl) ?_
     (simp only [TM.av,TB.av,pairB,boxesL_append,List.length_append,vcW,vZ,Int.reduceEq,Int.reduceNe,Int.reduceLT,Int.reduceLE,Nat.reduceEqDiff,Nat.reduceAdd,reduceIte,reduceCtorEq,Nat.reduceLT,Nat.reduceLeDiff,Nat.reduceShiftRight,Nat.reduceMod])
     (repeat' first | exact trivial | (with_reducible first | exact RnB.fxB (ints_fxB _) | rfl | refine And.intro ?_ ?_) | (with_reducible (first | refine RnB.bb ?_ | refine RnB.nb ?_);simp only [vcW,vZ,Int.reduceEq,Int.reduceNe,Int.reduceLT,Int.reduceLE,Nat.reduceEqDiff,Nat.reduceAdd,reduceIte,reduceCtorEq,Nat.reduceLT,Nat.reduceLeDiff,Nat.reduceShiftRight,Nat.reduceMod]) | (with_reducible first | refine RnB.ii ?_ | refine RnB.app ?_) | (with_reducible refine RnB.fxB ?_;simp only [vcW,vZ,Int.reduceEq,Int.reduceNe,Int.reduceLT,Int.reduceLE,Nat.reduceEqDiff,Nat.reduceAdd,reduceIte,reduceCtorEq,Nat.reduceLT,Nat.reduceLeDiff,Nat.reduceShiftRight,Nat.reduceMod]) | omega)
     all_goals first | rfl | exact RnB.fxB rfl | exact RnB.fxB (boxesL_fxB _) | exact RnB.fxB (by rw [List.all_append,boxesL_fxB,boxesL_fxB];rfl) | skip
    simp only [TM.av,TB.av,pairB,rnd_s,Int.reduceAdd,Int.reduceSub,decide_true,decide_false,i64_1,i64_2,i64_3,i64_4,true_and,Int.one_mul,Int.cast_ofNat_Int,Int.reduceToNat,Nat.zero_mul,Nat.reduceMul,Nat.zero_add,Nat.mul_one,List.getElem?_cons_zero,List.getElem?_cons_succ,vZ,Int.reduceEq,Int.reduceNe,Int.reduceLT,Int.reduceLE,Nat.reduceEqDiff,Nat.reduceAdd,reduceIte,reduceCtorEq,Nat.reduceLT,Nat.reduceLeDiff,Nat.reduceShiftRight,Nat.reduceMod]
    refine callS_of i2 ?_
    simp only [covA,Option.getD_none,Option.isSome_none,Option.bind_some,Option.map_none,rnd_s,Int.reduceAdd,Int.reduceSub,decide_true,decide_false,i64_1,i64_2,i64_3,i64_4,true_and,Int.one_mul,Int.cast_ofNat_Int,Int.reduceToNat,Nat.zero_mul,Nat.reduceMul,Nat.zero_add,Nat.mul_one,List.getElem?_cons_zero,List.getElem?_cons_succ,vZ,Int.reduceEq,Int.reduceNe,Int.reduceLT,Int.reduceLE,Nat.reduceEqDiff,Nat.reduceAdd,reduceIte,reduceCtorEq,Nat.reduceLT,Nat.reduceLeDiff,Nat.reduceShiftRight,Nat.reduceMod]
    rfl
   | some c =>
    have hcl:=cover_len g2 hC
    rw [hC] at i2
    simp only [c_track_model_cover,TM.av,TB.av,rnd_s,Int.reduceAdd,Int.reduceSub,decide_true,decide_false,i64_1,i64_2,i64_3,i64_4,true_and,Int.one_mul,Int.cast_ofNat_Int,Int.reduceToNat,Nat.zero_mul,Nat.reduceMul,Nat.zero_add,Nat.mul_one,List.getElem?_cons_zero,List.getElem?_cons_succ,vZ,Int.reduceEq,Int.reduceNe,Int.reduceLT,Int.reduceLE,Nat.reduceEqDiff,Nat.reduceAdd,reduceIte,reduceCtorEq,Nat.reduceLT,Nat.reduceLeDiff,Nat.reduceShiftRight,Nat.reduceMod]
    refine callS_of (proved_s m b l n hm hb hl ho) ?_
    simp only [q0,decide_false,TB.av,covA,rnd_s,Int.reduceAdd,Int.reduceSub,decide_true,decide_false,i64_1,i64_2,i64_3,i64_4,true_and,Int.one_mul,Int.cast_ofNat_Int,Int.reduceToNat,Nat.zero_mul,Nat.reduceMul,Nat.zero_add,Nat.mul_one,List.getElem?_cons_zero,List.getElem?_cons_succ,vZ,Int.reduceEq,Int.reduceNe,Int.reduceLT,Int.reduceLE,Nat.reduceEqDiff,Nat.reduceAdd,reduceIte,reduceCtorEq,Nat.reduceLT,Nat.reduceLeDiff,Nat.reduceShiftRight,Nat.reduceMod]
    refine callS_of (count_s b hb.l hb.h) ?_
    simp only [c1,decide_false,TB.av,covA,rnd_s,Int.reduceAdd,Int.reduceSub,decide_true,decide_false,i64_1,i64_2,i64_3,i64_4,true_and,Int.one_mul,Int.cast_ofNat_Int,Int.reduceToNat,Nat.zero_mul,Nat.reduceMul,Nat.zero_add,Nat.mul_one,List.getElem?_cons_zero,List.getElem?_cons_succ,vZ,Int.reduceEq,Int.reduceNe,Int.reduceLT,Int.reduceLE,Nat.reduceEqDiff,Nat.reduceAdd,reduceIte,reduceCtorEq,Nat.reduceLT,Nat.reduceLeDiff,Nat.reduceShiftRight,Nat.reduceMod]
    refine callS_of (halves_s b hb.l hb.h hb.o) ?_
    simp only [pairB,rnd_s,Int.reduceAdd,Int.reduceSub,decide_true,decide_false,i64_1,i64_2,i64_3,i64_4,true_and,Int.one_mul,Int.cast_ofNat_Int,Int.reduceToNat,Nat.zero_mul,Nat.reduceMul,Nat.zero_add,Nat.mul_one,List.getElem?_cons_zero,List.getElem?_cons_succ,vZ,Int.reduceEq,Int.reduceNe,Int.reduceLT,Int.reduceLE,Nat.reduceEqDiff,Nat.reduceAdd,reduceIte,reduceCtorEq,Nat.reduceLT,Nat.reduceLeDiff,Nat.reduceShiftRight,Nat.reduceMod]
    refine W_rndW 3 ?_
    refine rndW_of (envOf [(2,.sl (hitsL l)),(3,.int .i64 n),(4,.ptr 4 0 0),(10,.nils),(26,pairB b.h1 b.h2),(27,.int .i64 0)],stOf [(4,⟨70,12,[m.av]⟩)]) ?_ ?_
    ·refine weakX [] (of_decide_eq_true rfl) (of_decide_eq_true rfl) ?_
     (simp only [TM.av,TB.av,pairB,boxesL_append,List.length_append,vcW,vZ,Int.reduceEq,Int.reduceNe,Int.reduceLT,Int.reduceLE,Nat.reduceEqDiff,Nat.reduceAdd,reduceIte,reduceCtorEq,Nat.reduceLT,Nat.reduceLeDiff,Nat.reduceShiftRight,Nat.reduceMod])
     (repeat' first | exact trivial | (with_reducible first | exact RnB.fxB (ints_fxB _) | rfl | refine And.intro ?_ ?_) | (with_reducible (first | refine RnB.bb ?_ | refine RnB.nb ?_);simp only [vcW,vZ,Int.reduceEq,Int.reduceNe,Int.reduceLT,Int.reduceLE,Nat.reduceEqDiff,Nat.reduceAdd,reduceIte,reduceCtorEq,Nat.reduceLT,Nat.reduceLeDiff,Nat.reduceShiftRight,Nat.reduceMod]) | (with_reducible first | refine RnB.ii ?_ | refine RnB.app ?_) | (with_reducible refine RnB.fxB ?_;simp only [vcW,vZ,Int.reduceEq,Int.reduceNe,Int.reduceLT,Int.reduceLE,Nat.reduceEqDiff,Nat.reduceAdd,reduceIte,reduceCtorEq,Nat.reduceLT,Nat.reduceLeDiff,Nat.reduceShiftRight,Nat.reduceMod]) | omega)
     all_goals first | rfl | exact RnB.fxB rfl | exact RnB.fxB (boxesL_fxB _) | exact RnB.fxB (by rw [List.all_append,boxesL_fxB,boxesL_fxB];rfl) | skip
    simp only [TM.av,TB.av,pairB,rnd_s,Int.reduceAdd,Int.reduceSub,decide_true,decide_false,i64_1,i64_2,i64_3,i64_4,true_and,Int.one_mul,Int.cast_ofNat_Int,Int.reduceToNat,Nat.zero_mul,Nat.reduceMul,Nat.zero_add,Nat.mul_one,List.getElem?_cons_zero,List.getElem?_cons_succ,vZ,Int.reduceEq,Int.reduceNe,Int.reduceLT,Int.reduceLE,Nat.reduceEqDiff,Nat.reduceAdd,reduceIte,reduceCtorEq,Nat.reduceLT,Nat.reduceLeDiff,Nat.reduceShiftRight,Nat.reduceMod]
    refine callS_of i1 ?_
    simp only [covA,Option.getD_some,Option.isSome_some,boxesL_length,rnd_s,Int.reduceAdd,Int.reduceSub,decide_true,decide_false,i64_1,i64_2,i64_3,i64_4,true_and,Int.one_mul,Int.cast_ofNat_Int,Int.reduceToNat,Nat.zero_mul,Nat.reduceMul,Nat.zero_add,Nat.mul_one,List.getElem?_cons_zero,List.getElem?_cons_succ,vZ,Int.reduceEq,Int.reduceNe,Int.reduceLT,Int.reduceLE,Nat.reduceEqDiff,Nat.reduceAdd,reduceIte,reduceCtorEq,Nat.reduceLT,Nat.reduceLeDiff,Nat.reduceShiftRight,Nat.reduceMod]
    refine ⟨newsOk_boxes a,⟨by omega,by omega⟩,?_⟩
    refine rndW_of (envOf [(2,.sl (hitsL l)),(3,.int .i64 n),(4,.ptr 4 0 0),(10,.buf 100 a.length),(26,pairB b.h1 b.h2),(27,.int .i64 1)],stOf [(4,⟨70,12,[m.av]⟩),(100,⟨28,6,boxesL a⟩)]) ?_ ?_
    ·refine weakX [(100,some 42)] (of_decide_eq_true rfl) (of_decide_eq_true rfl) ?_
     (simp only [TM.av,TB.av,pairB,boxesL_append,List.length_append,vcW,vZ,Int.reduceEq,Int.reduceNe,Int.reduceLT,Int.reduceLE,Nat.reduceEqDiff,Nat.reduceAdd,reduceIte,reduceCtorEq,Nat.reduceLT,Nat.reduceLeDiff,Nat.reduceShiftRight,Nat.reduceMod])
     (repeat' first | exact trivial | (with_reducible first | exact RnB.fxB (ints_fxB _) | rfl | refine And.intro ?_ ?_) | (with_reducible (first | refine RnB.bb ?_ | refine RnB.nb ?_);simp only [vcW,vZ,Int.reduceEq,Int.reduceNe,Int.reduceLT,Int.reduceLE,Nat.reduceEqDiff,Nat.reduceAdd,reduceIte,reduceCtorEq,Nat.reduceLT,Nat.reduceLeDiff,Nat.reduceShiftRight,Nat.reduceMod]) | (with_reducible first | refine RnB.ii ?_ | refine RnB.app ?_) | (with_reducible refine RnB.fxB ?_;simp only [vcW,vZ,Int.reduceEq,Int.reduceNe,Int.reduceLT,Int.reduceLE,Nat.reduceEqDiff,Nat.reduceAdd,reduceIte,reduceCtorEq,Nat.reduceLT,Nat.reduceLeDiff,Nat.reduceShiftRight,Nat.reduceMod]) | omega)
     all_goals first | rfl | exact RnB.fxB rfl | exact RnB.fxB (boxesL_fxB _) | exact RnB.fxB (by rw [List.all_append,boxesL_fxB,boxesL_fxB];rfl) | skip
    simp only [TM.av,TB.av,pairB,rnd_s,Int.reduceAdd,Int.reduceSub,decide_true,decide_false,i64_1,i64_2,i64_3,i64_4,true_and,Int.one_mul,Int.cast_ofNat_Int,Int.reduceToNat,Nat.zero_mul,Nat.reduceMul,Nat.zero_add,Nat.mul_one,List.getElem?_cons_zero,List.getElem?_cons_succ,vZ,Int.reduceEq,Int.reduceNe,Int.reduceLT,Int.reduceLE,Nat.reduceEqDiff,Nat.reduceAdd,reduceIte,reduceCtorEq,Nat.reduceLT,Nat.reduceLeDiff,Nat.reduceShiftRight,Nat.reduceMod]
    refine callS_of i2 ?_
    simp only [covA,Option.getD_some,Option.isSome_some,boxesL_length,rnd_s,Int.reduceAdd,Int.reduceSub,decide_true,decide_false,i64_1,i64_2,i64_3,i64_4,true_and,Int.one_mul,Int.cast_ofNat_Int,Int.reduceToNat,Nat.zero_mul,Nat.reduceMul,Nat.zero_add,Nat.mul_one,List.getElem?_cons_zero,List.getElem?_cons_succ,vZ,Int.reduceEq,Int.reduceNe,Int.reduceLT,Int.reduceLE,Nat.reduceEqDiff,Nat.reduceAdd,reduceIte,reduceCtorEq,Nat.reduceLT,Nat.reduceLeDiff,Nat.reduceShiftRight,Nat.reduceMod]
    refine ⟨newsOk_boxes c,⟨by omega,by omega⟩,?_⟩
    refine rndW_of (envOf [(2,.sl (hitsL l)),(3,.int .i64 n),(4,.ptr 4 0 0),(10,.buf 100 (a ++ c).length),(26,pairB b.h1 b.h2),(27,.int .i64 2)],stOf [(4,⟨70,12,[m.av]⟩),(100,⟨28,6,boxesL (a ++ c)⟩)]) ?_ ?_
    ·refine weakX [(100,some 42)] (of_decide_eq_true rfl) (of_decide_eq_true rfl) ?_
     (simp only [TM.av,TB.av,pairB,boxesL_append,List.length_append,vcW,vZ,Int.reduceEq,Int.reduceNe,Int.reduceLT,Int.reduceLE,Nat.reduceEqDiff,Nat.reduceAdd,reduceIte,reduceCtorEq,Nat.reduceLT,Nat.reduceLeDiff,Nat.reduceShiftRight,Nat.reduceMod])
     (repeat' first | exact trivial | (with_reducible first | exact RnB.fxB (ints_fxB _) | rfl | refine And.intro ?_ ?_) | (with_reducible (first | refine RnB.bb ?_ | refine RnB.nb ?_);simp only [vcW,vZ,Int.reduceEq,Int.reduceNe,Int.reduceLT,Int.reduceLE,Nat.reduceEqDiff,Nat.reduceAdd,reduceIte,reduceCtorEq,Nat.reduceLT,Nat.reduceLeDiff,Nat.reduceShiftRight,Nat.reduceMod]) | (with_reducible first | refine RnB.ii ?_ | refine RnB.app ?_) | (with_reducible refine RnB.fxB ?_;simp only [vcW,vZ,Int.reduceEq,Int.reduceNe,Int.reduceLT,Int.reduceLE,Nat.reduceEqDiff,Nat.reduceAdd,reduceIte,reduceCtorEq,Nat.reduceLT,Nat.reduceLeDiff,Nat.reduceShiftRight,Nat.reduceMod]) | omega)
     all_goals first | rfl | exact RnB.fxB rfl | exact RnB.fxB (boxesL_fxB _) | exact RnB.fxB (by rw [List.all_append,boxesL_fxB,boxesL_fxB];rfl) | skip
    simp only [TM.av,TB.av,pairB,Option.bind_some,Option.map_some,Option.getD_some,Option.isSome_some,rnd_s,Int.reduceAdd,Int.reduceSub,decide_true,decide_false,i64_1,i64_2,i64_3,i64_4,true_and,Int.one_mul,Int.cast_ofNat_Int,Int.reduceToNat,Nat.zero_mul,Nat.reduceMul,Nat.zero_add,Nat.mul_one,List.getElem?_cons_zero,List.getElem?_cons_succ,vZ,Int.reduceEq,Int.reduceNe,Int.reduceLT,Int.reduceLE,Nat.reduceEqDiff,Nat.reduceAdd,reduceIte,reduceCtorEq,Nat.reduceLT,Nat.reduceLeDiff,Nat.reduceShiftRight,Nat.reduceMod]
    rw [borB_good _ _ _ _ _ (by simp [boxesL]) (boxesL_fx _)]

def TM.coverOf (m:TM) (b:TB) (l:List TH) (n:Int):Option (List TB):=TM.cover m l n b.count.toNat b
theorem CoverOf_s (m:TM) (x:TS) (n:Int) (q:openE m x.b x.h=0):Sound Try.prog 17 [m.av,x.av,.int .i64 n] (.tup [.sl (boxesL ((m.coverOf x.b x.h n).getD [])),.int .i64 (if (m.coverOf x.b x.h n).isSome then 0 else 12)]):=by
 refine sound_W f_track_CoverOf (Nat.le_of_ble_eq_true rfl) ?_
 obtain ⟨hm,hb,hc,hl2,ho⟩:=openE_ok q
 have hpos:=count_pos hb.o
 have hS:=cover_s m x.h n hm (by omega) ho x.b.count.toNat x.b hb (by omega) (by omega)
 simp only [c_track_CoverOf,TM.av,TS.av,rnd_s,Int.reduceAdd,Int.reduceSub,decide_true,decide_false,i64_1,i64_2,i64_3,i64_4,true_and,Int.one_mul,Int.cast_ofNat_Int,Int.reduceToNat,Nat.zero_mul,Nat.reduceMul,Nat.zero_add,Nat.mul_one,List.getElem?_cons_zero,List.getElem?_cons_succ,vZ,Int.reduceEq,Int.reduceNe,Int.reduceLT,Int.reduceLE,Nat.reduceEqDiff,Nat.reduceAdd,reduceIte,reduceCtorEq,Nat.reduceLT,Nat.reduceLeDiff,Nat.reduceShiftRight,Nat.reduceMod]
 refine callS_of (openHits_s m x.b x.h (by omega)) ?_
 simp only [q,decide_true,Bool.not_true,TM.av,TB.av,rnd_s,Int.reduceAdd,Int.reduceSub,decide_true,decide_false,i64_1,i64_2,i64_3,i64_4,true_and,Int.one_mul,Int.cast_ofNat_Int,Int.reduceToNat,Nat.zero_mul,Nat.reduceMul,Nat.zero_add,Nat.mul_one,List.getElem?_cons_zero,List.getElem?_cons_succ,vZ,Int.reduceEq,Int.reduceNe,Int.reduceLT,Int.reduceLE,Nat.reduceEqDiff,Nat.reduceAdd,reduceIte,reduceCtorEq,Nat.reduceLT,Nat.reduceLeDiff,Nat.reduceShiftRight,Nat.reduceMod]
 refine callS_of hS ?_
 simp only [covA,TM.av,TB.av,rnd_s,Int.reduceAdd,Int.reduceSub,decide_true,decide_false,i64_1,i64_2,i64_3,i64_4,true_and,Int.one_mul,Int.cast_ofNat_Int,Int.reduceToNat,Nat.zero_mul,Nat.reduceMul,Nat.zero_add,Nat.mul_one,List.getElem?_cons_zero,List.getElem?_cons_succ,vZ,Int.reduceEq,Int.reduceNe,Int.reduceLT,Int.reduceLE,Nat.reduceEqDiff,Nat.reduceAdd,reduceIte,reduceCtorEq,Nat.reduceLT,Nat.reduceLeDiff,Nat.reduceShiftRight,Nat.reduceMod]
 refine callS_of (unless_s _ _) ?_
 simp only [TM.av,TB.av,rnd_s,Int.reduceAdd,Int.reduceSub,decide_true,decide_false,i64_1,i64_2,i64_3,i64_4,true_and,Int.one_mul,Int.cast_ofNat_Int,Int.reduceToNat,Nat.zero_mul,Nat.reduceMul,Nat.zero_add,Nat.mul_one,List.getElem?_cons_zero,List.getElem?_cons_succ,vZ,Int.reduceEq,Int.reduceNe,Int.reduceLT,Int.reduceLE,Nat.reduceEqDiff,Nat.reduceAdd,reduceIte,reduceCtorEq,Nat.reduceLT,Nat.reduceLeDiff,Nat.reduceShiftRight,Nat.reduceMod]
 rfl
end Go.Proofs.Ytoiajhogondgcaa

