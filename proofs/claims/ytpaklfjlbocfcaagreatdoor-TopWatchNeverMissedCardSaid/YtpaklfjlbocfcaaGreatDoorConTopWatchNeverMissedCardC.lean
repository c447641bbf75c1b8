/- The law TopWatchNeverMissed: it answers true. By an AI agent; nothing here is trusted. -/
import Derived.Test.YtpaklfjlbocfcaaGreatDoorConTopWatchNeverMissedCardB
import Derived.Test.YtpaklfjlbocfcaaGreatDoorLayD
set_option linter.defProp false
set_option linter.unusedSimpArgs false
set_option linter.unusedVariables false
namespace Go.Proofs.YtpaklfjlbocfcaaGreatDoor
open Go.Av

theorem TN_fz (s:List (List Int)) (ch cs:List Int) (b Q A:Nat) (rk:Int) (hcs:cs.length=Q+b):Weak (envOf [(2,.sl (ints ch)),(4,.ptr 4 0 0),(7,.ptr 7 0 0),(17,.buf 100 (Q+b+A)),(21,.int .i64 (Q+b - 1:Nat)),(26,.int .i64 (A:Nat))],stOf [(4,⟨70,4,[.agg [.int .i64 b,.int .i64 rk,.int .i64 Q,.int .i64 A]]⟩),(7,⟨26,1,[.agg [.sl (skyL s)]]⟩),(100,⟨3,1,ints (extL s ch cs A)⟩)]) (envOf [(2,.sl (ints ch)),(4,.ptr 4 0 0),(7,.ptr 7 0 0),(17,.sl (ints (extL s ch cs A))),(21,.int .i64 (Q+b - 1:Nat)),(26,.int .i64 A)],stOf [(4,⟨70,4,[.agg [.int .i64 b,.int .i64 rk,.int .i64 Q,.int .i64 A]]⟩),(7,⟨26,1,[.agg [.sl (skyL s)]]⟩)]):=by
 have hlen:(extL s ch cs A).length=Q+b+A:=by rw [extL_len,hcs]
 have e:(ints (extL s ch cs A)).take (Q+b+A)=ints (extL s ch cs A):=List.take_of_length_le (by rw [ints_length];omega)
 refine weakS [(2,.sl (ints ch)),(4,.ptr 4 0 0),(7,.ptr 7 0 0),(17,.sl (ints (extL s ch cs A))),(21,.int .i64 (Q+b - 1:Nat)),(26,.int .i64 A)] [(4,some 4,⟨70,4,[.agg [.int .i64 b,.int .i64 rk,.int .i64 Q,.int .i64 A]]⟩),(7,some 7,⟨26,1,[.agg [.sl (skyL s)]]⟩)] (of_decide_eq_true rfl) (of_decide_eq_true rfl) ⟨⟨_,rfl,RnB.fxB rfl⟩,⟨_,rfl,RnB.fxB rfl⟩,trivial⟩ ?_
 refine ⟨.imm _ rfl,.ptr _ _ _ _ rfl,.ptr _ _ _ _ rfl,?_,.imm _ rfl,.imm _ rfl,trivial⟩
 have hz:=Rn.fz (s:=(envOf [(2,.sl (ints ch)),(4,.ptr 4 0 0),(7,.ptr 7 0 0),(17,.buf 100 (Q+b+A)),(21,.int .i64 (Q+b - 1:Nat)),(26,.int .i64 (A:Nat))],stOf [(4,⟨70,4,[.agg [.int .i64 b,.int .i64 rk,.int .i64 Q,.int .i64 A]]⟩),(7,⟨26,1,[.agg [.sl (skyL s)]]⟩),(100,⟨3,1,ints (extL s ch cs A)⟩)]).2) (s':=(envOf [(2,.sl (ints ch)),(4,.ptr 4 0 0),(7,.ptr 7 0 0),(17,.sl (ints (extL s ch cs A))),(21,.int .i64 (Q+b - 1:Nat)),(26,.int .i64 A)],stOf [(4,⟨70,4,[.agg [.int .i64 b,.int .i64 rk,.int .i64 Q,.int .i64 A]]⟩),(7,⟨26,1,[.agg [.sl (skyL s)]]⟩)]).2) (f:=Go.Av.keyOf [(4,some 4,⟨70,4,[.agg [.int .i64 b,.int .i64 rk,.int .i64 Q,.int .i64 A]]⟩),(7,some 7,⟨26,1,[.agg [.sl (skyL s)]]⟩)]) 100 (Q+b+A) _ rfl (by simp only [ints_length];omega) (fun x hx=>(fx_spec (ints_fx _ x hx)).1) (fun k' hk=>by
  simp only [Go.Av.keyOf] at hk
  split at hk
  ·cases hk
  ·split at hk <;> cases hk)
 simp only [e] at hz
 exact hz

set_option maxHeartbeats 8000000 in
theorem TN_21 (s:List (List Int)) (ch:List Int) (b Q A:Nat) (rk:Int) (hok:skyOk s) (h4:s.length≤4) (h60:∀ l ∈ s,∀ c ∈ l,0≤c∧c≤60) (hch:∀ x ∈ ch,I64 x) (hcl:ch.length≤40) (hb:1≤b∧b≤3) (hQ:Q≤6) (hA:A≤6) (cs:List Int) (hcs:cs.length=Q+b) (hcb:∀ x ∈ cs,0≤x∧x≤1000000) :
  WL Tryz.prog 329 cl_top_TopWatchNeverMissed_21 (endQ [(6,none)] (.bool true)) (envOf [(2,.sl (ints ch)),(4,.ptr 4 0 0),(7,.ptr 7 0 0),(17,.buf 100 (Q+b)),(21,.int .i64 (Q+b - 1:Nat))]) (stOf [(4,⟨70,4,[.agg [.int .i64 b,.int .i64 rk,.int .i64 Q,.int .i64 A]]⟩),(7,⟨26,1,[.agg [.sl (skyL s)]]⟩),(100,⟨3,1,ints cs⟩)]) .mk:=by
 have hmax:=maxLen_big
 have hWC:=fun f hf=>watchCase_s s hok h60 ch hch (by omega) f hf
 unfold skyA at hWC
 simp only [cl_top_TopWatchNeverMissed_21,cl_top_TopWatchNeverMissed_b2,vZ,Int.reduceEq,Int.reduceNe,Int.reduceLT,Int.reduceLE,Nat.reduceEqDiff,Nat.reduceAdd,reduceIte,reduceCtorEq,Nat.reduceLT,Nat.reduceLeDiff,Nat.reduceShiftRight,Nat.reduceMod]
 refine WL_loop (t:=.mk) (α:=PSigma fun i:Nat=>i≤A) (fun x=>(if x.1=A then (envOf [(2,.sl (ints ch)),(4,.ptr 4 0 0),(7,.ptr 7 0 0),(17,.sl (ints (extL s ch cs A))),(21,.int .i64 (Q+b - 1:Nat)),(26,.int .i64 A)],stOf [(4,⟨70,4,[.agg [.int .i64 b,.int .i64 rk,.int .i64 Q,.int .i64 A]]⟩),(7,⟨26,1,[.agg [.sl (skyL s)]]⟩)]) else (envOf [(2,.sl (ints ch)),(4,.ptr 4 0 0),(7,.ptr 7 0 0),(17,.buf 100 (Q+b+x.1)),(21,.int .i64 (Q+b - 1:Nat)),(26,.int .i64 (x.1:Nat))],stOf [(4,⟨70,4,[.agg [.int .i64 b,.int .i64 rk,.int .i64 Q,.int .i64 A]]⟩),(7,⟨26,1,[.agg [.sl (skyL s)]]⟩),(100,⟨3,1,ints (extL s ch cs x.1)⟩)]))) (fun x=>A - x.1) ⟨0,Nat.zero_le _⟩ ?_ (fun ⟨i,hi⟩=>?_)
 ·dsimp only
  by_cases hA0:0=A
  ·rw [if_pos hA0]
   refine Weak.trans ?_ (TN_fz s ch cs b Q A rk hcs)
   subst hA0
   rw [extL_zero]
   refine weakX [(100,some 100)] (of_decide_eq_true rfl) (of_decide_eq_true rfl) ?_
   (simp only [vcW,vZ,Int.reduceEq,Int.reduceNe,Int.reduceLT,Int.reduceLE,Nat.reduceEqDiff,Nat.reduceAdd,reduceIte,reduceCtorEq,Nat.reduceLT,Nat.reduceLeDiff,Nat.reduceShiftRight,Nat.reduceMod])
   (repeat' first | exact trivial | (with_reducible first | exact RnB.fxB (ints_fxB _) | rfl | refine And.intro ?_ ?_) | (with_reducible (first | refine RnB.bb ?_ | refine RnB.nb ?_);simp only [vcW,vZ,Int.reduceEq,Int.reduceNe,Int.reduceLT,Int.reduceLE,Nat.reduceEqDiff,Nat.reduceAdd,reduceIte,reduceCtorEq,Nat.reduceLT,Nat.reduceLeDiff,Nat.reduceShiftRight,Nat.reduceMod]) | (with_reducible first | refine RnB.ii ?_ | refine RnB.app ?_) | (with_reducible refine RnB.fxB ?_;simp only [vcW,vZ,Int.reduceEq,Int.reduceNe,Int.reduceLT,Int.reduceLE,Nat.reduceEqDiff,Nat.reduceAdd,reduceIte,reduceCtorEq,Nat.reduceLT,Nat.reduceLeDiff,Nat.reduceShiftRight,Nat.reduceMod]) | omega)
  ·rw [if_neg hA0,extL_zero]
   refine weakX [(100,some 100)] (of_decide_eq_true rfl) (of_decide_eq_true rfl) ?_
   (simp only [vcW,vZ,Int.reduceEq,Int.reduceNe,Int.reduceLT,Int.reduceLE,Nat.reduceEqDiff,Nat.reduceAdd,reduceIte,reduceCtorEq,Nat.reduceLT,Nat.reduceLeDiff,Nat.reduceShiftRight,Nat.reduceMod])
   (repeat' first | exact trivial | (with_reducible first | exact RnB.fxB (ints_fxB _) | rfl | refine And.intro ?_ ?_) | (with_reducible (first | refine RnB.bb ?_ | refine RnB.nb ?_);simp only [vcW,vZ,Int.reduceEq,Int.reduceNe,Int.reduceLT,Int.reduceLE,Nat.reduceEqDiff,Nat.reduceAdd,reduceIte,reduceCtorEq,Nat.reduceLT,Nat.reduceLeDiff,Nat.reduceShiftRight,Nat.reduceMod]) | (with_reducible first | refine RnB.ii ?_ | refine RnB.app ?_) | (with_reducible refine RnB.fxB ?_;simp only [vcW,vZ,Int.reduceEq,Int.reduceNe,Int.reduceLT,Int.reduceLE,Nat.reduceEqDiff,Nat.reduceAdd,reduceIte,reduceCtorEq,Nat.reduceLT,Nat.reduceLeDiff,Nat.reduceShiftRight,Nat.reduceMod]) | omega)
 ·by_cases hiA:i=A
  ·subst hiA
   simp only [if_true]
   have hc1:¬ (i:Int)<i:=by omega
   have hlen:(extL s ch cs i).length=Q+b+i:=by rw [extL_len,hcs]
   generalize hX:extL s ch cs i=X at *
   have hX1:∀ x ∈ X,0≤x∧x≤1000000:=fun x hx=>by
    rw [← hX] at hx
    rcases List.mem_append.1 hx with h | h
    ·exact hcb x h
    ·obtain ⟨q,_,rfl⟩:=List.mem_map.1 h
     have:=caseS_bd hok h4 h60 ch q
     omega
   have hcE:=countsE_of (l:=X) (by omega) hX1
   obtain ⟨R,hRd⟩:∃ R:Ring,R=⟨b+Q,b - 1,i⟩:=⟨_,rfl⟩
   have hRok:R.ok:=by rw [hRd];unfold Ring.ok;simp only;omega
   have hallE:allE R X [(Q+b - 1:Nat)]=0:=by
    have h1:alE1 (X.length:Int) (-1) ((Q+b - 1:Nat):Int)=0:=by
     unfold alE1
     have a1:0≤((Q+b - 1:Nat):Int)∧((Q+b - 1:Nat):Int)≤(X.length:Int) - 1:=by omega
     have a2:(-1:Int)<((Q+b - 1:Nat):Int):=by omega
     simp [a1,a2]
    unfold allE rcE ringE alarmsE alE
    rw [if_pos hRok]
    simp [hcE,h1,alE]
   have hlo:R.lo (Q+b - 1:Nat)=Q:=by rw [hRd];unfold Ring.lo;simp only;omega
   have hhi:R.hi X.length (Q+b - 1:Nat)=X.length - 1:=by rw [hRd];unfold Ring.hi;simp only;omega
   have hK:=KeptBy_s R X [(Q+b - 1:Nat)] (by omega) (by simp)
   have hL:=LostBy_s R X [(Q+b - 1:Nat)] (by omega) (by simp)
   rw [if_pos hallE,hallE] at hK hL
   rw [lost_none (by rw [hlo,hRd];simp only;omega) (by rw [hhi];omega)] at hL
   rw [frz_one,hlo,hhi] at hK
   have hcut:cutL X ((Q:Int),(X.length:Int) - 1)=X.drop Q:=by
    unfold cutL
    simp only
    rw [show ((X.length:Int) - 1+1).toNat=X.length by omega,List.take_length];rfl
   have hCI:=CopyInts_s X (by omega)
   have hIn:=Ints_s (X.drop Q) (X.drop Q) (by simp;omega)
   unfold frzsA frzA at hK
   simp only [List.map_cons,List.map_nil,hcut] at hK
   rw [hRd] at hK hL
   unfold Ring.av at hK hL
   simp only at hK hL
   have hin:ints [((Q+b - 1:Nat):Int)]=[.int .i64 ((Q+b - 1:Nat):Int)]:=rfl
   rw [hin] at hK hL
   simp only [hc1,vZ,Int.reduceEq,Int.reduceNe,Int.reduceLT,Int.reduceLE,Nat.reduceEqDiff,Nat.reduceAdd,reduceIte,reduceCtorEq,Nat.reduceLT,Nat.reduceLeDiff,Nat.reduceShiftRight,Nat.reduceMod]
   refine WL_cut ?_
   simp only [cl_top_TopWatchNeverMissed_22,vZ,Int.reduceEq,Int.reduceNe,Int.reduceLT,Int.reduceLE,Nat.reduceEqDiff,Nat.reduceAdd,reduceIte,reduceCtorEq,Nat.reduceLT,Nat.reduceLeDiff,Nat.reduceShiftRight,Nat.reduceMod]
   refine ⟨by unfold I64;omega,by unfold I64;omega,callS_of hCI ?_⟩
   simp only [vZ,Int.reduceEq,Int.reduceNe,Int.reduceLT,Int.reduceLE,Nat.reduceEqDiff,Nat.reduceAdd,reduceIte,reduceCtorEq,Nat.reduceLT,Nat.reduceLeDiff,Nat.reduceShiftRight,Nat.reduceMod]
   refine ⟨rfl,callS_of hK ?_⟩
   simp only [vZ,Int.reduceEq,Int.reduceNe,Int.reduceLT,Int.reduceLE,Nat.reduceEqDiff,Nat.reduceAdd,reduceIte,reduceCtorEq,Nat.reduceLT,Nat.reduceLeDiff,Nat.reduceShiftRight,Nat.reduceMod]
   refine callS_of hCI ?_
   simp only [vZ,Int.reduceEq,Int.reduceNe,Int.reduceLT,Int.reduceLE,Nat.reduceEqDiff,Nat.reduceAdd,reduceIte,reduceCtorEq,Nat.reduceLT,Nat.reduceLeDiff,Nat.reduceShiftRight,Nat.reduceMod]
   refine ⟨rfl,callS_of hL ?_⟩
   have hdr:(ints X).drop Q=ints (X.drop Q):=by simp [ints]
   have t0:(0:Int).toNat=0:=rfl
   have hXl:(X.length:Int) - 1+1=X.length:=by omega
   have h11:((1:Nat):Int)=1:=rfl
   have h00:((0:Nat):Int)=0:=rfl
   simp only [t0,hdr,ints_length,h11,h00,tk_sliceN,vZ,Int.reduceEq,Int.reduceNe,Int.reduceLT,Int.reduceLE,Nat.reduceEqDiff,Nat.reduceAdd,reduceIte,reduceCtorEq,Nat.reduceLT,Nat.reduceLeDiff,Nat.reduceShiftRight,Nat.reduceMod]
   refine ⟨by unfold I64;omega,⟨by omega,by omega,cellsOf_ints⟩,callS_of hIn ?_⟩
   simp only [h00,tk_sliceN,vZ,Int.reduceEq,Int.reduceNe,Int.reduceLT,Int.reduceLE,Nat.reduceEqDiff,Nat.reduceAdd,reduceIte,reduceCtorEq,Nat.reduceLT,Nat.reduceLeDiff,Nat.reduceShiftRight,Nat.reduceMod]
  ·rw [if_neg hiA]
   have hc1:(i:Int)<A:=by omega
   have hlen:(extL s ch cs i).length=Q+b+i:=by rw [extL_len,hcs]
   have hes:ints (extL s ch cs (i+1))=ints (extL s ch cs i) ++ [.int .i64 (caseS s ch i)]:=by rw [extL_succ,ints_append];rfl
   simp only [hc1,vZ,Int.reduceEq,Int.reduceNe,Int.reduceLT,Int.reduceLE,Nat.reduceEqDiff,Nat.reduceAdd,reduceIte,reduceCtorEq,Nat.reduceLT,Nat.reduceLeDiff,Nat.reduceShiftRight,Nat.reduceMod]
   refine callS_of (hWC i (by omega)) ?_
   simp only [ints_length,hlen,vZ,Int.reduceEq,Int.reduceNe,Int.reduceLT,Int.reduceLE,Nat.reduceEqDiff,Nat.reduceAdd,reduceIte,reduceCtorEq,Nat.reduceLT,Nat.reduceLeDiff,Nat.reduceShiftRight,Nat.reduceMod]
   refine ⟨⟨by omega,by omega⟩,by unfold I64;omega,⟨i+1,by omega⟩,by simp only;omega,?_⟩
   have hgo:∀ {p:Env × Store},Weak p (envOf [(2,.sl (ints ch)),(4,.ptr 4 0 0),(7,.ptr 7 0 0),(17,.buf 100 (Q+b+(i+1))),(21,.int .i64 (Q+b - 1:Nat)),(26,.int .i64 ((i+1):Nat))],stOf [(4,⟨70,4,[.agg [.int .i64 b,.int .i64 rk,.int .i64 Q,.int .i64 A]]⟩),(7,⟨26,1,[.agg [.sl (skyL s)]]⟩),(100,⟨3,1,ints (extL s ch cs (i+1))⟩)])→Weak p (if (i+1)=A then (envOf [(2,.sl (ints ch)),(4,.ptr 4 0 0),(7,.ptr 7 0 0),(17,.sl (ints (extL s ch cs A))),(21,.int .i64 (Q+b - 1:Nat)),(26,.int .i64 A)],stOf [(4,⟨70,4,[.agg [.int .i64 b,.int .i64 rk,.int .i64 Q,.int .i64 A]]⟩),(7,⟨26,1,[.agg [.sl (skyL s)]]⟩)]) else (envOf [(2,.sl (ints ch)),(4,.ptr 4 0 0),(7,.ptr 7 0 0),(17,.buf 100 (Q+b+(i+1))),(21,.int .i64 (Q+b - 1:Nat)),(26,.int .i64 ((i+1):Nat))],stOf [(4,⟨70,4,[.agg [.int .i64 b,.int .i64 rk,.int .i64 Q,.int .i64 A]]⟩),(7,⟨26,1,[.agg [.sl (skyL s)]]⟩),(100,⟨3,1,ints (extL s ch cs (i+1))⟩)])):=fun {p} h=>by
    by_cases hA1:i+1=A
    ·rw [if_pos hA1]
     refine Weak.trans h ?_
     rw [← hA1]
     exact TN_fz s ch cs b Q (i+1) rk hcs
    ·rw [if_neg hA1];exact h
   refine hgo ?_
   rw [hes]
   refine weakX [(100,some 259)] (of_decide_eq_true rfl) (of_decide_eq_true rfl) ?_
   (simp only [vcW,vZ,Int.reduceEq,Int.reduceNe,Int.reduceLT,Int.reduceLE,Nat.reduceEqDiff,Nat.reduceAdd,reduceIte,reduceCtorEq,Nat.reduceLT,Nat.reduceLeDiff,Nat.reduceShiftRight,Nat.reduceMod])
   (repeat' first | exact trivial | (with_reducible first | exact RnB.fxB (ints_fxB _) | rfl | refine And.intro ?_ ?_) | (with_reducible (first | refine RnB.bb ?_ | refine RnB.nb ?_);simp only [vcW,vZ,Int.reduceEq,Int.reduceNe,Int.reduceLT,Int.reduceLE,Nat.reduceEqDiff,Nat.reduceAdd,reduceIte,reduceCtorEq,Nat.reduceLT,Nat.reduceLeDiff,Nat.reduceShiftRight,Nat.reduceMod]) | (with_reducible first | refine RnB.ii ?_ | refine RnB.app ?_) | (with_reducible refine RnB.fxB ?_;simp only [vcW,vZ,Int.reduceEq,Int.reduceNe,Int.reduceLT,Int.reduceLE,Nat.reduceEqDiff,Nat.reduceAdd,reduceIte,reduceCtorEq,Nat.reduceLT,Nat.reduceLeDiff,Nat.reduceShiftRight,Nat.reduceMod]) | omega)
   all_goals first | rfl | exact hes.symm | exact hes | (rw [← hes];exact RnB.fxB (ints_fxB _)) | exact (ints_append _ [_]).symm | (rw [extL_succ];exact (ints_append _ _).symm) | trace_state

set_option maxHeartbeats 8000000 in
theorem TN_15 (s:List (List Int)) (ch:List Int) (b Q A:Nat) (rk:Int) (hok:skyOk s) (h4:s.length≤4) (h60:∀ l ∈ s,∀ c ∈ l,0≤c∧c≤60) (hch:∀ x ∈ ch,I64 x) (hcl:ch.length≤40) (hb:1≤b∧b≤3) (hQ:Q≤6) (hA:A≤6) (t:Int) (ht:0≤t∧t≤100000) (cs:List Int) (hcs:cs.length=Q+b) (hcb:∀ x ∈ cs,0≤x∧x≤1000000) (hS:t≤(cs.drop Q).sum∧(cs.drop Q).sum≤400000) :
  WL Tryz.prog 329 cl_top_TopWatchNeverMissed_15 (endQ [(6,none)] (.bool true)) (envOf [(2,.sl (ints ch)),(4,.ptr 4 0 0),(7,.ptr 7 0 0),(9,.int .i64 t),(17,.buf 100 (Q+b)),(18,.int .i64 (cs.drop Q).sum)]) (stOf [(4,⟨70,4,[.agg [.int .i64 b,.int .i64 rk,.int .i64 Q,.int .i64 A]]⟩),(7,⟨26,1,[.agg [.sl (skyL s)]]⟩),(100,⟨3,1,ints cs⟩)]) .mk:=by
 have hmax:=maxLen_big
 have h21:=TN_21 s ch b Q A rk hok h4 h60 hch hcl hb hQ hA cs hcs hcb
 have hm:=mean_facts (b:=b) hb ht
 obtain ⟨⟨m1,m2⟩,m3⟩:=hm
 have hCe:=Ceil_s t b (by unfold I64;omega) (by unfold I64;omega) (by omega) (by unfold I64;omega)
 obtain ⟨ce,hce⟩:∃ ce:Int,ce = -(-t / (b:Int)):=⟨_,rfl⟩
 rw [← hce] at hCe m1 m2 m3
 obtain ⟨me,hme⟩:∃ me:Int,me=max 0 (ce - 1):=⟨_,rfl⟩
 rw [← hme] at m3
 have hmb:0≤me∧me≤100000:=by rw [hme];omega
 obtain ⟨R,hRd⟩:∃ R:Rule,R=⟨me,1,b,0⟩:=⟨_,rfl⟩
 have hRok:R.ok:=by rw [hRd];unfold Rule.ok;simp only;omega
 have hRE:ruleE R=0:=if_pos hRok
 have hcE:=countsE_of (l:=cs) (by omega) hcb
 have hAl:=AlarmsIn_s R cs (by omega)
 rw [if_neg (by simp [hRE,hcE])] at hAl
 have hCo:=CopyInts_o cs (by omega)
 have hlast:((Q+b - 1:Nat):Int)=(cs.length:Int) - 1:=by omega
 have hwin:R.window=(b:Int):=by rw [hRd]
 have hlim:R.limit=0:=by rw [hRd]
 have hmean:R.mean=me:=by rw [hRd]
 have hex:=excess_last R cs b hwin (by omega) (by omega)
 rw [show cs.length - b=Q by omega,hmean,show cs.length - 1=Q+b - 1 by omega] at hex
 have hmem:=mem_alarms R cs (Q+b - 1) (by omega) (by rw [hwin];omega)
 rw [alarm_lim0 hlim,hex] at hmem
 have hawl:(alarmsL R (wins R cs)).length≤1000000000:=by
  unfold alarmsL wins winsTo
  rw [List.length_map]
  refine Nat.le_trans (List.length_filter_le _ _) ?_
  rw [List.length_map]
  refine Nat.le_trans (List.length_filter_le _ _) ?_
  rw [List.length_range];omega
 have hHa:=Has_s (alarmsL R (wins R cs)) ((Q+b - 1:Nat):Int) hawl
 generalize alarmsL R (wins R cs)=al at *
 generalize hSd:(cs.drop Q).sum=S at *
 rw [hRd] at hAl
 unfold Rule.av at hAl
 simp only at hAl
 have hbm:=mul_bound (a:=(b:Int)) (b:=me) (A:=3) (B:=100000) (by omega) (by omega) (by omega) (by omega)
 have hc1:¬ S<t:=by omega
 have hlc:(cs.length:Int) - 1=((Q+b - 1:Nat):Int):=hlast.symm
 have hqb:((Q+b:Nat):Int) - 1=((Q+b - 1:Nat):Int):=by omega
 simp only [cl_top_TopWatchNeverMissed_15,hc1,hcs,vZ,Int.reduceEq,Int.reduceNe,Int.reduceLT,Int.reduceLE,Nat.reduceEqDiff,Nat.reduceAdd,reduceIte,reduceCtorEq,Nat.reduceLT,Nat.reduceLeDiff,Nat.reduceShiftRight,Nat.reduceMod]
 rw [hqb]
 refine ⟨by unfold I64;omega,callS_of hCe ?_⟩
 simp only [← hme,vZ,Int.reduceEq,Int.reduceNe,Int.reduceLT,Int.reduceLE,Nat.reduceEqDiff,Nat.reduceAdd,reduceIte,reduceCtorEq,Nat.reduceLT,Nat.reduceLeDiff,Nat.reduceShiftRight,Nat.reduceMod]
 refine ⟨by unfold I64;omega,?_⟩
 rw [borB_good _ _ _ _ _ (by rw [ints_length,hcs]) (ints_fx _)]
 refine callS_new hCo (ints_scal _) (usedL_bufN rfl (ints_immN _ _) rfl) ?_
 simp only [vZ,Int.reduceEq,Int.reduceNe,Int.reduceLT,Int.reduceLE,Nat.reduceEqDiff,Nat.reduceAdd,reduceIte,reduceCtorEq,Nat.reduceLT,Nat.reduceLeDiff,Nat.reduceShiftRight,Nat.reduceMod]
 refine callS_of hAl ?_
 simp only [vZ,Int.reduceEq,Int.reduceNe,Int.reduceLT,Int.reduceLE,Nat.reduceEqDiff,Nat.reduceAdd,reduceIte,reduceCtorEq,Nat.reduceLT,Nat.reduceLeDiff,Nat.reduceShiftRight,Nat.reduceMod]
 refine ⟨by unfold I64;omega,by unfold I64;omega,?_⟩
 refine callS_of hHa ?_
 by_cases hx:0<S - b * me
 ·have hin:=hmem.2 hx
  have hx2:¬ S - b * me≤0:=by omega
  by_cases ht0:0<t
  all_goals
   simp only [hin,hx,hx2,ht0,vZ,Int.reduceEq,Int.reduceNe,Int.reduceLT,Int.reduceLE,Nat.reduceEqDiff,Nat.reduceAdd,reduceIte,reduceCtorEq,Nat.reduceLT,Nat.reduceLeDiff,Nat.reduceShiftRight,Nat.reduceMod]
   refine WL_cutW (envOf [(2,.sl (ints ch)),(4,.ptr 4 0 0),(7,.ptr 7 0 0),(17,.buf 100 (Q+b)),(21,.int .i64 (Q+b - 1:Nat))],stOf [(4,⟨70,4,[.agg [.int .i64 b,.int .i64 rk,.int .i64 Q,.int .i64 A]]⟩),(7,⟨26,1,[.agg [.sl (skyL s)]]⟩),(100,⟨3,1,ints cs⟩)]) rfl ?_ h21
   refine weakX [(100,some 100)] (of_decide_eq_true rfl) (of_decide_eq_true rfl) ?_
   (simp only [vcW,vZ,Int.reduceEq,Int.reduceNe,Int.reduceLT,Int.reduceLE,Nat.reduceEqDiff,Nat.reduceAdd,reduceIte,reduceCtorEq,Nat.reduceLT,Nat.reduceLeDiff,Nat.reduceShiftRight,Nat.reduceMod])
   (repeat' first | exact trivial | (with_reducible first | exact RnB.fxB (ints_fxB _) | rfl | refine And.intro ?_ ?_) | (with_reducible (first | refine RnB.bb ?_ | refine RnB.nb ?_);simp only [vcW,vZ,Int.reduceEq,Int.reduceNe,Int.reduceLT,Int.reduceLE,Nat.reduceEqDiff,Nat.reduceAdd,reduceIte,reduceCtorEq,Nat.reduceLT,Nat.reduceLeDiff,Nat.reduceShiftRight,Nat.reduceMod]) | (with_reducible first | refine RnB.ii ?_ | refine RnB.app ?_) | (with_reducible refine RnB.fxB ?_;simp only [vcW,vZ,Int.reduceEq,Int.reduceNe,Int.reduceLT,Int.reduceLE,Nat.reduceEqDiff,Nat.reduceAdd,reduceIte,reduceCtorEq,Nat.reduceLT,Nat.reduceLeDiff,Nat.reduceShiftRight,Nat.reduceMod]) | omega)
 ·have hin:=mt hmem.1 hx
  have ht0:¬ 0<t:=fun h=>by have:=m3 h;omega
  simp only [hin,hx,ht0,vZ,Int.reduceEq,Int.reduceNe,Int.reduceLT,Int.reduceLE,Nat.reduceEqDiff,Nat.reduceAdd,reduceIte,reduceCtorEq,Nat.reduceLT,Nat.reduceLeDiff,Nat.reduceShiftRight,Nat.reduceMod]
  refine WL_cutW (envOf [(2,.sl (ints ch)),(4,.ptr 4 0 0),(7,.ptr 7 0 0),(17,.buf 100 (Q+b)),(21,.int .i64 (Q+b - 1:Nat))],stOf [(4,⟨70,4,[.agg [.int .i64 b,.int .i64 rk,.int .i64 Q,.int .i64 A]]⟩),(7,⟨26,1,[.agg [.sl (skyL s)]]⟩),(100,⟨3,1,ints cs⟩)]) rfl ?_ h21
  refine weakX [(100,some 100)] (of_decide_eq_true rfl) (of_decide_eq_true rfl) ?_
  (simp only [vcW,vZ,Int.reduceEq,Int.reduceNe,Int.reduceLT,Int.reduceLE,Nat.reduceEqDiff,Nat.reduceAdd,reduceIte,reduceCtorEq,Nat.reduceLT,Nat.reduceLeDiff,Nat.reduceShiftRight,Nat.reduceMod])
  (repeat' first | exact trivial | (with_reducible first | exact RnB.fxB (ints_fxB _) | rfl | refine And.intro ?_ ?_) | (with_reducible (first | refine RnB.bb ?_ | refine RnB.nb ?_);simp only [vcW,vZ,Int.reduceEq,Int.reduceNe,Int.reduceLT,Int.reduceLE,Nat.reduceEqDiff,Nat.reduceAdd,reduceIte,reduceCtorEq,Nat.reduceLT,Nat.reduceLeDiff,Nat.reduceShiftRight,Nat.reduceMod]) | (with_reducible first | refine RnB.ii ?_ | refine RnB.app ?_) | (with_reducible refine RnB.fxB ?_;simp only [vcW,vZ,Int.reduceEq,Int.reduceNe,Int.reduceLT,Int.reduceLE,Nat.reduceEqDiff,Nat.reduceAdd,reduceIte,reduceCtorEq,Nat.reduceLT,Nat.reduceLeDiff,Nat.reduceShiftRight,Nat.reduceMod]) | omega)

set_option maxHeartbeats 8000000 in
theorem TN_14 (s:List (List Int)) (ch:List Int) (b Q A:Nat) (rk:Int) (hok:skyOk s) (h4:s.length≤4) (h60:∀ l ∈ s,∀ c ∈ l,0≤c∧c≤60) (hch:∀ x ∈ ch,I64 x) (hcl:ch.length≤40) (hb:1≤b∧b≤3) (hQ:Q≤6) (hA:A≤6) (t:Int) (ht:0≤t∧t≤100000) (n:Int) (hn:0≤n∧n≤100000) (htn:t≤b * (qS s+n)) :
  WL Tryz.prog 329 cl_top_TopWatchNeverMissed_14 (endQ [(6,none)] (.bool true)) (envOf [(2,.sl (ints ch)),(4,.ptr 4 0 0),(7,.ptr 7 0 0),(9,.int .i64 t),(13,.int .i64 n),(17,.nils),(18,.int .i64 0)]) (stOf [(4,⟨70,4,[.agg [.int .i64 b,.int .i64 rk,.int .i64 Q,.int .i64 A]]⟩),(7,⟨26,1,[.agg [.sl (skyL s)]]⟩)]) .mk:=by
 have hmax:=maxLen_big
 have hbd:=sumL_bd hok h4 h60 ch hn Q
 have hcn:=cntN_bd hok h4 h60 ch hn Q
 have hWC:=fun f hf=>watchCase_s s hok h60 ch hch (by omega) f hf
 have hcs:=fun f=>caseS_bd hok h4 h60 ch f
 have hsum:∀ k,k≤Q+b→0≤sumL s ch n Q k∧sumL s ch n Q k≤400000:=fun k hk=>by
  by_cases h:k≤Q
  ·rw [sumL_low _ _ _ _ _ h];omega
  ·obtain ⟨j,rfl⟩:=Nat.exists_eq_add_of_le (Nat.le_of_not_le h)
   have:=hbd j
   omega
 have h15:=TN_15 s ch b Q A rk hok h4 h60 hch hcl hb hQ hA t ht (cntL s ch n Q (Q+b)) (cntL_len _ _ _ _ _) (fun x hx=>by
  obtain ⟨i,_,rfl⟩:=List.mem_map.1 hx
  have:=hcn i
  omega) (by
  have h1:=hbd b
  have h2:=hsum (Q+b) (Nat.le_refl _)
  unfold sumL at h1 h2
  omega)
 unfold skyA at hWC
 simp only [cl_top_TopWatchNeverMissed_14,cl_top_TopWatchNeverMissed_b0,vZ,Int.reduceEq,Int.reduceNe,Int.reduceLT,Int.reduceLE,Nat.reduceEqDiff,Nat.reduceAdd,reduceIte,reduceCtorEq,Nat.reduceLT,Nat.reduceLeDiff,Nat.reduceShiftRight,Nat.reduceMod]
 refine WL_loop (t:=.mk) (α:=PSigma fun i:Nat=>i≤Q+b) (fun x=>(envOf [(2,.sl (ints ch)),(4,.ptr 4 0 0),(7,.ptr 7 0 0),(9,.int .i64 t),(13,.int .i64 n),(17,.buf 100 x.1),(18,.int .i64 (sumL s ch n Q x.1)),(19,.int .i64 x.1)],stOf [(4,⟨70,4,[.agg [.int .i64 b,.int .i64 rk,.int .i64 Q,.int .i64 A]]⟩),(7,⟨26,1,[.agg [.sl (skyL s)]]⟩),(100,⟨3,1,ints (cntL s ch n Q x.1)⟩)])) (fun x=>Q+b - x.1) ⟨0,Nat.zero_le _⟩ ?_ (fun ⟨i,hi⟩=>?_)
 ·have h0:sumL s ch n Q 0=0:=sumL_low _ _ _ _ _ (Nat.zero_le _)
  have h1:cntL s ch n Q 0=[]:=rfl
  have h2:ints []=[]:=rfl
  dsimp only
  rw [h0,h1,h2]
  refine weakX [(100,none)] (of_decide_eq_true rfl) (of_decide_eq_true rfl) ?_
  (simp only [vcW,vZ,Int.reduceEq,Int.reduceNe,Int.reduceLT,Int.reduceLE,Nat.reduceEqDiff,Nat.reduceAdd,reduceIte,reduceCtorEq,Nat.reduceLT,Nat.reduceLeDiff,Nat.reduceShiftRight,Nat.reduceMod])
  (repeat' first | exact trivial | (with_reducible first | exact RnB.fxB (ints_fxB _) | rfl | refine And.intro ?_ ?_) | (with_reducible (first | refine RnB.bb ?_ | refine RnB.nb ?_);simp only [vcW,vZ,Int.reduceEq,Int.reduceNe,Int.reduceLT,Int.reduceLE,Nat.reduceEqDiff,Nat.reduceAdd,reduceIte,reduceCtorEq,Nat.reduceLT,Nat.reduceLeDiff,Nat.reduceShiftRight,Nat.reduceMod]) | (with_reducible first | refine RnB.ii ?_ | refine RnB.app ?_) | (with_reducible refine RnB.fxB ?_;simp only [vcW,vZ,Int.reduceEq,Int.reduceNe,Int.reduceLT,Int.reduceLE,Nat.reduceEqDiff,Nat.reduceAdd,reduceIte,reduceCtorEq,Nat.reduceLT,Nat.reduceLeDiff,Nat.reduceShiftRight,Nat.reduceMod]) | omega)
  all_goals first | rfl | trace_state
 ·dsimp only at hi ⊢
  have hlen:=cntL_len s ch n Q i
  have hs1:=hsum i hi
  by_cases h':i<Q+b
  ·have hc1:(i:Int)<(Q:Int)+b:=by omega
   have hs2:=hsum (i+1) h'
   have hes:ints (cntL s ch n Q (i+1))=ints (cntL s ch n Q i) ++ [.int .i64 (cntN s ch n Q i)]:=by rw [cntL_succ,ints_append];rfl
   have hmul:(i:Int) * (s.length:Int)=((i * s.length:Nat):Int):=by simp
   have hil:i * s.length≤8 * 4:=Nat.mul_le_mul (by omega) h4
   have hss:=sumL_succ s ch n Q i
   have hW:=hWC (i * s.length) (by omega)
   have hci:=hcs (i * s.length)
   have hcn1:=hcn i
   have hcv:cntN s ch n Q i=caseS s ch (i * s.length)+(if Q≤i then n else 0):=rfl
   simp only [hc1,skyL_length,hmul,vZ,Int.reduceEq,Int.reduceNe,Int.reduceLT,Int.reduceLE,Nat.reduceEqDiff,Nat.reduceAdd,reduceIte,reduceCtorEq,Nat.reduceLT,Nat.reduceLeDiff,Nat.reduceShiftRight,Nat.reduceMod]
   refine ⟨by unfold I64;omega,by unfold I64;omega,callS_of hW ?_⟩
   by_cases hq:Q≤i
   ·have hq':(Q:Int)≤i:=by omega
    rw [if_pos hq] at hcv hss
    rw [hcv] at hss hes
    simp only [hq',ints_length,hlen,vZ,Int.reduceEq,Int.reduceNe,Int.reduceLT,Int.reduceLE,Nat.reduceEqDiff,Nat.reduceAdd,reduceIte,reduceCtorEq,Nat.reduceLT,Nat.reduceLeDiff,Nat.reduceShiftRight,Nat.reduceMod]
    refine ⟨by unfold I64;omega,by unfold I64;omega,⟨by omega,by omega⟩,by unfold I64;omega,⟨i+1,h'⟩,by (try simp only);omega,?_⟩
    rw [hes,hss]
    refine weakX [(100,some 199)] (of_decide_eq_true rfl) (of_decide_eq_true rfl) ?_
    (simp only [vcW,vZ,Int.reduceEq,Int.reduceNe,Int.reduceLT,Int.reduceLE,Nat.reduceEqDiff,Nat.reduceAdd,reduceIte,reduceCtorEq,Nat.reduceLT,Nat.reduceLeDiff,Nat.reduceShiftRight,Nat.reduceMod])
    (repeat' first | exact trivial | (with_reducible first | exact RnB.fxB (ints_fxB _) | rfl | refine And.intro ?_ ?_) | (with_reducible (first | refine RnB.bb ?_ | refine RnB.nb ?_);simp only [vcW,vZ,Int.reduceEq,Int.reduceNe,Int.reduceLT,Int.reduceLE,Nat.reduceEqDiff,Nat.reduceAdd,reduceIte,reduceCtorEq,Nat.reduceLT,Nat.reduceLeDiff,Nat.reduceShiftRight,Nat.reduceMod]) | (with_reducible first | refine RnB.ii ?_ | refine RnB.app ?_) | (with_reducible refine RnB.fxB ?_;simp only [vcW,vZ,Int.reduceEq,Int.reduceNe,Int.reduceLT,Int.reduceLE,Nat.reduceEqDiff,Nat.reduceAdd,reduceIte,reduceCtorEq,Nat.reduceLT,Nat.reduceLeDiff,Nat.reduceShiftRight,Nat.reduceMod]) | omega)
    all_goals first | rfl | exact (ints_append _ [_]).symm | (rw [← hes];exact RnB.fxB (ints_fxB _)) | trace_state
   ·have hq':¬ (Q:Int)≤i:=by omega
    rw [if_neg hq,Int.add_zero] at hcv
    rw [if_neg hq,Int.add_zero] at hss
    rw [hcv] at hes
    simp only [hq',ints_length,hlen,vZ,Int.reduceEq,Int.reduceNe,Int.reduceLT,Int.reduceLE,Nat.reduceEqDiff,Nat.reduceAdd,reduceIte,reduceCtorEq,Nat.reduceLT,Nat.reduceLeDiff,Nat.reduceShiftRight,Nat.reduceMod]
    refine ⟨⟨by omega,by omega⟩,by unfold I64;omega,⟨i+1,h'⟩,by (try simp only);omega,?_⟩
    rw [hes,hss]
    refine weakX [(100,some 199)] (of_decide_eq_true rfl) (of_decide_eq_true rfl) ?_
    (simp only [vcW,vZ,Int.reduceEq,Int.reduceNe,Int.reduceLT,Int.reduceLE,Nat.reduceEqDiff,Nat.reduceAdd,reduceIte,reduceCtorEq,Nat.reduceLT,Nat.reduceLeDiff,Nat.reduceShiftRight,Nat.reduceMod])
    (repeat' first | exact trivial | (with_reducible first | exact RnB.fxB (ints_fxB _) | rfl | refine And.intro ?_ ?_) | (with_reducible (first | refine RnB.bb ?_ | refine RnB.nb ?_);simp only [vcW,vZ,Int.reduceEq,Int.reduceNe,Int.reduceLT,Int.reduceLE,Nat.reduceEqDiff,Nat.reduceAdd,reduceIte,reduceCtorEq,Nat.reduceLT,Nat.reduceLeDiff,Nat.reduceShiftRight,Nat.reduceMod]) | (with_reducible first | refine RnB.ii ?_ | refine RnB.app ?_) | (with_reducible refine RnB.fxB ?_;simp only [vcW,vZ,Int.reduceEq,Int.reduceNe,Int.reduceLT,Int.reduceLE,Nat.reduceEqDiff,Nat.reduceAdd,reduceIte,reduceCtorEq,Nat.reduceLT,Nat.reduceLeDiff,Nat.reduceShiftRight,Nat.reduceMod]) | omega)
    all_goals first | rfl | exact (ints_append _ [_]).symm | (rw [← hes];exact RnB.fxB (ints_fxB _)) | trace_state
  ·have hil:i=Q+b:=by omega
   subst hil
   have hc1:¬ ((Q+b:Nat):Int)<(Q:Int)+b:=by omega
   simp only [hc1,vZ,Int.reduceEq,Int.reduceNe,Int.reduceLT,Int.reduceLE,Nat.reduceEqDiff,Nat.reduceAdd,reduceIte,reduceCtorEq,Nat.reduceLT,Nat.reduceLeDiff,Nat.reduceShiftRight,Nat.reduceMod]
   refine ⟨by unfold I64;omega,?_⟩
   refine WL_cutW (envOf [(2,.sl (ints ch)),(4,.ptr 4 0 0),(7,.ptr 7 0 0),(9,.int .i64 t),(17,.buf 100 (Q+b)),(18,.int .i64 ((cntL s ch n Q (Q+b)).drop Q).sum)],stOf [(4,⟨70,4,[.agg [.int .i64 b,.int .i64 rk,.int .i64 Q,.int .i64 A]]⟩),(7,⟨26,1,[.agg [.sl (skyL s)]]⟩),(100,⟨3,1,ints (cntL s ch n Q (Q+b))⟩)]) rfl ?_ h15
   refine weakX [(100,some 100)] (of_decide_eq_true rfl) (of_decide_eq_true rfl) ?_
   (simp only [vcW,vZ,Int.reduceEq,Int.reduceNe,Int.reduceLT,Int.reduceLE,Nat.reduceEqDiff,Nat.reduceAdd,reduceIte,reduceCtorEq,Nat.reduceLT,Nat.reduceLeDiff,Nat.reduceShiftRight,Nat.reduceMod])
   (repeat' first | exact trivial | (with_reducible first | exact RnB.fxB (ints_fxB _) | rfl | refine And.intro ?_ ?_) | (with_reducible (first | refine RnB.bb ?_ | refine RnB.nb ?_);simp only [vcW,vZ,Int.reduceEq,Int.reduceNe,Int.reduceLT,Int.reduceLE,Nat.reduceEqDiff,Nat.reduceAdd,reduceIte,reduceCtorEq,Nat.reduceLT,Nat.reduceLeDiff,Nat.reduceShiftRight,Nat.reduceMod]) | (with_reducible first | refine RnB.ii ?_ | refine RnB.app ?_) | (with_reducible refine RnB.fxB ?_;simp only [vcW,vZ,Int.reduceEq,Int.reduceNe,Int.reduceLT,Int.reduceLE,Nat.reduceEqDiff,Nat.reduceAdd,reduceIte,reduceCtorEq,Nat.reduceLT,Nat.reduceLeDiff,Nat.reduceShiftRight,Nat.reduceMod]) | omega)
   all_goals first | rfl | trace_state
set_option maxHeartbeats 8000000 in
theorem TopWatchNeverMissed_s (s:List (List Int)) (b rk Q A:Int) (ch:List Int) (hch:∀ x ∈ ch,I64 x):Sound Tryz.prog 5 [skyA s,.agg [.int .i64 b,.int .i64 rk,.int .i64 Q,.int .i64 A],.sl (ints ch)] (.bool true):=by
 refine sound_WL f_top_TopWatchNeverMissed e_top_TopWatchNeverMissed (Nat.le_of_ble_eq_true rfl) ?_
 have hSm:=watchSmall_s s
 have hBE:=BinsErr_s b
 have hW1:=Within_s rk 0 1000
 have hW2:=Within_s Q 0 6
 have hW3:=Within_s A 0 6
 unfold skyA at hSm
 simp only [cl_top_TopWatchNeverMissed,skyA,vZ,Int.reduceEq,Int.reduceNe,Int.reduceLT,Int.reduceLE,Nat.reduceEqDiff,Nat.reduceAdd,reduceIte,reduceCtorEq,Nat.reduceLT,Nat.reduceLeDiff,Nat.reduceShiftRight,Nat.reduceMod]
 refine callS_of watchAwake_s ?_
 simp only [vZ,Int.reduceEq,Int.reduceNe,Int.reduceLT,Int.reduceLE,Nat.reduceEqDiff,Nat.reduceAdd,reduceIte,reduceCtorEq,Nat.reduceLT,Nat.reduceLeDiff,Nat.reduceShiftRight,Nat.reduceMod]
 refine callS_of hSm ?_
 by_cases hS:smallW s=true
 case neg =>
  have hS':smallW s=false:=by simpa using hS
  simp only [hS',vZ,Int.reduceEq,Int.reduceNe,Int.reduceLT,Int.reduceLE,Nat.reduceEqDiff,Nat.reduceAdd,reduceIte,reduceCtorEq,Nat.reduceLT,Nat.reduceLeDiff,Nat.reduceShiftRight,Nat.reduceMod]
 obtain ⟨h4,h60,hE⟩:s.length≤4∧(∀ l ∈ s,∀ c ∈ l,0≤c∧c≤60)∧(skyE s).2=0:=by
  have h:=hS
  unfold smallW at h
  simp only [Bool.and_eq_true,decide_eq_true_eq,List.all_eq_true] at h
  obtain ⟨⟨h1,h2⟩,h3⟩:=h
  exact ⟨h1,fun l hl c hc=>(h2 l hl).2 c hc,h3⟩
 have hok:=skyE_ok hE
 have hl6:∀ l ∈ s,l.length≤6:=fun l hl=>(sensE_ok (hok.2 l hl)).2.1
 simp only [hS,vZ,Int.reduceEq,Int.reduceNe,Int.reduceLT,Int.reduceLE,Nat.reduceEqDiff,Nat.reduceAdd,reduceIte,reduceCtorEq,Nat.reduceLT,Nat.reduceLeDiff,Nat.reduceShiftRight,Nat.reduceMod]
 refine callS_of hBE ?_
 by_cases hb:binsE b=0
 case neg=>simp only [hb,vZ,Int.reduceEq,Int.reduceNe,Int.reduceLT,Int.reduceLE,Nat.reduceEqDiff,Nat.reduceAdd,reduceIte,reduceCtorEq,Nat.reduceLT,Nat.reduceLeDiff,Nat.reduceShiftRight,Nat.reduceMod]
 have hb13:1≤b∧b≤3:=by
  have h:=hb
  unfold binsE at h
  split at h
  ·assumption
  ·cases h
 simp only [hb,vZ,Int.reduceEq,Int.reduceNe,Int.reduceLT,Int.reduceLE,Nat.reduceEqDiff,Nat.reduceAdd,reduceIte,reduceCtorEq,Nat.reduceLT,Nat.reduceLeDiff,Nat.reduceShiftRight,Nat.reduceMod]
 refine callS_of hW1 ?_
 by_cases hrk:0≤rk∧rk≤1000
 case neg=>simp only [hrk,vZ,Int.reduceEq,Int.reduceNe,Int.reduceLT,Int.reduceLE,Nat.reduceEqDiff,Nat.reduceAdd,reduceIte,reduceCtorEq,Nat.reduceLT,Nat.reduceLeDiff,Nat.reduceShiftRight,Nat.reduceMod]
 simp only [hrk,vZ,Int.reduceEq,Int.reduceNe,Int.reduceLT,Int.reduceLE,Nat.reduceEqDiff,Nat.reduceAdd,reduceIte,reduceCtorEq,Nat.reduceLT,Nat.reduceLeDiff,Nat.reduceShiftRight,Nat.reduceMod]
 refine callS_of hW2 ?_
 by_cases hQ:0≤Q∧Q≤6
 case neg=>simp only [hQ,vZ,Int.reduceEq,Int.reduceNe,Int.reduceLT,Int.reduceLE,Nat.reduceEqDiff,Nat.reduceAdd,reduceIte,reduceCtorEq,Nat.reduceLT,Nat.reduceLeDiff,Nat.reduceShiftRight,Nat.reduceMod]
 simp only [hQ,vZ,Int.reduceEq,Int.reduceNe,Int.reduceLT,Int.reduceLE,Nat.reduceEqDiff,Nat.reduceAdd,reduceIte,reduceCtorEq,Nat.reduceLT,Nat.reduceLeDiff,Nat.reduceShiftRight,Nat.reduceMod]
 refine callS_of hW3 ?_
 by_cases hA:0≤A∧A≤6
 case neg=>simp only [hA,vZ,Int.reduceEq,Int.reduceNe,Int.reduceLT,Int.reduceLE,Nat.reduceEqDiff,Nat.reduceAdd,reduceIte,reduceCtorEq,Nat.reduceLT,Nat.reduceLeDiff,Nat.reduceShiftRight,Nat.reduceMod]
 by_cases hc40:(40:Int)<ch.length
 ·simp only [hA,ints_length,hc40,vZ,Int.reduceEq,Int.reduceNe,Int.reduceLT,Int.reduceLE,Nat.reduceEqDiff,Nat.reduceAdd,reduceIte,reduceCtorEq,Nat.reduceLT,Nat.reduceLeDiff,Nat.reduceShiftRight,Nat.reduceMod]
 obtain ⟨b,rfl⟩:∃ B:Nat,b=B:=⟨b.toNat,by omega⟩
 obtain ⟨Q,rfl⟩:∃ B:Nat,Q=B:=⟨Q.toNat,by omega⟩
 obtain ⟨A,rfl⟩:∃ B:Nat,A=B:=⟨A.toNat,by omega⟩
 have hs1:s.length<4000000000000000000:=by omega
 have hl1:∀ l ∈ s,l.length<4000000000000000000:=fun l hl=>by have:=hl6 l hl;omega
 have hCS:=CopySky_s s (by omega) fun l hl=>by have:=hl6 l hl;omega
 have hI:∀ l ∈ s,∀ n ∈ l,I64 n:=fun l hl n hn=>by have:=h60 l hl n hn;unfold I64;omega
 have hFS:=FormatSky_s s (by omega) fun l hl=>⟨by have:=hl6 l hl;omega,hI l hl⟩
 have hskyL:(skyS s).length≤100000:=by
  unfold skyS
  refine Nat.le_trans (join_le 59 170 _ fun w hw=>?_) (by simp;omega)
  obtain ⟨l,hm,rfl⟩:=List.mem_map.1 hw
  have h1:=rowS_le (hI l hm)
  have h2:=hl6 l hm
  omega
 have hPS:=ParseSky_s (skyS s) hskyL
 rw [sky_read s hE] at hPS
 have hSa:=SameSky_s s s (by omega) fun l hl=>by have:=hl6 l hl;omega
 have hBE':skyBE s b=0:=by unfold skyBE;rw [if_neg (by simpa using hE)];exact hb
 have hRE:riskE s b rk=0:=by unfold riskE;rw [if_neg (by simpa using hBE'),if_pos hrk]
 have hTF:=ThresholdFor_s s b rk hs1 hl1
 rw [if_pos hRE,hRE,show ((b:Int)).toNat=b from rfl] at hTF
 obtain ⟨f1,f2,f3,f4⟩:=bTo_facts hok (show b≤3 by omega)
 have hthr:=thr_le (bTo s b) rk (bTo s b).length
 have hkeep:=thr_keeps (bTo s b) rk (bTo s b).length (by
  rw [List.drop_length]
  have:=Int.mul_nonneg hrk.1 (show 0≤(bTo s b).sum from sum_nonneg f1)
  simpa using this)
 obtain ⟨T,hT⟩:∃ T:Nat,T=thr (bTo s b) rk (bTo s b).length:=⟨_,rfl⟩
 rw [← hT] at hTF hthr hkeep
 have hTb:(T:Int)≤100000:=by omega
 have hTE:skyTE s b T=0:=by unfold skyTE thrE;rw [if_neg (by simpa using hBE'),if_pos (by omega)]
 have hFA:=FalseAlarms_s s b T hs1 hl1 hTE
 have hSR:=SmallestRise_s s b T hs1 hl1
 rw [if_pos hTE,hTE] at hSR
 have hqb:=qS_bound hok
 obtain ⟨⟨n1,n2⟩,n3⟩:=rise_facts (b:=b) (t:=T) (q:=qS s) (by omega) (by omega) hqb.1
 have hnd:riseN s b T=max 0 (((T:Int)+b - 1) / b - qS s):=rfl
 rw [← hnd] at n1 n2 n3
 generalize riseN s b T=n at *
 have hNM:=NeverMissed_s s b T n hs1 hl1
 have hnE:nevE s b T n=0:=by
  unfold nevE thrE
  rw [if_neg (by simpa using hBE'),if_neg (by rw [if_pos (by omega)];simp),if_pos (by omega)]
 have hnB:nevB s b T n=true:=decide_eq_true n3
 rw [if_pos hnE,hnE,hnB] at hNM
 have hWt:=Within_s (T:Int) 0 100000
 have hWn:=Within_s n 0 (T:Int)
 have h14:=TN_14 s ch b Q A rk hok h4 h60 hch (by omega) (by omega) (by omega) (by omega) T (by omega) n (by omega) n3
 unfold skyA at hCS hFS hPS hSa hTF hFA hSR hNM
 unfold riseA at hNM
 simp only at hPS
 simp only [hA,ints_length,hc40,vZ,Int.reduceEq,Int.reduceNe,Int.reduceLT,Int.reduceLE,Nat.reduceEqDiff,Nat.reduceAdd,reduceIte,reduceCtorEq,Nat.reduceLT,Nat.reduceLeDiff,Nat.reduceShiftRight,Nat.reduceMod]
 refine callS_of hCS ?_
 simp only [vZ,Int.reduceEq,Int.reduceNe,Int.reduceLT,Int.reduceLE,Nat.reduceEqDiff,Nat.reduceAdd,reduceIte,reduceCtorEq,Nat.reduceLT,Nat.reduceLeDiff,Nat.reduceShiftRight,Nat.reduceMod]
 refine callS_of hFS ?_
 simp only [vZ,Int.reduceEq,Int.reduceNe,Int.reduceLT,Int.reduceLE,Nat.reduceEqDiff,Nat.reduceAdd,reduceIte,reduceCtorEq,Nat.reduceLT,Nat.reduceLeDiff,Nat.reduceShiftRight,Nat.reduceMod]
 refine callS_of hPS ?_
 simp only [vZ,Int.reduceEq,Int.reduceNe,Int.reduceLT,Int.reduceLE,Nat.reduceEqDiff,Nat.reduceAdd,reduceIte,reduceCtorEq,Nat.reduceLT,Nat.reduceLeDiff,Nat.reduceShiftRight,Nat.reduceMod]
 refine callS_of hSa ?_
 simp only [vZ,Int.reduceEq,Int.reduceNe,Int.reduceLT,Int.reduceLE,Nat.reduceEqDiff,Nat.reduceAdd,reduceIte,reduceCtorEq,Nat.reduceLT,Nat.reduceLeDiff,Nat.reduceShiftRight,Nat.reduceMod]
 refine callS_of hCS ?_
 simp only [vZ,Int.reduceEq,Int.reduceNe,Int.reduceLT,Int.reduceLE,Nat.reduceEqDiff,Nat.reduceAdd,reduceIte,reduceCtorEq,Nat.reduceLT,Nat.reduceLeDiff,Nat.reduceShiftRight,Nat.reduceMod]
 refine callS_of hTF ?_
 simp only [vZ,Int.reduceEq,Int.reduceNe,Int.reduceLT,Int.reduceLE,Nat.reduceEqDiff,Nat.reduceAdd,reduceIte,reduceCtorEq,Nat.reduceLT,Nat.reduceLeDiff,Nat.reduceShiftRight,Nat.reduceMod]
 refine callS_of hWt ?_
 have hT0:0≤(T:Int):=by omega
 simp only [hT0,hTb,vZ,Int.reduceEq,Int.reduceNe,Int.reduceLT,Int.reduceLE,Nat.reduceEqDiff,Nat.reduceAdd,reduceIte,reduceCtorEq,Nat.reduceLT,Nat.reduceLeDiff,Nat.reduceShiftRight,Nat.reduceMod]
 refine callS_of hCS ?_
 simp only [vZ,Int.reduceEq,Int.reduceNe,Int.reduceLT,Int.reduceLE,Nat.reduceEqDiff,Nat.reduceAdd,reduceIte,reduceCtorEq,Nat.reduceLT,Nat.reduceLeDiff,Nat.reduceShiftRight,Nat.reduceMod]
 have hpos:=bTo_sum_pos hok.2 b
 have hlk:=low_keeps (num:=((bTo s b).drop T).sum) (den:=(bTo s b).sum) (per:=rk) (sum_nonneg fun x hx=>f1 x (List.mem_of_mem_drop hx)) (by omega) hkeep
 have hIS:=IsSmall_s (falN s b T) (falD s b T)
 have hlk2:1000 * falN s b T≤rk * falD s b T:=hlk
 unfold falL at hFA
 unfold fracA at hIS hFA
 generalize falN s b T=fn at *
 generalize falD s b T=fd at *
 have fin:∀ {G:Prop},G→G:=fun g=>g
 by_cases hsf:smallF fn fd=true
 all_goals
  first | rw [if_pos hsf] at hFA | rw [if_neg hsf] at hFA
 ·have hsb:(-1000000000≤fn∧fn≤1000000000)∧(1≤fd∧fd≤1000000000):=by
   have h:=hsf
   unfold smallF at h
   simpa using h
  have hrf:=mul_bound (a:=rk) (b:=fd) (A:=1000) (B:=1000000000) (by omega) (by omega) (by omega) (by omega)
  have hnl:¬ rk * fd<1000 * fn:=by omega
  refine callS_of hFA ?_
  simp only [vZ,Int.reduceEq,Int.reduceNe,Int.reduceLT,Int.reduceLE,Nat.reduceEqDiff,Nat.reduceAdd,reduceIte,reduceCtorEq,Nat.reduceLT,Nat.reduceLeDiff,Nat.reduceShiftRight,Nat.reduceMod]
  refine callS_of hIS ?_
  simp only [hsf,vZ,Int.reduceEq,Int.reduceNe,Int.reduceLT,Int.reduceLE,Nat.reduceEqDiff,Nat.reduceAdd,reduceIte,reduceCtorEq,Nat.reduceLT,Nat.reduceLeDiff,Nat.reduceShiftRight,Nat.reduceMod]
  refine ⟨by unfold I64;omega,by unfold I64;omega,?_⟩
  simp only [hnl,vZ,Int.reduceEq,Int.reduceNe,Int.reduceLT,Int.reduceLE,Nat.reduceEqDiff,Nat.reduceAdd,reduceIte,reduceCtorEq,Nat.reduceLT,Nat.reduceLeDiff,Nat.reduceShiftRight,Nat.reduceMod]
  refine callS_of hCS ?_
  simp only [vZ,Int.reduceEq,Int.reduceNe,Int.reduceLT,Int.reduceLE,Nat.reduceEqDiff,Nat.reduceAdd,reduceIte,reduceCtorEq,Nat.reduceLT,Nat.reduceLeDiff,Nat.reduceShiftRight,Nat.reduceMod]
  refine callS_of hSR ?_
  simp only [vZ,Int.reduceEq,Int.reduceNe,Int.reduceLT,Int.reduceLE,Nat.reduceEqDiff,Nat.reduceAdd,reduceIte,reduceCtorEq,Nat.reduceLT,Nat.reduceLeDiff,Nat.reduceShiftRight,Nat.reduceMod]
  refine callS_of hCS ?_
  simp only [vZ,Int.reduceEq,Int.reduceNe,Int.reduceLT,Int.reduceLE,Nat.reduceEqDiff,Nat.reduceAdd,reduceIte,reduceCtorEq,Nat.reduceLT,Nat.reduceLeDiff,Nat.reduceShiftRight,Nat.reduceMod]
  refine callS_of hNM ?_
  simp only [vZ,Int.reduceEq,Int.reduceNe,Int.reduceLT,Int.reduceLE,Nat.reduceEqDiff,Nat.reduceAdd,reduceIte,reduceCtorEq,Nat.reduceLT,Nat.reduceLeDiff,Nat.reduceShiftRight,Nat.reduceMod]
  refine callS_of hWn ?_
  simp only [n1,n2,vZ,Int.reduceEq,Int.reduceNe,Int.reduceLT,Int.reduceLE,Nat.reduceEqDiff,Nat.reduceAdd,reduceIte,reduceCtorEq,Nat.reduceLT,Nat.reduceLeDiff,Nat.reduceShiftRight,Nat.reduceMod]
  refine WL_cutW (envOf [(2,.sl (ints ch)),(4,.ptr 4 0 0),(7,.ptr 7 0 0),(9,.int .i64 (T:Nat)),(13,.int .i64 n),(17,.nils),(18,.int .i64 0)],stOf [(4,⟨70,4,[.agg [.int .i64 (b:Nat),.int .i64 rk,.int .i64 (Q:Nat),.int .i64 (A:Nat)]]⟩),(7,⟨26,1,[.agg [.sl (skyL s)]]⟩)]) rfl ?_ h14
  refine weakX [] (of_decide_eq_true rfl) (of_decide_eq_true rfl) ?_
  (simp only [vcW,vZ,Int.reduceEq,Int.reduceNe,Int.reduceLT,Int.reduceLE,Nat.reduceEqDiff,Nat.reduceAdd,reduceIte,reduceCtorEq,Nat.reduceLT,Nat.reduceLeDiff,Nat.reduceShiftRight,Nat.reduceMod])
  (repeat' first | exact trivial | (with_reducible first | exact RnB.fxB (ints_fxB _) | rfl | refine And.intro ?_ ?_) | (with_reducible (first | refine RnB.bb ?_ | refine RnB.nb ?_);simp only [vcW,vZ,Int.reduceEq,Int.reduceNe,Int.reduceLT,Int.reduceLE,Nat.reduceEqDiff,Nat.reduceAdd,reduceIte,reduceCtorEq,Nat.reduceLT,Nat.reduceLeDiff,Nat.reduceShiftRight,Nat.reduceMod]) | (with_reducible first | refine RnB.ii ?_ | refine RnB.app ?_) | (with_reducible refine RnB.fxB ?_;simp only [vcW,vZ,Int.reduceEq,Int.reduceNe,Int.reduceLT,Int.reduceLE,Nat.reduceEqDiff,Nat.reduceAdd,reduceIte,reduceCtorEq,Nat.reduceLT,Nat.reduceLeDiff,Nat.reduceShiftRight,Nat.reduceMod]) | omega)
  all_goals first | rfl | trace_state
 ·refine callS_of hFA ?_
  simp only [vZ,Int.reduceEq,Int.reduceNe,Int.reduceLT,Int.reduceLE,Nat.reduceEqDiff,Nat.reduceAdd,reduceIte,reduceCtorEq,Nat.reduceLT,Nat.reduceLeDiff,Nat.reduceShiftRight,Nat.reduceMod]
  refine callS_of hCS ?_
  simp only [vZ,Int.reduceEq,Int.reduceNe,Int.reduceLT,Int.reduceLE,Nat.reduceEqDiff,Nat.reduceAdd,reduceIte,reduceCtorEq,Nat.reduceLT,Nat.reduceLeDiff,Nat.reduceShiftRight,Nat.reduceMod]
  refine callS_of hSR ?_
  simp only [vZ,Int.reduceEq,Int.reduceNe,Int.reduceLT,Int.reduceLE,Nat.reduceEqDiff,Nat.reduceAdd,reduceIte,reduceCtorEq,Nat.reduceLT,Nat.reduceLeDiff,Nat.reduceShiftRight,Nat.reduceMod]
  refine callS_of hCS ?_
  simp only [vZ,Int.reduceEq,Int.reduceNe,Int.reduceLT,Int.reduceLE,Nat.reduceEqDiff,Nat.reduceAdd,reduceIte,reduceCtorEq,Nat.reduceLT,Nat.reduceLeDiff,Nat.reduceShiftRight,Nat.reduceMod]
  refine callS_of hNM ?_
  simp only [vZ,Int.reduceEq,Int.reduceNe,Int.reduceLT,Int.reduceLE,Nat.reduceEqDiff,Nat.reduceAdd,reduceIte,reduceCtorEq,Nat.reduceLT,Nat.reduceLeDiff,Nat.reduceShiftRight,Nat.reduceMod]
  refine callS_of hWn ?_
  simp only [n1,n2,vZ,Int.reduceEq,Int.reduceNe,Int.reduceLT,Int.reduceLE,Nat.reduceEqDiff,Nat.reduceAdd,reduceIte,reduceCtorEq,Nat.reduceLT,Nat.reduceLeDiff,Nat.reduceShiftRight,Nat.reduceMod]
  refine WL_cutW (envOf [(2,.sl (ints ch)),(4,.ptr 4 0 0),(7,.ptr 7 0 0),(9,.int .i64 (T:Nat)),(13,.int .i64 n),(17,.nils),(18,.int .i64 0)],stOf [(4,⟨70,4,[.agg [.int .i64 (b:Nat),.int .i64 rk,.int .i64 (Q:Nat),.int .i64 (A:Nat)]]⟩),(7,⟨26,1,[.agg [.sl (skyL s)]]⟩)]) rfl ?_ h14
  refine weakX [] (of_decide_eq_true rfl) (of_decide_eq_true rfl) ?_
  (simp only [vcW,vZ,Int.reduceEq,Int.reduceNe,Int.reduceLT,Int.reduceLE,Nat.reduceEqDiff,Nat.reduceAdd,reduceIte,reduceCtorEq,Nat.reduceLT,Nat.reduceLeDiff,Nat.reduceShiftRight,Nat.reduceMod])
  (repeat' first | exact trivial | (with_reducible first | exact RnB.fxB (ints_fxB _) | rfl | refine And.intro ?_ ?_) | (with_reducible (first | refine RnB.bb ?_ | refine RnB.nb ?_);simp only [vcW,vZ,Int.reduceEq,Int.reduceNe,Int.reduceLT,Int.reduceLE,Nat.reduceEqDiff,Nat.reduceAdd,reduceIte,reduceCtorEq,Nat.reduceLT,Nat.reduceLeDiff,Nat.reduceShiftRight,Nat.reduceMod]) | (with_reducible first | refine RnB.ii ?_ | refine RnB.app ?_) | (with_reducible refine RnB.fxB ?_;simp only [vcW,vZ,Int.reduceEq,Int.reduceNe,Int.reduceLT,Int.reduceLE,Nat.reduceEqDiff,Nat.reduceAdd,reduceIte,reduceCtorEq,Nat.reduceLT,Nat.reduceLeDiff,Nat.reduceShiftRight,Nat.reduceMod]) | omega)
  all_goals first | rfl | trace_state
end Go.Proofs.YtpaklfjlbocfcaaGreatDoor

