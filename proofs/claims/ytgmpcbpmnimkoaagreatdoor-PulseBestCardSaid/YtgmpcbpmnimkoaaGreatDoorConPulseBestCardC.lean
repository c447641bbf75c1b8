/- A solution in lowest terms. By an AI agent; nothing here is trusted. -/
import Derived.Test.YtgmpcbpmnimkoaaGreatDoorConPulseBestCardB
import Derived.Test.YtgmpcbpmnimkoaaGreatDoorConPulseBestCardA
import Derived.Test.YtgmpcbpmnimkoaaGreatDoorLayC
import Derived.Test.YtgmpcbpmnimkoaaGreatDoorKode
import Derived.Lib.ItoaMem
set_option linter.defProp false
set_option linter.unusedSimpArgs false
set_option linter.unusedVariables false
namespace Go.Proofs.YtgmpcbpmnimkoaaGreatDoor
open Go.Av

def gcA (D:Bool × Nat) (P:List (Bool × Nat)):Nat:=Lin.gcds D.2 (P.map (·.2))
def qtL (D:Bool × Nat) (P:List (Bool × Nat)):List Nat:=(D :: P).map fun p=>p.2 / gcA D P
def smallQ (D:Bool × Nat) (P:List (Bool × Nat)):Bool:=(qtL D P).all fun n=>decide (n≤1000000000000)
def rdA (D:Bool × Nat) (P:List (Bool × Nat)):List AV:=if smallQ D P then [.agg [.int .i64 ((qtL D P).getD 0 0:Nat),.sl (ints (ntA ((qtL D P).drop 1)))],.int .i64 0] else [.agg [.int .i64 0,.sl []],.int .i64 8]
theorem qtL_len (D:Bool × Nat) (P:List (Bool × Nat)):(qtL D P).length=P.length+1:=by simp [qtL]
theorem gcds_app2 (d:Nat) (a:List Nat) (x:Nat):Lin.gcds d (a ++ [x])=Nat.gcd (Lin.gcds d a) x:=by simp [Lin.gcds,List.foldl_append]
theorem newsOk_w (P:List (Bool × Nat)):newsOk 3 (w2s P):=by
  intro x hx
  obtain ⟨p,_,rfl⟩:=List.mem_map.1 hx
  exact ⟨rfl,rfl⟩
theorem ntA_snoc (T:List Nat) (n:Nat):ntA (T ++ [n])=ntA T ++ [(n:Int)]:=by simp [ntA]
set_option maxHeartbeats 4000000 in
theorem reduced_s {D:Bool × Nat} {P:List (Bool × Nat)} (hDs:D.1=false) (hD0:0<D.2) (hD:D.2<170141183460469231731687303715884105728) (hP:∀ p ∈ P,p.2<170141183460469231731687303715884105728) (hl:P.length≤5) :
    Sound Tryz.prog 96 [wdA D.1 D.2,.sl (w2s P)] (.tup (rdA D P)):=by
  refine sound_W f_pulse_reduced (Nat.le_of_ble_eq_true rfl) ?_
  have hmax:=maxLen_big
  have hg:∀ i,Lin.gcds D.2 ((P.take i).map (·.2))≤D.2:=fun i=>Nat.le_of_dvd hD0 (Lin.gcds_dvd _ _)
  unfold wdA
  simp only [c_pulse_reduced,w2s_length,vcV,vcD,Int.reduceEq,Int.reduceNe,Int.reduceLT,Int.reduceLE,Nat.reduceEqDiff,Nat.reduceAdd,reduceIte,reduceCtorEq,Nat.reduceLT,Nat.reduceLeDiff,eq_self,vcP2,Nat.reduceShiftRight,Nat.reduceMod]
  refine W_loop (t:=.mk) (α:=PSigma fun i:Nat=>i≤P.length) (fun ⟨i,_⟩=>(envOf [(1,.sl (w2s P)),(2,.ptr 2 0 0),(4,.ptr 4 0 0),(5,.int .i64 0),(6,.ptr 6 0 0),(14,.sl (w2s P)),(15,.int .i64 P.length),(16,.int .i64 i)],stOf [(2,⟨157,3,[wdA D.1 D.2]⟩),(4,⟨29,2,[.agg [.int .i64 0,.nils]]⟩),(6,⟨157,3,[wdA false (Lin.gcds D.2 ((P.take i).map (·.2)))]⟩)])) (fun x=>P.length - x.1) ⟨0,Nat.zero_le _⟩ ?_ (fun ⟨i,hiS⟩=>?_)
  · have z:Lin.gcds D.2 []=D.2:=rfl
    refine weakX [] (of_decide_eq_true rfl) (of_decide_eq_true rfl) ?_
    (simp only [z,vcW,vcV,vcD,Int.reduceEq,Int.reduceNe,Int.reduceLT,Int.reduceLE,Nat.reduceEqDiff,Nat.reduceAdd,reduceIte,reduceCtorEq,Nat.reduceLT,Nat.reduceLeDiff,eq_self,vcP2,Nat.reduceShiftRight,Nat.reduceMod])
    repeat' (with_reducible refine And.intro ?_ ?_)
    try any_goals (with_reducible exact RnB.wide)
    all_goals try (simp only [wdA,hDs,vcW,vcV,vcD,Int.reduceEq,Int.reduceNe,Int.reduceLT,Int.reduceLE,Nat.reduceEqDiff,Nat.reduceAdd,reduceIte,reduceCtorEq,Nat.reduceLT,Nat.reduceLeDiff,eq_self,vcP2,Nat.reduceShiftRight,Nat.reduceMod])
    (repeat' first | exact trivial | (with_reducible first | exact RnB.fxB (ints_fxB _) | rfl | refine And.intro ?_ ?_) | (with_reducible (first | refine RnB.bb ?_ | refine RnB.nb ?_);simp only [vcW,vcV,vcD,Int.reduceEq,Int.reduceNe,Int.reduceLT,Int.reduceLE,Nat.reduceEqDiff,Nat.reduceAdd,reduceIte,reduceCtorEq,Nat.reduceLT,Nat.reduceLeDiff,eq_self,vcP2,Nat.reduceShiftRight,Nat.reduceMod]) | (with_reducible first | refine RnB.ii ?_ | refine RnB.app ?_) | (with_reducible refine RnB.fxB ?_;simp only [vcW,vcV,vcD,Int.reduceEq,Int.reduceNe,Int.reduceLT,Int.reduceLE,Nat.reduceEqDiff,Nat.reduceAdd,reduceIte,reduceCtorEq,Nat.reduceLT,Nat.reduceLeDiff,eq_self,vcP2,Nat.reduceShiftRight,Nat.reduceMod]) | omega)
    all_goals trace_state
  · dsimp only at hiS ⊢
    by_cases h':i<P.length
    · have hc1:(i:Int)<P.length:=by omega
      have hpi:=hP _ (List.getElem_mem h')
      have hgi:=hg i
      have hnx:Lin.gcds D.2 ((P.take (i+1)).map (·.2))=Nat.gcd (Lin.gcds D.2 ((P.take i).map (·.2))) P[i].2:=by
        rw [List.take_succ_eq_append_getElem h',List.map_append];exact gcds_app2 _ _ _
      have hget:=w2s_get P i h'
      generalize Lin.gcds D.2 ((P.take i).map (·.2))=g at *
      obtain ⟨p,hp⟩:∃ p,p=P[i]:=⟨_,rfl⟩
      rw [← hp] at hpi hnx hget
      have hC:=common_s false p.1 g p.2 (by unfold W128;omega) (by unfold W128;omega) (by unfold W128;omega)
      rw [← hnx] at hC
      unfold wdA at hC hget ⊢
      simp only [hc1,hget,vcV,vcD,Int.reduceEq,Int.reduceNe,Int.reduceLT,Int.reduceLE,Nat.reduceEqDiff,Nat.reduceAdd,reduceIte,reduceCtorEq,Nat.reduceLT,Nat.reduceLeDiff,eq_self,vcP2,Nat.reduceShiftRight,Nat.reduceMod]
      (repeat (with_reducible refine And.intro ?_ ?_;focus (first | omega | (unfold I64;omega))))
      refine callS_of hC ?_
      simp only [vcV,vcD,Int.reduceEq,Int.reduceNe,Int.reduceLT,Int.reduceLE,Nat.reduceEqDiff,Nat.reduceAdd,reduceIte,reduceCtorEq,Nat.reduceLT,Nat.reduceLeDiff,eq_self,vcP2,Nat.reduceShiftRight,Nat.reduceMod]
      (repeat (with_reducible refine And.intro ?_ ?_;focus (first | omega | (unfold I64;omega))))
      refine ⟨⟨i+1,h'⟩,by simp only;omega,?_⟩
      refine weakX [] (of_decide_eq_true rfl) (of_decide_eq_true rfl) ?_
      (simp only [wdA,vcW,vcV,vcD,Int.reduceEq,Int.reduceNe,Int.reduceLT,Int.reduceLE,Nat.reduceEqDiff,Nat.reduceAdd,reduceIte,reduceCtorEq,Nat.reduceLT,Nat.reduceLeDiff,eq_self,vcP2,Nat.reduceShiftRight,Nat.reduceMod])
      repeat' (with_reducible refine And.intro ?_ ?_)
      try any_goals (with_reducible exact RnB.wide)
      (repeat' first | exact trivial | (with_reducible first | exact RnB.fxB (ints_fxB _) | rfl | refine And.intro ?_ ?_) | (with_reducible (first | refine RnB.bb ?_ | refine RnB.nb ?_);simp only [vcW,vcV,vcD,Int.reduceEq,Int.reduceNe,Int.reduceLT,Int.reduceLE,Nat.reduceEqDiff,Nat.reduceAdd,reduceIte,reduceCtorEq,Nat.reduceLT,Nat.reduceLeDiff,eq_self,vcP2,Nat.reduceShiftRight,Nat.reduceMod]) | (with_reducible first | refine RnB.ii ?_ | refine RnB.app ?_) | (with_reducible refine RnB.fxB ?_;simp only [vcW,vcV,vcD,Int.reduceEq,Int.reduceNe,Int.reduceLT,Int.reduceLE,Nat.reduceEqDiff,Nat.reduceAdd,reduceIte,reduceCtorEq,Nat.reduceLT,Nat.reduceLeDiff,eq_self,vcP2,Nat.reduceShiftRight,Nat.reduceMod]) | omega)
      all_goals trace_state
    · have hil:i=P.length:=by omega
      subst hil
      have hc1:¬ (P.length:Int)<P.length:=by omega
      have hgf:Lin.gcds D.2 ((P.take P.length).map (·.2))=gcA D P:=by rw [List.take_length];rfl
      have hgl:=hg P.length
      rw [hgf] at hgl ⊢
      have hg0:0<gcA D P:=Nat.pos_of_dvd_of_pos (Lin.gcds_dvd _ _) hD0
      have hql:=qtL_len D P
      have hq:∀ i (h:i<P.length+1),(qtL D P)[i]'(by omega)=((D :: P)[i]'(by simp;omega)).2 / gcA D P:=fun i h=>by simp only [qtL,List.getElem_map]
      have hrd:rdA D P=if smallQ D P then [.agg [.int .i64 ((qtL D P).getD 0 0:Nat),.sl (ints (ntA ((qtL D P).drop 1)))],.int .i64 0] else [.agg [.int .i64 0,.sl []],.int .i64 8]:=rfl
      have hsm:smallQ D P=(qtL D P).all fun n=>decide (n≤1000000000000):=rfl
      rw [hrd]
      obtain ⟨Q,hQ⟩:∃ Q,Q=qtL D P:=⟨_,rfl⟩
      have hqx:∀ i (h:i<P.length+1) (h2:i<Q.length),Q[i]=((D :: P)[i]'(by simp;omega)).2 / gcA D P:=fun i h h2=>by subst hQ;exact hq i h
      rw [← hQ] at hql hsm ⊢
      generalize gcA D P=g at *
      unfold wdA
      simp only [hc1,vcV,vcD,Int.reduceEq,Int.reduceNe,Int.reduceLT,Int.reduceLE,Nat.reduceEqDiff,Nat.reduceAdd,reduceIte,reduceCtorEq,Nat.reduceLT,Nat.reduceLeDiff,eq_self,vcP2,Nat.reduceShiftRight,Nat.reduceMod]
      refine ⟨newsOk_w P,⟨by rw [w2s_length];omega,by rw [w2s_length];omega⟩,?_⟩
      refine W_loop (t:=.mk) (α:=PSigma fun i:Nat=>i≤P.length+1∧(Q.take i).all (fun n=>decide (n≤1000000000000))=true) (fun ⟨i,_⟩=>(envOf [(4,.ptr 4 0 0),(5,.int .i64 0),(6,.ptr 6 0 0),(9,.ptr 9 0 0),(27,.buf 100 (P.length+1)),(28,.int .i64 (P.length+1:Nat)),(29,.int .i64 i)],stOf [(4,⟨29,2,[.agg [.int .i64 0,.nils]]⟩),(6,⟨157,3,[wdA false g]⟩),(9,⟨29,2,[.agg [.int .i64 ((Q.take i).getD 0 0:Nat),.buf 101 (i - 1)]]⟩),(100,⟨157,3,w2s (D :: P)⟩),(101,⟨3,1,ints (ntA ((Q.take i).drop 1))⟩)])) (fun x=>P.length+1 - x.1) ⟨0,Nat.zero_le _,rfl⟩ ?_ (fun ⟨i,hiS,hal⟩=>?_)
      · have z:ints (ntA (List.drop 1 []))=[]:=rfl
        have z2:((([]:List Nat).getD 0 0:Nat):Int)=0:=rfl
        have z3:w2s (D :: P)=wdA D.1 D.2 :: w2s P:=rfl
        have z4:1+(w2s P).length=P.length+1:=by rw [w2s_length];omega
        have z5:0 - 1=0:=rfl
        refine weakX [(100,some 27),(101,none)] (of_decide_eq_true rfl) (of_decide_eq_true rfl) ?_
        (simp only [z,z2,z3,z4,z5,wdA,vcW,vcV,vcD,Int.reduceEq,Int.reduceNe,Int.reduceLT,Int.reduceLE,Nat.reduceEqDiff,Nat.reduceAdd,reduceIte,reduceCtorEq,Nat.reduceLT,Nat.reduceLeDiff,eq_self,vcP2,Nat.reduceShiftRight,Nat.reduceMod])
        repeat' (with_reducible refine And.intro ?_ ?_)
        try any_goals (with_reducible exact RnB.wide)
        try any_goals exact RnB.agg2 rfl rfl rfl rfl (.imm _ rfl) (.virt 101 _ rfl rfl)
        try any_goals (with_reducible exact RnB.fxB (w2s_fxB (D :: P)))
        (repeat' first | exact trivial | (with_reducible first | exact RnB.fxB (ints_fxB _) | rfl | refine And.intro ?_ ?_) | (with_reducible (first | refine RnB.bb ?_ | refine RnB.nb ?_);simp only [vcW,vcV,vcD,Int.reduceEq,Int.reduceNe,Int.reduceLT,Int.reduceLE,Nat.reduceEqDiff,Nat.reduceAdd,reduceIte,reduceCtorEq,Nat.reduceLT,Nat.reduceLeDiff,eq_self,vcP2,Nat.reduceShiftRight,Nat.reduceMod]) | (with_reducible first | refine RnB.ii ?_ | refine RnB.app ?_) | (with_reducible refine RnB.fxB ?_;simp only [vcW,vcV,vcD,Int.reduceEq,Int.reduceNe,Int.reduceLT,Int.reduceLE,Nat.reduceEqDiff,Nat.reduceAdd,reduceIte,reduceCtorEq,Nat.reduceLT,Nat.reduceLeDiff,eq_self,vcP2,Nat.reduceShiftRight,Nat.reduceMod]) | omega)
        all_goals exact w2s_fxB P
      · dsimp only at hiS hal ⊢
        by_cases h':i<P.length+1
        · have hc1:(i:Int)<(P.length+1:Nat):=by omega
          have hDP:i<(D :: P).length:=by simp;omega
          have hget:=w2s_get (D :: P) i hDP
          have hwl:(w2s (D :: P)).length=P.length+1:=by rw [w2s_length];rfl
          have hqi:=hqx i h' (by omega)
          have hpb:((D :: P)[i]).2<170141183460469231731687303715884105728:=by
            rcases List.mem_cons.1 (List.getElem_mem hDP) with e | e
            · rw [e];exact hD
            · exact hP _ e
          obtain ⟨p,hp⟩:∃ p,p=(D :: P)[i]:=⟨_,rfl⟩
          rw [← hp] at hget hpb hqi
          have hO:=over_s p.1 p.2 g (by unfold W128;omega) hg0 (by unfold W128;omega)
          have hQl:i<Q.length:=by omega
          obtain ⟨q,hqd⟩:∃ q,q=p.2 / g:=⟨_,rfl⟩
          have hqle:q≤p.2:=by rw [hqd];exact Nat.div_le_self _ _
          rw [← hqd] at hqi hO
          have hO':Sound Tryz.prog 188 [wdA p.1 p.2,wdA false g] (wdA false q):=hO
          unfold wdA at hO' hget ⊢
          have hbig:¬ (q / 18446744073709551616=0∧q % 18446744073709551616≤1000000000000)→smallQ D P=false:=fun h=>by
            rw [hsm,List.all_eq_false]
            exact ⟨Q[i],List.getElem_mem hQl,by rw [hqi];simp;omega⟩
          simp only [hc1,hget,hwl,vcV,vcD,Int.reduceEq,Int.reduceNe,Int.reduceLT,Int.reduceLE,Nat.reduceEqDiff,Nat.reduceAdd,reduceIte,reduceCtorEq,Nat.reduceLT,Nat.reduceLeDiff,eq_self,vcP2,Nat.reduceShiftRight,Nat.reduceMod]
          (repeat (with_reducible refine And.intro ?_ ?_;focus (first | omega | (unfold I64;omega))))
          refine callS_of hO' ?_
          by_cases q1:q / 18446744073709551616=0
          case neg =>
            have q1':¬ ((q / 18446744073709551616:Nat):Int)=0:=by omega
            rw [hbig (fun h=>q1 h.1)]
            simp only [q1',vcV,vcD,Int.reduceEq,Int.reduceNe,Int.reduceLT,Int.reduceLE,Nat.reduceEqDiff,Nat.reduceAdd,reduceIte,reduceCtorEq,Nat.reduceLT,Nat.reduceLeDiff,eq_self,vcP2,Nat.reduceShiftRight,Nat.reduceMod]
          have q1':((q / 18446744073709551616:Nat):Int)=0:=by omega
          by_cases q2:q % 18446744073709551616≤1000000000000
          case neg =>
            have q2':(1000000000000:Int)<((q % 18446744073709551616:Nat):Int):=by omega
            rw [hbig (fun h=>q2 h.2)]
            simp only [q1',q2',vcV,vcD,Int.reduceEq,Int.reduceNe,Int.reduceLT,Int.reduceLE,Nat.reduceEqDiff,Nat.reduceAdd,reduceIte,reduceCtorEq,Nat.reduceLT,Nat.reduceLeDiff,eq_self,vcP2,Nat.reduceShiftRight,Nat.reduceMod]
          have q2':¬ (1000000000000:Int)<(q:Int):=by omega
          have hqm:q % 18446744073709551616=q:=by omega
          have hts:Q.take (i+1)=Q.take i ++ [q]:=by rw [List.take_succ_eq_append_getElem hQl,hqi]
          have hal2:(Q.take (i+1)).all (fun n=>decide (n≤1000000000000))=true:=by rw [hts,List.all_append,hal];simp;omega
          by_cases h0:i=0
          · have h0':(i:Int)=0:=by omega
            subst h0
            have hz0:((0:Nat):Int)=0:=rfl
            have t1:Q.take 1=[q]:=hts
            have t2:(([q]:List Nat).getD 0 0)=q:=rfl
            have t3:List.drop 1 ([q]:List Nat)=[]:=rfl
            have t4:(0:Nat) - 1=0:=rfl
            have t5:1 - 1=0:=rfl
            have t6:ints (ntA [])=[]:=rfl
            have t7:List.drop 1 ([]:List Nat)=[]:=rfl
            have t8:(0:Int)+1=1:=rfl
            have t9:((1:Nat):Int)=1:=rfl
            simp only [q1',q2',hqm,hz0,vcV,vcD,Int.reduceEq,Int.reduceNe,Int.reduceLT,Int.reduceLE,Nat.reduceEqDiff,Nat.reduceAdd,reduceIte,reduceCtorEq,Nat.reduceLT,Nat.reduceLeDiff,eq_self,vcP2,Nat.reduceShiftRight,Nat.reduceMod]
            refine ⟨by unfold I64;omega,by unfold I64;omega,⟨1,by omega,hal2⟩,by simp only;omega,?_⟩
            refine weakX [(100,some 100),(101,some 101)] (of_decide_eq_true rfl) (of_decide_eq_true rfl) ?_
            (simp only [t1,t2,t3,t4,t5,t6,t7,t8,t9,wdA,vcW,vcV,vcD,Int.reduceEq,Int.reduceNe,Int.reduceLT,Int.reduceLE,Nat.reduceEqDiff,Nat.reduceAdd,reduceIte,reduceCtorEq,Nat.reduceLT,Nat.reduceLeDiff,eq_self,vcP2,Nat.reduceShiftRight,Nat.reduceMod])
            repeat' (with_reducible refine And.intro ?_ ?_)
            try any_goals (with_reducible exact RnB.wide)
            try any_goals exact RnB.agg2 rfl rfl rfl rfl (.imm _ rfl) (.buf 101 101 _ rfl)
            try any_goals (with_reducible exact RnB.fxB (w2s_fxB (D :: P)))
            (repeat' first | exact trivial | (with_reducible first | exact RnB.fxB (ints_fxB _) | rfl | refine And.intro ?_ ?_) | (with_reducible (first | refine RnB.bb ?_ | refine RnB.nb ?_);simp only [vcW,vcV,vcD,Int.reduceEq,Int.reduceNe,Int.reduceLT,Int.reduceLE,Nat.reduceEqDiff,Nat.reduceAdd,reduceIte,reduceCtorEq,Nat.reduceLT,Nat.reduceLeDiff,eq_self,vcP2,Nat.reduceShiftRight,Nat.reduceMod]) | (with_reducible first | refine RnB.ii ?_ | refine RnB.app ?_) | (with_reducible refine RnB.fxB ?_;simp only [vcW,vcV,vcD,Int.reduceEq,Int.reduceNe,Int.reduceLT,Int.reduceLE,Nat.reduceEqDiff,Nat.reduceAdd,reduceIte,reduceCtorEq,Nat.reduceLT,Nat.reduceLeDiff,eq_self,vcP2,Nat.reduceShiftRight,Nat.reduceMod]) | omega)
            all_goals trace_state
          · have h0':¬ (i:Int)=0:=by omega
            have hl1:((Q.take i).drop 1).length=i - 1:=by rw [List.length_drop,List.length_take];omega
            have hl2:(ntA ((Q.take i).drop 1)).length=i - 1:=by rw [ntA_len];exact hl1
            have hd1:(Q.take (i+1)).drop 1=(Q.take i).drop 1 ++ [q]:=by
              rw [hts,List.drop_append_of_le_length (by rw [List.length_take];omega)]
            have hd2:ints (ntA ((Q.take (i+1)).drop 1))=ints (ntA ((Q.take i).drop 1)) ++ [.int .i64 q]:=by rw [hd1,ntA_snoc,ints_append];rfl
            have hd3:(Q.take (i+1)).getD 0 0=(Q.take i).getD 0 0:=by
              rw [hts,List.getD_eq_getElem?_getD,List.getD_eq_getElem?_getD,List.getElem?_append_left (by rw [List.length_take];omega)]
            have hd4:i - 1+1=i:=by omega
            have hd5:i+1 - 1=i:=by omega
            simp only [q1',q2',hqm,h0',ints_length,hl2,vcV,vcD,Int.reduceEq,Int.reduceNe,Int.reduceLT,Int.reduceLE,Nat.reduceEqDiff,Nat.reduceAdd,reduceIte,reduceCtorEq,Nat.reduceLT,Nat.reduceLeDiff,eq_self,vcP2,Nat.reduceShiftRight,Nat.reduceMod]
            refine ⟨by unfold I64;omega,⟨by omega,by omega⟩,by unfold I64;omega,⟨i+1,by omega,hal2⟩,by simp only;omega,?_⟩
            refine weakX [(100,some 100),(101,some 58)] (of_decide_eq_true rfl) (of_decide_eq_true rfl) ?_
            (simp only [hd2,hd3,hd4,hd5,wdA,vcW,vcV,vcD,Int.reduceEq,Int.reduceNe,Int.reduceLT,Int.reduceLE,Nat.reduceEqDiff,Nat.reduceAdd,reduceIte,reduceCtorEq,Nat.reduceLT,Nat.reduceLeDiff,eq_self,vcP2,Nat.reduceShiftRight,Nat.reduceMod])
            repeat' (with_reducible refine And.intro ?_ ?_)
            try any_goals (with_reducible exact RnB.wide)
            try any_goals exact RnB.agg2 rfl rfl rfl rfl (.imm _ rfl) (.buf 58 101 _ rfl)
            try any_goals (with_reducible exact RnB.fxB (w2s_fxB (D :: P)))
            (repeat' first | exact trivial | (with_reducible first | exact RnB.fxB (ints_fxB _) | rfl | refine And.intro ?_ ?_) | (with_reducible (first | refine RnB.bb ?_ | refine RnB.nb ?_);simp only [vcW,vcV,vcD,Int.reduceEq,Int.reduceNe,Int.reduceLT,Int.reduceLE,Nat.reduceEqDiff,Nat.reduceAdd,reduceIte,reduceCtorEq,Nat.reduceLT,Nat.reduceLeDiff,eq_self,vcP2,Nat.reduceShiftRight,Nat.reduceMod]) | (with_reducible first | refine RnB.ii ?_ | refine RnB.app ?_) | (with_reducible refine RnB.fxB ?_;simp only [vcW,vcV,vcD,Int.reduceEq,Int.reduceNe,Int.reduceLT,Int.reduceLE,Nat.reduceEqDiff,Nat.reduceAdd,reduceIte,reduceCtorEq,Nat.reduceLT,Nat.reduceLeDiff,eq_self,vcP2,Nat.reduceShiftRight,Nat.reduceMod]) | omega)
            all_goals (rw [ints_append];rfl)
        · have hil:i=P.length+1:=by omega
          subst hil
          have hc1:¬ ((P.length+1:Nat):Int)<(P.length+1:Nat):=by omega
          have hta:Q.take (P.length+1)=Q:=List.take_of_length_le (by omega)
          rw [hta] at hal
          rw [hsm,hal,if_pos rfl,hta]
          unfold wdA
          simp only [hc1,vcV,vcD,Int.reduceEq,Int.reduceNe,Int.reduceLT,Int.reduceLE,Nat.reduceEqDiff,Nat.reduceAdd,reduceIte,reduceCtorEq,Nat.reduceLT,Nat.reduceLeDiff,eq_self,vcP2,Nat.reduceShiftRight,Nat.reduceMod]
          rw [borB_good _ _ _ _ _ (by rw [ints_length,ntA_len,List.length_drop];omega) (ints_fx _)]
end Go.Proofs.YtgmpcbpmnimkoaaGreatDoor

/- The ticks of a set. By an AI agent;nothing here is trusted. -/
namespace Go.Proofs.YtgmpcbpmnimkoaaGreatDoor
open Go.Av

def tk5 (s:Nat):List Nat:=(List.range 5).filter fun k=>s.testBit k
def tabZ:List (Nat × Nat × Nat × MC × List (Nat × Option (Option Nat))):=[(93,8,1,c_math_bits_TrailingZeros,[(2,none)]),(183,14,1,c_math_bits_TrailingZeros64,[(2,none)])]
theorem tabZ_ok:∀ f c,lookC tabZ f=some c→cFun Tryz.prog f=some c:=by
  refine lookC_ok ?_
  intro p hp
  simp only [tabZ,List.mem_cons,List.not_mem_nil,or_false] at hp
  rcases hp with rfl | rfl
  · exact f_math_bits_TrailingZeros
  · exact f_math_bits_TrailingZeros64
noncomputable def runZ (r:Nat):Option Int:=match callN (fun _ _=>none) (fun _ _=>none) (lookC tabZ) 40 5 93 [.int .u64 (r:Int)] with
  | some (.int .i64 n)=>some n
  | _=>none
theorem runZ_s {r:Nat} {n:Int} (h:runZ r=some n):Sound Tryz.prog 93 [.int .u64 (r:Int)] (.int .i64 n):=by
  unfold runZ at h
  split at h
  · rename_i m hm
    injection h with h
    subst h
    exact callN_sound (fun f a v h=>by cases h) (fun g c x h=>by cases h) tabZ_ok 5 _ _ _ hm
  · cases h
theorem zeros_run:((List.range 31).all fun r=>decide (runZ (r+1)=some (((tk5 (r+1)).getD 0 0:Nat):Int)))=true:=by kernel_rfl
theorem zeros_s {r:Nat} (h0:0<r) (h:r<32):Sound Tryz.prog 93 [.int .u64 (r:Int)] (.int .i64 ((tk5 r).getD 0 0:Nat)):=by
  have h1:=List.all_eq_true.1 zeros_run (r - 1) (List.mem_range.2 (by omega))
  rw [show r - 1+1=r by omega] at h1
  exact runZ_s (of_decide_eq_true h1)
theorem tk5_run:((List.range 31).all fun r=>decide (tk5 (r+1)=(tk5 (r+1)).getD 0 0 :: tk5 ((r+1) &&& r)) && decide ((r+1) &&& r<r+1))=true:=by decide +kernel
theorem tk5_step {r:Nat} (h0:0<r) (h:r<32):tk5 r=(tk5 r).getD 0 0 :: tk5 (r &&& (r - 1))∧r &&& (r - 1)<r:=by
  have h1:=List.all_eq_true.1 tk5_run (r - 1) (List.mem_range.2 (by omega))
  rw [Bool.and_eq_true,show r - 1+1=r by omega] at h1
  exact ⟨of_decide_eq_true h1.1,of_decide_eq_true h1.2⟩
theorem tk5_tk:((List.range 6).all fun S=>(List.range (2 ^ S)).all fun s=>decide (tk5 s=Lin.ticks S fun k=>s.testBit k))=true:=by decide +kernel
theorem tk5_eq {S s:Nat} (hS:S≤5) (hs:s<2 ^ S):tk5 s=Lin.ticks S fun k=>s.testBit k:=by
  have h1:=List.all_eq_true.1 tk5_tk S (List.mem_range.2 (by omega))
  have h2:=List.all_eq_true.1 h1 s (List.mem_range.2 hs)
  exact of_decide_eq_true h2
theorem and_g (x y:Nat) (hx:x<18446744073709551616) (hy:y<18446744073709551616):IntKind.u64.wrap ((((BitVec.ofInt IntKind.u64.bits (x:Int)) &&& (BitVec.ofInt IntKind.u64.bits (y:Int))).toNat:Nat):Int)=((x &&& y:Nat):Int):=by
  have e1:∀ x:Nat,x<18446744073709551616→(BitVec.ofInt IntKind.u64.bits (x:Int)).toNat=x:=fun x hx=>by
    rw [BitVec.toNat_ofInt]
    show ((x:Int) % ((2 ^ 64:Nat):Int)).toNat=x
    omega
  rw [BitVec.toNat_and,e1 _ hx,e1 _ hy]
  have:x &&& y≤x:=Nat.and_le_left
  exact u64_wrap (by omega)
end Go.Proofs.YtgmpcbpmnimkoaaGreatDoor

/- The fit of samples. By an AI agent;nothing here is trusted. -/
namespace Go.Proofs.YtgmpcbpmnimkoaaGreatDoor
open Go.Av

theorem ent_gm {items:List Int} {S r c:Nat} (hr:r<S) (hc:c<S):ent (gmP items S S) r c=Lin.gr items (S+items.length - 1) r c:=by
  unfold ent gmP gmQ
  simp [hr,hc]
theorem gr_bd {items:List Int} (hi:∀ x ∈ items, -100≤x∧x≤100) (N r c:Nat) : -(N * 10000:Int)≤Lin.gr items N r c∧Lin.gr items N r c≤N * 10000:=by
  unfold Lin.gr
  refine Lin.smI_bd fun n _=>?_
  exact prod_bd (M:=100) (by omega) (itm_bd hi n r) (itm_bd hi n c)
theorem getD_none {G:List (List Int)} {r:Nat} (h:G.length≤r):G.getD r []=[]:=by rw [List.getD_eq_getElem?_getD,List.getElem?_eq_none h];rfl
theorem getD_row {G:List (List Int)} {r:Nat} (h:r<G.length):G.getD r []=G[r]:=by rw [List.getD_eq_getElem?_getD,List.getElem?_eq_getElem h];rfl
theorem ent_lo {G:List (List Int)} {r c n:Nat} (hG:G.length=n) (hr:∀ g ∈ G,g.length=n) (h:¬ (r<n∧c<n)):ent G r c=0:=by
  unfold ent
  by_cases h1:r<n
  · have:c ≥ n:=by omega
    rw [getD_row (show r<G.length by omega),List.getD_eq_getElem?_getD,List.getElem?_eq_none (by rw [hr _ (List.getElem_mem _)];exact this)];rfl
  · rw [getD_none (by omega)];rfl
theorem gm_mem {items:List Int} {S:Nat} {g:List Int} (h:g ∈ gmP items S S):g.length=S:=by
  obtain ⟨k,_,rfl⟩:=List.mem_map.1 h
  exact gmQ_len _ _ _ _
theorem prB_5 {n:Nat} (h:n≤5):prB n (fun _=>6000000)<170141183460469231731687303715884105728:=by
  match n,h with
  | 0,_=>decide
  | 1,_=>decide
  | 2,_=>decide
  | 3,_=>decide
  | 4,_=>decide
  | 5,_=>decide
theorem prB_g {n:Nat} (h:n≤5):prB n (fun _=>100000)≤1200000000000000000000000000:=by
  match n,h with
  | 0,_=>decide
  | 1,_=>decide
  | 2,_=>decide
  | 3,_=>decide
  | 4,_=>decide
  | 5,_=>decide
theorem prB_r {n j:Nat} (h:n≤5) (hj:j<n):prB n (fun c=>if c=j then 6000000 else 100000)≤72000000000000000000000000000:=by
  have key:((List.range 6).all fun n=>(List.range n).all fun j=>decide (prB n (fun c=>if c=j then 6000000 else 100000)≤72000000000000000000000000000))=true:=by decide +kernel
  have h1:=List.all_eq_true.1 key n (List.mem_range.2 (by omega))
  have h2:=List.all_eq_true.1 h1 j (List.mem_range.2 hj)
  exact of_decide_eq_true h2
structure FtB (items l:List Int) (S:Nat):Prop where
  i1:1≤items.length
  i6:items.length≤6
  ib:∀ x ∈ items, -100≤x∧x≤100
  ne:∃ x ∈ items,x ≠ 0
  s5:1≤S∧S≤5
  lb:∀ x ∈ l, -10000≤x∧x≤10000
  ll:l.length=S+items.length - 1
theorem FtB.eb {items l:List Int} {S:Nat} (F:FtB items l S) (r c:Nat):(ent (gmP items S S) r c).natAbs≤100000:=by
  by_cases h:r<S∧c<S
  · rw [ent_gm h.1 h.2]
    have h1:=gr_bd F.ib (S+items.length - 1) r c
    have h2:=F.i6
    have h3:=F.s5
    omega
  · rw [ent_lo (gmP_len _ _ _) (fun g hg=>gm_mem hg) h];decide
theorem FtB.rb {items l:List Int} {S:Nat} (F:FtB items l S) (k:Nat):((rhP items l S).getD k 0).natAbs≤6000000:=by
  by_cases h:k<S
  · rw [getD_at (by rw [rhP_len];exact h)]
    unfold rhP
    rw [List.getElem_map,List.getElem_range]
    have h1:=agT_bd (M:=10000) (by omega) F.ib F.lb k items.length
    have h2:=F.i6
    omega
  · rw [List.getD_eq_getElem?_getD,List.getElem?_eq_none (by rw [rhP_len];omega)];decide
theorem tk5_lt {S s:Nat} (hS:S≤5) (hs:s<2 ^ S):∀ k ∈ tk5 s,k<S:=fun k hk=>by
  rw [tk5_eq hS hs] at hk
  exact (Lin.ticks_lt hk).1
theorem tk5_len (s:Nat):(tk5 s).length≤5:=by
  unfold tk5
  have:=List.length_filter_le (fun k=>s.testBit k) (List.range 5)
  simpa using this
theorem FtB.sl {items l:List Int} {S:Nat} (F:FtB items l S) {s:Nat} (hs:s<2 ^ S):SlB (gmP items S S) (rhP items l S) (tk5 s) 100000 6000000:=by
  refine ⟨F.eb,F.rb,⟨by rw [gmP_len,rhP_len],by rw [rhP_len];exact F.s5.2,fun g hg=>by rw [gm_mem hg,rhP_len]⟩,fun k hk=>by rw [rhP_len];exact tk5_lt F.s5.2 hs k hk,tk5_len s,⟨by omega,by omega,by omega⟩,prB_5 (tk5_len s)⟩
def dnS (items:List Int) (S s:Nat):Bool × Nat:=dtP (tk5 s).length (sqP (gmP items S S) (tk5 s) (tk5 s).length)
def ptS (items l:List Int) (S s:Nat):List (Bool × Nat):=slP (gmP items S S) (rhP items l S) (tk5 s) (tk5 s).length
def bsS (items l:List Int) (S s:Nat):Bool:=isB (dnS items S s) (ptS items l S s) (gmP items S S) (rhP items l S)
theorem FtB.db {items l:List Int} {S:Nat} (F:FtB items l S) {s:Nat} (hs:s<2 ^ S):(dnS items S s).2≤1200000000000000000000000000:=by
  have h1:=bnd_sq (F.sl hs)
  exact Nat.le_trans (dtP_le (sqP_len _ _ (Nat.le_refl _)) h1) (prB_g (tk5_len s))
theorem slP_le {G:List (List Int)} {H:List Int} {T:List Nat} {PM:Nat} (h:∀ n,n<T.length→(dtP T.length (rpP G H T n T.length)).2≤PM):∀ n,n≤T.length→∀ x ∈ slP G H T n,x.2≤PM
  | 0,_,x,hx=>by
    rw [slP] at hx
    rw [(List.mem_replicate.1 hx).2];exact Nat.zero_le _
  | n+1,hn,x,hx=>by
    rw [slP] at hx
    rcases List.mem_or_eq_of_mem_set hx with e | e
    · exact slP_le h n (by omega) x e
    · rw [e];exact h n (by omega)
theorem FtB.pb {items l:List Int} {S:Nat} (F:FtB items l S) {s:Nat} (hs:s<2 ^ S):∀ x ∈ ptS items l S s,x.2≤72000000000000000000000000000:=by
  refine slP_le (fun n hn=>?_) _ (Nat.le_refl _)
  exact Nat.le_trans (dtP_le (rpP_len _ _ _ _ (Nat.le_refl _)) (bnd_rp (F.sl hs) n)) (prB_r (tk5_len s) hn)
theorem ptS_len (items l:List Int) (S s:Nat):(ptS items l S s).length=S:=by unfold ptS;rw [slP_len,rhP_len]
theorem FtB.bd {items l:List Int} {S:Nat} (F:FtB items l S) {s:Nat} (hs:s<2 ^ S):BdB (dnS items S s) (ptS items l S s) (gmP items S S) (rhP items l S) 1200000000000000000000000000 72000000000000000000000000000 6000000 100000:=by
  refine ⟨F.db hs,F.pb hs,fun x hx=>?_,fun g hg=>⟨by rw [gm_mem hg,ptS_len],fun x hx=>?_⟩,⟨by rw [ptS_len,gmP_len],by rw [rhP_len,gmP_len],by rw [gmP_len];exact F.s5.2⟩,by decide,by decide⟩
  · obtain ⟨k,hk,rfl⟩:=List.getElem_of_mem hx
    have:=F.rb k
    rw [getD_at hk] at this;exact this
  · obtain ⟨k,hk,rfl⟩:=List.getElem_of_mem hg
    obtain ⟨c,hc,rfl⟩:=List.getElem_of_mem hx
    have:=F.eb k c
    unfold ent at this
    rw [getD_row hk,getD_at hc] at this
    exact this
theorem FtB.dpos {items l:List Int} {S:Nat} (F:FtB items l S) {s:Nat} (hs:s<2 ^ S):0<vl (dnS items S s):=by
  have hT:=tk5_eq F.s5.2 hs
  have h1:=Lin.posD.det (Lin.eqA_posD (items:=items) (S:=S) F.ne fun k=>s.testBit k)
  rw [← hT] at h1
  have h2:vl (dnS items S s)=Lin.dtI (tk5 s).length (ent (sqP (gmP items S S) (tk5 s) (tk5 s).length)):=dtP_vl _ _ (sqP_len _ _ (Nat.le_refl _))
  have h3:((vl (dnS items S s):Int):Rat)=Lin.dt (tk5 s).length (Lin.eqA items S (tk5 s)):=by
    rw [h2,Lin.dtI_cast]
    refine Lin.dt_congr fun r c hr hc=>?_
    have e1:(tk5 s).getD r 0<S:=by
      rw [List.getD_eq_getElem?_getD,List.getElem?_eq_getElem hr];exact tk5_lt F.s5.2 hs _ (List.getElem_mem hr)
    have e2:(tk5 s).getD c 0<S:=by
      rw [List.getD_eq_getElem?_getD,List.getElem?_eq_getElem hc];exact tk5_lt F.s5.2 hs _ (List.getElem_mem hc)
    rw [ent_sq hr hc,ent_gm e1 e2];rfl
  rw [← h3] at h1
  exact_mod_cast h1
theorem vl_pos {p:Bool × Nat} (h:0<vl p):p.1=false∧0<p.2:=by
  obtain ⟨b,n⟩:=p
  unfold vl wdV at h
  cases b
  · simp at h ⊢;omega
  · simp at h;omega
def fdS (items l:List Int) (S:Nat):Option Nat:=(List.range (2 ^ S)).find? (bsS items l S)
def ftR (items l:List Int) (S:Nat):Option Nat→List AV
  | some s=>rdA (dnS items S s) (ptS items l S s)
  | none=>[.agg [.int .i64 0,.sl []],.int .i64 8]
def ftA (items:List Int) (shifts:Int) (l:List Int):List AV:=if fdE items shifts l ≠ 0 then [.agg [.int .i64 0,.sl []],.int .i64 (fdE items shifts l)] else ftR items l shifts.toNat (fdS items l shifts.toNat)
theorem fdE_ok {items:List Int} {shifts:Int} {l:List Int} (h:fdE items shifts l=0):FtB items l shifts.toNat∧((shifts.toNat:Nat):Int)=shifts:=by
  unfold fdE at h
  split at h
  · rename_i g;exact absurd h g
  · rename_i g
    split at h
    · rename_i g2;exact absurd h g2
    · rename_i g2
      split at h
      · rename_i g3
        obtain ⟨⟨a1,a2⟩,a3,a4,a5⟩:=teE_ok (items:=items) (shifts:=shifts) (by omega)
        have hs:smE l=0:=by omega
        exact ⟨⟨a1,a2,a3,a4,by omega,(smE_ok hs).2.2,by omega⟩,by omega⟩
      · cases h
end Go.Proofs.YtgmpcbpmnimkoaaGreatDoor

/- What the fit is,in plain Lean. By an AI agent;nothing here is trusted. -/
namespace Go.Proofs.YtgmpcbpmnimkoaaGreatDoor
open Go.Av

theorem getD_set_eq {α:Type} {l:List α} {i:Nat} {x d:α} (h:i<l.length):(l.set i x).getD i d=x:=by
  rw [List.getD_eq_getElem?_getD,List.getElem?_set_self h];rfl
theorem getD_set_ne {α:Type} {l:List α} {i j:Nat} {x d:α} (h:i ≠ j):(l.set i x).getD j d=l.getD j d:=by
  rw [List.getD_eq_getElem?_getD,List.getD_eq_getElem?_getD,List.getElem?_set_ne h]
theorem slP_at {G:List (List Int)} {H:List Int} {T:List Nat} (hT:∀ r c,r<c→c<T.length→T.getD r 0<T.getD c 0) (hl:∀ r,r<T.length→T.getD r 0<H.length) :
    ∀ n,n≤T.length→∀ j,j<n→(slP G H T n).getD (T.getD j 0) (false,0)=dtP T.length (rpP G H T j T.length)
  | 0,_,j,h=>by omega
  | n+1,hn,j,h=>by
    rw [slP]
    by_cases e:j=n
    · subst e
      exact getD_set_eq (by rw [slP_len];exact hl j (by omega))
    · have:=hT j n (by omega) (by omega)
      rw [getD_set_ne (by omega)]
      exact slP_at hT hl n (by omega) j (by omega)
theorem slP_no {G:List (List Int)} {H:List Int} {T:List Nat} {k:Nat} (hk:∀ r,r<T.length→T.getD r 0 ≠ k):∀ n,n≤T.length→(slP G H T n).getD k (false,0)=(false,0)
  | 0,_=>by
    rw [slP]
    by_cases h:k<H.length
    · rw [List.getD_eq_getElem?_getD,List.getElem?_replicate,if_pos h];rfl
    · rw [List.getD_eq_getElem?_getD,List.getElem?_eq_none (by simp;omega)];rfl
  | n+1,hn=>by
    rw [slP,getD_set_ne (hk n (by omega))]
    exact slP_no hk n (by omega)
theorem zdiv (d:Rat):0 / d=0:=by rw [Rat.div_def,Rat.zero_mul]
theorem divnn {a d:Rat} (ha:0≤a) (hd:0<d):0≤a / d:=by
  refine Classical.byContradiction fun h=>?_
  have h1:=Rat.not_le.1 h
  have e:a=(a / d) * d:=by grind
  have:=Rat.mul_pos hd (show 0 < -(a / d) by grind)
  grind
def smR (l:List Int) (n:Nat):Rat:=((l.getD n 0:Int):Rat)
theorem rh_cast {items l:List Int} {S k:Nat} (F:FtB items l S) (hk:k<S):(((rhP items l S).getD k 0:Int):Rat)=Lin.rhs items S (smR l) k:=by
  rw [getD_at (by rw [rhP_len];exact hk)]
  unfold rhP
  rw [List.getElem_map,List.getElem_range,← smI_ag (N:=S+items.length - 1) (by have:=F.i1;omega) F.i1,Lin.smI_cast]
  unfold Lin.rhs smR
  exact Lin.sm_congr fun n _=>Rat.intCast_mul _ _
def xS (items l:List Int) (S s k:Nat):Rat:=((vl ((ptS items l S s).getD k (false,0)):Int):Rat) / ((vl (dnS items S s):Int):Rat)
theorem d_ne {items l:List Int} {S:Nat} (F:FtB items l S) {s:Nat} (hs:s<2 ^ S):0<((vl (dnS items S s):Int):Rat):=by
  have:=F.dpos hs
  exact_mod_cast this
theorem dn_cast {items l:List Int} {S:Nat} (F:FtB items l S) {s:Nat} (hs:s<2 ^ S):((vl (dnS items S s):Int):Rat)=Lin.dt (tk5 s).length (Lin.eqA items S (tk5 s)):=by
  have h2:vl (dnS items S s)=Lin.dtI (tk5 s).length (ent (sqP (gmP items S S) (tk5 s) (tk5 s).length)):=dtP_vl _ _ (sqP_len _ _ (Nat.le_refl _))
  rw [h2,Lin.dtI_cast]
  refine Lin.dt_congr fun r c hr hc=>?_
  have e1:(tk5 s).getD r 0<S:=by
    rw [List.getD_eq_getElem?_getD,List.getElem?_eq_getElem hr];exact tk5_lt F.s5.2 hs _ (List.getElem_mem hr)
  have e2:(tk5 s).getD c 0<S:=by
    rw [List.getD_eq_getElem?_getD,List.getElem?_eq_getElem hc];exact tk5_lt F.s5.2 hs _ (List.getElem_mem hc)
  rw [ent_sq hr hc,ent_gm e1 e2];rfl
theorem x_spread {items l:List Int} {S:Nat} (F:FtB items l S) {s:Nat} (hs:s<2 ^ S):∃ y:Nat→Rat,
    (∀ r,r<(Lin.ticks S fun k=>s.testBit k).length→Lin.sm (Lin.ticks S fun k=>s.testBit k).length (fun c=>Lin.eqA items S (Lin.ticks S fun k=>s.testBit k) r c * y c)=Lin.rhs items S (smR l) ((Lin.ticks S fun k=>s.testBit k).getD r 0)) ∧
    ∀ k,k<S→xS items l S s k=Lin.spread (fun k=>s.testBit k) y k:=by
  have hT:=tk5_eq F.s5.2 hs
  have hd:=d_ne F hs
  have hdc:=dn_cast F hs
  have hpt:ptS items l S s=slP (gmP items S S) (rhP items l S) (tk5 s) (tk5 s).length:=rfl
  unfold xS
  rw [hpt]
  generalize dnS items S s=D at *
  rw [hT] at hdc hpt ⊢
  obtain ⟨p,hp⟩:∃ p:Nat→Bool,p=fun k=>s.testBit k:=⟨_,rfl⟩
  rw [← hp] at hdc hpt ⊢
  have hpos:=Lin.eqA_posD (items:=items) (S:=S) F.ne p
  obtain ⟨y,hy⟩:=Lin.solvable hpos.triv fun r=>Lin.rhs items S (smR l) ((Lin.ticks S p).getD r 0)
  refine ⟨y,hy,fun k hk=>?_⟩
  unfold Lin.spread
  have hlt:∀ r,r<(Lin.ticks S p).length→(Lin.ticks S p).getD r 0<S:=fun r hr=>(Lin.ticks_lt (Lin.ticks_getD hr)).1
  cases hpk:p k with
  | false =>
    have:(slP (gmP items S S) (rhP items l S) (Lin.ticks S p) (Lin.ticks S p).length).getD k (false,0)=(false,0):=by
      refine slP_no (fun r hr e=>?_) _ (Nat.le_refl _)
      have:=(Lin.ticks_lt (Lin.ticks_getD hr)).2
      rw [e,hpk] at this;cases this
    rw [this]
    show ((0:Int):Rat) / _=_
    have e0:((0:Int):Rat)=0:=rfl
    rw [e0,zdiv];simp
  | true =>
    obtain ⟨h1,h2⟩:=Lin.ticks_at hk hpk
    rw [if_pos rfl]
    have e1:(slP (gmP items S S) (rhP items l S) (Lin.ticks S p) (Lin.ticks S p).length).getD k (false,0)=dtP (Lin.ticks S p).length (rpP (gmP items S S) (rhP items l S) (Lin.ticks S p) (Lin.tix p k) (Lin.ticks S p).length):=by
      have:=slP_at (G:=gmP items S S) (H:=rhP items l S) (T:=Lin.ticks S p) (fun r c a b=>Lin.ticks_asc a b) (fun r hr=>by rw [rhP_len];exact hlt r hr) _ (Nat.le_refl _) _ h1
      rw [h2] at this;exact this
    have e2:((vl (dtP (Lin.ticks S p).length (rpP (gmP items S S) (rhP items l S) (Lin.ticks S p) (Lin.tix p k) (Lin.ticks S p).length)):Int):Rat)=y (Lin.tix p k) * Lin.dt (Lin.ticks S p).length (Lin.eqA items S (Lin.ticks S p)):=by
      rw [← Lin.cramer _ _ _ hy h1,dtP_vl _ _ (rpP_len _ _ _ _ (Nat.le_refl _)),Lin.dtI_cast]
      refine Lin.dt_congr fun r c hr hc=>?_
      rw [ent_rp hr hc]
      unfold Lin.setc
      split
      · exact rh_cast F (hlt r hr)
      · rw [ent_gm (hlt r hr) (hlt c hc)];rfl
    rw [e1,e2,hdc]
    rw [hdc] at hd
    generalize Lin.dt (Lin.ticks S p).length (Lin.eqA items S (Lin.ticks S p))=d at *
    grind
theorem bs_best {items l:List Int} {S:Nat} (F:FtB items l S) {s:Nat} (hs:s<2 ^ S):bsS items l S s=true ↔ Lin.best items S (S+items.length - 1) (smR l) (xS items l S s):=by
  obtain ⟨y,hy,hx⟩:=x_spread F hs
  have hd:=d_ne F hs
  have hb:=Lin.spread_best (items:=items) (S:=S) (s:=smR l) hy
  have hbx:Lin.best items S (S+items.length - 1) (smR l) (xS items l S s) ↔ Lin.best items S (S+items.length - 1) (smR l) (Lin.spread (fun k=>s.testBit k) y):=by
    have hg:∀ k,Lin.grad items S (S+items.length - 1) (smR l) (xS items l S s) k=Lin.grad items S (S+items.length - 1) (smR l) (Lin.spread (fun k=>s.testBit k) y) k:=fun k=>by
      rw [Lin.grad_eq,Lin.grad_eq]
      congr 1
      exact Lin.sm_congr fun m hm=>by rw [hx m hm]
    constructor
    · intro h k hk
      have:=h k hk
      rw [hx k hk,hg k] at this;exact this
    · intro h k hk
      have:=h k hk
      rw [hx k hk,hg k];exact this
  rw [hbx,hb]
  have hg:∀ k,k<S→((rsV (dnS items S s) (ptS items l S s) ((rhP items l S).getD k 0) ((gmP items S S).getD k []) (ptS items l S s).length:Int):Rat)=((vl (dnS items S s):Int):Rat) * Lin.grad items S (S+items.length - 1) (smR l) (Lin.spread (fun k=>s.testBit k) y) k:=fun k hk=>by
    unfold rsV
    rw [ptS_len,Rat.intCast_sub,Rat.intCast_mul,rh_cast F hk,Lin.smI_cast,Lin.grad_eq]
    have e:Lin.sm S (fun j=>((vl ((ptS items l S s).getD j (false,0)) * ((gmP items S S).getD k []).getD j 0:Int):Rat))=((vl (dnS items S s):Int):Rat) * Lin.sm S fun m=>((Lin.gr items (S+items.length - 1) k m:Int):Rat) * Lin.spread (fun k=>s.testBit k) y m:=by
      rw [← Lin.sm_mul]
      refine Lin.sm_congr fun m hm=>?_
      have e1:((gmP items S S).getD k []).getD m 0=Lin.gr items (S+items.length - 1) k m:=ent_gm hk hm
      rw [e1,Rat.intCast_mul,← hx m hm]
      unfold xS
      generalize ((vl (dnS items S s):Int):Rat)=d at *
      grind
    rw [e]
    grind
  unfold bsS isB
  rw [List.all_eq_true]
  constructor
  · intro h k hk
    have h1:=h k (List.mem_range.2 (by rw [gmP_len];exact hk))
    unfold okB at h1
    rw [Bool.and_eq_true,decide_eq_true_eq,decide_eq_true_eq] at h1
    have h2:=hg k hk
    have h3:((rsV (dnS items S s) (ptS items l S s) ((rhP items l S).getD k 0) ((gmP items S S).getD k []) (ptS items l S s).length:Int):Rat)≤0:=by exact_mod_cast h1.2
    have h4:(0:Rat)≤((vl ((ptS items l S s).getD k (false,0)):Int):Rat):=by exact_mod_cast h1.1
    rw [h2] at h3
    have h5:=hx k hk
    unfold xS at h5
    constructor
    · rw [← h5]
      exact divnn h4 hd
    · generalize ((vl (dnS items S s):Int):Rat)=d at *
      refine Classical.byContradiction fun hn=>?_
      have:=Rat.mul_pos hd (Rat.not_le.1 hn)
      grind
  · intro h k hk
    have hk':k<S:=by have:=List.mem_range.1 hk;rw [gmP_len] at this;exact this
    obtain ⟨h1,h2⟩:=h k hk'
    unfold okB
    rw [Bool.and_eq_true,decide_eq_true_eq,decide_eq_true_eq]
    have h5:=hx k hk'
    unfold xS at h5
    constructor
    · have h4:(0:Rat)≤((vl ((ptS items l S s).getD k (false,0)):Int):Rat):=by
        rw [← h5] at h1
        generalize ((vl ((ptS items l S s).getD k (false,0)):Int):Rat)=v at *
        generalize ((vl (dnS items S s):Int):Rat)=d at *
        have e:v=(v / d) * d:=by grind
        rw [e];exact Rat.mul_nonneg h1 (Rat.le_of_lt hd)
      exact_mod_cast h4
    · have h3:((rsV (dnS items S s) (ptS items l S s) ((rhP items l S).getD k 0) ((gmP items S S).getD k []) (ptS items l S s).length:Int):Rat)≤0:=by
        rw [hg k hk']
        generalize ((vl (dnS items S s):Int):Rat)=d at *
        refine Classical.byContradiction fun hn=>?_
        have h6:=Rat.not_le.1 hn
        have:=Rat.mul_nonneg (Rat.le_of_lt hd) (show 0 ≤ -Lin.grad items S (S+items.length - 1) (smR l) (Lin.spread (fun k=>s.testBit k) y) k by grind)
        grind
      exact_mod_cast h3
end Go.Proofs.YtgmpcbpmnimkoaaGreatDoor

/- What the fit that is found is. By an AI agent;nothing here is trusted. -/
namespace Go.Proofs.YtgmpcbpmnimkoaaGreatDoor
open Go.Av

theorem gcds_div {g:Nat}:∀ (l:List Nat) {d:Nat},g ∣ d→(∀ x ∈ l,g ∣ x)→Lin.gcds (d / g) (l.map fun x=>x / g)=Lin.gcds d l / g
  | [],_,_,_=>rfl
  | x :: l,d,hd,hl=>by
    have h1:Lin.gcds (d / g) ((x :: l).map fun x=>x / g)=Lin.gcds (Nat.gcd (d / g) (x / g)) (l.map fun x=>x / g):=rfl
    have h2:Lin.gcds d (x :: l)=Lin.gcds (Nat.gcd d x) l:=rfl
    have hx:=hl x (by simp)
    rw [h1,h2,Nat.gcd_div hd hx]
    exact gcds_div l (Nat.dvd_gcd hd hx) fun y hy=>hl y (by simp [hy])
theorem ntA_abs (T:List Nat):(ntA T).map Int.natAbs=T:=by
  unfold ntA
  rw [List.map_map]
  conv=>rhs;rw [← List.map_id T]
  exact List.map_congr_left fun x _=>by simp
def den0 (D:Bool × Nat) (P:List (Bool × Nat)):Int:=((qtL D P).getD 0 0:Nat)
def chs0 (D:Bool × Nat) (P:List (Bool × Nat)):List Int:=ntA ((qtL D P).drop 1)
theorem den0_eq (D:Bool × Nat) (P:List (Bool × Nat)):den0 D P=((D.2 / gcA D P:Nat):Int):=rfl
theorem chs0_eq (D:Bool × Nat) (P:List (Bool × Nat)):chs0 D P=ntA ((P.map (·.2)).map fun x=>x / gcA D P):=by
  unfold chs0 qtL
  rw [List.map_cons,List.drop_one,List.tail_cons,List.map_map];rfl
theorem chs0_len (D:Bool × Nat) (P:List (Bool × Nat)):(chs0 D P).length=P.length:=by rw [chs0_eq,ntA_len];simp
theorem chs0_get (D:Bool × Nat) (P:List (Bool × Nat)) {k:Nat} (h:k<P.length):(chs0 D P).getD k 0=(((P.getD k (false,0)).2 / gcA D P:Nat):Int):=by
  rw [chs0_eq]
  unfold ntA
  rw [List.getD_eq_getElem?_getD,List.getD_eq_getElem?_getD,List.getElem?_eq_getElem h]
  simp [h]
theorem gcA_one {D:Bool × Nat} {P:List (Bool × Nat)} (h0:0<D.2):gcF (den0 D P) (chs0 D P)=1:=by
  unfold gcF
  rw [den0_eq,chs0_eq,ntA_abs]
  have hg:0<gcA D P:=Nat.pos_of_dvd_of_pos (Lin.gcds_dvd _ _) h0
  have:((D.2 / gcA D P:Nat):Int).natAbs=D.2 / gcA D P:=rfl
  rw [this,gcds_div (g:=gcA D P) _ (Lin.gcds_dvd _ _) (fun x hx=>Lin.gcds_mem hx)]
  show gcA D P / gcA D P=1
  exact Nat.div_self hg
theorem small_le {D:Bool × Nat} {P:List (Bool × Nat)} (h:smallQ D P=true):den0 D P≤1000000000000∧∀ x ∈ chs0 D P,0≤x∧x≤1000000000000:=by
  unfold smallQ at h
  rw [List.all_eq_true] at h
  constructor
  · have h1:=h (D.2 / gcA D P) (by unfold qtL;simp)
    have:=of_decide_eq_true h1
    rw [den0_eq];omega
  · intro x hx
    unfold chs0 ntA at hx
    obtain ⟨n,hn,rfl⟩:=List.mem_map.1 hx
    have:=of_decide_eq_true (h n (List.mem_of_mem_drop hn))
    omega
def ratF (den:Int) (ch:List Int) (k:Nat):Rat:=((ch.getD k 0:Int):Rat) / ((den:Int):Rat)
theorem ft_best {items l:List Int} {S:Nat} (F:FtB items l S) {s:Nat} (hs:s<2 ^ S) (hbest:Lin.best items S (S+items.length - 1) (smR l) (xS items l S s)) :
    Lin.best items S (S+items.length - 1) (smR l) (ratF (den0 (dnS items S s) (ptS items l S s)) (chs0 (dnS items S s) (ptS items l S s))):=by
  have hx:∀ k,k<S→ratF (den0 (dnS items S s) (ptS items l S s)) (chs0 (dnS items S s) (ptS items l S s)) k=xS items l S s k:=fun k hk=>by
    have hd:=d_ne F hs
    have hk2:k<(ptS items l S s).length:=by rw [ptS_len];exact hk
    have hnn:=(hbest k hk).1
    obtain ⟨d1,d2⟩:=vl_pos (F.dpos hs)
    unfold ratF
    rw [chs0_get _ _ hk2,den0_eq]
    unfold xS at hnn ⊢
    have hgD:gcA (dnS items S s) (ptS items l S s) ∣ (dnS items S s).2:=Lin.gcds_dvd _ _
    have hgP:gcA (dnS items S s) (ptS items l S s) ∣ ((ptS items l S s).getD k (false,0)).2:=Lin.gcds_mem (by
      rw [List.getD_eq_getElem?_getD,List.getElem?_eq_getElem hk2]
      exact List.mem_map.2 ⟨_,List.getElem_mem hk2,rfl⟩)
    have hg0:0<gcA (dnS items S s) (ptS items l S s):=Nat.pos_of_dvd_of_pos hgD d2
    generalize gcA (dnS items S s) (ptS items l S s)=g at *
    have hvD:vl (dnS items S s)=((dnS items S s).2:Int):=by
      unfold vl wdV;rw [d1];rfl
    have hvP:vl ((ptS items l S s).getD k (false,0))=(((ptS items l S s).getD k (false,0)).2:Int):=by
      have h1:=vl_abs ((ptS items l S s).getD k (false,0))
      have h2:0≤vl ((ptS items l S s).getD k (false,0)):=by
        have h3:(0:Rat)≤((vl ((ptS items l S s).getD k (false,0)):Int):Rat):=by
          generalize ((vl ((ptS items l S s).getD k (false,0)):Int):Rat)=v at *
          generalize ((vl (dnS items S s):Int):Rat)=d at *
          have e:v=(v / d) * d:=by grind
          rw [e];exact Rat.mul_nonneg hnn (Rat.le_of_lt hd)
        exact_mod_cast h3
      omega
    rw [hvP]
    rw [hvD] at hd ⊢
    clear hvP hvD hnn
    generalize ((ptS items l S s).getD k (false,0)).2=p at *
    generalize (dnS items S s).2=d at *
    obtain ⟨a,rfl⟩:=hgD
    obtain ⟨b,rfl⟩:=hgP
    rw [Nat.mul_div_cancel_left _ hg0,Nat.mul_div_cancel_left _ hg0]
    have ha:0<a:=Nat.pos_of_mul_pos_left d2
    have e1:(((g * b:Nat):Int):Rat)=((g:Int):Rat) * ((b:Int):Rat):=by rw [Int.natCast_mul,Rat.intCast_mul]
    have e2:(((g * a:Nat):Int):Rat)=((g:Int):Rat) * ((a:Int):Rat):=by rw [Int.natCast_mul,Rat.intCast_mul]
    rw [e1,e2]
    have g1:((g:Int):Rat) ≠ 0:=by
      have:(0:Rat)<((g:Int):Rat):=by exact_mod_cast hg0
      grind
    have a1:((a:Int):Rat) ≠ 0:=by
      have:(0:Rat)<((a:Int):Rat):=by exact_mod_cast ha
      grind
    generalize ((g:Int):Rat)=g' at *
    generalize ((a:Int):Rat)=a' at *
    generalize ((b:Int):Rat)=b' at *
    grind
  intro k hk
  have hg:Lin.grad items S (S+items.length - 1) (smR l) (ratF (den0 (dnS items S s) (ptS items l S s)) (chs0 (dnS items S s) (ptS items l S s))) k=Lin.grad items S (S+items.length - 1) (smR l) (xS items l S s) k:=by
    rw [Lin.grad_eq,Lin.grad_eq]
    congr 1
    exact Lin.sm_congr fun m hm=>by rw [hx m hm]
  rw [hg,hx k hk]
  exact hbest k hk
theorem ft_ok {items l:List Int} {shifts:Int} (h:fdE items shifts l=0) :
    (∃ den ch,ftA items shifts l=[.agg [.int .i64 den,.sl (ints ch)],.int .i64 0]∧FitIn items l shifts ch den∧gcF den ch=1∧Lin.best items shifts.toNat (shifts.toNat+items.length - 1) (smR l) (ratF den ch)) ∨
    ftA items shifts l=[.agg [.int .i64 0,.sl []],.int .i64 8]:=by
  obtain ⟨F,hS⟩:=fdE_ok h
  unfold ftA
  rw [if_neg (by omega)]
  generalize shifts.toNat=S at *
  cases hf:fdS items l S with
  | none=>right;rfl
  | some s =>
    show _∨rdA (dnS items S s) (ptS items l S s)=_
    have hf2:=hf
    unfold fdS at hf2
    rw [List.find?_range_eq_some] at hf2
    obtain ⟨hb,hs,_⟩:=hf2
    have hs:=List.mem_range.1 hs
    have hbest:=(bs_best F hs).1 hb
    cases hq:smallQ (dnS items S s) (ptS items l S s) with
    | false =>
      right
      unfold rdA
      rw [if_neg (by rw [hq];decide)]
    | true =>
      left
      refine ⟨den0 (dnS items S s) (ptS items l S s),chs0 (dnS items S s) (ptS items l S s),?_,?_,?_,?_⟩
      · show rdA (dnS items S s) (ptS items l S s)=_
        unfold rdA
        rw [if_pos hq];rfl
      · obtain ⟨q1,q2⟩:=small_le hq
        obtain ⟨d1,d2⟩:=vl_pos (F.dpos hs)
        have hd1:0<(dnS items S s).2 / gcA (dnS items S s) (ptS items l S s):=Nat.div_pos (Nat.le_of_dvd d2 (Lin.gcds_dvd _ _)) (Nat.pos_of_dvd_of_pos (Lin.gcds_dvd _ _) d2)
        exact ⟨F.i1,F.i6,F.ib,F.ne,by have:=F.s5;omega,F.lb,by have:=F.ll;have:=F.s5;have:=F.i1;omega,by rw [chs0_len,ptS_len];omega,q2,by rw [den0_eq] at q1 ⊢;omega⟩
      · exact gcA_one (vl_pos (F.dpos hs)).2
      · exact ft_best F hs hbest
end Go.Proofs.YtgmpcbpmnimkoaaGreatDoor

/- The error of a fit;fits of samples times a number. By an AI agent;nothing here is trusted. -/
namespace Go.Proofs.YtgmpcbpmnimkoaaGreatDoor
open Go.Av

theorem mdT_smI (items ch:List Int) (n:Nat):∀ k,mdT items ch n k=Lin.smI k fun k=>ch.getD k 0 * Lin.itm items n k
  | 0=>rfl
  | k+1=>by rw [mdT_itm,Lin.smI,mdT_smI items ch n k]
theorem md_cast {items ch:List Int} {den:Int} (hd:1≤den) (S n:Nat):((mdT items ch n S:Int):Rat)=((den:Int):Rat) * Lin.md items S (ratF den ch) n:=by
  have h0:(0:Rat)<((den:Int):Rat):=by exact_mod_cast (show (0:Int)<den by omega)
  rw [mdT_smI,Lin.smI_cast]
  unfold Lin.md
  rw [← Lin.sm_mul]
  refine Lin.sm_congr fun k _=>?_
  rw [Rat.intCast_mul]
  unfold ratF
  generalize ((den:Int):Rat)=d at *
  grind
theorem sqN_range (f:Nat→Int):∀ N,((sqN ((List.range N).map f):Nat):Int)=Lin.smI N fun n=>f n * f n
  | 0=>rfl
  | N+1=>by
    rw [List.range_succ,List.map_append,sqN_app,Int.natCast_add,sqN_range f N,Lin.smI]
    congr 1
    simp [sqN,Int.natAbs_mul_self']
theorem fE_fit {items l:List Int} {shifts:Int} {ch:List Int} {den:Int} (F:FitIn items l shifts ch den):fE den ch=0:=by
  unfold fE
  rw [if_pos F.db,if_neg (by have:=F.cl;have:=F.s5;omega),if_pos]
  rw [List.all_eq_true]
  exact fun x hx=>decide_eq_true (F.cb x hx)
end Go.Proofs.YtgmpcbpmnimkoaaGreatDoor

/- The best fit: what is accepted,and what is found,in plain Lean. By an AI agent;nothing here is trusted. -/
namespace Go.Proofs.YtgmpcbpmnimkoaaGreatDoor
open Go.Av

theorem FitIn.sN {items l:List Int} {shifts:Int} {ch:List Int} {den:Int} (F:FitIn items l shifts ch den):shifts.toNat=ch.length∧shifts.toNat+items.length - 1=l.length:=by
  have:=F.cl;have:=F.ll;have:=F.s5;have:=F.i1;omega
theorem FitIn.d0 {items l:List Int} {shifts:Int} {ch:List Int} {den:Int} (F:FitIn items l shifts ch den):(0:Rat)<((den:Int):Rat):=by
  exact_mod_cast (show (0:Int)<den by have:=F.db;omega)
theorem gr_cast {items l:List Int} {shifts:Int} {ch:List Int} {den:Int} (F:FitIn items l shifts ch den) {k:Nat} (hk:k<ch.length) :
    ((grI items l ch den k:Int):Rat)=((den:Int):Rat) * Lin.grad items shifts.toNat (shifts.toNat+items.length - 1) (smR l) (ratF den ch) k:=by
  obtain ⟨h1,h2⟩:=F.sN
  rw [h2,h1]
  unfold grI
  rw [← smI_ag (N:=l.length) (by have:=F.cl;have:=F.ll;omega) F.i1,Lin.smI_cast]
  unfold Lin.grad
  rw [← Lin.sm_mul]
  refine Lin.sm_congr fun n hn=>?_
  have hn2:n<(dfL items l ch den).length:=by rw [dfL_len,F.mlen];exact hn
  rw [getD_at hn2,dfL_get,Rat.intCast_mul,Rat.intCast_sub,Rat.intCast_mul,md_cast F.db.1]
  unfold smR
  grind
theorem ok_best {items l:List Int} {shifts:Int} {ch:List Int} {den:Int} (F:FitIn items l shifts ch den):ckA items l ch den=(0,0) ↔ Lin.best items shifts.toNat (shifts.toNat+items.length - 1) (smR l) (ratF den ch):=by
  have hd:=F.d0
  obtain ⟨h1,h2⟩:=F.sN
  have hx0:∀ k,k<ch.length→(0:Rat)≤ratF den ch k:=fun k hk=>by
    unfold ratF
    refine divnn ?_ hd
    rw [getD_at hk]
    exact_mod_cast (F.cb _ (List.getElem_mem hk)).1
  have key:(∀ k,k<ch.length→ckP items l ch den k=false) ↔ Lin.best items shifts.toNat (shifts.toNat+items.length - 1) (smR l) (ratF den ch):=by
    have hone:∀ k,k<ch.length→(ckP items l ch den k=false ↔ (Lin.grad items shifts.toNat (shifts.toNat+items.length - 1) (smR l) (ratF den ch) k≤0∧ratF den ch k * Lin.grad items shifts.toNat (shifts.toNat+items.length - 1) (smR l) (ratF den ch) k=0)):=fun k hk=>by
      have hg:=gr_cast F hk
      have hx:=hx0 k hk
      have hcb:=(F.cb _ (List.getElem_mem hk)).1
      have hxe:ratF den ch k=((ch.getD k 0:Int):Rat) / ((den:Int):Rat):=rfl
      rw [← getD_at hk] at hcb
      have hck:ckP items l ch den k=(decide (0<grI items l ch den k) || (!decide (grI items l ch den k=0) && decide (0<ch.getD k 0))):=rfl
      have hgp:0<grI items l ch den k ↔ 0<((grI items l ch den k:Int):Rat):=by
        constructor <;> intro h <;> exact_mod_cast h
      have hgz:grI items l ch den k=0 ↔ ((grI items l ch den k:Int):Rat)=0:=by
        constructor <;> intro h <;> exact_mod_cast h
      have hcz:ch.getD k 0=0 ↔ ((ch.getD k 0:Int):Rat)=0:=by
        constructor <;> intro h <;> exact_mod_cast h
      rw [hck]
      generalize Lin.grad items shifts.toNat (shifts.toNat+items.length - 1) (smR l) (ratF den ch) k=g at *
      generalize grI items l ch den k=G at *
      generalize ch.getD k 0=c at *
      generalize ratF den ch k=x at *
      generalize ((den:Int):Rat)=d at *
      generalize ((G:Int):Rat)=G' at *
      generalize ((c:Int):Rat)=c' at *
      have hcd:c'=x * d:=by grind
      constructor
      · intro h
        rw [Bool.or_eq_false_iff,decide_eq_false_iff_not] at h
        obtain ⟨a1,a2⟩:=h
        have hg0:g≤0:=by
          refine Classical.byContradiction fun hn=>a1 (hgp.2 ?_)
          rw [hg];exact Rat.mul_pos hd (Rat.not_le.1 hn)
        refine ⟨hg0,?_⟩
        by_cases hG:G=0
        · have:G'=0:=hgz.1 hG
          grind
        · have hc:¬ 0<c:=by simpa [hG] using a2
          have:c'=0:=hcz.1 (by omega)
          grind
      · rintro ⟨a1,a2⟩
        rw [Bool.or_eq_false_iff,decide_eq_false_iff_not]
        constructor
        · intro h
          have:=hgp.1 h
          have:=Rat.mul_nonneg (Rat.le_of_lt hd) (show 0 ≤ -g by grind)
          grind
        · by_cases hG:G=0
          · simp [hG]
          · have hG':¬ G'=0:=fun h=>hG (hgz.2 h)
            have hg1:¬ g=0:=by grind
            have hx1:x=0:=by grind
            have:c'=0:=by grind
            have:c=0:=hcz.2 this
            simp [this]
    constructor
    · intro h k hk
      have hk':k<ch.length:=by omega
      exact ⟨hx0 k hk',((hone k hk').1 (h k hk')).1,((hone k hk').1 (h k hk')).2⟩
    · intro h k hk
      exact (hone k hk).2 ⟨(h k (by omega)).2.1,(h k (by omega)).2.2⟩
  rw [← key]
  constructor
  · intro h k hk
    refine Classical.byContradiction fun hn=>?_
    have hn':ckP items l ch den k=true:=by simpa using hn
    unfold ckA at h
    cases hf:(List.range ch.length).find? (ckP items l ch den) with
    | none =>
      rw [List.find?_eq_none] at hf
      exact hf k (List.mem_range.2 hk) hn'
    | some j=>rw [hf] at h;simp at h
  · exact fun h=>ckA_none h
theorem same_fit {items l:List Int} {shifts:Int} {ch ch2:List Int} {den:Int} (hd1:1≤den) (hl:ch.length=ch2.length) (F2:FitIn items l shifts ch2 1) (hg:gcF den ch=1)
    (h1:Lin.best items shifts.toNat (shifts.toNat+items.length - 1) (smR l) (ratF den ch)) (h2:Lin.best items shifts.toNat (shifts.toNat+items.length - 1) (smR l) (ratF 1 ch2)):den=1∧ch=ch2:=by
  have hu:=Lin.best_uniq rfl F2.ne h1 h2
  have hd:(0:Rat)<((den:Int):Rat):=by exact_mod_cast (show (0:Int)<den by omega)
  obtain ⟨s3,_⟩:=F2.sN
  have hk:∀ k,k<ch.length→ch.getD k 0=ch2.getD k 0 * den:=fun k hk=>by
    have:=hu k (by omega)
    unfold ratF at this
    have e1:((1:Int):Rat)=1:=rfl
    rw [e1] at this
    have h3:((ch.getD k 0:Int):Rat)=((ch2.getD k 0 * den:Int):Rat):=by
      rw [Rat.intCast_mul]
      generalize ((den:Int):Rat)=d at *
      grind
    exact_mod_cast h3
  have hdv:den.natAbs ∣ gcF den ch:=by
    have hall:∀ (L:List Nat) (a:Nat),den.natAbs ∣ a→(∀ x ∈ L,den.natAbs ∣ x)→den.natAbs ∣ Lin.gcds a L:=by
      intro L
      induction L with
      | nil=>intro a h _;exact h
      | cons x L ih=>intro a h hL;exact ih (Nat.gcd a x) (Nat.dvd_gcd h (hL x (by simp))) fun y hy=>hL y (by simp [hy])
    refine hall _ _ (Nat.dvd_refl _) fun x hx=>?_
    obtain ⟨c,hc,rfl⟩:=List.mem_map.1 hx
    obtain ⟨k,hk',rfl⟩:=List.getElem_of_mem hc
    have:=hk k hk'
    rw [getD_at hk'] at this
    rw [this,Int.natAbs_mul]
    exact Nat.dvd_mul_left _ _
  rw [hg] at hdv
  have hd2:den=1:=by
    have:=Nat.dvd_one.1 hdv
    omega
  refine ⟨hd2,?_⟩
  apply List.ext_getElem
  · omega
  · intro k a1 a2
    have:=hk k a1
    rw [getD_at a1,getD_at a2,hd2,Int.mul_one] at this
    exact this
theorem gcF_1 (ch:List Int):gcF 1 ch=1:=Nat.dvd_one.1 (Lin.gcds_dvd _ _)
theorem sq_opt {items l:List Int} {shifts:Int} {ch ch2:List Int} {den:Int} (F:FitIn items l shifts ch den) (F2:FitIn items l shifts ch2 1)
    (h1:Lin.best items shifts.toNat (shifts.toNat+items.length - 1) (smR l) (ratF den ch)):((sqN (dfL items l ch den):Nat):Int)≤((sqN (dfL items l ch2 1):Nat):Int) * (den * den):=by
  obtain ⟨s1,s2⟩:=F.sN
  obtain ⟨s3,_⟩:=F2.sN
  have hsq:∀ (c:List Int) (d:Int),FitIn items l shifts c d→(((sqN (dfL items l c d):Nat):Int):Rat)=((d:Int):Rat) * ((d:Int):Rat) * Lin.errS items shifts.toNat (shifts.toNat+items.length - 1) (smR l) (ratF d c):=fun c d Fc=>by
    obtain ⟨t1,t2⟩:=Fc.sN
    unfold dfL
    rw [sqN_range,Fc.mlen,Lin.smI_cast,t2,t1]
    unfold Lin.errS
    rw [← Lin.sm_mul]
    refine Lin.sm_congr fun n _=>?_
    rw [Rat.intCast_mul,Rat.intCast_sub,Rat.intCast_mul,md_cast Fc.db.1]
    unfold smR
    grind
  have ho:=Lin.best_opt (y:=ratF 1 ch2) h1 fun k hk=>by
    unfold ratF
    refine divnn ?_ (by decide)
    rw [getD_at (by omega)]
    exact_mod_cast (F2.cb _ (List.getElem_mem (by omega))).1
  have e1:=hsq ch den F
  have e2:=hsq ch2 1 F2
  have hd:=F.d0
  have h3:(((sqN (dfL items l ch den):Nat):Int):Rat)≤((((sqN (dfL items l ch2 1):Nat):Int) * (den * den):Int):Rat):=by
    rw [Rat.intCast_mul,Rat.intCast_mul,e1,e2]
    have e0:((1:Int):Rat)=1:=rfl
    rw [e0]
    generalize Lin.errS items shifts.toNat (shifts.toNat+items.length - 1) (smR l) (ratF den ch)=a at *
    generalize Lin.errS items shifts.toNat (shifts.toNat+items.length - 1) (smR l) (ratF 1 ch2)=b at *
    generalize ((den:Int):Rat)=d at *
    have h4:=Rat.mul_nonneg (Rat.le_of_lt (Rat.mul_pos hd hd)) (show 0≤b - a by grind)
    grind
  exact_mod_cast h3
theorem bits_at (q:Nat→Bool):∀ S,∃ s,s<2 ^ S∧∀ k,s.testBit k=(decide (k<S) && q k)
  | 0=>⟨0,by simp,fun k=>by simp⟩
  | S+1=>by
    obtain ⟨s,h1,h2⟩:=bits_at q S
    have hp:2 ^ (S+1)=2 ^ S+2 ^ S:=by rw [Nat.pow_succ];omega
    cases hq:q S with
    | false =>
      refine ⟨s,by omega,fun k=>?_⟩
      rw [h2]
      by_cases e:k=S
      · subst e;simp [hq]
      · congr 1;exact decide_eq_decide.2 ⟨fun h=>by omega,fun h=>by omega⟩
    | true =>
      refine ⟨2 ^ S ||| s,Nat.or_lt_two_pow (by omega) (by omega),fun k=>?_⟩
      rw [Nat.testBit_or,Nat.testBit_two_pow,h2]
      by_cases e:S=k
      · subst e;simp [hq]
      · rw [decide_eq_false e,Bool.false_or]
        congr 1;exact decide_eq_decide.2 ⟨fun h=>by omega,fun h=>by omega⟩
theorem found_model {items cs:List Int} {shifts:Int} (h:fdE items shifts (mdA items cs)=0) (hc:(cs.length:Int)=shifts) (hb:∀ x ∈ cs,0≤x∧x≤1000) :
    ftA items shifts (mdA items cs)=[.agg [.int .i64 1,.sl (ints cs)],.int .i64 0]:=by
  obtain ⟨F,hS⟩:=fdE_ok h
  have Fo:FitIn items (mdA items cs) shifts cs 1:=⟨F.i1,F.i6,F.ib,F.ne,by have:=F.s5;omega,F.lb,by have:=F.ll;have:=F.s5;have:=F.i1;omega,hc,fun x hx=>by have:=hb x hx;omega,by omega⟩
  have hSl:shifts.toNat=cs.length:=by omega
  have hsm:∀ n,n<shifts.toNat+items.length - 1→smR (mdA items cs) n - Lin.md items shifts.toNat (ratF 1 cs) n=0:=fun n hn=>by
    have hml:=mdA_len items cs
    have e:=md_cast (items:=items) (ch:=cs) (den:=1) (by omega) shifts.toNat n
    have e1:((1:Int):Rat)=1:=rfl
    rw [e1] at e
    unfold smR
    rw [getD_at (by omega),mdA_get,← hSl,e];grind
  have hbest:Lin.best items shifts.toNat (shifts.toNat+items.length - 1) (smR (mdA items cs)) (ratF 1 cs):=fun k hk=>by
    have hg:Lin.grad items shifts.toNat (shifts.toNat+items.length - 1) (smR (mdA items cs)) (ratF 1 cs) k=0:=by
      unfold Lin.grad
      exact Lin.sm_none fun n hn=>by rw [hsm n hn,Rat.zero_mul]
    refine ⟨?_,by rw [hg];exact Rat.le_refl,by rw [hg,Rat.mul_zero]⟩
    unfold ratF
    refine divnn ?_ (by decide)
    rw [getD_at (by omega)]
    exact_mod_cast (hb _ (List.getElem_mem (by omega))).1
  obtain ⟨s,hs,hbit⟩:=bits_at (fun k=>decide (ratF 1 cs k ≠ 0)) shifts.toNat
  have hp:(fun k=>s.testBit k)=fun k=>decide (ratF 1 cs k ≠ 0):=by
    funext k
    rw [hbit]
    by_cases hk:k<shifts.toNat
    · rw [decide_eq_true hk,Bool.true_and]
    · rw [decide_eq_false hk,Bool.false_and]
      have:ratF 1 cs k=0:=by
        unfold ratF
        rw [List.getD_eq_getElem?_getD,List.getElem?_eq_none (by omega)]
        exact zdiv _
      rw [this];rfl
  obtain ⟨y,hy,hx⟩:=x_spread F hs
  rw [hp] at hy hx
  have hf:=Lin.best_found hbest F.ne hy
  have hbs:bsS items (mdA items cs) shifts.toNat s=true:=by
    rw [bs_best F hs]
    have hxe:∀ k,k<shifts.toNat→xS items (mdA items cs) shifts.toNat s k=ratF 1 cs k:=fun k hk=>(hx k hk).trans (hf k hk)
    intro k hk
    have hg:Lin.grad items shifts.toNat (shifts.toNat+items.length - 1) (smR (mdA items cs)) (xS items (mdA items cs) shifts.toNat s) k=Lin.grad items shifts.toNat (shifts.toNat+items.length - 1) (smR (mdA items cs)) (ratF 1 cs) k:=by
      rw [Lin.grad_eq,Lin.grad_eq]
      congr 1
      exact Lin.sm_congr fun m hm=>by rw [hxe m hm]
    rw [hg,hxe k hk]
    exact hbest k hk
  unfold ftA
  rw [if_neg (by omega)]
  cases hfd:fdS items (mdA items cs) shifts.toNat with
  | none =>
    unfold fdS at hfd
    rw [List.find?_eq_none] at hfd
    exact absurd hbs (hfd s (List.mem_range.2 hs))
  | some t =>
    unfold fdS at hfd
    rw [List.find?_range_eq_some] at hfd
    obtain ⟨htb,ht,_⟩:=hfd
    have ht:=List.mem_range.1 ht
    have hb2:=ft_best F ht ((bs_best F ht).1 htb)
    obtain ⟨d1,d2⟩:=vl_pos (F.dpos ht)
    have hone:=gcA_one (P:=ptS items (mdA items cs) shifts.toNat t) d2
    have hd1:0<(dnS items shifts.toNat t).2 / gcA (dnS items shifts.toNat t) (ptS items (mdA items cs) shifts.toNat t):=Nat.div_pos (Nat.le_of_dvd d2 (Lin.gcds_dvd _ _)) (Nat.pos_of_dvd_of_pos (Lin.gcds_dvd _ _) d2)
    obtain ⟨k1,k2⟩:=same_fit (by rw [den0_eq];omega) (by rw [chs0_len,ptS_len];omega) Fo hone hb2 hbest
    have hsq:smallQ (dnS items shifts.toNat t) (ptS items (mdA items cs) shifts.toNat t)=true:=by
      unfold smallQ
      rw [List.all_eq_true]
      intro n hn
      refine decide_eq_true ?_
      have hqe:qtL (dnS items shifts.toNat t) (ptS items (mdA items cs) shifts.toNat t)=(dnS items shifts.toNat t).2 / gcA (dnS items shifts.toNat t) (ptS items (mdA items cs) shifts.toNat t) :: (qtL (dnS items shifts.toNat t) (ptS items (mdA items cs) shifts.toNat t)).drop 1:=rfl
      rw [hqe] at hn
      rcases List.mem_cons.1 hn with e | e
      · rw [den0_eq] at k1;omega
      · have:(n:Int) ∈ chs0 (dnS items shifts.toNat t) (ptS items (mdA items cs) shifts.toNat t):=List.mem_map.2 ⟨n,e,rfl⟩
        rw [k2] at this
        have:=hb _ this
        omega
    show rdA (dnS items shifts.toNat t) (ptS items (mdA items cs) shifts.toNat t)=_
    unfold rdA
    rw [if_pos hsq]
    show [AV.agg [.int .i64 (den0 (dnS items shifts.toNat t) (ptS items (mdA items cs) shifts.toNat t)),.sl (ints (chs0 (dnS items shifts.toNat t) (ptS items (mdA items cs) shifts.toNat t)))],.int .i64 0]=_
    rw [k1,k2]
end Go.Proofs.YtgmpcbpmnimkoaaGreatDoor

/- The fit of samples: contract. By an AI agent;nothing here is trusted. -/
namespace Go.Proofs.YtgmpcbpmnimkoaaGreatDoor
open Go.Av

theorem find_at {p:Nat→Bool} {n s:Nat} (h:s<n) (hp:p s=true) (hn:∀ k,k<s→p k=false):(List.range n).find? p=some s:=by
  rw [List.find?_range_eq_some]
  exact ⟨hp,List.mem_range.2 h,fun j hj=>by rw [hn j hj];rfl⟩
theorem find_no {p:Nat→Bool} {n:Nat} (hn:∀ k,k<n→p k=false):(List.range n).find? p=none:=by
  rw [List.find?_eq_none]
  intro x hx
  rw [hn x (List.mem_range.1 hx)];decide
theorem tk5_0:tk5 0=[]:=by decide
set_option maxHeartbeats 4000000 in
theorem FitOf_s (items:List Int) (shifts:Int) (l:List Int) (hi:items.length<4000000000000000000) (hl:l.length<4000000000000000000) :
    Sound Tryz.prog 14 [tplA items shifts,.sl (ints l)] (.tup (ftA items shifts l)):=by
  refine sound_W f_pulse_FitOf (Nat.le_of_ble_eq_true rfl) ?_
  have hE:=fittedErr_s items shifts l hi hl
  have hmax:=maxLen_big
  unfold tplA at hE
  by_cases hf:fdE items shifts l=0
  case neg =>
    have hr:ftA items shifts l=[.agg [.int .i64 0,.sl []],.int .i64 (fdE items shifts l)]:=by unfold ftA;rw [if_pos hf]
    rw [hr]
    simp only [c_pulse_FitOf,tplA,vcV,vcD,Int.reduceEq,Int.reduceNe,Int.reduceLT,Int.reduceLE,Nat.reduceEqDiff,Nat.reduceAdd,reduceIte,reduceCtorEq,Nat.reduceLT,Nat.reduceLeDiff,eq_self,vcP2,Nat.reduceShiftRight,Nat.reduceMod]
    refine callS_of hE ?_
    simp only [hf,vcV,vcD,Int.reduceEq,Int.reduceNe,Int.reduceLT,Int.reduceLE,Nat.reduceEqDiff,Nat.reduceAdd,reduceIte,reduceCtorEq,Nat.reduceLT,Nat.reduceLeDiff,eq_self,vcP2,Nat.reduceShiftRight,Nat.reduceMod]
  obtain ⟨F,hS⟩:=fdE_ok hf
  have hr:ftA items shifts l=ftR items l shifts.toNat (fdS items l shifts.toNat):=by unfold ftA;rw [if_neg (by omega)]
  rw [hr]
  clear hr
  obtain ⟨S,hSd⟩:∃ S,S=shifts.toNat:=⟨_,rfl⟩
  rw [← hSd] at F hS ⊢
  subst hS
  clear hSd
  have hP:=problemOf_s F.i1 F.i6 F.s5 F.ib F.lb F.ll
  unfold tplA at hP
  have hsh:IntKind.u64.wrap ((1:Int) * 2 ^ min S IntKind.u64.bits)=((2 ^ S:Nat):Int):=by
    have:=shl_u 1 S (by have:=F.s5;omega)
    rw [Nat.one_mul] at this
    have h2:2 ^ S≤2 ^ 5:=Nat.pow_le_pow_right (by omega) F.s5.2
    have h3:(2:Nat) ^ 5=32:=rfl
    rw [Nat.mod_eq_of_lt (by omega)] at this
    exact this
  have h32:2 ^ S≤32:=by
    have h2:2 ^ S≤2 ^ 5:=Nat.pow_le_pow_right (by omega) F.s5.2
    have h3:(2:Nat) ^ 5=32:=rfl
    omega
  simp only [c_pulse_FitOf,tplA,vcV,vcD,Int.reduceEq,Int.reduceNe,Int.reduceLT,Int.reduceLE,Nat.reduceEqDiff,Nat.reduceAdd,reduceIte,reduceCtorEq,Nat.reduceLT,Nat.reduceLeDiff,eq_self,vcP2,Nat.reduceShiftRight,Nat.reduceMod]
  refine callS_of hE ?_
  simp only [hf,vcV,vcD,Int.reduceEq,Int.reduceNe,Int.reduceLT,Int.reduceLE,Nat.reduceEqDiff,Nat.reduceAdd,reduceIte,reduceCtorEq,Nat.reduceLT,Nat.reduceLeDiff,eq_self,vcP2,Nat.reduceShiftRight,Nat.reduceMod]
  refine callS_of hP ?_
  simp only [hsh,vcV,vcD,Int.reduceEq,Int.reduceNe,Int.reduceLT,Int.reduceLE,Nat.reduceEqDiff,Nat.reduceAdd,reduceIte,reduceCtorEq,Nat.reduceLT,Nat.reduceLeDiff,eq_self,vcP2,Nat.reduceShiftRight,Nat.reduceMod]
  refine ⟨by omega,?_⟩
  have hGl:=gmP_len items S S
  have hHl:=rhP_len items l S
  obtain ⟨G,hG⟩:∃ G,G=gmP items S S:=⟨_,rfl⟩
  obtain ⟨H,hH⟩:∃ H,H=rhP items l S:=⟨_,rfl⟩
  refine W_loop (t:=.mk) (α:=PSigma fun s:Nat=>s≤2 ^ S∧∀ k,k<s→bsS items l S k=false) (fun ⟨s,_⟩=>(envOf [(1,.sl (ints l)),(2,.ptr 2 0 0),(4,.ptr 4 0 0),(5,.int .i64 0),(7,.ptr 7 0 0),(25,.int .u64 (2 ^ S:Nat)),(26,.int .u64 s)],stOf [(2,⟨24,2,[.agg [.sl (ints items),.int .i64 S]]⟩),(4,⟨29,2,[.agg [.int .i64 0,.nils]]⟩),(7,⟨151,2,[.agg [.sl (lls (gmP items S S)),.sl (ints (rhP items l S))]]⟩)])) (fun x=>2 ^ S - x.1) ⟨0,Nat.zero_le _,fun k h=>by omega⟩ ?_ (fun ⟨s,hsS,hno⟩=>?_)
  · refine weakX [] (of_decide_eq_true rfl) (of_decide_eq_true rfl) ?_
    (simp only [vcW,vcV,vcD,Int.reduceEq,Int.reduceNe,Int.reduceLT,Int.reduceLE,Nat.reduceEqDiff,Nat.reduceAdd,reduceIte,reduceCtorEq,Nat.reduceLT,Nat.reduceLeDiff,eq_self,vcP2,Nat.reduceShiftRight,Nat.reduceMod])
    repeat' (with_reducible refine And.intro ?_ ?_)
    try any_goals (with_reducible exact RnB.wide)
    (repeat' first | exact trivial | (with_reducible first | exact RnB.fxB (ints_fxB _) | rfl | refine And.intro ?_ ?_) | (with_reducible (first | refine RnB.bb ?_ | refine RnB.nb ?_);simp only [vcW,vcV,vcD,Int.reduceEq,Int.reduceNe,Int.reduceLT,Int.reduceLE,Nat.reduceEqDiff,Nat.reduceAdd,reduceIte,reduceCtorEq,Nat.reduceLT,Nat.reduceLeDiff,eq_self,vcP2,Nat.reduceShiftRight,Nat.reduceMod]) | (with_reducible first | refine RnB.ii ?_ | refine RnB.app ?_) | (with_reducible refine RnB.fxB ?_;simp only [vcW,vcV,vcD,Int.reduceEq,Int.reduceNe,Int.reduceLT,Int.reduceLE,Nat.reduceEqDiff,Nat.reduceAdd,reduceIte,reduceCtorEq,Nat.reduceLT,Nat.reduceLeDiff,eq_self,vcP2,Nat.reduceShiftRight,Nat.reduceMod]) | omega)
    all_goals trace_state
  · dsimp only at hsS hno ⊢
    by_cases h':s<2 ^ S
    · have hc1:(s:Int)<(2 ^ S:Nat):=by omega
      have hSol:=solved_s (F.sl h')
      have hBst:=isBest_s (F.bd h')
      obtain ⟨d1,d2⟩:=vl_pos (F.dpos h')
      have hDb:=F.db h'
      have hPb:=F.pb h'
      have hPl:=ptS_len items l S s
      have hRed:=reduced_s d1 d2 (by omega) (fun p hp=>by have:=hPb p hp;omega) (by rw [hPl];exact F.s5.2)
      have hDe:dnS items S s=dtP (tk5 s).length (sqP (gmP items S S) (tk5 s) (tk5 s).length):=rfl
      have hPe:ptS items l S s=slP (gmP items S S) (rhP items l S) (tk5 s) (tk5 s).length:=rfl
      have hBe:bsS items l S s=isB (dnS items S s) (ptS items l S s) (gmP items S S) (rhP items l S):=rfl
      rw [← hDe,← hPe] at hSol
      rw [← hBe] at hBst
      simp only [hc1,vcV,vcD,Int.reduceEq,Int.reduceNe,Int.reduceLT,Int.reduceLE,Nat.reduceEqDiff,Nat.reduceAdd,reduceIte,reduceCtorEq,Nat.reduceLT,Nat.reduceLeDiff,eq_self,vcP2,Nat.reduceShiftRight,Nat.reduceMod]
      refine W_loop (t:=.mk) (α:=PSigma fun q:Nat × List Nat=>q.1≤s∧q.2 ++ tk5 q.1=tk5 s) (fun ⟨q,_⟩=>(envOf [(1,.sl (ints l)),(2,.ptr 2 0 0),(4,.ptr 4 0 0),(5,.int .i64 0),(7,.ptr 7 0 0),(9,.buf 101 q.2.length),(10,.int .u64 q.1),(25,.int .u64 (2 ^ S:Nat)),(26,.int .u64 s)],stOf [(2,⟨24,2,[.agg [.sl (ints items),.int .i64 S]]⟩),(4,⟨29,2,[.agg [.int .i64 0,.nils]]⟩),(7,⟨151,2,[.agg [.sl (lls (gmP items S S)),.sl (ints (rhP items l S))]]⟩),(101,⟨3,1,ints (ntA q.2)⟩)])) (fun x=>x.1.1) ⟨(s,[]),Nat.le_refl _,rfl⟩ ?_ (fun ⟨⟨r,pre⟩,hrs,hpre⟩=>?_)
      · have z:ints (ntA [])=[]:=rfl
        refine weakX [(101,none)] (of_decide_eq_true rfl) (of_decide_eq_true rfl) ?_
        (simp only [z,vcW,vcV,vcD,Int.reduceEq,Int.reduceNe,Int.reduceLT,Int.reduceLE,Nat.reduceEqDiff,Nat.reduceAdd,reduceIte,reduceCtorEq,Nat.reduceLT,Nat.reduceLeDiff,eq_self,vcP2,Nat.reduceShiftRight,Nat.reduceMod])
        repeat' (with_reducible refine And.intro ?_ ?_)
        try any_goals (with_reducible exact RnB.wide)
        (repeat' first | exact trivial | (with_reducible first | exact RnB.fxB (ints_fxB _) | rfl | refine And.intro ?_ ?_) | (with_reducible (first | refine RnB.bb ?_ | refine RnB.nb ?_);simp only [vcW,vcV,vcD,Int.reduceEq,Int.reduceNe,Int.reduceLT,Int.reduceLE,Nat.reduceEqDiff,Nat.reduceAdd,reduceIte,reduceCtorEq,Nat.reduceLT,Nat.reduceLeDiff,eq_self,vcP2,Nat.reduceShiftRight,Nat.reduceMod]) | (with_reducible first | refine RnB.ii ?_ | refine RnB.app ?_) | (with_reducible refine RnB.fxB ?_;simp only [vcW,vcV,vcD,Int.reduceEq,Int.reduceNe,Int.reduceLT,Int.reduceLE,Nat.reduceEqDiff,Nat.reduceAdd,reduceIte,reduceCtorEq,Nat.reduceLT,Nat.reduceLeDiff,eq_self,vcP2,Nat.reduceShiftRight,Nat.reduceMod]) | omega)
        all_goals trace_state
      · dsimp only at hrs hpre ⊢
        have hpl:pre.length≤5:=by
          have h1:=tk5_len s
          rw [← hpre,List.length_append] at h1;omega
        by_cases r0:r=0
        · subst r0
          have hz:((0:Nat):Int)=0:=rfl
          rw [tk5_0,List.append_nil] at hpre
          subst hpre
          simp only [hz,vcV,vcD,Int.reduceEq,Int.reduceNe,Int.reduceLT,Int.reduceLE,Nat.reduceEqDiff,Nat.reduceAdd,reduceIte,reduceCtorEq,Nat.reduceLT,Nat.reduceLeDiff,eq_self,vcP2,Nat.reduceShiftRight,Nat.reduceMod]
          rw [borB_good _ _ _ _ _ (by rw [ints_length,ntA_len]) (ints_fx _)]
          obtain ⟨D,hDd⟩:∃ D,D=dnS items S s:=⟨_,rfl⟩
          obtain ⟨P,hPd⟩:∃ P,P=ptS items l S s:=⟨_,rfl⟩
          have hftR:ftR items l S (some s)=rdA D P:=by rw [hDd,hPd];rfl
          rw [← hDd,← hPd] at hSol hBst hRed
          refine callS_of hSol ?_
          clear hSol hDe hPe hBe hDd hPd
          unfold wdA at hBst hRed ⊢
          simp only [vcX,ntA_len,vcV,vcD,Int.reduceEq,Int.reduceNe,Int.reduceLT,Int.reduceLE,Nat.reduceEqDiff,Nat.reduceAdd,reduceIte,reduceCtorEq,Nat.reduceLT,Nat.reduceLeDiff,eq_self,vcP2,Nat.reduceShiftRight,Nat.reduceMod]
          refine callS_of hBst ?_
          cases hb:bsS items l S s with
          | true =>
            have hfd:fdS items l S=some s:=find_at h' hb hno
            rw [hfd,hftR]
            unfold rdA at hRed ⊢
            split at hRed
            · rename_i g
              rw [if_pos g]
              simp only [vcX,vcV,vcD,Int.reduceEq,Int.reduceNe,Int.reduceLT,Int.reduceLE,Nat.reduceEqDiff,Nat.reduceAdd,reduceIte,reduceCtorEq,Nat.reduceLT,Nat.reduceLeDiff,eq_self,vcP2,Nat.reduceShiftRight,Nat.reduceMod]
              refine callS_of hRed ?_
              simp only [vcX,vcV,vcD,Int.reduceEq,Int.reduceNe,Int.reduceLT,Int.reduceLE,Nat.reduceEqDiff,Nat.reduceAdd,reduceIte,reduceCtorEq,Nat.reduceLT,Nat.reduceLeDiff,eq_self,vcP2,Nat.reduceShiftRight,Nat.reduceMod]
            · rename_i g
              rw [if_neg g]
              simp only [vcX,vcV,vcD,Int.reduceEq,Int.reduceNe,Int.reduceLT,Int.reduceLE,Nat.reduceEqDiff,Nat.reduceAdd,reduceIte,reduceCtorEq,Nat.reduceLT,Nat.reduceLeDiff,eq_self,vcP2,Nat.reduceShiftRight,Nat.reduceMod]
              refine callS_of hRed ?_
              simp only [vcX,vcV,vcD,Int.reduceEq,Int.reduceNe,Int.reduceLT,Int.reduceLE,Nat.reduceEqDiff,Nat.reduceAdd,reduceIte,reduceCtorEq,Nat.reduceLT,Nat.reduceLeDiff,eq_self,vcP2,Nat.reduceShiftRight,Nat.reduceMod]
          | false =>
            simp only [vcV,vcD,Int.reduceEq,Int.reduceNe,Int.reduceLT,Int.reduceLE,Nat.reduceEqDiff,Nat.reduceAdd,reduceIte,reduceCtorEq,Nat.reduceLT,Nat.reduceLeDiff,eq_self,vcP2,Nat.reduceShiftRight,Nat.reduceMod]
            refine ⟨⟨s+1,by omega,fun k hk=>?_⟩,by simp only;omega,?_⟩
            · by_cases e:k=s
              · subst e;exact hb
              · exact hno k (by omega)
            · refine weakX [] (of_decide_eq_true rfl) (of_decide_eq_true rfl) ?_
              (simp only [vcX,vcW,vcV,vcD,Int.reduceEq,Int.reduceNe,Int.reduceLT,Int.reduceLE,Nat.reduceEqDiff,Nat.reduceAdd,reduceIte,reduceCtorEq,Nat.reduceLT,Nat.reduceLeDiff,eq_self,vcP2,Nat.reduceShiftRight,Nat.reduceMod])
              repeat' (with_reducible refine And.intro ?_ ?_)
              try any_goals (with_reducible exact RnB.wide)
              (repeat' first | exact trivial | (with_reducible first | exact RnB.fxB (ints_fxB _) | rfl | refine And.intro ?_ ?_) | (with_reducible (first | refine RnB.bb ?_ | refine RnB.nb ?_);simp only [vcW,vcV,vcD,Int.reduceEq,Int.reduceNe,Int.reduceLT,Int.reduceLE,Nat.reduceEqDiff,Nat.reduceAdd,reduceIte,reduceCtorEq,Nat.reduceLT,Nat.reduceLeDiff,eq_self,vcP2,Nat.reduceShiftRight,Nat.reduceMod]) | (with_reducible first | refine RnB.ii ?_ | refine RnB.app ?_) | (with_reducible refine RnB.fxB ?_;simp only [vcW,vcV,vcD,Int.reduceEq,Int.reduceNe,Int.reduceLT,Int.reduceLE,Nat.reduceEqDiff,Nat.reduceAdd,reduceIte,reduceCtorEq,Nat.reduceLT,Nat.reduceLeDiff,eq_self,vcP2,Nat.reduceShiftRight,Nat.reduceMod]) | omega)
              all_goals exact add_u s 1 (by omega)
        · have r0':¬ (r:Int)=0:=by omega
          obtain ⟨k1,k2⟩:=tk5_step (r:=r) (by omega) (by omega)
          have hZ:=zeros_s (r:=r) (by omega) (by omega)
          have hsb:IntKind.u64.wrap ((r:Int) - 1)=((r - 1:Nat):Int):=by
            have:=sub_u r 1 (by omega) (by omega);exact this
          have han:=and_g r (r - 1) (by omega) (by omega)
          obtain ⟨z,hzd⟩:∃ z,z=(tk5 r).getD 0 0:=⟨_,rfl⟩
          rw [← hzd] at k1 hZ
          have hsn:=ntA_snoc pre z
          simp only [r0',ints_length,ntA_len,vcV,vcD,Int.reduceEq,Int.reduceNe,Int.reduceLT,Int.reduceLE,Nat.reduceEqDiff,Nat.reduceAdd,reduceIte,reduceCtorEq,Nat.reduceLT,Nat.reduceLeDiff,eq_self,vcP2,Nat.reduceShiftRight,Nat.reduceMod]
          refine callS_of hZ ?_
          simp only [ints_length,ntA_len,hsb,han,vcV,vcD,Int.reduceEq,Int.reduceNe,Int.reduceLT,Int.reduceLE,Nat.reduceEqDiff,Nat.reduceAdd,reduceIte,reduceCtorEq,Nat.reduceLT,Nat.reduceLeDiff,eq_self,vcP2,Nat.reduceShiftRight,Nat.reduceMod]
          refine ⟨⟨by omega,by omega⟩,⟨(r &&& (r - 1),pre ++ [z]),by simp only;omega,by simp only;rw [List.append_assoc];rw [k1] at hpre;exact hpre⟩,k2,?_⟩
          refine weakX [(101,some 40)] (of_decide_eq_true rfl) (of_decide_eq_true rfl) ?_
          (simp only [hsn,List.length_append,vcW,vcV,vcD,Int.reduceEq,Int.reduceNe,Int.reduceLT,Int.reduceLE,Nat.reduceEqDiff,Nat.reduceAdd,reduceIte,reduceCtorEq,Nat.reduceLT,Nat.reduceLeDiff,eq_self,vcP2,Nat.reduceShiftRight,Nat.reduceMod])
          repeat' (with_reducible refine And.intro ?_ ?_)
          try any_goals (with_reducible exact RnB.wide)
          (repeat' first | exact trivial | (with_reducible first | exact RnB.fxB (ints_fxB _) | rfl | refine And.intro ?_ ?_) | (with_reducible (first | refine RnB.bb ?_ | refine RnB.nb ?_);simp only [vcW,vcV,vcD,Int.reduceEq,Int.reduceNe,Int.reduceLT,Int.reduceLE,Nat.reduceEqDiff,Nat.reduceAdd,reduceIte,reduceCtorEq,Nat.reduceLT,Nat.reduceLeDiff,eq_self,vcP2,Nat.reduceShiftRight,Nat.reduceMod]) | (with_reducible first | refine RnB.ii ?_ | refine RnB.app ?_) | (with_reducible refine RnB.fxB ?_;simp only [vcW,vcV,vcD,Int.reduceEq,Int.reduceNe,Int.reduceLT,Int.reduceLE,Nat.reduceEqDiff,Nat.reduceAdd,reduceIte,reduceCtorEq,Nat.reduceLT,Nat.reduceLeDiff,eq_self,vcP2,Nat.reduceShiftRight,Nat.reduceMod]) | omega)
          all_goals trace_state
    · have hil:s=2 ^ S:=by omega
      subst hil
      have hc1:¬ ((2 ^ S:Nat):Int)<(2 ^ S:Nat):=by omega
      have hfd:fdS items l S=none:=find_no hno
      rw [hfd,ftR]
      simp only [hc1,vcV,vcD,Int.reduceEq,Int.reduceNe,Int.reduceLT,Int.reduceLE,Nat.reduceEqDiff,Nat.reduceAdd,reduceIte,reduceCtorEq,Nat.reduceLT,Nat.reduceLeDiff,eq_self,vcP2,Nat.reduceShiftRight,Nat.reduceMod]
end Go.Proofs.YtgmpcbpmnimkoaaGreatDoor

/- Contracts: the model of whole charges;which charges are whole;equal fits. By an AI agent;nothing here is trusted. -/
namespace Go.Proofs.YtgmpcbpmnimkoaaGreatDoor
open Go.Av

def whl (n:Int):Bool:=decide (0≤n∧n≤1000)
theorem Modelled_1_s (n:Int):Sound Tryz.prog 115 [.int .i64 n] (.bool (!whl n)):=by
  refine sound_W f_pulse_Modelled_1 (Nat.le_of_ble_eq_true rfl) ?_
  simp only [c_pulse_Modelled_1,vcV,vcD,Int.reduceEq,Int.reduceNe,Int.reduceLT,Int.reduceLE,Nat.reduceEqDiff,Nat.reduceAdd,reduceIte,reduceCtorEq,Nat.reduceLT,Nat.reduceLeDiff,eq_self,vcP2,Nat.reduceShiftRight,Nat.reduceMod]
  refine callS_of (within_s _ _ _) ?_
  simp only [whl,vcV,vcD,Int.reduceEq,Int.reduceNe,Int.reduceLT,Int.reduceLE,Nat.reduceEqDiff,Nat.reduceAdd,reduceIte,reduceCtorEq,Nat.reduceLT,Nat.reduceLeDiff,eq_self,vcP2,Nat.reduceShiftRight,Nat.reduceMod]
def moE (items:List Int) (shifts:Int) (ch:List Int):Int:=if teE items shifts ≠ 0 then teE items shifts else if (ch.length:Int)=shifts then (if ch.all whl then 0 else 2) else 10
def moO (items:List Int) (shifts:Int) (ch:List Int):List Int:=if moE items shifts ch=0 then mdA items ch else []
theorem moE_ok {items ch:List Int} {shifts:Int} (h:moE items shifts ch=0):teE items shifts=0∧(ch.length:Int)=shifts∧∀ x ∈ ch,0≤x∧x≤1000:=by
  unfold moE at h
  split at h
  · rename_i g;exact absurd h g
  · rename_i g
    split at h
    · rename_i g2
      split at h
      · rename_i g3
        exact ⟨by omega,g2,fun x hx=>of_decide_eq_true (List.all_eq_true.1 g3 x hx)⟩
      · cases h
    · cases h
theorem Modelled_s (items:List Int) (shifts:Int) (ch:List Int) (hi:items.length<4000000000000000000) (hl:ch.length<4000000000000000000) :
    Sound Tryz.prog 31 [tplA items shifts,.sl (ints ch)] (.tup [.sl (ints (moO items shifts ch)),.int .i64 (moE items shifts ch)]):=by
  refine sound_W f_pulse_Modelled (Nat.le_of_ble_eq_true rfl) ?_
  have hT:=templateErr_s items shifts hi
  unfold tplA at hT
  have hall:(!ch.any fun n=>!whl n)=ch.all whl:=by rw [List.not_any_eq_all_not];simp only [Bool.not_not]
  have hv:(if teE items shifts ≠ 0 then teE items shifts else if (if decide ((ch.length:Int)=shifts)=true then (0:Int) else 10) ≠ 0 then (if decide ((ch.length:Int)=shifts)=true then (0:Int) else 10) else if ch.all whl=true then (0:Int) else 2)=moE items shifts ch:=by
    unfold moE
    by_cases h1:teE items shifts=0
    · rw [if_neg (by omega),if_neg (show ¬ teE items shifts ≠ 0 by omega)]
      by_cases h2:(ch.length:Int)=shifts
      · simp [h2]
      · simp [h2]
    · rw [if_pos h1,if_pos h1]
  have hF:=first3_s (teE items shifts) (if decide ((ch.length:Int)=shifts)=true then (0:Int) else 10) (if ch.all whl=true then (0:Int) else 2)
  rw [hv] at hF
  simp only [c_pulse_Modelled,tplA,vcV,vcD,Int.reduceEq,Int.reduceNe,Int.reduceLT,Int.reduceLE,Nat.reduceEqDiff,Nat.reduceAdd,reduceIte,reduceCtorEq,Nat.reduceLT,Nat.reduceLeDiff,eq_self,vcP2,Nat.reduceShiftRight,Nat.reduceMod]
  refine callS_of (contFunc_int_s ch _ [] (fun n=>!whl n) hl (by simp) (fun x _=>Modelled_1_s x)) ?_
  simp only [vcV,vcD,Int.reduceEq,Int.reduceNe,Int.reduceLT,Int.reduceLE,Nat.reduceEqDiff,Nat.reduceAdd,reduceIte,reduceCtorEq,Nat.reduceLT,Nat.reduceLeDiff,eq_self,vcP2,Nat.reduceShiftRight,Nat.reduceMod]
  refine callS_of hT ?_
  simp only [vcV,vcD,Int.reduceEq,Int.reduceNe,Int.reduceLT,Int.reduceLE,Nat.reduceEqDiff,Nat.reduceAdd,reduceIte,reduceCtorEq,Nat.reduceLT,Nat.reduceLeDiff,eq_self,vcP2,Nat.reduceShiftRight,Nat.reduceMod]
  refine callS_of (unless_s _ _) ?_
  simp only [hall,vcV,vcD,Int.reduceEq,Int.reduceNe,Int.reduceLT,Int.reduceLE,Nat.reduceEqDiff,Nat.reduceAdd,reduceIte,reduceCtorEq,Nat.reduceLT,Nat.reduceLeDiff,eq_self,vcP2,Nat.reduceShiftRight,Nat.reduceMod]
  refine callS_of (unless_s _ _) ?_
  simp only [hall,vcV,vcD,Int.reduceEq,Int.reduceNe,Int.reduceLT,Int.reduceLE,Nat.reduceEqDiff,Nat.reduceAdd,reduceIte,reduceCtorEq,Nat.reduceLT,Nat.reduceLeDiff,eq_self,vcP2,Nat.reduceShiftRight,Nat.reduceMod]
  refine callS_of hF ?_
  by_cases hm:moE items shifts ch=0
  case neg =>
    have ho:moO items shifts ch=[]:=by unfold moO;rw [if_neg hm]
    have z:ints []=[]:=rfl
    rw [ho]
    simp only [hm,z,vcV,vcD,Int.reduceEq,Int.reduceNe,Int.reduceLT,Int.reduceLE,Nat.reduceEqDiff,Nat.reduceAdd,reduceIte,reduceCtorEq,Nat.reduceLT,Nat.reduceLeDiff,eq_self,vcP2,Nat.reduceShiftRight,Nat.reduceMod]
    intro _ k hk;simp [refsL,refs,upd] at hk;subst hk;simp [upd]
  have ho:moO items shifts ch=mdA items ch:=by unfold moO;rw [if_pos hm]
  obtain ⟨t1,t2,t3⟩:=moE_ok hm
  obtain ⟨⟨a1,a2⟩,a3,_,a5⟩:=teE_ok t1
  have hM:=model_s (items:=items) (ch:=ch) shifts (C:=1000) a1 a2 (by omega) (by omega) a3 (fun x hx=>by have:=t3 x hx;omega)
  unfold tplA at hM
  rw [ho]
  simp only [hm,vcV,vcD,Int.reduceEq,Int.reduceNe,Int.reduceLT,Int.reduceLE,Nat.reduceEqDiff,Nat.reduceAdd,reduceIte,reduceCtorEq,Nat.reduceLT,Nat.reduceLeDiff,eq_self,vcP2,Nat.reduceShiftRight,Nat.reduceMod]
  refine ⟨by intro _ k hk;simp [refsL,refs,upd] at hk;subst hk;simp [upd],?_⟩
  refine callS_own hM rfl ?_
  simp only [ownS_ints,hm,vcV,vcD,Int.reduceEq,Int.reduceNe,Int.reduceLT,Int.reduceLE,Nat.reduceEqDiff,Nat.reduceAdd,reduceIte,reduceCtorEq,Nat.reduceLT,Nat.reduceLeDiff,eq_self,vcP2,Nat.reduceShiftRight,Nat.reduceMod]
  rw [borB_good _ _ _ _ _ (by rw [ints_length]) (ints_fx _)]
def crE (shifts:Int) (ch:List Int):Int:=if (ch.length:Int)=shifts then (if ch.all whl then 0 else 2) else 10
theorem ChargesErr_s (items:List Int) (shifts:Int) (ch:List Int) (h5:shifts≤5):Sound Tryz.prog 33 [tplA items shifts,.sl (ints ch)] (.int .i64 (crE shifts ch)):=by
  refine sound_W f_ref02_ChargesErr (Nat.le_of_ble_eq_true rfl) ?_
  by_cases h1:(ch.length:Int)=shifts
  case neg =>
    have he:crE shifts ch=10:=by unfold crE;rw [if_neg h1]
    rw [he]
    simp only [c_ref02_ChargesErr,tplA,h1,vcV,vcD,Int.reduceEq,Int.reduceNe,Int.reduceLT,Int.reduceLE,Nat.reduceEqDiff,Nat.reduceAdd,reduceIte,reduceCtorEq,Nat.reduceLT,Nat.reduceLeDiff,eq_self,vcP2,Nat.reduceShiftRight,Nat.reduceMod]
  have hcr:crE shifts ch=if ch.all whl then 0 else 2:=by unfold crE;rw [if_pos h1]
  rw [hcr]
  subst h1
  simp only [c_ref02_ChargesErr,tplA,vcV,vcD,Int.reduceEq,Int.reduceNe,Int.reduceLT,Int.reduceLE,Nat.reduceEqDiff,Nat.reduceAdd,reduceIte,reduceCtorEq,Nat.reduceLT,Nat.reduceLeDiff,eq_self,vcP2,Nat.reduceShiftRight,Nat.reduceMod]
  refine W_loop (t:=.mk) (α:=PSigma fun i:Nat=>i≤ch.length∧(ch.take i).all whl=true) (fun ⟨i,_⟩=>(envOf [(1,.sl (ints ch)),(5,.int .i64 i)],stOf [])) (fun p=>ch.length - p.1) ⟨0,Nat.zero_le _,rfl⟩ ?_ (fun ⟨i,hi,hn⟩=>?_)
  · refine weakX [] (of_decide_eq_true rfl) (of_decide_eq_true rfl) ?_
    (simp only [vcW,vcV,vcD,Int.reduceEq,Int.reduceNe,Int.reduceLT,Int.reduceLE,Nat.reduceEqDiff,Nat.reduceAdd,reduceIte,reduceCtorEq,Nat.reduceLT,Nat.reduceLeDiff,eq_self,vcP2,Nat.reduceShiftRight,Nat.reduceMod])
    (repeat' first | exact trivial | (with_reducible first | exact RnB.fxB (ints_fxB _) | rfl | refine And.intro ?_ ?_) | (with_reducible (first | refine RnB.bb ?_ | refine RnB.nb ?_);simp only [vcW,vcV,vcD,Int.reduceEq,Int.reduceNe,Int.reduceLT,Int.reduceLE,Nat.reduceEqDiff,Nat.reduceAdd,reduceIte,reduceCtorEq,Nat.reduceLT,Nat.reduceLeDiff,eq_self,vcP2,Nat.reduceShiftRight,Nat.reduceMod]) | (with_reducible first | refine RnB.ii ?_ | refine RnB.app ?_) | (with_reducible refine RnB.fxB ?_;simp only [vcW,vcV,vcD,Int.reduceEq,Int.reduceNe,Int.reduceLT,Int.reduceLE,Nat.reduceEqDiff,Nat.reduceAdd,reduceIte,reduceCtorEq,Nat.reduceLT,Nat.reduceLeDiff,eq_self,vcP2,Nat.reduceShiftRight,Nat.reduceMod]) | omega)
  · dsimp only at hi hn ⊢
    by_cases h':i<ch.length
    · have h3:(i:Int)<ch.length:=by omega
      have ht:(ch.take (i+1)).all whl=((ch.take i).all whl && whl ch[i]):=by rw [List.take_succ_eq_append_getElem h',List.all_append];simp
      simp only [h3,ints_get ch i h',vcV,vcD,Int.reduceEq,Int.reduceNe,Int.reduceLT,Int.reduceLE,Nat.reduceEqDiff,Nat.reduceAdd,reduceIte,reduceCtorEq,Nat.reduceLT,Nat.reduceLeDiff,eq_self,vcP2,Nat.reduceShiftRight,Nat.reduceMod]
      (repeat (with_reducible refine And.intro ?_ ?_;focus (first | omega | (unfold I64;omega))))
      refine callS_of (Within_s _ _ _) ?_
      by_cases hw:0≤ch[i]∧ch[i]≤1000
      · have hwt:whl ch[i]=true:=decide_eq_true hw
        simp only [hw,vcV,vcD,Int.reduceEq,Int.reduceNe,Int.reduceLT,Int.reduceLE,Nat.reduceEqDiff,Nat.reduceAdd,reduceIte,reduceCtorEq,Nat.reduceLT,Nat.reduceLeDiff,eq_self,vcP2,Nat.reduceShiftRight,Nat.reduceMod]
        (repeat (with_reducible refine And.intro ?_ ?_;focus (first | omega | (unfold I64;omega))))
        refine ⟨⟨i+1,h',by rw [ht,hn,hwt];rfl⟩,by simp only;omega,?_⟩
        refine weakX [] (of_decide_eq_true rfl) (of_decide_eq_true rfl) ?_
        (simp only [vcW,vcV,vcD,Int.reduceEq,Int.reduceNe,Int.reduceLT,Int.reduceLE,Nat.reduceEqDiff,Nat.reduceAdd,reduceIte,reduceCtorEq,Nat.reduceLT,Nat.reduceLeDiff,eq_self,vcP2,Nat.reduceShiftRight,Nat.reduceMod])
        (repeat' first | exact trivial | (with_reducible first | exact RnB.fxB (ints_fxB _) | rfl | refine And.intro ?_ ?_) | (with_reducible (first | refine RnB.bb ?_ | refine RnB.nb ?_);simp only [vcW,vcV,vcD,Int.reduceEq,Int.reduceNe,Int.reduceLT,Int.reduceLE,Nat.reduceEqDiff,Nat.reduceAdd,reduceIte,reduceCtorEq,Nat.reduceLT,Nat.reduceLeDiff,eq_self,vcP2,Nat.reduceShiftRight,Nat.reduceMod]) | (with_reducible first | refine RnB.ii ?_ | refine RnB.app ?_) | (with_reducible refine RnB.fxB ?_;simp only [vcW,vcV,vcD,Int.reduceEq,Int.reduceNe,Int.reduceLT,Int.reduceLE,Nat.reduceEqDiff,Nat.reduceAdd,reduceIte,reduceCtorEq,Nat.reduceLT,Nat.reduceLeDiff,eq_self,vcP2,Nat.reduceShiftRight,Nat.reduceMod]) | omega)
      · have hwt:whl ch[i]=false:=decide_eq_false hw
        have hf:ch.all whl=false:=by
          rw [List.all_eq_false];exact ⟨ch[i],List.getElem_mem h',by rw [hwt];decide⟩
        simp only [hw,hf,vcV,vcD,Int.reduceEq,Int.reduceNe,Int.reduceLT,Int.reduceLE,Nat.reduceEqDiff,Nat.reduceAdd,reduceIte,reduceCtorEq,Nat.reduceLT,Nat.reduceLeDiff,eq_self,vcP2,Nat.reduceShiftRight,Nat.reduceMod]
    · have h3:¬ (i:Int)<ch.length:=by omega
      have hil:i=ch.length:=by omega
      subst hil
      rw [List.take_length] at hn
      simp only [h3,hn,vcV,vcD,Int.reduceEq,Int.reduceNe,Int.reduceLT,Int.reduceLE,Nat.reduceEqDiff,Nat.reduceAdd,reduceIte,reduceCtorEq,Nat.reduceLT,Nat.reduceLeDiff,eq_self,vcP2,Nat.reduceShiftRight,Nat.reduceMod]
theorem SameFit_s (d1 d2:Int) (c1 c2:List Int) (h:c1.length≤1000000000):Sound Tryz.prog 35 [fitA d1 c1,fitA d2 c2] (.bool (decide (d1=d2∧c1=c2))):=by
  refine sound_W f_ref02_SameFit (Nat.le_of_ble_eq_true rfl) ?_
  have hI:=Ints_s c1 c2 h
  by_cases e:d1=d2
  · subst e
    have hr:decide (d1=d1∧c1=c2)=decide (c1=c2):=by simp
    rw [hr]
    simp only [c_ref02_SameFit,fitA,vcV,vcD,Int.reduceEq,Int.reduceNe,Int.reduceLT,Int.reduceLE,Nat.reduceEqDiff,Nat.reduceAdd,reduceIte,reduceCtorEq,Nat.reduceLT,Nat.reduceLeDiff,eq_self,vcP2,Nat.reduceShiftRight,Nat.reduceMod]
    refine callS_of hI ?_
    simp only [vcV,vcD,Int.reduceEq,Int.reduceNe,Int.reduceLT,Int.reduceLE,Nat.reduceEqDiff,Nat.reduceAdd,reduceIte,reduceCtorEq,Nat.reduceLT,Nat.reduceLeDiff,eq_self,vcP2,Nat.reduceShiftRight,Nat.reduceMod]
  · have hr:decide (d1=d2∧c1=c2)=false:=by simp [e]
    rw [hr]
    simp only [c_ref02_SameFit,fitA,e,vcV,vcD,Int.reduceEq,Int.reduceNe,Int.reduceLT,Int.reduceLE,Nat.reduceEqDiff,Nat.reduceAdd,reduceIte,reduceCtorEq,Nat.reduceLT,Nat.reduceLeDiff,eq_self,vcP2,Nat.reduceShiftRight,Nat.reduceMod]
end Go.Proofs.YtgmpcbpmnimkoaaGreatDoor

/- Contracts of the reference: squares,numerals of wide numbers,what is kept. By an AI agent;nothing here is trusted. -/
namespace Go.Proofs.YtgmpcbpmnimkoaaGreatDoor
open Go.Av

theorem Squares_s {items:List Int} {shifts:Int} {l:List Int} {den:Int} {ch:List Int} (F:FitIn items l shifts ch den) :
    Sound Tryz.prog 38 [tplA items shifts,.sl (ints l),fitA den ch] (wideA ((sqN (dfL items l ch den):Nat):Int)):=by
  refine sound_W f_ref02_Squares (Nat.le_of_ble_eq_true rfl) ?_
  have hD:=Off_s F
  have hb:=F.dfb
  have hlen:(dfL items l ch den).length≤10:=by rw [dfL_len,F.mlen];exact F.l10
  generalize dfL items l ch den=D at *
  have hle:∀ i:Nat,sqN (D.take i)≤1102500000000000000000000000000000:=fun i=>by
    have:=sqN_bd (l:=D.take i) fun x hx=>hb x (List.mem_of_mem_take hx)
    have h2:(D.take i).length≤10:=by simp;omega
    omega
  unfold tplA fitA at hD
  have hW0:=WideOf_s 0 (by unfold I64;omega)
  simp only [c_ref02_Squares,tplA,fitA,vcV,vcD,Int.reduceEq,Int.reduceNe,Int.reduceLT,Int.reduceLE,Nat.reduceEqDiff,Nat.reduceAdd,reduceIte,reduceCtorEq,Nat.reduceLT,Nat.reduceLeDiff,eq_self,vcP2,Nat.reduceShiftRight,Nat.reduceMod]
  refine callS_of hW0 ?_
  rw [wide_hr 0]
  simp only [vcV,vcD,Int.reduceEq,Int.reduceNe,Int.reduceLT,Int.reduceLE,Nat.reduceEqDiff,Nat.reduceAdd,reduceIte,reduceCtorEq,Nat.reduceLT,Nat.reduceLeDiff,eq_self,vcP2,Nat.reduceShiftRight,Nat.reduceMod]
  refine callS_of hD ?_
  simp only [vcV,vcD,Int.reduceEq,Int.reduceNe,Int.reduceLT,Int.reduceLE,Nat.reduceEqDiff,Nat.reduceAdd,reduceIte,reduceCtorEq,Nat.reduceLT,Nat.reduceLeDiff,eq_self,vcP2,Nat.reduceShiftRight,Nat.reduceMod]
  refine W_loop (t:=.mk) (α:=PSigma fun i:Nat=>i≤D.length) (fun ⟨i,_⟩=>(envOf [(6,.ptr 6 0 0),(7,.ptr 7 0 0),(8,.sl (ints D)),(9,.int .i64 i)],stOf [(6,⟨38,2,[.agg [.int .i64 0,.nils]]⟩),(7,⟨38,2,[wideA ((sqN (D.take i):Nat):Int)]⟩)])) (fun x=>D.length - x.1) ⟨0,Nat.zero_le _⟩ ?_ (fun ⟨i,hin⟩=>?_)
  · have z:wideA ((sqN []:Nat):Int)=.agg [.int .i64 (Int.sign 0),.sl (ints (dg (Int.natAbs 0)))]:=rfl
    refine weakX [] (of_decide_eq_true rfl) (of_decide_eq_true rfl) ?_
    (simp only [z,vcW,vcV,vcD,Int.reduceEq,Int.reduceNe,Int.reduceLT,Int.reduceLE,Nat.reduceEqDiff,Nat.reduceAdd,reduceIte,reduceCtorEq,Nat.reduceLT,Nat.reduceLeDiff,eq_self,vcP2,Nat.reduceShiftRight,Nat.reduceMod])
    repeat' (with_reducible refine And.intro ?_ ?_)
    try any_goals (with_reducible exact RnB.wide)
    (repeat' first | exact trivial | (with_reducible first | exact RnB.fxB (ints_fxB _) | rfl | refine And.intro ?_ ?_) | (with_reducible (first | refine RnB.bb ?_ | refine RnB.nb ?_);simp only [vcW,vcV,vcD,Int.reduceEq,Int.reduceNe,Int.reduceLT,Int.reduceLE,Nat.reduceEqDiff,Nat.reduceAdd,reduceIte,reduceCtorEq,Nat.reduceLT,Nat.reduceLeDiff,eq_self,vcP2,Nat.reduceShiftRight,Nat.reduceMod]) | (with_reducible first | refine RnB.ii ?_ | refine RnB.app ?_) | (with_reducible refine RnB.fxB ?_;simp only [vcW,vcV,vcD,Int.reduceEq,Int.reduceNe,Int.reduceLT,Int.reduceLE,Nat.reduceEqDiff,Nat.reduceAdd,reduceIte,reduceCtorEq,Nat.reduceLT,Nat.reduceLeDiff,eq_self,vcP2,Nat.reduceShiftRight,Nat.reduceMod]) | omega)
    all_goals first | exact RnB.an (by decide) | skip
  · dsimp only at hin ⊢
    by_cases h':i<D.length
    · have hc1:(i:Int)<D.length:=by omega
      have hxb:=hb _ (List.getElem_mem h')
      have hA:=WideOf_s D[i] (by unfold I64;omega)
      have hsq:D[i].natAbs * D[i].natAbs≤10500000000000000 * 10500000000000000:=Nat.mul_le_mul (by omega) (by omega)
      have hxx:D[i] * D[i]=((D[i].natAbs * D[i].natAbs:Nat):Int):=Int.natAbs_mul_self.symm
      have hM:=WideMul_s D[i] D[i] (wOk_35 (by omega)) (wOk_35 (by omega))
      have hle1:=hle i
      have hn:=sqN_next D h'
      have hS:=WideAdd_s ((sqN (D.take i):Nat):Int) (D[i] * D[i]) (wOk_35 (by omega)) (wOk_35 (by omega))
      have hsum:((sqN (D.take i):Nat):Int)+D[i] * D[i]=((sqN (D.take (i+1)):Nat):Int):=by rw [hxx,hn];omega
      rw [hsum] at hS
      have hWn:=wide_hr ((sqN (D.take (i+1)):Nat):Int)
      rw [wide_hr] at hA
      rw [wide_hr,wide_hr] at hM
      rw [wide_hr,wide_hr,wide_hr] at hS
      rw [wide_hr ((sqN (D.take i):Nat):Int)]
      simp only [hc1,ints_get D i h',vcV,vcD,Int.reduceEq,Int.reduceNe,Int.reduceLT,Int.reduceLE,Nat.reduceEqDiff,Nat.reduceAdd,reduceIte,reduceCtorEq,Nat.reduceLT,Nat.reduceLeDiff,eq_self,vcP2,Nat.reduceShiftRight,Nat.reduceMod]
      (repeat (with_reducible refine And.intro ?_ ?_;focus (first | omega | (unfold I64;omega))))
      refine callS_of hA ?_
      simp only [ints_get D i h',vcV,vcD,Int.reduceEq,Int.reduceNe,Int.reduceLT,Int.reduceLE,Nat.reduceEqDiff,Nat.reduceAdd,reduceIte,reduceCtorEq,Nat.reduceLT,Nat.reduceLeDiff,eq_self,vcP2,Nat.reduceShiftRight,Nat.reduceMod]
      (repeat (with_reducible refine And.intro ?_ ?_;focus (first | omega | (unfold I64;omega))))
      refine callS_of hA ?_
      simp only [vcV,vcD,Int.reduceEq,Int.reduceNe,Int.reduceLT,Int.reduceLE,Nat.reduceEqDiff,Nat.reduceAdd,reduceIte,reduceCtorEq,Nat.reduceLT,Nat.reduceLeDiff,eq_self,vcP2,Nat.reduceShiftRight,Nat.reduceMod]
      refine callS_of hM ?_
      simp only [vcV,vcD,Int.reduceEq,Int.reduceNe,Int.reduceLT,Int.reduceLE,Nat.reduceEqDiff,Nat.reduceAdd,reduceIte,reduceCtorEq,Nat.reduceLT,Nat.reduceLeDiff,eq_self,vcP2,Nat.reduceShiftRight,Nat.reduceMod]
      refine callS_of hS ?_
      simp only [vcV,vcD,Int.reduceEq,Int.reduceNe,Int.reduceLT,Int.reduceLE,Nat.reduceEqDiff,Nat.reduceAdd,reduceIte,reduceCtorEq,Nat.reduceLT,Nat.reduceLeDiff,eq_self,vcP2,Nat.reduceShiftRight,Nat.reduceMod]
      (repeat (with_reducible refine And.intro ?_ ?_;focus (first | omega | (unfold I64;omega))))
      refine ⟨⟨i+1,h'⟩,by simp only;omega,?_⟩
      refine weakX [] (of_decide_eq_true rfl) (of_decide_eq_true rfl) ?_
      (simp only [hWn,vcW,vcV,vcD,Int.reduceEq,Int.reduceNe,Int.reduceLT,Int.reduceLE,Nat.reduceEqDiff,Nat.reduceAdd,reduceIte,reduceCtorEq,Nat.reduceLT,Nat.reduceLeDiff,eq_self,vcP2,Nat.reduceShiftRight,Nat.reduceMod])
      repeat' (with_reducible refine And.intro ?_ ?_)
      try any_goals (with_reducible exact RnB.wide)
      (repeat' first | exact trivial | (with_reducible first | exact RnB.fxB (ints_fxB _) | rfl | refine And.intro ?_ ?_) | (with_reducible (first | refine RnB.bb ?_ | refine RnB.nb ?_);simp only [vcW,vcV,vcD,Int.reduceEq,Int.reduceNe,Int.reduceLT,Int.reduceLE,Nat.reduceEqDiff,Nat.reduceAdd,reduceIte,reduceCtorEq,Nat.reduceLT,Nat.reduceLeDiff,eq_self,vcP2,Nat.reduceShiftRight,Nat.reduceMod]) | (with_reducible first | refine RnB.ii ?_ | refine RnB.app ?_) | (with_reducible refine RnB.fxB ?_;simp only [vcW,vcV,vcD,Int.reduceEq,Int.reduceNe,Int.reduceLT,Int.reduceLE,Nat.reduceEqDiff,Nat.reduceAdd,reduceIte,reduceCtorEq,Nat.reduceLT,Nat.reduceLeDiff,eq_self,vcP2,Nat.reduceShiftRight,Nat.reduceMod]) | omega)
      all_goals first | exact RnB.an (by decide) | skip
    · have hil:i=D.length:=by omega
      subst hil
      have hc1:¬ (D.length:Int)<D.length:=by omega
      rw [List.take_length]
      have hWn:=wide_hr ((sqN D:Nat):Int)
      rw [hWn]
      simp only [hc1,vcV,vcD,Int.reduceEq,Int.reduceNe,Int.reduceLT,Int.reduceLE,Nat.reduceEqDiff,Nat.reduceAdd,reduceIte,reduceCtorEq,Nat.reduceLT,Nat.reduceLeDiff,eq_self,vcP2,Nat.reduceShiftRight,Nat.reduceMod]
end Go.Proofs.YtgmpcbpmnimkoaaGreatDoor

/- Contracts of the reference: digits of wide numbers. By an AI agent;nothing here is trusted. -/
namespace Go.Proofs.YtgmpcbpmnimkoaaGreatDoor
open Go.Av

end Go.Proofs.YtgmpcbpmnimkoaaGreatDoor

/- The examples of chapter 2 hold. By an AI agent;nothing here is trusted. -/
namespace Go.Proofs.YtgmpcbpmnimkoaaGreatDoor
open Go.Av
theorem awake_run:(callX extP owP itP (lookC tabP) 100 40).v 11 []=some (.bool true):=by kernel_rfl
theorem awake_s:Sound Tryz.prog 11 [] (.bool true):=(callX_sound extP_ok itP_ok tabP_ok 40).1 _ _ _ awake_run
end Go.Proofs.YtgmpcbpmnimkoaaGreatDoor

/- The marked code of law functions;printed by a program. By an AI agent;nothing here is trusted. -/
namespace Go.Proofs.YtgmpcbpmnimkoaaGreatDoor
open Go.Av
def cl_law02_PulseBest:ML:=(.seq (.reg 14 [⟨none,some 3,.box 24 2 (.t 0)⟩,⟨none,some 6,.mv (.c (.bool false))⟩] false []) (.seq (.seq (.reg 2097166 [⟨none,some 20,.call 11 []⟩,⟨none,some 21,.un .not (.t 20)⟩] false []) (.cond (.t 21) (.seq (.reg 64 [⟨none,some 6,.mv (.c (.bool false))⟩] false []) .ret) .skip)) (.seq (.seq (.reg 2147483662 [⟨none,some 22,.load (some 2) (.t 3)⟩,⟨none,some 23,.mv (.t 1)⟩,⟨none,some 24,.call 12 [(.t 22),(.t 23)]⟩,⟨none,some 25,.bin .neq (.t 24) (.c (.int .i64 0))⟩,⟨none,some 26,.mv (.t 25)⟩,⟨(some (26,false)),some 27,.load (some 2) (.t 3)⟩,⟨(some (26,false)),some 28,.mv (.t 2)⟩,⟨(some (26,false)),some 29,.call 33 [(.t 27),(.t 28)]⟩,⟨(some (26,false)),some 30,.bin .neq (.t 29) (.c (.int .i64 0))⟩,⟨none,some 31,.pick (.t 26) (.c (.bool true)) (.t 30)⟩] false []) (.cond (.t 31) (.seq (.reg 64 [⟨none,some 6,.mv (.c (.bool true))⟩] false []) .ret) .skip)) (.seq (.reg 398 [⟨none,some 33,.load (some 2) (.t 3)⟩,⟨none,some 34,.call 15 [(.t 33)]⟩,⟨none,some 35,.mv (.t 1)⟩,⟨none,some 36,.call 16 [(.t 35)]⟩,⟨none,some 37,.call 14 [(.t 34),(.t 36)]⟩,⟨none,some 32,.mv (.t 37)⟩,⟨none,some 38,.extract (.t 32) 0⟩,⟨none,some 39,.extract (.t 32) 1⟩,⟨none,some 7,.alloc 29 2 (.agg [(.int .i64 0),.nils])⟩,⟨none,none,.store 2 (.t 7) (.t 38)⟩,⟨none,some 8,.mv (.t 39)⟩] false []) (.seq (.reg 910 [⟨none,some 40,.mv (.t 2)⟩,⟨none,some 41,.call 16 [(.t 40)]⟩,⟨none,some 42,.build [(.int .i64 0),.nils] [(0,(1,(.c (.int .i64 1)))),(1,(1,(.t 41)))]⟩,⟨none,some 9,.alloc 29 2 (.agg [(.int .i64 0),.nils])⟩,⟨none,none,.store 2 (.t 9) (.t 42)⟩] false []) (.seq (.seq (.reg 17592186045326 [⟨none,some 43,.mv (.t 8)⟩,⟨none,some 44,.bin .eql (.t 43) (.c (.int .i64 0))⟩] false []) (.cond (.t 44) (.seq (.seq (.reg 36028797018964622 [⟨none,some 45,.load (some 2) (.t 7)⟩,⟨none,some 46,.call 17 [(.t 45)]⟩,⟨none,some 47,.bin .neq (.t 46) (.c (.int .i64 0))⟩,⟨none,some 48,.mv (.t 47)⟩,⟨(some (48,false)),some 49,.fieldAddr (.t 7) 1⟩,⟨(some (48,false)),some 50,.load none (.t 49)⟩,⟨(some (48,false)),some 51,.len false (.t 50)⟩,⟨(some (48,false)),some 52,.fieldAddr (.t 3) 1⟩,⟨(some (48,false)),some 53,.load none (.t 52)⟩,⟨(some (48,false)),some 54,.bin .neq (.t 51) (.t 53)⟩,⟨none,some 55,.pick (.t 48) (.c (.bool true)) (.t 54)⟩] false []) (.cond (.t 55) (.seq (.reg 64 [⟨none,some 6,.mv (.c (.bool false))⟩] false []) .ret) .skip)) (.seq (.reg 3726 [⟨none,some 57,.load (some 2) (.t 3)⟩,⟨none,some 58,.call 15 [(.t 57)]⟩,⟨none,some 59,.mv (.t 1)⟩,⟨none,some 60,.call 16 [(.t 59)]⟩,⟨none,some 61,.load (some 2) (.t 7)⟩,⟨none,some 62,.call 24 [(.t 61)]⟩,⟨none,some 63,.call 37 [(.t 58),(.t 60),(.t 62)]⟩,⟨none,some 56,.mv (.t 63)⟩,⟨none,some 64,.extract (.t 56) 0⟩,⟨none,some 65,.extract (.t 56) 1⟩,⟨none,some 10,.mv (.t 64)⟩,⟨none,some 11,.mv (.t 65)⟩] true []) (.seq (.reg 11918 [⟨none,some 67,.load (some 2) (.t 3)⟩,⟨none,some 68,.call 15 [(.t 67)]⟩,⟨none,some 69,.mv (.t 1)⟩,⟨none,some 70,.call 16 [(.t 69)]⟩,⟨none,some 71,.load (some 2) (.t 9)⟩,⟨none,some 72,.call 24 [(.t 71)]⟩,⟨none,some 73,.call 37 [(.t 68),(.t 70),(.t 72)]⟩,⟨none,some 66,.mv (.t 73)⟩,⟨none,some 74,.extract (.t 66) 0⟩,⟨none,some 75,.extract (.t 66) 1⟩,⟨none,some 12,.mv (.t 74)⟩,⟨none,some 13,.mv (.t 75)⟩] true []) (.seq (.seq (.reg 618970019642690137449562766 [⟨none,some 76,.mv (.t 11)⟩,⟨none,some 77,.bin .neq (.t 76) (.c (.int .i64 0))⟩,⟨none,some 78,.mv (.t 77)⟩,⟨(some (78,false)),some 79,.mv (.t 10)⟩,⟨(some (78,false)),some 80,.bin .neq (.t 79) (.c (.int .i64 0))⟩,⟨none,some 81,.pick (.t 78) (.c (.bool true)) (.t 80)⟩,⟨none,some 82,.mv (.t 81)⟩,⟨(some (82,false)),some 83,.mv (.t 13)⟩,⟨(some (82,false)),some 84,.bin .eql (.t 83) (.c (.int .i64 0))⟩,⟨(some (82,false)),some 85,.load (some 2) (.t 9)⟩,⟨(some (82,false)),some 86,.load (some 2) (.t 7)⟩,⟨(some (82,false)),some 87,.call 35 [(.t 85),(.t 86)]⟩,⟨(some (82,false)),some 88,.eqB true (.t 84) (.t 87)⟩,⟨none,some 89,.pick (.t 82) (.c (.bool true)) (.t 88)⟩] false []) (.cond (.t 89) (.seq (.reg 64 [⟨none,some 6,.mv (.c (.bool false))⟩] false []) .ret) .skip)) (.seq (.reg 49804 [⟨none,some 90,.load (some 2) (.t 3)⟩,⟨none,some 91,.mv (.t 1)⟩,⟨none,some 92,.load (some 2) (.t 7)⟩,⟨none,some 93,.call 38 [(.t 90),(.t 91),(.t 92)]⟩,⟨none,some 94,.load (some 2) (.t 3)⟩,⟨none,some 95,.mv (.t 1)⟩,⟨none,some 96,.load (some 2) (.t 9)⟩,⟨none,some 97,.call 38 [(.t 94),(.t 95),(.t 96)]⟩,⟨none,some 14,.alloc 38 2 (.agg [(.int .i64 0),.nils])⟩,⟨none,some 15,.alloc 38 2 (.agg [(.int .i64 0),.nils])⟩,⟨none,none,.store 2 (.t 14) (.t 93)⟩,⟨none,none,.store 2 (.t 15) (.t 97)⟩] true [(⟨none,some 90,.load (some 2) (.t 3)⟩,⟨none,some 14,.alloc 38 2 (.agg [(.int .i64 0),.nils])⟩),(⟨none,some 92,.load (some 2) (.t 7)⟩,⟨none,some 14,.alloc 38 2 (.agg [(.int .i64 0),.nils])⟩),(⟨none,some 93,.call 38 [(.t 90),(.t 91),(.t 92)]⟩,⟨none,some 14,.alloc 38 2 (.agg [(.int .i64 0),.nils])⟩),(⟨none,some 94,.load (some 2) (.t 3)⟩,⟨none,some 14,.alloc 38 2 (.agg [(.int .i64 0),.nils])⟩),(⟨none,some 96,.load (some 2) (.t 9)⟩,⟨none,some 14,.alloc 38 2 (.agg [(.int .i64 0),.nils])⟩),(⟨none,some 97,.call 38 [(.t 94),(.t 95),(.t 96)]⟩,⟨none,some 14,.alloc 38 2 (.agg [(.int .i64 0),.nils])⟩),(⟨none,some 90,.load (some 2) (.t 3)⟩,⟨none,some 15,.alloc 38 2 (.agg [(.int .i64 0),.nils])⟩),(⟨none,some 92,.load (some 2) (.t 7)⟩,⟨none,some 15,.alloc 38 2 (.agg [(.int .i64 0),.nils])⟩),(⟨none,some 93,.call 38 [(.t 90),(.t 91),(.t 92)]⟩,⟨none,some 15,.alloc 38 2 (.agg [(.int .i64 0),.nils])⟩),(⟨none,some 94,.load (some 2) (.t 3)⟩,⟨none,some 15,.alloc 38 2 (.agg [(.int .i64 0),.nils])⟩),(⟨none,some 96,.load (some 2) (.t 9)⟩,⟨none,some 15,.alloc 38 2 (.agg [(.int .i64 0),.nils])⟩),(⟨none,some 97,.call 38 [(.t 94),(.t 95),(.t 96)]⟩,⟨none,some 15,.alloc 38 2 (.agg [(.int .i64 0),.nils])⟩),(⟨none,some 14,.alloc 38 2 (.agg [(.int .i64 0),.nils])⟩,⟨none,some 15,.alloc 38 2 (.agg [(.int .i64 0),.nils])⟩)]) (.seq (.reg 649037107316853453566312041153036 [⟨none,some 98,.load (some 2) (.t 14)⟩,⟨none,some 99,.load (some 2) (.t 15)⟩,⟨none,some 100,.fieldAddr (.t 7) 0⟩,⟨none,some 101,.load none (.t 100)⟩,⟨none,some 102,.call 19 [(.t 101)]⟩,⟨none,some 103,.fieldAddr (.t 7) 0⟩,⟨none,some 104,.load none (.t 103)⟩,⟨none,some 105,.call 19 [(.t 104)]⟩,⟨none,some 106,.call 20 [(.t 102),(.t 105)]⟩,⟨none,some 107,.call 20 [(.t 99),(.t 106)]⟩,⟨none,some 108,.call 28 [(.t 98),(.t 107)]⟩,⟨none,some 109,.bin .gtr (.t 108) (.c (.int .i64 0))⟩] true []) (.cond (.t 109) (.seq (.reg 64 [⟨none,some 6,.mv (.c (.bool false))⟩] false []) .ret) .skip))))))) (.seq (.reg 2596148429267413814265248164610572 [⟨none,some 110,.mv (.t 8)⟩,⟨none,some 111,.bin .neq (.t 110) (.c (.int .i64 8))⟩] false []) (.cond (.t 111) (.seq (.reg 64 [⟨none,some 6,.mv (.c (.bool false))⟩] false []) .ret) .skip)))) (.seq (.reg 197128 [⟨none,some 113,.load (some 2) (.t 3)⟩,⟨none,some 114,.call 15 [(.t 113)]⟩,⟨none,some 115,.mv (.t 2)⟩,⟨none,some 116,.call 16 [(.t 115)]⟩,⟨none,some 117,.call 31 [(.t 114),(.t 116)]⟩,⟨none,some 112,.mv (.t 117)⟩,⟨none,some 118,.extract (.t 112) 0⟩,⟨none,some 119,.extract (.t 112) 1⟩,⟨none,some 16,.mv (.t 118)⟩,⟨none,some 17,.mv (.t 119)⟩] false []) (.seq (.seq (.reg 2658455991569831745807614120560755208 [⟨none,some 120,.mv (.t 17)⟩,⟨none,some 121,.bin .neq (.t 120) (.c (.int .i64 0))⟩] false []) (.cond (.t 121) (.seq (.reg 64 [⟨none,some 6,.mv (.c (.bool false))⟩] false []) .ret) .skip)) (.seq (.seq (.reg 42535295865117307932921825928971092488 [⟨none,some 122,.load (some 2) (.t 3)⟩,⟨none,some 123,.mv (.t 16)⟩,⟨none,some 124,.call 12 [(.t 122),(.t 123)]⟩,⟨none,some 125,.bin .neq (.t 124) (.c (.int .i64 0))⟩] false []) (.cond (.t 125) (.seq (.reg 64 [⟨none,some 126,.mv (.t 16)⟩,⟨none,some 127,.call 27 [(.t 126)]⟩,⟨none,some 128,.bin .neq (.t 127) (.c (.int .i64 0))⟩,⟨none,some 6,.mv (.t 128)⟩] false []) .ret) .skip)) (.seq (.reg 786944 [⟨none,some 130,.load (some 2) (.t 3)⟩,⟨none,some 131,.call 15 [(.t 130)]⟩,⟨none,some 132,.mv (.t 16)⟩,⟨none,some 133,.call 16 [(.t 132)]⟩,⟨none,some 134,.call 14 [(.t 131),(.t 133)]⟩,⟨none,some 129,.mv (.t 134)⟩,⟨none,some 135,.extract (.t 129) 0⟩,⟨none,some 136,.extract (.t 129) 1⟩,⟨none,some 18,.alloc 29 2 (.agg [(.int .i64 0),.nils])⟩,⟨none,none,.store 2 (.t 18) (.t 135)⟩,⟨none,some 19,.mv (.t 136)⟩] false []) (.seq (.reg 64 [⟨none,some 137,.mv (.t 19)⟩,⟨none,some 138,.bin .eql (.t 137) (.c (.int .i64 0))⟩,⟨none,some 139,.mv (.t 138)⟩,⟨(some (139,true)),some 140,.load (some 2) (.t 18)⟩,⟨(some (139,true)),some 141,.load (some 2) (.t 9)⟩,⟨(some (139,true)),some 142,.call 35 [(.t 140),(.t 141)]⟩,⟨none,some 143,.pick (.t 139) (.t 142) (.c (.bool false))⟩,⟨none,some 6,.mv (.t 143)⟩] false []) .ret)))))))))))
theorem e_law02_PulseBest:cl_law02_PulseBest.er=c_law02_PulseBest:=rfl
end Go.Proofs.YtgmpcbpmnimkoaaGreatDoor

/- The law PulseBest: it answers true. By an AI agent;nothing here is trusted. -/
namespace Go.Proofs.YtgmpcbpmnimkoaaGreatDoor
open Go.Av

theorem ckA_zero {items l ch:List Int} {den:Int}:(ckA items l ch den).2=0 ↔ ckA items l ch den=(0,0):=by
  unfold ckA
  split
  · simp
  · simp
theorem wOk_80 {v:Int} (h:v.natAbs≤100000000000000000000000000000000000000000000000000000000000000000000000000000000):wOk 100000 v :=
  wOk_more (k:=10) (wOk_of (Nat.lt_of_le_of_lt h (by decide))) (by omega)
set_option maxHeartbeats 8000000 in
theorem PulseBest_s (items:List Int) (shifts:Int) (l cs:List Int):Sound Tryz.prog 5 [tplA items shifts,.sl (ints l),.sl (ints cs)] (.bool true):=by
  refine sound_WL f_law02_PulseBest e_law02_PulseBest (Nat.le_of_ble_eq_true rfl) ?_
  have hmax:=maxLen_big
  have hFE:=FittedErr_s items shifts l
  unfold tplA at hFE ⊢
  simp only [cl_law02_PulseBest,vcV,vcD,Int.reduceEq,Int.reduceNe,Int.reduceLT,Int.reduceLE,Nat.reduceEqDiff,Nat.reduceAdd,reduceIte,reduceCtorEq,Nat.reduceLT,Nat.reduceLeDiff,eq_self,vcP2,Nat.reduceShiftRight,Nat.reduceMod]
  refine callS_of awake_s ?_
  simp only [vcV,vcD,Int.reduceEq,Int.reduceNe,Int.reduceLT,Int.reduceLE,Nat.reduceEqDiff,Nat.reduceAdd,reduceIte,reduceCtorEq,Nat.reduceLT,Nat.reduceLeDiff,eq_self,vcP2,Nat.reduceShiftRight,Nat.reduceMod]
  refine callS_of hFE ?_
  by_cases e1:fdE items shifts l=0
  case neg=>simp only [e1,vcV,vcD,Int.reduceEq,Int.reduceNe,Int.reduceLT,Int.reduceLE,Nat.reduceEqDiff,Nat.reduceAdd,reduceIte,reduceCtorEq,Nat.reduceLT,Nat.reduceLeDiff,eq_self,vcP2,Nat.reduceShiftRight,Nat.reduceMod]
  have hCr:=ChargesErr_s items shifts cs (by obtain ⟨F0,hS⟩:=fdE_ok e1;have:=F0.s5;omega)
  unfold tplA at hCr
  simp only [e1,vcV,vcD,Int.reduceEq,Int.reduceNe,Int.reduceLT,Int.reduceLE,Nat.reduceEqDiff,Nat.reduceAdd,reduceIte,reduceCtorEq,Nat.reduceLT,Nat.reduceLeDiff,eq_self,vcP2,Nat.reduceShiftRight,Nat.reduceMod]
  refine callS_of hCr ?_
  by_cases e2:crE shifts cs=0
  case neg=>simp only [e2,vcV,vcD,Int.reduceEq,Int.reduceNe,Int.reduceLT,Int.reduceLE,Nat.reduceEqDiff,Nat.reduceAdd,reduceIte,reduceCtorEq,Nat.reduceLT,Nat.reduceLeDiff,eq_self,vcP2,Nat.reduceShiftRight,Nat.reduceMod]
  have hcr:(cs.length:Int)=shifts∧cs.all whl=true:=by
    unfold crE at e2
    split at e2
    · rename_i g
      split at e2
      · rename_i g2;exact ⟨g,g2⟩
      · cases e2
    · cases e2
  obtain ⟨hcl,hcw⟩:=hcr
  have hcb:∀ x ∈ cs,0≤x∧x≤1000:=fun x hx=>of_decide_eq_true (List.all_eq_true.1 hcw x hx)
  obtain ⟨F0,hS⟩:=fdE_ok e1
  have ht0:teE items shifts=0:=by
    unfold fdE at e1
    split at e1
    · rename_i g;exact absurd e1 g
    · omega
  have hi6:=F0.i6
  have hs5:=F0.s5
  have hll:=F0.ll
  have hi1:=F0.i1
  have Fo:FitIn items l shifts cs 1:=⟨F0.i1,F0.i6,F0.ib,F0.ne,by omega,F0.lb,by omega,hcl,fun x hx=>by have:=hcb x hx;omega,by omega⟩
  have hCT:=CopyTemplate_s items shifts (by omega)
  have hCI:=CopyInts_s l (by omega)
  have hCIc:=CopyInts_s cs (by omega)
  have hFO:=FitOf_s items shifts l (by omega) (by omega)
  unfold tplA at hCT hFO
  simp only [e2,vcV,vcD,Int.reduceEq,Int.reduceNe,Int.reduceLT,Int.reduceLE,Nat.reduceEqDiff,Nat.reduceAdd,reduceIte,reduceCtorEq,Nat.reduceLT,Nat.reduceLeDiff,eq_self,vcP2,Nat.reduceShiftRight,Nat.reduceMod]
  refine callS_of hCT ?_
  simp only [vcV,vcD,Int.reduceEq,Int.reduceNe,Int.reduceLT,Int.reduceLE,Nat.reduceEqDiff,Nat.reduceAdd,reduceIte,reduceCtorEq,Nat.reduceLT,Nat.reduceLeDiff,eq_self,vcP2,Nat.reduceShiftRight,Nat.reduceMod]
  refine callS_of hCI ?_
  simp only [vcV,vcD,Int.reduceEq,Int.reduceNe,Int.reduceLT,Int.reduceLE,Nat.reduceEqDiff,Nat.reduceAdd,reduceIte,reduceCtorEq,Nat.reduceLT,Nat.reduceLeDiff,eq_self,vcP2,Nat.reduceShiftRight,Nat.reduceMod]
  refine callS_of hFO ?_
  rcases ft_ok e1 with ⟨den,ch,hft,F,hgc,hbest⟩ | hft
  case inr =>
    rw [hft]
    simp only [vcV,vcD,Int.reduceEq,Int.reduceNe,Int.reduceLT,Int.reduceLE,Nat.reduceEqDiff,Nat.reduceAdd,reduceIte,reduceCtorEq,Nat.reduceLT,Nat.reduceLeDiff,eq_self,vcP2,Nat.reduceShiftRight,Nat.reduceMod]
    refine callS_of hCIc ?_
    simp only [vcV,vcD,Int.reduceEq,Int.reduceNe,Int.reduceLT,Int.reduceLE,Nat.reduceEqDiff,Nat.reduceAdd,reduceIte,reduceCtorEq,Nat.reduceLT,Nat.reduceLeDiff,eq_self,vcP2,Nat.reduceShiftRight,Nat.reduceMod]
    have hMs:=Modelled_s items shifts cs (by omega) (by omega)
    have hmo:moE items shifts cs=0:=by
      unfold moE
      rw [if_neg (by omega),if_pos hcl,if_pos hcw]
    have hmoO:moO items shifts cs=mdA items cs:=by unfold moO;rw [if_pos hmo]
    rw [hmo,hmoO] at hMs
    have hml:=mdA_len items cs
    have hFEm:=FittedErr_s items shifts (mdA items cs)
    have hSEm:=SamplesErr_s (mdA items cs)
    have hFOm:=FitOf_s items shifts (mdA items cs) (by omega) (by omega)
    have hCIm:=CopyInts_s (mdA items cs) (by omega)
    have hfm:=fun h=>found_model (items:=items) (shifts:=shifts) (cs:=cs) h hcl hcb
    have hfe:fdE items shifts (mdA items cs)=smE (mdA items cs):=by
      unfold fdE
      rw [if_neg (by omega)]
      by_cases z:smE (mdA items cs)=0
      · rw [if_neg (by omega),if_pos (by omega),z]
      · rw [if_pos z]
    obtain ⟨M,hM⟩:∃ M,M=mdA items cs:=⟨_,rfl⟩
    rw [← hM] at hMs hFEm hSEm hFOm hCIm hfm hfe
    have hSF:=SameFit_s 1 1 cs cs (by omega)
    have hsd:decide ((1:Int)=1∧cs=cs)=true:=by simp
    rw [hsd] at hSF
    unfold tplA at hMs hFEm hFOm
    unfold fitA at hSF
    refine callS_of hCT ?_
    simp only [vcV,vcD,Int.reduceEq,Int.reduceNe,Int.reduceLT,Int.reduceLE,Nat.reduceEqDiff,Nat.reduceAdd,reduceIte,reduceCtorEq,Nat.reduceLT,Nat.reduceLeDiff,eq_self,vcP2,Nat.reduceShiftRight,Nat.reduceMod]
    refine callS_of hCIc ?_
    simp only [vcV,vcD,Int.reduceEq,Int.reduceNe,Int.reduceLT,Int.reduceLE,Nat.reduceEqDiff,Nat.reduceAdd,reduceIte,reduceCtorEq,Nat.reduceLT,Nat.reduceLeDiff,eq_self,vcP2,Nat.reduceShiftRight,Nat.reduceMod]
    refine callS_of hMs ?_
    simp only [vcV,vcD,Int.reduceEq,Int.reduceNe,Int.reduceLT,Int.reduceLE,Nat.reduceEqDiff,Nat.reduceAdd,reduceIte,reduceCtorEq,Nat.reduceLT,Nat.reduceLeDiff,eq_self,vcP2,Nat.reduceShiftRight,Nat.reduceMod]
    refine callS_of hFEm ?_
    by_cases e9:smE M=0
    case neg =>
      rw [hfe]
      simp only [e9,vcV,vcD,Int.reduceEq,Int.reduceNe,Int.reduceLT,Int.reduceLE,Nat.reduceEqDiff,Nat.reduceAdd,reduceIte,reduceCtorEq,Nat.reduceLT,Nat.reduceLeDiff,eq_self,vcP2,Nat.reduceShiftRight,Nat.reduceMod]
      refine callS_of hSEm ?_
      simp only [e9,vcV,vcD,Int.reduceEq,Int.reduceNe,Int.reduceLT,Int.reduceLE,Nat.reduceEqDiff,Nat.reduceAdd,reduceIte,reduceCtorEq,Nat.reduceLT,Nat.reduceLeDiff,eq_self,vcP2,Nat.reduceShiftRight,Nat.reduceMod]
    rw [hfm (by omega)] at hFOm
    rw [hfe]
    simp only [e9,vcV,vcD,Int.reduceEq,Int.reduceNe,Int.reduceLT,Int.reduceLE,Nat.reduceEqDiff,Nat.reduceAdd,reduceIte,reduceCtorEq,Nat.reduceLT,Nat.reduceLeDiff,eq_self,vcP2,Nat.reduceShiftRight,Nat.reduceMod]
    refine callS_of hCT ?_
    simp only [vcV,vcD,Int.reduceEq,Int.reduceNe,Int.reduceLT,Int.reduceLE,Nat.reduceEqDiff,Nat.reduceAdd,reduceIte,reduceCtorEq,Nat.reduceLT,Nat.reduceLeDiff,eq_self,vcP2,Nat.reduceShiftRight,Nat.reduceMod]
    refine callS_of hCIm ?_
    simp only [vcV,vcD,Int.reduceEq,Int.reduceNe,Int.reduceLT,Int.reduceLE,Nat.reduceEqDiff,Nat.reduceAdd,reduceIte,reduceCtorEq,Nat.reduceLT,Nat.reduceLeDiff,eq_self,vcP2,Nat.reduceShiftRight,Nat.reduceMod]
    refine callS_of hFOm ?_
    simp only [vcV,vcD,Int.reduceEq,Int.reduceNe,Int.reduceLT,Int.reduceLE,Nat.reduceEqDiff,Nat.reduceAdd,reduceIte,reduceCtorEq,Nat.reduceLT,Nat.reduceLeDiff,eq_self,vcP2,Nat.reduceShiftRight,Nat.reduceMod]
    refine callS_of hSF ?_
    simp only [vcV,vcD,Int.reduceEq,Int.reduceNe,Int.reduceLT,Int.reduceLE,Nat.reduceEqDiff,Nat.reduceAdd,reduceIte,reduceCtorEq,Nat.reduceLT,Nat.reduceLeDiff,eq_self,vcP2,Nat.reduceShiftRight,Nat.reduceMod]
  rw [hft]
  have hcl2:=F.cl
  have hFi:=FitErr_s den ch (by omega)
  rw [fE_fit F] at hFi
  have hCF:=CopyFit_s den ch (by omega)
  have hCFo:=CopyFit_s 1 cs (by omega)
  have hCk:=CheckFit_s items shifts l den ch (by omega) (by omega) (by omega)
  have hCko:=CheckFit_s items shifts l 1 cs (by omega) (by omega) (by omega)
  have hbe:beE items shifts l den ch=0:=by
    unfold beE
    rw [if_neg (by omega),if_neg (by rw [fE_fit F];decide),if_pos F.cl]
  have hbeo:beE items shifts l 1 cs=0:=by
    unfold beE
    rw [if_neg (by omega),if_neg (by rw [fE_fit Fo];decide),if_pos Fo.cl]
  have hck:cfA items shifts l den ch=(0,0):=by
    unfold cfA
    rw [if_neg (by omega),if_neg (by omega)]
    exact (ok_best F).2 hbest
  have hcko:cfA items shifts l 1 cs=ckA items l cs 1:=by
    unfold cfA
    rw [if_neg (by omega),if_neg (by rw [gcF_1];decide)]
  rw [hck] at hCk
  rw [hcko] at hCko
  have hSFo:=SameFit_s 1 den cs ch (by omega)
  have hsame:decide ((1:Int)=den∧cs=ch)=decide ((ckA items l cs 1).2=0):=by
    refine decide_eq_decide.2 ⟨fun ⟨h1,h2⟩=>?_,fun h=>?_⟩
    · subst h1 h2
      exact ckA_zero.2 ((ok_best F).2 hbest)
    · have:=same_fit F.db.1 (by omega) Fo hgc hbest ((ok_best Fo).1 (ckA_zero.1 h))
      exact ⟨this.1.symm,this.2.symm⟩
  rw [hsame] at hSFo
  have hSq1:=Squares_s F
  have hSq2:=Squares_s Fo
  have hopt:=sq_opt F Fo hbest
  have hd1:=dfL_len items l ch den
  have hd2:=dfL_len items l cs 1
  have hm1:=F.mlen
  have hm2:=Fo.mlen
  have hq1:=sqN_bd F.dfb
  have hq2:=sqN_bd Fo.dfb
  have hdb:=F.db
  generalize sqN (dfL items l ch den)=s1 at *
  generalize sqN (dfL items l cs 1)=s2 at *
  have hWd:=WideOf_s den (by unfold I64;omega)
  have hdd:=mul_abs (s:=den) (k:=den) (M:=1000000000000) (K:=1000000000000) ⟨by omega,by omega⟩ (by omega) (by omega)
  have hMd:=WideMul_s den den (wOk_35 (by omega)) (wOk_35 (by omega))
  obtain ⟨E,hE⟩:∃ E,E=den * den:=⟨_,rfl⟩
  rw [← hE] at hMd hdd hopt
  have hE0:0≤E:=by rw [hE];exact Int.mul_nonneg (by omega) (by omega)
  have hs2E:((s2:Nat):Int) * E≤2000000000000000000000000000000000 * 1000000000000000000000000:=Int.mul_le_mul (by omega) (by omega) hE0 (by omega)
  have hs2E0:0≤((s2:Nat):Int) * E:=Int.mul_nonneg (by omega) hE0
  have hMs2:=WideMul_s ((s2:Nat):Int) E (wOk_35 (by omega)) (wOk_35 (by omega))
  obtain ⟨X,hX⟩:∃ X,X=((s2:Nat):Int) * E:=⟨_,rfl⟩
  rw [← hX] at hMs2 hs2E hs2E0 hopt
  have hCm:=WideCmp_s ((s1:Nat):Int) X (wOk_80 (by omega)) (wOk_80 (by omega))
  have hsg:¬ 0<(((s1:Nat):Int) - X).sign:=by rw [sign_gt];omega
  rw [wide_hr] at hSq1 hSq2 hWd
  rw [wide_hr,wide_hr] at hMd hCm
  rw [wide_hr,wide_hr,wide_hr] at hMs2
  obtain ⟨p,q,hpq⟩:∃ p q,ckA items l cs 1=(p,q):=⟨_,_,rfl⟩
  rw [hpq] at hCko hSFo
  unfold tplA fitA at hCk hCko hSq1 hSq2
  unfold fitA at hCF hCFo hFi hSFo
  simp only [vcV,vcD,Int.reduceEq,Int.reduceNe,Int.reduceLT,Int.reduceLE,Nat.reduceEqDiff,Nat.reduceAdd,reduceIte,reduceCtorEq,Nat.reduceLT,Nat.reduceLeDiff,eq_self,vcP2,Nat.reduceShiftRight,Nat.reduceMod]
  refine callS_of hCIc ?_
  simp only [vcV,vcD,Int.reduceEq,Int.reduceNe,Int.reduceLT,Int.reduceLE,Nat.reduceEqDiff,Nat.reduceAdd,reduceIte,reduceCtorEq,Nat.reduceLT,Nat.reduceLeDiff,eq_self,vcP2,Nat.reduceShiftRight,Nat.reduceMod]
  refine callS_of hFi ?_
  simp only [hcl2,vcV,vcD,Int.reduceEq,Int.reduceNe,Int.reduceLT,Int.reduceLE,Nat.reduceEqDiff,Nat.reduceAdd,reduceIte,reduceCtorEq,Nat.reduceLT,Nat.reduceLeDiff,eq_self,vcP2,Nat.reduceShiftRight,Nat.reduceMod]
  refine callS_of hCT ?_
  simp only [vcV,vcD,Int.reduceEq,Int.reduceNe,Int.reduceLT,Int.reduceLE,Nat.reduceEqDiff,Nat.reduceAdd,reduceIte,reduceCtorEq,Nat.reduceLT,Nat.reduceLeDiff,eq_self,vcP2,Nat.reduceShiftRight,Nat.reduceMod]
  refine callS_of hCI ?_
  simp only [vcV,vcD,Int.reduceEq,Int.reduceNe,Int.reduceLT,Int.reduceLE,Nat.reduceEqDiff,Nat.reduceAdd,reduceIte,reduceCtorEq,Nat.reduceLT,Nat.reduceLeDiff,eq_self,vcP2,Nat.reduceShiftRight,Nat.reduceMod]
  refine callS_of hCF ?_
  simp only [vcV,vcD,Int.reduceEq,Int.reduceNe,Int.reduceLT,Int.reduceLE,Nat.reduceEqDiff,Nat.reduceAdd,reduceIte,reduceCtorEq,Nat.reduceLT,Nat.reduceLeDiff,eq_self,vcP2,Nat.reduceShiftRight,Nat.reduceMod]
  refine callS_of hCk ?_
  simp only [vcV,vcD,Int.reduceEq,Int.reduceNe,Int.reduceLT,Int.reduceLE,Nat.reduceEqDiff,Nat.reduceAdd,reduceIte,reduceCtorEq,Nat.reduceLT,Nat.reduceLeDiff,eq_self,vcP2,Nat.reduceShiftRight,Nat.reduceMod]
  refine callS_of hCT ?_
  simp only [vcV,vcD,Int.reduceEq,Int.reduceNe,Int.reduceLT,Int.reduceLE,Nat.reduceEqDiff,Nat.reduceAdd,reduceIte,reduceCtorEq,Nat.reduceLT,Nat.reduceLeDiff,eq_self,vcP2,Nat.reduceShiftRight,Nat.reduceMod]
  refine callS_of hCI ?_
  simp only [vcV,vcD,Int.reduceEq,Int.reduceNe,Int.reduceLT,Int.reduceLE,Nat.reduceEqDiff,Nat.reduceAdd,reduceIte,reduceCtorEq,Nat.reduceLT,Nat.reduceLeDiff,eq_self,vcP2,Nat.reduceShiftRight,Nat.reduceMod]
  refine callS_of hCFo ?_
  simp only [vcV,vcD,Int.reduceEq,Int.reduceNe,Int.reduceLT,Int.reduceLE,Nat.reduceEqDiff,Nat.reduceAdd,reduceIte,reduceCtorEq,Nat.reduceLT,Nat.reduceLeDiff,eq_self,vcP2,Nat.reduceShiftRight,Nat.reduceMod]
  refine callS_of hCko ?_
  simp only [vcV,vcD,Int.reduceEq,Int.reduceNe,Int.reduceLT,Int.reduceLE,Nat.reduceEqDiff,Nat.reduceAdd,reduceIte,reduceCtorEq,Nat.reduceLT,Nat.reduceLeDiff,eq_self,vcP2,Nat.reduceShiftRight,Nat.reduceMod]
  refine callS_of hSFo ?_
  simp only [vcV,vcD,Int.reduceEq,Int.reduceNe,Int.reduceLT,Int.reduceLE,Nat.reduceEqDiff,Nat.reduceAdd,reduceIte,reduceCtorEq,Nat.reduceLT,Nat.reduceLeDiff,eq_self,vcP2,Nat.reduceShiftRight,Nat.reduceMod]
  refine callS_of hSq1 ?_
  simp only [vcV,vcD,Int.reduceEq,Int.reduceNe,Int.reduceLT,Int.reduceLE,Nat.reduceEqDiff,Nat.reduceAdd,reduceIte,reduceCtorEq,Nat.reduceLT,Nat.reduceLeDiff,eq_self,vcP2,Nat.reduceShiftRight,Nat.reduceMod]
  refine callS_of hSq2 ?_
  simp only [vcV,vcD,Int.reduceEq,Int.reduceNe,Int.reduceLT,Int.reduceLE,Nat.reduceEqDiff,Nat.reduceAdd,reduceIte,reduceCtorEq,Nat.reduceLT,Nat.reduceLeDiff,eq_self,vcP2,Nat.reduceShiftRight,Nat.reduceMod]
  refine callS_of hWd ?_
  simp only [vcV,vcD,Int.reduceEq,Int.reduceNe,Int.reduceLT,Int.reduceLE,Nat.reduceEqDiff,Nat.reduceAdd,reduceIte,reduceCtorEq,Nat.reduceLT,Nat.reduceLeDiff,eq_self,vcP2,Nat.reduceShiftRight,Nat.reduceMod]
  refine callS_of hWd ?_
  simp only [vcV,vcD,Int.reduceEq,Int.reduceNe,Int.reduceLT,Int.reduceLE,Nat.reduceEqDiff,Nat.reduceAdd,reduceIte,reduceCtorEq,Nat.reduceLT,Nat.reduceLeDiff,eq_self,vcP2,Nat.reduceShiftRight,Nat.reduceMod]
  refine callS_of hMd ?_
  simp only [vcV,vcD,Int.reduceEq,Int.reduceNe,Int.reduceLT,Int.reduceLE,Nat.reduceEqDiff,Nat.reduceAdd,reduceIte,reduceCtorEq,Nat.reduceLT,Nat.reduceLeDiff,eq_self,vcP2,Nat.reduceShiftRight,Nat.reduceMod]
  refine callS_of hMs2 ?_
  simp only [vcV,vcD,Int.reduceEq,Int.reduceNe,Int.reduceLT,Int.reduceLE,Nat.reduceEqDiff,Nat.reduceAdd,reduceIte,reduceCtorEq,Nat.reduceLT,Nat.reduceLeDiff,eq_self,vcP2,Nat.reduceShiftRight,Nat.reduceMod]
  refine callS_of hCm ?_
  simp only [hsg,vcV,vcD,Int.reduceEq,Int.reduceNe,Int.reduceLT,Int.reduceLE,Nat.reduceEqDiff,Nat.reduceAdd,reduceIte,reduceCtorEq,Nat.reduceLT,Nat.reduceLeDiff,eq_self,vcP2,Nat.reduceShiftRight,Nat.reduceMod]
  have hMs:=Modelled_s items shifts cs (by omega) (by omega)
  have hmo:moE items shifts cs=0:=by
    unfold moE
    rw [if_neg (by omega),if_pos hcl,if_pos hcw]
  have hmoO:moO items shifts cs=mdA items cs:=by unfold moO;rw [if_pos hmo]
  rw [hmo,hmoO] at hMs
  have hml:=mdA_len items cs
  have hFEm:=FittedErr_s items shifts (mdA items cs)
  have hSEm:=SamplesErr_s (mdA items cs)
  have hFOm:=FitOf_s items shifts (mdA items cs) (by omega) (by omega)
  have hCIm:=CopyInts_s (mdA items cs) (by omega)
  have hfm:=fun h=>found_model (items:=items) (shifts:=shifts) (cs:=cs) h hcl hcb
  have hfe:fdE items shifts (mdA items cs)=smE (mdA items cs):=by
    unfold fdE
    rw [if_neg (by omega)]
    by_cases z:smE (mdA items cs)=0
    · rw [if_neg (by omega),if_pos (by omega),z]
    · rw [if_pos z]
  obtain ⟨M,hM⟩:∃ M,M=mdA items cs:=⟨_,rfl⟩
  rw [← hM] at hMs hFEm hSEm hFOm hCIm hfm hfe
  have hSF:=SameFit_s 1 1 cs cs (by omega)
  have hsd:decide ((1:Int)=1∧cs=cs)=true:=by simp
  rw [hsd] at hSF
  unfold tplA at hMs hFEm hFOm
  unfold fitA at hSF
  refine callS_of hCT ?_
  simp only [vcV,vcD,Int.reduceEq,Int.reduceNe,Int.reduceLT,Int.reduceLE,Nat.reduceEqDiff,Nat.reduceAdd,reduceIte,reduceCtorEq,Nat.reduceLT,Nat.reduceLeDiff,eq_self,vcP2,Nat.reduceShiftRight,Nat.reduceMod]
  refine callS_of hCIc ?_
  simp only [vcV,vcD,Int.reduceEq,Int.reduceNe,Int.reduceLT,Int.reduceLE,Nat.reduceEqDiff,Nat.reduceAdd,reduceIte,reduceCtorEq,Nat.reduceLT,Nat.reduceLeDiff,eq_self,vcP2,Nat.reduceShiftRight,Nat.reduceMod]
  refine callS_of hMs ?_
  simp only [vcV,vcD,Int.reduceEq,Int.reduceNe,Int.reduceLT,Int.reduceLE,Nat.reduceEqDiff,Nat.reduceAdd,reduceIte,reduceCtorEq,Nat.reduceLT,Nat.reduceLeDiff,eq_self,vcP2,Nat.reduceShiftRight,Nat.reduceMod]
  refine callS_of hFEm ?_
  by_cases e9:smE M=0
  case neg =>
    rw [hfe]
    simp only [e9,vcV,vcD,Int.reduceEq,Int.reduceNe,Int.reduceLT,Int.reduceLE,Nat.reduceEqDiff,Nat.reduceAdd,reduceIte,reduceCtorEq,Nat.reduceLT,Nat.reduceLeDiff,eq_self,vcP2,Nat.reduceShiftRight,Nat.reduceMod]
    refine callS_of hSEm ?_
    simp only [e9,vcV,vcD,Int.reduceEq,Int.reduceNe,Int.reduceLT,Int.reduceLE,Nat.reduceEqDiff,Nat.reduceAdd,reduceIte,reduceCtorEq,Nat.reduceLT,Nat.reduceLeDiff,eq_self,vcP2,Nat.reduceShiftRight,Nat.reduceMod]
  rw [hfm (by omega)] at hFOm
  rw [hfe]
  simp only [e9,vcV,vcD,Int.reduceEq,Int.reduceNe,Int.reduceLT,Int.reduceLE,Nat.reduceEqDiff,Nat.reduceAdd,reduceIte,reduceCtorEq,Nat.reduceLT,Nat.reduceLeDiff,eq_self,vcP2,Nat.reduceShiftRight,Nat.reduceMod]
  refine callS_of hCT ?_
  simp only [vcV,vcD,Int.reduceEq,Int.reduceNe,Int.reduceLT,Int.reduceLE,Nat.reduceEqDiff,Nat.reduceAdd,reduceIte,reduceCtorEq,Nat.reduceLT,Nat.reduceLeDiff,eq_self,vcP2,Nat.reduceShiftRight,Nat.reduceMod]
  refine callS_of hCIm ?_
  simp only [vcV,vcD,Int.reduceEq,Int.reduceNe,Int.reduceLT,Int.reduceLE,Nat.reduceEqDiff,Nat.reduceAdd,reduceIte,reduceCtorEq,Nat.reduceLT,Nat.reduceLeDiff,eq_self,vcP2,Nat.reduceShiftRight,Nat.reduceMod]
  refine callS_of hFOm ?_
  simp only [vcV,vcD,Int.reduceEq,Int.reduceNe,Int.reduceLT,Int.reduceLE,Nat.reduceEqDiff,Nat.reduceAdd,reduceIte,reduceCtorEq,Nat.reduceLT,Nat.reduceLeDiff,eq_self,vcP2,Nat.reduceShiftRight,Nat.reduceMod]
  refine callS_of hSF ?_
  simp only [vcV,vcD,Int.reduceEq,Int.reduceNe,Int.reduceLT,Int.reduceLE,Nat.reduceEqDiff,Nat.reduceAdd,reduceIte,reduceCtorEq,Nat.reduceLT,Nat.reduceLeDiff,eq_self,vcP2,Nat.reduceShiftRight,Nat.reduceMod]
end Go.Proofs.YtgmpcbpmnimkoaaGreatDoor

