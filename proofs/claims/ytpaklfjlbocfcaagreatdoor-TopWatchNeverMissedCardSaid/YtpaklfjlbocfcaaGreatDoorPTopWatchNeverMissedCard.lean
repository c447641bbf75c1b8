/- For every input the law TopWatchNeverMissed answers true, and its arguments read behind the call as they read before. The condition: the three tables of the library that the row lists lie as its text lays them; the card ties that to the text. By an AI agent; nothing here is trusted. -/
import Derived.Test.YtpaklfjlbocfcaaGreatDoorRows
import Derived.Test.YtpaklfjlbocfcaaGreatDoorCards
import Derived.Test.YtpaklfjlbocfcaaGreatDoorTie
import Derived.Test.YtpaklfjlbocfcaaGreatDoorLayC
import Derived.Test.YtpaklfjlbocfcaaGreatDoorConTopWatchNeverMissedCardA
import Derived.Test.YtpaklfjlbocfcaaGreatDoorConTopWatchNeverMissedCardC
namespace Go.Proofs.YtpaklfjlbocfcaaGreatDoor.lawTopWatchNeverMissedCard
open Go.ChangeShapes Go.WideShapes Go.ChangeAt Go.RowKit
open Go.Av
set_option linter.unusedVariables false

theorem laidOut : laidOutB Tryz.prog = true := by kernel_rfl

set_option maxRecDepth 100000 in
theorem lifted (os : Os) (started : os.Started) (H : Type) (enc : TypeId × Value → H) :
    ReturnsInHanded {} Tryz.checked os 5 .any (fun w args => (Rows.topWatchNeverMissedSpec.pre enc Tryz.prog Tryz.f5 [] false w args ∧ laidMetH Tryz.prog laidP w) ∧ sizedMet enc Tryz.prog Tryz.f5 (OpenSpec.ofChange Rows.topWatchNeverMissedSpec) false w args)
      (Rows.topWatchNeverMissedSpec.post enc Tryz.prog Tryz.f5 false true false false) := by
  refine returnsInHanded_of_change_and (C := Tryz.checked) (X := fun w _ => laidMetH Tryz.prog laidP w) (fun _ _ _ hh h => h.of_heap hh) ownKn started (by kernel_rfl) Tryz.func5
    (ChangeSpec.witness_shaped (enc := enc) (C := Tryz.checked) (os := os) (X := fun w _ => laidMetH Tryz.prog laidP w) false (World.laidAll Tryz.prog os laidP) #[.agg #[.slice none 0 0], .agg #[.int .i64 0, .int .i64 0, .int .i64 0, .int .i64 0], .slice none 0 0] 8 (World.laidAll_os _ _ _) (World.shaped_of_ZipB (by kernel_rfl) (by kernel_rfl)) (by kernel_rfl) (by kernel_rfl) (by kernel_rfl) (door_met os _)) ?_
  intro W base args ds gs before hval0 hW _ _ hL _
  have hval : ∀ (j : Nat) t v, Tryz.f5.params[j]? = some t → args[j]? = some v → Value.okWide Tryz.prog W .any base t v := hval0
  have hW' := hW
  obtain ⟨p, q, hA0, hV, rfl, hfz, hnd⟩ := hW
  have hA : DataW.TrodAll enc Tryz.prog W 0 (fun _ => true) true Tryz.f5.params.toList args.toList ds p := hA0
  rw [Tryz.params5] at hA hval
  obtain ⟨v0, vs0, d0, ds0, p0, q0, hargs, rfl, rfl, k0, r0⟩ := trodAll_cons hA
  obtain ⟨v1, vs1, d1, ds1, p1, q1, rfl, rfl, rfl, k1, r1⟩ := trodAll_cons r0
  obtain ⟨v2, vs2, d2, ds2, p2, q2, rfl, rfl, rfl, k2, r2⟩ := trodAll_cons r1
  obtain ⟨rfl, rfl, rfl⟩ := trodAll_nil r2
  obtain rfl : args = #[v0, v1, v2] := by cases args; simp_all
  obtain ⟨rfl, rfl⟩ := trodVars_none hV
  obtain ⟨a0, h0, w0⟩ := Rd.agg (Rd_struct (s := 1) Tryz.underlying26 (RdF_cons (s := 1) (Rd_slice (s := 1) Tryz.underlying24 (Rd_slice (s := 1) Tryz.underlying45 (Rd_i64 Tryz.underlying3) (by kernel_rfl) (by decide) (fun _ => rfl) (fun _ _ => rfl)) (by kernel_rfl) (by decide) (fun _ => rfl) (fun _ _ => rfl)) rfl (by kernel_rfl) (fun _ => rfl) (RdF_nil _)) (by kernel_rfl) (fun _ => rfl)) Tryz.underlying26 (hval 0 26 v0 rfl rfl) k0
  have lt0 : ∀ x ∈ p0, x.block < W.heap.size := by obtain ⟨m, hm⟩ := k0; exact DataW.trod_lt m _ _ _ hm
  obtain ⟨a1, h1, w1⟩ := Rd.agg (Rd_struct (s := 4) Tryz.underlying70 (RdF_cons (s := 1) (Rd_i64 Tryz.underlying3) rfl (by kernel_rfl) (fun _ => rfl) (RdF_cons (s := 1) (Rd_i64 Tryz.underlying3) rfl (by kernel_rfl) (fun _ => rfl) (RdF_cons (s := 1) (Rd_i64 Tryz.underlying3) rfl (by kernel_rfl) (fun _ => rfl) (RdF_cons (s := 1) (Rd_i64 Tryz.underlying3) rfl (by kernel_rfl) (fun _ => rfl) (RdF_nil _))))) (by kernel_rfl) (fun _ => rfl)) Tryz.underlying70 (hval 1 70 v1 rfl rfl) k1
  have lt1 : ∀ x ∈ p1, x.block < W.heap.size := by obtain ⟨m, hm⟩ := k1; exact DataW.trod_lt m _ _ _ hm
  obtain ⟨a2, h2, w2⟩ := Rd.sl (Rd_slice (s := 1) Tryz.underlying45 (Rd_i64 Tryz.underlying3) (by kernel_rfl) (by decide) (fun _ => rfl) (fun _ _ => rfl)) Tryz.underlying45 (hval 2 45 v2 rfl rfl) k2
  have lt2 : ∀ x ∈ p2, x.block < W.heap.size := by obtain ⟨m, hm⟩ := k2; exact DataW.trod_lt m _ _ _ hm
  clear hA0 hval0
  refine (Sound.calls (args := _) Tryz.func5 (by kernel_rfl) (by kernel_rfl) (TopWatchNeverMissed_s a0.1 a1.1 a1.2.1 a1.2.2.1 a1.2.2.2.1 a2 h2.2) (of_laid hL) rfl (vr3 w0 w1 w2)).mono fun e W' ⟨he, bel⟩ => ?_
  subst he
  exact ⟨_, rfl, _, _, _, [], _, [], hW', trodAll_mk1 (shut_bool Tryz.underlying4 _), (trodAll_cons_mk (Below.trod laidOut (by kernel_rfl) (of_decide_eq_true (by kernel_rfl)) k0 bel lt0) (trodAll_cons_mk (Below.trod laidOut (by kernel_rfl) (of_decide_eq_true (by kernel_rfl)) k1 bel lt1) (trodAll_cons_mk (Below.trod laidOut (by kernel_rfl) (of_decide_eq_true (by kernel_rfl)) k2 bel lt2) trodAll_mk0))), rfl, bel.frame _, fun h => by cases h⟩

theorem over : Rows.topWatchNeverMissedRow.holds Tryz.pinned (OpenSpec.ofChange Rows.topWatchNeverMissedSpec) :=
  OpenClaim.holds_of_wide 5 Tryz.f5 rfl rfl rfl rfl rfl rfl rfl ⟨rfl, rfl, rfl, rfl, rfl⟩ rfl rfl rfl rfl rfl (by kernel_rfl) Tryz.func5 (by kernel_rfl)
    (of_decide_eq_true (by kernel_rfl)) (by unfold Func.isWrapper; rw [if_neg (of_decide_eq_false (by kernel_rfl))]; exact ⟨rfl, rfl⟩)
    (fun os started H enc _ => lifted os started H enc)

theorem proved : Rows.TopWatchNeverMissedCardSaid :=
  Claim7.holds_tied_plain_at .later [] [.data, .data, .data, .data, .sentinel, .sentinel, .pinned] true (true, "cecc3c02b45d53b0cd9491959b3e713b911f53828a6c98611427f1232126189f") true
    over (fun _ h => by cases h) (by kernel_rfl) (fun _ h => by cases h) topWatchNeverMissed_row_tie rfl ⟨rfl, rfl⟩ (by kernel_rfl) rfl
    (fun f fn hf hfn => by
      obtain rfl : f = 5 := Option.some.inj ((show Tryz.prog.funcNamed "cherenkov/cherenkovtop.TopWatchNeverMissed" = some 5 by kernel_rfl).symm.trans hf) |>.symm
      obtain rfl : fn = Tryz.f5 := (Option.some.inj (Tryz.func5.symm.trans hfn)).symm
      exact ⟨by kernel_rfl, fun j t ht => by
        rw [Tryz.params5] at ht
        have hm : t ∈ [26, 70, 45] := by simpa using Array.mem_of_getElem? ht
        have hall : ([26, 70, 45].all fun u => !Tryz.prog.wantsStandIn u) = true := by kernel_rfl
        exact (show Tryz.prog.wantsStandIn t = false by simpa using List.all_eq_true.1 hall t hm)⟩)
    (by kernel_rfl)
end Go.Proofs.YtpaklfjlbocfcaaGreatDoor.lawTopWatchNeverMissedCard
