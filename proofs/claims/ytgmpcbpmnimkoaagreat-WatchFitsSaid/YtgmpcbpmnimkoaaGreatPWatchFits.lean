/- For every input the law WatchFits answers true, and its arguments read behind the call as they read before. No condition. By an AI agent; nothing here is trusted. -/
import Derived.Test.YtgmpcbpmnimkoaaGreatRows
import Derived.Test.YtgmpcbpmnimkoaaGreatLayC
import Derived.Test.YtgmpcbpmnimkoaaGreatConWatchFitsB
namespace Go.Proofs.YtgmpcbpmnimkoaaGreat.lawWatchFits
open Go.ChangeShapes Go.WideShapes Go.ChangeAt Go.RowKit
open Go.Av
set_option linter.unusedVariables false

theorem own : ownKnob Tryz.prog.godebug = none := by kernel_rfl
theorem laidOut : laidOutB Tryz.prog = true := by kernel_rfl

set_option maxRecDepth 100000 in
theorem lifted (os : Os) (started : os.Started) (H : Type) (enc : TypeId × Value → H) :
    ReturnsInHanded {} Tryz.checked os 3 .any (Rows.watchFitsSpec.pre6 enc Tryz.prog Tryz.f3 Rows.watchFitsRow.domain false) (Rows.watchFitsSpec.post enc Tryz.prog Tryz.f3 false true false false) := by
  refine returnsInHanded_of_change (C := Tryz.checked) own started (by kernel_rfl) Tryz.func3
    (ChangeSpec.witness6 (enc := enc) (C := Tryz.checked) false ⟨#[], #[.slice none 0 0, .agg #[.int .i64 0, .int .i64 0, .int .i64 0, .int .i64 0]], []⟩ 8 (by kernel_rfl) (by kernel_rfl) (by kernel_rfl) (by kernel_rfl)) ?_
  intro W base args ds gs before hval0 hW hcnd _
  have hval : ∀ (j : Nat) t v, Tryz.f3.params[j]? = some t → args[j]? = some v → Value.okWide Tryz.prog W .any base t v := hval0
  have hW' := hW
  obtain ⟨p, q, hA0, hV, rfl, hfz, hnd⟩ := hW
  have hA : DataW.TrodAll enc Tryz.prog W 0 (fun _ => true) true Tryz.f3.params.toList args.toList ds p := hA0
  rw [Tryz.params3] at hA hval
  obtain ⟨v0, vs0, d0, ds0, p0, q0, hargs, rfl, rfl, k0, r0⟩ := trodAll_cons hA
  obtain ⟨v1, vs1, d1, ds1, p1, q1, rfl, rfl, rfl, k1, r1⟩ := trodAll_cons r0
  obtain ⟨rfl, rfl, rfl⟩ := trodAll_nil r1
  obtain rfl : args = #[v0, v1] := by cases args; simp_all
  obtain ⟨rfl, rfl⟩ := trodVars_none hV
  obtain ⟨a0, h0, w0⟩ := Rd.sl (Rd_slice (s := 2) Tryz.underlying22 (Rd_struct (s := 2) Tryz.underlying68 (RdF_cons (s := 1) (Rd_i64 Tryz.underlying3) rfl (by kernel_rfl) (fun _ => rfl) (RdF_cons (s := 1) (Rd_i64 Tryz.underlying3) rfl (by kernel_rfl) (fun _ => rfl) (RdF_nil _))) (by kernel_rfl) (fun _ => rfl)) (by kernel_rfl) (by decide) (fun _ => rfl) (fun _ h => h)) Tryz.underlying22 (hval 0 22 v0 rfl rfl) k0
  have lt0 : ∀ x ∈ p0, x.block < W.heap.size := by obtain ⟨m, hm⟩ := k0; exact DataW.trod_lt m _ _ _ hm
  obtain ⟨a1, h1, w1⟩ := Rd.agg (Rd_struct (s := 4) Tryz.underlying26 (RdF_cons (s := 2) (Rd_struct (s := 2) Tryz.underlying24 (RdF_cons (s := 1) (Rd_i64 Tryz.underlying3) rfl (by kernel_rfl) (fun _ => rfl) (RdF_cons (s := 1) (Rd_i64 Tryz.underlying3) rfl (by kernel_rfl) (fun _ => rfl) (RdF_nil _))) (by kernel_rfl) (fun _ => rfl)) rfl (by kernel_rfl) (fun _ => rfl) (RdF_cons (s := 2) (Rd_struct (s := 2) Tryz.underlying24 (RdF_cons (s := 1) (Rd_i64 Tryz.underlying3) rfl (by kernel_rfl) (fun _ => rfl) (RdF_cons (s := 1) (Rd_i64 Tryz.underlying3) rfl (by kernel_rfl) (fun _ => rfl) (RdF_nil _))) (by kernel_rfl) (fun _ => rfl)) rfl (by kernel_rfl) (fun _ => rfl) (RdF_nil _))) (by kernel_rfl) (fun _ => rfl)) Tryz.underlying26 (hval 1 26 v1 rfl rfl) k1
  have lt1 : ∀ x ∈ p1, x.block < W.heap.size := by obtain ⟨m, hm⟩ := k1; exact DataW.trod_lt m _ _ _ hm
  clear hA0 hval0
  refine (Sound.calls (args := _) Tryz.func3 (by kernel_rfl) (by kernel_rfl) (show Sound Tryz.prog _ _ (.bool true) from by have h := WatchFits_s (a0.map fun a => (a.1, a.2.1)) a1.1.1 a1.1.2.1 a1.2.1.1 a1.2.1.2.1 h1.1.2.1 h1.2.1.2.1; unfold prs at h; rw [List.map_map] at h; exact h) ⟨fun p hp => by simp [gTab] at hp, fun p hp => by simp [gErr] at hp⟩ rfl (vr2 w0 w1)).mono fun e W' ⟨he, bel⟩ => ?_
  subst he
  exact ⟨_, rfl, _, _, _, [], _, [], hW', trodAll_mk1 (shut_bool Tryz.underlying4 _), (trodAll_cons_mk (Below.trod laidOut (by kernel_rfl) (of_decide_eq_true (by kernel_rfl)) k0 bel lt0) (trodAll_cons_mk (Below.trod laidOut (by kernel_rfl) (of_decide_eq_true (by kernel_rfl)) k1 bel lt1) trodAll_mk0)), rfl, bel.frame _, fun h => by cases h⟩

theorem over : Rows.watchFitsRow.holds Tryz.pinned (OpenSpec.ofChange Rows.watchFitsSpec) :=
  OpenClaim.holds_of_wide 3 Tryz.f3 rfl rfl rfl rfl rfl rfl rfl ⟨rfl, rfl, rfl, rfl, rfl⟩ rfl rfl rfl rfl rfl (by kernel_rfl) Tryz.func3 (by kernel_rfl)
    (of_decide_eq_true (by kernel_rfl)) (by unfold Func.isWrapper; rw [if_neg (of_decide_eq_false (by kernel_rfl))]; exact ⟨rfl, rfl⟩)
    (fun os started H enc _ => lifted os started H enc)

theorem proved : Rows.WatchFitsSaid := over
end Go.Proofs.YtgmpcbpmnimkoaaGreat.lawWatchFits
