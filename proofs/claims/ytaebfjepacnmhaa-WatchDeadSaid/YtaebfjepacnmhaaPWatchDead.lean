/- For every input the law WatchDead answers true, and its arguments read behind the call as they read before. No condition. By an AI agent; nothing here is trusted. -/
import Derived.Test.YtaebfjepacnmhaaRows
import Derived.Test.YtaebfjepacnmhaaLayC
import Derived.Test.YtaebfjepacnmhaaConWatchDeadA
namespace Go.Proofs.Ytaebfjepacnmhaa.lawWatchDead
open Go.ChangeShapes Go.WideShapes Go.ChangeAt Go.RowKit
open Go.Av
set_option linter.unusedVariables false

theorem own : ownKnob Try.prog.godebug = none := by kernel_rfl
theorem laidOut : laidOutB Try.prog = true := by kernel_rfl

set_option maxRecDepth 100000 in
theorem lifted (os : Os) (started : os.Started) (H : Type) (enc : TypeId × Value → H) :
    ReturnsInHanded {} Try.checked os 4 .any (Rows.watchDeadSpec.pre6 enc Try.prog Try.f4 Rows.watchDeadRow.domain false) (Rows.watchDeadSpec.post enc Try.prog Try.f4 false true false false) := by
  refine returnsInHanded_of_change (C := Try.checked) own started (by kernel_rfl) Try.func4
    (ChangeSpec.witness6 (enc := enc) (C := Try.checked) false ⟨#[], #[.agg #[.int .i64 0, .int .i64 0, .int .i64 0]], []⟩ 8 (by kernel_rfl) (by kernel_rfl) (by kernel_rfl) (by kernel_rfl)) ?_
  intro W base args ds gs before hval0 hW hcnd _
  have hval : ∀ (j : Nat) t v, Try.f4.params[j]? = some t → args[j]? = some v → Value.okWide Try.prog W .any base t v := hval0
  have hW' := hW
  obtain ⟨p, q, hA0, hV, rfl, hfz, hnd⟩ := hW
  have hA : DataW.TrodAll enc Try.prog W 0 (fun _ => true) true Try.f4.params.toList args.toList ds p := hA0
  rw [Try.params4] at hA hval
  obtain ⟨v0, vs0, d0, ds0, p0, q0, hargs, rfl, rfl, k0, r0⟩ := trodAll_cons hA
  obtain ⟨rfl, rfl, rfl⟩ := trodAll_nil r0
  obtain rfl : args = #[v0] := by cases args; simp_all
  obtain ⟨rfl, rfl⟩ := trodVars_none hV
  obtain ⟨a0, h0, w0⟩ := Rd.agg (Rd_struct (s := 3) Try.underlying40 (RdF_cons (s := 1) (Rd_i64 Try.underlying3) rfl (by kernel_rfl) (fun _ => rfl) (RdF_cons (s := 1) (Rd_i64 Try.underlying3) rfl (by kernel_rfl) (fun _ => rfl) (RdF_cons (s := 1) (Rd_i64 Try.underlying3) rfl (by kernel_rfl) (fun _ => rfl) (RdF_nil _)))) (by kernel_rfl) (fun _ => rfl)) Try.underlying40 (hval 0 40 v0 rfl rfl) k0
  have lt0 : ∀ x ∈ p0, x.block < W.heap.size := by obtain ⟨m, hm⟩ := k0; exact DataW.trod_lt m _ _ _ hm
  clear hA0 hval0
  refine (Sound.calls (args := _) Try.func4 (by kernel_rfl) (by kernel_rfl) (WatchDead_s ⟨a0.1, a0.2.1, a0.2.2.1⟩ h0.1 h0.2.1 h0.2.2.1) rfl (vr1 w0)).mono fun e W' ⟨he, bel⟩ => ?_
  subst he
  exact ⟨_, rfl, _, _, _, [], _, [], hW', trodAll_mk1 (shut_bool Try.underlying4 _), (trodAll_cons_mk (Below.trod laidOut (by kernel_rfl) (of_decide_eq_true (by kernel_rfl)) k0 bel lt0) trodAll_mk0), rfl, bel.frame _, fun h => by cases h⟩

theorem over : Rows.watchDeadRow.holds Try.pinned (OpenSpec.ofChange Rows.watchDeadSpec) :=
  OpenClaim.holds_of_wide 4 Try.f4 rfl rfl rfl rfl rfl rfl rfl ⟨rfl, rfl, rfl, rfl, rfl⟩ rfl rfl rfl rfl rfl (by kernel_rfl) Try.func4 (by kernel_rfl)
    (of_decide_eq_true (by kernel_rfl)) (by unfold Func.isWrapper; rw [if_neg (of_decide_eq_false (by kernel_rfl))]; exact ⟨rfl, rfl⟩)
    (fun os started H enc _ => lifted os started H enc)

theorem proved : Rows.WatchDeadSaid := over
end Go.Proofs.Ytaebfjepacnmhaa.lawWatchDead
