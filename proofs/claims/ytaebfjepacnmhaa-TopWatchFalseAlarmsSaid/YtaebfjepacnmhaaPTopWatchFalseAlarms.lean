/- For every input the law TopWatchFalseAlarms answers true, and its arguments read behind the call as they read before. No condition. By an AI agent; nothing here is trusted. -/
import Derived.Test.YtaebfjepacnmhaaRows
import Derived.Test.YtaebfjepacnmhaaLayC
import Derived.Test.YtaebfjepacnmhaaConTopWatchFalseAlarmsB
namespace Go.Proofs.Ytaebfjepacnmhaa.lawTopWatchFalseAlarms
open Go.ChangeShapes Go.WideShapes Go.ChangeAt Go.RowKit
open Go.Av
set_option linter.unusedVariables false

theorem own : ownKnob Try.prog.godebug = none := by kernel_rfl
theorem laidOut : laidOutB Try.prog = true := by kernel_rfl

set_option maxRecDepth 100000 in
theorem lifted (os : Os) (started : os.Started) (H : Type) (enc : TypeId × Value → H) :
    ReturnsInHanded {} Try.checked os 11 .any (Rows.topWatchFalseAlarmsSpec.pre6 enc Try.prog Try.f11 Rows.topWatchFalseAlarmsRow.domain false) (Rows.topWatchFalseAlarmsSpec.post enc Try.prog Try.f11 false true false false) := by
  refine returnsInHanded_of_change (C := Try.checked) own started (by kernel_rfl) Try.func11
    (ChangeSpec.witness6 (enc := enc) (C := Try.checked) false ⟨#[], #[.agg #[.slice none 0 0], .agg #[.int .i64 0, .int .i64 0, .int .i64 0, .int .i64 0], .int .i64 0], []⟩ 8 (by kernel_rfl) (by kernel_rfl) (by kernel_rfl) (by kernel_rfl)) ?_
  intro W base args ds gs before hval0 hW hcnd _
  have hval : ∀ (j : Nat) t v, Try.f11.params[j]? = some t → args[j]? = some v → Value.okWide Try.prog W .any base t v := hval0
  have hW' := hW
  obtain ⟨p, q, hA0, hV, rfl, hfz, hnd⟩ := hW
  have hA : DataW.TrodAll enc Try.prog W 0 (fun _ => true) true Try.f11.params.toList args.toList ds p := hA0
  rw [Try.params11] at hA hval
  obtain ⟨v0, vs0, d0, ds0, p0, q0, hargs, rfl, rfl, k0, r0⟩ := trodAll_cons hA
  obtain ⟨v1, vs1, d1, ds1, p1, q1, rfl, rfl, rfl, k1, r1⟩ := trodAll_cons r0
  obtain ⟨v2, vs2, d2, ds2, p2, q2, rfl, rfl, rfl, k2, r2⟩ := trodAll_cons r1
  obtain ⟨rfl, rfl, rfl⟩ := trodAll_nil r2
  obtain rfl : args = #[v0, v1, v2] := by cases args; simp_all
  obtain ⟨rfl, rfl⟩ := trodVars_none hV
  obtain ⟨a0, h0, w0⟩ := Rd.agg (Rd_struct (s := 1) Try.underlying24 (RdF_cons (s := 1) (Rd_slice (s := 1) Try.underlying22 (Rd_slice (s := 1) Try.underlying36 (Rd_i64 Try.underlying3) (by kernel_rfl) (by decide) (fun _ => rfl) (fun _ _ => rfl)) (by kernel_rfl) (by decide) (fun _ => rfl) (fun _ _ => rfl)) rfl (by kernel_rfl) (fun _ => rfl) (RdF_nil _)) (by kernel_rfl) (fun _ => rfl)) Try.underlying24 (hval 0 24 v0 rfl rfl) k0
  have lt0 : ∀ x ∈ p0, x.block < W.heap.size := by obtain ⟨m, hm⟩ := k0; exact DataW.trod_lt m _ _ _ hm
  obtain ⟨a1, h1, w1⟩ := Rd.agg (Rd_struct (s := 4) Try.underlying49 (RdF_cons (s := 1) (Rd_i64 Try.underlying3) rfl (by kernel_rfl) (fun _ => rfl) (RdF_cons (s := 1) (Rd_i64 Try.underlying3) rfl (by kernel_rfl) (fun _ => rfl) (RdF_cons (s := 1) (Rd_i64 Try.underlying3) rfl (by kernel_rfl) (fun _ => rfl) (RdF_cons (s := 1) (Rd_i64 Try.underlying3) rfl (by kernel_rfl) (fun _ => rfl) (RdF_nil _))))) (by kernel_rfl) (fun _ => rfl)) Try.underlying49 (hval 1 49 v1 rfl rfl) k1
  have lt1 : ∀ x ∈ p1, x.block < W.heap.size := by obtain ⟨m, hm⟩ := k1; exact DataW.trod_lt m _ _ _ hm
  obtain ⟨a2, h2, w2⟩ := Rd.i64 Try.underlying3 (hval 2 3 v2 rfl rfl) k2
  have lt2 : ∀ x ∈ p2, x.block < W.heap.size := by obtain ⟨m, hm⟩ := k2; exact DataW.trod_lt m _ _ _ hm
  clear hA0 hval0
  refine (Sound.calls (args := _) Try.func11 (by kernel_rfl) (by kernel_rfl) (TopWatchFalseAlarms_s a0.1 ⟨a1.1, a1.2.1, a1.2.2.1, a1.2.2.2.1⟩ a2) rfl (vr3 w0 w1 w2)).mono fun e W' ⟨he, bel⟩ => ?_
  subst he
  exact ⟨_, rfl, _, _, _, [], _, [], hW', trodAll_mk1 (shut_bool Try.underlying4 _), (trodAll_cons_mk (Below.trod laidOut (by kernel_rfl) (of_decide_eq_true (by kernel_rfl)) k0 bel lt0) (trodAll_cons_mk (Below.trod laidOut (by kernel_rfl) (of_decide_eq_true (by kernel_rfl)) k1 bel lt1) (trodAll_cons_mk (Below.trod laidOut (by kernel_rfl) (of_decide_eq_true (by kernel_rfl)) k2 bel lt2) trodAll_mk0))), rfl, bel.frame _, fun h => by cases h⟩

theorem over : Rows.topWatchFalseAlarmsRow.holds Try.pinned (OpenSpec.ofChange Rows.topWatchFalseAlarmsSpec) :=
  OpenClaim.holds_of_wide 11 Try.f11 rfl rfl rfl rfl rfl rfl rfl ⟨rfl, rfl, rfl, rfl, rfl⟩ rfl rfl rfl rfl rfl (by kernel_rfl) Try.func11 (by kernel_rfl)
    (of_decide_eq_true (by kernel_rfl)) (by unfold Func.isWrapper; rw [if_neg (of_decide_eq_false (by kernel_rfl))]; exact ⟨rfl, rfl⟩)
    (fun os started H enc _ => lifted os started H enc)

theorem proved : Rows.TopWatchFalseAlarmsSaid := over
end Go.Proofs.Ytaebfjepacnmhaa.lawTopWatchFalseAlarms
