/-
  The given statement Rows.ClockRoundsSaid: for every input the law returns true, and each argument reads behind the call as it read before. No condition.
-/
import Derived.Test.YtcndfpfjckkinaaRows
import Derived.Test.YtcndfpfjckkinaaHead
import Derived.Test.YtcndfpfjckkinaaCro
import Derived.Test.YtcndfpfjckkinaaIn
import Derived.WalkKit
import Derived.ProofKit
import Derived.OpenShut
import Derived.ShutString
import Derived.ChangeOld
import Derived.Below
import Derived.Lib.SmallJoins
namespace Go.Proofs.Ytcndfpfjckkinaa
open Go.ChangeShapes Go.WideShapes Go.ChangeAt Go.RowKit Go.Joins
open Go.ChangeMaps (open_string shut_string)
set_option linter.unusedVariables false
theorem clockRounds_own : ownKnob Try.prog.godebug = none := by kernel_rfl
theorem clockRounds_laidOut : laidOutB Try.prog = true := by kernel_rfl
set_option maxRecDepth 100000 in
set_option maxHeartbeats 1600000 in
theorem clockRounds_lifted (os : Os) (started : os.Started) (H : Type) (enc : TypeId × Value → H) :
    ReturnsInHanded {} Try.checked os 3 .any (Rows.clockRoundsSpec.pre6 enc Try.prog Try.f3 Rows.clockRoundsRow.domain false) (Rows.clockRoundsSpec.post enc Try.prog Try.f3 false true false false) := by
  refine returnsInHanded_of_change (C := Try.checked) clockRounds_own started (by kernel_rfl) Try.func3
    (ChangeSpec.witness6 (enc := enc) (C := Try.checked) false ⟨#[], #[.agg #[.int .i64 0, .int .i64 0, .int .i64 0, .int .i64 0], .agg #[.int .i64 0, .int .i64 0, .int .i64 0, .int .i64 0], .int .i64 0, .int .i64 0], []⟩ 8 (by kernel_rfl) (by kernel_rfl) (by kernel_rfl) (by kernel_rfl)) ?_
  intro W base args ds gs before hval0 hW hcnd _
  have hval : ∀ (j : Nat) t v, Try.f3.params[j]? = some t → args[j]? = some v → Value.okWide Try.prog W .any base t v := hval0
  have hW' := hW
  obtain ⟨p, q, hA0, hV, rfl, hfz, hnd⟩ := hW
  have hA : DataW.TrodAll enc Try.prog W 0 (fun _ => true) true Try.f3.params.toList args.toList ds p := hA0
  rw [Try.params3] at hA hval
  obtain ⟨v0, vs0, d0, ds0, p0, q0, hargs, rfl, rfl, h0, r0⟩ := trodAll_cons hA
  obtain ⟨v1, vs1, d1, ds1, p1, q1, rfl, rfl, rfl, h1, r1⟩ := trodAll_cons r0
  obtain ⟨v2, vs2, d2, ds2, p2, q2, rfl, rfl, rfl, h2, r2⟩ := trodAll_cons r1
  obtain ⟨v3, vs3, d3, ds3, p3, q3, rfl, rfl, rfl, h3, r3⟩ := trodAll_cons r2
  obtain ⟨rfl, rfl, rfl⟩ := trodAll_nil r3
  obtain rfl : args = #[v0, v1, v2, v3] := by cases args; simp_all
  obtain ⟨rfl, rfl⟩ := trodVars_none hV
  have k0 := h0
  have lt0 : ∀ x ∈ p0, x.block < W.heap.size := by obtain ⟨m, hm⟩ := k0; exact DataW.trod_lt m _ _ _ hm
  obtain ⟨c0a, c0b, c0c, c0d, y0a, y0b, y0c, y0d, m0, rfl, rfl, rfl, hy0a, hy0b, hy0c, hy0d⟩ := open_agg4 Try.underlying23 (by kernel_rfl) (by kernel_rfl) (hval 0 23 v0 rfl rfl) h0
  obtain ⟨t0a, ea, rfl, wt0a⟩ := DataW.trod_int Try.underlying3 hy0a
  obtain ⟨t0b, eb, rfl, wt0b⟩ := DataW.trod_int Try.underlying3 hy0b
  obtain ⟨t0c, ec, rfl, wt0c⟩ := DataW.trod_int Try.underlying3 hy0c
  obtain ⟨t0d, ed, rfl, wt0d⟩ := DataW.trod_int Try.underlying3 hy0d
  simp at ea eb ec ed
  subst ea eb ec ed
  have k1 := h1
  have lt1 : ∀ x ∈ p1, x.block < W.heap.size := by obtain ⟨m, hm⟩ := k1; exact DataW.trod_lt m _ _ _ hm
  obtain ⟨c1a, c1b, c1c, c1d, y1a, y1b, y1c, y1d, m1, rfl, rfl, rfl, hy1a, hy1b, hy1c, hy1d⟩ := open_agg4 Try.underlying23 (by kernel_rfl) (by kernel_rfl) (hval 1 23 v1 rfl rfl) h1
  obtain ⟨t1a, ea, rfl, wt1a⟩ := DataW.trod_int Try.underlying3 hy1a
  obtain ⟨t1b, eb, rfl, wt1b⟩ := DataW.trod_int Try.underlying3 hy1b
  obtain ⟨t1c, ec, rfl, wt1c⟩ := DataW.trod_int Try.underlying3 hy1c
  obtain ⟨t1d, ed, rfl, wt1d⟩ := DataW.trod_int Try.underlying3 hy1d
  simp at ea eb ec ed
  subst ea eb ec ed
  have k2 := h2
  have lt2 : ∀ x ∈ p2, x.block < W.heap.size := by obtain ⟨m, hm⟩ := k2; exact DataW.trod_lt m _ _ _ hm
  obtain ⟨a2, rfl, rfl, rfl, w2⟩ := open_int Try.underlying2 (hval 2 2 v2 rfl rfl) h2
  have k3 := h3
  have lt3 : ∀ x ∈ p3, x.block < W.heap.size := by obtain ⟨m, hm⟩ := k3; exact DataW.trod_lt m _ _ _ hm
  obtain ⟨a3, rfl, rfl, rfl, w3⟩ := open_int Try.underlying3 (hval 3 3 v3 rfl rfl) h3
  clear hA0 hval0
  refine (law_crounds t0a t0b t0c t0d a2 a3 t1a t1b t1c t1d W).mono fun e W' ⟨he, bel⟩ => ?_
  subst he
  exact ⟨_, rfl, _, _, _, [], _, [], hW', trodAll_mk1 (shut_bool Try.underlying4 _), (trodAll_cons_mk (Below.trod clockRounds_laidOut (by kernel_rfl) (of_decide_eq_true (by kernel_rfl)) k0 bel lt0) (trodAll_cons_mk (Below.trod clockRounds_laidOut (by kernel_rfl) (of_decide_eq_true (by kernel_rfl)) k1 bel lt1) (trodAll_cons_mk (Below.trod clockRounds_laidOut (by kernel_rfl) (of_decide_eq_true (by kernel_rfl)) k2 bel lt2) (trodAll_cons_mk (Below.trod clockRounds_laidOut (by kernel_rfl) (of_decide_eq_true (by kernel_rfl)) k3 bel lt3) trodAll_mk0)))), rfl, Below.frame bel _, fun h => by cases h⟩

theorem clockRounds_facts : joinedFacts Try.prog 3 Try.f3 Rows.clockRoundsSpec Rows.clockRoundsRow = true := by
  unfold joinedFacts
  rw [head_lifts, head_may, head_make]
  kernel_rfl
theorem clockRounds_over : Rows.clockRoundsRow.holds Try.pinned (OpenSpec.ofChange Rows.clockRoundsSpec) :=
  OpenClaim.holds_of_wide 3 Try.f3 rfl rfl rfl rfl rfl rfl rfl ⟨rfl, rfl, rfl, rfl, rfl⟩ rfl rfl rfl rfl rfl (by kernel_rfl) Try.func3 clockRounds_facts
    (of_decide_eq_true (by kernel_rfl)) (by unfold Func.isWrapper; first | (rw [if_pos (by decide +kernel)]; kernel_rfl) | (rw [if_neg (by decide +kernel)]; exact ⟨rfl, rfl⟩))
    (fun os started H enc _ => clockRounds_lifted os started H enc)

theorem clockRounds_proved : Rows.ClockRoundsSaid := clockRounds_over
#print axioms clockRounds_proved
end Go.Proofs.Ytcndfpfjckkinaa
