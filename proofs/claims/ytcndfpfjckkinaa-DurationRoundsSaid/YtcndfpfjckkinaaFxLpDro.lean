/-
  The given statement Rows.DurationRoundsSaid: for every input the law returns true, and each argument reads behind the call as it read before. No condition.
-/
import Derived.Test.YtcndfpfjckkinaaRows
import Derived.WalkKit
import Derived.ProofKit
import Derived.OpenShut
import Derived.ShutString
import Derived.ChangeOld
import Derived.Below
import Derived.Lib.SmallJoins
import Derived.Test.YtcndfpfjckkinaaDa
import Derived.Test.YtcndfpfjckkinaaDb
import Derived.Test.YtcndfpfjckkinaaDc
import Derived.Test.YtcndfpfjckkinaaDd
import Derived.Test.YtcndfpfjckkinaaDe
import Derived.Test.YtcndfpfjckkinaaFa
namespace Go.Proofs.Ytcndfpfjckkinaa
open Go.ChangeShapes Go.WideShapes Go.ChangeAt Go.RowKit Go.Joins
open Go.ChangeMaps (open_string shut_string)
set_option linter.unusedVariables false
theorem durationRounds_own : ownKnob Try.prog.godebug = none := by kernel_rfl
theorem durationRounds_laidOut : laidOutB Try.prog = true := by kernel_rfl
set_option maxRecDepth 100000 in
set_option maxHeartbeats 1600000 in
theorem durationRounds_lifted (os : Os) (started : os.Started) (H : Type) (enc : TypeId × Value → H) :
    ReturnsInHanded {} Try.checked os 16 .any (Rows.durationRoundsSpec.pre6 enc Try.prog Try.f16 Rows.durationRoundsRow.domain false) (Rows.durationRoundsSpec.post enc Try.prog Try.f16 false true false false) := by
  refine returnsInHanded_of_change (C := Try.checked) durationRounds_own started (by kernel_rfl) Try.func16
    (ChangeSpec.witness6 (enc := enc) (C := Try.checked) false ⟨#[], #[.agg #[.int .i64 0, .int .i64 0, .int .i64 0, .int .i64 0, .int .i64 0, .int .i64 0, .int .i64 0, .int .i64 0], .agg #[.int .i64 0, .int .i64 0, .int .i64 0, .int .i64 0]], []⟩ 8 (by kernel_rfl) (by kernel_rfl) (by kernel_rfl) (by kernel_rfl)) ?_
  intro W base args ds gs before hval0 hW hcnd _
  have hval : ∀ (j : Nat) t v, Try.f16.params[j]? = some t → args[j]? = some v → Value.okWide Try.prog W .any base t v := hval0
  have hW' := hW
  obtain ⟨p, q, hA0, hV, rfl, hfz, hnd⟩ := hW
  have hA : DataW.TrodAll enc Try.prog W 0 (fun _ => true) true Try.f16.params.toList args.toList ds p := hA0
  rw [Try.params16] at hA hval
  obtain ⟨v0, vs0, d0, ds0, p0, q0, hargs, rfl, rfl, h0, r0⟩ := trodAll_cons hA
  obtain ⟨v1, vs1, d1, ds1, p1, q1, rfl, rfl, rfl, h1, r1⟩ := trodAll_cons r0
  obtain ⟨rfl, rfl, rfl⟩ := trodAll_nil r1
  obtain rfl : args = #[v0, v1] := by cases args; simp_all
  obtain ⟨rfl, rfl⟩ := trodVars_none hV
  have k0 := h0
  have lt0 : ∀ x ∈ p0, x.block < W.heap.size := by obtain ⟨m, hm⟩ := k0; exact DataW.trod_lt m _ _ _ hm
  obtain ⟨xs0, rfl, hl0, hx0⟩ := ints_in (n := 8) (by omega) (by kernel_rfl : intRow Try.prog 70 8 = true) (hval 0 70 v0 rfl rfl)
  obtain ⟨t0a, t0b, t0c, t0d, t0e, t0f, t0g, t0h, rfl⟩ := list8 hl0
  have k1 := h1
  have lt1 : ∀ x ∈ p1, x.block < W.heap.size := by obtain ⟨m, hm⟩ := k1; exact DataW.trod_lt m _ _ _ hm
  obtain ⟨xs1, rfl, hl1, hx1⟩ := ints_in (n := 4) (by omega) (by kernel_rfl : intRow Try.prog 91 4 = true) (hval 1 91 v1 rfl rfl)
  obtain ⟨t1a, t1b, t1c, t1d, rfl⟩ := list4 hl1
  clear hA0 hval0
  refine (law_drounds t0a t0b t0c t0d t0e t0f t0g t0h t1a t1b t1c t1d W (all64_of hx0)).mono fun e W' ⟨he, bel⟩ => ?_
  subst he
  exact ⟨_, rfl, _, _, _, [], _, [], hW', trodAll_mk1 (shut_bool Try.underlying4 _), (trodAll_cons_mk (Below.trod durationRounds_laidOut (by kernel_rfl) (of_decide_eq_true (by kernel_rfl)) k0 bel lt0) (trodAll_cons_mk (Below.trod durationRounds_laidOut (by kernel_rfl) (of_decide_eq_true (by kernel_rfl)) k1 bel lt1) trodAll_mk0)), rfl, Below.frame bel _, fun h => by cases h⟩

theorem durationRounds_facts : joinedFacts Try.prog 16 Try.f16 Rows.durationRoundsSpec Rows.durationRoundsRow = true := by
  unfold joinedFacts
  rw [head_lifts, head_may, head_make]
  kernel_rfl
theorem durationRounds_over : Rows.durationRoundsRow.holds Try.pinned (OpenSpec.ofChange Rows.durationRoundsSpec) :=
  OpenClaim.holds_of_wide 16 Try.f16 rfl rfl rfl rfl rfl rfl rfl ⟨rfl, rfl, rfl, rfl, rfl⟩ rfl rfl rfl rfl rfl (by kernel_rfl) Try.func16 durationRounds_facts
    (of_decide_eq_true (by kernel_rfl)) (by unfold Func.isWrapper; first | (rw [if_pos (by decide +kernel)]; kernel_rfl) | (rw [if_neg (by decide +kernel)]; exact ⟨rfl, rfl⟩))
    (fun os started H enc _ => durationRounds_lifted os started H enc)

theorem durationRounds_proved : Rows.DurationRoundsSaid := durationRounds_over
#print axioms durationRounds_proved
end Go.Proofs.Ytcndfpfjckkinaa
