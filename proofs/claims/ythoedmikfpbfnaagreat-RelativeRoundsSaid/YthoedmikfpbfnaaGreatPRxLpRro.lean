/-
  The given statement Rows.RelativeRoundsSaid: for every input the law returns true, and each argument reads behind the call as it read before. No condition.
-/
import Derived.Test.YthoedmikfpbfnaaGreatRows
import Derived.WalkKit
import Derived.ProofKit
import Derived.OpenShut
import Derived.ShutString
import Derived.ChangeOld
import Derived.Below
import Derived.Lib.SmallJoins
import Derived.Test.YthoedmikfpbfnaaGreatPRa
import Derived.Test.YthoedmikfpbfnaaGreatPRb
import Derived.Test.YthoedmikfpbfnaaGreatPRc
import Derived.Test.YthoedmikfpbfnaaGreatPRd
import Derived.Test.YthoedmikfpbfnaaGreatPRe
import Derived.Test.YthoedmikfpbfnaaGreatPRf
namespace Go.Proofs.YthoedmikfpbfnaaGreat
open Go.ChangeShapes Go.WideShapes Go.ChangeAt Go.RowKit Go.Joins
open Go.ChangeMaps (open_string shut_string)
set_option linter.unusedVariables false
theorem relativeRounds_own : ownKnob Tryz.prog.godebug = none := by kernel_rfl
theorem relativeRounds_laidOut : laidOutB Tryz.prog = true := by kernel_rfl
set_option maxRecDepth 100000 in
set_option maxHeartbeats 1600000 in
theorem relativeRounds_lifted (os : Os) (started : os.Started) (H : Type) (enc : TypeId × Value → H) :
    ReturnsInHanded {} Tryz.checked os 5 .any (Rows.relativeRoundsSpec.pre6 enc Tryz.prog Tryz.f5 Rows.relativeRoundsRow.domain false) (Rows.relativeRoundsSpec.post enc Tryz.prog Tryz.f5 false true false false) := by
  refine returnsInHanded_of_change (C := Tryz.checked) relativeRounds_own started (by kernel_rfl) Tryz.func5
    (ChangeSpec.witness6 (enc := enc) (C := Tryz.checked) false ⟨#[], #[.agg #[.int .i64 0, .int .i64 0, .int .i64 0, .int .i64 0, .int .i64 0, .int .i64 0, .int .i64 0], .agg #[.int .i64 0, .int .i64 0, .int .i64 0, .int .i64 0, .int .i64 0, .int .i64 0, .int .i64 0], .agg #[.int .i64 0, .int .i64 0, .int .i64 0, .int .i64 0]], []⟩ 8 (by kernel_rfl) (by kernel_rfl) (by kernel_rfl) (by kernel_rfl)) ?_
  intro W base args ds gs before hval0 hW hcnd _
  have hval : ∀ (j : Nat) t v, Tryz.f5.params[j]? = some t → args[j]? = some v → Value.okWide Tryz.prog W .any base t v := hval0
  have hW' := hW
  obtain ⟨p, q, hA0, hV, rfl, hfz, hnd⟩ := hW
  have hA : DataW.TrodAll enc Tryz.prog W 0 (fun _ => true) true Tryz.f5.params.toList args.toList ds p := hA0
  rw [Tryz.params5] at hA hval
  obtain ⟨v0, vs0, d0, ds0, p0, q0, hargs, rfl, rfl, h0, r0⟩ := trodAll_cons hA
  obtain ⟨v1, vs1, d1, ds1, p1, q1, rfl, rfl, rfl, h1, r1⟩ := trodAll_cons r0
  obtain ⟨v2, vs2, d2, ds2, p2, q2, rfl, rfl, rfl, h2, r2⟩ := trodAll_cons r1
  obtain ⟨rfl, rfl, rfl⟩ := trodAll_nil r2
  obtain rfl : args = #[v0, v1, v2] := by cases args; simp_all
  obtain ⟨rfl, rfl⟩ := trodVars_none hV
  have k0 := h0
  have lt0 : ∀ x ∈ p0, x.block < W.heap.size := by obtain ⟨m, hm⟩ := k0; exact DataW.trod_lt m _ _ _ hm
  obtain ⟨xs0, rfl, hl0, hx0⟩ := ints_in (n := 7) (by omega) (by kernel_rfl : intRow Tryz.prog 27 7 = true) (hval 0 27 v0 rfl rfl)
  obtain ⟨t0a, t0b, t0c, t0d, t0e, t0f, t0g, rfl⟩ := list7 hl0
  have k1 := h1
  have lt1 : ∀ x ∈ p1, x.block < W.heap.size := by obtain ⟨m, hm⟩ := k1; exact DataW.trod_lt m _ _ _ hm
  obtain ⟨xs1, rfl, hl1, hx1⟩ := ints_in (n := 7) (by omega) (by kernel_rfl : intRow Tryz.prog 27 7 = true) (hval 1 27 v1 rfl rfl)
  obtain ⟨t1a, t1b, t1c, t1d, t1e, t1f, t1g, rfl⟩ := list7 hl1
  have k2 := h2
  have lt2 : ∀ x ∈ p2, x.block < W.heap.size := by obtain ⟨m, hm⟩ := k2; exact DataW.trod_lt m _ _ _ hm
  obtain ⟨xs2, rfl, hl2, hx2⟩ := ints_in (n := 4) (by omega) (by kernel_rfl : intRow Tryz.prog 49 4 = true) (hval 2 49 v2 rfl rfl)
  obtain ⟨t2a, t2b, t2c, t2d, rfl⟩ := list4 hl2
  clear hA0 hval0
  refine (law_rrounds t0a t0b t0c t0d t0e t0f t0g t1a t1b t1c t1d t1e t1f t1g t2a t2b t2c t2d W).mono fun e W' ⟨he, bel⟩ => ?_
  subst he
  exact ⟨_, rfl, _, _, _, [], _, [], hW', trodAll_mk1 (shut_bool Tryz.underlying4 _), (trodAll_cons_mk (Below.trod relativeRounds_laidOut (by kernel_rfl) (of_decide_eq_true (by kernel_rfl)) k0 bel lt0) (trodAll_cons_mk (Below.trod relativeRounds_laidOut (by kernel_rfl) (of_decide_eq_true (by kernel_rfl)) k1 bel lt1) (trodAll_cons_mk (Below.trod relativeRounds_laidOut (by kernel_rfl) (of_decide_eq_true (by kernel_rfl)) k2 bel lt2) trodAll_mk0))), rfl, Below.frame bel _, fun h => by cases h⟩

theorem relativeRounds_facts : joinedFacts Tryz.prog 5 Tryz.f5 Rows.relativeRoundsSpec Rows.relativeRoundsRow = true := by
  unfold joinedFacts
  rw [head_lifts, head_may, head_make]
  kernel_rfl
theorem relativeRounds_over : Rows.relativeRoundsRow.holds Tryz.pinned (OpenSpec.ofChange Rows.relativeRoundsSpec) :=
  OpenClaim.holds_of_wide 5 Tryz.f5 rfl rfl rfl rfl rfl rfl rfl ⟨rfl, rfl, rfl, rfl, rfl⟩ rfl rfl rfl rfl rfl (by kernel_rfl) Tryz.func5 relativeRounds_facts
    (of_decide_eq_true (by kernel_rfl)) (by unfold Func.isWrapper; first | (rw [if_pos (by decide +kernel)]; kernel_rfl) | (rw [if_neg (by decide +kernel)]; exact ⟨rfl, rfl⟩))
    (fun os started H enc _ => relativeRounds_lifted os started H enc)

theorem relativeRounds_proved : Rows.RelativeRoundsSaid := relativeRounds_over
#print axioms relativeRounds_proved
end Go.Proofs.YthoedmikfpbfnaaGreat
