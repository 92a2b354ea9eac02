/-
  The given statement Rows.PlainOrdersSaid: for every input the law returns true, and each argument reads behind the call as it read before. No condition.
-/
import Derived.Test.YtcndfpfjckkinaaRows
import Derived.Test.YtcndfpfjckkinaaHead
import Derived.Test.YtcndfpfjckkinaaPll
import Derived.Test.YtcndfpfjckkinaaInn
import Derived.WalkKit
import Derived.ProofKit
import Derived.OpenShut
import Derived.ShutString
import Derived.ChangeOld
import Derived.Below
import Derived.Lib.SmallJoins
namespace Go.Proofs.Ytcndfpfjckkinaa
open Go.ChangeShapes Go.WideShapes Go.ChangeAt Go.RowKit Go.Joins
open Go.ChangeMaps (open_string shut_string)
set_option linter.unusedVariables false
theorem plainOrders_own : ownKnob Try.prog.godebug = none := by kernel_rfl
theorem plainOrders_laidOut : laidOutB Try.prog = true := by kernel_rfl
set_option maxRecDepth 100000 in
set_option maxHeartbeats 1600000 in
theorem plainOrders_lifted (os : Os) (started : os.Started) (H : Type) (enc : TypeId × Value → H) :
    ReturnsInHanded {} Try.checked os 7 .any (Rows.plainOrdersSpec.pre6 enc Try.prog Try.f7 Rows.plainOrdersRow.domain false) (Rows.plainOrdersSpec.post enc Try.prog Try.f7 false true false false) := by
  refine returnsInHanded_of_change (C := Try.checked) plainOrders_own started (by kernel_rfl) Try.func7
    (ChangeSpec.witness6 (enc := enc) (C := Try.checked) false ⟨#[], #[.agg #[.int .i64 0, .int .i64 0, .int .i64 0, .int .i64 0, .int .i64 0, .int .i64 0, .int .i64 0], .agg #[.int .i64 0, .int .i64 0, .int .i64 0, .int .i64 0, .int .i64 0, .int .i64 0, .int .i64 0], .agg #[.int .i64 0, .int .u64 0]], []⟩ 8 (by kernel_rfl) (by kernel_rfl) (by kernel_rfl) (by kernel_rfl)) ?_
  intro W base args ds gs before hval0 hW hcnd _
  have hval : ∀ (j : Nat) t v, Try.f7.params[j]? = some t → args[j]? = some v → Value.okWide Try.prog W .any base t v := hval0
  have hW' := hW
  obtain ⟨p, q, hA0, hV, rfl, hfz, hnd⟩ := hW
  have hA : DataW.TrodAll enc Try.prog W 0 (fun _ => true) true Try.f7.params.toList args.toList ds p := hA0
  rw [Try.params7] at hA hval
  obtain ⟨v0, vs0, d0, ds0, p0, q0, hargs, rfl, rfl, h0, r0⟩ := trodAll_cons hA
  obtain ⟨v1, vs1, d1, ds1, p1, q1, rfl, rfl, rfl, h1, r1⟩ := trodAll_cons r0
  obtain ⟨v2, vs2, d2, ds2, p2, q2, rfl, rfl, rfl, h2, r2⟩ := trodAll_cons r1
  obtain ⟨rfl, rfl, rfl⟩ := trodAll_nil r2
  obtain rfl : args = #[v0, v1, v2] := by cases args; simp_all
  obtain ⟨rfl, rfl⟩ := trodVars_none hV
  have k0 := h0
  have lt0 : ∀ x ∈ p0, x.block < W.heap.size := by obtain ⟨m, hm⟩ := k0; exact DataW.trod_lt m _ _ _ hm
  obtain ⟨xs0, rfl, hl0, hx0⟩ := ints_in (n := 7) (by omega) (by kernel_rfl : intRow Try.prog 35 7 = true) (hval 0 35 v0 rfl rfl)
  obtain ⟨t0a, t0b, t0c, t0d, t0e, t0f, t0g, rfl⟩ := list7 hl0
  have k1 := h1
  have lt1 : ∀ x ∈ p1, x.block < W.heap.size := by obtain ⟨m, hm⟩ := k1; exact DataW.trod_lt m _ _ _ hm
  obtain ⟨xs1, rfl, hl1, hx1⟩ := ints_in (n := 7) (by omega) (by kernel_rfl : intRow Try.prog 35 7 = true) (hval 1 35 v1 rfl rfl)
  obtain ⟨t1a, t1b, t1c, t1d, t1e, t1f, t1g, rfl⟩ := list7 hl1
  have k2 := h2
  have lt2 : ∀ x ∈ p2, x.block < W.heap.size := by obtain ⟨m, hm⟩ := k2; exact DataW.trod_lt m _ _ _ hm
  obtain ⟨c2, e2, y2, z2, m2, rfl, rfl, rfl, hy2, hz2⟩ := open_agg2 Try.underlying38 (by kernel_rfl) (by kernel_rfl) (hval 2 38 v2 rfl rfl) h2
  obtain ⟨a2, e0, rfl, wa2⟩ := DataW.trod_int Try.underlying2 hy2
  obtain ⟨b2, e1, rfl, wb2⟩ := DataW.trod_int Try.underlying36 hz2
  simp at e0 e1
  subst e0 e1
  obtain ⟨n2, hn2, rfl, rfl⟩ := wide_in wa2 wb2
  clear hA0 hval0
  refine (law_pord t0a t0b t0c t0d t0e t0f t0g t1a t1b t1c t1d t1e t1f t1g n2 W hn2).mono fun e W' ⟨he, bel⟩ => ?_
  subst he
  exact ⟨_, rfl, _, _, _, [], _, [], hW', trodAll_mk1 (shut_bool Try.underlying4 _), (trodAll_cons_mk (Below.trod plainOrders_laidOut (by kernel_rfl) (of_decide_eq_true (by kernel_rfl)) k0 bel lt0) (trodAll_cons_mk (Below.trod plainOrders_laidOut (by kernel_rfl) (of_decide_eq_true (by kernel_rfl)) k1 bel lt1) (trodAll_cons_mk (Below.trod plainOrders_laidOut (by kernel_rfl) (of_decide_eq_true (by kernel_rfl)) k2 bel lt2) trodAll_mk0))), rfl, Below.frame bel _, fun h => by cases h⟩

theorem plainOrders_facts : joinedFacts Try.prog 7 Try.f7 Rows.plainOrdersSpec Rows.plainOrdersRow = true := by
  unfold joinedFacts
  rw [head_lifts, head_may, head_make]
  kernel_rfl
theorem plainOrders_over : Rows.plainOrdersRow.holds Try.pinned (OpenSpec.ofChange Rows.plainOrdersSpec) :=
  OpenClaim.holds_of_wide 7 Try.f7 rfl rfl rfl rfl rfl rfl rfl ⟨rfl, rfl, rfl, rfl, rfl⟩ rfl rfl rfl rfl rfl (by kernel_rfl) Try.func7 plainOrders_facts
    (of_decide_eq_true (by kernel_rfl)) (by unfold Func.isWrapper; first | (rw [if_pos (by decide +kernel)]; kernel_rfl) | (rw [if_neg (by decide +kernel)]; exact ⟨rfl, rfl⟩))
    (fun os started H enc _ => plainOrders_lifted os started H enc)

theorem plainOrders_proved : Rows.PlainOrdersSaid := plainOrders_over
#print axioms plainOrders_proved
end Go.Proofs.Ytcndfpfjckkinaa
