/-
  The law DivideRests, walked.
-/
import Derived.Test.YtmkddcmfofabbaaFw
import Derived.Test.YtmkddcmfofabbaaGf
set_option linter.unusedVariables false
set_option maxRecDepth 100000
namespace Go.Proofs.Ytmkddcmfofabbaa
open Go Go.RowKit Go.Ev

theorem rest_no {a b : Int} (ha : W128 a) (hb : W128 b) (h0 : b ≠ 0) (h : ¬ W128 (a.tdiv b)) : b = -1 ∧ ¬ W128 (a.fdiv b) := by
  have e := tdiv_nat (a := a) (b := b)
  obtain ⟨k1, k2, k3⟩ := tdm (a := a) h0
  have h1 : b.natAbs = 1 := by
    by_cases h2 : 2 ≤ b.natAbs
    · have h3 : a.natAbs / b.natAbs ≤ a.natAbs / 2 := Nat.div_le_div_left h2 (by omega)
      unfold W128 at *; omega
    · omega
  have hb1 : b = 1 ∨ b = -1 := by omega
  rcases hb1 with rfl | rfl
  · rw [Int.tdiv_one] at h; exact absurd ha h
  · refine ⟨rfl, ?_⟩
    have hz : a.tmod (-1) = 0 := by omega
    rw [(floor_same h0 (Or.inl hz)).1]; exact h
theorem rest_yes {a b : Int} (ha : W128 a) (hb : W128 b) (h0 : b ≠ 0) (h : W128 (a.tdiv b)) : W128 (a.fdiv b) := by
  by_cases hs : a.tmod b = 0 ∨ (a.tmod b < 0 ↔ b < 0)
  · rw [(floor_same h0 hs).1]; exact h
  · have hr : a.tmod b ≠ 0 := fun e => hs (Or.inl e)
    rw [(floor_less h0 hr (fun e => hs (Or.inr e))).1]
    have e := tdiv_nat (a := a) (b := b)
    obtain ⟨k1, k2, k3⟩ := tdm (a := a) h0
    have h2 : 2 ≤ b.natAbs := by omega
    have h3 : a.natAbs / b.natAbs ≤ a.natAbs / 2 := Nat.div_le_div_left h2 (by omega)
    unfold W128 at *; omega
theorem rest_sign1 {a b : Int} (h0 : b ≠ 0) (hr : ¬ a.fmod b = 0) : cmpI (a.fmod b) 0 = cmpI b 0 := by
  by_cases h : 0 < b
  · have h1 := Int.fmod_eq_emod_of_nonneg a (show 0 ≤ b by omega)
    have := Int.emod_nonneg a h0
    rw [cmpI_gt (show 0 < a.fmod b by omega), cmpI_gt h]
  · have h2 : a.fmod b ≤ 0 := by
      obtain ⟨k1, k2, k3⟩ := tdm (a := a) h0
      by_cases hs : a.tmod b = 0 ∨ (a.tmod b < 0 ↔ b < 0)
      · rw [(floor_same h0 hs).2]; omega
      · rw [(floor_less h0 (fun e => hs (Or.inl e)) (fun e => hs (Or.inr e))).2]; omega
    rw [cmpI_lt (show a.fmod b < 0 by omega), cmpI_lt (show b < 0 by omega)]
theorem rest_sign2 {a b : Int} (h0 : b ≠ 0) (hr : ¬ a.tmod b = 0) : cmpI (a.tmod b) 0 = cmpI a 0 := by
  by_cases h : 0 ≤ a
  · have h1 := Int.tmod_nonneg b h
    have h2 : a ≠ 0 := fun e => hr (by rw [e]; exact Int.zero_tmod b)
    rw [cmpI_gt (show 0 < a.tmod b by omega), cmpI_gt (show 0 < a by omega)]
  · have h1 := Int.neg_tmod (-a) b
    rw [Int.neg_neg] at h1
    have h2 := Int.tmod_nonneg b (show 0 ≤ -a by omega)
    rw [cmpI_lt (show a.tmod b < 0 by omega), cmpI_lt (show a < 0 by omega)]
theorem falive3 : Fn 58 [] [] (.bool true) := fn1 fun w => alive3 w
theorem rests_0 (a : Int) (ha : W128 a) : Fn 14 [] [wv a, wv 0] (.bool true) := by
  have h0 : W128 0 := by unfold W128; omega
  refine fn_of Try.func14 rfl fun w => ?_
  refine st_g ent35 (frof (a) (by assumption)) sub0 (by kernel_rfl) (fun zq0 => ?_)
  refine st_g ent35 (frof (0) (by assumption)) sub0 (by kernel_rfl) (fun zq1 => ?_)
  refine st_round (by kernel_rfl) ?_
  refine st_fn ent56 (dfloor_zero (a) (by assumption)) sub0 (by kernel_rfl) ?_
  refine st_fn ent38 (wsign_fn (0)) sub0 (by kernel_rfl) ?_
  refine st_fn ent38 (wsign_fn (0)) sub0 (by kernel_rfl) ?_
  refine st_i 21 .i64 (x' := 0 + 1) (Go.IntWalk.i64_in _ (by omega)) (by kernel_rfl) ?_
  refine st_round (by kernel_rfl) ?_
  refine st_fn ent56 (dfloor_zero (a) (by assumption)) sub0 (by kernel_rfl) ?_
  refine st_fn ent59 (dtrunc_zero (a) (by assumption)) sub0 (by kernel_rfl) ?_
  refine st_fn ent38 (wsign_fn (0)) sub0 (by kernel_rfl) ?_
  refine st_fn ent38 (wsign_fn (0)) sub0 (by kernel_rfl) ?_
  refine st_i 21 .i64 (x' := 0 + 1 + 1) (Go.IntWalk.i64_in _ (by omega)) (by kernel_rfl) ?_
  refine st_round (by kernel_rfl) ?_
  refine st_fn ent58 (falive3) sub0 (by kernel_rfl) ?_
  exact st_ret Try.func14 (by kernel_rfl)
theorem rests_no (a : Int) (ha : W128 a) (h1 : ¬ W128 (a.fdiv (-1))) (h2 : ¬ W128 (a.tdiv (-1))) : Fn 14 [] [wv a, wv (-1)] (.bool true) := by
  have h0 : W128 (-1) := by unfold W128; omega
  refine fn_of Try.func14 rfl fun w => ?_
  refine st_g ent35 (frof (a) (by assumption)) sub0 (by kernel_rfl) (fun zq0 => ?_)
  refine st_g ent35 (frof (-1) (by assumption)) sub0 (by kernel_rfl) (fun zq1 => ?_)
  refine st_round (by kernel_rfl) ?_
  refine st_fn ent56 (dfloor_no (a) (-1) (by assumption) (by assumption) (by omega) (by assumption)) sub0 (by kernel_rfl) ?_
  refine st_fn ent38 (wsign_fn (-1)) sub0 (by kernel_rfl) ?_
  refine st_fn ent38 (wsign_fn (-1)) sub0 (by kernel_rfl) ?_
  refine st_fn ent32 (wof_fn (-1) (by (unfold I64; omega))) sub0 (by kernel_rfl) ?_
  refine st_i 21 .i64 (x' := 0 + 1) (Go.IntWalk.i64_in _ (by omega)) (by kernel_rfl) ?_
  refine st_round (by kernel_rfl) ?_
  refine st_fn ent56 (dfloor_no (a) (-1) (by assumption) (by assumption) (by omega) (by assumption)) sub0 (by kernel_rfl) ?_
  refine st_fn ent59 (dtrunc_no (a) (-1) (by assumption) (by assumption) (by omega) (by assumption)) sub0 (by kernel_rfl) ?_
  refine st_fn ent38 (wsign_fn (-1)) sub0 (by kernel_rfl) ?_
  refine st_fn ent38 (wsign_fn (-1)) sub0 (by kernel_rfl) ?_
  refine st_fn ent32 (wof_fn (-1) (by (unfold I64; omega))) sub0 (by kernel_rfl) ?_
  refine st_i 21 .i64 (x' := 0 + 1 + 1) (Go.IntWalk.i64_in _ (by omega)) (by kernel_rfl) ?_
  refine st_round (by kernel_rfl) ?_
  refine st_fn ent58 (falive3) sub0 (by kernel_rfl) ?_
  exact st_ret Try.func14 (by kernel_rfl)
theorem rests_yes (a b : Int) (ha : W128 a) (hb : W128 b) (h0 : b ≠ 0) (q1 : W128 (a.fdiv b)) (q2 : W128 (a.tdiv b)) (r1 : W128 (a.fmod b)) (r2 : W128 (a.tmod b))
    (c1 : cmpI (a.fdiv b * b + a.fmod b) a = 0) (c2 : cmpI (a.tdiv b * b + a.tmod b) a = 0) (d1 : cmpI ((a.fmod b).natAbs : Int) (b.natAbs : Int) = -1) (d2 : cmpI ((a.tmod b).natAbs : Int) (b.natAbs : Int) = -1)
    (s1 : cmpI (a.fmod b) 0 = 0 ∨ (cmpI (a.fmod b) 0 ≠ 0 ∧ cmpI (a.fmod b) 0 = cmpI b 0)) (s2 : cmpI (a.tmod b) 0 = 0 ∨ (cmpI (a.tmod b) 0 ≠ 0 ∧ cmpI (a.tmod b) 0 = cmpI a 0)) :
    Fn 14 [] [wv a, wv b] (.bool true) := by
  rcases s1 with s1 | ⟨s1, t1⟩
  · rcases s2 with s2 | ⟨s2, t2⟩
    · refine fn_of Try.func14 rfl fun w => ?_
      refine st_g ent35 (frof (a) (by assumption)) sub0 (by kernel_rfl) (fun zq0 => ?_)
      refine st_g ent35 (frof (b) (by assumption)) sub0 (by kernel_rfl) (fun zq1 => ?_)
      refine st_round (by kernel_rfl) ?_
      refine st_fn ent56 (dfloor_yes (a) (b) (by assumption) (by assumption) (by assumption) (by assumption)) sub0 (by kernel_rfl) ?_
      refine st_g ent35 (frof (a.fmod b) (by assumption)) sub0 (by kernel_rfl) (fun zq3 => ?_)
      refine st_g ent35 (frof (a.fdiv b) (by assumption)) sub0 (by kernel_rfl) (fun zq4 => ?_)
      refine st_g ent41 (fzmul (zq4) (zq1) (a.fdiv b) (b) (by exact Bits.fit q1.bits (by decide)) (by exact Bits.fit hb.bits (by decide))) (subC 0 rfl (subC 2 rfl sub0)) (by kernel_rfl) (fun zq5 => ?_)
      refine st_g ent46 (fzadd (zq5) (zq3) (a.fdiv b * b) (a.fmod b) (by exact Bits.fit (Bits.mul q1.bits hb.bits) (by decide)) (by exact Bits.fit r1.bits (by decide))) (subC 0 rfl (subC 2 rfl sub0)) (by kernel_rfl) (fun zq6 => ?_)
      refine st_fn ent38 (wsign_fn (b)) sub0 (by kernel_rfl) ?_
      refine st_fn ent37 (fzcmp (zq6) (zq0) (a.fdiv b * b + a.fmod b) (a) (by exact Bits.fit (Bits.add (Bits.mono (l := 256) (Bits.mul q1.bits hb.bits) (by decide)) (Bits.mono (l := 256) r1.bits (by decide))) (by decide)) (by exact Bits.fit ha.bits (by decide))) (subC 0 rfl (subC 5 rfl sub0)) (by kernel_rfl) ?_
      refine st_b 78 (show (cmpI (a.fdiv b * b + a.fmod b) a != 0) = false by exact bne_eq_false_iff_eq.2 (by omega)) (by kernel_rfl) ?_
      refine st_g ent64 (fzabs (zq3) (a.fmod b) (by exact Bits.fit r1.bits (by decide))) (subC 3 rfl sub0) (by kernel_rfl) (fun zq9 => ?_)
      refine st_g ent64 (fzabs (zq1) (b) (by exact Bits.fit hb.bits (by decide))) (subC 5 rfl sub0) (by kernel_rfl) (fun zq10 => ?_)
      refine st_fn ent37 (fzcmp (zq9) (zq10) (↑(a.fmod b).natAbs) (↑b.natAbs) (by exact Bits.fit (Bits.abs r1.bits) (by decide)) (by exact Bits.fit (Bits.abs hb.bits) (by decide))) (subC 1 rfl (subC 0 rfl sub0)) (by kernel_rfl) ?_
      refine st_b 85 (show (decide (cmpI ↑(a.fmod b).natAbs ↑b.natAbs ≥ 0)) = false by exact decide_eq_false (by omega)) (by kernel_rfl) ?_
      refine st_fn ent38 (wsign_fn (a.fmod b)) sub0 (by kernel_rfl) ?_
      refine st_b 90 (show (cmpI (a.fmod b) 0 != 0) = false by exact bne_eq_false_iff_eq.2 (by omega)) (by kernel_rfl) ?_
      refine st_i 21 .i64 (x' := 0 + 1) (Go.IntWalk.i64_in _ (by omega)) (by kernel_rfl) ?_
      refine st_round (by kernel_rfl) ?_
      refine st_fn ent56 (dfloor_yes (a) (b) (by assumption) (by assumption) (by assumption) (by assumption)) sub0 (by kernel_rfl) ?_
      refine st_fn ent59 (dtrunc_yes (a) (b) (by assumption) (by assumption) (by assumption) (by assumption)) sub0 (by kernel_rfl) ?_
      refine st_g ent35 (frof (a.tmod b) (by assumption)) sub0 (by kernel_rfl) (fun zq15 => ?_)
      refine st_g ent35 (frof (a.tdiv b) (by assumption)) sub0 (by kernel_rfl) (fun zq16 => ?_)
      refine st_g ent41 (fzmul (zq16) (zq1) (a.tdiv b) (b) (by exact Bits.fit q2.bits (by decide)) (by exact Bits.fit hb.bits (by decide))) (subC 0 rfl (subC 8 rfl sub0)) (by kernel_rfl) (fun zq17 => ?_)
      refine st_g ent46 (fzadd (zq17) (zq15) (a.tdiv b * b) (a.tmod b) (by exact Bits.fit (Bits.mul q2.bits hb.bits) (by decide)) (by exact Bits.fit r2.bits (by decide))) (subC 0 rfl (subC 2 rfl sub0)) (by kernel_rfl) (fun zq18 => ?_)
      refine st_fn ent38 (wsign_fn (b)) sub0 (by kernel_rfl) ?_
      refine st_fn ent38 (wsign_fn (a)) sub0 (by kernel_rfl) ?_
      refine st_fn ent37 (fzcmp (zq18) (zq0) (a.tdiv b * b + a.tmod b) (a) (by exact Bits.fit (Bits.add (Bits.mono (l := 256) (Bits.mul q2.bits hb.bits) (by decide)) (Bits.mono (l := 256) r2.bits (by decide))) (by decide)) (by exact Bits.fit ha.bits (by decide))) (subC 0 rfl (subC 11 rfl sub0)) (by kernel_rfl) ?_
      refine st_b 78 (show (cmpI (a.tdiv b * b + a.tmod b) a != 0) = false by exact bne_eq_false_iff_eq.2 (by omega)) (by kernel_rfl) ?_
      refine st_g ent64 (fzabs (zq15) (a.tmod b) (by exact Bits.fit r2.bits (by decide))) (subC 3 rfl sub0) (by kernel_rfl) (fun zq22 => ?_)
      refine st_g ent64 (fzabs (zq1) (b) (by exact Bits.fit hb.bits (by decide))) (subC 11 rfl sub0) (by kernel_rfl) (fun zq23 => ?_)
      refine st_fn ent37 (fzcmp (zq22) (zq23) (↑(a.tmod b).natAbs) (↑b.natAbs) (by exact Bits.fit (Bits.abs r2.bits) (by decide)) (by exact Bits.fit (Bits.abs hb.bits) (by decide))) (subC 1 rfl (subC 0 rfl sub0)) (by kernel_rfl) ?_
      refine st_b 85 (show (decide (cmpI ↑(a.tmod b).natAbs ↑b.natAbs ≥ 0)) = false by exact decide_eq_false (by omega)) (by kernel_rfl) ?_
      refine st_fn ent38 (wsign_fn (a.tmod b)) sub0 (by kernel_rfl) ?_
      refine st_b 90 (show (cmpI (a.tmod b) 0 != 0) = false by exact bne_eq_false_iff_eq.2 (by omega)) (by kernel_rfl) ?_
      refine st_i 21 .i64 (x' := 0 + 1 + 1) (Go.IntWalk.i64_in _ (by omega)) (by kernel_rfl) ?_
      refine st_round (by kernel_rfl) ?_
      refine st_fn ent58 (falive3) sub0 (by kernel_rfl) ?_
      exact st_ret Try.func14 (by kernel_rfl)
    · refine fn_of Try.func14 rfl fun w => ?_
      refine st_g ent35 (frof (a) (by assumption)) sub0 (by kernel_rfl) (fun zq0 => ?_)
      refine st_g ent35 (frof (b) (by assumption)) sub0 (by kernel_rfl) (fun zq1 => ?_)
      refine st_round (by kernel_rfl) ?_
      refine st_fn ent56 (dfloor_yes (a) (b) (by assumption) (by assumption) (by assumption) (by assumption)) sub0 (by kernel_rfl) ?_
      refine st_g ent35 (frof (a.fmod b) (by assumption)) sub0 (by kernel_rfl) (fun zq3 => ?_)
      refine st_g ent35 (frof (a.fdiv b) (by assumption)) sub0 (by kernel_rfl) (fun zq4 => ?_)
      refine st_g ent41 (fzmul (zq4) (zq1) (a.fdiv b) (b) (by exact Bits.fit q1.bits (by decide)) (by exact Bits.fit hb.bits (by decide))) (subC 0 rfl (subC 2 rfl sub0)) (by kernel_rfl) (fun zq5 => ?_)
      refine st_g ent46 (fzadd (zq5) (zq3) (a.fdiv b * b) (a.fmod b) (by exact Bits.fit (Bits.mul q1.bits hb.bits) (by decide)) (by exact Bits.fit r1.bits (by decide))) (subC 0 rfl (subC 2 rfl sub0)) (by kernel_rfl) (fun zq6 => ?_)
      refine st_fn ent38 (wsign_fn (b)) sub0 (by kernel_rfl) ?_
      refine st_fn ent37 (fzcmp (zq6) (zq0) (a.fdiv b * b + a.fmod b) (a) (by exact Bits.fit (Bits.add (Bits.mono (l := 256) (Bits.mul q1.bits hb.bits) (by decide)) (Bits.mono (l := 256) r1.bits (by decide))) (by decide)) (by exact Bits.fit ha.bits (by decide))) (subC 0 rfl (subC 5 rfl sub0)) (by kernel_rfl) ?_
      refine st_b 78 (show (cmpI (a.fdiv b * b + a.fmod b) a != 0) = false by exact bne_eq_false_iff_eq.2 (by omega)) (by kernel_rfl) ?_
      refine st_g ent64 (fzabs (zq3) (a.fmod b) (by exact Bits.fit r1.bits (by decide))) (subC 3 rfl sub0) (by kernel_rfl) (fun zq9 => ?_)
      refine st_g ent64 (fzabs (zq1) (b) (by exact Bits.fit hb.bits (by decide))) (subC 5 rfl sub0) (by kernel_rfl) (fun zq10 => ?_)
      refine st_fn ent37 (fzcmp (zq9) (zq10) (↑(a.fmod b).natAbs) (↑b.natAbs) (by exact Bits.fit (Bits.abs r1.bits) (by decide)) (by exact Bits.fit (Bits.abs hb.bits) (by decide))) (subC 1 rfl (subC 0 rfl sub0)) (by kernel_rfl) ?_
      refine st_b 85 (show (decide (cmpI ↑(a.fmod b).natAbs ↑b.natAbs ≥ 0)) = false by exact decide_eq_false (by omega)) (by kernel_rfl) ?_
      refine st_fn ent38 (wsign_fn (a.fmod b)) sub0 (by kernel_rfl) ?_
      refine st_b 90 (show (cmpI (a.fmod b) 0 != 0) = false by exact bne_eq_false_iff_eq.2 (by omega)) (by kernel_rfl) ?_
      refine st_i 21 .i64 (x' := 0 + 1) (Go.IntWalk.i64_in _ (by omega)) (by kernel_rfl) ?_
      refine st_round (by kernel_rfl) ?_
      refine st_fn ent56 (dfloor_yes (a) (b) (by assumption) (by assumption) (by assumption) (by assumption)) sub0 (by kernel_rfl) ?_
      refine st_fn ent59 (dtrunc_yes (a) (b) (by assumption) (by assumption) (by assumption) (by assumption)) sub0 (by kernel_rfl) ?_
      refine st_g ent35 (frof (a.tmod b) (by assumption)) sub0 (by kernel_rfl) (fun zq15 => ?_)
      refine st_g ent35 (frof (a.tdiv b) (by assumption)) sub0 (by kernel_rfl) (fun zq16 => ?_)
      refine st_g ent41 (fzmul (zq16) (zq1) (a.tdiv b) (b) (by exact Bits.fit q2.bits (by decide)) (by exact Bits.fit hb.bits (by decide))) (subC 0 rfl (subC 8 rfl sub0)) (by kernel_rfl) (fun zq17 => ?_)
      refine st_g ent46 (fzadd (zq17) (zq15) (a.tdiv b * b) (a.tmod b) (by exact Bits.fit (Bits.mul q2.bits hb.bits) (by decide)) (by exact Bits.fit r2.bits (by decide))) (subC 0 rfl (subC 2 rfl sub0)) (by kernel_rfl) (fun zq18 => ?_)
      refine st_fn ent38 (wsign_fn (b)) sub0 (by kernel_rfl) ?_
      refine st_fn ent38 (wsign_fn (a)) sub0 (by kernel_rfl) ?_
      refine st_fn ent37 (fzcmp (zq18) (zq0) (a.tdiv b * b + a.tmod b) (a) (by exact Bits.fit (Bits.add (Bits.mono (l := 256) (Bits.mul q2.bits hb.bits) (by decide)) (Bits.mono (l := 256) r2.bits (by decide))) (by decide)) (by exact Bits.fit ha.bits (by decide))) (subC 0 rfl (subC 11 rfl sub0)) (by kernel_rfl) ?_
      refine st_b 78 (show (cmpI (a.tdiv b * b + a.tmod b) a != 0) = false by exact bne_eq_false_iff_eq.2 (by omega)) (by kernel_rfl) ?_
      refine st_g ent64 (fzabs (zq15) (a.tmod b) (by exact Bits.fit r2.bits (by decide))) (subC 3 rfl sub0) (by kernel_rfl) (fun zq22 => ?_)
      refine st_g ent64 (fzabs (zq1) (b) (by exact Bits.fit hb.bits (by decide))) (subC 11 rfl sub0) (by kernel_rfl) (fun zq23 => ?_)
      refine st_fn ent37 (fzcmp (zq22) (zq23) (↑(a.tmod b).natAbs) (↑b.natAbs) (by exact Bits.fit (Bits.abs r2.bits) (by decide)) (by exact Bits.fit (Bits.abs hb.bits) (by decide))) (subC 1 rfl (subC 0 rfl sub0)) (by kernel_rfl) ?_
      refine st_b 85 (show (decide (cmpI ↑(a.tmod b).natAbs ↑b.natAbs ≥ 0)) = false by exact decide_eq_false (by omega)) (by kernel_rfl) ?_
      refine st_fn ent38 (wsign_fn (a.tmod b)) sub0 (by kernel_rfl) ?_
      refine st_b 90 (show (cmpI (a.tmod b) 0 != 0) = true by exact bne_iff_ne.2 (by omega)) (by kernel_rfl) ?_
      refine st_fn ent38 (wsign_fn (a.tmod b)) sub0 (by kernel_rfl) ?_
      refine st_b 95 (show (cmpI (a.tmod b) 0 != cmpI a 0) = false by exact bne_eq_false_iff_eq.2 (by omega)) (by kernel_rfl) ?_
      refine st_i 21 .i64 (x' := 0 + 1 + 1) (Go.IntWalk.i64_in _ (by omega)) (by kernel_rfl) ?_
      refine st_round (by kernel_rfl) ?_
      refine st_fn ent58 (falive3) sub0 (by kernel_rfl) ?_
      exact st_ret Try.func14 (by kernel_rfl)
  · rcases s2 with s2 | ⟨s2, t2⟩
    · refine fn_of Try.func14 rfl fun w => ?_
      refine st_g ent35 (frof (a) (by assumption)) sub0 (by kernel_rfl) (fun zq0 => ?_)
      refine st_g ent35 (frof (b) (by assumption)) sub0 (by kernel_rfl) (fun zq1 => ?_)
      refine st_round (by kernel_rfl) ?_
      refine st_fn ent56 (dfloor_yes (a) (b) (by assumption) (by assumption) (by assumption) (by assumption)) sub0 (by kernel_rfl) ?_
      refine st_g ent35 (frof (a.fmod b) (by assumption)) sub0 (by kernel_rfl) (fun zq3 => ?_)
      refine st_g ent35 (frof (a.fdiv b) (by assumption)) sub0 (by kernel_rfl) (fun zq4 => ?_)
      refine st_g ent41 (fzmul (zq4) (zq1) (a.fdiv b) (b) (by exact Bits.fit q1.bits (by decide)) (by exact Bits.fit hb.bits (by decide))) (subC 0 rfl (subC 2 rfl sub0)) (by kernel_rfl) (fun zq5 => ?_)
      refine st_g ent46 (fzadd (zq5) (zq3) (a.fdiv b * b) (a.fmod b) (by exact Bits.fit (Bits.mul q1.bits hb.bits) (by decide)) (by exact Bits.fit r1.bits (by decide))) (subC 0 rfl (subC 2 rfl sub0)) (by kernel_rfl) (fun zq6 => ?_)
      refine st_fn ent38 (wsign_fn (b)) sub0 (by kernel_rfl) ?_
      refine st_fn ent37 (fzcmp (zq6) (zq0) (a.fdiv b * b + a.fmod b) (a) (by exact Bits.fit (Bits.add (Bits.mono (l := 256) (Bits.mul q1.bits hb.bits) (by decide)) (Bits.mono (l := 256) r1.bits (by decide))) (by decide)) (by exact Bits.fit ha.bits (by decide))) (subC 0 rfl (subC 5 rfl sub0)) (by kernel_rfl) ?_
      refine st_b 78 (show (cmpI (a.fdiv b * b + a.fmod b) a != 0) = false by exact bne_eq_false_iff_eq.2 (by omega)) (by kernel_rfl) ?_
      refine st_g ent64 (fzabs (zq3) (a.fmod b) (by exact Bits.fit r1.bits (by decide))) (subC 3 rfl sub0) (by kernel_rfl) (fun zq9 => ?_)
      refine st_g ent64 (fzabs (zq1) (b) (by exact Bits.fit hb.bits (by decide))) (subC 5 rfl sub0) (by kernel_rfl) (fun zq10 => ?_)
      refine st_fn ent37 (fzcmp (zq9) (zq10) (↑(a.fmod b).natAbs) (↑b.natAbs) (by exact Bits.fit (Bits.abs r1.bits) (by decide)) (by exact Bits.fit (Bits.abs hb.bits) (by decide))) (subC 1 rfl (subC 0 rfl sub0)) (by kernel_rfl) ?_
      refine st_b 85 (show (decide (cmpI ↑(a.fmod b).natAbs ↑b.natAbs ≥ 0)) = false by exact decide_eq_false (by omega)) (by kernel_rfl) ?_
      refine st_fn ent38 (wsign_fn (a.fmod b)) sub0 (by kernel_rfl) ?_
      refine st_b 90 (show (cmpI (a.fmod b) 0 != 0) = true by exact bne_iff_ne.2 (by omega)) (by kernel_rfl) ?_
      refine st_fn ent38 (wsign_fn (a.fmod b)) sub0 (by kernel_rfl) ?_
      refine st_b 95 (show (cmpI (a.fmod b) 0 != cmpI b 0) = false by exact bne_eq_false_iff_eq.2 (by omega)) (by kernel_rfl) ?_
      refine st_i 21 .i64 (x' := 0 + 1) (Go.IntWalk.i64_in _ (by omega)) (by kernel_rfl) ?_
      refine st_round (by kernel_rfl) ?_
      refine st_fn ent56 (dfloor_yes (a) (b) (by assumption) (by assumption) (by assumption) (by assumption)) sub0 (by kernel_rfl) ?_
      refine st_fn ent59 (dtrunc_yes (a) (b) (by assumption) (by assumption) (by assumption) (by assumption)) sub0 (by kernel_rfl) ?_
      refine st_g ent35 (frof (a.tmod b) (by assumption)) sub0 (by kernel_rfl) (fun zq16 => ?_)
      refine st_g ent35 (frof (a.tdiv b) (by assumption)) sub0 (by kernel_rfl) (fun zq17 => ?_)
      refine st_g ent41 (fzmul (zq17) (zq1) (a.tdiv b) (b) (by exact Bits.fit q2.bits (by decide)) (by exact Bits.fit hb.bits (by decide))) (subC 0 rfl (subC 8 rfl sub0)) (by kernel_rfl) (fun zq18 => ?_)
      refine st_g ent46 (fzadd (zq18) (zq16) (a.tdiv b * b) (a.tmod b) (by exact Bits.fit (Bits.mul q2.bits hb.bits) (by decide)) (by exact Bits.fit r2.bits (by decide))) (subC 0 rfl (subC 2 rfl sub0)) (by kernel_rfl) (fun zq19 => ?_)
      refine st_fn ent38 (wsign_fn (b)) sub0 (by kernel_rfl) ?_
      refine st_fn ent38 (wsign_fn (a)) sub0 (by kernel_rfl) ?_
      refine st_fn ent37 (fzcmp (zq19) (zq0) (a.tdiv b * b + a.tmod b) (a) (by exact Bits.fit (Bits.add (Bits.mono (l := 256) (Bits.mul q2.bits hb.bits) (by decide)) (Bits.mono (l := 256) r2.bits (by decide))) (by decide)) (by exact Bits.fit ha.bits (by decide))) (subC 0 rfl (subC 11 rfl sub0)) (by kernel_rfl) ?_
      refine st_b 78 (show (cmpI (a.tdiv b * b + a.tmod b) a != 0) = false by exact bne_eq_false_iff_eq.2 (by omega)) (by kernel_rfl) ?_
      refine st_g ent64 (fzabs (zq16) (a.tmod b) (by exact Bits.fit r2.bits (by decide))) (subC 3 rfl sub0) (by kernel_rfl) (fun zq23 => ?_)
      refine st_g ent64 (fzabs (zq1) (b) (by exact Bits.fit hb.bits (by decide))) (subC 11 rfl sub0) (by kernel_rfl) (fun zq24 => ?_)
      refine st_fn ent37 (fzcmp (zq23) (zq24) (↑(a.tmod b).natAbs) (↑b.natAbs) (by exact Bits.fit (Bits.abs r2.bits) (by decide)) (by exact Bits.fit (Bits.abs hb.bits) (by decide))) (subC 1 rfl (subC 0 rfl sub0)) (by kernel_rfl) ?_
      refine st_b 85 (show (decide (cmpI ↑(a.tmod b).natAbs ↑b.natAbs ≥ 0)) = false by exact decide_eq_false (by omega)) (by kernel_rfl) ?_
      refine st_fn ent38 (wsign_fn (a.tmod b)) sub0 (by kernel_rfl) ?_
      refine st_b 90 (show (cmpI (a.tmod b) 0 != 0) = false by exact bne_eq_false_iff_eq.2 (by omega)) (by kernel_rfl) ?_
      refine st_i 21 .i64 (x' := 0 + 1 + 1) (Go.IntWalk.i64_in _ (by omega)) (by kernel_rfl) ?_
      refine st_round (by kernel_rfl) ?_
      refine st_fn ent58 (falive3) sub0 (by kernel_rfl) ?_
      exact st_ret Try.func14 (by kernel_rfl)
    · refine fn_of Try.func14 rfl fun w => ?_
      refine st_g ent35 (frof (a) (by assumption)) sub0 (by kernel_rfl) (fun zq0 => ?_)
      refine st_g ent35 (frof (b) (by assumption)) sub0 (by kernel_rfl) (fun zq1 => ?_)
      refine st_round (by kernel_rfl) ?_
      refine st_fn ent56 (dfloor_yes (a) (b) (by assumption) (by assumption) (by assumption) (by assumption)) sub0 (by kernel_rfl) ?_
      refine st_g ent35 (frof (a.fmod b) (by assumption)) sub0 (by kernel_rfl) (fun zq3 => ?_)
      refine st_g ent35 (frof (a.fdiv b) (by assumption)) sub0 (by kernel_rfl) (fun zq4 => ?_)
      refine st_g ent41 (fzmul (zq4) (zq1) (a.fdiv b) (b) (by exact Bits.fit q1.bits (by decide)) (by exact Bits.fit hb.bits (by decide))) (subC 0 rfl (subC 2 rfl sub0)) (by kernel_rfl) (fun zq5 => ?_)
      refine st_g ent46 (fzadd (zq5) (zq3) (a.fdiv b * b) (a.fmod b) (by exact Bits.fit (Bits.mul q1.bits hb.bits) (by decide)) (by exact Bits.fit r1.bits (by decide))) (subC 0 rfl (subC 2 rfl sub0)) (by kernel_rfl) (fun zq6 => ?_)
      refine st_fn ent38 (wsign_fn (b)) sub0 (by kernel_rfl) ?_
      refine st_fn ent37 (fzcmp (zq6) (zq0) (a.fdiv b * b + a.fmod b) (a) (by exact Bits.fit (Bits.add (Bits.mono (l := 256) (Bits.mul q1.bits hb.bits) (by decide)) (Bits.mono (l := 256) r1.bits (by decide))) (by decide)) (by exact Bits.fit ha.bits (by decide))) (subC 0 rfl (subC 5 rfl sub0)) (by kernel_rfl) ?_
      refine st_b 78 (show (cmpI (a.fdiv b * b + a.fmod b) a != 0) = false by exact bne_eq_false_iff_eq.2 (by omega)) (by kernel_rfl) ?_
      refine st_g ent64 (fzabs (zq3) (a.fmod b) (by exact Bits.fit r1.bits (by decide))) (subC 3 rfl sub0) (by kernel_rfl) (fun zq9 => ?_)
      refine st_g ent64 (fzabs (zq1) (b) (by exact Bits.fit hb.bits (by decide))) (subC 5 rfl sub0) (by kernel_rfl) (fun zq10 => ?_)
      refine st_fn ent37 (fzcmp (zq9) (zq10) (↑(a.fmod b).natAbs) (↑b.natAbs) (by exact Bits.fit (Bits.abs r1.bits) (by decide)) (by exact Bits.fit (Bits.abs hb.bits) (by decide))) (subC 1 rfl (subC 0 rfl sub0)) (by kernel_rfl) ?_
      refine st_b 85 (show (decide (cmpI ↑(a.fmod b).natAbs ↑b.natAbs ≥ 0)) = false by exact decide_eq_false (by omega)) (by kernel_rfl) ?_
      refine st_fn ent38 (wsign_fn (a.fmod b)) sub0 (by kernel_rfl) ?_
      refine st_b 90 (show (cmpI (a.fmod b) 0 != 0) = true by exact bne_iff_ne.2 (by omega)) (by kernel_rfl) ?_
      refine st_fn ent38 (wsign_fn (a.fmod b)) sub0 (by kernel_rfl) ?_
      refine st_b 95 (show (cmpI (a.fmod b) 0 != cmpI b 0) = false by exact bne_eq_false_iff_eq.2 (by omega)) (by kernel_rfl) ?_
      refine st_i 21 .i64 (x' := 0 + 1) (Go.IntWalk.i64_in _ (by omega)) (by kernel_rfl) ?_
      refine st_round (by kernel_rfl) ?_
      refine st_fn ent56 (dfloor_yes (a) (b) (by assumption) (by assumption) (by assumption) (by assumption)) sub0 (by kernel_rfl) ?_
      refine st_fn ent59 (dtrunc_yes (a) (b) (by assumption) (by assumption) (by assumption) (by assumption)) sub0 (by kernel_rfl) ?_
      refine st_g ent35 (frof (a.tmod b) (by assumption)) sub0 (by kernel_rfl) (fun zq16 => ?_)
      refine st_g ent35 (frof (a.tdiv b) (by assumption)) sub0 (by kernel_rfl) (fun zq17 => ?_)
      refine st_g ent41 (fzmul (zq17) (zq1) (a.tdiv b) (b) (by exact Bits.fit q2.bits (by decide)) (by exact Bits.fit hb.bits (by decide))) (subC 0 rfl (subC 8 rfl sub0)) (by kernel_rfl) (fun zq18 => ?_)
      refine st_g ent46 (fzadd (zq18) (zq16) (a.tdiv b * b) (a.tmod b) (by exact Bits.fit (Bits.mul q2.bits hb.bits) (by decide)) (by exact Bits.fit r2.bits (by decide))) (subC 0 rfl (subC 2 rfl sub0)) (by kernel_rfl) (fun zq19 => ?_)
      refine st_fn ent38 (wsign_fn (b)) sub0 (by kernel_rfl) ?_
      refine st_fn ent38 (wsign_fn (a)) sub0 (by kernel_rfl) ?_
      refine st_fn ent37 (fzcmp (zq19) (zq0) (a.tdiv b * b + a.tmod b) (a) (by exact Bits.fit (Bits.add (Bits.mono (l := 256) (Bits.mul q2.bits hb.bits) (by decide)) (Bits.mono (l := 256) r2.bits (by decide))) (by decide)) (by exact Bits.fit ha.bits (by decide))) (subC 0 rfl (subC 11 rfl sub0)) (by kernel_rfl) ?_
      refine st_b 78 (show (cmpI (a.tdiv b * b + a.tmod b) a != 0) = false by exact bne_eq_false_iff_eq.2 (by omega)) (by kernel_rfl) ?_
      refine st_g ent64 (fzabs (zq16) (a.tmod b) (by exact Bits.fit r2.bits (by decide))) (subC 3 rfl sub0) (by kernel_rfl) (fun zq23 => ?_)
      refine st_g ent64 (fzabs (zq1) (b) (by exact Bits.fit hb.bits (by decide))) (subC 11 rfl sub0) (by kernel_rfl) (fun zq24 => ?_)
      refine st_fn ent37 (fzcmp (zq23) (zq24) (↑(a.tmod b).natAbs) (↑b.natAbs) (by exact Bits.fit (Bits.abs r2.bits) (by decide)) (by exact Bits.fit (Bits.abs hb.bits) (by decide))) (subC 1 rfl (subC 0 rfl sub0)) (by kernel_rfl) ?_
      refine st_b 85 (show (decide (cmpI ↑(a.tmod b).natAbs ↑b.natAbs ≥ 0)) = false by exact decide_eq_false (by omega)) (by kernel_rfl) ?_
      refine st_fn ent38 (wsign_fn (a.tmod b)) sub0 (by kernel_rfl) ?_
      refine st_b 90 (show (cmpI (a.tmod b) 0 != 0) = true by exact bne_iff_ne.2 (by omega)) (by kernel_rfl) ?_
      refine st_fn ent38 (wsign_fn (a.tmod b)) sub0 (by kernel_rfl) ?_
      refine st_b 95 (show (cmpI (a.tmod b) 0 != cmpI a 0) = false by exact bne_eq_false_iff_eq.2 (by omega)) (by kernel_rfl) ?_
      refine st_i 21 .i64 (x' := 0 + 1 + 1) (Go.IntWalk.i64_in _ (by omega)) (by kernel_rfl) ?_
      refine st_round (by kernel_rfl) ?_
      refine st_fn ent58 (falive3) sub0 (by kernel_rfl) ?_
      exact st_ret Try.func14 (by kernel_rfl)
theorem W128.less {m n : Int} (h : W128 m) (k : n.natAbs < m.natAbs) : W128 n := by unfold W128 at *; omega
theorem law_rests (a b : Int) (w : World) (ha : W128 a) (hb : W128 b) :
    Calls Try.prog 14 #[.agg #[.int .i64 (hi a), .int .u64 (lo a)], .agg #[.int .i64 (hi b), .int .u64 (lo b)]] w (fun e w' => e = .returned (.bool true) ∧ Ext w w') := by
  by_cases h0 : b = 0
  · subst h0; exact rests_0 a ha w (zall_nil w)
  · by_cases hq : W128 (a.tdiv b)
    · have q1 := rest_yes ha hb h0 hq
      obtain ⟨k1, k2, k3⟩ := tdm (a := a) h0
      have k4 := fmod_lt (a := a) h0
      have e1 : a.fdiv b * b + a.fmod b = a := by have := Int.mul_fdiv_add_fmod a b; rw [Int.mul_comm] at this; exact this
      have e2 : a.tdiv b * b + a.tmod b = a := by rw [Int.mul_comm]; omega
      have sg : ∀ r s : Int, (¬ r = 0 → cmpI r 0 = cmpI s 0) → cmpI r 0 = 0 ∨ (cmpI r 0 ≠ 0 ∧ cmpI r 0 = cmpI s 0) := fun r s h => by
        by_cases hr : r = 0
        · left; subst hr; rfl
        · right; refine ⟨?_, h hr⟩; unfold cmpI; split <;> (try split) <;> omega
      exact rests_yes a b ha hb h0 q1 hq (hb.less k4) (hb.less k2) (by rw [e1]; unfold cmpI; simp) (by rw [e2]; unfold cmpI; simp) (cmpI_lt (by omega)) (cmpI_lt (by omega)) (sg _ _ (rest_sign1 h0)) (sg _ _ (rest_sign2 h0)) w (zall_nil w)
    · obtain ⟨rfl, h1⟩ := rest_no ha hb h0 hq
      exact rests_no a ha h1 hq w (zall_nil w)
end Go.Proofs.Ytmkddcmfofabbaa
