/-
  round.To and round.Mirror.
-/
import Derived.Test.YtcndfpfjckkinaaUpb
set_option linter.unusedVariables false
set_option maxRecDepth 100000
namespace Go.Proofs.Ytcndfpfjckkinaa
open Go Go.RowKit Go.Ev

abbrev rtv (y : Int) : Value := .tuple #[.agg #[.int .i64 (thi y), .int .u64 (tlo y)], .int .i64 (ter y)]
theorem rtv_yes {y : Int} (h : W128 y) : rtv y = .tuple #[wv y, .int .i64 0] := by unfold rtv; rw [thi_yes h, tlo_yes h, ter_yes h]
theorem wz_no {r : Int} (h : r ≠ 0) : (hi r == 0 && (lo r == 0 && true)) = false := by
  have e := hi_lo r
  cases k : (hi r == 0 && (lo r == 0 && true)) with
  | false => rfl
  | true =>
    simp only [Bool.and_true, Bool.and_eq_true, beq_iff_eq] at k
    omega
theorem wz_yes {r : Int} (h : r = 0) : (hi r == 0 && (lo r == 0 && true)) = true := by subst h; decide
theorem dec_hi (n : Int) : decide (hi n < 0) = decide (n < 0) := by
  have e := hi_lo n
  have := lo_bd n
  rw [Bool.eq_iff_iff]
  simp only [decide_eq_true_eq]
  omega
theorem rem2 (q : Int) : ((lo q).tmod 2 == 0) = decide (q % 2 = 0) := by
  have := lo_bd q
  rw [Int.tmod_eq_emod_of_nonneg (by omega)]
  unfold lo
  rw [Bool.eq_iff_iff]
  simp
theorem between_fn (q r d : Int) (b : Bool) (hr : W128 r) (hd : W128 d) (h : W128 (d - r)) :
    Fn 180 [] [wv q, wv r, wv d, .bool b] (pv b (cmpI r (d - r)) (decide (q % 2 = 0))) := by
  refine fn_of Try.func180 rfl fun ww => ?_
  refine st_fn ent130 (wsub_yes (d) (r) (by assumption) (by assumption) (by assumption)) sub0 (by kernel_rfl) ?_
  refine st_b 24 (rem2 q) (by kernel_rfl) ?_
  refine st_fn ent47 (wcmp_fn (r) (d - r)) sub0 (by kernel_rfl) ?_
  exact st_ret Try.func180 (by kernel_rfl)
/-- Does the quotient of n and d go up? -/
def upQ (n d mode : Int) : Bool := upB mode (decide (n < 0)) (cmpI (n.fmod d) (d - n.fmod d)) (decide (n.fdiv d % 2 = 0))
/-- A fraction, d above 0, rounded. -/
def nearQ (n d mode : Int) : Int := if n.fmod d = 0 then n.fdiv d else if upQ n d mode = true then n.fdiv d + 1 else n.fdiv d
theorem up_t (mode : Int) (b : Bool) (x : Int) (e : Bool) (h1 : 1 ≤ mode) (h2 : mode ≤ 9) (h : upB mode b x e = true) : Fn 179 [] [.int .i64 mode, pv b x e] (.tuple #[.bool true, .bool true]) := h ▸ up_yes mode b x e h1 h2
theorem up_f (mode : Int) (b : Bool) (x : Int) (e : Bool) (h1 : 1 ≤ mode) (h2 : mode ≤ 9) (h : upB mode b x e = false) : Fn 179 [] [.int .i64 mode, pv b x e] (.tuple #[.bool false, .bool true]) := h ▸ up_yes mode b x e h1 h2
theorem fl_bd {w d : Int} (hw : W128 w) (h0 : 0 < d) : W128 (w.fdiv d) ∧ 0 ≤ w.fmod d ∧ w.fmod d < d ∧ d * w.fdiv d + w.fmod d = w := by
  have e := Int.mul_fdiv_add_fmod w d
  have h1 := Int.fmod_eq_emod_of_nonneg w (show 0 ≤ d by omega)
  have h2 := Int.emod_nonneg w (show d ≠ 0 by omega)
  have h3 := Int.emod_lt_of_pos w h0
  have h4 := Int.fdiv_eq_ediv_of_nonneg w (show 0 ≤ d by omega)
  refine ⟨?_, by omega, by omega, e⟩
  rw [h4]
  unfold W128 at *
  have k1 := Int.le_ediv_of_mul_le h0 (show -170141183460469231731687303715884105728 * d ≤ w by
    have : (170141183460469231731687303715884105728 : Int) * 1 ≤ 170141183460469231731687303715884105728 * d := Int.mul_le_mul_of_nonneg_left (by omega) (by omega)
    omega)
  have k2 : w / d < 170141183460469231731687303715884105728 := Int.ediv_lt_of_lt_mul h0 (by
    have : (170141183460469231731687303715884105728 : Int) * 1 ≤ 170141183460469231731687303715884105728 * d := Int.mul_le_mul_of_nonneg_left (by omega) (by omega)
    omega)
  omega
theorem to_arg1 (w d mode : Int) (hd : cmpI d 0 ≤ 0) : Fn 104 [] [wv w, wv d, .int .i64 mode] (.tuple #[.agg #[.int .i64 0, .int .u64 0], .int .i64 1]) := by
  refine fn_of Try.func104 rfl fun ww => ?_
  refine st_fn ent48 (wsign_fn (d)) sub0 (by kernel_rfl) ?_
  refine st_b 17 (show (decide (cmpI d 0 ≤ 0)) = true by exact decide_eq_true (by omega)) (by kernel_rfl) ?_
  exact st_ret Try.func104 (by kernel_rfl)
theorem to_arg2 (w d mode : Int) (hw : W128 w) (hd : W128 d) (h0 : 0 < d) (hc : cmpI d 0 = 1) (hm : mode < 1 ∨ 9 < mode) : Fn 104 [] [wv w, wv d, .int .i64 mode] (.tuple #[.agg #[.int .i64 0, .int .u64 0], .int .i64 1]) := by
  obtain ⟨hq, r0, r1, e⟩ := fl_bd hw h0
  have hne : d ≠ 0 := by omega
  have hr : W128 (w.fmod d) := by unfold W128 at *; omega
  have hl : W128 (d - w.fmod d) := by unfold W128 at *; omega
  refine fn_of Try.func104 rfl fun ww => ?_
  refine st_fn ent48 (wsign_fn (d)) sub0 (by kernel_rfl) ?_
  refine st_b 17 (show (decide (cmpI d 0 ≤ 0)) = false by exact decide_eq_false (by omega)) (by kernel_rfl) ?_
  refine st_fn ent178 (dfloor_yes (w) (d) (by assumption) (by assumption) (by assumption) (by assumption)) sub0 (by kernel_rfl) ?_
  refine st_fn ent180 (between_fn (w.fdiv d) (w.fmod d) (d) (decide (hi w < 0)) (by assumption) (by assumption) (by assumption)) sub0 (by kernel_rfl) ?_
  refine st_fn ent179 (up_no (mode) (decide (hi w < 0)) (cmpI (w.fmod d) (d - w.fmod d)) (decide (w.fdiv d % 2 = 0)) (by assumption)) sub0 (by kernel_rfl) ?_
  exact st_ret Try.func104 (by kernel_rfl)
theorem to_ok (w d mode : Int) (hw : W128 w) (hd : W128 d) (h0 : 0 < d) (h1 : 1 ≤ mode) (h2 : mode ≤ 9) : Fn 104 [] [wv w, wv d, .int .i64 mode] (rtv (d * nearQ w d mode)) := by
  obtain ⟨hq, r0, r1, e⟩ := fl_bd hw h0
  have hc : cmpI d 0 = 1 := cmpI_gt h0
  have hne : d ≠ 0 := by omega
  have hr : W128 (w.fmod d) := by unfold W128 at *; omega
  have hl : W128 (d - w.fmod d) := by unfold W128 at *; omega
  by_cases hz : w.fmod d = 0
  · have hy : d * nearQ w d mode = w := by unfold nearQ; rw [if_pos hz]; omega
    have hb := wz_yes hz
    rw [hy, rtv_yes hw]
    by_cases hu : upQ w d mode = true
    · have hu' : upB mode (decide (w < 0)) (cmpI (w.fmod d) (d - w.fmod d)) (decide (w.fdiv d % 2 = 0)) = true := hu
      refine fn_of Try.func104 rfl fun ww => ?_
      refine st_fn ent48 (wsign_fn (d)) sub0 (by kernel_rfl) ?_
      refine st_b 17 (show (decide (cmpI d 0 ≤ 0)) = false by exact decide_eq_false (by omega)) (by kernel_rfl) ?_
      refine st_fn ent178 (dfloor_yes (w) (d) (by assumption) (by assumption) (by assumption) (by assumption)) sub0 (by kernel_rfl) ?_
      refine st_b 33 (dec_hi w) (by kernel_rfl) ?_
      refine st_fn ent180 (between_fn (w.fdiv d) (w.fmod d) (d) (decide (w < 0)) (by assumption) (by assumption) (by assumption)) sub0 (by kernel_rfl) ?_
      refine st_fn ent179 (up_t (mode) (decide (w < 0)) (cmpI (w.fmod d) (d - w.fmod d)) (decide (w.fdiv d % 2 = 0)) (by assumption) (by assumption) (by assumption)) sub0 (by kernel_rfl) ?_
      refine st_b 45 (show (hi (w.fmod d) == 0 && (lo (w.fmod d) == 0 && true)) = true by assumption) (by kernel_rfl) ?_
      exact st_ret Try.func104 (by kernel_rfl)
    · have hu' : upB mode (decide (w < 0)) (cmpI (w.fmod d) (d - w.fmod d)) (decide (w.fdiv d % 2 = 0)) = false := (Bool.not_eq_true _).mp hu
      refine fn_of Try.func104 rfl fun ww => ?_
      refine st_fn ent48 (wsign_fn (d)) sub0 (by kernel_rfl) ?_
      refine st_b 17 (show (decide (cmpI d 0 ≤ 0)) = false by exact decide_eq_false (by omega)) (by kernel_rfl) ?_
      refine st_fn ent178 (dfloor_yes (w) (d) (by assumption) (by assumption) (by assumption) (by assumption)) sub0 (by kernel_rfl) ?_
      refine st_b 33 (dec_hi w) (by kernel_rfl) ?_
      refine st_fn ent180 (between_fn (w.fdiv d) (w.fmod d) (d) (decide (w < 0)) (by assumption) (by assumption) (by assumption)) sub0 (by kernel_rfl) ?_
      refine st_fn ent179 (up_f (mode) (decide (w < 0)) (cmpI (w.fmod d) (d - w.fmod d)) (decide (w.fdiv d % 2 = 0)) (by assumption) (by assumption) (by assumption)) sub0 (by kernel_rfl) ?_
      refine st_b 45 (show (hi (w.fmod d) == 0 && (lo (w.fmod d) == 0 && true)) = true by assumption) (by kernel_rfl) ?_
      exact st_ret Try.func104 (by kernel_rfl)
  · have hb := wz_no hz
    by_cases hu : upQ w d mode = true
    · have hu' : upB mode (decide (w < 0)) (cmpI (w.fmod d) (d - w.fmod d)) (decide (w.fdiv d % 2 = 0)) = true := hu
      have hy : d * nearQ w d mode = w + (d - w.fmod d) := by unfold nearQ; rw [if_neg hz, if_pos hu, Int.mul_add]; omega
      rw [hy]
      refine fn_of Try.func104 rfl fun ww => ?_
      refine st_fn ent48 (wsign_fn (d)) sub0 (by kernel_rfl) ?_
      refine st_b 17 (show (decide (cmpI d 0 ≤ 0)) = false by exact decide_eq_false (by omega)) (by kernel_rfl) ?_
      refine st_fn ent178 (dfloor_yes (w) (d) (by assumption) (by assumption) (by assumption) (by assumption)) sub0 (by kernel_rfl) ?_
      refine st_b 33 (dec_hi w) (by kernel_rfl) ?_
      refine st_fn ent180 (between_fn (w.fdiv d) (w.fmod d) (d) (decide (w < 0)) (by assumption) (by assumption) (by assumption)) sub0 (by kernel_rfl) ?_
      refine st_fn ent179 (up_t (mode) (decide (w < 0)) (cmpI (w.fmod d) (d - w.fmod d)) (decide (w.fdiv d % 2 = 0)) (by assumption) (by assumption) (by assumption)) sub0 (by kernel_rfl) ?_
      refine st_b 45 (show (hi (w.fmod d) == 0 && (lo (w.fmod d) == 0 && true)) = false by assumption) (by kernel_rfl) ?_
      refine st_fn ent130 (wsub_yes (d) (w.fmod d) (by assumption) (by assumption) (by assumption)) sub0 (by kernel_rfl) ?_
      refine st_fn ent129 (wadd_any (w) (d - w.fmod d) (by assumption) (by assumption)) sub0 (by kernel_rfl) ?_
      exact st_ret Try.func104 (by kernel_rfl)
    · have hu' : upB mode (decide (w < 0)) (cmpI (w.fmod d) (d - w.fmod d)) (decide (w.fdiv d % 2 = 0)) = false := (Bool.not_eq_true _).mp hu
      have hy : d * nearQ w d mode = w - w.fmod d := by unfold nearQ; rw [if_neg hz, if_neg hu]; omega
      rw [hy]
      refine fn_of Try.func104 rfl fun ww => ?_
      refine st_fn ent48 (wsign_fn (d)) sub0 (by kernel_rfl) ?_
      refine st_b 17 (show (decide (cmpI d 0 ≤ 0)) = false by exact decide_eq_false (by omega)) (by kernel_rfl) ?_
      refine st_fn ent178 (dfloor_yes (w) (d) (by assumption) (by assumption) (by assumption) (by assumption)) sub0 (by kernel_rfl) ?_
      refine st_b 33 (dec_hi w) (by kernel_rfl) ?_
      refine st_fn ent180 (between_fn (w.fdiv d) (w.fmod d) (d) (decide (w < 0)) (by assumption) (by assumption) (by assumption)) sub0 (by kernel_rfl) ?_
      refine st_fn ent179 (up_f (mode) (decide (w < 0)) (cmpI (w.fmod d) (d - w.fmod d)) (decide (w.fdiv d % 2 = 0)) (by assumption) (by assumption) (by assumption)) sub0 (by kernel_rfl) ?_
      refine st_b 45 (show (hi (w.fmod d) == 0 && (lo (w.fmod d) == 0 && true)) = false by assumption) (by kernel_rfl) ?_
      refine st_fn ent130 (wsub_any (w) (w.fmod d) (by assumption) (by assumption)) sub0 (by kernel_rfl) ?_
      exact st_ret Try.func104 (by kernel_rfl)
end Go.Proofs.Ytcndfpfjckkinaa
