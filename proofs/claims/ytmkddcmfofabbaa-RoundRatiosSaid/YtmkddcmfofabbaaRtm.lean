/-
  The law RoundRatios: the plain law, and its end.
-/
import Derived.Test.YtmkddcmfofabbaaExt2
set_option linter.unusedVariables false
set_option linter.unusedSimpArgs false
set_option maxRecDepth 100000
namespace Go.Proofs.Ytmkddcmfofabbaa
open Go Go.RowKit Go.Ev

theorem nearQ_scale {p q g mode : Int} (hg : 0 < g) (hq : 0 < q) : nearQ (g * p) (g * q) mode = nearQ p q mode := by
  have hgq : 0 < g * q := Int.mul_pos hg hq
  have e1 : (g * p).fdiv (g * q) = p.fdiv q := by
    rw [Int.fdiv_eq_ediv_of_nonneg _ (by omega), Int.fdiv_eq_ediv_of_nonneg _ (by omega), Int.mul_ediv_mul_of_pos _ _ hg]
  have e2 : (g * p).fmod (g * q) = g * p.fmod q := by
    rw [Int.fmod_eq_emod_of_nonneg _ (by omega), Int.fmod_eq_emod_of_nonneg _ (by omega), Int.mul_emod_mul_of_pos _ _ hg]
  have pos : ∀ x : Int, (g * x < 0 ↔ x < 0) := fun x => by
    constructor
    · intro h
      apply Classical.byContradiction
      intro k
      have := Int.mul_nonneg (show 0 ≤ g by omega) (show 0 ≤ x by omega)
      omega
    · intro h
      have := Int.mul_neg_of_pos_of_neg hg h
      exact this
  have zer : ∀ x : Int, (g * x = 0 ↔ x = 0) := fun x => by
    rw [Int.mul_eq_zero]; omega
  have e3 : ∀ a b : Int, cmpI (g * a) (g * b) = cmpI a b := fun a b => by
    have h1 : g * a < g * b ↔ a < b := by
      have := pos (a - b)
      rw [Int.mul_sub] at this
      omega
    have h2 : g * a = g * b ↔ a = b := by
      have := zer (a - b)
      rw [Int.mul_sub] at this
      omega
    unfold cmpI
    simp only [h1, h2]
  have e4 : decide (g * p < 0) = decide (p < 0) := by
    rw [Bool.eq_iff_iff]; simp only [decide_eq_true_eq]; exact pos p
  have hu : upQ (g * p) (g * q) mode = upQ p q mode := by
    unfold upQ
    rw [e1, e2, e4, ← Int.mul_sub, e3]
  unfold nearQ
  rw [hu, e1, e2]
  by_cases k : p.fmod q = 0
  · rw [if_pos k, if_pos ((zer _).2 k)]
  · rw [if_neg k, if_neg fun h => k ((zer _).1 h)]
theorem fr_scale (n : Int) {d : Int} (h0 : d ≠ 0) : ∃ G X Y : Nat, G = Nat.gcd n.natAbs d.natAbs ∧ 0 < G ∧ n.natAbs = G * X ∧ d.natAbs = G * Y ∧ 0 < Y ∧ frP n d = wsg (!(decide (n < 0) == decide (d < 0))) (X : Int) ∧ frQ n d = (Y : Int) := by
  have hG : 0 < Nat.gcd n.natAbs d.natAbs := gcd_pos h0
  have h1 := Nat.mul_div_cancel' (Nat.gcd_dvd_left n.natAbs d.natAbs)
  have h2 := Nat.mul_div_cancel' (Nat.gcd_dvd_right n.natAbs d.natAbs)
  refine ⟨_, n.natAbs / Nat.gcd n.natAbs d.natAbs, d.natAbs / Nat.gcd n.natAbs d.natAbs, rfl, hG, h1.symm, h2.symm, ?_, rfl, rfl⟩
  rcases Nat.eq_zero_or_pos (d.natAbs / Nat.gcd n.natAbs d.natAbs) with h | h
  · rw [h] at h2; omega
  · exact h
theorem near_fr (n mode : Int) {d : Int} (h0 : d ≠ 0) : nearQ (nN n d) (nD d) mode = nearQ (frP n d) (frQ n d) mode := by
  obtain ⟨G, X, Y, -, hG, hX, hY, hYp, hP, hQ⟩ := fr_scale n h0
  have a1 : (n.natAbs : Int) = (G : Int) * (X : Int) := by rw [hX]; simp
  have a2 : (d.natAbs : Int) = (G : Int) * (Y : Int) := by rw [hY]; simp
  have b1 : nN n d = (G : Int) * frP n d := by
    rw [hP]
    unfold nN wsg
    by_cases hn : n < 0 <;> by_cases hd : d < 0 <;> simp [hn, hd, Int.mul_neg] <;> omega
  have b2 : nD d = (G : Int) * frQ n d := by
    rw [hQ]; unfold nD; split <;> omega
  rw [b1, b2]
  exact nearQ_scale (by omega) (by rw [hQ]; omega)
theorem rtv0 : rtv 0 = .tuple #[zz, .int .i64 0] := rtv_yes (by unfold W128; omega)
theorem rtv_no {y : Int} (h : ¬ W128 y) : rtv y = .tuple #[zz, .int .i64 2] := by unfold rtv; rw [thi_no h, tlo_no h, ter_no h]
theorem small_pos {m D mode : Int} (h0 : 0 < m) (h1 : m < D) : nearQ m D mode = if upB mode false (cmpI m (D - m)) true = true then 1 else 0 := by
  have e1 : m.fdiv D = 0 := by rw [Int.fdiv_eq_ediv_of_nonneg _ (by omega), Int.ediv_eq_zero_of_lt (by omega) h1]
  have e2 : m.fmod D = m := by rw [Int.fmod_eq_emod_of_nonneg _ (by omega), Int.emod_eq_of_lt (by omega) h1]
  unfold nearQ upQ
  rw [e1, e2, if_neg (by omega), decide_eq_false (by omega)]
  rfl
theorem small_neg {m D mode : Int} (h0 : 0 < m) (h1 : m < D) : nearQ (-m) D mode = if upB mode true (cmpI (D - m) m) false = true then 0 else -1 := by
  have q : -m = (D - m) + D * (-1) := by omega
  have e1 : (-m).fdiv D = -1 := by rw [Int.fdiv_eq_ediv_of_nonneg _ (by omega), q, Int.add_mul_ediv_left _ _ (by omega), Int.ediv_eq_zero_of_lt (by omega) (by omega)]; rfl
  have e2 : (-m).fmod D = D - m := by rw [Int.fmod_eq_emod_of_nonneg _ (by omega), q, Int.add_mul_emod_self_left, Int.emod_eq_of_lt (by omega) (by omega)]
  unfold nearQ upQ
  rw [e1, e2, if_neg (by omega), decide_eq_true (by omega), show D - (D - m) = m by omega]
  rfl
/-- Where the lowest terms have no room. -/
theorem fr_over {n d : Int} (hn : W128 n) (hd : W128 d) (h0 : d ≠ 0) (h : ¬ fOk n d) :
    (d = -170141183460469231731687303715884105728 ∧ n ≠ 0 ∧ -170141183460469231731687303715884105728 < n) ∨
    (n = -170141183460469231731687303715884105728 ∧ d < 0 ∧ -170141183460469231731687303715884105728 < d ∧ Nat.gcd n.natAbs d.natAbs = 1) := by
  obtain ⟨G, X, Y, hG, hG0, hX, hY, hYp, hP, hQ⟩ := fr_scale n h0
  have hXle : X ≤ n.natAbs := by rw [hX]; exact Nat.le_mul_of_pos_left X hG0
  have hYle : Y ≤ d.natAbs := by rw [hY]; exact Nat.le_mul_of_pos_left Y hG0
  by_cases hq : W128 (frQ n d)
  · right
    have hp : ¬ W128 (frP n d) := fun k => h ⟨h0, k, hq⟩
    rw [hP] at hp
    have hXm : X = 170141183460469231731687303715884105728 ∧ (decide (n < 0) == decide (d < 0)) = true := by
      unfold wsg at hp
      cases hs : (decide (n < 0) == decide (d < 0)) with
      | true => rw [hs] at hp; simp at hp; unfold W128 at *; exact ⟨by omega, rfl⟩
      | false => rw [hs] at hp; simp at hp; unfold W128 at *; omega
    obtain ⟨hXm, hs⟩ := hXm
    have hnm : n = -170141183460469231731687303715884105728 := by unfold W128 at hn; omega
    have hG1 : G = 1 := by
      have e1 : n.natAbs = X := by rw [hXm]; unfold W128 at hn; omega
      have e2 : X * 1 = X * G := by rw [Nat.mul_one, Nat.mul_comm X G, ← hX]; exact e1.symm
      exact (Nat.eq_of_mul_eq_mul_left (by omega) e2).symm
    have hdn : d < 0 := by
      rw [decide_eq_true (show n < 0 by omega)] at hs
      simpa using hs
    refine ⟨hnm, hdn, ?_, by rw [← hG, hG1]⟩
    have hYd : d.natAbs = Y := by rw [hY, hG1, Nat.one_mul]
    rw [hQ] at hq
    unfold W128 at hq
    omega
  · left
    rw [hQ] at hq
    have hYm : Y = 170141183460469231731687303715884105728 := by unfold W128 at *; omega
    have hdm : d.natAbs = Y := by unfold W128 at hd; omega
    have hG1 : G = 1 := by
      have e2 : Y * 1 = Y * G := by rw [Nat.mul_one, Nat.mul_comm Y G, ← hY]; exact hdm.symm
      exact (Nat.eq_of_mul_eq_mul_left (by omega) e2).symm
    have hd1 : d = -170141183460469231731687303715884105728 := by unfold W128 at hd; omega
    have hg : Nat.gcd n.natAbs d.natAbs = 1 := by rw [← hG, hG1]
    refine ⟨hd1, fun e => ?_, ?_⟩
    · subst e; rw [show (0 : Int).natAbs = 0 from rfl, Nat.gcd_zero_left] at hg; omega
    · apply Classical.byContradiction
      intro k
      have : n = d := by unfold W128 at hn; omega
      rw [this, Nat.gcd_self] at hg
      omega
theorem frac_f (n d : Int) (hn : W128 n) (hd : W128 d) (hk : fOk n d) : Fn 65 [] [wv n, wv d] (.tuple #[wv (frP n d), wv (frQ n d), .int .i64 0]) := fun w _ =>
  (dfrac_any n d w hn hd).mono fun e w' ⟨h1, h2⟩ => ⟨by rw [h1, fv_yes hk, fv_yes hk, fv_yes hk, fv_yes hk, fe_yes hk], h2⟩
theorem frac_n (n d : Int) (hn : W128 n) (hd : W128 d) (h0 : d ≠ 0) (hk : ¬ fOk n d) : Fn 65 [] [wv n, wv d] (.tuple #[zz, zz, .int .i64 2]) := fun w _ =>
  (dfrac_any n d w hn hd).mono fun e w' ⟨h1, h2⟩ => ⟨by rw [h1, fv_no hk, fv_no hk, fv_no hk, fv_no hk, fe_no h0 hk], h2⟩
theorem frac_z (n : Int) (hn : W128 n) : Fn 65 [] [wv n, wv 0] (.tuple #[zz, zz, .int .i64 3]) := fun w _ =>
  (dfrac_any n 0 w hn (by unfold W128; omega)).mono fun e w' ⟨h1, h2⟩ => by
    have hk : ¬ fOk n 0 := fun h => h.1 rfl
    exact ⟨by rw [h1, fv_no hk, fv_no hk, fv_no hk, fv_no hk, fe_zero], h2⟩
end Go.Proofs.Ytmkddcmfofabbaa
