/-
  Date-times and their numbers; no program in sight.
-/
import Derived.Test.YtcndfpfjckkinaaCal
import Derived.Test.YtcndfpfjckkinaaCka
import Derived.Test.YtcndfpfjckkinaaCkf
set_option linter.unusedVariables false
namespace Go.Proofs.Ytcndfpfjckkinaa
open Go

instance (y m d : Int) : Decidable (dIn y m d) := by unfold dIn; infer_instance
instance (y m d : Int) : Decidable (dOk y m d) := by unfold dOk; infer_instance
/-- A date-time that may be. -/
def pOk (y mo d h m s n : Int) : Prop := dOk y mo d ∧ tOk h m s n ∧ ¬ (dnum y mo d = -100000001 ∧ tnan h m s n = 0)
instance (y mo d h m s n : Int) : Decidable (pOk y mo d h m s n) := by unfold pOk; infer_instance
def pnum (y mo d h m s n : Int) : Int := dnum y mo d * 86400000000000 + tnan h m s n
/-- The numbers of date-times. -/
def pIn (x : Int) : Prop := -8640000086400000000000 < x ∧ x < 8640000086400000000000
instance (x : Int) : Decidable (pIn x) := by unfold pIn; infer_instance
theorem pOk_in {y mo d h m s n : Int} (k : pOk y mo d h m s n) : pIn (pnum y mo d h m s n) := by
  obtain ⟨⟨k1, k2⟩, k3, k4⟩ := k
  have := tnan_bd k3
  unfold pIn pnum; omega
/-- The day and the time of a number. -/
def xd (x : Int) : Int := x.fdiv 86400000000000
def xt (x : Int) : Int := x.fmod 86400000000000
theorem x_split (x : Int) : xd x * 86400000000000 + xt x = x ∧ 0 ≤ xt x ∧ xt x < 86400000000000 := by
  unfold xd xt
  rw [Int.fdiv_eq_ediv_of_nonneg _ (by omega), Int.fmod_eq_emod_of_nonneg _ (by omega)]; omega
theorem pIn_split {x : Int} : pIn x ↔ (-100000001 ≤ xd x ∧ xd x ≤ 100000000) ∧ ¬ (xd x = -100000001 ∧ xt x = 0) := by
  have := x_split x
  unfold pIn; omega
theorem split_pnum {y mo d h m s n : Int} (k : tOk h m s n) : xd (pnum y mo d h m s n) = dnum y mo d ∧ xt (pnum y mo d h m s n) = tnan h m s n := by
  have a := x_split (pnum y mo d h m s n)
  have b := tnan_bd k
  generalize xd (pnum y mo d h m s n) = D at *
  generalize xt (pnum y mo d h m s n) = T at *
  unfold pnum at a; omega
/-- The date-time of a number. -/
theorem of_pOk {x : Int} (k : pIn x) : pOk (dY (xd x)) (dM (xd x)) (dD (xd x)) (tH (xt x)) (tM (xt x)) (tS (xt x)) (tN (xt x)) ∧ pnum (dY (xd x)) (dM (xd x)) (dD (xd x)) (tH (xt x)) (tM (xt x)) (tS (xt x)) (tN (xt x)) = x := by
  obtain ⟨k1, k2⟩ := pIn_split.1 k
  obtain ⟨a, b, c⟩ := x_split x
  obtain ⟨e, f⟩ := date_ok (xd x)
  have g := t_ok b c
  have i := tnan_t b
  refine ⟨⟨⟨e, by omega⟩, g, by rw [f, i]; exact k2⟩, ?_⟩
  unfold pnum; rw [f, i]; exact a
/-- A date-time's number tells the date-time. -/
theorem num_of {y mo d h m s n : Int} (k : pOk y mo d h m s n) : dY (xd (pnum y mo d h m s n)) = y ∧ dM (xd (pnum y mo d h m s n)) = mo ∧ dD (xd (pnum y mo d h m s n)) = d ∧ tH (xt (pnum y mo d h m s n)) = h ∧ tM (xt (pnum y mo d h m s n)) = m ∧ tS (xt (pnum y mo d h m s n)) = s ∧ tN (xt (pnum y mo d h m s n)) = n := by
  obtain ⟨a, b⟩ := split_pnum (y := y) (mo := mo) (d := d) k.2.1
  obtain ⟨c, e, f⟩ := date_of k.1.1
  obtain ⟨g, i, j, l⟩ := t_tnan k.2.1
  rw [a, b]; exact ⟨c, e, f, g, i, j, l⟩
/-- How two dates stand to each other. -/
def cmp3 (y m d y' m' d' : Int) : Int := if y = y' then (if m = m' then cmpI d d' else cmpI m m') else cmpI y y'
theorem cmp3_num {y m d y' m' d' : Int} (h : dIn y m d) (h' : dIn y' m' d') : cmp3 y m d y' m' d' = cmpI (dnum y m d) (dnum y' m' d') := by
  have a := fun x => dnum_lt h h' x
  have b := fun x => dnum_lt h' h x
  unfold cmp3
  by_cases e1 : y = y'
  · subst e1
    by_cases e2 : m = m'
    · subst e2
      rw [if_pos rfl, if_pos rfl]
      refine cmpI_congr ?_ ?_ <;> unfold dnum <;> omega
    · rw [if_pos rfl, if_neg e2]
      rcases Int.lt_or_lt_of_ne e2 with q | q
      · have := a (.inr ⟨rfl, .inl q⟩); exact cmpI_congr (by omega) (by omega)
      · have := b (.inr ⟨rfl, .inl q⟩); exact cmpI_congr (by omega) (by omega)
  · rw [if_neg e1]
    rcases Int.lt_or_lt_of_ne e1 with q | q
    · have := a (.inl q); exact cmpI_congr (by omega) (by omega)
    · have := b (.inl q); exact cmpI_congr (by omega) (by omega)
/-- How two date-times stand to each other. -/
def cmp7 (y mo d h m s n y' mo' d' h' m' s' n' : Int) : Int := if cmp3 y mo d y' mo' d' = 0 then cmp4 h m s n h' m' s' n' else cmp3 y mo d y' mo' d'
theorem cmpI_0 {a b : Int} : cmpI a b = 0 ↔ a = b := by unfold cmpI; split <;> (try split) <;> omega
theorem cmpI_n {a b : Int} : cmpI a b = -1 ↔ a < b := by unfold cmpI; split <;> (try split) <;> omega
theorem cmpI_p {a b : Int} : cmpI a b = 1 ↔ b < a := by unfold cmpI; split <;> (try split) <;> omega
theorem cmp3_0 {y m d y' m' d' : Int} : cmp3 y m d y' m' d' = 0 ↔ y = y' ∧ m = m' ∧ d = d' := by
  unfold cmp3
  split
  · split
    · rw [cmpI_0]; omega
    · rw [cmpI_0]; omega
  · rw [cmpI_0]; omega
theorem cmp7_num {y mo d h m s n y' mo' d' h' m' s' n' : Int} (k : pOk y mo d h m s n) (k' : pOk y' mo' d' h' m' s' n') : cmp7 y mo d h m s n y' mo' d' h' m' s' n' = cmpI (pnum y mo d h m s n) (pnum y' mo' d' h' m' s' n') := by
  have e := cmp3_num k.1.1 k'.1.1
  have t := cmp4_nan k.2.1 k'.2.1
  have b := tnan_bd k.2.1
  have b' := tnan_bd k'.2.1
  unfold cmp7
  rw [e, t]
  by_cases q : dnum y mo d = dnum y' mo' d'
  · rw [if_pos (cmpI_0.2 q)]
    exact cmpI_congr (by unfold pnum; omega) (by unfold pnum; omega)
  · rw [if_neg (fun z => q (cmpI_0.1 z))]
    exact cmpI_congr (by unfold pnum; omega) (by unfold pnum; omega)
theorem tnan_0 {h m s n : Int} (k : tOk h m s n) : tnan h m s n = 0 ↔ h = 0 ∧ m = 0 ∧ s = 0 ∧ n = 0 := by
  unfold tOk at k; unfold tnan; omega
end Go.Proofs.Ytcndfpfjckkinaa
