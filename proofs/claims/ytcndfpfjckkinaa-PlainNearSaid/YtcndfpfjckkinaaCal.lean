/-
  The calendar's law: days, months, years and their numbers; no program in sight.
-/
import Derived.KernelRfl
set_option linter.unusedVariables false
set_option linter.unusedSimpArgs false
namespace Go.Proofs.Ytcndfpfjckkinaa
/-- A year with a day more. -/
def leapB (y : Int) : Bool := decide (y % 4 = 0) && (decide (y % 100 ≠ 0) || decide (y % 400 = 0))
def leap (y : Int) : Prop := y % 4 = 0 ∧ (y % 100 ≠ 0 ∨ y % 400 = 0)
instance (y : Int) : Decidable (leap y) := by unfold leap; infer_instance
def ylen (y : Int) : Int := if leap y then 366 else 365
def mlen (y m : Int) : Int := if m = 2 then (if leap y then 29 else 28) else if m = 4 ∨ m = 6 ∨ m = 9 ∨ m = 11 then 30 else if 1 ≤ m ∧ m ≤ 12 then 31 else 0
def jan (y : Int) : Int := 365 * y + (y + 3) / 4 - (y + 99) / 100 + (y + 399) / 400 - 719528
def mst0 (m : Int) : Int := if m ≤ 1 then 0 else if m = 2 then 31 else if m = 3 then 59 else if m = 4 then 90 else if m = 5 then 120 else if m = 6 then 151 else if m = 7 then 181 else if m = 8 then 212 else if m = 9 then 243 else if m = 10 then 273 else if m = 11 then 304 else if m = 12 then 334 else 365
def mst (y m : Int) : Int := mst0 m + (if 2 < m ∧ leap y then 1 else 0)
def dnum (y m d : Int) : Int := jan y + mst y m + d - 1
/-- A day of the calendar. -/
def dIn (y m d : Int) : Prop := 1 ≤ m ∧ m ≤ 12 ∧ 1 ≤ d ∧ d ≤ mlen y m
def dOk (y m d : Int) : Prop := dIn y m d ∧ -100000001 ≤ dnum y m d ∧ dnum y m d ≤ 100000000
theorem jan_succ (y : Int) : jan (y + 1) = jan y + ylen y := by
  unfold jan ylen
  by_cases h : leap y
  · rw [if_pos h]; unfold leap at h; omega
  · rw [if_neg h]; unfold leap at h; omega
theorem jan_mono {y z : Int} (h : y ≤ z) : jan y + 365 * (z - y) ≤ jan z := by
  unfold jan; omega
theorem jan_cent (c : Int) : jan (400 * c) = 146097 * c - 719528 := by unfold jan; omega
theorem months {m : Int} (h1 : 1 ≤ m) (h2 : m ≤ 12) : m = 1 ∨ m = 2 ∨ m = 3 ∨ m = 4 ∨ m = 5 ∨ m = 6 ∨ m = 7 ∨ m = 8 ∨ m = 9 ∨ m = 10 ∨ m = 11 ∨ m = 12 := by omega
theorem mst_succ {y m : Int} (h1 : 1 ≤ m) (h2 : m ≤ 12) : mst y (m + 1) = mst y m + mlen y m := by
  by_cases hl : leap y <;> rcases months h1 h2 with h | h | h | h | h | h | h | h | h | h | h | h <;> subst h <;> simp [mst, mst0, mlen, hl]
theorem mst_one (y : Int) : mst y 1 = 0 := by simp [mst, mst0]
theorem mst_end (y : Int) : mst y 13 = ylen y := by by_cases hl : leap y <;> simp [mst, mst0, ylen, hl]
theorem mlen_ge {y m : Int} (h1 : 1 ≤ m) (h2 : m ≤ 12) : 28 ≤ mlen y m ∧ mlen y m ≤ 31 := by
  by_cases hl : leap y <;> rcases months h1 h2 with h | h | h | h | h | h | h | h | h | h | h | h <;> subst h <;> simp [mlen, hl]
theorem mst_le (y : Int) {a : Int} (n : Nat) (h1 : 1 ≤ a) (h2 : a + n ≤ 13) : mst y a ≤ mst y (a + n) := by
  induction n with
  | zero => simp
  | succ n ih =>
    have i := ih (by omega)
    have s := mst_succ (y := y) (m := a + n) (by omega) (by omega)
    have g := (mlen_ge (y := y) (m := a + n) (by omega) (by omega)).1
    rw [show a + ((n + 1 : Nat) : Int) = a + (n : Int) + 1 by omega]; omega
theorem mst_mono {y m k : Int} (h1 : 1 ≤ m) (h2 : m < k) (h3 : k ≤ 13) : mst y m + mlen y m ≤ mst y k := by
  rw [← mst_succ h1 (by omega)]
  have := mst_le y (a := m + 1) (k - (m + 1)).toNat (by omega) (by omega)
  rwa [show m + 1 + (((k - (m + 1)).toNat : Nat) : Int) = k by omega] at this
theorem dnum_in {y m d : Int} (h : dIn y m d) : jan y ≤ dnum y m d ∧ dnum y m d < jan (y + 1) := by
  obtain ⟨h1, h2, h3, h4⟩ := h
  have a := mst_mono (y := y) h1 (show m < 13 by omega) (by omega)
  have b : 0 ≤ mst y m := by
    by_cases e : m = 1
    · subst e; rw [mst_one]; omega
    · have := mst_mono (y := y) (m := 1) (k := m) (by omega) (by omega) (by omega)
      have := (mlen_ge (y := y) (m := 1) (by omega) (by omega)).1
      rw [mst_one] at *; omega
  rw [jan_succ, ← mst_end]; unfold dnum; omega
theorem dOk_year {y m d : Int} (h : dOk y m d) : -271821 ≤ y ∧ y ≤ 275760 := by
  obtain ⟨h1, h2, h3⟩ := h
  obtain ⟨a, b⟩ := dnum_in h1
  have j1 : jan y ≤ 100000000 := by omega
  have j2 : -100000001 < jan (y + 1) := by omega
  unfold jan at j1 j2; omega
/-- The order of days is the order of their numbers. -/
theorem dnum_lt {y m d y' m' d' : Int} (h : dIn y m d) (h' : dIn y' m' d') (k : y < y' ∨ y = y' ∧ (m < m' ∨ m = m' ∧ d < d')) : dnum y m d < dnum y' m' d' := by
  rcases k with k | ⟨rfl, k | ⟨rfl, k⟩⟩
  · have a := (dnum_in h).2
    have b := (dnum_in h').1
    have c := jan_mono (show y + 1 ≤ y' by omega)
    omega
  · have := mst_mono (y := y) h.1 k (by have := h'.2.1; omega)
    have := h.2.2.2
    have := h'.2.2.1
    unfold dnum; omega
  · unfold dnum; omega
theorem dnum_inj {y m d y' m' d' : Int} (h : dIn y m d) (h' : dIn y' m' d') (k : dnum y m d = dnum y' m' d') : y = y' ∧ m = m' ∧ d = d' := by
  have a := fun x => dnum_lt h h' x
  have b := fun x => dnum_lt h' h x
  omega
/-- The count of the program: years begin in March. -/
theorem count_lo {y m d c r : Int} (h1 : 1 ≤ m) (h2 : m ≤ 2) (hc : y - 1 = 400 * c + r) (r0 : 0 ≤ r) (r1 : r < 400) : c * 146097 + r * 365 + r / 4 - r / 100 + (153 * (m + 9) + 2) / 5 + d - 1 - 719468 = dnum y m d := by
  have e : m = 1 ∨ m = 2 := by omega
  unfold dnum mst mst0 jan
  rcases e with rfl | rfl <;> simp <;> omega
theorem count_hi {y m d c r : Int} (h1 : 3 ≤ m) (h2 : m ≤ 12) (hc : y = 400 * c + r) (r0 : 0 ≤ r) (r1 : r < 400) : c * 146097 + r * 365 + r / 4 - r / 100 + (153 * (m - 3) + 2) / 5 + d - 1 - 719468 = dnum y m d := by
  have e : m = 3 ∨ m = 4 ∨ m = 5 ∨ m = 6 ∨ m = 7 ∨ m = 8 ∨ m = 9 ∨ m = 10 ∨ m = 11 ∨ m = 12 := by omega
  have l : (if leap y then (1 : Int) else 0) = (r + 4) / 4 - (r + 100) / 100 + (r + 400) / 400 - ((r + 3) / 4 - (r + 99) / 100 + (r + 399) / 400) := by
    by_cases h : leap y
    · rw [if_pos h]; unfold leap at h; omega
    · rw [if_neg h]; unfold leap at h; omega
  unfold dnum mst mst0 jan
  rcases e with rfl | rfl | rfl | rfl | rfl | rfl | rfl | rfl | rfl | rfl <;> simp [l] <;> omega
/-- The date of a number, as the program reckons it. -/
def fE (n : Int) : Int := (n + 719468) / 146097
def fD (n : Int) : Int := (n + 719468) % 146097
def fY (n : Int) : Int := (fD n - fD n / 1460 + fD n / 36524 - fD n / 146096) / 365
def fR (n : Int) : Int := fD n - (365 * fY n + fY n / 4 - fY n / 100)
def fM (n : Int) : Int := (5 * fR n + 2) / 153
def dY (n : Int) : Int := fY n + 400 * fE n + (if 12 < fM n + 3 then 1 else 0)
def dM (n : Int) : Int := fM n + 3 - (if 12 < fM n + 3 then 12 else 0)
def dD (n : Int) : Int := fR n - (153 * fM n + 2) / 5 + 1
theorem fD_in (n : Int) : 0 ≤ fD n ∧ fD n ≤ 146096 := by unfold fD; omega
def fG (D : Int) : Int := D - D / 1460 + D / 36524 - D / 146096
def fS (Y : Int) : Int := 365 * Y + Y / 4 - Y / 100 + Y / 400
theorem fG_step (D : Int) : fG D ≤ fG (D + 1) := by
  have a : (D + 1) / 1460 ≤ D / 1460 + 1 := by omega
  have b : D / 36524 ≤ (D + 1) / 36524 := by omega
  have c : (D + 1) / 146096 = D / 146096 ∨ (D + 1) / 146096 = D / 146096 + 1 ∧ (D + 1) / 36524 = D / 36524 + 1 := by omega
  unfold fG; omega
theorem fG_mono {D E : Int} (h : D ≤ E) : fG D ≤ fG E := by
  obtain ⟨n, rfl⟩ := Int.le.dest h
  clear h
  induction n with
  | zero => simp
  | succ n ih => rw [show D + ((n + 1 : Nat) : Int) = D + (n : Int) + 1 by omega]; exact Int.le_trans ih (fG_step _)
theorem fG_years : ∀ Y : Fin 400, 365 * (Y.val : Int) ≤ fG (fS Y.val) ∧ fG (fS (Y.val + 1) - 1) < 365 * ((Y.val : Int) + 1) := by decide +kernel
theorem fG_year {Y : Int} (h0 : 0 ≤ Y) (h1 : Y < 400) : 365 * Y ≤ fG (fS Y) ∧ fG (fS (Y + 1) - 1) < 365 * (Y + 1) := by
  have := fG_years ⟨Y.toNat, by omega⟩
  rwa [show ((Y.toNat : Nat) : Int) = Y by omega] at this
theorem fY_in {D Y : Int} (h0 : 0 ≤ D) (h1 : D ≤ 146096) (e : Y = fG D / 365) : 0 ≤ Y ∧ Y ≤ 399 ∧ fS Y ≤ D ∧ D < fS (Y + 1) := by
  have a := fG_mono h0
  have b := fG_mono h1
  rw [show fG 0 = 0 from by decide] at a
  rw [show fG 146096 = 145999 from by decide] at b
  have y0 : 0 ≤ Y := by omega
  have y1 : Y ≤ 399 := by omega
  refine ⟨y0, y1, ?_, ?_⟩
  · apply Int.not_lt.1
    intro k
    have p : 1 ≤ Y := by
      apply Int.not_lt.1; intro q
      have : Y = 0 := by omega
      subst this
      have : fS 0 = 0 := by decide
      omega
    have g := (fG_year (Y := Y - 1) (by omega) (by omega)).2
    rw [show Y - 1 + 1 = Y by omega] at g
    have := fG_mono (show D ≤ fS Y - 1 by omega)
    omega
  · apply Int.not_le.1
    intro k
    have p : Y < 399 := by
      apply Int.not_le.1; intro q
      have : Y = 399 := by omega
      subst this
      have : fS (399 + 1) = 146097 := by decide
      omega
    have g := (fG_year (Y := Y + 1) (by omega) (by omega)).1
    have := fG_mono k
    omega
theorem fM_in {R : Int} (h0 : 0 ≤ R) (h1 : R ≤ 365) : 0 ≤ (5 * R + 2) / 153 ∧ (5 * R + 2) / 153 ≤ 11 := by omega
theorem fR_in {D Y R : Int} (y0 : 0 ≤ Y) (y1 : Y ≤ 399) (hR : R = D - (365 * Y + Y / 4 - Y / 100)) (h1 : D < fS (Y + 1)) : R ≤ 365 ∧ (R = 365 → leap (Y + 1)) := by
  unfold fS at h1
  by_cases e : Y = 399
  · subst e
    refine ⟨by omega, fun _ => by decide⟩
  · have a : (Y + 1) / 400 = 0 := by omega
    have b : (Y + 1) / 4 = Y / 4 ∨ (Y + 1) / 4 = Y / 4 + 1 ∧ (Y + 1) % 4 = 0 := by omega
    have c : (Y + 1) / 100 = Y / 100 ∧ (Y + 1) % 100 ≠ 0 ∨ (Y + 1) / 100 = Y / 100 + 1 := by omega
    refine ⟨by omega, fun k => ?_⟩
    have c1 : (Y + 1) / 100 = Y / 100 := by omega
    have b1 : (Y + 1) / 4 = Y / 4 + 1 := by omega
    unfold leap; omega
/-- The date of a number has that number. -/
theorem date_ok (n : Int) : dIn (dY n) (dM n) (dD n) ∧ dnum (dY n) (dM n) (dD n) = n := by
  have hD := fD_in n
  have hn : n + 719468 = 146097 * fE n + fD n := by unfold fE fD; omega
  obtain ⟨y0, y1, y2, y3⟩ := fY_in (Y := fY n) hD.1 hD.2 (by unfold fY fG; rfl)
  have y4 : fY n / 400 = 0 := by omega
  have r0 : 0 ≤ fR n := by unfold fR fS at *; omega
  obtain ⟨r1, r2⟩ := fR_in (R := fR n) y0 y1 rfl y3
  have rd : fD n = 365 * fY n + fY n / 4 - fY n / 100 + fR n := by unfold fR; omega
  have hm := fM_in r0 r1
  have m0 : fM n = 0 ∨ fM n = 1 ∨ fM n = 2 ∨ fM n = 3 ∨ fM n = 4 ∨ fM n = 5 ∨ fM n = 6 ∨ fM n = 7 ∨ fM n = 8 ∨ fM n = 9 ∨ fM n = 10 ∨ fM n = 11 := by unfold fM; omega
  have hf : fM n = (5 * fR n + 2) / 153 := rfl
  unfold dY dM dD
  generalize fM n = M at *
  generalize fR n = R at *
  generalize fY n = Y at *
  generalize fE n = c at *
  generalize fD n = D at *
  have lp : leap (Y + 400 * c + 1) ↔ leap (Y + 1) := by unfold leap; omega
  by_cases hM : M ≤ 9
  · rw [if_neg (by omega), if_neg (by omega)]
    refine ⟨⟨by omega, by omega, by omega, ?_⟩, ?_⟩
    · rcases m0 with h | h | h | h | h | h | h | h | h | h | h | h <;> subst h <;> simp [mlen] <;> omega
    · rw [← count_hi (c := c) (r := Y) (by omega) (by omega) (by omega) y0 (by omega)]
      rw [show M + 3 - 0 - 3 = M by omega]; omega
  · rw [if_pos (by omega), if_pos (by omega)]
    refine ⟨⟨by omega, by omega, by omega, ?_⟩, ?_⟩
    · have : M = 10 ∨ M = 11 := by omega
      rcases this with h | h
      · subst h; simp [mlen]; omega
      · subst h
        by_cases k : leap (Y + 1)
        · simp [mlen, lp, k]; omega
        · have : R ≠ 365 := fun q => k (r2 q)
          simp [mlen, lp, k]; omega
    · rw [← count_lo (c := c) (r := Y) (by omega) (by omega) (by omega) y0 (by omega)]
      rw [show M + 3 - 12 + 9 = M by omega]; omega
theorem tdiv_lit {a b : Int} (h : a < 0) : a.tdiv b = -((-a) / b) := by
  have : a.tdiv b = -((-a).tdiv b) := by rw [Int.neg_tdiv, Int.neg_neg]
  rw [this, Int.tdiv_eq_ediv_of_nonneg (by omega)]
theorem tmod_lit {a b : Int} (h : a < 0) : a.tmod b = -((-a) % b) := by
  have : a.tmod b = -((-a).tmod b) := by rw [Int.neg_tmod, Int.neg_neg]
  rw [this, Int.tmod_eq_emod_of_nonneg (by omega)]
theorem tdiv_nn {a b : Int} (h : 0 ≤ a) : a.tdiv b = a / b := Int.tdiv_eq_ediv_of_nonneg h
theorem tmod_nn {a b : Int} (h : 0 ≤ a) : a.tmod b = a % b := Int.tmod_eq_emod_of_nonneg h
theorem ylen_b (y : Int) : 365 ≤ ylen y ∧ ylen y ≤ 366 := by unfold ylen; split <;> omega
theorem jan_b {y : Int} (h0 : -1000000 ≤ y) (h1 : y ≤ 1000000) : -1000000000 ≤ jan y ∧ jan y ≤ 1000000000 := by unfold jan; omega
theorem mst_b {y m : Int} (h1 : 1 ≤ m) (h2 : m ≤ 13) : 0 ≤ mst y m ∧ mst y m ≤ 366 := by
  have a := mst_le y (a := 1) (m - 1).toNat (by omega) (by omega)
  have b := mst_le y (a := m) (13 - m).toNat (by omega) (by omega)
  rw [show 1 + (((m - 1).toNat : Nat) : Int) = m by omega, mst_one] at a
  rw [show m + (((13 - m).toNat : Nat) : Int) = 13 by omega, mst_end] at b
  have := ylen_b y
  omega
/-- A number's date is the only one. -/
theorem date_uniq {n y m d : Int} (h : dIn y m d) (k : dnum y m d = n) : y = dY n ∧ m = dM n ∧ d = dD n := by
  obtain ⟨a, b⟩ := date_ok n
  exact dnum_inj h a (by omega)
theorem date_of {y m d : Int} (h : dIn y m d) : dY (dnum y m d) = y ∧ dM (dnum y m d) = m ∧ dD (dnum y m d) = d := by
  obtain ⟨a, b, c⟩ := date_uniq h rfl
  exact ⟨a.symm, b.symm, c.symm⟩
theorem mlen_no {y m : Int} (h : m < 1 ∨ 12 < m) : mlen y m = 0 := by
  unfold mlen
  rw [if_neg (by omega), if_neg (by omega), if_neg (by omega)]
end Go.Proofs.Ytcndfpfjckkinaa
