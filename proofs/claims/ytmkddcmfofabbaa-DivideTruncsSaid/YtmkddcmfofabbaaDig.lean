/-
  Plain lemmas on digits to the base 65536, the least one first: the value of a list of digits, of its first digits, and how sums, differences, products and comparisons of such lists go digit by digit. No program in sight.
-/
namespace Go.Proofs.Ytmkddcmfofabbaa

/-- The value of digits to the base 65536, the least one first. -/
def val : List Int → Int
  | [] => 0
  | d :: ds => d + 65536 * val ds

/-- The number at a place; 0 past the end. -/
def dg (xs : List Int) (i : Nat) : Int := xs.getD i 0
theorem dg_eq (xs : List Int) (i : Nat) : dg xs i = xs.getD i 0 := rfl
theorem dg_past (xs : List Int) (i : Nat) (h : xs.length ≤ i) : dg xs i = 0 := by
  have e : xs[i]? = none := List.getElem?_eq_none h
  rw [dg_eq, List.getD, e]; rfl

theorem dg_take (xs : List Int) (n i : Nat) (h : i < n) : dg (xs.take n) i = dg xs i := by
  simp only [dg_eq, List.getD, List.getElem?_take, if_pos h]

/-- Each digit is one. -/
def Digs (ds : List Int) : Prop := ∀ i : Nat, 0 ≤ dg ds i ∧ dg ds i < 65536

def B (n : Nat) : Int := 65536 ^ n

theorem B_zero : B 0 = 1 := rfl
theorem B_succ (n : Nat) : B (n + 1) = 65536 * B n := by unfold B; rw [Int.pow_succ]; omega
theorem B_pos (n : Nat) : 1 ≤ B n := by
  induction n with
  | zero => decide
  | succ n ih => rw [B_succ]; omega
theorem B_add (m n : Nat) : B (m + n) = B m * B n := by
  induction m with
  | zero => rw [Nat.zero_add, B_zero]; omega
  | succ m ih => rw [Nat.succ_add, B_succ, B_succ, ih]; grind
theorem B_le {m n : Nat} (h : m ≤ n) : B m ≤ B n := by
  induction n with
  | zero => have : m = 0 := by omega
            subst this; exact Int.le_refl _
  | succ n ih =>
    by_cases e : m = n + 1
    · subst e; exact Int.le_refl _
    · have := ih (by omega); have := B_pos n; rw [B_succ]; omega
theorem B_lt {m n : Nat} (h : m < n) : B m < B n := by
  have h1 := B_le (m := m + 1) (n := n) (by omega)
  have h2 := B_pos m
  rw [B_succ] at h1; omega

/-- The value of the first i digits. -/
def pre (ds : List Int) (i : Nat) : Int := val (ds.take i)

theorem pre_zero (ds : List Int) : pre ds 0 = 0 := by simp [pre, val]
theorem pre_succ (ds : List Int) (i : Nat) : pre ds (i + 1) = pre ds i + B i * dg ds i := by
  unfold pre
  simp only [dg_eq]
  induction ds generalizing i with
  | nil => simp [val]
  | cons d ds ih =>
    cases i with
    | zero => simp [val, B_zero]
    | succ i =>
      have := ih i
      simp only [List.take_succ_cons, val, List.getD_cons_succ, this, B_succ]
      grind
theorem pre_all (ds : List Int) (i : Nat) (h : ds.length ≤ i) : pre ds i = val ds := by
  unfold pre; rw [List.take_of_length_le h]
theorem pre_len (ds : List Int) : pre ds ds.length = val ds := pre_all ds _ (Nat.le_refl _)

theorem val_append (xs ys : List Int) : val (xs ++ ys) = val xs + B xs.length * val ys := by
  induction xs with
  | nil => simp [val, B_zero]
  | cons x xs ih => simp only [List.cons_append, val, ih, List.length_cons, B_succ]; grind
theorem val_snoc (xs : List Int) (y : Int) : val (xs ++ [y]) = val xs + B xs.length * y := by
  rw [val_append]; simp [val]
theorem val_take_drop (xs : List Int) (n : Nat) (h : n ≤ xs.length) : val xs = pre xs n + B n * val (xs.drop n) := by
  have := val_append (xs.take n) (xs.drop n)
  rw [List.take_append_drop, List.length_take, Nat.min_eq_left h] at this
  exact this

theorem Digs.nil : Digs [] := fun i => by simp [dg_eq]
theorem Digs.snoc {xs : List Int} {y : Int} (h : Digs xs) (h0 : 0 ≤ y) (h1 : y < 65536) : Digs (xs ++ [y]) := fun i => by
  simp only [Digs, dg_eq] at *
  rcases Nat.lt_trichotomy i xs.length with hi | hi | hi
  · have := h i; simpa [List.getD, List.getElem?_append_left hi] using this
  · subst hi; simp [List.getD]; exact ⟨h0, h1⟩
  · have e : (xs ++ [y])[i]? = none := List.getElem?_eq_none (by simp; omega)
    simp [List.getD, e]
theorem Digs.take {xs : List Int} (h : Digs xs) (n : Nat) : Digs (xs.take n) := fun i => by
  simp only [Digs, dg_eq] at *
  by_cases hi : i < n
  · have := h i; simpa [List.getD, List.getElem?_take, hi] using this
  · simp [List.getD, List.getElem?_take, hi]
theorem Digs.drop {xs : List Int} (h : Digs xs) (n : Nat) : Digs (xs.drop n) := fun i => by
  simp only [Digs, dg_eq] at *
  have := h (n + i); simpa [List.getD, List.getElem?_drop] using this
theorem Digs.set {xs : List Int} (h : Digs xs) (k : Nat) {y : Int} (h0 : 0 ≤ y) (h1 : y < 65536) : Digs (xs.set k y) := fun i => by
  simp only [Digs, dg_eq] at *
  have := h i
  by_cases hk : k = i
  · subst hk
    by_cases hl : k < xs.length
    · simp [List.getD, hl]; exact ⟨h0, h1⟩
    · simp [List.getD, hl]
  · simpa [List.getD, List.getElem?_set_ne hk] using this
theorem Digs.tail {x : Int} {xs : List Int} (h : Digs (x :: xs)) : Digs xs := fun i => by simpa [dg_eq] using h (i + 1)
theorem Digs.zeros (n : Nat) : Digs (List.replicate n 0) := fun i => by
  simp only [dg_eq, List.getD, List.getElem?_replicate]
  split <;> simp

theorem val_nonneg {xs : List Int} (h : Digs xs) : 0 ≤ val xs := by
  induction xs with
  | nil => simp [val]
  | cons x xs ih => have := ih h.tail; have h0 := (h 0).1; simp [dg_eq] at h0; simp only [val]; omega
theorem val_lt {xs : List Int} (h : Digs xs) : val xs < B xs.length := by
  induction xs with
  | nil => simp [val, B_zero]
  | cons x xs ih => have := ih h.tail; have h0 := (h 0).2; simp [dg_eq] at h0; simp only [val, List.length_cons, B_succ]; omega
theorem pre_nonneg {xs : List Int} (h : Digs xs) (i : Nat) : 0 ≤ pre xs i := val_nonneg (h.take i)
theorem pre_lt {xs : List Int} (h : Digs xs) (i : Nat) : pre xs i < B i :=
  Int.lt_of_lt_of_le (val_lt (h.take i)) (B_le (by simp; omega))
theorem val_zeros (n : Nat) : val (List.replicate n 0) = 0 := by
  induction n with
  | zero => rfl
  | succ n ih => simp [List.replicate_succ, val, ih]

theorem val_set (xs : List Int) (k : Nat) (y : Int) (h : k < xs.length) : val (xs.set k y) = val xs + B k * (y - dg xs k) := by
  simp only [dg_eq]
  induction xs generalizing k with
  | nil => simp at h
  | cons x xs ih =>
    cases k with
    | zero => simp [val, B_zero]; omega
    | succ k =>
      have := ih k (by simpa using h)
      simp only [List.set_cons_succ, val, this, List.getD_cons_succ, B_succ]
      grind

/-- The last digit is not 0. -/
def Tidy (ds : List Int) : Prop := ds.length ≠ 0 → dg ds (ds.length - 1) ≠ 0
theorem Tidy.nil : Tidy [] := fun h => absurd rfl h

theorem tidy_ge {ds : List Int} (h : Digs ds) (t : Tidy ds) (hn : ds.length ≠ 0) : B (ds.length - 1) ≤ val ds := by
  have h1 := t hn
  have h2 := pre_succ ds (ds.length - 1)
  rw [show ds.length - 1 + 1 = ds.length from by omega, pre_len] at h2
  have h3 := pre_nonneg h (ds.length - 1)
  have h4 := (h (ds.length - 1)).1
  have h5 := B_pos (ds.length - 1)
  have h6 : B (ds.length - 1) * 1 ≤ B (ds.length - 1) * dg ds (ds.length - 1) := Int.mul_le_mul_of_nonneg_left (by omega) (by omega)
  omega
theorem tidy_zero {ds : List Int} (h : Digs ds) (t : Tidy ds) : val ds = 0 ↔ ds = [] := by
  constructor
  · intro hv
    by_cases hn : ds.length = 0
    · exact List.length_eq_zero_iff.1 hn
    · have := tidy_ge h t hn; have := B_pos (ds.length - 1); omega
  · intro e; subst e; rfl
/-- So many digits at most. -/
theorem tidy_len {ds : List Int} (h : Digs ds) (t : Tidy ds) (k : Nat) (hv : val ds < B k) : ds.length ≤ k := by
  by_cases hn : ds.length = 0
  · omega
  · have h1 := tidy_ge h t hn
    by_cases hk : ds.length ≤ k
    · exact hk
    · have := B_le (m := k) (n := ds.length - 1) (by omega); omega
theorem less_len {xs ys : List Int} (hx : Digs xs) (hy : Digs ys) (ty : Tidy ys) (h : xs.length < ys.length) : val xs < val ys := by
  have h1 := tidy_ge hy ty (by omega)
  have h2 := val_lt hx
  have h3 := B_le (m := xs.length) (n := ys.length - 1) (by omega)
  omega
/-- Digits from i on are the same, digit i - 1 is less. -/
theorem less_at {xs ys : List Int} (hx : Digs xs) (hy : Digs ys) (i : Nat) (hl : xs.length = ys.length) (hi : i < xs.length)
    (hd : xs.drop (i + 1) = ys.drop (i + 1)) (h : dg xs i < dg ys i) : val xs < val ys := by
  have h1 := val_take_drop xs (i + 1) (by omega)
  have h2 := val_take_drop ys (i + 1) (by omega)
  rw [pre_succ] at h1 h2
  rw [hd] at h1
  have h3 := pre_lt hx i
  have h4 := pre_nonneg hy i
  have h5 : B i * (dg xs i + 1) ≤ B i * dg ys i := Int.mul_le_mul_of_nonneg_left (by omega) (by have := B_pos i; omega)
  have h6 : B i * (dg xs i + 1) = B i * dg xs i + B i := by grind
  omega

/-- One digit more of a sum: what is carried on stands one place higher. -/
theorem carry_step (V T s : Int) (zs : List Int) (k : Nat) (hk : zs.length = k) (h : V = val zs + B k * T) :
    V + B k * (s - T) = val (zs ++ [s % 65536]) + B (k + 1) * (s / 65536) := by
  rw [val_snoc, hk, B_succ, h]
  have e : s = s % 65536 + 65536 * (s / 65536) := by omega
  generalize s % 65536 = r at *
  generalize s / 65536 = q at *
  subst e
  grind
theorem plus_step (xs ys zs : List Int) (k : Nat) (c : Int) (hk : zs.length = k) (h : val zs + B k * c = pre xs k + pre ys k) :
    val (zs ++ [(dg xs k + dg ys k + c) % 65536]) + B (k + 1) * ((dg xs k + dg ys k + c) / 65536) = pre xs (k + 1) + pre ys (k + 1) := by
  have h1 := carry_step (val zs + B k * c) c (dg xs k + dg ys k + c) zs k hk rfl
  rw [← h1, h, pre_succ, pre_succ]
  grind
theorem digit_mod (s : Int) : 0 ≤ s % 65536 ∧ s % 65536 < 65536 := by omega

theorem minus_step (xs ys zs : List Int) (k : Nat) (c t : Int) (hk : zs.length = k) (h : val zs - B k * c = pre xs k - pre ys k) :
    val (zs ++ [dg xs k - dg ys k - c + 65536 * t]) - B (k + 1) * t = pre xs (k + 1) - pre ys (k + 1) := by
  rw [val_snoc, hk, B_succ, pre_succ, pre_succ]
  grind
theorem minus_end {xs ys zs : List Int} (dz : Digs zs) {k : Nat} {c : Int} (hk : zs.length = k) (hx : xs.length ≤ k) (hy : ys.length ≤ k) (hc0 : 0 ≤ c) (hle : val ys ≤ val xs)
    (h : val zs - B k * c = pre xs k - pre ys k) (hc1 : c ≤ 1) : val zs = val xs - val ys := by
  rw [pre_all xs k hx, pre_all ys k hy] at h
  have h1 := val_lt dz
  rw [hk] at h1
  have : c = 0 ∨ c = 1 := by omega
  rcases this with rfl | rfl <;> omega

/-- -1, 0, 1. -/
def cmpI (a b : Int) : Int := if a < b then -1 else if a = b then 0 else 1
theorem cmpI_lt {a b : Int} (h : a < b) : cmpI a b = -1 := by simp [cmpI, h]
theorem cmpI_gt {a b : Int} (h : b < a) : cmpI a b = 1 := by
  unfold cmpI; rw [if_neg (by omega), if_neg (by omega)]
theorem cmpI_eq {a b : Int} (h : a = b) : cmpI a b = 0 := by subst h; simp [cmpI]
theorem cmpI_bd (a b : Int) : -1 ≤ cmpI a b ∧ cmpI a b ≤ 1 := by unfold cmpI; split <;> (try split) <;> omega
theorem cmpI_ge (a b : Int) : 0 ≤ cmpI a b ↔ b ≤ a := by unfold cmpI; split <;> (try split) <;> omega

theorem drop_step (xs ys : List Int) (i : Nat) (hl : xs.length = ys.length) (hi : i < xs.length) (hd : xs.drop (i + 1) = ys.drop (i + 1)) (h : dg xs i = dg ys i) : xs.drop i = ys.drop i := by
  have hy : i < ys.length := by omega
  rw [List.drop_eq_getElem_cons hi, List.drop_eq_getElem_cons hy, hd]
  simp only [dg_eq, List.getD, List.getElem?_eq_getElem hi, List.getElem?_eq_getElem hy, Option.getD_some] at h
  rw [h]

/-- The last digits that are 0 give nothing. -/
theorem pre_strip (xs : List Int) (n : Nat) (h : dg xs n = 0) : pre xs (n + 1) = pre xs n := by rw [pre_succ, h]; omega

theorem ofu_step (n q : Int) (zs : List Int) (k : Nat) (hk : zs.length = k) (h : val zs + B k * q = n) : val (zs ++ [q % 65536]) + B (k + 1) * (q / 65536) = n := by
  have := carry_step (val zs + B k * q) q q zs k hk rfl
  rw [← this, ← h]
  grind
theorem ofu_end {zs : List Int} (dz : Digs zs) {n q : Int} (h : val zs + B 4 * q = n) (h1 : n < 18446744073709551616) (hq : 0 ≤ q) : val zs = n := by
  have h0 := val_nonneg dz
  have e : B 4 = 18446744073709551616 := by decide
  rw [e] at h
  omega

/-- A number by its sign. -/
def sgn (neg : Bool) (m : Int) : Int := if neg then -m else m

/-- So great at most that no bound of memory is ever met. -/
def Fit (n : Int) : Prop := (n.natAbs : Int) < B 7000
theorem Fit.neg {n : Int} (h : Fit n) : Fit (-n) := by unfold Fit at *; rw [Int.natAbs_neg]; exact h
theorem Fit.abs {n : Int} (h : Fit n) : Fit n.natAbs := by unfold Fit at *; rw [Int.natAbs_natCast]; exact h
theorem B_two (n : Nat) : B n = ((2 ^ (16 * n) : Nat) : Int) := by
  induction n with
  | zero => rfl
  | succ n ih =>
    rw [B_succ, ih, show 16 * (n + 1) = 16 * n + 16 from by omega, Nat.pow_add]
    simp only [Int.natCast_mul]
    generalize ((2 ^ (16 * n) : Nat) : Int) = t
    have : ((2 ^ 16 : Nat) : Int) = 65536 := by decide
    rw [this]; omega

/-- A number of k bits at most, beside its sign. -/
def Bits (k : Nat) (n : Int) : Prop := n.natAbs < 2 ^ k
theorem Bits.mono {k l : Nat} {n : Int} (h : Bits k n) (hkl : k ≤ l) : Bits l n := Nat.lt_of_lt_of_le h (Nat.pow_le_pow_right (by omega) hkl)
theorem Bits.neg {k : Nat} {n : Int} (h : Bits k n) : Bits k (-n) := by unfold Bits at *; rw [Int.natAbs_neg]; exact h
theorem Bits.abs {k : Nat} {n : Int} (h : Bits k n) : Bits k n.natAbs := by unfold Bits at *; rw [Int.natAbs_natCast]; exact h
theorem Bits.add {k : Nat} {m n : Int} (h : Bits k m) (h' : Bits k n) : Bits (k + 1) (m + n) := by
  unfold Bits at *; have := Int.natAbs_add_le m n; rw [Nat.pow_succ]; omega
theorem Bits.sub {k : Nat} {m n : Int} (h : Bits k m) (h' : Bits k n) : Bits (k + 1) (m - n) := by
  rw [Int.sub_eq_add_neg]; exact h.add h'.neg
theorem Bits.mul {k l : Nat} {m n : Int} (h : Bits k m) (h' : Bits l n) : Bits (k + l) (m * n) := by
  unfold Bits at *; rw [Int.natAbs_mul, Nat.pow_add]
  exact Nat.mul_lt_mul'' h h'
theorem Bits.lt_B {k : Nat} {n : Int} (h : Bits k n) (K : Nat) (hk : k ≤ 16 * K) : (n.natAbs : Int) < B K := by
  rw [B_two]
  exact Int.ofNat_lt.2 (Nat.lt_of_lt_of_le h (Nat.pow_le_pow_right (by omega) hk))
theorem Bits.fit {k : Nat} {n : Int} (h : Bits k n) (hk : k ≤ 100000) : Fit n := h.lt_B 7000 (by omega)
theorem Bits.le {k : Nat} {m n : Int} (h : Bits k m) (h' : n.natAbs ≤ m.natAbs) : Bits k n := Nat.lt_of_le_of_lt h' h
theorem Bits.pow (k : Nat) : Bits (k + 1) (2 ^ k) := by
  unfold Bits; rw [Int.natAbs_pow]; exact Nat.pow_lt_pow_right (by decide) (Nat.lt_succ_self k)
/-- A product digit by digit: one digit more of the inner loop. -/
theorem mul_step {xs ys zs : List Int} {i k : Nat} {c : Int} (h : val zs + B (i + k) * c = pre xs i * val ys + dg xs i * B i * pre ys k) (hl : i + k < zs.length) :
    val (zs.set (i + k) ((dg zs (i + k) + dg xs i * dg ys k + c) % 65536)) + B (i + (k + 1)) * ((dg zs (i + k) + dg xs i * dg ys k + c) / 65536) = pre xs i * val ys + dg xs i * B i * pre ys (k + 1) := by
  rw [val_set zs (i + k) _ hl, pre_succ, show i + (k + 1) = (i + k) + 1 from rfl, B_succ]
  have e : dg zs (i + k) + dg xs i * dg ys k + c = (dg zs (i + k) + dg xs i * dg ys k + c) % 65536 + 65536 * ((dg zs (i + k) + dg xs i * dg ys k + c) / 65536) := by omega
  generalize (dg zs (i + k) + dg xs i * dg ys k + c) % 65536 = r at *
  generalize (dg zs (i + k) + dg xs i * dg ys k + c) / 65536 = q at *
  have hB := B_add i k
  generalize dg zs (i + k) = z at *
  generalize B (i + k) = b at *
  generalize B i = bi at *
  generalize B k = bk at *
  subst hB
  grind
theorem mul_bound {z x y c : Int} (hz : 0 ≤ z ∧ z < 65536) (hx : 0 ≤ x ∧ x < 65536) (hy : 0 ≤ y ∧ y < 65536) (hc : 0 ≤ c ∧ c < 65536) :
    0 ≤ x * y ∧ x * y ≤ 4294836225 ∧ 0 ≤ (z + x * y + c) / 65536 ∧ (z + x * y + c) / 65536 < 65536 := by
  have h1 : 0 ≤ x * y := Int.mul_nonneg hx.1 hy.1
  have h2 : x * y ≤ 65535 * 65535 := Int.mul_le_mul (by omega) (by omega) hy.1 (by omega)
  omega
theorem mul_exit {xs ys zs : List Int} {i k : Nat} {c : Int} (h : val zs + B (i + k) * c = pre xs i * val ys + dg xs i * B i * pre ys k) (hk : ys.length ≤ k) (hc : c = 0) : val zs = pre xs (i + 1) * val ys := by
  subst hc
  rw [pre_all ys k hk] at h
  rw [pre_succ]
  grind
theorem mul_idx {xs ys zs : List Int} (dx : Digs xs) (dy : Digs ys) (dz : Digs zs) {i k : Nat} {c : Int} (h : val zs + B (i + k) * c = pre xs i * val ys + dg xs i * B i * pre ys k) (hc : 0 < c) : k ≤ ys.length := by
  by_cases hk : k ≤ ys.length
  · exact hk
  · exfalso
    rw [pre_all ys k (by omega)] at h
    have h1 := pre_succ xs i
    have h2 := pre_lt dx (i + 1)
    have h3 := pre_nonneg dx (i + 1)
    have h4 := val_lt dy
    have h5 := val_nonneg dy
    have h6 := val_nonneg dz
    have h7 := B_le (m := i + 1 + ys.length) (n := i + k) (by omega)
    rw [B_add] at h7
    have h8 : pre xs (i + 1) * val ys ≤ (B (i + 1) - 1) * (B ys.length - 1) := Int.mul_le_mul (by omega) (by omega) h5 (by omega)
    have h9 : B (i + k) * 1 ≤ B (i + k) * c := Int.mul_le_mul_of_nonneg_left (by omega) (by have := B_pos (i + k); omega)
    have h10 : pre xs (i + 1) * val ys = pre xs i * val ys + dg xs i * B i * val ys := by rw [h1]; grind
    have h11 : (B (i + 1) - 1) * (B ys.length - 1) = B (i + 1) * B ys.length - B (i + 1) - B ys.length + 1 := by grind
    have := B_pos (i + 1)
    have := B_pos ys.length
    omega
theorem mul_start {xs ys zs : List Int} {i : Nat} (h : val zs = pre xs i * val ys) : val zs + B (i + 0) * 0 = pre xs i * val ys + dg xs i * B i * pre ys 0 := by
  rw [pre_zero, h]; omega
theorem sgn_mul {na nb : Bool} {m n z x y : Int} (hz : z = x * y) (hx : x = m.natAbs) (hy : y = n.natAbs) (ha : na = decide (m < 0)) (hb : nb = decide (n < 0)) : sgn (na != nb) z = m * n := by
  subst hz hx hy ha hb
  by_cases h1 : m < 0 <;> by_cases h2 : n < 0 <;> simp only [sgn, h1, h2, decide_true, decide_false, bne_self_eq_false, Bool.true_bne, Bool.false_bne, Bool.not_false, if_true, Bool.false_eq_true, if_false]
  · rw [show ((m.natAbs : Nat) : Int) = -m from by omega, show ((n.natAbs : Nat) : Int) = -n from by omega]; grind
  · rw [show ((m.natAbs : Nat) : Int) = -m from by omega, show ((n.natAbs : Nat) : Int) = n from by omega]; grind
  · rw [show ((m.natAbs : Nat) : Int) = m from by omega, show ((n.natAbs : Nat) : Int) = -n from by omega]; grind
  · rw [show ((m.natAbs : Nat) : Int) = m from by omega, show ((n.natAbs : Nat) : Int) = n from by omega]

theorem pow_succ2 (k : Nat) : (2 : Int) ^ (k + 1) = 2 ^ k + 2 ^ k := by rw [Int.pow_succ]; omega
attribute [irreducible] B

end Go.Proofs.Ytmkddcmfofabbaa
