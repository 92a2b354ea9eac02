/-
  Plain lemmas on digits to the base 65536, the least one first: the value of a list of digits, of its first digits, and how sums, differences, products and comparisons of such lists go digit by digit. No program in sight.
-/
import Derived.Test.YtcndfpfjckkinaaProg
import Derived.WalkKit
import Derived.WalkLawsBesides
import Derived.WalkSpells
import Derived.Lib.Hide
import Derived.Lib.SmallJoins
import Derived.Deep.QuietTactic
import Derived.BigQuiet
import Derived.WalkSmall
namespace Go.Proofs.Ytcndfpfjckkinaa

/-- The value of digits to the base 65536, the least one first. -/
def val : List Int → Int
  | [] => 0
  | d :: ds => d + 65536 * val ds

/-- The number at a place; 0 past the end. -/
def dg (xs : List Int) (i : Nat) : Int := xs.getD i 0
theorem dg_eq (xs : List Int) (i : Nat) : dg xs i = xs.getD i 0 := rfl
theorem dg_past (xs : List Int) (i : Nat) (h : xs.length ≤ i) : dg xs i = 0 := by
  have e : xs[i]? = none := List.getElem?_eq_none h
  rw [dg_eq, List.getD, e]; rfl

theorem dg_take (xs : List Int) (n i : Nat) (h : i < n) : dg (xs.take n) i = dg xs i := by
  simp only [dg_eq, List.getD, List.getElem?_take, if_pos h]

/-- Each digit is one. -/
def Digs (ds : List Int) : Prop := ∀ i : Nat, 0 ≤ dg ds i ∧ dg ds i < 65536

def B (n : Nat) : Int := 65536 ^ n

theorem B_zero : B 0 = 1 := rfl
theorem B_succ (n : Nat) : B (n + 1) = 65536 * B n := by unfold B; rw [Int.pow_succ]; omega
theorem B_pos (n : Nat) : 1 ≤ B n := by
  induction n with
  | zero => decide
  | succ n ih => rw [B_succ]; omega
theorem B_add (m n : Nat) : B (m + n) = B m * B n := by
  induction m with
  | zero => rw [Nat.zero_add, B_zero]; omega
  | succ m ih => rw [Nat.succ_add, B_succ, B_succ, ih]; grind
theorem B_le {m n : Nat} (h : m ≤ n) : B m ≤ B n := by
  induction n with
  | zero => have : m = 0 := by omega
            subst this; exact Int.le_refl _
  | succ n ih =>
    by_cases e : m = n + 1
    · subst e; exact Int.le_refl _
    · have := ih (by omega); have := B_pos n; rw [B_succ]; omega
theorem B_lt {m n : Nat} (h : m < n) : B m < B n := by
  have h1 := B_le (m := m + 1) (n := n) (by omega)
  have h2 := B_pos m
  rw [B_succ] at h1; omega

/-- The value of the first i digits. -/
def pre (ds : List Int) (i : Nat) : Int := val (ds.take i)

theorem pre_zero (ds : List Int) : pre ds 0 = 0 := by simp [pre, val]
theorem pre_succ (ds : List Int) (i : Nat) : pre ds (i + 1) = pre ds i + B i * dg ds i := by
  unfold pre
  simp only [dg_eq]
  induction ds generalizing i with
  | nil => simp [val]
  | cons d ds ih =>
    cases i with
    | zero => simp [val, B_zero]
    | succ i =>
      have := ih i
      simp only [List.take_succ_cons, val, List.getD_cons_succ, this, B_succ]
      grind
theorem pre_all (ds : List Int) (i : Nat) (h : ds.length ≤ i) : pre ds i = val ds := by
  unfold pre; rw [List.take_of_length_le h]
theorem pre_len (ds : List Int) : pre ds ds.length = val ds := pre_all ds _ (Nat.le_refl _)

theorem val_append (xs ys : List Int) : val (xs ++ ys) = val xs + B xs.length * val ys := by
  induction xs with
  | nil => simp [val, B_zero]
  | cons x xs ih => simp only [List.cons_append, val, ih, List.length_cons, B_succ]; grind
theorem val_snoc (xs : List Int) (y : Int) : val (xs ++ [y]) = val xs + B xs.length * y := by
  rw [val_append]; simp [val]
theorem val_take_drop (xs : List Int) (n : Nat) (h : n ≤ xs.length) : val xs = pre xs n + B n * val (xs.drop n) := by
  have := val_append (xs.take n) (xs.drop n)
  rw [List.take_append_drop, List.length_take, Nat.min_eq_left h] at this
  exact this

theorem Digs.nil : Digs [] := fun i => by simp [dg_eq]
theorem Digs.snoc {xs : List Int} {y : Int} (h : Digs xs) (h0 : 0 ≤ y) (h1 : y < 65536) : Digs (xs ++ [y]) := fun i => by
  simp only [Digs, dg_eq] at *
  rcases Nat.lt_trichotomy i xs.length with hi | hi | hi
  · have := h i; simpa [List.getD, List.getElem?_append_left hi] using this
  · subst hi; simp [List.getD]; exact ⟨h0, h1⟩
  · have e : (xs ++ [y])[i]? = none := List.getElem?_eq_none (by simp; omega)
    simp [List.getD, e]
theorem Digs.take {xs : List Int} (h : Digs xs) (n : Nat) : Digs (xs.take n) := fun i => by
  simp only [Digs, dg_eq] at *
  by_cases hi : i < n
  · have := h i; simpa [List.getD, List.getElem?_take, hi] using this
  · simp [List.getD, List.getElem?_take, hi]
theorem Digs.drop {xs : List Int} (h : Digs xs) (n : Nat) : Digs (xs.drop n) := fun i => by
  simp only [Digs, dg_eq] at *
  have := h (n + i); simpa [List.getD, List.getElem?_drop] using this
theorem Digs.set {xs : List Int} (h : Digs xs) (k : Nat) {y : Int} (h0 : 0 ≤ y) (h1 : y < 65536) : Digs (xs.set k y) := fun i => by
  simp only [Digs, dg_eq] at *
  have := h i
  by_cases hk : k = i
  · subst hk
    by_cases hl : k < xs.length
    · simp [List.getD, hl]; exact ⟨h0, h1⟩
    · simp [List.getD, hl]
  · simpa [List.getD, List.getElem?_set_ne hk] using this
theorem Digs.tail {x : Int} {xs : List Int} (h : Digs (x :: xs)) : Digs xs := fun i => by simpa [dg_eq] using h (i + 1)
theorem Digs.zeros (n : Nat) : Digs (List.replicate n 0) := fun i => by
  simp only [dg_eq, List.getD, List.getElem?_replicate]
  split <;> simp

theorem val_nonneg {xs : List Int} (h : Digs xs) : 0 ≤ val xs := by
  induction xs with
  | nil => simp [val]
  | cons x xs ih => have := ih h.tail; have h0 := (h 0).1; simp [dg_eq] at h0; simp only [val]; omega
theorem val_lt {xs : List Int} (h : Digs xs) : val xs < B xs.length := by
  induction xs with
  | nil => simp [val, B_zero]
  | cons x xs ih => have := ih h.tail; have h0 := (h 0).2; simp [dg_eq] at h0; simp only [val, List.length_cons, B_succ]; omega
theorem pre_nonneg {xs : List Int} (h : Digs xs) (i : Nat) : 0 ≤ pre xs i := val_nonneg (h.take i)
theorem pre_lt {xs : List Int} (h : Digs xs) (i : Nat) : pre xs i < B i :=
  Int.lt_of_lt_of_le (val_lt (h.take i)) (B_le (by simp; omega))
theorem val_zeros (n : Nat) : val (List.replicate n 0) = 0 := by
  induction n with
  | zero => rfl
  | succ n ih => simp [List.replicate_succ, val, ih]

theorem val_set (xs : List Int) (k : Nat) (y : Int) (h : k < xs.length) : val (xs.set k y) = val xs + B k * (y - dg xs k) := by
  simp only [dg_eq]
  induction xs generalizing k with
  | nil => simp at h
  | cons x xs ih =>
    cases k with
    | zero => simp [val, B_zero]; omega
    | succ k =>
      have := ih k (by simpa using h)
      simp only [List.set_cons_succ, val, this, List.getD_cons_succ, B_succ]
      grind

/-- The last digit is not 0. -/
def Tidy (ds : List Int) : Prop := ds.length ≠ 0 → dg ds (ds.length - 1) ≠ 0
theorem Tidy.nil : Tidy [] := fun h => absurd rfl h

theorem tidy_ge {ds : List Int} (h : Digs ds) (t : Tidy ds) (hn : ds.length ≠ 0) : B (ds.length - 1) ≤ val ds := by
  have h1 := t hn
  have h2 := pre_succ ds (ds.length - 1)
  rw [show ds.length - 1 + 1 = ds.length from by omega, pre_len] at h2
  have h3 := pre_nonneg h (ds.length - 1)
  have h4 := (h (ds.length - 1)).1
  have h5 := B_pos (ds.length - 1)
  have h6 : B (ds.length - 1) * 1 ≤ B (ds.length - 1) * dg ds (ds.length - 1) := Int.mul_le_mul_of_nonneg_left (by omega) (by omega)
  omega
theorem tidy_zero {ds : List Int} (h : Digs ds) (t : Tidy ds) : val ds = 0 ↔ ds = [] := by
  constructor
  · intro hv
    by_cases hn : ds.length = 0
    · exact List.length_eq_zero_iff.1 hn
    · have := tidy_ge h t hn; have := B_pos (ds.length - 1); omega
  · intro e; subst e; rfl
/-- So many digits at most. -/
theorem tidy_len {ds : List Int} (h : Digs ds) (t : Tidy ds) (k : Nat) (hv : val ds < B k) : ds.length ≤ k := by
  by_cases hn : ds.length = 0
  · omega
  · have h1 := tidy_ge h t hn
    by_cases hk : ds.length ≤ k
    · exact hk
    · have := B_le (m := k) (n := ds.length - 1) (by omega); omega
theorem less_len {xs ys : List Int} (hx : Digs xs) (hy : Digs ys) (ty : Tidy ys) (h : xs.length < ys.length) : val xs < val ys := by
  have h1 := tidy_ge hy ty (by omega)
  have h2 := val_lt hx
  have h3 := B_le (m := xs.length) (n := ys.length - 1) (by omega)
  omega
/-- Digits from i on are the same, digit i - 1 is less. -/
theorem less_at {xs ys : List Int} (hx : Digs xs) (hy : Digs ys) (i : Nat) (hl : xs.length = ys.length) (hi : i < xs.length)
    (hd : xs.drop (i + 1) = ys.drop (i + 1)) (h : dg xs i < dg ys i) : val xs < val ys := by
  have h1 := val_take_drop xs (i + 1) (by omega)
  have h2 := val_take_drop ys (i + 1) (by omega)
  rw [pre_succ] at h1 h2
  rw [hd] at h1
  have h3 := pre_lt hx i
  have h4 := pre_nonneg hy i
  have h5 : B i * (dg xs i + 1) ≤ B i * dg ys i := Int.mul_le_mul_of_nonneg_left (by omega) (by have := B_pos i; omega)
  have h6 : B i * (dg xs i + 1) = B i * dg xs i + B i := by grind
  omega

/-- One digit more of a sum: what is carried on stands one place higher. -/
theorem carry_step (V T s : Int) (zs : List Int) (k : Nat) (hk : zs.length = k) (h : V = val zs + B k * T) :
    V + B k * (s - T) = val (zs ++ [s % 65536]) + B (k + 1) * (s / 65536) := by
  rw [val_snoc, hk, B_succ, h]
  have e : s = s % 65536 + 65536 * (s / 65536) := by omega
  generalize s % 65536 = r at *
  generalize s / 65536 = q at *
  subst e
  grind
theorem plus_step (xs ys zs : List Int) (k : Nat) (c : Int) (hk : zs.length = k) (h : val zs + B k * c = pre xs k + pre ys k) :
    val (zs ++ [(dg xs k + dg ys k + c) % 65536]) + B (k + 1) * ((dg xs k + dg ys k + c) / 65536) = pre xs (k + 1) + pre ys (k + 1) := by
  have h1 := carry_step (val zs + B k * c) c (dg xs k + dg ys k + c) zs k hk rfl
  rw [← h1, h, pre_succ, pre_succ]
  grind
theorem digit_mod (s : Int) : 0 ≤ s % 65536 ∧ s % 65536 < 65536 := by omega

theorem minus_step (xs ys zs : List Int) (k : Nat) (c t : Int) (hk : zs.length = k) (h : val zs - B k * c = pre xs k - pre ys k) :
    val (zs ++ [dg xs k - dg ys k - c + 65536 * t]) - B (k + 1) * t = pre xs (k + 1) - pre ys (k + 1) := by
  rw [val_snoc, hk, B_succ, pre_succ, pre_succ]
  grind
theorem minus_end {xs ys zs : List Int} (dz : Digs zs) {k : Nat} {c : Int} (hk : zs.length = k) (hx : xs.length ≤ k) (hy : ys.length ≤ k) (hc0 : 0 ≤ c) (hle : val ys ≤ val xs)
    (h : val zs - B k * c = pre xs k - pre ys k) (hc1 : c ≤ 1) : val zs = val xs - val ys := by
  rw [pre_all xs k hx, pre_all ys k hy] at h
  have h1 := val_lt dz
  rw [hk] at h1
  have : c = 0 ∨ c = 1 := by omega
  rcases this with rfl | rfl <;> omega

/-- -1, 0, 1. -/
def cmpI (a b : Int) : Int := if a < b then -1 else if a = b then 0 else 1
theorem cmpI_lt {a b : Int} (h : a < b) : cmpI a b = -1 := by simp [cmpI, h]
theorem cmpI_gt {a b : Int} (h : b < a) : cmpI a b = 1 := by
  unfold cmpI; rw [if_neg (by omega), if_neg (by omega)]
theorem cmpI_eq {a b : Int} (h : a = b) : cmpI a b = 0 := by subst h; simp [cmpI]
theorem cmpI_bd (a b : Int) : -1 ≤ cmpI a b ∧ cmpI a b ≤ 1 := by unfold cmpI; split <;> (try split) <;> omega
theorem cmpI_ge (a b : Int) : 0 ≤ cmpI a b ↔ b ≤ a := by unfold cmpI; split <;> (try split) <;> omega

theorem drop_step (xs ys : List Int) (i : Nat) (hl : xs.length = ys.length) (hi : i < xs.length) (hd : xs.drop (i + 1) = ys.drop (i + 1)) (h : dg xs i = dg ys i) : xs.drop i = ys.drop i := by
  have hy : i < ys.length := by omega
  rw [List.drop_eq_getElem_cons hi, List.drop_eq_getElem_cons hy, hd]
  simp only [dg_eq, List.getD, List.getElem?_eq_getElem hi, List.getElem?_eq_getElem hy, Option.getD_some] at h
  rw [h]

/-- The last digits that are 0 give nothing. -/
theorem pre_strip (xs : List Int) (n : Nat) (h : dg xs n = 0) : pre xs (n + 1) = pre xs n := by rw [pre_succ, h]; omega

theorem ofu_step (n q : Int) (zs : List Int) (k : Nat) (hk : zs.length = k) (h : val zs + B k * q = n) : val (zs ++ [q % 65536]) + B (k + 1) * (q / 65536) = n := by
  have := carry_step (val zs + B k * q) q q zs k hk rfl
  rw [← this, ← h]
  grind
theorem ofu_end {zs : List Int} (dz : Digs zs) {n q : Int} (h : val zs + B 4 * q = n) (h1 : n < 18446744073709551616) (hq : 0 ≤ q) : val zs = n := by
  have h0 := val_nonneg dz
  have e : B 4 = 18446744073709551616 := by decide
  rw [e] at h
  omega

/-- A number by its sign. -/
def sgn (neg : Bool) (m : Int) : Int := if neg then -m else m

/-- So great at most that no bound of memory is ever met. -/
def Fit (n : Int) : Prop := (n.natAbs : Int) < B 7000
theorem Fit.neg {n : Int} (h : Fit n) : Fit (-n) := by unfold Fit at *; rw [Int.natAbs_neg]; exact h
theorem Fit.abs {n : Int} (h : Fit n) : Fit n.natAbs := by unfold Fit at *; rw [Int.natAbs_natCast]; exact h
theorem B_two (n : Nat) : B n = ((2 ^ (16 * n) : Nat) : Int) := by
  induction n with
  | zero => rfl
  | succ n ih =>
    rw [B_succ, ih, show 16 * (n + 1) = 16 * n + 16 from by omega, Nat.pow_add]
    simp only [Int.natCast_mul]
    generalize ((2 ^ (16 * n) : Nat) : Int) = t
    have : ((2 ^ 16 : Nat) : Int) = 65536 := by decide
    rw [this]; omega

/-- A number of k bits at most, beside its sign. -/
def Bits (k : Nat) (n : Int) : Prop := n.natAbs < 2 ^ k
theorem Bits.mono {k l : Nat} {n : Int} (h : Bits k n) (hkl : k ≤ l) : Bits l n := Nat.lt_of_lt_of_le h (Nat.pow_le_pow_right (by omega) hkl)
theorem Bits.neg {k : Nat} {n : Int} (h : Bits k n) : Bits k (-n) := by unfold Bits at *; rw [Int.natAbs_neg]; exact h
theorem Bits.abs {k : Nat} {n : Int} (h : Bits k n) : Bits k n.natAbs := by unfold Bits at *; rw [Int.natAbs_natCast]; exact h
theorem Bits.add {k : Nat} {m n : Int} (h : Bits k m) (h' : Bits k n) : Bits (k + 1) (m + n) := by
  unfold Bits at *; have := Int.natAbs_add_le m n; rw [Nat.pow_succ]; omega
theorem Bits.sub {k : Nat} {m n : Int} (h : Bits k m) (h' : Bits k n) : Bits (k + 1) (m - n) := by
  rw [Int.sub_eq_add_neg]; exact h.add h'.neg
theorem Bits.mul {k l : Nat} {m n : Int} (h : Bits k m) (h' : Bits l n) : Bits (k + l) (m * n) := by
  unfold Bits at *; rw [Int.natAbs_mul, Nat.pow_add]
  exact Nat.mul_lt_mul'' h h'
theorem Bits.lt_B {k : Nat} {n : Int} (h : Bits k n) (K : Nat) (hk : k ≤ 16 * K) : (n.natAbs : Int) < B K := by
  rw [B_two]
  exact Int.ofNat_lt.2 (Nat.lt_of_lt_of_le h (Nat.pow_le_pow_right (by omega) hk))
theorem Bits.fit {k : Nat} {n : Int} (h : Bits k n) (hk : k ≤ 100000) : Fit n := h.lt_B 7000 (by omega)
theorem Bits.le {k : Nat} {m n : Int} (h : Bits k m) (h' : n.natAbs ≤ m.natAbs) : Bits k n := Nat.lt_of_le_of_lt h' h
theorem Bits.pow (k : Nat) : Bits (k + 1) (2 ^ k) := by
  unfold Bits; rw [Int.natAbs_pow]; exact Nat.pow_lt_pow_right (by decide) (Nat.lt_succ_self k)
/-- A product digit by digit: one digit more of the inner loop. -/
theorem mul_step {xs ys zs : List Int} {i k : Nat} {c : Int} (h : val zs + B (i + k) * c = pre xs i * val ys + dg xs i * B i * pre ys k) (hl : i + k < zs.length) :
    val (zs.set (i + k) ((dg zs (i + k) + dg xs i * dg ys k + c) % 65536)) + B (i + (k + 1)) * ((dg zs (i + k) + dg xs i * dg ys k + c) / 65536) = pre xs i * val ys + dg xs i * B i * pre ys (k + 1) := by
  rw [val_set zs (i + k) _ hl, pre_succ, show i + (k + 1) = (i + k) + 1 from rfl, B_succ]
  have e : dg zs (i + k) + dg xs i * dg ys k + c = (dg zs (i + k) + dg xs i * dg ys k + c) % 65536 + 65536 * ((dg zs (i + k) + dg xs i * dg ys k + c) / 65536) := by omega
  generalize (dg zs (i + k) + dg xs i * dg ys k + c) % 65536 = r at *
  generalize (dg zs (i + k) + dg xs i * dg ys k + c) / 65536 = q at *
  have hB := B_add i k
  generalize dg zs (i + k) = z at *
  generalize B (i + k) = b at *
  generalize B i = bi at *
  generalize B k = bk at *
  subst hB
  grind
theorem mul_bound {z x y c : Int} (hz : 0 ≤ z ∧ z < 65536) (hx : 0 ≤ x ∧ x < 65536) (hy : 0 ≤ y ∧ y < 65536) (hc : 0 ≤ c ∧ c < 65536) :
    0 ≤ x * y ∧ x * y ≤ 4294836225 ∧ 0 ≤ (z + x * y + c) / 65536 ∧ (z + x * y + c) / 65536 < 65536 := by
  have h1 : 0 ≤ x * y := Int.mul_nonneg hx.1 hy.1
  have h2 : x * y ≤ 65535 * 65535 := Int.mul_le_mul (by omega) (by omega) hy.1 (by omega)
  omega
theorem mul_exit {xs ys zs : List Int} {i k : Nat} {c : Int} (h : val zs + B (i + k) * c = pre xs i * val ys + dg xs i * B i * pre ys k) (hk : ys.length ≤ k) (hc : c = 0) : val zs = pre xs (i + 1) * val ys := by
  subst hc
  rw [pre_all ys k hk] at h
  rw [pre_succ]
  grind
theorem mul_idx {xs ys zs : List Int} (dx : Digs xs) (dy : Digs ys) (dz : Digs zs) {i k : Nat} {c : Int} (h : val zs + B (i + k) * c = pre xs i * val ys + dg xs i * B i * pre ys k) (hc : 0 < c) : k ≤ ys.length := by
  by_cases hk : k ≤ ys.length
  · exact hk
  · exfalso
    rw [pre_all ys k (by omega)] at h
    have h1 := pre_succ xs i
    have h2 := pre_lt dx (i + 1)
    have h3 := pre_nonneg dx (i + 1)
    have h4 := val_lt dy
    have h5 := val_nonneg dy
    have h6 := val_nonneg dz
    have h7 := B_le (m := i + 1 + ys.length) (n := i + k) (by omega)
    rw [B_add] at h7
    have h8 : pre xs (i + 1) * val ys ≤ (B (i + 1) - 1) * (B ys.length - 1) := Int.mul_le_mul (by omega) (by omega) h5 (by omega)
    have h9 : B (i + k) * 1 ≤ B (i + k) * c := Int.mul_le_mul_of_nonneg_left (by omega) (by have := B_pos (i + k); omega)
    have h10 : pre xs (i + 1) * val ys = pre xs i * val ys + dg xs i * B i * val ys := by rw [h1]; grind
    have h11 : (B (i + 1) - 1) * (B ys.length - 1) = B (i + 1) * B ys.length - B (i + 1) - B ys.length + 1 := by grind
    have := B_pos (i + 1)
    have := B_pos ys.length
    omega
theorem mul_start {xs ys zs : List Int} {i : Nat} (h : val zs = pre xs i * val ys) : val zs + B (i + 0) * 0 = pre xs i * val ys + dg xs i * B i * pre ys 0 := by
  rw [pre_zero, h]; omega
theorem sgn_mul {na nb : Bool} {m n z x y : Int} (hz : z = x * y) (hx : x = m.natAbs) (hy : y = n.natAbs) (ha : na = decide (m < 0)) (hb : nb = decide (n < 0)) : sgn (na != nb) z = m * n := by
  subst hz hx hy ha hb
  by_cases h1 : m < 0 <;> by_cases h2 : n < 0 <;> simp only [sgn, h1, h2, decide_true, decide_false, bne_self_eq_false, Bool.true_bne, Bool.false_bne, Bool.not_false, if_true, Bool.false_eq_true, if_false]
  · rw [show ((m.natAbs : Nat) : Int) = -m from by omega, show ((n.natAbs : Nat) : Int) = -n from by omega]; grind
  · rw [show ((m.natAbs : Nat) : Int) = -m from by omega, show ((n.natAbs : Nat) : Int) = n from by omega]; grind
  · rw [show ((m.natAbs : Nat) : Int) = m from by omega, show ((n.natAbs : Nat) : Int) = -n from by omega]; grind
  · rw [show ((m.natAbs : Nat) : Int) = m from by omega, show ((n.natAbs : Nat) : Int) = n from by omega]

theorem pow_succ2 (k : Nat) : (2 : Int) ^ (k + 1) = 2 ^ k + 2 ^ k := by rw [Int.pow_succ]; omega
attribute [irreducible] B

end Go.Proofs.Ytcndfpfjckkinaa

/-
  Plain lemmas on a division bit by bit. No program in sight.
-/
namespace Go.Proofs.Ytcndfpfjckkinaa

/-- Without its last t bits. -/
def shr (m : Int) (t : Nat) : Int := m / ((2 ^ t : Nat) : Int)
theorem pow2_pos (t : Nat) : (0 : Int) < ((2 ^ t : Nat) : Int) := Int.ofNat_lt.2 (Nat.two_pow_pos t)
theorem shr_pow (m : Int) (t : Nat) : shr m t = m / 2 ^ t := by unfold shr; rw [Int.natCast_pow]; rfl
theorem shr_zero (m : Int) : shr m 0 = m := by simp [shr]
theorem shr_nonneg {m : Int} (h : 0 ≤ m) (t : Nat) : 0 ≤ shr m t := Int.ediv_nonneg h (Int.le_of_lt (pow2_pos t))
theorem shr_succ (m : Int) (t : Nat) : shr m (t + 1) = shr m t / 2 := by
  unfold shr
  rw [Nat.pow_succ, Int.natCast_mul, Int.ediv_ediv_of_nonneg (Int.le_of_lt (pow2_pos t))]; rfl
theorem shr_add (m : Int) (s t : Nat) : shr m (s + t) = shr (shr m s) t := by
  unfold shr
  rw [Nat.pow_add, Int.natCast_mul, Int.ediv_ediv_of_nonneg (Int.le_of_lt (pow2_pos s))]
theorem shr_le {m : Int} (h : 0 ≤ m) (t : Nat) : shr m t ≤ m := Int.ediv_le_self _ h
theorem shr_top {m : Int} (h : 0 ≤ m) (t : Nat) (h1 : m < ((2 ^ t : Nat) : Int)) : shr m t = 0 := Int.ediv_eq_zero_of_lt h h1
/-- The digit at place j, of the number. -/
theorem dg_val {ds : List Int} (h : Digs ds) (j : Nat) : dg ds j = shr (val ds) (16 * j) % 65536 := by
  by_cases hj : j < ds.length
  · have h1 := val_take_drop ds (j + 1) (by omega)
    rw [pre_succ, B_succ] at h1
    have h2 := pre_nonneg h j
    have h3 := pre_lt h j
    have hd := h j
    unfold shr
    rw [← B_two j]
    have hB := B_pos j
    have e : val ds = pre ds j + B j * (dg ds j + 65536 * val (ds.drop (j + 1))) := by rw [h1]; grind
    rw [e, Int.add_mul_ediv_left _ _ (by omega), Int.ediv_eq_zero_of_lt h2 h3]
    omega
  · rw [dg_past ds j (by omega)]
    have h1 := val_lt h
    have h2 := val_nonneg h
    have h3 := B_le (m := ds.length) (n := j) (by omega)
    rw [shr_top h2 (16 * j) (by rw [← B_two]; omega)]; rfl
theorem mod_shr (x : Int) (s : Nat) (hs : s < 16) : shr (x % 65536) s % 2 = shr x s % 2 := by
  unfold shr
  have : s = 0 ∨ s = 1 ∨ s = 2 ∨ s = 3 ∨ s = 4 ∨ s = 5 ∨ s = 6 ∨ s = 7 ∨ s = 8 ∨ s = 9 ∨ s = 10 ∨ s = 11 ∨ s = 12 ∨ s = 13 ∨ s = 14 ∨ s = 15 := by omega
  rcases this with rfl | rfl | rfl | rfl | rfl | rfl | rfl | rfl | rfl | rfl | rfl | rfl | rfl | rfl | rfl | rfl <;> simp only [Nat.reducePow, Int.cast_ofNat_Int] <;> omega
/-- The bit at place t. -/
theorem bit_val {ds : List Int} (h : Digs ds) (t : Nat) : shr (val ds) t = 2 * shr (val ds) (t + 1) + shr (dg ds (t / 16)) (t % 16) % 2 := by
  rw [dg_val h, mod_shr _ _ (Nat.mod_lt _ (by decide)), ← shr_add, show 16 * (t / 16) + t % 16 = t from by omega, shr_succ]
  omega
theorem long_more {M n b : Int} (hn : 0 < n) (hb : 0 ≤ b) (hb2 : b < 2) (h : n ≤ M % n + M % n + b) : (2 * M + b) / n = M / n + M / n + 1 ∧ (2 * M + b) % n = M % n + M % n + b - n := by
  have h1 := Int.emod_nonneg M (show n ≠ 0 by omega)
  have h2 := Int.emod_lt_of_pos M hn
  have h3 := Int.mul_ediv_add_emod M n
  have e : 2 * M + b = n * (M / n + M / n + 1) + (M % n + M % n + b - n) := by grind
  have := Int.ediv_emod_unique (a := 2 * M + b) (b := n) (r := M % n + M % n + b - n) (q := M / n + M / n + 1) hn
  exact this.2 ⟨by omega, by omega, by omega⟩
theorem long_less {M n b : Int} (hn : 0 < n) (hb : 0 ≤ b) (h : M % n + M % n + b < n) : (2 * M + b) / n = M / n + M / n ∧ (2 * M + b) % n = M % n + M % n + b := by
  have h1 := Int.emod_nonneg M (show n ≠ 0 by omega)
  have h3 := Int.mul_ediv_add_emod M n
  have e : 2 * M + b = n * (M / n + M / n) + (M % n + M % n + b) := by grind
  have := Int.ediv_emod_unique (a := 2 * M + b) (b := n) (r := M % n + M % n + b) (q := M / n + M / n) hn
  exact this.2 ⟨by omega, by omega, by omega⟩
theorem shr_bits {K : Nat} {m : Int} (h : Bits K m) (h0 : 0 ≤ m) (t : Nat) : Bits K (shr m t) := h.le (by have := shr_nonneg h0 t; have := shr_le h0 t; omega)
theorem div_bits {K : Nat} {m n : Int} (h : Bits K m) (h0 : 0 ≤ m) (h1 : 0 < n) : Bits K (m / n) := h.le (by have := Int.ediv_nonneg h0 (Int.le_of_lt h1); have := Int.ediv_le_self n h0; omega)
theorem mod_bits {K : Nat} {m n : Int} (h : Bits K n) (h1 : 0 < n) : Bits K (m % n) := h.le (by have := Int.emod_nonneg m (show n ≠ 0 by omega); have := Int.emod_lt_of_pos m h1; omega)

theorem fdiv_fmod_pos {a b q r : Int} (hb : 0 < b) (h : a = b * q + r) (h0 : 0 ≤ r) (h1 : r < b) : a.fdiv b = q ∧ a.fmod b = r := by
  have e : a / b = q ∧ a % b = r := (Int.ediv_emod_unique hb).2 ⟨by omega, h0, h1⟩
  rw [Int.fdiv_eq_ediv_of_nonneg _ (by omega), Int.fmod_eq_emod_of_nonneg _ (by omega)]
  exact e
theorem fdiv_fmod_neg {a b q r : Int} (hb : b < 0) (h : a = b * q + r) (h0 : r ≤ 0) (h1 : b < r) : a.fdiv b = q ∧ a.fmod b = r := by
  have e := fdiv_fmod_pos (a := -a) (b := -b) (q := q) (r := -r) (by omega) (by rw [h]; grind) (by omega) (by omega)
  have e1 : (-a).fdiv (-b) = a.fdiv b := Int.neg_fdiv_neg a b
  have h2 := Int.mul_fdiv_add_fmod a b
  rw [e1] at e
  refine ⟨e.1, ?_⟩
  rw [e.1] at h2
  omega
theorem div_parts (m n : Int) (hn : n ≠ 0) : (n.natAbs : Int) * ((m.natAbs : Int) / n.natAbs) + (m.natAbs : Int) % n.natAbs = m.natAbs ∧ 0 ≤ (m.natAbs : Int) % n.natAbs ∧ (m.natAbs : Int) % n.natAbs < n.natAbs ∧ 0 ≤ (m.natAbs : Int) / n.natAbs ∧ (m.natAbs : Int) / n.natAbs ≤ m.natAbs :=
  ⟨Int.mul_ediv_add_emod _ _, Int.emod_nonneg _ (by omega), Int.emod_lt_of_pos _ (by omega), Int.ediv_nonneg (by omega) (by omega), Int.ediv_le_self _ (by omega)⟩
theorem div_A {m n : Int} (hm : ¬ m < 0) (hn : 0 < n) : m.fdiv n = (m.natAbs : Int) / n.natAbs ∧ m.fmod n = (m.natAbs : Int) % n.natAbs := by
  obtain ⟨h1, h2, h3, -, -⟩ := div_parts m n (by omega)
  have e1 : (m.natAbs : Int) = m := by omega
  have e2 : (n.natAbs : Int) = n := by omega
  rw [e1, e2] at h1 h2 h3 ⊢
  exact fdiv_fmod_pos hn (by omega) h2 h3
theorem div_B {m n : Int} (hm : m < 0) (hn : n < 0) : m.fdiv n = (m.natAbs : Int) / n.natAbs ∧ m.fmod n = -((m.natAbs : Int) % n.natAbs) := by
  obtain ⟨h1, h2, h3, -, -⟩ := div_parts m n (by omega)
  have e1 : (m.natAbs : Int) = -m := by omega
  have e2 : (n.natAbs : Int) = -n := by omega
  rw [e1, e2] at h1 h2 h3 ⊢
  exact fdiv_fmod_neg hn (by generalize (-m) / (-n) = q at *; generalize (-m) % (-n) = r at *; grind) (by omega) (by omega)
theorem div_C0 {m n : Int} (hm : ¬ m < 0) (hn : n < 0) (h0 : (m.natAbs : Int) % n.natAbs = 0) : m.fdiv n = -((m.natAbs : Int) / n.natAbs) ∧ m.fmod n = (m.natAbs : Int) % n.natAbs := by
  obtain ⟨h1, h2, h3, -, -⟩ := div_parts m n (by omega)
  have e1 : (m.natAbs : Int) = m := by omega
  have e2 : (n.natAbs : Int) = -n := by omega
  rw [e1, e2] at h0 h1 h2 h3 ⊢
  exact fdiv_fmod_neg hn (by generalize m / (-n) = q at *; generalize m % (-n) = r at *; grind) (by omega) (by omega)
theorem div_C1 {m n : Int} (hm : ¬ m < 0) (hn : n < 0) (h0 : (m.natAbs : Int) % n.natAbs ≠ 0) : m.fdiv n = -((m.natAbs : Int) / n.natAbs) - 1 ∧ m.fmod n = (m.natAbs : Int) % n.natAbs + n := by
  obtain ⟨h1, h2, h3, -, -⟩ := div_parts m n (by omega)
  have e1 : (m.natAbs : Int) = m := by omega
  have e2 : (n.natAbs : Int) = -n := by omega
  rw [e1, e2] at h0 h1 h2 h3 ⊢
  exact fdiv_fmod_neg hn (by generalize m / (-n) = q at *; generalize m % (-n) = r at *; grind) (by omega) (by omega)
theorem div_D0 {m n : Int} (hm : m < 0) (hn : 0 < n) (h0 : (m.natAbs : Int) % n.natAbs = 0) : m.fdiv n = -((m.natAbs : Int) / n.natAbs) ∧ m.fmod n = -((m.natAbs : Int) % n.natAbs) := by
  obtain ⟨h1, h2, h3, -, -⟩ := div_parts m n (by omega)
  have e1 : (m.natAbs : Int) = -m := by omega
  have e2 : (n.natAbs : Int) = n := by omega
  rw [e1, e2] at h0 h1 h2 h3 ⊢
  exact fdiv_fmod_pos hn (by generalize (-m) / n = q at *; generalize (-m) % n = r at *; grind) (by omega) (by omega)
theorem div_D1 {m n : Int} (hm : m < 0) (hn : 0 < n) (h0 : (m.natAbs : Int) % n.natAbs ≠ 0) : m.fdiv n = -((m.natAbs : Int) / n.natAbs) - 1 ∧ m.fmod n = -((m.natAbs : Int) % n.natAbs) + n := by
  obtain ⟨h1, h2, h3, -, -⟩ := div_parts m n (by omega)
  have e1 : (m.natAbs : Int) = -m := by omega
  have e2 : (n.natAbs : Int) = n := by omega
  rw [e1, e2] at h0 h1 h2 h3 ⊢
  exact fdiv_fmod_pos hn (by generalize (-m) / n = q at *; generalize (-m) % n = r at *; grind) (by omega) (by omega)

end Go.Proofs.Ytcndfpfjckkinaa

/-
  How the seat's data lie in memory: a slice of numbers that is only read (Row); what the walks need of it. Laws of the two calls that the model answers itself (math/bits.Add64, Sub64).
-/
namespace Go.Proofs.Ytcndfpfjckkinaa
open Go Go.RowKit

/-- Block k holds cells of type t. -/
def Kind (w : World) (k : Nat) (t : TypeId) : Prop := ∃ cs fr, w.heap[k]? = some (.cells cs t fr)
theorem Kind.lt {w : World} {k : Nat} {t : TypeId} (h : Kind w k t) : k < w.heap.size := by
  obtain ⟨cs, fr, h⟩ := h; exact (Array.getElem?_eq_some_iff.1 h).1
theorem Kind.below {w w' : World} {k : Nat} {t : TypeId} (h : Kind w k t) (hb : Below w.heap.size w w') : Kind w' k t := by
  have hl := h.lt
  obtain ⟨cs, fr, h⟩ := h; exact ⟨cs, fr, (hb.block k hl).trans h⟩
theorem Kind.setCell {w : World} {k : Nat} {t : TypeId} (h : Kind w k t) (b o : Nat) (u : Value) : Kind (w.setCell ⟨b, o, none⟩ u) k t := by
  obtain ⟨cs, fr, h⟩ := h
  by_cases e : k = b
  · subst e; exact ⟨_, fr, Joins.block_setCell h u⟩
  · exact ⟨cs, fr, (heap_setCell_other w ⟨b, o, none⟩ k u e).trans h⟩
theorem Kind.alloc {w : World} {k : Nat} {t : TypeId} (h : Kind w k t) (o : Obj) : Kind (w.alloc o) k t := h.below ((Below.refl _ _).alloc (Nat.le_refl _) _)
theorem Kind.new (w : World) (cs : Array Value) (t : TypeId) : Kind (w.alloc (.cells cs t)) w.heap.size t := ⟨cs, (0, 0), heap_alloc_new w _⟩
theorem Kind.new' {w : World} {k : Nat} (cs : Array Value) (t : TypeId) (h : k = w.heap.size) : Kind (w.alloc (.cells cs t)) k t := by subst h; exact Kind.new w cs t
theorem Kind.ne {w : World} {k k' : Nat} {t t' : TypeId} (h : Kind w k t) (h' : Kind w k' t') (ht : t ≠ t') : k ≠ k' := by
  rintro rfl
  obtain ⟨cs, fr, h⟩ := h
  obtain ⟨cs', fr', h'⟩ := h'
  rw [h] at h'
  simp only [Option.some.injEq, Obj.cells.injEq] at h'
  exact ht h'.2.1

/-- The slice value v reads, in w, as the numbers xs. -/
def Row (w : World) (v : Value) (xs : List Int) : Prop :=
  ∃ (a : Option Addr) (cap b off : Nat), v = .slice a xs.length cap ∧ xs.length ≤ cap ∧ (0 < xs.length → a = some ⟨b, off, none⟩ ∧ Kind w b 3) ∧
    ∀ i, i < xs.length → w.cell? ⟨b, off + i, none⟩ = some (.int .i64 (dg xs i))

theorem Row.nil (w : World) : Row w (.slice none 0 0) [] := ⟨none, 0, 0, 0, rfl, Nat.le_refl _, fun h => absurd h (by simp), fun i h => absurd h (by simp)⟩

theorem Row.below {w w' : World} {v : Value} {xs : List Int} (h : Row w v xs) (hb : Below w.heap.size w w') : Row w' v xs := by
  obtain ⟨a, cap, b, off, rfl, h1, h2, h3⟩ := h
  exact ⟨a, cap, b, off, rfl, h1, fun h => ⟨(h2 h).1, (h2 h).2.below hb⟩, fun i hi => (hb.cell (p := ⟨b, off + i, none⟩) (h2 (by omega)).2.lt).trans (h3 i hi)⟩

theorem Row.setCell {w : World} {v : Value} {xs : List Int} (h : Row w v xs) {k : Nat} {t : TypeId} (hk : Kind w k t) (ht : 3 ≠ t) (o : Nat) (u : Value) : Row (w.setCell ⟨k, o, none⟩ u) v xs := by
  obtain ⟨a, cap, b, off, rfl, h1, h2, h3⟩ := h
  refine ⟨a, cap, b, off, rfl, h1, fun h => ⟨(h2 h).1, (h2 h).2.setCell k o u⟩, fun i hi => ?_⟩
  have hne := (h2 (by omega)).2.ne hk ht
  exact (World.cell?_of_block (heap_setCell_other w ⟨k, o, none⟩ b u hne)).trans (h3 i hi)

theorem Row.take {w : World} {a : Option Addr} {len cap : Nat} {xs : List Int} (h : Row w (.slice a len cap) xs) (n : Nat) (hn : n ≤ len) : Row w (.slice a n cap) (xs.take n) := by
  obtain ⟨a', cap', b, off, e, h1, h2, h3⟩ := h
  simp only [Value.slice.injEq] at e
  obtain ⟨rfl, rfl, rfl⟩ := e
  have hl : (xs.take n).length = n := by simp; omega
  refine ⟨a, cap, b, off, by rw [hl], by omega, fun h => h2 (by omega), fun i hi => ?_⟩
  rw [h3 i (by omega), dg_take xs n i (by omega)]

/-- Where the element i lies, whatever the slice's address. -/
theorem at_row {len cap b off : Nat} {a : Option Addr} (h : 0 < len → a = some ⟨b, off, none⟩) (i : Int) (h0 : 0 ≤ i) (h1 : i < len) (w : World) :
    (Instr.indexAt 45 (.slice a len cap) (.int .i64 i)).run Try.prog w = .ok (.pointer (some ⟨b, off + i.toNat, none⟩)) w := by
  obtain ⟨k, rfl⟩ := Int.eq_ofNat_of_zero_le h0
  rw [h (by omega)]
  have e : Try.prog.elem 45 = 3 := by kernel_rfl
  have s : ∀ w, (sizeOf 3).run Try.prog w = .ok 1 w := fun _ => by kernel_rfl
  rw [run_indexAt_slice w 45 ⟨b, off, none⟩ len cap .i64 k (by rw [e]; exact Try.underlying45), if_pos ⟨h0, h1⟩, e, s]
  simp [Result.andThen, Addr.add]

theorem bcell {W w1 : World} (hb : Below W.heap.size W w1) : (∀ b o, b < W.heap.size → w1.cell? ⟨b, o, none⟩ = W.cell? ⟨b, o, none⟩) ∧ (∀ b o, b < W.heap.size → w1.frozen? ⟨b, o, none⟩ = W.frozen? ⟨b, o, none⟩) :=
  ⟨fun b o h => hb.cell (p := ⟨b, o, none⟩) h, fun b o h => hb.frozen (p := ⟨b, o, none⟩) h⟩

theorem cell_keep {W w1 : World} {b o : Nat} {v : Value} (hb : Below W.heap.size W w1) (h : W.cell? ⟨b, o, none⟩ = some v) : w1.cell? ⟨b, o, none⟩ = some v :=
  (hb.cell (p := ⟨b, o, none⟩) (World.block_lt_of_cell? W ⟨b, o, none⟩ h)).trans h
theorem below1 (w : World) (a : Obj) : Below w.heap.size w (w.alloc a) := (Below.refl _ w).alloc (Nat.le_refl _) _
theorem below2 (w : World) (a b : Obj) : Below w.heap.size w ((w.alloc a).alloc b) := (below1 w a).alloc (by simp) _
theorem below3 (w : World) (a b c : Obj) : Below w.heap.size w (((w.alloc a).alloc b).alloc c) := (below2 w a b).alloc (by simp; omega) _
theorem below4 (w : World) (a b c d : Obj) : Below w.heap.size w ((((w.alloc a).alloc b).alloc c).alloc d) := (below3 w a b c).alloc (by simp; omega) _
theorem below5 (w : World) (a b c d e : Obj) : Below w.heap.size w (((((w.alloc a).alloc b).alloc c).alloc d).alloc e) := (below4 w a b c d).alloc (by simp; omega) _

/-- Block k holds the two cells u, v, of type t, and may be written. -/
def Box2 (w : World) (k : Nat) (u v : Value) (t : TypeId) : Prop := w.heap[k]? = some (.cells #[u, v] t (0, 0))
theorem Box2.kind {w : World} {k : Nat} {u v : Value} {t : TypeId} (h : Box2 w k u v t) : Kind w k t := ⟨_, _, h⟩
theorem Box2.below {w w' : World} {k : Nat} {u v : Value} {t : TypeId} (h : Box2 w k u v t) (hb : Below w.heap.size w w') : Box2 w' k u v t := (hb.block k h.kind.lt).trans h
theorem Box2.drew {w : World} {k : Nat} {u v : Value} {t : TypeId} (h : Box2 w k u v t) : Box2 w.drew k u v t := h
theorem Box2.drewN {w : World} {k : Nat} {u v : Value} {t : TypeId} (h : Box2 w k u v t) (n : Nat) : Box2 (w.drewN n) k u v t := h
theorem Box2.alloc {w : World} {k : Nat} {u v : Value} {t : TypeId} (h : Box2 w k u v t) (o : Obj) : Box2 (w.alloc o) k u v t := h.below (below1 w o)
theorem Box2.new {w : World} {k : Nat} {u v : Value} {t : TypeId} (h : k = w.heap.size) : Box2 (w.alloc (.cells #[u, v] t)) k u v t := by subst h; exact heap_alloc_new w _
theorem Box2.c0 {w : World} {k : Nat} {u v : Value} {t : TypeId} (h : Box2 w k u v t) : w.cell? ⟨k, 0, none⟩ = some u := by unfold Box2 at h; simp [World.cell?, h]
theorem Box2.c1 {w : World} {k : Nat} {u v : Value} {t : TypeId} (h : Box2 w k u v t) : w.cell? ⟨k, 1, none⟩ = some v := by unfold Box2 at h; simp [World.cell?, h]
theorem Box2.f0 {w : World} {k : Nat} {u v : Value} {t : TypeId} (h : Box2 w k u v t) : w.frozen? ⟨k, 0, none⟩ = false := by unfold Box2 at h; simp [World.frozen?, h]
theorem Box2.f1 {w : World} {k : Nat} {u v : Value} {t : TypeId} (h : Box2 w k u v t) : w.frozen? ⟨k, 1, none⟩ = false := by unfold Box2 at h; simp [World.frozen?, h]
theorem Box2.set {w : World} {k : Nat} {u v : Value} {t : TypeId} (h : Box2 w k u v t) (u' v' : Value) : Box2 ((w.setCell ⟨k, 0, none⟩ u').setCell ⟨k, 1, none⟩ v') k u' v' t := by
  have h1 := Joins.block_setCell (i := 0) h u'
  have h2 := Joins.block_setCell (i := 1) h1 v'
  exact h2
theorem Box2.other {w : World} {k : Nat} {u v : Value} {t : TypeId} (h : Box2 w k u v t) {b : Nat} (hne : k ≠ b) (o : Nat) (x : Value) : Box2 (w.setCell ⟨b, o, none⟩ x) k u v t :=
  (heap_setCell_other w ⟨b, o, none⟩ k x hne).trans h
theorem Box2.other2 {w : World} {k : Nat} {u v : Value} {t : TypeId} (h : Box2 w k u v t) {b : Nat} (hne : k ≠ b) (x y : Value) : Box2 ((w.setCell ⟨b, 0, none⟩ x).setCell ⟨b, 1, none⟩ y) k u v t :=
  (h.other hne 0 x).other hne 1 y
theorem below_set2 {B : Nat} {a w : World} (h : Below B a w) {k : Nat} (hk : B ≤ k) (u v : Value) : Below B a ((w.setCell ⟨k, 0, none⟩ u).setCell ⟨k, 1, none⟩ v) := (h.setCell hk _).setCell hk _
theorem s2 {w : World} {k k' : Nat} {u v u' v' : Value} {t t' : TypeId} (h : Box2 w k u v t) (h' : Box2 w k' u' v' t') :
    w.cell? ⟨k, 0, none⟩ = some u ∧ w.cell? ⟨k, 1, none⟩ = some v ∧ w.cell? ⟨k', 0, none⟩ = some u' ∧ w.cell? ⟨k', 1, none⟩ = some v' := ⟨h.c0, h.c1, h'.c0, h'.c1⟩
theorem boxes3 (w : World) (a b c a' b' c' : Value) (t t' t'' : TypeId) : Box2 (((w.alloc (.cells #[a, a'] t)).alloc (.cells #[b, b'] t')).alloc (.cells #[c, c'] t'')) w.heap.size a a' t ∧
    Box2 (((w.alloc (.cells #[a, a'] t)).alloc (.cells #[b, b'] t')).alloc (.cells #[c, c'] t'')) (w.heap.size + 1) b b' t' ∧
    Box2 (((w.alloc (.cells #[a, a'] t)).alloc (.cells #[b, b'] t')).alloc (.cells #[c, c'] t'')) (w.heap.size + 1 + 1) c c' t'' :=
  ⟨((Box2.new rfl).alloc _).alloc _, (Box2.new (by simp)).alloc _, Box2.new (by simp)⟩

theorem ret_int {k : IntKind} {a b : Int} (h : a = b) : Ending.returned (.int k a) = .returned (.int k b) := by rw [h]

set_option maxHeartbeats 400000 in
theorem digit_any (v : Value) (xs : List Int) (i : Int) (w : World) (h : Row w v xs) (h0 : 0 ≤ i) (hl : xs.length ≤ 1000000) :
    Calls Try.prog 181 #[v, .int .i64 i] w fun e w' => e = .returned (.int .i64 (dg xs i.toNat)) ∧ w = w' := by
  obtain ⟨a, cap, b, off, rfl, h1, h2, h3⟩ := h
  by_cases hi : i < xs.length
  · have hix := fun w => at_row (cap := cap) (fun h => (h2 h).1) i h0 hi w
    have hc := h3 i.toNat (by omega)
    clear h1 h2 h3
    go_enter Try.func181, Try.ntmps181
    go_wp2
    go_ret
    exact ⟨rfl, rfl⟩
  · clear h1 h2 h3
    go_enter Try.func181, Try.ntmps181
    go_wp2
    go_ret
    exact ⟨ret_int (dg_past xs i.toNat (by omega)).symm, rfl⟩

end Go.Proofs.Ytcndfpfjckkinaa

/-
  Walks of the reference's digits: plus.
-/
namespace Go.Proofs.Ytcndfpfjckkinaa
open Go Go.RowKit

theorem info_int : (Try.prog.info? 3).map (fun i => (i.zero, i.size, i.bytes)) = some (some (.int .i64 0), 1, 8) := by kernel_rfl

/-- What the call has made reads as a row. -/
theorem row_of_owns {w : World} {base : Nat} {v : Value} {zs : List Int} {n : Nat} (h : w.ownsRow base 3 1 v n (zs.map (Value.int .i64))) (hn : zs.length = n) : Row w v zs := by
  subst hn
  have hh := h
  obtain ⟨h1, h2⟩ := h
  rcases h2 with ⟨rfl, h0⟩ | ⟨g, cap, cur, rfl, hg, hb, hc, _, hs, ht⟩
  · have : zs = [] := List.length_eq_zero_iff.1 h0
    subst this; exact Row.nil w
  · refine ⟨some ⟨g, 0, none⟩, cap, g, 0, rfl, hc, fun _ => ⟨rfl, cur, _, hb⟩, fun i hi => ?_⟩
    rw [Nat.zero_add, hh.cellAt i (by omega), List.getElem?_map, List.getElem?_eq_getElem hi, dg_eq, List.getD, List.getElem?_eq_getElem hi]
    rfl

/-- The call returns a row of digits of which P holds; of the memory that was there nothing has turned. -/
def RetRow (w : World) (P : List Int → Prop) (e : Ending) (w' : World) : Prop := ∃ v zs, e = .returned v ∧ Row w' v zs ∧ Digs zs ∧ P zs ∧ zs.length ≤ 100001 ∧ Below w.heap.size w w'

theorem cell1 (w : World) (x : Value) (t : TypeId) : (w.alloc (.cells #[x] t)).cell? ⟨w.heap.size, 0, none⟩ = some x := by
  rw [World.cell?_alloc_at _ _ _ _ rfl]; rfl

/-- 'out = append(out, y)', out a row that the call makes, y an int. -/
theorem append_int {ops : Array Oper} {rest : List Oper} {o : Oper} {a : Act} {Q : Exit → Act → World → Prop} {w : World} (hgd : o.guard = none) (s x : Operand)
    (ho : o.op = .call { callee := .builtin .append, args := #[s, x], argTypes := #[45, 45] }) (base : Nat) (wb : World) (v : Value) (n : Nat) (zs : List Int) (hs : a.eval s = v)
    (hown : w.ownsRow base 3 1 v n (zs.map (Value.int .i64))) (ad : Addr) (y : Int) (hx : a.eval x = .slice (some ad) 1 1) (hc : w.cell? ad = some (.int .i64 y)) (hn : n ≤ 1000000)
    (hbase : base ≤ w.heap.size) (hbl : Below base wb w)
    (h : ∀ v' w', w'.ownsRow base 3 1 v' (n + 1) ((zs ++ [y]).map (Value.int .i64)) → Below base wb w' → w.heap.size ≤ w'.heap.size → wpList Try.prog ops Q rest (a.put o.dst v') w') : wpList Try.prog ops Q (o :: rest) a w := by
  obtain ⟨i0, hi, hz0, hz1, hz2⟩ := info_parts info_int
  refine wpList_append_own w hgd s x 45 ho base 3 i0 (.int .i64 0) 1 8 Try.underlying45 hi hz0 hz1 hz2 rfl (by decide) v n _ hs hown ad 1 1 [.int .i64 y] hx rfl ?_ ?_ (by unfold maxLen; omega) (by omega) hbase ?_
  · intro j u hj
    match j, hj with
    | 0, hj =>
      simp at hj; subst hj
      have : ad.add 0 = ad := by simp [Addr.add]
      rw [this]; exact hc
  · intro u hu; simp at hu; subst hu; rfl
  · intro v' w' hown' hg _
    refine h v' w' (by simpa using hown') (hbl.grown hg hbase fun k hk => ?_) hg.size
    exact (hown.lt k hk).1

set_option maxRecDepth 100000 in
set_option maxHeartbeats 1600000 in
theorem plus_any (va vb : Value) (xs ys : List Int) (w : World) (hx : Row w va xs) (hy : Row w vb ys) (dx : Digs xs) (dy : Digs ys) (lx : xs.length ≤ 100000) (ly : ys.length ≤ 100000) :
    Calls Try.prog 190 #[va, vb] w (RetRow w fun zs => val zs = val xs + val ys) := by
  have hxr := hx
  have hyr := hy
  obtain ⟨a, ca, ba, oa, rfl, -, -, -⟩ := hx
  obtain ⟨b, cb, bb, ob, rfl, -, -, -⟩ := hy
  go_enter Try.func190, Try.ntmps190
  go_wp2
  go_loopw [5, 6, 7] (fun out c i wr => ∃ (k : Nat) (cc : Int) (zs : List Int), i = .int .i64 k ∧ c = .int .i64 cc ∧ 0 ≤ cc ∧ cc ≤ 1 ∧ k ≤ 100001 ∧ (xs.length < k → ys.length < k → cc = 0) ∧ zs.length = k ∧ Digs zs ∧
      wr.ownsRow w.heap.size 3 1 out k (zs.map (Value.int .i64)) ∧ val zs + B k * cc = pre xs k + pre ys k ∧ Below w.heap.size w wr) (fun _ _ i _ => 100002 - (intOf i).toNat)
  case atStart => exact ⟨0, 0, [], rfl, rfl, by omega, by omega, by omega, fun _ _ => rfl, rfl, Digs.nil, World.ownsRow_nil _ _ _ _, by simp [val, pre_zero], Below.refl _ _⟩
  case round =>
    obtain ⟨k, cc, zs, rfl, rfl, hc0, hc1, hk, hM, hzl, dz, hown, hv, hbl⟩ := hrel
    have hRx := hxr.below hbl
    have hRy := hyr.below hbl
    have hdx := dx k
    have hdy := dy k
    have hst := Lib.hid (plus_step xs ys zs k cc hzl hv)
    have HM := Lib.hid hM
    have HL := Lib.hid hzl
    have HV := Lib.hid hv
    clear hM hzl hv dx dy
    have hbs := hbl.size
    by_cases h1 : k < xs.length <;> by_cases h2 : k < ys.length <;> by_cases h3 : 0 < cc
    all_goals
      first
      | (exfalso; have := HM.out; omega)
      | (go_wp2_with (first
        | (go_at_call 181; (with_reducible refine (digit_any (.slice a xs.length ca) xs _ _ hRx (by omega) (by omega)).mono ?_); rintro e w' ⟨rfl, rfl⟩)
        | (go_at_call 181; (with_reducible refine (digit_any (.slice b ys.length cb) ys _ _ hRy (by omega) (by omega)).mono ?_); rintro e w' ⟨rfl, rfl⟩)
        | (at_builtin; refine append_int rfl _ _ rfl w.heap.size w _ _ _ rfl (hown.alloc _) ⟨wr.heap.size, 0, none⟩ _ rfl (cell1 _ _ _) (by omega) (by simp; omega) (hbl.alloc hbs _) ?_; intro v' w' hown' hbl' hsz'))
         first
         | (have hM := HM.out
            have hx0 := dg_past xs k
            have hy0 := dg_past ys k
            go_roundw
            case rel => exact ⟨k + 1, _, _, by go_num, rfl, by omega, by omega, by omega, by intros; omega, by simp [HL.out], dz.snoc (digit_mod _).1 (digit_mod _).2, hown', hst.out, hbl'⟩
            case measure => simp [intOf]; omega)
         | (clear hst
            go_ret
            refine ⟨_, zs, rfl, row_of_owns hown HL.out, dz, ?_, by rw [HL.out]; omega, hbl⟩
            have e := HV.out
            rw [pre_all xs k (by omega), pre_all ys k (by omega), show cc = 0 by omega] at e
            omega))
end Go.Proofs.Ytcndfpfjckkinaa

/-
  Walks of the reference's digits: minus, compare.
-/
namespace Go.Proofs.Ytcndfpfjckkinaa
open Go Go.RowKit

theorem Row.drewN {w : World} {v : Value} {xs : List Int} (h : Row w v xs) (n : Nat) : Row (w.drewN n) v xs := h

theorem digit_q (v : Value) (xs : List Int) (i : Int) (w : World) (n : Nat) (h : Row w v xs) (h0 : 0 ≤ i) (hl : xs.length ≤ 1000000) :
    Calls Try.prog 181 #[v, .int .i64 i] (w.drewN n) fun e w' => e = .returned (.int .i64 (dg xs i.toNat)) ∧ w' = w.drewN n :=
  (digit_any v xs i _ (h.drewN n) h0 hl).mono fun _ _ ⟨he, hw⟩ => ⟨he, hw.symm⟩

set_option maxRecDepth 100000 in
set_option maxHeartbeats 1600000 in
theorem minus_any (va vb : Value) (xs ys : List Int) (w : World) (hx : Row w va xs) (hy : Row w vb ys) (dx : Digs xs) (dy : Digs ys) (lx : xs.length ≤ 100000) (ly : ys.length ≤ xs.length) (hle : val ys ≤ val xs) :
    Calls Try.prog 192 #[va, vb] w (RetRow w fun zs => val zs = val xs - val ys) := by
  have hxr := hx
  have hyr := hy
  obtain ⟨a, ca, ba, oa, rfl, -, hxa, hxc⟩ := hx
  obtain ⟨b, cb, bb, ob, rfl, -, -, -⟩ := hy
  go_enter Try.func192, Try.ntmps192
  go_wp2
  go_loopw [5, 6, 7] (fun out c i wr => ∃ (k : Nat) (cc : Int) (zs : List Int), i = .int .i64 k ∧ c = .int .i64 cc ∧ 0 ≤ cc ∧ cc ≤ 1 ∧ k ≤ xs.length ∧ zs.length = k ∧ Digs zs ∧
      wr.ownsRow w.heap.size 3 1 out k (zs.map (Value.int .i64)) ∧ val zs - B k * cc = pre xs k - pre ys k ∧ Below w.heap.size w wr) (fun _ _ i _ => 100002 - (intOf i).toNat)
  case atStart => exact ⟨0, 0, [], rfl, rfl, by omega, by omega, by omega, rfl, Digs.nil, World.ownsRow_nil _ _ _ _, by simp [val, pre_zero], Below.refl _ _⟩
  case round =>
    obtain ⟨k, cc, zs, rfl, rfl, hc0, hc1, hk, hzl, dz, hown, hv, hbl⟩ := hrel
    have hRx := hxr.below hbl
    have hRy := hyr.below hbl
    have hdx := dx k
    have hdy := dy k
    have HL := Lib.hid hzl
    have HV := Lib.hid hv
    clear hzl hv dx dy
    have hbs := hbl.size
    by_cases h1 : k < xs.length
    · have hix := fun w => at_row (cap := ca) (fun h => (hxa h).1) (k : Int) (by omega) (by omega) w
      have hcell := (hbl.cell (p := ⟨ba, oa + k, none⟩) (hxa (by omega)).2.lt).trans (hxc k (by omega))
      have hiy := digit_q (.slice b ys.length cb) ys k wr 0 hRy (by omega) (by omega)
      clear hxa hxc hxr hyr
      by_cases h2 : dg xs k - dg ys k - cc < 0
      all_goals
        go_wp2_with fail
        go_quiet ((go_at_call 181; exact Calls.quiet_of_same (digit_q (.slice b ys.length cb) ys k wr _ hRy (by omega) (by omega))))
        go_wp2_with (at_builtin; refine append_int rfl _ _ rfl w.heap.size w _ _ _ rfl (World.ownsRow.alloc (w := wr.drewN _) hown _) ⟨wr.heap.size, 0, none⟩ _ rfl (cell1 _ _ _) (by omega) (by simp; omega) ((below_drewN hbl _).alloc hbs _) ?_; intro v' w' hown' hbl' hsz')
        go_roundw
        case rel => exact ⟨k + 1, _, _, by go_num, rfl, by omega, by omega, by omega, by simp [HL.out], dz.snoc (by omega) (by omega), hown', by first | exact minus_step xs ys zs k cc 1 HL.out HV.out | simpa using minus_step xs ys zs k cc 0 HL.out HV.out, hbl'⟩
        case measure => simp [intOf]; omega
    · clear hxa hxc hxr hyr
      go_wp2_with fail
      go_ret
      exact ⟨_, zs, rfl, row_of_owns hown HL.out, dz, minus_end dz HL.out (by omega) (by omega) hc0 hle HV.out hc1, by rw [HL.out]; omega, hbl⟩

def Drawn (w w' : World) : Prop := ∃ k, w' = w.drewN k
theorem Drawn.refl (w : World) : Drawn w w := ⟨0, rfl⟩
theorem Drawn.more {w w' : World} (h : Drawn w w') (n : Nat) : Drawn w (w'.drewN n) := by
  obtain ⟨k, rfl⟩ := h
  exact ⟨k + n, by simp [World.drewN, Nat.add_assoc]⟩

theorem Drawn.cell {w w' : World} (h : Drawn w w') {a : Addr} {v : Value} (hc : w.cell? a = some v) : w'.cell? a = some v := by
  obtain ⟨k, rfl⟩ := h; exact hc

/-- A call that returns a number and has turned nothing but the count of its draws. -/
def RetInt (w : World) (n : Int) (e : Ending) (w' : World) : Prop := e = .returned (.int .i64 n) ∧ Drawn w w'

set_option maxRecDepth 100000 in
set_option maxHeartbeats 1600000 in
theorem compare_any (va vb : Value) (xs ys : List Int) (w : World) (hx : Row w va xs) (hy : Row w vb ys) (dx : Digs xs) (dy : Digs ys) (tx : Tidy xs) (ty : Tidy ys) (lx : xs.length ≤ 100000) (ly : ys.length ≤ 100000) :
    Calls Try.prog 191 #[va, vb] w (RetInt w (cmpI (val xs) (val ys))) := by
  obtain ⟨a, ca, ba, oa, rfl, -, hxa, hxc⟩ := hx
  obtain ⟨b, cb, bb, ob, rfl, -, hya, hyc⟩ := hy
  by_cases hl : xs.length < ys.length
  · have hlt := Lib.hid (cmpI_lt (less_len dx dy ty hl))
    have hne : (xs.length != ys.length) = true := by rw [bne_iff_ne]; omega
    clear hxa hxc hya hyc dx dy tx ty
    go_enter Try.func191, Try.ntmps191
    go_wp2
    go_ret
    exact ⟨by rw [hlt.out]; rfl, Drawn.refl w⟩
  by_cases hl2 : ys.length < xs.length
  · have hlt := Lib.hid (cmpI_gt (less_len dy dx tx hl2))
    have hne : (xs.length != ys.length) = true := by rw [bne_iff_ne]; omega
    clear hxa hxc hya hyc dx dy tx ty
    go_enter Try.func191, Try.ntmps191
    go_wp2
    go_ret
    exact ⟨by rw [hlt.out]; rfl, Drawn.refl w⟩
  have hle : xs.length = ys.length := by omega
  have hlen := Lib.hid hle
  have hne : ((xs.length : Int) != (ys.length : Int)) = false := by rw [hle]; simp
  clear hle tx ty
  go_enter Try.func191, Try.ntmps191
  go_wp2
  go_loopw [5] (fun i wr => ∃ (k : Nat), i = .int .i64 ((k : Int) - 1) ∧ k ≤ xs.length ∧ xs.drop k = ys.drop k ∧ Drawn w wr) (fun i _ => (intOf i + 1).toNat)
  case atStart => exact ⟨xs.length, rfl, Nat.le_refl _, by rw [List.drop_of_length_le (Nat.le_refl _), List.drop_of_length_le (by omega)], Drawn.refl w⟩
  case round =>
    obtain ⟨k, rfl, hk, hd, hdr⟩ := hrel
    have HD := Lib.hid hd
    clear hd
    by_cases h0 : k = 0
    · subst h0
      have hxy := HD.out
      simp only [List.drop_zero] at hxy
      subst hxy
      clear HD hlen hl hl2
      go_wp2_with fail
      go_ret
      exact ⟨by rw [cmpI_eq rfl]; rfl, hdr⟩
    · obtain ⟨j, rfl⟩ : ∃ j, k = j + 1 := ⟨k - 1, by omega⟩
      have hix := fun w => at_row (cap := ca) (fun h => (hxa h).1) (((j + 1 : Nat) : Int) - 1) (by omega) (by omega) w
      have hiy := fun w => at_row (cap := cb) (fun h => (hya h).1) (((j + 1 : Nat) : Int) - 1) (by omega) (by omega) w
      have e : ((j + 1 : Nat) : Int) - 1 = j := by omega
      simp only [e] at hix hiy ⊢
      have hcx := hdr.cell (hxc j (by omega))
      have hcy := hdr.cell (hyc j (by have := hlen.out; omega))
      clear hxa hxc hya hyc e
      rcases Int.lt_trichotomy (dg xs j) (dg ys j) with h | h | h
      · have hc := Lib.hid (cmpI_lt (less_at dx dy j hlen.out (by omega) HD.out h))
        go_wp2_with fail
        go_quiet (fail)
        go_wp2_with fail
        go_ret
        exact ⟨by rw [hc.out]; rfl, hdr.more _⟩
      · have hs := Lib.hid (drop_step xs ys j hlen.out (by omega) HD.out h)
        have h1 : ¬ dg xs j < dg ys j := by omega
        have h2 : ¬ dg ys j < dg xs j := by omega
        clear h
        go_wp2_with fail
        go_quiet (fail)
        go_wp2_with fail
        go_quiet (fail)
        go_wp2_with fail
        go_roundw
        case rel => exact ⟨j, by go_num, by omega, hs.out, hdr.more _⟩
        case measure => simp [intOf]
      · have hc := Lib.hid (cmpI_gt (less_at dy dx j (by have := hlen.out; omega) (by have := hlen.out; omega) HD.out.symm h))
        go_wp2_with fail
        go_quiet (fail)
        go_wp2_with fail
        go_quiet (fail)
        go_wp2_with fail
        go_ret
        exact ⟨by rw [hc.out]; rfl, (hdr.more _).more _⟩
end Go.Proofs.Ytcndfpfjckkinaa

/-
  Walks of the reference's numbers: tidy, OfU. A number of any size in memory (IsZ).
-/
namespace Go.Proofs.Ytcndfpfjckkinaa
open Go Go.RowKit

/-- A sign and a slice of digits read, in w, as the number n. -/
def IsZ (w : World) (neg : Bool) (sv : Value) (n : Int) : Prop :=
  ∃ ds : List Int, Row w sv ds ∧ Digs ds ∧ Tidy ds ∧ n = sgn neg (val ds) ∧ neg = decide (n < 0)
/-- A call that returns the number n; of the memory that was there nothing has turned. -/
def RetZ (w : World) (n : Int) (e : Ending) (w' : World) : Prop := ∃ neg a l c, e = .returned (.agg #[.bool neg, .slice a l c]) ∧ IsZ w' neg (.slice a l c) n ∧ Below w.heap.size w w'

theorem IsZ.below {w w' : World} {neg : Bool} {sv : Value} {n : Int} (h : IsZ w neg sv n) (hb : Below w.heap.size w w') : IsZ w' neg sv n := by
  obtain ⟨ds, h2, h3⟩ := h
  exact ⟨ds, h2.below hb, h3⟩

theorem IsZ.setCell {w : World} {neg : Bool} {sv : Value} {n : Int} (h : IsZ w neg sv n) {k : Nat} {t : TypeId} (hk : Kind w k t) (ht : 3 ≠ t) (o : Nat) (u : Value) : IsZ (w.setCell ⟨k, o, none⟩ u) neg sv n := by
  obtain ⟨ds, h2, h3⟩ := h
  exact ⟨ds, h2.setCell hk ht o u, h3⟩

theorem IsZ.set2 {w : World} {neg : Bool} {sv : Value} {n : Int} (h : IsZ w neg sv n) {k : Nat} {t : TypeId} (hk : Kind w k t) (ht : 3 ≠ t) (u u' : Value) : IsZ ((w.setCell ⟨k, 0, none⟩ u).setCell ⟨k, 1, none⟩ u') neg sv n :=
  (h.setCell hk ht 0 u).setCell (hk.setCell k 0 u) ht 1 u'

theorem isZ_of {w : World} {sv : Value} {ds : List Int} (neg : Bool) (h : Row w sv ds) (dd : Digs ds) (td : Tidy ds) (h0 : 0 < val ds) : IsZ w neg sv (sgn neg (val ds)) :=
  ⟨ds, h, dd, td, rfl, by cases neg <;> simp [sgn] <;> omega⟩
theorem isZ_zero (w : World) : IsZ w false (.slice none 0 0) 0 := ⟨[], Row.nil w, Digs.nil, Tidy.nil, by simp [sgn, val], by simp⟩
theorem sgn_zero (neg : Bool) : sgn neg 0 = 0 := by cases neg <;> simp [sgn]

theorem tidy_zero_end (w w' : World) (neg : Bool) (m : Int) (h : m = 0) (hb : Below w.heap.size w w') : RetZ w (sgn neg m) (.returned (.agg #[.bool false, .slice none 0 0])) w' := by
  subst h; rw [sgn_zero]; exact ⟨_, _, _, _, rfl, isZ_zero _, hb⟩

set_option maxRecDepth 100000 in
set_option maxHeartbeats 1600000 in
theorem tidy_any (neg : Bool) (v : Value) (xs : List Int) (w : World) (hx : Row w v xs) (dx : Digs xs) (lx : xs.length ≤ 1000000) :
    Calls Try.prog 182 #[.bool neg, v] w (RetZ w (sgn neg (val xs))) := by
  have hxr := hx
  obtain ⟨a, ca, ba, oa, rfl, hca, hxa, hxc⟩ := hx
  go_enter Try.func182, Try.ntmps182
  go_wp2
  go_loop [5] (fun i => ∃ (k : Nat), i = .int .i64 k ∧ k ≤ xs.length ∧ pre xs k = val xs) (fun i => (intOf i).toNat)
  case atStart => exact ⟨xs.length, rfl, Nat.le_refl _, pre_len xs⟩
  case round =>
    obtain ⟨k, rfl, hk, hp⟩ := hrel
    have HP := Lib.hid hp
    clear hp
    by_cases h0 : k = 0
    · subst h0
      clear hxa hxc hca
      go_wp2_with fail
      have hv := HP.out
      rw [pre_zero] at hv
      refine bodyPost_ret (v := .agg #[.bool false, .slice none 0 0]) (by simp [results, Try.results182, go_sem]) rfl (tidy_zero_end w _ neg _ hv.symm ?_)
      exact (Below.refl _ _).alloc (Nat.le_refl _) _
    · obtain ⟨j, rfl⟩ : ∃ j, k = j + 1 := ⟨k - 1, by omega⟩
      have hix := fun w => at_row (cap := ca) (fun h => (hxa h).1) (((j + 1 : Nat) : Int) - 1) (by omega) (by omega) w
      have e : ((j + 1 : Nat) : Int) - 1 = j := by omega
      simp only [e] at hix
      have hcx := hxc j (by omega)
      have hba := (hxa (by omega)).2.lt
      clear hxa e hxc
      by_cases hz : dg xs j = 0
      · have hs := Lib.hid ((pre_strip xs j hz).symm.trans HP.out)
        go_wp2_with fail
        go_round
        case rel => exact ⟨j, rfl, by omega, hs.out⟩
        case measure => simp [intOf]
      · go_wp2_with fail
        have hrow : Row w (.slice a (j + 1) ca) (xs.take (j + 1)) := by
          have := hxr.take (j + 1) (by omega)
          exact this
        have hl : (xs.take (j + 1)).length = j + 1 := by simp; omega
        have hg : dg (xs.take (j + 1)) j = dg xs j := dg_take xs (j + 1) j (by omega)
        have ht : Tidy (xs.take (j + 1)) := fun _ => by rw [hl, Nat.add_sub_cancel, hg]; exact hz
        have hp : 0 < val (xs.take (j + 1)) := by
          have h1 := tidy_ge (dx.take (j + 1)) ht (by omega)
          have h2 := B_pos ((xs.take (j + 1)).length - 1)
          omega
        refine bodyPost_ret (v := .agg #[.bool neg, .slice a (j + 1) ca]) (by simp [results, Try.results182, go_sem]) rfl ⟨_, _, _, _, rfl, ?_, (Below.refl _ _).alloc (Nat.le_refl _) _⟩
        have hz := (isZ_of neg hrow (dx.take (j + 1)) ht hp).below ((Below.refl _ w).alloc (Nat.le_refl _) (.cells #[.bool neg, .slice a (j + 1) ca] 47))
        have e : val (xs.take (j + 1)) = val xs := HP.out
        rw [e] at hz
        exact hz

set_option maxRecDepth 100000 in
set_option maxHeartbeats 1600000 in
theorem ofu_any (n : Int) (w : World) (h0 : 0 ≤ n) (h1 : n < 18446744073709551616) :
    Calls Try.prog 127 #[.int .u64 n] w (RetZ w n) := by
  go_enter Try.func127, Try.ntmps127
  go_wp2
  go_loopw [0, 3, 4] (fun q out i wr => ∃ (k : Nat) (c : Int) (zs : List Int), i = .int .i64 k ∧ q = .int .u64 c ∧ 0 ≤ c ∧ c < 18446744073709551616 ∧ k ≤ 4 ∧ zs.length = k ∧ Digs zs ∧
      wr.ownsRow (w.heap.size + 1) 3 1 out k (zs.map (Value.int .i64)) ∧ val zs + B k * c = n ∧ Below w.heap.size w wr ∧ Below (w.heap.size + 1) (w.alloc (.cells #[.bool false, .slice none 0 0] 47)) wr) (fun _ _ i _ => 5 - (intOf i).toNat)
  case atStart => exact ⟨0, n, [], rfl, rfl, h0, h1, by omega, rfl, Digs.nil, World.ownsRow_nil _ _ _ _, by simp [val, B_zero], (Below.refl _ _).alloc (Nat.le_refl _) _, Below.refl _ _⟩
  case round =>
    obtain ⟨k, c, zs, rfl, rfl, hc0, hc1, hk, hzl, dz, hown, hv, hbl, hbk⟩ := hrel
    have HL := Lib.hid hzl
    have HV := Lib.hid hv
    clear hzl hv
    have hbs := hbk.size
    have hbs2 : w.heap.size + 1 ≤ wr.heap.size := by simpa using hbs
    by_cases h4 : k < 4
    · have hst := Lib.hid (ofu_step n c zs k HL.out HV.out)
      go_wp2_with (at_builtin; refine append_int rfl _ _ rfl (w.heap.size + 1) (w.alloc (.cells #[.bool false, .slice none 0 0] 47)) _ _ _ rfl (hown.alloc _) ⟨wr.heap.size, 0, none⟩ _ rfl (cell1 _ _ _) (by omega) (by simp; omega) (hbk.alloc hbs2 _) ?_; intro v' w' hown' hbl' hsz')
      go_roundw
      case rel => exact ⟨k + 1, _, _, by go_num, rfl, by omega, by omega, by omega, by simp [HL.out], dz.snoc (by omega) (by omega), hown', hst.out, ((Below.refl _ w).alloc (Nat.le_refl _) _).trans (hbl'.mono (by omega)), hbl'⟩
      case measure => simp [intOf]; omega
    · obtain rfl : k = 4 := by omega
      have hn := Lib.hid (ofu_end dz HV.out h1 hc0)
      have hcr := fun o => hbk.cell (p := ⟨w.heap.size, o, none⟩) (Nat.lt_succ_self _)
      have hfr := fun o => hbk.frozen (p := ⟨w.heap.size, o, none⟩) (Nat.lt_succ_self _)
      have hlt : w.heap.size < wr.heap.size := by omega
      clear hbs
      go_wp2_with (go_at_call 182; (with_reducible refine (tidy_any false _ zs _ (row_of_owns hown HL.out) dz ?_).mono ?_); (have := HL.out; omega); rintro e w1 ⟨neg, a1, l1, c1, rfl, hz1, hb1⟩; obtain ⟨hcl, hfr1⟩ := bcell hb1)
      rw [hn.out] at hz1
      have hk0 : Kind w1 w.heap.size 47 := by
        have h0 : Kind wr w.heap.size 47 := ⟨#[.bool false, .slice none 0 0], (0, 0), (hbk.block _ (Nat.lt_succ_self _)).trans (heap_alloc_new w _)⟩
        exact h0.below hb1
      refine bodyPost_ret (v := .agg #[.bool neg, .slice a1 l1 c1]) (by simp [results, Try.results127, go_sem, hcl, hcr, hlt]) rfl ⟨_, _, _, _, rfl, (hz1.setCell hk0 (by decide) _ _).setCell (hk0.setCell _ _ _) (by decide) _ _, ?_⟩
      exact ((hbl.trans (hb1.mono hbl.size)).setCell (Nat.le_refl _) _).setCell (Nat.le_refl _) _

end Go.Proofs.Ytcndfpfjckkinaa
