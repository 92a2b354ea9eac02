/-
  Plain lemmas on a division bit by bit. No program in sight.
-/
import Derived.Test.YtmkddcmfofabbaaDig
namespace Go.Proofs.Ytmkddcmfofabbaa

/-- Without its last t bits. -/
def shr (m : Int) (t : Nat) : Int := m / ((2 ^ t : Nat) : Int)
theorem pow2_pos (t : Nat) : (0 : Int) < ((2 ^ t : Nat) : Int) := Int.ofNat_lt.2 (Nat.two_pow_pos t)
theorem shr_pow (m : Int) (t : Nat) : shr m t = m / 2 ^ t := by unfold shr; rw [Int.natCast_pow]; rfl
theorem shr_zero (m : Int) : shr m 0 = m := by simp [shr]
theorem shr_nonneg {m : Int} (h : 0 ≤ m) (t : Nat) : 0 ≤ shr m t := Int.ediv_nonneg h (Int.le_of_lt (pow2_pos t))
theorem shr_succ (m : Int) (t : Nat) : shr m (t + 1) = shr m t / 2 := by
  unfold shr
  rw [Nat.pow_succ, Int.natCast_mul, Int.ediv_ediv_of_nonneg (Int.le_of_lt (pow2_pos t))]; rfl
theorem shr_add (m : Int) (s t : Nat) : shr m (s + t) = shr (shr m s) t := by
  unfold shr
  rw [Nat.pow_add, Int.natCast_mul, Int.ediv_ediv_of_nonneg (Int.le_of_lt (pow2_pos s))]
theorem shr_le {m : Int} (h : 0 ≤ m) (t : Nat) : shr m t ≤ m := Int.ediv_le_self _ h
theorem shr_top {m : Int} (h : 0 ≤ m) (t : Nat) (h1 : m < ((2 ^ t : Nat) : Int)) : shr m t = 0 := Int.ediv_eq_zero_of_lt h h1
/-- The digit at place j, of the number. -/
theorem dg_val {ds : List Int} (h : Digs ds) (j : Nat) : dg ds j = shr (val ds) (16 * j) % 65536 := by
  by_cases hj : j < ds.length
  · have h1 := val_take_drop ds (j + 1) (by omega)
    rw [pre_succ, B_succ] at h1
    have h2 := pre_nonneg h j
    have h3 := pre_lt h j
    have hd := h j
    unfold shr
    rw [← B_two j]
    have hB := B_pos j
    have e : val ds = pre ds j + B j * (dg ds j + 65536 * val (ds.drop (j + 1))) := by rw [h1]; grind
    rw [e, Int.add_mul_ediv_left _ _ (by omega), Int.ediv_eq_zero_of_lt h2 h3]
    omega
  · rw [dg_past ds j (by omega)]
    have h1 := val_lt h
    have h2 := val_nonneg h
    have h3 := B_le (m := ds.length) (n := j) (by omega)
    rw [shr_top h2 (16 * j) (by rw [← B_two]; omega)]; rfl
theorem mod_shr (x : Int) (s : Nat) (hs : s < 16) : shr (x % 65536) s % 2 = shr x s % 2 := by
  unfold shr
  have : s = 0 ∨ s = 1 ∨ s = 2 ∨ s = 3 ∨ s = 4 ∨ s = 5 ∨ s = 6 ∨ s = 7 ∨ s = 8 ∨ s = 9 ∨ s = 10 ∨ s = 11 ∨ s = 12 ∨ s = 13 ∨ s = 14 ∨ s = 15 := by omega
  rcases this with rfl | rfl | rfl | rfl | rfl | rfl | rfl | rfl | rfl | rfl | rfl | rfl | rfl | rfl | rfl | rfl <;> simp only [Nat.reducePow, Int.cast_ofNat_Int] <;> omega
/-- The bit at place t. -/
theorem bit_val {ds : List Int} (h : Digs ds) (t : Nat) : shr (val ds) t = 2 * shr (val ds) (t + 1) + shr (dg ds (t / 16)) (t % 16) % 2 := by
  rw [dg_val h, mod_shr _ _ (Nat.mod_lt _ (by decide)), ← shr_add, show 16 * (t / 16) + t % 16 = t from by omega, shr_succ]
  omega
theorem long_more {M n b : Int} (hn : 0 < n) (hb : 0 ≤ b) (hb2 : b < 2) (h : n ≤ M % n + M % n + b) : (2 * M + b) / n = M / n + M / n + 1 ∧ (2 * M + b) % n = M % n + M % n + b - n := by
  have h1 := Int.emod_nonneg M (show n ≠ 0 by omega)
  have h2 := Int.emod_lt_of_pos M hn
  have h3 := Int.mul_ediv_add_emod M n
  have e : 2 * M + b = n * (M / n + M / n + 1) + (M % n + M % n + b - n) := by grind
  have := Int.ediv_emod_unique (a := 2 * M + b) (b := n) (r := M % n + M % n + b - n) (q := M / n + M / n + 1) hn
  exact this.2 ⟨by omega, by omega, by omega⟩
theorem long_less {M n b : Int} (hn : 0 < n) (hb : 0 ≤ b) (h : M % n + M % n + b < n) : (2 * M + b) / n = M / n + M / n ∧ (2 * M + b) % n = M % n + M % n + b := by
  have h1 := Int.emod_nonneg M (show n ≠ 0 by omega)
  have h3 := Int.mul_ediv_add_emod M n
  have e : 2 * M + b = n * (M / n + M / n) + (M % n + M % n + b) := by grind
  have := Int.ediv_emod_unique (a := 2 * M + b) (b := n) (r := M % n + M % n + b) (q := M / n + M / n) hn
  exact this.2 ⟨by omega, by omega, by omega⟩
theorem shr_bits {K : Nat} {m : Int} (h : Bits K m) (h0 : 0 ≤ m) (t : Nat) : Bits K (shr m t) := h.le (by have := shr_nonneg h0 t; have := shr_le h0 t; omega)
theorem div_bits {K : Nat} {m n : Int} (h : Bits K m) (h0 : 0 ≤ m) (h1 : 0 < n) : Bits K (m / n) := h.le (by have := Int.ediv_nonneg h0 (Int.le_of_lt h1); have := Int.ediv_le_self n h0; omega)
theorem mod_bits {K : Nat} {m n : Int} (h : Bits K n) (h1 : 0 < n) : Bits K (m % n) := h.le (by have := Int.emod_nonneg m (show n ≠ 0 by omega); have := Int.emod_lt_of_pos m h1; omega)

theorem fdiv_fmod_pos {a b q r : Int} (hb : 0 < b) (h : a = b * q + r) (h0 : 0 ≤ r) (h1 : r < b) : a.fdiv b = q ∧ a.fmod b = r := by
  have e : a / b = q ∧ a % b = r := (Int.ediv_emod_unique hb).2 ⟨by omega, h0, h1⟩
  rw [Int.fdiv_eq_ediv_of_nonneg _ (by omega), Int.fmod_eq_emod_of_nonneg _ (by omega)]
  exact e
theorem fdiv_fmod_neg {a b q r : Int} (hb : b < 0) (h : a = b * q + r) (h0 : r ≤ 0) (h1 : b < r) : a.fdiv b = q ∧ a.fmod b = r := by
  have e := fdiv_fmod_pos (a := -a) (b := -b) (q := q) (r := -r) (by omega) (by rw [h]; grind) (by omega) (by omega)
  have e1 : (-a).fdiv (-b) = a.fdiv b := Int.neg_fdiv_neg a b
  have h2 := Int.mul_fdiv_add_fmod a b
  rw [e1] at e
  refine ⟨e.1, ?_⟩
  rw [e.1] at h2
  omega
theorem div_parts (m n : Int) (hn : n ≠ 0) : (n.natAbs : Int) * ((m.natAbs : Int) / n.natAbs) + (m.natAbs : Int) % n.natAbs = m.natAbs ∧ 0 ≤ (m.natAbs : Int) % n.natAbs ∧ (m.natAbs : Int) % n.natAbs < n.natAbs ∧ 0 ≤ (m.natAbs : Int) / n.natAbs ∧ (m.natAbs : Int) / n.natAbs ≤ m.natAbs :=
  ⟨Int.mul_ediv_add_emod _ _, Int.emod_nonneg _ (by omega), Int.emod_lt_of_pos _ (by omega), Int.ediv_nonneg (by omega) (by omega), Int.ediv_le_self _ (by omega)⟩
theorem div_A {m n : Int} (hm : ¬ m < 0) (hn : 0 < n) : m.fdiv n = (m.natAbs : Int) / n.natAbs ∧ m.fmod n = (m.natAbs : Int) % n.natAbs := by
  obtain ⟨h1, h2, h3, -, -⟩ := div_parts m n (by omega)
  have e1 : (m.natAbs : Int) = m := by omega
  have e2 : (n.natAbs : Int) = n := by omega
  rw [e1, e2] at h1 h2 h3 ⊢
  exact fdiv_fmod_pos hn (by omega) h2 h3
theorem div_B {m n : Int} (hm : m < 0) (hn : n < 0) : m.fdiv n = (m.natAbs : Int) / n.natAbs ∧ m.fmod n = -((m.natAbs : Int) % n.natAbs) := by
  obtain ⟨h1, h2, h3, -, -⟩ := div_parts m n (by omega)
  have e1 : (m.natAbs : Int) = -m := by omega
  have e2 : (n.natAbs : Int) = -n := by omega
  rw [e1, e2] at h1 h2 h3 ⊢
  exact fdiv_fmod_neg hn (by generalize (-m) / (-n) = q at *; generalize (-m) % (-n) = r at *; grind) (by omega) (by omega)
theorem div_C0 {m n : Int} (hm : ¬ m < 0) (hn : n < 0) (h0 : (m.natAbs : Int) % n.natAbs = 0) : m.fdiv n = -((m.natAbs : Int) / n.natAbs) ∧ m.fmod n = (m.natAbs : Int) % n.natAbs := by
  obtain ⟨h1, h2, h3, -, -⟩ := div_parts m n (by omega)
  have e1 : (m.natAbs : Int) = m := by omega
  have e2 : (n.natAbs : Int) = -n := by omega
  rw [e1, e2] at h0 h1 h2 h3 ⊢
  exact fdiv_fmod_neg hn (by generalize m / (-n) = q at *; generalize m % (-n) = r at *; grind) (by omega) (by omega)
theorem div_C1 {m n : Int} (hm : ¬ m < 0) (hn : n < 0) (h0 : (m.natAbs : Int) % n.natAbs ≠ 0) : m.fdiv n = -((m.natAbs : Int) / n.natAbs) - 1 ∧ m.fmod n = (m.natAbs : Int) % n.natAbs + n := by
  obtain ⟨h1, h2, h3, -, -⟩ := div_parts m n (by omega)
  have e1 : (m.natAbs : Int) = m := by omega
  have e2 : (n.natAbs : Int) = -n := by omega
  rw [e1, e2] at h0 h1 h2 h3 ⊢
  exact fdiv_fmod_neg hn (by generalize m / (-n) = q at *; generalize m % (-n) = r at *; grind) (by omega) (by omega)
theorem div_D0 {m n : Int} (hm : m < 0) (hn : 0 < n) (h0 : (m.natAbs : Int) % n.natAbs = 0) : m.fdiv n = -((m.natAbs : Int) / n.natAbs) ∧ m.fmod n = -((m.natAbs : Int) % n.natAbs) := by
  obtain ⟨h1, h2, h3, -, -⟩ := div_parts m n (by omega)
  have e1 : (m.natAbs : Int) = -m := by omega
  have e2 : (n.natAbs : Int) = n := by omega
  rw [e1, e2] at h0 h1 h2 h3 ⊢
  exact fdiv_fmod_pos hn (by generalize (-m) / n = q at *; generalize (-m) % n = r at *; grind) (by omega) (by omega)
theorem div_D1 {m n : Int} (hm : m < 0) (hn : 0 < n) (h0 : (m.natAbs : Int) % n.natAbs ≠ 0) : m.fdiv n = -((m.natAbs : Int) / n.natAbs) - 1 ∧ m.fmod n = -((m.natAbs : Int) % n.natAbs) + n := by
  obtain ⟨h1, h2, h3, -, -⟩ := div_parts m n (by omega)
  have e1 : (m.natAbs : Int) = -m := by omega
  have e2 : (n.natAbs : Int) = n := by omega
  rw [e1, e2] at h0 h1 h2 h3 ⊢
  exact fdiv_fmod_pos hn (by generalize (-m) / n = q at *; generalize (-m) % n = r at *; grind) (by omega) (by omega)

end Go.Proofs.Ytmkddcmfofabbaa
