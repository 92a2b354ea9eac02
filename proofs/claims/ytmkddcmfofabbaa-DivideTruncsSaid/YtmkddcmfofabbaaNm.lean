/-
  Small laws for the walks: a world gets a name; how great quotients and rests are.
-/
import Derived.Test.YtmkddcmfofabbaaRfd
namespace Go.Proofs.Ytmkddcmfofabbaa
open Go Go.RowKit

theorem wp_name {P : Program} {c : Code} {Q : Exit → Act → World → Prop} {a : Act} {w : World} (h : ∀ V, V = w → c.wp P Q a V) : c.wp P Q a w := h w rfl
theorem fmod_lt {a b : Int} (h0 : b ≠ 0) : (a.fmod b).natAbs < b.natAbs := by
  by_cases h : 0 < b
  · have h1 := Int.fmod_eq_emod_of_nonneg a (show 0 ≤ b by omega)
    have := Int.emod_nonneg a h0
    have := Int.emod_lt_of_pos a h
    omega
  · obtain ⟨k1, k2, k3⟩ := tdm (a := a) h0
    by_cases hs : a.tmod b = 0 ∨ (a.tmod b < 0 ↔ b < 0)
    · rw [(floor_same h0 hs).2]; omega
    · rw [(floor_less h0 (fun e => hs (Or.inl e)) (fun e => hs (Or.inr e))).2]; omega
theorem fmod_b {K : Nat} {a b : Int} (h : Bits K b) (h0 : b ≠ 0) : Bits K (a.fmod b) := by
  have := fmod_lt (a := a) h0
  exact h.le (by omega)
theorem fdiv_le {a b : Int} (h0 : b ≠ 0) : (a.fdiv b).natAbs ≤ a.natAbs + 1 := by
  have e := tdiv_nat (a := a) (b := b)
  have h1 : a.natAbs / b.natAbs ≤ a.natAbs := Nat.div_le_self _ _
  by_cases hs : a.tmod b = 0 ∨ (a.tmod b < 0 ↔ b < 0)
  · rw [(floor_same h0 hs).1]; omega
  · rw [(floor_less h0 (fun e => hs (Or.inl e)) (fun e => hs (Or.inr e))).1]; omega
theorem fdiv_b {K : Nat} {a b : Int} (h : Bits K a) (h0 : b ≠ 0) : Bits (K + 1) (a.fdiv b) := by
  have h1 := fdiv_le (a := a) h0
  have h2 : 0 < 2 ^ K := Nat.two_pow_pos K
  unfold Bits at *
  rw [Nat.pow_succ]; omega
end Go.Proofs.Ytmkddcmfofabbaa
