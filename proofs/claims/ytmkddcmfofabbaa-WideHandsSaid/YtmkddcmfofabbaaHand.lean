/-
  Plain: dividing by hand, digit by digit.
-/
import Derived.Test.YtmkddcmfofabbaaParse
import Derived.Test.YtmkddcmfofabbaaZtxt
namespace Go.Proofs.Ytmkddcmfofabbaa
open Go Go.RowKit

/-- What the first k digits are read as. -/
def pv (D : List Int) (k : Nat) : Int := dval 0 (D.take k)
def qv (n : Int) (D : List Int) (k : Nat) : Int := pv D k / n
def rv (n : Int) (D : List Int) (k : Nat) : Int := pv D k % n
/-- What has been written when k digits are read. -/
def ot (n : Int) (D : List Int) (k : Nat) : List Int := if k < D.length ∧ qv n D k = 0 then [] else decs (qv n D k).natAbs
theorem pv_zero (D : List Int) : pv D 0 = 0 := by simp [pv, dval]
theorem pv_len (D : List Int) : pv D D.length = dval 0 D := by unfold pv; rw [List.take_length]
theorem pv_step (D : List Int) (k : Nat) (h : k < D.length) : pv D (k + 1) = pv D k * 10 + (bt D k - 48) := dval_take D k h
theorem pv_nonneg {D : List Int} (hD : ∀ d ∈ D, IsDig d) (k : Nat) : 0 ≤ pv D k := dval_ge 0 _ (fun d hd => hD d (List.mem_of_mem_take hd)) (Int.le_refl _)
theorem pv_le {D : List Int} (hD : ∀ d ∈ D, IsDig d) (k : Nat) : pv D k ≤ dval 0 D := dval_take_le D k hD
theorem bt_dig {D : List Int} (hD : ∀ d ∈ D, IsDig d) {k : Nat} (h : k < D.length) : IsDig (bt D k) := by
  rw [bt_eq, List.getD, List.getElem?_eq_getElem h]; exact hD _ (List.getElem_mem h)
theorem ot_zero {n : Int} {D : List Int} (h : 0 < D.length) : ot n D 0 = [] := by
  unfold ot
  rw [if_pos ⟨h, by unfold qv; rw [pv_zero]; simp⟩]
theorem ot_len {n : Int} {D : List Int} : ot n D D.length = decs (qv n D D.length).natAbs := by
  unfold ot
  rw [if_neg (fun h => Nat.lt_irrefl _ h.1)]
theorem hand_step {n : Int} {D : List Int} (hD : ∀ d ∈ D, IsDig d) (hn : 1 ≤ n) {k : Nat} (h : k < D.length) :
    0 ≤ rv n D k ∧ rv n D k < n ∧ 0 ≤ (rv n D k * 10 + (bt D k - 48)) / n ∧ (rv n D k * 10 + (bt D k - 48)) / n ≤ 9 ∧ rv n D (k + 1) = (rv n D k * 10 + (bt D k - 48)) % n ∧ qv n D (k + 1) = qv n D k * 10 + (rv n D k * 10 + (bt D k - 48)) / n ∧ 0 ≤ qv n D k := by
  have hp := pv_nonneg hD k
  have hd := bt_dig hD h
  unfold IsDig at hd
  have e1 := Int.emod_add_mul_ediv (pv D k) n
  have r0 := Int.emod_nonneg (pv D k) (show n ≠ 0 by omega)
  have r1 := Int.emod_lt_of_pos (pv D k) (show 0 < n by omega)
  have q0 : 0 ≤ pv D k / n := Int.ediv_nonneg hp (by omega)
  have e2 : pv D (k + 1) = (rv n D k * 10 + (bt D k - 48)) + n * (qv n D k * 10) := by
    rw [pv_step D k h]
    unfold rv qv
    have : n * (pv D k / n * 10) = (n * (pv D k / n)) * 10 := by rw [Int.mul_assoc]
    rw [this]
    omega
  refine ⟨r0, r1, Int.ediv_nonneg (by unfold rv; omega) (by omega), ?_, ?_, ?_, q0⟩
  · have : rv n D k * 10 + (bt D k - 48) < n * 10 := by unfold rv; omega
    have := Int.ediv_lt_of_lt_mul (show 0 < n by omega) (show rv n D k * 10 + (bt D k - 48) < 10 * n by omega)
    omega
  · show pv D (k + 1) % n = _
    rw [e2, Int.add_mul_emod_self_left]
  · show pv D (k + 1) / n = _
    rw [e2, Int.add_mul_ediv_left _ _ (by omega)]
    omega
theorem ot_more {n : Int} {D : List Int} (hD : ∀ d ∈ D, IsDig d) (hn : 1 ≤ n) {k : Nat} (h : k < D.length)
    (hc : 0 < (rv n D k * 10 + (bt D k - 48)) / n ∨ ot n D k ≠ [] ∨ k = D.length - 1) : ot n D (k + 1) = ot n D k ++ [48 + (rv n D k * 10 + (bt D k - 48)) / n] := by
  obtain ⟨h1, h2, h3, h4, h5, h6, h7⟩ := hand_step hD hn h
  generalize (rv n D k * 10 + (bt D k - 48)) / n = q at *
  by_cases hq : qv n D k = 0
  · have e0 : ot n D k = [] := by unfold ot; rw [if_pos ⟨h, hq⟩]
    rw [e0]
    have : ¬ (k + 1 < D.length ∧ qv n D (k + 1) = 0) := by
      rintro ⟨a, b⟩
      rcases hc with c | c | c
      · omega
      · exact c e0
      · omega
    unfold ot
    rw [if_neg this, h6, hq]
    rw [decs_lt (by omega)]
    simp; omega
  · have e0 : ot n D k = decs (qv n D k).natAbs := by unfold ot; rw [if_neg (fun x => hq x.2)]
    have e1 : ot n D (k + 1) = decs (qv n D (k + 1)).natAbs := by unfold ot; rw [if_neg (fun x => by omega)]
    rw [e0, e1, decs_ge (by omega)]
    have a1 : (qv n D (k + 1)).natAbs / 10 = (qv n D k).natAbs := by omega
    have a2 : (((qv n D (k + 1)).natAbs % 10 : Nat) : Int) = q := by omega
    rw [a1, a2]
theorem ot_less {n : Int} {D : List Int} (hD : ∀ d ∈ D, IsDig d) (hn : 1 ≤ n) {k : Nat} (h : k < D.length)
    (hc : ¬ 0 < (rv n D k * 10 + (bt D k - 48)) / n) (h0 : ot n D k = []) (hl : ¬ k = D.length - 1) : ot n D (k + 1) = [] := by
  obtain ⟨h1, h2, h3, h4, h5, h6, h7⟩ := hand_step hD hn h
  have hq : qv n D k = 0 := by
    by_cases hq : qv n D k = 0
    · exact hq
    · unfold ot at h0
      rw [if_neg (fun x => hq x.2)] at h0
      exact absurd h0 (decs_ne _)
  unfold ot
  rw [if_pos ⟨by omega, by omega⟩]
theorem ot_size {n : Int} {D : List Int} (hD : ∀ d ∈ D, IsDig d) (hn : 1 ≤ n) (hv : dval 0 D ≤ 170141183460469231731687303715884105728) (k : Nat) : (ot n D k).length ≤ 39 := by
  unfold ot
  split
  · simp
  · have h1 := pv_le hD k
    have h0 := pv_nonneg hD k
    have h2 : qv n D k ≤ pv D k := Int.ediv_le_self _ h0
    have h3 : 0 ≤ qv n D k := Int.ediv_nonneg h0 (by omega)
    exact decs_len (by omega) (by omega)
theorem hand_end {a n : Int} (hn : 1 ≤ n) {D : List Int} (hD : D = decs (a * n).natAbs) : rv n D D.length = 0 ∧ ot n D D.length = decs a.natAbs := by
  have e : dval 0 D = (a.natAbs : Int) * n := by
    rw [hD, decs_val, Int.natAbs_mul]
    have : ((n.natAbs : Nat) : Int) = n := by omega
    rw [Int.natCast_mul, this]
  constructor
  · unfold rv; rw [pv_len, e, Int.mul_emod_left]
  · rw [ot_len]
    unfold qv
    rw [pv_len, e, Int.mul_ediv_cancel _ (by omega), Int.natAbs_natCast]
end Go.Proofs.Ytmkddcmfofabbaa
