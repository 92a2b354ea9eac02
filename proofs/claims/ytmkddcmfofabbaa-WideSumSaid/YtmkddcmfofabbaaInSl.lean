/-
  What comes in: a slice of wide numbers.
-/
import Derived.Test.YtmkddcmfofabbaaWsum
import Derived.Test.YtmkddcmfofabbaaIn
import Derived.Deep.SlicePairs
import Derived.WalkKit
import Derived.ProofKit
namespace Go.Proofs.Ytmkddcmfofabbaa
open Go.ChangeShapes Go.WideShapes Go.ChangeAt Go.RowKit

theorem cell_spot {w : World} {a : Addr} {v : Value} (h : w.cell? a = some v) : a = ⟨a.block, a.off, none⟩ := by
  obtain ⟨b, o, s⟩ := a
  cases s with
  | none => rfl
  | some x =>
    exfalso
    unfold World.cell? at h
    split at h <;> simp at h
theorem wrow_in {H : Type} {enc : TypeId × Value → H} {W : World} {a : Option Addr} {len cap : Nat} {d : DataW H} {p : List MemPlace}
    (h : DataW.Trod enc Try.prog W 0 (fun _ => true) true 58 (.slice a len cap) d p) :
    ∃ ns : List Int, ns.length = len ∧ WRow W.heap.size W (.slice a len cap) ns ∧ (∀ i, W128 (nth ns i)) ∧ len ≤ maxLen := by
  obtain ⟨fuel, hf⟩ := h
  simp only [Value.cells] at hf
  rcases Go.Deep.open_slice_pairs Try.underlying58 Try.underlying26 (by kernel_rfl) rfl rfl (by kernel_rfl) (by kernel_rfl) hf with ⟨hcs, _⟩ | ⟨x, l, c, m, n, V0, V1, D0, D1, P0, P1, hcs, hb, hl, hm, hmm, _, hx⟩
  · simp at hcs
    obtain ⟨rfl, rfl, rfl⟩ := hcs
    exact ⟨[], rfl, ⟨none, 0, 0, 0, rfl, fun h => absurd h (by simp), fun i h => absurd h (by simp)⟩, fun i => by simp [nth, W128_zero], by simp⟩
  · simp at hcs
    obtain ⟨rfl, rfl, rfl⟩ := hcs
    have hlm : len ≤ m := by rw [hmm]; split <;> omega
    have each : ∀ i, i < len → ∃ q : Int, W128 q ∧ V0 i = .int .i64 (hi q) ∧ V1 i = .int .u64 (lo q) := by
      intro i hi'
      obtain ⟨h1, h2, h3, h4⟩ := hx i (by omega)
      obtain ⟨u, e0, _, wu⟩ := DataW.trod_int Try.underlying2 h3
      obtain ⟨v, e1, _, wv⟩ := DataW.trod_int Try.underlying24 h4
      simp at e0 e1
      obtain ⟨q, hq, rfl, rfl⟩ := wide_in wu wv
      exact ⟨q, hq, e0, e1⟩
    obtain ⟨f, hf'⟩ := Go.Deep.choose_lt each
    have hn : ∀ i, i < len → nth ((List.range len).map f) i = f i := by
      intro i hi'
      simp [nth, List.getD, hi']
    refine ⟨(List.range len).map f, by simp, ⟨some x, cap, x.block, x.off, by simp, fun h => ?_, fun i hi' => ?_⟩, fun i => ?_, by omega⟩
    · have h0 : 0 < len := by simpa using h
      obtain ⟨h1, _, _, _⟩ := hx 0 (by omega)
      have e : x.add (0 * 2) = x := by simp [Addr.add]
      rw [e] at h1
      exact ⟨by rw [← cell_spot h1], World.block_lt_of_cell? W x h1⟩
    · have hi'' : i < len := by simpa using hi'
      obtain ⟨h1, h2, h3, h4⟩ := hx i (by omega)
      obtain ⟨_, h0, _, _⟩ := hx 0 (by omega)
      obtain ⟨g1, _, _, _⟩ := hx 0 (by omega)
      have e : x.add (0 * 2) = x := by simp [Addr.add]
      rw [e] at g1
      have ex := cell_spot g1
      obtain ⟨_, k1, k2⟩ := hf' i hi''
      rw [hn i hi'']
      have e1 : x.add (i * 2) = ⟨x.block, x.off + 2 * i, none⟩ := by
        rw [ex]; unfold Addr.add
        split
        · first | (simp; done) | (simp; omega)
        · first | (simp; done) | (simp; omega)
      have e2 : x.add (i * 2 + 1) = ⟨x.block, x.off + 2 * i + 1, none⟩ := by
        rw [ex]; unfold Addr.add
        rw [if_neg (by omega)]
        first | (simp; done) | (simp; omega)
      rw [← e1, ← e2, h1, h2, k1, k2]
      exact ⟨rfl, rfl⟩
    · by_cases hi' : i < len
      · rw [hn i hi']; exact (hf' i hi').1
      · have : nth ((List.range len).map f) i = 0 := by simp [nth, List.getD, hi']
        rw [this]; exact W128_zero
end Go.Proofs.Ytmkddcmfofabbaa
