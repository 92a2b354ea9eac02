/-
  A slice of wide numbers that came in; wide.Sum.
-/
import Derived.Test.YtmkddcmfofabbaaLwProds
set_option linter.unusedSimpArgs false
namespace Go.Proofs.Ytmkddcmfofabbaa
open Go Go.RowKit

/-- The i-th of some numbers. -/
def nth (ns : List Int) (i : Nat) : Int := ns.getD i 0
/-- The slice value v reads, in w, as the wide numbers ns; its cells lie in a block below B. -/
def WRow (B : Nat) (w : World) (v : Value) (ns : List Int) : Prop :=
  ∃ (a : Option Addr) (cap b off : Nat), v = .slice a ns.length cap ∧ (0 < ns.length → a = some ⟨b, off, none⟩ ∧ b < B) ∧
    ∀ i, i < ns.length → w.cell? ⟨b, off + 2 * i, none⟩ = some (.int .i64 (hi (nth ns i))) ∧ w.cell? ⟨b, off + 2 * i + 1, none⟩ = some (.int .u64 (lo (nth ns i)))
theorem WRow.ext {B : Nat} {w w' : World} {v : Value} {ns : List Int} (h : WRow B w v ns) (hB : B ≤ w.heap.size) (x : Ext w w') : WRow B w' v ns := by
  obtain ⟨a, cap, b, off, rfl, h2, h3⟩ := h
  refine ⟨a, cap, b, off, rfl, h2, fun i hi => ?_⟩
  have hb := (h2 (by omega)).2
  exact ⟨(Below.cell x (p := ⟨b, off + 2 * i, none⟩) (by show b < _; omega)).trans (h3 i hi).1, (Below.cell x (p := ⟨b, off + 2 * i + 1, none⟩) (by show b < _; omega)).trans (h3 i hi).2⟩
theorem at_wrow {len cap b off : Nat} {a : Option Addr} (h : 0 < len → a = some ⟨b, off, none⟩) (k : Nat) (h1 : k < len) (w : World) :
    (Instr.indexAt 58 (.slice a len cap) (.int .i64 (k : Int))).run Try.prog w = .ok (.pointer (some ⟨b, off + 2 * k, none⟩)) w := by
  rw [h (by omega)]
  have e : Try.prog.elem 58 = 26 := by kernel_rfl
  have s : ∀ w, (sizeOf 26).run Try.prog w = .ok 2 w := fun _ => by kernel_rfl
  rw [run_indexAt_slice w 58 ⟨b, off, none⟩ len cap .i64 k (by rw [e]; exact Try.underlying58), if_pos ⟨by omega, by omega⟩, e, s]
  simp [Result.andThen, Addr.add, Nat.mul_comm]

/-- The sum of numbers. -/
def tsum (ns : List Int) : Int := ns.sum
theorem tsum_nil : tsum [] = 0 := rfl
theorem tsum_take (ns : List Int) (k : Nat) (h : k < ns.length) : tsum (ns.take (k + 1)) = tsum (ns.take k) + nth ns k := by
  unfold tsum nth
  rw [List.take_succ_eq_append_getElem h, List.sum_append, List.getD, List.getElem?_eq_getElem h]
  simp

/-- What a round of the sum comes to. -/
def wt (s n : Int) : Int := hsum (hi s) (hi n) ((lo s + lo n) / 18446744073709551616) * 18446744073709551616 + (lo s + lo n) % 18446744073709551616
theorem wt_hi (s n : Int) : hi (wt s n) = hsum (hi s) (hi n) ((lo s + lo n) / 18446744073709551616) := (of_hi_lo _ _ (by omega) (by omega)).1
theorem wt_lo (s n : Int) : lo (wt s n) = (lo s + lo n) % 18446744073709551616 := (of_hi_lo _ _ (by omega) (by omega)).2
def T128 : Int := 340282366920938463463374607431768211456
theorem wt_W (s n : Int) : W128 (wt s n) := by
  rw [W128_iff, wt_hi, hsum_def]; omega
theorem wt_cases {s n : Int} (hs : W128 s) (hn : W128 n) :
    (hi s < 0 → hi n < 0 → 0 ≤ hi (wt s n) → s + n = wt s n - T128) ∧ (0 ≤ hi s → 0 ≤ hi n → hi (wt s n) < 0 → s + n = wt s n + T128) ∧
    (hi s < 0 → 0 ≤ hi n → s + n = wt s n) ∧ (0 ≤ hi s → hi n < 0 → s + n = wt s n) ∧ (hi s < 0 → hi (wt s n) < 0 → s + n = wt s n) ∧ (0 ≤ hi s → 0 ≤ hi (wt s n) → s + n = wt s n) := by
  rw [wt_hi]
  unfold wt T128
  rw [hsum_def]
  unfold W128 at hs hn
  unfold hi lo
  refine ⟨?_, ?_, ?_, ?_, ?_, ?_⟩ <;> intros <;> omega
theorem sum_end {s R t : Int} (hs : W128 s) (h : t = s + R * T128) : (R ≠ 0 → ¬ W128 t) ∧ (R = 0 → t = s ∧ W128 t) := by
  unfold T128 at h
  unfold W128 at *
  constructor <;> intros <;> omega

set_option maxRecDepth 100000 in
set_option maxHeartbeats 1600000 in
theorem wsum (v : Value) (ns : List Int) (w : World) (hr : WRow w.heap.size w v ns) (hl : ns.length ≤ 1000000) (hW : ∀ i, W128 (nth ns i)) :
    Calls Try.prog 51 #[v] w (RetT w (tsum ns)) := by
  obtain ⟨a, cap, b, off, rfl, ha, hc⟩ := hr
  have r98 := run_add64'
  go_enter Try.func51, Try.ntmps51
  go_wp2_with fail
  obtain ⟨V, hV⟩ : ∃ V, V = (w.alloc (.cells #[.int .i64 0, .int .u64 0] 26)).alloc (.cells #[.int .i64 0, .int .u64 0] 26) := ⟨_, rfl⟩
  rw [← hV]
  have hR : Box2 V w.heap.size (.int .i64 0) (.int .u64 0) 26 := by rw [hV]; exact (Box2.new rfl).alloc _
  have hS : Box2 V (w.heap.size + 1) (.int .i64 0) (.int .u64 0) 26 := by rw [hV]; exact Box2.new (by simp)
  have xw : Ext w V := by rw [hV]; exact (Ext.refl w).alloc.alloc
  clear hV
  go_loopw [5, 15] (fun s5 s15 wr => ∃ (k : Nat) (R s : Int), s5 = .int .i64 R ∧ s15 = .int .i64 k ∧ k ≤ ns.length ∧ -(k : Int) ≤ R ∧ R ≤ k ∧ W128 s ∧ tsum (ns.take k) = s + R * T128 ∧
      Box2 wr (w.heap.size + 1) (.int .i64 (hi s)) (.int .u64 (lo s)) 26 ∧ Box2 wr w.heap.size (.int .i64 0) (.int .u64 0) 26 ∧ Ext w wr)
    (fun _ s15 _ => ns.length - (intOf s15).toNat)
  case atStart => exact ⟨0, 0, 0, rfl, rfl, by omega, by omega, by omega, W128_zero, by simp [tsum], hS, hR, xw⟩
  case round =>
    clear hR hS xw
    obtain ⟨k, R, s, rfl, rfl, hk, hR0, hR1, hs, hT, hS, hR, xw⟩ := hrel
    have HT := Lib.hid hT
    clear hT
    have hS_0 := hS.c0; have hS_1 := hS.c1
    have hS_2 := hS.f0; have hS_3 := hS.f1
    have hz3 := hS.kind.lt
    have hz4 := hR.kind.lt
    by_cases hlt : k < ns.length
    · have hn := hW k
      have hix := fun w => at_wrow (cap := cap) (fun h => (ha h).1) k hlt w
      have hb := (ha (by omega)).2
      have hz := Ext.size xw
      have c0 := (Below.cell xw (p := ⟨b, off + 2 * k, none⟩) hb).trans (hc k hlt).1
      have c1 := (Below.cell xw (p := ⟨b, off + 2 * k + 1, none⟩) hb).trans (hc k hlt).2
      obtain ⟨l0, l1⟩ := lo_bd s
      obtain ⟨m0, m1⟩ := lo_bd (nth ns k)
      have u1 := u64_nonneg (hi s)
      have u2 := u64_nonneg (hi (nth ns k))
      have d0 : 0 ≤ (lo s + lo (nth ns k)) / 18446744073709551616 := by omega
      have d1 : (lo s + lo (nth ns k)) / 18446744073709551616 ≤ 1 := by omega
      clear ha hc
      go_wp2_with fail
      all_goals
        clear r98 u1 u2
        simp only [hsum_eq, ← wt_hi, ← wt_lo] at *
        go_roundw
        case measure => simp [intOf]; omega
      all_goals
        obtain ⟨q1, q2, q3, q4, q5, q6⟩ := wt_cases hs hn
        have hT := HT.out
        have hT2 := tsum_take ns k hlt
        have e1 := Int.sub_mul R 1 T128
        have e2 := Int.add_mul R 1 T128
        first
        | exact ⟨k + 1, R, wt s (nth ns k), rfl, by go_num, by omega, by omega, by omega, wt_W _ _, by rw [hT2, hT]; (first | omega | grind | (simp only [Bool.not_eq_eq_eq_not, Bool.not_false, Bool.not_true, beq_iff_eq, beq_eq_false_iff_ne, ne_eq, decide_eq_decide] at *; omega)), ((hS.set _ _).alloc _).alloc _, ((hR.other2 (by omega) _ _).alloc _).alloc _, (Ext.set (Ext.set xw (by omega)) (by omega)).alloc.alloc⟩
        | exact ⟨k + 1, R - 1, wt s (nth ns k), rfl, by go_num, by omega, by omega, by omega, wt_W _ _, by rw [hT2, hT]; (first | omega | grind | (simp only [Bool.not_eq_eq_eq_not, Bool.not_false, Bool.not_true, beq_iff_eq, beq_eq_false_iff_ne, ne_eq, decide_eq_decide] at *; omega)), ((hS.set _ _).alloc _).alloc _, ((hR.other2 (by omega) _ _).alloc _).alloc _, (Ext.set (Ext.set xw (by omega)) (by omega)).alloc.alloc⟩
        | exact ⟨k + 1, R + 1, wt s (nth ns k), rfl, by go_num, by omega, by omega, by omega, wt_W _ _, by rw [hT2, hT]; (first | omega | grind | (simp only [Bool.not_eq_eq_eq_not, Bool.not_false, Bool.not_true, beq_iff_eq, beq_eq_false_iff_ne, ne_eq, decide_eq_decide] at *; omega)), ((hS.set _ _).alloc _).alloc _, ((hR.other2 (by omega) _ _).alloc _).alloc _, (Ext.set (Ext.set xw (by omega)) (by omega)).alloc.alloc⟩
    · obtain rfl : k = ns.length := by omega
      have hTe : tsum (ns.take ns.length) = tsum ns := by rw [List.take_length]
      obtain ⟨g1, g2⟩ := sum_end hs HT.out
      rw [hTe] at g1 g2
      have HG1 := Lib.hid g1
      have HG2 := Lib.hid g2
      have r0 := hR.c0
      have r1 := hR.c1
      have r2 := hR.f0
      have r3 := hR.f1
      clear g1 g2 hTe ha hc r98
      by_cases h0 : R = 0
      · subst h0
        go_wp2_with fail
        obtain ⟨e1, e2⟩ := HG2.out (by trivial)
        refine bodyPost_ret (v := .tuple #[.agg #[.int .i64 (hi s), .int .u64 (lo s)], .int .i64 0]) (by simp [results, Try.results51, go_sem, r0, r1]) rfl (retT_yes e2 (by rw [e1]) (by rw [e1]) (Ext.set (Ext.set xw (by omega)) (by omega)))
      · go_wp2_with fail
        refine bodyPost_ret (v := .tuple #[.agg #[.int .i64 0, .int .u64 0], .int .i64 2]) (by simp [results, Try.results51, go_sem, r0, r1]) rfl (retT_no (HG1.out h0) (Ext.set (Ext.set xw (by omega)) (by omega)))
end Go.Proofs.Ytmkddcmfofabbaa
