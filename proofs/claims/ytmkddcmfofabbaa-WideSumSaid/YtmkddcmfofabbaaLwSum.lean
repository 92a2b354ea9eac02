/-
  The law WideSum, walked.
-/
import Derived.Test.YtmkddcmfofabbaaZsum
namespace Go.Proofs.Ytmkddcmfofabbaa
open Go Go.RowKit

theorem WRow.len {B : Nat} {w : World} {v : Value} {ns : List Int} (h : WRow B w v ns) : ∃ a cap, v = .slice a ns.length cap := by
  obtain ⟨a, cap, b, off, e, _⟩ := h
  exact ⟨a, cap, e⟩
set_option maxRecDepth 100000 in
set_option maxHeartbeats 1600000 in
theorem law_sum (v : Value) (ns : List Int) (w : World) (hr : WRow w.heap.size w v ns) (hl : ns.length ≤ maxLen) (hW : ∀ i, W128 (nth ns i)) :
    Calls Try.prog 7 #[v] w (fun e w' => e = .returned (.bool true) ∧ Ext w w') := by
  have H1 := Lib.hid wsum
  have H2 := Lib.hid zsum
  have H7 := Lib.hid told_any
  have H8 := Lib.hid alive2
  have HR := Lib.hid hr
  have HW := Lib.hid hW
  unfold maxLen at hl
  obtain ⟨a, cap, rfl⟩ := hr.len
  clear hr hW
  by_cases h2 : ns.length ≤ 200
  · go_enter Try.func7, Try.ntmps7
    go_wp2_with fail
    refine (H1.out _ ns _ HR.out (by omega) HW.out).mono ?_
    rintro e w1 ⟨rfl, x1⟩
    go_wp2_with fail
    obtain ⟨V, hV⟩ : ∃ V, V = w1.alloc (.cells #[.int .i64 (thi (tsum ns)), .int .u64 (tlo (tsum ns))] 26) := ⟨_, rfl⟩
    have hA : Box2 V w1.heap.size (.int .i64 (thi (tsum ns))) (.int .u64 (tlo (tsum ns))) 26 := by rw [hV]; exact Box2.new rfl
    have xw : Ext w V := by rw [hV]; exact Ext.alloc x1
    rw [← hV]
    clear hV
    have hr2 := HR.out.ext (Nat.le_refl _) xw
    have hr3 : WRow V.heap.size V (.slice a ns.length cap) ns := by
      obtain ⟨a', cap', b, off, e, h1, h2⟩ := hr2
      exact ⟨a', cap', b, off, e, fun h => ⟨(h1 h).1, Nat.lt_of_lt_of_le (h1 h).2 xw.size⟩, h2⟩
    have HB := Lib.hid ((tsum_bits HW.out ns.length (Nat.le_refl _)).mono (show 128 + ns.length ≤ 1000 by omega))
    rw [List.take_length] at HB
    refine (H2.out _ ns _ hr3 h2 HW.out).mono ?_
    rintro e w2 ⟨n2, a2, l2, c2, rfl, hz2, x2⟩
    replace x2 : Ext _ w2 := x2
    (first | replace xw := Ext.trans xw x2 | replace xw := Ext.trans (Ext.alloc xw) x2 | replace xw := Ext.trans (Ext.drew xw) x2 | replace xw := Ext.trans (Ext.alloc (Ext.drew xw)) x2); (first | replace hA := hA.ext x2 | replace hA := (hA.alloc _).ext x2 | replace hA := hA.drew.ext x2 | replace hA := (hA.drew.alloc _).ext x2)
    go_wp2_with fail
    refine (H7.out _ _ _ _ (tsum ns) _ hz2 HB.out).mono ?_
    rintro e w3 ⟨rfl, x3⟩
    (first | replace xw := Ext.trans xw x3 | replace xw := Ext.trans (Ext.alloc xw) x3 | replace xw := Ext.trans (Ext.drew xw) x3 | replace xw := Ext.trans (Ext.alloc (Ext.drew xw)) x3); (first | replace hA := hA.ext x3 | replace hA := (hA.alloc _).ext x3 | replace hA := hA.drew.ext x3 | replace hA := (hA.drew.alloc _).ext x3)
    have hB : Box2 (w3.alloc (.cells #[.int .i64 (thi (tsum ns)), .int .u64 (tlo (tsum ns))] 26)) w3.heap.size (.int .i64 (thi (tsum ns))) (.int .u64 (tlo (tsum ns))) 26 := Box2.new rfl
    go_wp2_with fail
    replace hA := hA.alloc (.cells #[.int .i64 (thi (tsum ns)), .int .u64 (tlo (tsum ns))] 26)
    refine (H8.out _).mono ?_
    rintro e w4 ⟨rfl, x4⟩
    (first | replace xw := Ext.trans xw x4 | replace xw := Ext.trans (Ext.alloc xw) x4 | replace xw := Ext.trans (Ext.drew xw) x4 | replace xw := Ext.trans (Ext.alloc (Ext.drew xw)) x4); (first | replace hA := hA.ext x4 | replace hA := (hA.alloc _).ext x4 | replace hA := hA.drew.ext x4 | replace hA := (hA.drew.alloc _).ext x4); (first | replace hB := hB.ext x4 | replace hB := (hB.alloc _).ext x4 | replace hB := hB.drew.ext x4 | replace hB := (hB.drew.alloc _).ext x4)
    have hA_0 := hA.c0; have hA_1 := hA.c1; have hB_0 := hB.c0; have hB_1 := hB.c1
    go_wp2_with fail
    go_ret
    exact ⟨rfl, xw⟩
  · go_enter Try.func7, Try.ntmps7
    go_wp2_with fail
    refine (H8.out _).mono ?_
    rintro e w4 ⟨rfl, x4⟩
    go_wp2_with fail
    go_ret
    exact ⟨rfl, x4⟩
end Go.Proofs.Ytmkddcmfofabbaa
