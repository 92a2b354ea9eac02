/-
  The law DivideTruncs, walked.
-/
import Derived.Test.YtmkddcmfofabbaaZtr
import Derived.Test.YtmkddcmfofabbaaLwBys
namespace Go.Proofs.Ytmkddcmfofabbaa
open Go Go.RowKit

set_option maxRecDepth 100000 in
set_option maxHeartbeats 3200000 in
theorem law_truncs (a b : Int) (w : World) (ha : W128 a) (hb : W128 b) :
    Calls Try.prog 10 #[.agg #[.int .i64 (hi a), .int .u64 (lo a)], .agg #[.int .i64 (hi b), .int .u64 (lo b)]] w (fun e w' => e = .returned (.bool true) ∧ Ext w w') := by
  have H1 := Lib.hid dtrunc_any
  have H2 := Lib.hid ztrunc_any
  have H3 := Lib.hid alive3
  go_enter Try.func10, Try.ntmps10
  go_wp2_with fail
  obtain ⟨W, hW⟩ : ∃ W, W = (w.alloc (.cells #[.int .i64 (hi a), .int .u64 (lo a)] 26)).alloc (.cells #[.int .i64 (hi b), .int .u64 (lo b)] 26) := ⟨_, rfl⟩
  rw [← hW]
  have hA : Box2 W w.heap.size (.int .i64 (hi a)) (.int .u64 (lo a)) 26 := by rw [hW]; exact (Box2.new rfl).alloc _
  have hB : Box2 W (w.heap.size + 1) (.int .i64 (hi b)) (.int .u64 (lo b)) 26 := by rw [hW]; exact Box2.new (by simp)
  have xw : Ext w W := by rw [hW]; exact (Ext.refl w).alloc.alloc
  clear hW
  refine (H1.out a b _ ha hb).mono ?_
  rintro e w1 ⟨rfl, x1⟩
  obtain ⟨A1, g1⟩ : ∃ x, z0 b (thi (a.tdiv b)) = x := ⟨_, rfl⟩
  obtain ⟨A2, g2⟩ : ∃ x, z0 b (tlo (a.tdiv b)) = x := ⟨_, rfl⟩
  obtain ⟨A3, g3⟩ : ∃ x, z0 b (qh (a.tdiv b) (a.tmod b)) = x := ⟨_, rfl⟩
  obtain ⟨A4, g4⟩ : ∃ x, z0 b (ql (a.tdiv b) (a.tmod b)) = x := ⟨_, rfl⟩
  obtain ⟨A5, g5⟩ : ∃ x, er b (a.tdiv b) = x := ⟨_, rfl⟩
  rw [g1, g2, g3, g4, g5]
  have G1 := Lib.hid g1
  have G2 := Lib.hid g2
  have G3 := Lib.hid g3
  have G4 := Lib.hid g4
  have G5 := Lib.hid g5
  clear g1 g2 g3 g4 g5
  (first | replace xw := Ext.trans xw x1 | replace xw := Ext.trans (Ext.alloc xw) x1 | replace xw := Ext.trans (Ext.drew xw) x1 | replace xw := Ext.trans (Ext.alloc (Ext.drew xw)) x1); (first | replace hA := hA.ext x1 | replace hA := (hA.alloc _).ext x1 | replace hA := hA.drew.ext x1 | replace hA := (hA.drew.alloc _).ext x1); (first | replace hB := hB.ext x1 | replace hB := (hB.alloc _).ext x1 | replace hB := hB.drew.ext x1 | replace hB := (hB.drew.alloc _).ext x1)
  obtain ⟨V, hV⟩ : ∃ V, V = (w1.alloc (.cells #[.int .i64 A1, .int .u64 A2] 26)).alloc (.cells #[.int .i64 A3, .int .u64 A4] 26) := ⟨_, rfl⟩
  have hP : Box2 V w1.heap.size (.int .i64 A1) (.int .u64 A2) 26 := by rw [hV]; exact (Box2.new rfl).alloc _
  have hQ : Box2 V (w1.heap.size + 1) (.int .i64 A3) (.int .u64 A4) 26 := by rw [hV]; exact Box2.new (by simp)
  have kA := (hA.alloc (.cells #[.int .i64 A1, .int .u64 A2] 26)).alloc (.cells #[.int .i64 A3, .int .u64 A4] 26)
  have kB := (hB.alloc (.cells #[.int .i64 A1, .int .u64 A2] 26)).alloc (.cells #[.int .i64 A3, .int .u64 A4] 26)
  replace xw : Ext w V := by rw [hV]; exact Ext.alloc (Ext.alloc xw)
  have kA_0 := kA.c0; have kA_1 := kA.c1; have kB_0 := kB.c0; have kB_1 := kB.c1
  go_wp2_with fail
  clear kA_0 kA_1 kB_0 kB_1
  rw [← hV]
  clear hV kA kB hA hB x1
  refine (H2.out a b _ ha hb).mono ?_
  rintro e w2 ⟨rfl, x2⟩
  rw [G1.out, G2.out, G3.out, G4.out, G5.out]
  (first | replace xw := Ext.trans xw x2 | replace xw := Ext.trans (Ext.alloc xw) x2 | replace xw := Ext.trans (Ext.drew xw) x2 | replace xw := Ext.trans (Ext.alloc (Ext.drew xw)) x2); (first | replace hP := hP.ext x2 | replace hP := (hP.alloc _).ext x2 | replace hP := hP.drew.ext x2 | replace hP := (hP.drew.alloc _).ext x2); (first | replace hQ := hQ.ext x2 | replace hQ := (hQ.alloc _).ext x2 | replace hQ := hQ.drew.ext x2 | replace hQ := (hQ.drew.alloc _).ext x2)
  obtain ⟨U, hU⟩ : ∃ U, U = (w2.alloc (.cells #[.int .i64 A1, .int .u64 A2] 26)).alloc (.cells #[.int .i64 A3, .int .u64 A4] 26) := ⟨_, rfl⟩
  have hS : Box2 U w2.heap.size (.int .i64 A1) (.int .u64 A2) 26 := by rw [hU]; exact (Box2.new rfl).alloc _
  have hT : Box2 U (w2.heap.size + 1) (.int .i64 A3) (.int .u64 A4) 26 := by rw [hU]; exact Box2.new (by simp)
  replace hP := hP.named2 hU
  replace hQ := hQ.named2 hU
  replace xw : Ext w U := by rw [hU]; exact Ext.alloc (Ext.alloc xw)
  go_wp2_with fail
  rw [← hU]
  clear hU x2
  refine (H3.out _).mono ?_
  rintro e w3 ⟨rfl, x3⟩
  (first | replace xw := Ext.trans xw x3 | replace xw := Ext.trans (Ext.alloc xw) x3 | replace xw := Ext.trans (Ext.drew xw) x3 | replace xw := Ext.trans (Ext.alloc (Ext.drew xw)) x3); (first | replace hP := hP.ext x3 | replace hP := (hP.alloc _).ext x3 | replace hP := hP.drew.ext x3 | replace hP := (hP.drew.alloc _).ext x3); (first | replace hQ := hQ.ext x3 | replace hQ := (hQ.alloc _).ext x3 | replace hQ := hQ.drew.ext x3 | replace hQ := (hQ.drew.alloc _).ext x3); (first | replace hS := hS.ext x3 | replace hS := (hS.alloc _).ext x3 | replace hS := hS.drew.ext x3 | replace hS := (hS.drew.alloc _).ext x3); (first | replace hT := hT.ext x3 | replace hT := (hT.alloc _).ext x3 | replace hT := hT.drew.ext x3 | replace hT := (hT.drew.alloc _).ext x3)
  have hP_0 := hP.c0; have hP_1 := hP.c1; have hQ_0 := hQ.c0; have hQ_1 := hQ.c1; have hS_0 := hS.c0; have hS_1 := hS.c1; have hT_0 := hT.c0; have hT_1 := hT.c1
  go_wp2_with fail
  go_ret
  exact ⟨rfl, xw⟩
end Go.Proofs.Ytmkddcmfofabbaa
