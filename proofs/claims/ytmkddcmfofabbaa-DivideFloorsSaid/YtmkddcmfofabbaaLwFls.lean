/-
  The law DivideFloors, walked.
-/
import Derived.Test.YtmkddcmfofabbaaZf0
import Derived.Test.YtmkddcmfofabbaaLwBys
namespace Go.Proofs.Ytmkddcmfofabbaa
open Go Go.RowKit

theorem s4d {w : World} {k1 k2 k3 k4 : Nat} {u1 v1 u2 v2 u3 v3 u4 v4 : Value} {t1 t2 t3 t4 : TypeId} (h1 : Box2 w k1 u1 v1 t1) (h2 : Box2 w k2 u2 v2 t2) (h3 : Box2 w k3 u3 v3 t3) (h4 : Box2 w k4 u4 v4 t4) :
    w.cell? ⟨k1, 0, none⟩ = some u1 ∧ w.cell? ⟨k1, 1, none⟩ = some v1 ∧ w.cell? ⟨k2, 0, none⟩ = some u2 ∧ w.cell? ⟨k2, 1, none⟩ = some v2 ∧ w.cell? ⟨k3, 0, none⟩ = some u3 ∧ w.cell? ⟨k3, 1, none⟩ = some v3 ∧ w.cell? ⟨k4, 0, none⟩ = some u4 ∧ w.cell? ⟨k4, 1, none⟩ = some v4 :=
  ⟨h1.c0, h1.c1, h2.c0, h2.c1, h3.c0, h3.c1, h4.c0, h4.c1⟩
set_option maxRecDepth 100000 in
set_option maxHeartbeats 3200000 in
theorem law_floors (a b : Int) (w : World) (ha : W128 a) (hb : W128 b) :
    Calls Try.prog 9 #[.agg #[.int .i64 (hi a), .int .u64 (lo a)], .agg #[.int .i64 (hi b), .int .u64 (lo b)]] w (fun e w' => e = .returned (.bool true) ∧ Ext w w') := by
  have H1 := Lib.hid dfloor_any
  have H2 := Lib.hid zfloor_any
  have H3 := Lib.hid alive3
  go_enter Try.func9, Try.ntmps9
  go_wp2_with fail
  obtain ⟨W, hW⟩ : ∃ W, W = (w.alloc (.cells #[.int .i64 (hi a), .int .u64 (lo a)] 26)).alloc (.cells #[.int .i64 (hi b), .int .u64 (lo b)] 26) := ⟨_, rfl⟩
  rw [← hW]
  have hA : Box2 W w.heap.size (.int .i64 (hi a)) (.int .u64 (lo a)) 26 := by rw [hW]; exact (Box2.new rfl).alloc _
  have hB : Box2 W (w.heap.size + 1) (.int .i64 (hi b)) (.int .u64 (lo b)) 26 := by rw [hW]; exact Box2.new (by simp)
  have xw : Ext w W := by rw [hW]; exact (Ext.refl w).alloc.alloc
  clear hW
  refine (H1.out a b _ ha hb).mono ?_
  rintro e w1 ⟨rfl, x1⟩
  obtain ⟨A1, g1⟩ : ∃ x, z0 b (thi (a.fdiv b)) = x := ⟨_, rfl⟩
  obtain ⟨A2, g2⟩ : ∃ x, z0 b (tlo (a.fdiv b)) = x := ⟨_, rfl⟩
  obtain ⟨A3, g3⟩ : ∃ x, z0 b (qh (a.fdiv b) (a.fmod b)) = x := ⟨_, rfl⟩
  obtain ⟨A4, g4⟩ : ∃ x, z0 b (ql (a.fdiv b) (a.fmod b)) = x := ⟨_, rfl⟩
  obtain ⟨A5, g5⟩ : ∃ x, er b (a.fdiv b) = x := ⟨_, rfl⟩
  rw [g1, g2, g3, g4, g5]
  have G1 := Lib.hid g1
  have G2 := Lib.hid g2
  have G3 := Lib.hid g3
  have G4 := Lib.hid g4
  have G5 := Lib.hid g5
  clear g1 g2 g3 g4 g5
  (first | replace xw := Ext.trans xw x1 | replace xw := Ext.trans (Ext.alloc xw) x1 | replace xw := Ext.trans (Ext.drew xw) x1 | replace xw := Ext.trans (Ext.alloc (Ext.drew xw)) x1); (first | replace hA := hA.ext x1 | replace hA := (hA.alloc _).ext x1 | replace hA := hA.drew.ext x1 | replace hA := (hA.drew.alloc _).ext x1); (first | replace hB := hB.ext x1 | replace hB := (hB.alloc _).ext x1 | replace hB := hB.drew.ext x1 | replace hB := (hB.drew.alloc _).ext x1)
  obtain ⟨V, hV⟩ : ∃ V, V = (w1.alloc (.cells #[.int .i64 A1, .int .u64 A2] 26)).alloc (.cells #[.int .i64 A3, .int .u64 A4] 26) := ⟨_, rfl⟩
  have hP : Box2 V w1.heap.size (.int .i64 A1) (.int .u64 A2) 26 := by rw [hV]; exact (Box2.new rfl).alloc _
  have hQ : Box2 V (w1.heap.size + 1) (.int .i64 A3) (.int .u64 A4) 26 := by rw [hV]; exact Box2.new (by simp)
  have kA := (hA.alloc (.cells #[.int .i64 A1, .int .u64 A2] 26)).alloc (.cells #[.int .i64 A3, .int .u64 A4] 26)
  have kB := (hB.alloc (.cells #[.int .i64 A1, .int .u64 A2] 26)).alloc (.cells #[.int .i64 A3, .int .u64 A4] 26)
  replace xw : Ext w V := by rw [hV]; exact Ext.alloc (Ext.alloc xw)
  have kA_0 := kA.c0; have kA_1 := kA.c1; have kB_0 := kB.c0; have kB_1 := kB.c1
  go_wp2_with fail
  clear kA_0 kA_1 kB_0 kB_1
  rw [← hV]
  clear hV kA kB hA hB x1
  refine (H2.out a b _ ha hb).mono ?_
  rintro e w2 ⟨rfl, x2⟩
  rw [G1.out, G2.out, G3.out, G4.out, G5.out]
  (first | replace xw := Ext.trans xw x2 | replace xw := Ext.trans (Ext.alloc xw) x2 | replace xw := Ext.trans (Ext.drew xw) x2 | replace xw := Ext.trans (Ext.alloc (Ext.drew xw)) x2); (first | replace hP := hP.ext x2 | replace hP := (hP.alloc _).ext x2 | replace hP := hP.drew.ext x2 | replace hP := (hP.drew.alloc _).ext x2); (first | replace hQ := hQ.ext x2 | replace hQ := (hQ.alloc _).ext x2 | replace hQ := hQ.drew.ext x2 | replace hQ := (hQ.drew.alloc _).ext x2)
  obtain ⟨U, hU⟩ : ∃ U, U = (w2.alloc (.cells #[.int .i64 A1, .int .u64 A2] 26)).alloc (.cells #[.int .i64 A3, .int .u64 A4] 26) := ⟨_, rfl⟩
  have hS : Box2 U w2.heap.size (.int .i64 A1) (.int .u64 A2) 26 := by rw [hU]; exact (Box2.new rfl).alloc _
  have hT : Box2 U (w2.heap.size + 1) (.int .i64 A3) (.int .u64 A4) 26 := by rw [hU]; exact Box2.new (by simp)
  replace hP := hP.named2 hU
  replace hQ := hQ.named2 hU
  replace xw : Ext w U := by rw [hU]; exact Ext.alloc (Ext.alloc xw)
  go_wp2_with fail
  rw [← hU]
  clear hU x2
  refine (H3.out _).mono ?_
  rintro e w3 ⟨rfl, x3⟩
  (first | replace xw := Ext.trans xw x3 | replace xw := Ext.trans (Ext.alloc xw) x3 | replace xw := Ext.trans (Ext.drew xw) x3 | replace xw := Ext.trans (Ext.alloc (Ext.drew xw)) x3); (first | replace hP := hP.ext x3 | replace hP := (hP.alloc _).ext x3 | replace hP := hP.drew.ext x3 | replace hP := (hP.drew.alloc _).ext x3); (first | replace hQ := hQ.ext x3 | replace hQ := (hQ.alloc _).ext x3 | replace hQ := hQ.drew.ext x3 | replace hQ := (hQ.drew.alloc _).ext x3); (first | replace hS := hS.ext x3 | replace hS := (hS.alloc _).ext x3 | replace hS := hS.drew.ext x3 | replace hS := (hS.drew.alloc _).ext x3); (first | replace hT := hT.ext x3 | replace hT := (hT.alloc _).ext x3 | replace hT := hT.drew.ext x3 | replace hT := (hT.drew.alloc _).ext x3)
  have hP_0 := hP.c0; have hP_1 := hP.c1; have hQ_0 := hQ.c0; have hQ_1 := hQ.c1; have hS_0 := hS.c0; have hS_1 := hS.c1; have hT_0 := hT.c0; have hT_1 := hT.c1
  go_wp2_with fail
  go_ret
  exact ⟨rfl, xw⟩
end Go.Proofs.Ytmkddcmfofabbaa
