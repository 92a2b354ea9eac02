/-
  What every right program answers: alive of layer 3.
-/
import Derived.Test.YtmkddcmfofabbaaDve
import Derived.Test.YtmkddcmfofabbaaLiv02
namespace Go.Proofs.Ytmkddcmfofabbaa
open Go Go.RowKit

theorem s3c {w : World} {k k' k'' : Nat} {u v u' v' u'' v'' : Value} {t t' t'' : TypeId} (h : Box2 w k u v t) (h' : Box2 w k' u' v' t') (h'' : Box2 w k'' u'' v'' t'') :
    w.cell? ⟨k, 0, none⟩ = some u ∧ w.cell? ⟨k, 1, none⟩ = some v ∧ w.cell? ⟨k', 0, none⟩ = some u' ∧ w.cell? ⟨k', 1, none⟩ = some v' ∧ w.cell? ⟨k'', 0, none⟩ = some u'' ∧ w.cell? ⟨k'', 1, none⟩ = some v'' := ⟨h.c0, h.c1, h'.c0, h'.c1, h''.c0, h''.c1⟩
theorem liv_floor (w : World) : Calls Try.prog 56 #[.agg #[.int .i64 (hi (-7)), .int .u64 (lo (-7))], .agg #[.int .i64 (hi 2), .int .u64 (lo 2)]] w
    (fun e w' => e = .returned (.tuple #[.agg #[.int .i64 (hi (-4)), .int .u64 (lo (-4))], .agg #[.int .i64 (hi 1), .int .u64 (lo 1)], .int .i64 0]) ∧ Ext w w') := by
  have h := floor_small (-7) 2 w (by unfold W128; omega) (by omega) (by unfold I64; omega)
  have hW : W128 (-4) := by unfold W128; omega
  unfold RetQ at h
  rw [show (-7 : Int).fdiv 2 = -4 from by decide, show (-7 : Int).fmod 2 = 1 from by decide, thi_yes hW, tlo_yes hW, ter_yes hW, show qh (-4) 1 = hi 1 from if_pos hW, show ql (-4) 1 = lo 1 from if_pos hW] at h
  exact h
theorem liv_gcd (w : World) : Calls Try.prog 61 #[.agg #[.int .i64 (hi (-12)), .int .u64 (lo (-12))], .agg #[.int .i64 (hi 18), .int .u64 (lo 18)]] w
    (fun e w' => e = .returned (.tuple #[.agg #[.int .i64 (hi 6), .int .u64 (lo 6)], .int .i64 0]) ∧ Ext w w') := by
  have h := dGcd 18 (-12) 18 w (by unfold W128; omega) (by unfold W128; omega) (by decide) (by decide) (by decide) (over_to 18 (by decide))
  have hW : W128 6 := by unfold W128; omega
  unfold RetT at h
  rw [show ((Nat.gcd (-12 : Int).natAbs (18 : Int).natAbs : Nat) : Int) = 6 from by decide, thi_yes hW, tlo_yes hW, ter_yes hW] at h
  exact h

set_option maxRecDepth 100000 in
set_option maxHeartbeats 1600000 in
theorem alive3 (w : World) : Calls Try.prog 58 #[] w (fun e w' => e = .returned (.bool true) ∧ Ext w w') := by
  have H2 := Lib.hid liv_of
  have H3 := Lib.hid liv_floor
  have H4 := Lib.hid liv_gcd
  have i1 : I64 (-7) := by unfold I64; omega
  have i2 : I64 2 := by unfold I64; omega
  have i3 : I64 (-12) := by unfold I64; omega
  have i4 : I64 18 := by unfold I64; omega
  have i5 : I64 (-4) := by unfold I64; omega
  have i6 : I64 1 := by unfold I64; omega
  have i7 : I64 6 := by unfold I64; omega
  go_enter Try.func58, Try.ntmps58
  go_wp2_with fail
  refine (H2.out _ _ i1).mono ?_
  rintro e w1 ⟨rfl, x1⟩
  go_wp2_with fail
  refine (H2.out _ _ i2).mono ?_
  rintro e w2 ⟨rfl, x2⟩
  go_wp2_with fail
  refine (H3.out _).mono ?_
  rintro e w3 ⟨rfl, x3⟩
  have xw := Ext.trans (Ext.trans x1 x2) x3
  have hA : Box2 ((w3.alloc (.cells #[.int .i64 (hi (-4)), .int .u64 (lo (-4))] 26)).alloc (.cells #[.int .i64 (hi 1), .int .u64 (lo 1)] 26)) w3.heap.size (.int .i64 (hi (-4))) (.int .u64 (lo (-4))) 26 := (Box2.new rfl).alloc _
  have hB : Box2 ((w3.alloc (.cells #[.int .i64 (hi (-4)), .int .u64 (lo (-4))] 26)).alloc (.cells #[.int .i64 (hi 1), .int .u64 (lo 1)] 26)) (w3.heap.size + 1) (.int .i64 (hi 1)) (.int .u64 (lo 1)) 26 := Box2.new (by simp)
  replace xw := Ext.alloc (o := .cells #[.int .i64 (hi 1), .int .u64 (lo 1)] 26) (Ext.alloc (o := .cells #[.int .i64 (hi (-4)), .int .u64 (lo (-4))] 26) xw)
  go_wp2_with fail
  refine (H2.out _ _ i3).mono ?_
  rintro e w4 ⟨rfl, x4⟩
  (first | replace xw := Ext.trans xw x4 | replace xw := Ext.trans (Ext.alloc xw) x4 | replace xw := Ext.trans (Ext.drew xw) x4 | replace xw := Ext.trans (Ext.alloc (Ext.drew xw)) x4); (first | replace hA := hA.ext x4 | replace hA := (hA.alloc _).ext x4 | replace hA := hA.drew.ext x4 | replace hA := (hA.drew.alloc _).ext x4); (first | replace hB := hB.ext x4 | replace hB := (hB.alloc _).ext x4 | replace hB := hB.drew.ext x4 | replace hB := (hB.drew.alloc _).ext x4)
  go_wp2_with fail
  refine (H2.out _ _ i4).mono ?_
  rintro e w5 ⟨rfl, x5⟩
  (first | replace xw := Ext.trans xw x5 | replace xw := Ext.trans (Ext.alloc xw) x5 | replace xw := Ext.trans (Ext.drew xw) x5 | replace xw := Ext.trans (Ext.alloc (Ext.drew xw)) x5); (first | replace hA := hA.ext x5 | replace hA := (hA.alloc _).ext x5 | replace hA := hA.drew.ext x5 | replace hA := (hA.drew.alloc _).ext x5); (first | replace hB := hB.ext x5 | replace hB := (hB.alloc _).ext x5 | replace hB := hB.drew.ext x5 | replace hB := (hB.drew.alloc _).ext x5)
  go_wp2_with fail
  refine (H4.out _).mono ?_
  rintro e w6 ⟨rfl, x6⟩
  (first | replace xw := Ext.trans xw x6 | replace xw := Ext.trans (Ext.alloc xw) x6 | replace xw := Ext.trans (Ext.drew xw) x6 | replace xw := Ext.trans (Ext.alloc (Ext.drew xw)) x6); (first | replace hA := hA.ext x6 | replace hA := (hA.alloc _).ext x6 | replace hA := hA.drew.ext x6 | replace hA := (hA.drew.alloc _).ext x6); (first | replace hB := hB.ext x6 | replace hB := (hB.alloc _).ext x6 | replace hB := hB.drew.ext x6 | replace hB := (hB.drew.alloc _).ext x6)
  go_wp2_with fail
  obtain ⟨V, hV⟩ : ∃ V, V = w6.alloc (.cells #[.int .i64 (hi 6), .int .u64 (lo 6)] 26) := ⟨_, rfl⟩
  have hC : Box2 V w6.heap.size (.int .i64 (hi 6)) (.int .u64 (lo 6)) 26 := by rw [hV]; exact Box2.new rfl
  replace hA := hA.named hV
  replace hB := hB.named hV
  replace xw : Ext w V := by rw [hV]; exact Ext.alloc xw
  rw [← hV]
  clear hV x1 x2 x3 x4 x5 x6
  go_region_held3 (fun w' => w'.cell? ⟨w3.heap.size, 0, none⟩ = some (.int .i64 (hi (-4))) ∧ w'.cell? ⟨w3.heap.size, 1, none⟩ = some (.int .u64 (lo (-4))) ∧ w'.cell? ⟨w3.heap.size + 1, 0, none⟩ = some (.int .i64 (hi 1)) ∧ w'.cell? ⟨w3.heap.size + 1, 1, none⟩ = some (.int .u64 (lo 1)) ∧ w'.cell? ⟨w6.heap.size, 0, none⟩ = some (.int .i64 (hi 6)) ∧ w'.cell? ⟨w6.heap.size, 1, none⟩ = some (.int .u64 (lo 6)))
    (first
      | exact s3c (hA.drew.ext x) (hB.drew.ext x) (hC.drew.ext x)
      | exact s3c hA.drew hB.drew hC.drew)
    (first
      | (have := x2; go_at_call 32; refine (H2.out 6 _ i7).mono ?_; rintro e w9 ⟨rfl, x3⟩; replace x := Ext.trans x x3)
      | (have := x1; go_at_call 32; refine (H2.out 1 _ i6).mono ?_; rintro e w8 ⟨rfl, x2⟩; replace x := Ext.trans x x2)
      | (go_at_call 32; refine (H2.out (-4) _ i5).mono ?_; rintro e w7 ⟨rfl, x1⟩; have x := x1))
  go_wp2_with fail
  go_ret
  exact ⟨rfl, Ext.trans xw.drew x⟩
end Go.Proofs.Ytmkddcmfofabbaa
