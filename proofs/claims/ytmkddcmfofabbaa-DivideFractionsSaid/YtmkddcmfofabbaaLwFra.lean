/-
  The law DivideFractions, walked.
-/
import Derived.Test.YtmkddcmfofabbaaZfr
import Derived.Test.YtmkddcmfofabbaaGf
set_option linter.unusedSimpArgs false
set_option linter.unusedVariables false
namespace Go.Proofs.Ytmkddcmfofabbaa
open Go Go.RowKit

set_option maxRecDepth 100000 in
set_option maxHeartbeats 3200000 in
theorem law_fractions (n d : Int) (w : World) (hn : W128 n) (hd : W128 d) :
    Calls Try.prog 15 #[.agg #[.int .i64 (hi n), .int .u64 (lo n)], .agg #[.int .i64 (hi d), .int .u64 (lo d)]] w (fun e w' => e = .returned (.bool true) ∧ Ext w w') := by
  have HD := Lib.hid dfrac_any
  have HZ := Lib.hid zfrac_any
  have HAl := Lib.hid alive3
  obtain ⟨A0, g0⟩ : ∃ x, fv n d (hi (frP n d)) = x := ⟨_, rfl⟩
  have G0 := Lib.hid g0
  clear g0
  obtain ⟨A1, g1⟩ : ∃ x, fv n d (lo (frP n d)) = x := ⟨_, rfl⟩
  have G1 := Lib.hid g1
  clear g1
  obtain ⟨A2, g2⟩ : ∃ x, fv n d (hi (frQ n d)) = x := ⟨_, rfl⟩
  have G2 := Lib.hid g2
  clear g2
  obtain ⟨A3, g3⟩ : ∃ x, fv n d (lo (frQ n d)) = x := ⟨_, rfl⟩
  have G3 := Lib.hid g3
  clear g3
  obtain ⟨A4, g4⟩ : ∃ x, fe n d = x := ⟨_, rfl⟩
  have G4 := Lib.hid g4
  clear g4
  go_enter Try.func15, Try.ntmps15
  go_upto_region 1 with fail
  have xw := Ext.refl w
  refine wp_name ?_
  intro V1 hV
  replace xw : Ext w V1 := by rw [hV]; exact Ext.alloc (Ext.alloc (xw))
  have b2 : Box2 V1 w.heap.size (.int .i64 (hi n)) (.int .u64 (lo n)) 26 := by rw [hV]; exact (Box2.new rfl).alloc _
  have b3 : Box2 V1 (w.heap.size + 1) (.int .i64 (hi d)) (.int .u64 (lo d)) 26 := by rw [hV]; exact Box2.new (by simp)
  clear hV
  have b2_c0 := b2.c0
  have b2_c1 := b2.c1
  have b3_c0 := b3.c0
  have b3_c1 := b3.c1
  go_wp2_with fail
  refine (HD.out n d _ hn hd).mono ?_
  rintro e w2 ⟨rfl, x2⟩
  rw [G0.out, G1.out, G2.out, G3.out, G4.out]
  clear b2_c0 b2_c1 b3_c0 b3_c1
  replace b2 := b2.ext x2
  replace b3 := b3.ext x2
  replace xw := Ext.trans xw x2
  go_upto_region 2 with fail
  have o4 := b2.kind.lt
  have o5 := b3.kind.lt
  have o6 := xw.size
  refine wp_name ?_
  intro V3 hV
  have b2N : Box2 V3 w.heap.size (.int .i64 (hi n)) (.int .u64 (lo n)) 26 := by rw [hV]; exact ((b2).alloc _).alloc _
  have b3N : Box2 V3 (w.heap.size + 1) (.int .i64 (hi d)) (.int .u64 (lo d)) 26 := by rw [hV]; exact ((b3).alloc _).alloc _
  replace xw : Ext w V3 := by rw [hV]; exact Ext.alloc (Ext.alloc (xw))
  replace b2 := b2N; clear b2N
  replace b3 := b3N; clear b3N
  have b5 : Box2 V3 w2.heap.size (.int .i64 A0) (.int .u64 A1) 26 := by rw [hV]; exact (Box2.new rfl).alloc _
  have b6 : Box2 V3 (w2.heap.size + 1) (.int .i64 A2) (.int .u64 A3) 26 := by rw [hV]; exact Box2.new (by simp)
  clear hV
  have b2_c0 := b2.c0
  have b2_c1 := b2.c1
  have b3_c0 := b3.c0
  have b3_c1 := b3.c1
  go_wp2_with fail
  refine (HZ.out n d _ hn hd).mono ?_
  rintro e w7 ⟨rfl, x7⟩
  rw [G0.out, G1.out, G2.out, G3.out, G4.out]
  clear b2_c0 b2_c1 b3_c0 b3_c1
  replace b2 := b2.ext x7
  replace b3 := b3.ext x7
  replace b5 := b5.ext x7
  replace b6 := b6.ext x7
  replace xw := Ext.trans xw x7
  go_upto_region 3 with fail
  have o9 := b5.kind.lt
  have o10 := b6.kind.lt
  have o11 := xw.size
  refine wp_name ?_
  intro V8 hV
  have b2N : Box2 V8 w.heap.size (.int .i64 (hi n)) (.int .u64 (lo n)) 26 := by rw [hV]; exact ((b2).alloc _).alloc _
  have b3N : Box2 V8 (w.heap.size + 1) (.int .i64 (hi d)) (.int .u64 (lo d)) 26 := by rw [hV]; exact ((b3).alloc _).alloc _
  have b5N : Box2 V8 w2.heap.size (.int .i64 A0) (.int .u64 A1) 26 := by rw [hV]; exact ((b5).alloc _).alloc _
  have b6N : Box2 V8 (w2.heap.size + 1) (.int .i64 A2) (.int .u64 A3) 26 := by rw [hV]; exact ((b6).alloc _).alloc _
  replace xw : Ext w V8 := by rw [hV]; exact Ext.alloc (Ext.alloc (xw))
  replace b2 := b2N; clear b2N
  replace b3 := b3N; clear b3N
  replace b5 := b5N; clear b5N
  replace b6 := b6N; clear b6N
  have b8 : Box2 V8 w7.heap.size (.int .i64 A0) (.int .u64 A1) 26 := by rw [hV]; exact (Box2.new rfl).alloc _
  have b9 : Box2 V8 (w7.heap.size + 1) (.int .i64 A2) (.int .u64 A3) 26 := by rw [hV]; exact Box2.new (by simp)
  clear hV
  go_wp2_with fail
  refine (HAl.out _).mono ?_
  rintro e w12 ⟨rfl, x12⟩
  replace b2 := b2.ext x12
  replace b3 := b3.ext x12
  replace b5 := b5.ext x12
  replace b6 := b6.ext x12
  replace b8 := b8.ext x12
  replace b9 := b9.ext x12
  replace xw := Ext.trans xw x12
  have b5_c0 := b5.c0
  have b5_c1 := b5.c1
  have b8_c0 := b8.c0
  have b8_c1 := b8.c1
  have b6_c0 := b6.c0
  have b6_c1 := b6.c1
  have b9_c0 := b9.c0
  have b9_c1 := b9.c1
  have xr := xw
  go_wp2_with fail
  refine bodyPost_ret (v := .bool true) (by simp [results, Try.results15, go_sem]) rfl ⟨rfl, xr⟩
end Go.Proofs.Ytmkddcmfofabbaa
