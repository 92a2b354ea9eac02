/-
  The law WideInts, walked.
-/
import Derived.Test.YtmkddcmfofabbaaLiv02
namespace Go.Proofs.Ytmkddcmfofabbaa
open Go Go.RowKit

theorem wint_any (n : Int) (w : World) : Calls Try.prog 33 #[.agg #[.int .i64 (hi n), .int .u64 (lo n)]] w (fun e w' => e = .returned (.tuple #[.int .i64 (t64 n), .bool (decide (I64 n))]) ∧ Ext w w') := wint n w

set_option maxRecDepth 100000 in
set_option maxHeartbeats 1600000 in
theorem law_ints (n a b : Int) (w : World) (hn : I64 n) (ha : W128 a) (hb : W128 b) :
    Calls Try.prog 4 #[.int .i64 n, .agg #[.int .i64 (hi a), .int .u64 (lo a)], .agg #[.int .i64 (hi b), .int .u64 (lo b)]] w (fun e w' => e = .returned (.bool true) ∧ Ext w w') := by
  have H1 := Lib.hid liv_of
  have H2 := Lib.hid wint_yes
  have H3 := Lib.hid wint_any
  have H4 := Lib.hid ofw
  have H5 := Lib.hid fits_any
  have H6 := Lib.hid alive2
  have H7 := Lib.hid wcmp
  have H8 := Lib.hid cmp_z
  have H9 := Lib.hid wsign
  have H10 := Lib.hid sign_z
  have fa : Fit a := ha.bits.fit (by omega)
  have fb : Fit b := hb.bits.fit (by omega)
  go_enter Try.func4, Try.ntmps4
  go_wp2_with fail
  obtain ⟨W, hW⟩ : ∃ W, W = (w.alloc (.cells #[.int .i64 (hi a), .int .u64 (lo a)] 26)).alloc (.cells #[.int .i64 (hi b), .int .u64 (lo b)] 26) := ⟨_, rfl⟩
  rw [← hW]
  have hA : Box2 W w.heap.size (.int .i64 (hi a)) (.int .u64 (lo a)) 26 := by rw [hW]; exact (Box2.new rfl).alloc _
  have hB : Box2 W (w.heap.size + 1) (.int .i64 (hi b)) (.int .u64 (lo b)) 26 := by rw [hW]; exact Box2.new (by simp)
  have xA : Ext w W := by rw [hW]; exact (Ext.refl w).alloc.alloc
  clear hW
  refine (H1.out _ _ hn).mono ?_
  rintro e w1 ⟨rfl, x1⟩
  go_wp2_with fail
  refine (H2.out _ _ hn).mono ?_
  rintro e w2 ⟨rfl, x2⟩
  have q := (hA.ext x1).ext x2
  have q0 := q.c0
  have q1 := q.c1
  go_wp2_with fail
  refine (H3.out _ _).mono ?_
  rintro e w3 ⟨rfl, x3⟩
  clear q0 q1
  replace q := q.ext x3
  have q0 := q.c0
  have q1 := q.c1
  go_wp2_with fail
  refine (H4.out _ _ ha).mono ?_
  rintro e w4 ⟨n4, a4, l4, c4, rfl, hz4, hb4⟩
  have x4 : Ext _ w4 := hb4
  clear q0 q1
  go_wp2_with fail
  refine (H5.out _ _ _ _ a _ hz4 (ha.bits.mono (by omega))).mono ?_
  rintro e w5 ⟨rfl, x5⟩
  have hA5 := (q.ext x4).ext x5
  have hB5 := ((((hB.ext x1).ext x2).ext x3).ext x4).ext x5
  have xW : Ext w w5 := Ext.trans (Ext.trans (Ext.trans (Ext.trans (Ext.trans xA x1) x2) x3) x4) x5
  clear q hA hB x1 x2 x3 x4 x5 hb4 hz4 xA
  go_wp2_with fail
  go_region_held3 (fun w' => w'.cell? ⟨w.heap.size, 0, none⟩ = some (.int .i64 (hi a)) ∧ w'.cell? ⟨w.heap.size, 1, none⟩ = some (.int .u64 (lo a)) ∧ w'.cell? ⟨w.heap.size + 1, 0, none⟩ = some (.int .i64 (hi b)) ∧ w'.cell? ⟨w.heap.size + 1, 1, none⟩ = some (.int .u64 (lo b)))
    (first
      | exact s2 ((hA5.drew.ext x)) ((hB5.drew.ext x))
      | exact s2 hA5.drew hB5.drew)
    (first
      | (go_at_call 31; refine (H6.out _).mono ?_; rintro e w1 ⟨rfl, x1⟩; have x := x1)
      | (go_at_call 36; refine (H7.out _ _ _).mono ?_; rintro e w2 ⟨rfl, x2⟩; replace x := Ext.trans x x2)
      | (have := x3; go_at_call 35; refine (H4.out _ _ hb).mono ?_; rintro e w4 ⟨n4, a4, l4, c4, rfl, hz4, hb4⟩; have x4 : Ext _ w4 := hb4; replace x := Ext.trans x x4)
      | (have := x6; go_at_call 35; refine (H4.out _ _ ha).mono ?_; rintro e w7 ⟨n7, a7, l7, c7, rfl, hz7, hb7⟩; have x7 : Ext _ w7 := hb7; replace x := Ext.trans x x7)
      | (go_at_call 35; refine (H4.out _ _ ha).mono ?_; rintro e w3 ⟨n3, a3, l3, c3, rfl, hz3, hb3⟩; have x3 : Ext _ w3 := hb3; replace x := Ext.trans x x3)
      | (go_at_call 37; refine (H8.out _ _ _ _ _ _ _ _ a b _ (hz3.ext x4) hz4 fa fb).mono ?_; rintro e w5 ⟨rfl, hb5⟩; have x5 : Ext _ w5 := hb5; replace x := Ext.trans x x5)
      | (go_at_call 38; refine (H9.out _ _).mono ?_; rintro e w6 ⟨rfl, x6⟩; clear x3; replace x := Ext.trans x x6)
      | (go_at_call 39; refine (H10.out _ _ _ _ a _ hz7 fa).mono ?_; rintro e w8 ⟨rfl, hb8⟩; have x8 : Ext _ w8 := hb8; replace x := Ext.trans x x8))
  go_wp2_with fail
  go_ret
  exact ⟨rfl, Ext.trans xW.drew x⟩
end Go.Proofs.Ytmkddcmfofabbaa
