/-
  The law WideProducts, walked.
-/
import Derived.Test.YtmkddcmfofabbaaLwInts
namespace Go.Proofs.Ytmkddcmfofabbaa
open Go Go.RowKit

theorem IsZ.alloc {w : World} {neg : Bool} {sv : Value} {n : Int} (h : IsZ w neg sv n) (o : Obj) : IsZ (w.alloc o) neg sv n := h.ext (Ext.refl w).alloc
theorem Box2.named {V w : World} {k : Nat} {u v : Value} {t : TypeId} {o : Obj} (h : Box2 w k u v t) (e : V = w.alloc o) : Box2 V k u v t := by rw [e]; exact h.alloc o
theorem IsZ.named {V w : World} {neg : Bool} {sv : Value} {n : Int} {o : Obj} (h : IsZ w neg sv n) (e : V = w.alloc o) : IsZ V neg sv n := by rw [e]; exact h.alloc o
theorem fitw_yes (na : Bool) (aa : Option Addr) (la ca : Nat) (n : Int) (w : World) (hz : IsZ w na (.slice aa la ca) n) (hI : W128 n) :
    Calls Try.prog 40 #[.agg #[.bool na, .slice aa la ca]] w (fun e w' => e = .returned (.tuple #[.agg #[.int .i64 (hi n), .int .u64 (lo n)], .bool true]) ∧ Ext w w') := by
  have := fitw_any na aa la ca n w hz (hI.bits.mono (by omega))
  unfold FitW at this
  rwa [thi_yes hI, tlo_yes hI, decide_eq_true hI] at this

set_option maxRecDepth 100000 in
set_option maxHeartbeats 1600000 in
theorem law_prods (a b n : Int) (w : World) (ha : I64 a) (hb : I64 b) (hn : W128 n) :
    Calls Try.prog 5 #[.int .i64 a, .int .i64 b, .agg #[.int .i64 (hi n), .int .u64 (lo n)]] w (fun e w' => e = .returned (.bool true) ∧ Ext w w') := by
  have H1 := Lib.hid wmul
  have H2 := Lib.hid of_any
  have H3 := Lib.hid mul_z
  have H4 := Lib.hid fitw_yes
  have H5 := Lib.hid wtimes
  have H6 := Lib.hid ofw
  have H7 := Lib.hid told_any
  have H8 := Lib.hid alive2
  have fa : Fit a := ha.bits.fit (by omega)
  have fb : Fit b := hb.bits.fit (by omega)
  have fn : Fit n := hn.bits.fit (by omega)
  have hW := mul_W ha hb
  have bM := Lib.hid ((hn.bits.mul ha.bits).mono (show 128 + 64 ≤ 1000 by omega))
  go_enter Try.func5, Try.ntmps5
  go_wp2_with fail
  have hN : Box2 (w.alloc (.cells #[.int .i64 (hi n), .int .u64 (lo n)] 26)) w.heap.size (.int .i64 (hi n)) (.int .u64 (lo n)) 26 := Box2.new rfl
  have xw : Ext w (w.alloc (.cells #[.int .i64 (hi n), .int .u64 (lo n)] 26)) := (Ext.refl w).alloc
  refine (H1.out _ _ _ ha hb).mono ?_
  rintro e w1 ⟨rfl, x1⟩
  (first | replace xw := Ext.trans xw x1 | replace xw := Ext.trans (Ext.alloc xw) x1 | replace xw := Ext.trans (Ext.drew xw) x1 | replace xw := Ext.trans (Ext.alloc (Ext.drew xw)) x1); (first | replace hN := hN.ext x1 | replace hN := (hN.alloc _).ext x1 | replace hN := hN.drew.ext x1 | replace hN := (hN.drew.alloc _).ext x1)
  have hA : Box2 (w1.alloc (.cells #[.int .i64 (hi (a * b)), .int .u64 (lo (a * b))] 26)) w1.heap.size (.int .i64 (hi (a * b))) (.int .u64 (lo (a * b))) 26 := Box2.new rfl
  replace hN := hN.alloc (.cells #[.int .i64 (hi (a * b)), .int .u64 (lo (a * b))] 26)
  go_wp2_with fail
  refine (H2.out _ _ ha.1 ha.2).mono ?_
  rintro e w2 ⟨n2, a2, l2, c2, rfl, hz2, x2⟩
  replace x2 : Ext _ w2 := x2
  (first | replace xw := Ext.trans xw x2 | replace xw := Ext.trans (Ext.alloc xw) x2 | replace xw := Ext.trans (Ext.drew xw) x2 | replace xw := Ext.trans (Ext.alloc (Ext.drew xw)) x2); (first | replace hN := hN.ext x2 | replace hN := (hN.alloc _).ext x2 | replace hN := hN.drew.ext x2 | replace hN := (hN.drew.alloc _).ext x2); (first | replace hA := hA.ext x2 | replace hA := (hA.alloc _).ext x2 | replace hA := hA.drew.ext x2 | replace hA := (hA.drew.alloc _).ext x2)
  go_wp2_with fail
  refine (H2.out _ _ hb.1 hb.2).mono ?_
  rintro e w3 ⟨n3, a3, l3, c3, rfl, hz3, x3⟩
  replace x3 : Ext _ w3 := x3
  (first | replace xw := Ext.trans xw x3 | replace xw := Ext.trans (Ext.alloc xw) x3 | replace xw := Ext.trans (Ext.drew xw) x3 | replace xw := Ext.trans (Ext.alloc (Ext.drew xw)) x3); (first | replace hN := hN.ext x3 | replace hN := (hN.alloc _).ext x3 | replace hN := hN.drew.ext x3 | replace hN := (hN.drew.alloc _).ext x3); (first | replace hA := hA.ext x3 | replace hA := (hA.alloc _).ext x3 | replace hA := hA.drew.ext x3 | replace hA := (hA.drew.alloc _).ext x3); (first | replace hz2 := hz2.ext x3 | replace hz2 := (hz2.alloc _).ext x3 | replace hz2 := hz2.drew.ext x3 | replace hz2 := (hz2.drew.alloc _).ext x3)
  go_wp2_with fail
  refine (H3.out _ _ _ _ _ _ _ _ a b _ hz2 hz3 fa fb).mono ?_
  rintro e w4 ⟨n4, a4, l4, c4, rfl, hz4, x4⟩
  replace x4 : Ext _ w4 := x4
  (first | replace xw := Ext.trans xw x4 | replace xw := Ext.trans (Ext.alloc xw) x4 | replace xw := Ext.trans (Ext.drew xw) x4 | replace xw := Ext.trans (Ext.alloc (Ext.drew xw)) x4); (first | replace hN := hN.ext x4 | replace hN := (hN.alloc _).ext x4 | replace hN := hN.drew.ext x4 | replace hN := (hN.drew.alloc _).ext x4); (first | replace hA := hA.ext x4 | replace hA := (hA.alloc _).ext x4 | replace hA := hA.drew.ext x4 | replace hA := (hA.drew.alloc _).ext x4)
  clear hz2 hz3
  go_wp2_with fail
  refine (H4.out _ _ _ _ (a * b) _ hz4 hW).mono ?_
  rintro e w5 ⟨rfl, x5⟩
  (first | replace xw := Ext.trans xw x5 | replace xw := Ext.trans (Ext.alloc xw) x5 | replace xw := Ext.trans (Ext.drew xw) x5 | replace xw := Ext.trans (Ext.alloc (Ext.drew xw)) x5); (first | replace hN := hN.ext x5 | replace hN := (hN.alloc _).ext x5 | replace hN := hN.drew.ext x5 | replace hN := (hN.drew.alloc _).ext x5); (first | replace hA := hA.ext x5 | replace hA := (hA.alloc _).ext x5 | replace hA := hA.drew.ext x5 | replace hA := (hA.drew.alloc _).ext x5)
  clear hz4
  have hB : Box2 (w5.alloc (.cells #[.int .i64 (hi (a * b)), .int .u64 (lo (a * b))] 26)) w5.heap.size (.int .i64 (hi (a * b))) (.int .u64 (lo (a * b))) 26 := Box2.new rfl
  replace hN := hN.alloc (.cells #[.int .i64 (hi (a * b)), .int .u64 (lo (a * b))] 26)
  replace hA := hA.alloc (.cells #[.int .i64 (hi (a * b)), .int .u64 (lo (a * b))] 26)
  have hN_0 := hN.c0; have hN_1 := hN.c1
  go_wp2_with fail
  refine (H5.out _ _ _ hn ha).mono ?_
  rintro e w6 ⟨rfl, x6⟩
  clear hN_0 hN_1
  (first | replace xw := Ext.trans xw x6 | replace xw := Ext.trans (Ext.alloc xw) x6 | replace xw := Ext.trans (Ext.drew xw) x6 | replace xw := Ext.trans (Ext.alloc (Ext.drew xw)) x6); (first | replace hN := hN.ext x6 | replace hN := (hN.alloc _).ext x6 | replace hN := hN.drew.ext x6 | replace hN := (hN.drew.alloc _).ext x6); (first | replace hA := hA.ext x6 | replace hA := (hA.alloc _).ext x6 | replace hA := hA.drew.ext x6 | replace hA := (hA.drew.alloc _).ext x6); (first | replace hB := hB.ext x6 | replace hB := (hB.alloc _).ext x6 | replace hB := hB.drew.ext x6 | replace hB := (hB.drew.alloc _).ext x6)
  have hC : Box2 (w6.alloc (.cells #[.int .i64 (thi (n * a)), .int .u64 (tlo (n * a))] 26)) w6.heap.size (.int .i64 (thi (n * a))) (.int .u64 (tlo (n * a))) 26 := Box2.new rfl
  replace hN := hN.alloc (.cells #[.int .i64 (thi (n * a)), .int .u64 (tlo (n * a))] 26)
  replace hA := hA.alloc (.cells #[.int .i64 (thi (n * a)), .int .u64 (tlo (n * a))] 26)
  replace hB := hB.alloc (.cells #[.int .i64 (thi (n * a)), .int .u64 (tlo (n * a))] 26)
  have hN_0 := hN.c0; have hN_1 := hN.c1
  go_wp2_with fail
  refine (H6.out _ _ hn).mono ?_
  rintro e w7 ⟨n7, a7, l7, c7, rfl, hz7, x7⟩
  replace x7 : Ext _ w7 := x7
  clear hN_0 hN_1
  (first | replace xw := Ext.trans xw x7 | replace xw := Ext.trans (Ext.alloc xw) x7 | replace xw := Ext.trans (Ext.drew xw) x7 | replace xw := Ext.trans (Ext.alloc (Ext.drew xw)) x7); (first | replace hA := hA.ext x7 | replace hA := (hA.alloc _).ext x7 | replace hA := hA.drew.ext x7 | replace hA := (hA.drew.alloc _).ext x7); (first | replace hB := hB.ext x7 | replace hB := (hB.alloc _).ext x7 | replace hB := hB.drew.ext x7 | replace hB := (hB.drew.alloc _).ext x7); (first | replace hC := hC.ext x7 | replace hC := (hC.alloc _).ext x7 | replace hC := hC.drew.ext x7 | replace hC := (hC.drew.alloc _).ext x7)
  go_wp2_with fail
  refine (H2.out _ _ ha.1 ha.2).mono ?_
  rintro e w8 ⟨n8, a8, l8, c8, rfl, hz8, x8⟩
  replace x8 : Ext _ w8 := x8
  (first | replace xw := Ext.trans xw x8 | replace xw := Ext.trans (Ext.alloc xw) x8 | replace xw := Ext.trans (Ext.drew xw) x8 | replace xw := Ext.trans (Ext.alloc (Ext.drew xw)) x8); (first | replace hA := hA.ext x8 | replace hA := (hA.alloc _).ext x8 | replace hA := hA.drew.ext x8 | replace hA := (hA.drew.alloc _).ext x8); (first | replace hB := hB.ext x8 | replace hB := (hB.alloc _).ext x8 | replace hB := hB.drew.ext x8 | replace hB := (hB.drew.alloc _).ext x8); (first | replace hC := hC.ext x8 | replace hC := (hC.alloc _).ext x8 | replace hC := hC.drew.ext x8 | replace hC := (hC.drew.alloc _).ext x8); (first | replace hz7 := hz7.ext x8 | replace hz7 := (hz7.alloc _).ext x8 | replace hz7 := hz7.drew.ext x8 | replace hz7 := (hz7.drew.alloc _).ext x8)
  go_wp2_with fail
  refine (H3.out _ _ _ _ _ _ _ _ n a _ hz7 hz8 fn fa).mono ?_
  rintro e w9 ⟨n9, a9, l9, c9, rfl, hz9, x9⟩
  replace x9 : Ext _ w9 := x9
  (first | replace xw := Ext.trans xw x9 | replace xw := Ext.trans (Ext.alloc xw) x9 | replace xw := Ext.trans (Ext.drew xw) x9 | replace xw := Ext.trans (Ext.alloc (Ext.drew xw)) x9); (first | replace hA := hA.ext x9 | replace hA := (hA.alloc _).ext x9 | replace hA := hA.drew.ext x9 | replace hA := (hA.drew.alloc _).ext x9); (first | replace hB := hB.ext x9 | replace hB := (hB.alloc _).ext x9 | replace hB := hB.drew.ext x9 | replace hB := (hB.drew.alloc _).ext x9); (first | replace hC := hC.ext x9 | replace hC := (hC.alloc _).ext x9 | replace hC := hC.drew.ext x9 | replace hC := (hC.drew.alloc _).ext x9)
  clear hz7 hz8
  go_wp2_with fail
  refine (H7.out _ _ _ _ (n * a) _ hz9 bM.out).mono ?_
  rintro e w10 ⟨rfl, x10⟩
  (first | replace xw := Ext.trans xw x10 | replace xw := Ext.trans (Ext.alloc xw) x10 | replace xw := Ext.trans (Ext.drew xw) x10 | replace xw := Ext.trans (Ext.alloc (Ext.drew xw)) x10); (first | replace hA := hA.ext x10 | replace hA := (hA.alloc _).ext x10 | replace hA := hA.drew.ext x10 | replace hA := (hA.drew.alloc _).ext x10); (first | replace hB := hB.ext x10 | replace hB := (hB.alloc _).ext x10 | replace hB := hB.drew.ext x10 | replace hB := (hB.drew.alloc _).ext x10); (first | replace hC := hC.ext x10 | replace hC := (hC.alloc _).ext x10 | replace hC := hC.drew.ext x10 | replace hC := (hC.drew.alloc _).ext x10)
  have hD : Box2 (w10.alloc (.cells #[.int .i64 (thi (n * a)), .int .u64 (tlo (n * a))] 26)) w10.heap.size (.int .i64 (thi (n * a))) (.int .u64 (tlo (n * a))) 26 := Box2.new rfl
  replace hA := hA.alloc (.cells #[.int .i64 (thi (n * a)), .int .u64 (tlo (n * a))] 26)
  replace hB := hB.alloc (.cells #[.int .i64 (thi (n * a)), .int .u64 (tlo (n * a))] 26)
  replace hC := hC.alloc (.cells #[.int .i64 (thi (n * a)), .int .u64 (tlo (n * a))] 26)
  go_wp2_with fail
  refine (H8.out _).mono ?_
  rintro e w11 ⟨rfl, x11⟩
  (first | replace xw := Ext.trans xw x11 | replace xw := Ext.trans (Ext.alloc xw) x11 | replace xw := Ext.trans (Ext.drew xw) x11 | replace xw := Ext.trans (Ext.alloc (Ext.drew xw)) x11); (first | replace hA := hA.ext x11 | replace hA := (hA.alloc _).ext x11 | replace hA := hA.drew.ext x11 | replace hA := (hA.drew.alloc _).ext x11); (first | replace hB := hB.ext x11 | replace hB := (hB.alloc _).ext x11 | replace hB := hB.drew.ext x11 | replace hB := (hB.drew.alloc _).ext x11); (first | replace hC := hC.ext x11 | replace hC := (hC.alloc _).ext x11 | replace hC := hC.drew.ext x11 | replace hC := (hC.drew.alloc _).ext x11); (first | replace hD := hD.ext x11 | replace hD := (hD.alloc _).ext x11 | replace hD := hD.drew.ext x11 | replace hD := (hD.drew.alloc _).ext x11)
  have hA_0 := hA.c0; have hA_1 := hA.c1; have hB_0 := hB.c0; have hB_1 := hB.c1; have hC_0 := hC.c0; have hC_1 := hC.c1; have hD_0 := hD.c0; have hD_1 := hD.c1
  go_wp2_with fail
  go_ret
  exact ⟨rfl, xw⟩
end Go.Proofs.Ytmkddcmfofabbaa
