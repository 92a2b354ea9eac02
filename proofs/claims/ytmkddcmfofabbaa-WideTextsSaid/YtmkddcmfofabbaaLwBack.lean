/-
  The law WideBack, walked.
-/
import Derived.Test.YtmkddcmfofabbaaParse
import Derived.Test.YtmkddcmfofabbaaLwProds
namespace Go.Proofs.Ytmkddcmfofabbaa
open Go Go.RowKit

theorem parse_txt (n : Int) (w : World) (hn : W128 n) :
    Calls Try.prog 53 #[.string (strOfNums (txt n))] w (fun e w' => e = .returned (.tuple #[.agg #[.int .i64 (hi n), .int .u64 (lo n)], .int .i64 0]) ∧ Ext w w') :=
  (wparse (txt n) w (txt_byte n) (by have := txt_len hn; omega)).mono fun _ _ h => ⟨h.1 n hn rfl, h.2.2⟩

set_option maxRecDepth 100000 in
set_option maxHeartbeats 1600000 in
theorem law_back (a b : Int) (w : World) (ha : W128 a) (hb : W128 b) :
    Calls Try.prog 12 #[.agg #[.int .i64 (hi a), .int .u64 (lo a)], .agg #[.int .i64 (hi b), .int .u64 (lo b)]] w (fun e w' => e = .returned (.bool true) ∧ Ext w w') := by
  have H1 := Lib.hid wtext
  have H2 := Lib.hid parse_txt
  have H3 := Lib.hid alive2
  have H4 := Lib.hid wadd
  have H5 := Lib.hid wsub
  have hc := Lib.hid (Int.add_comm b a)
  have hd := Lib.hid (show a + b - b = a by omega)
  by_cases hs : W128 (a + b)
  · go_enter Try.func12, Try.ntmps12
    go_wp2_with fail
    obtain ⟨W, hW⟩ : ∃ W, W = (w.alloc (.cells #[.int .i64 (hi a), .int .u64 (lo a)] 26)).alloc (.cells #[.int .i64 (hi b), .int .u64 (lo b)] 26) := ⟨_, rfl⟩
    rw [← hW]
    have hA : Box2 W w.heap.size (.int .i64 (hi a)) (.int .u64 (lo a)) 26 := by rw [hW]; exact (Box2.new rfl).alloc _
    have hB : Box2 W (w.heap.size + 1) (.int .i64 (hi b)) (.int .u64 (lo b)) 26 := by rw [hW]; exact Box2.new (by simp)
    have xw : Ext w W := by rw [hW]; exact (Ext.refl w).alloc.alloc
    clear hW
    refine (H1.out _ _ ha).mono ?_
    rintro e w1 ⟨rfl, x1⟩
    (first | replace xw := Ext.trans xw x1 | replace xw := Ext.trans (Ext.alloc xw) x1 | replace xw := Ext.trans (Ext.drew xw) x1 | replace xw := Ext.trans (Ext.alloc (Ext.drew xw)) x1); (first | replace hA := hA.ext x1 | replace hA := (hA.alloc _).ext x1 | replace hA := hA.drew.ext x1 | replace hA := (hA.drew.alloc _).ext x1); (first | replace hB := hB.ext x1 | replace hB := (hB.alloc _).ext x1 | replace hB := hB.drew.ext x1 | replace hB := (hB.drew.alloc _).ext x1)
    go_wp2_with fail
    refine (H2.out _ _ ha).mono ?_
    rintro e w2 ⟨rfl, x2⟩
    (first | replace xw := Ext.trans xw x2 | replace xw := Ext.trans (Ext.alloc xw) x2 | replace xw := Ext.trans (Ext.drew xw) x2 | replace xw := Ext.trans (Ext.alloc (Ext.drew xw)) x2); (first | replace hA := hA.ext x2 | replace hA := (hA.alloc _).ext x2 | replace hA := hA.drew.ext x2 | replace hA := (hA.drew.alloc _).ext x2); (first | replace hB := hB.ext x2 | replace hB := (hB.alloc _).ext x2 | replace hB := hB.drew.ext x2 | replace hB := (hB.drew.alloc _).ext x2)
    have hC : Box2 (w2.alloc (.cells #[.int .i64 (hi a), .int .u64 (lo a)] 26)) w2.heap.size (.int .i64 (hi a)) (.int .u64 (lo a)) 26 := Box2.new rfl
    replace hA := hA.alloc (.cells #[.int .i64 (hi a), .int .u64 (lo a)] 26)
    replace hB := hB.alloc (.cells #[.int .i64 (hi a), .int .u64 (lo a)] 26)
    have hA_0 := hA.c0; have hA_1 := hA.c1; have hC_0 := hC.c0; have hC_1 := hC.c1
    go_wp2_with fail
    clear hA_0 hA_1 hC_0 hC_1
    refine (H3.out _).mono ?_
    rintro e w3 ⟨rfl, x3⟩
    (first | replace xw := Ext.trans xw x3 | replace xw := Ext.trans (Ext.alloc xw) x3 | replace xw := Ext.trans (Ext.drew xw) x3 | replace xw := Ext.trans (Ext.alloc (Ext.drew xw)) x3); (first | replace hA := hA.ext x3 | replace hA := (hA.alloc _).ext x3 | replace hA := hA.drew.ext x3 | replace hA := (hA.drew.alloc _).ext x3); (first | replace hB := hB.ext x3 | replace hB := (hB.alloc _).ext x3 | replace hB := hB.drew.ext x3 | replace hB := (hB.drew.alloc _).ext x3)
    clear hC
    have hA_0 := hA.c0; have hA_1 := hA.c1; have hB_0 := hB.c0; have hB_1 := hB.c1
    go_wp2_with fail
    refine (H4.out _ _ _ ha hb).mono ?_
    rintro e w4 ⟨rfl, x4⟩
    clear hA_0 hA_1 hB_0 hB_1
    (first | replace xw := Ext.trans xw x4 | replace xw := Ext.trans (Ext.alloc xw) x4 | replace xw := Ext.trans (Ext.drew xw) x4 | replace xw := Ext.trans (Ext.alloc (Ext.drew xw)) x4); (first | replace hA := hA.ext x4 | replace hA := (hA.alloc _).ext x4 | replace hA := hA.drew.ext x4 | replace hA := (hA.drew.alloc _).ext x4); (first | replace hB := hB.ext x4 | replace hB := (hB.alloc _).ext x4 | replace hB := hB.drew.ext x4 | replace hB := (hB.drew.alloc _).ext x4)
    rw [thi_yes hs, tlo_yes hs, ter_yes hs]
    have hD : Box2 (w4.alloc (.cells #[.int .i64 (hi (a + b)), .int .u64 (lo (a + b))] 26)) w4.heap.size (.int .i64 (hi (a + b))) (.int .u64 (lo (a + b))) 26 := Box2.new rfl
    replace hA := hA.alloc (.cells #[.int .i64 (hi (a + b)), .int .u64 (lo (a + b))] 26)
    replace hB := hB.alloc (.cells #[.int .i64 (hi (a + b)), .int .u64 (lo (a + b))] 26)
    have hA_0 := hA.c0; have hA_1 := hA.c1; have hB_0 := hB.c0; have hB_1 := hB.c1
    go_wp2_with fail
    refine (H4.out _ _ _ hb ha).mono ?_
    rw [hc.out]
    rintro e w5 ⟨rfl, x5⟩
    clear hA_0 hA_1 hB_0 hB_1
    (first | replace xw := Ext.trans xw x5 | replace xw := Ext.trans (Ext.alloc xw) x5 | replace xw := Ext.trans (Ext.drew xw) x5 | replace xw := Ext.trans (Ext.alloc (Ext.drew xw)) x5); (first | replace hA := hA.ext x5 | replace hA := (hA.alloc _).ext x5 | replace hA := hA.drew.ext x5 | replace hA := (hA.drew.alloc _).ext x5); (first | replace hB := hB.ext x5 | replace hB := (hB.alloc _).ext x5 | replace hB := hB.drew.ext x5 | replace hB := (hB.drew.alloc _).ext x5); (first | replace hD := hD.ext x5 | replace hD := (hD.alloc _).ext x5 | replace hD := hD.drew.ext x5 | replace hD := (hD.drew.alloc _).ext x5)
    rw [thi_yes hs, tlo_yes hs, ter_yes hs]
    replace hA := hA.alloc (.cells #[.int .i64 (hi (a + b)), .int .u64 (lo (a + b))] 26)
    replace hB := hB.alloc (.cells #[.int .i64 (hi (a + b)), .int .u64 (lo (a + b))] 26)
    replace hD := hD.alloc (.cells #[.int .i64 (hi (a + b)), .int .u64 (lo (a + b))] 26)
    have hE : Box2 (w5.alloc (.cells #[.int .i64 (hi (a + b)), .int .u64 (lo (a + b))] 26)) w5.heap.size (.int .i64 (hi (a + b))) (.int .u64 (lo (a + b))) 26 := Box2.new rfl
    have hB_0 := hB.c0; have hB_1 := hB.c1; have hD_0 := hD.c0; have hD_1 := hD.c1; have hE_0 := hE.c0; have hE_1 := hE.c1
    go_wp2_with fail
    refine (H5.out _ _ _ hs hb).mono ?_
    rw [hd.out]
    rintro e w6 ⟨rfl, x6⟩
    rw [thi_yes ha, tlo_yes ha, ter_yes ha]
    clear hB_0 hB_1 hD_0 hD_1 hE_0 hE_1
    clear hB hD hE
    (first | replace xw := Ext.trans xw x6 | replace xw := Ext.trans (Ext.alloc xw) x6 | replace xw := Ext.trans (Ext.drew xw) x6 | replace xw := Ext.trans (Ext.alloc (Ext.drew xw)) x6); (first | replace hA := hA.ext x6 | replace hA := (hA.alloc _).ext x6 | replace hA := hA.drew.ext x6 | replace hA := (hA.drew.alloc _).ext x6)
    replace hA := hA.alloc (.cells #[.int .i64 (hi a), .int .u64 (lo a)] 26)
    have hA_0 := hA.c0; have hA_1 := hA.c1
    go_wp2_with fail
    go_ret
    exact ⟨rfl, Ext.alloc xw⟩
  · go_enter Try.func12, Try.ntmps12
    go_wp2_with fail
    obtain ⟨W, hW⟩ : ∃ W, W = (w.alloc (.cells #[.int .i64 (hi a), .int .u64 (lo a)] 26)).alloc (.cells #[.int .i64 (hi b), .int .u64 (lo b)] 26) := ⟨_, rfl⟩
    rw [← hW]
    have hA : Box2 W w.heap.size (.int .i64 (hi a)) (.int .u64 (lo a)) 26 := by rw [hW]; exact (Box2.new rfl).alloc _
    have hB : Box2 W (w.heap.size + 1) (.int .i64 (hi b)) (.int .u64 (lo b)) 26 := by rw [hW]; exact Box2.new (by simp)
    have xw : Ext w W := by rw [hW]; exact (Ext.refl w).alloc.alloc
    clear hW
    refine (H1.out _ _ ha).mono ?_
    rintro e w1 ⟨rfl, x1⟩
    (first | replace xw := Ext.trans xw x1 | replace xw := Ext.trans (Ext.alloc xw) x1 | replace xw := Ext.trans (Ext.drew xw) x1 | replace xw := Ext.trans (Ext.alloc (Ext.drew xw)) x1); (first | replace hA := hA.ext x1 | replace hA := (hA.alloc _).ext x1 | replace hA := hA.drew.ext x1 | replace hA := (hA.drew.alloc _).ext x1); (first | replace hB := hB.ext x1 | replace hB := (hB.alloc _).ext x1 | replace hB := hB.drew.ext x1 | replace hB := (hB.drew.alloc _).ext x1)
    go_wp2_with fail
    refine (H2.out _ _ ha).mono ?_
    rintro e w2 ⟨rfl, x2⟩
    (first | replace xw := Ext.trans xw x2 | replace xw := Ext.trans (Ext.alloc xw) x2 | replace xw := Ext.trans (Ext.drew xw) x2 | replace xw := Ext.trans (Ext.alloc (Ext.drew xw)) x2); (first | replace hA := hA.ext x2 | replace hA := (hA.alloc _).ext x2 | replace hA := hA.drew.ext x2 | replace hA := (hA.drew.alloc _).ext x2); (first | replace hB := hB.ext x2 | replace hB := (hB.alloc _).ext x2 | replace hB := hB.drew.ext x2 | replace hB := (hB.drew.alloc _).ext x2)
    have hC : Box2 (w2.alloc (.cells #[.int .i64 (hi a), .int .u64 (lo a)] 26)) w2.heap.size (.int .i64 (hi a)) (.int .u64 (lo a)) 26 := Box2.new rfl
    replace hA := hA.alloc (.cells #[.int .i64 (hi a), .int .u64 (lo a)] 26)
    replace hB := hB.alloc (.cells #[.int .i64 (hi a), .int .u64 (lo a)] 26)
    have hA_0 := hA.c0; have hA_1 := hA.c1; have hC_0 := hC.c0; have hC_1 := hC.c1
    go_wp2_with fail
    clear hA_0 hA_1 hC_0 hC_1
    refine (H3.out _).mono ?_
    rintro e w3 ⟨rfl, x3⟩
    (first | replace xw := Ext.trans xw x3 | replace xw := Ext.trans (Ext.alloc xw) x3 | replace xw := Ext.trans (Ext.drew xw) x3 | replace xw := Ext.trans (Ext.alloc (Ext.drew xw)) x3); (first | replace hA := hA.ext x3 | replace hA := (hA.alloc _).ext x3 | replace hA := hA.drew.ext x3 | replace hA := (hA.drew.alloc _).ext x3); (first | replace hB := hB.ext x3 | replace hB := (hB.alloc _).ext x3 | replace hB := hB.drew.ext x3 | replace hB := (hB.drew.alloc _).ext x3)
    clear hC
    have hA_0 := hA.c0; have hA_1 := hA.c1; have hB_0 := hB.c0; have hB_1 := hB.c1
    go_wp2_with fail
    refine (H4.out _ _ _ ha hb).mono ?_
    rintro e w4 ⟨rfl, x4⟩
    clear hA_0 hA_1 hB_0 hB_1
    (first | replace xw := Ext.trans xw x4 | replace xw := Ext.trans (Ext.alloc xw) x4 | replace xw := Ext.trans (Ext.drew xw) x4 | replace xw := Ext.trans (Ext.alloc (Ext.drew xw)) x4); (first | replace hA := hA.ext x4 | replace hA := (hA.alloc _).ext x4 | replace hA := hA.drew.ext x4 | replace hA := (hA.drew.alloc _).ext x4); (first | replace hB := hB.ext x4 | replace hB := (hB.alloc _).ext x4 | replace hB := hB.drew.ext x4 | replace hB := (hB.drew.alloc _).ext x4)
    rw [thi_no hs, tlo_no hs, ter_no hs]
    have hD : Box2 (w4.alloc (.cells #[.int .i64 (0), .int .u64 (0)] 26)) w4.heap.size (.int .i64 (0)) (.int .u64 (0)) 26 := Box2.new rfl
    replace hA := hA.alloc (.cells #[.int .i64 (0), .int .u64 (0)] 26)
    replace hB := hB.alloc (.cells #[.int .i64 (0), .int .u64 (0)] 26)
    have hA_0 := hA.c0; have hA_1 := hA.c1; have hB_0 := hB.c0; have hB_1 := hB.c1
    go_wp2_with fail
    refine (H4.out _ _ _ hb ha).mono ?_
    rw [hc.out]
    rintro e w5 ⟨rfl, x5⟩
    clear hA_0 hA_1 hB_0 hB_1
    (first | replace xw := Ext.trans xw x5 | replace xw := Ext.trans (Ext.alloc xw) x5 | replace xw := Ext.trans (Ext.drew xw) x5 | replace xw := Ext.trans (Ext.alloc (Ext.drew xw)) x5); (first | replace hA := hA.ext x5 | replace hA := (hA.alloc _).ext x5 | replace hA := hA.drew.ext x5 | replace hA := (hA.drew.alloc _).ext x5); (first | replace hB := hB.ext x5 | replace hB := (hB.alloc _).ext x5 | replace hB := hB.drew.ext x5 | replace hB := (hB.drew.alloc _).ext x5); (first | replace hD := hD.ext x5 | replace hD := (hD.alloc _).ext x5 | replace hD := hD.drew.ext x5 | replace hD := (hD.drew.alloc _).ext x5)
    rw [thi_no hs, tlo_no hs, ter_no hs]
    replace hA := hA.alloc (.cells #[.int .i64 (0), .int .u64 (0)] 26)
    replace hB := hB.alloc (.cells #[.int .i64 (0), .int .u64 (0)] 26)
    replace hD := hD.alloc (.cells #[.int .i64 (0), .int .u64 (0)] 26)
    have hE : Box2 (w5.alloc (.cells #[.int .i64 (0), .int .u64 (0)] 26)) w5.heap.size (.int .i64 (0)) (.int .u64 (0)) 26 := Box2.new rfl
    have hB_0 := hB.c0; have hB_1 := hB.c1; have hD_0 := hD.c0; have hD_1 := hD.c1; have hE_0 := hE.c0; have hE_1 := hE.c1
    go_wp2_with fail
    go_ret
    exact ⟨rfl, Ext.alloc xw⟩
end Go.Proofs.Ytmkddcmfofabbaa
