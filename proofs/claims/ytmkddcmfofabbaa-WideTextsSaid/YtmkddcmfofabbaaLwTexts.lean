/-
  The law WideTexts, walked.
-/
import Derived.Test.YtmkddcmfofabbaaZparse
import Derived.Test.YtmkddcmfofabbaaLwBack
namespace Go.Proofs.Ytmkddcmfofabbaa
open Go Go.RowKit

theorem s3b {w : World} {k k' k'' : Nat} {u v u' v' u'' v'' : Value} {t t' t'' : TypeId} (h : Box2 w k u v t) (h' : Box2 w k' u' v' t') (h'' : Box2 w k'' u'' v'' t'') :
    w.cell? ⟨k, 0, none⟩ = some u ∧ w.cell? ⟨k, 1, none⟩ = some v ∧ w.cell? ⟨k', 0, none⟩ = some u' ∧ w.cell? ⟨k', 1, none⟩ = some v' ∧ w.cell? ⟨k'', 0, none⟩ = some u'' ∧ w.cell? ⟨k'', 1, none⟩ = some v'' := ⟨h.c0, h.c1, h'.c0, h'.c1, h''.c0, h''.c1⟩
/-- Both parses give the same. -/
def Both (B : List Int) (h l : Int) (c : Int) (ok : Bool) : Prop :=
  (∀ w, Calls Try.prog 53 #[.string (strOfNums B)] w (fun e w' => e = .returned (.tuple #[.agg #[.int .i64 h, .int .u64 l], .int .i64 c]) ∧ Ext w w')) ∧
  (∀ w, Calls Try.prog 54 #[.string (strOfNums B)] w (fun e w' => e = .returned (.tuple #[.agg #[.int .i64 h, .int .u64 l], .bool ok]) ∧ Ext w w')) ∧ ((c = 0 ∧ ok = true) ∨ (c = 6 ∧ ok = false))
theorem both (B : List Int) (hB : Bytes B) (hl : B.length ≤ 9223372036854775807) : ∃ h l c ok, Both B h l c ok := by
  by_cases h : ∃ n, W128 n ∧ B = txt n
  · obtain ⟨n, hn, e⟩ := h
    exact ⟨hi n, lo n, 0, true, fun w => (wparse B w hB hl).mono fun _ _ h => ⟨h.1 n hn e, h.2.2⟩, fun w => (zparse B w hB hl).mono fun _ _ h => ⟨h.1 n hn e, h.2.2⟩, Or.inl ⟨rfl, rfl⟩⟩
  · have hno : ∀ n, W128 n → B ≠ txt n := fun n hn e => h ⟨n, hn, e⟩
    exact ⟨0, 0, 6, false, fun w => (wparse B w hB hl).mono fun _ _ h => ⟨h.2.1 hno, h.2.2⟩, fun w => (zparse B w hB hl).mono fun _ _ h => ⟨h.2.1 hno, h.2.2⟩, Or.inr ⟨rfl, rfl⟩⟩
set_option maxRecDepth 100000 in
set_option maxHeartbeats 3200000 in
theorem law_texts (a : Int) (B : List Int) (w : World) (ha : W128 a) (hB : Bytes B) (hl : B.length ≤ 9223372036854775807) :
    Calls Try.prog 8 #[.agg #[.int .i64 (hi a), .int .u64 (lo a)], .string (strOfNums B)] w (fun e w' => e = .returned (.bool true) ∧ Ext w w') := by
  obtain ⟨h, l, c, ok, h1, h2, h3⟩ := both B hB hl
  have H1 := Lib.hid h1
  have H2 := Lib.hid h2
  have H3 := Lib.hid alive2
  have H4 := Lib.hid wtext
  have H5 := Lib.hid ofw
  have H6 := Lib.hid ztext
  have ba := ha.bits.mono (show 128 ≤ 800 by omega)
  clear h1 h2
  rcases h3 with ⟨rfl, rfl⟩ | ⟨rfl, rfl⟩
  · go_enter Try.func8, Try.ntmps8
    go_wp2_with fail
    have hA : Box2 (w.alloc (.cells #[.int .i64 (hi a), .int .u64 (lo a)] 26)) w.heap.size (.int .i64 (hi a)) (.int .u64 (lo a)) 26 := Box2.new rfl
    have xw : Ext w (w.alloc (.cells #[.int .i64 (hi a), .int .u64 (lo a)] 26)) := (Ext.refl w).alloc
    refine (H1.out _).mono ?_
    rintro e w1 ⟨rfl, x1⟩
    (first | replace xw := Ext.trans xw x1 | replace xw := Ext.trans (Ext.alloc xw) x1 | replace xw := Ext.trans (Ext.drew xw) x1 | replace xw := Ext.trans (Ext.alloc (Ext.drew xw)) x1); (first | replace hA := hA.ext x1 | replace hA := (hA.alloc _).ext x1 | replace hA := hA.drew.ext x1 | replace hA := (hA.drew.alloc _).ext x1)
    replace hA := hA.alloc (.cells #[.int .i64 h, .int .u64 l] 26)
    have hC : Box2 (w1.alloc (.cells #[.int .i64 h, .int .u64 l] 26)) w1.heap.size (.int .i64 h) (.int .u64 l) 26 := Box2.new rfl
    go_wp2_with fail
    refine (H2.out _).mono ?_
    rintro e w2 ⟨rfl, x2⟩
    (first | replace xw := Ext.trans xw x2 | replace xw := Ext.trans (Ext.alloc xw) x2 | replace xw := Ext.trans (Ext.drew xw) x2 | replace xw := Ext.trans (Ext.alloc (Ext.drew xw)) x2); (first | replace hA := hA.ext x2 | replace hA := (hA.alloc _).ext x2 | replace hA := hA.drew.ext x2 | replace hA := (hA.drew.alloc _).ext x2); (first | replace hC := hC.ext x2 | replace hC := (hC.alloc _).ext x2 | replace hC := hC.drew.ext x2 | replace hC := (hC.drew.alloc _).ext x2)
    replace hA := hA.alloc (.cells #[.int .i64 h, .int .u64 l] 26)
    replace hC := hC.alloc (.cells #[.int .i64 h, .int .u64 l] 26)
    have hD : Box2 (w2.alloc (.cells #[.int .i64 h, .int .u64 l] 26)) w2.heap.size (.int .i64 h) (.int .u64 l) 26 := Box2.new rfl
    go_wp2_with fail
    obtain ⟨V, hV⟩ : ∃ V, V = w2.alloc (.cells #[.int .i64 h, .int .u64 l] 26) := ⟨_, rfl⟩
    replace xw : Ext w V := by rw [hV]; exact Ext.alloc xw
    rw [← hV] at hA hC hD ⊢
    clear hV x1 x2
    refine wp_region_noPanic ?_
    refine wp_region_held_drew (S := fun w' => w'.cell? ⟨w.heap.size, 0, none⟩ = some (.int .i64 (hi a)) ∧ w'.cell? ⟨w.heap.size, 1, none⟩ = some (.int .u64 (lo a)) ∧ w'.cell? ⟨w1.heap.size, 0, none⟩ = some (.int .i64 h) ∧ w'.cell? ⟨w1.heap.size, 1, none⟩ = some (.int .u64 l) ∧ w'.cell? ⟨w2.heap.size, 0, none⟩ = some (.int .i64 h) ∧ w'.cell? ⟨w2.heap.size, 1, none⟩ = some (.int .u64 l)) (by kernel_rfl) (s3b hA.drew hC.drew hD.drew) (fun hHeld => ?_)
    refine wpAnyH_all (rs := [0]) (by kernel_rfl) (by simp) ?_; intro j hj; obtain rfl := List.mem_singleton.1 hj; clear hj; refine wpOp_of rfl fun K' hK => ?_; go_simp
    refine (H3.out _).mono ?_
    rintro e w3 ⟨rfl, x1⟩
    have x := x1
    replace hHeld := s3b (hA.drew.ext x) (hC.drew.ext x) (hD.drew.ext x)
    refine hK _ _ ⟨hHeld, ?_⟩
    clear hK K'
    refine wpAnyH_take (i := 1) (v := .bool true) rfl (by kernel_rfl) (by kernel_rfl) (by kernel_rfl) (fun _ _ _ h => h) (Or.inl ⟨by kernel_rfl, fun w' h => (by obtain ⟨h0, h1, h2, h3, h4, h5⟩ := h; go_simp)⟩) hHeld ?_
    refine wpAnyH_take (i := 2) (v := .agg #[.int .i64 (hi a), .int .u64 (lo a)]) rfl (by kernel_rfl) (by kernel_rfl) (by kernel_rfl) (fun _ _ _ h => h) (Or.inl ⟨by kernel_rfl, fun w' h => (by obtain ⟨h0, h1, h2, h3, h4, h5⟩ := h; go_simp)⟩) hHeld ?_
    refine wpAnyH_take (i := 4) (v := .agg #[.int .i64 (hi a), .int .u64 (lo a)]) rfl (by kernel_rfl) (by kernel_rfl) (by kernel_rfl) (fun _ _ _ h => h) (Or.inl ⟨by kernel_rfl, fun w' h => (by obtain ⟨h0, h1, h2, h3, h4, h5⟩ := h; go_simp)⟩) hHeld ?_
    refine wpAnyH_all (rs := [3]) (by kernel_rfl) (by simp) ?_; intro j hj; obtain rfl := List.mem_singleton.1 hj; clear hj; refine wpOp_of rfl fun K' hK => ?_; go_simp
    refine (H4.out _ _ ha).mono ?_
    rintro e w4 ⟨rfl, x2⟩
    replace x := Ext.trans x x2
    replace hHeld := s3b (hA.drew.ext x) (hC.drew.ext x) (hD.drew.ext x)
    refine hK _ _ ⟨hHeld, ?_⟩
    clear hK K'
    refine wpAnyH_all (rs := [5]) (by kernel_rfl) (by simp) ?_; intro j hj; obtain rfl := List.mem_singleton.1 hj; clear hj; refine wpOp_of rfl fun K' hK => ?_; go_simp
    refine (H5.out _ _ ha).mono ?_
    rintro e w5 ⟨n4, a4, l4, c4, rfl, hz4, hb4⟩
    have x4 : Ext _ w5 := hb4
    replace x := Ext.trans x x4
    replace hHeld := s3b (hA.drew.ext x) (hC.drew.ext x) (hD.drew.ext x)
    refine hK _ _ ⟨hHeld, ?_⟩
    clear hK K'
    refine wpAnyH_all (rs := [6]) (by kernel_rfl) (by simp) ?_; intro j hj; obtain rfl := List.mem_singleton.1 hj; clear hj; refine wpOp_of rfl fun K' hK => ?_; go_simp
    refine (H6.out _ _ _ _ a _ hz4 ba).mono ?_
    rintro e w6 ⟨rfl, x5⟩
    replace x := Ext.trans x x5
    replace hHeld := s3b (hA.drew.ext x) (hC.drew.ext x) (hD.drew.ext x)
    refine hK _ _ ⟨hHeld, ?_⟩
    clear hK K'
    refine wpAnyH_take (i := 7) (v := .bool true) rfl (by kernel_rfl) (by kernel_rfl) (by kernel_rfl) (fun _ _ _ h => h) (Or.inl ⟨by kernel_rfl, fun w' h => (by obtain ⟨h0, h1, h2, h3, h4, h5⟩ := h; go_simp)⟩) hHeld ?_
    refine wpAnyH_take (i := 8) (v := .bool true) rfl (by kernel_rfl) (by kernel_rfl) (by kernel_rfl) (fun _ _ _ h => h) (Or.inl ⟨by kernel_rfl, fun w' h => (by obtain ⟨h0, h1, h2, h3, h4, h5⟩ := h; go_simp)⟩) hHeld ?_
    refine wpAnyH_take (i := 9) (v := .bool true) rfl (by kernel_rfl) (by kernel_rfl) (by kernel_rfl) (fun _ _ _ h => h) (Or.inl ⟨by kernel_rfl, fun w' h => (by obtain ⟨h0, h1, h2, h3, h4, h5⟩ := h; go_simp)⟩) hHeld ?_
    refine wpAnyH_take (i := 10) (v := .agg #[.int .i64 h, .int .u64 l]) rfl (by kernel_rfl) (by kernel_rfl) (by kernel_rfl) (fun _ _ _ h => h) (Or.inl ⟨by kernel_rfl, fun w' h => (by obtain ⟨h0, h1, h2, h3, h4, h5⟩ := h; go_simp)⟩) hHeld ?_
    refine wpAnyH_take (i := 11) (v := .agg #[.int .i64 h, .int .u64 l]) rfl (by kernel_rfl) (by kernel_rfl) (by kernel_rfl) (fun _ _ _ h => h) (Or.inl ⟨by kernel_rfl, fun w' h => (by obtain ⟨h0, h1, h2, h3, h4, h5⟩ := h; go_simp)⟩) hHeld ?_
    refine wpAnyH_take (i := 12) (v := .bool true) rfl (by kernel_rfl) (by kernel_rfl) (by kernel_rfl) (fun _ _ _ h => h) (Or.inl ⟨by kernel_rfl, fun w' h => (by obtain ⟨h0, h1, h2, h3, h4, h5⟩ := h; go_simp)⟩) hHeld ?_
    refine wpAnyH_take (i := 13) (v := .bool true) rfl (by kernel_rfl) (by kernel_rfl) (by kernel_rfl) (fun _ _ _ h => h) (Or.inl ⟨by kernel_rfl, fun w' h => (by obtain ⟨h0, h1, h2, h3, h4, h5⟩ := h; go_simp)⟩) hHeld ?_
    refine wpAnyH_take (i := 14) (v := .bool true) rfl (by kernel_rfl) (by kernel_rfl) (by kernel_rfl) (fun _ _ _ h => h) (Or.inl ⟨by kernel_rfl, fun w' h => (by obtain ⟨h0, h1, h2, h3, h4, h5⟩ := h; go_simp)⟩) hHeld ?_
    refine wpAnyH_take (i := 15) (v := .int .i64 0) rfl (by kernel_rfl) (by kernel_rfl) (by kernel_rfl) (fun _ _ _ h => h) (Or.inl ⟨by kernel_rfl, fun w' h => (by obtain ⟨h0, h1, h2, h3, h4, h5⟩ := h; go_simp)⟩) hHeld ?_
    refine wpAnyH_take (i := 16) (v := .bool true) rfl (by kernel_rfl) (by kernel_rfl) (by kernel_rfl) (fun _ _ _ h => h) (Or.inl ⟨by kernel_rfl, fun w' h => (by obtain ⟨h0, h1, h2, h3, h4, h5⟩ := h; go_simp)⟩) hHeld ?_
    refine wpAnyH_take (i := 17) (v := .bool true) rfl (by kernel_rfl) (by kernel_rfl) (by kernel_rfl) (fun _ _ _ h => h) (Or.inl ⟨by kernel_rfl, fun w' h => (by obtain ⟨h0, h1, h2, h3, h4, h5⟩ := h; go_simp)⟩) hHeld ?_
    refine wpAnyH_take (i := 18) (v := .bool true) rfl (by kernel_rfl) (by kernel_rfl) (by kernel_rfl) (fun _ _ _ h => h) (Or.inl ⟨by kernel_rfl, fun w' h => (by obtain ⟨h0, h1, h2, h3, h4, h5⟩ := h; go_simp)⟩) hHeld ?_
    refine wpAnyH_take (i := 19) (v := .bool true) rfl (by kernel_rfl) (by kernel_rfl) (by kernel_rfl) (fun _ _ _ h => h) (Or.inl ⟨by kernel_rfl, fun w' h => (by obtain ⟨h0, h1, h2, h3, h4, h5⟩ := h; go_simp)⟩) hHeld ?_
    refine wpAnyH_take (i := 20) (v := .bool true) rfl (by kernel_rfl) (by kernel_rfl) (by kernel_rfl) (fun _ _ _ h => h) (Or.inl ⟨by kernel_rfl, fun w' h => (by obtain ⟨h0, h1, h2, h3, h4, h5⟩ := h; go_simp)⟩) hHeld ?_
    refine wpAnyH_take (i := 21) (v := .bool true) rfl (by kernel_rfl) (by kernel_rfl) (by kernel_rfl) (fun _ _ _ h => h) (Or.inl ⟨by kernel_rfl, fun w' h => (by obtain ⟨h0, h1, h2, h3, h4, h5⟩ := h; go_simp)⟩) hHeld ?_
    refine wpAnyH_take (i := 22) (v := .bool true) rfl (by kernel_rfl) (by kernel_rfl) (by kernel_rfl) (fun _ _ _ h => h) (Or.inl ⟨by kernel_rfl, fun w' h => (by obtain ⟨h0, h1, h2, h3, h4, h5⟩ := h; go_simp)⟩) hHeld ?_
    refine wpAnyH_take (i := 23) (v := undef) rfl (by kernel_rfl) (by kernel_rfl) (by kernel_rfl) (fun _ _ _ h => h) (Or.inr ⟨by kernel_rfl, rfl⟩) hHeld ?_
    refine wpAnyH_take (i := 24) (v := undef) rfl (by kernel_rfl) (by kernel_rfl) (by kernel_rfl) (fun _ _ _ h => h) (Or.inr ⟨by kernel_rfl, rfl⟩) hHeld ?_
    refine wpAnyH_take (i := 25) (v := .bool true) rfl (by kernel_rfl) (by kernel_rfl) (by kernel_rfl) (fun _ _ _ h => h) (Or.inl ⟨by kernel_rfl, fun w' h => (by obtain ⟨h0, h1, h2, h3, h4, h5⟩ := h; go_simp)⟩) hHeld ?_
    refine wpAnyH_take (i := 26) (v := .bool true) rfl (by kernel_rfl) (by kernel_rfl) (by kernel_rfl) (fun _ _ _ h => h) (Or.inl ⟨by kernel_rfl, fun w' h => (by obtain ⟨h0, h1, h2, h3, h4, h5⟩ := h; go_simp)⟩) hHeld ?_
    refine wpAnyH_take (i := 27) (v := .bool true) rfl (by kernel_rfl) (by kernel_rfl) (by kernel_rfl) (fun _ _ _ h => h) (Or.inl ⟨by kernel_rfl, fun w' h => (by obtain ⟨h0, h1, h2, h3, h4, h5⟩ := h; go_simp)⟩) hHeld ?_
    refine ⟨by kernel_rfl, ?_⟩
    refine NoPanic.normal ?_
    go_wp2_with fail
    refine bodyPost_ret (v := .bool true) (by simp [results, Try.results8, go_sem, Act.put]) rfl ⟨rfl, Ext.trans xw.drew x⟩
  · go_enter Try.func8, Try.ntmps8
    go_wp2_with fail
    have hA : Box2 (w.alloc (.cells #[.int .i64 (hi a), .int .u64 (lo a)] 26)) w.heap.size (.int .i64 (hi a)) (.int .u64 (lo a)) 26 := Box2.new rfl
    have xw : Ext w (w.alloc (.cells #[.int .i64 (hi a), .int .u64 (lo a)] 26)) := (Ext.refl w).alloc
    refine (H1.out _).mono ?_
    rintro e w1 ⟨rfl, x1⟩
    (first | replace xw := Ext.trans xw x1 | replace xw := Ext.trans (Ext.alloc xw) x1 | replace xw := Ext.trans (Ext.drew xw) x1 | replace xw := Ext.trans (Ext.alloc (Ext.drew xw)) x1); (first | replace hA := hA.ext x1 | replace hA := (hA.alloc _).ext x1 | replace hA := hA.drew.ext x1 | replace hA := (hA.drew.alloc _).ext x1)
    replace hA := hA.alloc (.cells #[.int .i64 h, .int .u64 l] 26)
    have hC : Box2 (w1.alloc (.cells #[.int .i64 h, .int .u64 l] 26)) w1.heap.size (.int .i64 h) (.int .u64 l) 26 := Box2.new rfl
    go_wp2_with fail
    refine (H2.out _).mono ?_
    rintro e w2 ⟨rfl, x2⟩
    (first | replace xw := Ext.trans xw x2 | replace xw := Ext.trans (Ext.alloc xw) x2 | replace xw := Ext.trans (Ext.drew xw) x2 | replace xw := Ext.trans (Ext.alloc (Ext.drew xw)) x2); (first | replace hA := hA.ext x2 | replace hA := (hA.alloc _).ext x2 | replace hA := hA.drew.ext x2 | replace hA := (hA.drew.alloc _).ext x2); (first | replace hC := hC.ext x2 | replace hC := (hC.alloc _).ext x2 | replace hC := hC.drew.ext x2 | replace hC := (hC.drew.alloc _).ext x2)
    replace hA := hA.alloc (.cells #[.int .i64 h, .int .u64 l] 26)
    replace hC := hC.alloc (.cells #[.int .i64 h, .int .u64 l] 26)
    have hD : Box2 (w2.alloc (.cells #[.int .i64 h, .int .u64 l] 26)) w2.heap.size (.int .i64 h) (.int .u64 l) 26 := Box2.new rfl
    go_wp2_with fail
    obtain ⟨V, hV⟩ : ∃ V, V = w2.alloc (.cells #[.int .i64 h, .int .u64 l] 26) := ⟨_, rfl⟩
    replace xw : Ext w V := by rw [hV]; exact Ext.alloc xw
    rw [← hV] at hA hC hD ⊢
    clear hV x1 x2
    go_region_held3 (fun w' => w'.cell? ⟨w.heap.size, 0, none⟩ = some (.int .i64 (hi a)) ∧ w'.cell? ⟨w.heap.size, 1, none⟩ = some (.int .u64 (lo a)) ∧ w'.cell? ⟨w1.heap.size, 0, none⟩ = some (.int .i64 h) ∧ w'.cell? ⟨w1.heap.size, 1, none⟩ = some (.int .u64 l) ∧ w'.cell? ⟨w2.heap.size, 0, none⟩ = some (.int .i64 h) ∧ w'.cell? ⟨w2.heap.size, 1, none⟩ = some (.int .u64 l))
      (first
        | exact s3b (hA.drew.ext x) (hC.drew.ext x) (hD.drew.ext x)
        | exact s3b hA.drew hC.drew hD.drew)
      (first
        | (go_at_call 31; refine (H3.out _).mono ?_; rintro e w1 ⟨rfl, x1⟩; have x := x1)
        | (go_at_call 29; refine (H4.out _ _ ha).mono ?_; rintro e w2 ⟨rfl, x2⟩; replace x := Ext.trans x x2)
        | (go_at_call 35; refine (H5.out _ _ ha).mono ?_; rintro e w4 ⟨n4, a4, l4, c4, rfl, hz4, hb4⟩; have x4 : Ext _ w4 := hb4; replace x := Ext.trans x x4)
        | (go_at_call 55; refine (H6.out _ _ _ _ a _ hz4 ba).mono ?_; rintro e w5 ⟨rfl, x5⟩; replace x := Ext.trans x x5))
    go_wp2_with fail
    go_ret
    exact ⟨rfl, Ext.trans xw.drew x⟩
end Go.Proofs.Ytmkddcmfofabbaa
