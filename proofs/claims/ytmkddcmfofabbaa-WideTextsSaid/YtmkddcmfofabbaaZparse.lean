/-
  The reference's Parse of layer 2.
-/
import Derived.Test.YtmkddcmfofabbaaParse
import Derived.Test.YtmkddcmfofabbaaZtxt
import Derived.Test.YtmkddcmfofabbaaOf
import Derived.Test.YtmkddcmfofabbaaChainx
namespace Go.Proofs.Ytmkddcmfofabbaa
open Go Go.RowKit

/-- What is read when k bytes are, the first s of them being a sign. -/
def rdv (B : List Int) (s k : Nat) : Int := dval 0 ((B.take k).drop s)
theorem rdv_zero (B : List Int) (s : Nat) : rdv B s 0 = 0 := by simp [rdv, dval]
theorem rdv_sign (B : List Int) : rdv B 1 1 = 0 := by
  unfold rdv
  rw [List.drop_eq_nil_of_le (by simp; omega)]; rfl
theorem rdv_step (B : List Int) (s k : Nat) (hs : s ≤ k) (hk : k < B.length) : rdv B s (k + 1) = rdv B s k * 10 + (bt B k - 48) := by
  unfold rdv
  rw [List.take_succ_eq_append_getElem hk, List.drop_append_of_le_length (by simp; omega), dval_append, bt_eq, List.getD, List.getElem?_eq_getElem hk]
  rfl
def sg (B : List Int) : Nat := if bt B 0 = 45 then 1 else 0
theorem body_sg (B : List Int) : body B = B.drop (sg B) := by
  unfold body sg
  rw [bt_eq]
  split
  · rfl
  · simp
theorem rdv_all (B : List Int) {k : Nat} (h : B.length ≤ k) : rdv B (sg B) k = dval 0 (body B) := by
  unfold rdv
  rw [List.take_of_length_le h, body_sg]
theorem split_of (B : List Int) : Split B (body B) (decide (bt B 0 = 45)) := ⟨rfl, rfl⟩
theorem bad_at {B : List Int} {k : Nat} (hs : sg B ≤ k) (hk : k < B.length) (hd : ¬ IsDig (bt B k)) : ∀ n, W128 n → B ≠ txt n := by
  have h := split_of B
  have e : bt (body B) (k - sg B) = bt B k := by
    rw [body_sg, bt_eq, bt_eq]
    simp [List.getD, List.getElem?_drop]
    congr 2; omega
  exact h.bad (k := k - sg B) (by rw [body_sg, List.length_drop]; omega) (by rw [e]; exact hd)

theorem zfin {B : List Int} {k : Nat} {f : Bool} (hk : k ≤ B.length) (hk5 : k ≤ 50) (hgo : ¬ (k < B.length ∧ k < 50)) (hf : f = (decide (sg B = 1) && decide (0 < k))) :
    ∀ n, W128 n → B = txt n → n = wsg f (rdv B (sg B) k) := by
  intro n hn e
  have h40 := txt_len hn
  rw [← e] at h40
  have hkl : k = B.length := by omega
  have hpos : 0 < k := by
    rw [hkl, List.length_pos_iff, e]
    intro h0
    have := txt_head n
    by_cases hneg : n < 0
    · rw [txt_neg hneg] at h0; cases h0
    · rw [txt_pos hneg] at h0; exact decs_ne _ h0
  rw [rdv_all B (by omega), ← (split_of B).num e, hf, decide_eq_true hpos, Bool.and_true]
  congr 1
  unfold sg
  by_cases h : bt B 0 = 45 <;> simp [h]
set_option maxRecDepth 100000 in
set_option maxHeartbeats 800000 in
theorem zparse (B : List Int) (w : World) (hB : Bytes B) (hl : B.length ≤ 9223372036854775807) :
    Calls Try.prog 54 #[.string (strOfNums B)] w (ParseP (.bool true) (.bool false) B w) := by
  have hs := strOfNums_size B
  have H1 := Lib.hid ofu_any
  have H2 := Lib.hid mul_z
  have H3 := Lib.hid add_z
  have H4 := Lib.hid neg_any
  have H5 := Lib.hid fitw_any
  have H6 := Lib.hid ztext
  have HBad : Hid (∀ k : Nat, sg B ≤ k → k < B.length → ¬ IsDig (bt B k) → ∀ n, W128 n → B ≠ txt n) := Lib.hid (fun k => @bad_at B k)
  have HStep := Lib.hid (rdv_step B (sg B))
  go_enter Try.func54, Try.ntmps54
  go_wp2_with fail
  obtain ⟨V, hV⟩ : ∃ V, V = (w.alloc (.cells #[.int .i64 0, .int .u64 0] 26)).alloc (.cells #[.bool false, .slice none 0 0] 37) := ⟨_, rfl⟩
  rw [← hV]
  have hR : Box2 V w.heap.size (.int .i64 0) (.int .u64 0) 26 := by rw [hV]; exact (Box2.new rfl).alloc _
  have hS : Box2 V (w.heap.size + 1) (.bool false) (.slice none 0 0) 37 := by rw [hV]; exact Box2.new (by simp)
  have xw : Ext w V := by rw [hV]; exact (Ext.refl w).alloc.alloc
  clear hV
  go_loopw [5, 6] (fun s5 s6 wr => ∃ (f : Bool) (k : Nat) (nq : Bool) (aq : Option Addr) (lq cq : Nat), f = (decide (sg B = 1) && decide (0 < k)) ∧ s5 = .bool f ∧ s6 = .int .i64 k ∧ k ≤ B.length ∧ k ≤ 50 ∧ IsZ wr nq (.slice aq lq cq) (rdv B (sg B) k) ∧ Bits (5 * k + 4) (rdv B (sg B) k) ∧
      Box2 wr (w.heap.size + 1) (.bool nq) (.slice aq lq cq) 37 ∧ Box2 wr w.heap.size (.int .i64 0) (.int .u64 0) 26 ∧ Ext w wr)
    (fun _ s6 _ => B.length - (intOf s6).toNat)
  case atStart => exact ⟨false, 0, false, none, 0, 0, by simp, rfl, rfl, by omega, by omega, by rw [rdv_zero]; exact isZ_zero V, by rw [rdv_zero]; unfold Bits; decide, hS, hR, xw⟩
  case round =>
    clear hR hS xw
    obtain ⟨f, k, nq, aq, lq, cq, hf, rfl, rfl, hk, hk5, hq, hb, hS, hR, xw⟩ := hrel
    have HBt := Lib.hid hb
    have HF := Lib.hid hf
    clear hb hf
    have hS_0 := hS.c0; have hS_1 := hS.c1
    have r0 := hR.c0
    have r1 := hR.c1
    have r2 := hR.f0
    have r3 := hR.f1
    have hz3 := hS.kind.lt
    have hz4 := hR.kind.lt
    by_cases hgo : k < B.length ∧ k < 50
    · obtain ⟨hlt, hlt5⟩ := hgo
      have hg := bt_get B hB k
      obtain ⟨b0, b1⟩ := bt_bd hB k
      by_cases hsg : k = 0 ∧ bt B k = 45
      · obtain ⟨rfl, hm⟩ := hsg
        have hm' : (bt B 0 == 45) = true := by simpa using hm
        have hs1 : sg B = 1 := if_pos hm
        have HS1 := Lib.hid hs1
        clear hm hs1
        have hq' : IsZ wr nq (.slice aq lq cq) (rdv B (sg B) 1) := by
          rw [HS1.out, rdv_sign]; rw [rdv_zero] at hq; exact hq
        have hb' : Bits (5 * 1 + 4) (rdv B (sg B) 1) := by rw [HS1.out, rdv_sign]; unfold Bits; decide
        clear hq
        go_wp2_with fail
        go_roundw
        case rel => exact ⟨true, 1, nq, aq, lq, cq, by rw [HS1.out]; rfl, rfl, rfl, by omega, by omega, hq', hb', hS, hR, xw⟩
        case measure => simp [intOf]; omega
      · have hsk : sg B ≤ k := by
          unfold sg
          split
          · rename_i h45
            by_cases h0 : k = 0
            · subst h0; exact absurd ⟨rfl, h45⟩ hsg
            · omega
          · omega
        by_cases hk0 : k = 0
        · have hk0' : ((k : Int) == 0) = true := by simpa using hk0
          have hm' : (bt B k == 45) = false := by
            simp only [beq_eq_false_iff_ne, ne_eq]; exact fun e => hsg ⟨hk0, e⟩
          have hs0 : sg B = 0 := by unfold sg; rw [if_neg (fun e => hsg ⟨hk0, by rw [hk0]; exact e⟩)]
          have HS0 := Lib.hid (show ¬ sg B = 1 by omega)
          clear hsg hk0 hs0
          by_cases hd0 : bt B k < 48
          · have hno := HBad.out k hsk hlt (fun h => by unfold IsDig at h; omega)
            go_wp2_with fail
            refine bodyPost_ret (v := .tuple #[.agg #[.int .i64 0, .int .u64 0], .bool false]) (by simp [results, Try.results54, go_sem, r0, r1]) rfl (parseP_no hno ?_)
            exact Ext.set (Ext.set xw (by omega)) (by omega)
          · by_cases hd1 : 57 < bt B k
            · have hno := HBad.out k hsk hlt (fun h => by unfold IsDig at h; omega)
              go_wp2_with fail
              refine bodyPost_ret (v := .tuple #[.agg #[.int .i64 0, .int .u64 0], .bool false]) (by simp [results, Try.results54, go_sem, r0, r1]) rfl (parseP_no hno ?_)
              exact Ext.set (Ext.set xw (by omega)) (by omega)
            · have q0 : 48 ≤ bt B k := by omega
              have q1 : bt B k ≤ 57 := by omega
              have hst := Lib.hid (HStep.out k hsk hlt)
              have bD : Bits 4 (bt B k - 48) := by unfold Bits; omega
              have bT : Bits 4 10 := by unfold Bits; decide
              have bM := HBt.out.mul bT
              have bA := bM.add (bD.mono (show 4 ≤ 5 * k + 4 + 4 by omega))
              have f1 := HBt.out.fit (show 5 * k + 4 ≤ 100000 by omega)
              have f2 : Fit 10 := bT.fit (by omega)
              have f3 := bM.fit (show 5 * k + 4 + 4 ≤ 100000 by omega)
              have f4 := bD.fit (show 4 ≤ 100000 by omega)
              have BA := Lib.hid bA
              clear bD bT bM bA
              have hw1 : IntKind.u8.wrap (bt B k - 48) = bt B k - 48 := by rw [IntKind.wrap_u8]; omega
              have hw2 : IntKind.u64.wrap (bt B k - 48) = bt B k - 48 := by rw [IntKind.wrap_u64]; omega
              go_wp2_with fail
              refine wp_region_noPanic ?_
              refine wp_region_X 10 (fun w' => w'.cell? ⟨w.heap.size + 1, 0, none⟩ = some (.bool nq) ∧ w'.cell? ⟨w.heap.size + 1, 1, none⟩ = some (.slice aq lq cq)) (by kernel_rfl) ?_
              have hHeld : wr.drew.cell? ⟨w.heap.size + 1, 0, none⟩ = some (.bool nq) ∧ wr.drew.cell? ⟨w.heap.size + 1, 1, none⟩ = some (.slice aq lq cq) := ⟨hS.drew.c0, hS.drew.c1⟩
              refine wpAnyX_take (i := 0) (v := .agg #[.bool nq, .slice aq lq cq]) rfl (by kernel_rfl) (by kernel_rfl) (by kernel_rfl) (by kernel_rfl) (fun _ _ _ h => h) (Or.inl ⟨by rfl, fun w' h => (by obtain ⟨h0, h1⟩ := h; go_simp)⟩) hHeld ?_
              refine wpAnyX_take (i := 3) (v := .string (strOfNums B)) rfl (by kernel_rfl) (by kernel_rfl) (by kernel_rfl) (by kernel_rfl) (fun _ _ _ h => h) (Or.inl ⟨by rfl, fun w' h => (by obtain ⟨h0, h1⟩ := h; go_simp)⟩) hHeld ?_
              refine wpAnyX_take (i := 4) (v := .int .i64 (k : Int)) rfl (by kernel_rfl) (by kernel_rfl) (by kernel_rfl) (by kernel_rfl) (fun _ _ _ h => h) (Or.inl ⟨by rfl, fun w' h => (by obtain ⟨h0, h1⟩ := h; go_simp)⟩) hHeld ?_
              refine wpAnyX_take (i := 5) (v := .int .u8 (bt B k)) rfl (by kernel_rfl) (by kernel_rfl) (by kernel_rfl) (by kernel_rfl) (fun _ _ _ h => h) (Or.inl ⟨by rfl, fun w' h => (by obtain ⟨h0, h1⟩ := h; go_simp)⟩) hHeld ?_
              refine wpAnyX_take (i := 6) (v := .int .u8 (bt B k - 48)) rfl (by kernel_rfl) (by kernel_rfl) (by kernel_rfl) (by kernel_rfl) (fun _ _ _ h => h) (Or.inl ⟨by rfl, fun w' h => (by obtain ⟨h0, h1⟩ := h; go_simp)⟩) hHeld ?_
              refine wpAnyX_take (i := 7) (v := .int .u64 (bt B k - 48)) rfl (by kernel_rfl) (by kernel_rfl) (by kernel_rfl) (by kernel_rfl) (fun _ _ _ h => h) (Or.inl ⟨by rfl, fun w' h => (by obtain ⟨h0, h1⟩ := h; go_simp)⟩) hHeld ?_
              refine tailX_at (N := 11) (f0 := [0, 3, 4, 5, 6, 7]) (T := [1, 2, 8, 9, 10]) (by kernel_rfl) rfl (by kernel_rfl) ?_
              refine wpOp_of rfl fun K' hK => ?_; go_simp
              refine (H1.out 10 _ (by omega) (by omega)).mono ?_
              rintro e w1 ⟨n1, a1, l1, c1, rfl, hz1, hb1⟩
              have x1 : Ext _ w1 := hb1
              have p1 := hS.drew.ext x1
              refine hK _ _ ⟨Or.inr ⟨p1.c0, p1.c1⟩, ?_⟩
              clear hK K'
              refine wpOp_of rfl fun K' hK => ?_; go_simp
              refine (H2.out _ _ _ _ _ _ _ _ (rdv B (sg B) k) 10 _ (hq.drew.ext x1) hz1 f1 f2).mono ?_
              rintro e w2 ⟨n2, a2, l2, c2, rfl, hz2, hb2⟩
              have x2 : Ext _ w2 := hb2
              have p2 := p1.ext x2
              refine hK _ _ ⟨Or.inr ⟨p2.c0, p2.c1⟩, ?_⟩
              clear hK K'
              refine wpOp_of rfl fun K' hK => ?_; go_simp
              refine (H1.out (bt B k - 48) _ (by omega) (by omega)).mono ?_
              rintro e w3 ⟨n3, a3, l3, c3, rfl, hz3, hb3⟩
              have x3 : Ext _ w3 := hb3
              have p3 := p2.ext x3
              refine hK _ _ ⟨Or.inr ⟨p3.c0, p3.c1⟩, ?_⟩
              clear hK K'
              refine wpOp_of rfl fun K' hK => ?_; go_simp
              refine (H3.out _ _ _ _ _ _ _ _ (rdv B (sg B) k * 10) (bt B k - 48) _ (hz2.ext x3) hz3 f3 f4).mono ?_
              rintro e w4 ⟨n4, a4, l4, c4, rfl, hz4, hb4⟩
              have x4 : Ext _ w4 := hb4
              have p4 := p3.ext x4
              refine hK _ _ ⟨Or.inr ⟨p4.c0, p4.c1⟩, ?_⟩
              clear hK K'
              rw [← hst.out] at hz4
              have s0 := p4.c0
              have s1 := p4.c1
              have s2 := p4.f0
              have s3 := p4.f1
              refine wpOp_of rfl fun K' hK => ?_; go_simp
              refine hK _ _ ⟨Or.inl rfl, ?_⟩
              clear hK K' s0 s1 s2 s3
              refine NoPanic.normal ?_
              have hzf := hz4.set2 p4.kind (by decide) (.bool n4) (.slice a4 l4 c4)
              have hSf := p4.set (.bool n4) (.slice a4 l4 c4)
              have hRf := ((((hR.drew.ext x1).ext x2).ext x3).ext x4).other2 (b := w.heap.size + 1) (by omega) (.bool n4) (.slice a4 l4 c4)
              have xf : Ext w ((w4.setCell ⟨w.heap.size + 1, 0, none⟩ (.bool n4)).setCell ⟨w.heap.size + 1, 1, none⟩ (.slice a4 l4 c4)) := Ext.set (Ext.set (Ext.trans (Ext.trans (Ext.trans (Ext.trans xw.drew x1) x2) x3) x4) (by omega)) (by omega)
              have hbf : Bits (5 * (k + 1) + 4) (rdv B (sg B) (k + 1)) := by rw [hst.out]; exact BA.out.mono (by omega)
              go_wp2_with fail
              go_roundw
              case rel => exact ⟨f, k + 1, n4, a4, l4, c4, by rw [HF.out, decide_eq_false HS0.out, Bool.false_and, Bool.false_and], rfl, by go_num, by omega, by omega, hzf, hbf, hSf, hRf, xf⟩
              case measure => simp [intOf]; omega
        · have hk0' : ((k : Int) == 0) = false := by simpa using hk0
          have HK0 := Lib.hid (show 0 < k by omega)
          clear hsg
          by_cases hd0 : bt B k < 48
          · have hno := HBad.out k hsk hlt (fun h => by unfold IsDig at h; omega)
            go_wp2_with fail
            refine bodyPost_ret (v := .tuple #[.agg #[.int .i64 0, .int .u64 0], .bool false]) (by simp [results, Try.results54, go_sem, r0, r1]) rfl (parseP_no hno ?_)
            exact Ext.set (Ext.set xw (by omega)) (by omega)
          · by_cases hd1 : 57 < bt B k
            · have hno := HBad.out k hsk hlt (fun h => by unfold IsDig at h; omega)
              go_wp2_with fail
              refine bodyPost_ret (v := .tuple #[.agg #[.int .i64 0, .int .u64 0], .bool false]) (by simp [results, Try.results54, go_sem, r0, r1]) rfl (parseP_no hno ?_)
              exact Ext.set (Ext.set xw (by omega)) (by omega)
            · have q0 : 48 ≤ bt B k := by omega
              have q1 : bt B k ≤ 57 := by omega
              have hst := Lib.hid (HStep.out k hsk hlt)
              have bD : Bits 4 (bt B k - 48) := by unfold Bits; omega
              have bT : Bits 4 10 := by unfold Bits; decide
              have bM := HBt.out.mul bT
              have bA := bM.add (bD.mono (show 4 ≤ 5 * k + 4 + 4 by omega))
              have f1 := HBt.out.fit (show 5 * k + 4 ≤ 100000 by omega)
              have f2 : Fit 10 := bT.fit (by omega)
              have f3 := bM.fit (show 5 * k + 4 + 4 ≤ 100000 by omega)
              have f4 := bD.fit (show 4 ≤ 100000 by omega)
              have BA := Lib.hid bA
              clear bD bT bM bA
              have hw1 : IntKind.u8.wrap (bt B k - 48) = bt B k - 48 := by rw [IntKind.wrap_u8]; omega
              have hw2 : IntKind.u64.wrap (bt B k - 48) = bt B k - 48 := by rw [IntKind.wrap_u64]; omega
              go_wp2_with fail
              refine wp_region_noPanic ?_
              refine wp_region_X 10 (fun w' => w'.cell? ⟨w.heap.size + 1, 0, none⟩ = some (.bool nq) ∧ w'.cell? ⟨w.heap.size + 1, 1, none⟩ = some (.slice aq lq cq)) (by kernel_rfl) ?_
              have hHeld : wr.drew.cell? ⟨w.heap.size + 1, 0, none⟩ = some (.bool nq) ∧ wr.drew.cell? ⟨w.heap.size + 1, 1, none⟩ = some (.slice aq lq cq) := ⟨hS.drew.c0, hS.drew.c1⟩
              refine wpAnyX_take (i := 0) (v := .agg #[.bool nq, .slice aq lq cq]) rfl (by kernel_rfl) (by kernel_rfl) (by kernel_rfl) (by kernel_rfl) (fun _ _ _ h => h) (Or.inl ⟨by rfl, fun w' h => (by obtain ⟨h0, h1⟩ := h; go_simp)⟩) hHeld ?_
              refine wpAnyX_take (i := 3) (v := .string (strOfNums B)) rfl (by kernel_rfl) (by kernel_rfl) (by kernel_rfl) (by kernel_rfl) (fun _ _ _ h => h) (Or.inl ⟨by rfl, fun w' h => (by obtain ⟨h0, h1⟩ := h; go_simp)⟩) hHeld ?_
              refine wpAnyX_take (i := 4) (v := .int .i64 (k : Int)) rfl (by kernel_rfl) (by kernel_rfl) (by kernel_rfl) (by kernel_rfl) (fun _ _ _ h => h) (Or.inl ⟨by rfl, fun w' h => (by obtain ⟨h0, h1⟩ := h; go_simp)⟩) hHeld ?_
              refine wpAnyX_take (i := 5) (v := .int .u8 (bt B k)) rfl (by kernel_rfl) (by kernel_rfl) (by kernel_rfl) (by kernel_rfl) (fun _ _ _ h => h) (Or.inl ⟨by rfl, fun w' h => (by obtain ⟨h0, h1⟩ := h; go_simp)⟩) hHeld ?_
              refine wpAnyX_take (i := 6) (v := .int .u8 (bt B k - 48)) rfl (by kernel_rfl) (by kernel_rfl) (by kernel_rfl) (by kernel_rfl) (fun _ _ _ h => h) (Or.inl ⟨by rfl, fun w' h => (by obtain ⟨h0, h1⟩ := h; go_simp)⟩) hHeld ?_
              refine wpAnyX_take (i := 7) (v := .int .u64 (bt B k - 48)) rfl (by kernel_rfl) (by kernel_rfl) (by kernel_rfl) (by kernel_rfl) (fun _ _ _ h => h) (Or.inl ⟨by rfl, fun w' h => (by obtain ⟨h0, h1⟩ := h; go_simp)⟩) hHeld ?_
              refine tailX_at (N := 11) (f0 := [0, 3, 4, 5, 6, 7]) (T := [1, 2, 8, 9, 10]) (by kernel_rfl) rfl (by kernel_rfl) ?_
              refine wpOp_of rfl fun K' hK => ?_; go_simp
              refine (H1.out 10 _ (by omega) (by omega)).mono ?_
              rintro e w1 ⟨n1, a1, l1, c1, rfl, hz1, hb1⟩
              have x1 : Ext _ w1 := hb1
              have p1 := hS.drew.ext x1
              refine hK _ _ ⟨Or.inr ⟨p1.c0, p1.c1⟩, ?_⟩
              clear hK K'
              refine wpOp_of rfl fun K' hK => ?_; go_simp
              refine (H2.out _ _ _ _ _ _ _ _ (rdv B (sg B) k) 10 _ (hq.drew.ext x1) hz1 f1 f2).mono ?_
              rintro e w2 ⟨n2, a2, l2, c2, rfl, hz2, hb2⟩
              have x2 : Ext _ w2 := hb2
              have p2 := p1.ext x2
              refine hK _ _ ⟨Or.inr ⟨p2.c0, p2.c1⟩, ?_⟩
              clear hK K'
              refine wpOp_of rfl fun K' hK => ?_; go_simp
              refine (H1.out (bt B k - 48) _ (by omega) (by omega)).mono ?_
              rintro e w3 ⟨n3, a3, l3, c3, rfl, hz3, hb3⟩
              have x3 : Ext _ w3 := hb3
              have p3 := p2.ext x3
              refine hK _ _ ⟨Or.inr ⟨p3.c0, p3.c1⟩, ?_⟩
              clear hK K'
              refine wpOp_of rfl fun K' hK => ?_; go_simp
              refine (H3.out _ _ _ _ _ _ _ _ (rdv B (sg B) k * 10) (bt B k - 48) _ (hz2.ext x3) hz3 f3 f4).mono ?_
              rintro e w4 ⟨n4, a4, l4, c4, rfl, hz4, hb4⟩
              have x4 : Ext _ w4 := hb4
              have p4 := p3.ext x4
              refine hK _ _ ⟨Or.inr ⟨p4.c0, p4.c1⟩, ?_⟩
              clear hK K'
              rw [← hst.out] at hz4
              have s0 := p4.c0
              have s1 := p4.c1
              have s2 := p4.f0
              have s3 := p4.f1
              refine wpOp_of rfl fun K' hK => ?_; go_simp
              refine hK _ _ ⟨Or.inl rfl, ?_⟩
              clear hK K' s0 s1 s2 s3
              refine NoPanic.normal ?_
              have hzf := hz4.set2 p4.kind (by decide) (.bool n4) (.slice a4 l4 c4)
              have hSf := p4.set (.bool n4) (.slice a4 l4 c4)
              have hRf := ((((hR.drew.ext x1).ext x2).ext x3).ext x4).other2 (b := w.heap.size + 1) (by omega) (.bool n4) (.slice a4 l4 c4)
              have xf : Ext w ((w4.setCell ⟨w.heap.size + 1, 0, none⟩ (.bool n4)).setCell ⟨w.heap.size + 1, 1, none⟩ (.slice a4 l4 c4)) := Ext.set (Ext.set (Ext.trans (Ext.trans (Ext.trans (Ext.trans xw.drew x1) x2) x3) x4) (by omega)) (by omega)
              have hbf : Bits (5 * (k + 1) + 4) (rdv B (sg B) (k + 1)) := by rw [hst.out]; exact BA.out.mono (by omega)
              go_wp2_with fail
              go_roundw
              case rel => exact ⟨f, k + 1, n4, a4, l4, c4, by rw [HF.out, decide_eq_true HK0.out, decide_eq_true (show 0 < k + 1 by omega)], rfl, by go_num, by omega, by omega, hzf, hbf, hSf, hRf, xf⟩
              case measure => simp [intOf]; omega
    · obtain ⟨m, hm⟩ : ∃ m, m = wsg f (rdv B (sg B) k) := ⟨_, rfl⟩
      have hfin := zfin hk hk5 hgo HF.out
      have hbm : Bits 800 (wsg f (rdv B (sg B) k)) := by
        have h := HBt.out.mono (show 5 * k + 4 ≤ 800 by omega)
        cases f
        · exact h
        · exact h.neg
      rw [← hm] at hfin hbm
      have HFin := Lib.hid hfin
      have HBm := Lib.hid hbm
      have HM := Lib.hid hm
      have hfit : Fit (rdv B (sg B) k) := HBt.out.fit (by omega)
      clear hbm HBt hfin hm HF HStep HBad
      cases f
      · rw [show rdv B (sg B) k = m from HM.out.symm] at hq
        by_cases h1 : k < B.length
        · have h2 : ¬ k < 50 := fun h => hgo ⟨h1, h⟩
          clear hgo
          go_wp2_with fail
          clear r0 r1 r2 r3 hS_0 hS_1
          refine (H5.out _ _ _ _ m _ hq (HBm.out.mono (by omega))).mono ?_
          rintro e w1 ⟨rfl, x1⟩
          replace hS := hS.ext x1
          replace hR := hR.ext x1
          replace hq := hq.ext x1
          replace xw := Ext.trans xw x1
          have s0 := hS.c0
          have s1 := hS.c1
          have r0 := hR.c0
          have r1 := hR.c1
          have r2 := hR.f0
          have r3 := hR.f1
          have z1 := hS.kind.lt
          have z2 := hR.kind.lt
          by_cases hW : W128 m
          · rw [thi_yes hW, tlo_yes hW, decide_eq_true hW]
            go_wp2_with fail
            refine (H6.out _ _ _ _ m _ (hq.ext (Ext.refl w1).alloc) HBm.out).mono ?_
            rintro e w2 ⟨rfl, x2⟩
            have p := (Box2.new (w := w1) (u := .int .i64 (hi m)) (v := .int .u64 (lo m)) (t := 26) rfl).ext x2
            have p0 := p.c0
            have p1 := p.c1
            clear r0 r1 r2 r3 s0 s1
            have hR2 := (hR.alloc (.cells #[.int .i64 (hi m), .int .u64 (lo m)] 26)).ext x2
            have r0 := hR2.c0
            have r1 := hR2.c1
            have r2 := hR2.f0
            have r3 := hR2.f1
            by_cases hT : B = txt m
            · have hTs : strOfNums (txt m) = strOfNums B := by rw [← hT]
              rw [hTs]
              have HT := Lib.hid hT
              clear hT hTs
              go_wp2_with fail
              refine bodyPost_ret (v := .tuple #[.agg #[.int .i64 (hi m), .int .u64 (lo m)], .bool true]) (by simp [results, Try.results54, go_sem, r0, r1]) rfl (parseP_yes hW HT.out ?_)
              exact Ext.set (Ext.set (Ext.trans (Ext.alloc xw) x2) (by omega)) (by omega)
            · have hno : ∀ n, W128 n → B ≠ txt n := fun n hn e => hT (by rw [← HFin.out n hn e]; exact e)
              have hTs := str_ne (txt_byte m) hB (fun e => hT e.symm)
              go_wp2_with fail
              refine bodyPost_ret (v := .tuple #[.agg #[.int .i64 0, .int .u64 0], .bool false]) (by simp [results, Try.results54, go_sem, r0, r1]) rfl (parseP_no hno ?_)
              exact Ext.set (Ext.set (Ext.trans (Ext.alloc xw) x2) (by omega)) (by omega)
          · rw [thi_no hW, tlo_no hW, decide_eq_false hW]
            have hno : ∀ n, W128 n → B ≠ txt n := fun n hn e => hW (by rw [← HFin.out n hn e]; exact hn)
            go_wp2_with fail
            refine bodyPost_ret (v := .tuple #[.agg #[.int .i64 0, .int .u64 0], .bool false]) (by simp [results, Try.results54, go_sem, r0, r1, z2]) rfl (parseP_no hno ?_)
            exact (by repeat (first | exact Ext.refl _ | refine Ext.alloc ?_ | refine Ext.drew ?_ | refine Ext.drewN ?_ | refine Ext.set ?_ (Ext.size ?_) | refine Ext.set ?_ (Ext.size1 ?_) | refine Ext.set ?_ (Ext.size2 ?_) | refine Ext.trans ?_ (by assumption)))
        · clear hgo
          go_wp2_with fail
          refine (H5.out _ _ _ _ m _ hq (HBm.out.mono (by omega))).mono ?_
          rintro e w1 ⟨rfl, x1⟩
          replace hS := hS.ext x1
          replace hR := hR.ext x1
          replace hq := hq.ext x1
          replace xw := Ext.trans xw x1
          have s0 := hS.c0
          have s1 := hS.c1
          have r0 := hR.c0
          have r1 := hR.c1
          have r2 := hR.f0
          have r3 := hR.f1
          have z1 := hS.kind.lt
          have z2 := hR.kind.lt
          by_cases hW : W128 m
          · rw [thi_yes hW, tlo_yes hW, decide_eq_true hW]
            go_wp2_with fail
            refine (H6.out _ _ _ _ m _ (hq.ext (Ext.refl w1).alloc) HBm.out).mono ?_
            rintro e w2 ⟨rfl, x2⟩
            have p := (Box2.new (w := w1) (u := .int .i64 (hi m)) (v := .int .u64 (lo m)) (t := 26) rfl).ext x2
            have p0 := p.c0
            have p1 := p.c1
            clear r0 r1 r2 r3 s0 s1
            have hR2 := (hR.alloc (.cells #[.int .i64 (hi m), .int .u64 (lo m)] 26)).ext x2
            have r0 := hR2.c0
            have r1 := hR2.c1
            have r2 := hR2.f0
            have r3 := hR2.f1
            by_cases hT : B = txt m
            · have hTs : strOfNums (txt m) = strOfNums B := by rw [← hT]
              rw [hTs]
              have HT := Lib.hid hT
              clear hT hTs
              go_wp2_with fail
              refine bodyPost_ret (v := .tuple #[.agg #[.int .i64 (hi m), .int .u64 (lo m)], .bool true]) (by simp [results, Try.results54, go_sem, r0, r1]) rfl (parseP_yes hW HT.out ?_)
              exact Ext.set (Ext.set (Ext.trans (Ext.alloc xw) x2) (by omega)) (by omega)
            · have hno : ∀ n, W128 n → B ≠ txt n := fun n hn e => hT (by rw [← HFin.out n hn e]; exact e)
              have hTs := str_ne (txt_byte m) hB (fun e => hT e.symm)
              go_wp2_with fail
              refine bodyPost_ret (v := .tuple #[.agg #[.int .i64 0, .int .u64 0], .bool false]) (by simp [results, Try.results54, go_sem, r0, r1]) rfl (parseP_no hno ?_)
              exact Ext.set (Ext.set (Ext.trans (Ext.alloc xw) x2) (by omega)) (by omega)
          · rw [thi_no hW, tlo_no hW, decide_eq_false hW]
            have hno : ∀ n, W128 n → B ≠ txt n := fun n hn e => hW (by rw [← HFin.out n hn e]; exact hn)
            go_wp2_with fail
            refine bodyPost_ret (v := .tuple #[.agg #[.int .i64 0, .int .u64 0], .bool false]) (by simp [results, Try.results54, go_sem, r0, r1, z2]) rfl (parseP_no hno ?_)
            exact (by repeat (first | exact Ext.refl _ | refine Ext.alloc ?_ | refine Ext.drew ?_ | refine Ext.drewN ?_ | refine Ext.set ?_ (Ext.size ?_) | refine Ext.set ?_ (Ext.size1 ?_) | refine Ext.set ?_ (Ext.size2 ?_) | refine Ext.trans ?_ (by assumption)))
      · by_cases h1 : k < B.length
        · have h2 : ¬ k < 50 := fun h => hgo ⟨h1, h⟩
          clear hgo
          go_wp2_with fail
          refine (H4.out _ _ _ _ (rdv B (sg B) k) _ hq hfit).mono ?_
          rw [show -rdv B (sg B) k = m from HM.out.symm]
          rintro e w8 ⟨n8, a8, l8, c8, rfl, hz8, hb8⟩
          have x8 : Ext _ w8 := hb8
          clear r0 r1 r2 r3 hS_0 hS_1 hq hfit
          replace hS := hS.ext x8
          replace hR := hR.ext x8
          replace xw := Ext.trans xw x8
          have s0 := hS.c0
          have s1 := hS.c1
          have s2 := hS.f0
          have s3 := hS.f1
          go_wp2_with fail
          clear s0 s1 s2 s3
          have hq := hz8.set2 hS.kind (by decide) (.bool n8) (.slice a8 l8 c8)
          replace hR := hR.other2 (b := w.heap.size + 1) (by omega) (.bool n8) (.slice a8 l8 c8)
          replace hS := hS.set (.bool n8) (.slice a8 l8 c8)
          replace xw : Ext w ((w8.setCell ⟨w.heap.size + 1, 0, none⟩ (.bool n8)).setCell ⟨w.heap.size + 1, 1, none⟩ (.slice a8 l8 c8)) := Ext.set (Ext.set xw (by omega)) (by omega)
          refine (H5.out _ _ _ _ m _ hq (HBm.out.mono (by omega))).mono ?_
          rintro e w1 ⟨rfl, x1⟩
          replace hS := hS.ext x1
          replace hR := hR.ext x1
          replace hq := hq.ext x1
          replace xw := Ext.trans xw x1
          have s0 := hS.c0
          have s1 := hS.c1
          have r0 := hR.c0
          have r1 := hR.c1
          have r2 := hR.f0
          have r3 := hR.f1
          have z1 := hS.kind.lt
          have z2 := hR.kind.lt
          by_cases hW : W128 m
          · rw [thi_yes hW, tlo_yes hW, decide_eq_true hW]
            go_wp2_with fail
            refine (H6.out _ _ _ _ m _ (hq.ext (Ext.refl w1).alloc) HBm.out).mono ?_
            rintro e w2 ⟨rfl, x2⟩
            have p := (Box2.new (w := w1) (u := .int .i64 (hi m)) (v := .int .u64 (lo m)) (t := 26) rfl).ext x2
            have p0 := p.c0
            have p1 := p.c1
            clear r0 r1 r2 r3 s0 s1
            have hR2 := (hR.alloc (.cells #[.int .i64 (hi m), .int .u64 (lo m)] 26)).ext x2
            have r0 := hR2.c0
            have r1 := hR2.c1
            have r2 := hR2.f0
            have r3 := hR2.f1
            by_cases hT : B = txt m
            · have hTs : strOfNums (txt m) = strOfNums B := by rw [← hT]
              rw [hTs]
              have HT := Lib.hid hT
              clear hT hTs
              go_wp2_with fail
              refine bodyPost_ret (v := .tuple #[.agg #[.int .i64 (hi m), .int .u64 (lo m)], .bool true]) (by simp [results, Try.results54, go_sem, r0, r1]) rfl (parseP_yes hW HT.out ?_)
              exact Ext.set (Ext.set (Ext.trans (Ext.alloc xw) x2) (by omega)) (by omega)
            · have hno : ∀ n, W128 n → B ≠ txt n := fun n hn e => hT (by rw [← HFin.out n hn e]; exact e)
              have hTs := str_ne (txt_byte m) hB (fun e => hT e.symm)
              go_wp2_with fail
              refine bodyPost_ret (v := .tuple #[.agg #[.int .i64 0, .int .u64 0], .bool false]) (by simp [results, Try.results54, go_sem, r0, r1]) rfl (parseP_no hno ?_)
              exact Ext.set (Ext.set (Ext.trans (Ext.alloc xw) x2) (by omega)) (by omega)
          · rw [thi_no hW, tlo_no hW, decide_eq_false hW]
            have hno : ∀ n, W128 n → B ≠ txt n := fun n hn e => hW (by rw [← HFin.out n hn e]; exact hn)
            go_wp2_with fail
            refine bodyPost_ret (v := .tuple #[.agg #[.int .i64 0, .int .u64 0], .bool false]) (by simp [results, Try.results54, go_sem, r0, r1, z2]) rfl (parseP_no hno ?_)
            exact (by repeat (first | exact Ext.refl _ | refine Ext.alloc ?_ | refine Ext.drew ?_ | refine Ext.drewN ?_ | refine Ext.set ?_ (Ext.size ?_) | refine Ext.set ?_ (Ext.size1 ?_) | refine Ext.set ?_ (Ext.size2 ?_) | refine Ext.trans ?_ (by assumption)))
        · clear hgo
          go_wp2_with fail
          refine (H4.out _ _ _ _ (rdv B (sg B) k) _ hq hfit).mono ?_
          rw [show -rdv B (sg B) k = m from HM.out.symm]
          rintro e w8 ⟨n8, a8, l8, c8, rfl, hz8, hb8⟩
          have x8 : Ext _ w8 := hb8
          clear r0 r1 r2 r3 hS_0 hS_1 hq hfit
          replace hS := hS.ext x8
          replace hR := hR.ext x8
          replace xw := Ext.trans xw x8
          have s0 := hS.c0
          have s1 := hS.c1
          have s2 := hS.f0
          have s3 := hS.f1
          go_wp2_with fail
          clear s0 s1 s2 s3
          have hq := hz8.set2 hS.kind (by decide) (.bool n8) (.slice a8 l8 c8)
          replace hR := hR.other2 (b := w.heap.size + 1) (by omega) (.bool n8) (.slice a8 l8 c8)
          replace hS := hS.set (.bool n8) (.slice a8 l8 c8)
          replace xw : Ext w ((w8.setCell ⟨w.heap.size + 1, 0, none⟩ (.bool n8)).setCell ⟨w.heap.size + 1, 1, none⟩ (.slice a8 l8 c8)) := Ext.set (Ext.set xw (by omega)) (by omega)
          refine (H5.out _ _ _ _ m _ hq (HBm.out.mono (by omega))).mono ?_
          rintro e w1 ⟨rfl, x1⟩
          replace hS := hS.ext x1
          replace hR := hR.ext x1
          replace hq := hq.ext x1
          replace xw := Ext.trans xw x1
          have s0 := hS.c0
          have s1 := hS.c1
          have r0 := hR.c0
          have r1 := hR.c1
          have r2 := hR.f0
          have r3 := hR.f1
          have z1 := hS.kind.lt
          have z2 := hR.kind.lt
          by_cases hW : W128 m
          · rw [thi_yes hW, tlo_yes hW, decide_eq_true hW]
            go_wp2_with fail
            refine (H6.out _ _ _ _ m _ (hq.ext (Ext.refl w1).alloc) HBm.out).mono ?_
            rintro e w2 ⟨rfl, x2⟩
            have p := (Box2.new (w := w1) (u := .int .i64 (hi m)) (v := .int .u64 (lo m)) (t := 26) rfl).ext x2
            have p0 := p.c0
            have p1 := p.c1
            clear r0 r1 r2 r3 s0 s1
            have hR2 := (hR.alloc (.cells #[.int .i64 (hi m), .int .u64 (lo m)] 26)).ext x2
            have r0 := hR2.c0
            have r1 := hR2.c1
            have r2 := hR2.f0
            have r3 := hR2.f1
            by_cases hT : B = txt m
            · have hTs : strOfNums (txt m) = strOfNums B := by rw [← hT]
              rw [hTs]
              have HT := Lib.hid hT
              clear hT hTs
              go_wp2_with fail
              refine bodyPost_ret (v := .tuple #[.agg #[.int .i64 (hi m), .int .u64 (lo m)], .bool true]) (by simp [results, Try.results54, go_sem, r0, r1]) rfl (parseP_yes hW HT.out ?_)
              exact Ext.set (Ext.set (Ext.trans (Ext.alloc xw) x2) (by omega)) (by omega)
            · have hno : ∀ n, W128 n → B ≠ txt n := fun n hn e => hT (by rw [← HFin.out n hn e]; exact e)
              have hTs := str_ne (txt_byte m) hB (fun e => hT e.symm)
              go_wp2_with fail
              refine bodyPost_ret (v := .tuple #[.agg #[.int .i64 0, .int .u64 0], .bool false]) (by simp [results, Try.results54, go_sem, r0, r1]) rfl (parseP_no hno ?_)
              exact Ext.set (Ext.set (Ext.trans (Ext.alloc xw) x2) (by omega)) (by omega)
          · rw [thi_no hW, tlo_no hW, decide_eq_false hW]
            have hno : ∀ n, W128 n → B ≠ txt n := fun n hn e => hW (by rw [← HFin.out n hn e]; exact hn)
            go_wp2_with fail
            refine bodyPost_ret (v := .tuple #[.agg #[.int .i64 0, .int .u64 0], .bool false]) (by simp [results, Try.results54, go_sem, r0, r1, z2]) rfl (parseP_no hno ?_)
            exact (by repeat (first | exact Ext.refl _ | refine Ext.alloc ?_ | refine Ext.drew ?_ | refine Ext.drewN ?_ | refine Ext.set ?_ (Ext.size ?_) | refine Ext.set ?_ (Ext.size1 ?_) | refine Ext.set ?_ (Ext.size2 ?_) | refine Ext.trans ?_ (by assumption)))
end Go.Proofs.Ytmkddcmfofabbaa
