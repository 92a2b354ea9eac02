/-
  Walks of the reference's numbers: Cmp, Sign, Power, Of.
-/
import Derived.Test.YtmkddcmfofabbaaZd
namespace Go.Proofs.Ytmkddcmfofabbaa
open Go Go.RowKit

/-- A call that returns the number n; of the memory that was there nothing has turned. -/
def RetN (w : World) (n : Int) (e : Ending) (w' : World) : Prop := e = .returned (.int .i64 n) ∧ Below w.heap.size w w'

theorem isZ_sign {w : World} {neg : Bool} {a : Option Addr} {l c : Nat} {n : Int} (h : IsZ w neg (.slice a l c) n) : (l = 0 ↔ n = 0) ∧ neg = decide (n < 0) := by
  obtain ⟨ds, hr, dd, td, hv, hneg⟩ := h
  obtain ⟨a', cap', b, off, e, h1, h2, h3⟩ := hr
  simp only [Value.slice.injEq] at e
  obtain ⟨rfl, rfl, rfl⟩ := e
  refine ⟨?_, hneg⟩
  have ht := tidy_zero dd td
  rw [List.length_eq_zero_iff, ← ht, hv]
  cases neg <;> simp [sgn]

set_option maxRecDepth 100000 in
set_option maxHeartbeats 1600000 in
theorem cmp_z (na nb : Bool) (aa ab : Option Addr) (la ca lb cb : Nat) (m n : Int) (w : World) (hza : IsZ w na (.slice aa la ca) m) (hzb : IsZ w nb (.slice ab lb cb) n) (hm : Fit m) (hn : Fit n) :
    Calls Try.prog 37 #[.agg #[.bool na, .slice aa la ca], .agg #[.bool nb, .slice ab lb cb]] w (RetN w (cmpI m n)) := by
  have hW := below2 w (.cells #[.bool na, .slice aa la ca] 37) (.cells #[.bool nb, .slice ab lb cb] 37)
  go_enter Try.func37, Try.ntmps37
  go_wp2_with fail
  refine (sub_z _ _ _ _ _ _ _ _ m n _ (hza.below hW) (hzb.below hW) hm hn).mono ?_
  rintro e w1 ⟨neg, a, l, c, rfl, hz, hb⟩
  have hb' := hW.trans (hb.mono (by simp; omega))
  have hb2 := Below.alloc hb' hb'.size (.cells #[.bool neg, .slice a l c] 37)
  obtain ⟨h1, h2⟩ := isZ_sign hz
  have H1 := Lib.hid h1
  have H2 := Lib.hid h2
  clear h1 h2 hW hb hb' hz hza hzb
  by_cases hd : l = 0
  · subst hd
    have hc := Lib.hid (cmpI_eq (a := m) (b := n) (by have := H1.out.1 rfl; omega))
    go_wp2_with fail
    go_ret
    exact ⟨by rw [hc.out]; rfl, hb2⟩
  · have hd' : ((l : Int) == 0) = false := by simpa using hd
    have hne : m - n ≠ 0 := fun h => hd (H1.out.2 h)
    have H2' := H2.out
    cases neg
    · have hc := Lib.hid (cmpI_gt (a := m) (b := n) (by simp at H2'; omega))
      clear H2' hne
      go_wp2_with fail
      go_ret
      exact ⟨by rw [hc.out]; rfl, hb2⟩
    · have hc := Lib.hid (cmpI_lt (a := m) (b := n) (by simp at H2'; omega))
      clear H2' hne
      go_wp2_with fail
      go_ret
      exact ⟨by rw [hc.out]; rfl, hb2⟩

theorem fit_zero : Fit 0 := by unfold Fit; have := B_pos 7000; simp; omega

set_option maxRecDepth 100000 in
set_option maxHeartbeats 1600000 in
theorem sign_z (na : Bool) (aa : Option Addr) (la ca : Nat) (m : Int) (w : World) (hza : IsZ w na (.slice aa la ca) m) (hm : Fit m) :
    Calls Try.prog 39 #[.agg #[.bool na, .slice aa la ca]] w (RetN w (cmpI m 0)) := by
  have hW := below1 w (.cells #[.bool na, .slice aa la ca] 37)
  go_enter Try.func39, Try.ntmps39
  go_wp2_with fail
  refine (cmp_z _ _ _ _ _ _ _ _ m 0 _ (hza.below hW) (isZ_zero _) hm fit_zero).mono ?_
  rintro e w1 ⟨rfl, hb⟩
  go_wp2_with fail
  go_ret
  exact ⟨rfl, hW.trans (hb.mono (by simp))⟩

set_option maxRecDepth 100000 in
set_option maxHeartbeats 1600000 in
theorem power_any (n : Nat) (w : World) (hn : n ≤ 1000) :
    Calls Try.prog 94 #[.int .i64 n] w (RetZ w (2 ^ n)) := by
  go_enter Try.func94, Try.ntmps94
  go_wp2_with fail
  refine (ofu_any 1 _ (by omega) (by omega)).mono ?_
  rintro e w1 ⟨neg, a, l, c, rfl, hz, hb⟩
  go_wp2_with fail
  have hR : Box2 (w1.alloc (.cells #[.bool neg, .slice a l c] 37)) w.heap.size (.bool false) (.slice none 0 0) 37 := ((Box2.new rfl).below hb).alloc _
  have hQ : Box2 (w1.alloc (.cells #[.bool neg, .slice a l c] 37)) w1.heap.size (.bool neg) (.slice a l c) 37 := Box2.new rfl
  have hsz := hb.size
  simp only [World.size_alloc] at hsz
  have hbl := Below.alloc ((below1 w (.cells #[.bool false, .slice none 0 0] 37)).trans (hb.mono (by simp))) (by omega) (.cells #[.bool neg, .slice a l c] 37)
  have hz' := hz.below (below1 w1 (.cells #[.bool neg, .slice a l c] 37))
  clear hb hz
  go_loopw [4] (fun i wr => ∃ (k : Nat) (neg : Bool) (a : Option Addr) (l c : Nat), i = .int .i64 k ∧ k ≤ n ∧ Box2 wr w1.heap.size (.bool neg) (.slice a l c) 37 ∧ Box2 wr w.heap.size (.bool false) (.slice none 0 0) 37 ∧ IsZ wr neg (.slice a l c) (2 ^ k) ∧ Below w.heap.size w wr)
    (fun i _ => n - (intOf i).toNat)
  case atStart => exact ⟨0, neg, a, l, c, rfl, Nat.zero_le _, hQ, hR, hz', hbl⟩
  case round =>
    clear hR hQ hbl hz'
    obtain ⟨k, neg, a, l, c, rfl, hk, hQ, hR, hz, hbl⟩ := hrel
    have q0 := hQ.c0
    have q1 := hQ.c1
    by_cases hkn : k < n
    · have hf : Fit (2 ^ k) := (Bits.pow k).fit (by omega)
      go_wp2_with (go_at_call 46; refine (add_z _ _ _ _ _ _ _ _ (2 ^ k) (2 ^ k) _ hz hz hf hf).mono ?_; rintro e w2 ⟨neg2, a2, l2, c2, rfl, hz2, hb2⟩; have p := hQ.below hb2; have p0 := p.c0; have p1 := p.c1; have p2 := p.f0; have p3 := p.f1)
      rw [← pow_succ2] at hz2
      go_roundw
      case rel => exact ⟨k + 1, neg2, a2, l2, c2, by go_num, by omega, p.set _ _, (hR.below hb2).other2 (by omega) _ _, hz2.set2 p.kind (by decide) _ _, below_set2 (hbl.trans (hb2.mono hbl.size)) (by omega) _ _⟩
      case measure => simp [intOf]; omega
    · obtain rfl : k = n := by omega
      have r0 := hR.c0
      have r1 := hR.c1
      have r2 := hR.f0
      have r3 := hR.f1
      go_wp2_with fail
      refine bodyPost_ret (v := .agg #[.bool neg, .slice a l c]) (by simp [results, Try.results94, go_sem, r0, r1]) rfl
        (isZ_end hz hR.kind hbl (Nat.le_refl _) _ _)

set_option maxRecDepth 100000 in
set_option maxHeartbeats 1600000 in
theorem of_any (n : Int) (w : World) (h0 : -9223372036854775808 ≤ n) (h1 : n ≤ 9223372036854775807) :
    Calls Try.prog 42 #[.int .i64 n] w (RetZ w n) := by
  by_cases hn : n < 0
  · go_enter Try.func42, Try.ntmps42
    go_wp2_with fail
    have hR : Box2 (w.alloc (.cells #[.bool false, .slice none 0 0] 37)) w.heap.size (.bool false) (.slice none 0 0) 37 := Box2.new rfl
    have hW := below1 w (.cells #[.bool false, .slice none 0 0] 37)
    have f1 : Bits 64 (-(n + 1)) := by unfold Bits; omega
    have f2 : Bits 64 1 := by unfold Bits; omega
    have f3 : Fit (-(n + 1) + 1) := (f1.add f2).fit (by omega)
    refine (ofu_any (-(n + 1)) _ (by omega) (by omega)).mono ?_
    rintro e w1 ⟨n1, a1, l1, c1, rfl, hz1, hb1⟩
    go_wp2_with fail
    refine (ofu_any 1 _ (by omega) (by omega)).mono ?_
    rintro e w2 ⟨n2, a2, l2, c2, rfl, hz2, hb2⟩
    go_wp2_with fail
    refine (add_z _ _ _ _ _ _ _ _ (-(n + 1)) 1 _ (hz1.below hb2) hz2 (f1.fit (by omega)) (f2.fit (by omega))).mono ?_
    rintro e w3 ⟨n3, a3, l3, c3, rfl, hz3, hb3⟩
    go_wp2_with fail
    refine (sub_z _ _ _ _ _ _ _ _ 0 (-(n + 1) + 1) _ (isZ_zero _) hz3 fit_zero f3).mono ?_
    rintro e w4 ⟨n4, a4, l4, c4, rfl, hz4, hb4⟩
    have q := (((hR.below hb1).below hb2).below hb3).below hb4
    have q0 := q.c0
    have q1 := q.c1
    have q2 := q.f0
    have q3 := q.f1
    have hs1 := hb1.size
    have hs2 := hb2.size
    have hs3 := hb3.size
    simp only [World.size_alloc] at hs1
    rw [show 0 - (-(n + 1) + 1) = n from by omega] at hz4
    go_wp2_with fail
    refine bodyPost_ret (v := .agg #[.bool n4, .slice a4 l4 c4]) (by simp [results, Try.results42, go_sem, q0, q1]) rfl
      (isZ_end hz4 q.kind ((((hW.trans (hb1.mono (by simp))).trans (hb2.mono (by omega))).trans (hb3.mono (by omega))).trans (hb4.mono (by omega))) (Nat.le_refl _) _ _)
  · go_enter Try.func42, Try.ntmps42
    go_wp2_with fail
    have hR : Box2 (w.alloc (.cells #[.bool false, .slice none 0 0] 37)) w.heap.size (.bool false) (.slice none 0 0) 37 := Box2.new rfl
    have hW := below1 w (.cells #[.bool false, .slice none 0 0] 37)
    refine (ofu_any n _ (by omega) (by omega)).mono ?_
    rintro e w1 ⟨n1, a1, l1, c1, rfl, hz1, hb1⟩
    have q := hR.below hb1
    have q0 := q.c0
    have q1 := q.c1
    have q2 := q.f0
    have q3 := q.f1
    go_wp2_with fail
    refine bodyPost_ret (v := .agg #[.bool n1, .slice a1 l1 c1]) (by simp [results, Try.results42, go_sem, q0, q1]) rfl
      (isZ_end hz1 q.kind (hW.trans (hb1.mono (by simp))) (Nat.le_refl _) _ _)
end Go.Proofs.Ytmkddcmfofabbaa
