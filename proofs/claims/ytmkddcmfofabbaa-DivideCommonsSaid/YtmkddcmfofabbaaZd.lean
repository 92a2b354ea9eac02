/-
  Walks of the reference's numbers: Neg, Abs, Add, Sub.
-/
import Derived.Test.YtmkddcmfofabbaaZc
import Derived.Deep.RegionHeld3
namespace Go.Proofs.Ytmkddcmfofabbaa
open Go Go.RowKit

theorem isZ_row {w : World} {neg : Bool} {sv : Value} {n : Int} (h : IsZ w neg sv n) (hn : Fit n) : ∃ ds, Row w sv ds ∧ Digs ds ∧ Tidy ds ∧ val ds = n.natAbs ∧ ds.length ≤ 7000 ∧ neg = decide (n < 0) := by
  obtain ⟨ds, h1, h2, h3, h4, h5⟩ := h
  have h0 := val_nonneg h2
  have e : val ds = n.natAbs := by cases neg <;> simp [sgn] at h4 <;> omega
  exact ⟨ds, h1, h2, h3, e, tidy_len h2 h3 7000 (by rw [e]; exact hn), h5⟩

/-- The end of a function whose result, a number, lies in a block of its own. -/
theorem isZ_end {w w1 : World} {k : Nat} {neg : Bool} {a : Option Addr} {l c : Nat} {n : Int} (hz : IsZ w1 neg (.slice a l c) n) (hk : Kind w1 k 37) (hb : Below w.heap.size w w1) (hle : w.heap.size ≤ k) (u u' : Value) :
    RetZ w n (.returned (.agg #[.bool neg, .slice a l c])) ((w1.setCell ⟨k, 0, none⟩ u).setCell ⟨k, 1, none⟩ u') :=
  ⟨_, _, _, _, rfl, (hz.setCell hk (by decide) _ _).setCell (hk.setCell _ _ _) (by decide) _ _, (hb.setCell hle _).setCell hle _⟩

set_option maxRecDepth 100000 in
set_option maxHeartbeats 1600000 in
theorem neg_any (na : Bool) (aa : Option Addr) (la ca : Nat) (n : Int) (w : World) (hz : IsZ w na (.slice aa la ca) n) (hn : Fit n) :
    Calls Try.prog 50 #[.agg #[.bool na, .slice aa la ca]] w (RetZ w (-n)) := by
  obtain ⟨ds, hr, dd, td, hv, hl, rfl⟩ := isZ_row hz hn
  go_enter Try.func50, Try.ntmps50
  go_wp2_with (go_at_call 97; refine (tidy_any _ _ ds _ (hr.below (((Below.refl _ w).alloc (Nat.le_refl _) _).alloc (by simp) _)) dd (by omega)).mono ?_; rintro e w1 ⟨neg, a1, l1, c1, rfl, hz1, hb1⟩; obtain ⟨hcl, hfr1⟩ := bcell hb1)
  have e : sgn (!decide (n < 0)) (val ds) = -n := by
    rw [hv]
    by_cases h : n < 0 <;> simp [sgn, h] <;> omega
  rw [e] at hz1
  refine bodyPost_ret (v := .agg #[.bool neg, .slice a1 l1 c1]) (by simp [results, Try.results50, go_sem, hcl]) rfl
    (isZ_end hz1 ((Kind.new' (w := w.alloc _) (k := w.heap.size + 1) _ _ (by simp)).below hb1) ((((Below.refl _ w).alloc (Nat.le_refl _) _).alloc (by simp) _).trans (hb1.mono (by simp; omega))) (by simp) _ _)

set_option maxRecDepth 100000 in
set_option maxHeartbeats 1600000 in
theorem abs_any (na : Bool) (aa : Option Addr) (la ca : Nat) (n : Int) (w : World) (hz : IsZ w na (.slice aa la ca) n) (hn : Fit n) :
    Calls Try.prog 64 #[.agg #[.bool na, .slice aa la ca]] w (RetZ w n.natAbs) := by
  obtain ⟨ds, hr, dd, td, hv, hl, rfl⟩ := isZ_row hz hn
  go_enter Try.func64, Try.ntmps64
  go_wp2_with (go_at_call 97; refine (tidy_any _ _ ds _ (hr.below (((Below.refl _ w).alloc (Nat.le_refl _) _).alloc (by simp) _)) dd (by omega)).mono ?_; rintro e w1 ⟨neg, a1, l1, c1, rfl, hz1, hb1⟩; obtain ⟨hcl, hfr1⟩ := bcell hb1)
  have e : sgn false (val ds) = n.natAbs := by rw [hv]; rfl
  rw [e] at hz1
  refine bodyPost_ret (v := .agg #[.bool neg, .slice a1 l1 c1]) (by simp [results, Try.results64, go_sem, hcl]) rfl
    (isZ_end hz1 ((Kind.new' (w := w.alloc _) (k := w.heap.size + 1) _ _ (by simp)).below hb1) ((((Below.refl _ w).alloc (Nat.le_refl _) _).alloc (by simp) _).trans (hb1.mono (by simp; omega))) (by simp) _ _)

theorem add_same {na : Bool} {m n z x y : Int} (hz : z = x + y) (hx : x = m.natAbs) (hy : y = n.natAbs) (ha : na = decide (m < 0)) (hb : na = decide (n < 0)) : sgn na z = m + n := by
  subst hz hx hy ha
  by_cases h1 : m < 0 <;> by_cases h2 : n < 0 <;> simp [sgn, h1, h2] at hb ⊢ <;> omega
theorem add_diff {na nb : Bool} {m n z x y : Int} (hz : z = x - y) (hx : x = m.natAbs) (hy : y = n.natAbs) (ha : na = decide (m < 0)) (hb : nb = decide (n < 0)) (hab : ¬ na = nb) (_ : y ≤ x) : sgn na z = m + n := by
  subst hz hx hy ha hb
  by_cases h1 : m < 0 <;> by_cases h2 : n < 0 <;> simp [sgn, h1, h2] at hab ⊢ <;> omega
theorem add_diff2 {na nb : Bool} {m n z x y : Int} (hz : z = y - x) (hx : x = m.natAbs) (hy : y = n.natAbs) (ha : na = decide (m < 0)) (hb : nb = decide (n < 0)) (hab : ¬ na = nb) (_ : ¬ y ≤ x) : sgn nb z = m + n := by
  subst hz hx hy ha hb
  by_cases h1 : m < 0 <;> by_cases h2 : n < 0 <;> simp [sgn, h1, h2] at hab ⊢ <;> omega

set_option maxRecDepth 100000 in
set_option maxHeartbeats 1600000 in
theorem add_z (na nb : Bool) (aa ab : Option Addr) (la ca lb cb : Nat) (m n : Int) (w : World) (hza : IsZ w na (.slice aa la ca) m) (hzb : IsZ w nb (.slice ab lb cb) n) (hm : Fit m) (hn : Fit n) :
    Calls Try.prog 46 #[.agg #[.bool na, .slice aa la ca], .agg #[.bool nb, .slice ab lb cb]] w (RetZ w (m + n)) := by
  obtain ⟨xs, hrx, dx, tx, hvx, hlx, hna⟩ := isZ_row hza hm
  obtain ⟨ys, hry, dy, ty, hvy, hly, hnb⟩ := isZ_row hzb hn
  obtain ⟨hA, hB, hR⟩ := boxes3 w (.bool na) (.bool nb) (.bool false) (.slice aa la ca) (.slice ab lb cb) (.slice none 0 0) 37 37 37
  have hW := below3 w (.cells #[.bool na, .slice aa la ca] 37) (.cells #[.bool nb, .slice ab lb cb] 37) (.cells #[.bool false, .slice none 0 0] 37)
  have HX := Lib.hid hvx
  have HY := Lib.hid hvy
  have HA := Lib.hid hna
  have HB := Lib.hid hnb
  clear hvx hvy hna hnb
  by_cases hab : na = nb
  · subst hab
    go_enter Try.func46, Try.ntmps46
    go_wp2_with fail
    go_region_held3 (fun w' => w'.cell? ⟨w.heap.size, 0, none⟩ = some (.bool na) ∧ w'.cell? ⟨w.heap.size, 1, none⟩ = some (.slice aa la ca) ∧ w'.cell? ⟨w.heap.size + 1, 0, none⟩ = some (.bool na) ∧ w'.cell? ⟨w.heap.size + 1, 1, none⟩ = some (.slice ab lb cb))
      (first
        | exact s2 ((((hA.drew.below hb1).below hb2).other (by omega) _ _).other (by omega) _ _) ((((hB.drew.below hb1).below hb2).other (by omega) _ _).other (by omega) _ _)
        | exact s2 ((hA.drew.below hb1).below hb2) ((hB.drew.below hb1).below hb2)
        | exact s2 (hA.drew.below hb1) (hB.drew.below hb1)
        | exact s2 hA.drew hB.drew)
      (first
        | (go_at_call 99; refine (plus_any _ _ xs ys _ (hrx.below hW.drew) (hry.below hW.drew) dx dy (by omega) (by omega)).mono ?_; rintro e w1 ⟨v1, zs, rfl, hr1, dz, hvz, hlz, hb1⟩)
        | (go_at_call 97; refine (tidy_any na _ zs _ hr1 dz (by omega)).mono ?_; rintro e w2 ⟨neg2, a2, l2, c2, rfl, hz2, hb2⟩; have q := ((hR.drew.below hb1).below hb2); have q0 := q.c0; have q1 := q.c1; have q2 := q.f0; have q3 := q.f1))
    rw [show sgn na (val zs) = m + n from by exact add_same hvz HX.out HY.out HA.out HB.out] at hz2
    go_wp2_with fail
    refine bodyPost_ret (v := .agg #[.bool neg2, .slice a2 l2 c2]) (by simp [results, Try.results46, go_sem, q0, q1]) rfl
      (isZ_end hz2 q.kind ((hW.drew.trans (hb1.mono (by simp; omega))).trans (hb2.mono (Nat.le_trans (by simp; omega) hb1.size))) (by omega) _ _)
  · have hab' : (na == nb) = false := by simpa using hab
    by_cases hc : val ys ≤ val xs
    · have hc0 : 0 ≤ cmpI (val xs) (val ys) := (cmpI_ge _ _).2 hc
      have hll : ys.length ≤ xs.length := by
        by_cases h : ys.length ≤ xs.length
        · exact h
        · have := less_len dx dy ty (by omega); omega
      go_enter Try.func46, Try.ntmps46
      go_wp2_with (go_at_call 100; refine (compare_any _ _ xs ys _ (hrx.below hW) (hry.below hW) dx dy tx ty (by omega) (by omega)).mono ?_; rintro e w' ⟨rfl, nq, rfl⟩)
      go_region_held3 (fun w' => w'.cell? ⟨w.heap.size, 0, none⟩ = some (.bool na) ∧ w'.cell? ⟨w.heap.size, 1, none⟩ = some (.slice aa la ca) ∧ w'.cell? ⟨w.heap.size + 1, 0, none⟩ = some (.bool nb) ∧ w'.cell? ⟨w.heap.size + 1, 1, none⟩ = some (.slice ab lb cb))
        (first
          | exact s2 (((((hA.drewN nq).drew.below hb1).below hb2).other (by omega) _ _).other (by omega) _ _) (((((hB.drewN nq).drew.below hb1).below hb2).other (by omega) _ _).other (by omega) _ _)
          | exact s2 (((hA.drewN nq).drew.below hb1).below hb2) (((hB.drewN nq).drew.below hb1).below hb2)
          | exact s2 ((hA.drewN nq).drew.below hb1) ((hB.drewN nq).drew.below hb1)
          | exact s2 (hA.drewN nq).drew (hB.drewN nq).drew)
        (first
          | (go_at_call 101; refine (minus_any _ _ xs ys _ (hrx.below (below_drewN hW nq).drew) (hry.below (below_drewN hW nq).drew) dx dy (by omega) hll hc).mono ?_; rintro e w1 ⟨v1, zs, rfl, hr1, dz, hvz, hlz, hb1⟩)
          | (go_at_call 97; refine (tidy_any na _ zs _ hr1 dz (by omega)).mono ?_; rintro e w2 ⟨neg2, a2, l2, c2, rfl, hz2, hb2⟩; have q := (((hR.drewN nq).drew.below hb1).below hb2); have q0 := q.c0; have q1 := q.c1; have q2 := q.f0; have q3 := q.f1))
      rw [show sgn na (val zs) = m + n from by exact add_diff hvz HX.out HY.out HA.out HB.out hab (by omega)] at hz2
      go_wp2_with fail
      refine bodyPost_ret (v := .agg #[.bool neg2, .slice a2 l2 c2]) (by simp [results, Try.results46, go_sem, q0, q1]) rfl
        (isZ_end hz2 q.kind (((below_drewN hW nq).drew.trans (hb1.mono (by simp; omega))).trans (hb2.mono (Nat.le_trans (by simp; omega) hb1.size))) (by omega) _ _)
    · have hc0 : cmpI (val xs) (val ys) < 0 := by have := cmpI_ge (val xs) (val ys); omega
      have hll : xs.length ≤ ys.length := by
        by_cases h : xs.length ≤ ys.length
        · exact h
        · have := less_len dy dx tx (by omega); omega
      go_enter Try.func46, Try.ntmps46
      go_wp2_with (go_at_call 100; refine (compare_any _ _ xs ys _ (hrx.below hW) (hry.below hW) dx dy tx ty (by omega) (by omega)).mono ?_; rintro e w' ⟨rfl, nq, rfl⟩)
      go_region_held3 (fun w' => w'.cell? ⟨w.heap.size, 0, none⟩ = some (.bool na) ∧ w'.cell? ⟨w.heap.size, 1, none⟩ = some (.slice aa la ca) ∧ w'.cell? ⟨w.heap.size + 1, 0, none⟩ = some (.bool nb) ∧ w'.cell? ⟨w.heap.size + 1, 1, none⟩ = some (.slice ab lb cb))
        (first
          | exact s2 (((((hA.drewN nq).drew.below hb1).below hb2).other (by omega) _ _).other (by omega) _ _) (((((hB.drewN nq).drew.below hb1).below hb2).other (by omega) _ _).other (by omega) _ _)
          | exact s2 (((hA.drewN nq).drew.below hb1).below hb2) (((hB.drewN nq).drew.below hb1).below hb2)
          | exact s2 ((hA.drewN nq).drew.below hb1) ((hB.drewN nq).drew.below hb1)
          | exact s2 (hA.drewN nq).drew (hB.drewN nq).drew)
        (first
          | (go_at_call 101; refine (minus_any _ _ ys xs _ (hry.below (below_drewN hW nq).drew) (hrx.below (below_drewN hW nq).drew) dy dx (by omega) hll (by omega)).mono ?_; rintro e w1 ⟨v1, zs, rfl, hr1, dz, hvz, hlz, hb1⟩)
          | (go_at_call 97; refine (tidy_any nb _ zs _ hr1 dz (by omega)).mono ?_; rintro e w2 ⟨neg2, a2, l2, c2, rfl, hz2, hb2⟩; have q := (((hR.drewN nq).drew.below hb1).below hb2); have q0 := q.c0; have q1 := q.c1; have q2 := q.f0; have q3 := q.f1))
      rw [show sgn nb (val zs) = m + n from by exact add_diff2 hvz HX.out HY.out HA.out HB.out hab (by omega)] at hz2
      go_wp2_with fail
      refine bodyPost_ret (v := .agg #[.bool neg2, .slice a2 l2 c2]) (by simp [results, Try.results46, go_sem, q0, q1]) rfl
        (isZ_end hz2 q.kind (((below_drewN hW nq).drew.trans (hb1.mono (by simp; omega))).trans (hb2.mono (Nat.le_trans (by simp; omega) hb1.size))) (by omega) _ _)

set_option maxRecDepth 100000 in
set_option maxHeartbeats 400000 in
theorem sub_z (na nb : Bool) (aa ab : Option Addr) (la ca lb cb : Nat) (m n : Int) (w : World) (hza : IsZ w na (.slice aa la ca) m) (hzb : IsZ w nb (.slice ab lb cb) n) (hm : Fit m) (hn : Fit n) :
    Calls Try.prog 48 #[.agg #[.bool na, .slice aa la ca], .agg #[.bool nb, .slice ab lb cb]] w (RetZ w (m - n)) := by
  obtain ⟨hA, hB, hR⟩ := boxes3 w (.bool na) (.bool nb) (.bool false) (.slice aa la ca) (.slice ab lb cb) (.slice none 0 0) 37 37 37
  go_enter Try.func48, Try.ntmps48
  go_wp2_with fail
  go_region_held3 (fun w' => w'.cell? ⟨w.heap.size, 0, none⟩ = some (.bool na) ∧ w'.cell? ⟨w.heap.size, 1, none⟩ = some (.slice aa la ca) ∧ w'.cell? ⟨w.heap.size + 1, 0, none⟩ = some (.bool nb) ∧ w'.cell? ⟨w.heap.size + 1, 1, none⟩ = some (.slice ab lb cb))
    (first
      | exact s2 ((((hA.drew.below hb1).below hb2).other (by omega) _ _).other (by omega) _ _) ((((hB.drew.below hb1).below hb2).other (by omega) _ _).other (by omega) _ _)
      | exact s2 ((hA.drew.below hb1).below hb2) ((hB.drew.below hb1).below hb2)
      | exact s2 (hA.drew.below hb1) (hB.drew.below hb1)
      | exact s2 hA.drew hB.drew)
    (first
      | (go_at_call 50; refine (neg_any _ _ _ _ n _ (hzb.below (below3 w _ _ _).drew) hn).mono ?_; rintro e w1 ⟨neg, a1, l1, c1, rfl, hz1, hb1⟩)
      | (go_at_call 46; refine (add_z _ _ _ _ _ _ _ _ m (-n) _ (hza.below ((below3 w _ _ _).drew.trans (hb1.mono (by simp; omega)))) hz1 hm hn.neg).mono ?_; rintro e w2 ⟨neg2, a2, l2, c2, rfl, hz2, hb2⟩; have q := ((hR.drew.below hb1).below hb2); have q0 := q.c0; have q1 := q.c1; have q2 := q.f0; have q3 := q.f1))
  rw [show m + -n = m - n from by omega] at hz2
  go_wp2_with fail
  refine bodyPost_ret (v := .agg #[.bool neg2, .slice a2 l2 c2]) (by simp [results, Try.results48, go_sem, q0, q1]) rfl
    (isZ_end hz2 q.kind (((below3 w _ _ _).drew.trans (hb1.mono (by simp; omega))).trans (hb2.mono (Nat.le_trans (by simp; omega) hb1.size))) (by omega) _ _)

end Go.Proofs.Ytmkddcmfofabbaa
