/-
  Walks of the reference's numbers: Neg, Abs, Add, Sub.
-/
import Derived.Test.YtcndfpfjckkinaaGa
import Derived.Deep.RegionHeld3
import Derived.Deep.RegionWith
import Derived.OrdersHeld
namespace Go.Proofs.Ytcndfpfjckkinaa
open Go Go.RowKit

theorem isZ_row {w : World} {neg : Bool} {sv : Value} {n : Int} (h : IsZ w neg sv n) (hn : Fit n) : ∃ ds, Row w sv ds ∧ Digs ds ∧ Tidy ds ∧ val ds = n.natAbs ∧ ds.length ≤ 7000 ∧ neg = decide (n < 0) := by
  obtain ⟨ds, h1, h2, h3, h4, h5⟩ := h
  have h0 := val_nonneg h2
  have e : val ds = n.natAbs := by cases neg <;> simp [sgn] at h4 <;> omega
  exact ⟨ds, h1, h2, h3, e, tidy_len h2 h3 7000 (by rw [e]; exact hn), h5⟩

/-- The end of a function whose result, a number, lies in a block of its own. -/
theorem isZ_end {w w1 : World} {k : Nat} {neg : Bool} {a : Option Addr} {l c : Nat} {n : Int} (hz : IsZ w1 neg (.slice a l c) n) (hk : Kind w1 k 47) (hb : Below w.heap.size w w1) (hle : w.heap.size ≤ k) (u u' : Value) :
    RetZ w n (.returned (.agg #[.bool neg, .slice a l c])) ((w1.setCell ⟨k, 0, none⟩ u).setCell ⟨k, 1, none⟩ u') :=
  ⟨_, _, _, _, rfl, (hz.setCell hk (by decide) _ _).setCell (hk.setCell _ _ _) (by decide) _ _, (hb.setCell hle _).setCell hle _⟩

set_option maxRecDepth 100000 in
set_option maxHeartbeats 1600000 in
theorem neg_any (na : Bool) (aa : Option Addr) (la ca : Nat) (n : Int) (w : World) (hz : IsZ w na (.slice aa la ca) n) (hn : Fit n) :
    Calls Try.prog 128 #[.agg #[.bool na, .slice aa la ca]] w (RetZ w (-n)) := by
  obtain ⟨ds, hr, dd, td, hv, hl, rfl⟩ := isZ_row hz hn
  go_enter Try.func128, Try.ntmps128
  go_wp2_with (go_at_call 182; refine (tidy_any _ _ ds _ (hr.below (((Below.refl _ w).alloc (Nat.le_refl _) _).alloc (by simp) _)) dd (by omega)).mono ?_; rintro e w1 ⟨neg, a1, l1, c1, rfl, hz1, hb1⟩; obtain ⟨hcl, hfr1⟩ := bcell hb1)
  have e : sgn (!decide (n < 0)) (val ds) = -n := by
    rw [hv]
    by_cases h : n < 0 <;> simp [sgn, h] <;> omega
  rw [e] at hz1
  refine bodyPost_ret (v := .agg #[.bool neg, .slice a1 l1 c1]) (by simp [results, Try.results128, go_sem, hcl]) rfl
    (isZ_end hz1 ((Kind.new' (w := w.alloc _) (k := w.heap.size + 1) _ _ (by simp)).below hb1) ((((Below.refl _ w).alloc (Nat.le_refl _) _).alloc (by simp) _).trans (hb1.mono (by simp; omega))) (by simp) _ _)

set_option maxRecDepth 100000 in
set_option maxHeartbeats 1600000 in
theorem abs_any (na : Bool) (aa : Option Addr) (la ca : Nat) (n : Int) (w : World) (hz : IsZ w na (.slice aa la ca) n) (hn : Fit n) :
    Calls Try.prog 136 #[.agg #[.bool na, .slice aa la ca]] w (RetZ w n.natAbs) := by
  obtain ⟨ds, hr, dd, td, hv, hl, rfl⟩ := isZ_row hz hn
  go_enter Try.func136, Try.ntmps136
  go_wp2_with (go_at_call 182; refine (tidy_any _ _ ds _ (hr.below (((Below.refl _ w).alloc (Nat.le_refl _) _).alloc (by simp) _)) dd (by omega)).mono ?_; rintro e w1 ⟨neg, a1, l1, c1, rfl, hz1, hb1⟩; obtain ⟨hcl, hfr1⟩ := bcell hb1)
  have e : sgn false (val ds) = n.natAbs := by rw [hv]; rfl
  rw [e] at hz1
  refine bodyPost_ret (v := .agg #[.bool neg, .slice a1 l1 c1]) (by simp [results, Try.results136, go_sem, hcl]) rfl
    (isZ_end hz1 ((Kind.new' (w := w.alloc _) (k := w.heap.size + 1) _ _ (by simp)).below hb1) ((((Below.refl _ w).alloc (Nat.le_refl _) _).alloc (by simp) _).trans (hb1.mono (by simp; omega))) (by simp) _ _)

theorem add_same {na : Bool} {m n z x y : Int} (hz : z = x + y) (hx : x = m.natAbs) (hy : y = n.natAbs) (ha : na = decide (m < 0)) (hb : na = decide (n < 0)) : sgn na z = m + n := by
  subst hz hx hy ha
  by_cases h1 : m < 0 <;> by_cases h2 : n < 0 <;> simp [sgn, h1, h2] at hb ⊢ <;> omega
theorem add_diff {na nb : Bool} {m n z x y : Int} (hz : z = x - y) (hx : x = m.natAbs) (hy : y = n.natAbs) (ha : na = decide (m < 0)) (hb : nb = decide (n < 0)) (hab : ¬ na = nb) (_ : y ≤ x) : sgn na z = m + n := by
  subst hz hx hy ha hb
  by_cases h1 : m < 0 <;> by_cases h2 : n < 0 <;> simp [sgn, h1, h2] at hab ⊢ <;> omega
theorem add_diff2 {na nb : Bool} {m n z x y : Int} (hz : z = y - x) (hx : x = m.natAbs) (hy : y = n.natAbs) (ha : na = decide (m < 0)) (hb : nb = decide (n < 0)) (hab : ¬ na = nb) (_ : ¬ y ≤ x) : sgn nb z = m + n := by
  subst hz hx hy ha hb
  by_cases h1 : m < 0 <;> by_cases h2 : n < 0 <;> simp [sgn, h1, h2] at hab ⊢ <;> omega

set_option maxRecDepth 100000 in
set_option maxHeartbeats 1600000 in
theorem add_z (na nb : Bool) (aa ab : Option Addr) (la ca lb cb : Nat) (m n : Int) (w : World) (hza : IsZ w na (.slice aa la ca) m) (hzb : IsZ w nb (.slice ab lb cb) n) (hm : Fit m) (hn : Fit n) :
    Calls Try.prog 125 #[.agg #[.bool na, .slice aa la ca], .agg #[.bool nb, .slice ab lb cb]] w (RetZ w (m + n)) := by
  obtain ⟨xs, hrx, dx, tx, hvx, hlx, hna⟩ := isZ_row hza hm
  obtain ⟨ys, hry, dy, ty, hvy, hly, hnb⟩ := isZ_row hzb hn
  obtain ⟨hA, hB, hR⟩ := boxes3 w (.bool na) (.bool nb) (.bool false) (.slice aa la ca) (.slice ab lb cb) (.slice none 0 0) 47 47 47
  have hW := below3 w (.cells #[.bool na, .slice aa la ca] 47) (.cells #[.bool nb, .slice ab lb cb] 47) (.cells #[.bool false, .slice none 0 0] 47)
  have HX := Lib.hid hvx
  have HY := Lib.hid hvy
  have HA := Lib.hid hna
  have HB := Lib.hid hnb
  clear hvx hvy hna hnb
  by_cases hab : na = nb
  · subst hab
    go_enter Try.func125, Try.ntmps125
    go_wp2_with fail
    go_region_held3 (fun w' => w'.cell? ⟨w.heap.size, 0, none⟩ = some (.bool na) ∧ w'.cell? ⟨w.heap.size, 1, none⟩ = some (.slice aa la ca) ∧ w'.cell? ⟨w.heap.size + 1, 0, none⟩ = some (.bool na) ∧ w'.cell? ⟨w.heap.size + 1, 1, none⟩ = some (.slice ab lb cb))
      (first
        | exact s2 ((((hA.drew.below hb1).below hb2).other (by omega) _ _).other (by omega) _ _) ((((hB.drew.below hb1).below hb2).other (by omega) _ _).other (by omega) _ _)
        | exact s2 ((hA.drew.below hb1).below hb2) ((hB.drew.below hb1).below hb2)
        | exact s2 (hA.drew.below hb1) (hB.drew.below hb1)
        | exact s2 hA.drew hB.drew)
      (first
        | (go_at_call 190; refine (plus_any _ _ xs ys _ (hrx.below hW.drew) (hry.below hW.drew) dx dy (by omega) (by omega)).mono ?_; rintro e w1 ⟨v1, zs, rfl, hr1, dz, hvz, hlz, hb1⟩)
        | (go_at_call 182; refine (tidy_any na _ zs _ hr1 dz (by omega)).mono ?_; rintro e w2 ⟨neg2, a2, l2, c2, rfl, hz2, hb2⟩; have q := ((hR.drew.below hb1).below hb2); have q0 := q.c0; have q1 := q.c1; have q2 := q.f0; have q3 := q.f1))
    rw [show sgn na (val zs) = m + n from by exact add_same hvz HX.out HY.out HA.out HB.out] at hz2
    go_wp2_with fail
    refine bodyPost_ret (v := .agg #[.bool neg2, .slice a2 l2 c2]) (by simp [results, Try.results125, go_sem, q0, q1]) rfl
      (isZ_end hz2 q.kind ((hW.drew.trans (hb1.mono (by simp; omega))).trans (hb2.mono (Nat.le_trans (by simp; omega) hb1.size))) (by omega) _ _)
  · have hab' : (na == nb) = false := by simpa using hab
    by_cases hc : val ys ≤ val xs
    · have hc0 : 0 ≤ cmpI (val xs) (val ys) := (cmpI_ge _ _).2 hc
      have hll : ys.length ≤ xs.length := by
        by_cases h : ys.length ≤ xs.length
        · exact h
        · have := less_len dx dy ty (by omega); omega
      go_enter Try.func125, Try.ntmps125
      go_wp2_with (go_at_call 191; refine (compare_any _ _ xs ys _ (hrx.below hW) (hry.below hW) dx dy tx ty (by omega) (by omega)).mono ?_; rintro e w' ⟨rfl, nq, rfl⟩)
      go_region_held3 (fun w' => w'.cell? ⟨w.heap.size, 0, none⟩ = some (.bool na) ∧ w'.cell? ⟨w.heap.size, 1, none⟩ = some (.slice aa la ca) ∧ w'.cell? ⟨w.heap.size + 1, 0, none⟩ = some (.bool nb) ∧ w'.cell? ⟨w.heap.size + 1, 1, none⟩ = some (.slice ab lb cb))
        (first
          | exact s2 (((((hA.drewN nq).drew.below hb1).below hb2).other (by omega) _ _).other (by omega) _ _) (((((hB.drewN nq).drew.below hb1).below hb2).other (by omega) _ _).other (by omega) _ _)
          | exact s2 (((hA.drewN nq).drew.below hb1).below hb2) (((hB.drewN nq).drew.below hb1).below hb2)
          | exact s2 ((hA.drewN nq).drew.below hb1) ((hB.drewN nq).drew.below hb1)
          | exact s2 (hA.drewN nq).drew (hB.drewN nq).drew)
        (first
          | (go_at_call 192; refine (minus_any _ _ xs ys _ (hrx.below (below_drewN hW nq).drew) (hry.below (below_drewN hW nq).drew) dx dy (by omega) hll hc).mono ?_; rintro e w1 ⟨v1, zs, rfl, hr1, dz, hvz, hlz, hb1⟩)
          | (go_at_call 182; refine (tidy_any na _ zs _ hr1 dz (by omega)).mono ?_; rintro e w2 ⟨neg2, a2, l2, c2, rfl, hz2, hb2⟩; have q := (((hR.drewN nq).drew.below hb1).below hb2); have q0 := q.c0; have q1 := q.c1; have q2 := q.f0; have q3 := q.f1))
      rw [show sgn na (val zs) = m + n from by exact add_diff hvz HX.out HY.out HA.out HB.out hab (by omega)] at hz2
      go_wp2_with fail
      refine bodyPost_ret (v := .agg #[.bool neg2, .slice a2 l2 c2]) (by simp [results, Try.results125, go_sem, q0, q1]) rfl
        (isZ_end hz2 q.kind (((below_drewN hW nq).drew.trans (hb1.mono (by simp; omega))).trans (hb2.mono (Nat.le_trans (by simp; omega) hb1.size))) (by omega) _ _)
    · have hc0 : cmpI (val xs) (val ys) < 0 := by have := cmpI_ge (val xs) (val ys); omega
      have hll : xs.length ≤ ys.length := by
        by_cases h : xs.length ≤ ys.length
        · exact h
        · have := less_len dy dx tx (by omega); omega
      go_enter Try.func125, Try.ntmps125
      go_wp2_with (go_at_call 191; refine (compare_any _ _ xs ys _ (hrx.below hW) (hry.below hW) dx dy tx ty (by omega) (by omega)).mono ?_; rintro e w' ⟨rfl, nq, rfl⟩)
      go_region_held3 (fun w' => w'.cell? ⟨w.heap.size, 0, none⟩ = some (.bool na) ∧ w'.cell? ⟨w.heap.size, 1, none⟩ = some (.slice aa la ca) ∧ w'.cell? ⟨w.heap.size + 1, 0, none⟩ = some (.bool nb) ∧ w'.cell? ⟨w.heap.size + 1, 1, none⟩ = some (.slice ab lb cb))
        (first
          | exact s2 (((((hA.drewN nq).drew.below hb1).below hb2).other (by omega) _ _).other (by omega) _ _) (((((hB.drewN nq).drew.below hb1).below hb2).other (by omega) _ _).other (by omega) _ _)
          | exact s2 (((hA.drewN nq).drew.below hb1).below hb2) (((hB.drewN nq).drew.below hb1).below hb2)
          | exact s2 ((hA.drewN nq).drew.below hb1) ((hB.drewN nq).drew.below hb1)
          | exact s2 (hA.drewN nq).drew (hB.drewN nq).drew)
        (first
          | (go_at_call 192; refine (minus_any _ _ ys xs _ (hry.below (below_drewN hW nq).drew) (hrx.below (below_drewN hW nq).drew) dy dx (by omega) hll (by omega)).mono ?_; rintro e w1 ⟨v1, zs, rfl, hr1, dz, hvz, hlz, hb1⟩)
          | (go_at_call 182; refine (tidy_any nb _ zs _ hr1 dz (by omega)).mono ?_; rintro e w2 ⟨neg2, a2, l2, c2, rfl, hz2, hb2⟩; have q := (((hR.drewN nq).drew.below hb1).below hb2); have q0 := q.c0; have q1 := q.c1; have q2 := q.f0; have q3 := q.f1))
      rw [show sgn nb (val zs) = m + n from by exact add_diff2 hvz HX.out HY.out HA.out HB.out hab (by omega)] at hz2
      go_wp2_with fail
      refine bodyPost_ret (v := .agg #[.bool neg2, .slice a2 l2 c2]) (by simp [results, Try.results125, go_sem, q0, q1]) rfl
        (isZ_end hz2 q.kind (((below_drewN hW nq).drew.trans (hb1.mono (by simp; omega))).trans (hb2.mono (Nat.le_trans (by simp; omega) hb1.size))) (by omega) _ _)

set_option maxRecDepth 100000 in
set_option maxHeartbeats 400000 in
theorem sub_z (na nb : Bool) (aa ab : Option Addr) (la ca lb cb : Nat) (m n : Int) (w : World) (hza : IsZ w na (.slice aa la ca) m) (hzb : IsZ w nb (.slice ab lb cb) n) (hm : Fit m) (hn : Fit n) :
    Calls Try.prog 46 #[.agg #[.bool na, .slice aa la ca], .agg #[.bool nb, .slice ab lb cb]] w (RetZ w (m - n)) := by
  obtain ⟨hA, hB, hR⟩ := boxes3 w (.bool na) (.bool nb) (.bool false) (.slice aa la ca) (.slice ab lb cb) (.slice none 0 0) 47 47 47
  go_enter Try.func46, Try.ntmps46
  go_wp2_with fail
  go_region_held3 (fun w' => w'.cell? ⟨w.heap.size, 0, none⟩ = some (.bool na) ∧ w'.cell? ⟨w.heap.size, 1, none⟩ = some (.slice aa la ca) ∧ w'.cell? ⟨w.heap.size + 1, 0, none⟩ = some (.bool nb) ∧ w'.cell? ⟨w.heap.size + 1, 1, none⟩ = some (.slice ab lb cb))
    (first
      | exact s2 ((((hA.drew.below hb1).below hb2).other (by omega) _ _).other (by omega) _ _) ((((hB.drew.below hb1).below hb2).other (by omega) _ _).other (by omega) _ _)
      | exact s2 ((hA.drew.below hb1).below hb2) ((hB.drew.below hb1).below hb2)
      | exact s2 (hA.drew.below hb1) (hB.drew.below hb1)
      | exact s2 hA.drew hB.drew)
    (first
      | (go_at_call 128; refine (neg_any _ _ _ _ n _ (hzb.below (below3 w _ _ _).drew) hn).mono ?_; rintro e w1 ⟨neg, a1, l1, c1, rfl, hz1, hb1⟩)
      | (go_at_call 125; refine (add_z _ _ _ _ _ _ _ _ m (-n) _ (hza.below ((below3 w _ _ _).drew.trans (hb1.mono (by simp; omega)))) hz1 hm hn.neg).mono ?_; rintro e w2 ⟨neg2, a2, l2, c2, rfl, hz2, hb2⟩; have q := ((hR.drew.below hb1).below hb2); have q0 := q.c0; have q1 := q.c1; have q2 := q.f0; have q3 := q.f1))
  rw [show m + -n = m - n from by omega] at hz2
  go_wp2_with fail
  refine bodyPost_ret (v := .agg #[.bool neg2, .slice a2 l2 c2]) (by simp [results, Try.results46, go_sem, q0, q1]) rfl
    (isZ_end hz2 q.kind (((below3 w _ _ _).drew.trans (hb1.mono (by simp; omega))).trans (hb2.mono (Nat.le_trans (by simp; omega) hb1.size))) (by omega) _ _)

end Go.Proofs.Ytcndfpfjckkinaa

/-
  Walks of the reference's numbers: Cmp, Sign, Power, Of.
-/
namespace Go.Proofs.Ytcndfpfjckkinaa
open Go Go.RowKit

/-- A call that returns the number n; of the memory that was there nothing has turned. -/
def RetN (w : World) (n : Int) (e : Ending) (w' : World) : Prop := e = .returned (.int .i64 n) ∧ Below w.heap.size w w'

theorem isZ_sign {w : World} {neg : Bool} {a : Option Addr} {l c : Nat} {n : Int} (h : IsZ w neg (.slice a l c) n) : (l = 0 ↔ n = 0) ∧ neg = decide (n < 0) := by
  obtain ⟨ds, hr, dd, td, hv, hneg⟩ := h
  obtain ⟨a', cap', b, off, e, h1, h2, h3⟩ := hr
  simp only [Value.slice.injEq] at e
  obtain ⟨rfl, rfl, rfl⟩ := e
  refine ⟨?_, hneg⟩
  have ht := tidy_zero dd td
  rw [List.length_eq_zero_iff, ← ht, hv]
  cases neg <;> simp [sgn]

set_option maxRecDepth 100000 in
set_option maxHeartbeats 1600000 in
theorem cmp_z (na nb : Bool) (aa ab : Option Addr) (la ca lb cb : Nat) (m n : Int) (w : World) (hza : IsZ w na (.slice aa la ca) m) (hzb : IsZ w nb (.slice ab lb cb) n) (hm : Fit m) (hn : Fit n) :
    Calls Try.prog 45 #[.agg #[.bool na, .slice aa la ca], .agg #[.bool nb, .slice ab lb cb]] w (RetN w (cmpI m n)) := by
  have hW := below2 w (.cells #[.bool na, .slice aa la ca] 47) (.cells #[.bool nb, .slice ab lb cb] 47)
  go_enter Try.func45, Try.ntmps45
  go_wp2_with fail
  refine (sub_z _ _ _ _ _ _ _ _ m n _ (hza.below hW) (hzb.below hW) hm hn).mono ?_
  rintro e w1 ⟨neg, a, l, c, rfl, hz, hb⟩
  have hb' := hW.trans (hb.mono (by simp; omega))
  have hb2 := Below.alloc hb' hb'.size (.cells #[.bool neg, .slice a l c] 47)
  obtain ⟨h1, h2⟩ := isZ_sign hz
  have H1 := Lib.hid h1
  have H2 := Lib.hid h2
  clear h1 h2 hW hb hb' hz hza hzb
  by_cases hd : l = 0
  · subst hd
    have hc := Lib.hid (cmpI_eq (a := m) (b := n) (by have := H1.out.1 rfl; omega))
    go_wp2_with fail
    go_ret
    exact ⟨by rw [hc.out]; rfl, hb2⟩
  · have hd' : ((l : Int) == 0) = false := by simpa using hd
    have hne : m - n ≠ 0 := fun h => hd (H1.out.2 h)
    have H2' := H2.out
    cases neg
    · have hc := Lib.hid (cmpI_gt (a := m) (b := n) (by simp at H2'; omega))
      clear H2' hne
      go_wp2_with fail
      go_ret
      exact ⟨by rw [hc.out]; rfl, hb2⟩
    · have hc := Lib.hid (cmpI_lt (a := m) (b := n) (by simp at H2'; omega))
      clear H2' hne
      go_wp2_with fail
      go_ret
      exact ⟨by rw [hc.out]; rfl, hb2⟩

theorem fit_zero : Fit 0 := by unfold Fit; have := B_pos 7000; simp; omega

set_option maxRecDepth 100000 in
set_option maxHeartbeats 1600000 in
theorem sign_z (na : Bool) (aa : Option Addr) (la ca : Nat) (m : Int) (w : World) (hza : IsZ w na (.slice aa la ca) m) (hm : Fit m) :
    Calls Try.prog 146 #[.agg #[.bool na, .slice aa la ca]] w (RetN w (cmpI m 0)) := by
  have hW := below1 w (.cells #[.bool na, .slice aa la ca] 47)
  go_enter Try.func146, Try.ntmps146
  go_wp2_with fail
  refine (cmp_z _ _ _ _ _ _ _ _ m 0 _ (hza.below hW) (isZ_zero _) hm fit_zero).mono ?_
  rintro e w1 ⟨rfl, hb⟩
  go_wp2_with fail
  go_ret
  exact ⟨rfl, hW.trans (hb.mono (by simp))⟩

set_option maxRecDepth 100000 in
set_option maxHeartbeats 1600000 in
theorem power_any (n : Nat) (w : World) (hn : n ≤ 1000) :
    Calls Try.prog 126 #[.int .i64 n] w (RetZ w (2 ^ n)) := by
  go_enter Try.func126, Try.ntmps126
  go_wp2_with fail
  refine (ofu_any 1 _ (by omega) (by omega)).mono ?_
  rintro e w1 ⟨neg, a, l, c, rfl, hz, hb⟩
  go_wp2_with fail
  have hR : Box2 (w1.alloc (.cells #[.bool neg, .slice a l c] 47)) w.heap.size (.bool false) (.slice none 0 0) 47 := ((Box2.new rfl).below hb).alloc _
  have hQ : Box2 (w1.alloc (.cells #[.bool neg, .slice a l c] 47)) w1.heap.size (.bool neg) (.slice a l c) 47 := Box2.new rfl
  have hsz := hb.size
  simp only [World.size_alloc] at hsz
  have hbl := Below.alloc ((below1 w (.cells #[.bool false, .slice none 0 0] 47)).trans (hb.mono (by simp))) (by omega) (.cells #[.bool neg, .slice a l c] 47)
  have hz' := hz.below (below1 w1 (.cells #[.bool neg, .slice a l c] 47))
  clear hb hz
  go_loopw [4] (fun i wr => ∃ (k : Nat) (neg : Bool) (a : Option Addr) (l c : Nat), i = .int .i64 k ∧ k ≤ n ∧ Box2 wr w1.heap.size (.bool neg) (.slice a l c) 47 ∧ Box2 wr w.heap.size (.bool false) (.slice none 0 0) 47 ∧ IsZ wr neg (.slice a l c) (2 ^ k) ∧ Below w.heap.size w wr)
    (fun i _ => n - (intOf i).toNat)
  case atStart => exact ⟨0, neg, a, l, c, rfl, Nat.zero_le _, hQ, hR, hz', hbl⟩
  case round =>
    clear hR hQ hbl hz'
    obtain ⟨k, neg, a, l, c, rfl, hk, hQ, hR, hz, hbl⟩ := hrel
    have q0 := hQ.c0
    have q1 := hQ.c1
    by_cases hkn : k < n
    · have hf : Fit (2 ^ k) := (Bits.pow k).fit (by omega)
      go_wp2_with (go_at_call 125; refine (add_z _ _ _ _ _ _ _ _ (2 ^ k) (2 ^ k) _ hz hz hf hf).mono ?_; rintro e w2 ⟨neg2, a2, l2, c2, rfl, hz2, hb2⟩; have p := hQ.below hb2; have p0 := p.c0; have p1 := p.c1; have p2 := p.f0; have p3 := p.f1)
      rw [← pow_succ2] at hz2
      go_roundw
      case rel => exact ⟨k + 1, neg2, a2, l2, c2, by go_num, by omega, p.set _ _, (hR.below hb2).other2 (by omega) _ _, hz2.set2 p.kind (by decide) _ _, below_set2 (hbl.trans (hb2.mono hbl.size)) (by omega) _ _⟩
      case measure => simp [intOf]; omega
    · obtain rfl : k = n := by omega
      have r0 := hR.c0
      have r1 := hR.c1
      have r2 := hR.f0
      have r3 := hR.f1
      go_wp2_with fail
      refine bodyPost_ret (v := .agg #[.bool neg, .slice a l c]) (by simp [results, Try.results126, go_sem, r0, r1]) rfl
        (isZ_end hz hR.kind hbl (Nat.le_refl _) _ _)

set_option maxRecDepth 100000 in
set_option maxHeartbeats 1600000 in
theorem of_any (n : Int) (w : World) (h0 : -9223372036854775808 ≤ n) (h1 : n ≤ 9223372036854775807) :
    Calls Try.prog 109 #[.int .i64 n] w (RetZ w n) := by
  by_cases hn : n < 0
  · go_enter Try.func109, Try.ntmps109
    go_wp2_with fail
    have hR : Box2 (w.alloc (.cells #[.bool false, .slice none 0 0] 47)) w.heap.size (.bool false) (.slice none 0 0) 47 := Box2.new rfl
    have hW := below1 w (.cells #[.bool false, .slice none 0 0] 47)
    have f1 : Bits 64 (-(n + 1)) := by unfold Bits; omega
    have f2 : Bits 64 1 := by unfold Bits; omega
    have f3 : Fit (-(n + 1) + 1) := (f1.add f2).fit (by omega)
    refine (ofu_any (-(n + 1)) _ (by omega) (by omega)).mono ?_
    rintro e w1 ⟨n1, a1, l1, c1, rfl, hz1, hb1⟩
    go_wp2_with fail
    refine (ofu_any 1 _ (by omega) (by omega)).mono ?_
    rintro e w2 ⟨n2, a2, l2, c2, rfl, hz2, hb2⟩
    go_wp2_with fail
    refine (add_z _ _ _ _ _ _ _ _ (-(n + 1)) 1 _ (hz1.below hb2) hz2 (f1.fit (by omega)) (f2.fit (by omega))).mono ?_
    rintro e w3 ⟨n3, a3, l3, c3, rfl, hz3, hb3⟩
    go_wp2_with fail
    refine (sub_z _ _ _ _ _ _ _ _ 0 (-(n + 1) + 1) _ (isZ_zero _) hz3 fit_zero f3).mono ?_
    rintro e w4 ⟨n4, a4, l4, c4, rfl, hz4, hb4⟩
    have q := (((hR.below hb1).below hb2).below hb3).below hb4
    have q0 := q.c0
    have q1 := q.c1
    have q2 := q.f0
    have q3 := q.f1
    have hs1 := hb1.size
    have hs2 := hb2.size
    have hs3 := hb3.size
    simp only [World.size_alloc] at hs1
    rw [show 0 - (-(n + 1) + 1) = n from by omega] at hz4
    go_wp2_with fail
    refine bodyPost_ret (v := .agg #[.bool n4, .slice a4 l4 c4]) (by simp [results, Try.results109, go_sem, q0, q1]) rfl
      (isZ_end hz4 q.kind ((((hW.trans (hb1.mono (by simp))).trans (hb2.mono (by omega))).trans (hb3.mono (by omega))).trans (hb4.mono (by omega))) (Nat.le_refl _) _ _)
  · go_enter Try.func109, Try.ntmps109
    go_wp2_with fail
    have hR : Box2 (w.alloc (.cells #[.bool false, .slice none 0 0] 47)) w.heap.size (.bool false) (.slice none 0 0) 47 := Box2.new rfl
    have hW := below1 w (.cells #[.bool false, .slice none 0 0] 47)
    refine (ofu_any n _ (by omega) (by omega)).mono ?_
    rintro e w1 ⟨n1, a1, l1, c1, rfl, hz1, hb1⟩
    have q := hR.below hb1
    have q0 := q.c0
    have q1 := q.c1
    have q2 := q.f0
    have q3 := q.f1
    go_wp2_with fail
    refine bodyPost_ret (v := .agg #[.bool n1, .slice a1 l1 c1]) (by simp [results, Try.results109, go_sem, q0, q1]) rfl
      (isZ_end hz1 q.kind (hW.trans (hb1.mono (by simp))) (Nat.le_refl _) _ _)
end Go.Proofs.Ytcndfpfjckkinaa

/-
  Walk of the reference's product: Mul.
-/
namespace Go.Proofs.Ytcndfpfjckkinaa
open Go Go.RowKit

/-- Block g holds the numbers zs, N of them, made by the call. -/
def Own (w : World) (g N : Nat) (zs : List Int) : Prop := zs.length = N ∧ w.ownsRow 0 3 1 (.slice (some ⟨g, 0, none⟩) N N) N (zs.map (Value.int .i64))

theorem Own.cell {w : World} {g N : Nat} {zs : List Int} (h : Own w g N zs) (j : Nat) (hj : j < N) : w.cell? ⟨g, j, none⟩ = some (.int .i64 (dg zs j)) := by
  have hl := h.1
  rw [h.2.cellAt j (by omega), List.getElem?_map, List.getElem?_eq_getElem (by omega), dg_eq, List.getD, List.getElem?_eq_getElem (by omega)]; rfl
theorem Own.frozen {w : World} {g N : Nat} {zs : List Int} (h : Own w g N zs) (j : Nat) : w.frozen? ⟨g, j, none⟩ = false := h.2.frozenAt j
theorem Own.set {w : World} {g N : Nat} {zs : List Int} (h : Own w g N zs) (j : Nat) (y : Int) : Own (w.setCell ⟨g, j, none⟩ (.int .i64 y)) g N (zs.set j y) :=
  ⟨by rw [List.length_set]; exact h.1, by have := (h.2.stored j (.int .i64 y)).1; rwa [← List.map_set] at this⟩
theorem Own.drewN {w : World} {g N : Nat} {zs : List Int} (h : Own w g N zs) (n : Nat) : Own (w.drewN n) g N zs := h
theorem Own.row {w : World} {g N : Nat} {zs : List Int} (h : Own w g N zs) : Row w (.slice (some ⟨g, 0, none⟩) N N) zs := row_of_owns h.2 h.1

set_option maxRecDepth 100000 in
set_option maxHeartbeats 3200000 in
theorem mul_z (na nb : Bool) (aa ab : Option Addr) (la ca lb cb : Nat) (m n : Int) (w : World) (hza : IsZ w na (.slice aa la ca) m) (hzb : IsZ w nb (.slice ab lb cb) n) (hm : Fit m) (hn : Fit n) :
    Calls Try.prog 112 #[.agg #[.bool na, .slice aa la ca], .agg #[.bool nb, .slice ab lb cb]] w (RetZ w (m * n)) := by
  obtain ⟨xs, hrx, dx, tx, hvx, hlx, hna⟩ := isZ_row hza hm
  obtain ⟨ys, hry, dy, ty, hvy, hly, hnb⟩ := isZ_row hzb hn
  have hxr := hrx
  have hyr := hry
  obtain ⟨aa', ca', ba, oa, e, -, hxa, hxc⟩ := hrx
  simp only [Value.slice.injEq] at e
  obtain ⟨rfl, rfl, rfl⟩ := e
  obtain ⟨ab', cb', bb, ob, e, -, -, -⟩ := hry
  simp only [Value.slice.injEq] at e
  obtain ⟨rfl, rfl, rfl⟩ := e
  obtain ⟨hA, hB, hR⟩ := boxes3 w (.bool na) (.bool nb) (.bool false) (.slice aa xs.length ca) (.slice ab ys.length cb) (.slice none 0 0) 47 47 47
  have hW := below3 w (.cells #[.bool na, .slice aa xs.length ca] 47) (.cells #[.bool nb, .slice ab ys.length cb] 47) (.cells #[.bool false, .slice none 0 0] 47)
  have HX := Lib.hid hvx
  have HY := Lib.hid hvy
  have HA := Lib.hid hna
  have HB := Lib.hid hnb
  clear hvx hvy hna hnb hza hzb
  obtain ⟨i0, hi, hz0, hz1, hz2⟩ := info_parts info_int
  go_enter Try.func112, Try.ntmps112
  go_wp2_with (at_make; refine wpList_make_full _ rfl _ _ 45 rfl 0 3 i0 (.int .i64 0) 1 Try.underlying45 hi hz0 hz1 _ _ _ _ (xs.length + ys.length + 1) rfl rfl (by omega) (by omega) (by rw [hz2]; omega) (by unfold maxLen; omega) (Nat.zero_le _) ?_; intro w1 hown hgrow)
  have hbl : Below w.heap.size w w1 := hW.grown hgrow (by simp; omega) (fun k h => by cases h)
  have hO : Own w1 (w.heap.size + 1 + 1 + 1) (xs.length + ys.length + 1) (List.replicate (xs.length + ys.length + 1) 0) := by
    refine ⟨List.length_replicate .., ?_⟩
    have e := toList_madeCells_one (.int .i64 0) (xs.length + ys.length + 1)
    simp only [Value.cells, Nat.mul_one, World.size_alloc] at hown
    rw [e] at hown
    rw [List.map_replicate]
    exact hown
  have hb1 : Below (((w.alloc (.cells #[.bool na, .slice aa xs.length ca] 47)).alloc (.cells #[.bool nb, .slice ab ys.length cb] 47)).alloc (.cells #[.bool false, .slice none 0 0] 47)).heap.size (((w.alloc (.cells #[.bool na, .slice aa xs.length ca] 47)).alloc (.cells #[.bool nb, .slice ab ys.length cb] 47)).alloc (.cells #[.bool false, .slice none 0 0] 47)) w1 := (Below.refl _ _).grown hgrow (Nat.le_refl _) (fun k h => by cases h)
  have hA1 := hA.below hb1
  have hB1 := hB.below hb1
  have hR1 := hR.below hb1
  clear hA hB hR hW hb1 hown hgrow hi hz0 hz1 hz2
  go_loopw [6] (fun si wr => ∃ (i : Nat) (zs : List Int), si = .int .i64 i ∧ i ≤ xs.length ∧ Own wr (w.heap.size + 1 + 1 + 1) (xs.length + ys.length + 1) zs ∧ Digs zs ∧ val zs = pre xs i * val ys ∧
      Box2 wr w.heap.size (.bool na) (.slice aa xs.length ca) 47 ∧ Box2 wr (w.heap.size + 1) (.bool nb) (.slice ab ys.length cb) 47 ∧ Box2 wr (w.heap.size + 1 + 1) (.bool false) (.slice none 0 0) 47 ∧ Below w.heap.size w wr)
    (fun si _ => xs.length - (intOf si).toNat)
  case atStart => exact ⟨0, _, rfl, Nat.zero_le _, hO, Digs.zeros _, by rw [val_zeros, pre_zero]; omega, hA1, hB1, hR1, hbl⟩
  case round =>
    clear hA1 hB1 hR1 hbl hO
    obtain ⟨i, zs, rfl, hi, hO, dz, hv, hA, hB, hR, hbl⟩ := hrel
    have HV := Lib.hid hv
    clear hv
    have a1 := hA.c1
    by_cases hix : i < xs.length
    · have b1 := hB.c1
      obtain ⟨wo, rfl⟩ : ∃ wo : World, wo = wr := ⟨_, rfl⟩
      have hixx := fun w => at_row (cap := ca) (fun h => (hxa h).1) (i : Int) (by omega) (by omega) w
      have hcx := hxc i hix
      have hba := (hxa (by omega)).2.lt
      have hdx := dx i
      have HS := Lib.hid (mul_start (i := i) (xs := xs) HV.out)
      clear hxc hxa
      go_wp2_with fail
      go_loopw [7, 8] (fun sc sk wi => ∃ (k : Nat) (c : Int) (zs : List Int), sk = .int .i64 k ∧ sc = .int .i64 c ∧ 0 ≤ c ∧ c < 65536 ∧ k ≤ ys.length + 1 ∧ Own wi (w.heap.size + 1 + 1 + 1) (xs.length + ys.length + 1) zs ∧ Digs zs ∧ val zs + B (i + k) * c = pre xs i * val ys + dg xs i * B i * pre ys k ∧
          Box2 wi w.heap.size (.bool na) (.slice aa xs.length ca) 47 ∧ Box2 wi (w.heap.size + 1) (.bool nb) (.slice ab ys.length cb) 47 ∧ Box2 wi (w.heap.size + 1 + 1) (.bool false) (.slice none 0 0) 47 ∧ Below w.heap.size w wi)
        (fun _ sk _ => ys.length + 2 - (intOf sk).toNat)
      case atStart => exact ⟨0, 0, zs, rfl, rfl, by omega, by omega, Nat.zero_le _, hO, dz, HS.out, hA, hB, hR, hbl⟩
      case round =>
        clear hO dz hA hB hR hbl HV HS a1 b1
        obtain ⟨k, c, zs, rfl, rfl, hc0, hc1, hk, hO, dz, hv, hA, hB, hR, hbl⟩ := hrel
        have hmi : 0 < c → k ≤ ys.length := mul_idx dx dy dz hv
        have hdy := dy k
        have hdz := dz (i + k)
        obtain ⟨m1, m2, m3, m4⟩ := mul_bound hdz hdx hdy ⟨hc0, hc1⟩
        have HV := Lib.hid hv
        clear hv
        have a1 := hA.c1
        have b1 := hB.c1
        have hrow := hyr.below hbl
        by_cases h1 : k < ys.length ∨ 0 < c
        · have hkl : k ≤ ys.length := by rcases h1 with h1 | h1 <;> first | omega | exact hmi h1
          have hcz := hO.cell (i + k) (by omega)
          have hfz := hO.frozen (i + k)
          have hcx' := (hbl.cell (p := ⟨ba, oa + i, none⟩) hba).trans hcx
          have hik : (i : Int) + k < xs.length + ys.length + 1 := by omega
          have hik' : ((i : Int) + k).toNat = i + k := by omega
          have hst := Lib.hid (mul_step HV.out (by have := hO.1; omega))
          clear hcx hmi
          have hck : ¬ k < ys.length → 0 < c := by omega
          by_cases h2 : k < ys.length
          all_goals
            have hcs := hck
            clear hck h1
            first | (have h3 := hcs h2) | skip
            clear hcs
            go_wp2_with fail
            go_quiet ((go_at_call 181; exact Calls.quiet_of_same (digit_q (.slice ab ys.length cb) ys k wr _ hrow (by omega) (by omega))))
            go_wp2_with fail
            go_roundw
            case rel =>
              exact ⟨k + 1, _, _, by go_num, rfl, m3, m4, by omega, (hO.drewN nq).set _ _, dz.set _ (digit_mod _).1 (digit_mod _).2, hst.out, (hA.drewN nq).other (by omega) _ _, (hB.drewN nq).other (by omega) _ _, (hR.drewN nq).other (by omega) _ _, (below_drewN hbl nq).setCell (by simp; omega) _⟩
            case measure => simp [intOf]; omega
        · have h2 : ¬ k < ys.length := by omega
          have h3 : ¬ 0 < c := by omega
          have hst := Lib.hid (mul_exit HV.out (by omega) (by omega))
          clear h1 hcx
          go_wp2_with fail
          go_roundw
          case rel => exact ⟨i + 1, zs, by go_num, by omega, hO, dz, hst.out, hA, hB, hR, hbl⟩
          case measure => simp [intOf]; omega
    · obtain rfl : i = xs.length := by omega
      have a0 := hA.c0
      have b0 := hB.c0
      have hv := HV.out
      rw [pre_len] at hv
      have he := Lib.hid (sgn_mul hv HX.out HY.out HA.out HB.out)
      clear hv hxc hxa
      go_wp2_with (go_at_call 182; refine (tidy_any (na != nb) _ zs _ hO.row dz (by have := hO.1; omega)).mono ?_; rintro e w2 ⟨neg2, a2, l2, c2, rfl, hz2, hb2⟩; have q := hR.below hb2; have q0 := q.c0; have q1 := q.c1; have q2 := q.f0; have q3 := q.f1)
      rw [he.out] at hz2
      refine bodyPost_ret (v := .agg #[.bool neg2, .slice a2 l2 c2]) (by simp [results, Try.results112, go_sem, q0, q1]) rfl
        (isZ_end hz2 q.kind (hbl.trans (hb2.mono hbl.size)) (by omega) _ _)
end Go.Proofs.Ytcndfpfjckkinaa

/-
  Walk of the reference's division bit by bit: long.
-/
namespace Go.Proofs.Ytcndfpfjckkinaa
open Go Go.RowKit

/-- A call that returns two numbers. -/
def RetZZ (w : World) (q r : Int) (e : Ending) (w' : World) : Prop :=
  ∃ n1 a1 l1 c1 n2 a2 l2 c2, e = .returned (.tuple #[.agg #[.bool n1, .slice a1 l1 c1], .agg #[.bool n2, .slice a2 l2 c2]]) ∧ IsZ w' n1 (.slice a1 l1 c1) q ∧ IsZ w' n2 (.slice a2 l2 c2) r ∧ Below w.heap.size w w'

theorem IsZ.drew {w : World} {neg : Bool} {sv : Value} {n : Int} (h : IsZ w neg sv n) : IsZ w.drew neg sv n := h
theorem IsZ.drewN {w : World} {neg : Bool} {sv : Value} {n : Int} (h : IsZ w neg sv n) (k : Nat) : IsZ (w.drewN k) neg sv n := h
/-- The end of a function whose two results, numbers, lie in blocks of their own. -/
theorem isZZ_end {w w1 : World} {k k' : Nat} {n1 n2 : Bool} {a1 a2 : Option Addr} {l1 c1 l2 c2 : Nat} {q r : Int} (hq : IsZ w1 n1 (.slice a1 l1 c1) q) (hr : IsZ w1 n2 (.slice a2 l2 c2) r)
    (hk : Kind w1 k 47) (hk' : Kind w1 k' 47) (hb : Below w.heap.size w w1) (hle : w.heap.size ≤ k) (hle' : w.heap.size ≤ k') (u v u' v' : Value) :
    RetZZ w q r (.returned (.tuple #[.agg #[.bool n1, .slice a1 l1 c1], .agg #[.bool n2, .slice a2 l2 c2]])) ((((w1.setCell ⟨k, 0, none⟩ u).setCell ⟨k, 1, none⟩ v).setCell ⟨k', 0, none⟩ u').setCell ⟨k', 1, none⟩ v').drew := by
  have hk2 : Kind ((w1.setCell ⟨k, 0, none⟩ u).setCell ⟨k, 1, none⟩ v) k' 47 := (hk'.setCell _ _ _).setCell _ _ _
  have h1 := (hq.set2 hk (by decide) u v).set2 hk2 (by decide) u' v'
  have h2 := (hr.set2 hk (by decide) u v).set2 hk2 (by decide) u' v'
  exact ⟨n1, a1, l1, c1, n2, a2, l2, c2, rfl, h1.drew, h2.drew, (below_set2 (below_set2 hb hle u v) hle' u' v').drew⟩

/-- Four blocks that stay as they are, and the memory that was there. -/
structure Env4 (w wr : World) (a a' b b' : Value) : Prop where
  A : Box2 wr w.heap.size a a' 47
  B : Box2 wr (w.heap.size + 1) b b' 47
  R : Box2 wr (w.heap.size + 1 + 1) (.bool false) (.slice none 0 0) 47
  S : Box2 wr (w.heap.size + 1 + 1 + 1) (.bool false) (.slice none 0 0) 47
  W : Below w.heap.size w wr
theorem Env4.below {w wr w' : World} {a a' b b' : Value} (h : Env4 w wr a a' b b') (hb : Below wr.heap.size wr w') : Env4 w w' a a' b b' :=
  ⟨h.A.below hb, h.B.below hb, h.R.below hb, h.S.below hb, h.W.trans (hb.mono h.W.size)⟩
theorem Env4.set2 {w wr : World} {a a' b b' : Value} (h : Env4 w wr a a' b b') {k : Nat} (hk : w.heap.size + 1 + 1 + 1 < k) (u v : Value) : Env4 w ((wr.setCell ⟨k, 0, none⟩ u).setCell ⟨k, 1, none⟩ v) a a' b b' :=
  ⟨h.A.other2 (by omega) _ _, h.B.other2 (by omega) _ _, h.R.other2 (by omega) _ _, h.S.other2 (by omega) _ _, below_set2 h.W (by omega) _ _⟩
theorem Env4.drew {w wr : World} {a a' b b' : Value} (h : Env4 w wr a a' b b') : Env4 w wr.drew a a' b b' := ⟨h.A, h.B, h.R, h.S, h.W.drew⟩

theorem boxes6 (w : World) (a b a' b' : Value) (t : TypeId) : ∃ W, W = (((((w.alloc (.cells #[a, a'] t)).alloc (.cells #[b, b'] t)).alloc (.cells #[.bool false, .slice none 0 0] t)).alloc (.cells #[.bool false, .slice none 0 0] t)).alloc (.cells #[.bool false, .slice none 0 0] t)).alloc (.cells #[.bool false, .slice none 0 0] t) ∧
    Box2 W w.heap.size a a' t ∧ Box2 W (w.heap.size + 1) b b' t ∧ Box2 W (w.heap.size + 1 + 1) (.bool false) (.slice none 0 0) t ∧ Box2 W (w.heap.size + 1 + 1 + 1) (.bool false) (.slice none 0 0) t ∧
    Box2 W (w.heap.size + 1 + 1 + 1 + 1) (.bool false) (.slice none 0 0) t ∧ Box2 W (w.heap.size + 1 + 1 + 1 + 1 + 1) (.bool false) (.slice none 0 0) t ∧ Below w.heap.size w W ∧ W.heap.size = w.heap.size + 6 :=
  ⟨_, rfl, (((((Box2.new rfl).alloc _).alloc _).alloc _).alloc _).alloc _, ((((Box2.new (by simp)).alloc _).alloc _).alloc _).alloc _, (((Box2.new (by simp)).alloc _).alloc _).alloc _, ((Box2.new (by simp)).alloc _).alloc _,
    (Box2.new (by simp)).alloc _, Box2.new (by simp), (below5 w _ _ _ _ _).alloc (by simp; omega) _, by simp⟩

set_option maxRecDepth 100000 in
set_option maxHeartbeats 3200000 in
theorem long_z (na nb : Bool) (aa ab : Option Addr) (la ca lb cb : Nat) (m n : Int) (w : World) (hza : IsZ w na (.slice aa la ca) m) (hzb : IsZ w nb (.slice ab lb cb) n) (K : Nat) (hK : K ≤ 90000) (hm : Bits K m) (hn : Bits K n) (h0 : 0 ≤ m) (h1 : 0 < n) :
    Calls Try.prog 187 #[.agg #[.bool na, .slice aa la ca], .agg #[.bool nb, .slice ab lb cb]] w (RetZZ w (m / n) (m % n)) := by
  obtain ⟨xs, hrx, dx, tx, hvx, hlx, hna⟩ := isZ_row hza (hm.fit (by omega))
  have hxr := hrx
  obtain ⟨aa', ca', ba, oa, e, -, hxa, hxc⟩ := hrx
  simp only [Value.slice.injEq] at e
  obtain ⟨rfl, rfl, rfl⟩ := e
  obtain ⟨W, hWe, hA, hB, hR, hS, hQ, hT, hW, hWs⟩ := boxes6 w (.bool na) (.bool nb) (.slice aa xs.length ca) (.slice ab lb cb) 47
  have HX := Lib.hid hvx
  clear hvx hna hza tx
  go_enter Try.func187, Try.ntmps187
  go_wp2_with fail
  rw [← hWe]
  have HWe := Lib.hid hWe
  have HWs := Lib.hid hWs
  clear hWe hWs
  have hmv : val xs = m := by rw [HX.out]; omega
  have hst : shr m (16 * xs.length) = 0 := shr_top h0 _ (by rw [← hmv, ← B_two]; exact val_lt dx)
  have hsq : IsZ W false (.slice none 0 0) (shr m (16 * xs.length) / n) := by rw [hst, Int.zero_ediv]; exact isZ_zero _
  have hsr : IsZ W false (.slice none 0 0) (shr m (16 * xs.length) % n) := by rw [hst, Int.zero_emod]; exact isZ_zero _
  have HM := Lib.hid hmv
  clear hmv hst HX
  go_loopw [8] (fun i wr => ∃ (t : Nat) (nq : Bool) (aq : Option Addr) (lq cq : Nat) (nr : Bool) (ar : Option Addr) (lr cr : Nat), i = .int .i64 ((t : Int) - 1) ∧ t ≤ 16 * xs.length ∧
      IsZ wr nq (.slice aq lq cq) (shr m t / n) ∧ IsZ wr nr (.slice ar lr cr) (shr m t % n) ∧
      Env4 w wr (.bool na) (.slice aa xs.length ca) (.bool nb) (.slice ab lb cb) ∧
      Box2 wr (w.heap.size + 1 + 1 + 1 + 1) (.bool nq) (.slice aq lq cq) 47 ∧ Box2 wr (w.heap.size + 1 + 1 + 1 + 1 + 1) (.bool nr) (.slice ar lr cr) 47)
    (fun i _ => (intOf i + 1).toNat)
  case atStart => exact ⟨16 * xs.length, _, _, _, _, _, _, _, _, by go_num, Nat.le_refl _, hsq, hsr, ⟨hA, hB, hR, hS, hW⟩, hQ, hT⟩
  case round =>
    clear hA hB hR hS hQ hT hW hsq hsr HWe HWs
    obtain ⟨t, nq, aq, lq, cq, nr, ar, lr, cr, rfl, ht, hq, hr, hE, hQ, hT⟩ := hrel
    have t0 := hT.c0
    have t1 := hT.c1
    have q0 := hQ.c0
    have q1 := hQ.c1
    by_cases ht0 : t = 0
    · subst ht0
      rw [shr_zero] at hq hr
      clear hxa hxc
      have r0 := hE.R.c0
      have r1 := hE.R.c1
      have r2 := hE.R.f0
      have r3 := hE.R.f1
      have s0 := hE.S.c0
      have s1 := hE.S.c1
      have s2 := hE.S.f0
      have s3 := hE.S.f1
      go_wp2_with fail
      go_region
      go_wp2_with fail
      refine bodyPost_ret (v := .tuple #[.agg #[.bool nq, .slice aq lq cq], .agg #[.bool nr, .slice ar lr cr]]) (by simp [results, Try.results187, go_sem, r0, r1, s0, s1]) rfl
        (isZZ_end hq hr hE.R.kind hE.S.kind hE.W (by omega) (by omega) _ _ _ _)
    · obtain ⟨j, rfl⟩ : ∃ j, t = j + 1 := ⟨t - 1, by omega⟩
      have e : ((j + 1 : Nat) : Int) - 1 = j := by omega
      simp only [e]
      have a1 := hE.A.c1
      have hix := fun w => at_row (cap := ca) (fun h => (hxa h).1) ((j : Int) / 16) (by omega) (by omega) w
      have e2 : ((j : Int) / 16).toNat = j / 16 := by omega
      have hcx := (hE.W.cell (p := ⟨ba, oa + j / 16, none⟩) (hxa (by omega)).2.lt).trans (hxc (j / 16) (by omega))
      have hdg := dx (j / 16)
      simp only [e2] at hix
      clear hxa hxc e
      have hb0 : 0 ≤ dg xs (j / 16) / 2 ^ (j % 16) := by rw [← shr_pow]; exact shr_nonneg hdg.1 _
      have hbv := bit_val dx j
      rw [HM.out, shr_pow (dg xs (j / 16)) (j % 16)] at hbv
      have hrb := shr_bits hm h0 (j + 1)
      have hqb := div_bits hrb (shr_nonneg h0 _) h1
      have hmb := mod_bits (m := shr m (j + 1)) hn h1
      generalize hM : shr m (j + 1) = M at *
      have HMM := Lib.hid hM
      have HBV := Lib.hid hbv
      clear hM hbv
      go_wp2_with fail
      obtain ⟨b, hb⟩ : ∃ b, b = dg xs (j / 16) / 2 ^ (j % 16) % 2 := ⟨_, rfl⟩
      have hbb : 0 ≤ b ∧ b < 2 := by rw [hb]; omega
      rw [← hb]
      have HBV2 := HBV.out
      rw [← hb] at HBV2
      have HBV3 := Lib.hid HBV2
      clear HBV HBV2 hb hb0
      have bb : Bits 2 b := by unfold Bits; omega
      refine (add_z _ _ _ _ _ _ _ _ (M % n) (M % n) _ hr hr (hmb.fit (by omega)) (hmb.fit (by omega))).mono ?_
      rintro e w1 ⟨n1, a1', l1, c1, rfl, hz1, hb1⟩
      go_wp2_with fail
      refine (ofu_any b _ (by omega) (by omega)).mono ?_
      rintro e w2 ⟨n2, a2', l2, c2, rfl, hz2, hb2⟩
      go_wp2_with fail
      have f2 : Bits (K + 2) b := bb.mono (by omega)
      refine (add_z _ _ _ _ _ _ _ _ (M % n + M % n) b _ (hz1.below hb2) hz2 ((hmb.add hmb).fit (by omega)) (bb.fit (by omega))).mono ?_
      rintro e w3 ⟨n3, a3', l3, c3, rfl, hz3, hb3⟩
      have hT3 := ((hT.below hb1).below hb2).below hb3
      have hQ3 := (((hQ.below hb1).below hb2).below hb3).other2 (b := w.heap.size + 1 + 1 + 1 + 1 + 1) (by omega) (.bool n3) (.slice a3' l3 c3)
      have hE3 := (((hE.below hb1).below hb2).below hb3).set2 (k := w.heap.size + 1 + 1 + 1 + 1 + 1) (by omega) (.bool n3) (.slice a3' l3 c3)
      have hr3 := hz3.set2 hT3.kind (by decide) (.bool n3) (.slice a3' l3 c3)
      have hq3 := (((hq.below hb1).below hb2).below hb3).set2 hT3.kind (by decide) (.bool n3) (.slice a3' l3 c3)
      have hT4 := hT3.set (.bool n3) (.slice a3' l3 c3)
      have t0 := hT3.c0
      have t1 := hT3.c1
      have t2 := hT3.f0
      have t3 := hT3.f1
      have q0 := hQ3.c0
      have q1 := hQ3.c1
      clear hr hq hz3 hT3 hQ hT hE hz1 hz2 hb1 hb2 hb3 hcx hix a1
      go_wp2_with fail
      obtain ⟨V3, hV3⟩ : ∃ V, V = (w3.setCell ⟨w.heap.size + 1 + 1 + 1 + 1 + 1, 0, none⟩ (.bool n3)).setCell ⟨w.heap.size + 1 + 1 + 1 + 1 + 1, 1, none⟩ (.slice a3' l3 c3) := ⟨_, rfl⟩
      rw [← hV3] at hr3 hq3 hQ3 hT4 hE3 ⊢
      clear hV3 t0 t1 t2 t3 q0 q1
      refine (add_z _ _ _ _ _ _ _ _ (M / n) (M / n) _ hq3 hq3 (hqb.fit (by omega)) (hqb.fit (by omega))).mono ?_
      rintro e w4 ⟨n4, a4, l4, c4, rfl, hz4, hb4⟩
      have hQ4 := hQ3.below hb4
      have q0 := hQ4.c0
      have q1 := hQ4.c1
      have q2 := hQ4.f0
      have q3 := hQ4.f1
      have hT5 := (hT4.below hb4).other2 (b := w.heap.size + 1 + 1 + 1 + 1) (by omega) (.bool n4) (.slice a4 l4 c4)
      have hE5 := (hE3.below hb4).set2 (k := w.heap.size + 1 + 1 + 1 + 1) (by omega) (.bool n4) (.slice a4 l4 c4)
      have hq5 := hz4.set2 hQ4.kind (by decide) (.bool n4) (.slice a4 l4 c4)
      have hr5 := (hr3.below hb4).set2 hQ4.kind (by decide) (.bool n4) (.slice a4 l4 c4)
      have hQ5 := hQ4.set (.bool n4) (.slice a4 l4 c4)
      have t0 := hT5.c0
      have t1 := hT5.c1
      have b0 := hE5.B.c0
      have b1 := hE5.B.c1
      clear hr3 hq3 hz4 hQ3 hQ4 hT4 hE3 hb4
      go_wp2_with fail
      obtain ⟨V4, hV4⟩ : ∃ V, V = (w4.setCell ⟨w.heap.size + 1 + 1 + 1 + 1, 0, none⟩ (.bool n4)).setCell ⟨w.heap.size + 1 + 1 + 1 + 1, 1, none⟩ (.slice a4 l4 c4) := ⟨_, rfl⟩
      rw [← hV4] at hr5 hq5 hQ5 hT5 hE5 t0 t1 b0 b1 ⊢
      clear hV4 q0 q1 q2 q3
      have hF : Bits (K + 3) (M % n + M % n + b) := ((hmb.add hmb).mono (show K + 1 ≤ K + 2 by omega)).add f2
      refine (cmp_z _ _ _ _ _ _ _ _ (M % n + M % n + b) n _ hr5 (hzb.below hE5.W) (hF.fit (by omega)) (hn.fit (by omega))).mono ?_
      rintro e w5 ⟨rfl, hb5⟩
      have hT6 := hT5.below hb5
      have hQ6 := hQ5.below hb5
      have hE6 := hE5.below hb5
      have hr6 := hr5.below hb5
      have hq6 := hq5.below hb5
      clear t0 t1 b0 b1 hT5 hQ5 hE5 hr5 hq5 hb5
      have t0 := hT6.c0
      have t1 := hT6.c1
      have t2 := hT6.f0
      have t3 := hT6.f1
      have b0 := hE6.B.c0
      have b1 := hE6.B.c1
      by_cases hge : n ≤ M % n + M % n + b
      · obtain ⟨e1, e2⟩ := long_more (M := M) h1 hbb.1 hbb.2 hge
        rw [← HBV3.out] at e1 e2
        have E1 := Lib.hid e1
        have E2 := Lib.hid e2
        have hc := (cmpI_ge _ _).2 hge
        clear e1 e2 hge
        go_wp2_with fail
        refine (sub_z _ _ _ _ _ _ _ _ (M % n + M % n + b) n _ hr6 (hzb.below hE6.W) (hF.fit (by omega)) (hn.fit (by omega))).mono ?_
        rintro e w7 ⟨n7, a7, l7, c7, rfl, hz7, hb7⟩
        clear t0 t1 t2 t3 b0 b1
        have hT7 := hT6.below hb7
        have t0 := hT7.c0
        have t1 := hT7.c1
        have t2 := hT7.f0
        have t3 := hT7.f1
        have hQ7 := (hQ6.below hb7).other2 (b := w.heap.size + 1 + 1 + 1 + 1 + 1) (by omega) (.bool n7) (.slice a7 l7 c7)
        have hE7 := (hE6.below hb7).set2 (k := w.heap.size + 1 + 1 + 1 + 1 + 1) (by omega) (.bool n7) (.slice a7 l7 c7)
        have hr7 := hz7.set2 hT7.kind (by decide) (.bool n7) (.slice a7 l7 c7)
        have hq7 := (hq6.below hb7).set2 hT7.kind (by decide) (.bool n7) (.slice a7 l7 c7)
        have hT8 := hT7.set (.bool n7) (.slice a7 l7 c7)
        clear hT6 hQ6 hE6 hr6 hq6 hz7
        go_wp2_with fail
        obtain ⟨V7, hV7⟩ : ∃ V, V = (w7.setCell ⟨w.heap.size + 1 + 1 + 1 + 1 + 1, 0, none⟩ (.bool n7)).setCell ⟨w.heap.size + 1 + 1 + 1 + 1 + 1, 1, none⟩ (.slice a7 l7 c7) := ⟨_, rfl⟩
        rw [← hV7] at hr7 hq7 hQ7 hT8 hE7 ⊢
        clear hV7 t0 t1 t2 t3 hT7 hb7
        have q0' := hQ7.drew.c0
        have q1' := hQ7.drew.c1
        go_region_with (first
            | (go_at_call 127; refine (ofu_any 1 _ (by omega) (by omega)).mono ?_; rintro e w8 ⟨n8, a8, l8, c8, rfl, hz8, hb8⟩; have p0 := (hQ7.drew.below hb8).c0; have p1 := (hQ7.drew.below hb8).c1)
            | (go_at_call 125; refine (add_z _ _ _ _ _ _ _ _ (M / n + M / n) 1 _ (hq7.drew.below hb8) hz8 ((hqb.add hqb).fit (by omega)) (Bits.fit (k := 1) (by unfold Bits; omega) (by omega))).mono ?_; rintro e w9 ⟨n9, a9, l9, c9, rfl, hz9, hb9⟩; have q := ((hQ7.drew.below hb8).below hb9); have q0 := q.c0; have q1 := q.c1; have q2 := q.f0; have q3 := q.f1))
        all_goals
          have hQf := q.set (.bool n9) (.slice a9 l9 c9)
          have hTf := ((hT8.drew.below hb8).below hb9).other2 (b := w.heap.size + 1 + 1 + 1 + 1) (by omega) (.bool n9) (.slice a9 l9 c9)
          have hEf := ((hE7.drew.below hb8).below hb9).set2 (k := w.heap.size + 1 + 1 + 1 + 1) (by omega) (.bool n9) (.slice a9 l9 c9)
          have hqf := hz9.set2 q.kind (by decide) (.bool n9) (.slice a9 l9 c9)
          have hrf := ((hr7.drew.below hb8).below hb9).set2 q.kind (by decide) (.bool n9) (.slice a9 l9 c9)
          rw [← E1.out] at hqf
          rw [← E2.out] at hrf
          clear q q0 q1 q2 q3 p0 p1 q0' q1' hr7 hq7 hQ7 hT8 hE7 hz8 hz9 hb8 hb9
          go_wp2_with fail
          go_roundw
          case rel => exact ⟨j, _, _, _, _, _, _, _, _, rfl, by omega, hqf, hrf, hEf, hQf, hTf⟩
          case measure => simp [intOf]
      · have hlt : M % n + M % n + b < n := by omega
        obtain ⟨e1, e2⟩ := long_less (M := M) h1 hbb.1 hlt
        rw [← HBV3.out] at e1 e2
        have E1 := Lib.hid e1
        have E2 := Lib.hid e2
        have hc : cmpI (M % n + M % n + b) n < 0 := by have := cmpI_ge (M % n + M % n + b) n; omega
        clear e1 e2 hge hlt
        rw [← E1.out] at hq6
        rw [← E2.out] at hr6
        go_wp2_with fail
        go_roundw
        case rel => exact ⟨j, _, _, _, _, _, _, _, _, rfl, by omega, hq6, hr6, hE6, hQ6, hT6⟩
        case measure => simp [intOf]
end Go.Proofs.Ytcndfpfjckkinaa

/-
  Memory that only grows: what was there stays as it is (Ext), and what reads in it.
-/
namespace Go.Proofs.Ytcndfpfjckkinaa
open Go Go.RowKit

/-- w' has all of w's memory as it was. -/
def Ext (w w' : World) : Prop := Below w.heap.size w w'
theorem Ext.refl (w : World) : Ext w w := Below.refl _ w
theorem Ext.trans {a b c : World} (h : Ext a b) (k : Ext b c) : Ext a c := Below.trans h (Below.mono k (Below.size h))
theorem Ext.alloc {a b : World} (h : Ext a b) {o : Obj} : Ext a (b.alloc o) := Below.alloc h (Below.size h) o
theorem Ext.drew {a b : World} (h : Ext a b) : Ext a b.drew := Below.drew h
theorem Ext.drewN {a b : World} (h : Ext a b) {n : Nat} : Ext a (b.drewN n) := below_drewN h n
theorem Ext.set {a b : World} (h : Ext a b) {k o : Nat} {u : Value} (hk : a.heap.size ≤ k) : Ext a (b.setCell ⟨k, o, none⟩ u) := Below.setCell h hk u
theorem Ext.size {a b : World} (h : Ext a b) : a.heap.size ≤ b.heap.size := Below.size h
theorem Ext.size1 {a b : World} (h : Ext a b) : a.heap.size ≤ b.heap.size + 1 := Nat.le_trans (Below.size h) (by omega)
theorem Ext.size2 {a b : World} (h : Ext a b) : a.heap.size ≤ b.heap.size + 1 + 1 := Nat.le_trans (Below.size h) (by omega)
theorem IsZ.ext {w w' : World} {neg : Bool} {sv : Value} {n : Int} (h : IsZ w neg sv n) (hb : Ext w w') : IsZ w' neg sv n := h.below hb
theorem Row.ext {w w' : World} {v : Value} {xs : List Int} (h : Row w v xs) (hb : Ext w w') : Row w' v xs := h.below hb
theorem Box2.ext {w w' : World} {k : Nat} {u v : Value} {t : TypeId} (h : Box2 w k u v t) (hb : Ext w w') : Box2 w' k u v t := h.below hb
theorem Kind.ext {w w' : World} {k : Nat} {t : TypeId} (h : Kind w k t) (hb : Ext w w') : Kind w' k t := h.below hb
theorem newA {w w' : World} {u v : Value} {t : TypeId} (h : Ext (w.alloc (.cells #[u, v] t)) w') : Box2 w' w.heap.size u v t := (Box2.new rfl).ext h
theorem newB {w w' : World} {u v u' v' : Value} {t t' : TypeId} (h : Ext ((w.alloc (.cells #[u, v] t)).alloc (.cells #[u', v'] t')) w') : Box2 w' w.heap.size u v t ∧ Box2 w' (w.heap.size + 1) u' v' t' :=
  ⟨((Box2.new rfl).alloc _).ext h, (Box2.new (by simp)).ext h⟩
theorem newAd {w w' : World} {u v : Value} {t : TypeId} (h : Ext (w.drew.alloc (.cells #[u, v] t)) w') : Box2 w' w.heap.size u v t := newA (w := w.drew) h
theorem newBd {w w' : World} {u v u' v' : Value} {t t' : TypeId} (h : Ext ((w.drew.alloc (.cells #[u, v] t)).alloc (.cells #[u', v'] t')) w') : Box2 w' w.heap.size u v t ∧ Box2 w' (w.heap.size + 1) u' v' t' := newB (w := w.drew) h
theorem Env4.ext {w wr w' : World} {a a' b b' : Value} (h : Env4 w wr a a' b b') (hb : Ext wr w') : Env4 w w' a a' b b' := h.below hb

end Go.Proofs.Ytcndfpfjckkinaa

/-
  A region that draws its order, whose calls stand in one order, and which makes one or two blocks at any time between them: one walk along the calls, with whatever the makings do in between.
-/
namespace Go.Proofs.Ytcndfpfjckkinaa
open Go Go.RowKit

section
variable {P : Program} {ops : Array Oper} {Q : Exit → Act → World → Prop} {md : Region.Mode} {S : World → Prop}

/-- Two frames that differ in the slots D alone. -/
def Away (D : List Nat) (a a' : Act) : Prop := a'.defers = a.defers ∧ a'.tmps.size = a.tmps.size ∧ ∀ t, t ∉ D → a'.tmps[t]? = a.tmps[t]?
theorem Away.refl (D : List Nat) (a : Act) : Away D a a := ⟨rfl, rfl, fun _ _ => rfl⟩
theorem Away.put {D : List Nat} {a a' : Act} (h : Away D a a') {d : Nat} (hd : d ∈ D) (v : Value) : Away D a (a'.put (some d) v) :=
  ⟨h.1, by simpa [Act.put] using h.2.1, fun t ht => by
    have hne : d ≠ t := fun e => ht (e ▸ hd)
    simp only [Act.put, Array.getElem?_setIfInBounds, if_neg hne]
    exact h.2.2 t ht⟩

/-- The operations l, one behind the other; between them the slots D and the memory beyond may turn; those marked true (they only reckon) come at once. -/
def wpCh (P : Program) (ops : Array Oper) (Q : Exit → Act → World → Prop) (S : World → Prop) (D : List Nat) : List (Nat × Bool) → (Act → World → Prop) → Act → World → Prop
  | [], K, a, w => ∀ a' w', Away D a a' → Ext w w' → K a' w'
  | (i, false) :: l, K, a, w => ∀ a' w', Away D a a' → Ext w w' →
      wpOp P ops Q i (fun a1 w1 => (Ext w' w1 ∧ a1.tmps.size = a'.tmps.size ∧ ∀ t ∈ D, a1.tmps[t]? = a'.tmps[t]?) ∧ wpCh P ops Q S D l K a1 w1) a' w'
  | (i, true) :: l, K, a, w => ∃ o v, ops[i]? = some o ∧ YieldsIf P ops S o v a ∧ (∀ t ∈ D, o.dst ≠ some t) ∧ wpCh P ops Q S D l K (a.put o.dst v) w

/-- What a making does: number i puts a pointer to a new block into slot d. -/
def Makes (P : Program) (ops : Array Oper) (Q : Exit → Act → World → Prop) (i d : Nat) (o : Obj) : Prop :=
  ∀ (K : Act → World → Prop) (a : Act) (w : World), K (a.put (some d) (.pointer (some ⟨w.heap.size, 0, none⟩))) (w.alloc o) → wpOp P ops Q i K a w

/-- Slot d points to block k, which is as it was made. -/
def Made (base d : Nat) (o : Obj) (k : Nat) (a : Act) (w : World) : Prop := base ≤ k ∧ a.tmps[d]? = some (.pointer (some ⟨k, 0, none⟩)) ∧ w.heap[k]? = some o
theorem Made.lt {base d k : Nat} {o : Obj} {a : Act} {w : World} (h : Made base d o k a w) : k < w.heap.size := (Array.getElem?_eq_some_iff.1 h.2.2).1
theorem Made.ext {base d k : Nat} {o : Obj} {a a' : Act} {w w' : World} (h : Made base d o k a w) (hx : Ext w w') (ht : a'.tmps[d]? = a.tmps[d]?) : Made base d o k a' w' :=
  ⟨h.1, ht.trans h.2.1, (Below.block hx k h.lt).trans h.2.2⟩
theorem Made.new {base d : Nat} {o : Obj} {a : Act} {w : World} (hb : base ≤ w.heap.size) (hd : d < a.tmps.size) : Made base d o w.heap.size (a.put (some d) (.pointer (some ⟨w.heap.size, 0, none⟩))) (w.alloc o) :=
  ⟨hb, by simp [Act.put, hd], heap_alloc_new w o⟩
theorem Made.other {base d d' k : Nat} {o o' : Obj} {a : Act} {w : World} (h : Made base d o k a w) (hne : d' ≠ d) (v : Value) : Made base d o k (a.put (some d') v) (w.alloc o') :=
  h.ext (Ext.refl w).alloc (by simp [Act.put, hne])

def mkL (N : Nat) (f : Nat → Bool) : Array Bool := Array.ofFn (n := N) (fun i => f i.1)
def upd (f : Nat → Bool) (i : Nat) : Nat → Bool := fun j => j == i || f j
theorem mkL_set (N : Nat) (f : Nat → Bool) (i : Nat) : (mkL N f).setIfInBounds i true = mkL N (upd f i) := by
  refine Array.ext_getElem? fun j => ?_
  simp only [mkL, Array.getElem?_setIfInBounds, Array.getElem?_ofFn, Array.size_ofFn, upd]
  by_cases h : i = j
  · subst h
    by_cases hi : i < N <;> simp [hi]
  · have e : (j == i) = false := by simpa using fun e => h e.symm
    simp [h, e]
theorem put_slot {a : Act} {d : Option Tmp} {t : Nat} (h : d ≠ some t) (v : Value) : (a.put d v).tmps[t]? = a.tmps[t]? := by
  cases d with
  | none => rfl
  | some e =>
    have : e ≠ t := fun x => h (by rw [x])
    simp [Act.put, this]
theorem put_size (a : Act) (d : Option Tmp) (v : Value) : (a.put d v).tmps.size = a.tmps.size := by cases d <;> simp [Act.put]
theorem mkL_congr {N : Nat} {f g : Nat → Bool} (h : ∀ j, f j = g j) : mkL N f = mkL N g := by rw [show f = g from funext h]

/-- May come up next: the next of l, or a making that has not been. -/
def shape2 (md : Region.Mode) (ops : Array Oper) (N : Nat) (iA iB : Nat) : Nat → (Nat → Bool) → List (Nat × Bool) → Bool → Bool → Bool
  | 0, _, _, _, _ => true
  | n + 1, f, (j, true) :: l, fa, fb => Region.free md ops (mkL N f) j && (Region.ready md ops (mkL N f)).contains j && shape2 md ops N iA iB n (upd f j) l fa fb
  | n + 1, f, (j, false) :: l, fa, fb =>
    !(Region.ready md ops (mkL N f)).isEmpty && (Region.ready md ops (mkL N f)).all (fun t => j == t || (!fa && t == iA) || (!fb && t == iB)) &&
    shape2 md ops N iA iB n (upd f j) l fa fb && (fa || shape2 md ops N iA iB n (upd f iA) ((j, false) :: l) true fb) && (fb || shape2 md ops N iA iB n (upd f iB) ((j, false) :: l) fa true)
  | n + 1, f, [], fa, fb =>
    !(Region.ready md ops (mkL N f)).isEmpty && (Region.ready md ops (mkL N f)).all (fun t => (!fa && t == iA) || (!fb && t == iB)) &&
    (fa || shape2 md ops N iA iB n (upd f iA) [] true fb) && (fb || shape2 md ops N iA iB n (upd f iB) [] fa true)

def left2 (l : List (Nat × Bool)) (fa fb : Bool) : Nat := l.length + (if fa then 0 else 1) + (if fb then 0 else 1)

theorem chain2 {D : List Nat} {K : Act → World → Prop} {base iA dA iB dB N fuel : Nat} {oA oB : Obj} (hA : Makes P ops Q iA dA oA) (hB : Makes P ops Q iB dB oB) (hdA : dA ∈ D) (hdB : dB ∈ D) (hdd : dA ≠ dB)
    (hS : ∀ w w', S w → Ext w w' → S w') (hQ : ∀ (d : Option Tmp) (v : Value) c a w, Q (.panic c) (a.put d v) w → Q (.panic c) a w) (hns : Region.noSelect ops = true) :
    ∀ (n : Nat) (f : Nat → Bool) (l : List (Nat × Bool)) (fa fb : Bool) (a : Act) (w : World) (a0 : Act) (w0 : World), left2 l fa fb = n → shape2 md ops N iA iB n f l fa fb = true →
      dA < a.tmps.size → dB < a.tmps.size → S w → base ≤ w.heap.size →
      (fa = true → ∃ k, Made base dA oA k a w) → (fb = true → ∃ k, Made base dB oB k a w) → (fa = true → fb = true → ∃ k k', Made base dA oA k a w ∧ Made base dB oB k' a w ∧ k ≠ k') →
      wpCh P ops Q S D l K a0 w0 → Away D a0 a → Ext w0 w → (∀ j l', l = (j, true) :: l' → a = a0 ∧ w = w0) →
      (∀ (g : Nat → Bool) a' w', (∀ j, g j = (f j || (l.map (·.1)).contains j || (!fa && j == iA) || (!fb && j == iB))) → S w' → (∃ k k', Made base dA oA k a' w' ∧ Made base dB oB k' a' w' ∧ k ≠ k') → K a' w' → wpAnyH P md ops Q S fuel (mkL N g) a' w') →
      wpAnyH P md ops Q S (n + fuel) (mkL N f) a w := by
  intro n
  induction n with
  | zero =>
    intro f l fa fb a w a0 w0 hn _ _ _ hSw _ hmA _ hm2 hch haw hx _ hfin
    unfold left2 at hn
    have hl : l = [] := List.length_eq_zero_iff.1 (by omega)
    have hfa : fa = true := by cases fa <;> simp at hn ⊢
    have hfb : fb = true := by cases fb <;> simp at hn ⊢
    subst hl hfa hfb
    rw [Nat.zero_add]
    exact hfin f a w (fun j => by simp) hSw (hm2 rfl rfl) (hch a w haw hx)
  | succ n ih =>
    intro f l fa fb a w a0 w0 hn hsh hsA hsB hSw hbw hmA hmB hm2 hch haw hx hpu hfin
    rw [Nat.succ_add]
    have stepA : fa = false → shape2 md ops N iA iB n (upd f iA) l true fb = true → (∀ j l', l ≠ (j, true) :: l') → wpOp P ops Q iA (fun a' w' => S w' ∧ wpAnyH P md ops Q S (n + fuel) ((mkL N f).setIfInBounds iA true) a' w') a w := by
      intro h0 hs hl
      subst h0
      refine hA _ a w ?_
      have hx1 : Ext w (w.alloc oA) := (Ext.refl w).alloc
      have hS1 := hS w _ hSw hx1
      rw [mkL_set]
      refine ⟨hS1, ih (upd f iA) l true fb _ _ a0 w0 (by unfold left2 at hn ⊢; simp at hn ⊢; omega) hs (by rw [put_size]; exact hsA) (by rw [put_size]; exact hsB) hS1 (Nat.le_trans hbw hx1.size) (fun _ => ⟨_, Made.new hbw hsA⟩) (fun h => (hmB h).elim fun k hk => ⟨k, hk.other hdd _⟩) (fun _ h => (hmB h).elim fun k hk => ⟨_, k, Made.new hbw hsA, hk.other hdd _, Ne.symm (Nat.ne_of_lt hk.lt)⟩) hch (haw.put hdA _) (hx.trans hx1) (fun j l' e => absurd e (hl j l')) ?_⟩
      intro g a' w' hg
      exact hfin g a' w' fun t => by rw [hg t]; simp only [upd]; cases (t == iA) <;> cases f t <;> cases ((l.map (·.1)).contains t) <;> simp
    have stepB : fb = false → shape2 md ops N iA iB n (upd f iB) l fa true = true → (∀ j l', l ≠ (j, true) :: l') → wpOp P ops Q iB (fun a' w' => S w' ∧ wpAnyH P md ops Q S (n + fuel) ((mkL N f).setIfInBounds iB true) a' w') a w := by
      intro h0 hs hl
      subst h0
      refine hB _ a w ?_
      have hx1 : Ext w (w.alloc oB) := (Ext.refl w).alloc
      have hS1 := hS w _ hSw hx1
      rw [mkL_set]
      refine ⟨hS1, ih (upd f iB) l fa true _ _ a0 w0 (by unfold left2 at hn ⊢; simp at hn ⊢; omega) hs (by rw [put_size]; exact hsA) (by rw [put_size]; exact hsB) hS1 (Nat.le_trans hbw hx1.size) (fun h => (hmA h).elim fun k hk => ⟨k, hk.other (Ne.symm hdd) _⟩) (fun _ => ⟨_, Made.new hbw hsB⟩) (fun h _ => (hmA h).elim fun k hk => ⟨k, _, hk.other (Ne.symm hdd) _, Made.new hbw hsB, Nat.ne_of_lt hk.lt⟩) hch (haw.put hdB _) (hx.trans hx1) (fun j l' e => absurd e (hl j l')) ?_⟩
      intro g a' w' hg
      exact hfin g a' w' fun t => by rw [hg t]; simp only [upd]; cases (t == iB) <;> cases f t <;> cases ((l.map (·.1)).contains t) <;> cases (!fa && t == iA) <;> simp
    match l, hch, hpu, hfin, hn, hsh, stepA, stepB with
    | [], _, _, _, _, hsh, stepA, stepB =>
      unfold shape2 at hsh
      simp only [Bool.and_eq_true, Bool.or_eq_true, Bool.not_eq_true', List.all_eq_true, beq_iff_eq] at hsh
      obtain ⟨⟨⟨hne, hall⟩, hs2⟩, hs3⟩ := hsh
      refine ⟨fun h => by rw [h] at hne; simp at hne, fun i hi => ?_⟩
      rcases hall i hi with ⟨hfa, rfl⟩ | ⟨hfb, rfl⟩
      · exact stepA hfa (hs2.resolve_left (by rw [hfa]; simp)) (fun _ _ => by simp)
      · exact stepB hfb (hs3.resolve_left (by rw [hfb]; simp)) (fun _ _ => by simp)
    | (j, true) :: l, hch, hpu, hfin, hn, hsh, stepA, stepB =>
      obtain ⟨rfl, rfl⟩ := hpu j l rfl
      unfold shape2 at hsh
      simp only [Bool.and_eq_true] at hsh
      obtain ⟨⟨hf, hr⟩, hs1⟩ := hsh
      obtain ⟨o, v, ho, hy, hd, hch1⟩ := hch
      refine wpAnyH_take ho hns hf hr (hQ _ _) hy hSw ?_
      rw [mkL_set]
      have hpA := put_slot (a := a) (hd _ hdA) v
      have hpB := put_slot (a := a) (hd _ hdB) v
      refine ih (upd f j) l fa fb (a.put o.dst v) w (a.put o.dst v) w (by unfold left2 at hn ⊢; simp at hn ⊢; omega) hs1 (by rw [put_size]; exact hsA) (by rw [put_size]; exact hsB) hSw hbw (fun h => (hmA h).elim fun k hk => ⟨k, hk.ext (Ext.refl w) hpA⟩) (fun h => (hmB h).elim fun k hk => ⟨k, hk.ext (Ext.refl w) hpB⟩) (fun h h' => (hm2 h h').elim fun k hk => hk.elim fun k' hk' => ⟨k, k', hk'.1.ext (Ext.refl w) hpA, hk'.2.1.ext (Ext.refl w) hpB, hk'.2.2⟩) hch1 (Away.refl _ _) (Ext.refl _) (fun _ _ _ => ⟨rfl, rfl⟩) ?_
      intro g a' w' hg
      exact hfin g a' w' fun t => by rw [hg t]; simp only [upd, List.map_cons, List.contains_cons]; cases (t == j) <;> cases f t <;> simp
    | (j, false) :: l, hch, hpu, hfin, hn, hsh, stepA, stepB =>
      unfold shape2 at hsh
      simp only [Bool.and_eq_true, Bool.or_eq_true, Bool.not_eq_true', List.all_eq_true, beq_iff_eq] at hsh
      obtain ⟨⟨⟨⟨hne, hall⟩, hs1⟩, hs2⟩, hs3⟩ := hsh
      refine ⟨fun h => by rw [h] at hne; simp at hne, fun i hi => ?_⟩
      rcases hall i hi with (hh | ⟨hfa, rfl⟩) | ⟨hfb, rfl⟩
      · subst hh
        rw [mkL_set]
        refine wpOp_mono ?_ (hch a w haw hx)
        rintro a1 w1 ⟨⟨hx1, hsz, hsl⟩, hch1⟩
        have hS1 := hS w w1 hSw hx1
        refine ⟨hS1, ih (upd f j) l fa fb a1 w1 a1 w1 (by unfold left2 at hn ⊢; simp at hn ⊢; omega) hs1 (by omega) (by omega) hS1 (Nat.le_trans hbw hx1.size) (fun h => (hmA h).elim fun k hk => ⟨k, hk.ext hx1 (hsl _ hdA)⟩) (fun h => (hmB h).elim fun k hk => ⟨k, hk.ext hx1 (hsl _ hdB)⟩) (fun h h' => (hm2 h h').elim fun k hk => hk.elim fun k' hk' => ⟨k, k', hk'.1.ext hx1 (hsl _ hdA), hk'.2.1.ext hx1 (hsl _ hdB), hk'.2.2⟩) hch1 (Away.refl _ _) (Ext.refl _) (fun _ _ _ => ⟨rfl, rfl⟩) ?_⟩
        intro g a' w' hg
        exact hfin g a' w' fun t => by rw [hg t]; simp only [upd, List.map_cons, List.contains_cons]; cases (t == j) <;> cases f t <;> simp
      · exact stepA hfa (hs2.resolve_left (by rw [hfa]; simp)) (fun _ _ => by simp)
      · exact stepB hfb (hs3.resolve_left (by rw [hfb]; simp)) (fun _ _ => by simp)


/-- May come up next: the next of l, or the making, if it has not been. -/
def shape1 (md : Region.Mode) (ops : Array Oper) (N : Nat) (iA : Nat) : Nat → (Nat → Bool) → List (Nat × Bool) → Bool → Bool
  | 0, _, _, _ => true
  | n + 1, f, (j, true) :: l, fa => Region.free md ops (mkL N f) j && (Region.ready md ops (mkL N f)).contains j && shape1 md ops N iA n (upd f j) l fa
  | n + 1, f, (j, false) :: l, fa =>
    !(Region.ready md ops (mkL N f)).isEmpty && (Region.ready md ops (mkL N f)).all (fun t => j == t || (!fa && t == iA)) &&
    shape1 md ops N iA n (upd f j) l fa && (fa || shape1 md ops N iA n (upd f iA) ((j, false) :: l) true)
  | n + 1, f, [], fa =>
    !(Region.ready md ops (mkL N f)).isEmpty && (Region.ready md ops (mkL N f)).all (fun t => !fa && t == iA) && (fa || shape1 md ops N iA n (upd f iA) [] true)

def left1 (l : List (Nat × Bool)) (fa : Bool) : Nat := l.length + (if fa then 0 else 1)

theorem chain1 {D : List Nat} {K : Act → World → Prop} {base iA dA N fuel : Nat} {oA : Obj} (hA : Makes P ops Q iA dA oA) (hdA : dA ∈ D)
    (hS : ∀ w w', S w → Ext w w' → S w') (hQ : ∀ (d : Option Tmp) (v : Value) c a w, Q (.panic c) (a.put d v) w → Q (.panic c) a w) (hns : Region.noSelect ops = true) :
    ∀ (n : Nat) (f : Nat → Bool) (l : List (Nat × Bool)) (fa : Bool) (a : Act) (w : World) (a0 : Act) (w0 : World), left1 l fa = n → shape1 md ops N iA n f l fa = true →
      dA < a.tmps.size → S w → base ≤ w.heap.size →
      (fa = true → ∃ k, Made base dA oA k a w) →
      wpCh P ops Q S D l K a0 w0 → Away D a0 a → Ext w0 w → (∀ j l', l = (j, true) :: l' → a = a0 ∧ w = w0) →
      (∀ (g : Nat → Bool) a' w', (∀ j, g j = (f j || (l.map (·.1)).contains j || (!fa && j == iA))) → S w' → (∃ k, Made base dA oA k a' w') → K a' w' → wpAnyH P md ops Q S fuel (mkL N g) a' w') →
      wpAnyH P md ops Q S (n + fuel) (mkL N f) a w := by
  intro n
  induction n with
  | zero =>
    intro f l fa a w a0 w0 hn _ _ hSw _ hmA hch haw hx _ hfin
    unfold left1 at hn
    have hl : l = [] := List.length_eq_zero_iff.1 (by omega)
    have hfa : fa = true := by cases fa <;> simp at hn ⊢
    subst hl hfa
    rw [Nat.zero_add]
    exact hfin f a w (fun j => by simp) hSw (hmA rfl) (hch a w haw hx)
  | succ n ih =>
    intro f l fa a w a0 w0 hn hsh hsA hSw hbw hmA hch haw hx hpu hfin
    rw [Nat.succ_add]
    have stepA : fa = false → shape1 md ops N iA n (upd f iA) l true = true → (∀ j l', l ≠ (j, true) :: l') → wpOp P ops Q iA (fun a' w' => S w' ∧ wpAnyH P md ops Q S (n + fuel) ((mkL N f).setIfInBounds iA true) a' w') a w := by
      intro h0 hs hl
      subst h0
      refine hA _ a w ?_
      have hx1 : Ext w (w.alloc oA) := (Ext.refl w).alloc
      have hS1 := hS w _ hSw hx1
      rw [mkL_set]
      refine ⟨hS1, ih (upd f iA) l true _ _ a0 w0 (by unfold left1 at hn ⊢; simp at hn ⊢; omega) hs (by rw [put_size]; exact hsA) hS1 (Nat.le_trans hbw hx1.size) (fun _ => ⟨_, Made.new hbw hsA⟩) hch (haw.put hdA _) (hx.trans hx1) (fun j l' e => absurd e (hl j l')) ?_⟩
      intro g a' w' hg
      exact hfin g a' w' fun t => by rw [hg t]; simp only [upd]; cases (t == iA) <;> cases f t <;> cases ((l.map (·.1)).contains t) <;> simp
    match l, hch, hpu, hfin, hn, hsh, stepA with
    | [], _, _, _, _, hsh, stepA =>
      unfold shape1 at hsh
      simp only [Bool.and_eq_true, Bool.or_eq_true, Bool.not_eq_true', List.all_eq_true, beq_iff_eq] at hsh
      obtain ⟨⟨hne, hall⟩, hs2⟩ := hsh
      refine ⟨fun h => by rw [h] at hne; simp at hne, fun i hi => ?_⟩
      rcases hall i hi with ⟨hfa, rfl⟩
      · exact stepA hfa (hs2.resolve_left (by rw [hfa]; simp)) (fun _ _ => by simp)
    | (j, true) :: l, hch, hpu, hfin, hn, hsh, stepA =>
      obtain ⟨rfl, rfl⟩ := hpu j l rfl
      unfold shape1 at hsh
      simp only [Bool.and_eq_true] at hsh
      obtain ⟨⟨hf, hr⟩, hs1⟩ := hsh
      obtain ⟨o, v, ho, hy, hd, hch1⟩ := hch
      refine wpAnyH_take ho hns hf hr (hQ _ _) hy hSw ?_
      rw [mkL_set]
      have hpA := put_slot (a := a) (hd _ hdA) v
      refine ih (upd f j) l fa (a.put o.dst v) w (a.put o.dst v) w (by unfold left1 at hn ⊢; simp at hn ⊢; omega) hs1 (by rw [put_size]; exact hsA) hSw hbw (fun h => (hmA h).elim fun k hk => ⟨k, hk.ext (Ext.refl w) hpA⟩) hch1 (Away.refl _ _) (Ext.refl _) (fun _ _ _ => ⟨rfl, rfl⟩) ?_
      intro g a' w' hg
      exact hfin g a' w' fun t => by rw [hg t]; simp only [upd, List.map_cons, List.contains_cons]; cases (t == j) <;> cases f t <;> simp
    | (j, false) :: l, hch, hpu, hfin, hn, hsh, stepA =>
      unfold shape1 at hsh
      simp only [Bool.and_eq_true, Bool.or_eq_true, Bool.not_eq_true', List.all_eq_true, beq_iff_eq] at hsh
      obtain ⟨⟨⟨hne, hall⟩, hs1⟩, hs2⟩ := hsh
      refine ⟨fun h => by rw [h] at hne; simp at hne, fun i hi => ?_⟩
      rcases hall i hi with hh | ⟨hfa, rfl⟩
      · subst hh
        rw [mkL_set]
        refine wpOp_mono ?_ (hch a w haw hx)
        rintro a1 w1 ⟨⟨hx1, hsz, hsl⟩, hch1⟩
        have hS1 := hS w w1 hSw hx1
        refine ⟨hS1, ih (upd f j) l fa a1 w1 a1 w1 (by unfold left1 at hn ⊢; simp at hn ⊢; omega) hs1 (by omega) hS1 (Nat.le_trans hbw hx1.size) (fun h => (hmA h).elim fun k hk => ⟨k, hk.ext hx1 (hsl _ hdA)⟩) hch1 (Away.refl _ _) (Ext.refl _) (fun _ _ _ => ⟨rfl, rfl⟩) ?_⟩
        intro g a' w' hg
        exact hfin g a' w' fun t => by rw [hg t]; simp only [upd, List.map_cons, List.contains_cons]; cases (t == j) <;> cases f t <;> simp
      · exact stepA hfa (hs2.resolve_left (by rw [hfa]; simp)) (fun _ _ => by simp)


/-- What stands behind, in its one order. -/
def wpTl (P : Program) (ops : Array Oper) (Q : Exit → Act → World → Prop) (S : World → Prop) : List Nat → Act → World → Prop
  | [], a, w => Q .normal a w
  | t :: l, a, w => wpOp P ops Q t (fun a' w' => S w' ∧ wpTl P ops Q S l a' w') a w
def shapeT (md : Region.Mode) (ops : Array Oper) (N : Nat) : (Nat → Bool) → List Nat → Bool
  | f, [] => (Region.ready md ops (mkL N f)).isEmpty
  | f, t :: l => Region.ready md ops (mkL N f) == [t] && shapeT md ops N (upd f t) l
theorem tail_sound {N : Nat} : ∀ (T : List Nat) (f : Nat → Bool) (a : Act) (w : World), shapeT md ops N f T = true → wpTl P ops Q S T a w → wpAnyH P md ops Q S T.length (mkL N f) a w := by
  intro T
  induction T with
  | nil => intro f a w h hw; exact ⟨by simpa [shapeT] using h, hw⟩
  | cons t l ih =>
    intro f a w h hw
    simp only [shapeT, Bool.and_eq_true, beq_iff_eq] at h
    refine ⟨fun e => by rw [e] at h; simp at h, fun i hi => ?_⟩
    rw [h.1] at hi
    simp only [List.mem_singleton] at hi
    subst hi
    rw [mkL_set]
    exact wpOp_mono (fun a' w' ⟨h1, h2⟩ => ⟨h1, ih _ a' w' h.2 h2⟩) hw

theorem region2 {listed : Array Bool} {fuel N iA dA iB dB : Nat} {oA oB : Obj} {l : List (Nat × Bool)} {T f0 : List Nat} {a : Act} {w : World} (hQ : ∀ (d : Option Tmp) (v : Value) c a w, Q (.panic c) (a.put d v) w → Q (.panic c) a w) (hns : Region.noSelect ops = true) (hN : listed = mkL N (fun j => f0.contains j)) (hfu : fuel = left2 l false false + T.length)
    (hsh : shape2 md ops N iA iB (left2 l false false) (fun j => f0.contains j) l false false = true) (hshT : shapeT md ops N (fun j => (f0.contains j || (l.map (·.1)).contains j || (!false && j == iA) || (!false && j == iB))) T = true)
    (hA : Makes P ops Q iA dA oA) (hB : Makes P ops Q iB dB oB) (hdd : dA ≠ dB) (hsA : dA < a.tmps.size) (hsB : dB < a.tmps.size) (hS : ∀ w w', S w → Ext w w' → S w') (hSw : S w)
    (hch : wpCh P ops Q S [dA, dB] l (fun a' w' => ∀ k k', Made w.heap.size dA oA k a' w' → Made w.heap.size dB oB k' a' w' → k ≠ k' → S w' → wpTl P ops Q S T a' w') a w) : wpAnyH P md ops Q S fuel listed a w := by
  subst hN hfu
  refine chain2 (D := [dA, dB]) (base := w.heap.size) hA hB (by simp) (by simp) hdd hS hQ hns _ _ l false false a w a w rfl hsh hsA hsB hSw (Nat.le_refl _) (fun h => by cases h) (fun h => by cases h) (fun h => by cases h) hch (Away.refl _ _) (Ext.refl _) (fun _ _ _ => ⟨rfl, rfl⟩) ?_
  rintro g a' w' hg hS' ⟨k, k', h1, h2, h3⟩ hK
  rw [mkL_congr hg]
  exact tail_sound T _ a' w' hshT (hK k k' h1 h2 h3 hS')

theorem region1 {listed : Array Bool} {fuel N iA dA : Nat} {oA : Obj} {l : List (Nat × Bool)} {T f0 : List Nat} {a : Act} {w : World} (hQ : ∀ (d : Option Tmp) (v : Value) c a w, Q (.panic c) (a.put d v) w → Q (.panic c) a w) (hns : Region.noSelect ops = true) (hN : listed = mkL N (fun j => f0.contains j)) (hfu : fuel = left1 l false + T.length)
    (hsh : shape1 md ops N iA (left1 l false) (fun j => f0.contains j) l false = true) (hshT : shapeT md ops N (fun j => (f0.contains j || (l.map (·.1)).contains j || (!false && j == iA))) T = true)
    (hA : Makes P ops Q iA dA oA) (hsA : dA < a.tmps.size) (hS : ∀ w w', S w → Ext w w' → S w') (hSw : S w)
    (hch : wpCh P ops Q S [dA] l (fun a' w' => ∀ k, Made w.heap.size dA oA k a' w' → S w' → wpTl P ops Q S T a' w') a w) : wpAnyH P md ops Q S fuel listed a w := by
  subst hN hfu
  refine chain1 (D := [dA]) (base := w.heap.size) hA (by simp) hS hQ hns _ _ l false a w a w rfl hsh hsA hSw (Nat.le_refl _) (fun h => by cases h) hch (Away.refl _ _) (Ext.refl _) (fun _ _ _ => ⟨rfl, rfl⟩) ?_
  rintro g a' w' hg hS' ⟨k, h1⟩ hK
  rw [mkL_congr hg]
  exact tail_sound T _ a' w' hshT (hK k h1 hS')

/-- One operation, run here and now. -/
theorem wpOp_of {i : Nat} {o : Oper} {K : Act → World → Prop} {a : Act} {w : World} (ho : ops[i]? = some o)
    (h : ∀ K' : Act → World → Prop, (∀ a w, K a w → K' a w) → if Region.wanted o (yielded ops a.tmps) then o.wp P a w K' Q else K' (a.put o.dst undef) w) : wpOp P ops Q i K a w := by
  have := h K (fun _ _ h => h)
  unfold wpOp
  simp only [ho]
  split
  · rename_i hw; rw [if_pos hw] at this; exact .inl this
  · rename_i hw; rw [if_neg hw] at this; exact this

theorem slots2 {d e : Nat} {a a' : Act} (h : a'.tmps[d]? = a.tmps[d]?) (h' : a'.tmps[e]? = a.tmps[e]?) : ∀ t ∈ [d, e], a'.tmps[t]? = a.tmps[t]? := by
  intro t ht
  simp only [List.mem_cons, List.not_mem_nil, or_false] at ht
  rcases ht with rfl | rfl
  · exact h
  · exact h'
theorem slots1 {d : Nat} {a a' : Act} (h : a'.tmps[d]? = a.tmps[d]?) : ∀ t ∈ [d], a'.tmps[t]? = a.tmps[t]? := by
  intro t ht
  simp only [List.mem_cons, List.not_mem_nil, or_false] at ht
  subst ht; exact h
theorem away2 {d e : Nat} {arr : Array Value} {df : List Deferred} {a' : Act} (h : Away [d, e] ⟨arr, df⟩ a') : ∃ x y, a' = ⟨(arr.setIfInBounds d x).setIfInBounds e y, df⟩ := by
  obtain ⟨h1, h2, h3⟩ := h
  refine ⟨a'.tmps.getD d undef, a'.tmps.getD e undef, ?_⟩
  cases a' with
  | mk t f =>
    simp only [Act.mk.injEq] at h1 h2 h3 ⊢
    refine ⟨Array.ext_getElem? fun j => ?_, h1⟩
    simp only [Array.getElem?_setIfInBounds, Array.size_setIfInBounds]
    by_cases he : e = j
    · subst he
      by_cases hl : e < arr.size
      · simp [hl, show e < t.size by omega]
      · simp [hl, show t.size ≤ e by omega]
    · by_cases hd : d = j
      · subst hd
        by_cases hl : d < arr.size
        · simp [he, hl, show d < t.size by omega]
        · simp [he, hl, show t.size ≤ d by omega]
      · simp only [if_neg he, if_neg hd]
        exact h3 j (by simp [Ne.symm he, Ne.symm hd])
theorem away1 {d : Nat} {arr : Array Value} {df : List Deferred} {a' : Act} (h : Away [d] ⟨arr, df⟩ a') : ∃ x, a' = ⟨arr.setIfInBounds d x, df⟩ := by
  obtain ⟨h1, h2, h3⟩ := h
  refine ⟨a'.tmps.getD d undef, ?_⟩
  cases a' with
  | mk t f =>
    simp only [Act.mk.injEq] at h1 h2 h3 ⊢
    refine ⟨Array.ext_getElem? fun j => ?_, h1⟩
    simp only [Array.getElem?_setIfInBounds]
    by_cases hd : d = j
    · subst hd
      by_cases hl : d < arr.size
      · simp [hl, show d < t.size by omega]
      · simp [hl, show t.size ≤ d by omega]
    · simp only [if_neg hd]
      exact h3 j (by simp [Ne.symm hd])

end
end Go.Proofs.Ytcndfpfjckkinaa

/-
  A region that draws its order, whose last operation stores into a cell that the region loads: what loads and what only reckons is taken first, although the last operation ends what the loads need.
-/
namespace Go.Proofs.Ytcndfpfjckkinaa
open Go Go.RowKit

section
variable {P : Program} {ops : Array Oper} {Q : Exit → Act → World → Prop} {md : Region.Mode} {S : World → Prop} {t : Nat}

/-- Whatever order is picked, S holds behind every operation but number t. -/
def wpAnyX (P : Program) (md : Region.Mode) (ops : Array Oper) (Q : Exit → Act → World → Prop) (S : World → Prop) (t : Nat) : Nat → Array Bool → Act → World → Prop
  | 0, listed, a, w => Region.ready md ops listed = [] ∧ Q .normal a w
  | fuel + 1, listed, a, w =>
    (Region.ready md ops listed = [] → Q .normal a w) ∧
    ∀ i ∈ Region.ready md ops listed, wpOp P ops Q i (fun a' w' => (i = t ∨ S w') ∧ wpAnyX P md ops Q S t fuel (listed.setIfInBounds i true) a' w') a w
theorem wpAny_of_X : ∀ (fuel : Nat) (listed : Array Bool) (a : Act) (w : World), wpAnyX P md ops Q S t fuel listed a w → wpAny P md ops Q fuel listed a w
  | 0, _, _, _, h => h
  | fuel + 1, _, _, _, h => ⟨h.1, fun i hi => wpOp_mono (fun a' w' h' => wpAny_of_X fuel _ a' w' h'.2) (h.2 i hi)⟩
/-- Operation t waits for operation i. -/
def lastB (md : Region.Mode) (ops : Array Oper) (t i : Nat) : Bool :=
  match ops[t]? with
  | some o => o.after.toList.any fun e => Region.binds md e && e.on == i
  | none => false
theorem lastB_spec {i : Nat} (h : lastB md ops t i = true) {o : Oper} (ho : ops[t]? = some o) : ∃ e ∈ o.after, Region.binds md e = true ∧ e.on = i := by
  unfold lastB at h
  rw [ho] at h
  obtain ⟨e, he, hb⟩ := List.any_eq_true.1 h
  simp only [Bool.and_eq_true, beq_iff_eq] at hb
  exact ⟨e, Array.mem_toList_iff.1 he, hb⟩
theorem wpAnyX_first {i : Nat} {oi : Oper} {v : Value} (hi : ops[i]? = some oi) (hsel : ∀ (j : Nat) (o : Oper) cs b, ops[j]? = some o → o.op ≠ .select cs b)
    (hQ : ∀ c a w, Q (.panic c) (a.put oi.dst v) w → Q (.panic c) a w) (hlast : ∀ o, ops[t]? = some o → ∃ e ∈ o.after, Region.binds md e = true ∧ e.on = i) :
    ∀ (fuel : Nat) (listed : Array Bool) (a : Act) (w : World),
      (∀ j oj, ops[j]? = some oj → j ≠ i → listed.getD j true = false → (∀ e ∈ oj.after, Region.binds md e = true → e.on ≠ i) → oi.apart ops oj = true) →
      i ∈ Region.ready md ops listed → YieldsIf P ops S oi v a → S w →
      wpAnyX P md ops Q S t fuel (listed.setIfInBounds i true) (a.put oi.dst v) w → wpAnyX P md ops Q S t (fuel + 1) listed a w := by
  intro fuel
  induction fuel with
  | zero =>
    intro listed a w _ hr hy hS H
    refine ⟨fun h => (by rw [h] at hr; cases hr), fun j hj => ?_⟩
    by_cases hji : j = i
    · subst hji; exact hy.wpOp hi hS ⟨.inr hS, H⟩
    · have := ready_mono hj hji
      rw [H.1] at this
      cases this
  | succ fuel ih =>
    intro listed a w hfree hr hy hS H
    refine ⟨fun h => (by rw [h] at hr; cases hr), fun j hj => ?_⟩
    by_cases hji : j = i
    · subst hji; exact hy.wpOp hi hS ⟨.inr hS, H⟩
    · have h1 := H.2 j (ready_mono hj hji)
      obtain ⟨hjun, oj, hoj, hall⟩ := mem_ready.1 hj
      have hnot : ∀ e ∈ oj.after, Region.binds md e = true → e.on ≠ i := fun e he hb heq => by
        have h1 := hall e he hb
        have h0 := (mem_ready.1 hr).1
        rw [heq] at h1
        rcases Nat.lt_or_ge i listed.size with h' | h'
        · simp [h'] at h0 h1; rw [h0] at h1; cases h1
        · simp [Array.getElem?_eq_none h'] at h1
      have hjt : j ≠ t := fun e => by
        subst e
        obtain ⟨e, he, hb, hon⟩ := hlast oj hoj
        exact hnot e he hb hon
      have h2 := wpOp_putIf hoj (hfree j oj hoj hji hjun hnot) (fun cs b => hsel i oi cs b hi) (fun cs b => hsel j oj cs b hoj) hQ hy h1
      have hfree' : ∀ k ok, ops[k]? = some ok → k ≠ i → (listed.setIfInBounds j true).getD k true = false →
          (∀ e ∈ ok.after, Region.binds md e = true → e.on ≠ i) → oi.apart ops ok = true := fun k ok hk hki hun hno => by
        refine hfree k ok hk hki ?_ hno
        by_cases hjk : j = k
        · subst hjk; exact hjun
        · rw [getD_set_ne true hjk] at hun; exact hun
      refine wpOp_mono (fun a' w' h3 => ?_) h2
      have hS' : S w' := h3.2.1.resolve_left hjt
      refine ⟨.inr hS', ih (listed.setIfInBounds j true) a' w' hfree' (ready_mono hr (Ne.symm hji)) h3.1 hS' ?_⟩
      rw [Array.setIfInBounds_comm _ _ hji]
      exact h3.2.2
theorem wpAnyX_take {i : Nat} {oi : Oper} {v : Value} {fuel : Nat} {listed : Array Bool} {a : Act} {w : World} (hi : ops[i]? = some oi)
    (hs : Region.noSelect ops = true) (hf : Region.free md ops listed i = true) (hr : (Region.ready md ops listed).contains i = true) (hl : lastB md ops t i = true)
    (hQ : ∀ c a w, Q (.panic c) (a.put oi.dst v) w → Q (.panic c) a w) (hy : YieldsIf P ops S oi v a) (hS : S w)
    (h : wpAnyX P md ops Q S t fuel (listed.setIfInBounds i true) (a.put oi.dst v) w) : wpAnyX P md ops Q S t (fuel + 1) listed a w :=
  wpAnyX_first hi (Region.noSelect_spec hs) hQ (fun o ho => lastB_spec hl ho) fuel listed a w (Region.free_spec hi hf) (by simpa using hr) hy hS h

/-- The operations l, one behind the other. -/
def wpTlX (P : Program) (ops : Array Oper) (Q : Exit → Act → World → Prop) (S : World → Prop) (t : Nat) : List Nat → Act → World → Prop
  | [], a, w => Q .normal a w
  | i :: l, a, w => wpOp P ops Q i (fun a' w' => (i = t ∨ S w') ∧ wpTlX P ops Q S t l a' w') a w
theorem tailX {N : Nat} : ∀ (T : List Nat) (f : Nat → Bool) (a : Act) (w : World), shapeT md ops N f T = true → wpTlX P ops Q S t T a w → wpAnyX P md ops Q S t T.length (mkL N f) a w := by
  intro T
  induction T with
  | nil => intro f a w h hw; exact ⟨by simpa [shapeT] using h, hw⟩
  | cons i l ih =>
    intro f a w h hw
    simp only [shapeT, Bool.and_eq_true, beq_iff_eq] at h
    refine ⟨fun e => by rw [e] at h; simp at h, fun j hj => ?_⟩
    rw [h.1] at hj
    simp only [List.mem_singleton] at hj
    subst hj
    rw [mkL_set]
    exact wpOp_mono (fun a' w' ⟨h1, h2⟩ => ⟨h1, ih _ a' w' h.2 h2⟩) hw
theorem tailX_at {N fuel : Nat} {listed : Array Bool} {f0 T : List Nat} {a : Act} {w : World} (hN : listed = mkL N (fun j => f0.contains j)) (hfu : fuel = T.length) (hsh : shapeT md ops N (fun j => f0.contains j) T = true)
    (h : wpTlX P ops Q S t T a w) : wpAnyX P md ops Q S t fuel listed a w := by
  subst hN hfu
  exact tailX T _ a w hsh h
/-- The beginning. -/
theorem wp_region_X {id : Nat} {a : Act} {w : World} (t : Nat) (S : World → Prop) (hm : P.follows .mixedOrders = true)
    (h : wpAnyX P .any ops Q S t ops.size (Array.replicate ops.size false) a w.drew) : (Code.region id ops true).wp P Q a w :=
  wp_region_any hm (wpAny_of_X _ _ _ _ h)
end
end Go.Proofs.Ytcndfpfjckkinaa
