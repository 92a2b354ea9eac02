/-
  Texts joined: Gb, Gc, Ew, Ent, Zh, Gd, Ge. Each says at its head what it shows.
-/
import Derived.Deep.RegionHeld3
import Derived.Deep.RegionWith
import Derived.OrdersHeld
import Derived.Shelf.Bits.Mul64
import Derived.BigQuiet
import Derived.Lib.Strings
import Derived.Lib.Slices
import Derived.Lib.Small
import Derived.Lib.Walk
import Derived.Lib.BitFns
import Derived.Laws.Bits64b
import Derived.Deep.DeepCutAuto
import Derived.Laws.BytesArg
import Derived.IntWalk
import Derived.Test.YthoedmikfpbfnaaGreatProg
import Derived.Test.YthoedmikfpbfnaaGreatPRa
set_option linter.unusedVariables false
set_option linter.unusedSimpArgs false
section
namespace Go.Proofs.YthoedmikfpbfnaaGreat
open Go Go.RowKit

theorem isZ_row {w : World} {neg : Bool} {sv : Value} {n : Int} (h : IsZ w neg sv n) (hn : Fit n) : ∃ ds, Row w sv ds ∧ Digs ds ∧ Tidy ds ∧ val ds = n.natAbs ∧ ds.length ≤ 7000 ∧ neg = decide (n < 0) := by
 obtain ⟨ds, h1, h2, h3, h4, h5⟩ := h
 have h0 := val_nonneg h2
 have e : val ds = n.natAbs := by cases neg <;> simp [sgn] at h4 <;> omega
 exact ⟨ds, h1, h2, h3, e, tidy_len h2 h3 7000 (by rw [e]; exact hn), h5⟩

theorem isZ_end {w w1 : World} {k : Nat} {neg : Bool} {a : Option Addr} {l c : Nat} {n : Int} (hz : IsZ w1 neg (.slice a l c) n) (hk : Kind w1 k 37) (hb : Below w.heap.size w w1) (hle : w.heap.size ≤ k) (u u' : Value) :
  RetZ w n (.returned (.agg #[.bool neg, .slice a l c])) ((w1.setCell ⟨k, 0, none⟩ u).setCell ⟨k, 1, none⟩ u') :=
 ⟨_, _, _, _, rfl, (hz.setCell hk (by decide) _ _).setCell (hk.setCell _ _ _) (by decide) _ _, (hb.setCell hle _).setCell hle _⟩

set_option maxRecDepth 100000 in
set_option maxHeartbeats 1600000 in
theorem neg_any (na : Bool) (aa : Option Addr) (la ca : Nat) (n : Int) (w : World) (hz : IsZ w na (.slice aa la ca) n) (hn : Fit n) :
  Calls Tryz.prog 88 #[.agg #[.bool na, .slice aa la ca]] w (RetZ w (-n)) := by
 obtain ⟨ds, hr, dd, td, hv, hl, rfl⟩ := isZ_row hz hn
 go_enter Tryz.func88, Tryz.ntmps88
 go_wp2_with (go_at_call 79; refine (tidy_any _ _ ds _ (hr.below (((Below.refl _ w).alloc (Nat.le_refl _) _).alloc (by simp) _)) dd (by omega)).mono ?_; rintro e w1 ⟨neg, a1, l1, c1, rfl, hz1, hb1⟩; obtain ⟨hcl, hfr1⟩ := bcell hb1)
 have e : sgn (!decide (n < 0)) (val ds) = -n := by
  rw [hv]
  by_cases h : n < 0 <;> simp [sgn, h] <;> omega
 rw [e] at hz1
 refine bodyPost_ret (v := .agg #[.bool neg, .slice a1 l1 c1]) (by simp [results, Tryz.results88, go_sem, hcl]) rfl
  (isZ_end hz1 ((Kind.new' (w := w.alloc _) (k := w.heap.size + 1) _ _ (by simp)).below hb1) ((((Below.refl _ w).alloc (Nat.le_refl _) _).alloc (by simp) _).trans (hb1.mono (by simp; omega))) (by simp) _ _)

set_option maxRecDepth 100000 in
set_option maxHeartbeats 1600000 in
theorem abs_any (na : Bool) (aa : Option Addr) (la ca : Nat) (n : Int) (w : World) (hz : IsZ w na (.slice aa la ca) n) (hn : Fit n) :
  Calls Tryz.prog 130 #[.agg #[.bool na, .slice aa la ca]] w (RetZ w n.natAbs) := by
 obtain ⟨ds, hr, dd, td, hv, hl, rfl⟩ := isZ_row hz hn
 go_enter Tryz.func130, Tryz.ntmps130
 go_wp2_with (go_at_call 79; refine (tidy_any _ _ ds _ (hr.below (((Below.refl _ w).alloc (Nat.le_refl _) _).alloc (by simp) _)) dd (by omega)).mono ?_; rintro e w1 ⟨neg, a1, l1, c1, rfl, hz1, hb1⟩; obtain ⟨hcl, hfr1⟩ := bcell hb1)
 have e : sgn false (val ds) = n.natAbs := by rw [hv]; rfl
 rw [e] at hz1
 refine bodyPost_ret (v := .agg #[.bool neg, .slice a1 l1 c1]) (by simp [results, Tryz.results130, go_sem, hcl]) rfl
  (isZ_end hz1 ((Kind.new' (w := w.alloc _) (k := w.heap.size + 1) _ _ (by simp)).below hb1) ((((Below.refl _ w).alloc (Nat.le_refl _) _).alloc (by simp) _).trans (hb1.mono (by simp; omega))) (by simp) _ _)

theorem add_same {na : Bool} {m n z x y : Int} (hz : z = x + y) (hx : x = m.natAbs) (hy : y = n.natAbs) (ha : na = decide (m < 0)) (hb : na = decide (n < 0)) : sgn na z = m + n := by
 subst hz hx hy ha
 by_cases h1 : m < 0 <;> by_cases h2 : n < 0 <;> simp [sgn, h1, h2] at hb ⊢ <;> omega
theorem add_diff {na nb : Bool} {m n z x y : Int} (hz : z = x - y) (hx : x = m.natAbs) (hy : y = n.natAbs) (ha : na = decide (m < 0)) (hb : nb = decide (n < 0)) (hab : ¬ na = nb) (_ : y ≤ x) : sgn na z = m + n := by
 subst hz hx hy ha hb
 by_cases h1 : m < 0 <;> by_cases h2 : n < 0 <;> simp [sgn, h1, h2] at hab ⊢ <;> omega
theorem add_diff2 {na nb : Bool} {m n z x y : Int} (hz : z = y - x) (hx : x = m.natAbs) (hy : y = n.natAbs) (ha : na = decide (m < 0)) (hb : nb = decide (n < 0)) (hab : ¬ na = nb) (_ : ¬ y ≤ x) : sgn nb z = m + n := by
 subst hz hx hy ha hb
 by_cases h1 : m < 0 <;> by_cases h2 : n < 0 <;> simp [sgn, h1, h2] at hab ⊢ <;> omega

set_option maxRecDepth 100000 in
set_option maxHeartbeats 1600000 in
theorem add_z (na nb : Bool) (aa ab : Option Addr) (la ca lb cb : Nat) (m n : Int) (w : World) (hza : IsZ w na (.slice aa la ca) m) (hzb : IsZ w nb (.slice ab lb cb) n) (hm : Fit m) (hn : Fit n) :
  Calls Tryz.prog 32 #[.agg #[.bool na, .slice aa la ca], .agg #[.bool nb, .slice ab lb cb]] w (RetZ w (m + n)) := by
 obtain ⟨xs, hrx, dx, tx, hvx, hlx, hna⟩ := isZ_row hza hm
 obtain ⟨ys, hry, dy, ty, hvy, hly, hnb⟩ := isZ_row hzb hn
 obtain ⟨hA, hB, hR⟩ := boxes3 w (.bool na) (.bool nb) (.bool false) (.slice aa la ca) (.slice ab lb cb) (.slice none 0 0) 37 37 37
 have hW := below3 w (.cells #[.bool na, .slice aa la ca] 37) (.cells #[.bool nb, .slice ab lb cb] 37) (.cells #[.bool false, .slice none 0 0] 37)
 have HX := Lib.hid hvx
 have HY := Lib.hid hvy
 have HA := Lib.hid hna
 have HB := Lib.hid hnb
 clear hvx hvy hna hnb
 by_cases hab : na = nb
 ·subst hab
  go_enter Tryz.func32, Tryz.ntmps32
  go_wp2_with fail
  go_region_held3 (fun w' => w'.cell? ⟨w.heap.size, 0, none⟩ = some (.bool na) ∧ w'.cell? ⟨w.heap.size, 1, none⟩ = some (.slice aa la ca) ∧ w'.cell? ⟨w.heap.size + 1, 0, none⟩ = some (.bool na) ∧ w'.cell? ⟨w.heap.size + 1, 1, none⟩ = some (.slice ab lb cb))
   (first
    | exact s2 ((((hA.drew.below hb1).below hb2).other (by omega) _ _).other (by omega) _ _) ((((hB.drew.below hb1).below hb2).other (by omega) _ _).other (by omega) _ _)
    | exact s2 ((hA.drew.below hb1).below hb2) ((hB.drew.below hb1).below hb2)
    | exact s2 (hA.drew.below hb1) (hB.drew.below hb1)
    | exact s2 hA.drew hB.drew)
   (first
    | (go_at_call 80; refine (plus_any _ _ xs ys _ (hrx.below hW.drew) (hry.below hW.drew) dx dy (by omega) (by omega)).mono ?_; rintro e w1 ⟨v1, zs, rfl, hr1, dz, hvz, hlz, hb1⟩)
    | (go_at_call 79; refine (tidy_any na _ zs _ hr1 dz (by omega)).mono ?_; rintro e w2 ⟨neg2, a2, l2, c2, rfl, hz2, hb2⟩; have q := ((hR.drew.below hb1).below hb2); have q0 := q.c0; have q1 := q.c1; have q2 := q.f0; have q3 := q.f1))
  rw [show sgn na (val zs) = m + n from by exact add_same hvz HX.out HY.out HA.out HB.out] at hz2
  go_wp2_with fail
  refine bodyPost_ret (v := .agg #[.bool neg2, .slice a2 l2 c2]) (by simp [results, Tryz.results32, go_sem, q0, q1]) rfl
   (isZ_end hz2 q.kind ((hW.drew.trans (hb1.mono (by simp; omega))).trans (hb2.mono (Nat.le_trans (by simp; omega) hb1.size))) (by omega) _ _)
 ·have hab' : (na == nb) = false := by simpa using hab
  by_cases hc : val ys ≤ val xs
  ·have hc0 : 0 ≤ cmpI (val xs) (val ys) := (cmpI_ge _ _).2 hc
   have hll : ys.length ≤ xs.length := by
    by_cases h : ys.length ≤ xs.length
    ·exact h
    ·have := less_len dx dy ty (by omega); omega
   go_enter Tryz.func32, Tryz.ntmps32
   go_wp2_with (go_at_call 81; refine (compare_any _ _ xs ys _ (hrx.below hW) (hry.below hW) dx dy tx ty (by omega) (by omega)).mono ?_; rintro e w' ⟨rfl, nq, rfl⟩)
   go_region_held3 (fun w' => w'.cell? ⟨w.heap.size, 0, none⟩ = some (.bool na) ∧ w'.cell? ⟨w.heap.size, 1, none⟩ = some (.slice aa la ca) ∧ w'.cell? ⟨w.heap.size + 1, 0, none⟩ = some (.bool nb) ∧ w'.cell? ⟨w.heap.size + 1, 1, none⟩ = some (.slice ab lb cb))
    (first
     | exact s2 (((((hA.drewN nq).drew.below hb1).below hb2).other (by omega) _ _).other (by omega) _ _) (((((hB.drewN nq).drew.below hb1).below hb2).other (by omega) _ _).other (by omega) _ _)
     | exact s2 (((hA.drewN nq).drew.below hb1).below hb2) (((hB.drewN nq).drew.below hb1).below hb2)
     | exact s2 ((hA.drewN nq).drew.below hb1) ((hB.drewN nq).drew.below hb1)
     | exact s2 (hA.drewN nq).drew (hB.drewN nq).drew)
    (first
     | (go_at_call 82; refine (minus_any _ _ xs ys _ (hrx.below (below_drewN hW nq).drew) (hry.below (below_drewN hW nq).drew) dx dy (by omega) hll hc).mono ?_; rintro e w1 ⟨v1, zs, rfl, hr1, dz, hvz, hlz, hb1⟩)
     | (go_at_call 79; refine (tidy_any na _ zs _ hr1 dz (by omega)).mono ?_; rintro e w2 ⟨neg2, a2, l2, c2, rfl, hz2, hb2⟩; have q := (((hR.drewN nq).drew.below hb1).below hb2); have q0 := q.c0; have q1 := q.c1; have q2 := q.f0; have q3 := q.f1))
   rw [show sgn na (val zs) = m + n from by exact add_diff hvz HX.out HY.out HA.out HB.out hab (by omega)] at hz2
   go_wp2_with fail
   refine bodyPost_ret (v := .agg #[.bool neg2, .slice a2 l2 c2]) (by simp [results, Tryz.results32, go_sem, q0, q1]) rfl
    (isZ_end hz2 q.kind (((below_drewN hW nq).drew.trans (hb1.mono (by simp; omega))).trans (hb2.mono (Nat.le_trans (by simp; omega) hb1.size))) (by omega) _ _)
  ·have hc0 : cmpI (val xs) (val ys) < 0 := by have := cmpI_ge (val xs) (val ys); omega
   have hll : xs.length ≤ ys.length := by
    by_cases h : xs.length ≤ ys.length
    ·exact h
    ·have := less_len dy dx tx (by omega); omega
   go_enter Tryz.func32, Tryz.ntmps32
   go_wp2_with (go_at_call 81; refine (compare_any _ _ xs ys _ (hrx.below hW) (hry.below hW) dx dy tx ty (by omega) (by omega)).mono ?_; rintro e w' ⟨rfl, nq, rfl⟩)
   go_region_held3 (fun w' => w'.cell? ⟨w.heap.size, 0, none⟩ = some (.bool na) ∧ w'.cell? ⟨w.heap.size, 1, none⟩ = some (.slice aa la ca) ∧ w'.cell? ⟨w.heap.size + 1, 0, none⟩ = some (.bool nb) ∧ w'.cell? ⟨w.heap.size + 1, 1, none⟩ = some (.slice ab lb cb))
    (first
     | exact s2 (((((hA.drewN nq).drew.below hb1).below hb2).other (by omega) _ _).other (by omega) _ _) (((((hB.drewN nq).drew.below hb1).below hb2).other (by omega) _ _).other (by omega) _ _)
     | exact s2 (((hA.drewN nq).drew.below hb1).below hb2) (((hB.drewN nq).drew.below hb1).below hb2)
     | exact s2 ((hA.drewN nq).drew.below hb1) ((hB.drewN nq).drew.below hb1)
     | exact s2 (hA.drewN nq).drew (hB.drewN nq).drew)
    (first
     | (go_at_call 82; refine (minus_any _ _ ys xs _ (hry.below (below_drewN hW nq).drew) (hrx.below (below_drewN hW nq).drew) dy dx (by omega) hll (by omega)).mono ?_; rintro e w1 ⟨v1, zs, rfl, hr1, dz, hvz, hlz, hb1⟩)
     | (go_at_call 79; refine (tidy_any nb _ zs _ hr1 dz (by omega)).mono ?_; rintro e w2 ⟨neg2, a2, l2, c2, rfl, hz2, hb2⟩; have q := (((hR.drewN nq).drew.below hb1).below hb2); have q0 := q.c0; have q1 := q.c1; have q2 := q.f0; have q3 := q.f1))
   rw [show sgn nb (val zs) = m + n from by exact add_diff2 hvz HX.out HY.out HA.out HB.out hab (by omega)] at hz2
   go_wp2_with fail
   refine bodyPost_ret (v := .agg #[.bool neg2, .slice a2 l2 c2]) (by simp [results, Tryz.results32, go_sem, q0, q1]) rfl
    (isZ_end hz2 q.kind (((below_drewN hW nq).drew.trans (hb1.mono (by simp; omega))).trans (hb2.mono (Nat.le_trans (by simp; omega) hb1.size))) (by omega) _ _)

set_option maxRecDepth 100000 in
set_option maxHeartbeats 400000 in
theorem sub_z (na nb : Bool) (aa ab : Option Addr) (la ca lb cb : Nat) (m n : Int) (w : World) (hza : IsZ w na (.slice aa la ca) m) (hzb : IsZ w nb (.slice ab lb cb) n) (hm : Fit m) (hn : Fit n) :
  Calls Tryz.prog 38 #[.agg #[.bool na, .slice aa la ca], .agg #[.bool nb, .slice ab lb cb]] w (RetZ w (m - n)) := by
 obtain ⟨hA, hB, hR⟩ := boxes3 w (.bool na) (.bool nb) (.bool false) (.slice aa la ca) (.slice ab lb cb) (.slice none 0 0) 37 37 37
 go_enter Tryz.func38, Tryz.ntmps38
 go_wp2_with fail
 go_region_held3 (fun w' => w'.cell? ⟨w.heap.size, 0, none⟩ = some (.bool na) ∧ w'.cell? ⟨w.heap.size, 1, none⟩ = some (.slice aa la ca) ∧ w'.cell? ⟨w.heap.size + 1, 0, none⟩ = some (.bool nb) ∧ w'.cell? ⟨w.heap.size + 1, 1, none⟩ = some (.slice ab lb cb))
  (first
   | exact s2 ((((hA.drew.below hb1).below hb2).other (by omega) _ _).other (by omega) _ _) ((((hB.drew.below hb1).below hb2).other (by omega) _ _).other (by omega) _ _)
   | exact s2 ((hA.drew.below hb1).below hb2) ((hB.drew.below hb1).below hb2)
   | exact s2 (hA.drew.below hb1) (hB.drew.below hb1)
   | exact s2 hA.drew hB.drew)
  (first
   | (go_at_call 88; refine (neg_any _ _ _ _ n _ (hzb.below (below3 w _ _ _).drew) hn).mono ?_; rintro e w1 ⟨neg, a1, l1, c1, rfl, hz1, hb1⟩)
   | (go_at_call 32; refine (add_z _ _ _ _ _ _ _ _ m (-n) _ (hza.below ((below3 w _ _ _).drew.trans (hb1.mono (by simp; omega)))) hz1 hm hn.neg).mono ?_; rintro e w2 ⟨neg2, a2, l2, c2, rfl, hz2, hb2⟩; have q := ((hR.drew.below hb1).below hb2); have q0 := q.c0; have q1 := q.c1; have q2 := q.f0; have q3 := q.f1))
 rw [show m + -n = m - n from by omega] at hz2
 go_wp2_with fail
 refine bodyPost_ret (v := .agg #[.bool neg2, .slice a2 l2 c2]) (by simp [results, Tryz.results38, go_sem, q0, q1]) rfl
  (isZ_end hz2 q.kind (((below3 w _ _ _).drew.trans (hb1.mono (by simp; omega))).trans (hb2.mono (Nat.le_trans (by simp; omega) hb1.size))) (by omega) _ _)

end Go.Proofs.YthoedmikfpbfnaaGreat

namespace Go.Proofs.YthoedmikfpbfnaaGreat
open Go Go.RowKit

def RetN (w : World) (n : Int) (e : Ending) (w' : World) : Prop := e = .returned (.int .i64 n) ∧ Below w.heap.size w w'

theorem isZ_sign {w : World} {neg : Bool} {a : Option Addr} {l c : Nat} {n : Int} (h : IsZ w neg (.slice a l c) n) : (l = 0 ↔ n = 0) ∧ neg = decide (n < 0) := by
 obtain ⟨ds, hr, dd, td, hv, hneg⟩ := h
 obtain ⟨a', cap', b, off, e, h1, h2, h3⟩ := hr
 simp only [Value.slice.injEq] at e
 obtain ⟨rfl, rfl, rfl⟩ := e
 refine ⟨?_, hneg⟩
 have ht := tidy_zero dd td
 rw [List.length_eq_zero_iff, ← ht, hv]
 cases neg <;> simp [sgn]

set_option maxRecDepth 100000 in
set_option maxHeartbeats 1600000 in
theorem cmp_z (na nb : Bool) (aa ab : Option Addr) (la ca lb cb : Nat) (m n : Int) (w : World) (hza : IsZ w na (.slice aa la ca) m) (hzb : IsZ w nb (.slice ab lb cb) n) (hm : Fit m) (hn : Fit n) :
  Calls Tryz.prog 86 #[.agg #[.bool na, .slice aa la ca], .agg #[.bool nb, .slice ab lb cb]] w (RetN w (cmpI m n)) := by
 have hW := below2 w (.cells #[.bool na, .slice aa la ca] 37) (.cells #[.bool nb, .slice ab lb cb] 37)
 go_enter Tryz.func86, Tryz.ntmps86
 go_wp2_with fail
 refine (sub_z _ _ _ _ _ _ _ _ m n _ (hza.below hW) (hzb.below hW) hm hn).mono ?_
 rintro e w1 ⟨neg, a, l, c, rfl, hz, hb⟩
 have hb' := hW.trans (hb.mono (by simp; omega))
 have hb2 := Below.alloc hb' hb'.size (.cells #[.bool neg, .slice a l c] 37)
 obtain ⟨h1, h2⟩ := isZ_sign hz
 have H1 := Lib.hid h1
 have H2 := Lib.hid h2
 clear h1 h2 hW hb hb' hz hza hzb
 by_cases hd : l = 0
 ·subst hd
  have hc := Lib.hid (cmpI_eq (a := m) (b := n) (by have := H1.out.1 rfl; omega))
  go_wp2_with fail
  go_ret
  exact ⟨by rw [hc.out]; rfl, hb2⟩
 ·have hd' : ((l : Int) == 0) = false := by simpa using hd
  have hne : m - n ≠ 0 := fun h => hd (H1.out.2 h)
  have H2' := H2.out
  cases neg
  ·have hc := Lib.hid (cmpI_gt (a := m) (b := n) (by simp at H2'; omega))
   clear H2' hne
   go_wp2_with fail
   go_ret
   exact ⟨by rw [hc.out]; rfl, hb2⟩
  ·have hc := Lib.hid (cmpI_lt (a := m) (b := n) (by simp at H2'; omega))
   clear H2' hne
   go_wp2_with fail
   go_ret
   exact ⟨by rw [hc.out]; rfl, hb2⟩

theorem fit_zero : Fit 0 := by unfold Fit; have := B_pos 7000; simp; omega

set_option maxRecDepth 100000 in
set_option maxHeartbeats 1600000 in
theorem sign_z (na : Bool) (aa : Option Addr) (la ca : Nat) (m : Int) (w : World) (hza : IsZ w na (.slice aa la ca) m) (hm : Fit m) :
  Calls Tryz.prog 103 #[.agg #[.bool na, .slice aa la ca]] w (RetN w (cmpI m 0)) := by
 have hW := below1 w (.cells #[.bool na, .slice aa la ca] 37)
 go_enter Tryz.func103, Tryz.ntmps103
 go_wp2_with fail
 refine (cmp_z _ _ _ _ _ _ _ _ m 0 _ (hza.below hW) (isZ_zero _) hm fit_zero).mono ?_
 rintro e w1 ⟨rfl, hb⟩
 go_wp2_with fail
 go_ret
 exact ⟨rfl, hW.trans (hb.mono (by simp))⟩

set_option maxRecDepth 100000 in
set_option maxHeartbeats 1600000 in
theorem power_any (n : Nat) (w : World) (hn : n ≤ 1000) :
  Calls Tryz.prog 87 #[.int .i64 n] w (RetZ w (2 ^ n)) := by
 go_enter Tryz.func87, Tryz.ntmps87
 go_wp2_with fail
 refine (ofu_any 1 _ (by omega) (by omega)).mono ?_
 rintro e w1 ⟨neg, a, l, c, rfl, hz, hb⟩
 go_wp2_with fail
 have hR : Box2 (w1.alloc (.cells #[.bool neg, .slice a l c] 37)) w.heap.size (.bool false) (.slice none 0 0) 37 := ((Box2.new rfl).below hb).alloc _
 have hQ : Box2 (w1.alloc (.cells #[.bool neg, .slice a l c] 37)) w1.heap.size (.bool neg) (.slice a l c) 37 := Box2.new rfl
 have hsz := hb.size
 simp only [World.size_alloc] at hsz
 have hbl := Below.alloc ((below1 w (.cells #[.bool false, .slice none 0 0] 37)).trans (hb.mono (by simp))) (by omega) (.cells #[.bool neg, .slice a l c] 37)
 have hz' := hz.below (below1 w1 (.cells #[.bool neg, .slice a l c] 37))
 clear hb hz
 go_loopw [4] (fun i wr => ∃ (k : Nat) (neg : Bool) (a : Option Addr) (l c : Nat), i = .int .i64 k ∧ k ≤ n ∧ Box2 wr w1.heap.size (.bool neg) (.slice a l c) 37 ∧ Box2 wr w.heap.size (.bool false) (.slice none 0 0) 37 ∧ IsZ wr neg (.slice a l c) (2 ^ k) ∧ Below w.heap.size w wr)
  (fun i _ => n - (intOf i).toNat)
 case atStart => exact ⟨0, neg, a, l, c, rfl, Nat.zero_le _, hQ, hR, hz', hbl⟩
 case round =>
  clear hR hQ hbl hz'
  obtain ⟨k, neg, a, l, c, rfl, hk, hQ, hR, hz, hbl⟩ := hrel
  have q0 := hQ.c0
  have q1 := hQ.c1
  by_cases hkn : k < n
  ·have hf : Fit (2 ^ k) := (Bits.pow k).fit (by omega)
   go_wp2_with (go_at_call 32; refine (add_z _ _ _ _ _ _ _ _ (2 ^ k) (2 ^ k) _ hz hz hf hf).mono ?_; rintro e w2 ⟨neg2, a2, l2, c2, rfl, hz2, hb2⟩; have p := hQ.below hb2; have p0 := p.c0; have p1 := p.c1; have p2 := p.f0; have p3 := p.f1)
   rw [← pow_succ2] at hz2
   go_roundw
   case rel => exact ⟨k + 1, neg2, a2, l2, c2, by go_num, by omega, p.set _ _, (hR.below hb2).other2 (by omega) _ _, hz2.set2 p.kind (by decide) _ _, below_set2 (hbl.trans (hb2.mono hbl.size)) (by omega) _ _⟩
   case measure => simp [intOf]; omega
  ·obtain rfl : k = n := by omega
   have r0 := hR.c0
   have r1 := hR.c1
   have r2 := hR.f0
   have r3 := hR.f1
   go_wp2_with fail
   refine bodyPost_ret (v := .agg #[.bool neg, .slice a l c]) (by simp [results, Tryz.results87, go_sem, r0, r1]) rfl
    (isZ_end hz hR.kind hbl (Nat.le_refl _) _ _)

set_option maxRecDepth 100000 in
set_option maxHeartbeats 1600000 in
theorem of_any (n : Int) (w : World) (h0 : -9223372036854775808 ≤ n) (h1 : n ≤ 9223372036854775807) :
  Calls Tryz.prog 11 #[.int .i64 n] w (RetZ w n) := by
 by_cases hn : n < 0
 ·go_enter Tryz.func11, Tryz.ntmps11
  go_wp2_with fail
  have hR : Box2 (w.alloc (.cells #[.bool false, .slice none 0 0] 37)) w.heap.size (.bool false) (.slice none 0 0) 37 := Box2.new rfl
  have hW := below1 w (.cells #[.bool false, .slice none 0 0] 37)
  have f1 : Bits 64 (-(n + 1)) := by unfold Bits; omega
  have f2 : Bits 64 1 := by unfold Bits; omega
  have f3 : Fit (-(n + 1) + 1) := (f1.add f2).fit (by omega)
  refine (ofu_any (-(n + 1)) _ (by omega) (by omega)).mono ?_
  rintro e w1 ⟨n1, a1, l1, c1, rfl, hz1, hb1⟩
  go_wp2_with fail
  refine (ofu_any 1 _ (by omega) (by omega)).mono ?_
  rintro e w2 ⟨n2, a2, l2, c2, rfl, hz2, hb2⟩
  go_wp2_with fail
  refine (add_z _ _ _ _ _ _ _ _ (-(n + 1)) 1 _ (hz1.below hb2) hz2 (f1.fit (by omega)) (f2.fit (by omega))).mono ?_
  rintro e w3 ⟨n3, a3, l3, c3, rfl, hz3, hb3⟩
  go_wp2_with fail
  refine (sub_z _ _ _ _ _ _ _ _ 0 (-(n + 1) + 1) _ (isZ_zero _) hz3 fit_zero f3).mono ?_
  rintro e w4 ⟨n4, a4, l4, c4, rfl, hz4, hb4⟩
  have q := (((hR.below hb1).below hb2).below hb3).below hb4
  have q0 := q.c0
  have q1 := q.c1
  have q2 := q.f0
  have q3 := q.f1
  have hs1 := hb1.size
  have hs2 := hb2.size
  have hs3 := hb3.size
  simp only [World.size_alloc] at hs1
  rw [show 0 - (-(n + 1) + 1) = n from by omega] at hz4
  go_wp2_with fail
  refine bodyPost_ret (v := .agg #[.bool n4, .slice a4 l4 c4]) (by simp [results, Tryz.results11, go_sem, q0, q1]) rfl
   (isZ_end hz4 q.kind ((((hW.trans (hb1.mono (by simp))).trans (hb2.mono (by omega))).trans (hb3.mono (by omega))).trans (hb4.mono (by omega))) (Nat.le_refl _) _ _)
 ·go_enter Tryz.func11, Tryz.ntmps11
  go_wp2_with fail
  have hR : Box2 (w.alloc (.cells #[.bool false, .slice none 0 0] 37)) w.heap.size (.bool false) (.slice none 0 0) 37 := Box2.new rfl
  have hW := below1 w (.cells #[.bool false, .slice none 0 0] 37)
  refine (ofu_any n _ (by omega) (by omega)).mono ?_
  rintro e w1 ⟨n1, a1, l1, c1, rfl, hz1, hb1⟩
  have q := hR.below hb1
  have q0 := q.c0
  have q1 := q.c1
  have q2 := q.f0
  have q3 := q.f1
  go_wp2_with fail
  refine bodyPost_ret (v := .agg #[.bool n1, .slice a1 l1 c1]) (by simp [results, Tryz.results11, go_sem, q0, q1]) rfl
   (isZ_end hz1 q.kind (hW.trans (hb1.mono (by simp))) (Nat.le_refl _) _ _)
end Go.Proofs.YthoedmikfpbfnaaGreat

namespace Go.Proofs.YthoedmikfpbfnaaGreat
open Go Go.RowKit

def Own (w : World) (g N : Nat) (zs : List Int) : Prop := zs.length = N ∧ w.ownsRow 0 3 1 (.slice (some ⟨g, 0, none⟩) N N) N (zs.map (Value.int .i64))

theorem Own.cell {w : World} {g N : Nat} {zs : List Int} (h : Own w g N zs) (j : Nat) (hj : j < N) : w.cell? ⟨g, j, none⟩ = some (.int .i64 (dg zs j)) := by
 have hl := h.1
 rw [h.2.cellAt j (by omega), List.getElem?_map, List.getElem?_eq_getElem (by omega), dg_eq, List.getD, List.getElem?_eq_getElem (by omega)]; rfl
theorem Own.frozen {w : World} {g N : Nat} {zs : List Int} (h : Own w g N zs) (j : Nat) : w.frozen? ⟨g, j, none⟩ = false := h.2.frozenAt j
theorem Own.set {w : World} {g N : Nat} {zs : List Int} (h : Own w g N zs) (j : Nat) (y : Int) : Own (w.setCell ⟨g, j, none⟩ (.int .i64 y)) g N (zs.set j y) :=
 ⟨by rw [List.length_set]; exact h.1, by have := (h.2.stored j (.int .i64 y)).1; rwa [← List.map_set] at this⟩
theorem Own.drewN {w : World} {g N : Nat} {zs : List Int} (h : Own w g N zs) (n : Nat) : Own (w.drewN n) g N zs := h
theorem Own.row {w : World} {g N : Nat} {zs : List Int} (h : Own w g N zs) : Row w (.slice (some ⟨g, 0, none⟩) N N) zs := row_of_owns h.2 h.1

set_option maxRecDepth 100000 in
set_option maxHeartbeats 3200000 in
theorem mul_z (na nb : Bool) (aa ab : Option Addr) (la ca lb cb : Nat) (m n : Int) (w : World) (hza : IsZ w na (.slice aa la ca) m) (hzb : IsZ w nb (.slice ab lb cb) n) (hm : Fit m) (hn : Fit n) :
  Calls Tryz.prog 34 #[.agg #[.bool na, .slice aa la ca], .agg #[.bool nb, .slice ab lb cb]] w (RetZ w (m * n)) := by
 obtain ⟨xs, hrx, dx, tx, hvx, hlx, hna⟩ := isZ_row hza hm
 obtain ⟨ys, hry, dy, ty, hvy, hly, hnb⟩ := isZ_row hzb hn
 have hxr := hrx
 have hyr := hry
 obtain ⟨aa', ca', ba, oa, e, -, hxa, hxc⟩ := hrx
 simp only [Value.slice.injEq] at e
 obtain ⟨rfl, rfl, rfl⟩ := e
 obtain ⟨ab', cb', bb, ob, e, -, -, -⟩ := hry
 simp only [Value.slice.injEq] at e
 obtain ⟨rfl, rfl, rfl⟩ := e
 obtain ⟨hA, hB, hR⟩ := boxes3 w (.bool na) (.bool nb) (.bool false) (.slice aa xs.length ca) (.slice ab ys.length cb) (.slice none 0 0) 37 37 37
 have hW := below3 w (.cells #[.bool na, .slice aa xs.length ca] 37) (.cells #[.bool nb, .slice ab ys.length cb] 37) (.cells #[.bool false, .slice none 0 0] 37)
 have HX := Lib.hid hvx
 have HY := Lib.hid hvy
 have HA := Lib.hid hna
 have HB := Lib.hid hnb
 clear hvx hvy hna hnb hza hzb
 obtain ⟨i0, hi, hz0, hz1, hz2⟩ := info_parts info_int
 go_enter Tryz.func34, Tryz.ntmps34
 go_wp2_with (at_make; refine wpList_make_full _ rfl _ _ 35 rfl 0 3 i0 (.int .i64 0) 1 Tryz.underlying35 hi hz0 hz1 _ _ _ _ (xs.length + ys.length + 1) rfl rfl (by omega) (by omega) (by rw [hz2]; omega) (by unfold maxLen; omega) (Nat.zero_le _) ?_; intro w1 hown hgrow)
 have hbl : Below w.heap.size w w1 := hW.grown hgrow (by simp; omega) (fun k h => by cases h)
 have hO : Own w1 (w.heap.size + 1 + 1 + 1) (xs.length + ys.length + 1) (List.replicate (xs.length + ys.length + 1) 0) := by
  refine ⟨List.length_replicate .., ?_⟩
  have e := toList_madeCells_one (.int .i64 0) (xs.length + ys.length + 1)
  simp only [Value.cells, Nat.mul_one, World.size_alloc] at hown
  rw [e] at hown
  rw [List.map_replicate]
  exact hown
 have hb1 : Below (((w.alloc (.cells #[.bool na, .slice aa xs.length ca] 37)).alloc (.cells #[.bool nb, .slice ab ys.length cb] 37)).alloc (.cells #[.bool false, .slice none 0 0] 37)).heap.size (((w.alloc (.cells #[.bool na, .slice aa xs.length ca] 37)).alloc (.cells #[.bool nb, .slice ab ys.length cb] 37)).alloc (.cells #[.bool false, .slice none 0 0] 37)) w1 := (Below.refl _ _).grown hgrow (Nat.le_refl _) (fun k h => by cases h)
 have hA1 := hA.below hb1
 have hB1 := hB.below hb1
 have hR1 := hR.below hb1
 clear hA hB hR hW hb1 hown hgrow hi hz0 hz1 hz2
 go_loopw [6] (fun si wr => ∃ (i : Nat) (zs : List Int), si = .int .i64 i ∧ i ≤ xs.length ∧ Own wr (w.heap.size + 1 + 1 + 1) (xs.length + ys.length + 1) zs ∧ Digs zs ∧ val zs = pre xs i * val ys ∧
   Box2 wr w.heap.size (.bool na) (.slice aa xs.length ca) 37 ∧ Box2 wr (w.heap.size + 1) (.bool nb) (.slice ab ys.length cb) 37 ∧ Box2 wr (w.heap.size + 1 + 1) (.bool false) (.slice none 0 0) 37 ∧ Below w.heap.size w wr)
  (fun si _ => xs.length - (intOf si).toNat)
 case atStart => exact ⟨0, _, rfl, Nat.zero_le _, hO, Digs.zeros _, by rw [val_zeros, pre_zero]; omega, hA1, hB1, hR1, hbl⟩
 case round =>
  clear hA1 hB1 hR1 hbl hO
  obtain ⟨i, zs, rfl, hi, hO, dz, hv, hA, hB, hR, hbl⟩ := hrel
  have HV := Lib.hid hv
  clear hv
  have a1 := hA.c1
  by_cases hix : i < xs.length
  ·have b1 := hB.c1
   obtain ⟨wo, rfl⟩ : ∃ wo : World, wo = wr := ⟨_, rfl⟩
   have hixx := fun w => at_row (cap := ca) (fun h => (hxa h).1) (i : Int) (by omega) (by omega) w
   have hcx := hxc i hix
   have hba := (hxa (by omega)).2.lt
   have hdx := dx i
   have HS := Lib.hid (mul_start (i := i) (xs := xs) HV.out)
   clear hxc hxa
   go_wp2_with fail
   go_loopw [7, 8] (fun sc sk wi => ∃ (k : Nat) (c : Int) (zs : List Int), sk = .int .i64 k ∧ sc = .int .i64 c ∧ 0 ≤ c ∧ c < 65536 ∧ k ≤ ys.length + 1 ∧ Own wi (w.heap.size + 1 + 1 + 1) (xs.length + ys.length + 1) zs ∧ Digs zs ∧ val zs + B (i + k) * c = pre xs i * val ys + dg xs i * B i * pre ys k ∧
     Box2 wi w.heap.size (.bool na) (.slice aa xs.length ca) 37 ∧ Box2 wi (w.heap.size + 1) (.bool nb) (.slice ab ys.length cb) 37 ∧ Box2 wi (w.heap.size + 1 + 1) (.bool false) (.slice none 0 0) 37 ∧ Below w.heap.size w wi)
    (fun _ sk _ => ys.length + 2 - (intOf sk).toNat)
   case atStart => exact ⟨0, 0, zs, rfl, rfl, by omega, by omega, Nat.zero_le _, hO, dz, HS.out, hA, hB, hR, hbl⟩
   case round =>
    clear hO dz hA hB hR hbl HV HS a1 b1
    obtain ⟨k, c, zs, rfl, rfl, hc0, hc1, hk, hO, dz, hv, hA, hB, hR, hbl⟩ := hrel
    have hmi : 0 < c → k ≤ ys.length := mul_idx dx dy dz hv
    have hdy := dy k
    have hdz := dz (i + k)
    obtain ⟨m1, m2, m3, m4⟩ := mul_bound hdz hdx hdy ⟨hc0, hc1⟩
    have HV := Lib.hid hv
    clear hv
    have a1 := hA.c1
    have b1 := hB.c1
    have hrow := hyr.below hbl
    by_cases h1 : k < ys.length ∨ 0 < c
    ·have hkl : k ≤ ys.length := by rcases h1 with h1 | h1 <;> first | omega | exact hmi h1
     have hcz := hO.cell (i + k) (by omega)
     have hfz := hO.frozen (i + k)
     have hcx' := (hbl.cell (p := ⟨ba, oa + i, none⟩) hba).trans hcx
     have hik : (i : Int) + k < xs.length + ys.length + 1 := by omega
     have hik' : ((i : Int) + k).toNat = i + k := by omega
     have hst := Lib.hid (mul_step HV.out (by have := hO.1; omega))
     clear hcx hmi
     have hck : ¬ k < ys.length → 0 < c := by omega
     by_cases h2 : k < ys.length
     all_goals
      have hcs := hck
      clear hck h1
      first | (have h3 := hcs h2) | skip
      clear hcs
      go_wp2_with fail
      go_quiet ((go_at_call 84; exact Calls.quiet_of_same (digit_q (.slice ab ys.length cb) ys k wr _ hrow (by omega) (by omega))))
      go_wp2_with fail
      go_roundw
      case rel =>
       exact ⟨k + 1, _, _, by go_num, rfl, m3, m4, by omega, (hO.drewN nq).set _ _, dz.set _ (digit_mod _).1 (digit_mod _).2, hst.out, (hA.drewN nq).other (by omega) _ _, (hB.drewN nq).other (by omega) _ _, (hR.drewN nq).other (by omega) _ _, (below_drewN hbl nq).setCell (by simp; omega) _⟩
      case measure => simp [intOf]; omega
    ·have h2 : ¬ k < ys.length := by omega
     have h3 : ¬ 0 < c := by omega
     have hst := Lib.hid (mul_exit HV.out (by omega) (by omega))
     clear h1 hcx
     go_wp2_with fail
     go_roundw
     case rel => exact ⟨i + 1, zs, by go_num, by omega, hO, dz, hst.out, hA, hB, hR, hbl⟩
     case measure => simp [intOf]; omega
  ·obtain rfl : i = xs.length := by omega
   have a0 := hA.c0
   have b0 := hB.c0
   have hv := HV.out
   rw [pre_len] at hv
   have he := Lib.hid (sgn_mul hv HX.out HY.out HA.out HB.out)
   clear hv hxc hxa
   go_wp2_with (go_at_call 79; refine (tidy_any (na != nb) _ zs _ hO.row dz (by have := hO.1; omega)).mono ?_; rintro e w2 ⟨neg2, a2, l2, c2, rfl, hz2, hb2⟩; have q := hR.below hb2; have q0 := q.c0; have q1 := q.c1; have q2 := q.f0; have q3 := q.f1)
   rw [he.out] at hz2
   refine bodyPost_ret (v := .agg #[.bool neg2, .slice a2 l2 c2]) (by simp [results, Tryz.results34, go_sem, q0, q1]) rfl
    (isZ_end hz2 q.kind (hbl.trans (hb2.mono hbl.size)) (by omega) _ _)
end Go.Proofs.YthoedmikfpbfnaaGreat

namespace Go.Proofs.YthoedmikfpbfnaaGreat
open Go Go.RowKit

def RetZZ (w : World) (q r : Int) (e : Ending) (w' : World) : Prop :=
 ∃ n1 a1 l1 c1 n2 a2 l2 c2, e = .returned (.tuple #[.agg #[.bool n1, .slice a1 l1 c1], .agg #[.bool n2, .slice a2 l2 c2]]) ∧ IsZ w' n1 (.slice a1 l1 c1) q ∧ IsZ w' n2 (.slice a2 l2 c2) r ∧ Below w.heap.size w w'

theorem IsZ.drew {w : World} {neg : Bool} {sv : Value} {n : Int} (h : IsZ w neg sv n) : IsZ w.drew neg sv n := h
theorem IsZ.drewN {w : World} {neg : Bool} {sv : Value} {n : Int} (h : IsZ w neg sv n) (k : Nat) : IsZ (w.drewN k) neg sv n := h
theorem isZZ_end {w w1 : World} {k k' : Nat} {n1 n2 : Bool} {a1 a2 : Option Addr} {l1 c1 l2 c2 : Nat} {q r : Int} (hq : IsZ w1 n1 (.slice a1 l1 c1) q) (hr : IsZ w1 n2 (.slice a2 l2 c2) r)
  (hk : Kind w1 k 37) (hk' : Kind w1 k' 37) (hb : Below w.heap.size w w1) (hle : w.heap.size ≤ k) (hle' : w.heap.size ≤ k') (u v u' v' : Value) :
  RetZZ w q r (.returned (.tuple #[.agg #[.bool n1, .slice a1 l1 c1], .agg #[.bool n2, .slice a2 l2 c2]])) ((((w1.setCell ⟨k, 0, none⟩ u).setCell ⟨k, 1, none⟩ v).setCell ⟨k', 0, none⟩ u').setCell ⟨k', 1, none⟩ v').drew := by
 have hk2 : Kind ((w1.setCell ⟨k, 0, none⟩ u).setCell ⟨k, 1, none⟩ v) k' 37 := (hk'.setCell _ _ _).setCell _ _ _
 have h1 := (hq.set2 hk (by decide) u v).set2 hk2 (by decide) u' v'
 have h2 := (hr.set2 hk (by decide) u v).set2 hk2 (by decide) u' v'
 exact ⟨n1, a1, l1, c1, n2, a2, l2, c2, rfl, h1.drew, h2.drew, (below_set2 (below_set2 hb hle u v) hle' u' v').drew⟩

structure Env4 (w wr : World) (a a' b b' : Value) : Prop where
 A : Box2 wr w.heap.size a a' 37
 B : Box2 wr (w.heap.size + 1) b b' 37
 R : Box2 wr (w.heap.size + 1 + 1) (.bool false) (.slice none 0 0) 37
 S : Box2 wr (w.heap.size + 1 + 1 + 1) (.bool false) (.slice none 0 0) 37
 W : Below w.heap.size w wr
theorem Env4.below {w wr w' : World} {a a' b b' : Value} (h : Env4 w wr a a' b b') (hb : Below wr.heap.size wr w') : Env4 w w' a a' b b' :=
 ⟨h.A.below hb, h.B.below hb, h.R.below hb, h.S.below hb, h.W.trans (hb.mono h.W.size)⟩
theorem Env4.set2 {w wr : World} {a a' b b' : Value} (h : Env4 w wr a a' b b') {k : Nat} (hk : w.heap.size + 1 + 1 + 1 < k) (u v : Value) : Env4 w ((wr.setCell ⟨k, 0, none⟩ u).setCell ⟨k, 1, none⟩ v) a a' b b' :=
 ⟨h.A.other2 (by omega) _ _, h.B.other2 (by omega) _ _, h.R.other2 (by omega) _ _, h.S.other2 (by omega) _ _, below_set2 h.W (by omega) _ _⟩
theorem Env4.drew {w wr : World} {a a' b b' : Value} (h : Env4 w wr a a' b b') : Env4 w wr.drew a a' b b' := ⟨h.A, h.B, h.R, h.S, h.W.drew⟩

theorem boxes6 (w : World) (a b a' b' : Value) (t : TypeId) : ∃ W, W = (((((w.alloc (.cells #[a, a'] t)).alloc (.cells #[b, b'] t)).alloc (.cells #[.bool false, .slice none 0 0] t)).alloc (.cells #[.bool false, .slice none 0 0] t)).alloc (.cells #[.bool false, .slice none 0 0] t)).alloc (.cells #[.bool false, .slice none 0 0] t) ∧
  Box2 W w.heap.size a a' t ∧ Box2 W (w.heap.size + 1) b b' t ∧ Box2 W (w.heap.size + 1 + 1) (.bool false) (.slice none 0 0) t ∧ Box2 W (w.heap.size + 1 + 1 + 1) (.bool false) (.slice none 0 0) t ∧
  Box2 W (w.heap.size + 1 + 1 + 1 + 1) (.bool false) (.slice none 0 0) t ∧ Box2 W (w.heap.size + 1 + 1 + 1 + 1 + 1) (.bool false) (.slice none 0 0) t ∧ Below w.heap.size w W ∧ W.heap.size = w.heap.size + 6 :=
 ⟨_, rfl, (((((Box2.new rfl).alloc _).alloc _).alloc _).alloc _).alloc _, ((((Box2.new (by simp)).alloc _).alloc _).alloc _).alloc _, (((Box2.new (by simp)).alloc _).alloc _).alloc _, ((Box2.new (by simp)).alloc _).alloc _,
  (Box2.new (by simp)).alloc _, Box2.new (by simp), (below5 w _ _ _ _ _).alloc (by simp; omega) _, by simp⟩

set_option maxRecDepth 100000 in
set_option maxHeartbeats 3200000 in
theorem long_z (na nb : Bool) (aa ab : Option Addr) (la ca lb cb : Nat) (m n : Int) (w : World) (hza : IsZ w na (.slice aa la ca) m) (hzb : IsZ w nb (.slice ab lb cb) n) (K : Nat) (hK : K ≤ 90000) (hm : Bits K m) (hn : Bits K n) (h0 : 0 ≤ m) (h1 : 0 < n) :
  Calls Tryz.prog 129 #[.agg #[.bool na, .slice aa la ca], .agg #[.bool nb, .slice ab lb cb]] w (RetZZ w (m / n) (m % n)) := by
 obtain ⟨xs, hrx, dx, tx, hvx, hlx, hna⟩ := isZ_row hza (hm.fit (by omega))
 have hxr := hrx
 obtain ⟨aa', ca', ba, oa, e, -, hxa, hxc⟩ := hrx
 simp only [Value.slice.injEq] at e
 obtain ⟨rfl, rfl, rfl⟩ := e
 obtain ⟨W, hWe, hA, hB, hR, hS, hQ, hT, hW, hWs⟩ := boxes6 w (.bool na) (.bool nb) (.slice aa xs.length ca) (.slice ab lb cb) 37
 have HX := Lib.hid hvx
 clear hvx hna hza tx
 go_enter Tryz.func129, Tryz.ntmps129
 go_wp2_with fail
 rw [← hWe]
 have HWe := Lib.hid hWe
 have HWs := Lib.hid hWs
 clear hWe hWs
 have hmv : val xs = m := by rw [HX.out]; omega
 have hst : shr m (16 * xs.length) = 0 := shr_top h0 _ (by rw [← hmv, ← B_two]; exact val_lt dx)
 have hsq : IsZ W false (.slice none 0 0) (shr m (16 * xs.length) / n) := by rw [hst, Int.zero_ediv]; exact isZ_zero _
 have hsr : IsZ W false (.slice none 0 0) (shr m (16 * xs.length) % n) := by rw [hst, Int.zero_emod]; exact isZ_zero _
 have HM := Lib.hid hmv
 clear hmv hst HX
 go_loopw [8] (fun i wr => ∃ (t : Nat) (nq : Bool) (aq : Option Addr) (lq cq : Nat) (nr : Bool) (ar : Option Addr) (lr cr : Nat), i = .int .i64 ((t : Int) - 1) ∧ t ≤ 16 * xs.length ∧
   IsZ wr nq (.slice aq lq cq) (shr m t / n) ∧ IsZ wr nr (.slice ar lr cr) (shr m t % n) ∧
   Env4 w wr (.bool na) (.slice aa xs.length ca) (.bool nb) (.slice ab lb cb) ∧
   Box2 wr (w.heap.size + 1 + 1 + 1 + 1) (.bool nq) (.slice aq lq cq) 37 ∧ Box2 wr (w.heap.size + 1 + 1 + 1 + 1 + 1) (.bool nr) (.slice ar lr cr) 37)
  (fun i _ => (intOf i + 1).toNat)
 case atStart => exact ⟨16 * xs.length, _, _, _, _, _, _, _, _, by go_num, Nat.le_refl _, hsq, hsr, ⟨hA, hB, hR, hS, hW⟩, hQ, hT⟩
 case round =>
  clear hA hB hR hS hQ hT hW hsq hsr HWe HWs
  obtain ⟨t, nq, aq, lq, cq, nr, ar, lr, cr, rfl, ht, hq, hr, hE, hQ, hT⟩ := hrel
  have t0 := hT.c0
  have t1 := hT.c1
  have q0 := hQ.c0
  have q1 := hQ.c1
  by_cases ht0 : t = 0
  ·subst ht0
   rw [shr_zero] at hq hr
   clear hxa hxc
   have r0 := hE.R.c0
   have r1 := hE.R.c1
   have r2 := hE.R.f0
   have r3 := hE.R.f1
   have s0 := hE.S.c0
   have s1 := hE.S.c1
   have s2 := hE.S.f0
   have s3 := hE.S.f1
   go_wp2_with fail
   go_region
   go_wp2_with fail
   refine bodyPost_ret (v := .tuple #[.agg #[.bool nq, .slice aq lq cq], .agg #[.bool nr, .slice ar lr cr]]) (by simp [results, Tryz.results129, go_sem, r0, r1, s0, s1]) rfl
    (isZZ_end hq hr hE.R.kind hE.S.kind hE.W (by omega) (by omega) _ _ _ _)
  ·obtain ⟨j, rfl⟩ : ∃ j, t = j + 1 := ⟨t - 1, by omega⟩
   have e : ((j + 1 : Nat) : Int) - 1 = j := by omega
   simp only [e]
   have a1 := hE.A.c1
   have hix := fun w => at_row (cap := ca) (fun h => (hxa h).1) ((j : Int) / 16) (by omega) (by omega) w
   have e2 : ((j : Int) / 16).toNat = j / 16 := by omega
   have hcx := (hE.W.cell (p := ⟨ba, oa + j / 16, none⟩) (hxa (by omega)).2.lt).trans (hxc (j / 16) (by omega))
   have hdg := dx (j / 16)
   simp only [e2] at hix
   clear hxa hxc e
   have hb0 : 0 ≤ dg xs (j / 16) / 2 ^ (j % 16) := by rw [← shr_pow]; exact shr_nonneg hdg.1 _
   have hbv := bit_val dx j
   rw [HM.out, shr_pow (dg xs (j / 16)) (j % 16)] at hbv
   have hrb := shr_bits hm h0 (j + 1)
   have hqb := div_bits hrb (shr_nonneg h0 _) h1
   have hmb := mod_bits (m := shr m (j + 1)) hn h1
   generalize hM : shr m (j + 1) = M at *
   have HMM := Lib.hid hM
   have HBV := Lib.hid hbv
   clear hM hbv
   go_wp2_with fail
   obtain ⟨b, hb⟩ : ∃ b, b = dg xs (j / 16) / 2 ^ (j % 16) % 2 := ⟨_, rfl⟩
   have hbb : 0 ≤ b ∧ b < 2 := by rw [hb]; omega
   rw [← hb]
   have HBV2 := HBV.out
   rw [← hb] at HBV2
   have HBV3 := Lib.hid HBV2
   clear HBV HBV2 hb hb0
   have bb : Bits 2 b := by unfold Bits; omega
   refine (add_z _ _ _ _ _ _ _ _ (M % n) (M % n) _ hr hr (hmb.fit (by omega)) (hmb.fit (by omega))).mono ?_
   rintro e w1 ⟨n1, a1', l1, c1, rfl, hz1, hb1⟩
   go_wp2_with fail
   refine (ofu_any b _ (by omega) (by omega)).mono ?_
   rintro e w2 ⟨n2, a2', l2, c2, rfl, hz2, hb2⟩
   go_wp2_with fail
   have f2 : Bits (K + 2) b := bb.mono (by omega)
   refine (add_z _ _ _ _ _ _ _ _ (M % n + M % n) b _ (hz1.below hb2) hz2 ((hmb.add hmb).fit (by omega)) (bb.fit (by omega))).mono ?_
   rintro e w3 ⟨n3, a3', l3, c3, rfl, hz3, hb3⟩
   have hT3 := ((hT.below hb1).below hb2).below hb3
   have hQ3 := (((hQ.below hb1).below hb2).below hb3).other2 (b := w.heap.size + 1 + 1 + 1 + 1 + 1) (by omega) (.bool n3) (.slice a3' l3 c3)
   have hE3 := (((hE.below hb1).below hb2).below hb3).set2 (k := w.heap.size + 1 + 1 + 1 + 1 + 1) (by omega) (.bool n3) (.slice a3' l3 c3)
   have hr3 := hz3.set2 hT3.kind (by decide) (.bool n3) (.slice a3' l3 c3)
   have hq3 := (((hq.below hb1).below hb2).below hb3).set2 hT3.kind (by decide) (.bool n3) (.slice a3' l3 c3)
   have hT4 := hT3.set (.bool n3) (.slice a3' l3 c3)
   have t0 := hT3.c0
   have t1 := hT3.c1
   have t2 := hT3.f0
   have t3 := hT3.f1
   have q0 := hQ3.c0
   have q1 := hQ3.c1
   clear hr hq hz3 hT3 hQ hT hE hz1 hz2 hb1 hb2 hb3 hcx hix a1
   go_wp2_with fail
   obtain ⟨V3, hV3⟩ : ∃ V, V = (w3.setCell ⟨w.heap.size + 1 + 1 + 1 + 1 + 1, 0, none⟩ (.bool n3)).setCell ⟨w.heap.size + 1 + 1 + 1 + 1 + 1, 1, none⟩ (.slice a3' l3 c3) := ⟨_, rfl⟩
   rw [← hV3] at hr3 hq3 hQ3 hT4 hE3 ⊢
   clear hV3 t0 t1 t2 t3 q0 q1
   refine (add_z _ _ _ _ _ _ _ _ (M / n) (M / n) _ hq3 hq3 (hqb.fit (by omega)) (hqb.fit (by omega))).mono ?_
   rintro e w4 ⟨n4, a4, l4, c4, rfl, hz4, hb4⟩
   have hQ4 := hQ3.below hb4
   have q0 := hQ4.c0
   have q1 := hQ4.c1
   have q2 := hQ4.f0
   have q3 := hQ4.f1
   have hT5 := (hT4.below hb4).other2 (b := w.heap.size + 1 + 1 + 1 + 1) (by omega) (.bool n4) (.slice a4 l4 c4)
   have hE5 := (hE3.below hb4).set2 (k := w.heap.size + 1 + 1 + 1 + 1) (by omega) (.bool n4) (.slice a4 l4 c4)
   have hq5 := hz4.set2 hQ4.kind (by decide) (.bool n4) (.slice a4 l4 c4)
   have hr5 := (hr3.below hb4).set2 hQ4.kind (by decide) (.bool n4) (.slice a4 l4 c4)
   have hQ5 := hQ4.set (.bool n4) (.slice a4 l4 c4)
   have t0 := hT5.c0
   have t1 := hT5.c1
   have b0 := hE5.B.c0
   have b1 := hE5.B.c1
   clear hr3 hq3 hz4 hQ3 hQ4 hT4 hE3 hb4
   go_wp2_with fail
   obtain ⟨V4, hV4⟩ : ∃ V, V = (w4.setCell ⟨w.heap.size + 1 + 1 + 1 + 1, 0, none⟩ (.bool n4)).setCell ⟨w.heap.size + 1 + 1 + 1 + 1, 1, none⟩ (.slice a4 l4 c4) := ⟨_, rfl⟩
   rw [← hV4] at hr5 hq5 hQ5 hT5 hE5 t0 t1 b0 b1 ⊢
   clear hV4 q0 q1 q2 q3
   have hF : Bits (K + 3) (M % n + M % n + b) := ((hmb.add hmb).mono (show K + 1 ≤ K + 2 by omega)).add f2
   refine (cmp_z _ _ _ _ _ _ _ _ (M % n + M % n + b) n _ hr5 (hzb.below hE5.W) (hF.fit (by omega)) (hn.fit (by omega))).mono ?_
   rintro e w5 ⟨rfl, hb5⟩
   have hT6 := hT5.below hb5
   have hQ6 := hQ5.below hb5
   have hE6 := hE5.below hb5
   have hr6 := hr5.below hb5
   have hq6 := hq5.below hb5
   clear t0 t1 b0 b1 hT5 hQ5 hE5 hr5 hq5 hb5
   have t0 := hT6.c0
   have t1 := hT6.c1
   have t2 := hT6.f0
   have t3 := hT6.f1
   have b0 := hE6.B.c0
   have b1 := hE6.B.c1
   by_cases hge : n ≤ M % n + M % n + b
   ·obtain ⟨e1, e2⟩ := long_more (M := M) h1 hbb.1 hbb.2 hge
    rw [← HBV3.out] at e1 e2
    have E1 := Lib.hid e1
    have E2 := Lib.hid e2
    have hc := (cmpI_ge _ _).2 hge
    clear e1 e2 hge
    go_wp2_with fail
    refine (sub_z _ _ _ _ _ _ _ _ (M % n + M % n + b) n _ hr6 (hzb.below hE6.W) (hF.fit (by omega)) (hn.fit (by omega))).mono ?_
    rintro e w7 ⟨n7, a7, l7, c7, rfl, hz7, hb7⟩
    clear t0 t1 t2 t3 b0 b1
    have hT7 := hT6.below hb7
    have t0 := hT7.c0
    have t1 := hT7.c1
    have t2 := hT7.f0
    have t3 := hT7.f1
    have hQ7 := (hQ6.below hb7).other2 (b := w.heap.size + 1 + 1 + 1 + 1 + 1) (by omega) (.bool n7) (.slice a7 l7 c7)
    have hE7 := (hE6.below hb7).set2 (k := w.heap.size + 1 + 1 + 1 + 1 + 1) (by omega) (.bool n7) (.slice a7 l7 c7)
    have hr7 := hz7.set2 hT7.kind (by decide) (.bool n7) (.slice a7 l7 c7)
    have hq7 := (hq6.below hb7).set2 hT7.kind (by decide) (.bool n7) (.slice a7 l7 c7)
    have hT8 := hT7.set (.bool n7) (.slice a7 l7 c7)
    clear hT6 hQ6 hE6 hr6 hq6 hz7
    go_wp2_with fail
    obtain ⟨V7, hV7⟩ : ∃ V, V = (w7.setCell ⟨w.heap.size + 1 + 1 + 1 + 1 + 1, 0, none⟩ (.bool n7)).setCell ⟨w.heap.size + 1 + 1 + 1 + 1 + 1, 1, none⟩ (.slice a7 l7 c7) := ⟨_, rfl⟩
    rw [← hV7] at hr7 hq7 hQ7 hT8 hE7 ⊢
    clear hV7 t0 t1 t2 t3 hT7 hb7
    have q0' := hQ7.drew.c0
    have q1' := hQ7.drew.c1
    go_region_with (first
      | (go_at_call 39; refine (ofu_any 1 _ (by omega) (by omega)).mono ?_; rintro e w8 ⟨n8, a8, l8, c8, rfl, hz8, hb8⟩; have p0 := (hQ7.drew.below hb8).c0; have p1 := (hQ7.drew.below hb8).c1)
      | (go_at_call 32; refine (add_z _ _ _ _ _ _ _ _ (M / n + M / n) 1 _ (hq7.drew.below hb8) hz8 ((hqb.add hqb).fit (by omega)) (Bits.fit (k := 1) (by unfold Bits; omega) (by omega))).mono ?_; rintro e w9 ⟨n9, a9, l9, c9, rfl, hz9, hb9⟩; have q := ((hQ7.drew.below hb8).below hb9); have q0 := q.c0; have q1 := q.c1; have q2 := q.f0; have q3 := q.f1))
    all_goals
     have hQf := q.set (.bool n9) (.slice a9 l9 c9)
     have hTf := ((hT8.drew.below hb8).below hb9).other2 (b := w.heap.size + 1 + 1 + 1 + 1) (by omega) (.bool n9) (.slice a9 l9 c9)
     have hEf := ((hE7.drew.below hb8).below hb9).set2 (k := w.heap.size + 1 + 1 + 1 + 1) (by omega) (.bool n9) (.slice a9 l9 c9)
     have hqf := hz9.set2 q.kind (by decide) (.bool n9) (.slice a9 l9 c9)
     have hrf := ((hr7.drew.below hb8).below hb9).set2 q.kind (by decide) (.bool n9) (.slice a9 l9 c9)
     rw [← E1.out] at hqf
     rw [← E2.out] at hrf
     clear q q0 q1 q2 q3 p0 p1 q0' q1' hr7 hq7 hQ7 hT8 hE7 hz8 hz9 hb8 hb9
     go_wp2_with fail
     go_roundw
     case rel => exact ⟨j, _, _, _, _, _, _, _, _, rfl, by omega, hqf, hrf, hEf, hQf, hTf⟩
     case measure => simp [intOf]
   ·have hlt : M % n + M % n + b < n := by omega
    obtain ⟨e1, e2⟩ := long_less (M := M) h1 hbb.1 hlt
    rw [← HBV3.out] at e1 e2
    have E1 := Lib.hid e1
    have E2 := Lib.hid e2
    have hc : cmpI (M % n + M % n + b) n < 0 := by have := cmpI_ge (M % n + M % n + b) n; omega
    clear e1 e2 hge hlt
    rw [← E1.out] at hq6
    rw [← E2.out] at hr6
    go_wp2_with fail
    go_roundw
    case rel => exact ⟨j, _, _, _, _, _, _, _, _, rfl, by omega, hq6, hr6, hE6, hQ6, hT6⟩
    case measure => simp [intOf]
end Go.Proofs.YthoedmikfpbfnaaGreat

namespace Go.Proofs.YthoedmikfpbfnaaGreat
open Go Go.RowKit

def Ext (w w' : World) : Prop := Below w.heap.size w w'
theorem Ext.refl (w : World) : Ext w w := Below.refl _ w
theorem Ext.trans {a b c : World} (h : Ext a b) (k : Ext b c) : Ext a c := Below.trans h (Below.mono k (Below.size h))
theorem Ext.alloc {a b : World} (h : Ext a b) {o : Obj} : Ext a (b.alloc o) := Below.alloc h (Below.size h) o
theorem Ext.drew {a b : World} (h : Ext a b) : Ext a b.drew := Below.drew h
theorem Ext.drewN {a b : World} (h : Ext a b) {n : Nat} : Ext a (b.drewN n) := below_drewN h n
theorem Ext.set {a b : World} (h : Ext a b) {k o : Nat} {u : Value} (hk : a.heap.size ≤ k) : Ext a (b.setCell ⟨k, o, none⟩ u) := Below.setCell h hk u
theorem Ext.size {a b : World} (h : Ext a b) : a.heap.size ≤ b.heap.size := Below.size h
theorem Ext.size1 {a b : World} (h : Ext a b) : a.heap.size ≤ b.heap.size + 1 := Nat.le_trans (Below.size h) (by omega)
theorem Ext.size2 {a b : World} (h : Ext a b) : a.heap.size ≤ b.heap.size + 1 + 1 := Nat.le_trans (Below.size h) (by omega)
theorem IsZ.ext {w w' : World} {neg : Bool} {sv : Value} {n : Int} (h : IsZ w neg sv n) (hb : Ext w w') : IsZ w' neg sv n := h.below hb
theorem Row.ext {w w' : World} {v : Value} {xs : List Int} (h : Row w v xs) (hb : Ext w w') : Row w' v xs := h.below hb
theorem Box2.ext {w w' : World} {k : Nat} {u v : Value} {t : TypeId} (h : Box2 w k u v t) (hb : Ext w w') : Box2 w' k u v t := h.below hb
theorem Kind.ext {w w' : World} {k : Nat} {t : TypeId} (h : Kind w k t) (hb : Ext w w') : Kind w' k t := h.below hb
theorem newA {w w' : World} {u v : Value} {t : TypeId} (h : Ext (w.alloc (.cells #[u, v] t)) w') : Box2 w' w.heap.size u v t := (Box2.new rfl).ext h
theorem newB {w w' : World} {u v u' v' : Value} {t t' : TypeId} (h : Ext ((w.alloc (.cells #[u, v] t)).alloc (.cells #[u', v'] t')) w') : Box2 w' w.heap.size u v t ∧ Box2 w' (w.heap.size + 1) u' v' t' :=
 ⟨((Box2.new rfl).alloc _).ext h, (Box2.new (by simp)).ext h⟩
theorem Env4.ext {w wr w' : World} {a a' b b' : Value} (h : Env4 w wr a a' b b') (hb : Ext wr w') : Env4 w w' a a' b b' := h.below hb

end Go.Proofs.YthoedmikfpbfnaaGreat

namespace Go.Proofs.YthoedmikfpbfnaaGreat
open Go Go.RowKit

section
variable {P : Program} {ops : Array Oper} {Q : Exit → Act → World → Prop} {md : Region.Mode} {S : World → Prop}

def Away (D : List Nat) (a a' : Act) : Prop := a'.defers = a.defers ∧ a'.tmps.size = a.tmps.size ∧ ∀ t, t ∉ D → a'.tmps[t]? = a.tmps[t]?
theorem Away.refl (D : List Nat) (a : Act) : Away D a a := ⟨rfl, rfl, fun _ _ => rfl⟩
theorem Away.put {D : List Nat} {a a' : Act} (h : Away D a a') {d : Nat} (hd : d ∈ D) (v : Value) : Away D a (a'.put (some d) v) :=
 ⟨h.1, by simpa [Act.put] using h.2.1, fun t ht => by
  have hne : d ≠ t := fun e => ht (e ▸ hd)
  simp only [Act.put, Array.getElem?_setIfInBounds, if_neg hne]
  exact h.2.2 t ht⟩

def wpCh (P : Program) (ops : Array Oper) (Q : Exit → Act → World → Prop) (S : World → Prop) (D : List Nat) : List (Nat × Bool) → (Act → World → Prop) → Act → World → Prop
 | [], K, a, w => ∀ a' w', Away D a a' → Ext w w' → K a' w'
 | (i, false) :: l, K, a, w => ∀ a' w', Away D a a' → Ext w w' →
   wpOp P ops Q i (fun a1 w1 => (Ext w' w1 ∧ a1.tmps.size = a'.tmps.size ∧ ∀ t ∈ D, a1.tmps[t]? = a'.tmps[t]?) ∧ wpCh P ops Q S D l K a1 w1) a' w'
 | (i, true) :: l, K, a, w => ∃ o v, ops[i]? = some o ∧ YieldsIf P ops S o v a ∧ (∀ t ∈ D, o.dst ≠ some t) ∧ wpCh P ops Q S D l K (a.put o.dst v) w

def Makes (P : Program) (ops : Array Oper) (Q : Exit → Act → World → Prop) (i d : Nat) (o : Obj) : Prop :=
 ∀ (K : Act → World → Prop) (a : Act) (w : World), K (a.put (some d) (.pointer (some ⟨w.heap.size, 0, none⟩))) (w.alloc o) → wpOp P ops Q i K a w

def Made (base d : Nat) (o : Obj) (k : Nat) (a : Act) (w : World) : Prop := base ≤ k ∧ a.tmps[d]? = some (.pointer (some ⟨k, 0, none⟩)) ∧ w.heap[k]? = some o
theorem Made.lt {base d k : Nat} {o : Obj} {a : Act} {w : World} (h : Made base d o k a w) : k < w.heap.size := (Array.getElem?_eq_some_iff.1 h.2.2).1
theorem Made.ext {base d k : Nat} {o : Obj} {a a' : Act} {w w' : World} (h : Made base d o k a w) (hx : Ext w w') (ht : a'.tmps[d]? = a.tmps[d]?) : Made base d o k a' w' :=
 ⟨h.1, ht.trans h.2.1, (Below.block hx k h.lt).trans h.2.2⟩
theorem Made.new {base d : Nat} {o : Obj} {a : Act} {w : World} (hb : base ≤ w.heap.size) (hd : d < a.tmps.size) : Made base d o w.heap.size (a.put (some d) (.pointer (some ⟨w.heap.size, 0, none⟩))) (w.alloc o) :=
 ⟨hb, by simp [Act.put, hd], heap_alloc_new w o⟩
theorem Made.other {base d d' k : Nat} {o o' : Obj} {a : Act} {w : World} (h : Made base d o k a w) (hne : d' ≠ d) (v : Value) : Made base d o k (a.put (some d') v) (w.alloc o') :=
 h.ext (Ext.refl w).alloc (by simp [Act.put, hne])

def mkL (N : Nat) (f : Nat → Bool) : Array Bool := Array.ofFn (n := N) (fun i => f i.1)
def upd (f : Nat → Bool) (i : Nat) : Nat → Bool := fun j => j == i || f j
theorem mkL_set (N : Nat) (f : Nat → Bool) (i : Nat) : (mkL N f).setIfInBounds i true = mkL N (upd f i) := by
 refine Array.ext_getElem? fun j => ?_
 simp only [mkL, Array.getElem?_setIfInBounds, Array.getElem?_ofFn, Array.size_ofFn, upd]
 by_cases h : i = j
 ·subst h
  by_cases hi : i < N <;> simp [hi]
 ·have e : (j == i) = false := by simpa using fun e => h e.symm
  simp [h, e]
theorem put_slot {a : Act} {d : Option Tmp} {t : Nat} (h : d ≠ some t) (v : Value) : (a.put d v).tmps[t]? = a.tmps[t]? := by
 cases d with
 | none => rfl
 | some e =>
  have : e ≠ t := fun x => h (by rw [x])
  simp [Act.put, this]
theorem put_size (a : Act) (d : Option Tmp) (v : Value) : (a.put d v).tmps.size = a.tmps.size := by cases d <;> simp [Act.put]
theorem mkL_congr {N : Nat} {f g : Nat → Bool} (h : ∀ j, f j = g j) : mkL N f = mkL N g := by rw [show f = g from funext h]

def shape2 (md : Region.Mode) (ops : Array Oper) (N : Nat) (iA iB : Nat) : Nat → (Nat → Bool) → List (Nat × Bool) → Bool → Bool → Bool
 | 0, _, _, _, _ => true
 | n + 1, f, (j, true) :: l, fa, fb => Region.free md ops (mkL N f) j && (Region.ready md ops (mkL N f)).contains j && shape2 md ops N iA iB n (upd f j) l fa fb
 | n + 1, f, (j, false) :: l, fa, fb =>
  !(Region.ready md ops (mkL N f)).isEmpty && (Region.ready md ops (mkL N f)).all (fun t => j == t || (!fa && t == iA) || (!fb && t == iB)) &&
  shape2 md ops N iA iB n (upd f j) l fa fb && (fa || shape2 md ops N iA iB n (upd f iA) ((j, false) :: l) true fb) && (fb || shape2 md ops N iA iB n (upd f iB) ((j, false) :: l) fa true)
 | n + 1, f, [], fa, fb =>
  !(Region.ready md ops (mkL N f)).isEmpty && (Region.ready md ops (mkL N f)).all (fun t => (!fa && t == iA) || (!fb && t == iB)) &&
  (fa || shape2 md ops N iA iB n (upd f iA) [] true fb) && (fb || shape2 md ops N iA iB n (upd f iB) [] fa true)

def left2 (l : List (Nat × Bool)) (fa fb : Bool) : Nat := l.length + (if fa then 0 else 1) + (if fb then 0 else 1)

theorem chain2 {D : List Nat} {K : Act → World → Prop} {base iA dA iB dB N fuel : Nat} {oA oB : Obj} (hA : Makes P ops Q iA dA oA) (hB : Makes P ops Q iB dB oB) (hdA : dA ∈ D) (hdB : dB ∈ D) (hdd : dA ≠ dB)
  (hS : ∀ w w', S w → Ext w w' → S w') (hQ : ∀ (d : Option Tmp) (v : Value) c a w, Q (.panic c) (a.put d v) w → Q (.panic c) a w) (hns : Region.noSelect ops = true) :
  ∀ (n : Nat) (f : Nat → Bool) (l : List (Nat × Bool)) (fa fb : Bool) (a : Act) (w : World) (a0 : Act) (w0 : World), left2 l fa fb = n → shape2 md ops N iA iB n f l fa fb = true →
   dA < a.tmps.size → dB < a.tmps.size → S w → base ≤ w.heap.size →
   (fa = true → ∃ k, Made base dA oA k a w) → (fb = true → ∃ k, Made base dB oB k a w) → (fa = true → fb = true → ∃ k k', Made base dA oA k a w ∧ Made base dB oB k' a w ∧ k ≠ k') →
   wpCh P ops Q S D l K a0 w0 → Away D a0 a → Ext w0 w → (∀ j l', l = (j, true) :: l' → a = a0 ∧ w = w0) →
   (∀ (g : Nat → Bool) a' w', (∀ j, g j = (f j || (l.map (·.1)).contains j || (!fa && j == iA) || (!fb && j == iB))) → S w' → (∃ k k', Made base dA oA k a' w' ∧ Made base dB oB k' a' w' ∧ k ≠ k') → K a' w' → wpAnyH P md ops Q S fuel (mkL N g) a' w') →
   wpAnyH P md ops Q S (n + fuel) (mkL N f) a w := by
 intro n
 induction n with
 | zero =>
  intro f l fa fb a w a0 w0 hn _ _ _ hSw _ hmA _ hm2 hch haw hx _ hfin
  unfold left2 at hn
  have hl : l = [] := List.length_eq_zero_iff.1 (by omega)
  have hfa : fa = true := by cases fa <;> simp at hn ⊢
  have hfb : fb = true := by cases fb <;> simp at hn ⊢
  subst hl hfa hfb
  rw [Nat.zero_add]
  exact hfin f a w (fun j => by simp) hSw (hm2 rfl rfl) (hch a w haw hx)
 | succ n ih =>
  intro f l fa fb a w a0 w0 hn hsh hsA hsB hSw hbw hmA hmB hm2 hch haw hx hpu hfin
  rw [Nat.succ_add]
  have stepA : fa = false → shape2 md ops N iA iB n (upd f iA) l true fb = true → (∀ j l', l ≠ (j, true) :: l') → wpOp P ops Q iA (fun a' w' => S w' ∧ wpAnyH P md ops Q S (n + fuel) ((mkL N f).setIfInBounds iA true) a' w') a w := by
   intro h0 hs hl
   subst h0
   refine hA _ a w ?_
   have hx1 : Ext w (w.alloc oA) := (Ext.refl w).alloc
   have hS1 := hS w _ hSw hx1
   rw [mkL_set]
   refine ⟨hS1, ih (upd f iA) l true fb _ _ a0 w0 (by unfold left2 at hn ⊢; simp at hn ⊢; omega) hs (by rw [put_size]; exact hsA) (by rw [put_size]; exact hsB) hS1 (Nat.le_trans hbw hx1.size) (fun _ => ⟨_, Made.new hbw hsA⟩) (fun h => (hmB h).elim fun k hk => ⟨k, hk.other hdd _⟩) (fun _ h => (hmB h).elim fun k hk => ⟨_, k, Made.new hbw hsA, hk.other hdd _, Ne.symm (Nat.ne_of_lt hk.lt)⟩) hch (haw.put hdA _) (hx.trans hx1) (fun j l' e => absurd e (hl j l')) ?_⟩
   intro g a' w' hg
   exact hfin g a' w' fun t => by rw [hg t]; simp only [upd]; cases (t == iA) <;> cases f t <;> cases ((l.map (·.1)).contains t) <;> simp
  have stepB : fb = false → shape2 md ops N iA iB n (upd f iB) l fa true = true → (∀ j l', l ≠ (j, true) :: l') → wpOp P ops Q iB (fun a' w' => S w' ∧ wpAnyH P md ops Q S (n + fuel) ((mkL N f).setIfInBounds iB true) a' w') a w := by
   intro h0 hs hl
   subst h0
   refine hB _ a w ?_
   have hx1 : Ext w (w.alloc oB) := (Ext.refl w).alloc
   have hS1 := hS w _ hSw hx1
   rw [mkL_set]
   refine ⟨hS1, ih (upd f iB) l fa true _ _ a0 w0 (by unfold left2 at hn ⊢; simp at hn ⊢; omega) hs (by rw [put_size]; exact hsA) (by rw [put_size]; exact hsB) hS1 (Nat.le_trans hbw hx1.size) (fun h => (hmA h).elim fun k hk => ⟨k, hk.other (Ne.symm hdd) _⟩) (fun _ => ⟨_, Made.new hbw hsB⟩) (fun h _ => (hmA h).elim fun k hk => ⟨k, _, hk.other (Ne.symm hdd) _, Made.new hbw hsB, Nat.ne_of_lt hk.lt⟩) hch (haw.put hdB _) (hx.trans hx1) (fun j l' e => absurd e (hl j l')) ?_⟩
   intro g a' w' hg
   exact hfin g a' w' fun t => by rw [hg t]; simp only [upd]; cases (t == iB) <;> cases f t <;> cases ((l.map (·.1)).contains t) <;> cases (!fa && t == iA) <;> simp
  match l, hch, hpu, hfin, hn, hsh, stepA, stepB with
  | [], _, _, _, _, hsh, stepA, stepB =>
   unfold shape2 at hsh
   simp only [Bool.and_eq_true, Bool.or_eq_true, Bool.not_eq_true', List.all_eq_true, beq_iff_eq] at hsh
   obtain ⟨⟨⟨hne, hall⟩, hs2⟩, hs3⟩ := hsh
   refine ⟨fun h => by rw [h] at hne; simp at hne, fun i hi => ?_⟩
   rcases hall i hi with ⟨hfa, rfl⟩ | ⟨hfb, rfl⟩
   ·exact stepA hfa (hs2.resolve_left (by rw [hfa]; simp)) (fun _ _ => by simp)
   ·exact stepB hfb (hs3.resolve_left (by rw [hfb]; simp)) (fun _ _ => by simp)
  | (j, true) :: l, hch, hpu, hfin, hn, hsh, stepA, stepB =>
   obtain ⟨rfl, rfl⟩ := hpu j l rfl
   unfold shape2 at hsh
   simp only [Bool.and_eq_true] at hsh
   obtain ⟨⟨hf, hr⟩, hs1⟩ := hsh
   obtain ⟨o, v, ho, hy, hd, hch1⟩ := hch
   refine wpAnyH_take ho hns hf hr (hQ _ _) hy hSw ?_
   rw [mkL_set]
   have hpA := put_slot (a := a) (hd _ hdA) v
   have hpB := put_slot (a := a) (hd _ hdB) v
   refine ih (upd f j) l fa fb (a.put o.dst v) w (a.put o.dst v) w (by unfold left2 at hn ⊢; simp at hn ⊢; omega) hs1 (by rw [put_size]; exact hsA) (by rw [put_size]; exact hsB) hSw hbw (fun h => (hmA h).elim fun k hk => ⟨k, hk.ext (Ext.refl w) hpA⟩) (fun h => (hmB h).elim fun k hk => ⟨k, hk.ext (Ext.refl w) hpB⟩) (fun h h' => (hm2 h h').elim fun k hk => hk.elim fun k' hk' => ⟨k, k', hk'.1.ext (Ext.refl w) hpA, hk'.2.1.ext (Ext.refl w) hpB, hk'.2.2⟩) hch1 (Away.refl _ _) (Ext.refl _) (fun _ _ _ => ⟨rfl, rfl⟩) ?_
   intro g a' w' hg
   exact hfin g a' w' fun t => by rw [hg t]; simp only [upd, List.map_cons, List.contains_cons]; cases (t == j) <;> cases f t <;> simp
  | (j, false) :: l, hch, hpu, hfin, hn, hsh, stepA, stepB =>
   unfold shape2 at hsh
   simp only [Bool.and_eq_true, Bool.or_eq_true, Bool.not_eq_true', List.all_eq_true, beq_iff_eq] at hsh
   obtain ⟨⟨⟨⟨hne, hall⟩, hs1⟩, hs2⟩, hs3⟩ := hsh
   refine ⟨fun h => by rw [h] at hne; simp at hne, fun i hi => ?_⟩
   rcases hall i hi with (hh | ⟨hfa, rfl⟩) | ⟨hfb, rfl⟩
   ·subst hh
    rw [mkL_set]
    refine wpOp_mono ?_ (hch a w haw hx)
    rintro a1 w1 ⟨⟨hx1, hsz, hsl⟩, hch1⟩
    have hS1 := hS w w1 hSw hx1
    refine ⟨hS1, ih (upd f j) l fa fb a1 w1 a1 w1 (by unfold left2 at hn ⊢; simp at hn ⊢; omega) hs1 (by omega) (by omega) hS1 (Nat.le_trans hbw hx1.size) (fun h => (hmA h).elim fun k hk => ⟨k, hk.ext hx1 (hsl _ hdA)⟩) (fun h => (hmB h).elim fun k hk => ⟨k, hk.ext hx1 (hsl _ hdB)⟩) (fun h h' => (hm2 h h').elim fun k hk => hk.elim fun k' hk' => ⟨k, k', hk'.1.ext hx1 (hsl _ hdA), hk'.2.1.ext hx1 (hsl _ hdB), hk'.2.2⟩) hch1 (Away.refl _ _) (Ext.refl _) (fun _ _ _ => ⟨rfl, rfl⟩) ?_⟩
    intro g a' w' hg
    exact hfin g a' w' fun t => by rw [hg t]; simp only [upd, List.map_cons, List.contains_cons]; cases (t == j) <;> cases f t <;> simp
   ·exact stepA hfa (hs2.resolve_left (by rw [hfa]; simp)) (fun _ _ => by simp)
   ·exact stepB hfb (hs3.resolve_left (by rw [hfb]; simp)) (fun _ _ => by simp)

def wpTl (P : Program) (ops : Array Oper) (Q : Exit → Act → World → Prop) (S : World → Prop) : List Nat → Act → World → Prop
 | [], a, w => Q .normal a w
 | t :: l, a, w => wpOp P ops Q t (fun a' w' => S w' ∧ wpTl P ops Q S l a' w') a w
def shapeT (md : Region.Mode) (ops : Array Oper) (N : Nat) : (Nat → Bool) → List Nat → Bool
 | f, [] => (Region.ready md ops (mkL N f)).isEmpty
 | f, t :: l => Region.ready md ops (mkL N f) == [t] && shapeT md ops N (upd f t) l
theorem tail_sound {N : Nat} : ∀ (T : List Nat) (f : Nat → Bool) (a : Act) (w : World), shapeT md ops N f T = true → wpTl P ops Q S T a w → wpAnyH P md ops Q S T.length (mkL N f) a w := by
 intro T
 induction T with
 | nil => intro f a w h hw; exact ⟨by simpa [shapeT] using h, hw⟩
 | cons t l ih =>
  intro f a w h hw
  simp only [shapeT, Bool.and_eq_true, beq_iff_eq] at h
  refine ⟨fun e => by rw [e] at h; simp at h, fun i hi => ?_⟩
  rw [h.1] at hi
  simp only [List.mem_singleton] at hi
  subst hi
  rw [mkL_set]
  exact wpOp_mono (fun a' w' ⟨h1, h2⟩ => ⟨h1, ih _ a' w' h.2 h2⟩) hw

theorem region2 {listed : Array Bool} {fuel N iA dA iB dB : Nat} {oA oB : Obj} {l : List (Nat × Bool)} {T f0 : List Nat} {a : Act} {w : World} (hQ : ∀ (d : Option Tmp) (v : Value) c a w, Q (.panic c) (a.put d v) w → Q (.panic c) a w) (hns : Region.noSelect ops = true) (hN : listed = mkL N (fun j => f0.contains j)) (hfu : fuel = left2 l false false + T.length)
  (hsh : shape2 md ops N iA iB (left2 l false false) (fun j => f0.contains j) l false false = true) (hshT : shapeT md ops N (fun j => (f0.contains j || (l.map (·.1)).contains j || (!false && j == iA) || (!false && j == iB))) T = true)
  (hA : Makes P ops Q iA dA oA) (hB : Makes P ops Q iB dB oB) (hdd : dA ≠ dB) (hsA : dA < a.tmps.size) (hsB : dB < a.tmps.size) (hS : ∀ w w', S w → Ext w w' → S w') (hSw : S w)
  (hch : wpCh P ops Q S [dA, dB] l (fun a' w' => ∀ k k', Made w.heap.size dA oA k a' w' → Made w.heap.size dB oB k' a' w' → k ≠ k' → S w' → wpTl P ops Q S T a' w') a w) : wpAnyH P md ops Q S fuel listed a w := by
 subst hN hfu
 refine chain2 (D := [dA, dB]) (base := w.heap.size) hA hB (by simp) (by simp) hdd hS hQ hns _ _ l false false a w a w rfl hsh hsA hsB hSw (Nat.le_refl _) (fun h => by cases h) (fun h => by cases h) (fun h => by cases h) hch (Away.refl _ _) (Ext.refl _) (fun _ _ _ => ⟨rfl, rfl⟩) ?_
 rintro g a' w' hg hS' ⟨k, k', h1, h2, h3⟩ hK
 rw [mkL_congr hg]
 exact tail_sound T _ a' w' hshT (hK k k' h1 h2 h3 hS')

theorem wpOp_of {i : Nat} {o : Oper} {K : Act → World → Prop} {a : Act} {w : World} (ho : ops[i]? = some o)
  (h : ∀ K' : Act → World → Prop, (∀ a w, K a w → K' a w) → if Region.wanted o (yielded ops a.tmps) then o.wp P a w K' Q else K' (a.put o.dst undef) w) : wpOp P ops Q i K a w := by
 have := h K (fun _ _ h => h)
 unfold wpOp
 simp only [ho]
 split
 ·rename_i hw; rw [if_pos hw] at this; exact .inl this
 ·rename_i hw; rw [if_neg hw] at this; exact this

theorem slots2 {d e : Nat} {a a' : Act} (h : a'.tmps[d]? = a.tmps[d]?) (h' : a'.tmps[e]? = a.tmps[e]?) : ∀ t ∈ [d, e], a'.tmps[t]? = a.tmps[t]? := by
 intro t ht
 simp only [List.mem_cons, List.not_mem_nil, or_false] at ht
 rcases ht with rfl | rfl
 ·exact h
 ·exact h'
theorem away2 {d e : Nat} {arr : Array Value} {df : List Deferred} {a' : Act} (h : Away [d, e] ⟨arr, df⟩ a') : ∃ x y, a' = ⟨(arr.setIfInBounds d x).setIfInBounds e y, df⟩ := by
 obtain ⟨h1, h2, h3⟩ := h
 refine ⟨a'.tmps.getD d undef, a'.tmps.getD e undef, ?_⟩
 cases a' with
 | mk t f =>
  simp only [Act.mk.injEq] at h1 h2 h3 ⊢
  refine ⟨Array.ext_getElem? fun j => ?_, h1⟩
  simp only [Array.getElem?_setIfInBounds, Array.size_setIfInBounds]
  by_cases he : e = j
  ·subst he
   by_cases hl : e < arr.size
   ·simp [hl, show e < t.size by omega]
   ·simp [hl, show t.size ≤ e by omega]
  ·by_cases hd : d = j
   ·subst hd
    by_cases hl : d < arr.size
    ·simp [he, hl, show d < t.size by omega]
    ·simp [he, hl, show t.size ≤ d by omega]
   ·simp only [if_neg he, if_neg hd]
    exact h3 j (by simp [Ne.symm he, Ne.symm hd])
end
end Go.Proofs.YthoedmikfpbfnaaGreat

namespace Go.Proofs.YthoedmikfpbfnaaGreat
open Go Go.RowKit

end Go.Proofs.YthoedmikfpbfnaaGreat
end
section
namespace Go.Proofs.YthoedmikfpbfnaaGreat
open Go Go.RowKit

def hi (n : Int) : Int := n / 18446744073709551616
def lo (n : Int) : Int := n % 18446744073709551616
def W128 (n : Int) : Prop := -170141183460469231731687303715884105728 ≤ n ∧ n < 170141183460469231731687303715884105728
theorem lo_bd (n : Int) : 0 ≤ lo n ∧ lo n < 18446744073709551616 := by unfold lo; omega
theorem hi_bd {n : Int} (h : W128 n) : -9223372036854775808 ≤ hi n ∧ hi n ≤ 9223372036854775807 := by unfold hi; unfold W128 at h; omega
theorem hi_lo (n : Int) : n = hi n * 18446744073709551616 + lo n := by unfold hi lo; omega
theorem hi_neg (n : Int) : hi n < 0 ↔ n < 0 := by unfold hi; omega
theorem of_hi_lo (h l : Int) (h0 : 0 ≤ l) (h1 : l < 18446744073709551616) : hi (h * 18446744073709551616 + l) = h ∧ lo (h * 18446744073709551616 + l) = l := by unfold hi lo; omega
theorem wide_eq {a b : Int} : (hi a = hi b ∧ lo a = lo b) ↔ a = b := by unfold hi lo; omega

theorem run_add64' (x y c : Int) (hx : 0 ≤ x) (hy : 0 ≤ y) (hc0 : 0 ≤ c) (hc : c ≤ 1) (w : World) :
  (callFunc 102 #[.int .u64 x, .int .u64 y, .int .u64 c]).run Tryz.prog w =
   .ok (.value (.tuple #[.int .u64 ((x + y + c) % 18446744073709551616), .int .u64 ((x + y + c) / 18446744073709551616)])) w := by
 rw [run_callFunc_extern Tryz.func102 (by kernel_rfl) (by kernel_rfl) (by kernel_rfl) (e := add64Entry) (by kernel_rfl), run_add64 x y c hx hy hc0 hc]
 rfl

def bor (x y b : Int) : Int := -((x - y - b) / 18446744073709551616)
theorem bor_def (x y b : Int) : bor x y b = -((x - y - b) / 18446744073709551616) := rfl
def sub64Entry' : Array Value → Sem Value := fun args => do
 let (x, y, b) ← Extern.MathBitsCarry.three "Sub64" args
 pure (Extern.MathBitsCarry.pair ((x + Extern.MathBitsCarry.m64 - y - b) % Extern.MathBitsCarry.m64) (if x < y + b then 1 else 0))
theorem run_sub64' (x y b : Int) (hx : 0 ≤ x) (hx1 : x < 18446744073709551616) (hy : 0 ≤ y) (hy1 : y < 18446744073709551616) (hb0 : 0 ≤ b) (hb : b ≤ 1) (w : World) :
  (callFunc 121 #[.int .u64 x, .int .u64 y, .int .u64 b]).run Tryz.prog w =
   .ok (.value (.tuple #[.int .u64 ((x - y - b) % 18446744073709551616), .int .u64 (bor x y b)])) w := by
 rw [run_callFunc_extern Tryz.func121 (by kernel_rfl) (by kernel_rfl) (by kernel_rfl) (e := sub64Entry') (by kernel_rfl)]
 obtain ⟨X, rfl⟩ := Int.eq_ofNat_of_zero_le hx
 obtain ⟨Y, rfl⟩ := Int.eq_ofNat_of_zero_le hy
 have key : ∀ k : Nat, k ≤ 1 → (sub64Entry' #[.int .u64 (X : Int), .int .u64 (Y : Int), .int .u64 (k : Int)]).run Tryz.prog w =
   .ok (Extern.MathBitsCarry.pair ((X + Extern.MathBitsCarry.m64 - Y - k) % Extern.MathBitsCarry.m64) (if X < Y + k then 1 else 0)) w := by
  intro k hk
  have : k = 0 ∨ k = 1 := by omega
  rcases this with rfl | rfl <;> rfl
 obtain ⟨c, rfl⟩ := Int.eq_ofNat_of_zero_le hb0
 rw [key c (by omega)]
 simp only [Extern.MathBitsCarry.pair, Extern.MathBitsCarry.m64, Result.andThen]
 have e1 : ((((X + 2 ^ 64 - Y - c) % 2 ^ 64 : Nat)) : Int) = ((X : Int) - Y - c) % 18446744073709551616 := by omega
 have e2 : (((if X < Y + c then 1 else 0 : Nat)) : Int) = bor (X : Int) Y c := by rw [bor_def]; split <;> omega
 show Result.ok (Next.value (.tuple #[.int .u64 (((X + 2 ^ 64 - Y - c) % 2 ^ 64 : Nat) : Int), .int .u64 ((if X < Y + c then 1 else 0 : Nat) : Int)])) w = _
 rw [e1, e2]

theorem u64_nonneg (x : Int) : 0 ≤ IntKind.u64.wrap x := by rw [IntKind.wrap_u64]; omega
theorem u64_lt (x : Int) : IntKind.u64.wrap x < 18446744073709551616 := by rw [IntKind.wrap_u64]; omega
theorem u64_eq (x : Int) : IntKind.u64.wrap x = x % 18446744073709551616 := IntKind.wrap_u64 x
theorem of_pure (n : Int) (w : World) (h0 : -9223372036854775808 ≤ n) (h1 : n ≤ 9223372036854775807) :
  Calls Tryz.prog 30 #[.int .i64 n] w fun e w' => e = .returned (.agg #[.int .i64 (hi n), .int .u64 (lo n)]) ∧ Ext w w' := by
 go_enter Tryz.func30, Tryz.ntmps30
 go_wp2
 have e1 : n / 9223372036854775808 = hi n := by unfold hi; omega
 have e2 : IntKind.u64.wrap n = lo n := u64_eq n
 rw [e1, e2]
 refine bodyPost_ret (v := .agg #[.int .i64 (hi n), .int .u64 (lo n)]) (by simp [results, Tryz.results30, go_sem]) rfl ⟨rfl, (Ext.refl w).alloc⟩

theorem hi_add (m n : Int) : hi (m + n) = hi m + hi n + (lo m + lo n) / 18446744073709551616 := by unfold hi lo; omega
theorem lo_add (m n : Int) : lo (m + n) = (lo m + lo n) % 18446744073709551616 := by unfold lo; omega
theorem hi_sub (m n : Int) : hi (m - n) = hi m - hi n + (lo m - lo n) / 18446744073709551616 := by unfold hi lo; omega
theorem lo_sub (m n : Int) : lo (m - n) = (lo m - lo n) % 18446744073709551616 := by unfold lo; omega
theorem W128_iff (n : Int) : W128 n ↔ -9223372036854775808 ≤ hi n ∧ hi n ≤ 9223372036854775807 := by unfold W128 hi; omega
instance (n : Int) : Decidable (W128 n) := by unfold W128; infer_instance
def thi (n : Int) : Int := if W128 n then hi n else 0
def tlo (n : Int) : Int := if W128 n then lo n else 0
def ter (n : Int) : Int := if W128 n then 0 else 2
theorem thi_yes {n : Int} (h : W128 n) : thi n = hi n := if_pos h
theorem tlo_yes {n : Int} (h : W128 n) : tlo n = lo n := if_pos h
theorem ter_yes {n : Int} (h : W128 n) : ter n = 0 := if_pos h
theorem thi_no {n : Int} (h : ¬ W128 n) : thi n = 0 := if_neg h
theorem tlo_no {n : Int} (h : ¬ W128 n) : tlo n = 0 := if_neg h
theorem ter_no {n : Int} (h : ¬ W128 n) : ter n = 2 := if_neg h
def RetT (w : World) (n : Int) (e : Ending) (w' : World) : Prop := e = .returned (.tuple #[.agg #[.int .i64 (thi n), .int .u64 (tlo n)], .int .i64 (ter n)]) ∧ Ext w w'
theorem retT_yes {w w' : World} {n a b : Int} (h : W128 n) (ha : a = hi n) (hb : b = lo n) (hx : Ext w w') : RetT w n (.returned (.tuple #[.agg #[.int .i64 a, .int .u64 b], .int .i64 0])) w' :=
 ⟨by rw [thi_yes h, tlo_yes h, ter_yes h, ha, hb], hx⟩
theorem retT_no {w w' : World} {n : Int} (h : ¬ W128 n) (hx : Ext w w') : RetT w n (.returned (.tuple #[.agg #[.int .i64 0, .int .u64 0], .int .i64 2])) w' :=
 ⟨by rw [thi_no h, tlo_no h, ter_no h], hx⟩

def hsum (a b c : Int) : Int := wrap64 (a + b + c)
theorem hsum_eq (a b c : Int) : wrap64 ((IntKind.u64.wrap a + IntKind.u64.wrap b + c) % 18446744073709551616) = hsum a b c := by unfold hsum wrap64; rw [u64_eq, u64_eq]; omega
theorem hsum_def (a b c : Int) : hsum a b c = (a + b + c + 9223372036854775808) % 18446744073709551616 - 9223372036854775808 := by unfold hsum wrap64; rfl

set_option maxRecDepth 100000 in
set_option maxHeartbeats 1600000 in
theorem wadd (m n : Int) (w : World) (hm : W128 m) (hn : W128 n) :
  Calls Tryz.prog 44 #[.agg #[.int .i64 (hi m), .int .u64 (lo m)], .agg #[.int .i64 (hi n), .int .u64 (lo n)]] w (RetT w (m + n)) := by
 have r98 := run_add64'
 obtain ⟨a0, a1⟩ := lo_bd m
 obtain ⟨b0, b1⟩ := lo_bd n
 obtain ⟨a2, a3⟩ := hi_bd hm
 obtain ⟨b2, b3⟩ := hi_bd hn
 have u1 := u64_nonneg (hi m)
 have u2 := u64_nonneg (hi n)
 have c0 : 0 ≤ (lo m + lo n) / 18446744073709551616 := by omega
 have c1 : (lo m + lo n) / 18446744073709551616 ≤ 1 := by omega
 go_enter Tryz.func44, Tryz.ntmps44
 go_wp2
 all_goals
  have hi1 := hi_add m n
  have lo1 := lo_add m n
  have W1 := W128_iff (m + n)
  have hd := hsum_def (hi m) (hi n) ((lo m + lo n) / 18446744073709551616)
  simp only [hsum_eq] at *
  first
  | (refine bodyPost_ret (v := .tuple #[.agg #[.int .i64 (hsum (hi m) (hi n) ((lo m + lo n) / 18446744073709551616)), .int .u64 ((lo m + lo n) % 18446744073709551616)], .int .i64 0]) (by simp [results, Tryz.results44, go_sem]) rfl
      (retT_yes (W1.2 (by grind)) (by grind) lo1.symm yX))
  | (refine bodyPost_ret (v := .tuple #[.agg #[.int .i64 0, .int .u64 0], .int .i64 2]) (by simp [results, Tryz.results44, go_sem]) rfl
      (retT_no (fun h => by have := W1.1 h; grind) yX))

def hdif (a b c : Int) : Int := wrap64 (a - b - c)
theorem hdif_eq (a b c : Int) : wrap64 ((IntKind.u64.wrap a - IntKind.u64.wrap b - c) % 18446744073709551616) = hdif a b c := by unfold hdif wrap64; rw [u64_eq, u64_eq]; omega
theorem hdif_def (a b c : Int) : hdif a b c = (a - b - c + 9223372036854775808) % 18446744073709551616 - 9223372036854775808 := by unfold hdif wrap64; rfl

set_option maxRecDepth 100000 in
set_option maxHeartbeats 1600000 in
theorem wsub (m n : Int) (w : World) (hm : W128 m) (hn : W128 n) :
  Calls Tryz.prog 92 #[.agg #[.int .i64 (hi m), .int .u64 (lo m)], .agg #[.int .i64 (hi n), .int .u64 (lo n)]] w (RetT w (m - n)) := by
 have r102 := run_sub64'
 obtain ⟨a0, a1⟩ := lo_bd m
 obtain ⟨b0, b1⟩ := lo_bd n
 obtain ⟨a2, a3⟩ := hi_bd hm
 obtain ⟨b2, b3⟩ := hi_bd hn
 have u1 := u64_nonneg (hi m)
 have u2 := u64_nonneg (hi n)
 have u3 := u64_lt (hi m)
 have u4 := u64_lt (hi n)
 have c0 : 0 ≤ bor (lo m) (lo n) 0 := by rw [bor_def]; omega
 have c1 : bor (lo m) (lo n) 0 ≤ 1 := by rw [bor_def]; omega
 go_enter Tryz.func92, Tryz.ntmps92
 go_wp2
 all_goals
  have hi1 := hi_sub m n
  have lo1 := lo_sub m n
  have W1 := W128_iff (m - n)
  have hd := hdif_def (hi m) (hi n) (bor (lo m) (lo n) 0)
  have hbo := bor_def (lo m) (lo n) 0
  rw [Int.sub_zero] at hbo
  simp only [hdif_eq] at *
  clear r102 u1 u2 u3 u4
  first
  | (refine bodyPost_ret (v := .tuple #[.agg #[.int .i64 (hdif (hi m) (hi n) (bor (lo m) (lo n) 0)), .int .u64 ((lo m - lo n) % 18446744073709551616)], .int .i64 0]) (by simp [results, Tryz.results92, go_sem]) rfl
      (retT_yes (W1.2 (by (first | omega | grind | (simp only [Bool.not_eq_eq_eq_not, Bool.not_false, Bool.not_true, beq_iff_eq, beq_eq_false_iff_ne, ne_eq, decide_eq_decide] at *; omega)))) (by (first | omega | grind | (simp only [Bool.not_eq_eq_eq_not, Bool.not_false, Bool.not_true, beq_iff_eq, beq_eq_false_iff_ne, ne_eq, decide_eq_decide] at *; omega))) lo1.symm yX))
  | (refine bodyPost_ret (v := .tuple #[.agg #[.int .i64 0, .int .u64 0], .int .i64 2]) (by simp [results, Tryz.results92, go_sem]) rfl
      (retT_no (fun h => by have := W1.1 h; (first | omega | grind | (simp only [Bool.not_eq_eq_eq_not, Bool.not_false, Bool.not_true, beq_iff_eq, beq_eq_false_iff_ne, ne_eq, decide_eq_decide] at *; omega))) yX))

theorem W128_zero : W128 0 := by unfold W128; omega
theorem hi_zero : hi 0 = 0 := rfl
theorem lo_zero : lo 0 = 0 := rfl

set_option maxRecDepth 100000 in
set_option maxHeartbeats 1600000 in
theorem wneg (n : Int) (w : World) (hn : W128 n) :
  Calls Tryz.prog 67 #[.agg #[.int .i64 (hi n), .int .u64 (lo n)]] w (RetT w (-n)) := by
 have h0 := wsub 0 n
 rw [hi_zero, lo_zero] at h0
 have H0 := Lib.hid h0
 clear h0
 go_enter Tryz.func67, Tryz.ntmps67
 go_wp2_with fail
 refine (H0.out _ W128_zero hn).mono ?_
 rintro e w1 ⟨rfl, x1⟩
 obtain ⟨b1, b2⟩ := newB x1
 have q0 := b2.c0
 have q1 := b2.c1
 have q2 := b2.f0
 have q3 := b2.f1
 rw [Int.zero_sub]
 go_wp2_with fail
 refine bodyPost_ret (v := .tuple #[.agg #[.int .i64 (thi (-n)), .int .u64 (tlo (-n))], .int .i64 (ter (-n))]) (by simp [results, Tryz.results67, go_sem, q0, q1]) rfl ⟨rfl, ?_⟩
 exact (Ext.set (Ext.set (Ext.trans (Ext.refl w).alloc.alloc x1) (by omega)) (by omega))

set_option maxRecDepth 100000 in
set_option maxHeartbeats 1600000 in
theorem wcmp (m n : Int) (w : World) :
  Calls Tryz.prog 55 #[.agg #[.int .i64 (hi m), .int .u64 (lo m)], .agg #[.int .i64 (hi n), .int .u64 (lo n)]] w (fun e w' => e = .returned (.int .i64 (cmpI m n)) ∧ Ext w w') := by
 go_enter Tryz.func55, Tryz.ntmps55
 go_wp2
 all_goals
  have a := hi_lo m
  have b := hi_lo n
  have := lo_bd m
  have := lo_bd n
  first
  | (refine bodyPost_ret (v := .int .i64 0) (by simp [results, Tryz.results55, go_sem]) rfl ⟨by rw [cmpI_eq (by (first | omega | grind | (simp only [Bool.not_eq_eq_eq_not, Bool.not_false, Bool.not_true, beq_iff_eq, beq_eq_false_iff_ne, ne_eq, decide_eq_decide] at *; omega)))], yX⟩)
  | (refine bodyPost_ret (v := .int .i64 (-1)) (by simp [results, Tryz.results55, go_sem]) rfl ⟨by rw [cmpI_lt (by (first | omega | grind | (simp only [Bool.not_eq_eq_eq_not, Bool.not_false, Bool.not_true, beq_iff_eq, beq_eq_false_iff_ne, ne_eq, decide_eq_decide] at *; omega)))], yX⟩)
  | (refine bodyPost_ret (v := .int .i64 1) (by simp [results, Tryz.results55, go_sem]) rfl ⟨by rw [cmpI_gt (by (first | omega | grind | (simp only [Bool.not_eq_eq_eq_not, Bool.not_false, Bool.not_true, beq_iff_eq, beq_eq_false_iff_ne, ne_eq, decide_eq_decide] at *; omega)))], yX⟩)

end Go.Proofs.YthoedmikfpbfnaaGreat

namespace Go.Proofs.YthoedmikfpbfnaaGreat
open Go Go.RowKit

set_option maxRecDepth 100000 in
set_option maxHeartbeats 1600000 in
theorem mul64_nat (x y : Nat) (hx : x < 18446744073709551616) (hy : y < 18446744073709551616) (w : World) :
  Calls Tryz.prog 60 #[.int .u64 x, .int .u64 y] w fun e w' => e = .returned (.tuple #[.int .u64 ((x * y / 18446744073709551616 : Nat) : Int), .int .u64 ((x * y % 18446744073709551616 : Nat) : Int)]) ∧ w' = w := by
 obtain ⟨bd, bt, bw, hhi⟩ := Lib.mul64_hi x y hx hy
 have ba := Lib.half_mul_le (a := x / 4294967296) (b := y / 4294967296) (by omega) (by omega)
 have bb := Lib.half_mul_le (a := x / 4294967296) (b := y % 4294967296) (by omega) (by omega)
 have bc := Lib.half_mul_le (a := x % 4294967296) (b := y / 4294967296) (by omega) (by omega)
 have ba' : x / 4294967296 * (y / 4294967296) < 18446744073709551616 := by omega
 have bb' : x / 4294967296 * (y % 4294967296) < 18446744073709551616 := by omega
 have bc' : x % 4294967296 * (y / 4294967296) < 18446744073709551616 := by omega
 have bh1 : x / 4294967296 * (y / 4294967296) + (x / 4294967296 * (y % 4294967296) + x % 4294967296 * (y % 4294967296) / 4294967296) / 4294967296 < 18446744073709551616 := by omega
 have bh : x / 4294967296 * (y / 4294967296) + (x / 4294967296 * (y % 4294967296) + x % 4294967296 * (y % 4294967296) / 4294967296) / 4294967296 + ((x / 4294967296 * (y % 4294967296) + x % 4294967296 * (y % 4294967296) / 4294967296) % 4294967296 + x % 4294967296 * (y / 4294967296)) / 4294967296 < 18446744073709551616 := by omega
 go_enter Tryz.func60, Tryz.ntmps60
 go_wp2
 simp only [Mul64.maskN x hx, Mul64.maskN y hy, Mul64.divN, Mul64.mulN, Mul64.addN, Mul64.wrapN _ bd, Mul64.wrapN _ bb', Mul64.wrapN _ bt, Mul64.maskN _ bt, Mul64.wrapN _ bc', Mul64.wrapN _ bw, Mul64.wrapN _ ba', Mul64.wrapN _ bh1, Mul64.wrapN _ bh, Mul64.wrapM (x * y)]
 rw [hhi]
 go_ret2
 exact ⟨rfl, rfl⟩

theorem mul64 (x y : Int) (hx : 0 ≤ x) (hx1 : x < 18446744073709551616) (hy : 0 ≤ y) (hy1 : y < 18446744073709551616) (w : World) :
  Calls Tryz.prog 60 #[.int .u64 x, .int .u64 y] w fun e w' => e = .returned (.tuple #[.int .u64 (hi (x * y)), .int .u64 (lo (x * y))]) ∧ w' = w := by
 obtain ⟨X, rfl⟩ := Int.eq_ofNat_of_zero_le hx
 obtain ⟨Y, rfl⟩ := Int.eq_ofNat_of_zero_le hy
 have h := mul64_nat X Y (by omega) (by omega) w
 have e1 : ((X * Y / 18446744073709551616 : Nat) : Int) = hi ((X : Int) * Y) := by unfold hi; rw [← Int.natCast_mul]; omega
 have e2 : ((X * Y % 18446744073709551616 : Nat) : Int) = lo ((X : Int) * Y) := by unfold lo; rw [← Int.natCast_mul]; omega
 rw [e1, e2] at h
 exact h

def mag (n : Int) : Int := if n < 0 then -n else n
theorem mag_neg {n : Int} (h : n < 0) : mag n = -n := if_pos h
theorem mag_pos {n : Int} (h : 0 ≤ n) : mag n = n := if_neg (by omega)
theorem mag_bd {n : Int} (h : -9223372036854775808 ≤ n) (h' : n ≤ 9223372036854775807) : 0 ≤ mag n ∧ mag n ≤ 9223372036854775808 := by unfold mag; split <;> omega
theorem mag_W {n : Int} (h : W128 n) : 0 ≤ mag n ∧ mag n ≤ 170141183460469231731687303715884105728 := by unfold W128 at h; unfold mag; split <;> omega

set_option maxRecDepth 100000 in
set_option maxHeartbeats 1600000 in
theorem bare_any (n : Int) (w : World) (h0 : -9223372036854775808 ≤ n) (h1 : n ≤ 9223372036854775807) :
  Calls Tryz.prog 61 #[.int .i64 n] w fun e w' => e = .returned (.int .u64 (mag n)) ∧ w' = w := by
 go_enter Tryz.func61, Tryz.ntmps61
 go_wp2
 ·have e2 : IntKind.u64.wrap (-IntKind.u64.wrap n) = -n := by rw [u64_eq, u64_eq]; omega
  rw [mag_neg (n := n) (by assumption)]
  refine bodyPost_ret (v := .int .u64 (-n)) (by simp [results, Tryz.results61, go_sem, e2]) rfl ⟨rfl, rfl⟩
 ·have e2 : IntKind.u64.wrap n = n := by rw [u64_eq]; omega
  rw [mag_pos (n := n) (by omega)]
  try simp only [e2]
  refine bodyPost_ret (v := .int .u64 n) (by simp [results, Tryz.results61, go_sem]) rfl ⟨rfl, rfl⟩

def wsg (neg : Bool) (n : Int) : Int := if neg then -n else n
theorem wsg_t (n : Int) : wsg true n = -n := rfl
theorem wsg_f (n : Int) : wsg false n = n := rfl

set_option maxRecDepth 100000 in
set_option maxHeartbeats 1600000 in
theorem signed_any (neg : Bool) (h l : Int) (w : World) (h0 : 0 ≤ h) (h1 : h < 18446744073709551616) (l0 : 0 ≤ l) (l1 : l < 18446744073709551616) :
  Calls Tryz.prog 62 #[.bool neg, .int .u64 h, .int .u64 l] w (RetT w (wsg neg (h * 18446744073709551616 + l))) := by
 have r102 := run_sub64'
 have c0 : 0 ≤ bor 0 l 0 := by rw [bor_def]; omega
 have c1 : bor 0 l 0 ≤ 1 := by rw [bor_def]; omega
 cases neg
 ·go_enter Tryz.func62, Tryz.ntmps62
  go_wp2
  all_goals
   clear r102
   first
   | (refine bodyPost_ret (v := .tuple #[.agg #[.int .i64 (wrap64 h), .int .u64 (l)], .int .i64 0]) ?_ rfl (retT_yes ?_ ?_ ?_ yX); (simp [results, Tryz.results62, go_sem]); all_goals (simp only [wsg_t, wsg_f, W128, hi, lo, wrap64, bor_def, Bool.not_eq_eq_eq_not, Bool.not_false, Bool.not_true, decide_eq_true_eq, decide_eq_false_iff_not] at *; omega))
   | (refine bodyPost_ret (v := .tuple #[.agg #[.int .i64 (0), .int .u64 (l)], .int .i64 0]) ?_ rfl (retT_yes ?_ ?_ ?_ yX); (simp [results, Tryz.results62, go_sem]); all_goals (simp only [wsg_t, wsg_f, W128, hi, lo, wrap64, bor_def, Bool.not_eq_eq_eq_not, Bool.not_false, Bool.not_true, decide_eq_true_eq, decide_eq_false_iff_not] at *; omega))
   | (refine bodyPost_ret (v := .tuple #[.agg #[.int .i64 (wrap64 h), .int .u64 (0)], .int .i64 0]) ?_ rfl (retT_yes ?_ ?_ ?_ yX); (simp [results, Tryz.results62, go_sem]); all_goals (simp only [wsg_t, wsg_f, W128, hi, lo, wrap64, bor_def, Bool.not_eq_eq_eq_not, Bool.not_false, Bool.not_true, decide_eq_true_eq, decide_eq_false_iff_not] at *; omega))
   | (refine bodyPost_ret (v := .tuple #[.agg #[.int .i64 (0), .int .u64 (0)], .int .i64 0]) ?_ rfl (retT_yes ?_ ?_ ?_ yX); (simp [results, Tryz.results62, go_sem]); all_goals (simp only [wsg_t, wsg_f, W128, hi, lo, wrap64, bor_def, Bool.not_eq_eq_eq_not, Bool.not_false, Bool.not_true, decide_eq_true_eq, decide_eq_false_iff_not] at *; omega))
   | (refine bodyPost_ret (v := .tuple #[.agg #[.int .i64 0, .int .u64 0], .int .i64 2]) ?_ rfl (retT_no ?_ yX); (simp [results, Tryz.results62, go_sem]); all_goals (simp only [wsg_t, wsg_f, W128, hi, lo, wrap64, bor_def, Bool.not_eq_eq_eq_not, Bool.not_false, Bool.not_true, decide_eq_true_eq, decide_eq_false_iff_not] at *; omega))
 ·go_enter Tryz.func62, Tryz.ntmps62
  go_wp2
  all_goals
   clear r102
   first
   | (refine bodyPost_ret (v := .tuple #[.agg #[.int .i64 (wrap64 ((-h - bor 0 l 0) % 18446744073709551616)), .int .u64 (-l % 18446744073709551616)], .int .i64 0]) ?_ rfl (retT_yes ?_ ?_ ?_ yX); (simp [results, Tryz.results62, go_sem]); all_goals (simp only [wsg_t, wsg_f, W128, hi, lo, wrap64, bor_def, Bool.not_eq_eq_eq_not, Bool.not_false, Bool.not_true, decide_eq_true_eq, decide_eq_false_iff_not] at *; omega))
   | (refine bodyPost_ret (v := .tuple #[.agg #[.int .i64 (0), .int .u64 (-l % 18446744073709551616)], .int .i64 0]) ?_ rfl (retT_yes ?_ ?_ ?_ yX); (simp [results, Tryz.results62, go_sem]); all_goals (simp only [wsg_t, wsg_f, W128, hi, lo, wrap64, bor_def, Bool.not_eq_eq_eq_not, Bool.not_false, Bool.not_true, decide_eq_true_eq, decide_eq_false_iff_not] at *; omega))
   | (refine bodyPost_ret (v := .tuple #[.agg #[.int .i64 (wrap64 ((-h - bor 0 l 0) % 18446744073709551616)), .int .u64 (0)], .int .i64 0]) ?_ rfl (retT_yes ?_ ?_ ?_ yX); (simp [results, Tryz.results62, go_sem]); all_goals (simp only [wsg_t, wsg_f, W128, hi, lo, wrap64, bor_def, Bool.not_eq_eq_eq_not, Bool.not_false, Bool.not_true, decide_eq_true_eq, decide_eq_false_iff_not] at *; omega))
   | (refine bodyPost_ret (v := .tuple #[.agg #[.int .i64 (0), .int .u64 (0)], .int .i64 0]) ?_ rfl (retT_yes ?_ ?_ ?_ yX); (simp [results, Tryz.results62, go_sem]); all_goals (simp only [wsg_t, wsg_f, W128, hi, lo, wrap64, bor_def, Bool.not_eq_eq_eq_not, Bool.not_false, Bool.not_true, decide_eq_true_eq, decide_eq_false_iff_not] at *; omega))
   | (refine bodyPost_ret (v := .tuple #[.agg #[.int .i64 0, .int .u64 0], .int .i64 2]) ?_ rfl (retT_no ?_ yX); (simp [results, Tryz.results62, go_sem]); all_goals (simp only [wsg_t, wsg_f, W128, hi, lo, wrap64, bor_def, Bool.not_eq_eq_eq_not, Bool.not_false, Bool.not_true, decide_eq_true_eq, decide_eq_false_iff_not] at *; omega))

set_option maxRecDepth 100000 in
set_option maxHeartbeats 1600000 in
theorem parts_any (n : Int) (w : World) (hn : W128 n) :
  Calls Tryz.prog 101 #[.agg #[.int .i64 (hi n), .int .u64 (lo n)]] w (fun e w' => e = .returned (.tuple #[.int .u64 (hi (mag n)), .int .u64 (lo (mag n)), .bool (decide (n < 0))]) ∧ Ext w w') := by
 have r102 := run_sub64'
 obtain ⟨a0, a1⟩ := lo_bd n
 obtain ⟨a2, a3⟩ := hi_bd hn
 have c0 : 0 ≤ bor 0 (lo n) 0 := by rw [bor_def]; omega
 have c1 : bor 0 (lo n) 0 ≤ 1 := by rw [bor_def]; omega
 have u1 := u64_nonneg (hi n)
 have u2 := u64_lt (hi n)
 go_enter Tryz.func101, Tryz.ntmps101
 go_wp2
 ·clear r102
  go_quiet (fail)
  go_wp2
  have e3 : n < 0 ↔ hi n < 0 := (hi_neg n).symm
  have e4 : decide (n < 0) = false := decide_eq_false (by omega)
  rw [mag_pos (n := n) (by omega), e4]
  refine bodyPost_ret (v := .tuple #[.int .u64 (hi n), .int .u64 (lo n), .bool false]) (by simp [results, Tryz.results101, go_sem]) rfl ⟨rfl, yX⟩
 ·clear r102
  have e3 : n < 0 ↔ hi n < 0 := (hi_neg n).symm
  have e4 : decide (n < 0) = true := decide_eq_true (by omega)
  rw [mag_neg (n := n) (by omega), e4]
  have e5 : (-IntKind.u64.wrap (hi n) - bor 0 (lo n) 0) % 18446744073709551616 = hi (-n) := by rw [u64_eq, bor_def]; unfold W128 at hn; unfold hi lo; omega
  have e6 : -lo n % 18446744073709551616 = lo (-n) := by unfold lo; omega
  refine bodyPost_ret (v := .tuple #[.int .u64 (hi (-n)), .int .u64 (lo (-n)), .bool true]) (by simp [results, Tryz.results101, go_sem, e5, e6]) rfl ⟨rfl, yX⟩

set_option maxRecDepth 100000 in
set_option maxHeartbeats 1600000 in
theorem wsign (n : Int) (w : World) :
  Calls Tryz.prog 16 #[.agg #[.int .i64 (hi n), .int .u64 (lo n)]] w (fun e w' => e = .returned (.int .i64 (cmpI n 0)) ∧ Ext w w') := by
 have h0 := wcmp n 0
 rw [hi_zero, lo_zero] at h0
 have H0 := Lib.hid h0
 clear h0
 go_enter Tryz.func16, Tryz.ntmps16
 go_wp2_with fail
 refine (H0.out _).mono ?_
 rintro e w1 ⟨rfl, x1⟩
 go_wp2_with fail
 refine bodyPost_ret (v := .int .i64 (cmpI n 0)) (by simp [results, Tryz.results16, go_sem]) rfl ⟨rfl, ?_⟩
 exact Ext.trans (Ext.refl w).alloc x1

end Go.Proofs.YthoedmikfpbfnaaGreat

namespace Go.Proofs.YthoedmikfpbfnaaGreat
open Go Go.RowKit

def I64 (n : Int) : Prop := -9223372036854775808 ≤ n ∧ n ≤ 9223372036854775807
instance (n : Int) : Decidable (I64 n) := by unfold I64; infer_instance
def t64 (n : Int) : Int := if I64 n then n else 0
theorem wrap64_bd (n : Int) : -9223372036854775808 ≤ wrap64 n ∧ wrap64 n ≤ 9223372036854775807 := by unfold wrap64; omega
theorem int_yes {n : Int} (h : hi (wrap64 (lo n)) = hi n) (h' : lo (wrap64 (lo n)) = lo n) : I64 n ∧ wrap64 (lo n) = n := by
 have e := wide_eq.1 ⟨h, h'⟩
 have := wrap64_bd (lo n)
 rw [e] at this
 exact ⟨this, e⟩
theorem int_no {n : Int} (h : ¬ (hi (wrap64 (lo n)) = hi n ∧ lo (wrap64 (lo n)) = lo n)) : ¬ I64 n := by
 intro hi'
 apply h
 have e : wrap64 (lo n) = n := by unfold I64 at hi'; unfold wrap64 lo; omega
 rw [e]; exact ⟨rfl, rfl⟩

set_option maxRecDepth 100000 in
set_option maxHeartbeats 1600000 in
theorem wint (n : Int) (w : World) :
  Calls Tryz.prog 50 #[.agg #[.int .i64 (hi n), .int .u64 (lo n)]] w (fun e w' => e = .returned (.tuple #[.int .i64 (t64 n), .bool (decide (I64 n))]) ∧ Ext w w') := by
 obtain ⟨l0, l1⟩ := lo_bd n
 obtain ⟨b0, b1⟩ := wrap64_bd (lo n)
 have hA : Box2 (w.alloc (.cells #[.int .i64 (hi n), .int .u64 (lo n)] 42)) w.heap.size (.int .i64 (hi n)) (.int .u64 (lo n)) 42 := Box2.new rfl
 have hl : lo (wrap64 (lo n)) = lo n := by unfold wrap64 lo; omega
 have g2 : (lo (wrap64 (lo n)) == lo n) = true := by simpa using hl
 by_cases h1 : hi (wrap64 (lo n)) = hi n
 ·have g1 : (hi (wrap64 (lo n)) == hi n) = true := by simpa using h1
  obtain ⟨i1, i2⟩ := int_yes h1 hl
  have H1 := Lib.hid i2
  clear hl h1 i2
  go_enter Tryz.func50, Tryz.ntmps50
  go_wp2_with fail
  go_region_held3 (fun w' => w'.cell? ⟨w.heap.size, 0, none⟩ = some (.int .i64 (hi n)) ∧ w'.cell? ⟨w.heap.size, 1, none⟩ = some (.int .u64 (lo n)))
   (first
    | exact ⟨(hA.drew.ext x1).c0, (hA.drew.ext x1).c1⟩
    | exact ⟨hA.drew.c0, hA.drew.c1⟩)
   (first
    | (go_at_call 30; refine (of_pure _ _ b0 b1).mono ?_; rintro e w1 ⟨rfl, x1⟩))
  go_wp2
  rw [show t64 n = n from if_pos i1, decide_eq_true i1]
  refine bodyPost_ret (v := .tuple #[.int .i64 (wrap64 (lo n)), .bool true]) (by simp [results, Tryz.results50, go_sem]) rfl ⟨by rw [H1.out], Ext.trans (Ext.refl w).alloc.drew x1⟩
 ·have g1 : (hi (wrap64 (lo n)) == hi n) = false := by simpa using h1
  have i1 := int_no (n := n) (fun h => h1 h.1)
  clear hl h1
  go_enter Tryz.func50, Tryz.ntmps50
  go_wp2_with fail
  go_region_held3 (fun w' => w'.cell? ⟨w.heap.size, 0, none⟩ = some (.int .i64 (hi n)) ∧ w'.cell? ⟨w.heap.size, 1, none⟩ = some (.int .u64 (lo n)))
   (first
    | exact ⟨(hA.drew.ext x1).c0, (hA.drew.ext x1).c1⟩
    | exact ⟨hA.drew.c0, hA.drew.c1⟩)
   (first
    | (go_at_call 30; refine (of_pure _ _ b0 b1).mono ?_; rintro e w1 ⟨rfl, x1⟩))
  go_wp2
  rw [show t64 n = 0 from if_neg i1, decide_eq_false i1]
  refine bodyPost_ret (v := .tuple #[.int .i64 0, .bool false]) (by simp [results, Tryz.results50, go_sem]) rfl ⟨rfl, Ext.trans (Ext.refl w).alloc.drew x1⟩

theorem mag_mul (m n : Int) : wsg (!(decide (m < 0) == decide (n < 0))) (mag m * mag n) = m * n := by
 by_cases a : m < 0 <;> by_cases b : n < 0
 ·simp [a, b, mag_neg, wsg_f]; grind
 ·simp [a, b, mag_neg a, mag_pos (Int.not_lt.1 b), wsg_t]; grind
 ·simp [a, b, mag_neg b, mag_pos (Int.not_lt.1 a), wsg_t]; grind
 ·simp [a, b, mag_pos (Int.not_lt.1 a), mag_pos (Int.not_lt.1 b), wsg_f]
theorem mag_of_mul (m n : Int) : mag (m * n) = mag m * mag n := by
 have h1 := mag_mul m n
 have h2 : 0 ≤ mag m * mag n := Int.mul_nonneg (by unfold mag; split <;> omega) (by unfold mag; split <;> omega)
 rw [← h1]
 generalize mag m * mag n = p at *
 generalize (!(decide (m < 0) == decide (n < 0))) = b
 cases b
 ·exact mag_pos h2
 ·rw [wsg_t]; unfold mag; split <;> omega
theorem mul_room {m n : Int} (hm : I64 m) (hn : I64 n) : 0 ≤ mag m * mag n ∧ mag m * mag n ≤ 85070591730234615865843651857942052864 := by
 obtain ⟨p0, p1⟩ := mag_bd hm.1 hm.2
 obtain ⟨q0, q1⟩ := mag_bd hn.1 hn.2
 exact ⟨Int.mul_nonneg p0 q0, Int.le_trans (Int.mul_le_mul p1 q1 q0 (by omega)) (by decide)⟩
theorem mag_le (n : Int) : -mag n ≤ n ∧ n ≤ mag n := by unfold mag; split <;> omega
theorem mul_W {m n : Int} (hm : I64 m) (hn : I64 n) : W128 (m * n) := by
 have h := mul_room hm hn
 rw [← mag_of_mul] at h
 have := mag_le (m * n)
 unfold W128; omega

set_option maxRecDepth 100000 in
set_option maxHeartbeats 1600000 in
theorem wmul (m n : Int) (w : World) (hm : I64 m) (hn : I64 n) :
  Calls Tryz.prog 23 #[.int .i64 m, .int .i64 n] w (fun e w' => e = .returned (.agg #[.int .i64 (hi (m * n)), .int .u64 (lo (m * n))]) ∧ Ext w w') := by
 obtain ⟨P0, P1⟩ := mul_room hm hn
 have hW := mul_W hm hn
 have hS := Lib.hid (mag_mul m n)
 obtain ⟨m0, m1⟩ := hm
 obtain ⟨n0, n1⟩ := hn
 obtain ⟨p0, p1⟩ := mag_bd m0 m1
 obtain ⟨q0, q1⟩ := mag_bd n0 n1
 obtain ⟨l0, l1⟩ := lo_bd (mag m * mag n)
 have h0 : 0 ≤ hi (mag m * mag n) := by unfold hi; omega
 have h1 : hi (mag m * mag n) < 18446744073709551616 := by unfold hi; omega
 have H1 := Lib.hid bare_any
 have H2 := Lib.hid mul64
 have H3 := Lib.hid signed_any
 go_enter Tryz.func23, Tryz.ntmps23
 go_wp2_with fail
 refine (H1.out _ _ m0 m1).mono ?_
 rintro e w1 ⟨rfl, rfl⟩
 go_wp2_with fail
 refine (H1.out _ _ n0 n1).mono ?_
 rintro e w1 ⟨rfl, rfl⟩
 go_wp2_with fail
 refine (H2.out _ _ (by omega) (by omega) (by omega) (by omega) _).mono ?_
 rintro e w1 ⟨rfl, rfl⟩
 go_wp2_with fail
 refine (H3.out _ _ _ _ h0 h1 l0 l1).mono ?_
 rw [← hi_lo, hS.out]
 rintro e w1 ⟨rfl, x1⟩
 rw [thi_yes hW, tlo_yes hW, ter_yes hW]
 have b2 := (newA x1).alloc (.cells #[.int .i64 (hi (m * n)), .int .u64 (lo (m * n))] 42)
 have q0 := b2.c0
 have q1 := b2.c1
 have q2 := b2.f0
 have q3 := b2.f1
 have z1 := Ext.size x1
 simp only [World.size_alloc] at z1
 go_wp2_with fail
 refine bodyPost_ret (v := .agg #[.int .i64 (hi (m * n)), .int .u64 (lo (m * n))]) (by simp [results, Tryz.results23, go_sem, q0, q1]) rfl ⟨rfl, yX⟩

set_option maxRecDepth 100000 in
set_option maxHeartbeats 1600000 in
theorem wtimes (v n : Int) (w : World) (hv : W128 v) (hn : I64 n) :
  Calls Tryz.prog 43 #[.agg #[.int .i64 (hi v), .int .u64 (lo v)], .int .i64 n] w (RetT w (v * n)) := by
 have hS := Lib.hid (mag_mul v n)
 have hM := Lib.hid (mag_of_mul v n)
 have hL := mag_le (v * n)
 obtain ⟨v0, v1⟩ := mag_W hv
 obtain ⟨n0, n1⟩ := hn
 obtain ⟨b0, b1⟩ := mag_bd n0 n1
 obtain ⟨al0, al1⟩ := lo_bd (mag v)
 have ah0 : 0 ≤ hi (mag v) := by unfold hi; omega
 have ah1 : hi (mag v) ≤ 9223372036854775808 := by unfold hi; omega
 have eP : mag v * mag n = hi (mag v) * mag n * 18446744073709551616 + lo (mag v) * mag n := by
  have := hi_lo (mag v)
  grind
 have X0 : 0 ≤ hi (mag v) * mag n := Int.mul_nonneg ah0 b0
 have X1 : hi (mag v) * mag n ≤ 85070591730234615865843651857942052864 := Int.le_trans (Int.mul_le_mul ah1 b1 b0 (by omega)) (by decide)
 have Y0 : 0 ≤ lo (mag v) * mag n := Int.mul_nonneg al0 b0
 have Y1 : lo (mag v) * mag n ≤ 170141183460469231731687303715884105728 := Int.le_trans (Int.mul_le_mul (Int.le_of_lt al1) b1 b0 (by omega)) (by decide)
 have eX := hi_lo (hi (mag v) * mag n)
 have eY := hi_lo (lo (mag v) * mag n)
 obtain ⟨xl0, xl1⟩ := lo_bd (hi (mag v) * mag n)
 obtain ⟨yl0, yl1⟩ := lo_bd (lo (mag v) * mag n)
 have xh0 : 0 ≤ hi (hi (mag v) * mag n) := by unfold hi; unfold hi at X0; omega
 have xh1 : hi (hi (mag v) * mag n) ≤ 4611686018427387904 := by unfold hi; unfold hi at X1; omega
 have yh0 : 0 ≤ hi (lo (mag v) * mag n) := by unfold hi; omega
 have yh1 : hi (lo (mag v) * mag n) ≤ 9223372036854775808 := by unfold hi; omega
 have H1 := Lib.hid bare_any
 have H2 := Lib.hid mul64
 have H3 := Lib.hid signed_any
 have H4 := Lib.hid parts_any
 have EP := Lib.hid eP
 have EX := Lib.hid eX
 have EY := Lib.hid eY
 clear eP eX eY
 have r98 := run_add64'
 have c0 : 0 ≤ (lo (hi (mag v) * mag n) + hi (lo (mag v) * mag n)) / 18446744073709551616 := by omega
 have c1 : (lo (hi (mag v) * mag n) + hi (lo (mag v) * mag n)) / 18446744073709551616 ≤ 1 := by omega
 go_enter Tryz.func43, Tryz.ntmps43
 go_wp2_with fail
 refine (H4.out _ _ hv).mono ?_
 rintro e w1 ⟨rfl, x1⟩
 go_wp2_with fail
 refine (H1.out _ _ n0 n1).mono ?_
 rintro e w2 ⟨rfl, rfl⟩
 go_wp2_with fail
 refine (H2.out _ _ (by omega) (by omega) (by omega) (by omega) _).mono ?_
 rintro e w3 ⟨rfl, rfl⟩
 go_wp2_with fail
 refine (H2.out _ _ (by omega) (by omega) (by omega) (by omega) _).mono ?_
 rintro e w4 ⟨rfl, rfl⟩
 have b2 := newB x1
 have q0 := b2.2.c0
 have q1 := b2.2.c1
 have q2 := b2.2.f0
 have q3 := b2.2.f1
 go_wp2_with fail
 ·clear r98 H1 H2 H3 H4
  have e1 := EP.out
  have e2 := EX.out
  have e3 := EY.out
  have e4 := hM.out
  refine bodyPost_ret (v := .tuple #[.agg #[.int .i64 0, .int .u64 0], .int .i64 2]) (by simp [results, Tryz.results43, go_sem, q0, q1]) rfl (retT_no (fun h => ?_) yX)
  have := mag_W h
  omega
 ·have e0 : (lo (hi (mag v) * mag n) + hi (lo (mag v) * mag n)) % 18446744073709551616 * 18446744073709551616 + lo (lo (mag v) * mag n) = mag v * mag n := by
   have e1 := EP.out
   have e2 := EX.out
   have e3 := EY.out
   omega
  refine (H3.out _ _ _ _ (by omega) (by omega) yl0 yl1).mono ?_
  rw [e0, hS.out]
  rintro e w5 ⟨rfl, x2⟩
  have b3 := b2.2.ext x2
  have q0 := b3.c0
  have q1 := b3.c1
  have q2 := b3.f0
  have q3 := b3.f1
  have z1 := Ext.size x1
  have z2 := Ext.size x2
  simp only [World.size_alloc] at z1
  go_wp2_with fail
  refine bodyPost_ret (v := .tuple #[.agg #[.int .i64 (thi (v * n)), .int .u64 (tlo (v * n))], .int .i64 (ter (v * n))]) (by simp [results, Tryz.results43, go_sem, q0, q1]) rfl ⟨rfl, yX⟩

end Go.Proofs.YthoedmikfpbfnaaGreat

namespace Go.Proofs.YthoedmikfpbfnaaGreat
open Go Go.RowKit

theorem tab_size : (Lib.len8tab.size : Int) = 256 := by
 have : Lib.len8tab.size = 256 := by decide +kernel
 omega
theorem wadd_k (k a b : Nat) (hk : k ≤ 56) (ha : a ≤ 8) (hb : b = k + a) : wrap64 ((k : Int) + wrap64 (a : Int)) = (b : Int) := by unfold wrap64; omega
theorem wwrap_k (a : Nat) (ha : a ≤ 8) : wrap64 (wrap64 (a : Int)) = (a : Int) := by unfold wrap64; omega
theorem wone_k (a : Nat) (ha : a ≤ 8) : wrap64 (a : Int) = (a : Int) := by unfold wrap64; omega
theorem tab_get (y : Int) (h : y.toNat < Lib.len8tab.size) : ((Lib.len8tab[y.toNat]'h).toNat : Int) = Lib.len8 y := by
 unfold Lib.len8
 rw [getElem?_pos Lib.len8tab y.toNat h]
 rfl

set_option maxRecDepth 100000 in
set_option maxHeartbeats 8000000 in
theorem len64 (x : Int) (w : World) (h0 : 0 ≤ x) (h1 : x ≤ 18446744073709551615) :
    Calls Tryz.prog 167 #[.int .u64 x] w fun e w' => e = .returned (.int .i64 (Lib.bitLen x.toNat)) ∧ w' = w := by
  have hs := tab_size
  go_enter Tryz.func167, Tryz.ntmps167
  go_wp2
  all_goals (go_ret; refine ⟨congrArg Ending.returned (congrArg (Value.int IntKind.i64) ?_), rfl⟩)
  all_goals first
    | (rw [tab_get (x / 4294967296 / 65536 / 256) _, Lib.len8_of (x / 4294967296 / 65536 / 256) (by omega) (by omega)]
       have e : (x / 4294967296 / 65536 / 256).toNat = x.toNat / 72057594037927936 := by omega
       have l := Lib.bitLen_le8' (x / 4294967296 / 65536 / 256) (by omega) (by omega)
       have s := Lib.bitLen_shift56 x.toNat (by omega) (by omega)
       rw [e] at l ⊢
       exact wadd_k 56 _ _ (by decide) l s)
    | (rw [tab_get (x / 4294967296 / 65536) _, Lib.len8_of (x / 4294967296 / 65536) (by omega) (by omega)]
       have e : (x / 4294967296 / 65536).toNat = x.toNat / 281474976710656 := by omega
       have l := Lib.bitLen_le8' (x / 4294967296 / 65536) (by omega) (by omega)
       have s := Lib.bitLen_shift48 x.toNat (by omega) (by omega)
       rw [e] at l ⊢
       exact wadd_k 48 _ _ (by decide) l s)
    | (rw [tab_get (x / 4294967296 / 256) _, Lib.len8_of (x / 4294967296 / 256) (by omega) (by omega)]
       have e : (x / 4294967296 / 256).toNat = x.toNat / 1099511627776 := by omega
       have l := Lib.bitLen_le8' (x / 4294967296 / 256) (by omega) (by omega)
       have s := Lib.bitLen_shift40 x.toNat (by omega) (by omega)
       rw [e] at l ⊢
       exact wadd_k 40 _ _ (by decide) l s)
    | (rw [tab_get (x / 4294967296) _, Lib.len8_of (x / 4294967296) (by omega) (by omega)]
       have e : (x / 4294967296).toNat = x.toNat / 4294967296 := by omega
       have l := Lib.bitLen_le8' (x / 4294967296) (by omega) (by omega)
       have s := Lib.bitLen_shift32 x.toNat (by omega) (by omega)
       rw [e] at l ⊢
       exact wadd_k 32 _ _ (by decide) l s)
    | (rw [tab_get (x / 65536 / 256) _, Lib.len8_of (x / 65536 / 256) (by omega) (by omega)]
       have e : (x / 65536 / 256).toNat = x.toNat / 16777216 := by omega
       have l := Lib.bitLen_le8' (x / 65536 / 256) (by omega) (by omega)
       have s := Lib.bitLen_shift24 x.toNat (by omega) (by omega)
       rw [e] at l ⊢
       exact wadd_k 24 _ _ (by decide) l s)
    | (rw [tab_get (x / 65536) _, Lib.len8_of (x / 65536) (by omega) (by omega)]
       have e : (x / 65536).toNat = x.toNat / 65536 := by omega
       have l := Lib.bitLen_le8' (x / 65536) (by omega) (by omega)
       have s := Lib.bitLen_shift16 x.toNat (by omega) (by omega)
       rw [e] at l ⊢
       exact wadd_k 16 _ _ (by decide) l s)
    | (rw [tab_get (x / 256) _, Lib.len8_of (x / 256) (by omega) (by omega)]
       have e : (x / 256).toNat = x.toNat / 256 := by omega
       have l := Lib.bitLen_le8' (x / 256) (by omega) (by omega)
       have s := Lib.bitLen_shift8 x.toNat (by omega) (by omega)
       rw [e] at l ⊢
       exact wadd_k 8 _ _ (by decide) l s)
    | (rw [tab_get x _, Lib.len8_of x (by omega) (by omega)]
       have l := Lib.bitLen_le8' x (by omega) (by omega)
       first | exact wwrap_k _ l | exact wadd_k 0 _ _ (by decide) l (by omega) | exact wone_k _ l)

theorem aux_bd : ∀ (f x : Nat), x < 2 ^ f → x < 2 ^ Lib.bitLenAux f x ∧ (x ≠ 0 → 2 ^ Lib.bitLenAux f x ≤ 2 * x) ∧ Lib.bitLenAux f x ≤ f
 | 0, x, h => by simp [Lib.bitLenAux] at *; omega
 | f + 1, x, h => by
  simp only [Lib.bitLenAux]
  by_cases h0 : x = 0
  ·simp [h0]
  ·rw [if_neg h0]
   obtain ⟨a, b, c⟩ := aux_bd f (x / 2) (by rw [Nat.pow_succ] at h; omega)
   rw [Nat.add_comm, Nat.pow_succ]
   refine ⟨by omega, fun _ => ?_, by omega⟩
   by_cases h1 : x / 2 = 0
   ·rw [h1]; cases f <;> simp [Lib.bitLenAux] <;> omega
   ·have := b h1; omega

theorem norm (y : Int) (h0 : 0 < y) (h1 : y < 18446744073709551616) : ∃ s : Nat, s ≤ 63 ∧ 64 - (Lib.bitLen y.toNat : Int) = s ∧ 9223372036854775808 ≤ y * 2 ^ s ∧ y * 2 ^ s < 18446744073709551616 := by
 obtain ⟨Y, rfl⟩ := Int.eq_ofNat_of_zero_le (by omega : 0 ≤ y)
 rw [Int.toNat_natCast]
 obtain ⟨a, b, c⟩ := aux_bd 64 Y (by omega)
 change Y < 2 ^ Lib.bitLen Y at a
 change _ → 2 ^ Lib.bitLen Y ≤ 2 * Y at b
 change Lib.bitLen Y ≤ 64 at c
 have b := b (by omega)
 generalize Lib.bitLen Y = k at *
 have hk : 1 ≤ k := by
  rcases k with _ | k
  ·simp at a; omega
  ·omega
 have e : 2 ^ k * 2 ^ (64 - k) = 18446744073709551616 := by rw [← Nat.pow_add, show k + (64 - k) = 64 by omega]
 have e1 : Y * 2 ^ (64 - k) < 2 ^ k * 2 ^ (64 - k) := Nat.mul_lt_mul_of_pos_right a (Nat.two_pow_pos _)
 have e2 : 2 ^ k * 2 ^ (64 - k) ≤ 2 * Y * 2 ^ (64 - k) := Nat.mul_le_mul_right _ b
 rw [Nat.mul_assoc] at e2
 refine ⟨64 - k, by omega, by omega, ?_, ?_⟩
 ·have : ((Y * 2 ^ (64 - k) : Nat) : Int) = (Y : Int) * 2 ^ (64 - k) := by push_cast; rfl
  omega
 ·have : ((Y * 2 ^ (64 - k) : Nat) : Int) = (Y : Int) * 2 ^ (64 - k) := by push_cast; rfl
  omega

set_option maxRecDepth 100000 in
set_option maxHeartbeats 1600000 in
theorem lz64 (y : Int) (w : World) (h0 : 0 < y) (h1 : y < 18446744073709551616) :
  Calls Tryz.prog 163 #[.int .u64 y] w fun e w' => ∃ s : Nat, e = .returned (.int .i64 s) ∧ s ≤ 63 ∧ 9223372036854775808 ≤ y * 2 ^ s ∧ y * 2 ^ s < 18446744073709551616 ∧ w' = w := by
 obtain ⟨s, s1, s2, s3, s4⟩ := norm y h0 h1
 have H := Lib.hid s2
 have H1 := Lib.hid len64
 have c1 : (Lib.bitLen y.toNat : Int) ≤ 64 := by omega
 have c2 : 0 ≤ (Lib.bitLen y.toNat : Int) := by omega
 clear s2
 go_enter Tryz.func163, Tryz.ntmps163
 go_wp2_with fail
 refine (H1.out _ _ (by omega) (by omega)).mono ?_
 rintro e w1 ⟨rfl, rfl⟩
 go_wp2_with fail
 refine bodyPost_ret (v := .int .i64 (64 - (Lib.bitLen y.toNat : Int))) (by simp [results, Tryz.results163, go_sem]) rfl ⟨s, by rw [H.out], s1, s3, s4, rfl⟩

end Go.Proofs.YthoedmikfpbfnaaGreat

namespace Go.Proofs.YthoedmikfpbfnaaGreat
open Go Go.RowKit

def Half (u d y1 y0 q r : Int) : Prop := 0 ≤ q ∧ 0 ≤ r ∧ u = q * y1 + r ∧ (u * 4294967296 + d) / (y1 * 4294967296 + y0) ≤ q ∧ q ≤ 4294967297
def Nrm (u d y1 y0 : Int) : Prop := 2147483648 ≤ y1 ∧ y1 < 4294967296 ∧ 0 ≤ y0 ∧ y0 < 4294967296 ∧ 0 ≤ u ∧ u < y1 * 4294967296 + y0 ∧ 0 ≤ d ∧ d < 4294967296

theorem le_q {u d y1 y0 q : Int} (h : Nrm u d y1 y0) : q ≤ (u * 4294967296 + d) / (y1 * 4294967296 + y0) ↔ q * (y1 * 4294967296 + y0) ≤ u * 4294967296 + d := by
 obtain ⟨a, b, c, d', _⟩ := h
 exact Int.le_ediv_iff_mul_le (by omega)
theorem q_lt {u d y1 y0 : Int} (h : Nrm u d y1 y0) : (u * 4294967296 + d) / (y1 * 4294967296 + y0) < 4294967296 := by
 obtain ⟨a, b, c, d', e, f, g, i⟩ := h
 apply Int.ediv_lt_of_lt_mul (by omega)
 omega
theorem q_nonneg {u d y1 y0 : Int} (h : Nrm u d y1 y0) : 0 ≤ (u * 4294967296 + d) / (y1 * 4294967296 + y0) := by
 obtain ⟨a, b, c, d', e, f, g, i⟩ := h
 exact Int.ediv_nonneg (by omega) (by omega)

theorem half_init {u d y1 y0 : Int} (h : Nrm u d y1 y0) : Half u d y1 y0 (u / y1) (u - u / y1 * y1) ∧ u - u / y1 * y1 < y1 := by
 have hq := q_nonneg h
 have hle := (le_q (q := (u * 4294967296 + d) / (y1 * 4294967296 + y0)) h).1 (Int.le_refl _)
 obtain ⟨a, b, c, d', e, f, g, i⟩ := h
 have h1 := Int.emod_add_mul_ediv u y1
 have h2 := Int.emod_nonneg u (by omega : y1 ≠ 0)
 have h3 := Int.emod_lt_of_pos u (by omega : 0 < y1)
 have h4 : 0 ≤ u / y1 := Int.ediv_nonneg e (by omega)
 have h5 : u / y1 * y1 = y1 * (u / y1) := Int.mul_comm _ _
 unfold Half
 generalize (u * 4294967296 + d) / (y1 * 4294967296 + y0) = Q at *
 refine ⟨⟨h4, by omega, by omega, ?_, ?_⟩, by omega⟩
 ·apply (Int.le_ediv_iff_mul_le (by omega)).2
  have : 0 ≤ Q * y0 := Int.mul_nonneg hq c
  have e1 : Q * (y1 * 4294967296 + y0) = Q * y1 * 4294967296 + Q * y0 := by grind
  omega
 ·have e1 : u / y1 * y1 < (4294967296 + 2) * y1 := by omega
  have := Int.lt_of_mul_lt_mul_right e1 (by omega)
  omega

theorem half_step {u d y1 y0 q r : Int} (h : Nrm u d y1 y0) (H : Half u d y1 y0 q r) (ht : 4294967296 ≤ q ∨ 4294967296 * r + d < q * y0) : Half u d y1 y0 (q - 1) (r + y1) ∧ q - 1 ≤ 4294967296 ∧ 1 ≤ q := by
 have hq := q_nonneg h
 have hl := q_lt h
 have hle := (le_q (q := q) h).1
 obtain ⟨a, b, c, d', e, f, g, i⟩ := h
 obtain ⟨p0, p1, p2, p3, p4⟩ := H
 have key : (u * 4294967296 + d) / (y1 * 4294967296 + y0) < q := by
  rcases ht with ht | ht
  ·omega
  ·refine Int.not_le.1 fun hn => ?_
   have := hle hn
   have e1 : q * (y1 * 4294967296 + y0) = q * y1 * 4294967296 + q * y0 := by grind
   omega
 have e2 : (q - 1) * y1 = q * y1 - y1 := by grind
 refine ⟨⟨by omega, by omega, by omega, by omega, by omega⟩, by omega, by omega⟩

theorem half_end {u d y1 y0 q r : Int} (h : Nrm u d y1 y0) (H : Half u d y1 y0 q r) (ht : q * y0 ≤ 4294967296 * r + d) : q = (u * 4294967296 + d) / (y1 * 4294967296 + y0) := by
 have hle := (le_q (q := q) h).2
 obtain ⟨p0, p1, p2, p3, p4⟩ := H
 have e1 : q * (y1 * 4294967296 + y0) = q * y1 * 4294967296 + q * y0 := by grind
 have := hle (by omega)
 omega
theorem half_brk {u d y1 y0 q r : Int} (h : Nrm u d y1 y0) (H : Half u d y1 y0 q r) (hq : q ≤ 4294967296) (hr : 4294967296 ≤ r) : q = (u * 4294967296 + d) / (y1 * 4294967296 + y0) := by
 refine half_end h H ?_
 obtain ⟨a, b, c, d', e, f, g, i⟩ := h
 obtain ⟨p0, p1, p2, p3, p4⟩ := H
 have : q * y0 ≤ 4294967296 * 4294967296 := Int.mul_le_mul hq (by omega) c (by omega)
 omega
theorem half_room {u d y1 y0 q r : Int} (h : Nrm u d y1 y0) (H : Half u d y1 y0 q r) : 0 ≤ q * y0 ∧ q * y0 < 18446744073709551616 := by
 obtain ⟨a, b, c, d', e, f, g, i⟩ := h
 obtain ⟨p0, p1, p2, p3, p4⟩ := H
 refine ⟨Int.mul_nonneg p0 c, ?_⟩
 have : q * y0 ≤ 4294967297 * 4294967295 := Int.mul_le_mul p4 (by omega) c (by omega)
 omega

theorem halves {u un1 un0 Y q1 q0 : Int} (hY : 0 < Y) (_h1 : q1 = (u * 4294967296 + un1) / Y) (h0 : q0 = ((u * 4294967296 + un1 - q1 * Y) * 4294967296 + un0) / Y) :
  (u * 18446744073709551616 + un1 * 4294967296 + un0) / Y = q1 * 4294967296 + q0 ∧
  (u * 18446744073709551616 + un1 * 4294967296 + un0) % Y = (u * 4294967296 + un1 - q1 * Y) * 4294967296 + un0 - q0 * Y := by
 have a1 := Int.emod_add_mul_ediv ((u * 4294967296 + un1 - q1 * Y) * 4294967296 + un0) Y
 have a2 := Int.emod_nonneg ((u * 4294967296 + un1 - q1 * Y) * 4294967296 + un0) (by omega : Y ≠ 0)
 have a3 := Int.emod_lt_of_pos ((u * 4294967296 + un1 - q1 * Y) * 4294967296 + un0) hY
 rw [← h0] at a1
 generalize ((u * 4294967296 + un1 - q1 * Y) * 4294967296 + un0) % Y = R at *
 have e : u * 18446744073709551616 + un1 * 4294967296 + un0 = R + Y * (q1 * 4294967296 + q0) := by grind
 have e2 : (u * 4294967296 + un1 - q1 * Y) * 4294967296 + un0 - q0 * Y = R := by grind
 rw [e, e2, Int.add_mul_ediv_left _ _ (by omega), Int.add_mul_emod_self_left, Int.ediv_eq_zero_of_lt a2 a3, Int.emod_eq_of_lt a2 a3]
 exact ⟨by omega, rfl⟩

end Go.Proofs.YthoedmikfpbfnaaGreat

namespace Go.Proofs.YthoedmikfpbfnaaGreat
open Go Go.RowKit

theorem u64_id {x : Int} (h0 : 0 ≤ x) (h1 : x < 18446744073709551616) : IntKind.u64.wrap x = x := by rw [IntKind.wrap_u64]; omega
theorem mask32 (x : Int) (h0 : 0 ≤ x) (h1 : x < 18446744073709551616) : bits .and .u64 x 4294967295 = x % 4294967296 := by
 obtain ⟨X, rfl⟩ := Int.eq_ofNat_of_zero_le h0
 have h := bits_and_u64_nat X 4294967295 (by omega) (by omega)
 have e : X &&& 4294967295 = X % 4294967296 := Nat.and_two_pow_sub_one_eq_mod X 32
 rw [e] at h
 exact h
theorem or_add (h b : Int) (s : Nat) (h0 : 0 ≤ h) (b0 : 0 ≤ b) (hh : h * 2 ^ s < 18446744073709551616) (hb : b < 2 ^ s) (h2 : h * 2 ^ s + b < 18446744073709551616) : bits .or .u64 (h * 2 ^ s) b = h * 2 ^ s + b := by
 obtain ⟨H, rfl⟩ := Int.eq_ofNat_of_zero_le h0
 obtain ⟨B, rfl⟩ := Int.eq_ofNat_of_zero_le b0
 have e2 : ((2 ^ s : Nat) : Int) = 2 ^ s := by push_cast; rfl
 rw [← e2] at hh hb h2 ⊢
 have e : (H : Int) * ((2 ^ s : Nat) : Int) = ((H * 2 ^ s : Nat) : Int) := (Int.natCast_mul _ _).symm
 rw [e] at hh h2 ⊢
 rw [bits_or_u64_nat _ _ (by omega) (by omega)]
 have := Nat.shiftLeft_add_eq_or_of_lt (b := B) (i := s) (by omega) H
 rw [Nat.shiftLeft_eq] at this
 rw [← this]
 exact Int.natCast_add _ _

theorem pow_s (s : Nat) (hs : s ≤ 63) : (2 : Int) ^ (64 - s) * 2 ^ s = 18446744073709551616 ∧ (0 : Int) < 2 ^ s ∧ (0 : Int) < 2 ^ (64 - s) := by
 refine ⟨?_, ?_, ?_⟩
 ·rw [← Int.pow_add, show 64 - s + s = 64 by omega]; rfl
 ·exact Int.pow_pos (by omega)
 ·exact Int.pow_pos (by omega)

theorem div_pre (h l y : Int) (s : Nat) (h0 : 0 < h) (hy : h < y) (l0 : 0 ≤ l) (l1 : l < 18446744073709551616) (s1 : s ≤ 63) (s2 : 9223372036854775808 ≤ y * 2 ^ s) (s3 : y * 2 ^ s < 18446744073709551616) :
  ∃ Y Y1 Y0 U T T1 T0 : Int, y * 2 ^ s = Y ∧ Y / 4294967296 = Y1 ∧ bits .and .u64 Y 4294967295 = Y0 ∧ bits .or .u64 (IntKind.u64.wrap (h * 2 ^ s)) (l / 2 ^ (64 - s)) = U ∧
   IntKind.u64.wrap (l * 2 ^ s) = T ∧ T / 4294967296 = T1 ∧ bits .and .u64 T 4294967295 = T0 ∧ Y = Y1 * 4294967296 + Y0 ∧ T = T1 * 4294967296 + T0 ∧ 0 ≤ T0 ∧ T0 < 4294967296 ∧
   Nrm U T1 Y1 Y0 ∧ (h * 18446744073709551616 + l) * 2 ^ s = U * 18446744073709551616 + T1 * 4294967296 + T0 := by
 obtain ⟨p, p0, p1⟩ := pow_s s s1
 have a0 : 0 < h * 2 ^ s := Int.mul_pos h0 p0
 have a1 : (h + 1) * 2 ^ s ≤ y * 2 ^ s := Int.mul_le_mul_of_nonneg_right (by omega) (by omega)
 have a2 : (h + 1) * 2 ^ s = h * 2 ^ s + 2 ^ s := by grind
 have b0 : 0 ≤ l / 2 ^ (64 - s) := Int.ediv_nonneg l0 (by omega)
 have b1 : l / 2 ^ (64 - s) < 2 ^ s := by
  apply Int.ediv_lt_of_lt_mul p1
  rw [Int.mul_comm, p]; exact l1
 have c1 : l * 2 ^ s / 18446744073709551616 = l / 2 ^ (64 - s) := by
  rw [← p, Int.mul_ediv_mul_of_pos_left _ _ p0]
 have hw : IntKind.u64.wrap (l * 2 ^ s) = l * 2 ^ s % 18446744073709551616 := IntKind.wrap_u64 _
 have e1 : bits .or .u64 (IntKind.u64.wrap (h * 2 ^ s)) (l / 2 ^ (64 - s)) = h * 2 ^ s + l / 2 ^ (64 - s) := by
  rw [u64_id (by omega) (by omega), or_add h _ s (by omega) b0 (by omega) b1 (by omega)]
 refine ⟨y * 2 ^ s, y * 2 ^ s / 4294967296, y * 2 ^ s % 4294967296, h * 2 ^ s + l / 2 ^ (64 - s), l * 2 ^ s % 18446744073709551616, l * 2 ^ s % 18446744073709551616 / 4294967296, l * 2 ^ s % 18446744073709551616 % 4294967296, rfl, rfl, mask32 _ (by omega) (by omega), e1, hw, rfl, mask32 _ (by omega) (by omega), by omega, by omega, by omega, by omega, ⟨by omega, by omega, by omega, by omega, by omega, by omega, by omega, by omega⟩, ?_⟩
 have e2 : (h * 18446744073709551616 + l) * 2 ^ s = h * 2 ^ s * 18446744073709551616 + l * 2 ^ s := by grind
 rw [e2]
 omega

theorem div_mid {U T1 Y1 Y0 Y q : Int} (h : Nrm U T1 Y1 Y0) (hY : Y = Y1 * 4294967296 + Y0) (hq : q = (U * 4294967296 + T1) / (Y1 * 4294967296 + Y0)) :
  IntKind.u64.wrap (IntKind.u64.wrap (IntKind.u64.wrap (U * 4294967296) + T1) - IntKind.u64.wrap (q * Y)) = U * 4294967296 + T1 - q * Y ∧
  ∀ {d : Int}, 0 ≤ d → d < 4294967296 → Nrm (U * 4294967296 + T1 - q * Y) d Y1 Y0 := by
 obtain ⟨a, b, c, d', e, f, g, i⟩ := h
 rw [← hY] at hq f
 have a1 := Int.emod_add_mul_ediv (U * 4294967296 + T1) Y
 have a2 := Int.emod_nonneg (U * 4294967296 + T1) (by omega : Y ≠ 0)
 have a3 := Int.emod_lt_of_pos (U * 4294967296 + T1) (by omega : 0 < Y)
 rw [← hq, Int.mul_comm Y q] at a1
 have hv : 0 ≤ U * 4294967296 + T1 - q * Y ∧ U * 4294967296 + T1 - q * Y < Y := by omega
 refine ⟨?_, fun h0 h1 => ⟨a, b, c, d', hv.1, by rw [← hY]; exact hv.2, h0, h1⟩⟩
 simp only [IntKind.wrap_u64]
 omega

theorem div_first {U d Y1 Y0 : Int} (h : Nrm U d Y1 Y0) : U.tdiv Y1 = U / Y1 ∧ IntKind.u64.wrap (U / Y1) = U / Y1 ∧ IntKind.u64.wrap (U / Y1 * Y1) = U / Y1 * Y1 ∧ IntKind.u64.wrap (U - U / Y1 * Y1) = U - U / Y1 * Y1 := by
 obtain ⟨⟨i0, i1, i2, i3, i4⟩, hIr⟩ := half_init h
 obtain ⟨n0, n1, n2, n3, n4, n5, n6, n7⟩ := h
 exact ⟨Int.tdiv_eq_ediv_of_nonneg n4, u64_id i0 (by omega), u64_id (Int.mul_nonneg i0 (by omega)) (by omega), u64_id (by omega) (by omega)⟩

theorem div_end {h l y Y Y1 Y0 U T1 T0 Q V q : Int} {s : Nat} (s1 : s ≤ 63) (hs : y * 2 ^ s = Y) (hV : (h * 18446744073709551616 + l) * 2 ^ s = U * 18446744073709551616 + T1 * 4294967296 + T0) (hY : Y = Y1 * 4294967296 + Y0)
  (hN : Nrm U T1 Y1 Y0) (hQ : Q = (U * 4294967296 + T1) / (Y1 * 4294967296 + Y0)) (hv : V = U * 4294967296 + T1 - Q * Y) (hM : Nrm V T0 Y1 Y0) (hq : q = (V * 4294967296 + T0) / (Y1 * 4294967296 + Y0)) :
  IntKind.u64.wrap (IntKind.u64.wrap (Q * 4294967296) + q) = (h * 18446744073709551616 + l) / y ∧
  IntKind.u64.wrap (IntKind.u64.wrap (IntKind.u64.wrap (V * 4294967296) + T0) - IntKind.u64.wrap (q * Y)) / 2 ^ s = (h * 18446744073709551616 + l) % y := by
 obtain ⟨p, p0, p1⟩ := pow_s s s1
 have a0 := q_nonneg hN
 have a1 := q_lt hN
 have b0 := q_nonneg hM
 have b1 := q_lt hM
 rw [← hQ] at a0 a1
 rw [← hq] at b0 b1
 have hk := (div_mid hM hY hq).1
 have hY0 : 0 < Y := by obtain ⟨n0, n1, n2, n3, n4, n5, n6, n7⟩ := hN; omega
 rw [← hY] at hQ hq
 rw [hv] at hq
 obtain ⟨d1, d2⟩ := halves (un0 := T0) hY0 hQ hq
 rw [← hV, ← hs] at d1 d2
 rw [Int.mul_ediv_mul_of_pos_left _ _ p0] at d1
 have d3 : ∀ N : Int, N * 2 ^ s % (y * 2 ^ s) = N % y * 2 ^ s := by
  intro N
  rw [Int.mul_comm N, Int.mul_comm y, Int.mul_emod_mul_of_pos _ _ p0, Int.mul_comm]
 rw [d3] at d2
 refine ⟨?_, ?_⟩
 ·rw [d1, u64_id (x := Q * 4294967296) (by omega) (by omega), u64_id (by omega) (by omega)]
 ·rw [hk, hv, ← hs, ← d2]
  exact Int.mul_ediv_cancel _ (by omega)

end Go.Proofs.YthoedmikfpbfnaaGreat

namespace Go.Proofs.YthoedmikfpbfnaaGreat
open Go Go.RowKit

set_option maxRecDepth 100000 in
set_option maxHeartbeats 1600000 in
theorem div64_low (l y : Int) (w : World) (y0 : 0 < y) (l0 : 0 ≤ l) (l1 : l < 18446744073709551616) :
  Calls Tryz.prog 136 #[.int .u64 0, .int .u64 l, .int .u64 y] w fun e w' => e = .returned (.tuple #[.int .u64 (l / y), .int .u64 (l % y)]) ∧ Ext w w' := by
 have e0 : ¬ y = 0 := by omega
 have g0 : (y == 0) = false := by simpa using e0
 have a0 : 0 ≤ l / y := Int.ediv_nonneg l0 (by omega)
 have a1 : l / y < 18446744073709551616 := Int.lt_of_le_of_lt (Int.ediv_le_self y l0) l1
 go_enter Tryz.func136, Tryz.ntmps136
 go_wp2_with fail
 go_quiet (fail)
 go_wp2_with fail
 refine bodyPost_ret (v := .tuple #[.int .u64 (l / y), .int .u64 (l % y)]) (by simp [results, Tryz.results136, go_sem]) rfl ⟨rfl, yX⟩

set_option maxRecDepth 100000 in
set_option maxHeartbeats 1600000 in
theorem div64_high (h l y : Int) (w : World) (h0 : 0 < h) (hy : h < y) (y1 : y < 18446744073709551616) (l0 : 0 ≤ l) (l1 : l < 18446744073709551616) :
  Calls Tryz.prog 136 #[.int .u64 h, .int .u64 l, .int .u64 y] w fun e w' => e = .returned (.tuple #[.int .u64 ((h * 18446744073709551616 + l) / y), .int .u64 ((h * 18446744073709551616 + l) % y)]) ∧ Ext w w' := by
 have H1 := Lib.hid lz64
 go_enter Tryz.func136, Tryz.ntmps136
 go_wp2_with fail
 refine (H1.out _ _ (by omega) (by omega)).mono ?_
 rintro e w1 ⟨s, rfl, s1, s2, s3, rfl⟩
 clear H1
 go_wp2_with fail
 obtain ⟨Y, Y1, Y0, U, T, T1, T0, e1, e2, e3, e4, e5, e6, e7, hY, hT, t0, t1, hN, hV⟩ := div_pre h l y s h0 hy l0 l1 s1 s2 s3
 simp only [e1, e2, e3, e4, e5, e6, e7]
 have ⟨n0, n1, n2, n3, n4, n5, n6, n7⟩ := hN
 obtain ⟨hI, hIr⟩ := half_init hN
 have ⟨i0, i1, i2, i3, i4⟩ := hI
 have f1 : U.tdiv Y1 = U / Y1 := Int.tdiv_eq_ediv_of_nonneg n4
 have f2 : IntKind.u64.wrap (U / Y1) = U / Y1 := u64_id i0 (by omega)
 have f3 : IntKind.u64.wrap (U / Y1 * Y1) = U / Y1 * Y1 := u64_id (Int.mul_nonneg i0 (by omega)) (by omega)
 have f4 : IntKind.u64.wrap (U - U / Y1 * Y1) = U - U / Y1 * Y1 := u64_id (by omega) (by omega)
 simp only [f1, f2, f3, f4]
 have HV := Lib.hid hV
 have eY := Lib.hid hY
 have eYs := Lib.hid e1
 have yb0 : 0 < Y := by omega
 have yb1 : Y < 18446744073709551616 := by omega
 have tb0 : 0 ≤ T := by omega
 have tb1 : T < 18446744073709551616 := by omega
 clear f1 f2 f3 f4 e1 e2 e3 e4 e5 e6 e7 i0 i1 i2 i3 i4 hV hY hT s2 s3
 go_loop [15, 16] (fun s15 s16 => ∃ q r : Int, s15 = .int .u64 q ∧ s16 = .int .u64 r ∧ Half U T1 Y1 Y0 q r ∧ r < 4294967296) (fun s15 _ => (intOf s15).toNat)
 case atStart => exact ⟨_, _, rfl, rfl, hI, by omega⟩
 case round =>
  clear hI hIr
  obtain ⟨q, r, rfl, rfl, H, hr⟩ := hrel
  have ⟨g1, g2⟩ := half_room hN H
  have ⟨H0, H1', H2, H3, H4⟩ := H
  have HH := Lib.hid H
  clear H H2 H3
  by_cases ht : 4294967296 ≤ q
  ·have HT := Lib.hid (Or.inl ht : 4294967296 ≤ q ∨ 4294967296 * r + T1 < q * Y0)
   by_cases hb : 4294967296 ≤ r + Y1
   ·have hq0 := half_brk hN (half_step hN HH.out HT.out).1 (half_step hN HH.out HT.out).2.1 hb
    obtain ⟨k1, hVb⟩ := div_mid hN eY.out hq0
    obtain ⟨Q, hQ⟩ : ∃ Q, Q = q - 1 := ⟨_, rfl⟩
    have hQ1 := Lib.hid (hQ.trans hq0)
    rw [← hQ] at k1 hVb
    clear hq0
    go_wp2_with fail
    simp only [← hQ]
    simp only [k1]
    obtain ⟨V, hV⟩ : ∃ V, V = U * 4294967296 + T1 - Q * Y := ⟨_, rfl⟩
    rw [← hV] at hVb
    simp only [← hV]
    have hM : Nrm V T0 Y1 Y0 := hVb t0 t1
    obtain ⟨f1, f2, f3, f4⟩ := div_first hM
    simp only [f1, f2, f3, f4]
    have hV' := Lib.hid hV
    clear hV
    obtain ⟨hI, hIr⟩ := half_init hM
    clear f1 f2 f3 f4 k1 hVb hQ
    go_loop [18, 16] (fun s18 s16 => ∃ q r : Int, s18 = .int .u64 q ∧ s16 = .int .u64 r ∧ Half V T0 Y1 Y0 q r ∧ r < 4294967296) (fun s18 _ => (intOf s18).toNat)
    case atStart => exact ⟨_, _, rfl, rfl, hI, by omega⟩
    case round =>
     clear hI hIr
     obtain ⟨q, r, rfl, rfl, H, hr⟩ := hrel
     have ⟨g1, g2⟩ := half_room hM H
     have ⟨H0, H1', H2, H3, H4⟩ := H
     have HH := Lib.hid H
     clear H H2 H3
     by_cases ht : 4294967296 ≤ q
     ·have HT := Lib.hid (Or.inl ht : 4294967296 ≤ q ∨ 4294967296 * r + T0 < q * Y0)
      by_cases hb : 4294967296 ≤ r + Y1
      ·have hq0 := half_brk hM (half_step hM HH.out HT.out).1 (half_step hM HH.out HT.out).2.1 hb
       have HQ0 := Lib.hid hq0
       clear hq0
       go_wp2_with fail
       obtain ⟨z1, z2⟩ := div_end (h := h) (l := l) (y := y) s1 eYs.out HV.out eY.out hN hQ1.out hV'.out hM HQ0.out
       simp only [z1, z2]
       refine bodyPost_ret (v := .tuple #[.int .u64 ((h * 18446744073709551616 + l) / y), .int .u64 ((h * 18446744073709551616 + l) % y)]) (by simp [results, Tryz.results136, go_sem]) rfl ⟨rfl, yX⟩
      ·go_wp2_with fail
       go_round
       case rel => exact ⟨_, _, rfl, rfl, (half_step hM HH.out HT.out).1, by omega⟩
       case measure => simp [intOf]; omega
     ·by_cases ht2 : 4294967296 * r + T0 < q * Y0
      ·have HT := Lib.hid (Or.inr ht2 : 4294967296 ≤ q ∨ 4294967296 * r + T0 < q * Y0)
       have hq1 := (half_step hM HH.out HT.out).2.2
       by_cases hb : 4294967296 ≤ r + Y1
       ·have hq0 := half_brk hM (half_step hM HH.out HT.out).1 (half_step hM HH.out HT.out).2.1 hb
        have HQ0 := Lib.hid hq0
        clear hq0
        go_wp2_with fail
        obtain ⟨z1, z2⟩ := div_end (h := h) (l := l) (y := y) s1 eYs.out HV.out eY.out hN hQ1.out hV'.out hM HQ0.out
        simp only [z1, z2]
        refine bodyPost_ret (v := .tuple #[.int .u64 ((h * 18446744073709551616 + l) / y), .int .u64 ((h * 18446744073709551616 + l) % y)]) (by simp [results, Tryz.results136, go_sem]) rfl ⟨rfl, yX⟩
       ·go_wp2_with fail
        go_round
        case rel => exact ⟨_, _, rfl, rfl, (half_step hM HH.out HT.out).1, by omega⟩
        case measure => simp [intOf]; omega
      ·have hq0 := half_end hM HH.out (by omega)
       have HQ0 := Lib.hid hq0
       clear hq0
       go_wp2_with fail
       obtain ⟨z1, z2⟩ := div_end (h := h) (l := l) (y := y) s1 eYs.out HV.out eY.out hN hQ1.out hV'.out hM HQ0.out
       simp only [z1, z2]
       refine bodyPost_ret (v := .tuple #[.int .u64 ((h * 18446744073709551616 + l) / y), .int .u64 ((h * 18446744073709551616 + l) % y)]) (by simp [results, Tryz.results136, go_sem]) rfl ⟨rfl, yX⟩
   ·go_wp2_with fail
    go_round
    case rel => exact ⟨_, _, rfl, rfl, (half_step hN HH.out HT.out).1, by omega⟩
    case measure => simp [intOf]; omega
  ·by_cases ht2 : 4294967296 * r + T1 < q * Y0
   ·have HT := Lib.hid (Or.inr ht2 : 4294967296 ≤ q ∨ 4294967296 * r + T1 < q * Y0)
    have hq1 := (half_step hN HH.out HT.out).2.2
    by_cases hb : 4294967296 ≤ r + Y1
    ·have hq0 := half_brk hN (half_step hN HH.out HT.out).1 (half_step hN HH.out HT.out).2.1 hb
     obtain ⟨k1, hVb⟩ := div_mid hN eY.out hq0
     obtain ⟨Q, hQ⟩ : ∃ Q, Q = q - 1 := ⟨_, rfl⟩
     have hQ1 := Lib.hid (hQ.trans hq0)
     rw [← hQ] at k1 hVb
     clear hq0
     go_wp2_with fail
     simp only [← hQ]
     simp only [k1]
     obtain ⟨V, hV⟩ : ∃ V, V = U * 4294967296 + T1 - Q * Y := ⟨_, rfl⟩
     rw [← hV] at hVb
     simp only [← hV]
     have hM : Nrm V T0 Y1 Y0 := hVb t0 t1
     obtain ⟨f1, f2, f3, f4⟩ := div_first hM
     simp only [f1, f2, f3, f4]
     have hV' := Lib.hid hV
     clear hV
     obtain ⟨hI, hIr⟩ := half_init hM
     clear f1 f2 f3 f4 k1 hVb hQ
     go_loop [18, 16] (fun s18 s16 => ∃ q r : Int, s18 = .int .u64 q ∧ s16 = .int .u64 r ∧ Half V T0 Y1 Y0 q r ∧ r < 4294967296) (fun s18 _ => (intOf s18).toNat)
     case atStart => exact ⟨_, _, rfl, rfl, hI, by omega⟩
     case round =>
      clear hI hIr
      obtain ⟨q, r, rfl, rfl, H, hr⟩ := hrel
      have ⟨g1, g2⟩ := half_room hM H
      have ⟨H0, H1', H2, H3, H4⟩ := H
      have HH := Lib.hid H
      clear H H2 H3
      by_cases ht : 4294967296 ≤ q
      ·have HT := Lib.hid (Or.inl ht : 4294967296 ≤ q ∨ 4294967296 * r + T0 < q * Y0)
       by_cases hb : 4294967296 ≤ r + Y1
       ·have hq0 := half_brk hM (half_step hM HH.out HT.out).1 (half_step hM HH.out HT.out).2.1 hb
        have HQ0 := Lib.hid hq0
        clear hq0
        go_wp2_with fail
        obtain ⟨z1, z2⟩ := div_end (h := h) (l := l) (y := y) s1 eYs.out HV.out eY.out hN hQ1.out hV'.out hM HQ0.out
        simp only [z1, z2]
        refine bodyPost_ret (v := .tuple #[.int .u64 ((h * 18446744073709551616 + l) / y), .int .u64 ((h * 18446744073709551616 + l) % y)]) (by simp [results, Tryz.results136, go_sem]) rfl ⟨rfl, yX⟩
       ·go_wp2_with fail
        go_round
        case rel => exact ⟨_, _, rfl, rfl, (half_step hM HH.out HT.out).1, by omega⟩
        case measure => simp [intOf]; omega
      ·by_cases ht2 : 4294967296 * r + T0 < q * Y0
       ·have HT := Lib.hid (Or.inr ht2 : 4294967296 ≤ q ∨ 4294967296 * r + T0 < q * Y0)
        have hq1 := (half_step hM HH.out HT.out).2.2
        by_cases hb : 4294967296 ≤ r + Y1
        ·have hq0 := half_brk hM (half_step hM HH.out HT.out).1 (half_step hM HH.out HT.out).2.1 hb
         have HQ0 := Lib.hid hq0
         clear hq0
         go_wp2_with fail
         obtain ⟨z1, z2⟩ := div_end (h := h) (l := l) (y := y) s1 eYs.out HV.out eY.out hN hQ1.out hV'.out hM HQ0.out
         simp only [z1, z2]
         refine bodyPost_ret (v := .tuple #[.int .u64 ((h * 18446744073709551616 + l) / y), .int .u64 ((h * 18446744073709551616 + l) % y)]) (by simp [results, Tryz.results136, go_sem]) rfl ⟨rfl, yX⟩
        ·go_wp2_with fail
         go_round
         case rel => exact ⟨_, _, rfl, rfl, (half_step hM HH.out HT.out).1, by omega⟩
         case measure => simp [intOf]; omega
       ·have hq0 := half_end hM HH.out (by omega)
        have HQ0 := Lib.hid hq0
        clear hq0
        go_wp2_with fail
        obtain ⟨z1, z2⟩ := div_end (h := h) (l := l) (y := y) s1 eYs.out HV.out eY.out hN hQ1.out hV'.out hM HQ0.out
        simp only [z1, z2]
        refine bodyPost_ret (v := .tuple #[.int .u64 ((h * 18446744073709551616 + l) / y), .int .u64 ((h * 18446744073709551616 + l) % y)]) (by simp [results, Tryz.results136, go_sem]) rfl ⟨rfl, yX⟩
    ·go_wp2_with fail
     go_round
     case rel => exact ⟨_, _, rfl, rfl, (half_step hN HH.out HT.out).1, by omega⟩
     case measure => simp [intOf]; omega
   ·have hq0 := half_end hN HH.out (by omega)
    obtain ⟨k1, hVb⟩ := div_mid hN eY.out hq0
    obtain ⟨Q, hQ⟩ : ∃ Q, Q = q := ⟨_, rfl⟩
    have hQ1 := Lib.hid (hQ.trans hq0)
    rw [← hQ] at k1 hVb
    clear hq0
    go_wp2_with fail
    simp only [← hQ]
    simp only [k1]
    obtain ⟨V, hV⟩ : ∃ V, V = U * 4294967296 + T1 - Q * Y := ⟨_, rfl⟩
    rw [← hV] at hVb
    simp only [← hV]
    have hM : Nrm V T0 Y1 Y0 := hVb t0 t1
    obtain ⟨f1, f2, f3, f4⟩ := div_first hM
    simp only [f1, f2, f3, f4]
    have hV' := Lib.hid hV
    clear hV
    obtain ⟨hI, hIr⟩ := half_init hM
    clear f1 f2 f3 f4 k1 hVb hQ
    go_loop [18, 16] (fun s18 s16 => ∃ q r : Int, s18 = .int .u64 q ∧ s16 = .int .u64 r ∧ Half V T0 Y1 Y0 q r ∧ r < 4294967296) (fun s18 _ => (intOf s18).toNat)
    case atStart => exact ⟨_, _, rfl, rfl, hI, by omega⟩
    case round =>
     clear hI hIr
     obtain ⟨q, r, rfl, rfl, H, hr⟩ := hrel
     have ⟨g1, g2⟩ := half_room hM H
     have ⟨H0, H1', H2, H3, H4⟩ := H
     have HH := Lib.hid H
     clear H H2 H3
     by_cases ht : 4294967296 ≤ q
     ·have HT := Lib.hid (Or.inl ht : 4294967296 ≤ q ∨ 4294967296 * r + T0 < q * Y0)
      by_cases hb : 4294967296 ≤ r + Y1
      ·have hq0 := half_brk hM (half_step hM HH.out HT.out).1 (half_step hM HH.out HT.out).2.1 hb
       have HQ0 := Lib.hid hq0
       clear hq0
       go_wp2_with fail
       obtain ⟨z1, z2⟩ := div_end (h := h) (l := l) (y := y) s1 eYs.out HV.out eY.out hN hQ1.out hV'.out hM HQ0.out
       simp only [z1, z2]
       refine bodyPost_ret (v := .tuple #[.int .u64 ((h * 18446744073709551616 + l) / y), .int .u64 ((h * 18446744073709551616 + l) % y)]) (by simp [results, Tryz.results136, go_sem]) rfl ⟨rfl, yX⟩
      ·go_wp2_with fail
       go_round
       case rel => exact ⟨_, _, rfl, rfl, (half_step hM HH.out HT.out).1, by omega⟩
       case measure => simp [intOf]; omega
     ·by_cases ht2 : 4294967296 * r + T0 < q * Y0
      ·have HT := Lib.hid (Or.inr ht2 : 4294967296 ≤ q ∨ 4294967296 * r + T0 < q * Y0)
       have hq1 := (half_step hM HH.out HT.out).2.2
       by_cases hb : 4294967296 ≤ r + Y1
       ·have hq0 := half_brk hM (half_step hM HH.out HT.out).1 (half_step hM HH.out HT.out).2.1 hb
        have HQ0 := Lib.hid hq0
        clear hq0
        go_wp2_with fail
        obtain ⟨z1, z2⟩ := div_end (h := h) (l := l) (y := y) s1 eYs.out HV.out eY.out hN hQ1.out hV'.out hM HQ0.out
        simp only [z1, z2]
        refine bodyPost_ret (v := .tuple #[.int .u64 ((h * 18446744073709551616 + l) / y), .int .u64 ((h * 18446744073709551616 + l) % y)]) (by simp [results, Tryz.results136, go_sem]) rfl ⟨rfl, yX⟩
       ·go_wp2_with fail
        go_round
        case rel => exact ⟨_, _, rfl, rfl, (half_step hM HH.out HT.out).1, by omega⟩
        case measure => simp [intOf]; omega
      ·have hq0 := half_end hM HH.out (by omega)
       have HQ0 := Lib.hid hq0
       clear hq0
       go_wp2_with fail
       obtain ⟨z1, z2⟩ := div_end (h := h) (l := l) (y := y) s1 eYs.out HV.out eY.out hN hQ1.out hV'.out hM HQ0.out
       simp only [z1, z2]
       refine bodyPost_ret (v := .tuple #[.int .u64 ((h * 18446744073709551616 + l) / y), .int .u64 ((h * 18446744073709551616 + l) % y)]) (by simp [results, Tryz.results136, go_sem]) rfl ⟨rfl, yX⟩

end Go.Proofs.YthoedmikfpbfnaaGreat

namespace Go.Proofs.YthoedmikfpbfnaaGreat
open Go Go.RowKit

def Arr (w : World) (k : Nat) (t : TypeId) (zs : List Int) : Prop := w.heap[k]? = some (.cells (zs.map (Value.int .u8)).toArray t (0, 0))
theorem Arr.kind {w : World} {k : Nat} {t : TypeId} {zs : List Int} (h : Arr w k t zs) : Kind w k t := ⟨_, _, h⟩
theorem Arr.ext {w w' : World} {k : Nat} {t : TypeId} {zs : List Int} (h : Arr w k t zs) (hb : Ext w w') : Arr w' k t zs := (Below.block hb k h.kind.lt).trans h
theorem Arr.cell {w : World} {k : Nat} {t : TypeId} {zs : List Int} (h : Arr w k t zs) (j : Nat) (hj : j < zs.length) : w.cell? ⟨k, j, none⟩ = some (.int .u8 (zs.getD j 0)) := by
 unfold Arr at h
 simp [World.cell?, h, List.getElem?_eq_getElem hj]
theorem Arr.frozen {w : World} {k : Nat} {t : TypeId} {zs : List Int} (h : Arr w k t zs) (j : Nat) : w.frozen? ⟨k, j, none⟩ = false := by
 unfold Arr at h
 simp [World.frozen?, h]
theorem Arr.set {w : World} {k : Nat} {t : TypeId} {zs : List Int} (h : Arr w k t zs) (j : Nat) (y : Int) : Arr (w.setCell ⟨k, j, none⟩ (.int .u8 y)) k t (zs.set j y) := by
 have h1 := Joins.block_setCell (i := j) h (.int .u8 y)
 unfold Arr
 rw [h1, List.map_set]
 simp

theorem div64 (h l y : Int) (w : World) (h0 : 0 ≤ h) (hy : h < y) (y1 : y < 18446744073709551616) (l0 : 0 ≤ l) (l1 : l < 18446744073709551616) :
  Calls Tryz.prog 136 #[.int .u64 h, .int .u64 l, .int .u64 y] w fun e w' => e = .returned (.tuple #[.int .u64 ((h * 18446744073709551616 + l) / y), .int .u64 ((h * 18446744073709551616 + l) % y)]) ∧ Ext w w' := by
 by_cases e : h = 0
 ·subst e
  have := div64_low l y w hy l0 l1
  rwa [show (0 : Int) * 18446744073709551616 + l = l by omega]
 ·exact div64_high h l y w (by omega) hy y1 l0 l1

theorem mag_abs (n : Int) : mag n = (n.natAbs : Int) := by unfold mag; split <;> omega

end Go.Proofs.YthoedmikfpbfnaaGreat
end
section
/-
  The reckoner of walks, for this program: contracts, and the steps of a walk over facts on the reference's numbers.
-/
set_option linter.unusedVariables false
namespace Go.Proofs.YthoedmikfpbfnaaGreat
open Go Go.RowKit Go.Ev

/-- A number of the reference as it lies in a struct. -/
structure ZQ where
  n : Bool
  a : Option Addr
  l : Nat
  c : Nat
abbrev zv (q : ZQ) : Value := .agg #[.bool q.n, .slice q.a q.l q.c]
abbrev wv (x : Int) : Value := .agg #[.int .i64 (hi x), .int .u64 (lo x)]
abbrev ZL := List (ZQ × Int)
def ZOf (q : ZQ) (x : Int) (w : World) : Prop := IsZ w q.n (.slice q.a q.l q.c) x
def ZAll (L : ZL) (w : World) : Prop := ∀ p ∈ L, ZOf p.1 p.2 w
theorem Row.keep {w w' : World} (hk : Keep [3] w w') {v : Value} {xs : List Int} (h : Row w v xs) : Row w' v xs := by
  obtain ⟨a, cap, b, off, rfl, h1, h2, h3⟩ := h
  refine ⟨a, cap, b, off, rfl, h1, fun hp => ?_, fun i hi => ?_⟩
  · obtain ⟨e, cs, fr, hb⟩ := h2 hp
    exact ⟨e, cs, fr, hk _ _ _ _ (by simp) hb⟩
  · obtain ⟨e, cs, fr, hb⟩ := h2 (by omega)
    have h4 := h3 i hi
    have h5 := hk _ _ _ _ (by simp) hb
    simp only [World.cell?, hb] at h4
    simp only [World.cell?, h5]
    exact h4
theorem ZAll.stable (L : ZL) : Stable [3] (ZAll L) := fun w w' hk h p hp => by
  obtain ⟨ds, h1, h2⟩ := h p hp
  exact ⟨ds, h1.keep hk, h2⟩
theorem zall_nil (w : World) : ZAll [] w := fun p hp => by cases hp
theorem zall_one {q : ZQ} {x : Int} {w : World} (h : ZOf q x w) : ZAll [(q, x)] w := fun p hp => by
  obtain rfl : p = (q, x) := by simpa using hp
  exact h
theorem zall_two {q r : ZQ} {x y : Int} {w : World} (h : ZOf q x w) (k : ZOf r y w) : ZAll [(q, x), (r, y)] w := fun p hp => by
  rcases List.mem_cons.1 hp with rfl | hp
  · exact h
  · obtain rfl : p = (r, y) := by simpa using hp
    exact k
theorem ZAll.app {L M : ZL} {w : World} (h : ZAll L w) (k : ZAll M w) : ZAll (M ++ L) w := fun p hp => (List.mem_append.1 hp).elim (k p) (h p)
/-- The facts P are among the facts L. -/
def Sub (P L : ZL) : Prop := ∀ p ∈ P, p ∈ L
theorem Sub.refl {L : ZL} : Sub L L := fun _ h => h
theorem sub0 {L : ZL} : Sub [] L := fun p hp => by cases hp
theorem subC {L P : ZL} {p : ZQ × Int} (i : Nat) (h : L[i]? = some p) (k : Sub P L) : Sub (p :: P) L := fun q hq => (List.mem_cons.1 hq).elim (fun e => e ▸ List.mem_of_getElem? h) (k q)
theorem subE {L P : ZL} {q : ZQ} {x x' : Int} (i : Nat) (h : L[i]? = some (q, x')) (e : x' = x) (k : Sub P L) : Sub ((q, x) :: P) L := subC i (e ▸ h) k
theorem Sub.all {P L : ZL} (h : Sub P L) {w : World} (k : ZAll L w) : ZAll P w := fun p hp => k p (h p hp)

/-- The contract of a function: what it is given, what it returns, what is known of it. -/
def FnG (f : FuncId) (pre : ZL) (args : List Value) {X : Type} (val : X → Value) (post : X → ZL) : Prop :=
  ∀ w, ZAll pre w → Calls Tryz.prog f args.toArray w fun e w' => ∃ x, e = .returned (val x) ∧ Below w.heap.size w w' ∧ ZAll (post x) w'
/-- It returns one value. -/
def Fn (f : FuncId) (pre : ZL) (args : List Value) (v : Value) : Prop := ∀ w, ZAll pre w → Calls Tryz.prog f args.toArray w fun e w' => e = .returned v ∧ Below w.heap.size w w'
abbrev FnZ (f : FuncId) (pre : ZL) (args : List Value) (val : ZQ → Value) (x : Int) : Prop := FnG f pre args val fun q => [(q, x)]
abbrev FnZZ (f : FuncId) (pre : ZL) (args : List Value) (val : ZQ × ZQ → Value) (x y : Int) : Prop := FnG f pre args val fun q => [(q.1, x), (q.2, y)]
/-- A walk, as a statement that no tactic looks into. -/
structure Ru (C : Cx) (G : World → Prop) (c : Cf) : Prop where
  h : Run C G c
theorem mixed : Tryz.prog.follows .mixedOrders = true := by kernel_rfl
/-- The ends that a contract allows. -/
def EndV (w : World) (v : Value) (e : Ending) (w' : World) : Prop := e = .returned v ∧ Below w.heap.size w w'
def EndG (w : World) {X : Type} (val : X → Value) (post : X → ZL) (e : Ending) (w' : World) : Prop := ∃ x, e = .returned (val x) ∧ Below w.heap.size w w' ∧ ZAll (post x) w'
theorem fn_of {f : FuncId} {fn : Func} {c : Code} {pre : ZL} {args : List Value} {v : Value} (hf : Tryz.prog.funcs[f]? = some fn) (hb : fn.body = some c) (h : ∀ w, Ru ⟨Tryz.prog, f, [3], w, EndV w v⟩ (ZAll pre) (startS fn args)) : Fn f pre args v :=
  fun w hw => calls_run [3] (ZAll pre) hf hb (ZAll.stable pre) hw (h w).h
theorem fnG_of {f : FuncId} {fn : Func} {c : Code} {pre : ZL} {args : List Value} {X : Type} {val : X → Value} {post : X → ZL} (hf : Tryz.prog.funcs[f]? = some fn) (hb : fn.body = some c)
    (h : ∀ w, Ru ⟨Tryz.prog, f, [3], w, EndG w val post⟩ (ZAll pre) (startS fn args)) : FnG f pre args val post :=
  fun w hw => calls_run [3] (ZAll pre) hf hb (ZAll.stable pre) hw (h w).h
section
variable {f0 : FuncId} {E : List TypeId} {w0 : World} {R : Ending → World → Prop} {L : ZL} {G : World → Prop} {c : Cf}
theorem st_fn {f : FuncId} {pre : ZL} {vs : List Value} {v : Value} (he : Enters Tryz.prog f) (h : Fn f pre vs v) (hp : Sub pre L) (hc : callAt (adv Tryz.prog E 9999 400 c) = some (f, vs.map .val))
    (hk : Ru ⟨Tryz.prog, f0, E, w0, R⟩ (ZAll L) (resume (adv Tryz.prog E 9999 400 c) (.val v))) : Ru ⟨Tryz.prog, f0, E, w0, R⟩ (ZAll L) c :=
  ⟨run_adv mixed (run_call1 hc he v (fun w hw => h w (hp.all hw)) hk.h)⟩
theorem st_g {f : FuncId} {pre : ZL} {vs : List Value} {X : Type} {val : X → Value} {post : X → ZL} (he : Enters Tryz.prog f) (h : FnG f pre vs val post) (hp : Sub pre L) (hc : callAt (adv Tryz.prog E 9999 400 c) = some (f, vs.map .val))
    (hk : ∀ x, Ru ⟨Tryz.prog, f0, [3], w0, R⟩ (ZAll (post x ++ L)) (resume (adv Tryz.prog E 9999 400 c) (.val (val x)))) (hE : E = [3] := by rfl) : Ru ⟨Tryz.prog, f0, E, w0, R⟩ (ZAll L) c := by
  subst hE
  exact ⟨run_adv mixed (run_callv hc he val (fun x => ZAll (post x)) (fun x => ZAll.stable _) (fun w hw => h w (hp.all hw)) fun x => (hk x).h.mono (ZAll.stable _) fun w hw => hw.1.app hw.2)⟩
theorem st_pin (t : Nat) (v : Value) {v' : Value} (h : (adv Tryz.prog E t 400 c).fr[t]? = some (.val v)) (hv : v = v') (hk : Ru ⟨Tryz.prog, f0, E, w0, R⟩ G (setS (adv Tryz.prog E t 400 c) t v')) : Ru ⟨Tryz.prog, f0, E, w0, R⟩ G c :=
  ⟨run_adv mixed (run_pin h hv hk.h)⟩
/-- A slot's Bool is known. -/
theorem st_b (t : Nat) {b b' : Bool} (hv : b = b') (h : (adv Tryz.prog E t 400 c).fr[t]? = some (.val (.bool b))) (hk : Ru ⟨Tryz.prog, f0, E, w0, R⟩ G (setS (adv Tryz.prog E t 400 c) t (.bool b'))) : Ru ⟨Tryz.prog, f0, E, w0, R⟩ G c :=
  st_pin t (.bool b) h (by rw [hv]) hk
/-- A slot's number is told otherwise. -/
theorem st_i (t : Nat) (k : IntKind) {x x' : Int} (hv : x = x') (h : (adv Tryz.prog E t 400 c).fr[t]? = some (.val (.int k x))) (hk : Ru ⟨Tryz.prog, f0, E, w0, R⟩ G (setS (adv Tryz.prog E t 400 c) t (.int k x'))) : Ru ⟨Tryz.prog, f0, E, w0, R⟩ G c :=
  st_pin t (.int k x) h (by rw [hv]) hk
theorem st_ret {fn : Func} {v : Value} (hf : Tryz.prog.funcs[f0]? = some fn) (h : retAt Tryz.prog fn.results.toList (adv Tryz.prog E 9999 400 c) = some v) : Ru ⟨Tryz.prog, f0, E, w0, EndV w0 v⟩ G c :=
  ⟨run_adv mixed (run_ret hf h fun w hb _ => ⟨rfl, hb⟩)⟩
theorem st_retv {fn : Func} {v v' : Value} (hf : Tryz.prog.funcs[f0]? = some fn) (hv : v = v') (h : retAt Tryz.prog fn.results.toList (adv Tryz.prog E 9999 400 c) = some v) : Ru ⟨Tryz.prog, f0, E, w0, EndV w0 v'⟩ G c := by
  subst hv; exact st_ret hf h
theorem st_retG {fn : Func} {X : Type} {val : X → Value} {post : X → ZL} (x : X) (hf : Tryz.prog.funcs[f0]? = some fn) (hp : Sub (post x) L) (h : retAt Tryz.prog fn.results.toList (adv Tryz.prog E 9999 400 c) = some (val x)) : Ru ⟨Tryz.prog, f0, E, w0, EndG w0 val post⟩ (ZAll L) c :=
  ⟨run_adv mixed (run_ret hf h fun w hb hw => ⟨x, rfl, hb, hp.all hw⟩)⟩
/-- One more round of a loop, as it is. -/
theorem st_round (hi : idle (adv Tryz.prog E 9999 400 c) = true) (hk : Ru ⟨Tryz.prog, f0, E, w0, R⟩ G (unroll (adv Tryz.prog E 9999 400 c))) : Ru ⟨Tryz.prog, f0, E, w0, R⟩ G c := ⟨run_adv mixed (run_unroll hi hk.h)⟩
theorem st_ldv {T : TypeId} {ad : Addr} {v : Value} (h : ∀ w, G w → (loadVar T ad).run Tryz.prog w = .ok v w) (hc : loadAt (adv Tryz.prog E 9999 400 c) = some (T, ad)) (hk : Ru ⟨Tryz.prog, f0, E, w0, R⟩ G (resume (adv Tryz.prog E 9999 400 c) (.val v))) : Ru ⟨Tryz.prog, f0, E, w0, R⟩ G c :=
  ⟨run_adv mixed (run_ldv hc h hk.h)⟩
theorem st_idx {T : TypeId} {xv jv v : Value} (h : ∀ w, G w → (Instr.indexAt T xv jv).run Tryz.prog w = .ok v w) (hc : idxAt (adv Tryz.prog E 9999 400 c) = some (T, xv, jv)) (hk : Ru ⟨Tryz.prog, f0, E, w0, R⟩ G (resume (adv Tryz.prog E 9999 400 c) (.val v))) : Ru ⟨Tryz.prog, f0, E, w0, R⟩ G c :=
  ⟨run_adv mixed (run_idx hc h hk.h)⟩
theorem st_know {p : Prop} (h : ∀ w, G w → p) (hk : p → Ru ⟨Tryz.prog, f0, E, w0, R⟩ G c) : Ru ⟨Tryz.prog, f0, E, w0, R⟩ G c := ⟨run_know h fun hp => (hk hp).h⟩
/-- A quotient or a rest; t: the slot that is written right ahead of it. -/
theorem st_div (t : Nat) {q : Bool} {T : TypeId} {xv yv v : Value} (h : ∀ w, (binOp (if q = true then .quo else .rem) T xv yv).run Tryz.prog w = .ok v w) (hc : divAt (adv Tryz.prog E t 400 c) = some (q, T, xv, yv)) (hk : Ru ⟨Tryz.prog, f0, E, w0, R⟩ G (resume (adv Tryz.prog E t 400 c) (.val v))) : Ru ⟨Tryz.prog, f0, E, w0, R⟩ G c :=
  ⟨run_adv mixed (run_div hc h hk.h)⟩
/-! loops -/
/-- The slots and the blocks. -/
def fb (c : Cf) : List SV × List Bk := (c.fr, c.bl)
/-- Into a loop's round, with the slots and blocks y. -/
def enterL (c : Cf) (y : List SV × List Bk) : Cf := match loopAt c with
  | some (b, k) => ⟨.code b :: .inLoop b :: k, none, y.1, y.2⟩
  | none => c
/-- At a round's end. -/
def backL (c : Cf) (y : List SV × List Bk) : Cf := match loopAt c with
  | some (b, k) => ⟨.inLoop b :: k, none, y.1, y.2⟩
  | none => c
/-- What a round may use: the loop from a later round on. -/
structure Back (C : Cx) (c : Cf) {X : Type} (I : X → List SV × List Bk) (Lf : X → ZL) (p : X → Prop) (m : X → Nat) (x : X) : Prop where
  h : ∀ x' (G' : World → Prop), m x' < m x → p x' → (∀ w, G' w → ZAll (Lf x') w) → Run C G' (backL c (I x'))
theorem st_loop {X : Type} (I : X → List SV × List Bk) (Lf : X → ZL) (p : X → Prop) (m : X → Nat) (x0 : X) (hc : (loopAt (adv Tryz.prog [3] 9999 400 c)).isSome = true) (h0 : fb (adv Tryz.prog [3] 9999 400 c) = I x0) (hL : Sub (Lf x0) L) (hp : p x0)
    (round : ∀ x, p x → Back ⟨Tryz.prog, f0, [3], w0, R⟩ (adv Tryz.prog [3] 9999 400 c) I Lf p m x → Ru ⟨Tryz.prog, f0, [3], w0, R⟩ (ZAll (Lf x)) (enterL (adv Tryz.prog [3] 9999 400 c) (I x))) (hE : E = [3] := by rfl) : Ru ⟨Tryz.prog, f0, E, w0, R⟩ (ZAll L) c := by
  subst hE
  refine ⟨run_adv (t := 9999) (n := 400) mixed ?_⟩
  show Run _ _ (adv Tryz.prog [3] 9999 400 c)
  generalize adv Tryz.prog [3] 9999 400 c = c1 at *
  cases hl : loopAt c1 with
  | none => rw [hl] at hc; cases hc
  | some bk =>
    obtain ⟨b, k⟩ := bk
    refine run_loop hl I (fun x w => ZAll (Lf x) w ∧ p x) (fun x w w' hk hw => ⟨ZAll.stable _ w w' hk hw.1, hw.2⟩) m x0 h0 (fun w hw => ⟨hL.all hw, hp⟩) ?_
    intro x back
    refine run_know (p := p x) (fun w hw => hw.2) fun hx => ?_
    have hb : Back ⟨Tryz.prog, f0, [3], w0, R⟩ c1 I Lf p m x := ⟨fun x' G' hm hp' hG => by
      have := back x' G' hm (fun w hw => ⟨hG w hw, hp'⟩)
      unfold backL; rw [hl]; exact this⟩
    have := (round x hx hb).h
    unfold enterL at this; rw [hl] at this
    exact this.mono (ZAll.stable _) fun w hw => hw.1
/-- A round's end: on with the next one. -/
theorem st_back {X : Type} {c0 : Cf} {I : X → List SV × List Bk} {Lf : X → ZL} {p : X → Prop} {m : X → Nat} {x : X} (hb : Back ⟨Tryz.prog, f0, [3], w0, R⟩ c0 I Lf p m x) (x' : X) (hm : m x' < m x) (hp : p x') (hL : Sub (Lf x') L)
    (h0 : fb (adv Tryz.prog [3] 9999 400 c) = I x') (hc : loopBack (adv Tryz.prog [3] 9999 400 c) = loopAt c0) (hs : (loopAt c0).isSome = true) (hE : E = [3] := by rfl) : Ru ⟨Tryz.prog, f0, E, w0, R⟩ (ZAll L) c := by
  subst hE
  refine ⟨run_adv (t := 9999) (n := 400) mixed ?_⟩
  show Run _ _ (adv Tryz.prog [3] 9999 400 c)
  generalize adv Tryz.prog [3] 9999 400 c = c1 at *
  cases hl : loopAt c0 with
  | none => rw [hl] at hs; cases hs
  | some bk =>
    obtain ⟨b, k⟩ := bk
    rw [hl] at hc
    have := hb.h x' (ZAll L) hm hp (fun w hw => hL.all hw)
    unfold backL at this; rw [hl] at this
    exact run_back hc (fr := (I x').1) (bl := (I x').2) h0 this
theorem st_forget (ts : List Nat) (hrg : (match (adv Tryz.prog E 9999 400 c).rg with | none => true | _ => false) = true) (hk : Ru ⟨Tryz.prog, f0, E, w0, R⟩ G (forget ts (adv Tryz.prog E 9999 400 c))) : Ru ⟨Tryz.prog, f0, E, w0, R⟩ G c :=
  ⟨run_adv mixed (run_forget hrg ts hk.h)⟩
/-! rows of the call's own -/
/-- Called with a row of these values. -/
def FnR (f : FuncId) (vs : List Value) (T : TypeId) (n : Nat) (v : Value) : Prop := ∀ w k, w.heap[k]? = some (.cells vs.toArray T (0, 0)) → Calls Tryz.prog f #[.slice (some ⟨k, 0, none⟩) n n] w fun e w' => e = .returned v ∧ Below w.heap.size w w'
def RowAt (k : Nat) (vs : List Value) (T : TypeId) (w : World) : Prop := w.heap[k]? = some (.cells vs.toArray T (0, 0))
theorem fnR_of {f : FuncId} {fn : Func} {c : Code} {vs : List Value} {n : Nat} {v : Value} (hf : Tryz.prog.funcs[f]? = some fn) (hb : fn.body = some c)
    (h : ∀ w k, Ru ⟨Tryz.prog, f, [3], w, EndV w v⟩ (RowAt k vs 3) (startS fn [.slice (some ⟨k, 0, none⟩) n n])) : FnR f vs 3 n v :=
  fun w k hk => calls_run [3] (RowAt k vs 3) hf hb (fun w w' hK hw => hK k _ _ _ (by simp) hw) hk (h w k).h
theorem load_cell {T : TypeId} {a : Addr} {v : Value} {w : World} (h0 : (Tryz.prog.underlying T).map (fun d => d.isRow) = some false) (hc : w.cell? a = some v) : (loadVar T a).run Tryz.prog w = .ok v w := by
  obtain ⟨d, hd, hr⟩ := Option.map_eq_some_iff.1 h0
  simp [loadVar, Sem.run_bind, isAgg_run hd, hr, run_load, hc]
theorem load_int {a : Addr} {v : Value} {w : World} (hc : w.cell? a = some v) : (loadVar 3 a).run Tryz.prog w = .ok v w := load_cell (by kernel_rfl) hc
theorem load_bool {a : Addr} {v : Value} {w : World} (hc : w.cell? a = some v) : (loadVar 4 a).run Tryz.prog w = .ok v w := load_cell (by kernel_rfl) hc
theorem ld_row {k o : Nat} {vs : List Value} {T : TypeId} {v : Value} {w : World} (h : RowAt k vs T w) (hv : vs[o]? = some v) : (loadVar 3 ⟨k, o, none⟩).run Tryz.prog w = .ok v w := by
  refine load_int ?_
  unfold RowAt at h
  simp [World.cell?, h, hv]
theorem st_ldrow {k : Nat} {vs : List Value} {T : TypeId} (o : Nat) {v : Value} (hv : vs[o]? = some v) (hc : loadAt (adv Tryz.prog E 9999 400 c) = some (3, ⟨k, o, none⟩)) (hk : Ru ⟨Tryz.prog, f0, E, w0, R⟩ (RowAt k vs T) (resume (adv Tryz.prog E 9999 400 c) (.val v))) : Ru ⟨Tryz.prog, f0, E, w0, R⟩ (RowAt k vs T) c :=
  st_ldv (fun w hw => ld_row hw hv) hc hk
/-- It makes a row for its caller. -/
def FnB (f : FuncId) (args : List Value) (vs : List Value) (T : TypeId) (n : Nat) : Prop := ∀ w, Calls Tryz.prog f args.toArray w fun e w' => ∃ k, e = .returned (.slice (some ⟨k, 0, none⟩) n n) ∧ w.heap.size ≤ k ∧ w'.heap[k]? = some (.cells vs.toArray T (0, 0)) ∧ Below w.heap.size w w'
def EndB (w0 : World) (vs : List Value) (T : TypeId) (n : Nat) (e : Ending) (w' : World) : Prop := ∃ k, e = .returned (.slice (some ⟨k, 0, none⟩) n n) ∧ w0.heap.size ≤ k ∧ w'.heap[k]? = some (.cells vs.toArray T (0, 0)) ∧ Below w0.heap.size w0 w'
theorem fnB_of {f : FuncId} {fn : Func} {c : Code} {args vs : List Value} {T : TypeId} {n : Nat} (hf : Tryz.prog.funcs[f]? = some fn) (hb : fn.body = some c) (h : ∀ w, Ru ⟨Tryz.prog, f, [3], w, EndB w vs T n⟩ (ZAll []) (startS fn args)) : FnB f args vs T n :=
  fun w => calls_run [3] (ZAll []) hf hb (ZAll.stable []) (zall_nil w) (h w).h
theorem st_retB {fn : Func} {vs : List Value} {T : TypeId} {n : Nat} (hf : Tryz.prog.funcs[f0]? = some fn) (h : retSl fn.results.toList (adv Tryz.prog E 9999 400 c) = some (vs, T, n)) (hm : memN 999999 E = false := by rfl) : Ru ⟨Tryz.prog, f0, E, w0, EndB w0 vs T n⟩ (ZAll L) c :=
  ⟨run_adv mixed (run_retSl hf hm h fun w k hb _ h1 h2 => ⟨k, rfl, h1, h2, hb⟩)⟩
theorem st_row {f : FuncId} {vs : List Value} {T : TypeId} {v : Value} {b n : Nat} (he : Enters Tryz.prog f) (h : FnR f vs T n v) (hc : callAt (adv Tryz.prog E 9999 400 c) = some (f, [.sl b 0 n n])) (hB : (adv Tryz.prog E 9999 400 c).bl[b]? = some ⟨vs.map .val, T⟩)
    (hk : Ru ⟨Tryz.prog, f0, E, w0, R⟩ (ZAll L) (resume (adv Tryz.prog E 9999 400 c) (.val v))) : Ru ⟨Tryz.prog, f0, E, w0, R⟩ (ZAll L) c := by
  refine ⟨run_adv mixed fun hs => run_call hc he (X := Unit) (fun _ => .val v) (fun _ _ => True) (fun _ _ _ _ _ => trivial) (fun _ _ => trivial) (fun r N w us ha hbl hG => ?_) (fun _ => hk.h.mono hs fun w hw => hw.1) hs⟩
  obtain ⟨u, rfl, hu, hfr⟩ : ∃ u, us = [u] ∧ u = Value.slice (some ⟨r b, 0, none⟩) n n ∧ ¬ N b := by
    match us, ha with
    | [u], h => exact ⟨u, rfl, h.1.1, h.1.2⟩
  subst hu
  obtain ⟨-, cs, hcs, hok⟩ := hbl.is b _ hB hfr
  obtain rfl := cellsOk_eq hok
  exact (h w _ hcs).mono fun e w' ⟨h1, h2⟩ => ⟨(), v, h1, rfl, h2, trivial⟩
theorem st_rowB {f : FuncId} {args vs : List Value} {T : TypeId} {n : Nat} (he : Enters Tryz.prog f) (h : FnB f args vs T n) (hc : callAt (adv Tryz.prog E 9999 400 c) = some (f, args.map .val))
    (hk : Ru ⟨Tryz.prog, f0, E, w0, R⟩ (ZAll L) (resumeB (adv Tryz.prog E 9999 400 c) ⟨vs.map .val, T⟩ n)) : Ru ⟨Tryz.prog, f0, E, w0, R⟩ (ZAll L) c := by
  refine ⟨run_adv mixed (run_callB hc he ⟨vs.map .val, T⟩ n (fun r N w us ha hbl hG => ?_) hk.h)⟩
  rw [args_vals ha]
  refine (h w).mono fun e w' ⟨k, h1, h2, h3, h4⟩ => ⟨k, _, h1, h2, h3, ?_, h4⟩
  have := cellsOk_vals (r := r) (N := N) vs.toArray
  simpa using this
end
theorem rem_run {T : TypeId} {k : IntKind} {x y : Int} (h : y ≠ 0) (w : World) : (binOp (if false = true then .quo else .rem) T (.int k x) (.int k y)).run Tryz.prog w = .ok (.int k (x.tmod y)) w := by
  simp [binOp, Op.intDiv, h]
end Go.Proofs.YthoedmikfpbfnaaGreat

set_option linter.unusedVariables false
namespace Go.Proofs.YthoedmikfpbfnaaGreat
open Go Go.RowKit Go.Ev

section
variable {f0 : FuncId} {E : List TypeId} {w0 : World} {R : Ending → World → Prop} {L : ZL} {G : World → Prop} {c : Cf}
theorem qI (t : Nat) (x : Int) (hk : Ru ⟨Tryz.prog, f0, E, w0, R⟩ G (setS (adv Tryz.prog E t 400 c) t (.int .i64 x))) (hv : IntKind.i64.wrap x = x := by exact Go.IntWalk.i64_in _ (by omega)) (h : (adv Tryz.prog E t 400 c).fr[t]? = some (.val (.int .i64 (IntKind.i64.wrap x))) := by kernel_rfl) : Ru ⟨Tryz.prog, f0, E, w0, R⟩ G c := st_i t .i64 hv h hk
theorem qF {f : FuncId} {vs : List Value} {v : Value} (he : Enters Tryz.prog f) (h : Fn f [] vs v) (hk : Ru ⟨Tryz.prog, f0, E, w0, R⟩ (ZAll L) (resume (adv Tryz.prog E 9999 400 c) (.val v))) (hc : callAt (adv Tryz.prog E 9999 400 c) = some (f, vs.map .val) := by kernel_rfl) : Ru ⟨Tryz.prog, f0, E, w0, R⟩ (ZAll L) c := st_fn he h sub0 hc hk
theorem qZ {f : FuncId} {vs : List Value} {X : Type} {val : X → Value} {post : X → ZL} (he : Enters Tryz.prog f) (h : FnG f [] vs val post)
    (hk : ∀ x, Ru ⟨Tryz.prog, f0, [3], w0, R⟩ (ZAll (post x ++ L)) (resume (adv Tryz.prog [3] 9999 400 c) (.val (val x)))) (hc : callAt (adv Tryz.prog [3] 9999 400 c) = some (f, vs.map .val) := by kernel_rfl) : Ru ⟨Tryz.prog, f0, [3], w0, R⟩ (ZAll L) c := st_g he h sub0 hc hk
theorem qN (t : Nat) (b : Bool) (hk : Ru ⟨Tryz.prog, f0, E, w0, R⟩ G (setS (adv Tryz.prog E t 400 c) t (.bool false))) (hv : b = false := by exact decide_eq_false (by omega)) (h : (adv Tryz.prog E t 400 c).fr[t]? = some (.val (.bool b)) := by kernel_rfl) : Ru ⟨Tryz.prog, f0, E, w0, R⟩ G c := st_b t hv h hk
theorem qY (t : Nat) (b : Bool) (hk : Ru ⟨Tryz.prog, f0, E, w0, R⟩ G (setS (adv Tryz.prog E t 400 c) t (.bool true))) (hv : b = true := by exact decide_eq_true (by omega)) (h : (adv Tryz.prog E t 400 c).fr[t]? = some (.val (.bool b)) := by kernel_rfl) : Ru ⟨Tryz.prog, f0, E, w0, R⟩ G c := st_b t hv h hk
theorem qV (t : Nat) {b b' : Bool} (hv : b = b') (hk : Ru ⟨Tryz.prog, f0, E, w0, R⟩ G (setS (adv Tryz.prog E t 400 c) t (.bool b'))) (h : (adv Tryz.prog E t 400 c).fr[t]? = some (.val (.bool b)) := by kernel_rfl) : Ru ⟨Tryz.prog, f0, E, w0, R⟩ G c := st_b t hv h hk
theorem qB {X : Type} {c0 : Cf} {I : X → List SV × List Bk} {Lf : X → ZL} {p : X → Prop} {m : X → Nat} {x : X} (hb : Back ⟨Tryz.prog, f0, [3], w0, R⟩ c0 I Lf p m x) (x' : X) (hp : p x') (hm : m x' < m x := by first | omega | (simp only []; omega) | (simp; omega)) (hL : Sub (Lf x') L := by exact fun p hp => by first | exact hp | simp_all)
    (h0 : fb (adv Tryz.prog [3] 9999 400 c) = I x' := by kernel_rfl) (hc : loopBack (adv Tryz.prog [3] 9999 400 c) = loopAt c0 := by kernel_rfl) (hs : (loopAt c0).isSome = true := by kernel_rfl) : Ru ⟨Tryz.prog, f0, [3], w0, R⟩ (ZAll L) c := st_back hb x' hm hp hL h0 hc hs
theorem qR {fn : Func} {v : Value} (hf : Tryz.prog.funcs[f0]? = some fn) (h : retAt Tryz.prog fn.results.toList (adv Tryz.prog E 9999 400 c) = some v := by kernel_rfl) : Ru ⟨Tryz.prog, f0, E, w0, EndV w0 v⟩ G c := st_ret hf h
theorem qG (l : List Nat) (hk : Ru ⟨Tryz.prog, f0, E, w0, R⟩ G (forget l (adv Tryz.prog E 9999 400 c))) (hrg : (match (adv Tryz.prog E 9999 400 c).rg with | none => true | _ => false) = true := by kernel_rfl) : Ru ⟨Tryz.prog, f0, E, w0, R⟩ G c := st_forget l hrg hk
end
end Go.Proofs.YthoedmikfpbfnaaGreat
end
section
/-
  Every function of the program is entered when it is called.
-/
namespace Go.Proofs.YthoedmikfpbfnaaGreat
open Go Go.Ev
theorem ent8 : Enters Tryz.prog 8 := enters_of Tryz.func8 (by kernel_rfl) rfl
theorem ent59 : Enters Tryz.prog 59 := enters_of Tryz.func59 (by kernel_rfl) rfl
theorem ent31 : Enters Tryz.prog 31 := enters_of Tryz.func31 (by kernel_rfl) rfl
theorem ent33 : Enters Tryz.prog 33 := enters_of Tryz.func33 (by kernel_rfl) rfl
theorem ent18 : Enters Tryz.prog 18 := enters_of Tryz.func18 (by kernel_rfl) rfl
theorem ent22 : Enters Tryz.prog 22 := enters_of Tryz.func22 (by kernel_rfl) rfl
theorem ent40 : Enters Tryz.prog 40 := enters_of Tryz.func40 (by kernel_rfl) rfl
theorem ent86 : Enters Tryz.prog 86 := enters_of Tryz.func86 (by kernel_rfl) rfl
theorem ent38 : Enters Tryz.prog 38 := enters_of Tryz.func38 (by kernel_rfl) rfl
theorem ent55 : Enters Tryz.prog 55 := enters_of Tryz.func55 (by kernel_rfl) rfl
theorem ent16 : Enters Tryz.prog 16 := enters_of Tryz.func16 (by kernel_rfl) rfl
theorem ent30 : Enters Tryz.prog 30 := enters_of Tryz.func30 (by kernel_rfl) rfl
theorem ent97 : Enters Tryz.prog 97 := enters_of Tryz.func97 (by kernel_rfl) rfl
theorem ent110 : Enters Tryz.prog 110 := enters_of Tryz.func110 (by kernel_rfl) rfl
theorem ent132 : Enters Tryz.prog 132 := enters_of Tryz.func132 (by kernel_rfl) rfl
theorem ent123 : Enters Tryz.prog 123 := enters_of Tryz.func123 (by kernel_rfl) rfl
theorem ent64 : Enters Tryz.prog 64 := enters_of Tryz.func64 (by kernel_rfl) rfl
theorem ent25 : Enters Tryz.prog 25 := enters_of Tryz.func25 (by kernel_rfl) rfl
theorem ent63 : Enters Tryz.prog 63 := enters_of Tryz.func63 (by kernel_rfl) rfl
theorem ent85 : Enters Tryz.prog 85 := enters_of Tryz.func85 (by kernel_rfl) rfl
theorem ent105 : Enters Tryz.prog 105 := enters_of Tryz.func105 (by kernel_rfl) rfl
theorem ent52 : Enters Tryz.prog 52 := enters_of Tryz.func52 (by kernel_rfl) rfl
theorem ent89 : Enters Tryz.prog 89 := enters_of Tryz.func89 (by kernel_rfl) rfl
theorem ent100 : Enters Tryz.prog 100 := enters_of Tryz.func100 (by kernel_rfl) rfl
theorem ent113 : Enters Tryz.prog 113 := enters_of Tryz.func113 (by kernel_rfl) rfl
theorem ent42 : Enters Tryz.prog 42 := enters_of Tryz.func42 (by kernel_rfl) rfl
theorem ent26 : Enters Tryz.prog 26 := enters_of Tryz.func26 (by kernel_rfl) rfl
theorem ent131 : Enters Tryz.prog 131 := enters_of Tryz.func131 (by kernel_rfl) rfl
theorem ent56 : Enters Tryz.prog 56 := enters_of Tryz.func56 (by kernel_rfl) rfl
theorem ent7 : Enters Tryz.prog 7 := enters_of Tryz.func7 (by kernel_rfl) rfl
theorem ent9 : Enters Tryz.prog 9 := enters_of Tryz.func9 (by kernel_rfl) rfl
theorem ent12 : Enters Tryz.prog 12 := enters_of Tryz.func12 (by kernel_rfl) rfl
theorem ent14 : Enters Tryz.prog 14 := enters_of Tryz.func14 (by kernel_rfl) rfl
theorem ent98 : Enters Tryz.prog 98 := enters_of Tryz.func98 (by kernel_rfl) rfl
theorem ent50 : Enters Tryz.prog 50 := enters_of Tryz.func50 (by kernel_rfl) rfl
theorem ent120 : Enters Tryz.prog 120 := enters_of Tryz.func120 (by kernel_rfl) rfl
theorem ent28 : Enters Tryz.prog 28 := enters_of Tryz.func28 (by kernel_rfl) rfl
theorem ent53 : Enters Tryz.prog 53 := enters_of Tryz.func53 (by kernel_rfl) rfl
theorem ent11 : Enters Tryz.prog 11 := enters_of Tryz.func11 (by kernel_rfl) rfl
theorem ent83 : Enters Tryz.prog 83 := enters_of Tryz.func83 (by kernel_rfl) rfl
theorem ent36 : Enters Tryz.prog 36 := enters_of Tryz.func36 (by kernel_rfl) rfl
theorem ent34 : Enters Tryz.prog 34 := enters_of Tryz.func34 (by kernel_rfl) rfl
theorem ent78 : Enters Tryz.prog 78 := enters_of Tryz.func78 (by kernel_rfl) rfl
theorem ent70 : Enters Tryz.prog 70 := enters_of Tryz.func70 (by kernel_rfl) rfl
theorem ent115 : Enters Tryz.prog 115 := enters_of Tryz.func115 (by kernel_rfl) rfl
theorem ent58 : Enters Tryz.prog 58 := enters_of Tryz.func58 (by kernel_rfl) rfl
theorem ent27 : Enters Tryz.prog 27 := enters_of Tryz.func27 (by kernel_rfl) rfl
theorem ent118 : Enters Tryz.prog 118 := enters_of Tryz.func118 (by kernel_rfl) rfl
theorem ent119 : Enters Tryz.prog 119 := enters_of Tryz.func119 (by kernel_rfl) rfl
theorem ent75 : Enters Tryz.prog 75 := enters_of Tryz.func75 (by kernel_rfl) rfl
theorem ent76 : Enters Tryz.prog 76 := enters_of Tryz.func76 (by kernel_rfl) rfl
theorem ent77 : Enters Tryz.prog 77 := enters_of Tryz.func77 (by kernel_rfl) rfl
theorem ent32 : Enters Tryz.prog 32 := enters_of Tryz.func32 (by kernel_rfl) rfl
theorem ent87 : Enters Tryz.prog 87 := enters_of Tryz.func87 (by kernel_rfl) rfl
theorem ent39 : Enters Tryz.prog 39 := enters_of Tryz.func39 (by kernel_rfl) rfl
theorem ent88 : Enters Tryz.prog 88 := enters_of Tryz.func88 (by kernel_rfl) rfl
theorem ent44 : Enters Tryz.prog 44 := enters_of Tryz.func44 (by kernel_rfl) rfl
theorem ent92 : Enters Tryz.prog 92 := enters_of Tryz.func92 (by kernel_rfl) rfl
theorem ent111 : Enters Tryz.prog 111 := enters_of Tryz.func111 (by kernel_rfl) rfl
theorem ent99 : Enters Tryz.prog 99 := enters_of Tryz.func99 (by kernel_rfl) rfl
theorem ent112 : Enters Tryz.prog 112 := enters_of Tryz.func112 (by kernel_rfl) rfl
theorem ent65 : Enters Tryz.prog 65 := enters_of Tryz.func65 (by kernel_rfl) rfl
theorem ent139 : Enters Tryz.prog 139 := enters_of Tryz.func139 (by kernel_rfl) rfl
theorem ent130 : Enters Tryz.prog 130 := enters_of Tryz.func130 (by kernel_rfl) rfl
theorem ent156 : Enters Tryz.prog 156 := enters_of Tryz.func156 (by kernel_rfl) rfl
theorem ent66 : Enters Tryz.prog 66 := enters_of Tryz.func66 (by kernel_rfl) rfl
theorem ent67 : Enters Tryz.prog 67 := enters_of Tryz.func67 (by kernel_rfl) rfl
theorem ent68 : Enters Tryz.prog 68 := enters_of Tryz.func68 (by kernel_rfl) rfl
theorem ent133 : Enters Tryz.prog 133 := enters_of Tryz.func133 (by kernel_rfl) rfl
theorem ent23 : Enters Tryz.prog 23 := enters_of Tryz.func23 (by kernel_rfl) rfl
theorem ent103 : Enters Tryz.prog 103 := enters_of Tryz.func103 (by kernel_rfl) rfl
theorem ent117 : Enters Tryz.prog 117 := enters_of Tryz.func117 (by kernel_rfl) rfl
theorem ent141 : Enters Tryz.prog 141 := enters_of Tryz.func141 (by kernel_rfl) rfl
theorem ent124 : Enters Tryz.prog 124 := enters_of Tryz.func124 (by kernel_rfl) rfl
theorem ent142 : Enters Tryz.prog 142 := enters_of Tryz.func142 (by kernel_rfl) rfl
theorem ent143 : Enters Tryz.prog 143 := enters_of Tryz.func143 (by kernel_rfl) rfl
theorem ent144 : Enters Tryz.prog 144 := enters_of Tryz.func144 (by kernel_rfl) rfl
theorem ent145 : Enters Tryz.prog 145 := enters_of Tryz.func145 (by kernel_rfl) rfl
theorem ent157 : Enters Tryz.prog 157 := enters_of Tryz.func157 (by kernel_rfl) rfl
theorem ent134 : Enters Tryz.prog 134 := enters_of Tryz.func134 (by kernel_rfl) rfl
theorem ent135 : Enters Tryz.prog 135 := enters_of Tryz.func135 (by kernel_rfl) rfl
theorem ent161 : Enters Tryz.prog 161 := enters_of Tryz.func161 (by kernel_rfl) rfl
theorem ent69 : Enters Tryz.prog 69 := enters_of Tryz.func69 (by kernel_rfl) rfl
theorem ent71 : Enters Tryz.prog 71 := enters_of Tryz.func71 (by kernel_rfl) rfl
theorem ent72 : Enters Tryz.prog 72 := enters_of Tryz.func72 (by kernel_rfl) rfl
theorem ent114 : Enters Tryz.prog 114 := enters_of Tryz.func114 (by kernel_rfl) rfl
theorem ent19 : Enters Tryz.prog 19 := enters_of Tryz.func19 (by kernel_rfl) rfl
theorem ent20 : Enters Tryz.prog 20 := enters_of Tryz.func20 (by kernel_rfl) rfl
theorem ent21 : Enters Tryz.prog 21 := enters_of Tryz.func21 (by kernel_rfl) rfl
theorem ent24 : Enters Tryz.prog 24 := enters_of Tryz.func24 (by kernel_rfl) rfl
theorem ent29 : Enters Tryz.prog 29 := enters_of Tryz.func29 (by kernel_rfl) rfl
theorem ent41 : Enters Tryz.prog 41 := enters_of Tryz.func41 (by kernel_rfl) rfl
theorem ent43 : Enters Tryz.prog 43 := enters_of Tryz.func43 (by kernel_rfl) rfl
theorem ent48 : Enters Tryz.prog 48 := enters_of Tryz.func48 (by kernel_rfl) rfl
theorem ent49 : Enters Tryz.prog 49 := enters_of Tryz.func49 (by kernel_rfl) rfl
theorem ent51 : Enters Tryz.prog 51 := enters_of Tryz.func51 (by kernel_rfl) rfl
theorem ent107 : Enters Tryz.prog 107 := enters_of Tryz.func107 (by kernel_rfl) rfl
theorem ent108 : Enters Tryz.prog 108 := enters_of Tryz.func108 (by kernel_rfl) rfl
theorem ent109 : Enters Tryz.prog 109 := enters_of Tryz.func109 (by kernel_rfl) rfl
theorem ent73 : Enters Tryz.prog 73 := enters_of Tryz.func73 (by kernel_rfl) rfl
theorem ent74 : Enters Tryz.prog 74 := enters_of Tryz.func74 (by kernel_rfl) rfl
theorem ent160 : Enters Tryz.prog 160 := enters_of Tryz.func160 (by kernel_rfl) rfl
theorem ent127 : Enters Tryz.prog 127 := enters_of Tryz.func127 (by kernel_rfl) rfl
theorem ent128 : Enters Tryz.prog 128 := enters_of Tryz.func128 (by kernel_rfl) rfl
theorem ent122 : Enters Tryz.prog 122 := enters_of Tryz.func122 (by kernel_rfl) rfl
theorem ent159 : Enters Tryz.prog 159 := enters_of Tryz.func159 (by kernel_rfl) rfl
theorem ent166 : Enters Tryz.prog 166 := enters_of Tryz.func166 (by kernel_rfl) rfl
theorem ent162 : Enters Tryz.prog 162 := enters_of Tryz.func162 (by kernel_rfl) rfl
theorem ent125 : Enters Tryz.prog 125 := enters_of Tryz.func125 (by kernel_rfl) rfl
theorem ent146 : Enters Tryz.prog 146 := enters_of Tryz.func146 (by kernel_rfl) rfl
theorem ent147 : Enters Tryz.prog 147 := enters_of Tryz.func147 (by kernel_rfl) rfl
theorem ent148 : Enters Tryz.prog 148 := enters_of Tryz.func148 (by kernel_rfl) rfl
theorem ent149 : Enters Tryz.prog 149 := enters_of Tryz.func149 (by kernel_rfl) rfl
theorem ent150 : Enters Tryz.prog 150 := enters_of Tryz.func150 (by kernel_rfl) rfl
theorem ent151 : Enters Tryz.prog 151 := enters_of Tryz.func151 (by kernel_rfl) rfl
theorem ent152 : Enters Tryz.prog 152 := enters_of Tryz.func152 (by kernel_rfl) rfl
theorem ent153 : Enters Tryz.prog 153 := enters_of Tryz.func153 (by kernel_rfl) rfl
theorem ent154 : Enters Tryz.prog 154 := enters_of Tryz.func154 (by kernel_rfl) rfl
theorem ent155 : Enters Tryz.prog 155 := enters_of Tryz.func155 (by kernel_rfl) rfl
theorem ent126 : Enters Tryz.prog 126 := enters_of Tryz.func126 (by kernel_rfl) rfl
end Go.Proofs.YthoedmikfpbfnaaGreat
end
section
namespace Go.Proofs.YthoedmikfpbfnaaGreat
open Go Go.RowKit

set_option maxRecDepth 100000 in
set_option maxHeartbeats 3200000 in
theorem div_z (na nb : Bool) (aa ab : Option Addr) (la ca lb cb : Nat) (m n : Int) (w : World) (hza : IsZ w na (.slice aa la ca) m) (hzb : IsZ w nb (.slice ab lb cb) n) (K : Nat) (hK : K ≤ 80000) (hm : Bits K m) (hn : Bits K n) (h1 : n ≠ 0) :
  Calls Tryz.prog 75 #[.agg #[.bool na, .slice aa la ca], .agg #[.bool nb, .slice ab lb cb]] w (RetZZ w (m.fdiv n) (m.fmod n)) := by
 go_enter Tryz.func75, Tryz.ntmps75
 go_wp2_with fail
 have hE : Env4 w ((((w.alloc (.cells #[.bool na, .slice aa la ca] 37)).alloc (.cells #[.bool nb, .slice ab lb cb] 37)).alloc (.cells #[.bool false, .slice none 0 0] 37)).alloc (.cells #[.bool false, .slice none 0 0] 37)) (.bool na) (.slice aa la ca) (.bool nb) (.slice ab lb cb) :=
  ⟨(((Box2.new rfl).alloc _).alloc _).alloc _, ((Box2.new (by simp)).alloc _).alloc _, (Box2.new (by simp)).alloc _, Box2.new (by simp), below4 w _ _ _ _⟩
 obtain ⟨W, hW⟩ : ∃ W, W = ((((w.alloc (.cells #[.bool na, .slice aa la ca] 37)).alloc (.cells #[.bool nb, .slice ab lb cb] 37)).alloc (.cells #[.bool false, .slice none 0 0] 37)).alloc (.cells #[.bool false, .slice none 0 0] 37)) := ⟨_, rfl⟩
 rw [← hW] at hE ⊢
 have xW : Ext w W := hE.W
 have hWs : w.heap.size + 4 ≤ W.heap.size := by rw [hW]; simp
 clear hW
 go_cut [6, 7] (fun s6 s7 wx => ∃ (k6 k7 : Nat) (nq : Bool) (aq : Option Addr) (lq cq : Nat) (nr : Bool) (ar : Option Addr) (lr cr : Nat), s6 = .pointer (some ⟨k6, 0, none⟩) ∧ s7 = .pointer (some ⟨k7, 0, none⟩) ∧ W.heap.size ≤ k6 ∧ W.heap.size ≤ k7 ∧ k6 ≠ k7 ∧
  Box2 wx k6 (.bool nq) (.slice aq lq cq) 37 ∧ Box2 wx k7 (.bool nr) (.slice ar lr cr) 37 ∧ IsZ wx nq (.slice aq lq cq) ((m.natAbs : Int) / n.natAbs) ∧ IsZ wx nr (.slice ar lr cr) ((m.natAbs : Int) % n.natAbs) ∧ Env4 w wx (.bool na) (.slice aa la ca) (.bool nb) (.slice ab lb cb))
 case first =>
  refine wp_region_noPanic ?_
  refine wp_region_held_drew (S := fun w' => Ext W w') (by kernel_rfl) (Ext.refl W).drew (fun hHeld => ?_)
  have c0 := fun w' (h : Ext W w') => (hE.A.ext h).c0
  have c1 := fun w' (h : Ext W w') => (hE.A.ext h).c1
  have c2 := fun w' (h : Ext W w') => (hE.B.ext h).c0
  have c3 := fun w' (h : Ext W w') => (hE.B.ext h).c1
  refine wpAnyH_take (i := 0) (v := .agg #[.bool na, .slice aa la ca]) rfl (by kernel_rfl) (by kernel_rfl) (by kernel_rfl) (fun _ _ _ h => h) (Or.inl ⟨by kernel_rfl, fun w' h => (by go_simp)⟩) hHeld ?_
  refine wpAnyH_take (i := 2) (v := .agg #[.bool nb, .slice ab lb cb]) rfl (by kernel_rfl) (by kernel_rfl) (by kernel_rfl) (fun _ _ _ h => h) (Or.inl ⟨by kernel_rfl, fun w' h => (by go_simp)⟩) hHeld ?_
  refine region2 (N := 12) (f0 := [0, 2]) (l := [(1, false), (3, false), (4, false), (5, true), (6, true), (7, true)]) (T := [10, 11]) (iA := 8) (dA := 6) (iB := 9) (dB := 7) (oA := .cells #[.bool false, .slice none 0 0] 37) (oB := .cells #[.bool false, .slice none 0 0] 37) (fun _ _ _ _ _ h => h) (by kernel_rfl) (by kernel_rfl) rfl (by kernel_rfl) (by kernel_rfl)
   (fun K a w h => wpOp_of rfl fun K' hK => (by go_simp; exact hK _ _ h)) (fun K a w h => wpOp_of rfl fun K' hK => (by go_simp; exact hK _ _ h)) (by decide) (by simp [Act.put]) (by simp [Act.put]) (fun _ _ h x => h.trans x) hHeld ?_
  intro a1 v1 h1 y1; obtain ⟨s6, s7, rfl⟩ := away2 h1; refine wpOp_of rfl fun K' hK => ?_; go_simp
  refine (abs_any na aa la ca m _ (hza.ext (xW.trans ((Ext.refl W).drew.trans y1))) (hm.fit (by omega))).mono ?_
  rintro e w1 ⟨n1, a1, l1, c1, rfl, hz1, hb1⟩
  refine hK _ _ ⟨⟨hb1, rfl, slots2 rfl rfl⟩, ?_⟩; clear hK K'
  intro a1 v2 h1 y2; obtain ⟨s6, s7, rfl⟩ := away2 h1; refine wpOp_of rfl fun K' hK => ?_; go_simp
  have x2 : Ext W v2 := ((Ext.refl W).drew.trans y1).trans (Ext.trans hb1 y2)
  refine (abs_any nb ab lb cb n _ (hzb.ext (xW.trans x2)) (hn.fit (by omega))).mono ?_
  rintro e w2 ⟨n2, a2, l2, c2, rfl, hz2, hb2⟩
  refine hK _ _ ⟨⟨hb2, rfl, slots2 rfl rfl⟩, ?_⟩; clear hK K'
  intro a1 v3 h1 y3; obtain ⟨s6, s7, rfl⟩ := away2 h1; refine wpOp_of rfl fun K' hK => ?_; go_simp
  refine (long_z _ _ _ _ _ _ _ _ m.natAbs n.natAbs _ (hz1.ext (y2.trans (Ext.trans hb2 y3))) (hz2.ext y3) K (by omega) hm.abs hn.abs (by omega) (by omega)).mono ?_
  rintro e w3 ⟨nq, aq, lq, cq, nr, ar, lr, cr, rfl, hq, hr, hb3⟩
  refine hK _ _ ⟨⟨hb3, rfl, slots2 rfl rfl⟩, ?_⟩; clear hK K'
  have x4 : Ext W w3 := x2.trans (Ext.trans hb2 (y3.trans hb3))
  refine ⟨_, .tuple #[.agg #[.bool nq, .slice aq lq cq], .agg #[.bool nr, .slice ar lr cr]], rfl, Or.inl ⟨by rfl, fun w' h => (by go_simp)⟩, by simp, ?_⟩
  refine ⟨_, .agg #[.bool nq, .slice aq lq cq], rfl, Or.inl ⟨by rfl, fun w' h => (by go_simp)⟩, by simp, ?_⟩
  refine ⟨_, .agg #[.bool nr, .slice ar lr cr], rfl, Or.inl ⟨by rfl, fun w' h => (by go_simp)⟩, by simp, ?_⟩
  intro a' w' h y
  obtain ⟨s6, s7, rfl⟩ := away2 h
  rintro k k' ⟨hk1, hk2, hk3⟩ ⟨hl1, hl2, hl3⟩ hne hS'
  have y4 : Ext w3 w' := y
  simp [Act.put] at hk2 hl2
  subst hk2 hl2
  have hq' := hq.ext y4
  have hr' := hr.ext y4
  have hkb : Box2 w' k (.bool false) (.slice none 0 0) 37 := hk3
  have hlb : Box2 w' k' (.bool false) (.slice none 0 0) 37 := hl3
  have k0 := hkb.c0
  have k1 := hkb.c1
  have k2 := hkb.f0
  have k3 := hkb.f1
  have hBq := hkb.set (.bool nq) (.slice aq lq cq)
  have hBr := hlb.other2 (Ne.symm hne) (.bool nq) (.slice aq lq cq)
  have hSq : Ext W ((w'.setCell ⟨k, 0, none⟩ (.bool nq)).setCell ⟨k, 1, none⟩ (.slice aq lq cq)) := (hS'.set hk1).set hk1
  have hqq := hq'.set2 hkb.kind (by decide) (.bool nq) (.slice aq lq cq)
  have hrq := hr'.set2 hkb.kind (by decide) (.bool nq) (.slice aq lq cq)
  have l0 := hBr.c0
  have l1 := hBr.c1
  have l2 := hBr.f0
  have l3 := hBr.f1
  refine wpOp_of rfl fun K' hK => ?_
  go_simp
  refine hK _ _ ⟨hSq, ?_⟩
  clear hK K'
  refine wpOp_of rfl fun K' hK => ?_
  go_simp
  refine hK _ _ ⟨(hSq.set hl1).set hl1, ?_⟩
  clear hK K'
  refine NoPanic.normal ?_
  go_wp2_with fail
  go_meet
  exact ⟨k, k', nq, aq, lq, cq, nr, ar, lr, cr, rfl, rfl, hk1, hl1, hne, hBq.other2 hne _ _, hBr.set _ _, hqq.set2 hBr.kind (by decide) _ _, hrq.set2 hBr.kind (by decide) _ _, hE.ext ((hSq.set hl1).set hl1)⟩
 case rest =>
  obtain ⟨k6, k7, nq, aq, lq, cq, nr, ar, lr, cr, rfl, rfl, hk6, hk7, hne, hQ, hT, hq, hr, hE⟩ := hcut
  clear xW
  obtain ⟨-, hna⟩ := isZ_sign hza
  obtain ⟨-, hnb⟩ := isZ_sign hzb
  obtain ⟨g1, g2, g3, g4, g5⟩ := div_parts m n h1
  have hqb : Bits K ((m.natAbs : Int) / n.natAbs) := div_bits hm.abs (by omega) (by omega)
  have hrb : Bits K ((m.natAbs : Int) % n.natAbs) := mod_bits hn.abs (by omega)
  clear g1 g4 g5
  cases na <;> cases nb <;> by_cases h0 : (m.natAbs : Int) % n.natAbs = 0
  ·-- A0
   have hm0 : ¬ m < 0 := by simpa using hna
   have hn0' : ¬ n < 0 := by simpa using hnb
   have hn0 : 0 < n := by omega
   clear hn0'
   clear hna hnb
   obtain ⟨sl0, sn0⟩ := isZ_sign hr
   have hl0 : lr = 0 := sl0.2 (by omega)
   subst hl0
   clear sl0 sn0
   have ka0 := hE.A.c0
   have kb0 := hE.B.c0
   have kb1 := hE.B.c1
   have kq0 := hQ.c0
   have kq1 := hQ.c1
   have kq2 := hQ.f0
   have kq3 := hQ.f1
   have kt0 := hT.c0
   have kt1 := hT.c1
   have kt2 := hT.f0
   have kt3 := hT.f1
   have kr0 := hE.R.c0
   have kr1 := hE.R.c1
   have kr2 := hE.R.f0
   have kr3 := hE.R.f1
   have ks0 := hE.S.c0
   have ks1 := hE.S.c1
   have ks2 := hE.S.f0
   have ks3 := hE.S.f1
   go_wp2_with fail
   obtain ⟨d1, d2⟩ := div_A (m := m) (n := n) (by omega) (by omega)
   rw [← d1] at hq
   rw [← d2] at hr
   clear d1 d2
   go_region
   go_wp2_with fail
   refine bodyPost_ret (v := .tuple #[.agg #[.bool nq, .slice aq lq cq], .agg #[.bool nr, .slice ar 0 cr]]) (by simp [results, Tryz.results75, go_sem, kr0, kr1, ks0, ks1]) rfl
    (isZZ_end hq hr hE.R.kind hE.S.kind hE.W (by omega) (by omega) _ _ _ _)
  ·-- A1
   have hm0 : ¬ m < 0 := by simpa using hna
   have hn0' : ¬ n < 0 := by simpa using hnb
   have hn0 : 0 < n := by omega
   clear hn0'
   clear hna hnb
   obtain ⟨sl0, sn0⟩ := isZ_sign hr
   have hl0 : 0 < lr := by
    have : lr ≠ 0 := fun e => by have := sl0.1 e; omega
    omega
   obtain rfl : nr = false := by rw [sn0]; simp; omega
   clear sl0 sn0
   have ka0 := hE.A.c0
   have kb0 := hE.B.c0
   have kb1 := hE.B.c1
   have kq0 := hQ.c0
   have kq1 := hQ.c1
   have kq2 := hQ.f0
   have kq3 := hQ.f1
   have kt0 := hT.c0
   have kt1 := hT.c1
   have kt2 := hT.f0
   have kt3 := hT.f1
   have kr0 := hE.R.c0
   have kr1 := hE.R.c1
   have kr2 := hE.R.f0
   have kr3 := hE.R.f1
   have ks0 := hE.S.c0
   have ks1 := hE.S.c1
   have ks2 := hE.S.f0
   have ks3 := hE.S.f1
   go_wp2_with fail
   obtain ⟨d1, d2⟩ := div_A (m := m) (n := n) (by omega) (by omega)
   rw [← d1] at hq
   rw [← d2] at hr
   clear d1 d2
   go_region
   go_wp2_with fail
   refine bodyPost_ret (v := .tuple #[.agg #[.bool nq, .slice aq lq cq], .agg #[.bool false, .slice ar lr cr]]) (by simp [results, Tryz.results75, go_sem, kr0, kr1, ks0, ks1]) rfl
    (isZZ_end hq hr hE.R.kind hE.S.kind hE.W (by omega) (by omega) _ _ _ _)
  ·-- C0
   have hm0 : ¬ m < 0 := by simpa using hna
   have hn0 : n < 0 := by simpa using hnb
   clear hna hnb
   obtain ⟨sl0, sn0⟩ := isZ_sign hr
   have hl0 : lr = 0 := sl0.2 (by omega)
   subst hl0
   clear sl0 sn0
   have ka0 := hE.A.c0
   have kb0 := hE.B.c0
   have kb1 := hE.B.c1
   have kq0 := hQ.c0
   have kq1 := hQ.c1
   have kq2 := hQ.f0
   have kq3 := hQ.f1
   have kt0 := hT.c0
   have kt1 := hT.c1
   have kt2 := hT.f0
   have kt3 := hT.f1
   have kr0 := hE.R.c0
   have kr1 := hE.R.c1
   have kr2 := hE.R.f0
   have kr3 := hE.R.f1
   have ks0 := hE.S.c0
   have ks1 := hE.S.c1
   have ks2 := hE.S.f0
   have ks3 := hE.S.f1
   go_wp2_with fail
   refine (neg_any _ _ _ _ ((m.natAbs : Int) / n.natAbs) _ hq (hqb.fit (by omega))).mono ?_
   rintro e w1 ⟨n1, a1, l1, c1, rfl, hz1, hb1⟩
   have x1 : Ext _ w1 := hb1
   clear ka0 kb0 kb1 kq0 kq1 kq2 kq3 kt0 kt1 kt2 kt3 kr0 kr1 kr2 kr3 ks0 ks1 ks2 ks3
   replace hE := hE.ext x1
   replace hQ := hQ.ext x1
   replace hT := hT.ext x1
   replace hq := hq.ext x1
   replace hr := hr.ext x1
   have ka0 := hE.A.c0
   have kb0 := hE.B.c0
   have kb1 := hE.B.c1
   have kq0 := hQ.c0
   have kq1 := hQ.c1
   have kq2 := hQ.f0
   have kq3 := hQ.f1
   have kt0 := hT.c0
   have kt1 := hT.c1
   have kt2 := hT.f0
   have kt3 := hT.f1
   have kr0 := hE.R.c0
   have kr1 := hE.R.c1
   have kr2 := hE.R.f0
   have kr3 := hE.R.f1
   have ks0 := hE.S.c0
   have ks1 := hE.S.c1
   have ks2 := hE.S.f0
   have ks3 := hE.S.f1
   go_wp2_with fail
   clear ka0 kb0 kb1 kq0 kq1 kq2 kq3 kt0 kt1 kt2 kt3 kr0 kr1 kr2 kr3 ks0 ks1 ks2 ks3
   obtain ⟨V1, hV1⟩ : ∃ V, V = (w1.setCell ⟨k6, 0, none⟩ (.bool n1)).setCell ⟨k6, 1, none⟩ (.slice a1 l1 c1) := ⟨_, rfl⟩
   replace hr := hr.set2 hQ.kind (by decide) (.bool n1) (.slice a1 l1 c1)
   replace hq := hz1.set2 hQ.kind (by decide) (.bool n1) (.slice a1 l1 c1)
   replace hT := hT.other2 (Ne.symm hne) (.bool n1) (.slice a1 l1 c1)
   replace hE := hE.set2 (k := k6) (by omega) (.bool n1) (.slice a1 l1 c1)
   replace hQ := hQ.set (.bool n1) (.slice a1 l1 c1)
   rw [← hV1] at hq hr hQ hT hE ⊢
   clear hV1 hz1 x1 hb1
   have ka0 := hE.A.c0
   have kb0 := hE.B.c0
   have kb1 := hE.B.c1
   have kq0 := hQ.c0
   have kq1 := hQ.c1
   have kq2 := hQ.f0
   have kq3 := hQ.f1
   have kt0 := hT.c0
   have kt1 := hT.c1
   have kt2 := hT.f0
   have kt3 := hT.f1
   have kr0 := hE.R.c0
   have kr1 := hE.R.c1
   have kr2 := hE.R.f0
   have kr3 := hE.R.f1
   have ks0 := hE.S.c0
   have ks1 := hE.S.c1
   have ks2 := hE.S.f0
   have ks3 := hE.S.f1
   obtain ⟨d1, d2⟩ := div_C0 (m := m) (n := n) (by omega) (by omega) h0
   rw [← d1] at hq
   rw [← d2] at hr
   clear d1 d2
   go_region
   go_wp2_with fail
   refine bodyPost_ret (v := .tuple #[.agg #[.bool n1, .slice a1 l1 c1], .agg #[.bool nr, .slice ar 0 cr]]) (by simp [results, Tryz.results75, go_sem, kr0, kr1, ks0, ks1]) rfl
    (isZZ_end hq hr hE.R.kind hE.S.kind hE.W (by omega) (by omega) _ _ _ _)
  ·-- C1
   have hm0 : ¬ m < 0 := by simpa using hna
   have hn0 : n < 0 := by simpa using hnb
   clear hna hnb
   obtain ⟨sl0, sn0⟩ := isZ_sign hr
   have hl0 : 0 < lr := by
    have : lr ≠ 0 := fun e => by have := sl0.1 e; omega
    omega
   obtain rfl : nr = false := by rw [sn0]; simp; omega
   clear sl0 sn0
   have ka0 := hE.A.c0
   have kb0 := hE.B.c0
   have kb1 := hE.B.c1
   have kq0 := hQ.c0
   have kq1 := hQ.c1
   have kq2 := hQ.f0
   have kq3 := hQ.f1
   have kt0 := hT.c0
   have kt1 := hT.c1
   have kt2 := hT.f0
   have kt3 := hT.f1
   have kr0 := hE.R.c0
   have kr1 := hE.R.c1
   have kr2 := hE.R.f0
   have kr3 := hE.R.f1
   have ks0 := hE.S.c0
   have ks1 := hE.S.c1
   have ks2 := hE.S.f0
   have ks3 := hE.S.f1
   go_wp2_with fail
   refine (neg_any _ _ _ _ ((m.natAbs : Int) / n.natAbs) _ hq (hqb.fit (by omega))).mono ?_
   rintro e w1 ⟨n1, a1, l1, c1, rfl, hz1, hb1⟩
   have x1 : Ext _ w1 := hb1
   clear ka0 kb0 kb1 kq0 kq1 kq2 kq3 kt0 kt1 kt2 kt3 kr0 kr1 kr2 kr3 ks0 ks1 ks2 ks3
   replace hE := hE.ext x1
   replace hQ := hQ.ext x1
   replace hT := hT.ext x1
   replace hq := hq.ext x1
   replace hr := hr.ext x1
   have ka0 := hE.A.c0
   have kb0 := hE.B.c0
   have kb1 := hE.B.c1
   have kq0 := hQ.c0
   have kq1 := hQ.c1
   have kq2 := hQ.f0
   have kq3 := hQ.f1
   have kt0 := hT.c0
   have kt1 := hT.c1
   have kt2 := hT.f0
   have kt3 := hT.f1
   have kr0 := hE.R.c0
   have kr1 := hE.R.c1
   have kr2 := hE.R.f0
   have kr3 := hE.R.f1
   have ks0 := hE.S.c0
   have ks1 := hE.S.c1
   have ks2 := hE.S.f0
   have ks3 := hE.S.f1
   go_wp2_with fail
   clear ka0 kb0 kb1 kq0 kq1 kq2 kq3 kt0 kt1 kt2 kt3 kr0 kr1 kr2 kr3 ks0 ks1 ks2 ks3
   obtain ⟨V1, hV1⟩ : ∃ V, V = (w1.setCell ⟨k6, 0, none⟩ (.bool n1)).setCell ⟨k6, 1, none⟩ (.slice a1 l1 c1) := ⟨_, rfl⟩
   replace hr := hr.set2 hQ.kind (by decide) (.bool n1) (.slice a1 l1 c1)
   replace hq := hz1.set2 hQ.kind (by decide) (.bool n1) (.slice a1 l1 c1)
   replace hT := hT.other2 (Ne.symm hne) (.bool n1) (.slice a1 l1 c1)
   replace hE := hE.set2 (k := k6) (by omega) (.bool n1) (.slice a1 l1 c1)
   replace hQ := hQ.set (.bool n1) (.slice a1 l1 c1)
   rw [← hV1] at hq hr hQ hT hE ⊢
   clear hV1 hz1 x1 hb1
   have ka0 := hE.A.c0
   have kb0 := hE.B.c0
   have kb1 := hE.B.c1
   have kq0 := hQ.c0
   have kq1 := hQ.c1
   have kq2 := hQ.f0
   have kq3 := hQ.f1
   have kt0 := hT.c0
   have kt1 := hT.c1
   have kt2 := hT.f0
   have kt3 := hT.f1
   have kr0 := hE.R.c0
   have kr1 := hE.R.c1
   have kr2 := hE.R.f0
   have kr3 := hE.R.f1
   have ks0 := hE.S.c0
   have ks1 := hE.S.c1
   have ks2 := hE.S.f0
   have ks3 := hE.S.f1
   go_region_with (first
    | (go_at_call 39; refine (ofu_any 1 _ (by omega) (by omega)).mono ?_; rintro e w8 ⟨n8, a8, l8, c8, rfl, hz8, hb8⟩; have p0 := (hQ.drew.below hb8).c0; have p1 := (hQ.drew.below hb8).c1)
    | (go_at_call 38; refine (sub_z _ _ _ _ _ _ _ _ (-((m.natAbs : Int) / n.natAbs)) 1 _ (hq.drew.below hb8) hz8 (hqb.neg.fit (by omega)) (Bits.fit (k := 1) (by unfold Bits; omega) (by omega))).mono ?_; rintro e w9 ⟨n9, a9, l9, c9, rfl, hz9, hb9⟩; have q := ((hQ.drew.below hb8).below hb9); have q0 := q.c0; have q1 := q.c1; have q2 := q.f0; have q3 := q.f1))
   all_goals
    clear p0 p1 q0 q1 q2 q3 q
    clear ka0 kb0 kb1 kq0 kq1 kq2 kq3 kt0 kt1 kt2 kt3 kr0 kr1 kr2 kr3 ks0 ks1 ks2 ks3
    have x8 : Ext _ w8 := hb8
    have x9 : Ext _ w9 := hb9
    replace hE := (hE.drew.ext x8).ext x9
    replace hQ := (hQ.drew.ext x8).ext x9
    replace hT := (hT.drew.ext x8).ext x9
    replace hr := (hr.drew.ext x8).ext x9
    have ka0 := hE.A.c0
    have kb0 := hE.B.c0
    have kb1 := hE.B.c1
    have kq0 := hQ.c0
    have kq1 := hQ.c1
    have kq2 := hQ.f0
    have kq3 := hQ.f1
    have kt0 := hT.c0
    have kt1 := hT.c1
    have kt2 := hT.f0
    have kt3 := hT.f1
    have kr0 := hE.R.c0
    have kr1 := hE.R.c1
    have kr2 := hE.R.f0
    have kr3 := hE.R.f1
    have ks0 := hE.S.c0
    have ks1 := hE.S.c1
    have ks2 := hE.S.f0
    have ks3 := hE.S.f1
    clear hq hz8 hb8 hb9
    go_wp2_with fail
    clear ka0 kb0 kb1 kq0 kq1 kq2 kq3 kt0 kt1 kt2 kt3 kr0 kr1 kr2 kr3 ks0 ks1 ks2 ks3
    obtain ⟨V9, hV9⟩ : ∃ V, V = (w9.setCell ⟨k6, 0, none⟩ (.bool n9)).setCell ⟨k6, 1, none⟩ (.slice a9 l9 c9) := ⟨_, rfl⟩
    have hq := hz9
    replace hr := hr.set2 hQ.kind (by decide) (.bool n9) (.slice a9 l9 c9)
    replace hq := hz9.set2 hQ.kind (by decide) (.bool n9) (.slice a9 l9 c9)
    replace hT := hT.other2 (Ne.symm hne) (.bool n9) (.slice a9 l9 c9)
    replace hE := hE.set2 (k := k6) (by omega) (.bool n9) (.slice a9 l9 c9)
    replace hQ := hQ.set (.bool n9) (.slice a9 l9 c9)
    rw [← hV9] at hq hr hQ hT hE ⊢
    clear hV9 hz9 x8 x9
    have ka0 := hE.A.c0
    have kb0 := hE.B.c0
    have kb1 := hE.B.c1
    have kq0 := hQ.c0
    have kq1 := hQ.c1
    have kq2 := hQ.f0
    have kq3 := hQ.f1
    have kt0 := hT.c0
    have kt1 := hT.c1
    have kt2 := hT.f0
    have kt3 := hT.f1
    have kr0 := hE.R.c0
    have kr1 := hE.R.c1
    have kr2 := hE.R.f0
    have kr3 := hE.R.f1
    have ks0 := hE.S.c0
    have ks1 := hE.S.c1
    have ks2 := hE.S.f0
    have ks3 := hE.S.f1
    refine (add_z _ _ _ _ _ _ _ _ ((m.natAbs : Int) % n.natAbs) n _ hr (hzb.ext hE.W) (hrb.fit (by omega)) (hn.fit (by omega))).mono ?_
    rintro e w2 ⟨n2, a2, l2, c2, rfl, hz2, hb2⟩
    have x2 : Ext _ w2 := hb2
    clear ka0 kb0 kb1 kq0 kq1 kq2 kq3 kt0 kt1 kt2 kt3 kr0 kr1 kr2 kr3 ks0 ks1 ks2 ks3
    replace hE := hE.ext x2
    replace hQ := hQ.ext x2
    replace hT := hT.ext x2
    replace hq := hq.ext x2
    replace hr := hr.ext x2
    have ka0 := hE.A.c0
    have kb0 := hE.B.c0
    have kb1 := hE.B.c1
    have kq0 := hQ.c0
    have kq1 := hQ.c1
    have kq2 := hQ.f0
    have kq3 := hQ.f1
    have kt0 := hT.c0
    have kt1 := hT.c1
    have kt2 := hT.f0
    have kt3 := hT.f1
    have kr0 := hE.R.c0
    have kr1 := hE.R.c1
    have kr2 := hE.R.f0
    have kr3 := hE.R.f1
    have ks0 := hE.S.c0
    have ks1 := hE.S.c1
    have ks2 := hE.S.f0
    have ks3 := hE.S.f1
    go_wp2_with fail
    clear ka0 kb0 kb1 kq0 kq1 kq2 kq3 kt0 kt1 kt2 kt3 kr0 kr1 kr2 kr3 ks0 ks1 ks2 ks3
    obtain ⟨V2, hV2⟩ : ∃ V, V = (w2.setCell ⟨k7, 0, none⟩ (.bool n2)).setCell ⟨k7, 1, none⟩ (.slice a2 l2 c2) := ⟨_, rfl⟩
    replace hq := hq.set2 hT.kind (by decide) (.bool n2) (.slice a2 l2 c2)
    replace hr := hz2.set2 hT.kind (by decide) (.bool n2) (.slice a2 l2 c2)
    replace hQ := hQ.other2 hne (.bool n2) (.slice a2 l2 c2)
    replace hE := hE.set2 (k := k7) (by omega) (.bool n2) (.slice a2 l2 c2)
    replace hT := hT.set (.bool n2) (.slice a2 l2 c2)
    rw [← hV2] at hq hr hQ hT hE ⊢
    clear hV2 hz2 x2 hb2
    have ka0 := hE.A.c0
    have kb0 := hE.B.c0
    have kb1 := hE.B.c1
    have kq0 := hQ.c0
    have kq1 := hQ.c1
    have kq2 := hQ.f0
    have kq3 := hQ.f1
    have kt0 := hT.c0
    have kt1 := hT.c1
    have kt2 := hT.f0
    have kt3 := hT.f1
    have kr0 := hE.R.c0
    have kr1 := hE.R.c1
    have kr2 := hE.R.f0
    have kr3 := hE.R.f1
    have ks0 := hE.S.c0
    have ks1 := hE.S.c1
    have ks2 := hE.S.f0
    have ks3 := hE.S.f1
    obtain ⟨d1, d2⟩ := div_C1 (m := m) (n := n) (by omega) (by omega) h0
    rw [← d1] at hq
    rw [← d2] at hr
    clear d1 d2
    go_region
    go_wp2_with fail
    refine bodyPost_ret (v := .tuple #[.agg #[.bool n9, .slice a9 l9 c9], .agg #[.bool n2, .slice a2 l2 c2]]) (by simp [results, Tryz.results75, go_sem, kr0, kr1, ks0, ks1]) rfl
     (isZZ_end hq hr hE.R.kind hE.S.kind hE.W (by omega) (by omega) _ _ _ _)
  ·-- D0
   have hm0 : m < 0 := by simpa using hna
   have hn0' : ¬ n < 0 := by simpa using hnb
   have hn0 : 0 < n := by omega
   clear hn0'
   clear hna hnb
   have ka0 := hE.A.c0
   have kb0 := hE.B.c0
   have kb1 := hE.B.c1
   have kq0 := hQ.c0
   have kq1 := hQ.c1
   have kq2 := hQ.f0
   have kq3 := hQ.f1
   have kt0 := hT.c0
   have kt1 := hT.c1
   have kt2 := hT.f0
   have kt3 := hT.f1
   have kr0 := hE.R.c0
   have kr1 := hE.R.c1
   have kr2 := hE.R.f0
   have kr3 := hE.R.f1
   have ks0 := hE.S.c0
   have ks1 := hE.S.c1
   have ks2 := hE.S.f0
   have ks3 := hE.S.f1
   go_wp2_with fail
   refine (neg_any _ _ _ _ ((m.natAbs : Int) / n.natAbs) _ hq (hqb.fit (by omega))).mono ?_
   rintro e w1 ⟨n1, a1, l1, c1, rfl, hz1, hb1⟩
   have x1 : Ext _ w1 := hb1
   clear ka0 kb0 kb1 kq0 kq1 kq2 kq3 kt0 kt1 kt2 kt3 kr0 kr1 kr2 kr3 ks0 ks1 ks2 ks3
   replace hE := hE.ext x1
   replace hQ := hQ.ext x1
   replace hT := hT.ext x1
   replace hq := hq.ext x1
   replace hr := hr.ext x1
   have ka0 := hE.A.c0
   have kb0 := hE.B.c0
   have kb1 := hE.B.c1
   have kq0 := hQ.c0
   have kq1 := hQ.c1
   have kq2 := hQ.f0
   have kq3 := hQ.f1
   have kt0 := hT.c0
   have kt1 := hT.c1
   have kt2 := hT.f0
   have kt3 := hT.f1
   have kr0 := hE.R.c0
   have kr1 := hE.R.c1
   have kr2 := hE.R.f0
   have kr3 := hE.R.f1
   have ks0 := hE.S.c0
   have ks1 := hE.S.c1
   have ks2 := hE.S.f0
   have ks3 := hE.S.f1
   go_wp2_with fail
   clear ka0 kb0 kb1 kq0 kq1 kq2 kq3 kt0 kt1 kt2 kt3 kr0 kr1 kr2 kr3 ks0 ks1 ks2 ks3
   obtain ⟨V1, hV1⟩ : ∃ V, V = (w1.setCell ⟨k6, 0, none⟩ (.bool n1)).setCell ⟨k6, 1, none⟩ (.slice a1 l1 c1) := ⟨_, rfl⟩
   replace hr := hr.set2 hQ.kind (by decide) (.bool n1) (.slice a1 l1 c1)
   replace hq := hz1.set2 hQ.kind (by decide) (.bool n1) (.slice a1 l1 c1)
   replace hT := hT.other2 (Ne.symm hne) (.bool n1) (.slice a1 l1 c1)
   replace hE := hE.set2 (k := k6) (by omega) (.bool n1) (.slice a1 l1 c1)
   replace hQ := hQ.set (.bool n1) (.slice a1 l1 c1)
   rw [← hV1] at hq hr hQ hT hE ⊢
   clear hV1 hz1 x1 hb1
   have ka0 := hE.A.c0
   have kb0 := hE.B.c0
   have kb1 := hE.B.c1
   have kq0 := hQ.c0
   have kq1 := hQ.c1
   have kq2 := hQ.f0
   have kq3 := hQ.f1
   have kt0 := hT.c0
   have kt1 := hT.c1
   have kt2 := hT.f0
   have kt3 := hT.f1
   have kr0 := hE.R.c0
   have kr1 := hE.R.c1
   have kr2 := hE.R.f0
   have kr3 := hE.R.f1
   have ks0 := hE.S.c0
   have ks1 := hE.S.c1
   have ks2 := hE.S.f0
   have ks3 := hE.S.f1
   refine (neg_any _ _ _ _ ((m.natAbs : Int) % n.natAbs) _ hr (hrb.fit (by omega))).mono ?_
   rintro e w2 ⟨n2, a2, l2, c2, rfl, hz2, hb2⟩
   have x2 : Ext _ w2 := hb2
   obtain ⟨sl2, sn2⟩ := isZ_sign hz2
   have hl2 : l2 = 0 := sl2.2 (by omega)
   subst hl2
   clear sl2 sn2
   clear ka0 kb0 kb1 kq0 kq1 kq2 kq3 kt0 kt1 kt2 kt3 kr0 kr1 kr2 kr3 ks0 ks1 ks2 ks3
   replace hE := hE.ext x2
   replace hQ := hQ.ext x2
   replace hT := hT.ext x2
   replace hq := hq.ext x2
   replace hr := hr.ext x2
   have ka0 := hE.A.c0
   have kb0 := hE.B.c0
   have kb1 := hE.B.c1
   have kq0 := hQ.c0
   have kq1 := hQ.c1
   have kq2 := hQ.f0
   have kq3 := hQ.f1
   have kt0 := hT.c0
   have kt1 := hT.c1
   have kt2 := hT.f0
   have kt3 := hT.f1
   have kr0 := hE.R.c0
   have kr1 := hE.R.c1
   have kr2 := hE.R.f0
   have kr3 := hE.R.f1
   have ks0 := hE.S.c0
   have ks1 := hE.S.c1
   have ks2 := hE.S.f0
   have ks3 := hE.S.f1
   go_wp2_with fail
   clear ka0 kb0 kb1 kq0 kq1 kq2 kq3 kt0 kt1 kt2 kt3 kr0 kr1 kr2 kr3 ks0 ks1 ks2 ks3
   obtain ⟨V2, hV2⟩ : ∃ V, V = (w2.setCell ⟨k7, 0, none⟩ (.bool n2)).setCell ⟨k7, 1, none⟩ (.slice a2 0 c2) := ⟨_, rfl⟩
   replace hq := hq.set2 hT.kind (by decide) (.bool n2) (.slice a2 0 c2)
   replace hr := hz2.set2 hT.kind (by decide) (.bool n2) (.slice a2 0 c2)
   replace hQ := hQ.other2 hne (.bool n2) (.slice a2 0 c2)
   replace hE := hE.set2 (k := k7) (by omega) (.bool n2) (.slice a2 0 c2)
   replace hT := hT.set (.bool n2) (.slice a2 0 c2)
   rw [← hV2] at hq hr hQ hT hE ⊢
   clear hV2 hz2 x2 hb2
   have ka0 := hE.A.c0
   have kb0 := hE.B.c0
   have kb1 := hE.B.c1
   have kq0 := hQ.c0
   have kq1 := hQ.c1
   have kq2 := hQ.f0
   have kq3 := hQ.f1
   have kt0 := hT.c0
   have kt1 := hT.c1
   have kt2 := hT.f0
   have kt3 := hT.f1
   have kr0 := hE.R.c0
   have kr1 := hE.R.c1
   have kr2 := hE.R.f0
   have kr3 := hE.R.f1
   have ks0 := hE.S.c0
   have ks1 := hE.S.c1
   have ks2 := hE.S.f0
   have ks3 := hE.S.f1
   obtain ⟨d1, d2⟩ := div_D0 (m := m) (n := n) (by omega) (by omega) h0
   rw [← d1] at hq
   rw [← d2] at hr
   clear d1 d2
   go_region
   go_wp2_with fail
   refine bodyPost_ret (v := .tuple #[.agg #[.bool n1, .slice a1 l1 c1], .agg #[.bool n2, .slice a2 0 c2]]) (by simp [results, Tryz.results75, go_sem, kr0, kr1, ks0, ks1]) rfl
    (isZZ_end hq hr hE.R.kind hE.S.kind hE.W (by omega) (by omega) _ _ _ _)
  ·-- D1
   have hm0 : m < 0 := by simpa using hna
   have hn0' : ¬ n < 0 := by simpa using hnb
   have hn0 : 0 < n := by omega
   clear hn0'
   clear hna hnb
   have ka0 := hE.A.c0
   have kb0 := hE.B.c0
   have kb1 := hE.B.c1
   have kq0 := hQ.c0
   have kq1 := hQ.c1
   have kq2 := hQ.f0
   have kq3 := hQ.f1
   have kt0 := hT.c0
   have kt1 := hT.c1
   have kt2 := hT.f0
   have kt3 := hT.f1
   have kr0 := hE.R.c0
   have kr1 := hE.R.c1
   have kr2 := hE.R.f0
   have kr3 := hE.R.f1
   have ks0 := hE.S.c0
   have ks1 := hE.S.c1
   have ks2 := hE.S.f0
   have ks3 := hE.S.f1
   go_wp2_with fail
   refine (neg_any _ _ _ _ ((m.natAbs : Int) / n.natAbs) _ hq (hqb.fit (by omega))).mono ?_
   rintro e w1 ⟨n1, a1, l1, c1, rfl, hz1, hb1⟩
   have x1 : Ext _ w1 := hb1
   clear ka0 kb0 kb1 kq0 kq1 kq2 kq3 kt0 kt1 kt2 kt3 kr0 kr1 kr2 kr3 ks0 ks1 ks2 ks3
   replace hE := hE.ext x1
   replace hQ := hQ.ext x1
   replace hT := hT.ext x1
   replace hq := hq.ext x1
   replace hr := hr.ext x1
   have ka0 := hE.A.c0
   have kb0 := hE.B.c0
   have kb1 := hE.B.c1
   have kq0 := hQ.c0
   have kq1 := hQ.c1
   have kq2 := hQ.f0
   have kq3 := hQ.f1
   have kt0 := hT.c0
   have kt1 := hT.c1
   have kt2 := hT.f0
   have kt3 := hT.f1
   have kr0 := hE.R.c0
   have kr1 := hE.R.c1
   have kr2 := hE.R.f0
   have kr3 := hE.R.f1
   have ks0 := hE.S.c0
   have ks1 := hE.S.c1
   have ks2 := hE.S.f0
   have ks3 := hE.S.f1
   go_wp2_with fail
   clear ka0 kb0 kb1 kq0 kq1 kq2 kq3 kt0 kt1 kt2 kt3 kr0 kr1 kr2 kr3 ks0 ks1 ks2 ks3
   obtain ⟨V1, hV1⟩ : ∃ V, V = (w1.setCell ⟨k6, 0, none⟩ (.bool n1)).setCell ⟨k6, 1, none⟩ (.slice a1 l1 c1) := ⟨_, rfl⟩
   replace hr := hr.set2 hQ.kind (by decide) (.bool n1) (.slice a1 l1 c1)
   replace hq := hz1.set2 hQ.kind (by decide) (.bool n1) (.slice a1 l1 c1)
   replace hT := hT.other2 (Ne.symm hne) (.bool n1) (.slice a1 l1 c1)
   replace hE := hE.set2 (k := k6) (by omega) (.bool n1) (.slice a1 l1 c1)
   replace hQ := hQ.set (.bool n1) (.slice a1 l1 c1)
   rw [← hV1] at hq hr hQ hT hE ⊢
   clear hV1 hz1 x1 hb1
   have ka0 := hE.A.c0
   have kb0 := hE.B.c0
   have kb1 := hE.B.c1
   have kq0 := hQ.c0
   have kq1 := hQ.c1
   have kq2 := hQ.f0
   have kq3 := hQ.f1
   have kt0 := hT.c0
   have kt1 := hT.c1
   have kt2 := hT.f0
   have kt3 := hT.f1
   have kr0 := hE.R.c0
   have kr1 := hE.R.c1
   have kr2 := hE.R.f0
   have kr3 := hE.R.f1
   have ks0 := hE.S.c0
   have ks1 := hE.S.c1
   have ks2 := hE.S.f0
   have ks3 := hE.S.f1
   refine (neg_any _ _ _ _ ((m.natAbs : Int) % n.natAbs) _ hr (hrb.fit (by omega))).mono ?_
   rintro e w2 ⟨n2, a2, l2, c2, rfl, hz2, hb2⟩
   have x2 : Ext _ w2 := hb2
   obtain ⟨sl2, sn2⟩ := isZ_sign hz2
   have hl2 : 0 < l2 := by
    have : l2 ≠ 0 := fun e => by have := sl2.1 e; omega
    omega
   obtain rfl : n2 = true := by rw [sn2]; simp; omega
   clear sl2 sn2
   clear ka0 kb0 kb1 kq0 kq1 kq2 kq3 kt0 kt1 kt2 kt3 kr0 kr1 kr2 kr3 ks0 ks1 ks2 ks3
   replace hE := hE.ext x2
   replace hQ := hQ.ext x2
   replace hT := hT.ext x2
   replace hq := hq.ext x2
   replace hr := hr.ext x2
   have ka0 := hE.A.c0
   have kb0 := hE.B.c0
   have kb1 := hE.B.c1
   have kq0 := hQ.c0
   have kq1 := hQ.c1
   have kq2 := hQ.f0
   have kq3 := hQ.f1
   have kt0 := hT.c0
   have kt1 := hT.c1
   have kt2 := hT.f0
   have kt3 := hT.f1
   have kr0 := hE.R.c0
   have kr1 := hE.R.c1
   have kr2 := hE.R.f0
   have kr3 := hE.R.f1
   have ks0 := hE.S.c0
   have ks1 := hE.S.c1
   have ks2 := hE.S.f0
   have ks3 := hE.S.f1
   go_wp2_with fail
   clear ka0 kb0 kb1 kq0 kq1 kq2 kq3 kt0 kt1 kt2 kt3 kr0 kr1 kr2 kr3 ks0 ks1 ks2 ks3
   obtain ⟨V2, hV2⟩ : ∃ V, V = (w2.setCell ⟨k7, 0, none⟩ (.bool true)).setCell ⟨k7, 1, none⟩ (.slice a2 l2 c2) := ⟨_, rfl⟩
   replace hq := hq.set2 hT.kind (by decide) (.bool true) (.slice a2 l2 c2)
   replace hr := hz2.set2 hT.kind (by decide) (.bool true) (.slice a2 l2 c2)
   replace hQ := hQ.other2 hne (.bool true) (.slice a2 l2 c2)
   replace hE := hE.set2 (k := k7) (by omega) (.bool true) (.slice a2 l2 c2)
   replace hT := hT.set (.bool true) (.slice a2 l2 c2)
   rw [← hV2] at hq hr hQ hT hE ⊢
   clear hV2 hz2 x2 hb2
   have ka0 := hE.A.c0
   have kb0 := hE.B.c0
   have kb1 := hE.B.c1
   have kq0 := hQ.c0
   have kq1 := hQ.c1
   have kq2 := hQ.f0
   have kq3 := hQ.f1
   have kt0 := hT.c0
   have kt1 := hT.c1
   have kt2 := hT.f0
   have kt3 := hT.f1
   have kr0 := hE.R.c0
   have kr1 := hE.R.c1
   have kr2 := hE.R.f0
   have kr3 := hE.R.f1
   have ks0 := hE.S.c0
   have ks1 := hE.S.c1
   have ks2 := hE.S.f0
   have ks3 := hE.S.f1
   go_region_with (first
    | (go_at_call 39; refine (ofu_any 1 _ (by omega) (by omega)).mono ?_; rintro e w8 ⟨n8, a8, l8, c8, rfl, hz8, hb8⟩; have p0 := (hQ.drew.below hb8).c0; have p1 := (hQ.drew.below hb8).c1)
    | (go_at_call 38; refine (sub_z _ _ _ _ _ _ _ _ (-((m.natAbs : Int) / n.natAbs)) 1 _ (hq.drew.below hb8) hz8 (hqb.neg.fit (by omega)) (Bits.fit (k := 1) (by unfold Bits; omega) (by omega))).mono ?_; rintro e w9 ⟨n9, a9, l9, c9, rfl, hz9, hb9⟩; have q := ((hQ.drew.below hb8).below hb9); have q0 := q.c0; have q1 := q.c1; have q2 := q.f0; have q3 := q.f1))
   all_goals
    clear p0 p1 q0 q1 q2 q3 q
    clear ka0 kb0 kb1 kq0 kq1 kq2 kq3 kt0 kt1 kt2 kt3 kr0 kr1 kr2 kr3 ks0 ks1 ks2 ks3
    have x8 : Ext _ w8 := hb8
    have x9 : Ext _ w9 := hb9
    replace hE := (hE.drew.ext x8).ext x9
    replace hQ := (hQ.drew.ext x8).ext x9
    replace hT := (hT.drew.ext x8).ext x9
    replace hr := (hr.drew.ext x8).ext x9
    have ka0 := hE.A.c0
    have kb0 := hE.B.c0
    have kb1 := hE.B.c1
    have kq0 := hQ.c0
    have kq1 := hQ.c1
    have kq2 := hQ.f0
    have kq3 := hQ.f1
    have kt0 := hT.c0
    have kt1 := hT.c1
    have kt2 := hT.f0
    have kt3 := hT.f1
    have kr0 := hE.R.c0
    have kr1 := hE.R.c1
    have kr2 := hE.R.f0
    have kr3 := hE.R.f1
    have ks0 := hE.S.c0
    have ks1 := hE.S.c1
    have ks2 := hE.S.f0
    have ks3 := hE.S.f1
    clear hq hz8 hb8 hb9
    go_wp2_with fail
    clear ka0 kb0 kb1 kq0 kq1 kq2 kq3 kt0 kt1 kt2 kt3 kr0 kr1 kr2 kr3 ks0 ks1 ks2 ks3
    obtain ⟨V9, hV9⟩ : ∃ V, V = (w9.setCell ⟨k6, 0, none⟩ (.bool n9)).setCell ⟨k6, 1, none⟩ (.slice a9 l9 c9) := ⟨_, rfl⟩
    have hq := hz9
    replace hr := hr.set2 hQ.kind (by decide) (.bool n9) (.slice a9 l9 c9)
    replace hq := hz9.set2 hQ.kind (by decide) (.bool n9) (.slice a9 l9 c9)
    replace hT := hT.other2 (Ne.symm hne) (.bool n9) (.slice a9 l9 c9)
    replace hE := hE.set2 (k := k6) (by omega) (.bool n9) (.slice a9 l9 c9)
    replace hQ := hQ.set (.bool n9) (.slice a9 l9 c9)
    rw [← hV9] at hq hr hQ hT hE ⊢
    clear hV9 hz9 x8 x9
    have ka0 := hE.A.c0
    have kb0 := hE.B.c0
    have kb1 := hE.B.c1
    have kq0 := hQ.c0
    have kq1 := hQ.c1
    have kq2 := hQ.f0
    have kq3 := hQ.f1
    have kt0 := hT.c0
    have kt1 := hT.c1
    have kt2 := hT.f0
    have kt3 := hT.f1
    have kr0 := hE.R.c0
    have kr1 := hE.R.c1
    have kr2 := hE.R.f0
    have kr3 := hE.R.f1
    have ks0 := hE.S.c0
    have ks1 := hE.S.c1
    have ks2 := hE.S.f0
    have ks3 := hE.S.f1
    refine (add_z _ _ _ _ _ _ _ _ (-((m.natAbs : Int) % n.natAbs)) n _ hr (hzb.ext hE.W) (hrb.neg.fit (by omega)) (hn.fit (by omega))).mono ?_
    rintro e w3 ⟨n3, a3, l3, c3, rfl, hz3, hb3⟩
    have x3 : Ext _ w3 := hb3
    clear ka0 kb0 kb1 kq0 kq1 kq2 kq3 kt0 kt1 kt2 kt3 kr0 kr1 kr2 kr3 ks0 ks1 ks2 ks3
    replace hE := hE.ext x3
    replace hQ := hQ.ext x3
    replace hT := hT.ext x3
    replace hq := hq.ext x3
    replace hr := hr.ext x3
    have ka0 := hE.A.c0
    have kb0 := hE.B.c0
    have kb1 := hE.B.c1
    have kq0 := hQ.c0
    have kq1 := hQ.c1
    have kq2 := hQ.f0
    have kq3 := hQ.f1
    have kt0 := hT.c0
    have kt1 := hT.c1
    have kt2 := hT.f0
    have kt3 := hT.f1
    have kr0 := hE.R.c0
    have kr1 := hE.R.c1
    have kr2 := hE.R.f0
    have kr3 := hE.R.f1
    have ks0 := hE.S.c0
    have ks1 := hE.S.c1
    have ks2 := hE.S.f0
    have ks3 := hE.S.f1
    go_wp2_with fail
    clear ka0 kb0 kb1 kq0 kq1 kq2 kq3 kt0 kt1 kt2 kt3 kr0 kr1 kr2 kr3 ks0 ks1 ks2 ks3
    obtain ⟨V3, hV3⟩ : ∃ V, V = (w3.setCell ⟨k7, 0, none⟩ (.bool n3)).setCell ⟨k7, 1, none⟩ (.slice a3 l3 c3) := ⟨_, rfl⟩
    replace hq := hq.set2 hT.kind (by decide) (.bool n3) (.slice a3 l3 c3)
    replace hr := hz3.set2 hT.kind (by decide) (.bool n3) (.slice a3 l3 c3)
    replace hQ := hQ.other2 hne (.bool n3) (.slice a3 l3 c3)
    replace hE := hE.set2 (k := k7) (by omega) (.bool n3) (.slice a3 l3 c3)
    replace hT := hT.set (.bool n3) (.slice a3 l3 c3)
    rw [← hV3] at hq hr hQ hT hE ⊢
    clear hV3 hz3 x3 hb3
    have ka0 := hE.A.c0
    have kb0 := hE.B.c0
    have kb1 := hE.B.c1
    have kq0 := hQ.c0
    have kq1 := hQ.c1
    have kq2 := hQ.f0
    have kq3 := hQ.f1
    have kt0 := hT.c0
    have kt1 := hT.c1
    have kt2 := hT.f0
    have kt3 := hT.f1
    have kr0 := hE.R.c0
    have kr1 := hE.R.c1
    have kr2 := hE.R.f0
    have kr3 := hE.R.f1
    have ks0 := hE.S.c0
    have ks1 := hE.S.c1
    have ks2 := hE.S.f0
    have ks3 := hE.S.f1
    obtain ⟨d1, d2⟩ := div_D1 (m := m) (n := n) (by omega) (by omega) h0
    rw [← d1] at hq
    rw [← d2] at hr
    clear d1 d2
    go_region
    go_wp2_with fail
    refine bodyPost_ret (v := .tuple #[.agg #[.bool n9, .slice a9 l9 c9], .agg #[.bool n3, .slice a3 l3 c3]]) (by simp [results, Tryz.results75, go_sem, kr0, kr1, ks0, ks1]) rfl
     (isZZ_end hq hr hE.R.kind hE.S.kind hE.W (by omega) (by omega) _ _ _ _)
  ·-- B0
   have hm0 : m < 0 := by simpa using hna
   have hn0 : n < 0 := by simpa using hnb
   clear hna hnb
   have ka0 := hE.A.c0
   have kb0 := hE.B.c0
   have kb1 := hE.B.c1
   have kq0 := hQ.c0
   have kq1 := hQ.c1
   have kq2 := hQ.f0
   have kq3 := hQ.f1
   have kt0 := hT.c0
   have kt1 := hT.c1
   have kt2 := hT.f0
   have kt3 := hT.f1
   have kr0 := hE.R.c0
   have kr1 := hE.R.c1
   have kr2 := hE.R.f0
   have kr3 := hE.R.f1
   have ks0 := hE.S.c0
   have ks1 := hE.S.c1
   have ks2 := hE.S.f0
   have ks3 := hE.S.f1
   go_wp2_with fail
   refine (neg_any _ _ _ _ ((m.natAbs : Int) % n.natAbs) _ hr (hrb.fit (by omega))).mono ?_
   rintro e w1 ⟨n1, a1, l1, c1, rfl, hz1, hb1⟩
   have x1 : Ext _ w1 := hb1
   obtain ⟨sl1, sn1⟩ := isZ_sign hz1
   have hl1 : l1 = 0 := sl1.2 (by omega)
   subst hl1
   clear sl1 sn1
   clear ka0 kb0 kb1 kq0 kq1 kq2 kq3 kt0 kt1 kt2 kt3 kr0 kr1 kr2 kr3 ks0 ks1 ks2 ks3
   replace hE := hE.ext x1
   replace hQ := hQ.ext x1
   replace hT := hT.ext x1
   replace hq := hq.ext x1
   replace hr := hr.ext x1
   have ka0 := hE.A.c0
   have kb0 := hE.B.c0
   have kb1 := hE.B.c1
   have kq0 := hQ.c0
   have kq1 := hQ.c1
   have kq2 := hQ.f0
   have kq3 := hQ.f1
   have kt0 := hT.c0
   have kt1 := hT.c1
   have kt2 := hT.f0
   have kt3 := hT.f1
   have kr0 := hE.R.c0
   have kr1 := hE.R.c1
   have kr2 := hE.R.f0
   have kr3 := hE.R.f1
   have ks0 := hE.S.c0
   have ks1 := hE.S.c1
   have ks2 := hE.S.f0
   have ks3 := hE.S.f1
   go_wp2_with fail
   clear ka0 kb0 kb1 kq0 kq1 kq2 kq3 kt0 kt1 kt2 kt3 kr0 kr1 kr2 kr3 ks0 ks1 ks2 ks3
   obtain ⟨V1, hV1⟩ : ∃ V, V = (w1.setCell ⟨k7, 0, none⟩ (.bool n1)).setCell ⟨k7, 1, none⟩ (.slice a1 0 c1) := ⟨_, rfl⟩
   replace hq := hq.set2 hT.kind (by decide) (.bool n1) (.slice a1 0 c1)
   replace hr := hz1.set2 hT.kind (by decide) (.bool n1) (.slice a1 0 c1)
   replace hQ := hQ.other2 hne (.bool n1) (.slice a1 0 c1)
   replace hE := hE.set2 (k := k7) (by omega) (.bool n1) (.slice a1 0 c1)
   replace hT := hT.set (.bool n1) (.slice a1 0 c1)
   rw [← hV1] at hq hr hQ hT hE ⊢
   clear hV1 hz1 x1 hb1
   have ka0 := hE.A.c0
   have kb0 := hE.B.c0
   have kb1 := hE.B.c1
   have kq0 := hQ.c0
   have kq1 := hQ.c1
   have kq2 := hQ.f0
   have kq3 := hQ.f1
   have kt0 := hT.c0
   have kt1 := hT.c1
   have kt2 := hT.f0
   have kt3 := hT.f1
   have kr0 := hE.R.c0
   have kr1 := hE.R.c1
   have kr2 := hE.R.f0
   have kr3 := hE.R.f1
   have ks0 := hE.S.c0
   have ks1 := hE.S.c1
   have ks2 := hE.S.f0
   have ks3 := hE.S.f1
   obtain ⟨d1, d2⟩ := div_B (m := m) (n := n) (by omega) (by omega)
   rw [← d1] at hq
   rw [← d2] at hr
   clear d1 d2
   go_region
   go_wp2_with fail
   refine bodyPost_ret (v := .tuple #[.agg #[.bool nq, .slice aq lq cq], .agg #[.bool n1, .slice a1 0 c1]]) (by simp [results, Tryz.results75, go_sem, kr0, kr1, ks0, ks1]) rfl
    (isZZ_end hq hr hE.R.kind hE.S.kind hE.W (by omega) (by omega) _ _ _ _)
  ·-- B1
   have hm0 : m < 0 := by simpa using hna
   have hn0 : n < 0 := by simpa using hnb
   clear hna hnb
   have ka0 := hE.A.c0
   have kb0 := hE.B.c0
   have kb1 := hE.B.c1
   have kq0 := hQ.c0
   have kq1 := hQ.c1
   have kq2 := hQ.f0
   have kq3 := hQ.f1
   have kt0 := hT.c0
   have kt1 := hT.c1
   have kt2 := hT.f0
   have kt3 := hT.f1
   have kr0 := hE.R.c0
   have kr1 := hE.R.c1
   have kr2 := hE.R.f0
   have kr3 := hE.R.f1
   have ks0 := hE.S.c0
   have ks1 := hE.S.c1
   have ks2 := hE.S.f0
   have ks3 := hE.S.f1
   go_wp2_with fail
   refine (neg_any _ _ _ _ ((m.natAbs : Int) % n.natAbs) _ hr (hrb.fit (by omega))).mono ?_
   rintro e w1 ⟨n1, a1, l1, c1, rfl, hz1, hb1⟩
   have x1 : Ext _ w1 := hb1
   obtain ⟨sl1, sn1⟩ := isZ_sign hz1
   have hl1 : 0 < l1 := by
    have : l1 ≠ 0 := fun e => by have := sl1.1 e; omega
    omega
   obtain rfl : n1 = true := by rw [sn1]; simp; omega
   clear sl1 sn1
   clear ka0 kb0 kb1 kq0 kq1 kq2 kq3 kt0 kt1 kt2 kt3 kr0 kr1 kr2 kr3 ks0 ks1 ks2 ks3
   replace hE := hE.ext x1
   replace hQ := hQ.ext x1
   replace hT := hT.ext x1
   replace hq := hq.ext x1
   replace hr := hr.ext x1
   have ka0 := hE.A.c0
   have kb0 := hE.B.c0
   have kb1 := hE.B.c1
   have kq0 := hQ.c0
   have kq1 := hQ.c1
   have kq2 := hQ.f0
   have kq3 := hQ.f1
   have kt0 := hT.c0
   have kt1 := hT.c1
   have kt2 := hT.f0
   have kt3 := hT.f1
   have kr0 := hE.R.c0
   have kr1 := hE.R.c1
   have kr2 := hE.R.f0
   have kr3 := hE.R.f1
   have ks0 := hE.S.c0
   have ks1 := hE.S.c1
   have ks2 := hE.S.f0
   have ks3 := hE.S.f1
   go_wp2_with fail
   clear ka0 kb0 kb1 kq0 kq1 kq2 kq3 kt0 kt1 kt2 kt3 kr0 kr1 kr2 kr3 ks0 ks1 ks2 ks3
   obtain ⟨V1, hV1⟩ : ∃ V, V = (w1.setCell ⟨k7, 0, none⟩ (.bool true)).setCell ⟨k7, 1, none⟩ (.slice a1 l1 c1) := ⟨_, rfl⟩
   replace hq := hq.set2 hT.kind (by decide) (.bool true) (.slice a1 l1 c1)
   replace hr := hz1.set2 hT.kind (by decide) (.bool true) (.slice a1 l1 c1)
   replace hQ := hQ.other2 hne (.bool true) (.slice a1 l1 c1)
   replace hE := hE.set2 (k := k7) (by omega) (.bool true) (.slice a1 l1 c1)
   replace hT := hT.set (.bool true) (.slice a1 l1 c1)
   rw [← hV1] at hq hr hQ hT hE ⊢
   clear hV1 hz1 x1 hb1
   have ka0 := hE.A.c0
   have kb0 := hE.B.c0
   have kb1 := hE.B.c1
   have kq0 := hQ.c0
   have kq1 := hQ.c1
   have kq2 := hQ.f0
   have kq3 := hQ.f1
   have kt0 := hT.c0
   have kt1 := hT.c1
   have kt2 := hT.f0
   have kt3 := hT.f1
   have kr0 := hE.R.c0
   have kr1 := hE.R.c1
   have kr2 := hE.R.f0
   have kr3 := hE.R.f1
   have ks0 := hE.S.c0
   have ks1 := hE.S.c1
   have ks2 := hE.S.f0
   have ks3 := hE.S.f1
   obtain ⟨d1, d2⟩ := div_B (m := m) (n := n) (by omega) (by omega)
   rw [← d1] at hq
   rw [← d2] at hr
   clear d1 d2
   go_region
   go_wp2_with fail
   refine bodyPost_ret (v := .tuple #[.agg #[.bool nq, .slice aq lq cq], .agg #[.bool true, .slice a1 l1 c1]]) (by simp [results, Tryz.results75, go_sem, kr0, kr1, ks0, ks1]) rfl
    (isZZ_end hq hr hE.R.kind hE.S.kind hE.W (by omega) (by omega) _ _ _ _)

end Go.Proofs.YthoedmikfpbfnaaGreat
end
section
namespace Go.Proofs.YthoedmikfpbfnaaGreat
open Go Go.RowKit

def P (k : Nat) : Int := 2 ^ k
theorem P63 : P 63 = 9223372036854775808 := by unfold P; decide
theorem Bits.P (k : Nat) : Bits (k + 1) (P k) := Bits.pow k
theorem power63 (w : World) : Calls Tryz.prog 87 #[.int .i64 63] w (RetZ w (P 63)) := power_any 63 w (by omega)
theorem dg_drop (ds : List Int) (k : Nat) (h : k < ds.length) : val (ds.drop k) = dg ds k + 65536 * val (ds.drop (k + 1)) := by
 rw [List.drop_eq_getElem_cons h, val, dg_eq, List.getD, List.getElem?_eq_getElem h]; rfl
theorem drop_le {ds : List Int} (h : Digs ds) (k : Nat) : 0 ≤ val (ds.drop k) ∧ val (ds.drop k) ≤ val ds := by
 refine ⟨val_nonneg (h.drop k), ?_⟩
 by_cases hk : k ≤ ds.length
 ·have e := val_take_drop ds k hk
  have h0 := pre_nonneg h k
  have h1 := val_nonneg (h.drop k)
  have h2 := B_pos k
  have : val (ds.drop k) ≤ B k * val (ds.drop k) := by
   have := Int.mul_le_mul_of_nonneg_right h2 h1
   omega
  omega
 ·rw [List.drop_eq_nil_of_le (by omega)]
  exact val_nonneg h
def up (neg : Bool) (ds : List Int) (k : Nat) : Int := sgn neg (val (ds.drop k))
theorem up_len (neg : Bool) (ds : List Int) : up neg ds ds.length = 0 := by unfold up; rw [List.drop_length]; cases neg <;> rfl
theorem up_zero (neg : Bool) (ds : List Int) : up neg ds 0 = sgn neg (val ds) := rfl
theorem up_step {ds : List Int} {neg : Bool} {n : Int} (dd : Digs ds) (hv : n = sgn neg (val ds)) (hI : I64 n) (k : Nat) (hk : k < ds.length) :
  (-9223372036854775808 ≤ up neg ds (k + 1) * 65536 ∧ up neg ds (k + 1) * 65536 ≤ 9223372036854775807) ∧ up neg ds k = up neg ds (k + 1) * 65536 + sgn neg (dg ds k) ∧
  (-9223372036854775808 ≤ up neg ds k ∧ up neg ds k ≤ 9223372036854775807) := by
 obtain ⟨a1, a2⟩ := drop_le dd k
 have a3 := val_nonneg (dd.drop (k + 1))
 have a4 := dg_drop ds k hk
 obtain ⟨a5, a6⟩ := dd k
 unfold I64 at hI
 unfold up
 cases neg <;> simp only [sgn, Bool.false_eq_true, if_false, if_true] at * <;> omega

def Fit64 (w : World) (n : Int) (e : Ending) (w' : World) : Prop := e = .returned (.tuple #[.int .i64 (t64 n), .bool (decide (I64 n))]) ∧ Ext w w'
theorem fit64_no {w w' : World} {n : Int} (h : ¬ I64 n) (x : Ext w w') : Fit64 w n (.returned (.tuple #[.int .i64 0, .bool false])) w' := by
 refine ⟨?_, x⟩
 rw [show t64 n = 0 from if_neg h, decide_eq_false h]
theorem fit64_yes {w w' : World} {n m : Int} (h : I64 n) (e : m = n) (x : Ext w w') : Fit64 w n (.returned (.tuple #[.int .i64 m, .bool true])) w' := by
 refine ⟨?_, x⟩
 rw [show t64 n = n from if_pos h, decide_eq_true h, e]

set_option maxRecDepth 100000 in
set_option maxHeartbeats 1600000 in
theorem fits_any (na : Bool) (aa : Option Addr) (la ca : Nat) (n : Int) (w : World) (hz : IsZ w na (.slice aa la ca) n) (hb : Bits 1000 n) :
  Calls Tryz.prog 36 #[.agg #[.bool na, .slice aa la ca]] w (Fit64 w n) := by
 have hA : Box2 (w.alloc (.cells #[.bool na, .slice aa la ca] 37)) w.heap.size (.bool na) (.slice aa la ca) 37 := Box2.new rfl
 have xA : Ext w (w.alloc (.cells #[.bool na, .slice aa la ca] 37)) := (Ext.refl w).alloc
 have HP := Lib.hid P63
 have hf : Fit n := hb.fit (by omega)
 have f63 : Fit (P 63) := (Bits.P 63).fit (by omega)
 by_cases h1 : P 63 ≤ n
 ·have hc := (cmpI_ge n (P 63)).2 h1
  have hno : ¬ I64 n := by rw [P63] at h1; unfold I64; omega
  clear h1
  go_enter Tryz.func36, Tryz.ntmps36
  go_wp2_with fail
  go_region_with (first
   | (go_at_call 87; refine (power63 _).mono ?_; rintro e w1 ⟨n1, a1, l1, c1, rfl, hz1, hb1⟩; have x1 : Ext _ w1 := hb1; have p := (hA.drew.ext x1); have p0 := p.c0; have p1 := p.c1)
   | (go_at_call 86; refine (cmp_z _ _ _ _ _ _ _ _ n (P 63) _ ((hz.ext xA.drew).ext x1) hz1 hf f63).mono ?_; rintro e w2 ⟨rfl, hb2⟩; have x2 : Ext _ w2 := hb2))
  all_goals
   go_wp2_with fail
   go_ret2
   exact fit64_no hno (by exact Ext.trans (Ext.trans xA.drew x1) x2)
 ·have h1' : n < P 63 := by omega
  have hc : ¬ 0 ≤ cmpI n (P 63) := fun h => h1 ((cmpI_ge n (P 63)).1 h)
  have hc' : decide (0 ≤ cmpI n (P 63)) = false := decide_eq_false hc
  have hcl := cmpI_lt h1'
  by_cases h2 : n < -P 63
  ·have hd : cmpI n (-P 63) < 0 := by have := cmpI_ge n (-P 63); omega
   have hno : ¬ I64 n := by rw [P63] at h2; unfold I64; omega
   clear h1 h1' h2 hcl
   go_enter Tryz.func36, Tryz.ntmps36
   go_wp2_with fail
   go_region_held3 (fun w' => w'.cell? ⟨w.heap.size, 0, none⟩ = some (.bool na) ∧ w'.cell? ⟨w.heap.size, 1, none⟩ = some (.slice aa la ca))
    (first
     | exact ⟨(((((hA.drew.ext x1).ext x2).ext x3).ext x4).ext x5).c0, (((((hA.drew.ext x1).ext x2).ext x3).ext x4).ext x5).c1⟩
     | exact ⟨((((hA.drew.ext x1).ext x2).ext x3).ext x4).c0, ((((hA.drew.ext x1).ext x2).ext x3).ext x4).c1⟩
     | exact ⟨(((hA.drew.ext x1).ext x2).ext x3).c0, (((hA.drew.ext x1).ext x2).ext x3).c1⟩
     | exact ⟨((hA.drew.ext x1).ext x2).c0, ((hA.drew.ext x1).ext x2).c1⟩
     | exact ⟨(hA.drew.ext x1).c0, (hA.drew.ext x1).c1⟩
     | exact ⟨hA.drew.c0, hA.drew.c1⟩)
    (first
     | (go_at_call 88; refine (neg_any _ _ _ _ (P 63) _ hz3 f63).mono ?_; rintro e w4 ⟨n4, a4, l4, c4, rfl, hz4, hb4⟩; have x4 : Ext _ w4 := hb4)
     | (have := x4; go_at_call 86; refine (cmp_z _ _ _ _ _ _ _ _ n (-P 63) _ (((((hz.ext xA.drew).ext x1).ext x2).ext x3).ext x4) hz4 hf f63.neg).mono ?_; rintro e w5 ⟨rfl, hb5⟩; have x5 : Ext _ w5 := hb5)
     | (have := x2; go_at_call 87; refine (power63 _).mono ?_; rintro e w3 ⟨n3, a3, l3, c3, rfl, hz3, hb3⟩; have x3 : Ext _ w3 := hb3)
     | (go_at_call 87; refine (power63 _).mono ?_; rintro e w1 ⟨n1, a1, l1, c1, rfl, hz1, hb1⟩; have x1 : Ext _ w1 := hb1)
     | (go_at_call 86; refine (cmp_z _ _ _ _ _ _ _ _ n (P 63) _ ((hz.ext xA.drew).ext x1) hz1 hf f63).mono ?_; rintro e w2 ⟨rfl, hb2⟩; have x2 : Ext _ w2 := hb2))
   go_wp2_with fail
   go_ret2
   exact fit64_no hno (by exact Ext.trans (Ext.trans (Ext.trans (Ext.trans (Ext.trans xA.drew x1) x2) x3) x4) x5)
  ·have hd : ¬ cmpI n (-P 63) < 0 := by have := cmpI_ge n (-P 63); omega
   have hd' : decide (cmpI n (-P 63) < 0) = false := decide_eq_false hd
   have hI : I64 n := by rw [P63] at h1' h2; unfold I64; omega
   clear h1 h1' h2 hcl
   go_enter Tryz.func36, Tryz.ntmps36
   go_wp2_with fail
   go_region_held3 (fun w' => w'.cell? ⟨w.heap.size, 0, none⟩ = some (.bool na) ∧ w'.cell? ⟨w.heap.size, 1, none⟩ = some (.slice aa la ca))
    (first
     | exact ⟨(((((hA.drew.ext x1).ext x2).ext x3).ext x4).ext x5).c0, (((((hA.drew.ext x1).ext x2).ext x3).ext x4).ext x5).c1⟩
     | exact ⟨((((hA.drew.ext x1).ext x2).ext x3).ext x4).c0, ((((hA.drew.ext x1).ext x2).ext x3).ext x4).c1⟩
     | exact ⟨(((hA.drew.ext x1).ext x2).ext x3).c0, (((hA.drew.ext x1).ext x2).ext x3).c1⟩
     | exact ⟨((hA.drew.ext x1).ext x2).c0, ((hA.drew.ext x1).ext x2).c1⟩
     | exact ⟨(hA.drew.ext x1).c0, (hA.drew.ext x1).c1⟩
     | exact ⟨hA.drew.c0, hA.drew.c1⟩)
    (first
     | (go_at_call 88; refine (neg_any _ _ _ _ (P 63) _ hz3 f63).mono ?_; rintro e w4 ⟨n4, a4, l4, c4, rfl, hz4, hb4⟩; have x4 : Ext _ w4 := hb4)
     | (have := x4; go_at_call 86; refine (cmp_z _ _ _ _ _ _ _ _ n (-P 63) _ (((((hz.ext xA.drew).ext x1).ext x2).ext x3).ext x4) hz4 hf f63.neg).mono ?_; rintro e w5 ⟨rfl, hb5⟩; have x5 : Ext _ w5 := hb5)
     | (have := x2; go_at_call 87; refine (power63 _).mono ?_; rintro e w3 ⟨n3, a3, l3, c3, rfl, hz3, hb3⟩; have x3 : Ext _ w3 := hb3)
     | (go_at_call 87; refine (power63 _).mono ?_; rintro e w1 ⟨n1, a1, l1, c1, rfl, hz1, hb1⟩; have x1 : Ext _ w1 := hb1)
     | (go_at_call 86; refine (cmp_z _ _ _ _ _ _ _ _ n (P 63) _ ((hz.ext xA.drew).ext x1) hz1 hf f63).mono ?_; rintro e w2 ⟨rfl, hb2⟩; have x2 : Ext _ w2 := hb2))
   have hA5 := ((((hA.drew.ext x1).ext x2).ext x3).ext x4).ext x5
   have xW : Ext w w5 := Ext.trans (Ext.trans (Ext.trans (Ext.trans (Ext.trans xA.drew x1) x2) x3) x4) x5
   have hz5 := hz.ext xW
   clear hc hc' hd hd' hz1 hz3 hz4 x1 x2 x3 x4 x5 hb1 hb2 hb3 hb4 hb5 HP f63 xA hA hz hb
   obtain ⟨ds, ⟨a, ca', ba, oa, e, hca, hxa, hxc⟩, dd, td, hv, hneg⟩ := hz5
   simp only [Value.slice.injEq] at e
   obtain ⟨rfl, rfl, rfl⟩ := e
   have hll : ds.length ≤ 7000 := by
    have h0 := val_nonneg dd
    have hvv : val ds = n.natAbs := by cases na <;> simp [sgn] at hv <;> omega
    exact tidy_len dd td 7000 (by rw [hvv]; exact hf)
   clear hf
   have e0 := up_len na ds
   have HV := Lib.hid hv
   have p0 := hA5.c0
   have p1 := hA5.c1
   clear hneg td hv
   go_wp2_with fail
   go_loop [4, 5] (fun s i => ∃ k : Nat, k ≤ ds.length ∧ i = .int .i64 ((k : Int) - 1) ∧ s = .int .i64 (up na ds k)) (fun _ i => (intOf i + 1).toNat)
   case atStart => exact ⟨ds.length, Nat.le_refl _, rfl, by rw [e0]⟩
   case round =>
    clear e0
    obtain ⟨k, hk, rfl, rfl⟩ := hrel
    by_cases h0 : k = 0
    ·subst h0
     have HW : Hid (up na ds 0 = n) := Lib.hid (by rw [up_zero, ← HV.out])
     clear hxa hxc
     go_wp2_with fail
     go_ret2
     exact fit64_yes hI HW.out xW
    ·obtain ⟨j, rfl⟩ : ∃ j, k = j + 1 := ⟨k - 1, by omega⟩
     have hs := up_step dd HV.out hI j (by omega)
     have hix := fun w => at_row (cap := ca) (fun h => (hxa h).1) (j : Int) (by omega) (by omega) w
     have e : ((j + 1 : Nat) : Int) - 1 = j := by omega
     rw [e]
     have hcx := hxc j (by omega)
     obtain ⟨d0, d1⟩ := dd j
     clear hxa e hxc
     obtain ⟨⟨s0, s1⟩, s2, s3, s4⟩ := hs
     rw [s2] at s3 s4
     have S2 := Lib.hid s2
     clear s2
     cases na
     ·simp only [sgn, Bool.false_eq_true, if_false] at s3 s4
      go_wp2_with fail
      go_round
      case rel => exact ⟨j, by omega, rfl, by rw [S2.out]; rfl⟩
      case measure => simp [intOf]
     ·simp only [sgn, if_true] at s3 s4
      go_wp2_with fail
      go_round
      case rel => exact ⟨j, by omega, rfl, by rw [S2.out]; rfl⟩
      case measure => simp [intOf]
end Go.Proofs.YthoedmikfpbfnaaGreat

namespace Go.Proofs.YthoedmikfpbfnaaGreat
open Go Go.RowKit

end Go.Proofs.YthoedmikfpbfnaaGreat

namespace Go.Proofs.YthoedmikfpbfnaaGreat
open Go Go.RowKit

theorem W128.bits {n : Int} (h : W128 n) : Bits 128 n := by unfold W128 at h; unfold Bits; omega
theorem I64.bits {n : Int} (h : I64 n) : Bits 64 n := by unfold I64 at h; unfold Bits; omega
theorem I64.w {n : Int} (h : I64 n) : W128 n := by unfold I64 at h; unfold W128; omega
end Go.Proofs.YthoedmikfpbfnaaGreat

namespace Go.Proofs.YthoedmikfpbfnaaGreat
open Go Go.RowKit

theorem liv_of (n : Int) (w : World) (h : I64 n) : Calls Tryz.prog 30 #[.int .i64 n] w (fun e w' => e = .returned (.agg #[.int .i64 (hi n), .int .u64 (lo n)]) ∧ Ext w w') := of_pure n w h.1 h.2
end Go.Proofs.YthoedmikfpbfnaaGreat

namespace Go.Proofs.YthoedmikfpbfnaaGreat
open Go Go.RowKit

end Go.Proofs.YthoedmikfpbfnaaGreat

namespace Go.Proofs.YthoedmikfpbfnaaGreat
open Go Go.RowKit

theorem IsZ.alloc {w : World} {neg : Bool} {sv : Value} {n : Int} (h : IsZ w neg sv n) (o : Obj) : IsZ (w.alloc o) neg sv n := h.ext (Ext.refl w).alloc
theorem Box2.named {V w : World} {k : Nat} {u v : Value} {t : TypeId} {o : Obj} (h : Box2 w k u v t) (e : V = w.alloc o) : Box2 V k u v t := by rw [e]; exact h.alloc o
theorem IsZ.named {V w : World} {neg : Bool} {sv : Value} {n : Int} {o : Obj} (h : IsZ w neg sv n) (e : V = w.alloc o) : IsZ V neg sv n := by rw [e]; exact h.alloc o
end Go.Proofs.YthoedmikfpbfnaaGreat
end
section
namespace Go.Proofs.YthoedmikfpbfnaaGreat
open Go Go.RowKit

def U128 (n : Int) : Prop := 0 ≤ n ∧ n < 340282366920938463463374607431768211456
theorem mag_U {n : Int} (h : W128 n) : U128 (mag n) := by have := mag_W h; unfold U128; omega
theorem hi_U {n : Int} (h : U128 n) : 0 ≤ hi n ∧ hi n < 18446744073709551616 := by unfold U128 at h; unfold hi; omega

set_option maxRecDepth 100000 in
set_option maxHeartbeats 1600000 in
theorem dparts (n : Int) (w : World) (hn : W128 n) :
  Calls Tryz.prog 93 #[.agg #[.int .i64 (hi n), .int .u64 (lo n)]] w (fun e w' => e = .returned (.tuple #[.agg #[.int .u64 (hi (mag n)), .int .u64 (lo (mag n))], .bool (decide (n < 0))]) ∧ Ext w w') := by
 have r102 := run_sub64'
 obtain ⟨a0, a1⟩ := lo_bd n
 obtain ⟨a2, a3⟩ := hi_bd hn
 have c0 : 0 ≤ bor 0 (lo n) 0 := by rw [bor_def]; omega
 have c1 : bor 0 (lo n) 0 ≤ 1 := by rw [bor_def]; omega
 have u1 := u64_nonneg (hi n)
 have u2 := u64_lt (hi n)
 go_enter Tryz.func93, Tryz.ntmps93
 go_wp2
 ·clear r102
  have e3 : n < 0 ↔ hi n < 0 := (hi_neg n).symm
  have e4 : decide (n < 0) = false := decide_eq_false (by omega)
  rw [mag_pos (n := n) (by omega), e4]
  refine bodyPost_ret (v := .tuple #[.agg #[.int .u64 (hi n), .int .u64 (lo n)], .bool false]) (by simp [results, Tryz.results93, go_sem]) rfl ⟨rfl, yX⟩
 ·clear r102
  have e3 : n < 0 ↔ hi n < 0 := (hi_neg n).symm
  have e4 : decide (n < 0) = true := decide_eq_true (by omega)
  rw [mag_neg (n := n) (by omega), e4]
  have e5 : (-IntKind.u64.wrap (hi n) - bor 0 (lo n) 0) % 18446744073709551616 = hi (-n) := by rw [u64_eq, bor_def]; unfold W128 at hn; unfold hi lo; omega
  have e6 : -lo n % 18446744073709551616 = lo (-n) := by unfold lo; omega
  refine bodyPost_ret (v := .tuple #[.agg #[.int .u64 (hi (-n)), .int .u64 (lo (-n))], .bool true]) (by simp [results, Tryz.results93, go_sem, e5, e6]) rfl ⟨rfl, yX⟩

set_option maxRecDepth 100000 in
set_option maxHeartbeats 1600000 in
theorem dsigned (n : Int) (neg : Bool) (w : World) (hn : U128 n) :
  Calls Tryz.prog 96 #[.agg #[.int .u64 (hi n), .int .u64 (lo n)], .bool neg] w (RetT w (wsg neg n)) := by
 have H1 := Lib.hid wneg
 obtain ⟨a0, a1⟩ := lo_bd n
 obtain ⟨a2, a3⟩ := hi_U hn
 by_cases hs : n < 170141183460469231731687303715884105728
 ·have hW : W128 n := by unfold U128 at hn; unfold W128; omega
  have hWn : W128 (-n) := by unfold U128 at hn; unfold W128; omega
  have h63 : hi n ≤ 9223372036854775807 := by unfold hi; omega
  clear hs
  cases neg
  ·go_enter Tryz.func96, Tryz.ntmps96
   go_wp2_with fail
   refine bodyPost_ret (v := .tuple #[.agg #[.int .i64 (hi n), .int .u64 (lo n)], .int .i64 0]) (by simp [results, Tryz.results96, go_sem]) rfl (retT_yes hW rfl rfl yX)
  ·go_enter Tryz.func96, Tryz.ntmps96
   go_wp2_with fail
   refine (H1.out _ _ hW).mono ?_
   rintro e w1 ⟨rfl, x1⟩
   have q := (((Box2.new (w := w.alloc (.cells #[.int .u64 (hi n), .int .u64 (lo n)] 139)) (u := .int .i64 0) (v := .int .u64 0) (t := 42) rfl).alloc (.cells #[.int .i64 (hi n), .int .u64 (lo n)] 42)).ext x1)
   rw [World.size_alloc] at q
   have q0 := q.c0
   have q1 := q.c1
   have q2 := q.f0
   have q3 := q.f1
   go_wp2_with fail
   refine bodyPost_ret (v := .tuple #[.agg #[.int .i64 (thi (-n)), .int .u64 (tlo (-n))], .int .i64 (ter (-n))]) (by simp [results, Tryz.results96, go_sem, q0, q1]) rfl ⟨rfl, (Ext.set (Ext.set (Ext.trans (Ext.refl w).alloc.alloc.alloc x1) (by omega)) (by omega))⟩
 ·have hno : ¬ W128 n := by unfold W128; omega
  have hx : wrap64 (hi n) = hi n - 18446744073709551616 := by unfold U128 at hn; unfold hi wrap64; omega
  have hl : hi n - 18446744073709551616 < 0 := by omega
  cases neg
  ·go_enter Tryz.func96, Tryz.ntmps96
   go_wp2_with fail
   all_goals
    refine bodyPost_ret (v := .tuple #[.agg #[.int .i64 0, .int .u64 0], .int .i64 2]) (by simp [results, Tryz.results96, go_sem]) rfl (retT_no hno yX)
  ·by_cases he : n = 170141183460469231731687303715884105728
   ·have e1 : hi n = 9223372036854775808 := by rw [he]; rfl
    have e2 : lo n = 0 := by rw [he]; rfl
    have e3 : hi (-n) = -9223372036854775808 := by rw [he]; rfl
    have e4 : lo (-n) = 0 := by rw [he]; rfl
    have hWn : W128 (-n) := by unfold W128; omega
    have E3 := Lib.hid e3
    have E4 := Lib.hid e4
    rw [e1, e2]
    clear hx hl hno hs he e1 e2 e3 e4 a0 a1 a2 a3
    have ew : wrap64 9223372036854775808 = -9223372036854775808 := by unfold wrap64; omega
    go_enter Tryz.func96, Tryz.ntmps96
    go_wp2_with fail
    refine bodyPost_ret (v := .tuple #[.agg #[.int .i64 (-9223372036854775808), .int .u64 0], .int .i64 0]) (by simp [results, Tryz.results96, go_sem]) rfl (retT_yes hWn E3.out.symm E4.out.symm yX)
   ·have hnn : ¬ W128 (-n) := by unfold W128; omega
    have hne : ¬ (hi n - 18446744073709551616 = -9223372036854775808 ∧ lo n = 0) := by
     rintro ⟨g1, g2⟩
     have := hi_lo n
     omega
    clear he
    go_enter Tryz.func96, Tryz.ntmps96
    go_wp2_with fail
    all_goals
     refine bodyPost_ret (v := .tuple #[.agg #[.int .i64 0, .int .u64 0], .int .i64 2]) (by simp [results, Tryz.results96, go_sem]) rfl (retT_no hnn yX)

def RetB (w : World) (q r : Int) (e : Ending) (w' : World) : Prop := e = .returned (.tuple #[.agg #[.int .u64 (hi q), .int .u64 (lo q)], .agg #[.int .u64 (hi r), .int .u64 (lo r)]]) ∧ Ext w w'
theorem small_hl {x : Int} (h0 : 0 ≤ x) (h1 : x < 18446744073709551616) : hi x = 0 ∧ lo x = x := by unfold hi lo; omega
theorem long_div (b d : Int) (d0 : 0 < d) (d1 : d < 18446744073709551616) :
  hi (b / d) = hi b / d ∧ lo (b / d) = (hi b % d * 18446744073709551616 + lo b) / d ∧ b % d = (hi b % d * 18446744073709551616 + lo b) % d ∧ True := by
 have e := hi_lo b
 obtain ⟨l0, l1⟩ := lo_bd b
 have e1 := Int.emod_add_mul_ediv (hi b) d
 have s0 := Int.emod_nonneg (hi b) (show d ≠ 0 by omega)
 have s1 := Int.emod_lt_of_pos (hi b) d0
 have e2 : b = (hi b % d * 18446744073709551616 + lo b) + d * (hi b / d * 18446744073709551616) := by
  have : d * (hi b / d * 18446744073709551616) = (d * (hi b / d)) * 18446744073709551616 := by rw [Int.mul_assoc]
  rw [this]
  generalize d * (hi b / d) = X at *
  omega
 have g1 : b / d = (hi b % d * 18446744073709551616 + lo b) / d + hi b / d * 18446744073709551616 := by
  conv => lhs; rw [e2]
  rw [Int.add_mul_ediv_left _ _ (by omega)]
 have g2 : b % d = (hi b % d * 18446744073709551616 + lo b) % d := by
  conv => lhs; rw [e2]
  rw [Int.add_mul_emod_self_left]
 have h0 : 0 ≤ (hi b % d * 18446744073709551616 + lo b) / d := Int.ediv_nonneg (by omega) (by omega)
 have h1 : (hi b % d * 18446744073709551616 + lo b) / d < 18446744073709551616 := Int.ediv_lt_of_lt_mul d0 (by omega)
 rw [g1]
 generalize (hi b % d * 18446744073709551616 + lo b) / d = q at *
 refine ⟨?_, ?_, g2, trivial⟩
 ·unfold hi at *; omega
 ·unfold lo at *; omega
set_option maxRecDepth 100000 in
set_option maxHeartbeats 1600000 in
theorem over_small (b d : Int) (w : World) (hb : U128 b) (d0 : 0 < d) (d1 : d < 18446744073709551616) :
  Calls Tryz.prog 95 #[.agg #[.int .u64 (hi b), .int .u64 (lo b)], .agg #[.int .u64 (hi d), .int .u64 (lo d)]] w (RetB w (b / d) (b % d)) := by
 obtain ⟨a0, a1⟩ := lo_bd b
 obtain ⟨a2, a3⟩ := hi_U hb
 obtain ⟨e1, e2⟩ := small_hl (by omega) d1
 rw [e1, e2]
 have r0 := Int.emod_nonneg b (show d ≠ 0 by omega)
 have r1 := Int.emod_lt_of_pos b d0
 obtain ⟨e3, e4⟩ := small_hl r0 (show b % d < 18446744073709551616 by omega)
 have HR := Lib.hid (show hi (b % d) = 0 ∧ lo (b % d) = b % d from ⟨e3, e4⟩)
 clear e1 e2 e3 e4
 by_cases hs : hi b = 0
 ·have hb0 : b = lo b := by have := hi_lo b; omega
  have q0 : 0 ≤ lo b / d := Int.ediv_nonneg a0 (by omega)
  have q1 : lo b / d ≤ lo b := Int.ediv_le_self _ a0
  have s0 := Int.emod_nonneg (lo b) (show d ≠ 0 by omega)
  have s1 := Int.emod_lt_of_pos (lo b) d0
  have HB := Lib.hid hb0
  have HS := Lib.hid hs
  rw [hs]
  clear hs hb0 r0 r1
  go_enter Tryz.func95, Tryz.ntmps95
  go_wp2_with fail
  go_region
  go_wp2_with fail
  have hb0 := HB.out
  obtain ⟨f1, f2⟩ := small_hl q0 (show lo b / d < 18446744073709551616 by omega)
  obtain ⟨f3, f4⟩ := small_hl s0 (show lo b % d < 18446744073709551616 by omega)
  refine bodyPost_ret (v := .tuple #[.agg #[.int .u64 0, .int .u64 (lo b / d)], .agg #[.int .u64 0, .int .u64 (lo b % d)]]) (by simp [results, Tryz.results95, go_sem]) rfl ⟨?_, yX⟩
  rw [show b / d = lo b / d from congrArg (· / d) hb0, show b % d = lo b % d from congrArg (· % d) hb0, f1, f2, f3, f4]
 ·have hs' : (hi b == 0) = false := by simpa using hs
  have H1 := Lib.hid div64
  obtain ⟨k1, k2, k3, k4⟩ := long_div b d d0 d1
  have q0 : 0 ≤ hi b / d := Int.ediv_nonneg a2 (by omega)
  have q1 : hi b / d ≤ hi b := Int.ediv_le_self _ a2
  have s0 := Int.emod_nonneg (hi b) (show d ≠ 0 by omega)
  have s1 := Int.emod_lt_of_pos (hi b) d0
  have K1 := Lib.hid k1
  have K2 := Lib.hid k2
  have K3 := Lib.hid k3
  clear k1 k2 k3 k4 hs r0 r1
  go_enter Tryz.func95, Tryz.ntmps95
  go_wp2_with fail
  go_region
  go_wp2_with fail
  refine (H1.out _ _ _ _ s0 s1 d1 a0 a1).mono ?_
  rintro e w1 ⟨rfl, x1⟩
  rw [← K2.out, ← K3.out]
  have c := (((Box2.new (w := (w.alloc (.cells #[.int .u64 (hi b), .int .u64 (lo b)] 139)).alloc (.cells #[.int .u64 0, .int .u64 d] 139)) (u := .int .u64 0) (v := .int .u64 0) (t := 139) rfl).alloc (.cells #[.int .u64 0, .int .u64 0] 139)).drew).ext x1
  have c' := ((Box2.new (w := ((w.alloc (.cells #[.int .u64 (hi b), .int .u64 (lo b)] 139)).alloc (.cells #[.int .u64 0, .int .u64 d] 139)).alloc (.cells #[.int .u64 0, .int .u64 0] 139)) (u := .int .u64 0) (v := .int .u64 0) (t := 139) rfl).drew).ext x1
  simp only [World.size_alloc] at c c'
  have xw : Ext w w1 := Ext.trans (Ext.refl w).alloc.alloc.alloc.alloc.drew x1
  have z1 := c.kind.lt
  have z2 := c'.kind.lt
  have c0 := c.c0
  have c1 := c.c1
  have c2 := c.f0
  have c3 := c.f1
  have c4 := c'.c0
  have c5 := c'.c1
  have c6 := c'.f0
  have c7 := c'.f1
  go_wp2_with fail
  refine bodyPost_ret (v := .tuple #[.agg #[.int .u64 (hi b / d), .int .u64 (lo (b / d))], .agg #[.int .u64 0, .int .u64 (b % d)]]) (by simp [results, Tryz.results95, go_sem, c0, c1, c4, c5]) rfl ⟨by rw [K1.out, HR.out.1, HR.out.2], ?_⟩
  exact Ext.set (Ext.set (Ext.set (Ext.set xw (by omega)) (by omega)) (by omega)) (by omega)
end Go.Proofs.YthoedmikfpbfnaaGreat

namespace Go.Proofs.YthoedmikfpbfnaaGreat
open Go Go.RowKit

theorem tdiv_mag (a b : Int) : wsg (!(decide (a < 0) == decide (b < 0))) (mag a / mag b) = a.tdiv b := by
 by_cases ha : a < 0 <;> by_cases hb : b < 0
 ·rw [decide_eq_true ha, decide_eq_true hb, mag_neg ha, mag_neg hb]
  show -a / -b = _
  rw [← Int.tdiv_eq_ediv_of_nonneg (by omega), Int.neg_tdiv, Int.tdiv_neg]; simp
 ·rw [decide_eq_true ha, decide_eq_false hb, mag_neg ha, mag_pos (by omega)]
  show -(-a / b) = _
  rw [← Int.tdiv_eq_ediv_of_nonneg (by omega), Int.neg_tdiv]; simp
 ·rw [decide_eq_false ha, decide_eq_true hb, mag_neg hb, mag_pos (by omega)]
  show -(a / -b) = _
  rw [← Int.tdiv_eq_ediv_of_nonneg (by omega), Int.tdiv_neg]; simp
 ·rw [decide_eq_false ha, decide_eq_false hb, mag_pos (by omega), mag_pos (by omega)]
  show a / b = _
  rw [Int.tdiv_eq_ediv_of_nonneg (by omega)]
theorem tmod_mag (a b : Int) : wsg (decide (a < 0)) (mag a % mag b) = a.tmod b := by
 have key : ∀ x : Int, 0 ≤ x → x % mag b = x.tmod b := by
  intro x hx
  by_cases hb : b < 0
  ·rw [mag_neg hb, ← Int.tmod_eq_emod_of_nonneg hx, Int.tmod_neg]
  ·rw [mag_pos (by omega), Int.tmod_eq_emod_of_nonneg hx]
 by_cases ha : a < 0
 ·rw [decide_eq_true ha, mag_neg ha, wsg_t, key _ (by omega), Int.neg_tmod]; simp
 ·rw [decide_eq_false ha, mag_pos (by omega), wsg_f, key _ (by omega)]
def qh (q r : Int) : Int := if W128 q then hi r else 0
def ql (q r : Int) : Int := if W128 q then lo r else 0
def RetQ (w : World) (q r : Int) (e : Ending) (w' : World) : Prop :=
 e = .returned (.tuple #[.agg #[.int .i64 (thi q), .int .u64 (tlo q)], .agg #[.int .i64 (qh q r), .int .u64 (ql q r)], .int .i64 (ter q)]) ∧ Ext w w'
theorem retQ_yes {w w' : World} {q r : Int} (h : W128 q) (x : Ext w w') : RetQ w q r (.returned (.tuple #[.agg #[.int .i64 (hi q), .int .u64 (lo q)], .agg #[.int .i64 (hi r), .int .u64 (lo r)], .int .i64 0])) w' := by
 refine ⟨?_, x⟩
 rw [thi_yes h, tlo_yes h, ter_yes h, show qh q r = hi r from if_pos h, show ql q r = lo r from if_pos h]
theorem retQ_no {w w' : World} {q r : Int} (h : ¬ W128 q) (x : Ext w w') : RetQ w q r (.returned (.tuple #[.agg #[.int .i64 0, .int .u64 0], .agg #[.int .i64 0, .int .u64 0], .int .i64 2])) w' := by
 refine ⟨?_, x⟩
 rw [thi_no h, tlo_no h, ter_no h, show qh q r = 0 from if_neg h, show ql q r = 0 from if_neg h]
def OverC (b d : Int) : Prop := ∀ w, Calls Tryz.prog 95 #[.agg #[.int .u64 (hi b), .int .u64 (lo b)], .agg #[.int .u64 (hi d), .int .u64 (lo d)]] w (RetB w (b / d) (b % d))
theorem mag_zero {b : Int} (h : b ≠ 0) : 0 < mag b := by unfold mag; split <;> omega
theorem div_U {a b : Int} (ha : W128 a) (hb : W128 b) (h : b ≠ 0) : U128 (mag a / mag b) ∧ U128 (mag a % mag b) := by
 have h0 := mag_zero h
 have h1 := mag_W ha
 have h2 := mag_W hb
 have := Int.ediv_le_self (mag b) h1.1
 have := Int.ediv_nonneg h1.1 h2.1
 have := Int.emod_nonneg (mag a) (show mag b ≠ 0 by omega)
 have := Int.emod_lt_of_pos (mag a) h0
 unfold U128
 omega
theorem tmod_W {a b : Int} (hb : W128 b) (h : b ≠ 0) : W128 (a.tmod b) := by
 rw [← tmod_mag]
 have h0 := mag_zero h
 have h2 := mag_W hb
 have := Int.emod_nonneg (mag a) (show mag b ≠ 0 by omega)
 have := Int.emod_lt_of_pos (mag a) h0
 unfold W128
 cases decide (a < 0)
 ·rw [wsg_f]; omega
 ·rw [wsg_t]; omega

theorem Box2.named2 {V w : World} {k : Nat} {u v : Value} {t : TypeId} {o o' : Obj} (h : Box2 w k u v t) (e : V = (w.alloc o).alloc o') : Box2 V k u v t := by rw [e]; exact (h.alloc o).alloc o'
set_option maxRecDepth 100000 in
set_option maxHeartbeats 3200000 in
theorem dtrunc (a b : Int) (w : World) (ha : W128 a) (hb : W128 b) (h0 : b ≠ 0) (ho : OverC (mag a) (mag b)) :
  Calls Tryz.prog 139 #[.agg #[.int .i64 (hi a), .int .u64 (lo a)], .agg #[.int .i64 (hi b), .int .u64 (lo b)]] w (RetQ w (a.tdiv b) (a.tmod b)) := by
 have H1 := Lib.hid dparts
 have H2 := Lib.hid ho
 have H3 := Lib.hid dsigned
 obtain ⟨u1, u2⟩ := div_U ha hb h0
 have E1 := Lib.hid (tdiv_mag a b)
 have E2 := Lib.hid (tmod_mag a b)
 have hrW := tmod_W (a := a) hb h0
 have hz : ¬ (hi b = 0 ∧ lo b = 0) := by rintro ⟨g1, g2⟩; have := hi_lo b; omega
 clear ho
 by_cases hz1 : hi b = 0
 ·have g1 : (hi b == 0) = true := by simpa using hz1
  have g2 : (lo b == 0) = false := by simpa using fun h => hz ⟨hz1, h⟩
  clear hz hz1
  go_enter Tryz.func139, Tryz.ntmps139
  go_wp2_with fail
  obtain ⟨W, hW⟩ : ∃ W, W = (((w.alloc (.cells #[.int .i64 (hi a), .int .u64 (lo a)] 42)).alloc (.cells #[.int .i64 (hi b), .int .u64 (lo b)] 42)).alloc (.cells #[.int .i64 0, .int .u64 0] 42)).alloc (.cells #[.int .i64 0, .int .u64 0] 42) := ⟨_, rfl⟩
  rw [← hW]
  have hB : Box2 W (w.heap.size + 1) (.int .i64 (hi b)) (.int .u64 (lo b)) 42 := by rw [hW]; exact ((Box2.new (by simp)).alloc _).alloc _
  have hR : Box2 W (w.heap.size + 1 + 1) (.int .i64 0) (.int .u64 0) 42 := by rw [hW]; exact (Box2.new (by simp)).alloc _
  have hS : Box2 W (w.heap.size + 1 + 1 + 1) (.int .i64 0) (.int .u64 0) 42 := by rw [hW]; exact Box2.new (by simp)
  have xw : Ext w W := by rw [hW]; exact (Ext.refl w).alloc.alloc.alloc.alloc
  clear hW
  refine (H1.out _ _ ha).mono ?_
  rintro e w1 ⟨rfl, x1⟩
  (first | replace xw := Ext.trans xw x1 | replace xw := Ext.trans (Ext.alloc xw) x1 | replace xw := Ext.trans (Ext.drew xw) x1 | replace xw := Ext.trans (Ext.alloc (Ext.drew xw)) x1); (first | replace hB := hB.ext x1 | replace hB := (hB.alloc _).ext x1 | replace hB := hB.drew.ext x1 | replace hB := (hB.drew.alloc _).ext x1); (first | replace hR := hR.ext x1 | replace hR := (hR.alloc _).ext x1 | replace hR := hR.drew.ext x1 | replace hR := (hR.drew.alloc _).ext x1); (first | replace hS := hS.ext x1 | replace hS := (hS.alloc _).ext x1 | replace hS := hS.drew.ext x1 | replace hS := (hS.drew.alloc _).ext x1)
  have hX : Box2 (w1.alloc (.cells #[.int .u64 (hi (mag a)), .int .u64 (lo (mag a))] 139)) w1.heap.size (.int .u64 (hi (mag a))) (.int .u64 (lo (mag a))) 139 := Box2.new rfl
  replace hB := hB.alloc (.cells #[.int .u64 (hi (mag a)), .int .u64 (lo (mag a))] 139)
  replace hR := hR.alloc (.cells #[.int .u64 (hi (mag a)), .int .u64 (lo (mag a))] 139)
  replace hS := hS.alloc (.cells #[.int .u64 (hi (mag a)), .int .u64 (lo (mag a))] 139)
  have hB_0 := hB.c0; have hB_1 := hB.c1
  go_wp2_with fail
  clear hB_0 hB_1
  refine (H1.out _ _ hb).mono ?_
  rintro e w2 ⟨rfl, x2⟩
  clear hB
  (first | replace xw := Ext.trans xw x2 | replace xw := Ext.trans (Ext.alloc xw) x2 | replace xw := Ext.trans (Ext.drew xw) x2 | replace xw := Ext.trans (Ext.alloc (Ext.drew xw)) x2); (first | replace hX := hX.ext x2 | replace hX := (hX.alloc _).ext x2 | replace hX := hX.drew.ext x2 | replace hX := (hX.drew.alloc _).ext x2); (first | replace hR := hR.ext x2 | replace hR := (hR.alloc _).ext x2 | replace hR := hR.drew.ext x2 | replace hR := (hR.drew.alloc _).ext x2); (first | replace hS := hS.ext x2 | replace hS := (hS.alloc _).ext x2 | replace hS := hS.drew.ext x2 | replace hS := (hS.drew.alloc _).ext x2)
  have hY : Box2 (w2.alloc (.cells #[.int .u64 (hi (mag b)), .int .u64 (lo (mag b))] 139)) w2.heap.size (.int .u64 (hi (mag b))) (.int .u64 (lo (mag b))) 139 := Box2.new rfl
  replace hX := hX.alloc (.cells #[.int .u64 (hi (mag b)), .int .u64 (lo (mag b))] 139)
  replace hR := hR.alloc (.cells #[.int .u64 (hi (mag b)), .int .u64 (lo (mag b))] 139)
  replace hS := hS.alloc (.cells #[.int .u64 (hi (mag b)), .int .u64 (lo (mag b))] 139)
  have hX_0 := hX.c0; have hX_1 := hX.c1; have hY_0 := hY.c0; have hY_1 := hY.c1
  go_wp2_with fail
  clear hX_0 hX_1 hY_0 hY_1
  clear hX hY
  refine (H2.out _).mono ?_
  rintro e w3 ⟨rfl, x3⟩
  (first | replace xw := Ext.trans xw x3 | replace xw := Ext.trans (Ext.alloc xw) x3 | replace xw := Ext.trans (Ext.drew xw) x3 | replace xw := Ext.trans (Ext.alloc (Ext.drew xw)) x3); (first | replace hR := hR.ext x3 | replace hR := (hR.alloc _).ext x3 | replace hR := hR.drew.ext x3 | replace hR := (hR.drew.alloc _).ext x3); (first | replace hS := hS.ext x3 | replace hS := (hS.alloc _).ext x3 | replace hS := hS.drew.ext x3 | replace hS := (hS.drew.alloc _).ext x3)
  obtain ⟨V, hV⟩ : ∃ V, V = (w3.alloc (.cells #[.int .u64 (hi (mag a / mag b)), .int .u64 (lo (mag a / mag b))] 139)).alloc (.cells #[.int .u64 (hi (mag a % mag b)), .int .u64 (lo (mag a % mag b))] 139) := ⟨_, rfl⟩
  have hP : Box2 ((w3.alloc (.cells #[.int .u64 (hi (mag a / mag b)), .int .u64 (lo (mag a / mag b))] 139)).alloc (.cells #[.int .u64 (hi (mag a % mag b)), .int .u64 (lo (mag a % mag b))] 139)) w3.heap.size (.int .u64 (hi (mag a / mag b))) (.int .u64 (lo (mag a / mag b))) 139 := (Box2.new rfl).alloc _
  have hQ : Box2 ((w3.alloc (.cells #[.int .u64 (hi (mag a / mag b)), .int .u64 (lo (mag a / mag b))] 139)).alloc (.cells #[.int .u64 (hi (mag a % mag b)), .int .u64 (lo (mag a % mag b))] 139)) (w3.heap.size + 1) (.int .u64 (hi (mag a % mag b))) (.int .u64 (lo (mag a % mag b))) 139 := Box2.new (by simp)
  have hP_0 := hP.c0; have hP_1 := hP.c1
  go_wp2_with fail
  clear hP_0 hP_1
  clear hP
  replace hR := hR.named2 hV
  replace hS := hS.named2 hV
  rw [← hV] at hQ ⊢
  replace xw : Ext w V := by rw [hV]; exact Ext.alloc (Ext.alloc xw)
  clear hV x1 x2 x3
  refine (H3.out _ _ _ u1).mono ?_
  rw [E1.out]
  rintro e w4 ⟨rfl, x4⟩
  (first | replace xw := Ext.trans xw x4 | replace xw := Ext.trans (Ext.alloc xw) x4 | replace xw := Ext.trans (Ext.drew xw) x4 | replace xw := Ext.trans (Ext.alloc (Ext.drew xw)) x4); (first | replace hQ := hQ.ext x4 | replace hQ := (hQ.alloc _).ext x4 | replace hQ := hQ.drew.ext x4 | replace hQ := (hQ.drew.alloc _).ext x4); (first | replace hR := hR.ext x4 | replace hR := (hR.alloc _).ext x4 | replace hR := hR.drew.ext x4 | replace hR := (hR.drew.alloc _).ext x4); (first | replace hS := hS.ext x4 | replace hS := (hS.alloc _).ext x4 | replace hS := hS.drew.ext x4 | replace hS := (hS.drew.alloc _).ext x4)
  have y4 := hS.kind.lt
  by_cases hq : W128 (a.tdiv b)
  ·rw [thi_yes hq, tlo_yes hq, ter_yes hq]
   have hN : Box2 (w4.alloc (.cells #[.int .i64 (hi (a.tdiv b)), .int .u64 (lo (a.tdiv b))] 42)) w4.heap.size (.int .i64 (hi (a.tdiv b))) (.int .u64 (lo (a.tdiv b))) 42 := Box2.new rfl
   replace hQ := hQ.alloc (.cells #[.int .i64 (hi (a.tdiv b)), .int .u64 (lo (a.tdiv b))] 42)
   replace hR := hR.alloc (.cells #[.int .i64 (hi (a.tdiv b)), .int .u64 (lo (a.tdiv b))] 42)
   replace hS := hS.alloc (.cells #[.int .i64 (hi (a.tdiv b)), .int .u64 (lo (a.tdiv b))] 42)
   have hQ_0 := hQ.c0; have hQ_1 := hQ.c1
   go_wp2_with fail
   clear hQ_0 hQ_1
   clear hQ
   refine (H3.out _ _ _ u2).mono ?_
   rw [E2.out]
   rintro e w5 ⟨rfl, x5⟩
   rw [thi_yes hrW, tlo_yes hrW, ter_yes hrW]
   (first | replace xw := Ext.trans xw x5 | replace xw := Ext.trans (Ext.alloc xw) x5 | replace xw := Ext.trans (Ext.drew xw) x5 | replace xw := Ext.trans (Ext.alloc (Ext.drew xw)) x5); (first | replace hN := hN.ext x5 | replace hN := (hN.alloc _).ext x5 | replace hN := hN.drew.ext x5 | replace hN := (hN.drew.alloc _).ext x5); (first | replace hR := hR.ext x5 | replace hR := (hR.alloc _).ext x5 | replace hR := hR.drew.ext x5 | replace hR := (hR.drew.alloc _).ext x5); (first | replace hS := hS.ext x5 | replace hS := (hS.alloc _).ext x5 | replace hS := hS.drew.ext x5 | replace hS := (hS.drew.alloc _).ext x5)
   have y5 := hS.kind.lt
   have hM : Box2 (w5.alloc (.cells #[.int .i64 (hi (a.tmod b)), .int .u64 (lo (a.tmod b))] 42)) w5.heap.size (.int .i64 (hi (a.tmod b))) (.int .u64 (lo (a.tmod b))) 42 := Box2.new rfl
   replace hN := hN.alloc (.cells #[.int .i64 (hi (a.tmod b)), .int .u64 (lo (a.tmod b))] 42)
   replace hR := hR.alloc (.cells #[.int .i64 (hi (a.tmod b)), .int .u64 (lo (a.tmod b))] 42)
   replace hS := hS.alloc (.cells #[.int .i64 (hi (a.tmod b)), .int .u64 (lo (a.tmod b))] 42)
   go_wp2_with fail
   obtain ⟨U, hU⟩ : ∃ U, U = w5.alloc (.cells #[.int .i64 (hi (a.tmod b)), .int .u64 (lo (a.tmod b))] 42) := ⟨_, rfl⟩
   replace xw : Ext w U := by rw [hU]; exact Ext.alloc xw
   rw [← hU] at hM hN hR hS ⊢
   clear hU x4 x5
   have hM_0 := hM.c0; have hM_1 := hM.c1; have hN_0 := hN.c0; have hN_1 := hN.c1; have hR_0 := hR.c0; have hR_1 := hR.c1; have hS_0 := hS.c0; have hS_1 := hS.c1
   have hR_2 := hR.f0; have hR_3 := hR.f1; have hS_2 := hS.f0; have hS_3 := hS.f1
   have n1 : ¬ w4.heap.size = w.heap.size + 1 + 1 := by omega
   have n2 : ¬ w4.heap.size = w.heap.size + 1 + 1 + 1 := by omega
   have n3 : ¬ w5.heap.size = w.heap.size + 1 + 1 := by omega
   have n4 : ¬ w5.heap.size = w.heap.size + 1 + 1 + 1 := by omega
   have n5 : ¬ w.heap.size + 1 + 1 = w4.heap.size := by omega
   have n6 : ¬ w.heap.size + 1 + 1 + 1 = w4.heap.size := by omega
   have n7 : ¬ w.heap.size + 1 + 1 = w5.heap.size := by omega
   have n8 : ¬ w.heap.size + 1 + 1 + 1 = w5.heap.size := by omega
   go_region
   go_wp2_with fail
   refine bodyPost_ret (v := .tuple #[.agg #[.int .i64 (hi (a.tdiv b)), .int .u64 (lo (a.tdiv b))], .agg #[.int .i64 (hi (a.tmod b)), .int .u64 (lo (a.tmod b))], .int .i64 0]) (by simp [results, Tryz.results139, go_sem, hR_0, hR_1, hS_0, hS_1]) rfl (retQ_yes hq ?_)
   exact Ext.drew (Ext.set (Ext.set (Ext.set (Ext.set xw (by omega)) (by omega)) (by omega)) (by omega))
  ·rw [thi_no hq, tlo_no hq, ter_no hq]
   replace hR := hR.alloc (.cells #[.int .i64 0, .int .u64 0] 42)
   replace hS := hS.alloc (.cells #[.int .i64 0, .int .u64 0] 42)
   have hR_0 := hR.c0; have hR_1 := hR.c1; have hS_0 := hS.c0; have hS_1 := hS.c1
   have hR_2 := hR.f0; have hR_3 := hR.f1; have hS_2 := hS.f0; have hS_3 := hS.f1
   go_wp2_with fail
   refine bodyPost_ret (v := .tuple #[.agg #[.int .i64 0, .int .u64 0], .agg #[.int .i64 0, .int .u64 0], .int .i64 2]) (by simp [results, Tryz.results139, go_sem, hR_0, hR_1, hS_0, hS_1]) rfl (retQ_no hq ?_)
   exact Ext.set (Ext.set (Ext.set (Ext.set (Ext.alloc xw) (by omega)) (by omega)) (by omega)) (by omega)
 ·have g1 : (hi b == 0) = false := by simpa using hz1
  clear hz hz1
  go_enter Tryz.func139, Tryz.ntmps139
  go_wp2_with fail
  obtain ⟨W, hW⟩ : ∃ W, W = (((w.alloc (.cells #[.int .i64 (hi a), .int .u64 (lo a)] 42)).alloc (.cells #[.int .i64 (hi b), .int .u64 (lo b)] 42)).alloc (.cells #[.int .i64 0, .int .u64 0] 42)).alloc (.cells #[.int .i64 0, .int .u64 0] 42) := ⟨_, rfl⟩
  rw [← hW]
  have hB : Box2 W (w.heap.size + 1) (.int .i64 (hi b)) (.int .u64 (lo b)) 42 := by rw [hW]; exact ((Box2.new (by simp)).alloc _).alloc _
  have hR : Box2 W (w.heap.size + 1 + 1) (.int .i64 0) (.int .u64 0) 42 := by rw [hW]; exact (Box2.new (by simp)).alloc _
  have hS : Box2 W (w.heap.size + 1 + 1 + 1) (.int .i64 0) (.int .u64 0) 42 := by rw [hW]; exact Box2.new (by simp)
  have xw : Ext w W := by rw [hW]; exact (Ext.refl w).alloc.alloc.alloc.alloc
  clear hW
  refine (H1.out _ _ ha).mono ?_
  rintro e w1 ⟨rfl, x1⟩
  (first | replace xw := Ext.trans xw x1 | replace xw := Ext.trans (Ext.alloc xw) x1 | replace xw := Ext.trans (Ext.drew xw) x1 | replace xw := Ext.trans (Ext.alloc (Ext.drew xw)) x1); (first | replace hB := hB.ext x1 | replace hB := (hB.alloc _).ext x1 | replace hB := hB.drew.ext x1 | replace hB := (hB.drew.alloc _).ext x1); (first | replace hR := hR.ext x1 | replace hR := (hR.alloc _).ext x1 | replace hR := hR.drew.ext x1 | replace hR := (hR.drew.alloc _).ext x1); (first | replace hS := hS.ext x1 | replace hS := (hS.alloc _).ext x1 | replace hS := hS.drew.ext x1 | replace hS := (hS.drew.alloc _).ext x1)
  have hX : Box2 (w1.alloc (.cells #[.int .u64 (hi (mag a)), .int .u64 (lo (mag a))] 139)) w1.heap.size (.int .u64 (hi (mag a))) (.int .u64 (lo (mag a))) 139 := Box2.new rfl
  replace hB := hB.alloc (.cells #[.int .u64 (hi (mag a)), .int .u64 (lo (mag a))] 139)
  replace hR := hR.alloc (.cells #[.int .u64 (hi (mag a)), .int .u64 (lo (mag a))] 139)
  replace hS := hS.alloc (.cells #[.int .u64 (hi (mag a)), .int .u64 (lo (mag a))] 139)
  have hB_0 := hB.c0; have hB_1 := hB.c1
  go_wp2_with fail
  clear hB_0 hB_1
  refine (H1.out _ _ hb).mono ?_
  rintro e w2 ⟨rfl, x2⟩
  clear hB
  (first | replace xw := Ext.trans xw x2 | replace xw := Ext.trans (Ext.alloc xw) x2 | replace xw := Ext.trans (Ext.drew xw) x2 | replace xw := Ext.trans (Ext.alloc (Ext.drew xw)) x2); (first | replace hX := hX.ext x2 | replace hX := (hX.alloc _).ext x2 | replace hX := hX.drew.ext x2 | replace hX := (hX.drew.alloc _).ext x2); (first | replace hR := hR.ext x2 | replace hR := (hR.alloc _).ext x2 | replace hR := hR.drew.ext x2 | replace hR := (hR.drew.alloc _).ext x2); (first | replace hS := hS.ext x2 | replace hS := (hS.alloc _).ext x2 | replace hS := hS.drew.ext x2 | replace hS := (hS.drew.alloc _).ext x2)
  have hY : Box2 (w2.alloc (.cells #[.int .u64 (hi (mag b)), .int .u64 (lo (mag b))] 139)) w2.heap.size (.int .u64 (hi (mag b))) (.int .u64 (lo (mag b))) 139 := Box2.new rfl
  replace hX := hX.alloc (.cells #[.int .u64 (hi (mag b)), .int .u64 (lo (mag b))] 139)
  replace hR := hR.alloc (.cells #[.int .u64 (hi (mag b)), .int .u64 (lo (mag b))] 139)
  replace hS := hS.alloc (.cells #[.int .u64 (hi (mag b)), .int .u64 (lo (mag b))] 139)
  have hX_0 := hX.c0; have hX_1 := hX.c1; have hY_0 := hY.c0; have hY_1 := hY.c1
  go_wp2_with fail
  clear hX_0 hX_1 hY_0 hY_1
  clear hX hY
  refine (H2.out _).mono ?_
  rintro e w3 ⟨rfl, x3⟩
  (first | replace xw := Ext.trans xw x3 | replace xw := Ext.trans (Ext.alloc xw) x3 | replace xw := Ext.trans (Ext.drew xw) x3 | replace xw := Ext.trans (Ext.alloc (Ext.drew xw)) x3); (first | replace hR := hR.ext x3 | replace hR := (hR.alloc _).ext x3 | replace hR := hR.drew.ext x3 | replace hR := (hR.drew.alloc _).ext x3); (first | replace hS := hS.ext x3 | replace hS := (hS.alloc _).ext x3 | replace hS := hS.drew.ext x3 | replace hS := (hS.drew.alloc _).ext x3)
  obtain ⟨V, hV⟩ : ∃ V, V = (w3.alloc (.cells #[.int .u64 (hi (mag a / mag b)), .int .u64 (lo (mag a / mag b))] 139)).alloc (.cells #[.int .u64 (hi (mag a % mag b)), .int .u64 (lo (mag a % mag b))] 139) := ⟨_, rfl⟩
  have hP : Box2 ((w3.alloc (.cells #[.int .u64 (hi (mag a / mag b)), .int .u64 (lo (mag a / mag b))] 139)).alloc (.cells #[.int .u64 (hi (mag a % mag b)), .int .u64 (lo (mag a % mag b))] 139)) w3.heap.size (.int .u64 (hi (mag a / mag b))) (.int .u64 (lo (mag a / mag b))) 139 := (Box2.new rfl).alloc _
  have hQ : Box2 ((w3.alloc (.cells #[.int .u64 (hi (mag a / mag b)), .int .u64 (lo (mag a / mag b))] 139)).alloc (.cells #[.int .u64 (hi (mag a % mag b)), .int .u64 (lo (mag a % mag b))] 139)) (w3.heap.size + 1) (.int .u64 (hi (mag a % mag b))) (.int .u64 (lo (mag a % mag b))) 139 := Box2.new (by simp)
  have hP_0 := hP.c0; have hP_1 := hP.c1
  go_wp2_with fail
  clear hP_0 hP_1
  clear hP
  replace hR := hR.named2 hV
  replace hS := hS.named2 hV
  rw [← hV] at hQ ⊢
  replace xw : Ext w V := by rw [hV]; exact Ext.alloc (Ext.alloc xw)
  clear hV x1 x2 x3
  refine (H3.out _ _ _ u1).mono ?_
  rw [E1.out]
  rintro e w4 ⟨rfl, x4⟩
  (first | replace xw := Ext.trans xw x4 | replace xw := Ext.trans (Ext.alloc xw) x4 | replace xw := Ext.trans (Ext.drew xw) x4 | replace xw := Ext.trans (Ext.alloc (Ext.drew xw)) x4); (first | replace hQ := hQ.ext x4 | replace hQ := (hQ.alloc _).ext x4 | replace hQ := hQ.drew.ext x4 | replace hQ := (hQ.drew.alloc _).ext x4); (first | replace hR := hR.ext x4 | replace hR := (hR.alloc _).ext x4 | replace hR := hR.drew.ext x4 | replace hR := (hR.drew.alloc _).ext x4); (first | replace hS := hS.ext x4 | replace hS := (hS.alloc _).ext x4 | replace hS := hS.drew.ext x4 | replace hS := (hS.drew.alloc _).ext x4)
  have y4 := hS.kind.lt
  by_cases hq : W128 (a.tdiv b)
  ·rw [thi_yes hq, tlo_yes hq, ter_yes hq]
   have hN : Box2 (w4.alloc (.cells #[.int .i64 (hi (a.tdiv b)), .int .u64 (lo (a.tdiv b))] 42)) w4.heap.size (.int .i64 (hi (a.tdiv b))) (.int .u64 (lo (a.tdiv b))) 42 := Box2.new rfl
   replace hQ := hQ.alloc (.cells #[.int .i64 (hi (a.tdiv b)), .int .u64 (lo (a.tdiv b))] 42)
   replace hR := hR.alloc (.cells #[.int .i64 (hi (a.tdiv b)), .int .u64 (lo (a.tdiv b))] 42)
   replace hS := hS.alloc (.cells #[.int .i64 (hi (a.tdiv b)), .int .u64 (lo (a.tdiv b))] 42)
   have hQ_0 := hQ.c0; have hQ_1 := hQ.c1
   go_wp2_with fail
   clear hQ_0 hQ_1
   clear hQ
   refine (H3.out _ _ _ u2).mono ?_
   rw [E2.out]
   rintro e w5 ⟨rfl, x5⟩
   rw [thi_yes hrW, tlo_yes hrW, ter_yes hrW]
   (first | replace xw := Ext.trans xw x5 | replace xw := Ext.trans (Ext.alloc xw) x5 | replace xw := Ext.trans (Ext.drew xw) x5 | replace xw := Ext.trans (Ext.alloc (Ext.drew xw)) x5); (first | replace hN := hN.ext x5 | replace hN := (hN.alloc _).ext x5 | replace hN := hN.drew.ext x5 | replace hN := (hN.drew.alloc _).ext x5); (first | replace hR := hR.ext x5 | replace hR := (hR.alloc _).ext x5 | replace hR := hR.drew.ext x5 | replace hR := (hR.drew.alloc _).ext x5); (first | replace hS := hS.ext x5 | replace hS := (hS.alloc _).ext x5 | replace hS := hS.drew.ext x5 | replace hS := (hS.drew.alloc _).ext x5)
   have y5 := hS.kind.lt
   have hM : Box2 (w5.alloc (.cells #[.int .i64 (hi (a.tmod b)), .int .u64 (lo (a.tmod b))] 42)) w5.heap.size (.int .i64 (hi (a.tmod b))) (.int .u64 (lo (a.tmod b))) 42 := Box2.new rfl
   replace hN := hN.alloc (.cells #[.int .i64 (hi (a.tmod b)), .int .u64 (lo (a.tmod b))] 42)
   replace hR := hR.alloc (.cells #[.int .i64 (hi (a.tmod b)), .int .u64 (lo (a.tmod b))] 42)
   replace hS := hS.alloc (.cells #[.int .i64 (hi (a.tmod b)), .int .u64 (lo (a.tmod b))] 42)
   go_wp2_with fail
   obtain ⟨U, hU⟩ : ∃ U, U = w5.alloc (.cells #[.int .i64 (hi (a.tmod b)), .int .u64 (lo (a.tmod b))] 42) := ⟨_, rfl⟩
   replace xw : Ext w U := by rw [hU]; exact Ext.alloc xw
   rw [← hU] at hM hN hR hS ⊢
   clear hU x4 x5
   have hM_0 := hM.c0; have hM_1 := hM.c1; have hN_0 := hN.c0; have hN_1 := hN.c1; have hR_0 := hR.c0; have hR_1 := hR.c1; have hS_0 := hS.c0; have hS_1 := hS.c1
   have hR_2 := hR.f0; have hR_3 := hR.f1; have hS_2 := hS.f0; have hS_3 := hS.f1
   have n1 : ¬ w4.heap.size = w.heap.size + 1 + 1 := by omega
   have n2 : ¬ w4.heap.size = w.heap.size + 1 + 1 + 1 := by omega
   have n3 : ¬ w5.heap.size = w.heap.size + 1 + 1 := by omega
   have n4 : ¬ w5.heap.size = w.heap.size + 1 + 1 + 1 := by omega
   have n5 : ¬ w.heap.size + 1 + 1 = w4.heap.size := by omega
   have n6 : ¬ w.heap.size + 1 + 1 + 1 = w4.heap.size := by omega
   have n7 : ¬ w.heap.size + 1 + 1 = w5.heap.size := by omega
   have n8 : ¬ w.heap.size + 1 + 1 + 1 = w5.heap.size := by omega
   go_region
   go_wp2_with fail
   refine bodyPost_ret (v := .tuple #[.agg #[.int .i64 (hi (a.tdiv b)), .int .u64 (lo (a.tdiv b))], .agg #[.int .i64 (hi (a.tmod b)), .int .u64 (lo (a.tmod b))], .int .i64 0]) (by simp [results, Tryz.results139, go_sem, hR_0, hR_1, hS_0, hS_1]) rfl (retQ_yes hq ?_)
   exact Ext.drew (Ext.set (Ext.set (Ext.set (Ext.set xw (by omega)) (by omega)) (by omega)) (by omega))
  ·rw [thi_no hq, tlo_no hq, ter_no hq]
   replace hR := hR.alloc (.cells #[.int .i64 0, .int .u64 0] 42)
   replace hS := hS.alloc (.cells #[.int .i64 0, .int .u64 0] 42)
   have hR_0 := hR.c0; have hR_1 := hR.c1; have hS_0 := hS.c0; have hS_1 := hS.c1
   have hR_2 := hR.f0; have hR_3 := hR.f1; have hS_2 := hS.f0; have hS_3 := hS.f1
   go_wp2_with fail
   refine bodyPost_ret (v := .tuple #[.agg #[.int .i64 0, .int .u64 0], .agg #[.int .i64 0, .int .u64 0], .int .i64 2]) (by simp [results, Tryz.results139, go_sem, hR_0, hR_1, hS_0, hS_1]) rfl (retQ_no hq ?_)
   exact Ext.set (Ext.set (Ext.set (Ext.set (Ext.alloc xw) (by omega)) (by omega)) (by omega)) (by omega)
end Go.Proofs.YthoedmikfpbfnaaGreat
end
