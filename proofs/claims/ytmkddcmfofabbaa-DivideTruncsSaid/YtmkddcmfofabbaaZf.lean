/-
  Walk of the reference's product: Mul.
-/
import Derived.Test.YtmkddcmfofabbaaZe
namespace Go.Proofs.Ytmkddcmfofabbaa
open Go Go.RowKit

/-- Block g holds the numbers zs, N of them, made by the call. -/
def Own (w : World) (g N : Nat) (zs : List Int) : Prop := zs.length = N ∧ w.ownsRow 0 3 1 (.slice (some ⟨g, 0, none⟩) N N) N (zs.map (Value.int .i64))

theorem Own.cell {w : World} {g N : Nat} {zs : List Int} (h : Own w g N zs) (j : Nat) (hj : j < N) : w.cell? ⟨g, j, none⟩ = some (.int .i64 (dg zs j)) := by
  have hl := h.1
  rw [h.2.cellAt j (by omega), List.getElem?_map, List.getElem?_eq_getElem (by omega), dg_eq, List.getD, List.getElem?_eq_getElem (by omega)]; rfl
theorem Own.frozen {w : World} {g N : Nat} {zs : List Int} (h : Own w g N zs) (j : Nat) : w.frozen? ⟨g, j, none⟩ = false := h.2.frozenAt j
theorem Own.set {w : World} {g N : Nat} {zs : List Int} (h : Own w g N zs) (j : Nat) (y : Int) : Own (w.setCell ⟨g, j, none⟩ (.int .i64 y)) g N (zs.set j y) :=
  ⟨by rw [List.length_set]; exact h.1, by have := (h.2.stored j (.int .i64 y)).1; rwa [← List.map_set] at this⟩
theorem Own.drewN {w : World} {g N : Nat} {zs : List Int} (h : Own w g N zs) (n : Nat) : Own (w.drewN n) g N zs := h
theorem Own.row {w : World} {g N : Nat} {zs : List Int} (h : Own w g N zs) : Row w (.slice (some ⟨g, 0, none⟩) N N) zs := row_of_owns h.2 h.1

set_option maxRecDepth 100000 in
set_option maxHeartbeats 3200000 in
theorem mul_z (na nb : Bool) (aa ab : Option Addr) (la ca lb cb : Nat) (m n : Int) (w : World) (hza : IsZ w na (.slice aa la ca) m) (hzb : IsZ w nb (.slice ab lb cb) n) (hm : Fit m) (hn : Fit n) :
    Calls Try.prog 41 #[.agg #[.bool na, .slice aa la ca], .agg #[.bool nb, .slice ab lb cb]] w (RetZ w (m * n)) := by
  obtain ⟨xs, hrx, dx, tx, hvx, hlx, hna⟩ := isZ_row hza hm
  obtain ⟨ys, hry, dy, ty, hvy, hly, hnb⟩ := isZ_row hzb hn
  have hxr := hrx
  have hyr := hry
  obtain ⟨aa', ca', ba, oa, e, -, hxa, hxc⟩ := hrx
  simp only [Value.slice.injEq] at e
  obtain ⟨rfl, rfl, rfl⟩ := e
  obtain ⟨ab', cb', bb, ob, e, -, -, -⟩ := hry
  simp only [Value.slice.injEq] at e
  obtain ⟨rfl, rfl, rfl⟩ := e
  obtain ⟨hA, hB, hR⟩ := boxes3 w (.bool na) (.bool nb) (.bool false) (.slice aa xs.length ca) (.slice ab ys.length cb) (.slice none 0 0) 37 37 37
  have hW := below3 w (.cells #[.bool na, .slice aa xs.length ca] 37) (.cells #[.bool nb, .slice ab ys.length cb] 37) (.cells #[.bool false, .slice none 0 0] 37)
  have HX := Lib.hid hvx
  have HY := Lib.hid hvy
  have HA := Lib.hid hna
  have HB := Lib.hid hnb
  clear hvx hvy hna hnb hza hzb
  obtain ⟨i0, hi, hz0, hz1, hz2⟩ := info_parts info_int
  go_enter Try.func41, Try.ntmps41
  go_wp2_with (at_make; refine wpList_make_full _ rfl _ _ 35 rfl 0 3 i0 (.int .i64 0) 1 Try.underlying35 hi hz0 hz1 _ _ _ _ (xs.length + ys.length + 1) rfl rfl (by omega) (by omega) (by rw [hz2]; omega) (by unfold maxLen; omega) (Nat.zero_le _) ?_; intro w1 hown hgrow)
  have hbl : Below w.heap.size w w1 := hW.grown hgrow (by simp; omega) (fun k h => by cases h)
  have hO : Own w1 (w.heap.size + 1 + 1 + 1) (xs.length + ys.length + 1) (List.replicate (xs.length + ys.length + 1) 0) := by
    refine ⟨List.length_replicate .., ?_⟩
    have e := toList_madeCells_one (.int .i64 0) (xs.length + ys.length + 1)
    simp only [Value.cells, Nat.mul_one, World.size_alloc] at hown
    rw [e] at hown
    rw [List.map_replicate]
    exact hown
  have hb1 : Below (((w.alloc (.cells #[.bool na, .slice aa xs.length ca] 37)).alloc (.cells #[.bool nb, .slice ab ys.length cb] 37)).alloc (.cells #[.bool false, .slice none 0 0] 37)).heap.size (((w.alloc (.cells #[.bool na, .slice aa xs.length ca] 37)).alloc (.cells #[.bool nb, .slice ab ys.length cb] 37)).alloc (.cells #[.bool false, .slice none 0 0] 37)) w1 := (Below.refl _ _).grown hgrow (Nat.le_refl _) (fun k h => by cases h)
  have hA1 := hA.below hb1
  have hB1 := hB.below hb1
  have hR1 := hR.below hb1
  clear hA hB hR hW hb1 hown hgrow hi hz0 hz1 hz2
  go_loopw [6] (fun si wr => ∃ (i : Nat) (zs : List Int), si = .int .i64 i ∧ i ≤ xs.length ∧ Own wr (w.heap.size + 1 + 1 + 1) (xs.length + ys.length + 1) zs ∧ Digs zs ∧ val zs = pre xs i * val ys ∧
      Box2 wr w.heap.size (.bool na) (.slice aa xs.length ca) 37 ∧ Box2 wr (w.heap.size + 1) (.bool nb) (.slice ab ys.length cb) 37 ∧ Box2 wr (w.heap.size + 1 + 1) (.bool false) (.slice none 0 0) 37 ∧ Below w.heap.size w wr)
    (fun si _ => xs.length - (intOf si).toNat)
  case atStart => exact ⟨0, _, rfl, Nat.zero_le _, hO, Digs.zeros _, by rw [val_zeros, pre_zero]; omega, hA1, hB1, hR1, hbl⟩
  case round =>
    clear hA1 hB1 hR1 hbl hO
    obtain ⟨i, zs, rfl, hi, hO, dz, hv, hA, hB, hR, hbl⟩ := hrel
    have HV := Lib.hid hv
    clear hv
    have a1 := hA.c1
    by_cases hix : i < xs.length
    · have b1 := hB.c1
      obtain ⟨wo, rfl⟩ : ∃ wo : World, wo = wr := ⟨_, rfl⟩
      have hixx := fun w => at_row (cap := ca) (fun h => (hxa h).1) (i : Int) (by omega) (by omega) w
      have hcx := hxc i hix
      have hba := (hxa (by omega)).2.lt
      have hdx := dx i
      have HS := Lib.hid (mul_start (i := i) (xs := xs) HV.out)
      clear hxc hxa
      go_wp2_with fail
      go_loopw [7, 8] (fun sc sk wi => ∃ (k : Nat) (c : Int) (zs : List Int), sk = .int .i64 k ∧ sc = .int .i64 c ∧ 0 ≤ c ∧ c < 65536 ∧ k ≤ ys.length + 1 ∧ Own wi (w.heap.size + 1 + 1 + 1) (xs.length + ys.length + 1) zs ∧ Digs zs ∧ val zs + B (i + k) * c = pre xs i * val ys + dg xs i * B i * pre ys k ∧
          Box2 wi w.heap.size (.bool na) (.slice aa xs.length ca) 37 ∧ Box2 wi (w.heap.size + 1) (.bool nb) (.slice ab ys.length cb) 37 ∧ Box2 wi (w.heap.size + 1 + 1) (.bool false) (.slice none 0 0) 37 ∧ Below w.heap.size w wi)
        (fun _ sk _ => ys.length + 2 - (intOf sk).toNat)
      case atStart => exact ⟨0, 0, zs, rfl, rfl, by omega, by omega, Nat.zero_le _, hO, dz, HS.out, hA, hB, hR, hbl⟩
      case round =>
        clear hO dz hA hB hR hbl HV HS a1 b1
        obtain ⟨k, c, zs, rfl, rfl, hc0, hc1, hk, hO, dz, hv, hA, hB, hR, hbl⟩ := hrel
        have hmi : 0 < c → k ≤ ys.length := mul_idx dx dy dz hv
        have hdy := dy k
        have hdz := dz (i + k)
        obtain ⟨m1, m2, m3, m4⟩ := mul_bound hdz hdx hdy ⟨hc0, hc1⟩
        have HV := Lib.hid hv
        clear hv
        have a1 := hA.c1
        have b1 := hB.c1
        have hrow := hyr.below hbl
        by_cases h1 : k < ys.length ∨ 0 < c
        · have hkl : k ≤ ys.length := by rcases h1 with h1 | h1 <;> first | omega | exact hmi h1
          have hcz := hO.cell (i + k) (by omega)
          have hfz := hO.frozen (i + k)
          have hcx' := (hbl.cell (p := ⟨ba, oa + i, none⟩) hba).trans hcx
          have hik : (i : Int) + k < xs.length + ys.length + 1 := by omega
          have hik' : ((i : Int) + k).toNat = i + k := by omega
          have hst := Lib.hid (mul_step HV.out (by have := hO.1; omega))
          clear hcx hmi
          have hck : ¬ k < ys.length → 0 < c := by omega
          by_cases h2 : k < ys.length
          all_goals
            have hcs := hck
            clear hck h1
            first | (have h3 := hcs h2) | skip
            clear hcs
            go_wp2_with fail
            go_quiet ((go_at_call 96; exact Calls.quiet_of_same (digit_q (.slice ab ys.length cb) ys k wr _ hrow (by omega) (by omega))))
            go_wp2_with fail
            go_roundw
            case rel =>
              exact ⟨k + 1, _, _, by go_num, rfl, m3, m4, by omega, (hO.drewN nq).set _ _, dz.set _ (digit_mod _).1 (digit_mod _).2, hst.out, (hA.drewN nq).other (by omega) _ _, (hB.drewN nq).other (by omega) _ _, (hR.drewN nq).other (by omega) _ _, (below_drewN hbl nq).setCell (by simp; omega) _⟩
            case measure => simp [intOf]; omega
        · have h2 : ¬ k < ys.length := by omega
          have h3 : ¬ 0 < c := by omega
          have hst := Lib.hid (mul_exit HV.out (by omega) (by omega))
          clear h1 hcx
          go_wp2_with fail
          go_roundw
          case rel => exact ⟨i + 1, zs, by go_num, by omega, hO, dz, hst.out, hA, hB, hR, hbl⟩
          case measure => simp [intOf]; omega
    · obtain rfl : i = xs.length := by omega
      have a0 := hA.c0
      have b0 := hB.c0
      have hv := HV.out
      rw [pre_len] at hv
      have he := Lib.hid (sgn_mul hv HX.out HY.out HA.out HB.out)
      clear hv hxc hxa
      go_wp2_with (go_at_call 97; refine (tidy_any (na != nb) _ zs _ hO.row dz (by have := hO.1; omega)).mono ?_; rintro e w2 ⟨neg2, a2, l2, c2, rfl, hz2, hb2⟩; have q := hR.below hb2; have q0 := q.c0; have q1 := q.c1; have q2 := q.f0; have q3 := q.f1)
      rw [he.out] at hz2
      refine bodyPost_ret (v := .agg #[.bool neg2, .slice a2 l2 c2]) (by simp [results, Try.results41, go_sem, q0, q1]) rfl
        (isZ_end hz2 q.kind (hbl.trans (hb2.mono hbl.size)) (by omega) _ _)
end Go.Proofs.Ytmkddcmfofabbaa
