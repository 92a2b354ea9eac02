/-
  The reference's sum of wide numbers.
-/
import Derived.Test.YtmkddcmfofabbaaWsum
namespace Go.Proofs.Ytmkddcmfofabbaa
open Go Go.RowKit

theorem tsum_bits {ns : List Int} (hW : ∀ i, W128 (nth ns i)) (k : Nat) (h : k ≤ ns.length) : Bits (128 + k) (tsum (ns.take k)) := by
  induction k with
  | zero => simp [tsum, Bits]
  | succ k ih =>
    rw [tsum_take _ _ (by omega)]
    exact (ih (by omega)).add ((hW k).bits.mono (by omega))

set_option maxRecDepth 100000 in
set_option maxHeartbeats 1600000 in
theorem zsum (v : Value) (ns : List Int) (w : World) (hr : WRow w.heap.size w v ns) (hl : ns.length ≤ 200) (hW : ∀ i, W128 (nth ns i)) :
    Calls Try.prog 52 #[v] w (RetZ w (tsum ns)) := by
  obtain ⟨a, cap, b, off, rfl, ha, hc⟩ := hr
  have H1 := Lib.hid ofw
  have H2 := Lib.hid add_z
  have HB := Lib.hid (@tsum_bits ns hW)
  go_enter Try.func52, Try.ntmps52
  go_wp2_with fail
  obtain ⟨V, hV⟩ : ∃ V, V = (w.alloc (.cells #[.bool false, .slice none 0 0] 37)).alloc (.cells #[.bool false, .slice none 0 0] 37) := ⟨_, rfl⟩
  rw [← hV]
  have hR : Box2 V w.heap.size (.bool false) (.slice none 0 0) 37 := by rw [hV]; exact (Box2.new rfl).alloc _
  have hS : Box2 V (w.heap.size + 1) (.bool false) (.slice none 0 0) 37 := by rw [hV]; exact Box2.new (by simp)
  have xw : Ext w V := by rw [hV]; exact (Ext.refl w).alloc.alloc
  clear hV
  go_loopw [4] (fun s4 wr => ∃ (k : Nat) (nq : Bool) (aq : Option Addr) (lq cq : Nat), s4 = .int .i64 k ∧ k ≤ ns.length ∧ IsZ wr nq (.slice aq lq cq) (tsum (ns.take k)) ∧
      Box2 wr (w.heap.size + 1) (.bool nq) (.slice aq lq cq) 37 ∧ Box2 wr w.heap.size (.bool false) (.slice none 0 0) 37 ∧ Ext w wr)
    (fun s4 _ => ns.length - (intOf s4).toNat)
  case atStart => exact ⟨0, false, none, 0, 0, rfl, by omega, by simpa [tsum] using isZ_zero V, hS, hR, xw⟩
  case round =>
    clear hR hS xw
    obtain ⟨k, nq, aq, lq, cq, rfl, hk, hq, hS, hR, xw⟩ := hrel
    have hS_0 := hS.c0; have hS_1 := hS.c1
    have hz3 := hS.kind.lt
    have hz4 := hR.kind.lt
    by_cases hlt : k < ns.length
    · have hn := hW k
      have hix := fun w => at_wrow (cap := cap) (fun h => (ha h).1) k hlt w
      have hb := (ha (by omega)).2
      have hz := Ext.size xw
      have c0 := (Below.cell xw (p := ⟨b, off + 2 * k, none⟩) hb).trans (hc k hlt).1
      have c1 := (Below.cell xw (p := ⟨b, off + 2 * k + 1, none⟩) hb).trans (hc k hlt).2
      have f1 : Fit (tsum (ns.take k)) := (HB.out k hk).fit (by omega)
      have f2 : Fit (nth ns k) := hn.bits.fit (by omega)
      clear ha hc
      go_wp2_with fail
      go_region_with (first
        | (go_at_call 35; refine (H1.out _ _ hn).mono ?_; rintro e w1 ⟨n1, a1, l1, c1, rfl, hz1, hb1⟩; have x1 : Ext _ w1 := hb1; have p := (hS.drew.ext x1); have p0 := p.c0; have p1 := p.c1)
        | (go_at_call 46; refine (H2.out _ _ _ _ _ _ _ _ (tsum (ns.take k)) (nth ns k) _ (hq.drew.ext x1) hz1 f1 f2).mono ?_; rintro e w2 ⟨n2, a2, l2, c2, rfl, hz2, hb2⟩; have x2 : Ext _ w2 := hb2; have q := (hS.drew.ext x1).ext x2; have q0 := q.c0; have q1 := q.c1; have q2 := q.f0; have q3 := q.f1))
      all_goals
        have hqf := hz2.set2 q.kind (by decide) (.bool n2) (.slice a2 l2 c2)
        have hSf := q.set (.bool n2) (.slice a2 l2 c2)
        have hRf := ((hR.drew.ext x1).ext x2).other2 (b := w.heap.size + 1) (by omega) (.bool n2) (.slice a2 l2 c2)
        have xf : Ext w ((w2.setCell ⟨w.heap.size + 1, 0, none⟩ (.bool n2)).setCell ⟨w.heap.size + 1, 1, none⟩ (.slice a2 l2 c2)) := Ext.set (Ext.set (Ext.trans (Ext.trans xw.drew x1) x2) (by omega)) (by omega)
        rw [← tsum_take _ _ hlt] at hqf
        go_wp2_with fail
        go_roundw
        case rel => exact ⟨k + 1, n2, a2, l2, c2, by go_num, by omega, hqf, hSf, hRf, xf⟩
        case measure => simp [intOf]; omega
    · obtain rfl : k = ns.length := by omega
      have hTe : tsum (ns.take ns.length) = tsum ns := by rw [List.take_length]
      rw [hTe] at hq
      have r0 := hR.c0
      have r1 := hR.c1
      have r2 := hR.f0
      have r3 := hR.f1
      clear hTe ha hc
      go_wp2_with fail
      refine bodyPost_ret (v := .agg #[.bool nq, .slice aq lq cq]) (by simp [results, Try.results52, go_sem, r0, r1]) rfl
        (isZ_end hq hR.kind xw (Nat.le_refl _) _ _)
end Go.Proofs.Ytmkddcmfofabbaa
