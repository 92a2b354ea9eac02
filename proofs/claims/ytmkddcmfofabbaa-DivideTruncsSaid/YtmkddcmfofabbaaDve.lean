/-
  divide.Gcd.
-/
import Derived.Test.YtmkddcmfofabbaaDvd
namespace Go.Proofs.Ytmkddcmfofabbaa
open Go Go.RowKit

/-- The number that the two cells of block k hold. -/
def held (k : Nat) (w : World) : Nat :=
  match w.cell? ⟨k, 0, none⟩, w.cell? ⟨k, 1, none⟩ with
  | some (.int _ h), some (.int _ l) => (h * 18446744073709551616 + l).toNat
  | _, _ => 0
theorem held_box {w : World} {k : Nat} {t : TypeId} {n : Nat} (h : Box2 w k (.int .u64 (hi n)) (.int .u64 (lo n)) t) : held k w = n := by
  unfold held
  rw [h.c0, h.c1]
  show ((hi n) * 18446744073709551616 + lo n).toNat = n
  rw [← hi_lo]
  exact Int.toNat_natCast n
theorem gcd_step (b c : Nat) : Nat.gcd b c = Nat.gcd c (b % c) := by rw [Nat.gcd_comm, Nat.gcd_rec, Nat.gcd_comm]
/-- over is right at all numbers up to M. -/
def OverTo (M : Nat) : Prop := ∀ b d : Nat, b ≤ M → 0 < d → d ≤ M → OverC (b : Int) (d : Int)

set_option maxRecDepth 100000 in
set_option maxHeartbeats 1600000 in
theorem dgcd (M b0 c0 : Nat) (w : World) (hb : b0 ≤ M) (hc : c0 ≤ M) (ho : OverTo M) :
    Calls Try.prog 108 #[.agg #[.int .u64 (hi b0), .int .u64 (lo b0)], .agg #[.int .u64 (hi c0), .int .u64 (lo c0)]] w
      (fun e w' => e = .returned (.agg #[.int .u64 (hi ((Nat.gcd b0 c0 : Nat) : Int)), .int .u64 (lo ((Nat.gcd b0 c0 : Nat) : Int))]) ∧ Ext w w') := by
  have H1 := Lib.hid ho
  clear ho
  go_enter Try.func108, Try.ntmps108
  go_wp2_with fail
  obtain ⟨W, hW⟩ : ∃ W, W = ((w.alloc (.cells #[.int .u64 (hi b0), .int .u64 (lo b0)] 123)).alloc (.cells #[.int .u64 (hi c0), .int .u64 (lo c0)] 123)).alloc (.cells #[.int .u64 0, .int .u64 0] 123) := ⟨_, rfl⟩
  rw [← hW]
  have hB : Box2 W w.heap.size (.int .u64 (hi b0)) (.int .u64 (lo b0)) 123 := by rw [hW]; exact ((Box2.new rfl).alloc _).alloc _
  have hC : Box2 W (w.heap.size + 1) (.int .u64 (hi c0)) (.int .u64 (lo c0)) 123 := by rw [hW]; exact (Box2.new (by simp)).alloc _
  have hR : Box2 W (w.heap.size + 1 + 1) (.int .u64 0) (.int .u64 0) 123 := by rw [hW]; exact Box2.new (by simp)
  have xw : Ext w W := by rw [hW]; exact (Ext.refl w).alloc.alloc.alloc
  clear hW
  go_loopw [5] (fun _ wr => ∃ k c : Nat, k ≤ M ∧ c ≤ M ∧ Nat.gcd k c = Nat.gcd b0 c0 ∧ Box2 wr w.heap.size (.int .u64 (hi k)) (.int .u64 (lo k)) 123 ∧
    Box2 wr (w.heap.size + 1) (.int .u64 (hi c)) (.int .u64 (lo c)) 123 ∧ Box2 wr (w.heap.size + 1 + 1) (.int .u64 0) (.int .u64 0) 123 ∧ Ext w wr) (fun _ wr => held (w.heap.size + 1) wr)
  case atStart => exact ⟨b0, c0, hb, hc, rfl, hB, hC, hR, xw⟩
  case round =>
    clear hB hC hR xw hb hc
    obtain ⟨k, c, hk, hc, hg, hB, hC, hR, xw⟩ := hrel
    have HG := Lib.hid hg
    have hm := Lib.hid (held_box hC)
    clear hg
    have hB_0 := hB.c0; have hB_1 := hB.c1; have hC_0 := hC.c0; have hC_1 := hC.c1
    by_cases hc0 : c = 0
    · have g1 : (hi (c : Int) == 0) = true := by subst hc0; rfl
      have g2 : (lo (c : Int) == 0) = true := by subst hc0; rfl
      have HC0 := Lib.hid hc0
      clear hc0
      have hR_0 := hR.c0; have hR_1 := hR.c1
      have hR_2 := hR.f0; have hR_3 := hR.f1
      go_wp2_with fail
      have hgk : Nat.gcd b0 c0 = k := by rw [← HG.out, HC0.out, Nat.gcd_zero_right]
      refine bodyPost_ret (v := .agg #[.int .u64 (hi (k : Int)), .int .u64 (lo (k : Int))]) (by simp [results, Try.results108, go_sem, hR_0, hR_1]) rfl ⟨by rw [hgk], Ext.set (Ext.set xw (by omega)) (by omega)⟩
    · by_cases hz : hi (c : Int) = 0
      · have g1 : (hi (c : Int) == 0) = true := by simpa using hz
        have g2 : (lo (c : Int) == 0) = false := by
          simp only [beq_eq_false_iff_ne, ne_eq]; intro h; have := hi_lo (c : Int); omega
        clear hz
        obtain ⟨q, hq⟩ : ∃ q : Nat, q = k / c := ⟨_, rfl⟩
        obtain ⟨r, hr⟩ : ∃ r : Nat, r = k % c := ⟨_, rfl⟩
        have hrc : r < c := by rw [hr]; exact Nat.mod_lt _ (by omega)
        have HQ := Lib.hid (show ((k : Int) / (c : Int)) = (q : Int) by rw [hq]; omega)
        have HS := Lib.hid (show ((k : Int) % (c : Int)) = (r : Int) by rw [hr]; omega)
        have HN := Lib.hid (show Nat.gcd c r = Nat.gcd b0 c0 by rw [hr, ← gcd_step, HG.out])
        clear hq hr
        go_wp2_with fail
        refine (H1.out k c hk (by omega) hc _).mono ?_
        rw [HQ.out, HS.out]
        rintro e w1 ⟨rfl, x1⟩
        clear hB_0 hB_1 hC_0 hC_1
        (first | replace xw := Ext.trans xw x1 | replace xw := Ext.trans (Ext.alloc xw) x1 | replace xw := Ext.trans (Ext.drew xw) x1 | replace xw := Ext.trans (Ext.alloc (Ext.drew xw)) x1); (first | replace hB := hB.ext x1 | replace hB := (hB.alloc _).ext x1 | replace hB := hB.drew.ext x1 | replace hB := (hB.drew.alloc _).ext x1); (first | replace hC := hC.ext x1 | replace hC := (hC.alloc _).ext x1 | replace hC := hC.drew.ext x1 | replace hC := (hC.drew.alloc _).ext x1); (first | replace hR := hR.ext x1 | replace hR := (hR.alloc _).ext x1 | replace hR := hR.drew.ext x1 | replace hR := (hR.drew.alloc _).ext x1)
        have y1 := hR.kind.lt
        obtain ⟨V, hV⟩ : ∃ V, V = (w1.alloc (.cells #[.int .u64 (hi (q : Int)), .int .u64 (lo (q : Int))] 123)).alloc (.cells #[.int .u64 (hi (r : Int)), .int .u64 (lo (r : Int))] 123) := ⟨_, rfl⟩
        have hT : Box2 V (w1.heap.size + 1) (.int .u64 (hi (r : Int))) (.int .u64 (lo (r : Int))) 123 := by rw [hV]; exact Box2.new (by simp)
        replace hB := hB.named2 hV
        replace hC := hC.named2 hV
        replace hR := hR.named2 hV
        replace xw : Ext w V := by rw [hV]; exact Ext.alloc (Ext.alloc xw)
        go_wp2_with fail
        rw [← hV]
        clear hV x1
        have n1 : ¬ w1.heap.size + 1 = w.heap.size := by omega
        have n2 : ¬ w.heap.size = w1.heap.size + 1 := by omega
        have n3 : ¬ w1.heap.size = w.heap.size := by omega
        have n4 : ¬ w.heap.size = w1.heap.size := by omega
        have hB_0 := hB.c0; have hB_1 := hB.c1; have hC_0 := hC.c0; have hC_1 := hC.c1; have hT_0 := hT.c0; have hT_1 := hT.c1
        have hB_2 := hB.f0; have hB_3 := hB.f1; have hC_2 := hC.f0; have hC_3 := hC.f1
        go_region
        have f1 := (hB.set (.int .u64 (hi (c : Int))) (.int .u64 (lo (c : Int)))).other2 (b := w.heap.size + 1) (by omega) (.int .u64 (hi (r : Int))) (.int .u64 (lo (r : Int)))
        have f2 := (hC.other2 (b := w.heap.size) (by omega) (.int .u64 (hi (c : Int))) (.int .u64 (lo (c : Int)))).set (.int .u64 (hi (r : Int))) (.int .u64 (lo (r : Int)))
        have f3 := (hR.other2 (b := w.heap.size) (by omega) (.int .u64 (hi (c : Int))) (.int .u64 (lo (c : Int)))).other2 (b := w.heap.size + 1) (by omega) (.int .u64 (hi (r : Int))) (.int .u64 (lo (r : Int)))
        have f4 : Ext w ((((V.setCell ⟨w.heap.size, 0, none⟩ (.int .u64 (hi (c : Int)))).setCell ⟨w.heap.size, 1, none⟩ (.int .u64 (lo (c : Int)))).setCell ⟨w.heap.size + 1, 0, none⟩ (.int .u64 (hi (r : Int)))).setCell ⟨w.heap.size + 1, 1, none⟩ (.int .u64 (lo (r : Int)))) := Ext.set (Ext.set (Ext.set (Ext.set xw (by omega)) (by omega)) (by omega)) (by omega)
        go_wp2_with fail
        go_roundw
        case rel => exact ⟨c, r, hc, by omega, HN.out, f1.drew, f2.drew, f3.drew, f4.drew⟩
        case measure => rw [hm.out, held_box f2.drew]; exact hrc
      · have g1 : (hi (c : Int) == 0) = false := by simpa using hz
        clear hz
        obtain ⟨q, hq⟩ : ∃ q : Nat, q = k / c := ⟨_, rfl⟩
        obtain ⟨r, hr⟩ : ∃ r : Nat, r = k % c := ⟨_, rfl⟩
        have hrc : r < c := by rw [hr]; exact Nat.mod_lt _ (by omega)
        have HQ := Lib.hid (show ((k : Int) / (c : Int)) = (q : Int) by rw [hq]; omega)
        have HS := Lib.hid (show ((k : Int) % (c : Int)) = (r : Int) by rw [hr]; omega)
        have HN := Lib.hid (show Nat.gcd c r = Nat.gcd b0 c0 by rw [hr, ← gcd_step, HG.out])
        clear hq hr
        go_wp2_with fail
        refine (H1.out k c hk (by omega) hc _).mono ?_
        rw [HQ.out, HS.out]
        rintro e w1 ⟨rfl, x1⟩
        clear hB_0 hB_1 hC_0 hC_1
        (first | replace xw := Ext.trans xw x1 | replace xw := Ext.trans (Ext.alloc xw) x1 | replace xw := Ext.trans (Ext.drew xw) x1 | replace xw := Ext.trans (Ext.alloc (Ext.drew xw)) x1); (first | replace hB := hB.ext x1 | replace hB := (hB.alloc _).ext x1 | replace hB := hB.drew.ext x1 | replace hB := (hB.drew.alloc _).ext x1); (first | replace hC := hC.ext x1 | replace hC := (hC.alloc _).ext x1 | replace hC := hC.drew.ext x1 | replace hC := (hC.drew.alloc _).ext x1); (first | replace hR := hR.ext x1 | replace hR := (hR.alloc _).ext x1 | replace hR := hR.drew.ext x1 | replace hR := (hR.drew.alloc _).ext x1)
        have y1 := hR.kind.lt
        obtain ⟨V, hV⟩ : ∃ V, V = (w1.alloc (.cells #[.int .u64 (hi (q : Int)), .int .u64 (lo (q : Int))] 123)).alloc (.cells #[.int .u64 (hi (r : Int)), .int .u64 (lo (r : Int))] 123) := ⟨_, rfl⟩
        have hT : Box2 V (w1.heap.size + 1) (.int .u64 (hi (r : Int))) (.int .u64 (lo (r : Int))) 123 := by rw [hV]; exact Box2.new (by simp)
        replace hB := hB.named2 hV
        replace hC := hC.named2 hV
        replace hR := hR.named2 hV
        replace xw : Ext w V := by rw [hV]; exact Ext.alloc (Ext.alloc xw)
        go_wp2_with fail
        rw [← hV]
        clear hV x1
        have n1 : ¬ w1.heap.size + 1 = w.heap.size := by omega
        have n2 : ¬ w.heap.size = w1.heap.size + 1 := by omega
        have n3 : ¬ w1.heap.size = w.heap.size := by omega
        have n4 : ¬ w.heap.size = w1.heap.size := by omega
        have hB_0 := hB.c0; have hB_1 := hB.c1; have hC_0 := hC.c0; have hC_1 := hC.c1; have hT_0 := hT.c0; have hT_1 := hT.c1
        have hB_2 := hB.f0; have hB_3 := hB.f1; have hC_2 := hC.f0; have hC_3 := hC.f1
        go_region
        have f1 := (hB.set (.int .u64 (hi (c : Int))) (.int .u64 (lo (c : Int)))).other2 (b := w.heap.size + 1) (by omega) (.int .u64 (hi (r : Int))) (.int .u64 (lo (r : Int)))
        have f2 := (hC.other2 (b := w.heap.size) (by omega) (.int .u64 (hi (c : Int))) (.int .u64 (lo (c : Int)))).set (.int .u64 (hi (r : Int))) (.int .u64 (lo (r : Int)))
        have f3 := (hR.other2 (b := w.heap.size) (by omega) (.int .u64 (hi (c : Int))) (.int .u64 (lo (c : Int)))).other2 (b := w.heap.size + 1) (by omega) (.int .u64 (hi (r : Int))) (.int .u64 (lo (r : Int)))
        have f4 : Ext w ((((V.setCell ⟨w.heap.size, 0, none⟩ (.int .u64 (hi (c : Int)))).setCell ⟨w.heap.size, 1, none⟩ (.int .u64 (lo (c : Int)))).setCell ⟨w.heap.size + 1, 0, none⟩ (.int .u64 (hi (r : Int)))).setCell ⟨w.heap.size + 1, 1, none⟩ (.int .u64 (lo (r : Int)))) := Ext.set (Ext.set (Ext.set (Ext.set xw (by omega)) (by omega)) (by omega)) (by omega)
        go_wp2_with fail
        go_roundw
        case rel => exact ⟨c, r, hc, by omega, HN.out, f1.drew, f2.drew, f3.drew, f4.drew⟩
        case measure => rw [hm.out, held_box f2.drew]; exact hrc

theorem gcd_to {M b c : Nat} (hb : b ≤ M) (hc : c ≤ M) : Nat.gcd b c ≤ M := by
  by_cases h : b = 0
  · subst h; rw [Nat.gcd_zero_left]; exact hc
  · exact Nat.le_trans (Nat.gcd_le_left c (by omega)) hb
set_option maxRecDepth 100000 in
set_option maxHeartbeats 1600000 in
theorem dGcd (M : Nat) (a b : Int) (w : World) (ha : W128 a) (hb : W128 b) (h1 : a.natAbs ≤ M) (h2 : b.natAbs ≤ M) (hM : M < 340282366920938463463374607431768211456) (ho : OverTo M) :
    Calls Try.prog 61 #[.agg #[.int .i64 (hi a), .int .u64 (lo a)], .agg #[.int .i64 (hi b), .int .u64 (lo b)]] w (RetT w ((Nat.gcd a.natAbs b.natAbs : Nat) : Int)) := by
  have H1 := Lib.hid dparts
  have H2 := Lib.hid dgcd
  have H3 := Lib.hid dsigned
  have hU : U128 ((Nat.gcd a.natAbs b.natAbs : Nat) : Int) := by have := gcd_to h1 h2; unfold U128; omega
  have HO := Lib.hid ho
  clear ho hM
  obtain ⟨A, hA⟩ : ∃ A, A = a.natAbs := ⟨_, rfl⟩
  obtain ⟨B, hBn⟩ : ∃ B, B = b.natAbs := ⟨_, rfl⟩
  rw [← hA, ← hBn] at hU ⊢
  rw [← hA] at h1
  rw [← hBn] at h2
  obtain ⟨G, hG⟩ : ∃ G : Nat, G = Nat.gcd A B := ⟨_, rfl⟩
  rw [← hG] at hU ⊢
  have HAn := Lib.hid hA
  have HBn := Lib.hid hBn
  have HG := Lib.hid hG
  clear hG hA hBn
  go_enter Try.func61, Try.ntmps61
  go_wp2_with fail
  obtain ⟨W, hW⟩ : ∃ W, W = ((w.alloc (.cells #[.int .i64 (hi a), .int .u64 (lo a)] 26)).alloc (.cells #[.int .i64 (hi b), .int .u64 (lo b)] 26)).alloc (.cells #[.int .i64 0, .int .u64 0] 26) := ⟨_, rfl⟩
  rw [← hW]
  have hB : Box2 W (w.heap.size + 1) (.int .i64 (hi b)) (.int .u64 (lo b)) 26 := by rw [hW]; exact (Box2.new (by simp)).alloc _
  have hR : Box2 W (w.heap.size + 1 + 1) (.int .i64 0) (.int .u64 0) 26 := by rw [hW]; exact Box2.new (by simp)
  have xw : Ext w W := by rw [hW]; exact (Ext.refl w).alloc.alloc.alloc
  clear hW
  refine (H1.out _ _ ha).mono ?_
  rw [mag_abs a, ← HAn.out]
  rintro e w1 ⟨rfl, x1⟩
  (first | replace xw := Ext.trans xw x1 | replace xw := Ext.trans (Ext.alloc xw) x1 | replace xw := Ext.trans (Ext.drew xw) x1 | replace xw := Ext.trans (Ext.alloc (Ext.drew xw)) x1); (first | replace hB := hB.ext x1 | replace hB := (hB.alloc _).ext x1 | replace hB := hB.drew.ext x1 | replace hB := (hB.drew.alloc _).ext x1); (first | replace hR := hR.ext x1 | replace hR := (hR.alloc _).ext x1 | replace hR := hR.drew.ext x1 | replace hR := (hR.drew.alloc _).ext x1)
  have hX : Box2 (w1.alloc (.cells #[.int .u64 (hi (A : Int)), .int .u64 (lo (A : Int))] 123)) w1.heap.size (.int .u64 (hi (A : Int))) (.int .u64 (lo (A : Int))) 123 := Box2.new rfl
  replace hB := hB.alloc (.cells #[.int .u64 (hi (A : Int)), .int .u64 (lo (A : Int))] 123)
  replace hR := hR.alloc (.cells #[.int .u64 (hi (A : Int)), .int .u64 (lo (A : Int))] 123)
  have hB_0 := hB.c0; have hB_1 := hB.c1
  go_wp2_with fail
  clear hB_0 hB_1
  refine (H1.out _ _ hb).mono ?_
  rw [mag_abs b, ← HBn.out]
  rintro e w2 ⟨rfl, x2⟩
  clear hB
  (first | replace xw := Ext.trans xw x2 | replace xw := Ext.trans (Ext.alloc xw) x2 | replace xw := Ext.trans (Ext.drew xw) x2 | replace xw := Ext.trans (Ext.alloc (Ext.drew xw)) x2); (first | replace hX := hX.ext x2 | replace hX := (hX.alloc _).ext x2 | replace hX := hX.drew.ext x2 | replace hX := (hX.drew.alloc _).ext x2); (first | replace hR := hR.ext x2 | replace hR := (hR.alloc _).ext x2 | replace hR := hR.drew.ext x2 | replace hR := (hR.drew.alloc _).ext x2)
  have hY : Box2 (w2.alloc (.cells #[.int .u64 (hi (B : Int)), .int .u64 (lo (B : Int))] 123)) w2.heap.size (.int .u64 (hi (B : Int))) (.int .u64 (lo (B : Int))) 123 := Box2.new rfl
  replace hX := hX.alloc (.cells #[.int .u64 (hi (B : Int)), .int .u64 (lo (B : Int))] 123)
  replace hR := hR.alloc (.cells #[.int .u64 (hi (B : Int)), .int .u64 (lo (B : Int))] 123)
  have hX_0 := hX.c0; have hX_1 := hX.c1; have hY_0 := hY.c0; have hY_1 := hY.c1
  go_wp2_with fail
  clear hX_0 hX_1 hY_0 hY_1
  clear hX hY
  refine (H2.out M A B _ h1 h2 HO.out).mono ?_
  rw [← HG.out]
  rintro e w3 ⟨rfl, x3⟩
  (first | replace xw := Ext.trans xw x3 | replace xw := Ext.trans (Ext.alloc xw) x3 | replace xw := Ext.trans (Ext.drew xw) x3 | replace xw := Ext.trans (Ext.alloc (Ext.drew xw)) x3); (first | replace hR := hR.ext x3 | replace hR := (hR.alloc _).ext x3 | replace hR := hR.drew.ext x3 | replace hR := (hR.drew.alloc _).ext x3)
  go_wp2_with fail
  refine (H3.out _ _ _ hU).mono ?_
  rw [wsg_f]
  rintro e w4 ⟨rfl, x4⟩
  (first | replace xw := Ext.trans xw x4 | replace xw := Ext.trans (Ext.alloc xw) x4 | replace xw := Ext.trans (Ext.drew xw) x4 | replace xw := Ext.trans (Ext.alloc (Ext.drew xw)) x4); (first | replace hR := hR.ext x4 | replace hR := (hR.alloc _).ext x4 | replace hR := hR.drew.ext x4 | replace hR := (hR.drew.alloc _).ext x4)
  have hR_0 := hR.c0; have hR_1 := hR.c1
  have hR_2 := hR.f0; have hR_3 := hR.f1
  go_wp2_with fail
  refine bodyPost_ret (v := .tuple #[.agg #[.int .i64 (thi (G : Int)), .int .u64 (tlo (G : Int))], .int .i64 (ter (G : Int))]) (by simp [results, Try.results61, go_sem, hR_0, hR_1]) rfl ⟨rfl, ?_⟩
  exact Ext.set (Ext.set xw (by omega)) (by omega)
theorem over_to (M : Nat) (h : M < 18446744073709551616) : OverTo M := by
  intro b d hb hd hd'
  exact fun w => over_small b d w (by unfold U128; omega) (by omega) (by omega)
end Go.Proofs.Ytmkddcmfofabbaa
