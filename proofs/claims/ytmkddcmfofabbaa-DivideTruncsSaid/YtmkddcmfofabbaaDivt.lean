/-
  bits.Div64: the walk.
-/
import Derived.Test.YtmkddcmfofabbaaDivu
import Derived.BigQuiet
import Derived.Deep.DeepCutAuto
namespace Go.Proofs.Ytmkddcmfofabbaa
open Go Go.RowKit

set_option maxRecDepth 100000 in
set_option maxHeartbeats 1600000 in
theorem div64_low (l y : Int) (w : World) (y0 : 0 < y) (l0 : 0 ≤ l) (l1 : l < 18446744073709551616) :
    Calls Try.prog 90 #[.int .u64 0, .int .u64 l, .int .u64 y] w fun e w' => e = .returned (.tuple #[.int .u64 (l / y), .int .u64 (l % y)]) ∧ Ext w w' := by
  have e0 : ¬ y = 0 := by omega
  have g0 : (y == 0) = false := by simpa using e0
  have a0 : 0 ≤ l / y := Int.ediv_nonneg l0 (by omega)
  have a1 : l / y < 18446744073709551616 := Int.lt_of_le_of_lt (Int.ediv_le_self y l0) l1
  go_enter Try.func90, Try.ntmps90
  go_wp2_with fail
  go_quiet (fail)
  go_wp2_with fail
  refine bodyPost_ret (v := .tuple #[.int .u64 (l / y), .int .u64 (l % y)]) (by simp [results, Try.results90, go_sem]) rfl ⟨rfl, (by repeat (first | exact Ext.refl _ | refine Ext.alloc ?_ | refine Ext.drew ?_ | refine Ext.drewN ?_ | refine Ext.set ?_ (Ext.size ?_) | refine Ext.set ?_ (Ext.size1 ?_) | refine Ext.set ?_ (Ext.size2 ?_) | refine Ext.trans ?_ (by assumption)))⟩

set_option maxRecDepth 100000 in
set_option maxHeartbeats 1600000 in
theorem div64_high (h l y : Int) (w : World) (h0 : 0 < h) (hy : h < y) (y1 : y < 18446744073709551616) (l0 : 0 ≤ l) (l1 : l < 18446744073709551616) :
    Calls Try.prog 90 #[.int .u64 h, .int .u64 l, .int .u64 y] w fun e w' => e = .returned (.tuple #[.int .u64 ((h * 18446744073709551616 + l) / y), .int .u64 ((h * 18446744073709551616 + l) % y)]) ∧ Ext w w' := by
  have H1 := Lib.hid lz64
  go_enter Try.func90, Try.ntmps90
  go_wp2_with fail
  refine (H1.out _ _ (by omega) (by omega)).mono ?_
  rintro e w1 ⟨s, rfl, s1, s2, s3, rfl⟩
  clear H1
  go_wp2_with fail
  obtain ⟨Y, Y1, Y0, U, T, T1, T0, e1, e2, e3, e4, e5, e6, e7, hY, hT, t0, t1, hN, hV⟩ := div_pre h l y s h0 hy l0 l1 s1 s2 s3
  simp only [e1, e2, e3, e4, e5, e6, e7]
  have ⟨n0, n1, n2, n3, n4, n5, n6, n7⟩ := hN
  obtain ⟨hI, hIr⟩ := half_init hN
  have ⟨i0, i1, i2, i3, i4⟩ := hI
  have f1 : U.tdiv Y1 = U / Y1 := Int.tdiv_eq_ediv_of_nonneg n4
  have f2 : IntKind.u64.wrap (U / Y1) = U / Y1 := u64_id i0 (by omega)
  have f3 : IntKind.u64.wrap (U / Y1 * Y1) = U / Y1 * Y1 := u64_id (Int.mul_nonneg i0 (by omega)) (by omega)
  have f4 : IntKind.u64.wrap (U - U / Y1 * Y1) = U - U / Y1 * Y1 := u64_id (by omega) (by omega)
  simp only [f1, f2, f3, f4]
  have HV := Lib.hid hV
  have eY := Lib.hid hY
  have eYs := Lib.hid e1
  have yb0 : 0 < Y := by omega
  have yb1 : Y < 18446744073709551616 := by omega
  have tb0 : 0 ≤ T := by omega
  have tb1 : T < 18446744073709551616 := by omega
  clear f1 f2 f3 f4 e1 e2 e3 e4 e5 e6 e7 i0 i1 i2 i3 i4 hV hY hT s2 s3
  go_loop [15, 16] (fun s15 s16 => ∃ q r : Int, s15 = .int .u64 q ∧ s16 = .int .u64 r ∧ Half U T1 Y1 Y0 q r ∧ r < 4294967296) (fun s15 _ => (intOf s15).toNat)
  case atStart => exact ⟨_, _, rfl, rfl, hI, by omega⟩
  case round =>
    clear hI hIr
    obtain ⟨q, r, rfl, rfl, H, hr⟩ := hrel
    have ⟨g1, g2⟩ := half_room hN H
    have ⟨H0, H1', H2, H3, H4⟩ := H
    have HH := Lib.hid H
    clear H H2 H3
    by_cases ht : 4294967296 ≤ q
    · have HT := Lib.hid (Or.inl ht : 4294967296 ≤ q ∨ 4294967296 * r + T1 < q * Y0)
      by_cases hb : 4294967296 ≤ r + Y1
      · have hq0 := half_brk hN (half_step hN HH.out HT.out).1 (half_step hN HH.out HT.out).2.1 hb
        obtain ⟨k1, hVb⟩ := div_mid hN eY.out hq0
        obtain ⟨Q, hQ⟩ : ∃ Q, Q = q - 1 := ⟨_, rfl⟩
        have hQ1 := Lib.hid (hQ.trans hq0)
        rw [← hQ] at k1 hVb
        clear hq0
        go_wp2_with fail
        simp only [← hQ]
        simp only [k1]
        obtain ⟨V, hV⟩ : ∃ V, V = U * 4294967296 + T1 - Q * Y := ⟨_, rfl⟩
        rw [← hV] at hVb
        simp only [← hV]
        have hM : Nrm V T0 Y1 Y0 := hVb t0 t1
        obtain ⟨f1, f2, f3, f4⟩ := div_first hM
        simp only [f1, f2, f3, f4]
        have hV' := Lib.hid hV
        clear hV
        obtain ⟨hI, hIr⟩ := half_init hM
        clear f1 f2 f3 f4 k1 hVb hQ
        go_loop [18, 16] (fun s18 s16 => ∃ q r : Int, s18 = .int .u64 q ∧ s16 = .int .u64 r ∧ Half V T0 Y1 Y0 q r ∧ r < 4294967296) (fun s18 _ => (intOf s18).toNat)
        case atStart => exact ⟨_, _, rfl, rfl, hI, by omega⟩
        case round =>
          clear hI hIr
          obtain ⟨q, r, rfl, rfl, H, hr⟩ := hrel
          have ⟨g1, g2⟩ := half_room hM H
          have ⟨H0, H1', H2, H3, H4⟩ := H
          have HH := Lib.hid H
          clear H H2 H3
          by_cases ht : 4294967296 ≤ q
          · have HT := Lib.hid (Or.inl ht : 4294967296 ≤ q ∨ 4294967296 * r + T0 < q * Y0)
            by_cases hb : 4294967296 ≤ r + Y1
            · have hq0 := half_brk hM (half_step hM HH.out HT.out).1 (half_step hM HH.out HT.out).2.1 hb
              have HQ0 := Lib.hid hq0
              clear hq0
              go_wp2_with fail
              obtain ⟨z1, z2⟩ := div_end (h := h) (l := l) (y := y) s1 eYs.out HV.out eY.out hN hQ1.out hV'.out hM HQ0.out
              simp only [z1, z2]
              refine bodyPost_ret (v := .tuple #[.int .u64 ((h * 18446744073709551616 + l) / y), .int .u64 ((h * 18446744073709551616 + l) % y)]) (by simp [results, Try.results90, go_sem]) rfl ⟨rfl, (by repeat (first | exact Ext.refl _ | refine Ext.alloc ?_ | refine Ext.drew ?_ | refine Ext.drewN ?_ | refine Ext.set ?_ (Ext.size ?_) | refine Ext.set ?_ (Ext.size1 ?_) | refine Ext.set ?_ (Ext.size2 ?_) | refine Ext.trans ?_ (by assumption)))⟩
            · go_wp2_with fail
              go_round
              case rel => exact ⟨_, _, rfl, rfl, (half_step hM HH.out HT.out).1, by omega⟩
              case measure => simp [intOf]; omega
          · by_cases ht2 : 4294967296 * r + T0 < q * Y0
            · have HT := Lib.hid (Or.inr ht2 : 4294967296 ≤ q ∨ 4294967296 * r + T0 < q * Y0)
              have hq1 := (half_step hM HH.out HT.out).2.2
              by_cases hb : 4294967296 ≤ r + Y1
              · have hq0 := half_brk hM (half_step hM HH.out HT.out).1 (half_step hM HH.out HT.out).2.1 hb
                have HQ0 := Lib.hid hq0
                clear hq0
                go_wp2_with fail
                obtain ⟨z1, z2⟩ := div_end (h := h) (l := l) (y := y) s1 eYs.out HV.out eY.out hN hQ1.out hV'.out hM HQ0.out
                simp only [z1, z2]
                refine bodyPost_ret (v := .tuple #[.int .u64 ((h * 18446744073709551616 + l) / y), .int .u64 ((h * 18446744073709551616 + l) % y)]) (by simp [results, Try.results90, go_sem]) rfl ⟨rfl, (by repeat (first | exact Ext.refl _ | refine Ext.alloc ?_ | refine Ext.drew ?_ | refine Ext.drewN ?_ | refine Ext.set ?_ (Ext.size ?_) | refine Ext.set ?_ (Ext.size1 ?_) | refine Ext.set ?_ (Ext.size2 ?_) | refine Ext.trans ?_ (by assumption)))⟩
              · go_wp2_with fail
                go_round
                case rel => exact ⟨_, _, rfl, rfl, (half_step hM HH.out HT.out).1, by omega⟩
                case measure => simp [intOf]; omega
            · have hq0 := half_end hM HH.out (by omega)
              have HQ0 := Lib.hid hq0
              clear hq0
              go_wp2_with fail
              obtain ⟨z1, z2⟩ := div_end (h := h) (l := l) (y := y) s1 eYs.out HV.out eY.out hN hQ1.out hV'.out hM HQ0.out
              simp only [z1, z2]
              refine bodyPost_ret (v := .tuple #[.int .u64 ((h * 18446744073709551616 + l) / y), .int .u64 ((h * 18446744073709551616 + l) % y)]) (by simp [results, Try.results90, go_sem]) rfl ⟨rfl, (by repeat (first | exact Ext.refl _ | refine Ext.alloc ?_ | refine Ext.drew ?_ | refine Ext.drewN ?_ | refine Ext.set ?_ (Ext.size ?_) | refine Ext.set ?_ (Ext.size1 ?_) | refine Ext.set ?_ (Ext.size2 ?_) | refine Ext.trans ?_ (by assumption)))⟩
      · go_wp2_with fail
        go_round
        case rel => exact ⟨_, _, rfl, rfl, (half_step hN HH.out HT.out).1, by omega⟩
        case measure => simp [intOf]; omega
    · by_cases ht2 : 4294967296 * r + T1 < q * Y0
      · have HT := Lib.hid (Or.inr ht2 : 4294967296 ≤ q ∨ 4294967296 * r + T1 < q * Y0)
        have hq1 := (half_step hN HH.out HT.out).2.2
        by_cases hb : 4294967296 ≤ r + Y1
        · have hq0 := half_brk hN (half_step hN HH.out HT.out).1 (half_step hN HH.out HT.out).2.1 hb
          obtain ⟨k1, hVb⟩ := div_mid hN eY.out hq0
          obtain ⟨Q, hQ⟩ : ∃ Q, Q = q - 1 := ⟨_, rfl⟩
          have hQ1 := Lib.hid (hQ.trans hq0)
          rw [← hQ] at k1 hVb
          clear hq0
          go_wp2_with fail
          simp only [← hQ]
          simp only [k1]
          obtain ⟨V, hV⟩ : ∃ V, V = U * 4294967296 + T1 - Q * Y := ⟨_, rfl⟩
          rw [← hV] at hVb
          simp only [← hV]
          have hM : Nrm V T0 Y1 Y0 := hVb t0 t1
          obtain ⟨f1, f2, f3, f4⟩ := div_first hM
          simp only [f1, f2, f3, f4]
          have hV' := Lib.hid hV
          clear hV
          obtain ⟨hI, hIr⟩ := half_init hM
          clear f1 f2 f3 f4 k1 hVb hQ
          go_loop [18, 16] (fun s18 s16 => ∃ q r : Int, s18 = .int .u64 q ∧ s16 = .int .u64 r ∧ Half V T0 Y1 Y0 q r ∧ r < 4294967296) (fun s18 _ => (intOf s18).toNat)
          case atStart => exact ⟨_, _, rfl, rfl, hI, by omega⟩
          case round =>
            clear hI hIr
            obtain ⟨q, r, rfl, rfl, H, hr⟩ := hrel
            have ⟨g1, g2⟩ := half_room hM H
            have ⟨H0, H1', H2, H3, H4⟩ := H
            have HH := Lib.hid H
            clear H H2 H3
            by_cases ht : 4294967296 ≤ q
            · have HT := Lib.hid (Or.inl ht : 4294967296 ≤ q ∨ 4294967296 * r + T0 < q * Y0)
              by_cases hb : 4294967296 ≤ r + Y1
              · have hq0 := half_brk hM (half_step hM HH.out HT.out).1 (half_step hM HH.out HT.out).2.1 hb
                have HQ0 := Lib.hid hq0
                clear hq0
                go_wp2_with fail
                obtain ⟨z1, z2⟩ := div_end (h := h) (l := l) (y := y) s1 eYs.out HV.out eY.out hN hQ1.out hV'.out hM HQ0.out
                simp only [z1, z2]
                refine bodyPost_ret (v := .tuple #[.int .u64 ((h * 18446744073709551616 + l) / y), .int .u64 ((h * 18446744073709551616 + l) % y)]) (by simp [results, Try.results90, go_sem]) rfl ⟨rfl, (by repeat (first | exact Ext.refl _ | refine Ext.alloc ?_ | refine Ext.drew ?_ | refine Ext.drewN ?_ | refine Ext.set ?_ (Ext.size ?_) | refine Ext.set ?_ (Ext.size1 ?_) | refine Ext.set ?_ (Ext.size2 ?_) | refine Ext.trans ?_ (by assumption)))⟩
              · go_wp2_with fail
                go_round
                case rel => exact ⟨_, _, rfl, rfl, (half_step hM HH.out HT.out).1, by omega⟩
                case measure => simp [intOf]; omega
            · by_cases ht2 : 4294967296 * r + T0 < q * Y0
              · have HT := Lib.hid (Or.inr ht2 : 4294967296 ≤ q ∨ 4294967296 * r + T0 < q * Y0)
                have hq1 := (half_step hM HH.out HT.out).2.2
                by_cases hb : 4294967296 ≤ r + Y1
                · have hq0 := half_brk hM (half_step hM HH.out HT.out).1 (half_step hM HH.out HT.out).2.1 hb
                  have HQ0 := Lib.hid hq0
                  clear hq0
                  go_wp2_with fail
                  obtain ⟨z1, z2⟩ := div_end (h := h) (l := l) (y := y) s1 eYs.out HV.out eY.out hN hQ1.out hV'.out hM HQ0.out
                  simp only [z1, z2]
                  refine bodyPost_ret (v := .tuple #[.int .u64 ((h * 18446744073709551616 + l) / y), .int .u64 ((h * 18446744073709551616 + l) % y)]) (by simp [results, Try.results90, go_sem]) rfl ⟨rfl, (by repeat (first | exact Ext.refl _ | refine Ext.alloc ?_ | refine Ext.drew ?_ | refine Ext.drewN ?_ | refine Ext.set ?_ (Ext.size ?_) | refine Ext.set ?_ (Ext.size1 ?_) | refine Ext.set ?_ (Ext.size2 ?_) | refine Ext.trans ?_ (by assumption)))⟩
                · go_wp2_with fail
                  go_round
                  case rel => exact ⟨_, _, rfl, rfl, (half_step hM HH.out HT.out).1, by omega⟩
                  case measure => simp [intOf]; omega
              · have hq0 := half_end hM HH.out (by omega)
                have HQ0 := Lib.hid hq0
                clear hq0
                go_wp2_with fail
                obtain ⟨z1, z2⟩ := div_end (h := h) (l := l) (y := y) s1 eYs.out HV.out eY.out hN hQ1.out hV'.out hM HQ0.out
                simp only [z1, z2]
                refine bodyPost_ret (v := .tuple #[.int .u64 ((h * 18446744073709551616 + l) / y), .int .u64 ((h * 18446744073709551616 + l) % y)]) (by simp [results, Try.results90, go_sem]) rfl ⟨rfl, (by repeat (first | exact Ext.refl _ | refine Ext.alloc ?_ | refine Ext.drew ?_ | refine Ext.drewN ?_ | refine Ext.set ?_ (Ext.size ?_) | refine Ext.set ?_ (Ext.size1 ?_) | refine Ext.set ?_ (Ext.size2 ?_) | refine Ext.trans ?_ (by assumption)))⟩
        · go_wp2_with fail
          go_round
          case rel => exact ⟨_, _, rfl, rfl, (half_step hN HH.out HT.out).1, by omega⟩
          case measure => simp [intOf]; omega
      · have hq0 := half_end hN HH.out (by omega)
        obtain ⟨k1, hVb⟩ := div_mid hN eY.out hq0
        obtain ⟨Q, hQ⟩ : ∃ Q, Q = q := ⟨_, rfl⟩
        have hQ1 := Lib.hid (hQ.trans hq0)
        rw [← hQ] at k1 hVb
        clear hq0
        go_wp2_with fail
        simp only [← hQ]
        simp only [k1]
        obtain ⟨V, hV⟩ : ∃ V, V = U * 4294967296 + T1 - Q * Y := ⟨_, rfl⟩
        rw [← hV] at hVb
        simp only [← hV]
        have hM : Nrm V T0 Y1 Y0 := hVb t0 t1
        obtain ⟨f1, f2, f3, f4⟩ := div_first hM
        simp only [f1, f2, f3, f4]
        have hV' := Lib.hid hV
        clear hV
        obtain ⟨hI, hIr⟩ := half_init hM
        clear f1 f2 f3 f4 k1 hVb hQ
        go_loop [18, 16] (fun s18 s16 => ∃ q r : Int, s18 = .int .u64 q ∧ s16 = .int .u64 r ∧ Half V T0 Y1 Y0 q r ∧ r < 4294967296) (fun s18 _ => (intOf s18).toNat)
        case atStart => exact ⟨_, _, rfl, rfl, hI, by omega⟩
        case round =>
          clear hI hIr
          obtain ⟨q, r, rfl, rfl, H, hr⟩ := hrel
          have ⟨g1, g2⟩ := half_room hM H
          have ⟨H0, H1', H2, H3, H4⟩ := H
          have HH := Lib.hid H
          clear H H2 H3
          by_cases ht : 4294967296 ≤ q
          · have HT := Lib.hid (Or.inl ht : 4294967296 ≤ q ∨ 4294967296 * r + T0 < q * Y0)
            by_cases hb : 4294967296 ≤ r + Y1
            · have hq0 := half_brk hM (half_step hM HH.out HT.out).1 (half_step hM HH.out HT.out).2.1 hb
              have HQ0 := Lib.hid hq0
              clear hq0
              go_wp2_with fail
              obtain ⟨z1, z2⟩ := div_end (h := h) (l := l) (y := y) s1 eYs.out HV.out eY.out hN hQ1.out hV'.out hM HQ0.out
              simp only [z1, z2]
              refine bodyPost_ret (v := .tuple #[.int .u64 ((h * 18446744073709551616 + l) / y), .int .u64 ((h * 18446744073709551616 + l) % y)]) (by simp [results, Try.results90, go_sem]) rfl ⟨rfl, (by repeat (first | exact Ext.refl _ | refine Ext.alloc ?_ | refine Ext.drew ?_ | refine Ext.drewN ?_ | refine Ext.set ?_ (Ext.size ?_) | refine Ext.set ?_ (Ext.size1 ?_) | refine Ext.set ?_ (Ext.size2 ?_) | refine Ext.trans ?_ (by assumption)))⟩
            · go_wp2_with fail
              go_round
              case rel => exact ⟨_, _, rfl, rfl, (half_step hM HH.out HT.out).1, by omega⟩
              case measure => simp [intOf]; omega
          · by_cases ht2 : 4294967296 * r + T0 < q * Y0
            · have HT := Lib.hid (Or.inr ht2 : 4294967296 ≤ q ∨ 4294967296 * r + T0 < q * Y0)
              have hq1 := (half_step hM HH.out HT.out).2.2
              by_cases hb : 4294967296 ≤ r + Y1
              · have hq0 := half_brk hM (half_step hM HH.out HT.out).1 (half_step hM HH.out HT.out).2.1 hb
                have HQ0 := Lib.hid hq0
                clear hq0
                go_wp2_with fail
                obtain ⟨z1, z2⟩ := div_end (h := h) (l := l) (y := y) s1 eYs.out HV.out eY.out hN hQ1.out hV'.out hM HQ0.out
                simp only [z1, z2]
                refine bodyPost_ret (v := .tuple #[.int .u64 ((h * 18446744073709551616 + l) / y), .int .u64 ((h * 18446744073709551616 + l) % y)]) (by simp [results, Try.results90, go_sem]) rfl ⟨rfl, (by repeat (first | exact Ext.refl _ | refine Ext.alloc ?_ | refine Ext.drew ?_ | refine Ext.drewN ?_ | refine Ext.set ?_ (Ext.size ?_) | refine Ext.set ?_ (Ext.size1 ?_) | refine Ext.set ?_ (Ext.size2 ?_) | refine Ext.trans ?_ (by assumption)))⟩
              · go_wp2_with fail
                go_round
                case rel => exact ⟨_, _, rfl, rfl, (half_step hM HH.out HT.out).1, by omega⟩
                case measure => simp [intOf]; omega
            · have hq0 := half_end hM HH.out (by omega)
              have HQ0 := Lib.hid hq0
              clear hq0
              go_wp2_with fail
              obtain ⟨z1, z2⟩ := div_end (h := h) (l := l) (y := y) s1 eYs.out HV.out eY.out hN hQ1.out hV'.out hM HQ0.out
              simp only [z1, z2]
              refine bodyPost_ret (v := .tuple #[.int .u64 ((h * 18446744073709551616 + l) / y), .int .u64 ((h * 18446744073709551616 + l) % y)]) (by simp [results, Try.results90, go_sem]) rfl ⟨rfl, (by repeat (first | exact Ext.refl _ | refine Ext.alloc ?_ | refine Ext.drew ?_ | refine Ext.drewN ?_ | refine Ext.set ?_ (Ext.size ?_) | refine Ext.set ?_ (Ext.size1 ?_) | refine Ext.set ?_ (Ext.size2 ?_) | refine Ext.trans ?_ (by assumption)))⟩

end Go.Proofs.Ytmkddcmfofabbaa
