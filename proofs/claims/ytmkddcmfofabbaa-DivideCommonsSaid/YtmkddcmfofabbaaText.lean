/-
  wide.Text.
-/
import Derived.Test.YtmkddcmfofabbaaWc
import Derived.Test.YtmkddcmfofabbaaDivt
import Derived.Laws.BytesArg
namespace Go.Proofs.Ytmkddcmfofabbaa
open Go Go.RowKit

/-- The decimal digits of a number, as bytes. -/
def decs (n : Nat) : List Int := if n < 10 then [48 + (n : Int)] else decs (n / 10) ++ [48 + ((n % 10 : Nat) : Int)]
termination_by n
theorem decs_lt {n : Nat} (h : n < 10) : decs n = [48 + (n : Int)] := by rw [decs, if_pos h]
theorem decs_ge {n : Nat} (h : ¬ n < 10) : decs n = decs (n / 10) ++ [48 + ((n % 10 : Nat) : Int)] := by rw [decs, if_neg h]
/-- A number's text, as bytes. -/
def txt (n : Int) : List Int := if n < 0 then 45 :: decs n.natAbs else decs n.natAbs
theorem txt_neg {n : Int} (h : n < 0) : txt n = 45 :: decs n.natAbs := if_pos h
theorem txt_pos {n : Int} (h : ¬ n < 0) : txt n = decs n.natAbs := if_neg h

/-- Block k is an array of bytes that may be written. -/
def Arr (w : World) (k : Nat) (t : TypeId) (zs : List Int) : Prop := w.heap[k]? = some (.cells (zs.map (Value.int .u8)).toArray t (0, 0))
theorem Arr.kind {w : World} {k : Nat} {t : TypeId} {zs : List Int} (h : Arr w k t zs) : Kind w k t := ⟨_, _, h⟩
theorem Arr.ext {w w' : World} {k : Nat} {t : TypeId} {zs : List Int} (h : Arr w k t zs) (hb : Ext w w') : Arr w' k t zs := (Below.block hb k h.kind.lt).trans h
theorem Arr.cell {w : World} {k : Nat} {t : TypeId} {zs : List Int} (h : Arr w k t zs) (j : Nat) (hj : j < zs.length) : w.cell? ⟨k, j, none⟩ = some (.int .u8 (zs.getD j 0)) := by
  unfold Arr at h
  simp [World.cell?, h, List.getElem?_eq_getElem hj]
theorem Arr.frozen {w : World} {k : Nat} {t : TypeId} {zs : List Int} (h : Arr w k t zs) (j : Nat) : w.frozen? ⟨k, j, none⟩ = false := by
  unfold Arr at h
  simp [World.frozen?, h]
theorem Arr.set {w : World} {k : Nat} {t : TypeId} {zs : List Int} (h : Arr w k t zs) (j : Nat) (y : Int) : Arr (w.setCell ⟨k, j, none⟩ (.int .u8 y)) k t (zs.set j y) := by
  have h1 := Joins.block_setCell (i := j) h (.int .u8 y)
  unfold Arr
  rw [h1, List.map_set]
  simp

/-- Behind k digits c is left, and L is written. -/
def Left (N k c : Nat) (L : List Int) : Prop := L.length = k ∧ c < 10 ^ (39 - k) ∧ k ≤ 39 ∧ (k = 0 → c = N) ∧ (0 < k → (c = 0 ∧ L = decs N) ∨ (0 < c ∧ decs c ++ L = decs N))
theorem left_zero {N : Nat} (h : N < 10 ^ 39) : Left N 0 N [] := ⟨rfl, h, by omega, fun _ => rfl, fun h => absurd h (by omega)⟩
theorem left_step {N k c : Nat} {L : List Int} (h : Left N k c L) (hc : 0 < c ∨ k = 0) : Left N (k + 1) (c / 10) ((48 + ((c % 10 : Nat) : Int)) :: L) := by
  obtain ⟨h1, h2, h3, h4, h5⟩ := h
  have hk : k < 39 := by
    by_cases e : k = 39
    · subst e; simp at h2; omega
    · omega
  have e : 10 ^ (39 - k) = 10 ^ (39 - (k + 1)) * 10 := by rw [← Nat.pow_succ]; congr 1; omega
  have main : decs c ++ L = decs N := by
    rcases Nat.eq_zero_or_pos k with h0 | h0
    · subst h0
      rw [h4 rfl, List.length_eq_zero_iff.1 h1, List.append_nil]
    · rcases h5 h0 with h | h
      · omega
      · exact h.2
  refine ⟨by simp [h1], by omega, by omega, by omega, fun _ => ?_⟩
  by_cases hs : c < 10
  · left
    refine ⟨by omega, ?_⟩
    rw [← main, decs_lt hs, Nat.mod_eq_of_lt hs]; rfl
  · right
    refine ⟨by omega, ?_⟩
    rw [← main, decs_ge hs, List.append_assoc]; rfl
theorem left_end {N k c : Nat} {L : List Int} (h : Left N k c L) (hc : c = 0) (hk : 0 < k) : L = decs N := by
  obtain ⟨h1, h2, h3, h4, h5⟩ := h
  rcases h5 hk with h | h
  · exact h.2
  · omega

theorem left_bd {N k c : Nat} {L : List Int} (h : Left N k c L) (hN : (N : Int) ≤ 170141183460469231731687303715884105728) : (c : Int) < 340282366920938463463374607431768211456 := by
  obtain ⟨h1, h2, h3, h4, h5⟩ := h
  rcases Nat.eq_zero_or_pos k with h0 | h0
  · rw [h4 h0]; omega
  · have := Nat.pow_le_pow_right (n := 10) (by omega) (show 39 - k ≤ 38 by omega)
    have e : (10 : Nat) ^ 38 = 100000000000000000000000000000000000000 := by decide
    omega

theorem div64 (h l y : Int) (w : World) (h0 : 0 ≤ h) (hy : h < y) (y1 : y < 18446744073709551616) (l0 : 0 ≤ l) (l1 : l < 18446744073709551616) :
    Calls Try.prog 90 #[.int .u64 h, .int .u64 l, .int .u64 y] w fun e w' => e = .returned (.tuple #[.int .u64 ((h * 18446744073709551616 + l) / y), .int .u64 ((h * 18446744073709551616 + l) % y)]) ∧ Ext w w' := by
  by_cases e : h = 0
  · subst e
    have := div64_low l y w hy l0 l1
    rwa [show (0 : Int) * 18446744073709551616 + l = l by omega]
  · exact div64_high h l y w (by omega) hy y1 l0 l1

theorem drop_set (zs : List Int) (j : Nat) (y : Int) (hj : j < zs.length) : (zs.set j y).drop j = y :: zs.drop (j + 1) := by
  rw [List.drop_eq_getElem_cons (by simpa using hj)]
  simp [List.drop_set]
theorem mag_abs (n : Int) : mag n = (n.natAbs : Int) := by unfold mag; split <;> omega

theorem slice_arr (K i : Nat) (x : Int) (hx : x = i) (hi : i < 40) (w : World) :
    (Instr.sliceAt 108 (.pointer (some ⟨K, 0, none⟩)) (some (.int .i64 x)) none none).run Try.prog w = .ok (.slice (some ⟨K, i, none⟩) (40 - i) (40 - i)) w := by
  subst hx
  have e : Try.prog.elem 108 = 5 := by kernel_rfl
  have l : Try.prog.arrayLen 108 = 40 := by kernel_rfl
  have s : ∀ w, (sizeOf 5).run Try.prog w = .ok 1 w := fun _ => by kernel_rfl
  rw [run_sliceAt_array_l w 108 ⟨K, 0, none⟩ (by kernel_rfl) .i64 i (by omega) (by rw [l]; omega), e, s, l]
  have : ¬ 40 = i := by omega
  simp [Result.andThen, slicedAt, this, Addr.add]
  exact Eq.symm
theorem conv_arr {w : World} {K i : Nat} {zs : List Int} (h : Arr w K 108 zs) (hz : zs.length = 40) (hi : i < 40) :
    (convert 28 9 (.slice (some ⟨K, i, none⟩) (40 - i) (40 - i))).run Try.prog w = .ok (.string (strOfNums (zs.drop i))) w := by
  refine run_convert_bytes_arg w 28 5 (by kernel_rfl) (by kernel_rfl) K i (40 - i) (40 - i) (zs.drop i) (by simp [hz]) (fun j hj => ?_) 9 (by kernel_rfl)
  rw [h.cell (i + j) (by omega)]
  simp [List.getD]

set_option maxRecDepth 100000 in
set_option maxHeartbeats 1600000 in
theorem wtext (n : Int) (w : World) (hn : W128 n) :
    Calls Try.prog 29 #[.agg #[.int .i64 (hi n), .int .u64 (lo n)]] w (fun e w' => e = .returned (.string (strOfNums (txt n))) ∧ Ext w w') := by
  have H4 := Lib.hid parts_any
  have H5 := Lib.hid div64
  obtain ⟨m0, m1⟩ := mag_W hn
  go_enter Try.func29, Try.ntmps29
  go_wp2_with fail
  refine (H4.out _ _ hn).mono ?_
  rintro e w1 ⟨rfl, x1⟩
  clear H4
  obtain ⟨N, hN⟩ : ∃ N, N = n.natAbs := ⟨_, rfl⟩
  have hM : mag n = (N : Int) := by rw [mag_abs, hN]
  rw [hM] at m0 m1 ⊢
  have HN := Lib.hid hN
  clear hN
  go_wp2_with fail
  obtain ⟨V, hV⟩ : ∃ V, V = w1.alloc (.cells #[.int .u8 0, .int .u8 0, .int .u8 0, .int .u8 0, .int .u8 0, .int .u8 0, .int .u8 0, .int .u8 0, .int .u8 0, .int .u8 0, .int .u8 0, .int .u8 0, .int .u8 0, .int .u8 0, .int .u8 0, .int .u8 0, .int .u8 0, .int .u8 0, .int .u8 0, .int .u8 0, .int .u8 0, .int .u8 0, .int .u8 0, .int .u8 0, .int .u8 0, .int .u8 0, .int .u8 0, .int .u8 0, .int .u8 0, .int .u8 0, .int .u8 0, .int .u8 0, .int .u8 0, .int .u8 0, .int .u8 0, .int .u8 0, .int .u8 0, .int .u8 0, .int .u8 0, .int .u8 0] 108) := ⟨_, rfl⟩
  rw [← hV]
  have hA0 : Arr V w1.heap.size 108 (List.replicate 40 0) := by rw [hV]; exact heap_alloc_new w1 _
  have xV : Ext w V := by rw [hV]; exact (by repeat (first | exact Ext.refl _ | refine Ext.alloc ?_ | refine Ext.drew ?_ | refine Ext.drewN ?_ | refine Ext.set ?_ (Ext.size ?_) | refine Ext.set ?_ (Ext.size1 ?_) | refine Ext.set ?_ (Ext.size2 ?_) | refine Ext.trans ?_ (by assumption)))
  have zV : w.heap.size ≤ w1.heap.size := Ext.size (Ext.trans (Ext.refl w).alloc x1)
  clear hV
  go_loopw [3, 4, 7, 8] (fun s3 s4 s7 s8 wr => ∃ (j c : Nat) (zs : List Int), s3 = .int .u64 (hi c) ∧ s4 = .int .u64 (lo c) ∧ s7 = .int .i64 ((j : Int) + 1) ∧ j ≤ 39 ∧ zs.length = 40 ∧ Arr wr w1.heap.size 108 zs ∧ Left N (39 - j) c (zs.drop (j + 1)) ∧ Ext w wr)
    (fun s3 s4 s7 s8 _ => (intOf s7).toNat)
  case atStart => exact ⟨39, N, List.replicate 40 0, rfl, rfl, rfl, by omega, rfl, hA0, left_zero (by omega), xV⟩
  case round =>
    clear hA0 xV x1
    obtain ⟨j, c, zs, rfl, rfl, rfl, hj, hz, hA, hL, xr⟩ := hrel
    obtain ⟨lb0, lb1⟩ := lo_bd c
    have cb : (c : Int) < 340282366920938463463374607431768211456 := left_bd hL m1
    have hb0 : 0 ≤ hi c := by unfold hi; omega
    have hb1 : hi c < 18446744073709551616 := by unfold hi; omega
    have e1 : hi c / 10 = hi ((c / 10 : Nat) : Int) := by unfold hi; omega
    have e2 : (hi c % 10 * 18446744073709551616 + lo c) / 10 = lo ((c / 10 : Nat) : Int) := by unfold hi lo; omega
    have e3 : (hi c % 10 * 18446744073709551616 + lo c) % 10 = ((c % 10 : Nat) : Int) := by unfold hi lo; omega
    have E1 := Lib.hid e1
    have E2 := Lib.hid e2
    have E3 := Lib.hid e3
    have HL := Lib.hid hL
    clear e1 e2 e3 hL
    by_cases hh : 0 < hi c
    · have hgo : 0 < c ∨ 39 - j = 0 := by unfold hi at hh; omega
      go_wp2_with fail
      refine (H5.out _ _ _ _ (by omega) (by omega) (by omega) (by omega) (by omega)).mono ?_
      rintro e w2 ⟨rfl, x2⟩
      have hj1 := (left_step HL.out hgo).2.2.1
      have b1 := (hA.ext x2).cell (j) (by omega)
      have b2 := (hA.ext x2).frozen (j)
      simp only [E1.out, E2.out, E3.out]
      clear E1 E2 E3
      go_wp2_with fail
      go_roundw
      case rel => exact ⟨j - 1, c / 10, zs.set j (48 + ((c % 10 : Nat) : Int)), rfl, rfl, by go_num, by omega, by simp [hz], (hA.ext x2).set _ _, by rw [show j - 1 + 1 = j by omega, drop_set _ _ _ (by omega), show 39 - (j - 1) = 39 - j + 1 by omega]; exact left_step HL.out hgo, Ext.set (Ext.trans xr x2) zV⟩
      case measure => simp [intOf]
    · by_cases hl : 0 < lo c
      · have hgo : 0 < c ∨ 39 - j = 0 := by unfold lo at hl; omega
        go_wp2_with fail
        refine (H5.out _ _ _ _ (by omega) (by omega) (by omega) (by omega) (by omega)).mono ?_
        rintro e w2 ⟨rfl, x2⟩
        have hj1 := (left_step HL.out hgo).2.2.1
        have b1 := (hA.ext x2).cell (j) (by omega)
        have b2 := (hA.ext x2).frozen (j)
        simp only [E1.out, E2.out, E3.out]
        clear E1 E2 E3
        go_wp2_with fail
        go_roundw
        case rel => exact ⟨j - 1, c / 10, zs.set j (48 + ((c % 10 : Nat) : Int)), rfl, rfl, by go_num, by omega, by simp [hz], (hA.ext x2).set _ _, by rw [show j - 1 + 1 = j by omega, drop_set _ _ _ (by omega), show 39 - (j - 1) = 39 - j + 1 by omega]; exact left_step HL.out hgo, Ext.set (Ext.trans xr x2) zV⟩
        case measure => simp [intOf]
      · by_cases h39 : j = 39
        · have hgo : 0 < c ∨ 39 - j = 0 := by omega
          have gk : (((j : Int) + 1) == 40) = true := by subst h39; rfl
          have hh' : decide (0 < hi c) = false := decide_eq_false hh
          have hl' : decide (0 < lo c) = false := decide_eq_false hl
          clear hh hl h39
          go_wp2_with fail
          refine (H5.out _ _ _ _ (by omega) (by omega) (by omega) (by omega) (by omega)).mono ?_
          rintro e w2 ⟨rfl, x2⟩
          have hj1 := (left_step HL.out hgo).2.2.1
          have b1 := (hA.ext x2).cell (j) (by omega)
          have b2 := (hA.ext x2).frozen (j)
          simp only [E1.out, E2.out, E3.out]
          clear E1 E2 E3
          go_wp2_with fail
          go_roundw
          case rel => exact ⟨j - 1, c / 10, zs.set j (48 + ((c % 10 : Nat) : Int)), rfl, rfl, by go_num, by omega, by simp [hz], (hA.ext x2).set _ _, by rw [show j - 1 + 1 = j by omega, drop_set _ _ _ (by omega), show 39 - (j - 1) = 39 - j + 1 by omega]; exact left_step HL.out hgo, Ext.set (Ext.trans xr x2) zV⟩
          case measure => simp [intOf]
        · have gk : (((j : Int) + 1) == 40) = false := by simp; omega
          have hc0 : c = 0 := by unfold hi at hh; unfold lo at hl; omega
          have hE := Lib.hid (left_end HL.out hc0 (by omega))
          have hh' : decide (0 < hi c) = false := decide_eq_false hh
          have hl' : decide (0 < lo c) = false := decide_eq_false hl
          have hj39 : j < 39 := by omega
          clear E1 E2 E3 HL H5 hh hl h39 hc0 cb lb0 lb1 hb0 hb1 m0 m1 hn
          by_cases hn0 : n < 0
          · have a1 := hA.cell j (by omega)
            have a2 := hA.frozen j
            have hs := slice_arr w1.heap.size j ((j : Int)) rfl (by omega)
            have hcv := conv_arr (hA.set j 45) (by simpa using hz) (i := j) (by omega)
            rw [drop_set _ _ _ (by omega), hE.out, HN.out, ← txt_neg hn0] at hcv
            go_wp2_with fail
            go_ret
            exact ⟨rfl, Ext.set xr zV⟩
          · obtain ⟨i, hi'⟩ : ∃ i, i = j + 1 := ⟨_, rfl⟩
            have hs := slice_arr w1.heap.size i ((j : Int) + 1) (by omega) (by omega)
            have hcv := conv_arr hA hz (i := i) (by omega)
            rw [hi', hE.out, HN.out, ← txt_pos hn0, ← hi'] at hcv
            clear hi'
            go_wp2_with fail
            go_ret
            exact ⟨rfl, xr⟩

end Go.Proofs.Ytmkddcmfofabbaa
