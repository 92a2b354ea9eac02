/-
  Texts joined: Duz, Duzp, Duzn, Duzm, Due, Rat. Each says at its head what it shows.
-/
import Derived.Test.YtccllfegnijpiaaPId
section
/-
  Durations: what may be, as the reference reckons it.
-/
set_option linter.unusedVariables false
set_option maxRecDepth 100000
namespace Go.Proofs.Ytccllfegnijpiaa
open Go Go.RowKit Go.Ev

theorem z0_is (w : World) : ZOf ⟨false, none, 0, 0⟩ 0 w := isZ_zero w
section
variable {f0 : FuncId} {E : List TypeId} {w0 : World} {R : Ending → World → Prop} {L : ZL} {c : Cf}
/-- The zero value is the number 0. -/
theorem st_zero (hk : Ru ⟨Try.prog, f0, E, w0, R⟩ (ZAll ((⟨false, none, 0, 0⟩, 0) :: L)) c) (hE : E = [3] := by rfl) : Ru ⟨Try.prog, f0, E, w0, R⟩ (ZAll L) c := by
  subst hE
  refine ⟨hk.h.mono (ZAll.stable _) fun w hw p hp => ?_⟩
  rcases List.mem_cons.1 hp with rfl | hp
  · exact z0_is w
  · exact hw p hp
end
theorem sg8_1 {a b c d h mi s n : Int} (q : 0 < a ∨ a = 0 ∧ (0 < b ∨ b = 0 ∧ (0 < c ∨ c = 0 ∧ (0 < d ∨ d = 0 ∧ (0 < h ∨ h = 0 ∧ (0 < mi ∨ mi = 0 ∧ (0 < s ∨ s = 0 ∧ (0 < n)))))))) : sg8 a b c d h mi s n = 1 := by
  unfold sg8
  by_cases ka : a = 0
  rotate_left
  · rw [if_pos (by omega)]; have := cmpI_sg a; omega
  rw [if_neg (by omega)]
  by_cases kb : b = 0
  rotate_left
  · rw [if_pos (by omega)]; have := cmpI_sg b; omega
  rw [if_neg (by omega)]
  by_cases kc : c = 0
  rotate_left
  · rw [if_pos (by omega)]; have := cmpI_sg c; omega
  rw [if_neg (by omega)]
  by_cases kd : d = 0
  rotate_left
  · rw [if_pos (by omega)]; have := cmpI_sg d; omega
  rw [if_neg (by omega)]
  by_cases kh : h = 0
  rotate_left
  · rw [if_pos (by omega)]; have := cmpI_sg h; omega
  rw [if_neg (by omega)]
  by_cases kmi : mi = 0
  rotate_left
  · rw [if_pos (by omega)]; have := cmpI_sg mi; omega
  rw [if_neg (by omega)]
  by_cases ks : s = 0
  rotate_left
  · rw [if_pos (by omega)]; have := cmpI_sg s; omega
  rw [if_neg (by omega)]
  have := cmpI_sg n; omega
theorem sg8_m {a b c d h mi s n : Int} (q : a < 0 ∨ a = 0 ∧ (b < 0 ∨ b = 0 ∧ (c < 0 ∨ c = 0 ∧ (d < 0 ∨ d = 0 ∧ (h < 0 ∨ h = 0 ∧ (mi < 0 ∨ mi = 0 ∧ (s < 0 ∨ s = 0 ∧ (n < 0)))))))) : sg8 a b c d h mi s n = -1 := by
  unfold sg8
  by_cases ka : a = 0
  rotate_left
  · rw [if_pos (by omega)]; have := cmpI_sg a; omega
  rw [if_neg (by omega)]
  by_cases kb : b = 0
  rotate_left
  · rw [if_pos (by omega)]; have := cmpI_sg b; omega
  rw [if_neg (by omega)]
  by_cases kc : c = 0
  rotate_left
  · rw [if_pos (by omega)]; have := cmpI_sg c; omega
  rw [if_neg (by omega)]
  by_cases kd : d = 0
  rotate_left
  · rw [if_pos (by omega)]; have := cmpI_sg d; omega
  rw [if_neg (by omega)]
  by_cases kh : h = 0
  rotate_left
  · rw [if_pos (by omega)]; have := cmpI_sg h; omega
  rw [if_neg (by omega)]
  by_cases kmi : mi = 0
  rotate_left
  · rw [if_pos (by omega)]; have := cmpI_sg mi; omega
  rw [if_neg (by omega)]
  by_cases ks : s = 0
  rotate_left
  · rw [if_pos (by omega)]; have := cmpI_sg s; omega
  rw [if_neg (by omega)]
  have := cmpI_sg n; omega
theorem sg8_0 {a b c d h mi s n : Int} (q : a = 0 ∧ b = 0 ∧ c = 0 ∧ d = 0 ∧ h = 0 ∧ mi = 0 ∧ s = 0 ∧ n = 0) : sg8 a b c d h mi s n = 0 := by
  unfold sg8
  by_cases ka : a = 0
  rotate_left
  · rw [if_pos (by omega)]; have := cmpI_sg a; omega
  rw [if_neg (by omega)]
  by_cases kb : b = 0
  rotate_left
  · rw [if_pos (by omega)]; have := cmpI_sg b; omega
  rw [if_neg (by omega)]
  by_cases kc : c = 0
  rotate_left
  · rw [if_pos (by omega)]; have := cmpI_sg c; omega
  rw [if_neg (by omega)]
  by_cases kd : d = 0
  rotate_left
  · rw [if_pos (by omega)]; have := cmpI_sg d; omega
  rw [if_neg (by omega)]
  by_cases kh : h = 0
  rotate_left
  · rw [if_pos (by omega)]; have := cmpI_sg h; omega
  rw [if_neg (by omega)]
  by_cases kmi : mi = 0
  rotate_left
  · rw [if_pos (by omega)]; have := cmpI_sg mi; omega
  rw [if_neg (by omega)]
  by_cases ks : s = 0
  rotate_left
  · rw [if_pos (by omega)]; have := cmpI_sg s; omega
  rw [if_neg (by omega)]
  have := cmpI_sg n; omega
theorem zulen4 : Fn 43 [] [.int .i64 4] (.int .i64 86400000000000) := by
  refine fn_of Try.func43 rfl fun ww => ?_
  exact st_ret Try.func43 (by kernel_rfl)
theorem zulen5 : Fn 43 [] [.int .i64 5] (.int .i64 3600000000000) := by
  refine fn_of Try.func43 rfl fun ww => ?_
  exact st_ret Try.func43 (by kernel_rfl)
theorem zulen6 : Fn 43 [] [.int .i64 6] (.int .i64 60000000000) := by
  refine fn_of Try.func43 rfl fun ww => ?_
  exact st_ret Try.func43 (by kernel_rfl)
theorem zulen7 : Fn 43 [] [.int .i64 7] (.int .i64 1000000000) := by
  refine fn_of Try.func43 rfl fun ww => ?_
  exact st_ret Try.func43 (by kernel_rfl)
theorem zulen8 : Fn 43 [] [.int .i64 8] (.int .i64 1) := by
  refine fn_of Try.func43 rfl fun ww => ?_
  exact st_ret Try.func43 (by kernel_rfl)
theorem zulen_o (u : Int) (h : u < 4 ∨ 8 < u) : Fn 43 [] [.int .i64 u] (.int .i64 0) := by
  by_cases k : u < 4
  · refine fn_of Try.func43 rfl fun ww => ?_
    refine st_b 5 (show (u == 4) = false by exact decide_eq_false (by omega)) (by kernel_rfl) ?_
    refine st_b 7 (show (u == 5) = false by exact decide_eq_false (by omega)) (by kernel_rfl) ?_
    refine st_b 9 (show (u == 6) = false by exact decide_eq_false (by omega)) (by kernel_rfl) ?_
    refine st_b 11 (show (u == 7) = false by exact decide_eq_false (by omega)) (by kernel_rfl) ?_
    refine st_b 13 (show (u == 8) = false by exact decide_eq_false (by omega)) (by kernel_rfl) ?_
    exact st_ret Try.func43 (by kernel_rfl)
  · have k' : 8 < u := by omega
    refine fn_of Try.func43 rfl fun ww => ?_
    refine st_b 5 (show (u == 4) = false by exact decide_eq_false (by omega)) (by kernel_rfl) ?_
    refine st_b 7 (show (u == 5) = false by exact decide_eq_false (by omega)) (by kernel_rfl) ?_
    refine st_b 9 (show (u == 6) = false by exact decide_eq_false (by omega)) (by kernel_rfl) ?_
    refine st_b 11 (show (u == 7) = false by exact decide_eq_false (by omega)) (by kernel_rfl) ?_
    refine st_b 13 (show (u == 8) = false by exact decide_eq_false (by omega)) (by kernel_rfl) ?_
    exact st_ret Try.func43 (by kernel_rfl)
theorem zulen_fn (u : Int) : Fn 43 [] [.int .i64 u] (.int .i64 (ulen u)) := by
  by_cases h : 4 ≤ u ∧ u ≤ 8
  · rcases units h.1 h.2 with rfl | rfl | rfl | rfl | rfl
    · exact zulen4
    · exact zulen5
    · exact zulen6
    · exact zulen7
    · exact zulen8
  · rw [ulen_no (by omega)]
    exact zulen_o u (by omega)
section
variable (a b c d h mi s n : Int)
theorem zufields : FnB 35 [duv a b c d h mi s n] [.int .i64 a, .int .i64 b, .int .i64 c, .int .i64 d, .int .i64 h, .int .i64 mi, .int .i64 s, .int .i64 n] 2 8 := by
  refine fnB_of Try.func35 rfl fun ww => ?_
  exact st_retB Try.func35 (by kernel_rfl)
theorem zumade : Fn 121 [] [duv a b c d h mi s n] (duv a b c d h mi s n) := by
  refine fn_of Try.func121 rfl fun ww => ?_
  exact st_ret Try.func121 (by kernel_rfl)
theorem fzadd0 (q : ZQ) (y : Int) (hy : Fit y) : FnZ 53 [(⟨false, none, 0, 0⟩, 0), (q, y)] [.agg #[.bool false, .slice none 0 0], zv q] zv (0 + y) := fzadd ⟨false, none, 0, 0⟩ q 0 y (Bits.fit (k := 1) (by unfold Bits; decide) (by decide)) hy
theorem zutot (i1 : I64 d) (i2 : I64 h) (i3 : I64 mi) (i4 : I64 s) (i5 : I64 n) : FnZ 62 [] [duv a b c d h mi s n] zv (dtot d h mi s n) := by
  have j1 : I64 86400000000000 := by unfold I64; omega
  have j2 : I64 3600000000000 := by unfold I64; omega
  have j3 : I64 60000000000 := by unfold I64; omega
  have j4 : I64 1000000000 := by unfold I64; omega
  have j5 : I64 1 := by unfold I64; omega
  refine fnG_of Try.func62 rfl fun ww => ?_
  refine st_zero ?_
  refine st_rowB ent35 (zufields (a) (b) (c) (d) (h) (mi) (s) (n)) (by kernel_rfl) ?_
  refine st_round (by kernel_rfl) ?_
  refine st_i 22 .i64 (x' := 3 + 1) (Go.IntWalk.i64_in _ (by omega)) (by kernel_rfl) ?_
  refine st_g ent42 (fzint (d) (by assumption)) sub0 (by kernel_rfl) (fun zq1 => ?_)
  refine st_fn ent43 (zulen4) sub0 (by kernel_rfl) ?_
  refine st_g ent42 (fzint (86400000000000) (by assumption)) sub0 (by kernel_rfl) (fun zq3 => ?_)
  refine st_g ent41 (fzmul (zq1) (zq3) (d) (86400000000000) (by exact Bits.fit i1.w.bits (by decide)) (by exact Bits.fit j1.w.bits (by decide))) (subC 1 rfl (subC 0 rfl sub0)) (by kernel_rfl) (fun zq4 => ?_)
  refine st_g ent53 (fzadd0 (zq4) (d * 86400000000000) (by exact Bits.fit (Bits.mul i1.w.bits j1.w.bits) (by decide))) (subC 3 rfl (subC 0 rfl sub0)) (by kernel_rfl) (fun zq5 => ?_)
  refine st_i 14 .i64 (x' := 3 + 1) (Go.IntWalk.i64_in _ (by omega)) (by kernel_rfl) ?_
  refine st_round (by kernel_rfl) ?_
  refine st_i 22 .i64 (x' := 3 + 1 + 1) (Go.IntWalk.i64_in _ (by omega)) (by kernel_rfl) ?_
  refine st_g ent42 (fzint (h) (by assumption)) sub0 (by kernel_rfl) (fun zq6 => ?_)
  refine st_fn ent43 (zulen5) sub0 (by kernel_rfl) ?_
  refine st_g ent42 (fzint (3600000000000) (by assumption)) sub0 (by kernel_rfl) (fun zq8 => ?_)
  refine st_g ent41 (fzmul (zq6) (zq8) (h) (3600000000000) (by exact Bits.fit i2.w.bits (by decide)) (by exact Bits.fit j2.w.bits (by decide))) (subC 1 rfl (subC 0 rfl sub0)) (by kernel_rfl) (fun zq9 => ?_)
  refine st_g ent53 (fzadd (zq5) (zq9) (0 + d * 86400000000000) (h * 3600000000000) (by exact Bits.fit (Bits.add (Bits.mono (l := 256) (show Bits 64 (0) from (by unfold Bits; decide)) (by decide)) (Bits.mono (l := 256) (Bits.mul i1.w.bits j1.w.bits) (by decide))) (by decide)) (by exact Bits.fit (Bits.mul i2.w.bits j2.w.bits) (by decide))) (subC 3 rfl (subC 0 rfl sub0)) (by kernel_rfl) (fun zq10 => ?_)
  refine st_i 14 .i64 (x' := 3 + 1 + 1) (Go.IntWalk.i64_in _ (by omega)) (by kernel_rfl) ?_
  refine st_round (by kernel_rfl) ?_
  refine st_i 22 .i64 (x' := 3 + 1 + 1 + 1) (Go.IntWalk.i64_in _ (by omega)) (by kernel_rfl) ?_
  refine st_g ent42 (fzint (mi) (by assumption)) sub0 (by kernel_rfl) (fun zq11 => ?_)
  refine st_fn ent43 (zulen6) sub0 (by kernel_rfl) ?_
  refine st_g ent42 (fzint (60000000000) (by assumption)) sub0 (by kernel_rfl) (fun zq13 => ?_)
  refine st_g ent41 (fzmul (zq11) (zq13) (mi) (60000000000) (by exact Bits.fit i3.w.bits (by decide)) (by exact Bits.fit j3.w.bits (by decide))) (subC 1 rfl (subC 0 rfl sub0)) (by kernel_rfl) (fun zq14 => ?_)
  refine st_g ent53 (fzadd (zq10) (zq14) (0 + d * 86400000000000 + h * 3600000000000) (mi * 60000000000) (by exact Bits.fit (Bits.add (Bits.mono (l := 257) (Bits.add (Bits.mono (l := 256) (show Bits 64 (0) from (by unfold Bits; decide)) (by decide)) (Bits.mono (l := 256) (Bits.mul i1.w.bits j1.w.bits) (by decide))) (by decide)) (Bits.mono (l := 257) (Bits.mul i2.w.bits j2.w.bits) (by decide))) (by decide)) (by exact Bits.fit (Bits.mul i3.w.bits j3.w.bits) (by decide))) (subC 3 rfl (subC 0 rfl sub0)) (by kernel_rfl) (fun zq15 => ?_)
  refine st_i 14 .i64 (x' := 3 + 1 + 1 + 1) (Go.IntWalk.i64_in _ (by omega)) (by kernel_rfl) ?_
  refine st_round (by kernel_rfl) ?_
  refine st_i 22 .i64 (x' := 3 + 1 + 1 + 1 + 1) (Go.IntWalk.i64_in _ (by omega)) (by kernel_rfl) ?_
  refine st_g ent42 (fzint (s) (by assumption)) sub0 (by kernel_rfl) (fun zq16 => ?_)
  refine st_fn ent43 (zulen7) sub0 (by kernel_rfl) ?_
  refine st_g ent42 (fzint (1000000000) (by assumption)) sub0 (by kernel_rfl) (fun zq18 => ?_)
  refine st_g ent41 (fzmul (zq16) (zq18) (s) (1000000000) (by exact Bits.fit i4.w.bits (by decide)) (by exact Bits.fit j4.w.bits (by decide))) (subC 1 rfl (subC 0 rfl sub0)) (by kernel_rfl) (fun zq19 => ?_)
  refine st_g ent53 (fzadd (zq15) (zq19) (0 + d * 86400000000000 + h * 3600000000000 + mi * 60000000000) (s * 1000000000) (by exact Bits.fit (Bits.add (Bits.mono (l := 258) (Bits.add (Bits.mono (l := 257) (Bits.add (Bits.mono (l := 256) (show Bits 64 (0) from (by unfold Bits; decide)) (by decide)) (Bits.mono (l := 256) (Bits.mul i1.w.bits j1.w.bits) (by decide))) (by decide)) (Bits.mono (l := 257) (Bits.mul i2.w.bits j2.w.bits) (by decide))) (by decide)) (Bits.mono (l := 258) (Bits.mul i3.w.bits j3.w.bits) (by decide))) (by decide)) (by exact Bits.fit (Bits.mul i4.w.bits j4.w.bits) (by decide))) (subC 3 rfl (subC 0 rfl sub0)) (by kernel_rfl) (fun zq20 => ?_)
  refine st_i 14 .i64 (x' := 3 + 1 + 1 + 1 + 1) (Go.IntWalk.i64_in _ (by omega)) (by kernel_rfl) ?_
  refine st_round (by kernel_rfl) ?_
  refine st_i 22 .i64 (x' := 3 + 1 + 1 + 1 + 1 + 1) (Go.IntWalk.i64_in _ (by omega)) (by kernel_rfl) ?_
  refine st_g ent42 (fzint (n) (by assumption)) sub0 (by kernel_rfl) (fun zq21 => ?_)
  refine st_fn ent43 (zulen8) sub0 (by kernel_rfl) ?_
  refine st_g ent42 (fzint (1) (by assumption)) sub0 (by kernel_rfl) (fun zq23 => ?_)
  refine st_g ent41 (fzmul (zq21) (zq23) (n) (1) (by exact Bits.fit i5.w.bits (by decide)) (by exact Bits.fit j5.w.bits (by decide))) (subC 1 rfl (subC 0 rfl sub0)) (by kernel_rfl) (fun zq24 => ?_)
  refine st_g ent53 (fzadd (zq20) (zq24) (0 + d * 86400000000000 + h * 3600000000000 + mi * 60000000000 + s * 1000000000) (n * 1) (by exact Bits.fit (Bits.add (Bits.mono (l := 259) (Bits.add (Bits.mono (l := 258) (Bits.add (Bits.mono (l := 257) (Bits.add (Bits.mono (l := 256) (show Bits 64 (0) from (by unfold Bits; decide)) (by decide)) (Bits.mono (l := 256) (Bits.mul i1.w.bits j1.w.bits) (by decide))) (by decide)) (Bits.mono (l := 257) (Bits.mul i2.w.bits j2.w.bits) (by decide))) (by decide)) (Bits.mono (l := 258) (Bits.mul i3.w.bits j3.w.bits) (by decide))) (by decide)) (Bits.mono (l := 259) (Bits.mul i4.w.bits j4.w.bits) (by decide))) (by decide)) (by exact Bits.fit (Bits.mul i5.w.bits j5.w.bits) (by decide))) (subC 3 rfl (subC 0 rfl sub0)) (by kernel_rfl) (fun zq25 => ?_)
  refine st_i 14 .i64 (x' := 3 + 1 + 1 + 1 + 1 + 1) (Go.IntWalk.i64_in _ (by omega)) (by kernel_rfl) ?_
  refine st_round (by kernel_rfl) ?_
  exact st_retG (zq25) Try.func62 (subE 0 rfl (by (unfold dtot; omega)) sub0) (by kernel_rfl)
theorem zpow53 : FnZ 109 [] [.int .i64 53] zv (P 53) := fun w _ => (power_any 53 w (by omega)).mono fun _ _ => zret
theorem zulimit : FnZ 149 [] [] zv 9007199254740992000000000 := by
  have i1 : I64 1000000000 := by unfold I64; omega
  have b1 : Bits 54 (P 53) := Bits.P 53
  refine fnG_of Try.func149 rfl fun ww => ?_
  refine st_g ent109 (zpow53) sub0 (by kernel_rfl) (fun zq0 => ?_)
  refine st_g ent42 (fzint (1000000000) (by assumption)) sub0 (by kernel_rfl) (fun zq1 => ?_)
  refine st_g ent41 (fzmul (zq0) (zq1) (P 53) (1000000000) (by exact Bits.fit b1 (by decide)) (by exact Bits.fit i1.w.bits (by decide))) (subC 1 rfl (subC 0 rfl sub0)) (by kernel_rfl) (fun zq2 => ?_)
  exact st_retG (zq2) Try.func149 (subE 0 rfl (by rfl) sub0) (by kernel_rfl)
end
end Go.Proofs.Ytccllfegnijpiaa
end
section
/-
  Durations: what may be, as the reference reckons it: no field below 0.
-/
set_option linter.unusedVariables false
set_option maxRecDepth 100000
namespace Go.Proofs.Ytccllfegnijpiaa
open Go Go.RowKit Go.Ev

section
variable (a b c d h mi s n : Int)
theorem zuright_p (i : all64 a b c d h mi s n) (hk : pos8 a b c d h mi s n) : Fn 119 [] [duv a b c d h mi s n] (.bool (decide (uOk a b c d h mi s n))) := by
  obtain ⟨i1, i2, i3, i4, i5, i6, i7, i8⟩ := i
  have bt : W128 (dtot d h mi s n) := by unfold I64 at *; unfold W128 dtot; omega
  have bl : W128 9007199254740992000000000 := by unfold W128; omega
  have ut := zutot a b c d h mi s n i4 i5 i6 i7 i8
  obtain ⟨X, hX⟩ : ∃ X : Int, X = ((dtot d h mi s n).natAbs : Int) := ⟨_, rfl⟩
  have bX : Bits 128 X := by rw [hX]; exact bt.bits.abs
  have fa : ∀ p : ZQ, FnZ 106 [(p, dtot d h mi s n)] [zv p] zv X := fun p => by rw [hX]; exact fzabs p _ (bt.bits.fit (by decide))
  have qt := cmpI_lt0 (a := X) (b := 9007199254740992000000000)
  unfold pos8 at hk
  obtain ⟨k1, k2, k3, k4, k5, k6, k7, k8⟩ := hk
  refine fn_of Try.func119 rfl fun ww => ?_
  refine st_rowB ent35 (zufields (a) (b) (c) (d) (h) (mi) (s) (n)) (by kernel_rfl) ?_
  refine st_forget [0, 1, 3, 4, 5, 6, 7, 8, 47, 48, 49, 50, 51, 52, 53, 54, 55, 56, 57, 58, 59] (by kernel_rfl) ?_
  refine st_loop (X := Int × Bool) (fun x => ([SV.val (Value.agg #[Value.int IntKind.i64 a, Value.int IntKind.i64 b, Value.int IntKind.i64 c, Value.int IntKind.i64 d, Value.int IntKind.i64 h, Value.int IntKind.i64 mi, Value.int IntKind.i64 s, Value.int IntKind.i64 n]), SV.ptr 0 0, .any, SV.sl 1 0 8 8, .val (.bool x.2), .val (.bool false), .val (.int .i64 x.1), SV.val (Value.agg #[Value.int IntKind.i64 a, Value.int IntKind.i64 b, Value.int IntKind.i64 c, Value.int IntKind.i64 d, Value.int IntKind.i64 h, Value.int IntKind.i64 mi, Value.int IntKind.i64 s, Value.int IntKind.i64 n]), SV.sl 1 0 8 8, .any, .any, .any, .any, .any, .any, .any, .any, .any, .any, .any, .any, .any, .any, .any, .any, .any, .any, .any, .any, .any, .any, .any, .any, .any, .any, .any, .any, .any, .any, .any, .any, .any, .any, .any, .any, .any, .any, SV.val (Value.tuple #[]), SV.val (Value.tuple #[]), SV.val (Value.tuple #[]), SV.val (Value.tuple #[]), SV.val (Value.tuple #[]), SV.val (Value.tuple #[]), SV.val (Value.tuple #[]), SV.val (Value.tuple #[]), SV.val (Value.tuple #[]), SV.val (Value.tuple #[]), SV.val (Value.tuple #[]), SV.val (Value.tuple #[]), SV.val (Value.tuple #[])], [⟨[SV.val (Value.int IntKind.i64 a), SV.val (Value.int IntKind.i64 b), SV.val (Value.int IntKind.i64 c), SV.val (Value.int IntKind.i64 d), SV.val (Value.int IntKind.i64 h), SV.val (Value.int IntKind.i64 mi), SV.val (Value.int IntKind.i64 s), SV.val (Value.int IntKind.i64 n)], 41⟩, ⟨[SV.val (Value.int IntKind.i64 a), SV.val (Value.int IntKind.i64 b), SV.val (Value.int IntKind.i64 c), SV.val (Value.int IntKind.i64 d), SV.val (Value.int IntKind.i64 h), SV.val (Value.int IntKind.i64 mi), SV.val (Value.int IntKind.i64 s), SV.val (Value.int IntKind.i64 n)], 2⟩])) (fun _ => _) (fun k => 0 ≤ k.1 ∧ k.1 ≤ 8 ∧ (0 < k.1 → -4294967295 ≤ a ∧ a ≤ 4294967295) ∧ (1 < k.1 → -4294967295 ≤ b ∧ b ≤ 4294967295) ∧ (2 < k.1 → -4294967295 ≤ c ∧ c ≤ 4294967295)) (fun k => (8 - k.1).toNat) ((0, false)) (by kernel_rfl) (by kernel_rfl) Sub.refl (by first | omega | (simp; omega) | assumption | simp_all) (fun x px0 back0 => ?_)
  rcases x with ⟨y0_0, y0_1⟩
  simp only at px0
  (have hk0 : y0_0 = 0 ∨ y0_0 = 1 ∨ y0_0 = 2 ∨ y0_0 = 3 ∨ y0_0 = 4 ∨ y0_0 = 5 ∨ y0_0 = 6 ∨ y0_0 = 7 ∨ y0_0 = 8 := (by omega); rcases hk0 with rfl | rfl | rfl | rfl | rfl | rfl | rfl | rfl | rfl <;> rcases y0_1 with _ | _)
  · have _hh := True.intro
    by_cases k21 : a > 0
    · refine st_b 21 (decide_eq_true k21) (by kernel_rfl) ?_
      refine st_b 29 (show (decide (a < 0)) = false by exact decide_eq_false (by omega)) (by kernel_rfl) ?_
      by_cases k38 : a > 4294967295
      · refine st_b 38 (decide_eq_true k38) (by kernel_rfl) ?_
        exact st_retv Try.func119 (show Value.bool (false) = _ by (refine b_eq (decide_eq_false ?_).symm; unfold uOk pos8 neg8 cnt1 LIM; omega)) (by kernel_rfl)
      · refine st_b 38 (decide_eq_false k38) (by kernel_rfl) ?_
        refine st_b 44 (show (decide (a < -4294967295)) = false by exact decide_eq_false (by omega)) (by kernel_rfl) ?_
        refine st_i 14 .i64 (x' := 0 + 1) (Go.IntWalk.i64_in _ (by omega)) (by kernel_rfl) ?_
        refine st_forget [0, 1, 2, 3, 4, 5, 6, 7, 8, 47, 48, 49, 50, 51, 52, 53, 54, 55, 56, 57, 58, 59] (by kernel_rfl) ?_
        exact st_back back0 ((0 + 1, true)) (by first | omega | (simp only []; omega) | (simp; omega)) (by first | (refine b_eq (decide_eq_false ?_).symm; unfold uOk pos8 neg8 cnt1 LIM; omega) | (refine b_eq (decide_eq_decide.2 ?_); rw [qt]; unfold uOk pos8 neg8 cnt1 LIM; omega) | omega | (simp only []; omega) | (simp; omega) | assumption | simp_all) (fun p hp => by first | exact hp | simp_all) (by kernel_rfl) (by kernel_rfl) (by kernel_rfl)
    · refine st_b 21 (decide_eq_false k21) (by kernel_rfl) ?_
      refine st_b 29 (show (decide (a < 0)) = false by exact decide_eq_false (by omega)) (by kernel_rfl) ?_
      refine st_b 38 (show (decide (a > 4294967295)) = false by exact decide_eq_false (by omega)) (by kernel_rfl) ?_
      refine st_b 44 (show (decide (a < -4294967295)) = false by exact decide_eq_false (by omega)) (by kernel_rfl) ?_
      refine st_i 14 .i64 (x' := 0 + 1) (Go.IntWalk.i64_in _ (by omega)) (by kernel_rfl) ?_
      refine st_forget [0, 1, 2, 3, 4, 5, 6, 7, 8, 47, 48, 49, 50, 51, 52, 53, 54, 55, 56, 57, 58, 59] (by kernel_rfl) ?_
      exact st_back back0 ((0 + 1, false)) (by first | omega | (simp only []; omega) | (simp; omega)) (by first | (refine b_eq (decide_eq_false ?_).symm; unfold uOk pos8 neg8 cnt1 LIM; omega) | (refine b_eq (decide_eq_decide.2 ?_); rw [qt]; unfold uOk pos8 neg8 cnt1 LIM; omega) | omega | (simp only []; omega) | (simp; omega) | assumption | simp_all) (fun p hp => by first | exact hp | simp_all) (by kernel_rfl) (by kernel_rfl) (by kernel_rfl)
  · have _hh := True.intro
    refine st_b 29 (show (decide (a < 0)) = false by exact decide_eq_false (by omega)) (by kernel_rfl) ?_
    by_cases k38 : a > 4294967295
    · refine st_b 38 (decide_eq_true k38) (by kernel_rfl) ?_
      exact st_retv Try.func119 (show Value.bool (false) = _ by (refine b_eq (decide_eq_false ?_).symm; unfold uOk pos8 neg8 cnt1 LIM; omega)) (by kernel_rfl)
    · refine st_b 38 (decide_eq_false k38) (by kernel_rfl) ?_
      refine st_b 44 (show (decide (a < -4294967295)) = false by exact decide_eq_false (by omega)) (by kernel_rfl) ?_
      refine st_i 14 .i64 (x' := 0 + 1) (Go.IntWalk.i64_in _ (by omega)) (by kernel_rfl) ?_
      refine st_forget [0, 1, 2, 3, 4, 5, 6, 7, 8, 47, 48, 49, 50, 51, 52, 53, 54, 55, 56, 57, 58, 59] (by kernel_rfl) ?_
      exact st_back back0 ((0 + 1, true)) (by first | omega | (simp only []; omega) | (simp; omega)) (by first | (refine b_eq (decide_eq_false ?_).symm; unfold uOk pos8 neg8 cnt1 LIM; omega) | (refine b_eq (decide_eq_decide.2 ?_); rw [qt]; unfold uOk pos8 neg8 cnt1 LIM; omega) | omega | (simp only []; omega) | (simp; omega) | assumption | simp_all) (fun p hp => by first | exact hp | simp_all) (by kernel_rfl) (by kernel_rfl) (by kernel_rfl)
  · have _hh := True.intro
    by_cases k21 : b > 0
    · refine st_b 21 (decide_eq_true k21) (by kernel_rfl) ?_
      refine st_b 29 (show (decide (b < 0)) = false by exact decide_eq_false (by omega)) (by kernel_rfl) ?_
      by_cases k38 : b > 4294967295
      · refine st_b 38 (decide_eq_true k38) (by kernel_rfl) ?_
        exact st_retv Try.func119 (show Value.bool (false) = _ by (refine b_eq (decide_eq_false ?_).symm; unfold uOk pos8 neg8 cnt1 LIM; omega)) (by kernel_rfl)
      · refine st_b 38 (decide_eq_false k38) (by kernel_rfl) ?_
        refine st_b 44 (show (decide (b < -4294967295)) = false by exact decide_eq_false (by omega)) (by kernel_rfl) ?_
        refine st_i 14 .i64 (x' := 1 + 1) (Go.IntWalk.i64_in _ (by omega)) (by kernel_rfl) ?_
        refine st_forget [0, 1, 2, 3, 4, 5, 6, 7, 8, 47, 48, 49, 50, 51, 52, 53, 54, 55, 56, 57, 58, 59] (by kernel_rfl) ?_
        exact st_back back0 ((1 + 1, true)) (by first | omega | (simp only []; omega) | (simp; omega)) (by first | (refine b_eq (decide_eq_false ?_).symm; unfold uOk pos8 neg8 cnt1 LIM; omega) | (refine b_eq (decide_eq_decide.2 ?_); rw [qt]; unfold uOk pos8 neg8 cnt1 LIM; omega) | omega | (simp only []; omega) | (simp; omega) | assumption | simp_all) (fun p hp => by first | exact hp | simp_all) (by kernel_rfl) (by kernel_rfl) (by kernel_rfl)
    · refine st_b 21 (decide_eq_false k21) (by kernel_rfl) ?_
      refine st_b 29 (show (decide (b < 0)) = false by exact decide_eq_false (by omega)) (by kernel_rfl) ?_
      refine st_b 38 (show (decide (b > 4294967295)) = false by exact decide_eq_false (by omega)) (by kernel_rfl) ?_
      refine st_b 44 (show (decide (b < -4294967295)) = false by exact decide_eq_false (by omega)) (by kernel_rfl) ?_
      refine st_i 14 .i64 (x' := 1 + 1) (Go.IntWalk.i64_in _ (by omega)) (by kernel_rfl) ?_
      refine st_forget [0, 1, 2, 3, 4, 5, 6, 7, 8, 47, 48, 49, 50, 51, 52, 53, 54, 55, 56, 57, 58, 59] (by kernel_rfl) ?_
      exact st_back back0 ((1 + 1, false)) (by first | omega | (simp only []; omega) | (simp; omega)) (by first | (refine b_eq (decide_eq_false ?_).symm; unfold uOk pos8 neg8 cnt1 LIM; omega) | (refine b_eq (decide_eq_decide.2 ?_); rw [qt]; unfold uOk pos8 neg8 cnt1 LIM; omega) | omega | (simp only []; omega) | (simp; omega) | assumption | simp_all) (fun p hp => by first | exact hp | simp_all) (by kernel_rfl) (by kernel_rfl) (by kernel_rfl)
  · have _hh := True.intro
    refine st_b 29 (show (decide (b < 0)) = false by exact decide_eq_false (by omega)) (by kernel_rfl) ?_
    by_cases k38 : b > 4294967295
    · refine st_b 38 (decide_eq_true k38) (by kernel_rfl) ?_
      exact st_retv Try.func119 (show Value.bool (false) = _ by (refine b_eq (decide_eq_false ?_).symm; unfold uOk pos8 neg8 cnt1 LIM; omega)) (by kernel_rfl)
    · refine st_b 38 (decide_eq_false k38) (by kernel_rfl) ?_
      refine st_b 44 (show (decide (b < -4294967295)) = false by exact decide_eq_false (by omega)) (by kernel_rfl) ?_
      refine st_i 14 .i64 (x' := 1 + 1) (Go.IntWalk.i64_in _ (by omega)) (by kernel_rfl) ?_
      refine st_forget [0, 1, 2, 3, 4, 5, 6, 7, 8, 47, 48, 49, 50, 51, 52, 53, 54, 55, 56, 57, 58, 59] (by kernel_rfl) ?_
      exact st_back back0 ((1 + 1, true)) (by first | omega | (simp only []; omega) | (simp; omega)) (by first | (refine b_eq (decide_eq_false ?_).symm; unfold uOk pos8 neg8 cnt1 LIM; omega) | (refine b_eq (decide_eq_decide.2 ?_); rw [qt]; unfold uOk pos8 neg8 cnt1 LIM; omega) | omega | (simp only []; omega) | (simp; omega) | assumption | simp_all) (fun p hp => by first | exact hp | simp_all) (by kernel_rfl) (by kernel_rfl) (by kernel_rfl)
  · have _hh := True.intro
    by_cases k21 : c > 0
    · refine st_b 21 (decide_eq_true k21) (by kernel_rfl) ?_
      refine st_b 29 (show (decide (c < 0)) = false by exact decide_eq_false (by omega)) (by kernel_rfl) ?_
      by_cases k38 : c > 4294967295
      · refine st_b 38 (decide_eq_true k38) (by kernel_rfl) ?_
        exact st_retv Try.func119 (show Value.bool (false) = _ by (refine b_eq (decide_eq_false ?_).symm; unfold uOk pos8 neg8 cnt1 LIM; omega)) (by kernel_rfl)
      · refine st_b 38 (decide_eq_false k38) (by kernel_rfl) ?_
        refine st_b 44 (show (decide (c < -4294967295)) = false by exact decide_eq_false (by omega)) (by kernel_rfl) ?_
        refine st_i 14 .i64 (x' := 2 + 1) (Go.IntWalk.i64_in _ (by omega)) (by kernel_rfl) ?_
        refine st_forget [0, 1, 2, 3, 4, 5, 6, 7, 8, 47, 48, 49, 50, 51, 52, 53, 54, 55, 56, 57, 58, 59] (by kernel_rfl) ?_
        exact st_back back0 ((2 + 1, true)) (by first | omega | (simp only []; omega) | (simp; omega)) (by first | (refine b_eq (decide_eq_false ?_).symm; unfold uOk pos8 neg8 cnt1 LIM; omega) | (refine b_eq (decide_eq_decide.2 ?_); rw [qt]; unfold uOk pos8 neg8 cnt1 LIM; omega) | omega | (simp only []; omega) | (simp; omega) | assumption | simp_all) (fun p hp => by first | exact hp | simp_all) (by kernel_rfl) (by kernel_rfl) (by kernel_rfl)
    · refine st_b 21 (decide_eq_false k21) (by kernel_rfl) ?_
      refine st_b 29 (show (decide (c < 0)) = false by exact decide_eq_false (by omega)) (by kernel_rfl) ?_
      refine st_b 38 (show (decide (c > 4294967295)) = false by exact decide_eq_false (by omega)) (by kernel_rfl) ?_
      refine st_b 44 (show (decide (c < -4294967295)) = false by exact decide_eq_false (by omega)) (by kernel_rfl) ?_
      refine st_i 14 .i64 (x' := 2 + 1) (Go.IntWalk.i64_in _ (by omega)) (by kernel_rfl) ?_
      refine st_forget [0, 1, 2, 3, 4, 5, 6, 7, 8, 47, 48, 49, 50, 51, 52, 53, 54, 55, 56, 57, 58, 59] (by kernel_rfl) ?_
      exact st_back back0 ((2 + 1, false)) (by first | omega | (simp only []; omega) | (simp; omega)) (by first | (refine b_eq (decide_eq_false ?_).symm; unfold uOk pos8 neg8 cnt1 LIM; omega) | (refine b_eq (decide_eq_decide.2 ?_); rw [qt]; unfold uOk pos8 neg8 cnt1 LIM; omega) | omega | (simp only []; omega) | (simp; omega) | assumption | simp_all) (fun p hp => by first | exact hp | simp_all) (by kernel_rfl) (by kernel_rfl) (by kernel_rfl)
  · have _hh := True.intro
    refine st_b 29 (show (decide (c < 0)) = false by exact decide_eq_false (by omega)) (by kernel_rfl) ?_
    by_cases k38 : c > 4294967295
    · refine st_b 38 (decide_eq_true k38) (by kernel_rfl) ?_
      exact st_retv Try.func119 (show Value.bool (false) = _ by (refine b_eq (decide_eq_false ?_).symm; unfold uOk pos8 neg8 cnt1 LIM; omega)) (by kernel_rfl)
    · refine st_b 38 (decide_eq_false k38) (by kernel_rfl) ?_
      refine st_b 44 (show (decide (c < -4294967295)) = false by exact decide_eq_false (by omega)) (by kernel_rfl) ?_
      refine st_i 14 .i64 (x' := 2 + 1) (Go.IntWalk.i64_in _ (by omega)) (by kernel_rfl) ?_
      refine st_forget [0, 1, 2, 3, 4, 5, 6, 7, 8, 47, 48, 49, 50, 51, 52, 53, 54, 55, 56, 57, 58, 59] (by kernel_rfl) ?_
      exact st_back back0 ((2 + 1, true)) (by first | omega | (simp only []; omega) | (simp; omega)) (by first | (refine b_eq (decide_eq_false ?_).symm; unfold uOk pos8 neg8 cnt1 LIM; omega) | (refine b_eq (decide_eq_decide.2 ?_); rw [qt]; unfold uOk pos8 neg8 cnt1 LIM; omega) | omega | (simp only []; omega) | (simp; omega) | assumption | simp_all) (fun p hp => by first | exact hp | simp_all) (by kernel_rfl) (by kernel_rfl) (by kernel_rfl)
  · have _hh := True.intro
    by_cases k21 : d > 0
    · refine st_b 21 (decide_eq_true k21) (by kernel_rfl) ?_
      refine st_b 29 (show (decide (d < 0)) = false by exact decide_eq_false (by omega)) (by kernel_rfl) ?_
      refine st_i 14 .i64 (x' := 3 + 1) (Go.IntWalk.i64_in _ (by omega)) (by kernel_rfl) ?_
      refine st_forget [0, 1, 2, 3, 4, 5, 6, 7, 8, 47, 48, 49, 50, 51, 52, 53, 54, 55, 56, 57, 58, 59] (by kernel_rfl) ?_
      exact st_back back0 ((3 + 1, true)) (by first | omega | (simp only []; omega) | (simp; omega)) (by first | (refine b_eq (decide_eq_false ?_).symm; unfold uOk pos8 neg8 cnt1 LIM; omega) | (refine b_eq (decide_eq_decide.2 ?_); rw [qt]; unfold uOk pos8 neg8 cnt1 LIM; omega) | omega | (simp only []; omega) | (simp; omega) | assumption | simp_all) (fun p hp => by first | exact hp | simp_all) (by kernel_rfl) (by kernel_rfl) (by kernel_rfl)
    · refine st_b 21 (decide_eq_false k21) (by kernel_rfl) ?_
      refine st_b 29 (show (decide (d < 0)) = false by exact decide_eq_false (by omega)) (by kernel_rfl) ?_
      refine st_i 14 .i64 (x' := 3 + 1) (Go.IntWalk.i64_in _ (by omega)) (by kernel_rfl) ?_
      refine st_forget [0, 1, 2, 3, 4, 5, 6, 7, 8, 47, 48, 49, 50, 51, 52, 53, 54, 55, 56, 57, 58, 59] (by kernel_rfl) ?_
      exact st_back back0 ((3 + 1, false)) (by first | omega | (simp only []; omega) | (simp; omega)) (by first | (refine b_eq (decide_eq_false ?_).symm; unfold uOk pos8 neg8 cnt1 LIM; omega) | (refine b_eq (decide_eq_decide.2 ?_); rw [qt]; unfold uOk pos8 neg8 cnt1 LIM; omega) | omega | (simp only []; omega) | (simp; omega) | assumption | simp_all) (fun p hp => by first | exact hp | simp_all) (by kernel_rfl) (by kernel_rfl) (by kernel_rfl)
  · have _hh := True.intro
    refine st_b 29 (show (decide (d < 0)) = false by exact decide_eq_false (by omega)) (by kernel_rfl) ?_
    refine st_i 14 .i64 (x' := 3 + 1) (Go.IntWalk.i64_in _ (by omega)) (by kernel_rfl) ?_
    refine st_forget [0, 1, 2, 3, 4, 5, 6, 7, 8, 47, 48, 49, 50, 51, 52, 53, 54, 55, 56, 57, 58, 59] (by kernel_rfl) ?_
    exact st_back back0 ((3 + 1, true)) (by first | omega | (simp only []; omega) | (simp; omega)) (by first | (refine b_eq (decide_eq_false ?_).symm; unfold uOk pos8 neg8 cnt1 LIM; omega) | (refine b_eq (decide_eq_decide.2 ?_); rw [qt]; unfold uOk pos8 neg8 cnt1 LIM; omega) | omega | (simp only []; omega) | (simp; omega) | assumption | simp_all) (fun p hp => by first | exact hp | simp_all) (by kernel_rfl) (by kernel_rfl) (by kernel_rfl)
  · have _hh := True.intro
    by_cases k21 : h > 0
    · refine st_b 21 (decide_eq_true k21) (by kernel_rfl) ?_
      refine st_b 29 (show (decide (h < 0)) = false by exact decide_eq_false (by omega)) (by kernel_rfl) ?_
      refine st_i 14 .i64 (x' := 4 + 1) (Go.IntWalk.i64_in _ (by omega)) (by kernel_rfl) ?_
      refine st_forget [0, 1, 2, 3, 4, 5, 6, 7, 8, 47, 48, 49, 50, 51, 52, 53, 54, 55, 56, 57, 58, 59] (by kernel_rfl) ?_
      exact st_back back0 ((4 + 1, true)) (by first | omega | (simp only []; omega) | (simp; omega)) (by first | (refine b_eq (decide_eq_false ?_).symm; unfold uOk pos8 neg8 cnt1 LIM; omega) | (refine b_eq (decide_eq_decide.2 ?_); rw [qt]; unfold uOk pos8 neg8 cnt1 LIM; omega) | omega | (simp only []; omega) | (simp; omega) | assumption | simp_all) (fun p hp => by first | exact hp | simp_all) (by kernel_rfl) (by kernel_rfl) (by kernel_rfl)
    · refine st_b 21 (decide_eq_false k21) (by kernel_rfl) ?_
      refine st_b 29 (show (decide (h < 0)) = false by exact decide_eq_false (by omega)) (by kernel_rfl) ?_
      refine st_i 14 .i64 (x' := 4 + 1) (Go.IntWalk.i64_in _ (by omega)) (by kernel_rfl) ?_
      refine st_forget [0, 1, 2, 3, 4, 5, 6, 7, 8, 47, 48, 49, 50, 51, 52, 53, 54, 55, 56, 57, 58, 59] (by kernel_rfl) ?_
      exact st_back back0 ((4 + 1, false)) (by first | omega | (simp only []; omega) | (simp; omega)) (by first | (refine b_eq (decide_eq_false ?_).symm; unfold uOk pos8 neg8 cnt1 LIM; omega) | (refine b_eq (decide_eq_decide.2 ?_); rw [qt]; unfold uOk pos8 neg8 cnt1 LIM; omega) | omega | (simp only []; omega) | (simp; omega) | assumption | simp_all) (fun p hp => by first | exact hp | simp_all) (by kernel_rfl) (by kernel_rfl) (by kernel_rfl)
  · have _hh := True.intro
    refine st_b 29 (show (decide (h < 0)) = false by exact decide_eq_false (by omega)) (by kernel_rfl) ?_
    refine st_i 14 .i64 (x' := 4 + 1) (Go.IntWalk.i64_in _ (by omega)) (by kernel_rfl) ?_
    refine st_forget [0, 1, 2, 3, 4, 5, 6, 7, 8, 47, 48, 49, 50, 51, 52, 53, 54, 55, 56, 57, 58, 59] (by kernel_rfl) ?_
    exact st_back back0 ((4 + 1, true)) (by first | omega | (simp only []; omega) | (simp; omega)) (by first | (refine b_eq (decide_eq_false ?_).symm; unfold uOk pos8 neg8 cnt1 LIM; omega) | (refine b_eq (decide_eq_decide.2 ?_); rw [qt]; unfold uOk pos8 neg8 cnt1 LIM; omega) | omega | (simp only []; omega) | (simp; omega) | assumption | simp_all) (fun p hp => by first | exact hp | simp_all) (by kernel_rfl) (by kernel_rfl) (by kernel_rfl)
  · have _hh := True.intro
    by_cases k21 : mi > 0
    · refine st_b 21 (decide_eq_true k21) (by kernel_rfl) ?_
      refine st_b 29 (show (decide (mi < 0)) = false by exact decide_eq_false (by omega)) (by kernel_rfl) ?_
      refine st_i 14 .i64 (x' := 5 + 1) (Go.IntWalk.i64_in _ (by omega)) (by kernel_rfl) ?_
      refine st_forget [0, 1, 2, 3, 4, 5, 6, 7, 8, 47, 48, 49, 50, 51, 52, 53, 54, 55, 56, 57, 58, 59] (by kernel_rfl) ?_
      exact st_back back0 ((5 + 1, true)) (by first | omega | (simp only []; omega) | (simp; omega)) (by first | (refine b_eq (decide_eq_false ?_).symm; unfold uOk pos8 neg8 cnt1 LIM; omega) | (refine b_eq (decide_eq_decide.2 ?_); rw [qt]; unfold uOk pos8 neg8 cnt1 LIM; omega) | omega | (simp only []; omega) | (simp; omega) | assumption | simp_all) (fun p hp => by first | exact hp | simp_all) (by kernel_rfl) (by kernel_rfl) (by kernel_rfl)
    · refine st_b 21 (decide_eq_false k21) (by kernel_rfl) ?_
      refine st_b 29 (show (decide (mi < 0)) = false by exact decide_eq_false (by omega)) (by kernel_rfl) ?_
      refine st_i 14 .i64 (x' := 5 + 1) (Go.IntWalk.i64_in _ (by omega)) (by kernel_rfl) ?_
      refine st_forget [0, 1, 2, 3, 4, 5, 6, 7, 8, 47, 48, 49, 50, 51, 52, 53, 54, 55, 56, 57, 58, 59] (by kernel_rfl) ?_
      exact st_back back0 ((5 + 1, false)) (by first | omega | (simp only []; omega) | (simp; omega)) (by first | (refine b_eq (decide_eq_false ?_).symm; unfold uOk pos8 neg8 cnt1 LIM; omega) | (refine b_eq (decide_eq_decide.2 ?_); rw [qt]; unfold uOk pos8 neg8 cnt1 LIM; omega) | omega | (simp only []; omega) | (simp; omega) | assumption | simp_all) (fun p hp => by first | exact hp | simp_all) (by kernel_rfl) (by kernel_rfl) (by kernel_rfl)
  · have _hh := True.intro
    refine st_b 29 (show (decide (mi < 0)) = false by exact decide_eq_false (by omega)) (by kernel_rfl) ?_
    refine st_i 14 .i64 (x' := 5 + 1) (Go.IntWalk.i64_in _ (by omega)) (by kernel_rfl) ?_
    refine st_forget [0, 1, 2, 3, 4, 5, 6, 7, 8, 47, 48, 49, 50, 51, 52, 53, 54, 55, 56, 57, 58, 59] (by kernel_rfl) ?_
    exact st_back back0 ((5 + 1, true)) (by first | omega | (simp only []; omega) | (simp; omega)) (by first | (refine b_eq (decide_eq_false ?_).symm; unfold uOk pos8 neg8 cnt1 LIM; omega) | (refine b_eq (decide_eq_decide.2 ?_); rw [qt]; unfold uOk pos8 neg8 cnt1 LIM; omega) | omega | (simp only []; omega) | (simp; omega) | assumption | simp_all) (fun p hp => by first | exact hp | simp_all) (by kernel_rfl) (by kernel_rfl) (by kernel_rfl)
  · have _hh := True.intro
    by_cases k21 : s > 0
    · refine st_b 21 (decide_eq_true k21) (by kernel_rfl) ?_
      refine st_b 29 (show (decide (s < 0)) = false by exact decide_eq_false (by omega)) (by kernel_rfl) ?_
      refine st_i 14 .i64 (x' := 6 + 1) (Go.IntWalk.i64_in _ (by omega)) (by kernel_rfl) ?_
      refine st_forget [0, 1, 2, 3, 4, 5, 6, 7, 8, 47, 48, 49, 50, 51, 52, 53, 54, 55, 56, 57, 58, 59] (by kernel_rfl) ?_
      exact st_back back0 ((6 + 1, true)) (by first | omega | (simp only []; omega) | (simp; omega)) (by first | (refine b_eq (decide_eq_false ?_).symm; unfold uOk pos8 neg8 cnt1 LIM; omega) | (refine b_eq (decide_eq_decide.2 ?_); rw [qt]; unfold uOk pos8 neg8 cnt1 LIM; omega) | omega | (simp only []; omega) | (simp; omega) | assumption | simp_all) (fun p hp => by first | exact hp | simp_all) (by kernel_rfl) (by kernel_rfl) (by kernel_rfl)
    · refine st_b 21 (decide_eq_false k21) (by kernel_rfl) ?_
      refine st_b 29 (show (decide (s < 0)) = false by exact decide_eq_false (by omega)) (by kernel_rfl) ?_
      refine st_i 14 .i64 (x' := 6 + 1) (Go.IntWalk.i64_in _ (by omega)) (by kernel_rfl) ?_
      refine st_forget [0, 1, 2, 3, 4, 5, 6, 7, 8, 47, 48, 49, 50, 51, 52, 53, 54, 55, 56, 57, 58, 59] (by kernel_rfl) ?_
      exact st_back back0 ((6 + 1, false)) (by first | omega | (simp only []; omega) | (simp; omega)) (by first | (refine b_eq (decide_eq_false ?_).symm; unfold uOk pos8 neg8 cnt1 LIM; omega) | (refine b_eq (decide_eq_decide.2 ?_); rw [qt]; unfold uOk pos8 neg8 cnt1 LIM; omega) | omega | (simp only []; omega) | (simp; omega) | assumption | simp_all) (fun p hp => by first | exact hp | simp_all) (by kernel_rfl) (by kernel_rfl) (by kernel_rfl)
  · have _hh := True.intro
    refine st_b 29 (show (decide (s < 0)) = false by exact decide_eq_false (by omega)) (by kernel_rfl) ?_
    refine st_i 14 .i64 (x' := 6 + 1) (Go.IntWalk.i64_in _ (by omega)) (by kernel_rfl) ?_
    refine st_forget [0, 1, 2, 3, 4, 5, 6, 7, 8, 47, 48, 49, 50, 51, 52, 53, 54, 55, 56, 57, 58, 59] (by kernel_rfl) ?_
    exact st_back back0 ((6 + 1, true)) (by first | omega | (simp only []; omega) | (simp; omega)) (by first | (refine b_eq (decide_eq_false ?_).symm; unfold uOk pos8 neg8 cnt1 LIM; omega) | (refine b_eq (decide_eq_decide.2 ?_); rw [qt]; unfold uOk pos8 neg8 cnt1 LIM; omega) | omega | (simp only []; omega) | (simp; omega) | assumption | simp_all) (fun p hp => by first | exact hp | simp_all) (by kernel_rfl) (by kernel_rfl) (by kernel_rfl)
  · have _hh := True.intro
    by_cases k21 : n > 0
    · refine st_b 21 (decide_eq_true k21) (by kernel_rfl) ?_
      refine st_b 29 (show (decide (n < 0)) = false by exact decide_eq_false (by omega)) (by kernel_rfl) ?_
      refine st_i 14 .i64 (x' := 7 + 1) (Go.IntWalk.i64_in _ (by omega)) (by kernel_rfl) ?_
      refine st_forget [0, 1, 2, 3, 4, 5, 6, 7, 8, 47, 48, 49, 50, 51, 52, 53, 54, 55, 56, 57, 58, 59] (by kernel_rfl) ?_
      exact st_back back0 ((7 + 1, true)) (by first | omega | (simp only []; omega) | (simp; omega)) (by first | (refine b_eq (decide_eq_false ?_).symm; unfold uOk pos8 neg8 cnt1 LIM; omega) | (refine b_eq (decide_eq_decide.2 ?_); rw [qt]; unfold uOk pos8 neg8 cnt1 LIM; omega) | omega | (simp only []; omega) | (simp; omega) | assumption | simp_all) (fun p hp => by first | exact hp | simp_all) (by kernel_rfl) (by kernel_rfl) (by kernel_rfl)
    · refine st_b 21 (decide_eq_false k21) (by kernel_rfl) ?_
      refine st_b 29 (show (decide (n < 0)) = false by exact decide_eq_false (by omega)) (by kernel_rfl) ?_
      refine st_i 14 .i64 (x' := 7 + 1) (Go.IntWalk.i64_in _ (by omega)) (by kernel_rfl) ?_
      refine st_forget [0, 1, 2, 3, 4, 5, 6, 7, 8, 47, 48, 49, 50, 51, 52, 53, 54, 55, 56, 57, 58, 59] (by kernel_rfl) ?_
      exact st_back back0 ((7 + 1, false)) (by first | omega | (simp only []; omega) | (simp; omega)) (by first | (refine b_eq (decide_eq_false ?_).symm; unfold uOk pos8 neg8 cnt1 LIM; omega) | (refine b_eq (decide_eq_decide.2 ?_); rw [qt]; unfold uOk pos8 neg8 cnt1 LIM; omega) | omega | (simp only []; omega) | (simp; omega) | assumption | simp_all) (fun p hp => by first | exact hp | simp_all) (by kernel_rfl) (by kernel_rfl) (by kernel_rfl)
  · have _hh := True.intro
    refine st_b 29 (show (decide (n < 0)) = false by exact decide_eq_false (by omega)) (by kernel_rfl) ?_
    refine st_i 14 .i64 (x' := 7 + 1) (Go.IntWalk.i64_in _ (by omega)) (by kernel_rfl) ?_
    refine st_forget [0, 1, 2, 3, 4, 5, 6, 7, 8, 47, 48, 49, 50, 51, 52, 53, 54, 55, 56, 57, 58, 59] (by kernel_rfl) ?_
    exact st_back back0 ((7 + 1, true)) (by first | omega | (simp only []; omega) | (simp; omega)) (by first | (refine b_eq (decide_eq_false ?_).symm; unfold uOk pos8 neg8 cnt1 LIM; omega) | (refine b_eq (decide_eq_decide.2 ?_); rw [qt]; unfold uOk pos8 neg8 cnt1 LIM; omega) | omega | (simp only []; omega) | (simp; omega) | assumption | simp_all) (fun p hp => by first | exact hp | simp_all) (by kernel_rfl) (by kernel_rfl) (by kernel_rfl)
  · have _hh := True.intro
    refine st_g ent62 (ut) sub0 (by kernel_rfl) (fun zq2 => ?_)
    refine st_g ent106 (fa (zq2)) (subC 0 rfl sub0) (by kernel_rfl) (fun zq3 => ?_)
    refine st_g ent149 (zulimit) sub0 (by kernel_rfl) (fun zq4 => ?_)
    refine st_fn ent108 (fzcmp (zq3) (zq4) (X) (9007199254740992000000000) (by exact Bits.fit bX (by decide)) (by exact Bits.fit bl.bits (by decide))) (subC 1 rfl (subC 0 rfl sub0)) (by kernel_rfl) ?_
    exact st_retv Try.func119 (show Value.bool (decide (cmpI X 9007199254740992000000000 < 0)) = _ by (refine b_eq (decide_eq_decide.2 ?_); rw [qt]; unfold uOk pos8 neg8 cnt1 LIM; omega)) (by kernel_rfl)
  · have _hh := True.intro
    refine st_g ent62 (ut) sub0 (by kernel_rfl) (fun zq2 => ?_)
    refine st_g ent106 (fa (zq2)) (subC 0 rfl sub0) (by kernel_rfl) (fun zq3 => ?_)
    refine st_g ent149 (zulimit) sub0 (by kernel_rfl) (fun zq4 => ?_)
    refine st_fn ent108 (fzcmp (zq3) (zq4) (X) (9007199254740992000000000) (by exact Bits.fit bX (by decide)) (by exact Bits.fit bl.bits (by decide))) (subC 1 rfl (subC 0 rfl sub0)) (by kernel_rfl) ?_
    exact st_retv Try.func119 (show Value.bool (decide (cmpI X 9007199254740992000000000 < 0)) = _ by (refine b_eq (decide_eq_decide.2 ?_); rw [qt]; unfold uOk pos8 neg8 cnt1 LIM; omega)) (by kernel_rfl)
end
end Go.Proofs.Ytccllfegnijpiaa
end
section
/-
  Durations: what may be, as the reference reckons it: no field above 0.
-/
set_option linter.unusedVariables false
set_option maxRecDepth 100000
namespace Go.Proofs.Ytccllfegnijpiaa
open Go Go.RowKit Go.Ev

section
variable (a b c d h mi s n : Int)
theorem zuright_n (i : all64 a b c d h mi s n) (hk : neg8 a b c d h mi s n) : Fn 119 [] [duv a b c d h mi s n] (.bool (decide (uOk a b c d h mi s n))) := by
  obtain ⟨i1, i2, i3, i4, i5, i6, i7, i8⟩ := i
  have bt : W128 (dtot d h mi s n) := by unfold I64 at *; unfold W128 dtot; omega
  have bl : W128 9007199254740992000000000 := by unfold W128; omega
  have ut := zutot a b c d h mi s n i4 i5 i6 i7 i8
  obtain ⟨X, hX⟩ : ∃ X : Int, X = ((dtot d h mi s n).natAbs : Int) := ⟨_, rfl⟩
  have bX : Bits 128 X := by rw [hX]; exact bt.bits.abs
  have fa : ∀ p : ZQ, FnZ 106 [(p, dtot d h mi s n)] [zv p] zv X := fun p => by rw [hX]; exact fzabs p _ (bt.bits.fit (by decide))
  have qt := cmpI_lt0 (a := X) (b := 9007199254740992000000000)
  unfold neg8 at hk
  obtain ⟨k1, k2, k3, k4, k5, k6, k7, k8⟩ := hk
  refine fn_of Try.func119 rfl fun ww => ?_
  refine st_rowB ent35 (zufields (a) (b) (c) (d) (h) (mi) (s) (n)) (by kernel_rfl) ?_
  refine st_forget [0, 1, 3, 4, 5, 6, 7, 8, 47, 48, 49, 50, 51, 52, 53, 54, 55, 56, 57, 58, 59] (by kernel_rfl) ?_
  refine st_loop (X := Int × Bool) (fun x => ([SV.val (Value.agg #[Value.int IntKind.i64 a, Value.int IntKind.i64 b, Value.int IntKind.i64 c, Value.int IntKind.i64 d, Value.int IntKind.i64 h, Value.int IntKind.i64 mi, Value.int IntKind.i64 s, Value.int IntKind.i64 n]), SV.ptr 0 0, .any, SV.sl 1 0 8 8, .val (.bool false), .val (.bool x.2), .val (.int .i64 x.1), SV.val (Value.agg #[Value.int IntKind.i64 a, Value.int IntKind.i64 b, Value.int IntKind.i64 c, Value.int IntKind.i64 d, Value.int IntKind.i64 h, Value.int IntKind.i64 mi, Value.int IntKind.i64 s, Value.int IntKind.i64 n]), SV.sl 1 0 8 8, .any, .any, .any, .any, .any, .any, .any, .any, .any, .any, .any, .any, .any, .any, .any, .any, .any, .any, .any, .any, .any, .any, .any, .any, .any, .any, .any, .any, .any, .any, .any, .any, .any, .any, .any, .any, .any, .any, SV.val (Value.tuple #[]), SV.val (Value.tuple #[]), SV.val (Value.tuple #[]), SV.val (Value.tuple #[]), SV.val (Value.tuple #[]), SV.val (Value.tuple #[]), SV.val (Value.tuple #[]), SV.val (Value.tuple #[]), SV.val (Value.tuple #[]), SV.val (Value.tuple #[]), SV.val (Value.tuple #[]), SV.val (Value.tuple #[]), SV.val (Value.tuple #[])], [⟨[SV.val (Value.int IntKind.i64 a), SV.val (Value.int IntKind.i64 b), SV.val (Value.int IntKind.i64 c), SV.val (Value.int IntKind.i64 d), SV.val (Value.int IntKind.i64 h), SV.val (Value.int IntKind.i64 mi), SV.val (Value.int IntKind.i64 s), SV.val (Value.int IntKind.i64 n)], 41⟩, ⟨[SV.val (Value.int IntKind.i64 a), SV.val (Value.int IntKind.i64 b), SV.val (Value.int IntKind.i64 c), SV.val (Value.int IntKind.i64 d), SV.val (Value.int IntKind.i64 h), SV.val (Value.int IntKind.i64 mi), SV.val (Value.int IntKind.i64 s), SV.val (Value.int IntKind.i64 n)], 2⟩])) (fun _ => _) (fun k => 0 ≤ k.1 ∧ k.1 ≤ 8 ∧ (0 < k.1 → -4294967295 ≤ a ∧ a ≤ 4294967295) ∧ (1 < k.1 → -4294967295 ≤ b ∧ b ≤ 4294967295) ∧ (2 < k.1 → -4294967295 ≤ c ∧ c ≤ 4294967295)) (fun k => (8 - k.1).toNat) ((0, false)) (by kernel_rfl) (by kernel_rfl) Sub.refl (by first | omega | (simp; omega) | assumption | simp_all) (fun x px0 back0 => ?_)
  rcases x with ⟨y0_0, y0_1⟩
  simp only at px0
  (have hk0 : y0_0 = 0 ∨ y0_0 = 1 ∨ y0_0 = 2 ∨ y0_0 = 3 ∨ y0_0 = 4 ∨ y0_0 = 5 ∨ y0_0 = 6 ∨ y0_0 = 7 ∨ y0_0 = 8 := (by omega); rcases hk0 with rfl | rfl | rfl | rfl | rfl | rfl | rfl | rfl | rfl <;> rcases y0_1 with _ | _)
  · have _hh := True.intro
    refine st_b 21 (show (decide (a > 0)) = false by exact decide_eq_false (by omega)) (by kernel_rfl) ?_
    by_cases k29 : a < 0
    · refine st_b 29 (decide_eq_true k29) (by kernel_rfl) ?_
      refine st_b 38 (show (decide (a > 4294967295)) = false by exact decide_eq_false (by omega)) (by kernel_rfl) ?_
      by_cases k44 : a < -4294967295
      · refine st_b 44 (decide_eq_true k44) (by kernel_rfl) ?_
        exact st_retv Try.func119 (show Value.bool (false) = _ by (refine b_eq (decide_eq_false ?_).symm; unfold uOk pos8 neg8 cnt1 LIM; omega)) (by kernel_rfl)
      · refine st_b 44 (decide_eq_false k44) (by kernel_rfl) ?_
        refine st_i 14 .i64 (x' := 0 + 1) (Go.IntWalk.i64_in _ (by omega)) (by kernel_rfl) ?_
        refine st_forget [0, 1, 2, 3, 4, 5, 6, 7, 8, 47, 48, 49, 50, 51, 52, 53, 54, 55, 56, 57, 58, 59] (by kernel_rfl) ?_
        exact st_back back0 ((0 + 1, true)) (by first | omega | (simp only []; omega) | (simp; omega)) (by first | (refine b_eq (decide_eq_false ?_).symm; unfold uOk pos8 neg8 cnt1 LIM; omega) | (refine b_eq (decide_eq_decide.2 ?_); rw [qt]; unfold uOk pos8 neg8 cnt1 LIM; omega) | omega | (simp only []; omega) | (simp; omega) | assumption | simp_all) (fun p hp => by first | exact hp | simp_all) (by kernel_rfl) (by kernel_rfl) (by kernel_rfl)
    · refine st_b 29 (decide_eq_false k29) (by kernel_rfl) ?_
      refine st_b 38 (show (decide (a > 4294967295)) = false by exact decide_eq_false (by omega)) (by kernel_rfl) ?_
      refine st_b 44 (show (decide (a < -4294967295)) = false by exact decide_eq_false (by omega)) (by kernel_rfl) ?_
      refine st_i 14 .i64 (x' := 0 + 1) (Go.IntWalk.i64_in _ (by omega)) (by kernel_rfl) ?_
      refine st_forget [0, 1, 2, 3, 4, 5, 6, 7, 8, 47, 48, 49, 50, 51, 52, 53, 54, 55, 56, 57, 58, 59] (by kernel_rfl) ?_
      exact st_back back0 ((0 + 1, false)) (by first | omega | (simp only []; omega) | (simp; omega)) (by first | (refine b_eq (decide_eq_false ?_).symm; unfold uOk pos8 neg8 cnt1 LIM; omega) | (refine b_eq (decide_eq_decide.2 ?_); rw [qt]; unfold uOk pos8 neg8 cnt1 LIM; omega) | omega | (simp only []; omega) | (simp; omega) | assumption | simp_all) (fun p hp => by first | exact hp | simp_all) (by kernel_rfl) (by kernel_rfl) (by kernel_rfl)
  · have _hh := True.intro
    refine st_b 21 (show (decide (a > 0)) = false by exact decide_eq_false (by omega)) (by kernel_rfl) ?_
    refine st_b 38 (show (decide (a > 4294967295)) = false by exact decide_eq_false (by omega)) (by kernel_rfl) ?_
    by_cases k44 : a < -4294967295
    · refine st_b 44 (decide_eq_true k44) (by kernel_rfl) ?_
      exact st_retv Try.func119 (show Value.bool (false) = _ by (refine b_eq (decide_eq_false ?_).symm; unfold uOk pos8 neg8 cnt1 LIM; omega)) (by kernel_rfl)
    · refine st_b 44 (decide_eq_false k44) (by kernel_rfl) ?_
      refine st_i 14 .i64 (x' := 0 + 1) (Go.IntWalk.i64_in _ (by omega)) (by kernel_rfl) ?_
      refine st_forget [0, 1, 2, 3, 4, 5, 6, 7, 8, 47, 48, 49, 50, 51, 52, 53, 54, 55, 56, 57, 58, 59] (by kernel_rfl) ?_
      exact st_back back0 ((0 + 1, true)) (by first | omega | (simp only []; omega) | (simp; omega)) (by first | (refine b_eq (decide_eq_false ?_).symm; unfold uOk pos8 neg8 cnt1 LIM; omega) | (refine b_eq (decide_eq_decide.2 ?_); rw [qt]; unfold uOk pos8 neg8 cnt1 LIM; omega) | omega | (simp only []; omega) | (simp; omega) | assumption | simp_all) (fun p hp => by first | exact hp | simp_all) (by kernel_rfl) (by kernel_rfl) (by kernel_rfl)
  · have _hh := True.intro
    refine st_b 21 (show (decide (b > 0)) = false by exact decide_eq_false (by omega)) (by kernel_rfl) ?_
    by_cases k29 : b < 0
    · refine st_b 29 (decide_eq_true k29) (by kernel_rfl) ?_
      refine st_b 38 (show (decide (b > 4294967295)) = false by exact decide_eq_false (by omega)) (by kernel_rfl) ?_
      by_cases k44 : b < -4294967295
      · refine st_b 44 (decide_eq_true k44) (by kernel_rfl) ?_
        exact st_retv Try.func119 (show Value.bool (false) = _ by (refine b_eq (decide_eq_false ?_).symm; unfold uOk pos8 neg8 cnt1 LIM; omega)) (by kernel_rfl)
      · refine st_b 44 (decide_eq_false k44) (by kernel_rfl) ?_
        refine st_i 14 .i64 (x' := 1 + 1) (Go.IntWalk.i64_in _ (by omega)) (by kernel_rfl) ?_
        refine st_forget [0, 1, 2, 3, 4, 5, 6, 7, 8, 47, 48, 49, 50, 51, 52, 53, 54, 55, 56, 57, 58, 59] (by kernel_rfl) ?_
        exact st_back back0 ((1 + 1, true)) (by first | omega | (simp only []; omega) | (simp; omega)) (by first | (refine b_eq (decide_eq_false ?_).symm; unfold uOk pos8 neg8 cnt1 LIM; omega) | (refine b_eq (decide_eq_decide.2 ?_); rw [qt]; unfold uOk pos8 neg8 cnt1 LIM; omega) | omega | (simp only []; omega) | (simp; omega) | assumption | simp_all) (fun p hp => by first | exact hp | simp_all) (by kernel_rfl) (by kernel_rfl) (by kernel_rfl)
    · refine st_b 29 (decide_eq_false k29) (by kernel_rfl) ?_
      refine st_b 38 (show (decide (b > 4294967295)) = false by exact decide_eq_false (by omega)) (by kernel_rfl) ?_
      refine st_b 44 (show (decide (b < -4294967295)) = false by exact decide_eq_false (by omega)) (by kernel_rfl) ?_
      refine st_i 14 .i64 (x' := 1 + 1) (Go.IntWalk.i64_in _ (by omega)) (by kernel_rfl) ?_
      refine st_forget [0, 1, 2, 3, 4, 5, 6, 7, 8, 47, 48, 49, 50, 51, 52, 53, 54, 55, 56, 57, 58, 59] (by kernel_rfl) ?_
      exact st_back back0 ((1 + 1, false)) (by first | omega | (simp only []; omega) | (simp; omega)) (by first | (refine b_eq (decide_eq_false ?_).symm; unfold uOk pos8 neg8 cnt1 LIM; omega) | (refine b_eq (decide_eq_decide.2 ?_); rw [qt]; unfold uOk pos8 neg8 cnt1 LIM; omega) | omega | (simp only []; omega) | (simp; omega) | assumption | simp_all) (fun p hp => by first | exact hp | simp_all) (by kernel_rfl) (by kernel_rfl) (by kernel_rfl)
  · have _hh := True.intro
    refine st_b 21 (show (decide (b > 0)) = false by exact decide_eq_false (by omega)) (by kernel_rfl) ?_
    refine st_b 38 (show (decide (b > 4294967295)) = false by exact decide_eq_false (by omega)) (by kernel_rfl) ?_
    by_cases k44 : b < -4294967295
    · refine st_b 44 (decide_eq_true k44) (by kernel_rfl) ?_
      exact st_retv Try.func119 (show Value.bool (false) = _ by (refine b_eq (decide_eq_false ?_).symm; unfold uOk pos8 neg8 cnt1 LIM; omega)) (by kernel_rfl)
    · refine st_b 44 (decide_eq_false k44) (by kernel_rfl) ?_
      refine st_i 14 .i64 (x' := 1 + 1) (Go.IntWalk.i64_in _ (by omega)) (by kernel_rfl) ?_
      refine st_forget [0, 1, 2, 3, 4, 5, 6, 7, 8, 47, 48, 49, 50, 51, 52, 53, 54, 55, 56, 57, 58, 59] (by kernel_rfl) ?_
      exact st_back back0 ((1 + 1, true)) (by first | omega | (simp only []; omega) | (simp; omega)) (by first | (refine b_eq (decide_eq_false ?_).symm; unfold uOk pos8 neg8 cnt1 LIM; omega) | (refine b_eq (decide_eq_decide.2 ?_); rw [qt]; unfold uOk pos8 neg8 cnt1 LIM; omega) | omega | (simp only []; omega) | (simp; omega) | assumption | simp_all) (fun p hp => by first | exact hp | simp_all) (by kernel_rfl) (by kernel_rfl) (by kernel_rfl)
  · have _hh := True.intro
    refine st_b 21 (show (decide (c > 0)) = false by exact decide_eq_false (by omega)) (by kernel_rfl) ?_
    by_cases k29 : c < 0
    · refine st_b 29 (decide_eq_true k29) (by kernel_rfl) ?_
      refine st_b 38 (show (decide (c > 4294967295)) = false by exact decide_eq_false (by omega)) (by kernel_rfl) ?_
      by_cases k44 : c < -4294967295
      · refine st_b 44 (decide_eq_true k44) (by kernel_rfl) ?_
        exact st_retv Try.func119 (show Value.bool (false) = _ by (refine b_eq (decide_eq_false ?_).symm; unfold uOk pos8 neg8 cnt1 LIM; omega)) (by kernel_rfl)
      · refine st_b 44 (decide_eq_false k44) (by kernel_rfl) ?_
        refine st_i 14 .i64 (x' := 2 + 1) (Go.IntWalk.i64_in _ (by omega)) (by kernel_rfl) ?_
        refine st_forget [0, 1, 2, 3, 4, 5, 6, 7, 8, 47, 48, 49, 50, 51, 52, 53, 54, 55, 56, 57, 58, 59] (by kernel_rfl) ?_
        exact st_back back0 ((2 + 1, true)) (by first | omega | (simp only []; omega) | (simp; omega)) (by first | (refine b_eq (decide_eq_false ?_).symm; unfold uOk pos8 neg8 cnt1 LIM; omega) | (refine b_eq (decide_eq_decide.2 ?_); rw [qt]; unfold uOk pos8 neg8 cnt1 LIM; omega) | omega | (simp only []; omega) | (simp; omega) | assumption | simp_all) (fun p hp => by first | exact hp | simp_all) (by kernel_rfl) (by kernel_rfl) (by kernel_rfl)
    · refine st_b 29 (decide_eq_false k29) (by kernel_rfl) ?_
      refine st_b 38 (show (decide (c > 4294967295)) = false by exact decide_eq_false (by omega)) (by kernel_rfl) ?_
      refine st_b 44 (show (decide (c < -4294967295)) = false by exact decide_eq_false (by omega)) (by kernel_rfl) ?_
      refine st_i 14 .i64 (x' := 2 + 1) (Go.IntWalk.i64_in _ (by omega)) (by kernel_rfl) ?_
      refine st_forget [0, 1, 2, 3, 4, 5, 6, 7, 8, 47, 48, 49, 50, 51, 52, 53, 54, 55, 56, 57, 58, 59] (by kernel_rfl) ?_
      exact st_back back0 ((2 + 1, false)) (by first | omega | (simp only []; omega) | (simp; omega)) (by first | (refine b_eq (decide_eq_false ?_).symm; unfold uOk pos8 neg8 cnt1 LIM; omega) | (refine b_eq (decide_eq_decide.2 ?_); rw [qt]; unfold uOk pos8 neg8 cnt1 LIM; omega) | omega | (simp only []; omega) | (simp; omega) | assumption | simp_all) (fun p hp => by first | exact hp | simp_all) (by kernel_rfl) (by kernel_rfl) (by kernel_rfl)
  · have _hh := True.intro
    refine st_b 21 (show (decide (c > 0)) = false by exact decide_eq_false (by omega)) (by kernel_rfl) ?_
    refine st_b 38 (show (decide (c > 4294967295)) = false by exact decide_eq_false (by omega)) (by kernel_rfl) ?_
    by_cases k44 : c < -4294967295
    · refine st_b 44 (decide_eq_true k44) (by kernel_rfl) ?_
      exact st_retv Try.func119 (show Value.bool (false) = _ by (refine b_eq (decide_eq_false ?_).symm; unfold uOk pos8 neg8 cnt1 LIM; omega)) (by kernel_rfl)
    · refine st_b 44 (decide_eq_false k44) (by kernel_rfl) ?_
      refine st_i 14 .i64 (x' := 2 + 1) (Go.IntWalk.i64_in _ (by omega)) (by kernel_rfl) ?_
      refine st_forget [0, 1, 2, 3, 4, 5, 6, 7, 8, 47, 48, 49, 50, 51, 52, 53, 54, 55, 56, 57, 58, 59] (by kernel_rfl) ?_
      exact st_back back0 ((2 + 1, true)) (by first | omega | (simp only []; omega) | (simp; omega)) (by first | (refine b_eq (decide_eq_false ?_).symm; unfold uOk pos8 neg8 cnt1 LIM; omega) | (refine b_eq (decide_eq_decide.2 ?_); rw [qt]; unfold uOk pos8 neg8 cnt1 LIM; omega) | omega | (simp only []; omega) | (simp; omega) | assumption | simp_all) (fun p hp => by first | exact hp | simp_all) (by kernel_rfl) (by kernel_rfl) (by kernel_rfl)
  · have _hh := True.intro
    refine st_b 21 (show (decide (d > 0)) = false by exact decide_eq_false (by omega)) (by kernel_rfl) ?_
    by_cases k29 : d < 0
    · refine st_b 29 (decide_eq_true k29) (by kernel_rfl) ?_
      refine st_i 14 .i64 (x' := 3 + 1) (Go.IntWalk.i64_in _ (by omega)) (by kernel_rfl) ?_
      refine st_forget [0, 1, 2, 3, 4, 5, 6, 7, 8, 47, 48, 49, 50, 51, 52, 53, 54, 55, 56, 57, 58, 59] (by kernel_rfl) ?_
      exact st_back back0 ((3 + 1, true)) (by first | omega | (simp only []; omega) | (simp; omega)) (by first | (refine b_eq (decide_eq_false ?_).symm; unfold uOk pos8 neg8 cnt1 LIM; omega) | (refine b_eq (decide_eq_decide.2 ?_); rw [qt]; unfold uOk pos8 neg8 cnt1 LIM; omega) | omega | (simp only []; omega) | (simp; omega) | assumption | simp_all) (fun p hp => by first | exact hp | simp_all) (by kernel_rfl) (by kernel_rfl) (by kernel_rfl)
    · refine st_b 29 (decide_eq_false k29) (by kernel_rfl) ?_
      refine st_i 14 .i64 (x' := 3 + 1) (Go.IntWalk.i64_in _ (by omega)) (by kernel_rfl) ?_
      refine st_forget [0, 1, 2, 3, 4, 5, 6, 7, 8, 47, 48, 49, 50, 51, 52, 53, 54, 55, 56, 57, 58, 59] (by kernel_rfl) ?_
      exact st_back back0 ((3 + 1, false)) (by first | omega | (simp only []; omega) | (simp; omega)) (by first | (refine b_eq (decide_eq_false ?_).symm; unfold uOk pos8 neg8 cnt1 LIM; omega) | (refine b_eq (decide_eq_decide.2 ?_); rw [qt]; unfold uOk pos8 neg8 cnt1 LIM; omega) | omega | (simp only []; omega) | (simp; omega) | assumption | simp_all) (fun p hp => by first | exact hp | simp_all) (by kernel_rfl) (by kernel_rfl) (by kernel_rfl)
  · have _hh := True.intro
    refine st_b 21 (show (decide (d > 0)) = false by exact decide_eq_false (by omega)) (by kernel_rfl) ?_
    refine st_i 14 .i64 (x' := 3 + 1) (Go.IntWalk.i64_in _ (by omega)) (by kernel_rfl) ?_
    refine st_forget [0, 1, 2, 3, 4, 5, 6, 7, 8, 47, 48, 49, 50, 51, 52, 53, 54, 55, 56, 57, 58, 59] (by kernel_rfl) ?_
    exact st_back back0 ((3 + 1, true)) (by first | omega | (simp only []; omega) | (simp; omega)) (by first | (refine b_eq (decide_eq_false ?_).symm; unfold uOk pos8 neg8 cnt1 LIM; omega) | (refine b_eq (decide_eq_decide.2 ?_); rw [qt]; unfold uOk pos8 neg8 cnt1 LIM; omega) | omega | (simp only []; omega) | (simp; omega) | assumption | simp_all) (fun p hp => by first | exact hp | simp_all) (by kernel_rfl) (by kernel_rfl) (by kernel_rfl)
  · have _hh := True.intro
    refine st_b 21 (show (decide (h > 0)) = false by exact decide_eq_false (by omega)) (by kernel_rfl) ?_
    by_cases k29 : h < 0
    · refine st_b 29 (decide_eq_true k29) (by kernel_rfl) ?_
      refine st_i 14 .i64 (x' := 4 + 1) (Go.IntWalk.i64_in _ (by omega)) (by kernel_rfl) ?_
      refine st_forget [0, 1, 2, 3, 4, 5, 6, 7, 8, 47, 48, 49, 50, 51, 52, 53, 54, 55, 56, 57, 58, 59] (by kernel_rfl) ?_
      exact st_back back0 ((4 + 1, true)) (by first | omega | (simp only []; omega) | (simp; omega)) (by first | (refine b_eq (decide_eq_false ?_).symm; unfold uOk pos8 neg8 cnt1 LIM; omega) | (refine b_eq (decide_eq_decide.2 ?_); rw [qt]; unfold uOk pos8 neg8 cnt1 LIM; omega) | omega | (simp only []; omega) | (simp; omega) | assumption | simp_all) (fun p hp => by first | exact hp | simp_all) (by kernel_rfl) (by kernel_rfl) (by kernel_rfl)
    · refine st_b 29 (decide_eq_false k29) (by kernel_rfl) ?_
      refine st_i 14 .i64 (x' := 4 + 1) (Go.IntWalk.i64_in _ (by omega)) (by kernel_rfl) ?_
      refine st_forget [0, 1, 2, 3, 4, 5, 6, 7, 8, 47, 48, 49, 50, 51, 52, 53, 54, 55, 56, 57, 58, 59] (by kernel_rfl) ?_
      exact st_back back0 ((4 + 1, false)) (by first | omega | (simp only []; omega) | (simp; omega)) (by first | (refine b_eq (decide_eq_false ?_).symm; unfold uOk pos8 neg8 cnt1 LIM; omega) | (refine b_eq (decide_eq_decide.2 ?_); rw [qt]; unfold uOk pos8 neg8 cnt1 LIM; omega) | omega | (simp only []; omega) | (simp; omega) | assumption | simp_all) (fun p hp => by first | exact hp | simp_all) (by kernel_rfl) (by kernel_rfl) (by kernel_rfl)
  · have _hh := True.intro
    refine st_b 21 (show (decide (h > 0)) = false by exact decide_eq_false (by omega)) (by kernel_rfl) ?_
    refine st_i 14 .i64 (x' := 4 + 1) (Go.IntWalk.i64_in _ (by omega)) (by kernel_rfl) ?_
    refine st_forget [0, 1, 2, 3, 4, 5, 6, 7, 8, 47, 48, 49, 50, 51, 52, 53, 54, 55, 56, 57, 58, 59] (by kernel_rfl) ?_
    exact st_back back0 ((4 + 1, true)) (by first | omega | (simp only []; omega) | (simp; omega)) (by first | (refine b_eq (decide_eq_false ?_).symm; unfold uOk pos8 neg8 cnt1 LIM; omega) | (refine b_eq (decide_eq_decide.2 ?_); rw [qt]; unfold uOk pos8 neg8 cnt1 LIM; omega) | omega | (simp only []; omega) | (simp; omega) | assumption | simp_all) (fun p hp => by first | exact hp | simp_all) (by kernel_rfl) (by kernel_rfl) (by kernel_rfl)
  · have _hh := True.intro
    refine st_b 21 (show (decide (mi > 0)) = false by exact decide_eq_false (by omega)) (by kernel_rfl) ?_
    by_cases k29 : mi < 0
    · refine st_b 29 (decide_eq_true k29) (by kernel_rfl) ?_
      refine st_i 14 .i64 (x' := 5 + 1) (Go.IntWalk.i64_in _ (by omega)) (by kernel_rfl) ?_
      refine st_forget [0, 1, 2, 3, 4, 5, 6, 7, 8, 47, 48, 49, 50, 51, 52, 53, 54, 55, 56, 57, 58, 59] (by kernel_rfl) ?_
      exact st_back back0 ((5 + 1, true)) (by first | omega | (simp only []; omega) | (simp; omega)) (by first | (refine b_eq (decide_eq_false ?_).symm; unfold uOk pos8 neg8 cnt1 LIM; omega) | (refine b_eq (decide_eq_decide.2 ?_); rw [qt]; unfold uOk pos8 neg8 cnt1 LIM; omega) | omega | (simp only []; omega) | (simp; omega) | assumption | simp_all) (fun p hp => by first | exact hp | simp_all) (by kernel_rfl) (by kernel_rfl) (by kernel_rfl)
    · refine st_b 29 (decide_eq_false k29) (by kernel_rfl) ?_
      refine st_i 14 .i64 (x' := 5 + 1) (Go.IntWalk.i64_in _ (by omega)) (by kernel_rfl) ?_
      refine st_forget [0, 1, 2, 3, 4, 5, 6, 7, 8, 47, 48, 49, 50, 51, 52, 53, 54, 55, 56, 57, 58, 59] (by kernel_rfl) ?_
      exact st_back back0 ((5 + 1, false)) (by first | omega | (simp only []; omega) | (simp; omega)) (by first | (refine b_eq (decide_eq_false ?_).symm; unfold uOk pos8 neg8 cnt1 LIM; omega) | (refine b_eq (decide_eq_decide.2 ?_); rw [qt]; unfold uOk pos8 neg8 cnt1 LIM; omega) | omega | (simp only []; omega) | (simp; omega) | assumption | simp_all) (fun p hp => by first | exact hp | simp_all) (by kernel_rfl) (by kernel_rfl) (by kernel_rfl)
  · have _hh := True.intro
    refine st_b 21 (show (decide (mi > 0)) = false by exact decide_eq_false (by omega)) (by kernel_rfl) ?_
    refine st_i 14 .i64 (x' := 5 + 1) (Go.IntWalk.i64_in _ (by omega)) (by kernel_rfl) ?_
    refine st_forget [0, 1, 2, 3, 4, 5, 6, 7, 8, 47, 48, 49, 50, 51, 52, 53, 54, 55, 56, 57, 58, 59] (by kernel_rfl) ?_
    exact st_back back0 ((5 + 1, true)) (by first | omega | (simp only []; omega) | (simp; omega)) (by first | (refine b_eq (decide_eq_false ?_).symm; unfold uOk pos8 neg8 cnt1 LIM; omega) | (refine b_eq (decide_eq_decide.2 ?_); rw [qt]; unfold uOk pos8 neg8 cnt1 LIM; omega) | omega | (simp only []; omega) | (simp; omega) | assumption | simp_all) (fun p hp => by first | exact hp | simp_all) (by kernel_rfl) (by kernel_rfl) (by kernel_rfl)
  · have _hh := True.intro
    refine st_b 21 (show (decide (s > 0)) = false by exact decide_eq_false (by omega)) (by kernel_rfl) ?_
    by_cases k29 : s < 0
    · refine st_b 29 (decide_eq_true k29) (by kernel_rfl) ?_
      refine st_i 14 .i64 (x' := 6 + 1) (Go.IntWalk.i64_in _ (by omega)) (by kernel_rfl) ?_
      refine st_forget [0, 1, 2, 3, 4, 5, 6, 7, 8, 47, 48, 49, 50, 51, 52, 53, 54, 55, 56, 57, 58, 59] (by kernel_rfl) ?_
      exact st_back back0 ((6 + 1, true)) (by first | omega | (simp only []; omega) | (simp; omega)) (by first | (refine b_eq (decide_eq_false ?_).symm; unfold uOk pos8 neg8 cnt1 LIM; omega) | (refine b_eq (decide_eq_decide.2 ?_); rw [qt]; unfold uOk pos8 neg8 cnt1 LIM; omega) | omega | (simp only []; omega) | (simp; omega) | assumption | simp_all) (fun p hp => by first | exact hp | simp_all) (by kernel_rfl) (by kernel_rfl) (by kernel_rfl)
    · refine st_b 29 (decide_eq_false k29) (by kernel_rfl) ?_
      refine st_i 14 .i64 (x' := 6 + 1) (Go.IntWalk.i64_in _ (by omega)) (by kernel_rfl) ?_
      refine st_forget [0, 1, 2, 3, 4, 5, 6, 7, 8, 47, 48, 49, 50, 51, 52, 53, 54, 55, 56, 57, 58, 59] (by kernel_rfl) ?_
      exact st_back back0 ((6 + 1, false)) (by first | omega | (simp only []; omega) | (simp; omega)) (by first | (refine b_eq (decide_eq_false ?_).symm; unfold uOk pos8 neg8 cnt1 LIM; omega) | (refine b_eq (decide_eq_decide.2 ?_); rw [qt]; unfold uOk pos8 neg8 cnt1 LIM; omega) | omega | (simp only []; omega) | (simp; omega) | assumption | simp_all) (fun p hp => by first | exact hp | simp_all) (by kernel_rfl) (by kernel_rfl) (by kernel_rfl)
  · have _hh := True.intro
    refine st_b 21 (show (decide (s > 0)) = false by exact decide_eq_false (by omega)) (by kernel_rfl) ?_
    refine st_i 14 .i64 (x' := 6 + 1) (Go.IntWalk.i64_in _ (by omega)) (by kernel_rfl) ?_
    refine st_forget [0, 1, 2, 3, 4, 5, 6, 7, 8, 47, 48, 49, 50, 51, 52, 53, 54, 55, 56, 57, 58, 59] (by kernel_rfl) ?_
    exact st_back back0 ((6 + 1, true)) (by first | omega | (simp only []; omega) | (simp; omega)) (by first | (refine b_eq (decide_eq_false ?_).symm; unfold uOk pos8 neg8 cnt1 LIM; omega) | (refine b_eq (decide_eq_decide.2 ?_); rw [qt]; unfold uOk pos8 neg8 cnt1 LIM; omega) | omega | (simp only []; omega) | (simp; omega) | assumption | simp_all) (fun p hp => by first | exact hp | simp_all) (by kernel_rfl) (by kernel_rfl) (by kernel_rfl)
  · have _hh := True.intro
    refine st_b 21 (show (decide (n > 0)) = false by exact decide_eq_false (by omega)) (by kernel_rfl) ?_
    by_cases k29 : n < 0
    · refine st_b 29 (decide_eq_true k29) (by kernel_rfl) ?_
      refine st_i 14 .i64 (x' := 7 + 1) (Go.IntWalk.i64_in _ (by omega)) (by kernel_rfl) ?_
      refine st_forget [0, 1, 2, 3, 4, 5, 6, 7, 8, 47, 48, 49, 50, 51, 52, 53, 54, 55, 56, 57, 58, 59] (by kernel_rfl) ?_
      exact st_back back0 ((7 + 1, true)) (by first | omega | (simp only []; omega) | (simp; omega)) (by first | (refine b_eq (decide_eq_false ?_).symm; unfold uOk pos8 neg8 cnt1 LIM; omega) | (refine b_eq (decide_eq_decide.2 ?_); rw [qt]; unfold uOk pos8 neg8 cnt1 LIM; omega) | omega | (simp only []; omega) | (simp; omega) | assumption | simp_all) (fun p hp => by first | exact hp | simp_all) (by kernel_rfl) (by kernel_rfl) (by kernel_rfl)
    · refine st_b 29 (decide_eq_false k29) (by kernel_rfl) ?_
      refine st_i 14 .i64 (x' := 7 + 1) (Go.IntWalk.i64_in _ (by omega)) (by kernel_rfl) ?_
      refine st_forget [0, 1, 2, 3, 4, 5, 6, 7, 8, 47, 48, 49, 50, 51, 52, 53, 54, 55, 56, 57, 58, 59] (by kernel_rfl) ?_
      exact st_back back0 ((7 + 1, false)) (by first | omega | (simp only []; omega) | (simp; omega)) (by first | (refine b_eq (decide_eq_false ?_).symm; unfold uOk pos8 neg8 cnt1 LIM; omega) | (refine b_eq (decide_eq_decide.2 ?_); rw [qt]; unfold uOk pos8 neg8 cnt1 LIM; omega) | omega | (simp only []; omega) | (simp; omega) | assumption | simp_all) (fun p hp => by first | exact hp | simp_all) (by kernel_rfl) (by kernel_rfl) (by kernel_rfl)
  · have _hh := True.intro
    refine st_b 21 (show (decide (n > 0)) = false by exact decide_eq_false (by omega)) (by kernel_rfl) ?_
    refine st_i 14 .i64 (x' := 7 + 1) (Go.IntWalk.i64_in _ (by omega)) (by kernel_rfl) ?_
    refine st_forget [0, 1, 2, 3, 4, 5, 6, 7, 8, 47, 48, 49, 50, 51, 52, 53, 54, 55, 56, 57, 58, 59] (by kernel_rfl) ?_
    exact st_back back0 ((7 + 1, true)) (by first | omega | (simp only []; omega) | (simp; omega)) (by first | (refine b_eq (decide_eq_false ?_).symm; unfold uOk pos8 neg8 cnt1 LIM; omega) | (refine b_eq (decide_eq_decide.2 ?_); rw [qt]; unfold uOk pos8 neg8 cnt1 LIM; omega) | omega | (simp only []; omega) | (simp; omega) | assumption | simp_all) (fun p hp => by first | exact hp | simp_all) (by kernel_rfl) (by kernel_rfl) (by kernel_rfl)
  · have _hh := True.intro
    refine st_g ent62 (ut) sub0 (by kernel_rfl) (fun zq2 => ?_)
    refine st_g ent106 (fa (zq2)) (subC 0 rfl sub0) (by kernel_rfl) (fun zq3 => ?_)
    refine st_g ent149 (zulimit) sub0 (by kernel_rfl) (fun zq4 => ?_)
    refine st_fn ent108 (fzcmp (zq3) (zq4) (X) (9007199254740992000000000) (by exact Bits.fit bX (by decide)) (by exact Bits.fit bl.bits (by decide))) (subC 1 rfl (subC 0 rfl sub0)) (by kernel_rfl) ?_
    exact st_retv Try.func119 (show Value.bool (decide (cmpI X 9007199254740992000000000 < 0)) = _ by (refine b_eq (decide_eq_decide.2 ?_); rw [qt]; unfold uOk pos8 neg8 cnt1 LIM; omega)) (by kernel_rfl)
  · have _hh := True.intro
    refine st_g ent62 (ut) sub0 (by kernel_rfl) (fun zq2 => ?_)
    refine st_g ent106 (fa (zq2)) (subC 0 rfl sub0) (by kernel_rfl) (fun zq3 => ?_)
    refine st_g ent149 (zulimit) sub0 (by kernel_rfl) (fun zq4 => ?_)
    refine st_fn ent108 (fzcmp (zq3) (zq4) (X) (9007199254740992000000000) (by exact Bits.fit bX (by decide)) (by exact Bits.fit bl.bits (by decide))) (subC 1 rfl (subC 0 rfl sub0)) (by kernel_rfl) ?_
    exact st_retv Try.func119 (show Value.bool (decide (cmpI X 9007199254740992000000000 < 0)) = _ by (refine b_eq (decide_eq_decide.2 ?_); rw [qt]; unfold uOk pos8 neg8 cnt1 LIM; omega)) (by kernel_rfl)
end
end Go.Proofs.Ytccllfegnijpiaa
end
section
/-
  Durations: what may be, as the reference reckons it: fields of both signs.
-/
set_option linter.unusedVariables false
set_option linter.unusedSimpArgs false
set_option maxRecDepth 100000
namespace Go.Proofs.Ytccllfegnijpiaa
open Go Go.RowKit Go.Ev

section
variable (a b c d h mi s n : Int)
set_option maxHeartbeats 3200000 in
theorem zuright_m (i : all64 a b c d h mi s n) (hP : ¬ pos8 a b c d h mi s n) (hN : ¬ neg8 a b c d h mi s n) : Fn 119 [] [duv a b c d h mi s n] (.bool (decide (uOk a b c d h mi s n))) := by
  obtain ⟨i1, i2, i3, i4, i5, i6, i7, i8⟩ := i
  have bt : W128 (dtot d h mi s n) := by unfold I64 at *; unfold W128 dtot; omega
  have bl : W128 9007199254740992000000000 := by unfold W128; omega
  have ut := zutot a b c d h mi s n i4 i5 i6 i7 i8
  obtain ⟨X, hX⟩ : ∃ X : Int, X = ((dtot d h mi s n).natAbs : Int) := ⟨_, rfl⟩
  have bX : Bits 128 X := by rw [hX]; exact bt.bits.abs
  have fa : ∀ p : ZQ, FnZ 106 [(p, dtot d h mi s n)] [zv p] zv X := fun p => by rw [hX]; exact fzabs p _ (bt.bits.fit (by decide))
  have qt := cmpI_lt0 (a := X) (b := 9007199254740992000000000)
  refine fn_of Try.func119 rfl fun ww => ?_
  refine st_rowB ent35 (zufields (a) (b) (c) (d) (h) (mi) (s) (n)) (by kernel_rfl) ?_
  refine st_forget [0, 1, 3, 4, 5, 6, 7, 8, 47, 48, 49, 50, 51, 52, 53, 54, 55, 56, 57, 58, 59] (by kernel_rfl) ?_
  refine st_loop (X := Int × Bool × Bool) (fun x => ([SV.val (Value.agg #[Value.int IntKind.i64 a, Value.int IntKind.i64 b, Value.int IntKind.i64 c, Value.int IntKind.i64 d, Value.int IntKind.i64 h, Value.int IntKind.i64 mi, Value.int IntKind.i64 s, Value.int IntKind.i64 n]), SV.ptr 0 0, .any, SV.sl 1 0 8 8, .val (.bool x.2.1), .val (.bool x.2.2), .val (.int .i64 x.1), SV.val (Value.agg #[Value.int IntKind.i64 a, Value.int IntKind.i64 b, Value.int IntKind.i64 c, Value.int IntKind.i64 d, Value.int IntKind.i64 h, Value.int IntKind.i64 mi, Value.int IntKind.i64 s, Value.int IntKind.i64 n]), SV.sl 1 0 8 8, .any, .any, .any, .any, .any, .any, .any, .any, .any, .any, .any, .any, .any, .any, .any, .any, .any, .any, .any, .any, .any, .any, .any, .any, .any, .any, .any, .any, .any, .any, .any, .any, .any, .any, .any, .any, .any, .any, SV.val (Value.tuple #[]), SV.val (Value.tuple #[]), SV.val (Value.tuple #[]), SV.val (Value.tuple #[]), SV.val (Value.tuple #[]), SV.val (Value.tuple #[]), SV.val (Value.tuple #[]), SV.val (Value.tuple #[]), SV.val (Value.tuple #[]), SV.val (Value.tuple #[]), SV.val (Value.tuple #[]), SV.val (Value.tuple #[]), SV.val (Value.tuple #[])], [⟨[SV.val (Value.int IntKind.i64 a), SV.val (Value.int IntKind.i64 b), SV.val (Value.int IntKind.i64 c), SV.val (Value.int IntKind.i64 d), SV.val (Value.int IntKind.i64 h), SV.val (Value.int IntKind.i64 mi), SV.val (Value.int IntKind.i64 s), SV.val (Value.int IntKind.i64 n)], 41⟩, ⟨[SV.val (Value.int IntKind.i64 a), SV.val (Value.int IntKind.i64 b), SV.val (Value.int IntKind.i64 c), SV.val (Value.int IntKind.i64 d), SV.val (Value.int IntKind.i64 h), SV.val (Value.int IntKind.i64 mi), SV.val (Value.int IntKind.i64 s), SV.val (Value.int IntKind.i64 n)], 2⟩])) (fun _ => _) (fun k => 0 ≤ k.1 ∧ k.1 ≤ 8 ∧ (k.2.1 = false → (0 < k.1 → a ≤ 0) ∧ (1 < k.1 → b ≤ 0) ∧ (2 < k.1 → c ≤ 0) ∧ (3 < k.1 → d ≤ 0) ∧ (4 < k.1 → h ≤ 0) ∧ (5 < k.1 → mi ≤ 0) ∧ (6 < k.1 → s ≤ 0) ∧ (7 < k.1 → n ≤ 0)) ∧ (k.2.2 = false → (0 < k.1 → 0 ≤ a) ∧ (1 < k.1 → 0 ≤ b) ∧ (2 < k.1 → 0 ≤ c) ∧ (3 < k.1 → 0 ≤ d) ∧ (4 < k.1 → 0 ≤ h) ∧ (5 < k.1 → 0 ≤ mi) ∧ (6 < k.1 → 0 ≤ s) ∧ (7 < k.1 → 0 ≤ n))) (fun k => (8 - k.1).toNat) ((0, false, false)) (by kernel_rfl) (by kernel_rfl) Sub.refl (by first | omega | (simp; omega) | assumption | simp_all) (fun x px0 back0 => ?_)
  rcases x with ⟨y0_0, y0_1, y0_2⟩
  simp only at px0
  (have hk0 : y0_0 = 0 ∨ y0_0 = 1 ∨ y0_0 = 2 ∨ y0_0 = 3 ∨ y0_0 = 4 ∨ y0_0 = 5 ∨ y0_0 = 6 ∨ y0_0 = 7 ∨ y0_0 = 8 := (by omega); rcases hk0 with rfl | rfl | rfl | rfl | rfl | rfl | rfl | rfl | rfl <;> rcases y0_1 with _ | _ <;> rcases y0_2 with _ | _ <;> simp only [reduceCtorEq, false_implies, true_implies, true_and, and_true, forall_const] at px0)
  · have _hh := True.intro
    by_cases k21 : a > 0
    · refine st_b 21 (decide_eq_true k21) (by kernel_rfl) ?_
      refine st_b 29 (show (decide (a < 0)) = false by exact decide_eq_false (by omega)) (by kernel_rfl) ?_
      by_cases k38 : a > 4294967295
      · refine st_b 38 (decide_eq_true k38) (by kernel_rfl) ?_
        exact st_retv Try.func119 (show Value.bool (false) = _ by (exact b_eq (decide_eq_false (fun z => z.1.elim hP hN)).symm)) (by kernel_rfl)
      · refine st_b 38 (decide_eq_false k38) (by kernel_rfl) ?_
        refine st_b 44 (show (decide (a < -4294967295)) = false by exact decide_eq_false (by omega)) (by kernel_rfl) ?_
        refine st_i 14 .i64 (x' := 0 + 1) (Go.IntWalk.i64_in _ (by omega)) (by kernel_rfl) ?_
        refine st_forget [0, 1, 2, 3, 4, 5, 6, 7, 8, 47, 48, 49, 50, 51, 52, 53, 54, 55, 56, 57, 58, 59] (by kernel_rfl) ?_
        exact st_back back0 ((0 + 1, true, false)) (by first | omega | (simp only []; omega) | (simp; omega)) (by first | (simp only [reduceCtorEq, false_implies, true_implies, true_and, and_true, forall_const]; omega) | (exact b_eq (decide_eq_false (fun z => z.1.elim hP hN)).symm) | (exact absurd (show neg8 a b c d h mi s n by unfold neg8; omega) hN) | (exact absurd (show pos8 a b c d h mi s n by unfold pos8; omega) hP) | omega | (simp only []; omega) | (simp; omega) | assumption | simp_all) (fun p hp => by first | exact hp | simp_all) (by kernel_rfl) (by kernel_rfl) (by kernel_rfl)
    · refine st_b 21 (decide_eq_false k21) (by kernel_rfl) ?_
      by_cases k29 : a < 0
      · refine st_b 29 (decide_eq_true k29) (by kernel_rfl) ?_
        refine st_b 38 (show (decide (a > 4294967295)) = false by exact decide_eq_false (by omega)) (by kernel_rfl) ?_
        by_cases k44 : a < -4294967295
        · refine st_b 44 (decide_eq_true k44) (by kernel_rfl) ?_
          exact st_retv Try.func119 (show Value.bool (false) = _ by (exact b_eq (decide_eq_false (fun z => z.1.elim hP hN)).symm)) (by kernel_rfl)
        · refine st_b 44 (decide_eq_false k44) (by kernel_rfl) ?_
          refine st_i 14 .i64 (x' := 0 + 1) (Go.IntWalk.i64_in _ (by omega)) (by kernel_rfl) ?_
          refine st_forget [0, 1, 2, 3, 4, 5, 6, 7, 8, 47, 48, 49, 50, 51, 52, 53, 54, 55, 56, 57, 58, 59] (by kernel_rfl) ?_
          exact st_back back0 ((0 + 1, false, true)) (by first | omega | (simp only []; omega) | (simp; omega)) (by first | (simp only [reduceCtorEq, false_implies, true_implies, true_and, and_true, forall_const]; omega) | (exact b_eq (decide_eq_false (fun z => z.1.elim hP hN)).symm) | (exact absurd (show neg8 a b c d h mi s n by unfold neg8; omega) hN) | (exact absurd (show pos8 a b c d h mi s n by unfold pos8; omega) hP) | omega | (simp only []; omega) | (simp; omega) | assumption | simp_all) (fun p hp => by first | exact hp | simp_all) (by kernel_rfl) (by kernel_rfl) (by kernel_rfl)
      · refine st_b 29 (decide_eq_false k29) (by kernel_rfl) ?_
        refine st_b 38 (show (decide (a > 4294967295)) = false by exact decide_eq_false (by omega)) (by kernel_rfl) ?_
        refine st_b 44 (show (decide (a < -4294967295)) = false by exact decide_eq_false (by omega)) (by kernel_rfl) ?_
        refine st_i 14 .i64 (x' := 0 + 1) (Go.IntWalk.i64_in _ (by omega)) (by kernel_rfl) ?_
        refine st_forget [0, 1, 2, 3, 4, 5, 6, 7, 8, 47, 48, 49, 50, 51, 52, 53, 54, 55, 56, 57, 58, 59] (by kernel_rfl) ?_
        exact st_back back0 ((0 + 1, false, false)) (by first | omega | (simp only []; omega) | (simp; omega)) (by first | (simp only [reduceCtorEq, false_implies, true_implies, true_and, and_true, forall_const]; omega) | (exact b_eq (decide_eq_false (fun z => z.1.elim hP hN)).symm) | (exact absurd (show neg8 a b c d h mi s n by unfold neg8; omega) hN) | (exact absurd (show pos8 a b c d h mi s n by unfold pos8; omega) hP) | omega | (simp only []; omega) | (simp; omega) | assumption | simp_all) (fun p hp => by first | exact hp | simp_all) (by kernel_rfl) (by kernel_rfl) (by kernel_rfl)
  · have _hh := True.intro
    by_cases k21 : a > 0
    · refine st_b 21 (decide_eq_true k21) (by kernel_rfl) ?_
      by_cases k38 : a > 4294967295
      · refine st_b 38 (decide_eq_true k38) (by kernel_rfl) ?_
        exact st_retv Try.func119 (show Value.bool (false) = _ by (exact b_eq (decide_eq_false (fun z => z.1.elim hP hN)).symm)) (by kernel_rfl)
      · refine st_b 38 (decide_eq_false k38) (by kernel_rfl) ?_
        refine st_b 44 (show (decide (a < -4294967295)) = false by exact decide_eq_false (by omega)) (by kernel_rfl) ?_
        refine st_i 14 .i64 (x' := 0 + 1) (Go.IntWalk.i64_in _ (by omega)) (by kernel_rfl) ?_
        refine st_forget [0, 1, 2, 3, 4, 5, 6, 7, 8, 47, 48, 49, 50, 51, 52, 53, 54, 55, 56, 57, 58, 59] (by kernel_rfl) ?_
        exact st_back back0 ((0 + 1, true, true)) (by first | omega | (simp only []; omega) | (simp; omega)) (by first | (simp only [reduceCtorEq, false_implies, true_implies, true_and, and_true, forall_const]; omega) | (exact b_eq (decide_eq_false (fun z => z.1.elim hP hN)).symm) | (exact absurd (show neg8 a b c d h mi s n by unfold neg8; omega) hN) | (exact absurd (show pos8 a b c d h mi s n by unfold pos8; omega) hP) | omega | (simp only []; omega) | (simp; omega) | assumption | simp_all) (fun p hp => by first | exact hp | simp_all) (by kernel_rfl) (by kernel_rfl) (by kernel_rfl)
    · refine st_b 21 (decide_eq_false k21) (by kernel_rfl) ?_
      refine st_b 38 (show (decide (a > 4294967295)) = false by exact decide_eq_false (by omega)) (by kernel_rfl) ?_
      by_cases k44 : a < -4294967295
      · refine st_b 44 (decide_eq_true k44) (by kernel_rfl) ?_
        exact st_retv Try.func119 (show Value.bool (false) = _ by (exact b_eq (decide_eq_false (fun z => z.1.elim hP hN)).symm)) (by kernel_rfl)
      · refine st_b 44 (decide_eq_false k44) (by kernel_rfl) ?_
        refine st_i 14 .i64 (x' := 0 + 1) (Go.IntWalk.i64_in _ (by omega)) (by kernel_rfl) ?_
        refine st_forget [0, 1, 2, 3, 4, 5, 6, 7, 8, 47, 48, 49, 50, 51, 52, 53, 54, 55, 56, 57, 58, 59] (by kernel_rfl) ?_
        exact st_back back0 ((0 + 1, false, true)) (by first | omega | (simp only []; omega) | (simp; omega)) (by first | (simp only [reduceCtorEq, false_implies, true_implies, true_and, and_true, forall_const]; omega) | (exact b_eq (decide_eq_false (fun z => z.1.elim hP hN)).symm) | (exact absurd (show neg8 a b c d h mi s n by unfold neg8; omega) hN) | (exact absurd (show pos8 a b c d h mi s n by unfold pos8; omega) hP) | omega | (simp only []; omega) | (simp; omega) | assumption | simp_all) (fun p hp => by first | exact hp | simp_all) (by kernel_rfl) (by kernel_rfl) (by kernel_rfl)
  · have _hh := True.intro
    by_cases k29 : a < 0
    · refine st_b 29 (decide_eq_true k29) (by kernel_rfl) ?_
      refine st_b 38 (show (decide (a > 4294967295)) = false by exact decide_eq_false (by omega)) (by kernel_rfl) ?_
      by_cases k44 : a < -4294967295
      · refine st_b 44 (decide_eq_true k44) (by kernel_rfl) ?_
        exact st_retv Try.func119 (show Value.bool (false) = _ by (exact b_eq (decide_eq_false (fun z => z.1.elim hP hN)).symm)) (by kernel_rfl)
      · refine st_b 44 (decide_eq_false k44) (by kernel_rfl) ?_
        refine st_i 14 .i64 (x' := 0 + 1) (Go.IntWalk.i64_in _ (by omega)) (by kernel_rfl) ?_
        refine st_forget [0, 1, 2, 3, 4, 5, 6, 7, 8, 47, 48, 49, 50, 51, 52, 53, 54, 55, 56, 57, 58, 59] (by kernel_rfl) ?_
        exact st_back back0 ((0 + 1, true, true)) (by first | omega | (simp only []; omega) | (simp; omega)) (by first | (simp only [reduceCtorEq, false_implies, true_implies, true_and, and_true, forall_const]; omega) | (exact b_eq (decide_eq_false (fun z => z.1.elim hP hN)).symm) | (exact absurd (show neg8 a b c d h mi s n by unfold neg8; omega) hN) | (exact absurd (show pos8 a b c d h mi s n by unfold pos8; omega) hP) | omega | (simp only []; omega) | (simp; omega) | assumption | simp_all) (fun p hp => by first | exact hp | simp_all) (by kernel_rfl) (by kernel_rfl) (by kernel_rfl)
    · refine st_b 29 (decide_eq_false k29) (by kernel_rfl) ?_
      by_cases k38 : a > 4294967295
      · refine st_b 38 (decide_eq_true k38) (by kernel_rfl) ?_
        exact st_retv Try.func119 (show Value.bool (false) = _ by (exact b_eq (decide_eq_false (fun z => z.1.elim hP hN)).symm)) (by kernel_rfl)
      · refine st_b 38 (decide_eq_false k38) (by kernel_rfl) ?_
        refine st_b 44 (show (decide (a < -4294967295)) = false by exact decide_eq_false (by omega)) (by kernel_rfl) ?_
        refine st_i 14 .i64 (x' := 0 + 1) (Go.IntWalk.i64_in _ (by omega)) (by kernel_rfl) ?_
        refine st_forget [0, 1, 2, 3, 4, 5, 6, 7, 8, 47, 48, 49, 50, 51, 52, 53, 54, 55, 56, 57, 58, 59] (by kernel_rfl) ?_
        exact st_back back0 ((0 + 1, true, false)) (by first | omega | (simp only []; omega) | (simp; omega)) (by first | (simp only [reduceCtorEq, false_implies, true_implies, true_and, and_true, forall_const]; omega) | (exact b_eq (decide_eq_false (fun z => z.1.elim hP hN)).symm) | (exact absurd (show neg8 a b c d h mi s n by unfold neg8; omega) hN) | (exact absurd (show pos8 a b c d h mi s n by unfold pos8; omega) hP) | omega | (simp only []; omega) | (simp; omega) | assumption | simp_all) (fun p hp => by first | exact hp | simp_all) (by kernel_rfl) (by kernel_rfl) (by kernel_rfl)
  · have _hh := True.intro
    by_cases k38 : a > 4294967295
    · refine st_b 38 (decide_eq_true k38) (by kernel_rfl) ?_
      exact st_retv Try.func119 (show Value.bool (false) = _ by (exact b_eq (decide_eq_false (fun z => z.1.elim hP hN)).symm)) (by kernel_rfl)
    · refine st_b 38 (decide_eq_false k38) (by kernel_rfl) ?_
      by_cases k44 : a < -4294967295
      · refine st_b 44 (decide_eq_true k44) (by kernel_rfl) ?_
        exact st_retv Try.func119 (show Value.bool (false) = _ by (exact b_eq (decide_eq_false (fun z => z.1.elim hP hN)).symm)) (by kernel_rfl)
      · refine st_b 44 (decide_eq_false k44) (by kernel_rfl) ?_
        refine st_i 14 .i64 (x' := 0 + 1) (Go.IntWalk.i64_in _ (by omega)) (by kernel_rfl) ?_
        refine st_forget [0, 1, 2, 3, 4, 5, 6, 7, 8, 47, 48, 49, 50, 51, 52, 53, 54, 55, 56, 57, 58, 59] (by kernel_rfl) ?_
        exact st_back back0 ((0 + 1, true, true)) (by first | omega | (simp only []; omega) | (simp; omega)) (by first | (simp only [reduceCtorEq, false_implies, true_implies, true_and, and_true, forall_const]; omega) | (exact b_eq (decide_eq_false (fun z => z.1.elim hP hN)).symm) | (exact absurd (show neg8 a b c d h mi s n by unfold neg8; omega) hN) | (exact absurd (show pos8 a b c d h mi s n by unfold pos8; omega) hP) | omega | (simp only []; omega) | (simp; omega) | assumption | simp_all) (fun p hp => by first | exact hp | simp_all) (by kernel_rfl) (by kernel_rfl) (by kernel_rfl)
  · have _hh := True.intro
    by_cases k21 : b > 0
    · refine st_b 21 (decide_eq_true k21) (by kernel_rfl) ?_
      refine st_b 29 (show (decide (b < 0)) = false by exact decide_eq_false (by omega)) (by kernel_rfl) ?_
      by_cases k38 : b > 4294967295
      · refine st_b 38 (decide_eq_true k38) (by kernel_rfl) ?_
        exact st_retv Try.func119 (show Value.bool (false) = _ by (exact b_eq (decide_eq_false (fun z => z.1.elim hP hN)).symm)) (by kernel_rfl)
      · refine st_b 38 (decide_eq_false k38) (by kernel_rfl) ?_
        refine st_b 44 (show (decide (b < -4294967295)) = false by exact decide_eq_false (by omega)) (by kernel_rfl) ?_
        refine st_i 14 .i64 (x' := 1 + 1) (Go.IntWalk.i64_in _ (by omega)) (by kernel_rfl) ?_
        refine st_forget [0, 1, 2, 3, 4, 5, 6, 7, 8, 47, 48, 49, 50, 51, 52, 53, 54, 55, 56, 57, 58, 59] (by kernel_rfl) ?_
        exact st_back back0 ((1 + 1, true, false)) (by first | omega | (simp only []; omega) | (simp; omega)) (by first | (simp only [reduceCtorEq, false_implies, true_implies, true_and, and_true, forall_const]; omega) | (exact b_eq (decide_eq_false (fun z => z.1.elim hP hN)).symm) | (exact absurd (show neg8 a b c d h mi s n by unfold neg8; omega) hN) | (exact absurd (show pos8 a b c d h mi s n by unfold pos8; omega) hP) | omega | (simp only []; omega) | (simp; omega) | assumption | simp_all) (fun p hp => by first | exact hp | simp_all) (by kernel_rfl) (by kernel_rfl) (by kernel_rfl)
    · refine st_b 21 (decide_eq_false k21) (by kernel_rfl) ?_
      by_cases k29 : b < 0
      · refine st_b 29 (decide_eq_true k29) (by kernel_rfl) ?_
        refine st_b 38 (show (decide (b > 4294967295)) = false by exact decide_eq_false (by omega)) (by kernel_rfl) ?_
        by_cases k44 : b < -4294967295
        · refine st_b 44 (decide_eq_true k44) (by kernel_rfl) ?_
          exact st_retv Try.func119 (show Value.bool (false) = _ by (exact b_eq (decide_eq_false (fun z => z.1.elim hP hN)).symm)) (by kernel_rfl)
        · refine st_b 44 (decide_eq_false k44) (by kernel_rfl) ?_
          refine st_i 14 .i64 (x' := 1 + 1) (Go.IntWalk.i64_in _ (by omega)) (by kernel_rfl) ?_
          refine st_forget [0, 1, 2, 3, 4, 5, 6, 7, 8, 47, 48, 49, 50, 51, 52, 53, 54, 55, 56, 57, 58, 59] (by kernel_rfl) ?_
          exact st_back back0 ((1 + 1, false, true)) (by first | omega | (simp only []; omega) | (simp; omega)) (by first | (simp only [reduceCtorEq, false_implies, true_implies, true_and, and_true, forall_const]; omega) | (exact b_eq (decide_eq_false (fun z => z.1.elim hP hN)).symm) | (exact absurd (show neg8 a b c d h mi s n by unfold neg8; omega) hN) | (exact absurd (show pos8 a b c d h mi s n by unfold pos8; omega) hP) | omega | (simp only []; omega) | (simp; omega) | assumption | simp_all) (fun p hp => by first | exact hp | simp_all) (by kernel_rfl) (by kernel_rfl) (by kernel_rfl)
      · refine st_b 29 (decide_eq_false k29) (by kernel_rfl) ?_
        refine st_b 38 (show (decide (b > 4294967295)) = false by exact decide_eq_false (by omega)) (by kernel_rfl) ?_
        refine st_b 44 (show (decide (b < -4294967295)) = false by exact decide_eq_false (by omega)) (by kernel_rfl) ?_
        refine st_i 14 .i64 (x' := 1 + 1) (Go.IntWalk.i64_in _ (by omega)) (by kernel_rfl) ?_
        refine st_forget [0, 1, 2, 3, 4, 5, 6, 7, 8, 47, 48, 49, 50, 51, 52, 53, 54, 55, 56, 57, 58, 59] (by kernel_rfl) ?_
        exact st_back back0 ((1 + 1, false, false)) (by first | omega | (simp only []; omega) | (simp; omega)) (by first | (simp only [reduceCtorEq, false_implies, true_implies, true_and, and_true, forall_const]; omega) | (exact b_eq (decide_eq_false (fun z => z.1.elim hP hN)).symm) | (exact absurd (show neg8 a b c d h mi s n by unfold neg8; omega) hN) | (exact absurd (show pos8 a b c d h mi s n by unfold pos8; omega) hP) | omega | (simp only []; omega) | (simp; omega) | assumption | simp_all) (fun p hp => by first | exact hp | simp_all) (by kernel_rfl) (by kernel_rfl) (by kernel_rfl)
  · have _hh := True.intro
    by_cases k21 : b > 0
    · refine st_b 21 (decide_eq_true k21) (by kernel_rfl) ?_
      by_cases k38 : b > 4294967295
      · refine st_b 38 (decide_eq_true k38) (by kernel_rfl) ?_
        exact st_retv Try.func119 (show Value.bool (false) = _ by (exact b_eq (decide_eq_false (fun z => z.1.elim hP hN)).symm)) (by kernel_rfl)
      · refine st_b 38 (decide_eq_false k38) (by kernel_rfl) ?_
        refine st_b 44 (show (decide (b < -4294967295)) = false by exact decide_eq_false (by omega)) (by kernel_rfl) ?_
        refine st_i 14 .i64 (x' := 1 + 1) (Go.IntWalk.i64_in _ (by omega)) (by kernel_rfl) ?_
        refine st_forget [0, 1, 2, 3, 4, 5, 6, 7, 8, 47, 48, 49, 50, 51, 52, 53, 54, 55, 56, 57, 58, 59] (by kernel_rfl) ?_
        exact st_back back0 ((1 + 1, true, true)) (by first | omega | (simp only []; omega) | (simp; omega)) (by first | (simp only [reduceCtorEq, false_implies, true_implies, true_and, and_true, forall_const]; omega) | (exact b_eq (decide_eq_false (fun z => z.1.elim hP hN)).symm) | (exact absurd (show neg8 a b c d h mi s n by unfold neg8; omega) hN) | (exact absurd (show pos8 a b c d h mi s n by unfold pos8; omega) hP) | omega | (simp only []; omega) | (simp; omega) | assumption | simp_all) (fun p hp => by first | exact hp | simp_all) (by kernel_rfl) (by kernel_rfl) (by kernel_rfl)
    · refine st_b 21 (decide_eq_false k21) (by kernel_rfl) ?_
      refine st_b 38 (show (decide (b > 4294967295)) = false by exact decide_eq_false (by omega)) (by kernel_rfl) ?_
      by_cases k44 : b < -4294967295
      · refine st_b 44 (decide_eq_true k44) (by kernel_rfl) ?_
        exact st_retv Try.func119 (show Value.bool (false) = _ by (exact b_eq (decide_eq_false (fun z => z.1.elim hP hN)).symm)) (by kernel_rfl)
      · refine st_b 44 (decide_eq_false k44) (by kernel_rfl) ?_
        refine st_i 14 .i64 (x' := 1 + 1) (Go.IntWalk.i64_in _ (by omega)) (by kernel_rfl) ?_
        refine st_forget [0, 1, 2, 3, 4, 5, 6, 7, 8, 47, 48, 49, 50, 51, 52, 53, 54, 55, 56, 57, 58, 59] (by kernel_rfl) ?_
        exact st_back back0 ((1 + 1, false, true)) (by first | omega | (simp only []; omega) | (simp; omega)) (by first | (simp only [reduceCtorEq, false_implies, true_implies, true_and, and_true, forall_const]; omega) | (exact b_eq (decide_eq_false (fun z => z.1.elim hP hN)).symm) | (exact absurd (show neg8 a b c d h mi s n by unfold neg8; omega) hN) | (exact absurd (show pos8 a b c d h mi s n by unfold pos8; omega) hP) | omega | (simp only []; omega) | (simp; omega) | assumption | simp_all) (fun p hp => by first | exact hp | simp_all) (by kernel_rfl) (by kernel_rfl) (by kernel_rfl)
  · have _hh := True.intro
    by_cases k29 : b < 0
    · refine st_b 29 (decide_eq_true k29) (by kernel_rfl) ?_
      refine st_b 38 (show (decide (b > 4294967295)) = false by exact decide_eq_false (by omega)) (by kernel_rfl) ?_
      by_cases k44 : b < -4294967295
      · refine st_b 44 (decide_eq_true k44) (by kernel_rfl) ?_
        exact st_retv Try.func119 (show Value.bool (false) = _ by (exact b_eq (decide_eq_false (fun z => z.1.elim hP hN)).symm)) (by kernel_rfl)
      · refine st_b 44 (decide_eq_false k44) (by kernel_rfl) ?_
        refine st_i 14 .i64 (x' := 1 + 1) (Go.IntWalk.i64_in _ (by omega)) (by kernel_rfl) ?_
        refine st_forget [0, 1, 2, 3, 4, 5, 6, 7, 8, 47, 48, 49, 50, 51, 52, 53, 54, 55, 56, 57, 58, 59] (by kernel_rfl) ?_
        exact st_back back0 ((1 + 1, true, true)) (by first | omega | (simp only []; omega) | (simp; omega)) (by first | (simp only [reduceCtorEq, false_implies, true_implies, true_and, and_true, forall_const]; omega) | (exact b_eq (decide_eq_false (fun z => z.1.elim hP hN)).symm) | (exact absurd (show neg8 a b c d h mi s n by unfold neg8; omega) hN) | (exact absurd (show pos8 a b c d h mi s n by unfold pos8; omega) hP) | omega | (simp only []; omega) | (simp; omega) | assumption | simp_all) (fun p hp => by first | exact hp | simp_all) (by kernel_rfl) (by kernel_rfl) (by kernel_rfl)
    · refine st_b 29 (decide_eq_false k29) (by kernel_rfl) ?_
      by_cases k38 : b > 4294967295
      · refine st_b 38 (decide_eq_true k38) (by kernel_rfl) ?_
        exact st_retv Try.func119 (show Value.bool (false) = _ by (exact b_eq (decide_eq_false (fun z => z.1.elim hP hN)).symm)) (by kernel_rfl)
      · refine st_b 38 (decide_eq_false k38) (by kernel_rfl) ?_
        refine st_b 44 (show (decide (b < -4294967295)) = false by exact decide_eq_false (by omega)) (by kernel_rfl) ?_
        refine st_i 14 .i64 (x' := 1 + 1) (Go.IntWalk.i64_in _ (by omega)) (by kernel_rfl) ?_
        refine st_forget [0, 1, 2, 3, 4, 5, 6, 7, 8, 47, 48, 49, 50, 51, 52, 53, 54, 55, 56, 57, 58, 59] (by kernel_rfl) ?_
        exact st_back back0 ((1 + 1, true, false)) (by first | omega | (simp only []; omega) | (simp; omega)) (by first | (simp only [reduceCtorEq, false_implies, true_implies, true_and, and_true, forall_const]; omega) | (exact b_eq (decide_eq_false (fun z => z.1.elim hP hN)).symm) | (exact absurd (show neg8 a b c d h mi s n by unfold neg8; omega) hN) | (exact absurd (show pos8 a b c d h mi s n by unfold pos8; omega) hP) | omega | (simp only []; omega) | (simp; omega) | assumption | simp_all) (fun p hp => by first | exact hp | simp_all) (by kernel_rfl) (by kernel_rfl) (by kernel_rfl)
  · have _hh := True.intro
    by_cases k38 : b > 4294967295
    · refine st_b 38 (decide_eq_true k38) (by kernel_rfl) ?_
      exact st_retv Try.func119 (show Value.bool (false) = _ by (exact b_eq (decide_eq_false (fun z => z.1.elim hP hN)).symm)) (by kernel_rfl)
    · refine st_b 38 (decide_eq_false k38) (by kernel_rfl) ?_
      by_cases k44 : b < -4294967295
      · refine st_b 44 (decide_eq_true k44) (by kernel_rfl) ?_
        exact st_retv Try.func119 (show Value.bool (false) = _ by (exact b_eq (decide_eq_false (fun z => z.1.elim hP hN)).symm)) (by kernel_rfl)
      · refine st_b 44 (decide_eq_false k44) (by kernel_rfl) ?_
        refine st_i 14 .i64 (x' := 1 + 1) (Go.IntWalk.i64_in _ (by omega)) (by kernel_rfl) ?_
        refine st_forget [0, 1, 2, 3, 4, 5, 6, 7, 8, 47, 48, 49, 50, 51, 52, 53, 54, 55, 56, 57, 58, 59] (by kernel_rfl) ?_
        exact st_back back0 ((1 + 1, true, true)) (by first | omega | (simp only []; omega) | (simp; omega)) (by first | (simp only [reduceCtorEq, false_implies, true_implies, true_and, and_true, forall_const]; omega) | (exact b_eq (decide_eq_false (fun z => z.1.elim hP hN)).symm) | (exact absurd (show neg8 a b c d h mi s n by unfold neg8; omega) hN) | (exact absurd (show pos8 a b c d h mi s n by unfold pos8; omega) hP) | omega | (simp only []; omega) | (simp; omega) | assumption | simp_all) (fun p hp => by first | exact hp | simp_all) (by kernel_rfl) (by kernel_rfl) (by kernel_rfl)
  · have _hh := True.intro
    by_cases k21 : c > 0
    · refine st_b 21 (decide_eq_true k21) (by kernel_rfl) ?_
      refine st_b 29 (show (decide (c < 0)) = false by exact decide_eq_false (by omega)) (by kernel_rfl) ?_
      by_cases k38 : c > 4294967295
      · refine st_b 38 (decide_eq_true k38) (by kernel_rfl) ?_
        exact st_retv Try.func119 (show Value.bool (false) = _ by (exact b_eq (decide_eq_false (fun z => z.1.elim hP hN)).symm)) (by kernel_rfl)
      · refine st_b 38 (decide_eq_false k38) (by kernel_rfl) ?_
        refine st_b 44 (show (decide (c < -4294967295)) = false by exact decide_eq_false (by omega)) (by kernel_rfl) ?_
        refine st_i 14 .i64 (x' := 2 + 1) (Go.IntWalk.i64_in _ (by omega)) (by kernel_rfl) ?_
        refine st_forget [0, 1, 2, 3, 4, 5, 6, 7, 8, 47, 48, 49, 50, 51, 52, 53, 54, 55, 56, 57, 58, 59] (by kernel_rfl) ?_
        exact st_back back0 ((2 + 1, true, false)) (by first | omega | (simp only []; omega) | (simp; omega)) (by first | (simp only [reduceCtorEq, false_implies, true_implies, true_and, and_true, forall_const]; omega) | (exact b_eq (decide_eq_false (fun z => z.1.elim hP hN)).symm) | (exact absurd (show neg8 a b c d h mi s n by unfold neg8; omega) hN) | (exact absurd (show pos8 a b c d h mi s n by unfold pos8; omega) hP) | omega | (simp only []; omega) | (simp; omega) | assumption | simp_all) (fun p hp => by first | exact hp | simp_all) (by kernel_rfl) (by kernel_rfl) (by kernel_rfl)
    · refine st_b 21 (decide_eq_false k21) (by kernel_rfl) ?_
      by_cases k29 : c < 0
      · refine st_b 29 (decide_eq_true k29) (by kernel_rfl) ?_
        refine st_b 38 (show (decide (c > 4294967295)) = false by exact decide_eq_false (by omega)) (by kernel_rfl) ?_
        by_cases k44 : c < -4294967295
        · refine st_b 44 (decide_eq_true k44) (by kernel_rfl) ?_
          exact st_retv Try.func119 (show Value.bool (false) = _ by (exact b_eq (decide_eq_false (fun z => z.1.elim hP hN)).symm)) (by kernel_rfl)
        · refine st_b 44 (decide_eq_false k44) (by kernel_rfl) ?_
          refine st_i 14 .i64 (x' := 2 + 1) (Go.IntWalk.i64_in _ (by omega)) (by kernel_rfl) ?_
          refine st_forget [0, 1, 2, 3, 4, 5, 6, 7, 8, 47, 48, 49, 50, 51, 52, 53, 54, 55, 56, 57, 58, 59] (by kernel_rfl) ?_
          exact st_back back0 ((2 + 1, false, true)) (by first | omega | (simp only []; omega) | (simp; omega)) (by first | (simp only [reduceCtorEq, false_implies, true_implies, true_and, and_true, forall_const]; omega) | (exact b_eq (decide_eq_false (fun z => z.1.elim hP hN)).symm) | (exact absurd (show neg8 a b c d h mi s n by unfold neg8; omega) hN) | (exact absurd (show pos8 a b c d h mi s n by unfold pos8; omega) hP) | omega | (simp only []; omega) | (simp; omega) | assumption | simp_all) (fun p hp => by first | exact hp | simp_all) (by kernel_rfl) (by kernel_rfl) (by kernel_rfl)
      · refine st_b 29 (decide_eq_false k29) (by kernel_rfl) ?_
        refine st_b 38 (show (decide (c > 4294967295)) = false by exact decide_eq_false (by omega)) (by kernel_rfl) ?_
        refine st_b 44 (show (decide (c < -4294967295)) = false by exact decide_eq_false (by omega)) (by kernel_rfl) ?_
        refine st_i 14 .i64 (x' := 2 + 1) (Go.IntWalk.i64_in _ (by omega)) (by kernel_rfl) ?_
        refine st_forget [0, 1, 2, 3, 4, 5, 6, 7, 8, 47, 48, 49, 50, 51, 52, 53, 54, 55, 56, 57, 58, 59] (by kernel_rfl) ?_
        exact st_back back0 ((2 + 1, false, false)) (by first | omega | (simp only []; omega) | (simp; omega)) (by first | (simp only [reduceCtorEq, false_implies, true_implies, true_and, and_true, forall_const]; omega) | (exact b_eq (decide_eq_false (fun z => z.1.elim hP hN)).symm) | (exact absurd (show neg8 a b c d h mi s n by unfold neg8; omega) hN) | (exact absurd (show pos8 a b c d h mi s n by unfold pos8; omega) hP) | omega | (simp only []; omega) | (simp; omega) | assumption | simp_all) (fun p hp => by first | exact hp | simp_all) (by kernel_rfl) (by kernel_rfl) (by kernel_rfl)
  · have _hh := True.intro
    by_cases k21 : c > 0
    · refine st_b 21 (decide_eq_true k21) (by kernel_rfl) ?_
      by_cases k38 : c > 4294967295
      · refine st_b 38 (decide_eq_true k38) (by kernel_rfl) ?_
        exact st_retv Try.func119 (show Value.bool (false) = _ by (exact b_eq (decide_eq_false (fun z => z.1.elim hP hN)).symm)) (by kernel_rfl)
      · refine st_b 38 (decide_eq_false k38) (by kernel_rfl) ?_
        refine st_b 44 (show (decide (c < -4294967295)) = false by exact decide_eq_false (by omega)) (by kernel_rfl) ?_
        refine st_i 14 .i64 (x' := 2 + 1) (Go.IntWalk.i64_in _ (by omega)) (by kernel_rfl) ?_
        refine st_forget [0, 1, 2, 3, 4, 5, 6, 7, 8, 47, 48, 49, 50, 51, 52, 53, 54, 55, 56, 57, 58, 59] (by kernel_rfl) ?_
        exact st_back back0 ((2 + 1, true, true)) (by first | omega | (simp only []; omega) | (simp; omega)) (by first | (simp only [reduceCtorEq, false_implies, true_implies, true_and, and_true, forall_const]; omega) | (exact b_eq (decide_eq_false (fun z => z.1.elim hP hN)).symm) | (exact absurd (show neg8 a b c d h mi s n by unfold neg8; omega) hN) | (exact absurd (show pos8 a b c d h mi s n by unfold pos8; omega) hP) | omega | (simp only []; omega) | (simp; omega) | assumption | simp_all) (fun p hp => by first | exact hp | simp_all) (by kernel_rfl) (by kernel_rfl) (by kernel_rfl)
    · refine st_b 21 (decide_eq_false k21) (by kernel_rfl) ?_
      refine st_b 38 (show (decide (c > 4294967295)) = false by exact decide_eq_false (by omega)) (by kernel_rfl) ?_
      by_cases k44 : c < -4294967295
      · refine st_b 44 (decide_eq_true k44) (by kernel_rfl) ?_
        exact st_retv Try.func119 (show Value.bool (false) = _ by (exact b_eq (decide_eq_false (fun z => z.1.elim hP hN)).symm)) (by kernel_rfl)
      · refine st_b 44 (decide_eq_false k44) (by kernel_rfl) ?_
        refine st_i 14 .i64 (x' := 2 + 1) (Go.IntWalk.i64_in _ (by omega)) (by kernel_rfl) ?_
        refine st_forget [0, 1, 2, 3, 4, 5, 6, 7, 8, 47, 48, 49, 50, 51, 52, 53, 54, 55, 56, 57, 58, 59] (by kernel_rfl) ?_
        exact st_back back0 ((2 + 1, false, true)) (by first | omega | (simp only []; omega) | (simp; omega)) (by first | (simp only [reduceCtorEq, false_implies, true_implies, true_and, and_true, forall_const]; omega) | (exact b_eq (decide_eq_false (fun z => z.1.elim hP hN)).symm) | (exact absurd (show neg8 a b c d h mi s n by unfold neg8; omega) hN) | (exact absurd (show pos8 a b c d h mi s n by unfold pos8; omega) hP) | omega | (simp only []; omega) | (simp; omega) | assumption | simp_all) (fun p hp => by first | exact hp | simp_all) (by kernel_rfl) (by kernel_rfl) (by kernel_rfl)
  · have _hh := True.intro
    by_cases k29 : c < 0
    · refine st_b 29 (decide_eq_true k29) (by kernel_rfl) ?_
      refine st_b 38 (show (decide (c > 4294967295)) = false by exact decide_eq_false (by omega)) (by kernel_rfl) ?_
      by_cases k44 : c < -4294967295
      · refine st_b 44 (decide_eq_true k44) (by kernel_rfl) ?_
        exact st_retv Try.func119 (show Value.bool (false) = _ by (exact b_eq (decide_eq_false (fun z => z.1.elim hP hN)).symm)) (by kernel_rfl)
      · refine st_b 44 (decide_eq_false k44) (by kernel_rfl) ?_
        refine st_i 14 .i64 (x' := 2 + 1) (Go.IntWalk.i64_in _ (by omega)) (by kernel_rfl) ?_
        refine st_forget [0, 1, 2, 3, 4, 5, 6, 7, 8, 47, 48, 49, 50, 51, 52, 53, 54, 55, 56, 57, 58, 59] (by kernel_rfl) ?_
        exact st_back back0 ((2 + 1, true, true)) (by first | omega | (simp only []; omega) | (simp; omega)) (by first | (simp only [reduceCtorEq, false_implies, true_implies, true_and, and_true, forall_const]; omega) | (exact b_eq (decide_eq_false (fun z => z.1.elim hP hN)).symm) | (exact absurd (show neg8 a b c d h mi s n by unfold neg8; omega) hN) | (exact absurd (show pos8 a b c d h mi s n by unfold pos8; omega) hP) | omega | (simp only []; omega) | (simp; omega) | assumption | simp_all) (fun p hp => by first | exact hp | simp_all) (by kernel_rfl) (by kernel_rfl) (by kernel_rfl)
    · refine st_b 29 (decide_eq_false k29) (by kernel_rfl) ?_
      by_cases k38 : c > 4294967295
      · refine st_b 38 (decide_eq_true k38) (by kernel_rfl) ?_
        exact st_retv Try.func119 (show Value.bool (false) = _ by (exact b_eq (decide_eq_false (fun z => z.1.elim hP hN)).symm)) (by kernel_rfl)
      · refine st_b 38 (decide_eq_false k38) (by kernel_rfl) ?_
        refine st_b 44 (show (decide (c < -4294967295)) = false by exact decide_eq_false (by omega)) (by kernel_rfl) ?_
        refine st_i 14 .i64 (x' := 2 + 1) (Go.IntWalk.i64_in _ (by omega)) (by kernel_rfl) ?_
        refine st_forget [0, 1, 2, 3, 4, 5, 6, 7, 8, 47, 48, 49, 50, 51, 52, 53, 54, 55, 56, 57, 58, 59] (by kernel_rfl) ?_
        exact st_back back0 ((2 + 1, true, false)) (by first | omega | (simp only []; omega) | (simp; omega)) (by first | (simp only [reduceCtorEq, false_implies, true_implies, true_and, and_true, forall_const]; omega) | (exact b_eq (decide_eq_false (fun z => z.1.elim hP hN)).symm) | (exact absurd (show neg8 a b c d h mi s n by unfold neg8; omega) hN) | (exact absurd (show pos8 a b c d h mi s n by unfold pos8; omega) hP) | omega | (simp only []; omega) | (simp; omega) | assumption | simp_all) (fun p hp => by first | exact hp | simp_all) (by kernel_rfl) (by kernel_rfl) (by kernel_rfl)
  · have _hh := True.intro
    by_cases k38 : c > 4294967295
    · refine st_b 38 (decide_eq_true k38) (by kernel_rfl) ?_
      exact st_retv Try.func119 (show Value.bool (false) = _ by (exact b_eq (decide_eq_false (fun z => z.1.elim hP hN)).symm)) (by kernel_rfl)
    · refine st_b 38 (decide_eq_false k38) (by kernel_rfl) ?_
      by_cases k44 : c < -4294967295
      · refine st_b 44 (decide_eq_true k44) (by kernel_rfl) ?_
        exact st_retv Try.func119 (show Value.bool (false) = _ by (exact b_eq (decide_eq_false (fun z => z.1.elim hP hN)).symm)) (by kernel_rfl)
      · refine st_b 44 (decide_eq_false k44) (by kernel_rfl) ?_
        refine st_i 14 .i64 (x' := 2 + 1) (Go.IntWalk.i64_in _ (by omega)) (by kernel_rfl) ?_
        refine st_forget [0, 1, 2, 3, 4, 5, 6, 7, 8, 47, 48, 49, 50, 51, 52, 53, 54, 55, 56, 57, 58, 59] (by kernel_rfl) ?_
        exact st_back back0 ((2 + 1, true, true)) (by first | omega | (simp only []; omega) | (simp; omega)) (by first | (simp only [reduceCtorEq, false_implies, true_implies, true_and, and_true, forall_const]; omega) | (exact b_eq (decide_eq_false (fun z => z.1.elim hP hN)).symm) | (exact absurd (show neg8 a b c d h mi s n by unfold neg8; omega) hN) | (exact absurd (show pos8 a b c d h mi s n by unfold pos8; omega) hP) | omega | (simp only []; omega) | (simp; omega) | assumption | simp_all) (fun p hp => by first | exact hp | simp_all) (by kernel_rfl) (by kernel_rfl) (by kernel_rfl)
  · have _hh := True.intro
    by_cases k21 : d > 0
    · refine st_b 21 (decide_eq_true k21) (by kernel_rfl) ?_
      refine st_b 29 (show (decide (d < 0)) = false by exact decide_eq_false (by omega)) (by kernel_rfl) ?_
      refine st_i 14 .i64 (x' := 3 + 1) (Go.IntWalk.i64_in _ (by omega)) (by kernel_rfl) ?_
      refine st_forget [0, 1, 2, 3, 4, 5, 6, 7, 8, 47, 48, 49, 50, 51, 52, 53, 54, 55, 56, 57, 58, 59] (by kernel_rfl) ?_
      exact st_back back0 ((3 + 1, true, false)) (by first | omega | (simp only []; omega) | (simp; omega)) (by first | (simp only [reduceCtorEq, false_implies, true_implies, true_and, and_true, forall_const]; omega) | (exact b_eq (decide_eq_false (fun z => z.1.elim hP hN)).symm) | (exact absurd (show neg8 a b c d h mi s n by unfold neg8; omega) hN) | (exact absurd (show pos8 a b c d h mi s n by unfold pos8; omega) hP) | omega | (simp only []; omega) | (simp; omega) | assumption | simp_all) (fun p hp => by first | exact hp | simp_all) (by kernel_rfl) (by kernel_rfl) (by kernel_rfl)
    · refine st_b 21 (decide_eq_false k21) (by kernel_rfl) ?_
      by_cases k29 : d < 0
      · refine st_b 29 (decide_eq_true k29) (by kernel_rfl) ?_
        refine st_i 14 .i64 (x' := 3 + 1) (Go.IntWalk.i64_in _ (by omega)) (by kernel_rfl) ?_
        refine st_forget [0, 1, 2, 3, 4, 5, 6, 7, 8, 47, 48, 49, 50, 51, 52, 53, 54, 55, 56, 57, 58, 59] (by kernel_rfl) ?_
        exact st_back back0 ((3 + 1, false, true)) (by first | omega | (simp only []; omega) | (simp; omega)) (by first | (simp only [reduceCtorEq, false_implies, true_implies, true_and, and_true, forall_const]; omega) | (exact b_eq (decide_eq_false (fun z => z.1.elim hP hN)).symm) | (exact absurd (show neg8 a b c d h mi s n by unfold neg8; omega) hN) | (exact absurd (show pos8 a b c d h mi s n by unfold pos8; omega) hP) | omega | (simp only []; omega) | (simp; omega) | assumption | simp_all) (fun p hp => by first | exact hp | simp_all) (by kernel_rfl) (by kernel_rfl) (by kernel_rfl)
      · refine st_b 29 (decide_eq_false k29) (by kernel_rfl) ?_
        refine st_i 14 .i64 (x' := 3 + 1) (Go.IntWalk.i64_in _ (by omega)) (by kernel_rfl) ?_
        refine st_forget [0, 1, 2, 3, 4, 5, 6, 7, 8, 47, 48, 49, 50, 51, 52, 53, 54, 55, 56, 57, 58, 59] (by kernel_rfl) ?_
        exact st_back back0 ((3 + 1, false, false)) (by first | omega | (simp only []; omega) | (simp; omega)) (by first | (simp only [reduceCtorEq, false_implies, true_implies, true_and, and_true, forall_const]; omega) | (exact b_eq (decide_eq_false (fun z => z.1.elim hP hN)).symm) | (exact absurd (show neg8 a b c d h mi s n by unfold neg8; omega) hN) | (exact absurd (show pos8 a b c d h mi s n by unfold pos8; omega) hP) | omega | (simp only []; omega) | (simp; omega) | assumption | simp_all) (fun p hp => by first | exact hp | simp_all) (by kernel_rfl) (by kernel_rfl) (by kernel_rfl)
  · have _hh := True.intro
    by_cases k21 : d > 0
    · refine st_b 21 (decide_eq_true k21) (by kernel_rfl) ?_
      refine st_i 14 .i64 (x' := 3 + 1) (Go.IntWalk.i64_in _ (by omega)) (by kernel_rfl) ?_
      refine st_forget [0, 1, 2, 3, 4, 5, 6, 7, 8, 47, 48, 49, 50, 51, 52, 53, 54, 55, 56, 57, 58, 59] (by kernel_rfl) ?_
      exact st_back back0 ((3 + 1, true, true)) (by first | omega | (simp only []; omega) | (simp; omega)) (by first | (simp only [reduceCtorEq, false_implies, true_implies, true_and, and_true, forall_const]; omega) | (exact b_eq (decide_eq_false (fun z => z.1.elim hP hN)).symm) | (exact absurd (show neg8 a b c d h mi s n by unfold neg8; omega) hN) | (exact absurd (show pos8 a b c d h mi s n by unfold pos8; omega) hP) | omega | (simp only []; omega) | (simp; omega) | assumption | simp_all) (fun p hp => by first | exact hp | simp_all) (by kernel_rfl) (by kernel_rfl) (by kernel_rfl)
    · refine st_b 21 (decide_eq_false k21) (by kernel_rfl) ?_
      refine st_i 14 .i64 (x' := 3 + 1) (Go.IntWalk.i64_in _ (by omega)) (by kernel_rfl) ?_
      refine st_forget [0, 1, 2, 3, 4, 5, 6, 7, 8, 47, 48, 49, 50, 51, 52, 53, 54, 55, 56, 57, 58, 59] (by kernel_rfl) ?_
      exact st_back back0 ((3 + 1, false, true)) (by first | omega | (simp only []; omega) | (simp; omega)) (by first | (simp only [reduceCtorEq, false_implies, true_implies, true_and, and_true, forall_const]; omega) | (exact b_eq (decide_eq_false (fun z => z.1.elim hP hN)).symm) | (exact absurd (show neg8 a b c d h mi s n by unfold neg8; omega) hN) | (exact absurd (show pos8 a b c d h mi s n by unfold pos8; omega) hP) | omega | (simp only []; omega) | (simp; omega) | assumption | simp_all) (fun p hp => by first | exact hp | simp_all) (by kernel_rfl) (by kernel_rfl) (by kernel_rfl)
  · have _hh := True.intro
    by_cases k29 : d < 0
    · refine st_b 29 (decide_eq_true k29) (by kernel_rfl) ?_
      refine st_i 14 .i64 (x' := 3 + 1) (Go.IntWalk.i64_in _ (by omega)) (by kernel_rfl) ?_
      refine st_forget [0, 1, 2, 3, 4, 5, 6, 7, 8, 47, 48, 49, 50, 51, 52, 53, 54, 55, 56, 57, 58, 59] (by kernel_rfl) ?_
      exact st_back back0 ((3 + 1, true, true)) (by first | omega | (simp only []; omega) | (simp; omega)) (by first | (simp only [reduceCtorEq, false_implies, true_implies, true_and, and_true, forall_const]; omega) | (exact b_eq (decide_eq_false (fun z => z.1.elim hP hN)).symm) | (exact absurd (show neg8 a b c d h mi s n by unfold neg8; omega) hN) | (exact absurd (show pos8 a b c d h mi s n by unfold pos8; omega) hP) | omega | (simp only []; omega) | (simp; omega) | assumption | simp_all) (fun p hp => by first | exact hp | simp_all) (by kernel_rfl) (by kernel_rfl) (by kernel_rfl)
    · refine st_b 29 (decide_eq_false k29) (by kernel_rfl) ?_
      refine st_i 14 .i64 (x' := 3 + 1) (Go.IntWalk.i64_in _ (by omega)) (by kernel_rfl) ?_
      refine st_forget [0, 1, 2, 3, 4, 5, 6, 7, 8, 47, 48, 49, 50, 51, 52, 53, 54, 55, 56, 57, 58, 59] (by kernel_rfl) ?_
      exact st_back back0 ((3 + 1, true, false)) (by first | omega | (simp only []; omega) | (simp; omega)) (by first | (simp only [reduceCtorEq, false_implies, true_implies, true_and, and_true, forall_const]; omega) | (exact b_eq (decide_eq_false (fun z => z.1.elim hP hN)).symm) | (exact absurd (show neg8 a b c d h mi s n by unfold neg8; omega) hN) | (exact absurd (show pos8 a b c d h mi s n by unfold pos8; omega) hP) | omega | (simp only []; omega) | (simp; omega) | assumption | simp_all) (fun p hp => by first | exact hp | simp_all) (by kernel_rfl) (by kernel_rfl) (by kernel_rfl)
  · have _hh := True.intro
    refine st_i 14 .i64 (x' := 3 + 1) (Go.IntWalk.i64_in _ (by omega)) (by kernel_rfl) ?_
    refine st_forget [0, 1, 2, 3, 4, 5, 6, 7, 8, 47, 48, 49, 50, 51, 52, 53, 54, 55, 56, 57, 58, 59] (by kernel_rfl) ?_
    exact st_back back0 ((3 + 1, true, true)) (by first | omega | (simp only []; omega) | (simp; omega)) (by first | (simp only [reduceCtorEq, false_implies, true_implies, true_and, and_true, forall_const]; omega) | (exact b_eq (decide_eq_false (fun z => z.1.elim hP hN)).symm) | (exact absurd (show neg8 a b c d h mi s n by unfold neg8; omega) hN) | (exact absurd (show pos8 a b c d h mi s n by unfold pos8; omega) hP) | omega | (simp only []; omega) | (simp; omega) | assumption | simp_all) (fun p hp => by first | exact hp | simp_all) (by kernel_rfl) (by kernel_rfl) (by kernel_rfl)
  · have _hh := True.intro
    by_cases k21 : h > 0
    · refine st_b 21 (decide_eq_true k21) (by kernel_rfl) ?_
      refine st_b 29 (show (decide (h < 0)) = false by exact decide_eq_false (by omega)) (by kernel_rfl) ?_
      refine st_i 14 .i64 (x' := 4 + 1) (Go.IntWalk.i64_in _ (by omega)) (by kernel_rfl) ?_
      refine st_forget [0, 1, 2, 3, 4, 5, 6, 7, 8, 47, 48, 49, 50, 51, 52, 53, 54, 55, 56, 57, 58, 59] (by kernel_rfl) ?_
      exact st_back back0 ((4 + 1, true, false)) (by first | omega | (simp only []; omega) | (simp; omega)) (by first | (simp only [reduceCtorEq, false_implies, true_implies, true_and, and_true, forall_const]; omega) | (exact b_eq (decide_eq_false (fun z => z.1.elim hP hN)).symm) | (exact absurd (show neg8 a b c d h mi s n by unfold neg8; omega) hN) | (exact absurd (show pos8 a b c d h mi s n by unfold pos8; omega) hP) | omega | (simp only []; omega) | (simp; omega) | assumption | simp_all) (fun p hp => by first | exact hp | simp_all) (by kernel_rfl) (by kernel_rfl) (by kernel_rfl)
    · refine st_b 21 (decide_eq_false k21) (by kernel_rfl) ?_
      by_cases k29 : h < 0
      · refine st_b 29 (decide_eq_true k29) (by kernel_rfl) ?_
        refine st_i 14 .i64 (x' := 4 + 1) (Go.IntWalk.i64_in _ (by omega)) (by kernel_rfl) ?_
        refine st_forget [0, 1, 2, 3, 4, 5, 6, 7, 8, 47, 48, 49, 50, 51, 52, 53, 54, 55, 56, 57, 58, 59] (by kernel_rfl) ?_
        exact st_back back0 ((4 + 1, false, true)) (by first | omega | (simp only []; omega) | (simp; omega)) (by first | (simp only [reduceCtorEq, false_implies, true_implies, true_and, and_true, forall_const]; omega) | (exact b_eq (decide_eq_false (fun z => z.1.elim hP hN)).symm) | (exact absurd (show neg8 a b c d h mi s n by unfold neg8; omega) hN) | (exact absurd (show pos8 a b c d h mi s n by unfold pos8; omega) hP) | omega | (simp only []; omega) | (simp; omega) | assumption | simp_all) (fun p hp => by first | exact hp | simp_all) (by kernel_rfl) (by kernel_rfl) (by kernel_rfl)
      · refine st_b 29 (decide_eq_false k29) (by kernel_rfl) ?_
        refine st_i 14 .i64 (x' := 4 + 1) (Go.IntWalk.i64_in _ (by omega)) (by kernel_rfl) ?_
        refine st_forget [0, 1, 2, 3, 4, 5, 6, 7, 8, 47, 48, 49, 50, 51, 52, 53, 54, 55, 56, 57, 58, 59] (by kernel_rfl) ?_
        exact st_back back0 ((4 + 1, false, false)) (by first | omega | (simp only []; omega) | (simp; omega)) (by first | (simp only [reduceCtorEq, false_implies, true_implies, true_and, and_true, forall_const]; omega) | (exact b_eq (decide_eq_false (fun z => z.1.elim hP hN)).symm) | (exact absurd (show neg8 a b c d h mi s n by unfold neg8; omega) hN) | (exact absurd (show pos8 a b c d h mi s n by unfold pos8; omega) hP) | omega | (simp only []; omega) | (simp; omega) | assumption | simp_all) (fun p hp => by first | exact hp | simp_all) (by kernel_rfl) (by kernel_rfl) (by kernel_rfl)
  · have _hh := True.intro
    by_cases k21 : h > 0
    · refine st_b 21 (decide_eq_true k21) (by kernel_rfl) ?_
      refine st_i 14 .i64 (x' := 4 + 1) (Go.IntWalk.i64_in _ (by omega)) (by kernel_rfl) ?_
      refine st_forget [0, 1, 2, 3, 4, 5, 6, 7, 8, 47, 48, 49, 50, 51, 52, 53, 54, 55, 56, 57, 58, 59] (by kernel_rfl) ?_
      exact st_back back0 ((4 + 1, true, true)) (by first | omega | (simp only []; omega) | (simp; omega)) (by first | (simp only [reduceCtorEq, false_implies, true_implies, true_and, and_true, forall_const]; omega) | (exact b_eq (decide_eq_false (fun z => z.1.elim hP hN)).symm) | (exact absurd (show neg8 a b c d h mi s n by unfold neg8; omega) hN) | (exact absurd (show pos8 a b c d h mi s n by unfold pos8; omega) hP) | omega | (simp only []; omega) | (simp; omega) | assumption | simp_all) (fun p hp => by first | exact hp | simp_all) (by kernel_rfl) (by kernel_rfl) (by kernel_rfl)
    · refine st_b 21 (decide_eq_false k21) (by kernel_rfl) ?_
      refine st_i 14 .i64 (x' := 4 + 1) (Go.IntWalk.i64_in _ (by omega)) (by kernel_rfl) ?_
      refine st_forget [0, 1, 2, 3, 4, 5, 6, 7, 8, 47, 48, 49, 50, 51, 52, 53, 54, 55, 56, 57, 58, 59] (by kernel_rfl) ?_
      exact st_back back0 ((4 + 1, false, true)) (by first | omega | (simp only []; omega) | (simp; omega)) (by first | (simp only [reduceCtorEq, false_implies, true_implies, true_and, and_true, forall_const]; omega) | (exact b_eq (decide_eq_false (fun z => z.1.elim hP hN)).symm) | (exact absurd (show neg8 a b c d h mi s n by unfold neg8; omega) hN) | (exact absurd (show pos8 a b c d h mi s n by unfold pos8; omega) hP) | omega | (simp only []; omega) | (simp; omega) | assumption | simp_all) (fun p hp => by first | exact hp | simp_all) (by kernel_rfl) (by kernel_rfl) (by kernel_rfl)
  · have _hh := True.intro
    by_cases k29 : h < 0
    · refine st_b 29 (decide_eq_true k29) (by kernel_rfl) ?_
      refine st_i 14 .i64 (x' := 4 + 1) (Go.IntWalk.i64_in _ (by omega)) (by kernel_rfl) ?_
      refine st_forget [0, 1, 2, 3, 4, 5, 6, 7, 8, 47, 48, 49, 50, 51, 52, 53, 54, 55, 56, 57, 58, 59] (by kernel_rfl) ?_
      exact st_back back0 ((4 + 1, true, true)) (by first | omega | (simp only []; omega) | (simp; omega)) (by first | (simp only [reduceCtorEq, false_implies, true_implies, true_and, and_true, forall_const]; omega) | (exact b_eq (decide_eq_false (fun z => z.1.elim hP hN)).symm) | (exact absurd (show neg8 a b c d h mi s n by unfold neg8; omega) hN) | (exact absurd (show pos8 a b c d h mi s n by unfold pos8; omega) hP) | omega | (simp only []; omega) | (simp; omega) | assumption | simp_all) (fun p hp => by first | exact hp | simp_all) (by kernel_rfl) (by kernel_rfl) (by kernel_rfl)
    · refine st_b 29 (decide_eq_false k29) (by kernel_rfl) ?_
      refine st_i 14 .i64 (x' := 4 + 1) (Go.IntWalk.i64_in _ (by omega)) (by kernel_rfl) ?_
      refine st_forget [0, 1, 2, 3, 4, 5, 6, 7, 8, 47, 48, 49, 50, 51, 52, 53, 54, 55, 56, 57, 58, 59] (by kernel_rfl) ?_
      exact st_back back0 ((4 + 1, true, false)) (by first | omega | (simp only []; omega) | (simp; omega)) (by first | (simp only [reduceCtorEq, false_implies, true_implies, true_and, and_true, forall_const]; omega) | (exact b_eq (decide_eq_false (fun z => z.1.elim hP hN)).symm) | (exact absurd (show neg8 a b c d h mi s n by unfold neg8; omega) hN) | (exact absurd (show pos8 a b c d h mi s n by unfold pos8; omega) hP) | omega | (simp only []; omega) | (simp; omega) | assumption | simp_all) (fun p hp => by first | exact hp | simp_all) (by kernel_rfl) (by kernel_rfl) (by kernel_rfl)
  · have _hh := True.intro
    refine st_i 14 .i64 (x' := 4 + 1) (Go.IntWalk.i64_in _ (by omega)) (by kernel_rfl) ?_
    refine st_forget [0, 1, 2, 3, 4, 5, 6, 7, 8, 47, 48, 49, 50, 51, 52, 53, 54, 55, 56, 57, 58, 59] (by kernel_rfl) ?_
    exact st_back back0 ((4 + 1, true, true)) (by first | omega | (simp only []; omega) | (simp; omega)) (by first | (simp only [reduceCtorEq, false_implies, true_implies, true_and, and_true, forall_const]; omega) | (exact b_eq (decide_eq_false (fun z => z.1.elim hP hN)).symm) | (exact absurd (show neg8 a b c d h mi s n by unfold neg8; omega) hN) | (exact absurd (show pos8 a b c d h mi s n by unfold pos8; omega) hP) | omega | (simp only []; omega) | (simp; omega) | assumption | simp_all) (fun p hp => by first | exact hp | simp_all) (by kernel_rfl) (by kernel_rfl) (by kernel_rfl)
  · have _hh := True.intro
    by_cases k21 : mi > 0
    · refine st_b 21 (decide_eq_true k21) (by kernel_rfl) ?_
      refine st_b 29 (show (decide (mi < 0)) = false by exact decide_eq_false (by omega)) (by kernel_rfl) ?_
      refine st_i 14 .i64 (x' := 5 + 1) (Go.IntWalk.i64_in _ (by omega)) (by kernel_rfl) ?_
      refine st_forget [0, 1, 2, 3, 4, 5, 6, 7, 8, 47, 48, 49, 50, 51, 52, 53, 54, 55, 56, 57, 58, 59] (by kernel_rfl) ?_
      exact st_back back0 ((5 + 1, true, false)) (by first | omega | (simp only []; omega) | (simp; omega)) (by first | (simp only [reduceCtorEq, false_implies, true_implies, true_and, and_true, forall_const]; omega) | (exact b_eq (decide_eq_false (fun z => z.1.elim hP hN)).symm) | (exact absurd (show neg8 a b c d h mi s n by unfold neg8; omega) hN) | (exact absurd (show pos8 a b c d h mi s n by unfold pos8; omega) hP) | omega | (simp only []; omega) | (simp; omega) | assumption | simp_all) (fun p hp => by first | exact hp | simp_all) (by kernel_rfl) (by kernel_rfl) (by kernel_rfl)
    · refine st_b 21 (decide_eq_false k21) (by kernel_rfl) ?_
      by_cases k29 : mi < 0
      · refine st_b 29 (decide_eq_true k29) (by kernel_rfl) ?_
        refine st_i 14 .i64 (x' := 5 + 1) (Go.IntWalk.i64_in _ (by omega)) (by kernel_rfl) ?_
        refine st_forget [0, 1, 2, 3, 4, 5, 6, 7, 8, 47, 48, 49, 50, 51, 52, 53, 54, 55, 56, 57, 58, 59] (by kernel_rfl) ?_
        exact st_back back0 ((5 + 1, false, true)) (by first | omega | (simp only []; omega) | (simp; omega)) (by first | (simp only [reduceCtorEq, false_implies, true_implies, true_and, and_true, forall_const]; omega) | (exact b_eq (decide_eq_false (fun z => z.1.elim hP hN)).symm) | (exact absurd (show neg8 a b c d h mi s n by unfold neg8; omega) hN) | (exact absurd (show pos8 a b c d h mi s n by unfold pos8; omega) hP) | omega | (simp only []; omega) | (simp; omega) | assumption | simp_all) (fun p hp => by first | exact hp | simp_all) (by kernel_rfl) (by kernel_rfl) (by kernel_rfl)
      · refine st_b 29 (decide_eq_false k29) (by kernel_rfl) ?_
        refine st_i 14 .i64 (x' := 5 + 1) (Go.IntWalk.i64_in _ (by omega)) (by kernel_rfl) ?_
        refine st_forget [0, 1, 2, 3, 4, 5, 6, 7, 8, 47, 48, 49, 50, 51, 52, 53, 54, 55, 56, 57, 58, 59] (by kernel_rfl) ?_
        exact st_back back0 ((5 + 1, false, false)) (by first | omega | (simp only []; omega) | (simp; omega)) (by first | (simp only [reduceCtorEq, false_implies, true_implies, true_and, and_true, forall_const]; omega) | (exact b_eq (decide_eq_false (fun z => z.1.elim hP hN)).symm) | (exact absurd (show neg8 a b c d h mi s n by unfold neg8; omega) hN) | (exact absurd (show pos8 a b c d h mi s n by unfold pos8; omega) hP) | omega | (simp only []; omega) | (simp; omega) | assumption | simp_all) (fun p hp => by first | exact hp | simp_all) (by kernel_rfl) (by kernel_rfl) (by kernel_rfl)
  · have _hh := True.intro
    by_cases k21 : mi > 0
    · refine st_b 21 (decide_eq_true k21) (by kernel_rfl) ?_
      refine st_i 14 .i64 (x' := 5 + 1) (Go.IntWalk.i64_in _ (by omega)) (by kernel_rfl) ?_
      refine st_forget [0, 1, 2, 3, 4, 5, 6, 7, 8, 47, 48, 49, 50, 51, 52, 53, 54, 55, 56, 57, 58, 59] (by kernel_rfl) ?_
      exact st_back back0 ((5 + 1, true, true)) (by first | omega | (simp only []; omega) | (simp; omega)) (by first | (simp only [reduceCtorEq, false_implies, true_implies, true_and, and_true, forall_const]; omega) | (exact b_eq (decide_eq_false (fun z => z.1.elim hP hN)).symm) | (exact absurd (show neg8 a b c d h mi s n by unfold neg8; omega) hN) | (exact absurd (show pos8 a b c d h mi s n by unfold pos8; omega) hP) | omega | (simp only []; omega) | (simp; omega) | assumption | simp_all) (fun p hp => by first | exact hp | simp_all) (by kernel_rfl) (by kernel_rfl) (by kernel_rfl)
    · refine st_b 21 (decide_eq_false k21) (by kernel_rfl) ?_
      refine st_i 14 .i64 (x' := 5 + 1) (Go.IntWalk.i64_in _ (by omega)) (by kernel_rfl) ?_
      refine st_forget [0, 1, 2, 3, 4, 5, 6, 7, 8, 47, 48, 49, 50, 51, 52, 53, 54, 55, 56, 57, 58, 59] (by kernel_rfl) ?_
      exact st_back back0 ((5 + 1, false, true)) (by first | omega | (simp only []; omega) | (simp; omega)) (by first | (simp only [reduceCtorEq, false_implies, true_implies, true_and, and_true, forall_const]; omega) | (exact b_eq (decide_eq_false (fun z => z.1.elim hP hN)).symm) | (exact absurd (show neg8 a b c d h mi s n by unfold neg8; omega) hN) | (exact absurd (show pos8 a b c d h mi s n by unfold pos8; omega) hP) | omega | (simp only []; omega) | (simp; omega) | assumption | simp_all) (fun p hp => by first | exact hp | simp_all) (by kernel_rfl) (by kernel_rfl) (by kernel_rfl)
  · have _hh := True.intro
    by_cases k29 : mi < 0
    · refine st_b 29 (decide_eq_true k29) (by kernel_rfl) ?_
      refine st_i 14 .i64 (x' := 5 + 1) (Go.IntWalk.i64_in _ (by omega)) (by kernel_rfl) ?_
      refine st_forget [0, 1, 2, 3, 4, 5, 6, 7, 8, 47, 48, 49, 50, 51, 52, 53, 54, 55, 56, 57, 58, 59] (by kernel_rfl) ?_
      exact st_back back0 ((5 + 1, true, true)) (by first | omega | (simp only []; omega) | (simp; omega)) (by first | (simp only [reduceCtorEq, false_implies, true_implies, true_and, and_true, forall_const]; omega) | (exact b_eq (decide_eq_false (fun z => z.1.elim hP hN)).symm) | (exact absurd (show neg8 a b c d h mi s n by unfold neg8; omega) hN) | (exact absurd (show pos8 a b c d h mi s n by unfold pos8; omega) hP) | omega | (simp only []; omega) | (simp; omega) | assumption | simp_all) (fun p hp => by first | exact hp | simp_all) (by kernel_rfl) (by kernel_rfl) (by kernel_rfl)
    · refine st_b 29 (decide_eq_false k29) (by kernel_rfl) ?_
      refine st_i 14 .i64 (x' := 5 + 1) (Go.IntWalk.i64_in _ (by omega)) (by kernel_rfl) ?_
      refine st_forget [0, 1, 2, 3, 4, 5, 6, 7, 8, 47, 48, 49, 50, 51, 52, 53, 54, 55, 56, 57, 58, 59] (by kernel_rfl) ?_
      exact st_back back0 ((5 + 1, true, false)) (by first | omega | (simp only []; omega) | (simp; omega)) (by first | (simp only [reduceCtorEq, false_implies, true_implies, true_and, and_true, forall_const]; omega) | (exact b_eq (decide_eq_false (fun z => z.1.elim hP hN)).symm) | (exact absurd (show neg8 a b c d h mi s n by unfold neg8; omega) hN) | (exact absurd (show pos8 a b c d h mi s n by unfold pos8; omega) hP) | omega | (simp only []; omega) | (simp; omega) | assumption | simp_all) (fun p hp => by first | exact hp | simp_all) (by kernel_rfl) (by kernel_rfl) (by kernel_rfl)
  · have _hh := True.intro
    refine st_i 14 .i64 (x' := 5 + 1) (Go.IntWalk.i64_in _ (by omega)) (by kernel_rfl) ?_
    refine st_forget [0, 1, 2, 3, 4, 5, 6, 7, 8, 47, 48, 49, 50, 51, 52, 53, 54, 55, 56, 57, 58, 59] (by kernel_rfl) ?_
    exact st_back back0 ((5 + 1, true, true)) (by first | omega | (simp only []; omega) | (simp; omega)) (by first | (simp only [reduceCtorEq, false_implies, true_implies, true_and, and_true, forall_const]; omega) | (exact b_eq (decide_eq_false (fun z => z.1.elim hP hN)).symm) | (exact absurd (show neg8 a b c d h mi s n by unfold neg8; omega) hN) | (exact absurd (show pos8 a b c d h mi s n by unfold pos8; omega) hP) | omega | (simp only []; omega) | (simp; omega) | assumption | simp_all) (fun p hp => by first | exact hp | simp_all) (by kernel_rfl) (by kernel_rfl) (by kernel_rfl)
  · have _hh := True.intro
    by_cases k21 : s > 0
    · refine st_b 21 (decide_eq_true k21) (by kernel_rfl) ?_
      refine st_b 29 (show (decide (s < 0)) = false by exact decide_eq_false (by omega)) (by kernel_rfl) ?_
      refine st_i 14 .i64 (x' := 6 + 1) (Go.IntWalk.i64_in _ (by omega)) (by kernel_rfl) ?_
      refine st_forget [0, 1, 2, 3, 4, 5, 6, 7, 8, 47, 48, 49, 50, 51, 52, 53, 54, 55, 56, 57, 58, 59] (by kernel_rfl) ?_
      exact st_back back0 ((6 + 1, true, false)) (by first | omega | (simp only []; omega) | (simp; omega)) (by first | (simp only [reduceCtorEq, false_implies, true_implies, true_and, and_true, forall_const]; omega) | (exact b_eq (decide_eq_false (fun z => z.1.elim hP hN)).symm) | (exact absurd (show neg8 a b c d h mi s n by unfold neg8; omega) hN) | (exact absurd (show pos8 a b c d h mi s n by unfold pos8; omega) hP) | omega | (simp only []; omega) | (simp; omega) | assumption | simp_all) (fun p hp => by first | exact hp | simp_all) (by kernel_rfl) (by kernel_rfl) (by kernel_rfl)
    · refine st_b 21 (decide_eq_false k21) (by kernel_rfl) ?_
      by_cases k29 : s < 0
      · refine st_b 29 (decide_eq_true k29) (by kernel_rfl) ?_
        refine st_i 14 .i64 (x' := 6 + 1) (Go.IntWalk.i64_in _ (by omega)) (by kernel_rfl) ?_
        refine st_forget [0, 1, 2, 3, 4, 5, 6, 7, 8, 47, 48, 49, 50, 51, 52, 53, 54, 55, 56, 57, 58, 59] (by kernel_rfl) ?_
        exact st_back back0 ((6 + 1, false, true)) (by first | omega | (simp only []; omega) | (simp; omega)) (by first | (simp only [reduceCtorEq, false_implies, true_implies, true_and, and_true, forall_const]; omega) | (exact b_eq (decide_eq_false (fun z => z.1.elim hP hN)).symm) | (exact absurd (show neg8 a b c d h mi s n by unfold neg8; omega) hN) | (exact absurd (show pos8 a b c d h mi s n by unfold pos8; omega) hP) | omega | (simp only []; omega) | (simp; omega) | assumption | simp_all) (fun p hp => by first | exact hp | simp_all) (by kernel_rfl) (by kernel_rfl) (by kernel_rfl)
      · refine st_b 29 (decide_eq_false k29) (by kernel_rfl) ?_
        refine st_i 14 .i64 (x' := 6 + 1) (Go.IntWalk.i64_in _ (by omega)) (by kernel_rfl) ?_
        refine st_forget [0, 1, 2, 3, 4, 5, 6, 7, 8, 47, 48, 49, 50, 51, 52, 53, 54, 55, 56, 57, 58, 59] (by kernel_rfl) ?_
        exact st_back back0 ((6 + 1, false, false)) (by first | omega | (simp only []; omega) | (simp; omega)) (by first | (simp only [reduceCtorEq, false_implies, true_implies, true_and, and_true, forall_const]; omega) | (exact b_eq (decide_eq_false (fun z => z.1.elim hP hN)).symm) | (exact absurd (show neg8 a b c d h mi s n by unfold neg8; omega) hN) | (exact absurd (show pos8 a b c d h mi s n by unfold pos8; omega) hP) | omega | (simp only []; omega) | (simp; omega) | assumption | simp_all) (fun p hp => by first | exact hp | simp_all) (by kernel_rfl) (by kernel_rfl) (by kernel_rfl)
  · have _hh := True.intro
    by_cases k21 : s > 0
    · refine st_b 21 (decide_eq_true k21) (by kernel_rfl) ?_
      refine st_i 14 .i64 (x' := 6 + 1) (Go.IntWalk.i64_in _ (by omega)) (by kernel_rfl) ?_
      refine st_forget [0, 1, 2, 3, 4, 5, 6, 7, 8, 47, 48, 49, 50, 51, 52, 53, 54, 55, 56, 57, 58, 59] (by kernel_rfl) ?_
      exact st_back back0 ((6 + 1, true, true)) (by first | omega | (simp only []; omega) | (simp; omega)) (by first | (simp only [reduceCtorEq, false_implies, true_implies, true_and, and_true, forall_const]; omega) | (exact b_eq (decide_eq_false (fun z => z.1.elim hP hN)).symm) | (exact absurd (show neg8 a b c d h mi s n by unfold neg8; omega) hN) | (exact absurd (show pos8 a b c d h mi s n by unfold pos8; omega) hP) | omega | (simp only []; omega) | (simp; omega) | assumption | simp_all) (fun p hp => by first | exact hp | simp_all) (by kernel_rfl) (by kernel_rfl) (by kernel_rfl)
    · refine st_b 21 (decide_eq_false k21) (by kernel_rfl) ?_
      refine st_i 14 .i64 (x' := 6 + 1) (Go.IntWalk.i64_in _ (by omega)) (by kernel_rfl) ?_
      refine st_forget [0, 1, 2, 3, 4, 5, 6, 7, 8, 47, 48, 49, 50, 51, 52, 53, 54, 55, 56, 57, 58, 59] (by kernel_rfl) ?_
      exact st_back back0 ((6 + 1, false, true)) (by first | omega | (simp only []; omega) | (simp; omega)) (by first | (simp only [reduceCtorEq, false_implies, true_implies, true_and, and_true, forall_const]; omega) | (exact b_eq (decide_eq_false (fun z => z.1.elim hP hN)).symm) | (exact absurd (show neg8 a b c d h mi s n by unfold neg8; omega) hN) | (exact absurd (show pos8 a b c d h mi s n by unfold pos8; omega) hP) | omega | (simp only []; omega) | (simp; omega) | assumption | simp_all) (fun p hp => by first | exact hp | simp_all) (by kernel_rfl) (by kernel_rfl) (by kernel_rfl)
  · have _hh := True.intro
    by_cases k29 : s < 0
    · refine st_b 29 (decide_eq_true k29) (by kernel_rfl) ?_
      refine st_i 14 .i64 (x' := 6 + 1) (Go.IntWalk.i64_in _ (by omega)) (by kernel_rfl) ?_
      refine st_forget [0, 1, 2, 3, 4, 5, 6, 7, 8, 47, 48, 49, 50, 51, 52, 53, 54, 55, 56, 57, 58, 59] (by kernel_rfl) ?_
      exact st_back back0 ((6 + 1, true, true)) (by first | omega | (simp only []; omega) | (simp; omega)) (by first | (simp only [reduceCtorEq, false_implies, true_implies, true_and, and_true, forall_const]; omega) | (exact b_eq (decide_eq_false (fun z => z.1.elim hP hN)).symm) | (exact absurd (show neg8 a b c d h mi s n by unfold neg8; omega) hN) | (exact absurd (show pos8 a b c d h mi s n by unfold pos8; omega) hP) | omega | (simp only []; omega) | (simp; omega) | assumption | simp_all) (fun p hp => by first | exact hp | simp_all) (by kernel_rfl) (by kernel_rfl) (by kernel_rfl)
    · refine st_b 29 (decide_eq_false k29) (by kernel_rfl) ?_
      refine st_i 14 .i64 (x' := 6 + 1) (Go.IntWalk.i64_in _ (by omega)) (by kernel_rfl) ?_
      refine st_forget [0, 1, 2, 3, 4, 5, 6, 7, 8, 47, 48, 49, 50, 51, 52, 53, 54, 55, 56, 57, 58, 59] (by kernel_rfl) ?_
      exact st_back back0 ((6 + 1, true, false)) (by first | omega | (simp only []; omega) | (simp; omega)) (by first | (simp only [reduceCtorEq, false_implies, true_implies, true_and, and_true, forall_const]; omega) | (exact b_eq (decide_eq_false (fun z => z.1.elim hP hN)).symm) | (exact absurd (show neg8 a b c d h mi s n by unfold neg8; omega) hN) | (exact absurd (show pos8 a b c d h mi s n by unfold pos8; omega) hP) | omega | (simp only []; omega) | (simp; omega) | assumption | simp_all) (fun p hp => by first | exact hp | simp_all) (by kernel_rfl) (by kernel_rfl) (by kernel_rfl)
  · have _hh := True.intro
    refine st_i 14 .i64 (x' := 6 + 1) (Go.IntWalk.i64_in _ (by omega)) (by kernel_rfl) ?_
    refine st_forget [0, 1, 2, 3, 4, 5, 6, 7, 8, 47, 48, 49, 50, 51, 52, 53, 54, 55, 56, 57, 58, 59] (by kernel_rfl) ?_
    exact st_back back0 ((6 + 1, true, true)) (by first | omega | (simp only []; omega) | (simp; omega)) (by first | (simp only [reduceCtorEq, false_implies, true_implies, true_and, and_true, forall_const]; omega) | (exact b_eq (decide_eq_false (fun z => z.1.elim hP hN)).symm) | (exact absurd (show neg8 a b c d h mi s n by unfold neg8; omega) hN) | (exact absurd (show pos8 a b c d h mi s n by unfold pos8; omega) hP) | omega | (simp only []; omega) | (simp; omega) | assumption | simp_all) (fun p hp => by first | exact hp | simp_all) (by kernel_rfl) (by kernel_rfl) (by kernel_rfl)
  · have _hh := True.intro
    by_cases k21 : n > 0
    · refine st_b 21 (decide_eq_true k21) (by kernel_rfl) ?_
      refine st_b 29 (show (decide (n < 0)) = false by exact decide_eq_false (by omega)) (by kernel_rfl) ?_
      refine st_i 14 .i64 (x' := 7 + 1) (Go.IntWalk.i64_in _ (by omega)) (by kernel_rfl) ?_
      refine st_forget [0, 1, 2, 3, 4, 5, 6, 7, 8, 47, 48, 49, 50, 51, 52, 53, 54, 55, 56, 57, 58, 59] (by kernel_rfl) ?_
      exact st_back back0 ((7 + 1, true, false)) (by first | omega | (simp only []; omega) | (simp; omega)) (by first | (simp only [reduceCtorEq, false_implies, true_implies, true_and, and_true, forall_const]; omega) | (exact b_eq (decide_eq_false (fun z => z.1.elim hP hN)).symm) | (exact absurd (show neg8 a b c d h mi s n by unfold neg8; omega) hN) | (exact absurd (show pos8 a b c d h mi s n by unfold pos8; omega) hP) | omega | (simp only []; omega) | (simp; omega) | assumption | simp_all) (fun p hp => by first | exact hp | simp_all) (by kernel_rfl) (by kernel_rfl) (by kernel_rfl)
    · refine st_b 21 (decide_eq_false k21) (by kernel_rfl) ?_
      by_cases k29 : n < 0
      · refine st_b 29 (decide_eq_true k29) (by kernel_rfl) ?_
        refine st_i 14 .i64 (x' := 7 + 1) (Go.IntWalk.i64_in _ (by omega)) (by kernel_rfl) ?_
        refine st_forget [0, 1, 2, 3, 4, 5, 6, 7, 8, 47, 48, 49, 50, 51, 52, 53, 54, 55, 56, 57, 58, 59] (by kernel_rfl) ?_
        exact st_back back0 ((7 + 1, false, true)) (by first | omega | (simp only []; omega) | (simp; omega)) (by first | (simp only [reduceCtorEq, false_implies, true_implies, true_and, and_true, forall_const]; omega) | (exact b_eq (decide_eq_false (fun z => z.1.elim hP hN)).symm) | (exact absurd (show neg8 a b c d h mi s n by unfold neg8; omega) hN) | (exact absurd (show pos8 a b c d h mi s n by unfold pos8; omega) hP) | omega | (simp only []; omega) | (simp; omega) | assumption | simp_all) (fun p hp => by first | exact hp | simp_all) (by kernel_rfl) (by kernel_rfl) (by kernel_rfl)
      · refine st_b 29 (decide_eq_false k29) (by kernel_rfl) ?_
        refine st_i 14 .i64 (x' := 7 + 1) (Go.IntWalk.i64_in _ (by omega)) (by kernel_rfl) ?_
        refine st_forget [0, 1, 2, 3, 4, 5, 6, 7, 8, 47, 48, 49, 50, 51, 52, 53, 54, 55, 56, 57, 58, 59] (by kernel_rfl) ?_
        exact st_back back0 ((7 + 1, false, false)) (by first | omega | (simp only []; omega) | (simp; omega)) (by first | (simp only [reduceCtorEq, false_implies, true_implies, true_and, and_true, forall_const]; omega) | (exact b_eq (decide_eq_false (fun z => z.1.elim hP hN)).symm) | (exact absurd (show neg8 a b c d h mi s n by unfold neg8; omega) hN) | (exact absurd (show pos8 a b c d h mi s n by unfold pos8; omega) hP) | omega | (simp only []; omega) | (simp; omega) | assumption | simp_all) (fun p hp => by first | exact hp | simp_all) (by kernel_rfl) (by kernel_rfl) (by kernel_rfl)
  · have _hh := True.intro
    by_cases k21 : n > 0
    · refine st_b 21 (decide_eq_true k21) (by kernel_rfl) ?_
      refine st_i 14 .i64 (x' := 7 + 1) (Go.IntWalk.i64_in _ (by omega)) (by kernel_rfl) ?_
      refine st_forget [0, 1, 2, 3, 4, 5, 6, 7, 8, 47, 48, 49, 50, 51, 52, 53, 54, 55, 56, 57, 58, 59] (by kernel_rfl) ?_
      exact st_back back0 ((7 + 1, true, true)) (by first | omega | (simp only []; omega) | (simp; omega)) (by first | (simp only [reduceCtorEq, false_implies, true_implies, true_and, and_true, forall_const]; omega) | (exact b_eq (decide_eq_false (fun z => z.1.elim hP hN)).symm) | (exact absurd (show neg8 a b c d h mi s n by unfold neg8; omega) hN) | (exact absurd (show pos8 a b c d h mi s n by unfold pos8; omega) hP) | omega | (simp only []; omega) | (simp; omega) | assumption | simp_all) (fun p hp => by first | exact hp | simp_all) (by kernel_rfl) (by kernel_rfl) (by kernel_rfl)
    · refine st_b 21 (decide_eq_false k21) (by kernel_rfl) ?_
      refine st_i 14 .i64 (x' := 7 + 1) (Go.IntWalk.i64_in _ (by omega)) (by kernel_rfl) ?_
      refine st_forget [0, 1, 2, 3, 4, 5, 6, 7, 8, 47, 48, 49, 50, 51, 52, 53, 54, 55, 56, 57, 58, 59] (by kernel_rfl) ?_
      exact st_back back0 ((7 + 1, false, true)) (by first | omega | (simp only []; omega) | (simp; omega)) (by first | (simp only [reduceCtorEq, false_implies, true_implies, true_and, and_true, forall_const]; omega) | (exact b_eq (decide_eq_false (fun z => z.1.elim hP hN)).symm) | (exact absurd (show neg8 a b c d h mi s n by unfold neg8; omega) hN) | (exact absurd (show pos8 a b c d h mi s n by unfold pos8; omega) hP) | omega | (simp only []; omega) | (simp; omega) | assumption | simp_all) (fun p hp => by first | exact hp | simp_all) (by kernel_rfl) (by kernel_rfl) (by kernel_rfl)
  · have _hh := True.intro
    by_cases k29 : n < 0
    · refine st_b 29 (decide_eq_true k29) (by kernel_rfl) ?_
      refine st_i 14 .i64 (x' := 7 + 1) (Go.IntWalk.i64_in _ (by omega)) (by kernel_rfl) ?_
      refine st_forget [0, 1, 2, 3, 4, 5, 6, 7, 8, 47, 48, 49, 50, 51, 52, 53, 54, 55, 56, 57, 58, 59] (by kernel_rfl) ?_
      exact st_back back0 ((7 + 1, true, true)) (by first | omega | (simp only []; omega) | (simp; omega)) (by first | (simp only [reduceCtorEq, false_implies, true_implies, true_and, and_true, forall_const]; omega) | (exact b_eq (decide_eq_false (fun z => z.1.elim hP hN)).symm) | (exact absurd (show neg8 a b c d h mi s n by unfold neg8; omega) hN) | (exact absurd (show pos8 a b c d h mi s n by unfold pos8; omega) hP) | omega | (simp only []; omega) | (simp; omega) | assumption | simp_all) (fun p hp => by first | exact hp | simp_all) (by kernel_rfl) (by kernel_rfl) (by kernel_rfl)
    · refine st_b 29 (decide_eq_false k29) (by kernel_rfl) ?_
      refine st_i 14 .i64 (x' := 7 + 1) (Go.IntWalk.i64_in _ (by omega)) (by kernel_rfl) ?_
      refine st_forget [0, 1, 2, 3, 4, 5, 6, 7, 8, 47, 48, 49, 50, 51, 52, 53, 54, 55, 56, 57, 58, 59] (by kernel_rfl) ?_
      exact st_back back0 ((7 + 1, true, false)) (by first | omega | (simp only []; omega) | (simp; omega)) (by first | (simp only [reduceCtorEq, false_implies, true_implies, true_and, and_true, forall_const]; omega) | (exact b_eq (decide_eq_false (fun z => z.1.elim hP hN)).symm) | (exact absurd (show neg8 a b c d h mi s n by unfold neg8; omega) hN) | (exact absurd (show pos8 a b c d h mi s n by unfold pos8; omega) hP) | omega | (simp only []; omega) | (simp; omega) | assumption | simp_all) (fun p hp => by first | exact hp | simp_all) (by kernel_rfl) (by kernel_rfl) (by kernel_rfl)
  · have _hh := True.intro
    refine st_i 14 .i64 (x' := 7 + 1) (Go.IntWalk.i64_in _ (by omega)) (by kernel_rfl) ?_
    refine st_forget [0, 1, 2, 3, 4, 5, 6, 7, 8, 47, 48, 49, 50, 51, 52, 53, 54, 55, 56, 57, 58, 59] (by kernel_rfl) ?_
    exact st_back back0 ((7 + 1, true, true)) (by first | omega | (simp only []; omega) | (simp; omega)) (by first | (simp only [reduceCtorEq, false_implies, true_implies, true_and, and_true, forall_const]; omega) | (exact b_eq (decide_eq_false (fun z => z.1.elim hP hN)).symm) | (exact absurd (show neg8 a b c d h mi s n by unfold neg8; omega) hN) | (exact absurd (show pos8 a b c d h mi s n by unfold pos8; omega) hP) | omega | (simp only []; omega) | (simp; omega) | assumption | simp_all) (fun p hp => by first | exact hp | simp_all) (by kernel_rfl) (by kernel_rfl) (by kernel_rfl)
  · have _hh := True.intro
    refine st_g ent62 (ut) sub0 (by kernel_rfl) (fun zq2 => ?_)
    refine st_g ent106 (fa (zq2)) (subC 0 rfl sub0) (by kernel_rfl) (fun zq3 => ?_)
    refine st_g ent149 (zulimit) sub0 (by kernel_rfl) (fun zq4 => ?_)
    refine st_fn ent108 (fzcmp (zq3) (zq4) (X) (9007199254740992000000000) (by exact Bits.fit bX (by decide)) (by exact Bits.fit bl.bits (by decide))) (subC 1 rfl (subC 0 rfl sub0)) (by kernel_rfl) ?_
    exact st_retv Try.func119 (show Value.bool (decide (cmpI X 9007199254740992000000000 < 0)) = _ by (exact absurd (show neg8 a b c d h mi s n by unfold neg8; omega) hN)) (by kernel_rfl)
  · have _hh := True.intro
    refine st_g ent62 (ut) sub0 (by kernel_rfl) (fun zq2 => ?_)
    refine st_g ent106 (fa (zq2)) (subC 0 rfl sub0) (by kernel_rfl) (fun zq3 => ?_)
    refine st_g ent149 (zulimit) sub0 (by kernel_rfl) (fun zq4 => ?_)
    refine st_fn ent108 (fzcmp (zq3) (zq4) (X) (9007199254740992000000000) (by exact Bits.fit bX (by decide)) (by exact Bits.fit bl.bits (by decide))) (subC 1 rfl (subC 0 rfl sub0)) (by kernel_rfl) ?_
    exact st_retv Try.func119 (show Value.bool (decide (cmpI X 9007199254740992000000000 < 0)) = _ by (exact absurd (show neg8 a b c d h mi s n by unfold neg8; omega) hN)) (by kernel_rfl)
  · have _hh := True.intro
    refine st_g ent62 (ut) sub0 (by kernel_rfl) (fun zq2 => ?_)
    refine st_g ent106 (fa (zq2)) (subC 0 rfl sub0) (by kernel_rfl) (fun zq3 => ?_)
    refine st_g ent149 (zulimit) sub0 (by kernel_rfl) (fun zq4 => ?_)
    refine st_fn ent108 (fzcmp (zq3) (zq4) (X) (9007199254740992000000000) (by exact Bits.fit bX (by decide)) (by exact Bits.fit bl.bits (by decide))) (subC 1 rfl (subC 0 rfl sub0)) (by kernel_rfl) ?_
    exact st_retv Try.func119 (show Value.bool (decide (cmpI X 9007199254740992000000000 < 0)) = _ by (exact absurd (show pos8 a b c d h mi s n by unfold pos8; omega) hP)) (by kernel_rfl)
  · have _hh := True.intro
    exact st_retv Try.func119 (show Value.bool (false) = _ by (exact b_eq (decide_eq_false (fun z => z.1.elim hP hN)).symm)) (by kernel_rfl)
end
end Go.Proofs.Ytccllfegnijpiaa
end
section
/-
  A total laid out, as the program and the reference do it; sums, rounding.
-/
set_option linter.unusedVariables false
set_option maxRecDepth 100000
namespace Go.Proofs.Ytccllfegnijpiaa
open Go Go.RowKit Go.Ev

section
variable (a b c d h mi s n : Int)
theorem uright (i : all64 a b c d h mi s n) : Fn 31 [] [duv a b c d h mi s n] (.bool (decide (uOk a b c d h mi s n))) := by
  by_cases ka : a = 0
  rotate_left
  · by_cases z : 0 < a
    · exact uright_p a b c d h mi s n i (sg8_1 (.inl z)) (.inl z)
    · exact uright_n a b c d h mi s n i (sg8_m (.inl (by omega))) (.inl (by omega))
  by_cases kb : b = 0
  rotate_left
  · by_cases z : 0 < b
    · exact uright_p a b c d h mi s n i (sg8_1 (.inr ⟨ka, (.inl z)⟩)) (.inr ⟨ka, (.inl z)⟩)
    · exact uright_n a b c d h mi s n i (sg8_m (.inr ⟨ka, (.inl (by omega))⟩)) (.inr ⟨ka, (.inl (by omega))⟩)
  by_cases kc : c = 0
  rotate_left
  · by_cases z : 0 < c
    · exact uright_p a b c d h mi s n i (sg8_1 (.inr ⟨ka, (.inr ⟨kb, (.inl z)⟩)⟩)) (.inr ⟨ka, (.inr ⟨kb, (.inl z)⟩)⟩)
    · exact uright_n a b c d h mi s n i (sg8_m (.inr ⟨ka, (.inr ⟨kb, (.inl (by omega))⟩)⟩)) (.inr ⟨ka, (.inr ⟨kb, (.inl (by omega))⟩)⟩)
  by_cases kd : d = 0
  rotate_left
  · by_cases z : 0 < d
    · exact uright_p a b c d h mi s n i (sg8_1 (.inr ⟨ka, (.inr ⟨kb, (.inr ⟨kc, (.inl z)⟩)⟩)⟩)) (.inr ⟨ka, (.inr ⟨kb, (.inr ⟨kc, (.inl z)⟩)⟩)⟩)
    · exact uright_n a b c d h mi s n i (sg8_m (.inr ⟨ka, (.inr ⟨kb, (.inr ⟨kc, (.inl (by omega))⟩)⟩)⟩)) (.inr ⟨ka, (.inr ⟨kb, (.inr ⟨kc, (.inl (by omega))⟩)⟩)⟩)
  by_cases kh : h = 0
  rotate_left
  · by_cases z : 0 < h
    · exact uright_p a b c d h mi s n i (sg8_1 (.inr ⟨ka, (.inr ⟨kb, (.inr ⟨kc, (.inr ⟨kd, (.inl z)⟩)⟩)⟩)⟩)) (.inr ⟨ka, (.inr ⟨kb, (.inr ⟨kc, (.inr ⟨kd, (.inl z)⟩)⟩)⟩)⟩)
    · exact uright_n a b c d h mi s n i (sg8_m (.inr ⟨ka, (.inr ⟨kb, (.inr ⟨kc, (.inr ⟨kd, (.inl (by omega))⟩)⟩)⟩)⟩)) (.inr ⟨ka, (.inr ⟨kb, (.inr ⟨kc, (.inr ⟨kd, (.inl (by omega))⟩)⟩)⟩)⟩)
  by_cases kmi : mi = 0
  rotate_left
  · by_cases z : 0 < mi
    · exact uright_p a b c d h mi s n i (sg8_1 (.inr ⟨ka, (.inr ⟨kb, (.inr ⟨kc, (.inr ⟨kd, (.inr ⟨kh, (.inl z)⟩)⟩)⟩)⟩)⟩)) (.inr ⟨ka, (.inr ⟨kb, (.inr ⟨kc, (.inr ⟨kd, (.inr ⟨kh, (.inl z)⟩)⟩)⟩)⟩)⟩)
    · exact uright_n a b c d h mi s n i (sg8_m (.inr ⟨ka, (.inr ⟨kb, (.inr ⟨kc, (.inr ⟨kd, (.inr ⟨kh, (.inl (by omega))⟩)⟩)⟩)⟩)⟩)) (.inr ⟨ka, (.inr ⟨kb, (.inr ⟨kc, (.inr ⟨kd, (.inr ⟨kh, (.inl (by omega))⟩)⟩)⟩)⟩)⟩)
  by_cases ks : s = 0
  rotate_left
  · by_cases z : 0 < s
    · exact uright_p a b c d h mi s n i (sg8_1 (.inr ⟨ka, (.inr ⟨kb, (.inr ⟨kc, (.inr ⟨kd, (.inr ⟨kh, (.inr ⟨kmi, (.inl z)⟩)⟩)⟩)⟩)⟩)⟩)) (.inr ⟨ka, (.inr ⟨kb, (.inr ⟨kc, (.inr ⟨kd, (.inr ⟨kh, (.inr ⟨kmi, (.inl z)⟩)⟩)⟩)⟩)⟩)⟩)
    · exact uright_n a b c d h mi s n i (sg8_m (.inr ⟨ka, (.inr ⟨kb, (.inr ⟨kc, (.inr ⟨kd, (.inr ⟨kh, (.inr ⟨kmi, (.inl (by omega))⟩)⟩)⟩)⟩)⟩)⟩)) (.inr ⟨ka, (.inr ⟨kb, (.inr ⟨kc, (.inr ⟨kd, (.inr ⟨kh, (.inr ⟨kmi, (.inl (by omega))⟩)⟩)⟩)⟩)⟩)⟩)
  by_cases kn : n = 0
  rotate_left
  · by_cases z : 0 < n
    · exact uright_p a b c d h mi s n i (sg8_1 (.inr ⟨ka, (.inr ⟨kb, (.inr ⟨kc, (.inr ⟨kd, (.inr ⟨kh, (.inr ⟨kmi, (.inr ⟨ks, z⟩)⟩)⟩)⟩)⟩)⟩)⟩)) (.inr ⟨ka, (.inr ⟨kb, (.inr ⟨kc, (.inr ⟨kd, (.inr ⟨kh, (.inr ⟨kmi, (.inr ⟨ks, z⟩)⟩)⟩)⟩)⟩)⟩)⟩)
    · exact uright_n a b c d h mi s n i (sg8_m (.inr ⟨ka, (.inr ⟨kb, (.inr ⟨kc, (.inr ⟨kd, (.inr ⟨kh, (.inr ⟨kmi, (.inr ⟨ks, (by omega)⟩)⟩)⟩)⟩)⟩)⟩)⟩)) (.inr ⟨ka, (.inr ⟨kb, (.inr ⟨kc, (.inr ⟨kd, (.inr ⟨kh, (.inr ⟨kmi, (.inr ⟨ks, (by omega)⟩)⟩)⟩)⟩)⟩)⟩)⟩)
  exact uright_z a b c d h mi s n i (sg8_0 ⟨ka, kb, kc, kd, kh, kmi, ks, kn⟩) ⟨ka, kb, kc, kd, kh, kmi, ks, kn⟩
theorem zuright (i : all64 a b c d h mi s n) : Fn 119 [] [duv a b c d h mi s n] (.bool (decide (uOk a b c d h mi s n))) := by
  by_cases hp : pos8 a b c d h mi s n
  · exact zuright_p a b c d h mi s n i hp
  · by_cases hn : neg8 a b c d h mi s n
    · exact zuright_n a b c d h mi s n i hn
    · exact zuright_m a b c d h mi s n i hp hn
theorem uright_y (i : all64 a b c d h mi s n) (k : uOk a b c d h mi s n) : Fn 31 [] [duv a b c d h mi s n] (.bool true) := by have := uright a b c d h mi s n i; rwa [decide_eq_true k] at this
theorem uright_f (i : all64 a b c d h mi s n) (k : ¬ uOk a b c d h mi s n) : Fn 31 [] [duv a b c d h mi s n] (.bool false) := by have := uright a b c d h mi s n i; rwa [decide_eq_false k] at this
theorem zuright_y (i : all64 a b c d h mi s n) (k : uOk a b c d h mi s n) : Fn 119 [] [duv a b c d h mi s n] (.bool true) := by have := zuright a b c d h mi s n i; rwa [decide_eq_true k] at this
theorem zuright_f (i : all64 a b c d h mi s n) (k : ¬ uOk a b c d h mi s n) : Fn 119 [] [duv a b c d h mi s n] (.bool false) := by have := zuright a b c d h mi s n i; rwa [decide_eq_false k] at this
theorem utotal_y (i : all64 a b c d h mi s n) (k : uOk a b c d h mi s n) : Fn 60 [] [duv a b c d h mi s n] (.tuple #[wv (dtot d h mi s n), .int .i64 0]) := by
  have r := uright_y a b c d h mi s n i k
  obtain ⟨i1, i2, i3, i4, i5, i6, i7, i8⟩ := i
  have t := utot a b c d h mi s n i4 i5 i6 i7 i8
  refine fn_of Try.func60 rfl fun ww => ?_
  refine st_fn ent31 (r) sub0 (by kernel_rfl) ?_
  refine st_fn ent94 (t) sub0 (by kernel_rfl) ?_
  exact st_ret Try.func60 (by kernel_rfl)
theorem zuexact_y (i : all64 a b c d h mi s n) (k : uEx a b c d h mi s n) : Fn 61 [] [duv a b c d h mi s n] (.bool true) := by
  obtain ⟨k0, rfl, rfl, rfl⟩ := k
  have r := zuright_y 0 0 0 d h mi s n i k0
  refine fn_of Try.func61 rfl fun ww => ?_
  refine st_fn ent119 (r) sub0 (by kernel_rfl) ?_
  exact st_ret Try.func61 (by kernel_rfl)
theorem zuexact_f (i : all64 a b c d h mi s n) (k : ¬ uEx a b c d h mi s n) : Fn 61 [] [duv a b c d h mi s n] (.bool false) := by
  by_cases kr : uOk a b c d h mi s n
  · have r := zuright_y a b c d h mi s n i kr
    by_cases ka : a = 0
    · by_cases kb : b = 0
      · have kc : c ≠ 0 := fun q => k ⟨kr, ka, kb, q⟩
        clear k kr
        refine fn_of Try.func61 rfl fun ww => ?_
        refine st_fn ent119 (r) sub0 (by kernel_rfl) ?_
        refine st_b 8 (show (a == 0) = true by exact decide_eq_true (by omega)) (by kernel_rfl) ?_
        refine st_b 13 (show (b == 0) = true by exact decide_eq_true (by omega)) (by kernel_rfl) ?_
        exact st_retv Try.func61 (show Value.bool (c == 0) = _ by simp_all) (by kernel_rfl)
      · clear k kr
        refine fn_of Try.func61 rfl fun ww => ?_
        refine st_fn ent119 (r) sub0 (by kernel_rfl) ?_
        refine st_b 8 (show (a == 0) = true by exact decide_eq_true (by omega)) (by kernel_rfl) ?_
        refine st_b 13 (show (b == 0) = false by exact decide_eq_false (by omega)) (by kernel_rfl) ?_
        exact st_ret Try.func61 (by kernel_rfl)
    · clear k kr
      refine fn_of Try.func61 rfl fun ww => ?_
      refine st_fn ent119 (r) sub0 (by kernel_rfl) ?_
      refine st_b 8 (show (a == 0) = false by exact decide_eq_false (by omega)) (by kernel_rfl) ?_
      exact st_ret Try.func61 (by kernel_rfl)
  · have r := zuright_f a b c d h mi s n i kr
    clear k kr
    refine fn_of Try.func61 rfl fun ww => ?_
    refine st_fn ent119 (r) sub0 (by kernel_rfl) ?_
    exact st_ret Try.func61 (by kernel_rfl)
end
/-! laid out -/
theorem tch (x A B : Int) (hx : W128 x) (hA : 0 < A) (hB : 0 < B) (hd : B ∣ A) (hAW : A ≤ 86400000000000) (hBW : B ≤ 86400000000000) : Fn 84 [] [wv (x.tmod A), wv B] (.tuple #[wv ((x.tmod A).tdiv B), wv (x.tmod B), .int .i64 0]) := by
  obtain ⟨e1, e2, e3⟩ := td x A hA
  have m1 : -A < x.tmod A ∧ x.tmod A < A := by
    by_cases h : 0 ≤ x
    · have := e2 h; omega
    · have := e3 (by omega); omega
  obtain ⟨f1, f2, f3⟩ := td (x.tmod A) B hB
  have q1 : W128 ((x.tmod A).tdiv B) := by
    have key : ∀ q : Int, 0 ≤ q → q ≤ q * B := fun q h => by
      have := Int.mul_le_mul_of_nonneg_left (show 1 ≤ B by omega) h; omega
    by_cases h : 0 ≤ x.tmod A
    · have g := f2 h
      have := key _ g.1
      unfold W128; omega
    · have g := f3 (by omega)
      have := key (-((x.tmod A).tdiv B)) (by omega)
      rw [Int.neg_mul] at this
      unfold W128; omega
  have t := dtrunc_yes (x.tmod A) B (by unfold W128; omega) (by unfold W128; omega) (by omega) q1
  rwa [Int.tmod_tmod_of_dvd x hd] at t
theorem ttop (x B : Int) (hx : W128 x) (hB : 0 < B) (hBW : B ≤ 86400000000000) : Fn 84 [] [wv x, wv B] (.tuple #[wv (x.tdiv B), wv (x.tmod B), .int .i64 0]) ∧ W128 (x.tmod B) := by
  obtain ⟨e1, e2, e3⟩ := td x B hB
  have key : ∀ q : Int, 0 ≤ q → q ≤ q * B := fun q h => by
    have := Int.mul_le_mul_of_nonneg_left (show 1 ≤ B by omega) h; omega
  unfold W128 at hx
  by_cases h : 0 ≤ x
  · have g := e2 h
    have := key _ g.1
    exact ⟨dtrunc_yes x B (by unfold W128; omega) (by unfold W128; omega) (by omega) (by unfold W128; omega), by unfold W128; omega⟩
  · have g := e3 (by omega)
    have := key (-(x.tdiv B)) (by omega)
    rw [Int.neg_mul] at this
    exact ⟨dtrunc_yes x B (by unfold W128; omega) (by unfold W128; omega) (by omega) (by unfold W128; omega), by unfold W128; omega⟩
theorem tdiv_1 (x : Int) : x.tdiv 1 = x := Int.tdiv_one x
theorem tmod_1 (x : Int) : x.tmod 1 = 0 := Int.tmod_one x
theorem ulay4_y (x : Int) (hx : W128 x) (g : I64 (x.tdiv 86400000000000)) (k : uOk 0 0 0 (x.tdiv 86400000000000) ((x.tmod 86400000000000).tdiv 3600000000000) ((x.tmod 3600000000000).tdiv 60000000000) ((x.tmod 60000000000).tdiv 1000000000) (x.tmod 1000000000)) : Fn 64 [] [wv x, .int .i64 4] (.tuple #[duv 0 0 0 (x.tdiv 86400000000000) ((x.tmod 86400000000000).tdiv 3600000000000) ((x.tmod 3600000000000).tdiv 60000000000) ((x.tmod 60000000000).tdiv 1000000000) (x.tmod 1000000000), .int .i64 0]) := by
  obtain ⟨t0, m0⟩ := ttop x 86400000000000 hx (by omega) (by omega)
  have t1 := tch x 86400000000000 3600000000000 hx (by omega) (by omega) (by decide) (by omega) (by omega)
  have t2 := tch x 3600000000000 60000000000 hx (by omega) (by omega) (by decide) (by omega) (by omega)
  have t3 := tch x 60000000000 1000000000 hx (by omega) (by omega) (by decide) (by omega) (by omega)
  have t4 := tch x 1000000000 1 hx (by omega) (by omega) (by decide) (by omega) (by omega)
  rw [tdiv_1, tmod_1] at t4
  have g5 : I64 ((x.tmod 86400000000000).tdiv 3600000000000) := by have := td2 x 86400000000000 3600000000000 24 (by decide) (by omega) (by omega); unfold I64; omega
  have g6 : I64 ((x.tmod 3600000000000).tdiv 60000000000) := by have := td2 x 3600000000000 60000000000 60 (by decide) (by omega) (by omega); unfold I64; omega
  have g7 : I64 ((x.tmod 60000000000).tdiv 1000000000) := by have := td2 x 60000000000 1000000000 60 (by decide) (by omega) (by omega); unfold I64; omega
  have g8 : I64 (x.tmod 1000000000) := by
    obtain ⟨e1, e2, e3⟩ := td x 1000000000 (by omega)
    by_cases z : 0 ≤ x
    · have := e2 z; unfold I64; omega
    · have := e3 (by omega); unfold I64; omega
  have j1 : I64 86400000000000 := by unfold I64; omega
  have j2 : I64 3600000000000 := by unfold I64; omega
  have j3 : I64 60000000000 := by unfold I64; omega
  have j4 : I64 1000000000 := by unfold I64; omega
  have j5 : I64 1 := by unfold I64; omega
  have j0 : I64 0 := by unfold I64; omega
  have r := uright_y 0 0 0 (x.tdiv 86400000000000) ((x.tmod 86400000000000).tdiv 3600000000000) ((x.tmod 3600000000000).tdiv 60000000000) ((x.tmod 60000000000).tdiv 1000000000) (x.tmod 1000000000) ⟨j0, j0, j0, g, g5, g6, g7, g8⟩ k
  refine fn_of Try.func64 rfl fun ww => ?_
  refine st_fn ent37 (ulen4) sub0 (by kernel_rfl) ?_
  refine ufields_row 2 0 (by kernel_rfl) ?_
  refine st_round (by kernel_rfl) ?_
  refine st_fn ent37 (ulen4) sub0 (by kernel_rfl) ?_
  refine st_fn ent39 (wof_fn (86400000000000) (by assumption)) sub0 (by kernel_rfl) ?_
  refine st_fn ent84 (t0) sub0 (by kernel_rfl) ?_
  refine st_fn ent50 (wint_f (x.tdiv 86400000000000) (by assumption)) sub0 (by kernel_rfl) ?_
  refine st_i 21 .i64 (x' := 4 + 1) (Go.IntWalk.i64_in _ (by omega)) (by kernel_rfl) ?_
  refine st_round (by kernel_rfl) ?_
  refine st_fn ent37 (ulen5) sub0 (by kernel_rfl) ?_
  refine st_fn ent39 (wof_fn (3600000000000) (by assumption)) sub0 (by kernel_rfl) ?_
  refine st_fn ent84 (t1) sub0 (by kernel_rfl) ?_
  refine st_fn ent50 (wint_f ((x.tmod 86400000000000).tdiv 3600000000000) (by assumption)) sub0 (by kernel_rfl) ?_
  refine st_i 21 .i64 (x' := 4 + 1 + 1) (Go.IntWalk.i64_in _ (by omega)) (by kernel_rfl) ?_
  refine st_round (by kernel_rfl) ?_
  refine st_fn ent37 (ulen6) sub0 (by kernel_rfl) ?_
  refine st_fn ent39 (wof_fn (60000000000) (by assumption)) sub0 (by kernel_rfl) ?_
  refine st_fn ent84 (t2) sub0 (by kernel_rfl) ?_
  refine st_fn ent50 (wint_f ((x.tmod 3600000000000).tdiv 60000000000) (by assumption)) sub0 (by kernel_rfl) ?_
  refine st_i 21 .i64 (x' := 4 + 1 + 1 + 1) (Go.IntWalk.i64_in _ (by omega)) (by kernel_rfl) ?_
  refine st_round (by kernel_rfl) ?_
  refine st_fn ent37 (ulen7) sub0 (by kernel_rfl) ?_
  refine st_fn ent39 (wof_fn (1000000000) (by assumption)) sub0 (by kernel_rfl) ?_
  refine st_fn ent84 (t3) sub0 (by kernel_rfl) ?_
  refine st_fn ent50 (wint_f ((x.tmod 60000000000).tdiv 1000000000) (by assumption)) sub0 (by kernel_rfl) ?_
  refine st_i 21 .i64 (x' := 4 + 1 + 1 + 1 + 1) (Go.IntWalk.i64_in _ (by omega)) (by kernel_rfl) ?_
  refine st_round (by kernel_rfl) ?_
  refine st_fn ent37 (ulen8) sub0 (by kernel_rfl) ?_
  refine st_fn ent39 (wof_fn (1) (by assumption)) sub0 (by kernel_rfl) ?_
  refine st_fn ent84 (t4) sub0 (by kernel_rfl) ?_
  refine st_fn ent50 (wint_f (x.tmod 1000000000) (by assumption)) sub0 (by kernel_rfl) ?_
  refine st_i 21 .i64 (x' := 4 + 1 + 1 + 1 + 1 + 1) (Go.IntWalk.i64_in _ (by omega)) (by kernel_rfl) ?_
  refine st_round (by kernel_rfl) ?_
  refine st_fn ent31 (r) sub0 (by kernel_rfl) ?_
  exact st_ret Try.func64 (by kernel_rfl)
theorem ulay4_r (x : Int) (hx : W128 x) (g : I64 (x.tdiv 86400000000000)) (k : ¬ uOk 0 0 0 (x.tdiv 86400000000000) ((x.tmod 86400000000000).tdiv 3600000000000) ((x.tmod 3600000000000).tdiv 60000000000) ((x.tmod 60000000000).tdiv 1000000000) (x.tmod 1000000000)) : Fn 64 [] [wv x, .int .i64 4] (.tuple #[du0, .int .i64 4]) := by
  obtain ⟨t0, m0⟩ := ttop x 86400000000000 hx (by omega) (by omega)
  have t1 := tch x 86400000000000 3600000000000 hx (by omega) (by omega) (by decide) (by omega) (by omega)
  have t2 := tch x 3600000000000 60000000000 hx (by omega) (by omega) (by decide) (by omega) (by omega)
  have t3 := tch x 60000000000 1000000000 hx (by omega) (by omega) (by decide) (by omega) (by omega)
  have t4 := tch x 1000000000 1 hx (by omega) (by omega) (by decide) (by omega) (by omega)
  rw [tdiv_1, tmod_1] at t4
  have g5 : I64 ((x.tmod 86400000000000).tdiv 3600000000000) := by have := td2 x 86400000000000 3600000000000 24 (by decide) (by omega) (by omega); unfold I64; omega
  have g6 : I64 ((x.tmod 3600000000000).tdiv 60000000000) := by have := td2 x 3600000000000 60000000000 60 (by decide) (by omega) (by omega); unfold I64; omega
  have g7 : I64 ((x.tmod 60000000000).tdiv 1000000000) := by have := td2 x 60000000000 1000000000 60 (by decide) (by omega) (by omega); unfold I64; omega
  have g8 : I64 (x.tmod 1000000000) := by
    obtain ⟨e1, e2, e3⟩ := td x 1000000000 (by omega)
    by_cases z : 0 ≤ x
    · have := e2 z; unfold I64; omega
    · have := e3 (by omega); unfold I64; omega
  have j1 : I64 86400000000000 := by unfold I64; omega
  have j2 : I64 3600000000000 := by unfold I64; omega
  have j3 : I64 60000000000 := by unfold I64; omega
  have j4 : I64 1000000000 := by unfold I64; omega
  have j5 : I64 1 := by unfold I64; omega
  have j0 : I64 0 := by unfold I64; omega
  have r := uright_f 0 0 0 (x.tdiv 86400000000000) ((x.tmod 86400000000000).tdiv 3600000000000) ((x.tmod 3600000000000).tdiv 60000000000) ((x.tmod 60000000000).tdiv 1000000000) (x.tmod 1000000000) ⟨j0, j0, j0, g, g5, g6, g7, g8⟩ k
  refine fn_of Try.func64 rfl fun ww => ?_
  refine st_fn ent37 (ulen4) sub0 (by kernel_rfl) ?_
  refine ufields_row 2 0 (by kernel_rfl) ?_
  refine st_round (by kernel_rfl) ?_
  refine st_fn ent37 (ulen4) sub0 (by kernel_rfl) ?_
  refine st_fn ent39 (wof_fn (86400000000000) (by assumption)) sub0 (by kernel_rfl) ?_
  refine st_fn ent84 (t0) sub0 (by kernel_rfl) ?_
  refine st_fn ent50 (wint_f (x.tdiv 86400000000000) (by assumption)) sub0 (by kernel_rfl) ?_
  refine st_i 21 .i64 (x' := 4 + 1) (Go.IntWalk.i64_in _ (by omega)) (by kernel_rfl) ?_
  refine st_round (by kernel_rfl) ?_
  refine st_fn ent37 (ulen5) sub0 (by kernel_rfl) ?_
  refine st_fn ent39 (wof_fn (3600000000000) (by assumption)) sub0 (by kernel_rfl) ?_
  refine st_fn ent84 (t1) sub0 (by kernel_rfl) ?_
  refine st_fn ent50 (wint_f ((x.tmod 86400000000000).tdiv 3600000000000) (by assumption)) sub0 (by kernel_rfl) ?_
  refine st_i 21 .i64 (x' := 4 + 1 + 1) (Go.IntWalk.i64_in _ (by omega)) (by kernel_rfl) ?_
  refine st_round (by kernel_rfl) ?_
  refine st_fn ent37 (ulen6) sub0 (by kernel_rfl) ?_
  refine st_fn ent39 (wof_fn (60000000000) (by assumption)) sub0 (by kernel_rfl) ?_
  refine st_fn ent84 (t2) sub0 (by kernel_rfl) ?_
  refine st_fn ent50 (wint_f ((x.tmod 3600000000000).tdiv 60000000000) (by assumption)) sub0 (by kernel_rfl) ?_
  refine st_i 21 .i64 (x' := 4 + 1 + 1 + 1) (Go.IntWalk.i64_in _ (by omega)) (by kernel_rfl) ?_
  refine st_round (by kernel_rfl) ?_
  refine st_fn ent37 (ulen7) sub0 (by kernel_rfl) ?_
  refine st_fn ent39 (wof_fn (1000000000) (by assumption)) sub0 (by kernel_rfl) ?_
  refine st_fn ent84 (t3) sub0 (by kernel_rfl) ?_
  refine st_fn ent50 (wint_f ((x.tmod 60000000000).tdiv 1000000000) (by assumption)) sub0 (by kernel_rfl) ?_
  refine st_i 21 .i64 (x' := 4 + 1 + 1 + 1 + 1) (Go.IntWalk.i64_in _ (by omega)) (by kernel_rfl) ?_
  refine st_round (by kernel_rfl) ?_
  refine st_fn ent37 (ulen8) sub0 (by kernel_rfl) ?_
  refine st_fn ent39 (wof_fn (1) (by assumption)) sub0 (by kernel_rfl) ?_
  refine st_fn ent84 (t4) sub0 (by kernel_rfl) ?_
  refine st_fn ent50 (wint_f (x.tmod 1000000000) (by assumption)) sub0 (by kernel_rfl) ?_
  refine st_i 21 .i64 (x' := 4 + 1 + 1 + 1 + 1 + 1) (Go.IntWalk.i64_in _ (by omega)) (by kernel_rfl) ?_
  refine st_round (by kernel_rfl) ?_
  refine st_fn ent31 (r) sub0 (by kernel_rfl) ?_
  exact st_ret Try.func64 (by kernel_rfl)
theorem ulay4_o (x : Int) (hx : W128 x) (g : ¬ I64 (x.tdiv 86400000000000)) : Fn 64 [] [wv x, .int .i64 4] (.tuple #[du0, .int .i64 4]) := by
  obtain ⟨t0, m0⟩ := ttop x 86400000000000 hx (by omega) (by omega)
  have t1 := tch x 86400000000000 3600000000000 hx (by omega) (by omega) (by decide) (by omega) (by omega)
  have t2 := tch x 3600000000000 60000000000 hx (by omega) (by omega) (by decide) (by omega) (by omega)
  have t3 := tch x 60000000000 1000000000 hx (by omega) (by omega) (by decide) (by omega) (by omega)
  have t4 := tch x 1000000000 1 hx (by omega) (by omega) (by decide) (by omega) (by omega)
  rw [tdiv_1, tmod_1] at t4
  have g5 : I64 ((x.tmod 86400000000000).tdiv 3600000000000) := by have := td2 x 86400000000000 3600000000000 24 (by decide) (by omega) (by omega); unfold I64; omega
  have g6 : I64 ((x.tmod 3600000000000).tdiv 60000000000) := by have := td2 x 3600000000000 60000000000 60 (by decide) (by omega) (by omega); unfold I64; omega
  have g7 : I64 ((x.tmod 60000000000).tdiv 1000000000) := by have := td2 x 60000000000 1000000000 60 (by decide) (by omega) (by omega); unfold I64; omega
  have g8 : I64 (x.tmod 1000000000) := by
    obtain ⟨e1, e2, e3⟩ := td x 1000000000 (by omega)
    by_cases z : 0 ≤ x
    · have := e2 z; unfold I64; omega
    · have := e3 (by omega); unfold I64; omega
  have j1 : I64 86400000000000 := by unfold I64; omega
  have j2 : I64 3600000000000 := by unfold I64; omega
  have j3 : I64 60000000000 := by unfold I64; omega
  have j4 : I64 1000000000 := by unfold I64; omega
  have j5 : I64 1 := by unfold I64; omega
  have j0 : I64 0 := by unfold I64; omega
  refine fn_of Try.func64 rfl fun ww => ?_
  refine st_fn ent37 (ulen4) sub0 (by kernel_rfl) ?_
  refine ufields_row 2 0 (by kernel_rfl) ?_
  refine st_round (by kernel_rfl) ?_
  refine st_fn ent37 (ulen4) sub0 (by kernel_rfl) ?_
  refine st_fn ent39 (wof_fn (86400000000000) (by assumption)) sub0 (by kernel_rfl) ?_
  refine st_fn ent84 (t0) sub0 (by kernel_rfl) ?_
  refine st_fn ent50 (wint_n (x.tdiv 86400000000000) (by assumption)) sub0 (by kernel_rfl) ?_
  exact st_ret Try.func64 (by kernel_rfl)
theorem ulay5_y (x : Int) (hx : W128 x) (g : I64 (x.tdiv 3600000000000)) (k : uOk 0 0 0 0 (x.tdiv 3600000000000) ((x.tmod 3600000000000).tdiv 60000000000) ((x.tmod 60000000000).tdiv 1000000000) (x.tmod 1000000000)) : Fn 64 [] [wv x, .int .i64 5] (.tuple #[duv 0 0 0 0 (x.tdiv 3600000000000) ((x.tmod 3600000000000).tdiv 60000000000) ((x.tmod 60000000000).tdiv 1000000000) (x.tmod 1000000000), .int .i64 0]) := by
  obtain ⟨t0, m0⟩ := ttop x 3600000000000 hx (by omega) (by omega)
  have t1 := tch x 3600000000000 60000000000 hx (by omega) (by omega) (by decide) (by omega) (by omega)
  have t2 := tch x 60000000000 1000000000 hx (by omega) (by omega) (by decide) (by omega) (by omega)
  have t3 := tch x 1000000000 1 hx (by omega) (by omega) (by decide) (by omega) (by omega)
  rw [tdiv_1, tmod_1] at t3
  have g6 : I64 ((x.tmod 3600000000000).tdiv 60000000000) := by have := td2 x 3600000000000 60000000000 60 (by decide) (by omega) (by omega); unfold I64; omega
  have g7 : I64 ((x.tmod 60000000000).tdiv 1000000000) := by have := td2 x 60000000000 1000000000 60 (by decide) (by omega) (by omega); unfold I64; omega
  have g8 : I64 (x.tmod 1000000000) := by
    obtain ⟨e1, e2, e3⟩ := td x 1000000000 (by omega)
    by_cases z : 0 ≤ x
    · have := e2 z; unfold I64; omega
    · have := e3 (by omega); unfold I64; omega
  have j1 : I64 86400000000000 := by unfold I64; omega
  have j2 : I64 3600000000000 := by unfold I64; omega
  have j3 : I64 60000000000 := by unfold I64; omega
  have j4 : I64 1000000000 := by unfold I64; omega
  have j5 : I64 1 := by unfold I64; omega
  have j0 : I64 0 := by unfold I64; omega
  have r := uright_y 0 0 0 0 (x.tdiv 3600000000000) ((x.tmod 3600000000000).tdiv 60000000000) ((x.tmod 60000000000).tdiv 1000000000) (x.tmod 1000000000) ⟨j0, j0, j0, j0, g, g6, g7, g8⟩ k
  refine fn_of Try.func64 rfl fun ww => ?_
  refine st_fn ent37 (ulen5) sub0 (by kernel_rfl) ?_
  refine ufields_row 2 0 (by kernel_rfl) ?_
  refine st_round (by kernel_rfl) ?_
  refine st_fn ent37 (ulen5) sub0 (by kernel_rfl) ?_
  refine st_fn ent39 (wof_fn (3600000000000) (by assumption)) sub0 (by kernel_rfl) ?_
  refine st_fn ent84 (t0) sub0 (by kernel_rfl) ?_
  refine st_fn ent50 (wint_f (x.tdiv 3600000000000) (by assumption)) sub0 (by kernel_rfl) ?_
  refine st_i 21 .i64 (x' := 5 + 1) (Go.IntWalk.i64_in _ (by omega)) (by kernel_rfl) ?_
  refine st_round (by kernel_rfl) ?_
  refine st_fn ent37 (ulen6) sub0 (by kernel_rfl) ?_
  refine st_fn ent39 (wof_fn (60000000000) (by assumption)) sub0 (by kernel_rfl) ?_
  refine st_fn ent84 (t1) sub0 (by kernel_rfl) ?_
  refine st_fn ent50 (wint_f ((x.tmod 3600000000000).tdiv 60000000000) (by assumption)) sub0 (by kernel_rfl) ?_
  refine st_i 21 .i64 (x' := 5 + 1 + 1) (Go.IntWalk.i64_in _ (by omega)) (by kernel_rfl) ?_
  refine st_round (by kernel_rfl) ?_
  refine st_fn ent37 (ulen7) sub0 (by kernel_rfl) ?_
  refine st_fn ent39 (wof_fn (1000000000) (by assumption)) sub0 (by kernel_rfl) ?_
  refine st_fn ent84 (t2) sub0 (by kernel_rfl) ?_
  refine st_fn ent50 (wint_f ((x.tmod 60000000000).tdiv 1000000000) (by assumption)) sub0 (by kernel_rfl) ?_
  refine st_i 21 .i64 (x' := 5 + 1 + 1 + 1) (Go.IntWalk.i64_in _ (by omega)) (by kernel_rfl) ?_
  refine st_round (by kernel_rfl) ?_
  refine st_fn ent37 (ulen8) sub0 (by kernel_rfl) ?_
  refine st_fn ent39 (wof_fn (1) (by assumption)) sub0 (by kernel_rfl) ?_
  refine st_fn ent84 (t3) sub0 (by kernel_rfl) ?_
  refine st_fn ent50 (wint_f (x.tmod 1000000000) (by assumption)) sub0 (by kernel_rfl) ?_
  refine st_i 21 .i64 (x' := 5 + 1 + 1 + 1 + 1) (Go.IntWalk.i64_in _ (by omega)) (by kernel_rfl) ?_
  refine st_round (by kernel_rfl) ?_
  refine st_fn ent31 (r) sub0 (by kernel_rfl) ?_
  exact st_ret Try.func64 (by kernel_rfl)
theorem ulay5_r (x : Int) (hx : W128 x) (g : I64 (x.tdiv 3600000000000)) (k : ¬ uOk 0 0 0 0 (x.tdiv 3600000000000) ((x.tmod 3600000000000).tdiv 60000000000) ((x.tmod 60000000000).tdiv 1000000000) (x.tmod 1000000000)) : Fn 64 [] [wv x, .int .i64 5] (.tuple #[du0, .int .i64 4]) := by
  obtain ⟨t0, m0⟩ := ttop x 3600000000000 hx (by omega) (by omega)
  have t1 := tch x 3600000000000 60000000000 hx (by omega) (by omega) (by decide) (by omega) (by omega)
  have t2 := tch x 60000000000 1000000000 hx (by omega) (by omega) (by decide) (by omega) (by omega)
  have t3 := tch x 1000000000 1 hx (by omega) (by omega) (by decide) (by omega) (by omega)
  rw [tdiv_1, tmod_1] at t3
  have g6 : I64 ((x.tmod 3600000000000).tdiv 60000000000) := by have := td2 x 3600000000000 60000000000 60 (by decide) (by omega) (by omega); unfold I64; omega
  have g7 : I64 ((x.tmod 60000000000).tdiv 1000000000) := by have := td2 x 60000000000 1000000000 60 (by decide) (by omega) (by omega); unfold I64; omega
  have g8 : I64 (x.tmod 1000000000) := by
    obtain ⟨e1, e2, e3⟩ := td x 1000000000 (by omega)
    by_cases z : 0 ≤ x
    · have := e2 z; unfold I64; omega
    · have := e3 (by omega); unfold I64; omega
  have j1 : I64 86400000000000 := by unfold I64; omega
  have j2 : I64 3600000000000 := by unfold I64; omega
  have j3 : I64 60000000000 := by unfold I64; omega
  have j4 : I64 1000000000 := by unfold I64; omega
  have j5 : I64 1 := by unfold I64; omega
  have j0 : I64 0 := by unfold I64; omega
  have r := uright_f 0 0 0 0 (x.tdiv 3600000000000) ((x.tmod 3600000000000).tdiv 60000000000) ((x.tmod 60000000000).tdiv 1000000000) (x.tmod 1000000000) ⟨j0, j0, j0, j0, g, g6, g7, g8⟩ k
  refine fn_of Try.func64 rfl fun ww => ?_
  refine st_fn ent37 (ulen5) sub0 (by kernel_rfl) ?_
  refine ufields_row 2 0 (by kernel_rfl) ?_
  refine st_round (by kernel_rfl) ?_
  refine st_fn ent37 (ulen5) sub0 (by kernel_rfl) ?_
  refine st_fn ent39 (wof_fn (3600000000000) (by assumption)) sub0 (by kernel_rfl) ?_
  refine st_fn ent84 (t0) sub0 (by kernel_rfl) ?_
  refine st_fn ent50 (wint_f (x.tdiv 3600000000000) (by assumption)) sub0 (by kernel_rfl) ?_
  refine st_i 21 .i64 (x' := 5 + 1) (Go.IntWalk.i64_in _ (by omega)) (by kernel_rfl) ?_
  refine st_round (by kernel_rfl) ?_
  refine st_fn ent37 (ulen6) sub0 (by kernel_rfl) ?_
  refine st_fn ent39 (wof_fn (60000000000) (by assumption)) sub0 (by kernel_rfl) ?_
  refine st_fn ent84 (t1) sub0 (by kernel_rfl) ?_
  refine st_fn ent50 (wint_f ((x.tmod 3600000000000).tdiv 60000000000) (by assumption)) sub0 (by kernel_rfl) ?_
  refine st_i 21 .i64 (x' := 5 + 1 + 1) (Go.IntWalk.i64_in _ (by omega)) (by kernel_rfl) ?_
  refine st_round (by kernel_rfl) ?_
  refine st_fn ent37 (ulen7) sub0 (by kernel_rfl) ?_
  refine st_fn ent39 (wof_fn (1000000000) (by assumption)) sub0 (by kernel_rfl) ?_
  refine st_fn ent84 (t2) sub0 (by kernel_rfl) ?_
  refine st_fn ent50 (wint_f ((x.tmod 60000000000).tdiv 1000000000) (by assumption)) sub0 (by kernel_rfl) ?_
  refine st_i 21 .i64 (x' := 5 + 1 + 1 + 1) (Go.IntWalk.i64_in _ (by omega)) (by kernel_rfl) ?_
  refine st_round (by kernel_rfl) ?_
  refine st_fn ent37 (ulen8) sub0 (by kernel_rfl) ?_
  refine st_fn ent39 (wof_fn (1) (by assumption)) sub0 (by kernel_rfl) ?_
  refine st_fn ent84 (t3) sub0 (by kernel_rfl) ?_
  refine st_fn ent50 (wint_f (x.tmod 1000000000) (by assumption)) sub0 (by kernel_rfl) ?_
  refine st_i 21 .i64 (x' := 5 + 1 + 1 + 1 + 1) (Go.IntWalk.i64_in _ (by omega)) (by kernel_rfl) ?_
  refine st_round (by kernel_rfl) ?_
  refine st_fn ent31 (r) sub0 (by kernel_rfl) ?_
  exact st_ret Try.func64 (by kernel_rfl)
theorem ulay5_o (x : Int) (hx : W128 x) (g : ¬ I64 (x.tdiv 3600000000000)) : Fn 64 [] [wv x, .int .i64 5] (.tuple #[du0, .int .i64 4]) := by
  obtain ⟨t0, m0⟩ := ttop x 3600000000000 hx (by omega) (by omega)
  have t1 := tch x 3600000000000 60000000000 hx (by omega) (by omega) (by decide) (by omega) (by omega)
  have t2 := tch x 60000000000 1000000000 hx (by omega) (by omega) (by decide) (by omega) (by omega)
  have t3 := tch x 1000000000 1 hx (by omega) (by omega) (by decide) (by omega) (by omega)
  rw [tdiv_1, tmod_1] at t3
  have g6 : I64 ((x.tmod 3600000000000).tdiv 60000000000) := by have := td2 x 3600000000000 60000000000 60 (by decide) (by omega) (by omega); unfold I64; omega
  have g7 : I64 ((x.tmod 60000000000).tdiv 1000000000) := by have := td2 x 60000000000 1000000000 60 (by decide) (by omega) (by omega); unfold I64; omega
  have g8 : I64 (x.tmod 1000000000) := by
    obtain ⟨e1, e2, e3⟩ := td x 1000000000 (by omega)
    by_cases z : 0 ≤ x
    · have := e2 z; unfold I64; omega
    · have := e3 (by omega); unfold I64; omega
  have j1 : I64 86400000000000 := by unfold I64; omega
  have j2 : I64 3600000000000 := by unfold I64; omega
  have j3 : I64 60000000000 := by unfold I64; omega
  have j4 : I64 1000000000 := by unfold I64; omega
  have j5 : I64 1 := by unfold I64; omega
  have j0 : I64 0 := by unfold I64; omega
  refine fn_of Try.func64 rfl fun ww => ?_
  refine st_fn ent37 (ulen5) sub0 (by kernel_rfl) ?_
  refine ufields_row 2 0 (by kernel_rfl) ?_
  refine st_round (by kernel_rfl) ?_
  refine st_fn ent37 (ulen5) sub0 (by kernel_rfl) ?_
  refine st_fn ent39 (wof_fn (3600000000000) (by assumption)) sub0 (by kernel_rfl) ?_
  refine st_fn ent84 (t0) sub0 (by kernel_rfl) ?_
  refine st_fn ent50 (wint_n (x.tdiv 3600000000000) (by assumption)) sub0 (by kernel_rfl) ?_
  exact st_ret Try.func64 (by kernel_rfl)
theorem ulay6_y (x : Int) (hx : W128 x) (g : I64 (x.tdiv 60000000000)) (k : uOk 0 0 0 0 0 (x.tdiv 60000000000) ((x.tmod 60000000000).tdiv 1000000000) (x.tmod 1000000000)) : Fn 64 [] [wv x, .int .i64 6] (.tuple #[duv 0 0 0 0 0 (x.tdiv 60000000000) ((x.tmod 60000000000).tdiv 1000000000) (x.tmod 1000000000), .int .i64 0]) := by
  obtain ⟨t0, m0⟩ := ttop x 60000000000 hx (by omega) (by omega)
  have t1 := tch x 60000000000 1000000000 hx (by omega) (by omega) (by decide) (by omega) (by omega)
  have t2 := tch x 1000000000 1 hx (by omega) (by omega) (by decide) (by omega) (by omega)
  rw [tdiv_1, tmod_1] at t2
  have g7 : I64 ((x.tmod 60000000000).tdiv 1000000000) := by have := td2 x 60000000000 1000000000 60 (by decide) (by omega) (by omega); unfold I64; omega
  have g8 : I64 (x.tmod 1000000000) := by
    obtain ⟨e1, e2, e3⟩ := td x 1000000000 (by omega)
    by_cases z : 0 ≤ x
    · have := e2 z; unfold I64; omega
    · have := e3 (by omega); unfold I64; omega
  have j1 : I64 86400000000000 := by unfold I64; omega
  have j2 : I64 3600000000000 := by unfold I64; omega
  have j3 : I64 60000000000 := by unfold I64; omega
  have j4 : I64 1000000000 := by unfold I64; omega
  have j5 : I64 1 := by unfold I64; omega
  have j0 : I64 0 := by unfold I64; omega
  have r := uright_y 0 0 0 0 0 (x.tdiv 60000000000) ((x.tmod 60000000000).tdiv 1000000000) (x.tmod 1000000000) ⟨j0, j0, j0, j0, j0, g, g7, g8⟩ k
  refine fn_of Try.func64 rfl fun ww => ?_
  refine st_fn ent37 (ulen6) sub0 (by kernel_rfl) ?_
  refine ufields_row 2 0 (by kernel_rfl) ?_
  refine st_round (by kernel_rfl) ?_
  refine st_fn ent37 (ulen6) sub0 (by kernel_rfl) ?_
  refine st_fn ent39 (wof_fn (60000000000) (by assumption)) sub0 (by kernel_rfl) ?_
  refine st_fn ent84 (t0) sub0 (by kernel_rfl) ?_
  refine st_fn ent50 (wint_f (x.tdiv 60000000000) (by assumption)) sub0 (by kernel_rfl) ?_
  refine st_i 21 .i64 (x' := 6 + 1) (Go.IntWalk.i64_in _ (by omega)) (by kernel_rfl) ?_
  refine st_round (by kernel_rfl) ?_
  refine st_fn ent37 (ulen7) sub0 (by kernel_rfl) ?_
  refine st_fn ent39 (wof_fn (1000000000) (by assumption)) sub0 (by kernel_rfl) ?_
  refine st_fn ent84 (t1) sub0 (by kernel_rfl) ?_
  refine st_fn ent50 (wint_f ((x.tmod 60000000000).tdiv 1000000000) (by assumption)) sub0 (by kernel_rfl) ?_
  refine st_i 21 .i64 (x' := 6 + 1 + 1) (Go.IntWalk.i64_in _ (by omega)) (by kernel_rfl) ?_
  refine st_round (by kernel_rfl) ?_
  refine st_fn ent37 (ulen8) sub0 (by kernel_rfl) ?_
  refine st_fn ent39 (wof_fn (1) (by assumption)) sub0 (by kernel_rfl) ?_
  refine st_fn ent84 (t2) sub0 (by kernel_rfl) ?_
  refine st_fn ent50 (wint_f (x.tmod 1000000000) (by assumption)) sub0 (by kernel_rfl) ?_
  refine st_i 21 .i64 (x' := 6 + 1 + 1 + 1) (Go.IntWalk.i64_in _ (by omega)) (by kernel_rfl) ?_
  refine st_round (by kernel_rfl) ?_
  refine st_fn ent31 (r) sub0 (by kernel_rfl) ?_
  exact st_ret Try.func64 (by kernel_rfl)
theorem ulay6_r (x : Int) (hx : W128 x) (g : I64 (x.tdiv 60000000000)) (k : ¬ uOk 0 0 0 0 0 (x.tdiv 60000000000) ((x.tmod 60000000000).tdiv 1000000000) (x.tmod 1000000000)) : Fn 64 [] [wv x, .int .i64 6] (.tuple #[du0, .int .i64 4]) := by
  obtain ⟨t0, m0⟩ := ttop x 60000000000 hx (by omega) (by omega)
  have t1 := tch x 60000000000 1000000000 hx (by omega) (by omega) (by decide) (by omega) (by omega)
  have t2 := tch x 1000000000 1 hx (by omega) (by omega) (by decide) (by omega) (by omega)
  rw [tdiv_1, tmod_1] at t2
  have g7 : I64 ((x.tmod 60000000000).tdiv 1000000000) := by have := td2 x 60000000000 1000000000 60 (by decide) (by omega) (by omega); unfold I64; omega
  have g8 : I64 (x.tmod 1000000000) := by
    obtain ⟨e1, e2, e3⟩ := td x 1000000000 (by omega)
    by_cases z : 0 ≤ x
    · have := e2 z; unfold I64; omega
    · have := e3 (by omega); unfold I64; omega
  have j1 : I64 86400000000000 := by unfold I64; omega
  have j2 : I64 3600000000000 := by unfold I64; omega
  have j3 : I64 60000000000 := by unfold I64; omega
  have j4 : I64 1000000000 := by unfold I64; omega
  have j5 : I64 1 := by unfold I64; omega
  have j0 : I64 0 := by unfold I64; omega
  have r := uright_f 0 0 0 0 0 (x.tdiv 60000000000) ((x.tmod 60000000000).tdiv 1000000000) (x.tmod 1000000000) ⟨j0, j0, j0, j0, j0, g, g7, g8⟩ k
  refine fn_of Try.func64 rfl fun ww => ?_
  refine st_fn ent37 (ulen6) sub0 (by kernel_rfl) ?_
  refine ufields_row 2 0 (by kernel_rfl) ?_
  refine st_round (by kernel_rfl) ?_
  refine st_fn ent37 (ulen6) sub0 (by kernel_rfl) ?_
  refine st_fn ent39 (wof_fn (60000000000) (by assumption)) sub0 (by kernel_rfl) ?_
  refine st_fn ent84 (t0) sub0 (by kernel_rfl) ?_
  refine st_fn ent50 (wint_f (x.tdiv 60000000000) (by assumption)) sub0 (by kernel_rfl) ?_
  refine st_i 21 .i64 (x' := 6 + 1) (Go.IntWalk.i64_in _ (by omega)) (by kernel_rfl) ?_
  refine st_round (by kernel_rfl) ?_
  refine st_fn ent37 (ulen7) sub0 (by kernel_rfl) ?_
  refine st_fn ent39 (wof_fn (1000000000) (by assumption)) sub0 (by kernel_rfl) ?_
  refine st_fn ent84 (t1) sub0 (by kernel_rfl) ?_
  refine st_fn ent50 (wint_f ((x.tmod 60000000000).tdiv 1000000000) (by assumption)) sub0 (by kernel_rfl) ?_
  refine st_i 21 .i64 (x' := 6 + 1 + 1) (Go.IntWalk.i64_in _ (by omega)) (by kernel_rfl) ?_
  refine st_round (by kernel_rfl) ?_
  refine st_fn ent37 (ulen8) sub0 (by kernel_rfl) ?_
  refine st_fn ent39 (wof_fn (1) (by assumption)) sub0 (by kernel_rfl) ?_
  refine st_fn ent84 (t2) sub0 (by kernel_rfl) ?_
  refine st_fn ent50 (wint_f (x.tmod 1000000000) (by assumption)) sub0 (by kernel_rfl) ?_
  refine st_i 21 .i64 (x' := 6 + 1 + 1 + 1) (Go.IntWalk.i64_in _ (by omega)) (by kernel_rfl) ?_
  refine st_round (by kernel_rfl) ?_
  refine st_fn ent31 (r) sub0 (by kernel_rfl) ?_
  exact st_ret Try.func64 (by kernel_rfl)
theorem ulay6_o (x : Int) (hx : W128 x) (g : ¬ I64 (x.tdiv 60000000000)) : Fn 64 [] [wv x, .int .i64 6] (.tuple #[du0, .int .i64 4]) := by
  obtain ⟨t0, m0⟩ := ttop x 60000000000 hx (by omega) (by omega)
  have t1 := tch x 60000000000 1000000000 hx (by omega) (by omega) (by decide) (by omega) (by omega)
  have t2 := tch x 1000000000 1 hx (by omega) (by omega) (by decide) (by omega) (by omega)
  rw [tdiv_1, tmod_1] at t2
  have g7 : I64 ((x.tmod 60000000000).tdiv 1000000000) := by have := td2 x 60000000000 1000000000 60 (by decide) (by omega) (by omega); unfold I64; omega
  have g8 : I64 (x.tmod 1000000000) := by
    obtain ⟨e1, e2, e3⟩ := td x 1000000000 (by omega)
    by_cases z : 0 ≤ x
    · have := e2 z; unfold I64; omega
    · have := e3 (by omega); unfold I64; omega
  have j1 : I64 86400000000000 := by unfold I64; omega
  have j2 : I64 3600000000000 := by unfold I64; omega
  have j3 : I64 60000000000 := by unfold I64; omega
  have j4 : I64 1000000000 := by unfold I64; omega
  have j5 : I64 1 := by unfold I64; omega
  have j0 : I64 0 := by unfold I64; omega
  refine fn_of Try.func64 rfl fun ww => ?_
  refine st_fn ent37 (ulen6) sub0 (by kernel_rfl) ?_
  refine ufields_row 2 0 (by kernel_rfl) ?_
  refine st_round (by kernel_rfl) ?_
  refine st_fn ent37 (ulen6) sub0 (by kernel_rfl) ?_
  refine st_fn ent39 (wof_fn (60000000000) (by assumption)) sub0 (by kernel_rfl) ?_
  refine st_fn ent84 (t0) sub0 (by kernel_rfl) ?_
  refine st_fn ent50 (wint_n (x.tdiv 60000000000) (by assumption)) sub0 (by kernel_rfl) ?_
  exact st_ret Try.func64 (by kernel_rfl)
theorem ulay7_y (x : Int) (hx : W128 x) (g : I64 (x.tdiv 1000000000)) (k : uOk 0 0 0 0 0 0 (x.tdiv 1000000000) (x.tmod 1000000000)) : Fn 64 [] [wv x, .int .i64 7] (.tuple #[duv 0 0 0 0 0 0 (x.tdiv 1000000000) (x.tmod 1000000000), .int .i64 0]) := by
  obtain ⟨t0, m0⟩ := ttop x 1000000000 hx (by omega) (by omega)
  have t1 := tch x 1000000000 1 hx (by omega) (by omega) (by decide) (by omega) (by omega)
  rw [tdiv_1, tmod_1] at t1
  have g8 : I64 (x.tmod 1000000000) := by
    obtain ⟨e1, e2, e3⟩ := td x 1000000000 (by omega)
    by_cases z : 0 ≤ x
    · have := e2 z; unfold I64; omega
    · have := e3 (by omega); unfold I64; omega
  have j1 : I64 86400000000000 := by unfold I64; omega
  have j2 : I64 3600000000000 := by unfold I64; omega
  have j3 : I64 60000000000 := by unfold I64; omega
  have j4 : I64 1000000000 := by unfold I64; omega
  have j5 : I64 1 := by unfold I64; omega
  have j0 : I64 0 := by unfold I64; omega
  have r := uright_y 0 0 0 0 0 0 (x.tdiv 1000000000) (x.tmod 1000000000) ⟨j0, j0, j0, j0, j0, j0, g, g8⟩ k
  refine fn_of Try.func64 rfl fun ww => ?_
  refine st_fn ent37 (ulen7) sub0 (by kernel_rfl) ?_
  refine ufields_row 2 0 (by kernel_rfl) ?_
  refine st_round (by kernel_rfl) ?_
  refine st_fn ent37 (ulen7) sub0 (by kernel_rfl) ?_
  refine st_fn ent39 (wof_fn (1000000000) (by assumption)) sub0 (by kernel_rfl) ?_
  refine st_fn ent84 (t0) sub0 (by kernel_rfl) ?_
  refine st_fn ent50 (wint_f (x.tdiv 1000000000) (by assumption)) sub0 (by kernel_rfl) ?_
  refine st_i 21 .i64 (x' := 7 + 1) (Go.IntWalk.i64_in _ (by omega)) (by kernel_rfl) ?_
  refine st_round (by kernel_rfl) ?_
  refine st_fn ent37 (ulen8) sub0 (by kernel_rfl) ?_
  refine st_fn ent39 (wof_fn (1) (by assumption)) sub0 (by kernel_rfl) ?_
  refine st_fn ent84 (t1) sub0 (by kernel_rfl) ?_
  refine st_fn ent50 (wint_f (x.tmod 1000000000) (by assumption)) sub0 (by kernel_rfl) ?_
  refine st_i 21 .i64 (x' := 7 + 1 + 1) (Go.IntWalk.i64_in _ (by omega)) (by kernel_rfl) ?_
  refine st_round (by kernel_rfl) ?_
  refine st_fn ent31 (r) sub0 (by kernel_rfl) ?_
  exact st_ret Try.func64 (by kernel_rfl)
theorem ulay7_r (x : Int) (hx : W128 x) (g : I64 (x.tdiv 1000000000)) (k : ¬ uOk 0 0 0 0 0 0 (x.tdiv 1000000000) (x.tmod 1000000000)) : Fn 64 [] [wv x, .int .i64 7] (.tuple #[du0, .int .i64 4]) := by
  obtain ⟨t0, m0⟩ := ttop x 1000000000 hx (by omega) (by omega)
  have t1 := tch x 1000000000 1 hx (by omega) (by omega) (by decide) (by omega) (by omega)
  rw [tdiv_1, tmod_1] at t1
  have g8 : I64 (x.tmod 1000000000) := by
    obtain ⟨e1, e2, e3⟩ := td x 1000000000 (by omega)
    by_cases z : 0 ≤ x
    · have := e2 z; unfold I64; omega
    · have := e3 (by omega); unfold I64; omega
  have j1 : I64 86400000000000 := by unfold I64; omega
  have j2 : I64 3600000000000 := by unfold I64; omega
  have j3 : I64 60000000000 := by unfold I64; omega
  have j4 : I64 1000000000 := by unfold I64; omega
  have j5 : I64 1 := by unfold I64; omega
  have j0 : I64 0 := by unfold I64; omega
  have r := uright_f 0 0 0 0 0 0 (x.tdiv 1000000000) (x.tmod 1000000000) ⟨j0, j0, j0, j0, j0, j0, g, g8⟩ k
  refine fn_of Try.func64 rfl fun ww => ?_
  refine st_fn ent37 (ulen7) sub0 (by kernel_rfl) ?_
  refine ufields_row 2 0 (by kernel_rfl) ?_
  refine st_round (by kernel_rfl) ?_
  refine st_fn ent37 (ulen7) sub0 (by kernel_rfl) ?_
  refine st_fn ent39 (wof_fn (1000000000) (by assumption)) sub0 (by kernel_rfl) ?_
  refine st_fn ent84 (t0) sub0 (by kernel_rfl) ?_
  refine st_fn ent50 (wint_f (x.tdiv 1000000000) (by assumption)) sub0 (by kernel_rfl) ?_
  refine st_i 21 .i64 (x' := 7 + 1) (Go.IntWalk.i64_in _ (by omega)) (by kernel_rfl) ?_
  refine st_round (by kernel_rfl) ?_
  refine st_fn ent37 (ulen8) sub0 (by kernel_rfl) ?_
  refine st_fn ent39 (wof_fn (1) (by assumption)) sub0 (by kernel_rfl) ?_
  refine st_fn ent84 (t1) sub0 (by kernel_rfl) ?_
  refine st_fn ent50 (wint_f (x.tmod 1000000000) (by assumption)) sub0 (by kernel_rfl) ?_
  refine st_i 21 .i64 (x' := 7 + 1 + 1) (Go.IntWalk.i64_in _ (by omega)) (by kernel_rfl) ?_
  refine st_round (by kernel_rfl) ?_
  refine st_fn ent31 (r) sub0 (by kernel_rfl) ?_
  exact st_ret Try.func64 (by kernel_rfl)
theorem ulay7_o (x : Int) (hx : W128 x) (g : ¬ I64 (x.tdiv 1000000000)) : Fn 64 [] [wv x, .int .i64 7] (.tuple #[du0, .int .i64 4]) := by
  obtain ⟨t0, m0⟩ := ttop x 1000000000 hx (by omega) (by omega)
  have t1 := tch x 1000000000 1 hx (by omega) (by omega) (by decide) (by omega) (by omega)
  rw [tdiv_1, tmod_1] at t1
  have g8 : I64 (x.tmod 1000000000) := by
    obtain ⟨e1, e2, e3⟩ := td x 1000000000 (by omega)
    by_cases z : 0 ≤ x
    · have := e2 z; unfold I64; omega
    · have := e3 (by omega); unfold I64; omega
  have j1 : I64 86400000000000 := by unfold I64; omega
  have j2 : I64 3600000000000 := by unfold I64; omega
  have j3 : I64 60000000000 := by unfold I64; omega
  have j4 : I64 1000000000 := by unfold I64; omega
  have j5 : I64 1 := by unfold I64; omega
  have j0 : I64 0 := by unfold I64; omega
  refine fn_of Try.func64 rfl fun ww => ?_
  refine st_fn ent37 (ulen7) sub0 (by kernel_rfl) ?_
  refine ufields_row 2 0 (by kernel_rfl) ?_
  refine st_round (by kernel_rfl) ?_
  refine st_fn ent37 (ulen7) sub0 (by kernel_rfl) ?_
  refine st_fn ent39 (wof_fn (1000000000) (by assumption)) sub0 (by kernel_rfl) ?_
  refine st_fn ent84 (t0) sub0 (by kernel_rfl) ?_
  refine st_fn ent50 (wint_n (x.tdiv 1000000000) (by assumption)) sub0 (by kernel_rfl) ?_
  exact st_ret Try.func64 (by kernel_rfl)
theorem ulay8_y (x : Int) (hx : W128 x) (g : I64 x) (k : uOk 0 0 0 0 0 0 0 x) : Fn 64 [] [wv x, .int .i64 8] (.tuple #[duv 0 0 0 0 0 0 0 x, .int .i64 0]) := by
  obtain ⟨t0, m0⟩ := ttop x 1 hx (by omega) (by omega)
  rw [tdiv_1, tmod_1] at t0
  have j1 : I64 86400000000000 := by unfold I64; omega
  have j2 : I64 3600000000000 := by unfold I64; omega
  have j3 : I64 60000000000 := by unfold I64; omega
  have j4 : I64 1000000000 := by unfold I64; omega
  have j5 : I64 1 := by unfold I64; omega
  have j0 : I64 0 := by unfold I64; omega
  have r := uright_y 0 0 0 0 0 0 0 x ⟨j0, j0, j0, j0, j0, j0, j0, g⟩ k
  refine fn_of Try.func64 rfl fun ww => ?_
  refine st_fn ent37 (ulen8) sub0 (by kernel_rfl) ?_
  refine ufields_row 2 0 (by kernel_rfl) ?_
  refine st_round (by kernel_rfl) ?_
  refine st_fn ent37 (ulen8) sub0 (by kernel_rfl) ?_
  refine st_fn ent39 (wof_fn (1) (by assumption)) sub0 (by kernel_rfl) ?_
  refine st_fn ent84 (t0) sub0 (by kernel_rfl) ?_
  refine st_fn ent50 (wint_f (x) (by assumption)) sub0 (by kernel_rfl) ?_
  refine st_i 21 .i64 (x' := 8 + 1) (Go.IntWalk.i64_in _ (by omega)) (by kernel_rfl) ?_
  refine st_round (by kernel_rfl) ?_
  refine st_fn ent31 (r) sub0 (by kernel_rfl) ?_
  exact st_ret Try.func64 (by kernel_rfl)
theorem ulay8_r (x : Int) (hx : W128 x) (g : I64 x) (k : ¬ uOk 0 0 0 0 0 0 0 x) : Fn 64 [] [wv x, .int .i64 8] (.tuple #[du0, .int .i64 4]) := by
  obtain ⟨t0, m0⟩ := ttop x 1 hx (by omega) (by omega)
  rw [tdiv_1, tmod_1] at t0
  have j1 : I64 86400000000000 := by unfold I64; omega
  have j2 : I64 3600000000000 := by unfold I64; omega
  have j3 : I64 60000000000 := by unfold I64; omega
  have j4 : I64 1000000000 := by unfold I64; omega
  have j5 : I64 1 := by unfold I64; omega
  have j0 : I64 0 := by unfold I64; omega
  have r := uright_f 0 0 0 0 0 0 0 x ⟨j0, j0, j0, j0, j0, j0, j0, g⟩ k
  refine fn_of Try.func64 rfl fun ww => ?_
  refine st_fn ent37 (ulen8) sub0 (by kernel_rfl) ?_
  refine ufields_row 2 0 (by kernel_rfl) ?_
  refine st_round (by kernel_rfl) ?_
  refine st_fn ent37 (ulen8) sub0 (by kernel_rfl) ?_
  refine st_fn ent39 (wof_fn (1) (by assumption)) sub0 (by kernel_rfl) ?_
  refine st_fn ent84 (t0) sub0 (by kernel_rfl) ?_
  refine st_fn ent50 (wint_f (x) (by assumption)) sub0 (by kernel_rfl) ?_
  refine st_i 21 .i64 (x' := 8 + 1) (Go.IntWalk.i64_in _ (by omega)) (by kernel_rfl) ?_
  refine st_round (by kernel_rfl) ?_
  refine st_fn ent31 (r) sub0 (by kernel_rfl) ?_
  exact st_ret Try.func64 (by kernel_rfl)
theorem ulay8_o (x : Int) (hx : W128 x) (g : ¬ I64 x) : Fn 64 [] [wv x, .int .i64 8] (.tuple #[du0, .int .i64 4]) := by
  obtain ⟨t0, m0⟩ := ttop x 1 hx (by omega) (by omega)
  rw [tdiv_1, tmod_1] at t0
  have j1 : I64 86400000000000 := by unfold I64; omega
  have j2 : I64 3600000000000 := by unfold I64; omega
  have j3 : I64 60000000000 := by unfold I64; omega
  have j4 : I64 1000000000 := by unfold I64; omega
  have j5 : I64 1 := by unfold I64; omega
  have j0 : I64 0 := by unfold I64; omega
  refine fn_of Try.func64 rfl fun ww => ?_
  refine st_fn ent37 (ulen8) sub0 (by kernel_rfl) ?_
  refine ufields_row 2 0 (by kernel_rfl) ?_
  refine st_round (by kernel_rfl) ?_
  refine st_fn ent37 (ulen8) sub0 (by kernel_rfl) ?_
  refine st_fn ent39 (wof_fn (1) (by assumption)) sub0 (by kernel_rfl) ?_
  refine st_fn ent84 (t0) sub0 (by kernel_rfl) ?_
  refine st_fn ent50 (wint_n (x) (by assumption)) sub0 (by kernel_rfl) ?_
  exact st_ret Try.func64 (by kernel_rfl)
end Go.Proofs.Ytccllfegnijpiaa
end
section
/-
  Ratio, by the program and by the reference.
-/
set_option linter.unusedVariables false
set_option maxRecDepth 100000
namespace Go.Proofs.Ytccllfegnijpiaa
open Go Go.RowKit Go.Ev

theorem z_neg {w : World} {q : ZQ} {x : Int} (h : ZOf q x w) : q.n = decide (x < 0) := (isZ_sign h).2
end Go.Proofs.Ytccllfegnijpiaa
end
