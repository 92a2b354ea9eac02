/-
  Texts joined: Dur, Ins, Enz, Inz, Wsum, Duc, Btw, Btt, Duh, Mw, Ml, Inw, Inl, Inm, In, Inn. Each says at its head what it shows.
-/
import Derived.OpenShut
import Derived.WideShapes
import Derived.Test.YtccllfegnijpiaaGreatPLc
section
/-
  Durations: totals, signs, what may be, and how a total is laid out; no program in sight.
-/
set_option linter.unusedVariables false
namespace Go.Proofs.YtccllfegnijpiaaGreat

abbrev LIM : Int := 9007199254740992000000000
def dtot (d h mi s n : Int) : Int := d * 86400000000000 + h * 3600000000000 + mi * 60000000000 + s * 1000000000 + n
def pos8 (a b c d h mi s n : Int) : Prop := 0 ≤ a ∧ 0 ≤ b ∧ 0 ≤ c ∧ 0 ≤ d ∧ 0 ≤ h ∧ 0 ≤ mi ∧ 0 ≤ s ∧ 0 ≤ n
def neg8 (a b c d h mi s n : Int) : Prop := a ≤ 0 ∧ b ≤ 0 ∧ c ≤ 0 ∧ d ≤ 0 ∧ h ≤ 0 ∧ mi ≤ 0 ∧ s ≤ 0 ∧ n ≤ 0
instance (a b c d h mi s n : Int) : Decidable (pos8 a b c d h mi s n) := by unfold pos8; infer_instance
instance (a b c d h mi s n : Int) : Decidable (neg8 a b c d h mi s n) := by unfold neg8; infer_instance
def cnt1 (a : Int) : Prop := -4294967295 ≤ a ∧ a ≤ 4294967295
instance (a : Int) : Decidable (cnt1 a) := by unfold cnt1; infer_instance
/-- A duration that may be. -/
def uOk (a b c d h mi s n : Int) : Prop := (pos8 a b c d h mi s n ∨ neg8 a b c d h mi s n) ∧ (cnt1 a ∧ cnt1 b ∧ cnt1 c) ∧ -LIM < dtot d h mi s n ∧ dtot d h mi s n < LIM
instance (a b c d h mi s n : Int) : Decidable (uOk a b c d h mi s n) := by unfold uOk; infer_instance
/-- One without years, months, weeks. -/
def uEx (a b c d h mi s n : Int) : Prop := uOk a b c d h mi s n ∧ a = 0 ∧ b = 0 ∧ c = 0
instance (a b c d h mi s n : Int) : Decidable (uEx a b c d h mi s n) := by unfold uEx; infer_instance
/-- A unit's length. -/
def ulen (u : Int) : Int := if u = 4 then 86400000000000 else if u = 5 then 3600000000000 else if u = 6 then 60000000000 else if u = 7 then 1000000000 else if u = 8 then 1 else 0
theorem ulen_no {u : Int} (h : u < 4 ∨ 8 < u) : ulen u = 0 := by unfold ulen; split <;> (try split) <;> (try split) <;> (try split) <;> (try split) <;> omega
theorem ulen_pos {u : Int} (h : 4 ≤ u) (k : u ≤ 8) : 1 ≤ ulen u ∧ ulen u ≤ 86400000000000 := by unfold ulen; split <;> (try split) <;> (try split) <;> (try split) <;> (try split) <;> omega
/-- The fields of a total x that is laid out from the unit u on. -/
def l4 (u x : Int) : Int := if u = 4 then x.tdiv 86400000000000 else 0
def l5 (u x : Int) : Int := if u = 4 then (x.tmod 86400000000000).tdiv 3600000000000 else if u = 5 then x.tdiv 3600000000000 else 0
def l7 (u x : Int) : Int := if u ≤ 6 then (x.tmod 60000000000).tdiv 1000000000 else if u = 7 then x.tdiv 1000000000 else 0
def l8 (u x : Int) : Int := if u ≤ 7 then x.tmod 1000000000 else x
theorem td (x L : Int) (hL : 0 < L) : x.tdiv L * L + x.tmod L = x ∧ (0 ≤ x → 0 ≤ x.tdiv L ∧ 0 ≤ x.tmod L ∧ x.tmod L < L) ∧ (x ≤ 0 → x.tdiv L ≤ 0 ∧ x.tmod L ≤ 0 ∧ -L < x.tmod L) := by
  have a := Int.tdiv_mul_add_tmod x L
  refine ⟨a, fun h => ⟨Int.tdiv_nonneg h (by omega), Int.tmod_nonneg L h, Int.tmod_lt_of_pos x hL⟩, fun h => ?_⟩
  have b := Int.tdiv_nonneg (a := -x) (b := L) (by omega) (by omega)
  have c := Int.tmod_nonneg (a := -x) L (by omega)
  have d := Int.tmod_lt_of_pos (-x) hL
  rw [Int.neg_tdiv] at b
  rw [Int.neg_tmod] at c d
  omega
/-- It may be, where its total may be, and its first field has room. -/
def layOk (u x : Int) : Prop := (4 ≤ u ∧ u ≤ 8) ∧ (-LIM < x ∧ x < LIM) ∧ (-9223372036854775808 ≤ x.tdiv (ulen u) ∧ x.tdiv (ulen u) ≤ 9223372036854775807)
instance (u x : Int) : Decidable (layOk u x) := by unfold layOk; infer_instance
/-- An increment of a unit. -/
def incOk (u i : Int) : Prop := 1 ≤ i ∧ (u = 4 ∧ i ≤ 1000000000 ∨ u = 5 ∧ i < 24 ∧ Int.tmod 24 i = 0 ∨ (u = 6 ∨ u = 7) ∧ i < 60 ∧ Int.tmod 60 i = 0 ∨ u = 8 ∧ i < 1000000000 ∧ Int.tmod 1000000000 i = 0)
instance (u i : Int) : Decidable (incOk u i) := by unfold incOk; infer_instance
end Go.Proofs.YtccllfegnijpiaaGreat
end
section
/-
  Points of time: what the program and the reference answer of layer 21.
-/
set_option linter.unusedVariables false
set_option maxRecDepth 100000
namespace Go.Proofs.YtccllfegnijpiaaGreat
open Go Go.RowKit Go.Ev

def nIn (x : Int) : Prop := -8640000000000000000000 ≤ x ∧ x ≤ 8640000000000000000000
instance (x : Int) : Decidable (nIn x) := by unfold nIn; infer_instance
theorem nIn_W {x : Int} (k : nIn x) : W128 x := by unfold nIn at k; unfold W128; omega
theorem cmpI_le {a b : Int} (h : a ≤ b) : cmpI a b ≤ 0 := by unfold cmpI; split <;> (try split) <;> omega
theorem imost : Fn 72 [] [] (wv 8640000000000000000000) := by
  have i1 : I64 100000000 := by unfold I64; omega
  have i2 : I64 86400000000000 := by unfold I64; omega
  refine fn_of Tryz.func72 rfl fun ww => ?_
  refine st_fn ent22 (wmul_f (100000000) (86400000000000) (by assumption) (by assumption)) sub0 (by kernel_rfl) ?_
  exact st_retv Tryz.func72 (show Value.agg #[Value.int IntKind.i64 (hi (100000000 * 86400000000000)), Value.int IntKind.u64 (lo (100000000 * 86400000000000))] = _ by rfl) (by kernel_rfl)
section
variable (x : Int)
theorem iright_yes (k : nIn x) : Fn 19 [] [wv x] (.bool true) := by
  have w1 : W128 8640000000000000000000 := by unfold W128; omega
  have w2 : W128 (-8640000000000000000000) := by unfold W128; omega
  have c1 : cmpI x 8640000000000000000000 ≤ 0 := cmpI_le k.2
  have c2 : 0 ≤ cmpI x (-8640000000000000000000) := (cmpI_ge _ _).2 k.1
  refine fn_of Tryz.func19 rfl fun ww => ?_
  refine st_fn ent72 (imost) sub0 (by kernel_rfl) ?_
  refine st_fn ent71 (wneg_yes (8640000000000000000000) (by assumption) (by assumption)) sub0 (by kernel_rfl) ?_
  refine st_fn ent72 (imost) sub0 (by kernel_rfl) ?_
  refine st_fn ent73 (wcmp_fn (x) (8640000000000000000000)) sub0 (by kernel_rfl) ?_
  refine st_b 13 (show (decide (cmpI x 8640000000000000000000 ≤ 0)) = true by exact decide_eq_true (by omega)) (by kernel_rfl) ?_
  refine st_fn ent73 (wcmp_fn (x) (-8640000000000000000000)) sub0 (by kernel_rfl) ?_
  exact st_retv Tryz.func19 (show Value.bool (decide (cmpI x (-8640000000000000000000) ≥ 0)) = _ by simp_all) (by kernel_rfl)
theorem iright_no (k : ¬ nIn x) : Fn 19 [] [wv x] (.bool false) := by
  have w1 : W128 8640000000000000000000 := by unfold W128; omega
  have w2 : W128 (-8640000000000000000000) := by unfold W128; omega
  by_cases h : 8640000000000000000000 < x
  · have c1 : cmpI x 8640000000000000000000 = 1 := cmpI_gt h
    refine fn_of Tryz.func19 rfl fun ww => ?_
    refine st_fn ent72 (imost) sub0 (by kernel_rfl) ?_
    refine st_fn ent71 (wneg_yes (8640000000000000000000) (by assumption) (by assumption)) sub0 (by kernel_rfl) ?_
    refine st_fn ent72 (imost) sub0 (by kernel_rfl) ?_
    refine st_fn ent73 (wcmp_fn (x) (8640000000000000000000)) sub0 (by kernel_rfl) ?_
    refine st_b 13 (show (decide (cmpI x 8640000000000000000000 ≤ 0)) = false by exact decide_eq_false (by omega)) (by kernel_rfl) ?_
    exact st_ret Tryz.func19 (by kernel_rfl)
  · have c1 : cmpI x 8640000000000000000000 ≤ 0 := cmpI_le (by omega)
    have c2 : cmpI x (-8640000000000000000000) = -1 := cmpI_lt (by unfold nIn at k; omega)
    refine fn_of Tryz.func19 rfl fun ww => ?_
    refine st_fn ent72 (imost) sub0 (by kernel_rfl) ?_
    refine st_fn ent71 (wneg_yes (8640000000000000000000) (by assumption) (by assumption)) sub0 (by kernel_rfl) ?_
    refine st_fn ent72 (imost) sub0 (by kernel_rfl) ?_
    refine st_fn ent73 (wcmp_fn (x) (8640000000000000000000)) sub0 (by kernel_rfl) ?_
    refine st_b 13 (show (decide (cmpI x 8640000000000000000000 ≤ 0)) = true by exact decide_eq_true (by omega)) (by kernel_rfl) ?_
    refine st_fn ent73 (wcmp_fn (x) (-8640000000000000000000)) sub0 (by kernel_rfl) ?_
    exact st_retv Tryz.func19 (show Value.bool (decide (cmpI x (-8640000000000000000000) ≥ 0)) = _ by simp_all) (by kernel_rfl)
theorem ichk_yes (k : nIn x) : Fn 33 [] [wv x, .int .i64 0] (.tuple #[wv x, .int .i64 0]) := by
  refine fn_of Tryz.func33 rfl fun ww => ?_
  refine st_fn ent19 (iright_yes (x) (by assumption)) sub0 (by kernel_rfl) ?_
  exact st_ret Tryz.func33 (by kernel_rfl)
theorem ichk_no (k : ¬ nIn x) : Fn 33 [] [wv x, .int .i64 0] (.tuple #[wz, .int .i64 4]) := by
  refine fn_of Tryz.func33 rfl fun ww => ?_
  refine st_fn ent19 (iright_no (x) (by assumption)) sub0 (by kernel_rfl) ?_
  exact st_ret Tryz.func33 (by kernel_rfl)
theorem zmost : FnZ 131 [] [] zv 8640000000000000000000 := by
  have i1 : I64 100000000 := by unfold I64; omega
  have i2 : I64 86400000000000 := by unfold I64; omega
  refine fnG_of Tryz.func131 rfl fun ww => ?_
  refine st_g ent30 (fzint (100000000) (by assumption)) sub0 (by kernel_rfl) (fun zq0 => ?_)
  refine st_g ent30 (fzint (86400000000000) (by assumption)) sub0 (by kernel_rfl) (fun zq1 => ?_)
  refine st_g ent29 (fzmul (zq0) (zq1) (100000000) (86400000000000) (by exact Bits.fit i1.w.bits (by decide)) (by exact Bits.fit i2.w.bits (by decide))) (subC 1 rfl (subC 0 rfl sub0)) (by kernel_rfl) (fun zq2 => ?_)
  exact st_retG (zq2) Tryz.func131 (subE 0 rfl (by rfl) sub0) (by kernel_rfl)
theorem zbillion : FnZ 31 [] [] zv 1000000000 := by
  have i1 : I64 1000000000 := by unfold I64; omega
  refine fnG_of Tryz.func31 rfl fun ww => ?_
  refine st_g ent30 (fzint (1000000000) (by assumption)) sub0 (by kernel_rfl) (fun zq0 => ?_)
  exact st_retG (zq0) Tryz.func31 (subE 0 rfl (by rfl) sub0) (by kernel_rfl)
variable (p : ZQ)
theorem zin_yes (hx : Bits 900 x) (k : nIn x) : Fn 81 [(p, x)] [zv p] (.bool true) := by
  have hm : Bits 900 8640000000000000000000 := Bits.mono (show W128 8640000000000000000000 by unfold W128; omega).bits (by decide)
  obtain ⟨X, hX⟩ : ∃ X : Int, X = (x.natAbs : Int) := ⟨_, rfl⟩
  have c1 : cmpI X 8640000000000000000000 ≤ 0 := cmpI_le (by unfold nIn at k; omega)
  have bX : Bits 900 X := by rw [hX]; exact hx.abs
  have fa : FnZ 112 [(p, x)] [zv p] zv X := by rw [hX]; exact fzabs p x (hx.fit (by decide))
  clear hX
  refine fn_of Tryz.func81 rfl fun ww => ?_
  refine st_g ent112 (fa) (subC 0 rfl sub0) (by kernel_rfl) (fun zq0 => ?_)
  refine st_g ent131 (zmost) sub0 (by kernel_rfl) (fun zq1 => ?_)
  refine st_fn ent111 (fzcmp (zq0) (zq1) (X) (8640000000000000000000) (by exact Bits.fit bX (by decide)) (by exact Bits.fit hm (by decide))) (subC 1 rfl (subC 0 rfl sub0)) (by kernel_rfl) ?_
  exact st_retv Tryz.func81 (show Value.bool (decide (cmpI X 8640000000000000000000 ≤ 0)) = _ by simp_all) (by kernel_rfl)
theorem zin_no (hx : Bits 900 x) (k : ¬ nIn x) : Fn 81 [(p, x)] [zv p] (.bool false) := by
  have hm : Bits 900 8640000000000000000000 := Bits.mono (show W128 8640000000000000000000 by unfold W128; omega).bits (by decide)
  obtain ⟨X, hX⟩ : ∃ X : Int, X = (x.natAbs : Int) := ⟨_, rfl⟩
  have c1 : cmpI X 8640000000000000000000 = 1 := cmpI_gt (by unfold nIn at k; omega)
  have bX : Bits 900 X := by rw [hX]; exact hx.abs
  have fa : FnZ 112 [(p, x)] [zv p] zv X := by rw [hX]; exact fzabs p x (hx.fit (by decide))
  clear hX
  refine fn_of Tryz.func81 rfl fun ww => ?_
  refine st_g ent112 (fa) (subC 0 rfl sub0) (by kernel_rfl) (fun zq0 => ?_)
  refine st_g ent131 (zmost) sub0 (by kernel_rfl) (fun zq1 => ?_)
  refine st_fn ent111 (fzcmp (zq0) (zq1) (X) (8640000000000000000000) (by exact Bits.fit bX (by decide)) (by exact Bits.fit hm (by decide))) (subC 1 rfl (subC 0 rfl sub0)) (by kernel_rfl) ?_
  exact st_retv Tryz.func81 (show Value.bool (decide (cmpI X 8640000000000000000000 ≤ 0)) = _ by simp_all) (by kernel_rfl)
theorem zright21_yes (hw : W128 x) (k : nIn x) : Fn 24 [] [wv x] (.bool true) := by
  refine fn_of Tryz.func24 rfl fun ww => ?_
  refine st_g ent28 (frof (x) (by assumption)) sub0 (by kernel_rfl) (fun zq0 => ?_)
  refine st_fn ent81 (zin_yes (x) (zq0) (by exact Bits.mono hw.bits (by decide)) (by assumption)) (subC 0 rfl sub0) (by kernel_rfl) ?_
  exact st_ret Tryz.func24 (by kernel_rfl)
theorem zright21_no (hw : W128 x) (k : ¬ nIn x) : Fn 24 [] [wv x] (.bool false) := by
  refine fn_of Tryz.func24 rfl fun ww => ?_
  refine st_g ent28 (frof (x) (by assumption)) sub0 (by kernel_rfl) (fun zq0 => ?_)
  refine st_fn ent81 (zin_no (x) (zq0) (by exact Bits.mono hw.bits (by decide)) (by assumption)) (subC 0 rfl sub0) (by kernel_rfl) ?_
  exact st_ret Tryz.func24 (by kernel_rfl)
theorem ztold21_yes (hx : Bits 900 x) (k : nIn x) : Fn 36 [(p, x)] [zv p] (.tuple #[wv x, .int .i64 0]) := by
  have hw := nIn_W k
  refine fn_of Tryz.func36 rfl fun ww => ?_
  refine st_fn ent81 (zin_yes (x) (p) (by exact Bits.mono hx (by decide)) (by assumption)) (subC 0 rfl sub0) (by kernel_rfl) ?_
  refine st_fn ent94 (frtold_yes (p) (x) (by exact Bits.mono hx (by decide)) (by assumption)) (subC 0 rfl sub0) (by kernel_rfl) ?_
  exact st_ret Tryz.func36 (by kernel_rfl)
theorem ztold21_no (hx : Bits 900 x) (k : ¬ nIn x) : Fn 36 [(p, x)] [zv p] (.tuple #[wz, .int .i64 4]) := by
  refine fn_of Tryz.func36 rfl fun ww => ?_
  refine st_fn ent81 (zin_no (x) (p) (by exact Bits.mono hx (by decide)) (by assumption)) (subC 0 rfl sub0) (by kernel_rfl) ?_
  exact st_ret Tryz.func36 (by kernel_rfl)
end
/-! split and join -/
def sQ (x : Int) : Int := x.fdiv 1000000000
def sR (x : Int) : Int := x.fmod 1000000000
theorem sQ_in {x : Int} (k : nIn x) : sQ x * 1000000000 + sR x = x ∧ 0 ≤ sR x ∧ sR x < 1000000000 ∧ -8640000000000 ≤ sQ x ∧ sQ x ≤ 8640000000000 := by
  unfold nIn at k; unfold sQ sR
  rw [Int.fdiv_eq_ediv_of_nonneg _ (by omega), Int.fmod_eq_emod_of_nonneg _ (by omega)]; omega
section
variable (x at_ rest : Int)
theorem dby_sec (hx : W128 x) : Fn 78 [] [wv x, .int .i64 1000000000] (.tuple #[wv (sQ x), .int .i64 (sR x), .int .i64 0]) := dby_f x 1000000000 hx (by omega) (by unfold I64; omega)
theorem isplit_yes (k : nIn x) : Fn 39 [] [wv x] (.tuple #[.int .i64 (sQ x), .int .i64 (sR x), .int .i64 0]) := by
  have hw := nIn_W k
  obtain ⟨q1, q2, q3, q4, q5⟩ := sQ_in k
  have i1 : I64 (sQ x) := by unfold I64; omega
  refine fn_of Tryz.func39 rfl fun ww => ?_
  refine st_fn ent19 (iright_yes (x) (by assumption)) sub0 (by kernel_rfl) ?_
  refine st_fn ent78 (dby_sec (x) (by assumption)) sub0 (by kernel_rfl) ?_
  refine st_fn ent47 (wint_f (sQ x) (by assumption)) sub0 (by kernel_rfl) ?_
  exact st_ret Tryz.func39 (by kernel_rfl)
end
/-! rounded -/
section
variable (x at_ off : Int) (y mo d h m s n : Int)
theorem ilocal_r (k : ¬ nIn x) : Fn 7 [] [wv x, .int .i64 off] (.tuple #[pt0, .int .i64 4]) := by
  refine fn_of Tryz.func7 rfl fun ww => ?_
  refine st_fn ent19 (iright_no (x) (by assumption)) sub0 (by kernel_rfl) ?_
  exact st_ret Tryz.func7 (by kernel_rfl)
def oOk (o : Int) : Prop := -86400 < o ∧ o < 86400
instance (o : Int) : Decidable (oOk o) := by unfold oOk; infer_instance
theorem iday_yes (k : oOk off) : Fn 20 [] [.int .i64 off] (.bool true) := by
  unfold oOk at k
  refine fn_of Tryz.func20 rfl fun ww => ?_
  refine st_b 4 (show (decide (off > -86400)) = true by exact decide_eq_true (by omega)) (by kernel_rfl) ?_
  exact st_retv Tryz.func20 (show Value.bool (decide (off < 86400)) = _ by simp_all) (by kernel_rfl)
theorem iday_no (k : ¬ oOk off) : Fn 20 [] [.int .i64 off] (.bool false) := by
  unfold oOk at k
  by_cases h : off ≤ -86400
  · refine fn_of Tryz.func20 rfl fun ww => ?_
    refine st_b 4 (show (decide (off > -86400)) = false by exact decide_eq_false (by omega)) (by kernel_rfl) ?_
    exact st_ret Tryz.func20 (by kernel_rfl)
  · have h' : 86400 ≤ off := by omega
    refine fn_of Tryz.func20 rfl fun ww => ?_
    refine st_b 4 (show (decide (off > -86400)) = true by exact decide_eq_true (by omega)) (by kernel_rfl) ?_
    exact st_retv Tryz.func20 (show Value.bool (decide (off < 86400)) = _ by simp_all) (by kernel_rfl)
theorem ilocal_a (k : nIn x) (o : ¬ oOk off) : Fn 7 [] [wv x, .int .i64 off] (.tuple #[pt0, .int .i64 1]) := by
  refine fn_of Tryz.func7 rfl fun ww => ?_
  refine st_fn ent19 (iright_yes (x) (by assumption)) sub0 (by kernel_rfl) ?_
  refine st_fn ent20 (iday_no (off) (by assumption)) sub0 (by kernel_rfl) ?_
  exact st_ret Tryz.func7 (by kernel_rfl)
theorem loc_in {x off : Int} (k : nIn x) (o : oOk off) : pIn (x + off * 1000000000) := by unfold nIn at k; unfold oOk at o; unfold pIn; omega
theorem ilocal_y (k : nIn x) (o : oOk off) : Fn 7 [] [wv x, .int .i64 off] (.tuple #[ptN (x + off * 1000000000), .int .i64 0]) := by
  have o' := o
  unfold oOk at o'
  have hp := loc_in k o
  have hw := nIn_W k
  have i1 : I64 off := by unfold I64; omega
  have i2 : I64 1000000000 := by unfold I64; omega
  have a1 : W128 (off * 1000000000) := by unfold W128; omega
  have a2 : W128 (x + off * 1000000000) := by unfold pIn at hp; unfold W128; omega
  refine fn_of Tryz.func7 rfl fun ww => ?_
  refine st_fn ent19 (iright_yes (x) (by assumption)) sub0 (by kernel_rfl) ?_
  refine st_fn ent20 (iday_yes (off) (by assumption)) sub0 (by kernel_rfl) ?_
  refine st_fn ent22 (wmul_f (off) (1000000000) (by assumption) (by assumption)) sub0 (by kernel_rfl) ?_
  refine st_fn ent21 (wadd_yes (x) (off * 1000000000) (by assumption) (by assumption) (by assumption)) sub0 (by kernel_rfl) ?_
  refine st_fn ent23 (pof_yes (x + off * 1000000000) (by assumption)) sub0 (by kernel_rfl) ?_
  exact st_ret Tryz.func7 (by kernel_rfl)
theorem ifrom_a1 (k : ¬ pOk y mo d h m s n) : Fn 9 [] [ptv y mo d h m s n, .int .i64 off] (.tuple #[wz, .int .i64 1]) := by
  refine fn_of Tryz.func9 rfl fun ww => ?_
  refine st_fn ent32 (pnanos_no (y) (mo) (d) (h) (m) (s) (n) (by assumption)) sub0 (by kernel_rfl) ?_
  exact st_ret Tryz.func9 (by kernel_rfl)
theorem ifrom_a2 (k : pOk y mo d h m s n) (o : ¬ oOk off) : Fn 9 [] [ptv y mo d h m s n, .int .i64 off] (.tuple #[wz, .int .i64 1]) := by
  refine fn_of Tryz.func9 rfl fun ww => ?_
  refine st_fn ent32 (pnanos_yes (y) (mo) (d) (h) (m) (s) (n) (by assumption)) sub0 (by kernel_rfl) ?_
  refine st_fn ent20 (iday_no (off) (by assumption)) sub0 (by kernel_rfl) ?_
  exact st_ret Tryz.func9 (by kernel_rfl)
theorem ifrom_y (k : pOk y mo d h m s n) (o : oOk off) (l : nIn (pnum y mo d h m s n - off * 1000000000)) : Fn 9 [] [ptv y mo d h m s n, .int .i64 off] (.tuple #[wv (pnum y mo d h m s n - off * 1000000000), .int .i64 0]) := by
  have i := pOk_in k
  have hx : W128 (pnum y mo d h m s n) := by unfold pIn at i; unfold W128; omega
  have o' := o
  unfold oOk at o'
  have i1 : I64 off := by unfold I64; omega
  have i2 : I64 1000000000 := by unfold I64; omega
  have a1 : W128 (off * 1000000000) := by unfold W128; omega
  have a2 := nIn_W l
  refine fn_of Tryz.func9 rfl fun ww => ?_
  refine st_fn ent32 (pnanos_yes (y) (mo) (d) (h) (m) (s) (n) (by assumption)) sub0 (by kernel_rfl) ?_
  refine st_fn ent20 (iday_yes (off) (by assumption)) sub0 (by kernel_rfl) ?_
  refine st_fn ent22 (wmul_f (off) (1000000000) (by assumption) (by assumption)) sub0 (by kernel_rfl) ?_
  refine st_fn ent34 (wsub_yes (pnum y mo d h m s n) (off * 1000000000) (by assumption) (by assumption) (by assumption)) sub0 (by kernel_rfl) ?_
  refine st_fn ent33 (ichk_yes (pnum y mo d h m s n - off * 1000000000) (by assumption)) sub0 (by kernel_rfl) ?_
  exact st_ret Tryz.func9 (by kernel_rfl)
theorem ifrom_n (k : pOk y mo d h m s n) (o : oOk off) (l : ¬ nIn (pnum y mo d h m s n - off * 1000000000)) : Fn 9 [] [ptv y mo d h m s n, .int .i64 off] (.tuple #[wz, .int .i64 4]) := by
  have i := pOk_in k
  have hx : W128 (pnum y mo d h m s n) := by unfold pIn at i; unfold W128; omega
  have o' := o
  unfold oOk at o'
  have i1 : I64 off := by unfold I64; omega
  have i2 : I64 1000000000 := by unfold I64; omega
  have a1 : W128 (off * 1000000000) := by unfold W128; omega
  have a2 : W128 (pnum y mo d h m s n - off * 1000000000) := by unfold pIn at i; unfold W128; omega
  refine fn_of Tryz.func9 rfl fun ww => ?_
  refine st_fn ent32 (pnanos_yes (y) (mo) (d) (h) (m) (s) (n) (by assumption)) sub0 (by kernel_rfl) ?_
  refine st_fn ent20 (iday_yes (off) (by assumption)) sub0 (by kernel_rfl) ?_
  refine st_fn ent22 (wmul_f (off) (1000000000) (by assumption) (by assumption)) sub0 (by kernel_rfl) ?_
  refine st_fn ent34 (wsub_yes (pnum y mo d h m s n) (off * 1000000000) (by assumption) (by assumption) (by assumption)) sub0 (by kernel_rfl) ?_
  refine st_fn ent33 (ichk_no (pnum y mo d h m s n - off * 1000000000) (by assumption)) sub0 (by kernel_rfl) ?_
  exact st_ret Tryz.func9 (by kernel_rfl)
end
end Go.Proofs.YtccllfegnijpiaaGreat
end
section
/-
  Functions that are entered when they are called (those that only some seats have).
-/
namespace Go.Proofs.YtccllfegnijpiaaGreat
open Go Go.Ev
theorem ent8 : Enters Tryz.prog 8 := enters_of Tryz.func8 (by kernel_rfl) rfl
theorem ent10 : Enters Tryz.prog 10 := enters_of Tryz.func10 (by kernel_rfl) rfl
theorem ent25 : Enters Tryz.prog 25 := enters_of Tryz.func25 (by kernel_rfl) rfl
end Go.Proofs.YtccllfegnijpiaaGreat
end
section
/-
  Points of time: what the reference answers of layer 21 (local times).
-/
set_option linter.unusedVariables false
set_option maxRecDepth 100000
namespace Go.Proofs.YtccllfegnijpiaaGreat
open Go Go.RowKit Go.Ev

section
variable (x at_ off : Int) (y mo d h m s n : Int)
theorem zday_yes (k : oOk off) : Fn 25 [] [.int .i64 off] (.bool true) := by
  unfold oOk at k
  refine fn_of Tryz.func25 rfl fun ww => ?_
  refine st_b 4 (show (decide (off > -86400)) = true by exact decide_eq_true (by omega)) (by kernel_rfl) ?_
  exact st_retv Tryz.func25 (show Value.bool (decide (off < 86400)) = _ by simp_all) (by kernel_rfl)
theorem zday_no (k : ¬ oOk off) : Fn 25 [] [.int .i64 off] (.bool false) := by
  unfold oOk at k
  by_cases h : off ≤ -86400
  · refine fn_of Tryz.func25 rfl fun ww => ?_
    refine st_b 4 (show (decide (off > -86400)) = false by exact decide_eq_false (by omega)) (by kernel_rfl) ?_
    exact st_ret Tryz.func25 (by kernel_rfl)
  · have h' : 86400 ≤ off := by omega
    refine fn_of Tryz.func25 rfl fun ww => ?_
    refine st_b 4 (show (decide (off > -86400)) = true by exact decide_eq_true (by omega)) (by kernel_rfl) ?_
    exact st_retv Tryz.func25 (show Value.bool (decide (off < 86400)) = _ by simp_all) (by kernel_rfl)
theorem zlocal_r (hw : W128 x) (k : ¬ nIn x) : Fn 8 [] [wv x, .int .i64 off] (.tuple #[pt0, .int .i64 4]) := by
  refine fn_of Tryz.func8 rfl fun ww => ?_
  refine st_fn ent24 (zright21_no (x) (by assumption) (by assumption)) sub0 (by kernel_rfl) ?_
  exact st_ret Tryz.func8 (by kernel_rfl)
theorem zlocal_a (k : nIn x) (o : ¬ oOk off) : Fn 8 [] [wv x, .int .i64 off] (.tuple #[pt0, .int .i64 1]) := by
  have hw := nIn_W k
  refine fn_of Tryz.func8 rfl fun ww => ?_
  refine st_fn ent24 (zright21_yes (x) (by assumption) (by assumption)) sub0 (by kernel_rfl) ?_
  refine st_fn ent25 (zday_no (off) (by assumption)) sub0 (by kernel_rfl) ?_
  exact st_ret Tryz.func8 (by kernel_rfl)
theorem zlocal_y (k : nIn x) (o : oOk off) : Fn 8 [] [wv x, .int .i64 off] (.tuple #[ptN (x + off * 1000000000), .int .i64 0]) := by
  have o' := o
  unfold oOk at o'
  have hp := loc_in k o
  have hw := nIn_W k
  have i1 : I64 off := by unfold I64; omega
  have i2 : I64 1000000000 := by unfold I64; omega
  refine fn_of Tryz.func8 rfl fun ww => ?_
  refine st_fn ent24 (zright21_yes (x) (by assumption) (by assumption)) sub0 (by kernel_rfl) ?_
  refine st_fn ent25 (zday_yes (off) (by assumption)) sub0 (by kernel_rfl) ?_
  refine st_g ent28 (frof (x) (by assumption)) sub0 (by kernel_rfl) (fun zq2 => ?_)
  refine st_g ent30 (fzint (off) (by assumption)) sub0 (by kernel_rfl) (fun zq3 => ?_)
  refine st_g ent31 (zbillion) sub0 (by kernel_rfl) (fun zq4 => ?_)
  refine st_g ent29 (fzmul (zq3) (zq4) (off) (1000000000) (by exact Bits.fit i1.w.bits (by decide)) (by exact Bits.fit i2.w.bits (by decide))) (subC 1 rfl (subC 0 rfl sub0)) (by kernel_rfl) (fun zq5 => ?_)
  refine st_g ent27 (fzadd (zq2) (zq5) (x) (off * 1000000000) (by exact Bits.fit hw.bits (by decide)) (by exact Bits.fit (Bits.mul i1.w.bits i2.w.bits) (by decide))) (subC 3 rfl (subC 0 rfl sub0)) (by kernel_rfl) (fun zq6 => ?_)
  refine st_fn ent26 (zof7_yes (zq6) (x + off * 1000000000) (by assumption)) (subC 0 rfl sub0) (by kernel_rfl) ?_
  exact st_ret Tryz.func8 (by kernel_rfl)
theorem zfrom_a1 (k : ¬ pOk y mo d h m s n) : Fn 10 [] [ptv y mo d h m s n, .int .i64 off] (.tuple #[wz, .int .i64 1]) := by
  refine fn_of Tryz.func10 rfl fun ww => ?_
  refine st_fn ent35 (zright7_no (y) (mo) (d) (h) (m) (s) (n) (by assumption)) sub0 (by kernel_rfl) ?_
  exact st_ret Tryz.func10 (by kernel_rfl)
theorem zfrom_a2 (k : pOk y mo d h m s n) (o : ¬ oOk off) : Fn 10 [] [ptv y mo d h m s n, .int .i64 off] (.tuple #[wz, .int .i64 1]) := by
  refine fn_of Tryz.func10 rfl fun ww => ?_
  refine st_fn ent35 (zright7_yes (y) (mo) (d) (h) (m) (s) (n) (by assumption)) sub0 (by kernel_rfl) ?_
  refine st_fn ent25 (zday_no (off) (by assumption)) sub0 (by kernel_rfl) ?_
  exact st_ret Tryz.func10 (by kernel_rfl)
theorem zfrom_y (k : pOk y mo d h m s n) (o : oOk off) (l : nIn (pnum y mo d h m s n - off * 1000000000)) : Fn 10 [] [ptv y mo d h m s n, .int .i64 off] (.tuple #[wv (pnum y mo d h m s n - off * 1000000000), .int .i64 0]) := by
  have i := pOk_in k
  have hx : W128 (pnum y mo d h m s n) := by unfold pIn at i; unfold W128; omega
  have o' := o
  unfold oOk at o'
  have i1 : I64 off := by unfold I64; omega
  have i2 : I64 1000000000 := by unfold I64; omega
  refine fn_of Tryz.func10 rfl fun ww => ?_
  refine st_fn ent35 (zright7_yes (y) (mo) (d) (h) (m) (s) (n) (by assumption)) sub0 (by kernel_rfl) ?_
  refine st_fn ent25 (zday_yes (off) (by assumption)) sub0 (by kernel_rfl) ?_
  refine st_g ent38 (znanos7 (y) (mo) (d) (h) (m) (s) (n) (by assumption)) sub0 (by kernel_rfl) (fun zq2 => ?_)
  refine st_g ent30 (fzint (off) (by assumption)) sub0 (by kernel_rfl) (fun zq3 => ?_)
  refine st_g ent31 (zbillion) sub0 (by kernel_rfl) (fun zq4 => ?_)
  refine st_g ent29 (fzmul (zq3) (zq4) (off) (1000000000) (by exact Bits.fit i1.w.bits (by decide)) (by exact Bits.fit i2.w.bits (by decide))) (subC 1 rfl (subC 0 rfl sub0)) (by kernel_rfl) (fun zq5 => ?_)
  refine st_g ent37 (fzsub (zq2) (zq5) (pnum y mo d h m s n) (off * 1000000000) (by exact Bits.fit hx.bits (by decide)) (by exact Bits.fit (Bits.mul i1.w.bits i2.w.bits) (by decide))) (subC 3 rfl (subC 0 rfl sub0)) (by kernel_rfl) (fun zq6 => ?_)
  refine st_fn ent36 (ztold21_yes (pnum y mo d h m s n - off * 1000000000) (zq6) (by exact Bits.mono (Bits.sub (Bits.mono (l := 256) hx.bits (by decide)) (Bits.mono (l := 256) (Bits.mul i1.w.bits i2.w.bits) (by decide))) (by decide)) (by assumption)) (subC 0 rfl sub0) (by kernel_rfl) ?_
  exact st_ret Tryz.func10 (by kernel_rfl)
theorem zfrom_n (k : pOk y mo d h m s n) (o : oOk off) (l : ¬ nIn (pnum y mo d h m s n - off * 1000000000)) : Fn 10 [] [ptv y mo d h m s n, .int .i64 off] (.tuple #[wz, .int .i64 4]) := by
  have i := pOk_in k
  have hx : W128 (pnum y mo d h m s n) := by unfold pIn at i; unfold W128; omega
  have o' := o
  unfold oOk at o'
  have i1 : I64 off := by unfold I64; omega
  have i2 : I64 1000000000 := by unfold I64; omega
  refine fn_of Tryz.func10 rfl fun ww => ?_
  refine st_fn ent35 (zright7_yes (y) (mo) (d) (h) (m) (s) (n) (by assumption)) sub0 (by kernel_rfl) ?_
  refine st_fn ent25 (zday_yes (off) (by assumption)) sub0 (by kernel_rfl) ?_
  refine st_g ent38 (znanos7 (y) (mo) (d) (h) (m) (s) (n) (by assumption)) sub0 (by kernel_rfl) (fun zq2 => ?_)
  refine st_g ent30 (fzint (off) (by assumption)) sub0 (by kernel_rfl) (fun zq3 => ?_)
  refine st_g ent31 (zbillion) sub0 (by kernel_rfl) (fun zq4 => ?_)
  refine st_g ent29 (fzmul (zq3) (zq4) (off) (1000000000) (by exact Bits.fit i1.w.bits (by decide)) (by exact Bits.fit i2.w.bits (by decide))) (subC 1 rfl (subC 0 rfl sub0)) (by kernel_rfl) (fun zq5 => ?_)
  refine st_g ent37 (fzsub (zq2) (zq5) (pnum y mo d h m s n) (off * 1000000000) (by exact Bits.fit hx.bits (by decide)) (by exact Bits.fit (Bits.mul i1.w.bits i2.w.bits) (by decide))) (subC 3 rfl (subC 0 rfl sub0)) (by kernel_rfl) (fun zq6 => ?_)
  refine st_fn ent36 (ztold21_no (pnum y mo d h m s n - off * 1000000000) (zq6) (by exact Bits.mono (Bits.sub (Bits.mono (l := 256) hx.bits (by decide)) (Bits.mono (l := 256) (Bits.mul i1.w.bits i2.w.bits) (by decide))) (by decide)) (by assumption)) (subC 0 rfl sub0) (by kernel_rfl) ?_
  exact st_ret Tryz.func10 (by kernel_rfl)
end
end Go.Proofs.YtccllfegnijpiaaGreat
end
section
/-
  A slice of wide numbers that came in; wide.Sum.
-/
set_option linter.unusedSimpArgs false
namespace Go.Proofs.YtccllfegnijpiaaGreat
open Go Go.RowKit

/-- The i-th of some numbers. -/
def nth (ns : List Int) (i : Nat) : Int := ns.getD i 0
/-- The slice value v reads, in w, as the wide numbers ns; its cells lie in a block below B. -/
def WRow (B : Nat) (w : World) (v : Value) (ns : List Int) : Prop :=
  ∃ (a : Option Addr) (cap b off : Nat), v = .slice a ns.length cap ∧ (0 < ns.length → a = some ⟨b, off, none⟩ ∧ b < B) ∧
    ∀ i, i < ns.length → w.cell? ⟨b, off + 2 * i, none⟩ = some (.int .i64 (hi (nth ns i))) ∧ w.cell? ⟨b, off + 2 * i + 1, none⟩ = some (.int .u64 (lo (nth ns i)))
theorem WRow.ext {B : Nat} {w w' : World} {v : Value} {ns : List Int} (h : WRow B w v ns) (hB : B ≤ w.heap.size) (x : Ext w w') : WRow B w' v ns := by
  obtain ⟨a, cap, b, off, rfl, h2, h3⟩ := h
  refine ⟨a, cap, b, off, rfl, h2, fun i hi => ?_⟩
  have hb := (h2 (by omega)).2
  exact ⟨(Below.cell x (p := ⟨b, off + 2 * i, none⟩) (by show b < _; omega)).trans (h3 i hi).1, (Below.cell x (p := ⟨b, off + 2 * i + 1, none⟩) (by show b < _; omega)).trans (h3 i hi).2⟩
/-- What a round of the sum comes to. -/
def wt (s n : Int) : Int := hsum (hi s) (hi n) ((lo s + lo n) / 18446744073709551616) * 18446744073709551616 + (lo s + lo n) % 18446744073709551616
end Go.Proofs.YtccllfegnijpiaaGreat
end
section
/-
  Durations: fields, signs, totals, as the program reckons them.
-/
set_option linter.unusedVariables false
set_option maxRecDepth 100000
namespace Go.Proofs.YtccllfegnijpiaaGreat
open Go Go.RowKit Go.Ev

theorem ulen4 : Fn 96 [] [.int .i64 4] (.int .i64 86400000000000) := by
  refine fn_of Tryz.func96 rfl fun ww => ?_
  refine st_i 11 .i64 (x' := 4 - 4) (Go.IntWalk.i64_in _ (by omega)) (by kernel_rfl) ?_
  exact st_ret Tryz.func96 (by kernel_rfl)
theorem ulen5 : Fn 96 [] [.int .i64 5] (.int .i64 3600000000000) := by
  refine fn_of Tryz.func96 rfl fun ww => ?_
  refine st_i 11 .i64 (x' := 5 - 4) (Go.IntWalk.i64_in _ (by omega)) (by kernel_rfl) ?_
  exact st_ret Tryz.func96 (by kernel_rfl)
theorem ulen6 : Fn 96 [] [.int .i64 6] (.int .i64 60000000000) := by
  refine fn_of Tryz.func96 rfl fun ww => ?_
  refine st_i 11 .i64 (x' := 6 - 4) (Go.IntWalk.i64_in _ (by omega)) (by kernel_rfl) ?_
  exact st_ret Tryz.func96 (by kernel_rfl)
theorem ulen7 : Fn 96 [] [.int .i64 7] (.int .i64 1000000000) := by
  refine fn_of Tryz.func96 rfl fun ww => ?_
  refine st_i 11 .i64 (x' := 7 - 4) (Go.IntWalk.i64_in _ (by omega)) (by kernel_rfl) ?_
  exact st_ret Tryz.func96 (by kernel_rfl)
theorem ulen8 : Fn 96 [] [.int .i64 8] (.int .i64 1) := by
  refine fn_of Tryz.func96 rfl fun ww => ?_
  refine st_i 11 .i64 (x' := 8 - 4) (Go.IntWalk.i64_in _ (by omega)) (by kernel_rfl) ?_
  exact st_ret Tryz.func96 (by kernel_rfl)
theorem ulen_o (u : Int) (h : u < 4 ∨ 8 < u) : Fn 96 [] [.int .i64 u] (.int .i64 0) := by
  by_cases k : u < 4
  · refine fn_of Tryz.func96 rfl fun ww => ?_
    refine st_b 4 (show (decide (u < 4)) = true by exact decide_eq_true (by omega)) (by kernel_rfl) ?_
    exact st_ret Tryz.func96 (by kernel_rfl)
  · have k' : 8 < u := by omega
    refine fn_of Tryz.func96 rfl fun ww => ?_
    refine st_b 4 (show (decide (u < 4)) = false by exact decide_eq_false (by omega)) (by kernel_rfl) ?_
    refine st_b 7 (show (decide (u > 8)) = true by exact decide_eq_true (by omega)) (by kernel_rfl) ?_
    exact st_ret Tryz.func96 (by kernel_rfl)
theorem units {u : Int} (h : 4 ≤ u) (k : u ≤ 8) : u = 4 ∨ u = 5 ∨ u = 6 ∨ u = 7 ∨ u = 8 := by omega
theorem ulen_fn (u : Int) : Fn 96 [] [.int .i64 u] (.int .i64 (ulen u)) := by
  by_cases h : 4 ≤ u ∧ u ≤ 8
  · rcases units h.1 h.2 with rfl | rfl | rfl | rfl | rfl
    · exact ulen4
    · exact ulen5
    · exact ulen6
    · exact ulen7
    · exact ulen8
  · rw [ulen_no (by omega)]
    exact ulen_o u (by omega)
end Go.Proofs.YtccllfegnijpiaaGreat
end
section
/-
  What lies between two days, and between two date-times; no program in sight.
-/
set_option linter.unusedVariables false
namespace Go.Proofs.YtccllfegnijpiaaGreat

section
variable (L y m d y' m' d' : Int)
def uS : Int := cmp3 y' m' d' y m d
end
end Go.Proofs.YtccllfegnijpiaaGreat
end
section
/-
  What lies between two date-times; no program in sight.
-/
set_option linter.unusedVariables false
namespace Go.Proofs.YtccllfegnijpiaaGreat

section
variable (y mo d h m s n y' mo' d' h' m' s' n' : Int)
/-- A day more, where the times stand against the days. -/
def bX : Int := if (tnan h' m' s' n' - tnan h m s n) * uS y mo d y' mo' d' < 0 then uS y mo d y' mo' d' else 0
end
end Go.Proofs.YtccllfegnijpiaaGreat
end
section
/-
  Durations: increments, sums, rounding; the laws DurationUnits, DurationLays, DurationTotals.
-/
set_option linter.unusedVariables false
set_option linter.unusedSimpArgs false
set_option maxRecDepth 100000
namespace Go.Proofs.YtccllfegnijpiaaGreat
open Go Go.RowKit Go.Ev

section
variable (u i : Int)
theorem I64.w' {x : Int} (h : I64 x) : W128 x := h.w
end
end Go.Proofs.YtccllfegnijpiaaGreat
end
section
/-
  Calls where some blocks of the memory are known; what is read of them.
-/
set_option linter.unusedVariables false
namespace Go.Proofs.YtccllfegnijpiaaGreat
open Go Go.RowKit Go.Ev

/-- These blocks hold these values. -/
def Mem (l : List (Nat × List Value × TypeId)) (w : World) : Prop := ∀ p ∈ l, w.heap[p.1]? = some (.cells p.2.1.toArray p.2.2 (0, 0))
theorem Mem.stable {E : List TypeId} {l : List (Nat × List Value × TypeId)} (h : ∀ p ∈ l, p.2.2 ∈ E) : Stable E (Mem l) := fun w w' hk hw p hp => hk _ _ _ _ (h p hp) (hw p hp)
section
variable {f0 : FuncId} {E : List TypeId} {w0 : World} {R : Ending → World → Prop} {L : ZL} {G : World → Prop} {c : Cf}
/-- What a round may use: the loop from a later round on. -/
structure BackG (C : Cx) (c : Cf) {X : Type} (I : X → List SV × List Bk) (G : World → Prop) (p : X → Prop) (m : X → Nat) (x : X) : Prop where
  h : ∀ x' (G' : World → Prop), m x' < m x → p x' → (∀ w, G' w → G w) → Run C G' (backL c (I x'))
end
end Go.Proofs.YtccllfegnijpiaaGreat
end
section
/-
  Calls that are given pointers into blocks of their caller's.
-/
set_option linter.unusedVariables false
namespace Go.Ev
open Go Go.RowKit

end Go.Ev
namespace Go.Proofs.YtccllfegnijpiaaGreat
open Go Go.RowKit Go.Ev

section
variable {f0 : FuncId} {E : List TypeId} {w0 : World} {R : Ending → World → Prop} {G : World → Prop} {c : Cf}
/-- A quotient or a rest that stands next. -/
theorem st_div0 {q : Bool} {T : TypeId} {xv yv v : Value} (h : ∀ w, (binOp (if q = true then .quo else .rem) T xv yv).run Tryz.prog w = .ok v w) (hc : divAt c = some (q, T, xv, yv)) (hk : Ru ⟨Tryz.prog, f0, E, w0, R⟩ G (resume c (.val v))) : Ru ⟨Tryz.prog, f0, E, w0, R⟩ G c :=
  ⟨run_div hc h hk.h⟩
end
end Go.Proofs.YtccllfegnijpiaaGreat
end
section
/-
  Points of time: durations put to them, what lies between, rounding.
-/
set_option linter.unusedVariables false
set_option linter.unusedSimpArgs false
set_option maxRecDepth 100000
namespace Go.Proofs.YtccllfegnijpiaaGreat
open Go Go.RowKit Go.Ev

/-- A duration that may be put to a point of time. -/
def uTm (a b c d h mi s n : Int) : Prop := uEx a b c d h mi s n ∧ d = 0
instance (a b c d h mi s n : Int) : Decidable (uTm a b c d h mi s n) := by unfold uTm; infer_instance
section
variable (w u i m : Int)
theorem ulen_day {u : Int} (l : 5 ≤ u) (l2 : u ≤ 8) : (86400000000000 : Int).tdiv (ulen u) * ulen u = 86400000000000 ∧ 24 ≤ (86400000000000 : Int).tdiv (ulen u) ∧ (86400000000000 : Int).tdiv (ulen u) ≤ 86400000000000 := by
  have h : u = 5 ∨ u = 6 ∨ u = 7 ∨ u = 8 := by omega
  rcases h with rfl | rfl | rfl | rfl <;> decide
theorem step_b {u i : Int} (l : 5 ≤ u) (l2 : u ≤ 8) (hi : 1 ≤ i) (hb : i ≤ (86400000000000 : Int).tdiv (ulen u)) : 1 ≤ i * ulen u ∧ i * ulen u ≤ 86400000000000 := by
  have g := ulen_pos (show 4 ≤ u by omega) l2
  have g2 := ulen_day l l2
  have a := Int.mul_le_mul_of_nonneg_right hb (show 0 ≤ ulen u by omega)
  have b := Int.mul_le_mul_of_nonneg_right hi (show 0 ≤ ulen u by omega)
  omega
theorem irnd_v (st : Int) (hst : i * ulen u = st) (k : nIn w) (l : 5 ≤ u) (l2 : u ≤ 8) (hi : 1 ≤ i) (hb : i ≤ (86400000000000 : Int).tdiv (ulen u)) (ht : (86400000000000 : Int).tmod st = 0) (x y e : Int) (hr : Fn 97 [] [wv w, wv st, .int .i64 m] (.tuple #[wv x, .int .i64 0])) (hc : Fn 33 [] [wv x, .int .i64 0] (.tuple #[wv y, .int .i64 e])) : Fn 41 [] [wv w, .int .i64 u, .int .i64 i, .int .i64 m] (.tuple #[wv y, .int .i64 e]) := by
  have g := ulen_pos (show 4 ≤ u by omega) l2
  have g2 := ulen_day l l2
  have sb := step_b l l2 hi hb
  rw [hst] at sb
  have i1 : I64 st := by unfold I64; omega
  refine fn_of Tryz.func41 rfl fun ww => ?_
  refine st_fn ent19 (iright_yes (w) (by assumption)) sub0 (by kernel_rfl) ?_
  refine st_fn ent96 (ulen_fn (u)) sub0 (by kernel_rfl) ?_
  refine st_b 20 (show (u == 4) = false by exact decide_eq_false (by omega)) (by kernel_rfl) ?_
  refine st_b 23 (show (ulen u == 0) = false by exact decide_eq_false (by omega)) (by kernel_rfl) ?_
  refine st_b 27 (show (decide (i < 1)) = false by exact decide_eq_false (by omega)) (by kernel_rfl) ?_
  refine st_div 31 (fun w => quo_run64 (T := 2) (x := 86400000000000) (y := ulen u) (by omega) w (by omega) (by omega)) (by kernel_rfl) ?_
  refine st_b 33 (show (decide (i > Int.tdiv 86400000000000 (ulen u))) = false by exact decide_eq_false (by omega)) (by kernel_rfl) ?_
  refine st_i 38 IntKind.i64 (x := IntKind.i64.wrap (i * ulen u)) ((Go.IntWalk.i64_in (i * ulen u) (by omega)).trans (hst)) (by kernel_rfl) ?_
  refine st_div0 (fun w => rem_run (T := 2) (k := IntKind.i64) (x := 86400000000000) (y := st) (by omega) w) (by kernel_rfl) ?_
  refine st_b 40 (show (Int.tmod 86400000000000 st != 0) = false by exact bne_eq_false_iff_eq.2 (by omega)) (by kernel_rfl) ?_
  refine st_i 47 IntKind.i64 (x := IntKind.i64.wrap (i * ulen u)) ((Go.IntWalk.i64_in (i * ulen u) (by omega)).trans (hst)) (by kernel_rfl) ?_
  refine st_fn ent40 (wof_fn (st) (by assumption)) sub0 (by kernel_rfl) ?_
  refine st_fn ent97 (hr) sub0 (by kernel_rfl) ?_
  refine st_fn ent33 (hc) sub0 (by kernel_rfl) ?_
  exact st_ret Tryz.func41 (by kernel_rfl)
/-! the reference -/
end
end Go.Proofs.YtccllfegnijpiaaGreat
end
section
/-
  The laws InstantSplits, InstantRounds, InstantAdds, InstantBack, walked.
-/
set_option linter.unusedVariables false
set_option linter.unusedSimpArgs false
set_option maxRecDepth 100000
namespace Go.Proofs.YtccllfegnijpiaaGreat
open Go Go.RowKit Go.Ev

theorem alive21 : Fn 11 [] [] (.bool true) := by
  have i1 : I64 (-1) := by unfold I64; omega
  have i2 : I64 5400000000000 := by unfold I64; omega
  have i3 : I64 7200000000000 := by unfold I64; omega
  have alvA := isplit_yes (-1) (by decide)
  rw [show sQ (-1) = -1 by decide, show sR (-1) = 999999999 by decide] at alvA
  have alvB : Fn 7 [] [wz, .int .i64 3600] (.tuple #[ptN (0 + 3600 * 1000000000), .int .i64 0]) := ilocal_y 0 3600 (by decide) (by decide)
  rw [show (0 : Int) + 3600 * 1000000000 = 3600000000000 by decide, show ptN 3600000000000 = ptv 1970 1 1 1 0 0 0 from rfl] at alvB
  have t1 := to_yes 5400000000000 3600000000000 9 (by decide) (by decide) (by decide) (by decide) (by decide) 7200000000000 (by decide) (by decide)
  have alvC := irnd_v 5400000000000 5 1 9 3600000000000 (by decide) (by decide) (by decide) (by decide) (by decide) (by decide) (by decide) 7200000000000 7200000000000 0 t1 (ichk_yes 7200000000000 (by decide))
  clear t1
  refine fn_of Tryz.func11 rfl fun ww => ?_
  refine st_fn ent40 (wof_fn (-1) (by assumption)) sub0 (by kernel_rfl) ?_
  refine st_fn ent39 (alvA) sub0 (by kernel_rfl) ?_
  refine st_fn ent7 (alvB) sub0 (by kernel_rfl) ?_
  refine st_fn ent40 (wof_fn (5400000000000) (by assumption)) sub0 (by kernel_rfl) ?_
  refine st_fn ent41 (alvC) sub0 (by kernel_rfl) ?_
  refine st_fn ent40 (wof_fn (7200000000000) (by assumption)) sub0 (by kernel_rfl) ?_
  exact st_ret Tryz.func11 (by kernel_rfl)
end Go.Proofs.YtccllfegnijpiaaGreat
end
section
/-
  The law InstantLocals, walked.
-/
set_option linter.unusedVariables false
set_option linter.unusedSimpArgs false
set_option maxRecDepth 100000
namespace Go.Proofs.YtccllfegnijpiaaGreat
open Go Go.RowKit Go.Ev

section
variable (w y mo d h m s n o : Int)
theorem ilo_v (A B C D E F G e p g : Int) (kh1 : Fn 7 [] [wv w, .int .i64 o] (.tuple #[ptv A B C D E F G, .int .i64 e])) (kh2 : Fn 8 [] [wv w, .int .i64 o] (.tuple #[ptv A B C D E F G, .int .i64 e]))
    (kh3 : Fn 9 [] [ptv y mo d h m s n, .int .i64 o] (.tuple #[wv p, .int .i64 g])) (kh4 : Fn 10 [] [ptv y mo d h m s n, .int .i64 o] (.tuple #[wv p, .int .i64 g])) : Fn 3 [] [wv w, ptv y mo d h m s n, .int .i64 o] (.bool true) := by
  refine fn_of Tryz.func3 rfl fun ww => ?_
  refine st_fn ent7 (kh1) sub0 (by kernel_rfl) ?_
  refine st_fn ent8 (kh2) sub0 (by kernel_rfl) ?_
  refine st_fn ent9 (kh3) sub0 (by kernel_rfl) ?_
  refine st_fn ent10 (kh4) sub0 (by kernel_rfl) ?_
  refine st_fn ent11 (alive21) sub0 (by kernel_rfl) ?_
  refine st_b 43 (show (A == A && (B == B && (C == C && true)) && (D == D && (E == E && (F == F && (G == G && true))) && true)) = true by simp_all) (by kernel_rfl) ?_
  refine st_b 48 (show (e == e) = true by exact decide_eq_true (by omega)) (by kernel_rfl) ?_
  refine st_b 53 (show (hi p == hi p && (lo p == lo p && true)) = true by simp_all) (by kernel_rfl) ?_
  exact st_retv Tryz.func3 (show Value.bool (g == g) = _ by simp) (by kernel_rfl)
theorem law_ilocals (W : World) (hw : W128 w) : Calls Tryz.prog 3 #[wv w, ptv y mo d h m s n, .int .i64 o] W (fun e w' => e = .returned (.bool true) ∧ Ext W w') := by
  obtain ⟨A, B, C, D, E, F, G, e, h1, h2⟩ : ∃ A B C D E F G e : Int, Fn 7 [] [wv w, .int .i64 o] (.tuple #[ptv A B C D E F G, .int .i64 e]) ∧ Fn 8 [] [wv w, .int .i64 o] (.tuple #[ptv A B C D E F G, .int .i64 e]) := by
    by_cases k : nIn w
    · by_cases q : oOk o
      · exact ⟨_, _, _, _, _, _, _, _, ilocal_y w o k q, zlocal_y w o k q⟩
      · exact ⟨_, _, _, _, _, _, _, _, ilocal_a w o k q, zlocal_a w o k q⟩
    · exact ⟨_, _, _, _, _, _, _, _, ilocal_r w o k, zlocal_r w o hw k⟩
  obtain ⟨p, g, h3, h4⟩ : ∃ p g : Int, Fn 9 [] [ptv y mo d h m s n, .int .i64 o] (.tuple #[wv p, .int .i64 g]) ∧ Fn 10 [] [ptv y mo d h m s n, .int .i64 o] (.tuple #[wv p, .int .i64 g]) := by
    by_cases k : pOk y mo d h m s n
    · by_cases q : oOk o
      · by_cases l : nIn (pnum y mo d h m s n - o * 1000000000)
        · exact ⟨_, _, ifrom_y o y mo d h m s n k q l, zfrom_y o y mo d h m s n k q l⟩
        · exact ⟨0, 4, ifrom_n o y mo d h m s n k q l, zfrom_n o y mo d h m s n k q l⟩
      · exact ⟨0, 1, ifrom_a2 o y mo d h m s n k q, zfrom_a2 o y mo d h m s n k q⟩
    · exact ⟨0, 1, ifrom_a1 o y mo d h m s n k, zfrom_a1 o y mo d h m s n k⟩
  exact ilo_v w y mo d h m s n o A B C D E F G e p g h1 h2 h3 h4 W (zall_nil W)
end
end Go.Proofs.YtccllfegnijpiaaGreat
end
section
/-
  What comes in: a wide number by its two halves, numbers by their bounds.
-/
namespace Go.Proofs.YtccllfegnijpiaaGreat
open Go Go.RowKit

theorem i64_in {n : Int} (h : (Lit.int .i64 n).wf = true) : I64 n := bounds_i64 h
theorem wide_in {a b : Int} (h : (Lit.int .i64 a).wf = true) (h' : (Lit.int .u64 b).wf = true) : ∃ n, W128 n ∧ a = hi n ∧ b = lo n := by
  obtain ⟨h1, h2⟩ := bounds_i64 h
  obtain ⟨h3, h4⟩ := bounds_u64 h'
  obtain ⟨e1, e2⟩ := of_hi_lo a b h3 (by omega)
  exact ⟨a * 18446744073709551616 + b, by unfold W128; omega, e1.symm, e2.symm⟩
end Go.Proofs.YtccllfegnijpiaaGreat
end
section
/-
  A struct of so many 64-bit numbers that comes in.
-/
namespace Go.Proofs.YtccllfegnijpiaaGreat
open Go Go.RowKit

def intRow (P : Program) (t : TypeId) (n : Nat) : Bool := (match P.underlying t with
  | some (.struct _) => true
  | some (.array _ _) => true
  | _ => false) && decide (P.cellsOf t = n) && match P.cellTypes P.depth t with
  | some ts => decide (ts.length = n) && ts.all fun u => match P.underlying u with
    | some (.int .i64) => true
    | _ => false
  | none => false
theorem cells_in {P : Program} {w : World} {r : Reach} {b : Nat} {ts : List TypeId} (ha : ∀ u, u ∈ ts → P.underlying u = some (.int .i64)) (hne : 0 < ts.length) : ∀ (l : List Value),
    (∀ (i : Nat) (v : Value), l[i]? = some v → ∃ (j : Nat) (u : TypeId), ts[j]? = some u ∧ Cell.okWide P w r b u v) → ∃ xs : List Int, l = xs.map (Value.int .i64) ∧ ∀ x ∈ xs, I64 x
  | [], _ => ⟨[], rfl, fun x h => by cases h⟩
  | v :: l, h => by
    obtain ⟨xs, h1, h2⟩ := cells_in ha hne l fun i v hv => h (i + 1) v (by simpa using hv)
    obtain ⟨j, u, hu, hc⟩ := h 0 v rfl
    have hU := ha u (List.mem_of_getElem? hu)
    obtain ⟨x, rfl, hx⟩ : ∃ x, v = .int .i64 x ∧ I64 x := by
      simp only [Cell.okWide, hU] at hc
      cases v <;> simp [Cell.ok, hU] at hc
      rename_i k x
      obtain ⟨rfl, hk⟩ := hc
      refine ⟨x, rfl, ?_⟩
      have m0 : IntKind.i64.min = -9223372036854775808 := by decide
      have m1 : IntKind.i64.max = 9223372036854775807 := by decide
      unfold IntKind.has at hk
      rw [m0, m1] at hk
      exact hk
    exact ⟨x :: xs, by rw [h1]; rfl, fun y hy => by
      rcases List.mem_cons.1 hy with rfl | hy
      · exact hx
      · exact h2 y hy⟩
theorem ints_in {P : Program} {w : World} {r : Reach} {b : Nat} {t : TypeId} {n : Nat} {v : Value} (hn : 0 < n) (ht : intRow P t n = true) (hv : Value.okWide P w r b t v) : ∃ xs : List Int, v = .agg (xs.map (Value.int .i64)).toArray ∧ xs.length = n ∧ ∀ x ∈ xs, I64 x := by
  unfold intRow at ht
  rw [Bool.and_eq_true, Bool.and_eq_true] at ht
  obtain ⟨⟨hs, hc⟩, hl⟩ := ht
  obtain ⟨cs, rfl, hsz, ts, hts, -, hcell⟩ : ∃ cs, v = .agg cs ∧ cs.size = P.cellsOf t ∧ Row.okWide P w r b t cs := by
    unfold Value.okWide at hv
    split at hv
    · exact hv
    · exact hv
    · rename_i h1 h2
      split at hs
      · rename_i fs h; exact absurd h (h1 fs)
      · rename_i m e h; exact absurd h (h2 m e)
      · cases hs
  rw [hts] at hl
  simp only [Bool.and_eq_true, decide_eq_true_eq, List.all_eq_true] at hl hc
  have ha : ∀ u ∈ ts, P.underlying u = some (.int .i64) := fun u hu => by
    have := hl.2 u hu
    split at this
    · assumption
    · cases this
  obtain ⟨xs, h1, h2⟩ := cells_in (P := P) (w := w) (r := r) (b := b) ha (by omega) cs.toList fun i v hv => by
    obtain ⟨u, h3, h4⟩ := hcell i v (by simpa using hv)
    exact ⟨_, u, h3, h4⟩
  have e : cs = (xs.map (Value.int .i64)).toArray := by rw [← h1]
  refine ⟨xs, by rw [e], ?_, h2⟩
  have := congrArg Array.size e
  simp at this; omega
theorem list7 {α : Type} {l : List α} (h : l.length = 7) : ∃ a b c d e f g, l = [a, b, c, d, e, f, g] := by
  match l, h with
  | [a, b, c, d, e, f, g], _ => exact ⟨a, b, c, d, e, f, g, rfl⟩
end Go.Proofs.YtccllfegnijpiaaGreat
end
