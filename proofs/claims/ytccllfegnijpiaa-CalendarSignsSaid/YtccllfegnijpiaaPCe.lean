/-
  Texts joined: Cav, Cuv, In, Inn, Cbk. Each says at its head what it shows.
-/
import Derived.OpenShut
import Derived.WideShapes
import Derived.Test.YtccllfegnijpiaaPCd
section
/-
  Durations put to days and to date-times: what the program answers of layer 19.
-/
set_option linter.unusedVariables false
set_option linter.unusedSimpArgs false
set_option maxRecDepth 100000
namespace Go.Proofs.Ytccllfegnijpiaa
open Go Go.RowKit Go.Ev

section
variable (y m d n T : Int)
theorem creg_cy (m1 : 1 ≤ m) (m2 : m ≤ 12) (d1 : 1 ≤ d) (k : dOk y m (cD y m d)) : Fn 133 [] [.int .i64 y, .int .i64 m, .int .i64 d, .int .i64 1] (.tuple #[dv y m (cD y m d), .int .i64 0]) := by
  have c1 := cmonth y m
  obtain ⟨l, hl⟩ : ∃ l, l = mlen y m := ⟨_, rfl⟩
  have hc : cD y m d = if l < d then l else d := by rw [hl]; rfl
  rw [hc] at k ⊢
  rw [← hl] at c1
  by_cases q : l < d
  · rw [if_pos q] at k ⊢
    refine fn_of Try.func133 rfl fun ww => ?_
    refine st_i 16 IntKind.i64 (x := if 1 > m then 1 else m) (if_neg (by omega)) (by kernel_rfl) ?_
    refine st_i 17 IntKind.i64 (x := if 12 < m then 12 else m) (if_neg (by omega)) (by kernel_rfl) ?_
    refine st_i 19 IntKind.i64 (x := if 1 > d then 1 else d) (if_neg (by omega)) (by kernel_rfl) ?_
    refine st_fn ent76 (c1) sub0 (by kernel_rfl) ?_
    refine st_i 23 IntKind.i64 (x := if l < d then l else d) (if_pos q) (by kernel_rfl) ?_
    refine st_fn ent82 (cright5_yes (y) (m) (l) (by assumption)) sub0 (by kernel_rfl) ?_
    exact st_ret Try.func133 (by kernel_rfl)
  · rw [if_neg q] at k ⊢
    refine fn_of Try.func133 rfl fun ww => ?_
    refine st_i 16 IntKind.i64 (x := if 1 > m then 1 else m) (if_neg (by omega)) (by kernel_rfl) ?_
    refine st_i 17 IntKind.i64 (x := if 12 < m then 12 else m) (if_neg (by omega)) (by kernel_rfl) ?_
    refine st_i 19 IntKind.i64 (x := if 1 > d then 1 else d) (if_neg (by omega)) (by kernel_rfl) ?_
    refine st_fn ent76 (c1) sub0 (by kernel_rfl) ?_
    refine st_i 23 IntKind.i64 (x := if l < d then l else d) (if_neg q) (by kernel_rfl) ?_
    refine st_fn ent82 (cright5_yes (y) (m) (d) (by assumption)) sub0 (by kernel_rfl) ?_
    exact st_ret Try.func133 (by kernel_rfl)
theorem creg_ry (m1 : 1 ≤ m) (m2 : m ≤ 12) (d1 : 1 ≤ d) (q : d ≤ mlen y m) (k : dOk y m d) : Fn 133 [] [.int .i64 y, .int .i64 m, .int .i64 d, .int .i64 2] (.tuple #[dv y m d, .int .i64 0]) := by
  refine fn_of Try.func133 rfl fun ww => ?_
  refine st_b 27 (show (decide (d < 1)) = false by exact decide_eq_false (by omega)) (by kernel_rfl) ?_
  refine st_fn ent76 (cmonth (y) (m)) sub0 (by kernel_rfl) ?_
  refine st_b 33 (show (decide (d > mlen y m)) = false by exact decide_eq_false (by omega)) (by kernel_rfl) ?_
  refine st_fn ent82 (cright5_yes (y) (m) (d) (by assumption)) sub0 (by kernel_rfl) ?_
  exact st_ret Try.func133 (by kernel_rfl)
variable (o k A B C e : Int)
theorem cknown_y (h : o = 1 ∨ o = 2) : Fn 83 [] [.int .i64 o] (.bool true) := by
  rcases h with rfl | rfl
  · refine fn_of Try.func83 rfl fun ww => ?_
    exact st_ret Try.func83 (by kernel_rfl)
  · refine fn_of Try.func83 rfl fun ww => ?_
    exact st_ret Try.func83 (by kernel_rfl)
theorem cmov_v (Y M D : Int) (hl : Fn 72 [] [dv y m d, .int .i64 k] (dv (lY T) (lM T) d)) (hr : Fn 133 [] [.int .i64 (lY T), .int .i64 (lM T), .int .i64 d, .int .i64 o] (.tuple #[dv Y M D, .int .i64 0])) (ha : Fn 89 [] [dv Y M D, .int .i64 n] (.tuple #[dv A B C, .int .i64 e])) :
    Fn 86 [] [dv y m d, .int .i64 k, .int .i64 n, .int .i64 o] (.tuple #[dv A B C, .int .i64 e]) := by
  refine fn_of Try.func86 rfl fun ww => ?_
  refine st_fn ent72 (hl) sub0 (by kernel_rfl) ?_
  refine st_fn ent133 (hr) sub0 (by kernel_rfl) ?_
  refine st_fn ent89 (ha) sub0 (by kernel_rfl) ?_
  exact st_ret Try.func86 (by kernel_rfl)
end
theorem uOk_bd {a b c d h mi s n : Int} (k : uOk a b c d h mi s n) : (-4294967295 ≤ a ∧ a ≤ 4294967295) ∧ (-4294967295 ≤ b ∧ b ≤ 4294967295) ∧ (-4294967295 ≤ c ∧ c ≤ 4294967295) ∧ (-104249991400 ≤ d ∧ d ≤ 104249991400) ∧ (-9007199254740992000000000 < dtot 0 h mi s n ∧ dtot 0 h mi s n < 9007199254740992000000000) := by
  unfold uOk pos8 neg8 cnt1 dtot LIM at k; unfold dtot; omega
theorem uOk_part {a b c d h mi s n : Int} (k : uOk a b c d h mi s n) : uOk 0 0 0 0 h mi s n := by
  unfold uOk pos8 neg8 cnt1 dtot LIM at *; omega
theorem all64_part {a b c d h mi s n : Int} (i : all64 a b c d h mi s n) : all64 0 0 0 0 h mi s n := ⟨i64_0, i64_0, i64_0, i64_0, i.2.2.2.2.1, i.2.2.2.2.2.1, i.2.2.2.2.2.2.1, i.2.2.2.2.2.2.2⟩
section
variable (a b c d h mi s n : Int)
theorem cpart (i : all64 a b c d h mi s n) (k : uOk a b c d h mi s n) : Fn 85 [] [duv a b c d h mi s n] (wv (dtot 0 h mi s n)) := by
  have t := utotal_y 0 0 0 0 h mi s n (all64_part i) (uOk_part k)
  clear i k
  refine fn_of Try.func85 rfl fun ww => ?_
  refine st_fn ent60 (t) sub0 (by kernel_rfl) ?_
  exact st_ret Try.func85 (by kernel_rfl)
variable (Y M D o A B C e : Int)
theorem cadt_v (i : all64 a b c d h mi s n) (k1 : dOk Y M D) (k2 : uOk a b c d h mi s n) (k3 : o = 1 ∨ o = 2) (q : Int) (hq : (dtot 0 h mi s n).tdiv 86400000000000 = q) (hm : Fn 86 [] [dv Y M D, .int .i64 (12 * a + b), .int .i64 (d + 7 * c + q), .int .i64 o] (.tuple #[dv A B C, .int .i64 e])) :
    Fn 28 [] [dv Y M D, duv a b c d h mi s n, .int .i64 o] (.tuple #[dv A B C, .int .i64 e]) := by
  have r1 := cright5_yes Y M D k1
  have r2 := uright_y a b c d h mi s n i k2
  have r3 := cknown_y o k3
  have r4 := cpart a b c d h mi s n i k2
  obtain ⟨b1, b2, b3, b4, b5⟩ := uOk_bd k2
  have tt := td (dtot 0 h mi s n) 86400000000000 (by omega)
  have qb : -104249991400 ≤ q ∧ q ≤ 104249991400 := by rw [← hq]; omega
  have iq : I64 q := by unfold I64; omega
  have r5 := dtrunc_yes (dtot 0 h mi s n) 86400000000000 (by unfold W128; omega) (by unfold W128; omega) (by omega) (by rw [hq]; exact iq.w)
  rw [hq] at r5
  have i8 : I64 86400000000000 := by unfold I64; omega
  clear i k1 k2 k3 hq tt b5
  refine fn_of Try.func28 rfl fun ww => ?_
  refine st_fn ent82 (r1) sub0 (by kernel_rfl) ?_
  refine st_fn ent31 (r2) sub0 (by kernel_rfl) ?_
  refine st_fn ent83 (r3) sub0 (by kernel_rfl) ?_
  refine st_fn ent85 (r4) sub0 (by kernel_rfl) ?_
  refine st_fn ent39 (wof_fn (86400000000000) (by assumption)) sub0 (by kernel_rfl) ?_
  refine st_fn ent84 (r5) sub0 (by kernel_rfl) ?_
  refine st_fn ent50 (wint_f (q) (by assumption)) sub0 (by kernel_rfl) ?_
  refine st_i 43 .i64 (x' := 12 * a) (Go.IntWalk.i64_in _ (by omega)) (by kernel_rfl) ?_
  refine st_i 46 .i64 (x' := 12 * a + b) (Go.IntWalk.i64_in _ (by omega)) (by kernel_rfl) ?_
  refine st_i 51 .i64 (x' := 7 * c) (Go.IntWalk.i64_in _ (by omega)) (by kernel_rfl) ?_
  refine st_i 52 .i64 (x' := d + 7 * c) (Go.IntWalk.i64_in _ (by omega)) (by kernel_rfl) ?_
  refine st_i 54 .i64 (x' := d + 7 * c + q) (Go.IntWalk.i64_in _ (by omega)) (by kernel_rfl) ?_
  refine st_fn ent86 (hm) sub0 (by kernel_rfl) ?_
  exact st_ret Try.func28 (by kernel_rfl)
end
/-! date-times -/
theorem fcadd (h m s n w Q R : Int) (k : tOk h m s n) (hb : -9007199254740992000000000 < w ∧ w < 9007199254740992000000000) (hQ : (tnan h m s n + w).fdiv 86400000000000 = Q) (hR : (tnan h m s n + w).fmod 86400000000000 = R) :
    Fn 91 [] [tv h m s n, wv w] (.tuple #[tv (tH R) (tM R) (tS R) (tN R), .int .i64 Q, .int .i64 0]) := by
  have hw : W128 w := by unfold W128; omega
  have b := tnan_bd k
  have db := dby_f w 86400000000000 hw (by omega) (by unfold I64; omega)
  have e1 : w.fdiv 86400000000000 * 86400000000000 + w.fmod 86400000000000 = w ∧ 0 ≤ w.fmod 86400000000000 ∧ w.fmod 86400000000000 < 86400000000000 := x_split w
  have e2 : Q * 86400000000000 + R = tnan h m s n + w ∧ 0 ≤ R ∧ R < 86400000000000 := by rw [← hQ, ← hR]; exact x_split _
  generalize w.fdiv 86400000000000 = q at *
  generalize w.fmod 86400000000000 = r at *
  have nn := fcnanos_yes h m s n k
  generalize tnan h m s n = t at *
  clear hQ hR k
  obtain ⟨e1, e3, e4⟩ := e1
  obtain ⟨e2, e5, e6⟩ := e2
  by_cases c : t + r < 86400000000000
  · obtain rfl : Q = q := by omega
    obtain rfl : R = t + r := by omega
    have iq : I64 Q := by unfold I64; omega
    refine fn_of Try.func91 rfl fun ww => ?_
    refine st_fn ent88 (nn) sub0 (by kernel_rfl) ?_
    refine st_fn ent49 (db) sub0 (by kernel_rfl) ?_
    refine st_i 31 .i64 (x' := t + r) (Go.IntWalk.i64_in _ (by omega)) (by kernel_rfl) ?_
    refine st_b 33 (show (decide (t + r ≥ 86400000000000)) = false by exact decide_eq_false (by omega)) (by kernel_rfl) ?_
    refine st_fn ent50 (wint_f (Q) (by assumption)) sub0 (by kernel_rfl) ?_
    refine st_fn ent123 (fcof_yes (t + r) (by assumption) (by assumption)) sub0 (by kernel_rfl) ?_
    exact st_ret Try.func91 (by kernel_rfl)
  · obtain rfl : Q = q + 1 := by omega
    obtain rfl : R = t + r - 86400000000000 := by omega
    have iq : I64 (q + 1) := by unfold I64; omega
    have w1 : W128 q := by unfold W128; omega
    have w2 : W128 (q + 1) := iq.w
    have i1 : I64 1 := by unfold I64; omega
    refine fn_of Try.func91 rfl fun ww => ?_
    refine st_fn ent88 (nn) sub0 (by kernel_rfl) ?_
    refine st_fn ent49 (db) sub0 (by kernel_rfl) ?_
    refine st_i 31 .i64 (x' := t + r) (Go.IntWalk.i64_in _ (by omega)) (by kernel_rfl) ?_
    refine st_b 33 (show (decide (t + r ≥ 86400000000000)) = true by exact decide_eq_true (by omega)) (by kernel_rfl) ?_
    refine st_i 35 .i64 (x' := t + r - 86400000000000) (Go.IntWalk.i64_in _ (by omega)) (by kernel_rfl) ?_
    refine st_fn ent39 (wof_fn (1) (by assumption)) sub0 (by kernel_rfl) ?_
    refine st_fn ent51 (wadd_yes (q) (1) (by assumption) (by (unfold W128; omega)) (by assumption)) sub0 (by kernel_rfl) ?_
    refine st_fn ent50 (wint_f (q + 1) (by assumption)) sub0 (by kernel_rfl) ?_
    refine st_fn ent123 (fcof_yes (t + r - 86400000000000) (by assumption) (by assumption)) sub0 (by kernel_rfl) ?_
    exact st_ret Try.func91 (by kernel_rfl)
section
variable (y mo D h m s n a b c d hh mi ss nn o A B C e : Int)
variable (Q R : Int)
theorem cad_y (i : all64 a b c d hh mi ss nn) (k1 : pOk y mo D h m s n) (k2 : uOk a b c d hh mi ss nn) (k3 : o = 1 ∨ o = 2) (hQ : (tnan h m s n + dtot 0 hh mi ss nn).fdiv 86400000000000 = Q) (hR : (tnan h m s n + dtot 0 hh mi ss nn).fmod 86400000000000 = R) (qb : -200000000000 ≤ Q ∧ Q ≤ 200000000000)
    (hm : Fn 86 [] [dv y mo D, .int .i64 (12 * a + b), .int .i64 (d + 7 * c + Q), .int .i64 o] (.tuple #[dv A B C, .int .i64 0])) (hp : pOk A B C (tH R) (tM R) (tS R) (tN R)) : Fn 30 [] [ptv y mo D h m s n, duv a b c d hh mi ss nn, .int .i64 o] (.tuple #[ptv A B C (tH R) (tM R) (tS R) (tN R), .int .i64 0]) := by
  have r1 := pright_yes y mo D h m s n k1
  have r2 := uright_y a b c d hh mi ss nn i k2
  have r3 := cknown_y o k3
  have r4 := cpart a b c d hh mi ss nn i k2
  obtain ⟨b1, b2, b3, b4, b5⟩ := uOk_bd k2
  have r5 := fcadd h m s n _ Q R k1.2.1 b5 hQ hR
  have r6 := pright_yes _ _ _ _ _ _ _ hp
  clear i k1 k2 k3 hQ hR b5 hp
  refine fn_of Try.func30 rfl fun ww => ?_
  refine st_fn ent90 (r1) sub0 (by kernel_rfl) ?_
  refine st_fn ent31 (r2) sub0 (by kernel_rfl) ?_
  refine st_fn ent83 (r3) sub0 (by kernel_rfl) ?_
  refine st_fn ent85 (r4) sub0 (by kernel_rfl) ?_
  refine st_fn ent91 (r5) sub0 (by kernel_rfl) ?_
  refine st_i 45 .i64 (x' := 12 * a) (Go.IntWalk.i64_in _ (by omega)) (by kernel_rfl) ?_
  refine st_i 48 .i64 (x' := 12 * a + b) (Go.IntWalk.i64_in _ (by omega)) (by kernel_rfl) ?_
  refine st_i 53 .i64 (x' := 7 * c) (Go.IntWalk.i64_in _ (by omega)) (by kernel_rfl) ?_
  refine st_i 54 .i64 (x' := d + 7 * c) (Go.IntWalk.i64_in _ (by omega)) (by kernel_rfl) ?_
  refine st_i 56 .i64 (x' := d + 7 * c + Q) (Go.IntWalk.i64_in _ (by omega)) (by kernel_rfl) ?_
  refine st_fn ent86 (hm) sub0 (by kernel_rfl) ?_
  refine st_fn ent90 (r6) sub0 (by kernel_rfl) ?_
  exact st_ret Try.func30 (by kernel_rfl)
end
end Go.Proofs.Ytccllfegnijpiaa
end
section
/-
  What lies between two days, by every unit; what every right program answers of layer 19; the law CalendarUntils.
-/
set_option linter.unusedVariables false
set_option linter.unusedSimpArgs false
set_option maxRecDepth 100000
namespace Go.Proofs.Ytccllfegnijpiaa
open Go Go.RowKit Go.Ev

section
variable (L y m d y' m' d' : Int)
abbrev uvd : Value := .tuple #[duv (uY L y m d y' m' d') (uMo L y m d y' m' d') (uW L y m d y' m' d') (uD L y m d y' m' d') 0 0 0 0, .int .i64 0]
theorem duv_eq {a b c d a' b' c' d' : Int} (e1 : a = a') (e2 : b = b') (e3 : c = c') (e4 : d = d') : Value.tuple #[duv a b c d 0 0 0 0, .int .i64 0] = .tuple #[duv a' b' c' d' 0 0 0 0, .int .i64 0] := by rw [e1, e2, e3, e4]
theorem unt_all {f : FuncId} (h : dOk y m d) (h' : dOk y' m' d') (hL : 1 ≤ L) (hL' : L ≤ 4)
    (f0 : ∀ L : Int, (L = 1 ∨ L = 2) → cmp3 y' m' d' y m d = 0 → Fn f [] [dv y m d, dv y' m' d', .int .i64 L] (.tuple #[du0, .int .i64 0]))
    (f1 : ∀ s N T : Int, (s = 1 ∨ s = -1) → cmp3 y' m' d' y m d = s → mM s y m d y' m' d' = N → ymi y m + s * N = T → Fn f [] [dv y m d, dv y' m' d', .int .i64 1] (.tuple #[duv (s * (N / 12)) (s * (N - 12 * (N / 12))) 0 (dnum y' m' d' - dnum (lY T) (lM T) (cD (lY T) (lM T) d)) 0 0 0 0, .int .i64 0]))
    (f2 : ∀ s N T : Int, (s = 1 ∨ s = -1) → cmp3 y' m' d' y m d = s → mM s y m d y' m' d' = N → ymi y m + s * N = T → Fn f [] [dv y m d, dv y' m' d', .int .i64 2] (.tuple #[duv 0 (s * N) 0 (dnum y' m' d' - dnum (lY T) (lM T) (cD (lY T) (lM T) d)) 0 0 0 0, .int .i64 0]))
    (f3 : Fn f [] [dv y m d, dv y' m' d', .int .i64 3] (.tuple #[duv 0 0 ((dnum y' m' d' - dnum y m d).tdiv 7) ((dnum y' m' d' - dnum y m d).tmod 7) 0 0 0 0, .int .i64 0]))
    (f4 : Fn f [] [dv y m d, dv y' m' d', .int .i64 4] (.tuple #[duv 0 0 0 (dnum y' m' d' - dnum y m d) 0 0 0 0, .int .i64 0])) : Fn f [] [dv y m d, dv y' m' d', .int .i64 L] (uvd L y m d y' m' d') := by
  have l : L = 1 ∨ L = 2 ∨ L = 3 ∨ L = 4 := by omega
  have us := until_sign h h' hL hL' _ rfl
  by_cases z : uS y m d y' m' d' = 0
  · obtain ⟨z1, z2, z3, z4⟩ := us.2.2.2.2.2.2.2.2.1 z
    rcases l with rfl | rfl | rfl | rfl
    · have := f0 1 (.inl rfl) z; rwa [show uvd 1 y m d y' m' d' = _ from duv_eq z1 z2 z3 z4]
    · have := f0 2 (.inr rfl) z; rwa [show uvd 2 y m d y' m' d' = _ from duv_eq z1 z2 z3 z4]
    · exact f3
    · exact f4
  · have hs : uS y m d y' m' d' = 1 ∨ uS y m d y' m' d' = -1 := by
      rcases cmp3_tri y' m' d' y m d with k | k | k
      · exact .inr k
      · exact absurd k z
      · exact .inl k
    rcases l with rfl | rfl | rfl | rfl
    · have := f1 (uS y m d y' m' d') (uMM y m d y' m' d') _ hs rfl rfl rfl
      rw [show uMM y m d y' m' d' - 12 * (uMM y m d y' m' d' / 12) = uMM y m d y' m' d' % 12 by omega] at this
      exact this
    · exact f2 (uS y m d y' m' d') (uMM y m d y' m' d') _ hs rfl rfl rfl
    · exact f3
    · exact f4
theorem cunt (h : dOk y m d) (h' : dOk y' m' d') (hL : 1 ≤ L) (hL' : L ≤ 4) : Fn 25 [] [dv y m d, dv y' m' d', .int .i64 L] (uvd L y m d y' m' d') :=
  unt_all L y m d y' m' d' h h' hL hL' (fun L l e => cunt_0 y m d y' m' d' L l h h' e) (fun s N T a b c e => cunt_1 y m d y' m' d' s N T h h' a b c e) (fun s N T a b c e => cunt_2 y m d y' m' d' s N T h h' a b c e) (cunt_3 y m d y' m' d' h h') (cunt_4 y m d y' m' d' h h')
theorem zunt (h : dOk y m d) (h' : dOk y' m' d') (hL : 1 ≤ L) (hL' : L ≤ 4) : Fn 26 [] [dv y m d, dv y' m' d', .int .i64 L] (uvd L y m d y' m' d') :=
  unt_all L y m d y' m' d' h h' hL hL' (fun L l e => zunt_0 y m d y' m' d' L l h h' e) (fun s N T a b c e => zunt_1 y m d y' m' d' s N T h h' a b c e) (fun s N T a b c e => zunt_2 y m d y' m' d' s N T h h' a b c e) (zunt_3 y m d y' m' d' h h') (zunt_4 y m d y' m' d' h h')
end
/-- Months, then days, put to a day, that lead to a right one. -/
theorem cmoved_c (y m d k n T S : Int) (hT : ymi y m + k = T) (y0 : -10000000 ≤ y) (y1 : y ≤ 10000000) (m1 : 1 ≤ m) (m2 : m ≤ 12) (k0 : -1000000000000 ≤ k) (k1 : k ≤ 1000000000000) (d1 : 1 ≤ d) (q : dOk (lY T) (lM T) (cD (lY T) (lM T) d)) (hS : dnum (lY T) (lM T) (cD (lY T) (lM T) d) + n = S) (S0 : -100000001 ≤ S) (S1 : S ≤ 100000000) :
    Fn 86 [] [dv y m d, .int .i64 k, .int .i64 n, .int .i64 1] (.tuple #[dv (dY S) (dM S) (dD S), .int .i64 0]) := by
  have ad := caddd_yes (lY T) (lM T) (cD (lY T) (lM T) d) n q (by omega) (by omega)
  rw [hS] at ad
  exact cmov_v y m d n T 1 k _ _ _ 0 _ _ _ (clater y m d k T (by unfold ymi at hT; omega) y0 y1 m1 m2 k0 k1) (creg_cy (lY T) (lM T) d (ymi_l T).2.1 (ymi_l T).2.2 d1 q) ad
theorem alive19 : Fn 27 [] [] (.bool true) := by
  have am := cmoved_c 2020 1 31 1 0 24241 (dnum 2020 2 29) (by decide +kernel) (by decide +kernel) (by decide +kernel) (by decide +kernel) (by decide +kernel) (by decide +kernel) (by decide +kernel) (by decide +kernel) (by decide +kernel) (by decide +kernel) (by decide +kernel) (by decide +kernel)
  have av1 := cadt_v 0 1 0 0 0 0 0 0 2020 1 31 1 _ _ _ 0 (by refine ⟨?_, ?_, ?_, ?_, ?_, ?_, ?_, ?_⟩ <;> (unfold I64; omega)) (by decide +kernel) (by decide +kernel) (.inl rfl) 0 (by decide +kernel) am
  rw [show dY (dnum 2020 2 29) = 2020 by decide +kernel, show dM (dnum 2020 2 29) = 2 by decide +kernel, show dD (dnum 2020 2 29) = 29 by decide +kernel] at av1
  have av2 := cunt 1 2020 1 31 2021 3 1 (by decide +kernel) (by decide +kernel) (by decide +kernel) (by decide +kernel)
  rw [show uvd 1 2020 1 31 2021 3 1 = .tuple #[duv 1 1 0 1 0 0 0 0, .int .i64 0] from duv_eq (by decide +kernel) (by decide +kernel) (by decide +kernel) (by decide +kernel)] at av2
  have ad := caddd_yes 2020 2 1 (-1) (by decide +kernel) (by decide +kernel) (by decide +kernel)
  rw [show dnum 2020 2 1 + -1 = dnum 2020 1 31 by decide +kernel, show dY (dnum 2020 1 31) = 2020 by decide +kernel, show dM (dnum 2020 1 31) = 1 by decide +kernel, show dD (dnum 2020 1 31) = 31 by decide +kernel] at ad
  have au := cunt 4 2020 1 31 2020 1 31 (by decide +kernel) (by decide +kernel) (by decide +kernel) (by decide +kernel)
  rw [show uvd 4 2020 1 31 2020 1 31 = .tuple #[duv 0 0 0 0 0 0 0 0, .int .i64 0] from duv_eq (by decide +kernel) (by decide +kernel) (by decide +kernel) (by decide +kernel)] at au
  have al := ulay_y 5 (-79200000000000 + 1 * 86400000000000) (by decide +kernel) (by decide +kernel)
  have av3 := cbet_s 2020 1 31 23 0 0 0 2020 2 1 1 0 0 0 4 0 0 0 0 _ _ _ _ 0 (by decide +kernel) (by decide +kernel) (by decide +kernel) (by decide +kernel) 1 (-79200000000000) (.inr rfl) (by decide +kernel) (by decide +kernel) (by decide +kernel) _ _ _ _ _ _ _ 0 ad au al
  rw [show l5 5 (-79200000000000 + 1 * 86400000000000) = 2 by decide +kernel, show l6 5 (-79200000000000 + 1 * 86400000000000) = 0 by decide +kernel, show l7 5 (-79200000000000 + 1 * 86400000000000) = 0 by decide +kernel, show l8 5 (-79200000000000 + 1 * 86400000000000) = 0 by decide +kernel] at av3
  have bm := cmov_v 2020 2 29 0 24241 2 0 _ _ _ 0 _ _ _ (clater 2020 2 29 0 24241 (by decide +kernel) (by decide +kernel) (by decide +kernel) (by decide +kernel) (by decide +kernel) (by decide +kernel) (by decide +kernel)) (creg_ry 2020 2 29 (by decide +kernel) (by decide +kernel) (by decide +kernel) (by decide +kernel) (by decide +kernel)) (caddd_yes 2020 2 29 0 (by decide +kernel) (by decide +kernel) (by decide +kernel))
  rw [show dnum 2020 2 29 + 0 = dnum 2020 2 29 by decide +kernel, show dY (dnum 2020 2 29) = 2020 by decide +kernel, show dM (dnum 2020 2 29) = 2 by decide +kernel, show dD (dnum 2020 2 29) = 29 by decide +kernel] at bm
  have av4 := cad_y 2020 2 29 0 0 0 0 0 0 0 0 2 0 0 0 2 2020 2 29 0 7200000000000 (by refine ⟨?_, ?_, ?_, ?_, ?_, ?_, ?_, ?_⟩ <;> (unfold I64; omega)) (by decide +kernel) (by decide +kernel) (.inr rfl) (by decide +kernel) (by decide +kernel) (by decide +kernel) bm (by decide +kernel)
  rw [show tH 7200000000000 = 2 by decide +kernel] at av4
  clear am ad au al bm
  refine fn_of Try.func27 rfl fun ww => ?_
  refine st_fn ent28 (av1) sub0 (by kernel_rfl) ?_
  refine st_fn ent25 (av2) sub0 (by kernel_rfl) ?_
  refine st_fn ent29 (av3) sub0 (by kernel_rfl) ?_
  refine st_fn ent30 (av4) sub0 (by kernel_rfl) ?_
  exact st_ret Try.func27 (by kernel_rfl)
section
variable (L y m d y' m' d' : Int)
theorem cuntils_v (A B C D H M S T e : Int) (kh1 : Fn 25 [] [dv y m d, dv y' m' d', .int .i64 L] (.tuple #[duv A B C D H M S T, .int .i64 e])) (kh2 : Fn 26 [] [dv y m d, dv y' m' d', .int .i64 L] (.tuple #[duv A B C D H M S T, .int .i64 e])) : Fn 7 [] [dv y m d, dv y' m' d', .int .i64 L] (.bool true) := by
  refine fn_of Try.func7 rfl fun ww => ?_
  refine st_fn ent25 (kh1) sub0 (by kernel_rfl) ?_
  refine st_fn ent26 (kh2) sub0 (by kernel_rfl) ?_
  refine st_fn ent27 (alive19) sub0 (by kernel_rfl) ?_
  refine st_b 29 (show (A == A && (B == B && (C == C && (D == D && (H == H && (M == M && (S == S && (T == T && true)))))))) = true by simp_all) (by kernel_rfl) ?_
  exact st_retv Try.func7 (show Value.bool (e == e) = _ by simp) (by kernel_rfl)
theorem law_cuntils (W : World) : Calls Try.prog 7 #[dv y m d, dv y' m' d', .int .i64 L] W (fun e w' => e = .returned (.bool true) ∧ Ext W w') := by
  by_cases k : dOk y m d ∧ dOk y' m' d' ∧ 1 ≤ L ∧ L ≤ 4
  · exact cuntils_v L y m d y' m' d' _ _ _ _ 0 0 0 0 0 (cunt L y m d y' m' d' k.1 k.2.1 k.2.2.1 k.2.2.2) (zunt L y m d y' m' d' k.1 k.2.1 k.2.2.1 k.2.2.2) W (zall_nil W)
  · exact cuntils_v L y m d y' m' d' 0 0 0 0 0 0 0 0 1 (cunt_a y m d y' m' d' L k) (zunt_a y m d y' m' d' L k) W (zall_nil W)
end
end Go.Proofs.Ytccllfegnijpiaa
end
section
/-
  What comes in: a wide number by its two halves, numbers by their bounds.
-/
namespace Go.Proofs.Ytccllfegnijpiaa
open Go Go.RowKit

theorem i64_in {n : Int} (h : (Lit.int .i64 n).wf = true) : I64 n := bounds_i64 h
end Go.Proofs.Ytccllfegnijpiaa
end
section
/-
  A struct of so many 64-bit numbers that comes in.
-/
namespace Go.Proofs.Ytccllfegnijpiaa
open Go Go.RowKit

def intRow (P : Program) (t : TypeId) (n : Nat) : Bool := (match P.underlying t with
  | some (.struct _) => true
  | some (.array _ _) => true
  | _ => false) && decide (P.cellsOf t = n) && match P.cellTypes P.depth t with
  | some ts => decide (ts.length = n) && ts.all fun u => match P.underlying u with
    | some (.int .i64) => true
    | _ => false
  | none => false
theorem cells_in {P : Program} {w : World} {r : Reach} {b : Nat} {ts : List TypeId} (ha : ∀ u, u ∈ ts → P.underlying u = some (.int .i64)) (hne : 0 < ts.length) : ∀ (l : List Value),
    (∀ (i : Nat) (v : Value), l[i]? = some v → ∃ (j : Nat) (u : TypeId), ts[j]? = some u ∧ Cell.okWide P w r b u v) → ∃ xs : List Int, l = xs.map (Value.int .i64) ∧ ∀ x ∈ xs, I64 x
  | [], _ => ⟨[], rfl, fun x h => by cases h⟩
  | v :: l, h => by
    obtain ⟨xs, h1, h2⟩ := cells_in ha hne l fun i v hv => h (i + 1) v (by simpa using hv)
    obtain ⟨j, u, hu, hc⟩ := h 0 v rfl
    have hU := ha u (List.mem_of_getElem? hu)
    obtain ⟨x, rfl, hx⟩ : ∃ x, v = .int .i64 x ∧ I64 x := by
      simp only [Cell.okWide, hU] at hc
      cases v <;> simp [Cell.ok, hU] at hc
      rename_i k x
      obtain ⟨rfl, hk⟩ := hc
      refine ⟨x, rfl, ?_⟩
      have m0 : IntKind.i64.min = -9223372036854775808 := by decide
      have m1 : IntKind.i64.max = 9223372036854775807 := by decide
      unfold IntKind.has at hk
      rw [m0, m1] at hk
      exact hk
    exact ⟨x :: xs, by rw [h1]; rfl, fun y hy => by
      rcases List.mem_cons.1 hy with rfl | hy
      · exact hx
      · exact h2 y hy⟩
theorem ints_in {P : Program} {w : World} {r : Reach} {b : Nat} {t : TypeId} {n : Nat} {v : Value} (hn : 0 < n) (ht : intRow P t n = true) (hv : Value.okWide P w r b t v) : ∃ xs : List Int, v = .agg (xs.map (Value.int .i64)).toArray ∧ xs.length = n ∧ ∀ x ∈ xs, I64 x := by
  unfold intRow at ht
  rw [Bool.and_eq_true, Bool.and_eq_true] at ht
  obtain ⟨⟨hs, hc⟩, hl⟩ := ht
  obtain ⟨cs, rfl, hsz, ts, hts, -, hcell⟩ : ∃ cs, v = .agg cs ∧ cs.size = P.cellsOf t ∧ Row.okWide P w r b t cs := by
    unfold Value.okWide at hv
    split at hv
    · exact hv
    · exact hv
    · rename_i h1 h2
      split at hs
      · rename_i fs h; exact absurd h (h1 fs)
      · rename_i m e h; exact absurd h (h2 m e)
      · cases hs
  rw [hts] at hl
  simp only [Bool.and_eq_true, decide_eq_true_eq, List.all_eq_true] at hl hc
  have ha : ∀ u ∈ ts, P.underlying u = some (.int .i64) := fun u hu => by
    have := hl.2 u hu
    split at this
    · assumption
    · cases this
  obtain ⟨xs, h1, h2⟩ := cells_in (P := P) (w := w) (r := r) (b := b) ha (by omega) cs.toList fun i v hv => by
    obtain ⟨u, h3, h4⟩ := hcell i v (by simpa using hv)
    exact ⟨_, u, h3, h4⟩
  have e : cs = (xs.map (Value.int .i64)).toArray := by rw [← h1]
  refine ⟨xs, by rw [e], ?_, h2⟩
  have := congrArg Array.size e
  simp at this; omega
theorem list3 {α : Type} {l : List α} (h : l.length = 3) : ∃ a b c, l = [a, b, c] := by
  match l, h with
  | [a, b, c], _ => exact ⟨a, b, c, rfl⟩
theorem list7 {α : Type} {l : List α} (h : l.length = 7) : ∃ a b c d e f g, l = [a, b, c, d, e, f, g] := by
  match l, h with
  | [a, b, c, d, e, f, g], _ => exact ⟨a, b, c, d, e, f, g, rfl⟩
end Go.Proofs.Ytccllfegnijpiaa
end
section
/-
  What lies between date-times, put to the first one; the law CalendarBack.
-/
set_option linter.unusedVariables false
set_option linter.unusedSimpArgs false
set_option maxRecDepth 100000
namespace Go.Proofs.Ytccllfegnijpiaa
open Go Go.RowKit Go.Ev

section
variable {L y m d y' m' d' : Int}
theorem uv_bd (h : dOk y m d) (h' : dOk y' m' d') (hL : 1 ≤ L) (hL' : L ≤ 4) :
    (-600000 ≤ uY L y m d y' m' d' ∧ uY L y m d y' m' d' ≤ 600000) ∧ (-7200000 ≤ uMo L y m d y' m' d' ∧ uMo L y m d y' m' d' ≤ 7200000) ∧ (-200000001 ≤ uW L y m d y' m' d' ∧ uW L y m d y' m' d' ≤ 200000001) ∧ (-200000001 ≤ uD L y m d y' m' d' ∧ uD L y m d y' m' d' ≤ 200000001) ∧
    (uS y m d y' m' d' = 1 ∧ 0 ≤ uY L y m d y' m' d' ∧ 0 ≤ uMo L y m d y' m' d' ∧ 0 ≤ uW L y m d y' m' d' ∧ 0 ≤ uD L y m d y' m' d' ∨
     uS y m d y' m' d' = -1 ∧ uY L y m d y' m' d' ≤ 0 ∧ uMo L y m d y' m' d' ≤ 0 ∧ uW L y m d y' m' d' ≤ 0 ∧ uD L y m d y' m' d' ≤ 0 ∨
     uS y m d y' m' d' = 0 ∧ uY L y m d y' m' d' = 0 ∧ uMo L y m d y' m' d' = 0 ∧ uW L y m d y' m' d' = 0 ∧ uD L y m d y' m' d' = 0) ∧
    (L = 1 → -12 < uMo L y m d y' m' d' ∧ uMo L y m d y' m' d' < 12) ∧ (L ≤ 2 → -31 < uD L y m d y' m' d' ∧ uD L y m d y' m' d' < 31) ∧ (L = 3 → -7 < uD L y m d y' m' d' ∧ uD L y m d y' m' d' < 7) := by
  have us := until_sign h h' hL hL' _ rfl
  have tr : uS y m d y' m' d' = -1 ∨ uS y m d y' m' d' = 0 ∨ uS y m d y' m' d' = 1 := cmp3_tri y' m' d' y m d
  generalize uS y m d y' m' d' = s at *
  generalize uY L y m d y' m' d' = A at *
  generalize uMo L y m d y' m' d' = B at *
  generalize uW L y m d y' m' d' = C at *
  generalize uD L y m d y' m' d' = D at *
  obtain ⟨u1, u2, u3, u4, u5, u6, u7, u8, u9, u10, u11, u12⟩ := us
  rcases tr with rfl | rfl | rfl
  · refine ⟨by omega, by omega, by omega, by omega, .inr (.inl ⟨rfl, by omega, by omega, by omega, by omega⟩), fun l => ?_, fun l => ?_, fun l => ?_⟩
    · have := u10 l; omega
    · have := u11 l; omega
    · have := u12 l; omega
  · obtain ⟨v1, v2, v3, v4⟩ := u9 rfl
    exact ⟨by omega, by omega, by omega, by omega, .inr (.inr ⟨rfl, v1, v2, v3, v4⟩), fun l => by omega, fun l => by omega, fun l => by omega⟩
  · refine ⟨by omega, by omega, by omega, by omega, .inl ⟨rfl, by omega, by omega, by omega, by omega⟩, fun l => ?_, fun l => ?_, fun l => ?_⟩
    · have := u10 l; omega
    · have := u11 l; omega
    · have := u12 l; omega
end
section
variable {A B C D z : Int}
theorem lay5 (z : Int) : dtot 0 (l5 5 z) (l6 5 z) (l7 5 z) (l8 5 z) = z ∧ (0 ≤ z → 0 ≤ l5 5 z ∧ 0 ≤ l6 5 z ∧ 0 ≤ l7 5 z ∧ 0 ≤ l8 5 z) ∧ (z ≤ 0 → l5 5 z ≤ 0 ∧ l6 5 z ≤ 0 ∧ l7 5 z ≤ 0 ∧ l8 5 z ≤ 0) := by
  obtain ⟨a, b, c⟩ := lay_tot (u := 5) (x := z) (by omega) (by omega)
  exact ⟨a, fun h => (b h).2.2.2.2, fun h => (c h).2.2.2.2⟩
theorem lay5_ok (hz : -86400000000000 < z ∧ z < 86400000000000) : layOk 5 z := by
  have := td z 3600000000000 (by omega)
  refine ⟨⟨by omega, by omega⟩, ⟨by unfold LIM; omega, by unfold LIM; omega⟩, ?_⟩
  show -9223372036854775808 ≤ z.tdiv 3600000000000 ∧ z.tdiv 3600000000000 ≤ 9223372036854775807
  omega
theorem uOk_mk (ha : -600000 ≤ A ∧ A ≤ 600000) (hb : -7200000 ≤ B ∧ B ≤ 7200000) (hc : -200000001 ≤ C ∧ C ≤ 200000001) (hd : -200000001 ≤ D ∧ D ≤ 200000001) (hz : -86400000000000 < z ∧ z < 86400000000000)
    (sg : (0 ≤ A ∧ 0 ≤ B ∧ 0 ≤ C ∧ 0 ≤ D) ∧ 0 ≤ z ∨ (A ≤ 0 ∧ B ≤ 0 ∧ C ≤ 0 ∧ D ≤ 0) ∧ z ≤ 0) : uOk A B C D (l5 5 z) (l6 5 z) (l7 5 z) (l8 5 z) ∧ all64 A B C D (l5 5 z) (l6 5 z) (l7 5 z) (l8 5 z) := by
  obtain ⟨t1, t2, t3⟩ := lay5 z
  have q := lay_64 (lay5_ok hz)
  refine ⟨⟨?_, ⟨?_, ?_, ?_⟩, ?_⟩, by unfold I64; omega, by unfold I64; omega, by unfold I64; omega, by unfold I64; omega, q.2.2.2.2⟩
  · rcases sg with ⟨⟨g1, g2, g3, g4⟩, g⟩ | ⟨⟨g1, g2, g3, g4⟩, g⟩
    · exact .inl ⟨g1, g2, g3, g4, t2 g⟩
    · exact .inr ⟨g1, g2, g3, g4, t3 g⟩
  · unfold cnt1; omega
  · unfold cnt1; omega
  · unfold cnt1; omega
  · unfold dtot LIM at *; omega
end
section
variable (L y m d y' m' d' : Int)
theorem cback_d (h : dOk y m d) (h' : dOk y' m' d') (hL : 1 ≤ L) (hL' : L ≤ 4) : Fn 28 [] [dv y m d, duv (uY L y m d y' m' d') (uMo L y m d y' m' d') (uW L y m d y' m' d') (uD L y m d y' m' d') 0 0 0 0, .int .i64 1] (.tuple #[dv y' m' d', .int .i64 0]) := by
  obtain ⟨b1, b2, b3, b4, b5, -⟩ := uv_bd h h' hL hL'
  obtain ⟨o, i⟩ := uOk_mk (z := 0) b1 b2 b3 b4 (by omega) (by rcases b5 with q | q | q <;> omega)
  obtain ⟨u1, u2⟩ := until_back h h' hL hL'
  have yy := dOk_year h
  have yy' := h'.2
  have mv := cmoved_c y m d (12 * uY L y m d y' m' d' + uMo L y m d y' m' d') (uD L y m d y' m' d' + 7 * uW L y m d y' m' d' + 0) _ (dnum y' m' d') rfl (by omega) (by omega) h.1.1 h.1.2.1 (by omega) (by omega) h.1.2.2.1 u1 (by omega) yy'.1 yy'.2
  rw [(date_of h'.1).1, (date_of h'.1).2.1, (date_of h'.1).2.2] at mv
  exact cadt_v _ _ _ _ 0 0 0 0 y m d 1 _ _ _ 0 i h o (.inl rfl) 0 (by decide) mv
end
section
variable (y mo d h m s n y' mo' d' h' m' s' n' L E Z : Int)
theorem cbet (k : pOk y mo d h m s n) (k' : pOk y' mo' d' h' m' s' n') (l1 : 1 ≤ L) (l2 : L ≤ 4) (hE : bD y mo d h m s n y' mo' d' h' m' s' n' = E) (hZ : bZ y mo d h m s n y' mo' d' h' m' s' n' = Z) :
    Fn 29 [] [ptv y mo d h m s n, ptv y' mo' d' h' m' s' n', .int .i64 L] (.tuple #[duv (uY L y mo d (dY E) (dM E) (dD E)) (uMo L y mo d (dY E) (dM E) (dD E)) (uW L y mo d (dY E) (dM E) (dD E)) (uD L y mo d (dY E) (dM E) (dD E)) (l5 5 Z) (l6 5 Z) (l7 5 Z) (l8 5 Z), .int .i64 0]) := by
  obtain ⟨i1, i2, -⟩ := bt_in k k'
  obtain ⟨d1, d2⟩ := bt_date k k'
  rw [hE] at i1 d1 d2
  rw [hZ] at i2
  have la := ulay_y 5 Z (by unfold W128; omega) (lay5_ok i2)
  unfold bD at hE
  unfold bZ at hZ
  by_cases c : (tnan h' m' s' n' - tnan h m s n) * uS y mo d y' mo' d' < 0
  · have hX : bX y mo d h m s n y' mo' d' h' m' s' n' = uS y mo d y' mo' d' := if_pos c
    rw [hX] at hE hZ
    have hv : uS y mo d y' mo' d' = -1 ∨ uS y mo d y' mo' d' = 1 := by
      rcases cmp3_tri y' mo' d' y mo d with q | q | q
      · exact .inl q
      · have q' : uS y mo d y' mo' d' = 0 := q
        rw [q'] at c; omega
      · exact .inr q
    have ad := caddd_yes y' mo' d' (-(uS y mo d y' mo' d')) k'.1 (by omega) (by omega)
    rw [show dnum y' mo' d' + -(uS y mo d y' mo' d') = E by omega] at ad
    rw [← hZ] at la
    have := cbet_s y mo d h m s n y' mo' d' h' m' s' n' L _ _ _ _ _ _ _ _ 0 k k' l1 l2 (uS y mo d y' mo' d') (tnan h' m' s' n' - tnan h m s n) hv rfl rfl c (dY E) (dM E) (dD E) _ _ _ _ 0 ad (cunt L y mo d (dY E) (dM E) (dD E) k.1 d1 l1 l2) la
    rw [hZ] at this
    exact this
  · have hX : bX y mo d h m s n y' mo' d' h' m' s' n' = 0 := if_neg c
    rw [hX] at hE hZ
    obtain rfl : E = dnum y' mo' d' := by omega
    have z' : tnan h' m' s' n' - tnan h m s n = Z := by omega
    have hv : uS y mo d y' mo' d' = -1 ∨ uS y mo d y' mo' d' = 0 ∨ uS y mo d y' mo' d' = 1 := cmp3_tri y' mo' d' y mo d
    rw [z'] at c
    rw [(date_of k'.1.1).1, (date_of k'.1.1).2.1, (date_of k'.1.1).2.2]
    exact cbet_n y mo d h m s n y' mo' d' h' m' s' n' L _ _ _ _ _ _ _ _ 0 k k' l1 l2 (uS y mo d y' mo' d') Z hv rfl z' c _ _ _ _ 0 (cunt L y mo d y' mo' d' k.1 k'.1 l1 l2) la
theorem bt_uOk (k : pOk y mo d h m s n) (k' : pOk y' mo' d' h' m' s' n') (l1 : 1 ≤ L) (l2 : L ≤ 4) (hE : bD y mo d h m s n y' mo' d' h' m' s' n' = E) (hZ : bZ y mo d h m s n y' mo' d' h' m' s' n' = Z) :
    uOk (uY L y mo d (dY E) (dM E) (dD E)) (uMo L y mo d (dY E) (dM E) (dD E)) (uW L y mo d (dY E) (dM E) (dD E)) (uD L y mo d (dY E) (dM E) (dD E)) (l5 5 Z) (l6 5 Z) (l7 5 Z) (l8 5 Z) ∧ all64 (uY L y mo d (dY E) (dM E) (dD E)) (uMo L y mo d (dY E) (dM E) (dD E)) (uW L y mo d (dY E) (dM E) (dD E)) (uD L y mo d (dY E) (dM E) (dD E)) (l5 5 Z) (l6 5 Z) (l7 5 Z) (l8 5 Z) := by
  obtain ⟨i1, i2, -, i4, -⟩ := bt_in k k'
  obtain ⟨d1, d2⟩ := bt_date k k'
  rw [hE] at i1 d1 d2 i4
  rw [hZ] at i2 i4
  obtain ⟨b1, b2, b3, b4, b5, -⟩ := uv_bd k.1 d1 l1 l2
  refine uOk_mk b1 b2 b3 b4 i2 ?_
  have sn := uS_num k.1.1 d1.1
  rw [d2] at sn
  have tr : cmpI E (dnum y mo d) = 1 ∧ dnum y mo d < E ∨ cmpI E (dnum y mo d) = 0 ∧ E = dnum y mo d ∨ cmpI E (dnum y mo d) = -1 ∧ E < dnum y mo d := by
    unfold cmpI; split <;> (try split) <;> omega
  generalize uY L y mo d (dY E) (dM E) (dD E) = A at *
  generalize uMo L y mo d (dY E) (dM E) (dD E) = B at *
  generalize uW L y mo d (dY E) (dM E) (dD E) = C at *
  generalize uD L y mo d (dY E) (dM E) (dD E) = D at *
  rw [sn] at b5
  generalize cmpI E (dnum y mo d) = v at *
  generalize uS y mo d y' mo' d' = w at *
  clear sn hE hZ
  rcases b5 with q | q | q <;> rcases i4 with j | j | j <;> omega
theorem cback_t (k : pOk y mo d h m s n) (k' : pOk y' mo' d' h' m' s' n') (l1 : 1 ≤ L) (l2 : L ≤ 4) (hE : bD y mo d h m s n y' mo' d' h' m' s' n' = E) (hZ : bZ y mo d h m s n y' mo' d' h' m' s' n' = Z) :
    Fn 30 [] [ptv y mo d h m s n, duv (uY L y mo d (dY E) (dM E) (dD E)) (uMo L y mo d (dY E) (dM E) (dD E)) (uW L y mo d (dY E) (dM E) (dD E)) (uD L y mo d (dY E) (dM E) (dD E)) (l5 5 Z) (l6 5 Z) (l7 5 Z) (l8 5 Z), .int .i64 1] (.tuple #[ptv y' mo' d' h' m' s' n', .int .i64 0]) := by
  obtain ⟨o, i⟩ := bt_uOk y mo d h m s n y' mo' d' h' m' s' n' L E Z k k' l1 l2 hE hZ
  obtain ⟨d1, d2⟩ := bt_date k k'
  obtain ⟨t1, t2⟩ := bt_time (y := y) (mo := mo) (d := d) (h := h) (m := m) (s := s) (n := n) k'
  rw [hE] at d1 d2
  rw [hZ] at t1 t2
  obtain ⟨b1, b2, b3, b4, -⟩ := uv_bd k.1 d1 l1 l2
  obtain ⟨u1, u2⟩ := until_back k.1 d1 l1 l2
  have yy := dOk_year k.1
  have yy' := k'.1.2
  have xb : -1 ≤ bX y mo d h m s n y' mo' d' h' m' s' n' ∧ bX y mo d h m s n y' mo' d' h' m' s' n' ≤ 1 := by
    have tr : uS y mo d y' mo' d' = -1 ∨ uS y mo d y' mo' d' = 0 ∨ uS y mo d y' mo' d' = 1 := cmp3_tri y' mo' d' y mo d
    unfold bX; split <;> omega
  unfold bD at hE
  have mv := cmoved_c y mo d (12 * uY L y mo d (dY E) (dM E) (dD E) + uMo L y mo d (dY E) (dM E) (dD E)) (uD L y mo d (dY E) (dM E) (dD E) + 7 * uW L y mo d (dY E) (dM E) (dD E) + bX y mo d h m s n y' mo' d' h' m' s' n') _ (dnum y' mo' d') rfl (by omega) (by omega) k.1.1.1 k.1.1.2.1 (by omega) (by omega) k.1.1.2.2.1 u1 (by omega) yy'.1 yy'.2
  rw [(date_of k'.1.1).1, (date_of k'.1.1).2.1, (date_of k'.1.1).2.2] at mv
  obtain ⟨r1, r2, r3, r4⟩ := t_tnan k'.2.1
  have := cad_y y mo d h m s n _ _ _ _ _ _ _ _ 1 y' mo' d' (bX y mo d h m s n y' mo' d' h' m' s' n') (tnan h' m' s' n') i k o (.inl rfl) (by rw [(lay5 Z).1]; exact t1) (by rw [(lay5 Z).1]; exact t2) (by omega) mv (by rw [r1, r2, r3, r4]; exact k')
  rw [r1, r2, r3, r4] at this
  exact this
theorem cback_5 (P : Int) (k : pOk y mo d h m s n) (k' : pOk y' mo' d' h' m' s' n') (l1 : 5 ≤ L) (l2 : L ≤ 8) (hP : pnum y' mo' d' h' m' s' n' - pnum y mo d h m s n = P) (q : layOk L P) :
    Fn 30 [] [ptv y mo d h m s n, duv 0 0 0 (l4 L P) (l5 L P) (l6 L P) (l7 L P) (l8 L P), .int .i64 1] (.tuple #[ptv y' mo' d' h' m' s' n', .int .i64 0]) := by
  have o := lay_ok q
  have a := lay_64 q
  have t := (lay_tot (x := P) q.1.1 q.1.2).1
  have z4 : l4 L P = 0 := by unfold l4; rw [if_neg (by omega)]
  rw [z4] at o a t ⊢
  have tb := tnan_bd k.2.1
  have tb' := tnan_bd k'.2.1
  have yy := dOk_year k.1
  have dd := k.1.2
  have yy' := k'.1.2
  have e : tnan h m s n + P = (dnum y' mo' d' - dnum y mo d) * 86400000000000 + tnan h' m' s' n' := by rw [← hP]; unfold pnum; omega
  obtain ⟨Q, hQ⟩ : ∃ Q, dnum y' mo' d' - dnum y mo d = Q := ⟨_, rfl⟩
  rw [hQ] at e
  have mv := cmoved_c y mo d (12 * 0 + 0) (0 + 7 * 0 + Q) (ymi y mo) (dnum y' mo' d') (by omega) (by omega) (by omega) k.1.1.1 k.1.1.2.1 (by omega) (by omega) k.1.1.2.2.1
    (by rw [(l_ymi k.1.1.1 k.1.1.2.1).1, (l_ymi k.1.1.1 k.1.1.2.1).2, cD_same k.1.1]; exact k.1) (by rw [(l_ymi k.1.1.1 k.1.1.2.1).1, (l_ymi k.1.1.1 k.1.1.2.1).2, cD_same k.1.1]; omega) yy'.1 yy'.2
  rw [(date_of k'.1.1).1, (date_of k'.1.1).2.1, (date_of k'.1.1).2.2] at mv
  obtain ⟨r1, r2, r3, r4⟩ := t_tnan k'.2.1
  have := cad_y y mo d h m s n 0 0 0 0 _ _ _ _ 1 y' mo' d' Q (tnan h' m' s' n') a k o.1 (.inl rfl) (by rw [t, e, Int.fdiv_eq_ediv_of_nonneg _ (by omega)]; omega) (by rw [t, e, Int.fmod_eq_emod_of_nonneg _ (by omega)]; omega) (by omega) mv (by rw [r1, r2, r3, r4]; exact k')
  rw [r1, r2, r3, r4] at this
  exact this
variable (A B C D H M S T e A' B' C' D' H' M' S' T' g : Int)
theorem cback_v (kh1 : Fn 25 [] [dv y mo d, dv y' mo' d', .int .i64 L] (.tuple #[duv A B C D H M S T, .int .i64 e])) (h2 : e ≠ 0 ∨ e = 0 ∧ Fn 28 [] [dv y mo d, duv A B C D H M S T, .int .i64 1] (.tuple #[dv y' mo' d', .int .i64 0]))
    (kh3 : Fn 29 [] [ptv y mo d h m s n, ptv y' mo' d' h' m' s' n', .int .i64 L] (.tuple #[duv A' B' C' D' H' M' S' T', .int .i64 g])) (h4 : g = 1 ∨ g = 4 ∧ 4 < L ∨ g = 0 ∧ Fn 30 [] [ptv y mo d h m s n, duv A' B' C' D' H' M' S' T', .int .i64 1] (.tuple #[ptv y' mo' d' h' m' s' n', .int .i64 0])) :
    Fn 8 [] [ptv y mo d h m s n, ptv y' mo' d' h' m' s' n', .int .i64 L] (.bool true) := by
  rcases h2 with n2 | ⟨rfl, kh2⟩
  · rcases h4 with rfl | ⟨rfl, l4⟩ | ⟨rfl, kh4⟩
    · refine fn_of Try.func8 rfl fun ww => ?_
      refine st_fn ent25 (kh1) sub0 (by kernel_rfl) ?_
      refine st_b 25 (show (e == 0) = false by exact decide_eq_false (by omega)) (by kernel_rfl) ?_
      refine st_fn ent29 (kh3) sub0 (by kernel_rfl) ?_
      refine st_fn ent27 (alive19) sub0 (by kernel_rfl) ?_
      exact st_ret Try.func8 (by kernel_rfl)
    · refine fn_of Try.func8 rfl fun ww => ?_
      refine st_fn ent25 (kh1) sub0 (by kernel_rfl) ?_
      refine st_b 25 (show (e == 0) = false by exact decide_eq_false (by omega)) (by kernel_rfl) ?_
      refine st_fn ent29 (kh3) sub0 (by kernel_rfl) ?_
      refine st_fn ent27 (alive19) sub0 (by kernel_rfl) ?_
      exact st_retv Try.func8 (show Value.bool (decide (L > 4)) = _ by simp_all) (by kernel_rfl)
    · refine fn_of Try.func8 rfl fun ww => ?_
      refine st_fn ent25 (kh1) sub0 (by kernel_rfl) ?_
      refine st_b 25 (show (e == 0) = false by exact decide_eq_false (by omega)) (by kernel_rfl) ?_
      refine st_fn ent29 (kh3) sub0 (by kernel_rfl) ?_
      refine st_fn ent30 (kh4) sub0 (by kernel_rfl) ?_
      refine st_fn ent27 (alive19) sub0 (by kernel_rfl) ?_
      exact st_retv Try.func8 (show Value.bool (y' == y' && (mo' == mo' && (d' == d' && true)) && (h' == h' && (m' == m' && (s' == s' && (n' == n' && true))) && true)) = _ by simp) (by kernel_rfl)
  · rcases h4 with rfl | ⟨rfl, l4⟩ | ⟨rfl, kh4⟩
    · refine fn_of Try.func8 rfl fun ww => ?_
      refine st_fn ent25 (kh1) sub0 (by kernel_rfl) ?_
      refine st_fn ent28 (kh2) sub0 (by kernel_rfl) ?_
      refine st_b 39 (show (!(y' == y' && (mo' == mo' && (d' == d' && true)))) = false by simp_all) (by kernel_rfl) ?_
      refine st_fn ent29 (kh3) sub0 (by kernel_rfl) ?_
      refine st_fn ent27 (alive19) sub0 (by kernel_rfl) ?_
      exact st_ret Try.func8 (by kernel_rfl)
    · refine fn_of Try.func8 rfl fun ww => ?_
      refine st_fn ent25 (kh1) sub0 (by kernel_rfl) ?_
      refine st_fn ent28 (kh2) sub0 (by kernel_rfl) ?_
      refine st_b 39 (show (!(y' == y' && (mo' == mo' && (d' == d' && true)))) = false by simp_all) (by kernel_rfl) ?_
      refine st_fn ent29 (kh3) sub0 (by kernel_rfl) ?_
      refine st_fn ent27 (alive19) sub0 (by kernel_rfl) ?_
      exact st_retv Try.func8 (show Value.bool (decide (L > 4)) = _ by simp_all) (by kernel_rfl)
    · refine fn_of Try.func8 rfl fun ww => ?_
      refine st_fn ent25 (kh1) sub0 (by kernel_rfl) ?_
      refine st_fn ent28 (kh2) sub0 (by kernel_rfl) ?_
      refine st_b 39 (show (!(y' == y' && (mo' == mo' && (d' == d' && true)))) = false by simp_all) (by kernel_rfl) ?_
      refine st_fn ent29 (kh3) sub0 (by kernel_rfl) ?_
      refine st_fn ent30 (kh4) sub0 (by kernel_rfl) ?_
      refine st_fn ent27 (alive19) sub0 (by kernel_rfl) ?_
      exact st_retv Try.func8 (show Value.bool (y' == y' && (mo' == mo' && (d' == d' && true)) && (h' == h' && (m' == m' && (s' == s' && (n' == n' && true))) && true)) = _ by simp) (by kernel_rfl)
end
section
variable (y mo d h m s n y' mo' d' h' m' s' n' L : Int)
theorem law_cback (W : World) : Calls Try.prog 8 #[ptv y mo d h m s n, ptv y' mo' d' h' m' s' n', .int .i64 L] W (fun e w' => e = .returned (.bool true) ∧ Ext W w') := by
  obtain ⟨A, B, C, D, H, M, S, T, e, h1, h2⟩ : ∃ A B C D H M S T e : Int, Fn 25 [] [dv y mo d, dv y' mo' d', .int .i64 L] (.tuple #[duv A B C D H M S T, .int .i64 e]) ∧ (e ≠ 0 ∨ e = 0 ∧ Fn 28 [] [dv y mo d, duv A B C D H M S T, .int .i64 1] (.tuple #[dv y' mo' d', .int .i64 0])) := by
    by_cases k : dOk y mo d ∧ dOk y' mo' d' ∧ 1 ≤ L ∧ L ≤ 4
    · exact ⟨_, _, _, _, _, _, _, _, _, cunt L y mo d y' mo' d' k.1 k.2.1 k.2.2.1 k.2.2.2, .inr ⟨rfl, cback_d L y mo d y' mo' d' k.1 k.2.1 k.2.2.1 k.2.2.2⟩⟩
    · exact ⟨_, _, _, _, _, _, _, _, _, cunt_a y mo d y' mo' d' L k, .inl (by decide)⟩
  obtain ⟨A', B', C', D', H', M', S', T', g, h3, h4⟩ : ∃ A' B' C' D' H' M' S' T' g : Int, Fn 29 [] [ptv y mo d h m s n, ptv y' mo' d' h' m' s' n', .int .i64 L] (.tuple #[duv A' B' C' D' H' M' S' T', .int .i64 g]) ∧ (g = 1 ∨ g = 4 ∧ 4 < L ∨ g = 0 ∧ Fn 30 [] [ptv y mo d h m s n, duv A' B' C' D' H' M' S' T', .int .i64 1] (.tuple #[ptv y' mo' d' h' m' s' n', .int .i64 0])) := by
    by_cases k : pOk y mo d h m s n ∧ pOk y' mo' d' h' m' s' n' ∧ 1 ≤ L ∧ L ≤ 8
    · obtain ⟨k1, k2, l1, l8⟩ := k
      by_cases l4 : L ≤ 4
      · exact ⟨_, _, _, _, _, _, _, _, _, cbet y mo d h m s n y' mo' d' h' m' s' n' L _ _ k1 k2 l1 l4 rfl rfl, .inr (.inr ⟨rfl, cback_t y mo d h m s n y' mo' d' h' m' s' n' L _ _ k1 k2 l1 l4 rfl rfl⟩)⟩
      · have w : W128 (pnum y' mo' d' h' m' s' n' - pnum y mo d h m s n) := by
          have a := pOk_in k1
          have b := pOk_in k2
          unfold pIn at a b; unfold W128; omega
        by_cases q : layOk L (pnum y' mo' d' h' m' s' n' - pnum y mo d h m s n)
        · exact ⟨_, _, _, _, _, _, _, _, _, cbet_5 y mo d h m s n y' mo' d' h' m' s' n' L _ _ _ _ _ _ _ _ _ k1 k2 (by omega) l8 (ulay_y L _ w q), .inr (.inr ⟨rfl, cback_5 y mo d h m s n y' mo' d' h' m' s' n' L _ k1 k2 (by omega) l8 rfl q⟩)⟩
        · exact ⟨_, _, _, _, _, _, _, _, _, cbet_5 y mo d h m s n y' mo' d' h' m' s' n' L _ _ _ _ _ _ _ _ _ k1 k2 (by omega) l8 (ulay_n L _ w (by omega) l8 q), .inr (.inl ⟨rfl, by omega⟩)⟩
    · exact ⟨_, _, _, _, _, _, _, _, _, cbet_a y mo d h m s n y' mo' d' h' m' s' n' L k, .inl rfl⟩
  exact cback_v y mo d h m s n y' mo' d' h' m' s' n' L A B C D H M S T e A' B' C' D' H' M' S' T' g h1 h2 h3 h4 W (zall_nil W)
end
end Go.Proofs.Ytccllfegnijpiaa
end
