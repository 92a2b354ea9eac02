/-
  Texts joined: Cuv, Cbk, Ext2, Rtm, Rtl, Rea, Reb, Rec, In, Inn. Each says at its head what it shows.
-/
import Derived.OpenShut
import Derived.WideShapes
import Derived.Test.YthoedmikfpbfnaaPRd
section
/-
  What lies between two days, by every unit; what every right program answers of layer 19; the law CalendarUntils.
-/
set_option linter.unusedVariables false
set_option linter.unusedSimpArgs false
set_option maxRecDepth 100000
namespace Go.Proofs.Ythoedmikfpbfnaa
open Go Go.RowKit Go.Ev

section
variable (L y m d y' m' d' : Int)
abbrev uvd : Value := .tuple #[duv (uY L y m d y' m' d') (uMo L y m d y' m' d') (uW L y m d y' m' d') (uD L y m d y' m' d') 0 0 0 0, .int .i64 0]
theorem duv_eq {a b c d a' b' c' d' : Int} (e1 : a = a') (e2 : b = b') (e3 : c = c') (e4 : d = d') : Value.tuple #[duv a b c d 0 0 0 0, .int .i64 0] = .tuple #[duv a' b' c' d' 0 0 0 0, .int .i64 0] := by rw [e1, e2, e3, e4]
theorem unt_all {f : FuncId} (h : dOk y m d) (h' : dOk y' m' d') (hL : 1 ≤ L) (hL' : L ≤ 4)
    (f0 : ∀ L : Int, (L = 1 ∨ L = 2) → cmp3 y' m' d' y m d = 0 → Fn f [] [dv y m d, dv y' m' d', .int .i64 L] (.tuple #[du0, .int .i64 0]))
    (f1 : ∀ s N T : Int, (s = 1 ∨ s = -1) → cmp3 y' m' d' y m d = s → mM s y m d y' m' d' = N → ymi y m + s * N = T → Fn f [] [dv y m d, dv y' m' d', .int .i64 1] (.tuple #[duv (s * (N / 12)) (s * (N - 12 * (N / 12))) 0 (dnum y' m' d' - dnum (lY T) (lM T) (cD (lY T) (lM T) d)) 0 0 0 0, .int .i64 0]))
    (f2 : ∀ s N T : Int, (s = 1 ∨ s = -1) → cmp3 y' m' d' y m d = s → mM s y m d y' m' d' = N → ymi y m + s * N = T → Fn f [] [dv y m d, dv y' m' d', .int .i64 2] (.tuple #[duv 0 (s * N) 0 (dnum y' m' d' - dnum (lY T) (lM T) (cD (lY T) (lM T) d)) 0 0 0 0, .int .i64 0]))
    (f3 : Fn f [] [dv y m d, dv y' m' d', .int .i64 3] (.tuple #[duv 0 0 ((dnum y' m' d' - dnum y m d).tdiv 7) ((dnum y' m' d' - dnum y m d).tmod 7) 0 0 0 0, .int .i64 0]))
    (f4 : Fn f [] [dv y m d, dv y' m' d', .int .i64 4] (.tuple #[duv 0 0 0 (dnum y' m' d' - dnum y m d) 0 0 0 0, .int .i64 0])) : Fn f [] [dv y m d, dv y' m' d', .int .i64 L] (uvd L y m d y' m' d') := by
  have l : L = 1 ∨ L = 2 ∨ L = 3 ∨ L = 4 := by omega
  have us := until_sign h h' hL hL' _ rfl
  by_cases z : uS y m d y' m' d' = 0
  · obtain ⟨z1, z2, z3, z4⟩ := us.2.2.2.2.2.2.2.2.1 z
    rcases l with rfl | rfl | rfl | rfl
    · have := f0 1 (.inl rfl) z; rwa [show uvd 1 y m d y' m' d' = _ from duv_eq z1 z2 z3 z4]
    · have := f0 2 (.inr rfl) z; rwa [show uvd 2 y m d y' m' d' = _ from duv_eq z1 z2 z3 z4]
    · exact f3
    · exact f4
  · have hs : uS y m d y' m' d' = 1 ∨ uS y m d y' m' d' = -1 := by
      rcases cmp3_tri y' m' d' y m d with k | k | k
      · exact .inr k
      · exact absurd k z
      · exact .inl k
    rcases l with rfl | rfl | rfl | rfl
    · have := f1 (uS y m d y' m' d') (uMM y m d y' m' d') _ hs rfl rfl rfl
      rw [show uMM y m d y' m' d' - 12 * (uMM y m d y' m' d' / 12) = uMM y m d y' m' d' % 12 by omega] at this
      exact this
    · exact f2 (uS y m d y' m' d') (uMM y m d y' m' d') _ hs rfl rfl rfl
    · exact f3
    · exact f4
theorem cunt (h : dOk y m d) (h' : dOk y' m' d') (hL : 1 ≤ L) (hL' : L ≤ 4) : Fn 34 [] [dv y m d, dv y' m' d', .int .i64 L] (uvd L y m d y' m' d') :=
  unt_all L y m d y' m' d' h h' hL hL' (fun L l e => cunt_0 y m d y' m' d' L l h h' e) (fun s N T a b c e => cunt_1 y m d y' m' d' s N T h h' a b c e) (fun s N T a b c e => cunt_2 y m d y' m' d' s N T h h' a b c e) (cunt_3 y m d y' m' d' h h') (cunt_4 y m d y' m' d' h h')
end
/-- Months, then days, put to a day, that lead to a right one. -/
theorem cmoved_c (y m d k n T S : Int) (hT : ymi y m + k = T) (y0 : -10000000 ≤ y) (y1 : y ≤ 10000000) (m1 : 1 ≤ m) (m2 : m ≤ 12) (k0 : -1000000000000 ≤ k) (k1 : k ≤ 1000000000000) (d1 : 1 ≤ d) (q : dOk (lY T) (lM T) (cD (lY T) (lM T) d)) (hS : dnum (lY T) (lM T) (cD (lY T) (lM T) d) + n = S) (S0 : -100000001 ≤ S) (S1 : S ≤ 100000000) :
    Fn 50 [] [dv y m d, .int .i64 k, .int .i64 n, .int .i64 1] (.tuple #[dv (dY S) (dM S) (dD S), .int .i64 0]) := by
  have ad := caddd_yes (lY T) (lM T) (cD (lY T) (lM T) d) n q (by omega) (by omega)
  rw [hS] at ad
  exact cmov_v y m d n T 1 k _ _ _ 0 _ _ _ (clater y m d k T (by unfold ymi at hT; omega) y0 y1 m1 m2 k0 k1) (creg_cy (lY T) (lM T) d (ymi_l T).2.1 (ymi_l T).2.2 d1 q) ad
end Go.Proofs.Ythoedmikfpbfnaa
end
section
/-
  What lies between date-times, put to the first one; the law CalendarBack.
-/
set_option linter.unusedVariables false
set_option linter.unusedSimpArgs false
set_option maxRecDepth 100000
namespace Go.Proofs.Ythoedmikfpbfnaa
open Go Go.RowKit Go.Ev

section
variable {A B C D z : Int}
theorem lay5_ok (hz : -86400000000000 < z ∧ z < 86400000000000) : layOk 5 z := by
  have := td z 3600000000000 (by omega)
  refine ⟨⟨by omega, by omega⟩, ⟨by unfold LIM; omega, by unfold LIM; omega⟩, ?_⟩
  show -9223372036854775808 ≤ z.tdiv 3600000000000 ∧ z.tdiv 3600000000000 ≤ 9223372036854775807
  omega
end
section
variable (y mo d h m s n y' mo' d' h' m' s' n' L E Z : Int)
theorem cbet (k : pOk y mo d h m s n) (k' : pOk y' mo' d' h' m' s' n') (l1 : 1 ≤ L) (l2 : L ≤ 4) (hE : bD y mo d h m s n y' mo' d' h' m' s' n' = E) (hZ : bZ y mo d h m s n y' mo' d' h' m' s' n' = Z) :
    Fn 10 [] [ptv y mo d h m s n, ptv y' mo' d' h' m' s' n', .int .i64 L] (.tuple #[duv (uY L y mo d (dY E) (dM E) (dD E)) (uMo L y mo d (dY E) (dM E) (dD E)) (uW L y mo d (dY E) (dM E) (dD E)) (uD L y mo d (dY E) (dM E) (dD E)) (l5 5 Z) (l6 5 Z) (l7 5 Z) (l8 5 Z), .int .i64 0]) := by
  obtain ⟨i1, i2, -⟩ := bt_in k k'
  obtain ⟨d1, d2⟩ := bt_date k k'
  rw [hE] at i1 d1 d2
  rw [hZ] at i2
  have la := ulay_y 5 Z (by unfold W128; omega) (lay5_ok i2)
  unfold bD at hE
  unfold bZ at hZ
  by_cases c : (tnan h' m' s' n' - tnan h m s n) * uS y mo d y' mo' d' < 0
  · have hX : bX y mo d h m s n y' mo' d' h' m' s' n' = uS y mo d y' mo' d' := if_pos c
    rw [hX] at hE hZ
    have hv : uS y mo d y' mo' d' = -1 ∨ uS y mo d y' mo' d' = 1 := by
      rcases cmp3_tri y' mo' d' y mo d with q | q | q
      · exact .inl q
      · have q' : uS y mo d y' mo' d' = 0 := q
        rw [q'] at c; omega
      · exact .inr q
    have ad := caddd_yes y' mo' d' (-(uS y mo d y' mo' d')) k'.1 (by omega) (by omega)
    rw [show dnum y' mo' d' + -(uS y mo d y' mo' d') = E by omega] at ad
    rw [← hZ] at la
    have := cbet_s y mo d h m s n y' mo' d' h' m' s' n' L _ _ _ _ _ _ _ _ 0 k k' l1 l2 (uS y mo d y' mo' d') (tnan h' m' s' n' - tnan h m s n) hv rfl rfl c (dY E) (dM E) (dD E) _ _ _ _ 0 ad (cunt L y mo d (dY E) (dM E) (dD E) k.1 d1 l1 l2) la
    rw [hZ] at this
    exact this
  · have hX : bX y mo d h m s n y' mo' d' h' m' s' n' = 0 := if_neg c
    rw [hX] at hE hZ
    obtain rfl : E = dnum y' mo' d' := by omega
    have z' : tnan h' m' s' n' - tnan h m s n = Z := by omega
    have hv : uS y mo d y' mo' d' = -1 ∨ uS y mo d y' mo' d' = 0 ∨ uS y mo d y' mo' d' = 1 := cmp3_tri y' mo' d' y mo d
    rw [z'] at c
    rw [(date_of k'.1.1).1, (date_of k'.1.1).2.1, (date_of k'.1.1).2.2]
    exact cbet_n y mo d h m s n y' mo' d' h' m' s' n' L _ _ _ _ _ _ _ _ 0 k k' l1 l2 (uS y mo d y' mo' d') Z hv rfl z' c _ _ _ _ 0 (cunt L y mo d y' mo' d' k.1 k'.1 l1 l2) la
variable (A B C D H M S T e A' B' C' D' H' M' S' T' g : Int)
end
end Go.Proofs.Ythoedmikfpbfnaa
end
section
/-
  round.extreme; the law RoundRatios by its two calls.
-/
set_option linter.unusedVariables false
set_option maxRecDepth 100000
namespace Go.Proofs.Ythoedmikfpbfnaa
open Go Go.RowKit Go.Ev

abbrev zz : Value := .agg #[.int .i64 0, .int .u64 0]
theorem ext_over (n d mode : Int) (hm : (hi d == -9223372036854775808 && (lo d == 0 && true)) = false) (hf : Fn 60 [] [wv n, wv d] (.tuple #[zz, zz, .int .i64 2])) : Fn 59 [] [wv n, wv d, .int .i64 mode] (.tuple #[zz, .int .i64 2]) := by
  have hm' : (!(hi d == -9223372036854775808 && (lo d == 0 && true))) = true := by rw [hm]; rfl
  refine fn_of Try.func59 rfl fun ww => ?_
  refine st_b 25 (show (!(hi d == -9223372036854775808 && (lo d == 0 && true))) = true by assumption) (by kernel_rfl) ?_
  refine st_fn ent60 (hf) sub0 (by kernel_rfl) ?_
  exact st_ret Try.func59 (by kernel_rfl)
theorem ext_a (n d q r' r D mode : Int) (h1 : 1 ≤ mode) (h2 : mode ≤ 9) (hm : (hi d == -9223372036854775808 && (lo d == 0 && true)) = false) (hf : Fn 60 [] [wv n, wv d] (.tuple #[wv q, wv r', .int .i64 0]))
    (hn1 : Fn 44 [] [wv r'] (.tuple #[wv r, .int .i64 0])) (hn2 : Fn 44 [] [wv d] (.tuple #[wv D, .int .i64 0])) (hz : (hi r' == 0 && (lo r' == 0 && true)) = false) (hr : W128 r) (hD : W128 D) (hl : W128 (D - r)) (hq : W128 q) :
    Fn 59 [] [wv n, wv d, .int .i64 mode] (rtv (if upB mode false (cmpI r (D - r)) (decide (q % 2 = 0)) = true then q + 1 else q)) := by
  have hm' : (!(hi d == -9223372036854775808 && (lo d == 0 && true))) = true := by rw [hm]; rfl
  by_cases hu : upB mode false (cmpI r (D - r)) (decide (q % 2 = 0)) = true
  · rw [if_pos hu]
    refine fn_of Try.func59 rfl fun ww => ?_
    refine st_b 25 (show (!(hi d == -9223372036854775808 && (lo d == 0 && true))) = true by assumption) (by kernel_rfl) ?_
    refine st_fn ent60 (hf) sub0 (by kernel_rfl) ?_
    refine st_b 38 (show (hi r' == 0 && (lo r' == 0 && true)) = false by assumption) (by kernel_rfl) ?_
    refine st_fn ent44 (hn1) sub0 (by kernel_rfl) ?_
    refine st_fn ent44 (hn2) sub0 (by kernel_rfl) ?_
    refine st_fn ent62 (between_fn (q) (r) (D) (false) (by assumption) (by assumption) (by assumption)) sub0 (by kernel_rfl) ?_
    refine st_fn ent61 (up_t (mode) (false) (cmpI r (D - r)) (decide (q % 2 = 0)) (by assumption) (by assumption) (by assumption)) sub0 (by kernel_rfl) ?_
    refine st_fn ent8 (wof_fn (1) (by (unfold I64; omega))) sub0 (by kernel_rfl) ?_
    refine st_fn ent25 (wadd_any (q) (1) (by assumption) (by (unfold W128; omega))) sub0 (by kernel_rfl) ?_
    exact st_ret Try.func59 (by kernel_rfl)
  · have hu' : upB mode false (cmpI r (D - r)) (decide (q % 2 = 0)) = false := (Bool.not_eq_true _).mp hu
    rw [if_neg hu, rtv_yes hq]
    refine fn_of Try.func59 rfl fun ww => ?_
    refine st_b 25 (show (!(hi d == -9223372036854775808 && (lo d == 0 && true))) = true by assumption) (by kernel_rfl) ?_
    refine st_fn ent60 (hf) sub0 (by kernel_rfl) ?_
    refine st_b 38 (show (hi r' == 0 && (lo r' == 0 && true)) = false by assumption) (by kernel_rfl) ?_
    refine st_fn ent44 (hn1) sub0 (by kernel_rfl) ?_
    refine st_fn ent44 (hn2) sub0 (by kernel_rfl) ?_
    refine st_fn ent62 (between_fn (q) (r) (D) (false) (by assumption) (by assumption) (by assumption)) sub0 (by kernel_rfl) ?_
    refine st_fn ent61 (up_f (mode) (false) (cmpI r (D - r)) (decide (q % 2 = 0)) (by assumption) (by assumption) (by assumption)) sub0 (by kernel_rfl) ?_
    exact st_ret Try.func59 (by kernel_rfl)
theorem wcmp_c (n : Int) : Fn 45 [] [wv n, .agg #[.int .i64 4611686018427387904, .int .u64 0]] (.int .i64 (cmpI n 85070591730234615865843651857942052864)) := by
  have e : wv 85070591730234615865843651857942052864 = .agg #[.int .i64 4611686018427387904, .int .u64 0] := by rfl
  have := wcmp_fn n 85070591730234615865843651857942052864
  rw [e] at this
  exact this
theorem ext_b1 (n x mode : Int) (h1 : 1 ≤ mode) (h2 : mode ≤ 9) (hn : 0 ≤ hi n) (hx : cmpI n 85070591730234615865843651857942052864 = x) (x0 : -1 ≤ x) (x1 : x ≤ 1) :
    Fn 59 [] [wv n, wv (-170141183460469231731687303715884105728), .int .i64 mode] (if upB mode true (0 - x) false = true then .tuple #[zz, .int .i64 0] else .tuple #[wv (-1), .int .i64 0]) := by
  have hm := min_yes
  have hc : Fn 45 [] [wv n, .agg #[.int .i64 4611686018427387904, .int .u64 0]] (.int .i64 x) := hx ▸ wcmp_c n
  clear hx
  by_cases hu : upB mode true (0 - x) false = true
  · rw [if_pos hu]
    refine fn_of Try.func59 rfl fun ww => ?_
    refine st_b 70 (show (decide (hi n ≥ 0)) = true by exact decide_eq_true (by omega)) (by kernel_rfl) ?_
    refine st_fn ent45 (hc) sub0 (by kernel_rfl) ?_
    refine st_i 86 .i64 (x' := 0 - x) (Go.IntWalk.i64_in _ (by omega)) (by kernel_rfl) ?_
    refine st_fn ent61 (up_t (mode) (true) (0 - x) (false) (by assumption) (by assumption) (by assumption)) sub0 (by kernel_rfl) ?_
    exact st_ret Try.func59 (by kernel_rfl)
  · have hu' : upB mode true (0 - x) false = false := (Bool.not_eq_true _).mp hu
    rw [if_neg hu]
    refine fn_of Try.func59 rfl fun ww => ?_
    refine st_b 70 (show (decide (hi n ≥ 0)) = true by exact decide_eq_true (by omega)) (by kernel_rfl) ?_
    refine st_fn ent45 (hc) sub0 (by kernel_rfl) ?_
    refine st_i 86 .i64 (x' := 0 - x) (Go.IntWalk.i64_in _ (by omega)) (by kernel_rfl) ?_
    refine st_fn ent61 (up_f (mode) (true) (0 - x) (false) (by assumption) (by assumption) (by assumption)) sub0 (by kernel_rfl) ?_
    refine st_fn ent8 (wof_fn (-1) (by (unfold I64; omega))) sub0 (by kernel_rfl) ?_
    exact st_ret Try.func59 (by kernel_rfl)
theorem ext_b2 (n x mode : Int) (h1 : 1 ≤ mode) (h2 : mode ≤ 9) (hW : W128 n) (hW' : W128 (-n)) (hn : hi n < 0) (hx : cmpI (-n) 85070591730234615865843651857942052864 = x) :
    Fn 59 [] [wv n, wv (-170141183460469231731687303715884105728), .int .i64 mode] (if upB mode false x true = true then .tuple #[wv 1, .int .i64 0] else .tuple #[zz, .int .i64 0]) := by
  have hm := min_yes
  have hc : Fn 45 [] [wv (-n), .agg #[.int .i64 4611686018427387904, .int .u64 0]] (.int .i64 x) := hx ▸ wcmp_c (-n)
  clear hx
  by_cases hu : upB mode false x true = true
  · rw [if_pos hu]
    refine fn_of Try.func59 rfl fun ww => ?_
    refine st_b 70 (show (decide (hi n ≥ 0)) = false by exact decide_eq_false (by omega)) (by kernel_rfl) ?_
    refine st_fn ent44 (wneg_yes (n) (by assumption) (by assumption)) sub0 (by kernel_rfl) ?_
    refine st_fn ent45 (hc) sub0 (by kernel_rfl) ?_
    refine st_fn ent61 (up_t (mode) (false) (x) (true) (by assumption) (by assumption) (by assumption)) sub0 (by kernel_rfl) ?_
    refine st_fn ent8 (wof_fn (1) (by (unfold I64; omega))) sub0 (by kernel_rfl) ?_
    exact st_ret Try.func59 (by kernel_rfl)
  · have hu' : upB mode false x true = false := (Bool.not_eq_true _).mp hu
    rw [if_neg hu]
    refine fn_of Try.func59 rfl fun ww => ?_
    refine st_b 70 (show (decide (hi n ≥ 0)) = false by exact decide_eq_false (by omega)) (by kernel_rfl) ?_
    refine st_fn ent44 (wneg_yes (n) (by assumption) (by assumption)) sub0 (by kernel_rfl) ?_
    refine st_fn ent45 (hc) sub0 (by kernel_rfl) ?_
    refine st_fn ent61 (up_f (mode) (false) (x) (true) (by assumption) (by assumption) (by assumption)) sub0 (by kernel_rfl) ?_
    exact st_ret Try.func59 (by kernel_rfl)
end Go.Proofs.Ythoedmikfpbfnaa
end
section
/-
  The law RoundRatios: the plain law, and its end.
-/
set_option linter.unusedVariables false
set_option linter.unusedSimpArgs false
set_option maxRecDepth 100000
namespace Go.Proofs.Ythoedmikfpbfnaa
open Go Go.RowKit Go.Ev

theorem nearQ_scale {p q g mode : Int} (hg : 0 < g) (hq : 0 < q) : nearQ (g * p) (g * q) mode = nearQ p q mode := by
  have hgq : 0 < g * q := Int.mul_pos hg hq
  have e1 : (g * p).fdiv (g * q) = p.fdiv q := by
    rw [Int.fdiv_eq_ediv_of_nonneg _ (by omega), Int.fdiv_eq_ediv_of_nonneg _ (by omega), Int.mul_ediv_mul_of_pos _ _ hg]
  have e2 : (g * p).fmod (g * q) = g * p.fmod q := by
    rw [Int.fmod_eq_emod_of_nonneg _ (by omega), Int.fmod_eq_emod_of_nonneg _ (by omega), Int.mul_emod_mul_of_pos _ _ hg]
  have pos : ∀ x : Int, (g * x < 0 ↔ x < 0) := fun x => by
    constructor
    · intro h
      apply Classical.byContradiction
      intro k
      have := Int.mul_nonneg (show 0 ≤ g by omega) (show 0 ≤ x by omega)
      omega
    · intro h
      have := Int.mul_neg_of_pos_of_neg hg h
      exact this
  have zer : ∀ x : Int, (g * x = 0 ↔ x = 0) := fun x => by
    rw [Int.mul_eq_zero]; omega
  have e3 : ∀ a b : Int, cmpI (g * a) (g * b) = cmpI a b := fun a b => by
    have h1 : g * a < g * b ↔ a < b := by
      have := pos (a - b)
      rw [Int.mul_sub] at this
      omega
    have h2 : g * a = g * b ↔ a = b := by
      have := zer (a - b)
      rw [Int.mul_sub] at this
      omega
    unfold cmpI
    simp only [h1, h2]
  have e4 : decide (g * p < 0) = decide (p < 0) := by
    rw [Bool.eq_iff_iff]; simp only [decide_eq_true_eq]; exact pos p
  have hu : upQ (g * p) (g * q) mode = upQ p q mode := by
    unfold upQ
    rw [e1, e2, e4, ← Int.mul_sub, e3]
  unfold nearQ
  rw [hu, e1, e2]
  by_cases k : p.fmod q = 0
  · rw [if_pos k, if_pos ((zer _).2 k)]
  · rw [if_neg k, if_neg fun h => k ((zer _).1 h)]
theorem fr_scale (n : Int) {d : Int} (h0 : d ≠ 0) : ∃ G X Y : Nat, G = Nat.gcd n.natAbs d.natAbs ∧ 0 < G ∧ n.natAbs = G * X ∧ d.natAbs = G * Y ∧ 0 < Y ∧ frP n d = wsg (!(decide (n < 0) == decide (d < 0))) (X : Int) ∧ frQ n d = (Y : Int) := by
  have hG : 0 < Nat.gcd n.natAbs d.natAbs := gcd_pos h0
  have h1 := Nat.mul_div_cancel' (Nat.gcd_dvd_left n.natAbs d.natAbs)
  have h2 := Nat.mul_div_cancel' (Nat.gcd_dvd_right n.natAbs d.natAbs)
  refine ⟨_, n.natAbs / Nat.gcd n.natAbs d.natAbs, d.natAbs / Nat.gcd n.natAbs d.natAbs, rfl, hG, h1.symm, h2.symm, ?_, rfl, rfl⟩
  rcases Nat.eq_zero_or_pos (d.natAbs / Nat.gcd n.natAbs d.natAbs) with h | h
  · rw [h] at h2; omega
  · exact h
theorem near_fr (n mode : Int) {d : Int} (h0 : d ≠ 0) : nearQ (nN n d) (nD d) mode = nearQ (frP n d) (frQ n d) mode := by
  obtain ⟨G, X, Y, -, hG, hX, hY, hYp, hP, hQ⟩ := fr_scale n h0
  have a1 : (n.natAbs : Int) = (G : Int) * (X : Int) := by rw [hX]; simp
  have a2 : (d.natAbs : Int) = (G : Int) * (Y : Int) := by rw [hY]; simp
  have b1 : nN n d = (G : Int) * frP n d := by
    rw [hP]
    unfold nN wsg
    by_cases hn : n < 0 <;> by_cases hd : d < 0 <;> simp [hn, hd, Int.mul_neg] <;> omega
  have b2 : nD d = (G : Int) * frQ n d := by
    rw [hQ]; unfold nD; split <;> omega
  rw [b1, b2]
  exact nearQ_scale (by omega) (by rw [hQ]; omega)
theorem rtv0 : rtv 0 = .tuple #[zz, .int .i64 0] := rtv_yes (by unfold W128; omega)
theorem rtv_no {y : Int} (h : ¬ W128 y) : rtv y = .tuple #[zz, .int .i64 2] := by unfold rtv; rw [thi_no h, tlo_no h, ter_no h]
theorem small_pos {m D mode : Int} (h0 : 0 < m) (h1 : m < D) : nearQ m D mode = if upB mode false (cmpI m (D - m)) true = true then 1 else 0 := by
  have e1 : m.fdiv D = 0 := by rw [Int.fdiv_eq_ediv_of_nonneg _ (by omega), Int.ediv_eq_zero_of_lt (by omega) h1]
  have e2 : m.fmod D = m := by rw [Int.fmod_eq_emod_of_nonneg _ (by omega), Int.emod_eq_of_lt (by omega) h1]
  unfold nearQ upQ
  rw [e1, e2, if_neg (by omega), decide_eq_false (by omega)]
  rfl
theorem small_neg {m D mode : Int} (h0 : 0 < m) (h1 : m < D) : nearQ (-m) D mode = if upB mode true (cmpI (D - m) m) false = true then 0 else -1 := by
  have q : -m = (D - m) + D * (-1) := by omega
  have e1 : (-m).fdiv D = -1 := by rw [Int.fdiv_eq_ediv_of_nonneg _ (by omega), q, Int.add_mul_ediv_left _ _ (by omega), Int.ediv_eq_zero_of_lt (by omega) (by omega)]; rfl
  have e2 : (-m).fmod D = D - m := by rw [Int.fmod_eq_emod_of_nonneg _ (by omega), q, Int.add_mul_emod_self_left, Int.emod_eq_of_lt (by omega) (by omega)]
  unfold nearQ upQ
  rw [e1, e2, if_neg (by omega), decide_eq_true (by omega), show D - (D - m) = m by omega]
  rfl
/-- Where the lowest terms have no room. -/
theorem fr_over {n d : Int} (hn : W128 n) (hd : W128 d) (h0 : d ≠ 0) (h : ¬ fOk n d) :
    (d = -170141183460469231731687303715884105728 ∧ n ≠ 0 ∧ -170141183460469231731687303715884105728 < n) ∨
    (n = -170141183460469231731687303715884105728 ∧ d < 0 ∧ -170141183460469231731687303715884105728 < d ∧ Nat.gcd n.natAbs d.natAbs = 1) := by
  obtain ⟨G, X, Y, hG, hG0, hX, hY, hYp, hP, hQ⟩ := fr_scale n h0
  have hXle : X ≤ n.natAbs := by rw [hX]; exact Nat.le_mul_of_pos_left X hG0
  have hYle : Y ≤ d.natAbs := by rw [hY]; exact Nat.le_mul_of_pos_left Y hG0
  by_cases hq : W128 (frQ n d)
  · right
    have hp : ¬ W128 (frP n d) := fun k => h ⟨h0, k, hq⟩
    rw [hP] at hp
    have hXm : X = 170141183460469231731687303715884105728 ∧ (decide (n < 0) == decide (d < 0)) = true := by
      unfold wsg at hp
      cases hs : (decide (n < 0) == decide (d < 0)) with
      | true => rw [hs] at hp; simp at hp; unfold W128 at *; exact ⟨by omega, rfl⟩
      | false => rw [hs] at hp; simp at hp; unfold W128 at *; omega
    obtain ⟨hXm, hs⟩ := hXm
    have hnm : n = -170141183460469231731687303715884105728 := by unfold W128 at hn; omega
    have hG1 : G = 1 := by
      have e1 : n.natAbs = X := by rw [hXm]; unfold W128 at hn; omega
      have e2 : X * 1 = X * G := by rw [Nat.mul_one, Nat.mul_comm X G, ← hX]; exact e1.symm
      exact (Nat.eq_of_mul_eq_mul_left (by omega) e2).symm
    have hdn : d < 0 := by
      rw [decide_eq_true (show n < 0 by omega)] at hs
      simpa using hs
    refine ⟨hnm, hdn, ?_, by rw [← hG, hG1]⟩
    have hYd : d.natAbs = Y := by rw [hY, hG1, Nat.one_mul]
    rw [hQ] at hq
    unfold W128 at hq
    omega
  · left
    rw [hQ] at hq
    have hYm : Y = 170141183460469231731687303715884105728 := by unfold W128 at *; omega
    have hdm : d.natAbs = Y := by unfold W128 at hd; omega
    have hG1 : G = 1 := by
      have e2 : Y * 1 = Y * G := by rw [Nat.mul_one, Nat.mul_comm Y G, ← hY]; exact hdm.symm
      exact (Nat.eq_of_mul_eq_mul_left (by omega) e2).symm
    have hd1 : d = -170141183460469231731687303715884105728 := by unfold W128 at hd; omega
    have hg : Nat.gcd n.natAbs d.natAbs = 1 := by rw [← hG, hG1]
    refine ⟨hd1, fun e => ?_, ?_⟩
    · subst e; rw [show (0 : Int).natAbs = 0 from rfl, Nat.gcd_zero_left] at hg; omega
    · apply Classical.byContradiction
      intro k
      have : n = d := by unfold W128 at hn; omega
      rw [this, Nat.gcd_self] at hg
      omega
theorem frac_f (n d : Int) (hn : W128 n) (hd : W128 d) (hk : fOk n d) : Fn 22 [] [wv n, wv d] (.tuple #[wv (frP n d), wv (frQ n d), .int .i64 0]) := fun w _ =>
  (dfrac_any n d w hn hd).mono fun e w' ⟨h1, h2⟩ => ⟨by rw [h1, fv_yes hk, fv_yes hk, fv_yes hk, fv_yes hk, fe_yes hk], h2⟩
theorem frac_n (n d : Int) (hn : W128 n) (hd : W128 d) (h0 : d ≠ 0) (hk : ¬ fOk n d) : Fn 22 [] [wv n, wv d] (.tuple #[zz, zz, .int .i64 2]) := fun w _ =>
  (dfrac_any n d w hn hd).mono fun e w' ⟨h1, h2⟩ => ⟨by rw [h1, fv_no hk, fv_no hk, fv_no hk, fv_no hk, fe_no h0 hk], h2⟩
end Go.Proofs.Ythoedmikfpbfnaa
end
section
/-
  The law RoundRatios, walked.
-/
set_option linter.unusedVariables false
set_option linter.unusedSimpArgs false
set_option maxRecDepth 100000
namespace Go.Proofs.Ythoedmikfpbfnaa
open Go Go.RowKit Go.Ev

theorem ext_spec1 (n mode : Int) (hn : W128 n) (h1 : 1 ≤ mode) (h2 : mode ≤ 9) (hz : n ≠ 0) (hm : -170141183460469231731687303715884105728 < n) :
    Fn 59 [] [wv n, wv (-170141183460469231731687303715884105728), .int .i64 mode] (rtv (nearQ (-n) 170141183460469231731687303715884105728 mode)) := by
  by_cases k : n < 0
  · have h := ext_b2 n _ mode h1 h2 hn (by unfold W128 at *; omega) ((hi_neg n).2 k) rfl
    have e : cmpI (-n) (170141183460469231731687303715884105728 - (-n)) = cmpI (-n) 85070591730234615865843651857942052864 := by
      unfold cmpI; split <;> split <;> (try split) <;> (try split) <;> omega
    rw [small_pos (by omega) (by omega), e]
    split at h
    · rename_i c; rw [if_pos c, rtv_yes (by unfold W128; omega)]; exact h
    · rename_i c; rw [if_neg c, rtv0]; exact h
  · have h := ext_b1 n _ mode h1 h2 (by have := hi_neg n; omega) rfl (by rcases cmpI_3 n 85070591730234615865843651857942052864 with a | a | a <;> omega) (by rcases cmpI_3 n 85070591730234615865843651857942052864 with a | a | a <;> omega)
    have e : cmpI (170141183460469231731687303715884105728 - n) n = 0 - cmpI n 85070591730234615865843651857942052864 := by
      unfold cmpI; split <;> split <;> (try split) <;> (try split) <;> omega
    have hlt : n < 170141183460469231731687303715884105728 := by unfold W128 at hn; omega
    rw [small_neg (by omega) hlt, e]
    split at h
    · rename_i c; rw [if_pos c, rtv0]; exact h
    · rename_i c; rw [if_neg c, rtv_yes (by unfold W128; omega)]; exact h
theorem ext_spec2 (d mode : Int) (hd : W128 d) (h1 : 1 ≤ mode) (h2 : mode ≤ 9) (h0 : d < 0) (hm : -170141183460469231731687303715884105728 < d) (hg : Nat.gcd (-170141183460469231731687303715884105728 : Int).natAbs d.natAbs = 1) :
    Fn 59 [] [wv (-170141183460469231731687303715884105728), wv d, .int .i64 mode] (rtv (nearQ 170141183460469231731687303715884105728 (-d) mode)) := by
  have hn : W128 (-170141183460469231731687303715884105728) := by unfold W128; omega
  have hmin := min_no (y := d) (by omega)
  by_cases k : d = -1
  · subst k
    have e : nearQ 170141183460469231731687303715884105728 (-(-1)) mode = 170141183460469231731687303715884105728 := by
      unfold nearQ; rw [if_pos (by decide)]; decide
    rw [e, rtv_no (by unfold W128; omega)]
    exact ext_over _ _ mode hmin (dfloor_no _ _ hn hd (by omega) (by rw [show Int.fdiv (-170141183460469231731687303715884105728) (-1) = 170141183460469231731687303715884105728 by decide]; unfold W128; omega))
  · generalize hD : -d = D
    have hd' : d = -D := by omega
    have hD2 : 2 ≤ D := by omega
    have w1 := Int.fmod_eq_emod_of_nonneg 170141183460469231731687303715884105728 (show 0 ≤ D by omega)
    have w2 := Int.emod_nonneg 170141183460469231731687303715884105728 (show D ≠ 0 by omega)
    have w3 := Int.emod_lt_of_pos 170141183460469231731687303715884105728 (show 0 < D by omega)
    have w4 := Int.fdiv_eq_ediv_of_nonneg 170141183460469231731687303715884105728 (show 0 ≤ D by omega)
    have e1 : Int.fdiv (-170141183460469231731687303715884105728) d = Int.fdiv 170141183460469231731687303715884105728 D := by rw [hd', Int.neg_fdiv_neg]
    have e2 : Int.fmod (-170141183460469231731687303715884105728) d = -(Int.fmod 170141183460469231731687303715884105728 D) := by
      have a := Int.mul_fdiv_add_fmod (-170141183460469231731687303715884105728) d
      have b := Int.mul_fdiv_add_fmod 170141183460469231731687303715884105728 D
      rw [e1, hd', Int.neg_mul] at a
      rw [hd'] at *
      omega
    have hz : Int.fmod 170141183460469231731687303715884105728 D ≠ 0 := fun h => by
      have hdv : D ∣ 170141183460469231731687303715884105728 := Int.dvd_of_emod_eq_zero (by omega)
      have hnd : D.natAbs ∣ (-170141183460469231731687303715884105728 : Int).natAbs := by rw [Int.natAbs_neg]; exact Int.natAbs_dvd_natAbs.2 hdv
      have e3 : d.natAbs = D.natAbs := by omega
      rw [e3, Nat.gcd_eq_right hnd] at hg
      omega
    have hq0 : 0 ≤ Int.fdiv 170141183460469231731687303715884105728 D := by rw [w4]; exact Int.ediv_nonneg (by omega) (by omega)
    have hq1 : Int.fdiv 170141183460469231731687303715884105728 D < 170141183460469231731687303715884105728 := by
      rw [w4]; exact Int.ediv_lt_of_lt_mul (by omega) (by omega)
    have hf := dfloor_yes _ _ hn hd (by omega) (by rw [e1]; unfold W128; omega)
    rw [e1, e2] at hf
    have hn1 := wneg_yes (-(Int.fmod 170141183460469231731687303715884105728 D)) (by unfold W128 at *; omega) (by unfold W128 at *; omega)
    rw [Int.neg_neg] at hn1
    have hn2 := wneg_yes d hd (by unfold W128 at *; omega)
    rw [hD] at hn2
    have h := ext_a _ d _ _ _ D mode h1 h2 hmin hf hn1 hn2 (wz_no (by omega)) (by unfold W128 at *; omega) (by unfold W128 at *; omega) (by unfold W128 at *; omega) (by unfold W128; omega)
    have e4 : nearQ 170141183460469231731687303715884105728 D mode = if upB mode false (cmpI (Int.fmod 170141183460469231731687303715884105728 D) (D - Int.fmod 170141183460469231731687303715884105728 D)) (decide (Int.fdiv 170141183460469231731687303715884105728 D % 2 = 0)) = true then Int.fdiv 170141183460469231731687303715884105728 D + 1 else Int.fdiv 170141183460469231731687303715884105728 D := by
      unfold nearQ upQ
      rw [if_neg hz, decide_eq_false (show ¬ (170141183460469231731687303715884105728 : Int) < 0 by omega)]
    rw [e4]
    exact h
theorem ratio_any (n d mode : Int) (hn : W128 n) (hd : W128 d) (h0 : d ≠ 0) (h1 : 1 ≤ mode) (h2 : mode ≤ 9) : Fn 27 [] [wv n, wv d, .int .i64 mode] (rtv (nearQ (nN n d) (nD d) mode)) := by
  by_cases hk : fOk n d
  · have hq : 0 < frQ n d := by
      obtain ⟨G, X, Y, -, -, -, -, hYp, -, hQ⟩ := fr_scale n h0
      rw [hQ]; omega
    rw [near_fr n mode h0]
    exact rat_ok n d mode _ _ h1 h2 (frac_f n d hn hd hk) hk.2.1 hk.2.2 hq
  · have hf := frac_n n d hn hd h0 hk
    refine rat_ext n d mode .nilIface _ _ _ h1 h2 hf ?_
    rcases fr_over hn hd h0 hk with ⟨rfl, a, b⟩ | ⟨rfl, a, b, c⟩
    · exact ext_spec1 n mode hn h1 h2 a b
    · have e1 : nN (-170141183460469231731687303715884105728) d = 170141183460469231731687303715884105728 := by unfold nN; rw [if_pos a]; rfl
      have e2 : nD d = -d := by unfold nD; rw [if_pos a]
      rw [e1, e2]
      exact ext_spec2 d mode hd h1 h2 a b c
end Go.Proofs.Ythoedmikfpbfnaa
end
section
/-
  So many units from a date-time: what the program answers of layer 20.
-/
set_option linter.unusedVariables false
set_option linter.unusedSimpArgs false
set_option maxRecDepth 100000
namespace Go.Proofs.Ythoedmikfpbfnaa
open Go Go.RowKit Go.Ev

theorem wtimes_f (v n : Int) (hv : W128 v) (hn : I64 n) (h : W128 (v * n)) : Fn 24 [] [wv v, .int .i64 n] (.tuple #[wv (v * n), .int .i64 0]) := fun w _ => (wtimes v n w hv hn).mono fun e w' ⟨h1, h2⟩ => ⟨by rw [h1, thi_yes h, tlo_yes h, ter_yes h], h2⟩
/-- A unit's length, of a week to a nanosecond. -/
def rlen (u : Int) : Int := if u = 3 then 604800000000000 else ulen u
theorem rlen_in {u : Int} (h : 3 ≤ u) (k : u ≤ 8) : 1 ≤ rlen u ∧ rlen u ≤ 604800000000000 := by
  unfold rlen
  split
  · omega
  · have := ulen_pos (show 4 ≤ u by omega) k; omega
section
variable (u i n : Int)
theorem rknown_y (h : 1 ≤ u) (k : u ≤ 8) : Fn 12 [] [.int .i64 u] (.bool true) := by
  refine fn_of Try.func12 rfl fun ww => ?_
  refine st_b 4 (show (decide (u ≥ 1)) = true by exact decide_eq_true (by omega)) (by kernel_rfl) ?_
  exact st_retv Try.func12 (show Value.bool (decide (u ≤ 8)) = _ by simp_all) (by kernel_rfl)
theorem rknown_n (h : u < 1 ∨ 8 < u) : Fn 12 [] [.int .i64 u] (.bool false) := by
  by_cases q : u < 1
  · refine fn_of Try.func12 rfl fun ww => ?_
    refine st_b 4 (show (decide (u ≥ 1)) = false by exact decide_eq_false (by omega)) (by kernel_rfl) ?_
    exact st_ret Try.func12 (by kernel_rfl)
  · have q2 : 8 < u := by omega
    refine fn_of Try.func12 rfl fun ww => ?_
    refine st_b 4 (show (decide (u ≥ 1)) = true by exact decide_eq_true (by omega)) (by kernel_rfl) ?_
    exact st_retv Try.func12 (show Value.bool (decide (u ≤ 8)) = _ by simp_all) (by kernel_rfl)
theorem rlength : Fn 17 [] [.int .i64 u] (.int .i64 (rlen u)) := by
  by_cases q : u = 3
  · subst q
    refine fn_of Try.func17 rfl fun ww => ?_
    exact st_retv Try.func17 (show Value.int IntKind.i64 604800000000000 = _ by rfl) (by kernel_rfl)
  · have e : rlen u = ulen u := if_neg q
    rw [e]
    have kl := ulen_fn u
    refine fn_of Try.func17 rfl fun ww => ?_
    refine st_b 4 (show (u == 3) = false by exact decide_eq_false (by omega)) (by kernel_rfl) ?_
    refine st_fn ent40 (kl) sub0 (by kernel_rfl) ?_
    exact st_ret Try.func17 (by kernel_rfl)
abbrev kN (n : Int) : List Bk := [⟨[.val (.int .i64 n)], 2⟩]
abbrev EN : List TypeId := [999999, 2]
theorem rmv1 : FnM 13 [.ptr 0 0] (kN n) (duv n 0 0 0 0 0 0 0) := by
  refine fnM_of EN Try.func13 rfl (by kernel_rfl) fun ww => ?_
  exact st_ret Try.func13 (by kernel_rfl)
theorem rmv2 : FnM 14 [.ptr 0 0] (kN n) (duv 0 n 0 0 0 0 0 0) := by
  refine fnM_of EN Try.func14 rfl (by kernel_rfl) fun ww => ?_
  exact st_ret Try.func14 (by kernel_rfl)
variable (y mo d h m s nn A B C H M S N e : Int)
theorem rmov_a (k : ¬ (pOk y mo d h m s nn ∧ 1 ≤ u ∧ u ≤ 8)) : Fn 5 [] [ptv y mo d h m s nn, .int .i64 n, .int .i64 u] (.tuple #[pt0, .int .i64 1]) := by
  by_cases k1 : pOk y mo d h m s nn
  · have kr1 := pright_yes y mo d h m s nn k1
    have kr2 := rknown_n u (by
      rcases Int.lt_or_le u 1 with q | q
      · exact .inl q
      · rcases Int.lt_or_le 8 u with q' | q'
        · exact .inr q'
        · exact absurd ⟨k1, q, q'⟩ k)
    clear k k1
    refine fn_of Try.func5 rfl fun ww => ?_
    refine st_fn ent11 (kr1) sub0 (by kernel_rfl) ?_
    refine st_fn ent12 (kr2) sub0 (by kernel_rfl) ?_
    exact st_ret Try.func5 (by kernel_rfl)
  · have kr1 := pright_no y mo d h m s nn k1
    clear k k1
    refine fn_of Try.func5 rfl fun ww => ?_
    refine st_fn ent11 (kr1) sub0 (by kernel_rfl) ?_
    exact st_ret Try.func5 (by kernel_rfl)
theorem rmov_d (k : pOk y mo d h m s nn) (l1 : 3 ≤ u) (l2 : u ≤ 8) (hn : I64 n) (ha : Fn 15 [] [ptv y mo d h m s nn, wv (n * rlen u)] (.tuple #[ptv A B C H M S N, .int .i64 e])) : Fn 5 [] [ptv y mo d h m s nn, .int .i64 n, .int .i64 u] (.tuple #[ptv A B C H M S N, .int .i64 e]) := by
  have kr1 := pright_yes y mo d h m s nn k
  have kr2 := rknown_y u (by omega) l2
  have kr3 := rlength u
  have rl := rlen_in l1 l2
  have i1 : I64 (rlen u) := by unfold I64; omega
  have kr4 := wmul_f n (rlen u) hn i1
  clear k
  refine fn_of Try.func5 rfl fun ww => ?_
  refine st_fn ent11 (kr1) sub0 (by kernel_rfl) ?_
  refine st_fn ent12 (kr2) sub0 (by kernel_rfl) ?_
  refine st_b 23 (show (decide (u > 2)) = true by exact decide_eq_true (by omega)) (by kernel_rfl) ?_
  refine st_fn ent17 (kr3) sub0 (by kernel_rfl) ?_
  refine st_fn ent16 (kr4) sub0 (by kernel_rfl) ?_
  refine st_fn ent15 (ha) sub0 (by kernel_rfl) ?_
  exact st_ret Try.func5 (by kernel_rfl)
theorem rmov_r (hu : u = 1 ∨ u = 2) (k : pOk y mo d h m s nn) (hn : I64 n) (r : ¬ (-4294967295 ≤ n ∧ n ≤ 4294967295)) : Fn 5 [] [ptv y mo d h m s nn, .int .i64 n, .int .i64 u] (.tuple #[pt0, .int .i64 4]) := by
  have kr1 := pright_yes y mo d h m s nn k
  have kr2 := rknown_y u (by omega) (by omega)
  rcases hu with rfl | rfl
  · have kr3 := rmv1 n
    have kr4 := uright_f n 0 0 0 0 0 0 0 ⟨hn, i64_0, i64_0, i64_0, i64_0, i64_0, i64_0, i64_0⟩ (fun q => by have := q.2.1.1; unfold cnt1 at this; omega)
    clear k r
    refine fn_of Try.func5 rfl fun ww => ?_
    refine st_fn ent11 (kr1) sub0 (by kernel_rfl) ?_
    refine st_fn ent12 (kr2) sub0 (by kernel_rfl) ?_
    refine st_fm [1] ent13 (kr3) (by kernel_rfl) (by kernel_rfl) (by kernel_rfl) ?_
    refine st_fn ent18 (kr4) sub0 (by kernel_rfl) ?_
    exact st_ret Try.func5 (by kernel_rfl)
  · have kr3 := rmv2 n
    have kr4 := uright_f 0 n 0 0 0 0 0 0 ⟨i64_0, hn, i64_0, i64_0, i64_0, i64_0, i64_0, i64_0⟩ (fun q => by have := q.2.1.2.1; unfold cnt1 at this; omega)
    clear k r
    refine fn_of Try.func5 rfl fun ww => ?_
    refine st_fn ent11 (kr1) sub0 (by kernel_rfl) ?_
    refine st_fn ent12 (kr2) sub0 (by kernel_rfl) ?_
    refine st_fm [1] ent14 (kr3) (by kernel_rfl) (by kernel_rfl) (by kernel_rfl) ?_
    refine st_fn ent18 (kr4) sub0 (by kernel_rfl) ?_
    exact st_ret Try.func5 (by kernel_rfl)
theorem uOk_y (r : -4294967295 ≤ n ∧ n ≤ 4294967295) : uOk n 0 0 0 0 0 0 0 ∧ all64 n 0 0 0 0 0 0 0 := by
  refine ⟨⟨?_, ⟨by unfold cnt1; omega, by unfold cnt1; omega, by unfold cnt1; omega⟩, by unfold dtot LIM; omega⟩, by unfold I64; omega, i64_0, i64_0, i64_0, i64_0, i64_0, i64_0, i64_0⟩
  unfold pos8 neg8; omega
theorem uOk_m (r : -4294967295 ≤ n ∧ n ≤ 4294967295) : uOk 0 n 0 0 0 0 0 0 ∧ all64 0 n 0 0 0 0 0 0 := by
  refine ⟨⟨?_, ⟨by unfold cnt1; omega, by unfold cnt1; omega, by unfold cnt1; omega⟩, by unfold dtot LIM; omega⟩, i64_0, by unfold I64; omega, i64_0, i64_0, i64_0, i64_0, i64_0, i64_0⟩
  unfold pos8 neg8; omega
theorem rmov_1 (k : pOk y mo d h m s nn) (r : -4294967295 ≤ n ∧ n ≤ 4294967295) (ha : Fn 19 [] [ptv y mo d h m s nn, duv n 0 0 0 0 0 0 0, .int .i64 1] (.tuple #[ptv A B C H M S N, .int .i64 e])) : Fn 5 [] [ptv y mo d h m s nn, .int .i64 n, .int .i64 1] (.tuple #[ptv A B C H M S N, .int .i64 e]) := by
  have kr1 := pright_yes y mo d h m s nn k
  have kr2 := rknown_y 1 (by omega) (by omega)
  have kr3 := rmv1 n
  obtain ⟨o, i⟩ := uOk_y n r
  have kr4 := uright_y n 0 0 0 0 0 0 0 i o
  clear k r o i
  refine fn_of Try.func5 rfl fun ww => ?_
  refine st_fn ent11 (kr1) sub0 (by kernel_rfl) ?_
  refine st_fn ent12 (kr2) sub0 (by kernel_rfl) ?_
  refine st_fm [1] ent13 (kr3) (by kernel_rfl) (by kernel_rfl) (by kernel_rfl) ?_
  refine st_fn ent18 (kr4) sub0 (by kernel_rfl) ?_
  refine st_fn ent19 (ha) sub0 (by kernel_rfl) ?_
  exact st_ret Try.func5 (by kernel_rfl)
theorem rmov_2 (k : pOk y mo d h m s nn) (r : -4294967295 ≤ n ∧ n ≤ 4294967295) (ha : Fn 19 [] [ptv y mo d h m s nn, duv 0 n 0 0 0 0 0 0, .int .i64 1] (.tuple #[ptv A B C H M S N, .int .i64 e])) : Fn 5 [] [ptv y mo d h m s nn, .int .i64 n, .int .i64 2] (.tuple #[ptv A B C H M S N, .int .i64 e]) := by
  have kr1 := pright_yes y mo d h m s nn k
  have kr2 := rknown_y 2 (by omega) (by omega)
  have kr3 := rmv2 n
  obtain ⟨o, i⟩ := uOk_m n r
  have kr4 := uright_y 0 n 0 0 0 0 0 0 i o
  clear k r o i
  refine fn_of Try.func5 rfl fun ww => ?_
  refine st_fn ent11 (kr1) sub0 (by kernel_rfl) ?_
  refine st_fn ent12 (kr2) sub0 (by kernel_rfl) ?_
  refine st_fm [1] ent14 (kr3) (by kernel_rfl) (by kernel_rfl) (by kernel_rfl) ?_
  refine st_fn ent18 (kr4) sub0 (by kernel_rfl) ?_
  refine st_fn ent19 (ha) sub0 (by kernel_rfl) ?_
  exact st_ret Try.func5 (by kernel_rfl)
/-! totals -/
variable (y' mo' d' h' m' s' n' : Int)
theorem rtot_a (k : ¬ (pOk y mo d h m s nn ∧ pOk y' mo' d' h' m' s' n' ∧ 1 ≤ u ∧ u ≤ 8)) : Fn 7 [] [ptv y mo d h m s nn, ptv y' mo' d' h' m' s' n', .int .i64 u] (.tuple #[wz, wz, .int .i64 1]) := by
  by_cases k1 : pOk y mo d h m s nn ∧ pOk y' mo' d' h' m' s' n'
  · have kr1 := psince_yes y mo d h m s nn y' mo' d' h' m' s' n' k1.1 k1.2
    have kr2 := rknown_n u (by
      rcases Int.lt_or_le u 1 with q | q
      · exact .inl q
      · rcases Int.lt_or_le 8 u with q' | q'
        · exact .inr q'
        · exact absurd ⟨k1.1, k1.2, q, q'⟩ k)
    clear k k1
    refine fn_of Try.func7 rfl fun ww => ?_
    refine st_fn ent21 (kr1) sub0 (by kernel_rfl) ?_
    refine st_fn ent12 (kr2) sub0 (by kernel_rfl) ?_
    exact st_ret Try.func7 (by kernel_rfl)
  · have kr1 := psince_no y mo d h m s nn y' mo' d' h' m' s' n' k1
    clear k k1
    refine fn_of Try.func7 rfl fun ww => ?_
    refine st_fn ent21 (kr1) sub0 (by kernel_rfl) ?_
    exact st_ret Try.func7 (by kernel_rfl)
theorem rtot_d (k : pOk y mo d h m s nn) (k' : pOk y' mo' d' h' m' s' n') (l1 : 3 ≤ u) (l2 : u ≤ 8) (p q e : Int) (hf : Fn 22 [] [wv (pnum y' mo' d' h' m' s' n' - pnum y mo d h m s nn), wv (rlen u)] (.tuple #[wv p, wv q, .int .i64 e])) :
    Fn 7 [] [ptv y mo d h m s nn, ptv y' mo' d' h' m' s' n', .int .i64 u] (.tuple #[wv p, wv q, .int .i64 e]) := by
  have kr1 := psince_yes y mo d h m s nn y' mo' d' h' m' s' n' k k'
  have kr2 := rknown_y u (by omega) l2
  have kr3 := rlength u
  have rl := rlen_in l1 l2
  have i1 : I64 (rlen u) := by unfold I64; omega
  have kr4 := wof_fn (rlen u) i1
  generalize pnum y' mo' d' h' m' s' n' - pnum y mo d h m s nn = w at *
  clear k k'
  refine fn_of Try.func7 rfl fun ww => ?_
  refine st_fn ent21 (kr1) sub0 (by kernel_rfl) ?_
  refine st_fn ent12 (kr2) sub0 (by kernel_rfl) ?_
  refine st_b 40 (show (decide (u > 2)) = true by exact decide_eq_true (by omega)) (by kernel_rfl) ?_
  refine st_fn ent17 (kr3) sub0 (by kernel_rfl) ?_
  refine st_fn ent8 (kr4) sub0 (by kernel_rfl) ?_
  refine st_fn ent22 (hf) sub0 (by kernel_rfl) ?_
  exact st_ret Try.func7 (by kernel_rfl)
end
end Go.Proofs.Ythoedmikfpbfnaa
end
section
/-
  How many units lie between two date-times: what the program answers of layer 20.
-/
set_option linter.unusedVariables false
set_option linter.unusedSimpArgs false
set_option maxRecDepth 100000
namespace Go.Proofs.Ythoedmikfpbfnaa
open Go Go.RowKit Go.Ev

section
variable (y mo d h m s nn y' mo' d' h' m' s' n' A B C D H M S N e0 v c f1 f2 f3 f4 f5 f6 f7 t1 t2 t3 t4 t5 t6 t7 x1 z1 x2 w2 x3 p q e : Int)
theorem rtot_m (u : Int) (hu : u = 1 ∧ c = A ∨ u = 2 ∧ c = A + B) (k : pOk y mo d h m s nn) (k' : pOk y' mo' d' h' m' s' n') (hv : v = 1 ∨ v = -1) (ev : cmpI (pnum y' mo' d' h' m' s' n' - pnum y mo d h m s nn) 0 = v) (hA : -9000000 ≤ A ∧ A ≤ 9000000) (hB : -9000000 ≤ B ∧ B ≤ 9000000)
    (kb : Fn 10 [] [ptv y mo d h m s nn, ptv y' mo' d' h' m' s' n', .int .i64 u] (.tuple #[duv A B C D H M S N, .int .i64 e0]))
    (km1 : Fn 5 [] [ptv y mo d h m s nn, .int .i64 c, .int .i64 u] (.tuple #[ptv f1 f2 f3 f4 f5 f6 f7, .int .i64 0])) (km2 : Fn 5 [] [ptv y mo d h m s nn, .int .i64 (c + v), .int .i64 u] (.tuple #[ptv t1 t2 t3 t4 t5 t6 t7, .int .i64 0]))
    (ks1 : Fn 21 [] [ptv f1 f2 f3 f4 f5 f6 f7, ptv y' mo' d' h' m' s' n'] (.tuple #[wv x1, .int .i64 0])) (ks2 : Fn 21 [] [ptv f1 f2 f3 f4 f5 f6 f7, ptv t1 t2 t3 t4 t5 t6 t7] (.tuple #[wv z1, .int .i64 0]))
    (kt1 : Fn 24 [] [wv x1, .int .i64 v] (.tuple #[wv x2, .int .i64 0])) (kt2 : Fn 24 [] [wv z1, .int .i64 c] (.tuple #[wv w2, .int .i64 0])) (kd : Fn 25 [] [wv w2, wv x2] (.tuple #[wv x3, .int .i64 0])) (kf : Fn 22 [] [wv x3, wv z1] (.tuple #[wv p, wv q, .int .i64 e])) :
    Fn 7 [] [ptv y mo d h m s nn, ptv y' mo' d' h' m' s' n', .int .i64 u] (.tuple #[wv p, wv q, .int .i64 e]) := by
  have kr1 := psince_yes y mo d h m s nn y' mo' d' h' m' s' n' k k'
  have kr2 := rknown_y u (by omega) (by omega)
  have kr3 := wsign_fn (pnum y' mo' d' h' m' s' n' - pnum y mo d h m s nn)
  rw [ev] at kr3
  generalize pnum y' mo' d' h' m' s' n' - pnum y mo d h m s nn = w at *
  clear k k' ev
  have hv0 : v ≠ 0 := by omega
  rcases hu with ⟨rfl, rfl⟩ | ⟨rfl, rfl⟩
  · refine fn_of Try.func7 rfl fun ww => ?_
    refine st_fn ent21 (kr1) sub0 (by kernel_rfl) ?_
    refine st_fn ent12 (kr2) sub0 (by kernel_rfl) ?_
    refine st_fn ent10 (kb) sub0 (by kernel_rfl) ?_
    refine st_i 60 .i64 (x' := c + B) (Go.IntWalk.i64_in _ (by omega)) (by kernel_rfl) ?_
    refine st_fn ent23 (kr3) sub0 (by kernel_rfl) ?_
    refine st_b 68 (show (v == 0) = false by exact decide_eq_false (by omega)) (by kernel_rfl) ?_
    refine st_fn ent5 (km1) sub0 (by kernel_rfl) ?_
    refine st_i 82 .i64 (x' := c + v) (Go.IntWalk.i64_in _ (by omega)) (by kernel_rfl) ?_
    refine st_fn ent5 (km2) sub0 (by kernel_rfl) ?_
    refine st_fn ent21 (ks1) sub0 (by kernel_rfl) ?_
    refine st_fn ent21 (ks2) sub0 (by kernel_rfl) ?_
    refine st_fn ent24 (kt1) sub0 (by kernel_rfl) ?_
    refine st_fn ent24 (kt2) sub0 (by kernel_rfl) ?_
    refine st_fn ent25 (kd) sub0 (by kernel_rfl) ?_
    refine st_fn ent22 (kf) sub0 (by kernel_rfl) ?_
    exact st_ret Try.func7 (by kernel_rfl)
  · refine fn_of Try.func7 rfl fun ww => ?_
    refine st_fn ent21 (kr1) sub0 (by kernel_rfl) ?_
    refine st_fn ent12 (kr2) sub0 (by kernel_rfl) ?_
    refine st_fn ent10 (kb) sub0 (by kernel_rfl) ?_
    refine st_i 60 .i64 (x' := A + B) (Go.IntWalk.i64_in _ (by omega)) (by kernel_rfl) ?_
    refine st_fn ent23 (kr3) sub0 (by kernel_rfl) ?_
    refine st_b 68 (show (v == 0) = false by exact decide_eq_false (by omega)) (by kernel_rfl) ?_
    refine st_fn ent5 (km1) sub0 (by kernel_rfl) ?_
    refine st_i 82 .i64 (x' := A + B + v) (Go.IntWalk.i64_in _ (by omega)) (by kernel_rfl) ?_
    refine st_fn ent5 (km2) sub0 (by kernel_rfl) ?_
    refine st_fn ent21 (ks1) sub0 (by kernel_rfl) ?_
    refine st_fn ent21 (ks2) sub0 (by kernel_rfl) ?_
    refine st_fn ent24 (kt1) sub0 (by kernel_rfl) ?_
    refine st_fn ent24 (kt2) sub0 (by kernel_rfl) ?_
    refine st_fn ent25 (kd) sub0 (by kernel_rfl) ?_
    refine st_fn ent22 (kf) sub0 (by kernel_rfl) ?_
    exact st_ret Try.func7 (by kernel_rfl)
end
section
variable (u i a b : Int)
theorem rinc_c (h : u ≤ 4) : Fn 26 [] [.int .i64 u, .int .i64 i] (.bool (decide (1 ≤ i ∧ i ≤ 1000000000))) := by
  by_cases q1 : 1 ≤ i
  · by_cases q2 : i ≤ 1000000000
    · rw [decide_eq_true ⟨q1, q2⟩]
      refine fn_of Try.func26 rfl fun ww => ?_
      refine st_b 6 (show (decide (u ≤ 4)) = true by exact decide_eq_true (by omega)) (by kernel_rfl) ?_
      refine st_b 8 (show (decide (i ≥ 1)) = true by exact decide_eq_true (by omega)) (by kernel_rfl) ?_
      exact st_retv Try.func26 (show Value.bool (decide (i ≤ 1000000000)) = _ by simp_all) (by kernel_rfl)
    · rw [decide_eq_false (fun q => q2 q.2)]
      refine fn_of Try.func26 rfl fun ww => ?_
      refine st_b 6 (show (decide (u ≤ 4)) = true by exact decide_eq_true (by omega)) (by kernel_rfl) ?_
      refine st_b 8 (show (decide (i ≥ 1)) = true by exact decide_eq_true (by omega)) (by kernel_rfl) ?_
      exact st_retv Try.func26 (show Value.bool (decide (i ≤ 1000000000)) = _ by simp_all) (by kernel_rfl)
  · rw [decide_eq_false (fun q => q1 q.1)]
    refine fn_of Try.func26 rfl fun ww => ?_
    refine st_b 6 (show (decide (u ≤ 4)) = true by exact decide_eq_true (by omega)) (by kernel_rfl) ?_
    refine st_b 8 (show (decide (i ≥ 1)) = false by exact decide_eq_false (by omega)) (by kernel_rfl) ?_
    exact st_ret Try.func26 (by kernel_rfl)
theorem rinc_t (h : 4 < u) : Fn 26 [] [.int .i64 u, .int .i64 i] (.bool (decide (incOk u i))) := by
  have kr1 := uinc u i
  refine fn_of Try.func26 rfl fun ww => ?_
  refine st_b 6 (show (decide (u ≤ 4)) = false by exact decide_eq_false (by omega)) (by kernel_rfl) ?_
  refine st_fn ent58 (kr1) sub0 (by kernel_rfl) ?_
  exact st_ret Try.func26 (by kernel_rfl)
variable (y mo d h m s n y' mo' d' h' m' s' n' L S' md e A B C D H M S N : Int)
theorem rrnd_l (q : L < 1 ∨ 8 < L) : Fn 9 [] [ptv y mo d h m s n, ptv y' mo' d' h' m' s' n', .int .i64 L, .int .i64 S', .int .i64 i, .int .i64 md] (.tuple #[du0, .int .i64 1]) := by
  have kr1 := rknown_n L q
  clear q
  refine fn_of Try.func9 rfl fun ww => ?_
  refine st_fn ent12 (kr1) sub0 (by kernel_rfl) ?_
  exact st_ret Try.func9 (by kernel_rfl)
theorem rrnd_m (l1 : 1 ≤ L) (l2 : L ≤ S') (l3 : S' ≤ 8) (kinc : Fn 26 [] [.int .i64 S', .int .i64 i] (.bool true)) (hm : md < 1 ∨ 9 < md) : Fn 9 [] [ptv y mo d h m s n, ptv y' mo' d' h' m' s' n', .int .i64 L, .int .i64 S', .int .i64 i, .int .i64 md] (.tuple #[du0, .int .i64 1]) := by
  have kr1 := rknown_y L l1 (by omega)
  have kr2 := rknown_y S' (by omega) l3
  by_cases q : md < 1
  · refine fn_of Try.func9 rfl fun ww => ?_
    refine st_fn ent12 (kr1) sub0 (by kernel_rfl) ?_
    refine st_fn ent12 (kr2) sub0 (by kernel_rfl) ?_
    refine st_b 33 (show (decide (L > S')) = false by exact decide_eq_false (by omega)) (by kernel_rfl) ?_
    refine st_fn ent26 (kinc) sub0 (by kernel_rfl) ?_
    refine st_b 43 (show (decide (md < 1)) = true by exact decide_eq_true (by omega)) (by kernel_rfl) ?_
    exact st_ret Try.func9 (by kernel_rfl)
  · have q2 : 9 < md := by omega
    refine fn_of Try.func9 rfl fun ww => ?_
    refine st_fn ent12 (kr1) sub0 (by kernel_rfl) ?_
    refine st_fn ent12 (kr2) sub0 (by kernel_rfl) ?_
    refine st_b 33 (show (decide (L > S')) = false by exact decide_eq_false (by omega)) (by kernel_rfl) ?_
    refine st_fn ent26 (kinc) sub0 (by kernel_rfl) ?_
    refine st_b 43 (show (decide (md < 1)) = false by exact decide_eq_false (by omega)) (by kernel_rfl) ?_
    refine st_b 47 (show (decide (md > 9)) = true by exact decide_eq_true (by omega)) (by kernel_rfl) ?_
    exact st_ret Try.func9 (by kernel_rfl)
theorem rrnd_e (l1 : 1 ≤ L) (l2 : L ≤ S') (l3 : S' ≤ 8) (kinc : Fn 26 [] [.int .i64 S', .int .i64 i] (.bool true)) (m1 : 1 ≤ md) (m2 : md ≤ 9) (ht : Fn 7 [] [ptv y mo d h m s n, ptv y' mo' d' h' m' s' n', .int .i64 S'] (.tuple #[wz, wz, .int .i64 e])) (he : e ≠ 0) :
    Fn 9 [] [ptv y mo d h m s n, ptv y' mo' d' h' m' s' n', .int .i64 L, .int .i64 S', .int .i64 i, .int .i64 md] (.tuple #[du0, .int .i64 e]) := by
  have kr1 := rknown_y L l1 (by omega)
  have kr2 := rknown_y S' (by omega) l3
  refine fn_of Try.func9 rfl fun ww => ?_
  refine st_fn ent12 (kr1) sub0 (by kernel_rfl) ?_
  refine st_fn ent12 (kr2) sub0 (by kernel_rfl) ?_
  refine st_b 33 (show (decide (L > S')) = false by exact decide_eq_false (by omega)) (by kernel_rfl) ?_
  refine st_fn ent26 (kinc) sub0 (by kernel_rfl) ?_
  refine st_b 43 (show (decide (md < 1)) = false by exact decide_eq_false (by omega)) (by kernel_rfl) ?_
  refine st_b 47 (show (decide (md > 9)) = false by exact decide_eq_false (by omega)) (by kernel_rfl) ?_
  refine st_fn ent7 (ht) sub0 (by kernel_rfl) ?_
  refine st_b 59 (show (e != 0) = true by exact bne_iff_ne.2 (by omega)) (by kernel_rfl) ?_
  exact st_ret Try.func9 (by kernel_rfl)
variable (p q d2 w w2 t1 t2 t3 t4 t5 t6 t7 : Int)
theorem rrnd_v (l1 : 1 ≤ L) (l2 : L ≤ S') (l3 : S' ≤ 8) (kinc : Fn 26 [] [.int .i64 S', .int .i64 i] (.bool true)) (m1 : 1 ≤ md) (m2 : md ≤ 9) (ht : Fn 7 [] [ptv y mo d h m s n, ptv y' mo' d' h' m' s' n', .int .i64 S'] (.tuple #[wv p, wv q, .int .i64 0]))
    (hd : Fn 24 [] [wv q, .int .i64 i] (.tuple #[wv d2, .int .i64 0])) (hr : Fn 27 [] [wv p, wv d2, .int .i64 md] (.tuple #[wv w, .int .i64 0])) (hw : Fn 24 [] [wv w, .int .i64 i] (.tuple #[wv w2, .int .i64 0])) (hk : Fn 28 [] [wv w2] (.tuple #[.int .i64 w2, .bool true]))
    (hm : Fn 5 [] [ptv y mo d h m s n, .int .i64 w2, .int .i64 S'] (.tuple #[ptv t1 t2 t3 t4 t5 t6 t7, .int .i64 0])) (hb : Fn 10 [] [ptv y mo d h m s n, ptv t1 t2 t3 t4 t5 t6 t7, .int .i64 L] (.tuple #[duv A B C D H M S N, .int .i64 e])) :
    Fn 9 [] [ptv y mo d h m s n, ptv y' mo' d' h' m' s' n', .int .i64 L, .int .i64 S', .int .i64 i, .int .i64 md] (.tuple #[duv A B C D H M S N, .int .i64 e]) := by
  have kr1 := rknown_y L l1 (by omega)
  have kr2 := rknown_y S' (by omega) l3
  refine fn_of Try.func9 rfl fun ww => ?_
  refine st_fn ent12 (kr1) sub0 (by kernel_rfl) ?_
  refine st_fn ent12 (kr2) sub0 (by kernel_rfl) ?_
  refine st_b 33 (show (decide (L > S')) = false by exact decide_eq_false (by omega)) (by kernel_rfl) ?_
  refine st_fn ent26 (kinc) sub0 (by kernel_rfl) ?_
  refine st_b 43 (show (decide (md < 1)) = false by exact decide_eq_false (by omega)) (by kernel_rfl) ?_
  refine st_b 47 (show (decide (md > 9)) = false by exact decide_eq_false (by omega)) (by kernel_rfl) ?_
  refine st_fn ent7 (ht) sub0 (by kernel_rfl) ?_
  refine st_fn ent24 (hd) sub0 (by kernel_rfl) ?_
  refine st_fn ent27 (hr) sub0 (by kernel_rfl) ?_
  refine st_fn ent24 (hw) sub0 (by kernel_rfl) ?_
  refine st_fn ent28 (hk) sub0 (by kernel_rfl) ?_
  refine st_fn ent5 (hm) sub0 (by kernel_rfl) ?_
  refine st_fn ent10 (hb) sub0 (by kernel_rfl) ?_
  exact st_ret Try.func9 (by kernel_rfl)
theorem rfar_y (ho : Fn 24 [] [wv w2, .int .i64 (rlen S')] (.tuple #[wv p, .int .i64 0])) (ha : Fn 15 [] [ptv y mo d h m s n, wv p] (.tuple #[ptv t1 t2 t3 t4 t5 t6 t7, .int .i64 0])) (hb : Fn 10 [] [ptv y mo d h m s n, ptv t1 t2 t3 t4 t5 t6 t7, .int .i64 L] (.tuple #[duv A B C D H M S N, .int .i64 e])) :
    Fn 29 [] [ptv y mo d h m s n, wv w2, .int .i64 L, .int .i64 S'] (.tuple #[duv A B C D H M S N, .int .i64 e]) := by
  have kr1 := rlength S'
  refine fn_of Try.func29 rfl fun ww => ?_
  refine st_fn ent17 (kr1) sub0 (by kernel_rfl) ?_
  refine st_fn ent24 (ho) sub0 (by kernel_rfl) ?_
  refine st_fn ent15 (ha) sub0 (by kernel_rfl) ?_
  refine st_fn ent10 (hb) sub0 (by kernel_rfl) ?_
  exact st_ret Try.func29 (by kernel_rfl)
theorem rrnd_f (l1 : 1 ≤ L) (l2 : L ≤ S') (l3 : S' ≤ 8) (kinc : Fn 26 [] [.int .i64 S', .int .i64 i] (.bool true)) (m1 : 1 ≤ md) (m2 : md ≤ 9) (ht : Fn 7 [] [ptv y mo d h m s n, ptv y' mo' d' h' m' s' n', .int .i64 S'] (.tuple #[wv p, wv q, .int .i64 0]))
    (hd : Fn 24 [] [wv q, .int .i64 i] (.tuple #[wv d2, .int .i64 0])) (hr : Fn 27 [] [wv p, wv d2, .int .i64 md] (.tuple #[wv w, .int .i64 0])) (hw : Fn 24 [] [wv w, .int .i64 i] (.tuple #[wv w2, .int .i64 0])) (hk : Fn 28 [] [wv w2] (.tuple #[.int .i64 0, .bool false]))
    (hf : Fn 29 [] [ptv y mo d h m s n, wv w2, .int .i64 L, .int .i64 S'] (.tuple #[duv A B C D H M S N, .int .i64 e])) :
    Fn 9 [] [ptv y mo d h m s n, ptv y' mo' d' h' m' s' n', .int .i64 L, .int .i64 S', .int .i64 i, .int .i64 md] (.tuple #[duv A B C D H M S N, .int .i64 e]) := by
  have kr1 := rknown_y L l1 (by omega)
  have kr2 := rknown_y S' (by omega) l3
  refine fn_of Try.func9 rfl fun ww => ?_
  refine st_fn ent12 (kr1) sub0 (by kernel_rfl) ?_
  refine st_fn ent12 (kr2) sub0 (by kernel_rfl) ?_
  refine st_b 33 (show (decide (L > S')) = false by exact decide_eq_false (by omega)) (by kernel_rfl) ?_
  refine st_fn ent26 (kinc) sub0 (by kernel_rfl) ?_
  refine st_b 43 (show (decide (md < 1)) = false by exact decide_eq_false (by omega)) (by kernel_rfl) ?_
  refine st_b 47 (show (decide (md > 9)) = false by exact decide_eq_false (by omega)) (by kernel_rfl) ?_
  refine st_fn ent7 (ht) sub0 (by kernel_rfl) ?_
  refine st_fn ent24 (hd) sub0 (by kernel_rfl) ?_
  refine st_fn ent27 (hr) sub0 (by kernel_rfl) ?_
  refine st_fn ent24 (hw) sub0 (by kernel_rfl) ?_
  refine st_fn ent28 (hk) sub0 (by kernel_rfl) ?_
  refine st_fn ent29 (hf) sub0 (by kernel_rfl) ?_
  exact st_ret Try.func9 (by kernel_rfl)
end
end Go.Proofs.Ythoedmikfpbfnaa
end
section
/-
  What every right program answers of layer 20; the laws RelativeBack, RelativeExact.
-/
set_option linter.unusedVariables false
set_option linter.unusedSimpArgs false
set_option maxRecDepth 100000
namespace Go.Proofs.Ythoedmikfpbfnaa
open Go Go.RowKit Go.Ev

/-- Years and months put to a date-time that lead to a right one. -/
theorem cadm_y (y mo d h m s n a b T : Int) (k : pOk y mo d h m s n) (o : uOk a b 0 0 0 0 0 0) (i : all64 a b 0 0 0 0 0 0) (hT : ymi y mo + (12 * a + b) = T) (q : pOk (lY T) (lM T) (cD (lY T) (lM T) d) h m s n) :
    Fn 19 [] [ptv y mo d h m s n, duv a b 0 0 0 0 0 0, .int .i64 1] (.tuple #[ptv (lY T) (lM T) (cD (lY T) (lM T) d) h m s n, .int .i64 0]) := by
  obtain ⟨b1, b2, -⟩ := uOk_bd o
  have yy := dOk_year k.1
  have tb := tnan_bd k.2.1
  have mv := cmoved_c y mo d (12 * a + b) (0 + 7 * 0 + 0) T (dnum (lY T) (lM T) (cD (lY T) (lM T) d)) hT (by omega) (by omega) k.1.1.1 k.1.1.2.1 (by omega) (by omega) k.1.1.2.2.1 q.1 (by omega) q.1.2.1 q.1.2.2
  rw [(date_of q.1.1).1, (date_of q.1.1).2.1, (date_of q.1.1).2.2] at mv
  obtain ⟨r1, r2, r3, r4⟩ := t_tnan k.2.1
  have z : dtot 0 0 0 0 0 = 0 := rfl
  have := cad_y y mo d h m s n a b 0 0 0 0 0 0 1 _ _ _ 0 (tnan h m s n) i k o (.inl rfl) (by rw [z, Int.fdiv_eq_ediv_of_nonneg _ (by omega)]; omega) (by rw [z, Int.fmod_eq_emod_of_nonneg _ (by omega)]; omega) (by omega) mv (by rw [r1, r2, r3, r4]; exact q)
  rw [r1, r2, r3, r4] at this
  exact this
theorem cad_any (y mo d h m s n a b : Int) (k : pOk y mo d h m s n) (o : uOk a b 0 0 0 0 0 0) (i : all64 a b 0 0 0 0 0 0) : ∃ A B C H M S N e, Fn 19 [] [ptv y mo d h m s n, duv a b 0 0 0 0 0 0, .int .i64 1] (.tuple #[ptv A B C H M S N, .int .i64 e]) := by
  obtain ⟨b1, b2, -⟩ := uOk_bd o
  have yy := dOk_year k.1
  have tb := tnan_bd k.2.1
  have z : dtot 0 0 0 0 0 = 0 := rfl
  have hQ : (tnan h m s n + dtot 0 0 0 0 0).fdiv 86400000000000 = 0 := by rw [z, Int.fdiv_eq_ediv_of_nonneg _ (by omega)]; omega
  have hR : (tnan h m s n + dtot 0 0 0 0 0).fmod 86400000000000 = tnan h m s n := by rw [z, Int.fmod_eq_emod_of_nonneg _ (by omega)]; omega
  obtain ⟨T, hT⟩ : ∃ T, ymi y mo + (12 * a + b) = T := ⟨_, rfl⟩
  by_cases q : dOk (lY T) (lM T) (cD (lY T) (lM T) d)
  · have mv := cmoved_c y mo d (12 * a + b) (0 + 7 * 0 + 0) T (dnum (lY T) (lM T) (cD (lY T) (lM T) d)) hT (by omega) (by omega) k.1.1.1 k.1.1.2.1 (by omega) (by omega) k.1.1.2.2.1 q (by omega) q.2.1 q.2.2
    by_cases p : pOk (dY (dnum (lY T) (lM T) (cD (lY T) (lM T) d))) (dM (dnum (lY T) (lM T) (cD (lY T) (lM T) d))) (dD (dnum (lY T) (lM T) (cD (lY T) (lM T) d))) (tH (tnan h m s n)) (tM (tnan h m s n)) (tS (tnan h m s n)) (tN (tnan h m s n))
    · exact ⟨_, _, _, _, _, _, _, _, cad_y y mo d h m s n a b 0 0 0 0 0 0 1 _ _ _ 0 (tnan h m s n) i k o (.inl rfl) hQ hR (by omega) mv p⟩
    · exact ⟨_, _, _, _, _, _, _, _, cad_n y mo d h m s n a b 0 0 0 0 0 0 1 _ _ _ 0 (tnan h m s n) i k o (.inl rfl) hQ hR (by omega) mv p⟩
  · have lc := clater y mo d (12 * a + b) T (by unfold ymi at hT; omega) (by omega) (by omega) k.1.1.1 k.1.1.2.1 (by omega) (by omega)
    have mv := cmov_e y mo d (0 + 7 * 0 + 0) T 1 (12 * a + b) 4 lc (creg_cn (lY T) (lM T) d (ymi_l T).2.1 (ymi_l T).2.2 k.1.1.2.2.1 q) (by decide)
    exact ⟨_, _, _, _, _, _, _, _, cad_e y mo d h m s n a b 0 0 0 0 0 0 1 4 0 (tnan h m s n) i k o (.inl rfl) hQ hR (by omega) mv (by decide)⟩
theorem lday (y m d : Int) : Fn 20 [] [.int .i64 y, .int .i64 m, .int .i64 d] (ptv y m d 0 0 0 0) := by
  refine fn_of Try.func20 rfl fun ww => ?_
  exact st_ret Try.func20 (by kernel_rfl)
theorem mov20m (y mo d n Y M D : Int) (k : pOk y mo d 0 0 0 0) (r : -4294967295 ≤ n ∧ n ≤ 4294967295) (T : Int) (hT : ymi y mo + (12 * 0 + n) = T) (e1 : lY T = Y) (e2 : lM T = M) (e3 : cD Y M d = D) (q : pOk Y M D 0 0 0 0) : Fn 5 [] [ptv y mo d 0 0 0 0, .int .i64 n, .int .i64 2] (.tuple #[ptv Y M D 0 0 0 0, .int .i64 0]) := by
  subst e1 e2 e3
  obtain ⟨o, i⟩ := uOk_m n r
  exact rmov_2 n y mo d 0 0 0 0 _ _ _ _ _ _ _ 0 k r (cadm_y y mo d 0 0 0 0 0 n T k o i hT q)
theorem mov20y (y mo d n Y M D : Int) (k : pOk y mo d 0 0 0 0) (r : -4294967295 ≤ n ∧ n ≤ 4294967295) (T : Int) (hT : ymi y mo + (12 * n + 0) = T) (e1 : lY T = Y) (e2 : lM T = M) (e3 : cD Y M d = D) (q : pOk Y M D 0 0 0 0) : Fn 5 [] [ptv y mo d 0 0 0 0, .int .i64 n, .int .i64 1] (.tuple #[ptv Y M D 0 0 0 0, .int .i64 0]) := by
  subst e1 e2 e3
  obtain ⟨o, i⟩ := uOk_y n r
  exact rmov_1 n y mo d 0 0 0 0 _ _ _ _ _ _ _ 0 k r (cadm_y y mo d 0 0 0 0 n 0 T k o i hT q)
theorem since20 (y mo d y' mo' d' x : Int) (k : pOk y mo d 0 0 0 0) (k' : pOk y' mo' d' 0 0 0 0) (e : pnum y' mo' d' 0 0 0 0 - pnum y mo d 0 0 0 0 = x) : Fn 21 [] [ptv y mo d 0 0 0 0, ptv y' mo' d' 0 0 0 0] (.tuple #[wv x, .int .i64 0]) := by
  subst e; exact psince_yes y mo d 0 0 0 0 y' mo' d' 0 0 0 0 k k'
theorem bet20 (y mo d y' mo' d' L A B C D : Int) (k : pOk y mo d 0 0 0 0) (k' : pOk y' mo' d' 0 0 0 0) (l1 : 1 ≤ L) (l2 : L ≤ 4) (hE : bD y mo d 0 0 0 0 y' mo' d' 0 0 0 0 = dnum y' mo' d') (hZ : bZ y mo d 0 0 0 0 y' mo' d' 0 0 0 0 = 0) (e1 : uY L y mo d y' mo' d' = A) (e2 : uMo L y mo d y' mo' d' = B) (e3 : uW L y mo d y' mo' d' = C) (e4 : uD L y mo d y' mo' d' = D) :
    Fn 10 [] [ptv y mo d 0 0 0 0, ptv y' mo' d' 0 0 0 0, .int .i64 L] (.tuple #[duv A B C D 0 0 0 0, .int .i64 0]) := by
  have := cbet y mo d 0 0 0 0 y' mo' d' 0 0 0 0 L _ _ k k' l1 l2 hE hZ
  rw [(date_of k'.1.1).1, (date_of k'.1.1).2.1, (date_of k'.1.1).2.2, e1, e2, e3, e4] at this
  exact this
theorem frac20 (n d p q : Int) (hn : W128 n) (hd : W128 d) (k : fOk n d) (e1 : frP n d = p) (e2 : frQ n d = q) : Fn 22 [] [wv n, wv d] (.tuple #[wv p, wv q, .int .i64 0]) := by
  subst e1 e2; exact frac_f n d hn hd k
theorem times20 (v n x : Int) (hv : W128 v) (hn : I64 n) (e : v * n = x) (h : W128 x) : Fn 24 [] [wv v, .int .i64 n] (.tuple #[wv x, .int .i64 0]) := by
  subst e; exact wtimes_f v n hv hn h
theorem add20 (v n x : Int) (hv : W128 v) (hn : W128 n) (e : v + n = x) (h : W128 x) : Fn 25 [] [wv v, wv n] (.tuple #[wv x, .int .i64 0]) := by
  subst e; exact wadd_yes v n hv hn h
theorem ratio20 (n d mode x : Int) (hn : W128 n) (hd : W128 d) (h0 : d ≠ 0) (h1 : 1 ≤ mode) (h2 : mode ≤ 9) (e : nearQ (nN n d) (nD d) mode = x) (h : W128 x) : Fn 27 [] [wv n, wv d, .int .i64 mode] (.tuple #[wv x, .int .i64 0]) := by
  have := ratio_any n d mode hn hd h0 h1 h2
  rwa [e, rtv_yes h] at this
theorem w20in {x : Int} (h : -1000000000000000000000000 ≤ x ∧ x ≤ 1000000000000000000000000) : W128 x := by unfold W128; omega
theorem alive20 : Fn 6 [] [] (.bool true) := by
  have i44 : I64 44 := by unfold I64; omega
  have i29 : I64 29 := by unfold I64; omega
  have i1 : I64 1 := by unfold I64; omega
  have at1 := rtot_m 2020 1 1 0 0 0 0 2020 2 16 0 0 0 0 0 1 0 15 0 0 0 0 0 1 1 2020 2 1 0 0 0 0 2020 3 1 0 0 0 0 1296000000000000 2505600000000000 1296000000000000 2505600000000000 3801600000000000 44 29 0 2 (.inr ⟨rfl, rfl⟩) (by decide +kernel) (by decide +kernel) (.inl rfl) (by decide +kernel) (by decide) (by decide)
    (bet20 2020 1 1 2020 2 16 2 0 1 0 15 (by decide +kernel) (by decide +kernel) (by decide) (by decide) (by decide +kernel) (by decide +kernel) (by decide +kernel) (by decide +kernel) (by decide +kernel) (by decide +kernel))
    (mov20m 2020 1 1 1 2020 2 1 (by decide +kernel) (by decide) 24241 (by decide) (by decide) (by decide) (by decide +kernel) (by decide +kernel)) (mov20m 2020 1 1 2 2020 3 1 (by decide +kernel) (by decide) 24242 (by decide) (by decide) (by decide) (by decide +kernel) (by decide +kernel))
    (since20 2020 2 1 2020 2 16 _ (by decide +kernel) (by decide +kernel) (by decide +kernel)) (since20 2020 2 1 2020 3 1 _ (by decide +kernel) (by decide +kernel) (by decide +kernel))
    (times20 _ 1 _ (w20in (by decide)) i1 (by decide) (w20in (by decide))) (times20 _ 1 _ (w20in (by decide)) i1 (by decide) (w20in (by decide))) (add20 _ _ _ (w20in (by decide)) (w20in (by decide)) (by decide) (w20in (by decide))) (frac20 _ _ _ _ (w20in (by decide)) (w20in (by decide)) (by decide +kernel) (by decide +kernel) (by decide +kernel))
  have at2 := rtot_m 2020 1 1 0 0 0 0 2021 7 2 0 0 0 0 1 6 0 1 0 0 0 0 0 1 1 2021 1 1 0 0 0 0 2022 1 1 0 0 0 0 15724800000000000 31536000000000000 15724800000000000 31536000000000000 47260800000000000 547 365 0 1 (.inl ⟨rfl, rfl⟩) (by decide +kernel) (by decide +kernel) (.inl rfl) (by decide +kernel) (by decide) (by decide)
    (bet20 2020 1 1 2021 7 2 1 1 6 0 1 (by decide +kernel) (by decide +kernel) (by decide) (by decide) (by decide +kernel) (by decide +kernel) (by decide +kernel) (by decide +kernel) (by decide +kernel) (by decide +kernel))
    (mov20y 2020 1 1 1 2021 1 1 (by decide +kernel) (by decide) 24252 (by decide) (by decide) (by decide) (by decide +kernel) (by decide +kernel)) (mov20y 2020 1 1 2 2022 1 1 (by decide +kernel) (by decide) 24264 (by decide) (by decide) (by decide) (by decide +kernel) (by decide +kernel))
    (since20 2021 1 1 2021 7 2 _ (by decide +kernel) (by decide +kernel) (by decide +kernel)) (since20 2021 1 1 2022 1 1 _ (by decide +kernel) (by decide +kernel) (by decide +kernel))
    (times20 _ 1 _ (w20in (by decide)) i1 (by decide) (w20in (by decide))) (times20 _ 1 _ (w20in (by decide)) i1 (by decide) (w20in (by decide))) (add20 _ _ _ (w20in (by decide)) (w20in (by decide)) (by decide) (w20in (by decide))) (frac20 _ _ _ _ (w20in (by decide)) (w20in (by decide)) (by decide +kernel) (by decide +kernel) (by decide +kernel))
  have ai := rinc_c 1 1 (by decide)
  rw [show decide ((1 : Int) ≤ 1 ∧ (1 : Int) ≤ 1000000000) = true by decide] at ai
  have at3 := rrnd_v 1 2020 1 1 0 0 0 0 2021 7 2 0 0 0 0 1 1 7 0 1 0 0 0 0 0 0 0 547 365 365 1 1 2021 1 1 0 0 0 0 (by decide) (by decide) (by decide) ai (by decide) (by decide) at2
    (times20 _ 1 _ (w20in (by decide)) i1 (by decide) (w20in (by decide))) (ratio20 _ _ _ _ (w20in (by decide)) (w20in (by decide)) (by decide) (by decide) (by decide) (by decide +kernel) (w20in (by decide))) (times20 _ 1 _ (w20in (by decide)) i1 (by decide) (w20in (by decide))) (wint_f 1 i1)
    (mov20y 2020 1 1 1 2021 1 1 (by decide +kernel) (by decide) 24252 (by decide) (by decide) (by decide) (by decide +kernel) (by decide +kernel))
    (bet20 2020 1 1 2021 1 1 1 1 0 0 0 (by decide +kernel) (by decide +kernel) (by decide) (by decide) (by decide +kernel) (by decide +kernel) (by decide +kernel) (by decide +kernel) (by decide +kernel) (by decide +kernel))
  have at4 := mov20m 2020 1 31 1 2020 2 29 (by decide +kernel) (by decide) 24241 (by decide) (by decide) (by decide) (by decide +kernel) (by decide +kernel)
  clear at2 ai
  refine fn_of Try.func6 rfl fun ww => ?_
  refine st_fn ent20 (lday (2020) (1) (1)) sub0 (by kernel_rfl) ?_
  refine st_fn ent20 (lday (2020) (2) (16)) sub0 (by kernel_rfl) ?_
  refine st_fn ent7 (at1) sub0 (by kernel_rfl) ?_
  refine st_fn ent20 (lday (2020) (1) (1)) sub0 (by kernel_rfl) ?_
  refine st_fn ent20 (lday (2021) (7) (2)) sub0 (by kernel_rfl) ?_
  refine st_fn ent9 (at3) sub0 (by kernel_rfl) ?_
  refine st_fn ent20 (lday (2020) (1) (31)) sub0 (by kernel_rfl) ?_
  refine st_fn ent5 (at4) sub0 (by kernel_rfl) ?_
  refine st_fn ent8 (wof_fn (44) (by assumption)) sub0 (by kernel_rfl) ?_
  refine st_fn ent8 (wof_fn (29) (by assumption)) sub0 (by kernel_rfl) ?_
  refine st_fn ent20 (lday (2020) (2) (29)) sub0 (by kernel_rfl) ?_
  exact st_ret Try.func6 (by kernel_rfl)
/-! back -/
theorem frac20mul (n : Int) {l : Int} (h : 0 < l) : frP (n * l) l = n ∧ frQ (n * l) l = 1 := by
  have g : Nat.gcd (n * l).natAbs l.natAbs = l.natAbs := by rw [Int.natAbs_mul]; exact Nat.gcd_eq_right ⟨n.natAbs, Nat.mul_comm _ _⟩
  have hl : 0 < l.natAbs := by omega
  unfold frP frQ
  rw [g, Nat.div_self hl, Int.natAbs_mul, Nat.mul_div_cancel _ hl]
  refine ⟨?_, rfl⟩
  have hs : decide (n * l < 0) = decide (n < 0) := by
    rw [decide_eq_decide]
    constructor
    · intro q
      rcases Int.lt_or_le n 0 with w | w
      · exact w
      · have := Int.mul_nonneg w (Int.le_of_lt h); omega
    · intro q; exact Int.mul_neg_of_neg_of_pos q h
  rw [hs, decide_eq_false (show ¬ l < 0 by omega)]
  unfold wsg
  by_cases q : n < 0
  · simp [q]; omega
  · simp [q]; omega
section
variable (y mo d h m s nn n u A B C H M S N e A' B' C' H' M' S' N' g : Int)
theorem rback_1 (km : Fn 5 [] [ptv y mo d h m s nn, .int .i64 n, .int .i64 u] (.tuple #[ptv A B C H M S N, .int .i64 e])) (q : e ≠ 0 ∨ e = 0 ∧ u < 3) : Fn 3 [] [ptv y mo d h m s nn, .int .i64 n, .int .i64 u] (.bool true) := by
  rcases q with q | ⟨rfl, q⟩
  · refine fn_of Try.func3 rfl fun ww => ?_
    refine st_fn ent5 (km) sub0 (by kernel_rfl) ?_
    refine st_b 22 (show (e != 0) = true by exact bne_iff_ne.2 (by omega)) (by kernel_rfl) ?_
    refine st_fn ent6 (alive20) sub0 (by kernel_rfl) ?_
    exact st_ret Try.func3 (by kernel_rfl)
  · refine fn_of Try.func3 rfl fun ww => ?_
    refine st_fn ent5 (km) sub0 (by kernel_rfl) ?_
    refine st_b 25 (show (decide (u < 3)) = true by exact decide_eq_true (by omega)) (by kernel_rfl) ?_
    refine st_fn ent6 (alive20) sub0 (by kernel_rfl) ?_
    exact st_ret Try.func3 (by kernel_rfl)
theorem rback_y (hn : I64 n) (q : n ≠ -9223372036854775808) (hu : 3 ≤ u) (km : Fn 5 [] [ptv y mo d h m s nn, .int .i64 n, .int .i64 u] (.tuple #[ptv A B C H M S N, .int .i64 0])) (kt : Fn 7 [] [ptv y mo d h m s nn, ptv A B C H M S N, .int .i64 u] (.tuple #[wv n, wv 1, .int .i64 0]))
    (km2 : Fn 5 [] [ptv A B C H M S N, .int .i64 (0 - n), .int .i64 u] (.tuple #[ptv y mo d h m s nn, .int .i64 0])) : Fn 3 [] [ptv y mo d h m s nn, .int .i64 n, .int .i64 u] (.bool true) := by
  have kw1 := wof_fn n hn
  have kw2 := wof_fn 1 (by unfold I64; omega)
  have hn' := hn
  unfold I64 at hn'
  refine fn_of Try.func3 rfl fun ww => ?_
  refine st_fn ent5 (km) sub0 (by kernel_rfl) ?_
  refine st_b 25 (show (decide (u < 3)) = false by exact decide_eq_false (by omega)) (by kernel_rfl) ?_
  refine st_fn ent7 (kt) sub0 (by kernel_rfl) ?_
  refine st_i 39 .i64 (x' := 0 - n) (Go.IntWalk.i64_in _ (by omega)) (by kernel_rfl) ?_
  refine st_fn ent5 (km2) sub0 (by kernel_rfl) ?_
  refine st_fn ent6 (alive20) sub0 (by kernel_rfl) ?_
  refine st_fn ent8 (kw1) sub0 (by kernel_rfl) ?_
  refine st_b 49 (show (hi n == hi n && (lo n == lo n && true)) = true by simp_all) (by kernel_rfl) ?_
  refine st_fn ent8 (kw2) sub0 (by kernel_rfl) ?_
  refine st_b 62 (show (n == -9223372036854775808) = false by exact decide_eq_false (by omega)) (by kernel_rfl) ?_
  refine st_b 66 (show (y == y && (mo == mo && (d == d && true)) && (h == h && (m == m && (s == s && (nn == nn && true))) && true)) = true by simp_all) (by kernel_rfl) ?_
  exact st_ret Try.func3 (by kernel_rfl)
theorem rback_m (hu : 3 ≤ u) (km : Fn 5 [] [ptv y mo d h m s nn, .int .i64 (-9223372036854775808), .int .i64 u] (.tuple #[ptv A B C H M S N, .int .i64 0])) (kt : Fn 7 [] [ptv y mo d h m s nn, ptv A B C H M S N, .int .i64 u] (.tuple #[wv (-9223372036854775808), wv 1, .int .i64 0]))
    (km2 : Fn 5 [] [ptv A B C H M S N, .int .i64 (-9223372036854775808), .int .i64 u] (.tuple #[ptv A' B' C' H' M' S' N', .int .i64 g])) : Fn 3 [] [ptv y mo d h m s nn, .int .i64 (-9223372036854775808), .int .i64 u] (.bool true) := by
  have kw1 := wof_fn (-9223372036854775808) (by unfold I64; omega)
  have kw2 := wof_fn 1 (by unfold I64; omega)
  refine fn_of Try.func3 rfl fun ww => ?_
  refine st_fn ent5 (km) sub0 (by kernel_rfl) ?_
  refine st_b 25 (show (decide (u < 3)) = false by exact decide_eq_false (by omega)) (by kernel_rfl) ?_
  refine st_fn ent7 (kt) sub0 (by kernel_rfl) ?_
  refine st_fn ent5 (km2) sub0 (by kernel_rfl) ?_
  refine st_fn ent6 (alive20) sub0 (by kernel_rfl) ?_
  refine st_fn ent8 (kw1) sub0 (by kernel_rfl) ?_
  refine st_fn ent8 (kw2) sub0 (by kernel_rfl) ?_
  exact st_ret Try.func3 (by kernel_rfl)
end
theorem mov20any (y mo d h m s nn n u : Int) (k : pOk y mo d h m s nn) (hu : 3 ≤ u) (hu8 : u ≤ 8) (hn : I64 n) : ∃ A B C H M S N e, Fn 5 [] [ptv y mo d h m s nn, .int .i64 n, .int .i64 u] (.tuple #[ptv A B C H M S N, .int .i64 e]) ∧ (e ≠ 0 ∨ e = 0 ∧ pIn (pnum y mo d h m s nn + n * rlen u) ∧ ptv A B C H M S N = ptN (pnum y mo d h m s nn + n * rlen u) ∧ pOk A B C H M S N ∧ pnum A B C H M S N = pnum y mo d h m s nn + n * rlen u) := by
  have rl := rlen_in hu hu8
  have w : W128 (n * rlen u) := by
    unfold I64 at hn
    have a := Int.mul_le_mul_of_nonneg_right hn.2 (show 0 ≤ rlen u by omega)
    have b := Int.mul_le_mul_of_nonneg_right hn.1 (show 0 ≤ rlen u by omega)
    generalize n * rlen u = x at *
    unfold W128; omega
  by_cases l : pIn (pnum y mo d h m s nn + n * rlen u)
  · obtain ⟨r1, r2⟩ := of_pOk l
    exact ⟨_, _, _, _, _, _, _, 0, rmov_d u n y mo d h m s nn _ _ _ _ _ _ _ 0 k hu hu8 hn (padd_yes y mo d h m s nn (n * rlen u) k w l), .inr ⟨rfl, l, rfl, r1, r2⟩⟩
  · exact ⟨_, _, _, _, _, _, _, 4, rmov_d u n y mo d h m s nn _ _ _ _ _ _ _ 4 k hu hu8 hn (padd_no y mo d h m s nn (n * rlen u) k w l), .inl (by decide)⟩
theorem pt_num {y mo d h m s n : Int} (k : pOk y mo d h m s n) : ptN (pnum y mo d h m s n) = ptv y mo d h m s n := by
  obtain ⟨a, b, c, e, f, g, i⟩ := num_of k
  show ptv _ _ _ _ _ _ _ = _
  rw [a, b, c, e, f, g, i]
theorem law_rback (y mo d h m s nn n u : Int) (W : World) (hn : I64 n) : Calls Try.prog 3 #[ptv y mo d h m s nn, .int .i64 n, .int .i64 u] W (fun e w' => e = .returned (.bool true) ∧ Ext W w') := by
  by_cases k : pOk y mo d h m s nn ∧ 1 ≤ u ∧ u ≤ 8
  · obtain ⟨k1, l1, l8⟩ := k
    by_cases hu : 3 ≤ u
    · obtain ⟨A, B, C, H, M, S, N, e, km, q⟩ := mov20any y mo d h m s nn n u k1 hu l8 hn
      rcases q with q | ⟨rfl, l, ept, kp, ep⟩
      · exact rback_1 y mo d h m s nn n u A B C H M S N e km (.inl q) W (zall_nil W)
      · have rl := rlen_in hu l8
        obtain ⟨f1, f2⟩ := frac20mul n (l := rlen u) (by omega)
        have dx : pnum A B C H M S N - pnum y mo d h m s nn = n * rlen u := by omega
        have pa := pOk_in k1
        have pb := pOk_in kp
        have wx : W128 (n * rlen u) := by unfold pIn at pa pb; rw [← dx]; unfold W128; omega
        have wl : W128 (rlen u) := by unfold W128; omega
        have fk : fOk (n * rlen u) (rlen u) := ⟨by omega, by rw [f1]; exact hn.w, by rw [f2]; unfold W128; omega⟩
        have kf := frac_f (n * rlen u) (rlen u) wx wl fk
        rw [f1, f2, ← dx] at kf
        have kt := rtot_d u y mo d h m s nn A B C H M S N k1 kp hu l8 n 1 0 kf
        by_cases z : n = -9223372036854775808
        · subst z
          obtain ⟨A', B', C', H', M', S', N', g, km2, -⟩ := mov20any A B C H M S N (-9223372036854775808) u kp hu l8 hn
          exact rback_m y mo d h m s nn u A B C H M S N A' B' C' H' M' S' N' g hu km kt km2 W (zall_nil W)
        · have hn2 : I64 (0 - n) := by unfold I64 at *; omega
          have e2 : pnum A B C H M S N + (0 - n) * rlen u = pnum y mo d h m s nn := by rw [Int.zero_sub, Int.neg_mul]; omega
          have w2 : W128 ((0 - n) * rlen u) := by rw [Int.zero_sub, Int.neg_mul, ← dx]; unfold pIn at pa pb; unfold W128; omega
          have ad := padd_yes A B C H M S N ((0 - n) * rlen u) kp w2 (by rw [e2]; exact pa)
          rw [e2, pt_num k1] at ad
          exact rback_y y mo d h m s nn n u A B C H M S N hn z hu km kt (rmov_d u (0 - n) A B C H M S N y mo d h m s nn 0 kp hu l8 hn2 ad) W (zall_nil W)
    · by_cases r : -4294967295 ≤ n ∧ n ≤ 4294967295
      · have hu2 : u = 1 ∨ u = 2 := by omega
        obtain ⟨A, B, C, H, M, S, N, e, ka⟩ : ∃ A B C H M S N e, Fn 5 [] [ptv y mo d h m s nn, .int .i64 n, .int .i64 u] (.tuple #[ptv A B C H M S N, .int .i64 e]) := by
          rcases hu2 with rfl | rfl
          · obtain ⟨o, i⟩ := uOk_y n r
            obtain ⟨A, B, C, H, M, S, N, e, ka⟩ := cad_any y mo d h m s nn n 0 k1 o i
            exact ⟨_, _, _, _, _, _, _, _, rmov_1 n y mo d h m s nn _ _ _ _ _ _ _ _ k1 r ka⟩
          · obtain ⟨o, i⟩ := uOk_m n r
            obtain ⟨A, B, C, H, M, S, N, e, ka⟩ := cad_any y mo d h m s nn 0 n k1 o i
            exact ⟨_, _, _, _, _, _, _, _, rmov_2 n y mo d h m s nn _ _ _ _ _ _ _ _ k1 r ka⟩
        by_cases z : e = 0
        · exact rback_1 y mo d h m s nn n u A B C H M S N e ka (.inr ⟨z, by omega⟩) W (zall_nil W)
        · exact rback_1 y mo d h m s nn n u A B C H M S N e ka (.inl z) W (zall_nil W)
      · exact rback_1 y mo d h m s nn n u 0 0 0 0 0 0 0 4 (rmov_r u n y mo d h m s nn (by omega) k1 hn r) (.inl (by decide)) W (zall_nil W)
  · exact rback_1 y mo d h m s nn n u 0 0 0 0 0 0 0 1 (rmov_a u n y mo d h m s nn k) (.inl (by decide)) W (zall_nil W)
/-! exact -/
section
variable (y mo d h m s n y' mo' d' h' m' s' n' L md : Int)
theorem bet20any : ∃ A B C D H M S N e : Int, Fn 10 [] [ptv y mo d h m s n, ptv y' mo' d' h' m' s' n', .int .i64 L] (.tuple #[duv A B C D H M S N, .int .i64 e]) := by
  by_cases k : pOk y mo d h m s n ∧ pOk y' mo' d' h' m' s' n' ∧ 1 ≤ L ∧ L ≤ 8
  · obtain ⟨k1, k2, l1, lq8⟩ := k
    by_cases lq4 : L ≤ 4
    · exact ⟨_, _, _, _, _, _, _, _, _, cbet y mo d h m s n y' mo' d' h' m' s' n' L _ _ k1 k2 l1 lq4 rfl rfl⟩
    · have w : W128 (pnum y' mo' d' h' m' s' n' - pnum y mo d h m s n) := by
        have a := pOk_in k1
        have b := pOk_in k2
        unfold pIn at a b; unfold W128; omega
      by_cases q : layOk L (pnum y' mo' d' h' m' s' n' - pnum y mo d h m s n)
      · exact ⟨_, _, _, _, _, _, _, _, _, cbet_5 y mo d h m s n y' mo' d' h' m' s' n' L _ _ _ _ _ _ _ _ _ k1 k2 (by omega) lq8 (ulay_y L _ w q)⟩
      · exact ⟨_, _, _, _, _, _, _, _, _, cbet_5 y mo d h m s n y' mo' d' h' m' s' n' L _ _ _ _ _ _ _ _ _ k1 k2 (by omega) lq8 (ulay_n L _ w (by omega) lq8 q)⟩
  · exact ⟨_, _, _, _, _, _, _, _, _, cbet_a y mo d h m s n y' mo' d' h' m' s' n' L k⟩
variable (A B C D H M S N e A' B' C' D' H' M' S' N' f : Int)
theorem rex_m (hm : md < 1 ∨ 9 < md) (kr : Fn 9 [] [ptv y mo d h m s n, ptv y' mo' d' h' m' s' n', .int .i64 L, .int .i64 8, .int .i64 1, .int .i64 md] (.tuple #[du0, .int .i64 1])) (kb : Fn 10 [] [ptv y mo d h m s n, ptv y' mo' d' h' m' s' n', .int .i64 L] (.tuple #[duv A' B' C' D' H' M' S' N', .int .i64 f])) :
    Fn 4 [] [ptv y mo d h m s n, ptv y' mo' d' h' m' s' n', .int .i64 L, .int .i64 md] (.bool true) := by
  by_cases q : md < 1
  · refine fn_of Try.func4 rfl fun ww => ?_
    refine st_fn ent9 (kr) sub0 (by kernel_rfl) ?_
    refine st_fn ent10 (kb) sub0 (by kernel_rfl) ?_
    refine st_b 29 (show (decide (md < 1)) = true by exact decide_eq_true (by omega)) (by kernel_rfl) ?_
    refine st_fn ent6 (alive20) sub0 (by kernel_rfl) ?_
    exact st_ret Try.func4 (by kernel_rfl)
  · have q2 : 9 < md := by omega
    refine fn_of Try.func4 rfl fun ww => ?_
    refine st_fn ent9 (kr) sub0 (by kernel_rfl) ?_
    refine st_fn ent10 (kb) sub0 (by kernel_rfl) ?_
    refine st_b 29 (show (decide (md < 1)) = false by exact decide_eq_false (by omega)) (by kernel_rfl) ?_
    refine st_b 32 (show (decide (md > 9)) = true by exact decide_eq_true (by omega)) (by kernel_rfl) ?_
    refine st_fn ent6 (alive20) sub0 (by kernel_rfl) ?_
    exact st_ret Try.func4 (by kernel_rfl)
theorem rex_v (m1 : 1 ≤ md) (m2 : md ≤ 9) (kr : Fn 9 [] [ptv y mo d h m s n, ptv y' mo' d' h' m' s' n', .int .i64 L, .int .i64 8, .int .i64 1, .int .i64 md] (.tuple #[duv A B C D H M S N, .int .i64 e])) (kb : Fn 10 [] [ptv y mo d h m s n, ptv y' mo' d' h' m' s' n', .int .i64 L] (.tuple #[duv A B C D H M S N, .int .i64 e])) :
    Fn 4 [] [ptv y mo d h m s n, ptv y' mo' d' h' m' s' n', .int .i64 L, .int .i64 md] (.bool true) := by
  refine fn_of Try.func4 rfl fun ww => ?_
  refine st_fn ent9 (kr) sub0 (by kernel_rfl) ?_
  refine st_fn ent10 (kb) sub0 (by kernel_rfl) ?_
  refine st_b 29 (show (decide (md < 1)) = false by exact decide_eq_false (by omega)) (by kernel_rfl) ?_
  refine st_b 32 (show (decide (md > 9)) = false by exact decide_eq_false (by omega)) (by kernel_rfl) ?_
  refine st_fn ent6 (alive20) sub0 (by kernel_rfl) ?_
  refine st_b 43 (show (A == A && (B == B && (C == C && (D == D && (H == H && (M == M && (S == S && (N == N && true)))))))) = true by simp_all) (by kernel_rfl) ?_
  exact st_retv Try.func4 (show Value.bool (e == e) = _ by simp) (by kernel_rfl)
end
theorem near20one (x mode : Int) (h1 : 1 ≤ mode) (h2 : mode ≤ 9) : nearQ x 1 mode = x := by
  have nr := (nearQ_near (w := x) (d := 1) (mode := mode) (by omega) h1 h2).1
  omega
section
variable (y mo d h m s n y' mo' d' h' m' s' n' L md : Int)
theorem law_rexact (W : World) : Calls Try.prog 4 #[ptv y mo d h m s n, ptv y' mo' d' h' m' s' n', .int .i64 L, .int .i64 md] W (fun e w' => e = .returned (.bool true) ∧ Ext W w') := by
  obtain ⟨A, B, C, D, H, M, S, N, e, kb⟩ := bet20any y mo d h m s n y' mo' d' h' m' s' n' L
  have ki := rinc_t 8 1 (by decide)
  rw [decide_eq_true (show incOk 8 1 by decide)] at ki
  by_cases l : 1 ≤ L ∧ L ≤ 8
  · by_cases hm : 1 ≤ md ∧ md ≤ 9
    · by_cases k : pOk y mo d h m s n ∧ pOk y' mo' d' h' m' s' n'
      · obtain ⟨k1, k2⟩ := k
        have pa := pOk_in k1
        have pb := pOk_in k2
        obtain ⟨P, hP⟩ : ∃ P, pnum y' mo' d' h' m' s' n' - pnum y mo d h m s n = P := ⟨_, rfl⟩
        have bP : -17280000172800000000000 < P ∧ P < 17280000172800000000000 := by unfold pIn at pa pb; omega
        have wP : W128 P := by unfold W128; omega
        have w1 : W128 1 := by unfold W128; omega
        have i1 : I64 1 := by unfold I64; omega
        have e8 : rlen 8 = 1 := by decide
        obtain ⟨f1, f2⟩ := frac20mul P (l := 1) (by omega)
        rw [Int.mul_one] at f1 f2
        have fk : fOk P 1 := ⟨by omega, by rw [f1]; exact wP, by rw [f2]; exact w1⟩
        have kf := frac_f P 1 wP w1 fk
        rw [f1, f2] at kf
        have kt := rtot_d 8 y mo d h m s n y' mo' d' h' m' s' n' k1 k2 (by omega) (by omega) P 1 0 (by rw [hP, e8]; exact kf)
        have kt1 := times20 1 1 1 w1 i1 (by decide) w1
        have kt2 := times20 P 1 P wP i1 (by omega) wP
        have kr := ratio20 P 1 md P wP w1 (by omega) hm.1 hm.2 (by rw [show nN P 1 = P from if_neg (by omega), show nD 1 = 1 from if_neg (by omega)]; exact near20one P md hm.1 hm.2) wP
        have e2 : pnum y mo d h m s n + P = pnum y' mo' d' h' m' s' n' := by omega
        have ad := padd_yes y mo d h m s n P k1 wP (by rw [e2]; exact pb)
        rw [e2, pt_num k2] at ad
        by_cases q : I64 P
        · have km := rmov_d 8 P y mo d h m s n y' mo' d' h' m' s' n' 0 k1 (by omega) (by omega) q (by rw [e8, Int.mul_one]; exact ad)
          exact rex_v y mo d h m s n y' mo' d' h' m' s' n' L md A B C D H M S N e hm.1 hm.2 (rrnd_v 1 y mo d h m s n y' mo' d' h' m' s' n' L 8 md e A B C D H M S N P 1 1 P P y' mo' d' h' m' s' n' l.1 l.2 (by decide) ki hm.1 hm.2 kt kt1 kr kt2 (wint_f P q) km kb) kb W (zall_nil W)
        · have kfar := rfar_y y mo d h m s n L 8 e A B C D H M S N P P y' mo' d' h' m' s' n' (by rw [e8]; exact kt2) ad kb
          exact rex_v y mo d h m s n y' mo' d' h' m' s' n' L md A B C D H M S N e hm.1 hm.2 (rrnd_f 1 y mo d h m s n y' mo' d' h' m' s' n' L 8 md e A B C D H M S N P 1 1 P P l.1 l.2 (by decide) ki hm.1 hm.2 kt kt1 kr kt2 (wint_n P q) kfar) kb W (zall_nil W)
      · have kt := rtot_a 8 y mo d h m s n y' mo' d' h' m' s' n' (fun q => k ⟨q.1, q.2.1⟩)
        exact rex_v y mo d h m s n y' mo' d' h' m' s' n' L md 0 0 0 0 0 0 0 0 1 hm.1 hm.2 (rrnd_e 1 y mo d h m s n y' mo' d' h' m' s' n' L 8 md 1 l.1 l.2 (by decide) ki hm.1 hm.2 kt (by decide)) (cbet_a y mo d h m s n y' mo' d' h' m' s' n' L (fun q => k ⟨q.1, q.2.1⟩)) W (zall_nil W)
    · exact rex_m y mo d h m s n y' mo' d' h' m' s' n' L md A B C D H M S N e (by omega) (rrnd_m 1 y mo d h m s n y' mo' d' h' m' s' n' L 8 md l.1 l.2 (by decide) ki (by omega)) kb W (zall_nil W)
  · by_cases hm : 1 ≤ md ∧ md ≤ 9
    · exact rex_v y mo d h m s n y' mo' d' h' m' s' n' L md 0 0 0 0 0 0 0 0 1 hm.1 hm.2 (rrnd_l 1 y mo d h m s n y' mo' d' h' m' s' n' L 8 md (by omega)) (cbet_a y mo d h m s n y' mo' d' h' m' s' n' L (fun q => l q.2.2)) W (zall_nil W)
    · exact rex_m y mo d h m s n y' mo' d' h' m' s' n' L md A B C D H M S N e (by omega) (rrnd_l 1 y mo d h m s n y' mo' d' h' m' s' n' L 8 md (by omega)) kb W (zall_nil W)
end
end Go.Proofs.Ythoedmikfpbfnaa
end
section
/-
  What comes in: a wide number by its two halves, numbers by their bounds.
-/
namespace Go.Proofs.Ythoedmikfpbfnaa
open Go Go.RowKit

theorem i64_in {n : Int} (h : (Lit.int .i64 n).wf = true) : I64 n := bounds_i64 h
end Go.Proofs.Ythoedmikfpbfnaa
end
section
/-
  A struct of so many 64-bit numbers that comes in.
-/
namespace Go.Proofs.Ythoedmikfpbfnaa
open Go Go.RowKit

def intRow (P : Program) (t : TypeId) (n : Nat) : Bool := (match P.underlying t with
  | some (.struct _) => true
  | some (.array _ _) => true
  | _ => false) && decide (P.cellsOf t = n) && match P.cellTypes P.depth t with
  | some ts => decide (ts.length = n) && ts.all fun u => match P.underlying u with
    | some (.int .i64) => true
    | _ => false
  | none => false
theorem cells_in {P : Program} {w : World} {r : Reach} {b : Nat} {ts : List TypeId} (ha : ∀ u, u ∈ ts → P.underlying u = some (.int .i64)) (hne : 0 < ts.length) : ∀ (l : List Value),
    (∀ (i : Nat) (v : Value), l[i]? = some v → ∃ (j : Nat) (u : TypeId), ts[j]? = some u ∧ Cell.okWide P w r b u v) → ∃ xs : List Int, l = xs.map (Value.int .i64) ∧ ∀ x ∈ xs, I64 x
  | [], _ => ⟨[], rfl, fun x h => by cases h⟩
  | v :: l, h => by
    obtain ⟨xs, h1, h2⟩ := cells_in ha hne l fun i v hv => h (i + 1) v (by simpa using hv)
    obtain ⟨j, u, hu, hc⟩ := h 0 v rfl
    have hU := ha u (List.mem_of_getElem? hu)
    obtain ⟨x, rfl, hx⟩ : ∃ x, v = .int .i64 x ∧ I64 x := by
      simp only [Cell.okWide, hU] at hc
      cases v <;> simp [Cell.ok, hU] at hc
      rename_i k x
      obtain ⟨rfl, hk⟩ := hc
      refine ⟨x, rfl, ?_⟩
      have m0 : IntKind.i64.min = -9223372036854775808 := by decide
      have m1 : IntKind.i64.max = 9223372036854775807 := by decide
      unfold IntKind.has at hk
      rw [m0, m1] at hk
      exact hk
    exact ⟨x :: xs, by rw [h1]; rfl, fun y hy => by
      rcases List.mem_cons.1 hy with rfl | hy
      · exact hx
      · exact h2 y hy⟩
theorem ints_in {P : Program} {w : World} {r : Reach} {b : Nat} {t : TypeId} {n : Nat} {v : Value} (hn : 0 < n) (ht : intRow P t n = true) (hv : Value.okWide P w r b t v) : ∃ xs : List Int, v = .agg (xs.map (Value.int .i64)).toArray ∧ xs.length = n ∧ ∀ x ∈ xs, I64 x := by
  unfold intRow at ht
  rw [Bool.and_eq_true, Bool.and_eq_true] at ht
  obtain ⟨⟨hs, hc⟩, hl⟩ := ht
  obtain ⟨cs, rfl, hsz, ts, hts, -, hcell⟩ : ∃ cs, v = .agg cs ∧ cs.size = P.cellsOf t ∧ Row.okWide P w r b t cs := by
    unfold Value.okWide at hv
    split at hv
    · exact hv
    · exact hv
    · rename_i h1 h2
      split at hs
      · rename_i fs h; exact absurd h (h1 fs)
      · rename_i m e h; exact absurd h (h2 m e)
      · cases hs
  rw [hts] at hl
  simp only [Bool.and_eq_true, decide_eq_true_eq, List.all_eq_true] at hl hc
  have ha : ∀ u ∈ ts, P.underlying u = some (.int .i64) := fun u hu => by
    have := hl.2 u hu
    split at this
    · assumption
    · cases this
  obtain ⟨xs, h1, h2⟩ := cells_in (P := P) (w := w) (r := r) (b := b) ha (by omega) cs.toList fun i v hv => by
    obtain ⟨u, h3, h4⟩ := hcell i v (by simpa using hv)
    exact ⟨_, u, h3, h4⟩
  have e : cs = (xs.map (Value.int .i64)).toArray := by rw [← h1]
  refine ⟨xs, by rw [e], ?_, h2⟩
  have := congrArg Array.size e
  simp at this; omega
theorem list7 {α : Type} {l : List α} (h : l.length = 7) : ∃ a b c d e f g, l = [a, b, c, d, e, f, g] := by
  match l, h with
  | [a, b, c, d, e, f, g], _ => exact ⟨a, b, c, d, e, f, g, rfl⟩
end Go.Proofs.Ythoedmikfpbfnaa
end
