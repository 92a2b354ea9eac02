/-
  Texts joined: Rtl, Rea, Reb, Rec, Enz, Plz, Caz, Cay, Red, Ree, Rep, Rtt, In, Inn. Each says at its head what it shows.
-/
import Derived.OpenShut
import Derived.WideShapes
import Derived.Test.YthoedmikfpbfnaaGreatPTe
section
/-
 The law RoundRatios, walked.
-/
set_option linter.unusedVariables false
set_option linter.unusedSimpArgs false
set_option maxRecDepth 100000
namespace Go.Proofs.YthoedmikfpbfnaaGreat
open Go Go.RowKit Go.Ev

theorem ext_spec1 (n mode : Int) (hn : W128 n) (h1 : 1 ≤ mode) (h2 : mode ≤ 9) (hz : n ≠ 0) (hm : -170141183460469231731687303715884105728 < n) :
  Fn 106 [] [wv n, wv (-170141183460469231731687303715884105728), .int .i64 mode] (rtv (nearQ (-n) 170141183460469231731687303715884105728 mode)) := by
 by_cases k : n < 0
 ·have h := ext_b2 n _ mode h1 h2 hn (by unfold W128 at *; omega) ((hi_neg n).2 k) rfl
  have e : cmpI (-n) (170141183460469231731687303715884105728 - (-n)) = cmpI (-n) 85070591730234615865843651857942052864 := by
   unfold cmpI; split <;> split <;> (try split) <;> (try split) <;> omega
  rw [small_pos (by omega) (by omega), e]
  split at h
  ·rename_i c; rw [if_pos c, rtv_yes (by unfold W128; omega)]; exact h
  ·rename_i c; rw [if_neg c, rtv0]; exact h
 ·have h := ext_b1 n _ mode h1 h2 (by have := hi_neg n; omega) rfl (by rcases cmpI_3 n 85070591730234615865843651857942052864 with a | a | a <;> omega) (by rcases cmpI_3 n 85070591730234615865843651857942052864 with a | a | a <;> omega)
  have e : cmpI (170141183460469231731687303715884105728 - n) n = 0 - cmpI n 85070591730234615865843651857942052864 := by
   unfold cmpI; split <;> split <;> (try split) <;> (try split) <;> omega
  have hlt : n < 170141183460469231731687303715884105728 := by unfold W128 at hn; omega
  rw [small_neg (by omega) hlt, e]
  split at h
  ·rename_i c; rw [if_pos c, rtv0]; exact h
  ·rename_i c; rw [if_neg c, rtv_yes (by unfold W128; omega)]; exact h
theorem ext_spec2 (d mode : Int) (hd : W128 d) (h1 : 1 ≤ mode) (h2 : mode ≤ 9) (h0 : d < 0) (hm : -170141183460469231731687303715884105728 < d) (hg : Nat.gcd (-170141183460469231731687303715884105728 : Int).natAbs d.natAbs = 1) :
  Fn 106 [] [wv (-170141183460469231731687303715884105728), wv d, .int .i64 mode] (rtv (nearQ 170141183460469231731687303715884105728 (-d) mode)) := by
 have hn : W128 (-170141183460469231731687303715884105728) := by unfold W128; omega
 have hmin := min_no (y := d) (by omega)
 by_cases k : d = -1
 ·subst k
  have e : nearQ 170141183460469231731687303715884105728 (-(-1)) mode = 170141183460469231731687303715884105728 := by
   unfold nearQ; rw [if_pos (by decide)]; decide
  rw [e, rtv_no (by unfold W128; omega)]
  exact ext_over _ _ mode hmin (dfloor_no _ _ hn hd (by omega) (by rw [show Int.fdiv (-170141183460469231731687303715884105728) (-1) = 170141183460469231731687303715884105728 by decide]; unfold W128; omega))
 ·generalize hD : -d = D
  have hd' : d = -D := by omega
  have hD2 : 2 ≤ D := by omega
  have w1 := Int.fmod_eq_emod_of_nonneg 170141183460469231731687303715884105728 (show 0 ≤ D by omega)
  have w2 := Int.emod_nonneg 170141183460469231731687303715884105728 (show D ≠ 0 by omega)
  have w3 := Int.emod_lt_of_pos 170141183460469231731687303715884105728 (show 0 < D by omega)
  have w4 := Int.fdiv_eq_ediv_of_nonneg 170141183460469231731687303715884105728 (show 0 ≤ D by omega)
  have e1 : Int.fdiv (-170141183460469231731687303715884105728) d = Int.fdiv 170141183460469231731687303715884105728 D := by rw [hd', Int.neg_fdiv_neg]
  have e2 : Int.fmod (-170141183460469231731687303715884105728) d = -(Int.fmod 170141183460469231731687303715884105728 D) := by
   have a := Int.mul_fdiv_add_fmod (-170141183460469231731687303715884105728) d
   have b := Int.mul_fdiv_add_fmod 170141183460469231731687303715884105728 D
   rw [e1, hd', Int.neg_mul] at a
   rw [hd'] at *
   omega
  have hz : Int.fmod 170141183460469231731687303715884105728 D ≠ 0 := fun h => by
   have hdv : D ∣ 170141183460469231731687303715884105728 := Int.dvd_of_emod_eq_zero (by omega)
   have hnd : D.natAbs ∣ (-170141183460469231731687303715884105728 : Int).natAbs := by rw [Int.natAbs_neg]; exact Int.natAbs_dvd_natAbs.2 hdv
   have e3 : d.natAbs = D.natAbs := by omega
   rw [e3, Nat.gcd_eq_right hnd] at hg
   omega
  have hq0 : 0 ≤ Int.fdiv 170141183460469231731687303715884105728 D := by rw [w4]; exact Int.ediv_nonneg (by omega) (by omega)
  have hq1 : Int.fdiv 170141183460469231731687303715884105728 D < 170141183460469231731687303715884105728 := by
   rw [w4]; exact Int.ediv_lt_of_lt_mul (by omega) (by omega)
  have hf := dfloor_yes _ _ hn hd (by omega) (by rw [e1]; unfold W128; omega)
  rw [e1, e2] at hf
  have hn1 := wneg_yes (-(Int.fmod 170141183460469231731687303715884105728 D)) (by unfold W128 at *; omega) (by unfold W128 at *; omega)
  rw [Int.neg_neg] at hn1
  have hn2 := wneg_yes d hd (by unfold W128 at *; omega)
  rw [hD] at hn2
  have h := ext_a _ d _ _ _ D mode h1 h2 hmin hf hn1 hn2 (wz_no (by omega)) (by unfold W128 at *; omega) (by unfold W128 at *; omega) (by unfold W128 at *; omega) (by unfold W128; omega)
  have e4 : nearQ 170141183460469231731687303715884105728 D mode = if upB mode false (cmpI (Int.fmod 170141183460469231731687303715884105728 D) (D - Int.fmod 170141183460469231731687303715884105728 D)) (decide (Int.fdiv 170141183460469231731687303715884105728 D % 2 = 0)) = true then Int.fdiv 170141183460469231731687303715884105728 D + 1 else Int.fdiv 170141183460469231731687303715884105728 D := by
   unfold nearQ upQ
   rw [if_neg hz, decide_eq_false (show ¬ (170141183460469231731687303715884105728 : Int) < 0 by omega)]
  rw [e4]
  exact h
theorem ratio_any (n d mode : Int) (hn : W128 n) (hd : W128 d) (h0 : d ≠ 0) (h1 : 1 ≤ mode) (h2 : mode ≤ 9) : Fn 49 [] [wv n, wv d, .int .i64 mode] (rtv (nearQ (nN n d) (nD d) mode)) := by
 by_cases hk : fOk n d
 ·have hq : 0 < frQ n d := by
   obtain ⟨G, X, Y, -, -, -, -, hYp, -, hQ⟩ := fr_scale n h0
   rw [hQ]; omega
  rw [near_fr n mode h0]
  exact rat_ok n d mode _ _ h1 h2 (frac_f n d hn hd hk) hk.2.1 hk.2.2 hq
 ·have hf := frac_n n d hn hd h0 hk
  refine rat_ext n d mode .nilIface _ _ _ h1 h2 hf ?_
  rcases fr_over hn hd h0 hk with ⟨rfl, a, b⟩ | ⟨rfl, a, b, c⟩
  ·exact ext_spec1 n mode hn h1 h2 a b
  ·have e1 : nN (-170141183460469231731687303715884105728) d = 170141183460469231731687303715884105728 := by unfold nN; rw [if_pos a]; rfl
   have e2 : nD d = -d := by unfold nD; rw [if_pos a]
   rw [e1, e2]
   exact ext_spec2 d mode hd h1 h2 a b c
end Go.Proofs.YthoedmikfpbfnaaGreat
end
section
/-
 So many units from a date-time: what the program answers of layer 20.
-/
set_option linter.unusedVariables false
set_option linter.unusedSimpArgs false
set_option maxRecDepth 100000
namespace Go.Proofs.YthoedmikfpbfnaaGreat
open Go Go.RowKit Go.Ev

theorem wtimes_f (v n : Int) (hv : W128 v) (hn : I64 n) (h : W128 (v * n)) : Fn 43 [] [wv v, .int .i64 n] (.tuple #[wv (v * n), .int .i64 0]) := fun w _ => (wtimes v n w hv hn).mono fun e w' ⟨h1, h2⟩ => ⟨by rw [h1, thi_yes h, tlo_yes h, ter_yes h], h2⟩
def rlen (u : Int) : Int := if u = 3 then 604800000000000 else ulen u
theorem rlen_in {u : Int} (h : 3 ≤ u) (k : u ≤ 8) : 1 ≤ rlen u ∧ rlen u ≤ 604800000000000 := by
 unfold rlen
 split
 ·omega
 ·have := ulen_pos (show 4 ≤ u by omega) k; omega
section
variable (u i n : Int)
theorem rknown_y (h : 1 ≤ u) (k : u ≤ 8) : Fn 19 [] [.int .i64 u] (.bool true) := by
 refine fn_of Tryz.func19 rfl fun ww => ?_
 refine qY 4 (decide (u ≥ 1)) ?_
 exact st_retv Tryz.func19 (show Value.bool (decide (u ≤ 8)) = _ by simp_all) (by kernel_rfl)
theorem rknown_n (h : u < 1 ∨ 8 < u) : Fn 19 [] [.int .i64 u] (.bool false) := by
 by_cases q : u < 1
 ·refine fn_of Tryz.func19 rfl fun ww => ?_
  refine qN 4 (decide (u ≥ 1)) ?_
  exact qR Tryz.func19
 ·have q2 : 8 < u := by omega
  refine fn_of Tryz.func19 rfl fun ww => ?_
  refine qY 4 (decide (u ≥ 1)) ?_
  exact st_retv Tryz.func19 (show Value.bool (decide (u ≤ 8)) = _ by simp_all) (by kernel_rfl)
theorem rlength : Fn 24 [] [.int .i64 u] (.int .i64 (rlen u)) := by
 by_cases q : u = 3
 ·subst q
  refine fn_of Tryz.func24 rfl fun ww => ?_
  exact st_retv Tryz.func24 (show vI64 604800000000000 = _ by rfl) (by kernel_rfl)
 ·have e : rlen u = ulen u := if_neg q
  rw [e]
  have kl := ulen_fn u
  refine fn_of Tryz.func24 rfl fun ww => ?_
  refine qN 4 (u == 3) ?_
  refine qF ent63 (kl) ?_
  exact qR Tryz.func24
abbrev kN (n : Int) : List Bk := [⟨[.val (.int .i64 n)], 2⟩]
abbrev EN : List TypeId := [999999, 2]
theorem rmv1 : FnM 20 [.ptr 0 0] (kN n) (duv n 0 0 0 0 0 0 0) := by
 refine fnM_of EN Tryz.func20 rfl (by kernel_rfl) fun ww => ?_
 exact qR Tryz.func20
theorem rmv2 : FnM 21 [.ptr 0 0] (kN n) (duv 0 n 0 0 0 0 0 0) := by
 refine fnM_of EN Tryz.func21 rfl (by kernel_rfl) fun ww => ?_
 exact qR Tryz.func21
variable (y mo d h m s nn A B C H M S N e : Int)
theorem uOk_y (r : -4294967295 ≤ n ∧ n ≤ 4294967295) : uOk n 0 0 0 0 0 0 0 ∧ all64 n 0 0 0 0 0 0 0 := by
 refine ⟨⟨?_, ⟨by unfold cnt1; omega, by unfold cnt1; omega, by unfold cnt1; omega⟩, by unfold dtot LIM; omega⟩, by unfold I64; omega, i64_0, i64_0, i64_0, i64_0, i64_0, i64_0, i64_0⟩
 unfold pos8 neg8; omega
theorem uOk_m (r : -4294967295 ≤ n ∧ n ≤ 4294967295) : uOk 0 n 0 0 0 0 0 0 ∧ all64 0 n 0 0 0 0 0 0 := by
 refine ⟨⟨?_, ⟨by unfold cnt1; omega, by unfold cnt1; omega, by unfold cnt1; omega⟩, by unfold dtot LIM; omega⟩, i64_0, by unfold I64; omega, i64_0, i64_0, i64_0, i64_0, i64_0, i64_0⟩
 unfold pos8 neg8; omega
theorem rmov_1 (k : pOk y mo d h m s nn) (r : -4294967295 ≤ n ∧ n ≤ 4294967295) (ha : Fn 26 [] [ptv y mo d h m s nn, duv n 0 0 0 0 0 0 0, .int .i64 1] (.tuple #[ptv A B C H M S N, .int .i64 e])) : Fn 7 [] [ptv y mo d h m s nn, .int .i64 n, .int .i64 1] (.tuple #[ptv A B C H M S N, .int .i64 e]) := by
 have kr1 := pright_yes y mo d h m s nn k
 have kr2 := rknown_y 1 (by omega) (by omega)
 have kr3 := rmv1 n
 obtain ⟨o, i⟩ := uOk_y n r
 have kr4 := uright_y n 0 0 0 0 0 0 0 i o
 clear k r o i
 refine fn_of Tryz.func7 rfl fun ww => ?_
 refine qF ent18 (kr1) ?_
 refine qF ent19 (kr2) ?_
 refine st_fm [1] ent20 (kr3) (by kernel_rfl) (by kernel_rfl) (by kernel_rfl) ?_
 refine qF ent25 (kr4) ?_
 refine qF ent26 (ha) ?_
 exact qR Tryz.func7
theorem rmov_2 (k : pOk y mo d h m s nn) (r : -4294967295 ≤ n ∧ n ≤ 4294967295) (ha : Fn 26 [] [ptv y mo d h m s nn, duv 0 n 0 0 0 0 0 0, .int .i64 1] (.tuple #[ptv A B C H M S N, .int .i64 e])) : Fn 7 [] [ptv y mo d h m s nn, .int .i64 n, .int .i64 2] (.tuple #[ptv A B C H M S N, .int .i64 e]) := by
 have kr1 := pright_yes y mo d h m s nn k
 have kr2 := rknown_y 2 (by omega) (by omega)
 have kr3 := rmv2 n
 obtain ⟨o, i⟩ := uOk_m n r
 have kr4 := uright_y 0 n 0 0 0 0 0 0 i o
 clear k r o i
 refine fn_of Tryz.func7 rfl fun ww => ?_
 refine qF ent18 (kr1) ?_
 refine qF ent19 (kr2) ?_
 refine st_fm [1] ent21 (kr3) (by kernel_rfl) (by kernel_rfl) (by kernel_rfl) ?_
 refine qF ent25 (kr4) ?_
 refine qF ent26 (ha) ?_
 exact qR Tryz.func7
/-! totals -/
variable (y' mo' d' h' m' s' n' : Int)
theorem rtot_a (k : ¬ (pOk y mo d h m s nn ∧ pOk y' mo' d' h' m' s' n' ∧ 1 ≤ u ∧ u ≤ 8)) : Fn 12 [] [ptv y mo d h m s nn, ptv y' mo' d' h' m' s' n', .int .i64 u] (.tuple #[wz, wz, .int .i64 1]) := by
 by_cases k1 : pOk y mo d h m s nn ∧ pOk y' mo' d' h' m' s' n'
 ·have kr1 := psince_yes y mo d h m s nn y' mo' d' h' m' s' n' k1.1 k1.2
  have kr2 := rknown_n u (by
   rcases Int.lt_or_le u 1 with q | q
   ·exact .inl q
   ·rcases Int.lt_or_le 8 u with q' | q'
    ·exact .inr q'
    ·exact absurd ⟨k1.1, k1.2, q, q'⟩ k)
  clear k k1
  refine fn_of Tryz.func12 rfl fun ww => ?_
  refine qF ent40 (kr1) ?_
  refine qF ent19 (kr2) ?_
  exact qR Tryz.func12
 ·have kr1 := psince_no y mo d h m s nn y' mo' d' h' m' s' n' k1
  clear k k1
  refine fn_of Tryz.func12 rfl fun ww => ?_
  refine qF ent40 (kr1) ?_
  exact qR Tryz.func12
theorem rtot_d (k : pOk y mo d h m s nn) (k' : pOk y' mo' d' h' m' s' n') (l1 : 3 ≤ u) (l2 : u ≤ 8) (p q e : Int) (hf : Fn 41 [] [wv (pnum y' mo' d' h' m' s' n' - pnum y mo d h m s nn), wv (rlen u)] (.tuple #[wv p, wv q, .int .i64 e])) :
  Fn 12 [] [ptv y mo d h m s nn, ptv y' mo' d' h' m' s' n', .int .i64 u] (.tuple #[wv p, wv q, .int .i64 e]) := by
 have kr1 := psince_yes y mo d h m s nn y' mo' d' h' m' s' n' k k'
 have kr2 := rknown_y u (by omega) l2
 have kr3 := rlength u
 have rl := rlen_in l1 l2
 have i1 : I64 (rlen u) := by unfold I64; omega
 have kr4 := wof_fn (rlen u) i1
 generalize pnum y' mo' d' h' m' s' n' - pnum y mo d h m s nn = w at *
 clear k k'
 refine fn_of Tryz.func12 rfl fun ww => ?_
 refine qF ent40 (kr1) ?_
 refine qF ent19 (kr2) ?_
 refine qY 40 (decide (u > 2)) ?_
 refine qF ent24 (kr3) ?_
 refine qF ent30 (kr4) ?_
 refine qF ent41 (hf) ?_
 exact qR Tryz.func12
end
end Go.Proofs.YthoedmikfpbfnaaGreat
end
section
/-
 How many units lie between two date-times: what the program answers of layer 20.
-/
set_option linter.unusedVariables false
set_option linter.unusedSimpArgs false
set_option maxRecDepth 100000
namespace Go.Proofs.YthoedmikfpbfnaaGreat
open Go Go.RowKit Go.Ev

section
variable (y mo d h m s nn y' mo' d' h' m' s' n' A B C D H M S N e0 v c f1 f2 f3 f4 f5 f6 f7 t1 t2 t3 t4 t5 t6 t7 x1 z1 x2 w2 x3 p q e : Int)
theorem rtot_0 (u : Int) (hu : u = 1 ∨ u = 2) (k : pOk y mo d h m s nn) (k' : pOk y' mo' d' h' m' s' n') (ev : pnum y' mo' d' h' m' s' n' - pnum y mo d h m s nn = 0) (hA : -9000000 ≤ A ∧ A ≤ 9000000) (hB : -9000000 ≤ B ∧ B ≤ 9000000)
  (kb : Fn 42 [] [ptv y mo d h m s nn, ptv y' mo' d' h' m' s' n', .int .i64 u] (.tuple #[duv A B C D H M S N, .int .i64 e0])) : Fn 12 [] [ptv y mo d h m s nn, ptv y' mo' d' h' m' s' n', .int .i64 u] (.tuple #[wz, wv 1, .int .i64 0]) := by
 have kr1 := psince_yes y mo d h m s nn y' mo' d' h' m' s' n' k k'
 rw [ev] at kr1
 have kr2 := rknown_y u (by omega) (by omega)
 have kr3 : Fn 16 [] [wv 0] (.int .i64 0) := wsign_fn 0
 have kr4 := wof_fn 1 (by unfold I64; omega)
 clear k k' ev
 rcases hu with rfl | rfl
 ·refine fn_of Tryz.func12 rfl fun ww => ?_
  refine qF ent40 (kr1) ?_
  refine qF ent19 (kr2) ?_
  refine qF ent42 (kb) ?_
  refine qI 60 (A + B) ?_
  refine qF ent16 (kr3) ?_
  refine qF ent30 (kr4) ?_
  exact qR Tryz.func12
 ·refine fn_of Tryz.func12 rfl fun ww => ?_
  refine qF ent40 (kr1) ?_
  refine qF ent19 (kr2) ?_
  refine qF ent42 (kb) ?_
  refine qI 60 (A + B) ?_
  refine qF ent16 (kr3) ?_
  refine qF ent30 (kr4) ?_
  exact qR Tryz.func12
theorem rtot_e (u : Int) (hu : u = 1 ∧ c = A ∨ u = 2 ∧ c = A + B) (k : pOk y mo d h m s nn) (k' : pOk y' mo' d' h' m' s' n') (hv : v = 1 ∨ v = -1) (ev : cmpI (pnum y' mo' d' h' m' s' n' - pnum y mo d h m s nn) 0 = v) (hA : -9000000 ≤ A ∧ A ≤ 9000000) (hB : -9000000 ≤ B ∧ B ≤ 9000000)
  (kb : Fn 42 [] [ptv y mo d h m s nn, ptv y' mo' d' h' m' s' n', .int .i64 u] (.tuple #[duv A B C D H M S N, .int .i64 e0]))
  (km1 : Fn 7 [] [ptv y mo d h m s nn, .int .i64 c, .int .i64 u] (.tuple #[ptv f1 f2 f3 f4 f5 f6 f7, .int .i64 q])) (km2 : Fn 7 [] [ptv y mo d h m s nn, .int .i64 (c + v), .int .i64 u] (.tuple #[ptv t1 t2 t3 t4 t5 t6 t7, .int .i64 e])) (he : e ≠ 0) :
  Fn 12 [] [ptv y mo d h m s nn, ptv y' mo' d' h' m' s' n', .int .i64 u] (.tuple #[wz, wz, .int .i64 e]) := by
 have kr1 := psince_yes y mo d h m s nn y' mo' d' h' m' s' n' k k'
 have kr2 := rknown_y u (by omega) (by omega)
 have kr3 := wsign_fn (pnum y' mo' d' h' m' s' n' - pnum y mo d h m s nn)
 rw [ev] at kr3
 generalize pnum y' mo' d' h' m' s' n' - pnum y mo d h m s nn = w at *
 clear k k' ev
 have hv0 : v ≠ 0 := by omega
 rcases hu with ⟨rfl, rfl⟩ | ⟨rfl, rfl⟩
 ·refine fn_of Tryz.func12 rfl fun ww => ?_
  refine qF ent40 (kr1) ?_
  refine qF ent19 (kr2) ?_
  refine qF ent42 (kb) ?_
  refine qI 60 (c + B) ?_
  refine qF ent16 (kr3) ?_
  refine qN 68 (v == 0) ?_
  refine qF ent7 (km1) ?_
  refine qI 82 (c + v) ?_
  refine qF ent7 (km2) ?_
  refine qV 88 (show (e != 0) = true by exact bne_iff_ne.2 (by omega)) ?_
  exact qR Tryz.func12
 ·refine fn_of Tryz.func12 rfl fun ww => ?_
  refine qF ent40 (kr1) ?_
  refine qF ent19 (kr2) ?_
  refine qF ent42 (kb) ?_
  refine qI 60 (A + B) ?_
  refine qF ent16 (kr3) ?_
  refine qN 68 (v == 0) ?_
  refine qF ent7 (km1) ?_
  refine qI 82 (A + B + v) ?_
  refine qF ent7 (km2) ?_
  refine qV 88 (show (e != 0) = true by exact bne_iff_ne.2 (by omega)) ?_
  exact qR Tryz.func12
theorem rtot_m (u : Int) (hu : u = 1 ∧ c = A ∨ u = 2 ∧ c = A + B) (k : pOk y mo d h m s nn) (k' : pOk y' mo' d' h' m' s' n') (hv : v = 1 ∨ v = -1) (ev : cmpI (pnum y' mo' d' h' m' s' n' - pnum y mo d h m s nn) 0 = v) (hA : -9000000 ≤ A ∧ A ≤ 9000000) (hB : -9000000 ≤ B ∧ B ≤ 9000000)
  (kb : Fn 42 [] [ptv y mo d h m s nn, ptv y' mo' d' h' m' s' n', .int .i64 u] (.tuple #[duv A B C D H M S N, .int .i64 e0]))
  (km1 : Fn 7 [] [ptv y mo d h m s nn, .int .i64 c, .int .i64 u] (.tuple #[ptv f1 f2 f3 f4 f5 f6 f7, .int .i64 0])) (km2 : Fn 7 [] [ptv y mo d h m s nn, .int .i64 (c + v), .int .i64 u] (.tuple #[ptv t1 t2 t3 t4 t5 t6 t7, .int .i64 0]))
  (ks1 : Fn 40 [] [ptv f1 f2 f3 f4 f5 f6 f7, ptv y' mo' d' h' m' s' n'] (.tuple #[wv x1, .int .i64 0])) (ks2 : Fn 40 [] [ptv f1 f2 f3 f4 f5 f6 f7, ptv t1 t2 t3 t4 t5 t6 t7] (.tuple #[wv z1, .int .i64 0]))
  (kt1 : Fn 43 [] [wv x1, .int .i64 v] (.tuple #[wv x2, .int .i64 0])) (kt2 : Fn 43 [] [wv z1, .int .i64 c] (.tuple #[wv w2, .int .i64 0])) (kd : Fn 44 [] [wv w2, wv x2] (.tuple #[wv x3, .int .i64 0])) (kf : Fn 41 [] [wv x3, wv z1] (.tuple #[wv p, wv q, .int .i64 e])) :
  Fn 12 [] [ptv y mo d h m s nn, ptv y' mo' d' h' m' s' n', .int .i64 u] (.tuple #[wv p, wv q, .int .i64 e]) := by
 have kr1 := psince_yes y mo d h m s nn y' mo' d' h' m' s' n' k k'
 have kr2 := rknown_y u (by omega) (by omega)
 have kr3 := wsign_fn (pnum y' mo' d' h' m' s' n' - pnum y mo d h m s nn)
 rw [ev] at kr3
 generalize pnum y' mo' d' h' m' s' n' - pnum y mo d h m s nn = w at *
 clear k k' ev
 have hv0 : v ≠ 0 := by omega
 rcases hu with ⟨rfl, rfl⟩ | ⟨rfl, rfl⟩
 ·refine fn_of Tryz.func12 rfl fun ww => ?_
  refine qF ent40 (kr1) ?_
  refine qF ent19 (kr2) ?_
  refine qF ent42 (kb) ?_
  refine qI 60 (c + B) ?_
  refine qF ent16 (kr3) ?_
  refine qN 68 (v == 0) ?_
  refine qF ent7 (km1) ?_
  refine qI 82 (c + v) ?_
  refine qF ent7 (km2) ?_
  refine qF ent40 (ks1) ?_
  refine qF ent40 (ks2) ?_
  refine qF ent43 (kt1) ?_
  refine qF ent43 (kt2) ?_
  refine qF ent44 (kd) ?_
  refine qF ent41 (kf) ?_
  exact qR Tryz.func12
 ·refine fn_of Tryz.func12 rfl fun ww => ?_
  refine qF ent40 (kr1) ?_
  refine qF ent19 (kr2) ?_
  refine qF ent42 (kb) ?_
  refine qI 60 (A + B) ?_
  refine qF ent16 (kr3) ?_
  refine qN 68 (v == 0) ?_
  refine qF ent7 (km1) ?_
  refine qI 82 (A + B + v) ?_
  refine qF ent7 (km2) ?_
  refine qF ent40 (ks1) ?_
  refine qF ent40 (ks2) ?_
  refine qF ent43 (kt1) ?_
  refine qF ent43 (kt2) ?_
  refine qF ent44 (kd) ?_
  refine qF ent41 (kf) ?_
  exact qR Tryz.func12
end
section
variable (u i a b : Int)
theorem rinc_c (h : u ≤ 4) : Fn 48 [] [.int .i64 u, .int .i64 i] (.bool (decide (1 ≤ i ∧ i ≤ 1000000000))) := by
 by_cases q1 : 1 ≤ i
 ·by_cases q2 : i ≤ 1000000000
  ·rw [decide_eq_true ⟨q1, q2⟩]
   refine fn_of Tryz.func48 rfl fun ww => ?_
   refine qY 6 (decide (u ≤ 4)) ?_
   refine qY 8 (decide (i ≥ 1)) ?_
   exact st_retv Tryz.func48 (show Value.bool (decide (i ≤ 1000000000)) = _ by simp_all) (by kernel_rfl)
  ·rw [decide_eq_false (fun q => q2 q.2)]
   refine fn_of Tryz.func48 rfl fun ww => ?_
   refine qY 6 (decide (u ≤ 4)) ?_
   refine qY 8 (decide (i ≥ 1)) ?_
   exact st_retv Tryz.func48 (show Value.bool (decide (i ≤ 1000000000)) = _ by simp_all) (by kernel_rfl)
 ·rw [decide_eq_false (fun q => q1 q.1)]
  refine fn_of Tryz.func48 rfl fun ww => ?_
  refine qY 6 (decide (u ≤ 4)) ?_
  refine qN 8 (decide (i ≥ 1)) ?_
  exact qR Tryz.func48
variable (y mo d h m s n y' mo' d' h' m' s' n' L S' md e A B C D H M S N : Int)
variable (p q d2 w w2 t1 t2 t3 t4 t5 t6 t7 : Int)
theorem rrnd_v (l1 : 1 ≤ L) (l2 : L ≤ S') (l3 : S' ≤ 8) (kinc : Fn 48 [] [.int .i64 S', .int .i64 i] (.bool true)) (m1 : 1 ≤ md) (m2 : md ≤ 9) (ht : Fn 12 [] [ptv y mo d h m s n, ptv y' mo' d' h' m' s' n', .int .i64 S'] (.tuple #[wv p, wv q, .int .i64 0]))
  (hd : Fn 43 [] [wv q, .int .i64 i] (.tuple #[wv d2, .int .i64 0])) (hr : Fn 49 [] [wv p, wv d2, .int .i64 md] (.tuple #[wv w, .int .i64 0])) (hw : Fn 43 [] [wv w, .int .i64 i] (.tuple #[wv w2, .int .i64 0])) (hk : Fn 50 [] [wv w2] (.tuple #[.int .i64 w2, .bool true]))
  (hm : Fn 7 [] [ptv y mo d h m s n, .int .i64 w2, .int .i64 S'] (.tuple #[ptv t1 t2 t3 t4 t5 t6 t7, .int .i64 0])) (hb : Fn 42 [] [ptv y mo d h m s n, ptv t1 t2 t3 t4 t5 t6 t7, .int .i64 L] (.tuple #[duv A B C D H M S N, .int .i64 e])) :
  Fn 14 [] [ptv y mo d h m s n, ptv y' mo' d' h' m' s' n', .int .i64 L, .int .i64 S', .int .i64 i, .int .i64 md] (.tuple #[duv A B C D H M S N, .int .i64 e]) := by
 have kr1 := rknown_y L l1 (by omega)
 have kr2 := rknown_y S' (by omega) l3
 refine fn_of Tryz.func14 rfl fun ww => ?_
 refine qF ent19 (kr1) ?_
 refine qF ent19 (kr2) ?_
 refine qN 33 (decide (L > S')) ?_
 refine qF ent48 (kinc) ?_
 refine qN 43 (decide (md < 1)) ?_
 refine qN 47 (decide (md > 9)) ?_
 refine qF ent12 (ht) ?_
 refine qF ent43 (hd) ?_
 refine qF ent49 (hr) ?_
 refine qF ent43 (hw) ?_
 refine qF ent50 (hk) ?_
 refine qF ent7 (hm) ?_
 refine qF ent42 (hb) ?_
 exact qR Tryz.func14
end
end Go.Proofs.YthoedmikfpbfnaaGreat
end
section
/-
 What every right program answers of layer 20; the laws RelativeBack, RelativeExact.
-/
set_option linter.unusedVariables false
set_option linter.unusedSimpArgs false
set_option maxRecDepth 100000
namespace Go.Proofs.YthoedmikfpbfnaaGreat
open Go Go.RowKit Go.Ev

theorem cadm_y (y mo d h m s n a b T : Int) (k : pOk y mo d h m s n) (o : uOk a b 0 0 0 0 0 0) (i : all64 a b 0 0 0 0 0 0) (hT : ymi y mo + (12 * a + b) = T) (q : pOk (lY T) (lM T) (cD (lY T) (lM T) d) h m s n) :
  Fn 26 [] [ptv y mo d h m s n, duv a b 0 0 0 0 0 0, .int .i64 1] (.tuple #[ptv (lY T) (lM T) (cD (lY T) (lM T) d) h m s n, .int .i64 0]) := by
 obtain ⟨b1, b2, -⟩ := uOk_bd o
 have yy := dOk_year k.1
 have tb := tnan_bd k.2.1
 have mv := cmoved_c y mo d (12 * a + b) (0 + 7 * 0 + 0) T (dnum (lY T) (lM T) (cD (lY T) (lM T) d)) hT (by omega) (by omega) k.1.1.1 k.1.1.2.1 (by omega) (by omega) k.1.1.2.2.1 q.1 (by omega) q.1.2.1 q.1.2.2
 rw [(date_of q.1.1).1, (date_of q.1.1).2.1, (date_of q.1.1).2.2] at mv
 obtain ⟨r1, r2, r3, r4⟩ := t_tnan k.2.1
 have z : dtot 0 0 0 0 0 = 0 := rfl
 have := cad_y y mo d h m s n a b 0 0 0 0 0 0 1 _ _ _ 0 (tnan h m s n) i k o (.inl rfl) (by rw [z, Int.fdiv_eq_ediv_of_nonneg _ (by omega)]; omega) (by rw [z, Int.fmod_eq_emod_of_nonneg _ (by omega)]; omega) (by omega) mv (by rw [r1, r2, r3, r4]; exact q)
 rw [r1, r2, r3, r4] at this
 exact this
theorem lday (y m d : Int) : Fn 29 [] [.int .i64 y, .int .i64 m, .int .i64 d] (ptv y m d 0 0 0 0) := by
 refine fn_of Tryz.func29 rfl fun ww => ?_
 exact qR Tryz.func29
theorem mov20m (y mo d n Y M D : Int) (k : pOk y mo d 0 0 0 0) (r : -4294967295 ≤ n ∧ n ≤ 4294967295) (T : Int) (hT : ymi y mo + (12 * 0 + n) = T) (e1 : lY T = Y) (e2 : lM T = M) (e3 : cD Y M d = D) (q : pOk Y M D 0 0 0 0) : Fn 7 [] [ptv y mo d 0 0 0 0, .int .i64 n, .int .i64 2] (.tuple #[ptv Y M D 0 0 0 0, .int .i64 0]) := by
 subst e1 e2 e3
 obtain ⟨o, i⟩ := uOk_m n r
 exact rmov_2 n y mo d 0 0 0 0 _ _ _ _ _ _ _ 0 k r (cadm_y y mo d 0 0 0 0 0 n T k o i hT q)
theorem mov20y (y mo d n Y M D : Int) (k : pOk y mo d 0 0 0 0) (r : -4294967295 ≤ n ∧ n ≤ 4294967295) (T : Int) (hT : ymi y mo + (12 * n + 0) = T) (e1 : lY T = Y) (e2 : lM T = M) (e3 : cD Y M d = D) (q : pOk Y M D 0 0 0 0) : Fn 7 [] [ptv y mo d 0 0 0 0, .int .i64 n, .int .i64 1] (.tuple #[ptv Y M D 0 0 0 0, .int .i64 0]) := by
 subst e1 e2 e3
 obtain ⟨o, i⟩ := uOk_y n r
 exact rmov_1 n y mo d 0 0 0 0 _ _ _ _ _ _ _ 0 k r (cadm_y y mo d 0 0 0 0 n 0 T k o i hT q)
theorem since20 (y mo d y' mo' d' x : Int) (k : pOk y mo d 0 0 0 0) (k' : pOk y' mo' d' 0 0 0 0) (e : pnum y' mo' d' 0 0 0 0 - pnum y mo d 0 0 0 0 = x) : Fn 40 [] [ptv y mo d 0 0 0 0, ptv y' mo' d' 0 0 0 0] (.tuple #[wv x, .int .i64 0]) := by
 subst e; exact psince_yes y mo d 0 0 0 0 y' mo' d' 0 0 0 0 k k'
theorem bet20 (y mo d y' mo' d' L A B C D : Int) (k : pOk y mo d 0 0 0 0) (k' : pOk y' mo' d' 0 0 0 0) (l1 : 1 ≤ L) (l2 : L ≤ 4) (hE : bD y mo d 0 0 0 0 y' mo' d' 0 0 0 0 = dnum y' mo' d') (hZ : bZ y mo d 0 0 0 0 y' mo' d' 0 0 0 0 = 0) (e1 : uY L y mo d y' mo' d' = A) (e2 : uMo L y mo d y' mo' d' = B) (e3 : uW L y mo d y' mo' d' = C) (e4 : uD L y mo d y' mo' d' = D) :
  Fn 42 [] [ptv y mo d 0 0 0 0, ptv y' mo' d' 0 0 0 0, .int .i64 L] (.tuple #[duv A B C D 0 0 0 0, .int .i64 0]) := by
 have := cbet y mo d 0 0 0 0 y' mo' d' 0 0 0 0 L _ _ k k' l1 l2 hE hZ
 rw [(date_of k'.1.1).1, (date_of k'.1.1).2.1, (date_of k'.1.1).2.2, e1, e2, e3, e4] at this
 exact this
theorem frac20 (n d p q : Int) (hn : W128 n) (hd : W128 d) (k : fOk n d) (e1 : frP n d = p) (e2 : frQ n d = q) : Fn 41 [] [wv n, wv d] (.tuple #[wv p, wv q, .int .i64 0]) := by
 subst e1 e2; exact frac_f n d hn hd k
theorem times20 (v n x : Int) (hv : W128 v) (hn : I64 n) (e : v * n = x) (h : W128 x) : Fn 43 [] [wv v, .int .i64 n] (.tuple #[wv x, .int .i64 0]) := by
 subst e; exact wtimes_f v n hv hn h
theorem add20 (v n x : Int) (hv : W128 v) (hn : W128 n) (e : v + n = x) (h : W128 x) : Fn 44 [] [wv v, wv n] (.tuple #[wv x, .int .i64 0]) := by
 subst e; exact wadd_yes v n hv hn h
theorem ratio20 (n d mode x : Int) (hn : W128 n) (hd : W128 d) (h0 : d ≠ 0) (h1 : 1 ≤ mode) (h2 : mode ≤ 9) (e : nearQ (nN n d) (nD d) mode = x) (h : W128 x) : Fn 49 [] [wv n, wv d, .int .i64 mode] (.tuple #[wv x, .int .i64 0]) := by
 have := ratio_any n d mode hn hd h0 h1 h2
 rwa [e, rtv_yes h] at this
theorem w20in {x : Int} (h : -1000000000000000000000000 ≤ x ∧ x ≤ 1000000000000000000000000) : W128 x := by unfold W128; omega
theorem alive20 : Fn 9 [] [] (.bool true) := by
 have i44 : I64 44 := by unfold I64; omega
 have i29 : I64 29 := by unfold I64; omega
 have i1 : I64 1 := by unfold I64; omega
 have at1 := rtot_m 2020 1 1 0 0 0 0 2020 2 16 0 0 0 0 0 1 0 15 0 0 0 0 0 1 1 2020 2 1 0 0 0 0 2020 3 1 0 0 0 0 1296000000000000 2505600000000000 1296000000000000 2505600000000000 3801600000000000 44 29 0 2 (.inr ⟨rfl, rfl⟩) (by decide +kernel) (by decide +kernel) (.inl rfl) (by decide +kernel) (by decide) (by decide)
  (bet20 2020 1 1 2020 2 16 2 0 1 0 15 (by decide +kernel) (by decide +kernel) (by decide) (by decide) (by decide +kernel) (by decide +kernel) (by decide +kernel) (by decide +kernel) (by decide +kernel) (by decide +kernel))
  (mov20m 2020 1 1 1 2020 2 1 (by decide +kernel) (by decide) 24241 (by decide) (by decide) (by decide) (by decide +kernel) (by decide +kernel)) (mov20m 2020 1 1 2 2020 3 1 (by decide +kernel) (by decide) 24242 (by decide) (by decide) (by decide) (by decide +kernel) (by decide +kernel))
  (since20 2020 2 1 2020 2 16 _ (by decide +kernel) (by decide +kernel) (by decide +kernel)) (since20 2020 2 1 2020 3 1 _ (by decide +kernel) (by decide +kernel) (by decide +kernel))
  (times20 _ 1 _ (w20in (by decide)) i1 (by decide) (w20in (by decide))) (times20 _ 1 _ (w20in (by decide)) i1 (by decide) (w20in (by decide))) (add20 _ _ _ (w20in (by decide)) (w20in (by decide)) (by decide) (w20in (by decide))) (frac20 _ _ _ _ (w20in (by decide)) (w20in (by decide)) (by decide +kernel) (by decide +kernel) (by decide +kernel))
 have at2 := rtot_m 2020 1 1 0 0 0 0 2021 7 2 0 0 0 0 1 6 0 1 0 0 0 0 0 1 1 2021 1 1 0 0 0 0 2022 1 1 0 0 0 0 15724800000000000 31536000000000000 15724800000000000 31536000000000000 47260800000000000 547 365 0 1 (.inl ⟨rfl, rfl⟩) (by decide +kernel) (by decide +kernel) (.inl rfl) (by decide +kernel) (by decide) (by decide)
  (bet20 2020 1 1 2021 7 2 1 1 6 0 1 (by decide +kernel) (by decide +kernel) (by decide) (by decide) (by decide +kernel) (by decide +kernel) (by decide +kernel) (by decide +kernel) (by decide +kernel) (by decide +kernel))
  (mov20y 2020 1 1 1 2021 1 1 (by decide +kernel) (by decide) 24252 (by decide) (by decide) (by decide) (by decide +kernel) (by decide +kernel)) (mov20y 2020 1 1 2 2022 1 1 (by decide +kernel) (by decide) 24264 (by decide) (by decide) (by decide) (by decide +kernel) (by decide +kernel))
  (since20 2021 1 1 2021 7 2 _ (by decide +kernel) (by decide +kernel) (by decide +kernel)) (since20 2021 1 1 2022 1 1 _ (by decide +kernel) (by decide +kernel) (by decide +kernel))
  (times20 _ 1 _ (w20in (by decide)) i1 (by decide) (w20in (by decide))) (times20 _ 1 _ (w20in (by decide)) i1 (by decide) (w20in (by decide))) (add20 _ _ _ (w20in (by decide)) (w20in (by decide)) (by decide) (w20in (by decide))) (frac20 _ _ _ _ (w20in (by decide)) (w20in (by decide)) (by decide +kernel) (by decide +kernel) (by decide +kernel))
 have ai := rinc_c 1 1 (by decide)
 rw [show decide ((1 : Int) ≤ 1 ∧ (1 : Int) ≤ 1000000000) = true by decide] at ai
 have at3 := rrnd_v 1 2020 1 1 0 0 0 0 2021 7 2 0 0 0 0 1 1 7 0 1 0 0 0 0 0 0 0 547 365 365 1 1 2021 1 1 0 0 0 0 (by decide) (by decide) (by decide) ai (by decide) (by decide) at2
  (times20 _ 1 _ (w20in (by decide)) i1 (by decide) (w20in (by decide))) (ratio20 _ _ _ _ (w20in (by decide)) (w20in (by decide)) (by decide) (by decide) (by decide) (by decide +kernel) (w20in (by decide))) (times20 _ 1 _ (w20in (by decide)) i1 (by decide) (w20in (by decide))) (wint_f 1 i1)
  (mov20y 2020 1 1 1 2021 1 1 (by decide +kernel) (by decide) 24252 (by decide) (by decide) (by decide) (by decide +kernel) (by decide +kernel))
  (bet20 2020 1 1 2021 1 1 1 1 0 0 0 (by decide +kernel) (by decide +kernel) (by decide) (by decide) (by decide +kernel) (by decide +kernel) (by decide +kernel) (by decide +kernel) (by decide +kernel) (by decide +kernel))
 have at4 := mov20m 2020 1 31 1 2020 2 29 (by decide +kernel) (by decide) 24241 (by decide) (by decide) (by decide) (by decide +kernel) (by decide +kernel)
 clear at2 ai
 refine fn_of Tryz.func9 rfl fun ww => ?_
 refine qF ent29 (lday (2020) (1) (1)) ?_
 refine qF ent29 (lday (2020) (2) (16)) ?_
 refine qF ent12 (at1) ?_
 refine qF ent29 (lday (2020) (1) (1)) ?_
 refine qF ent29 (lday (2021) (7) (2)) ?_
 refine qF ent14 (at3) ?_
 refine qF ent29 (lday (2020) (1) (31)) ?_
 refine qF ent7 (at4) ?_
 refine qF ent30 (wof_fn (44) (by assumption)) ?_
 refine qF ent30 (wof_fn (29) (by assumption)) ?_
 refine qF ent29 (lday (2020) (2) (29)) ?_
 exact qR Tryz.func9
/-! back -/
/-! exact -/
end Go.Proofs.YthoedmikfpbfnaaGreat
end
section
/-
 Functions that are entered when they are called (those that only some seats have).
-/
namespace Go.Proofs.YthoedmikfpbfnaaGreat
open Go Go.Ev
theorem ent37 : Enters Tryz.prog 37 := enters_of Tryz.func37 (by kernel_rfl) rfl
theorem ent54 : Enters Tryz.prog 54 := enters_of Tryz.func54 (by kernel_rfl) rfl
theorem ent90 : Enters Tryz.prog 90 := enters_of Tryz.func90 (by kernel_rfl) rfl
theorem ent91 : Enters Tryz.prog 91 := enters_of Tryz.func91 (by kernel_rfl) rfl
theorem ent10 : Enters Tryz.prog 10 := enters_of Tryz.func10 (by kernel_rfl) rfl
theorem ent13 : Enters Tryz.prog 13 := enters_of Tryz.func13 (by kernel_rfl) rfl
theorem ent35 : Enters Tryz.prog 35 := enters_of Tryz.func35 (by kernel_rfl) rfl
theorem ent45 : Enters Tryz.prog 45 := enters_of Tryz.func45 (by kernel_rfl) rfl
theorem ent46 : Enters Tryz.prog 46 := enters_of Tryz.func46 (by kernel_rfl) rfl
end Go.Proofs.YthoedmikfpbfnaaGreat
end
section
/-
 Date-times: what the reference answers of layer 7.
-/
set_option linter.unusedVariables false
set_option maxRecDepth 100000
namespace Go.Proofs.YthoedmikfpbfnaaGreat
open Go Go.RowKit Go.Ev

theorem fzday : FnZ 76 [] [] zv 86400000000000 := by
 have i : I64 86400000000000 := by unfold I64; omega
 refine fnG_of Tryz.func76 rfl fun ww => ?_
 refine qZ ent11 (fzint (86400000000000) (by assumption)) fun zq0 => ?_
 exact st_retG (zq0) Tryz.func76 (subE 0 rfl (by rfl) sub0) (by kernel_rfl)
theorem time0_no {h m s n : Int} (k : tOk h m s n) (q : tnan h m s n ≠ 0) : (h == 0 && (m == 0 && (s == 0 && (n == 0 && true)))) = false := by
 have := tnan_0 k
 rw [Bool.eq_false_iff]
 intro z
 simp at z
 omega
section
variable (y mo d h m s n : Int)
theorem zright7_yes (k : pOk y mo d h m s n) : Fn 8 [] [ptv y mo d h m s n] (.bool true) := by
 obtain ⟨k1, k2, k3⟩ := k
 by_cases q : dnum y mo d = -100000001
 ·have q2 := time0_no k2 fun z => k3 ⟨q, z⟩
  clear k3
  refine fn_of Tryz.func8 rfl fun ww => ?_
  refine qF ent27 (zdays_yes (y) (mo) (d) (by assumption)) ?_
  refine qF ent28 (fzright_yes (h) (m) (s) (n) (by assumption)) ?_
  refine qV 19 (show (dnum y mo d != -100000001) = false by exact bne_eq_false_iff_eq.2 (by omega)) ?_
  exact st_retv Tryz.func8 (show Value.bool (!(h == 0 && (m == 0 && (s == 0 && (n == 0 && true))))) = _ by (rw [q2]; rfl)) (by kernel_rfl)
 ·clear k3
  refine fn_of Tryz.func8 rfl fun ww => ?_
  refine qF ent27 (zdays_yes (y) (mo) (d) (by assumption)) ?_
  refine qF ent28 (fzright_yes (h) (m) (s) (n) (by assumption)) ?_
  refine qV 19 (show (dnum y mo d != -100000001) = true by exact bne_iff_ne.2 (by omega)) ?_
  exact qR Tryz.func8
theorem zright7_no (k : ¬ pOk y mo d h m s n) : Fn 8 [] [ptv y mo d h m s n] (.bool false) := by
 by_cases k1 : dOk y mo d
 ·by_cases k2 : tOk h m s n
  ·have k3 : dnum y mo d = -100000001 ∧ tnan h m s n = 0 := Classical.byContradiction fun q => k ⟨k1, k2, q⟩
   obtain ⟨k4, k5⟩ := k3
   obtain ⟨rfl, rfl, rfl, rfl⟩ := (tnan_0 k2).1 k5
   clear k
   refine fn_of Tryz.func8 rfl fun ww => ?_
   refine qF ent27 (zdays_yes (y) (mo) (d) (by assumption)) ?_
   refine qF ent28 (fzright_yes (0) (0) (0) (0) (by assumption)) ?_
   refine qV 19 (show (dnum y mo d != -100000001) = false by exact bne_eq_false_iff_eq.2 (by omega)) ?_
   exact qR Tryz.func8
  ·clear k
   refine fn_of Tryz.func8 rfl fun ww => ?_
   refine qF ent27 (zdays_yes (y) (mo) (d) (by assumption)) ?_
   refine qF ent28 (fzright_no (h) (m) (s) (n) (by assumption)) ?_
   exact qR Tryz.func8
 ·clear k
  refine fn_of Tryz.func8 rfl fun ww => ?_
  refine qF ent27 (zdays_no (y) (mo) (d) (by assumption)) ?_
  exact qR Tryz.func8
theorem znanos7 (k : pOk y mo d h m s n) : FnZ 33 [] [ptv y mo d h m s n] zv (pnum y mo d h m s n) := by
 obtain ⟨k1, k2, k3⟩ := k
 have b := tnan_bd k2
 obtain ⟨k4, k5, k6⟩ := k1
 have k1 : dOk y mo d := ⟨k4, k5, k6⟩
 have i1 : I64 (dnum y mo d) := by unfold I64; omega
 have i2 : I64 (tnan h m s n) := by unfold I64; omega
 have i3 : I64 86400000000000 := by unfold I64; omega
 unfold pnum
 clear k3 k4
 refine fnG_of Tryz.func33 rfl fun ww => ?_
 refine qF ent27 (zdays_yes (y) (mo) (d) (by assumption)) ?_
 refine qZ ent11 (fzint (dnum y mo d) (by assumption)) fun zq1 => ?_
 refine qZ ent76 (fzday) fun zq2 => ?_
 refine st_g ent34 (fzmul (zq1) (zq2) (dnum y mo d) (86400000000000) (by exact Bits.fit i1.w.bits (by decide)) (by exact Bits.fit i3.w.bits (by decide))) (subC 1 rfl (subC 0 rfl sub0)) (by kernel_rfl) (fun zq3 => ?_)
 refine qF ent83 (fznanos (h) (m) (s) (n) (by assumption)) ?_
 refine qZ ent11 (fzint (tnan h m s n) (by assumption)) fun zq5 => ?_
 refine st_g ent32 (fzadd (zq3) (zq5) (dnum y mo d * 86400000000000) (tnan h m s n) (by exact Bits.fit (Bits.mul i1.w.bits i3.w.bits) (by decide)) (by exact Bits.fit i2.w.bits (by decide))) (subC 1 rfl (subC 0 rfl sub0)) (by kernel_rfl) (fun zq6 => ?_)
 exact st_retG (zq6) Tryz.func33 (subE 0 rfl (by rfl) sub0) (by kernel_rfl)
end
end Go.Proofs.YthoedmikfpbfnaaGreat
end
section
/-
 Durations put to days and to date-times, and what lies between date-times: what the reference answers of layer 19; the laws CalendarAddsDates, CalendarAdds, CalendarBetweens.
-/
set_option linter.unusedVariables false
set_option linter.unusedSimpArgs false
set_option maxRecDepth 100000
namespace Go.Proofs.YthoedmikfpbfnaaGreat
open Go Go.RowKit Go.Ev

section
variable (y m d n T : Int)
theorem zreg_cn (m1 : 1 ≤ m) (m2 : m ≤ 12) (d1 : 1 ≤ d) (k : ¬ dOk y m (cD y m d)) : Fn 135 [] [.int .i64 y, .int .i64 m, .int .i64 d, .int .i64 1] (.tuple #[dv0, .int .i64 4]) := by
 have kc := zmonth y m
 obtain ⟨l, hl⟩ : ∃ l, l = mlen y m := ⟨_, rfl⟩
 have hc : cD y m d = if l < d then l else d := by rw [hl]; rfl
 rw [hc] at k
 rw [← hl] at kc
 by_cases q : l < d
 ·rw [if_pos q] at k
  refine fn_of Tryz.func135 rfl fun ww => ?_
  refine qN 41 (decide (m < 1)) ?_
  refine qN 43 (decide (m > 12)) ?_
  refine qN 45 (decide (d < 1)) ?_
  refine qF ent73 (kc) ?_
  refine qY 50 (decide (d > l)) ?_
  refine qF ent73 (kc) ?_
  refine qF ent162 (zright5_no (y) (m) (l) (by assumption)) ?_
  exact qR Tryz.func135
 ·rw [if_neg q] at k
  refine fn_of Tryz.func135 rfl fun ww => ?_
  refine qN 41 (decide (m < 1)) ?_
  refine qN 43 (decide (m > 12)) ?_
  refine qN 45 (decide (d < 1)) ?_
  refine qF ent73 (kc) ?_
  refine qN 50 (decide (d > l)) ?_
  refine qF ent162 (zright5_no (y) (m) (d) (by assumption)) ?_
  exact qR Tryz.func135
end
section
variable (a b c d h mi s n : Int)
theorem zpart (i : all64 a b c d h mi s n) : FnZ 90 [] [duv a b c d h mi s n] zv (dtot 0 h mi s n) := by
 have t1 : FnZ 132 [] [duv a b c 0 h mi s n] zv (dtot 0 h mi s n) := zutot a b c 0 h mi s n i64_0 i.2.2.2.2.1 i.2.2.2.2.2.1 i.2.2.2.2.2.2.1 i.2.2.2.2.2.2.2
 clear i
 refine fnG_of Tryz.func90 rfl fun ww => ?_
 refine qZ ent132 (t1) fun zq0 => ?_
 exact st_retG (zq0) Tryz.func90 (subE 0 rfl (by rfl) sub0) (by kernel_rfl)
variable (y m D k q o T A B C e : Int)
theorem zmov_e (hl : Fn 134 [] [dv y m D, .int .i64 a, .int .i64 b] (dv (lY T) (lM T) D)) (hr : Fn 135 [] [.int .i64 (lY T), .int .i64 (lM T), .int .i64 D, .int .i64 o] (.tuple #[dv0, .int .i64 e])) (he : e ≠ 0) :
  Fn 91 [] [dv y m D, duv a b c d h mi s n, .int .i64 q, .int .i64 o] (.tuple #[dv0, .int .i64 e]) := by
 refine fn_of Tryz.func91 rfl fun ww => ?_
 refine qF ent134 (hl) ?_
 refine qF ent135 (hr) ?_
 refine qV 31 (show (e != 0) = true by exact bne_iff_ne.2 (by omega)) ?_
 exact qR Tryz.func91
theorem zmov_v (Y M W : Int) (hc : -4294967295 ≤ c ∧ c ≤ 4294967295) (hd : -104249991400 ≤ d ∧ d ≤ 104249991400) (hq : -200000000000 ≤ q ∧ q ≤ 200000000000) (hl : Fn 134 [] [dv y m D, .int .i64 a, .int .i64 b] (dv (lY T) (lM T) D)) (hr : Fn 135 [] [.int .i64 (lY T), .int .i64 (lM T), .int .i64 D, .int .i64 o] (.tuple #[dv Y M W, .int .i64 0])) (ha : Fn 112 [] [dv Y M W, .int .i64 (d + 7 * c + q)] (.tuple #[dv A B C, .int .i64 e])) :
  Fn 91 [] [dv y m D, duv a b c d h mi s n, .int .i64 q, .int .i64 o] (.tuple #[dv A B C, .int .i64 e]) := by
 refine fn_of Tryz.func91 rfl fun ww => ?_
 refine qF ent134 (hl) ?_
 refine qF ent135 (hr) ?_
 refine qI 39 (7 * c) ?_
 refine qI 40 (d + 7 * c) ?_
 refine qI 42 (d + 7 * c + q) ?_
 refine qF ent112 (ha) ?_
 exact qR Tryz.func91
end
end Go.Proofs.YthoedmikfpbfnaaGreat
end
section
/-
 Durations put to date-times, and what lies between date-times: what the reference answers of layer 19; the laws CalendarAdds, CalendarBetweens.
-/
set_option linter.unusedVariables false
set_option linter.unusedSimpArgs false
set_option maxRecDepth 100000
namespace Go.Proofs.YthoedmikfpbfnaaGreat
open Go Go.RowKit Go.Ev

section
variable (y mo D h m s n a b c d hh mi ss nn o A B C e Q R : Int)
theorem zdays_r (k : tOk h m s n) (hb : -9007199254740992000000000 < dtot 0 hh mi ss nn ∧ dtot 0 hh mi ss nn < 9007199254740992000000000) (hQ : (tnan h m s n + dtot 0 hh mi ss nn).fdiv 86400000000000 = Q) (hR : (tnan h m s n + dtot 0 hh mi ss nn).fmod 86400000000000 = R) :
  (∀ p q : ZQ, FnZZ 75 [(p, tnan h m s n + dtot 0 hh mi ss nn), (q, 86400000000000)] [zv p, zv q] (fun q => .tuple #[zv q.1, zv q.2]) Q R) ∧ I64 (tnan h m s n) ∧ W128 (dtot 0 hh mi ss nn) ∧ I64 Q ∧ I64 R ∧ 0 ≤ R ∧ R < 86400000000000 := by
 have b := tnan_bd k
 have e2 : Q * 86400000000000 + R = tnan h m s n + dtot 0 hh mi ss nn ∧ 0 ≤ R ∧ R < 86400000000000 := by rw [← hQ, ← hR]; exact x_split _
 have bx : Bits 1000 (tnan h m s n + dtot 0 hh mi ss nn) := Bits.mono (show W128 (tnan h m s n + dtot 0 hh mi ss nn) by unfold W128; omega).bits (by decide)
 have by_ : Bits 1000 86400000000000 := Bits.mono (show W128 86400000000000 by unfold W128; omega).bits (by decide)
 refine ⟨fun p q => ?_, by unfold I64; omega, by unfold W128; omega, by unfold I64; omega, by unfold I64; omega, e2.2.1, e2.2.2⟩
 have := fzdiv p q _ 86400000000000 bx by_ (by omega)
 rwa [hQ, hR] at this
theorem zad_e (i : all64 a b c d hh mi ss nn) (k1 : pOk y mo D h m s n) (k2 : uOk a b c d hh mi ss nn) (k3 : o = 1 ∨ o = 2) (hQ : (tnan h m s n + dtot 0 hh mi ss nn).fdiv 86400000000000 = Q) (hR : (tnan h m s n + dtot 0 hh mi ss nn).fmod 86400000000000 = R)
  (hm : Fn 91 [] [dv y mo D, duv a b c d hh mi ss nn, .int .i64 Q, .int .i64 o] (.tuple #[dv0, .int .i64 e])) (he : e ≠ 0) : Fn 37 [] [ptv y mo D h m s n, duv a b c d hh mi ss nn, .int .i64 o] (.tuple #[pt0, .int .i64 e]) := by
 have kr1 := zright7_yes y mo D h m s n k1
 have kr2 := zuright_y a b c d hh mi ss nn i k2
 have kr3 := zpart a b c d hh mi ss nn i
 have kr4 := fznanos h m s n k1.2.1
 obtain ⟨kr5, i1, i2, i3, i4, r0, r1⟩ := zdays_r h m s n hh mi ss nn Q R k1.2.1 (uOk_bd k2).2.2.2.2 hQ hR
 have bq : Bits 1000 Q := i3.w.bits.mono (by decide)
 have br : Bits 1000 R := i4.w.bits.mono (by decide)
 clear i k1 k2 hQ hR
 rcases k3 with rfl | rfl
 ·refine fn_of Tryz.func37 rfl fun ww => ?_
  refine qF ent8 (kr1) ?_
  refine qF ent89 (kr2) ?_
  refine qF ent83 (kr4) ?_
  refine qZ ent11 (fzint (tnan h m s n) (by assumption)) fun zq3 => ?_
  refine qZ ent90 (kr3) fun zq4 => ?_
  refine st_g ent32 (fzadd (zq3) (zq4) (tnan h m s n) (dtot 0 hh mi ss nn) (by exact Bits.fit i1.w.bits (by decide)) (by exact Bits.fit i2.bits (by decide))) (subC 1 rfl (subC 0 rfl sub0)) (by kernel_rfl) (fun zq5 => ?_)
  refine qZ ent76 (fzday) fun zq6 => ?_
  refine st_g ent75 (kr5 (zq5) (zq6)) (subC 1 rfl (subC 0 rfl sub0)) (by kernel_rfl) (fun zq7 => ?_)
  refine st_fn ent36 (fits_f (zq7.fst) (Q) (by exact Bits.mono i3.w.bits (by decide)) (by assumption)) (subC 0 rfl sub0) (by kernel_rfl) ?_
  refine st_fn ent36 (fits_f (zq7.snd) (R) (by exact Bits.mono i4.w.bits (by decide)) (by assumption)) (subC 1 rfl sub0) (by kernel_rfl) ?_
  refine qF ent91 (hm) ?_
  refine qV 66 (show (e != 0) = true by exact bne_iff_ne.2 (by omega)) ?_
  exact qR Tryz.func37
 ·refine fn_of Tryz.func37 rfl fun ww => ?_
  refine qF ent8 (kr1) ?_
  refine qF ent89 (kr2) ?_
  refine qF ent83 (kr4) ?_
  refine qZ ent11 (fzint (tnan h m s n) (by assumption)) fun zq3 => ?_
  refine qZ ent90 (kr3) fun zq4 => ?_
  refine st_g ent32 (fzadd (zq3) (zq4) (tnan h m s n) (dtot 0 hh mi ss nn) (by exact Bits.fit i1.w.bits (by decide)) (by exact Bits.fit i2.bits (by decide))) (subC 1 rfl (subC 0 rfl sub0)) (by kernel_rfl) (fun zq5 => ?_)
  refine qZ ent76 (fzday) fun zq6 => ?_
  refine st_g ent75 (kr5 (zq5) (zq6)) (subC 1 rfl (subC 0 rfl sub0)) (by kernel_rfl) (fun zq7 => ?_)
  refine st_fn ent36 (fits_f (zq7.fst) (Q) (by exact Bits.mono i3.w.bits (by decide)) (by assumption)) (subC 0 rfl sub0) (by kernel_rfl) ?_
  refine st_fn ent36 (fits_f (zq7.snd) (R) (by exact Bits.mono i4.w.bits (by decide)) (by assumption)) (subC 1 rfl sub0) (by kernel_rfl) ?_
  refine qF ent91 (hm) ?_
  refine qV 66 (show (e != 0) = true by exact bne_iff_ne.2 (by omega)) ?_
  exact qR Tryz.func37
theorem zad_n (i : all64 a b c d hh mi ss nn) (k1 : pOk y mo D h m s n) (k2 : uOk a b c d hh mi ss nn) (k3 : o = 1 ∨ o = 2) (hQ : (tnan h m s n + dtot 0 hh mi ss nn).fdiv 86400000000000 = Q) (hR : (tnan h m s n + dtot 0 hh mi ss nn).fmod 86400000000000 = R)
  (hm : Fn 91 [] [dv y mo D, duv a b c d hh mi ss nn, .int .i64 Q, .int .i64 o] (.tuple #[dv A B C, .int .i64 0])) (hp : ¬ pOk A B C (tH R) (tM R) (tS R) (tN R)) : Fn 37 [] [ptv y mo D h m s n, duv a b c d hh mi ss nn, .int .i64 o] (.tuple #[pt0, .int .i64 4]) := by
 have kr1 := zright7_yes y mo D h m s n k1
 have kr2 := zuright_y a b c d hh mi ss nn i k2
 have kr3 := zpart a b c d hh mi ss nn i
 have kr4 := fznanos h m s n k1.2.1
 have kr6 := zright7_no _ _ _ _ _ _ _ hp
 obtain ⟨kr5, i1, i2, i3, i4, r0, r1⟩ := zdays_r h m s n hh mi ss nn Q R k1.2.1 (uOk_bd k2).2.2.2.2 hQ hR
 have bq : Bits 1000 Q := i3.w.bits.mono (by decide)
 have br : Bits 1000 R := i4.w.bits.mono (by decide)
 clear i k1 k2 hQ hR hp
 rcases k3 with rfl | rfl
 ·refine fn_of Tryz.func37 rfl fun ww => ?_
  refine qF ent8 (kr1) ?_
  refine qF ent89 (kr2) ?_
  refine qF ent83 (kr4) ?_
  refine qZ ent11 (fzint (tnan h m s n) (by assumption)) fun zq3 => ?_
  refine qZ ent90 (kr3) fun zq4 => ?_
  refine st_g ent32 (fzadd (zq3) (zq4) (tnan h m s n) (dtot 0 hh mi ss nn) (by exact Bits.fit i1.w.bits (by decide)) (by exact Bits.fit i2.bits (by decide))) (subC 1 rfl (subC 0 rfl sub0)) (by kernel_rfl) (fun zq5 => ?_)
  refine qZ ent76 (fzday) fun zq6 => ?_
  refine st_g ent75 (kr5 (zq5) (zq6)) (subC 1 rfl (subC 0 rfl sub0)) (by kernel_rfl) (fun zq7 => ?_)
  refine st_fn ent36 (fits_f (zq7.fst) (Q) (by exact Bits.mono i3.w.bits (by decide)) (by assumption)) (subC 0 rfl sub0) (by kernel_rfl) ?_
  refine st_fn ent36 (fits_f (zq7.snd) (R) (by exact Bits.mono i4.w.bits (by decide)) (by assumption)) (subC 1 rfl sub0) (by kernel_rfl) ?_
  refine qF ent91 (hm) ?_
  refine qF ent78 (fzof (R) (by assumption) (by assumption)) ?_
  refine qF ent8 (kr6) ?_
  exact qR Tryz.func37
 ·refine fn_of Tryz.func37 rfl fun ww => ?_
  refine qF ent8 (kr1) ?_
  refine qF ent89 (kr2) ?_
  refine qF ent83 (kr4) ?_
  refine qZ ent11 (fzint (tnan h m s n) (by assumption)) fun zq3 => ?_
  refine qZ ent90 (kr3) fun zq4 => ?_
  refine st_g ent32 (fzadd (zq3) (zq4) (tnan h m s n) (dtot 0 hh mi ss nn) (by exact Bits.fit i1.w.bits (by decide)) (by exact Bits.fit i2.bits (by decide))) (subC 1 rfl (subC 0 rfl sub0)) (by kernel_rfl) (fun zq5 => ?_)
  refine qZ ent76 (fzday) fun zq6 => ?_
  refine st_g ent75 (kr5 (zq5) (zq6)) (subC 1 rfl (subC 0 rfl sub0)) (by kernel_rfl) (fun zq7 => ?_)
  refine st_fn ent36 (fits_f (zq7.fst) (Q) (by exact Bits.mono i3.w.bits (by decide)) (by assumption)) (subC 0 rfl sub0) (by kernel_rfl) ?_
  refine st_fn ent36 (fits_f (zq7.snd) (R) (by exact Bits.mono i4.w.bits (by decide)) (by assumption)) (subC 1 rfl sub0) (by kernel_rfl) ?_
  refine qF ent91 (hm) ?_
  refine qF ent78 (fzof (R) (by assumption) (by assumption)) ?_
  refine qF ent8 (kr6) ?_
  exact qR Tryz.func37
theorem zad_y (i : all64 a b c d hh mi ss nn) (k1 : pOk y mo D h m s n) (k2 : uOk a b c d hh mi ss nn) (k3 : o = 1 ∨ o = 2) (hQ : (tnan h m s n + dtot 0 hh mi ss nn).fdiv 86400000000000 = Q) (hR : (tnan h m s n + dtot 0 hh mi ss nn).fmod 86400000000000 = R)
  (hm : Fn 91 [] [dv y mo D, duv a b c d hh mi ss nn, .int .i64 Q, .int .i64 o] (.tuple #[dv A B C, .int .i64 0])) (hp : pOk A B C (tH R) (tM R) (tS R) (tN R)) : Fn 37 [] [ptv y mo D h m s n, duv a b c d hh mi ss nn, .int .i64 o] (.tuple #[ptv A B C (tH R) (tM R) (tS R) (tN R), .int .i64 0]) := by
 have kr1 := zright7_yes y mo D h m s n k1
 have kr2 := zuright_y a b c d hh mi ss nn i k2
 have kr3 := zpart a b c d hh mi ss nn i
 have kr4 := fznanos h m s n k1.2.1
 have kr6 := zright7_yes _ _ _ _ _ _ _ hp
 obtain ⟨kr5, i1, i2, i3, i4, r0, r1⟩ := zdays_r h m s n hh mi ss nn Q R k1.2.1 (uOk_bd k2).2.2.2.2 hQ hR
 have bq : Bits 1000 Q := i3.w.bits.mono (by decide)
 have br : Bits 1000 R := i4.w.bits.mono (by decide)
 clear i k1 k2 hQ hR hp
 rcases k3 with rfl | rfl
 ·refine fn_of Tryz.func37 rfl fun ww => ?_
  refine qF ent8 (kr1) ?_
  refine qF ent89 (kr2) ?_
  refine qF ent83 (kr4) ?_
  refine qZ ent11 (fzint (tnan h m s n) (by assumption)) fun zq3 => ?_
  refine qZ ent90 (kr3) fun zq4 => ?_
  refine st_g ent32 (fzadd (zq3) (zq4) (tnan h m s n) (dtot 0 hh mi ss nn) (by exact Bits.fit i1.w.bits (by decide)) (by exact Bits.fit i2.bits (by decide))) (subC 1 rfl (subC 0 rfl sub0)) (by kernel_rfl) (fun zq5 => ?_)
  refine qZ ent76 (fzday) fun zq6 => ?_
  refine st_g ent75 (kr5 (zq5) (zq6)) (subC 1 rfl (subC 0 rfl sub0)) (by kernel_rfl) (fun zq7 => ?_)
  refine st_fn ent36 (fits_f (zq7.fst) (Q) (by exact Bits.mono i3.w.bits (by decide)) (by assumption)) (subC 0 rfl sub0) (by kernel_rfl) ?_
  refine st_fn ent36 (fits_f (zq7.snd) (R) (by exact Bits.mono i4.w.bits (by decide)) (by assumption)) (subC 1 rfl sub0) (by kernel_rfl) ?_
  refine qF ent91 (hm) ?_
  refine qF ent78 (fzof (R) (by assumption) (by assumption)) ?_
  refine qF ent8 (kr6) ?_
  exact qR Tryz.func37
 ·refine fn_of Tryz.func37 rfl fun ww => ?_
  refine qF ent8 (kr1) ?_
  refine qF ent89 (kr2) ?_
  refine qF ent83 (kr4) ?_
  refine qZ ent11 (fzint (tnan h m s n) (by assumption)) fun zq3 => ?_
  refine qZ ent90 (kr3) fun zq4 => ?_
  refine st_g ent32 (fzadd (zq3) (zq4) (tnan h m s n) (dtot 0 hh mi ss nn) (by exact Bits.fit i1.w.bits (by decide)) (by exact Bits.fit i2.bits (by decide))) (subC 1 rfl (subC 0 rfl sub0)) (by kernel_rfl) (fun zq5 => ?_)
  refine qZ ent76 (fzday) fun zq6 => ?_
  refine st_g ent75 (kr5 (zq5) (zq6)) (subC 1 rfl (subC 0 rfl sub0)) (by kernel_rfl) (fun zq7 => ?_)
  refine st_fn ent36 (fits_f (zq7.fst) (Q) (by exact Bits.mono i3.w.bits (by decide)) (by assumption)) (subC 0 rfl sub0) (by kernel_rfl) ?_
  refine st_fn ent36 (fits_f (zq7.snd) (R) (by exact Bits.mono i4.w.bits (by decide)) (by assumption)) (subC 1 rfl sub0) (by kernel_rfl) ?_
  refine qF ent91 (hm) ?_
  refine qF ent78 (fzof (R) (by assumption) (by assumption)) ?_
  refine qF ent8 (kr6) ?_
  exact qR Tryz.func37
variable (E F G : Int)
end
section
variable (y mo d h m s n y' mo' d' h' m' s' n' L : Int)
variable (A B C D H M S N e : Int)
theorem zbet_n (k : pOk y mo d h m s n) (k' : pOk y' mo' d' h' m' s' n') (l1 : 1 ≤ L) (l2 : L ≤ 4) (v z : Int) (hv : v = -1 ∨ v = 0 ∨ v = 1) (ev : cmp3 y' mo' d' y mo d = v) (ez : tnan h' m' s' n' - tnan h m s n = z) (hz : ¬ z * v < 0) (F1 F2 F3 F4 e' : Int)
  (hu : Fn 113 [] [dv y mo d, dv y' mo' d', .int .i64 L] (.tuple #[duv A B C D 0 0 0 0, .int .i64 e])) (hl : ∀ p : ZQ, Fn 110 [(p, z)] [zv p, .int .i64 5] (.tuple #[duv F1 F2 F3 F4 H M S N, .int .i64 e'])) :
  Fn 54 [] [ptv y mo d h m s n, ptv y' mo' d' h' m' s' n', .int .i64 L] (.tuple #[duv A B C D H M S N, .int .i64 e]) := by
 have kr1 := zright7_yes y mo d h m s n k
 have kr2 := zright7_yes y' mo' d' h' m' s' n' k'
 have kn1 := fznanos h m s n k.2.1
 have kn2 := fznanos h' m' s' n' k'.2.1
 have b1 := tnan_bd k.2.1
 have b2 := tnan_bd k'.2.1
 have cc := zcmp5 y' mo' d' y mo d
 rw [ev] at cc
 generalize tnan h m s n = t at *
 generalize tnan h' m' s' n' = t' at *
 have iz : I64 z := by unfold I64; omega
 clear k k' ev
 rcases hv with rfl | rfl | rfl
 ·have hz' : z ≤ 0 := by omega
  clear hz
  refine fn_of Tryz.func54 rfl fun ww => ?_
  refine qF ent8 (kr1) ?_
  refine qF ent8 (kr2) ?_
  refine qN 25 (decide (L < 1)) ?_
  refine qN 29 (decide (L > 8)) ?_
  refine qN 33 (decide (L > 4)) ?_
  refine qF ent83 (kn2) ?_
  refine qF ent83 (kn1) ?_
  refine st_i 49 IntKind.i64 (x := IntKind.i64.wrap (t' - t)) ((Go.IntWalk.i64_in (t' - t) (by omega)).trans (ez)) (by kernel_rfl) ?_
  refine qF ent111 (cc) ?_
  refine qN 74 (decide (z > 0)) ?_
  refine qF ent113 (hu) ?_
  refine qZ ent11 (fzint (z) (by assumption)) fun zq6 => ?_
  refine st_fn ent110 (hl (zq6)) (subC 0 rfl sub0) (by kernel_rfl) ?_
  exact qR Tryz.func54
 ·clear hz
  refine fn_of Tryz.func54 rfl fun ww => ?_
  refine qF ent8 (kr1) ?_
  refine qF ent8 (kr2) ?_
  refine qN 25 (decide (L < 1)) ?_
  refine qN 29 (decide (L > 8)) ?_
  refine qN 33 (decide (L > 4)) ?_
  refine qF ent83 (kn2) ?_
  refine qF ent83 (kn1) ?_
  refine st_i 49 IntKind.i64 (x := IntKind.i64.wrap (t' - t)) ((Go.IntWalk.i64_in (t' - t) (by omega)).trans (ez)) (by kernel_rfl) ?_
  refine qF ent111 (cc) ?_
  refine qF ent113 (hu) ?_
  refine qZ ent11 (fzint (z) (by assumption)) fun zq6 => ?_
  refine st_fn ent110 (hl (zq6)) (subC 0 rfl sub0) (by kernel_rfl) ?_
  exact qR Tryz.func54
 ·have hz' : 0 ≤ z := by omega
  clear hz
  refine fn_of Tryz.func54 rfl fun ww => ?_
  refine qF ent8 (kr1) ?_
  refine qF ent8 (kr2) ?_
  refine qN 25 (decide (L < 1)) ?_
  refine qN 29 (decide (L > 8)) ?_
  refine qN 33 (decide (L > 4)) ?_
  refine qF ent83 (kn2) ?_
  refine qF ent83 (kn1) ?_
  refine st_i 49 IntKind.i64 (x := IntKind.i64.wrap (t' - t)) ((Go.IntWalk.i64_in (t' - t) (by omega)).trans (ez)) (by kernel_rfl) ?_
  refine qF ent111 (cc) ?_
  refine qN 61 (decide (z < 0)) ?_
  refine qF ent113 (hu) ?_
  refine qZ ent11 (fzint (z) (by assumption)) fun zq6 => ?_
  refine st_fn ent110 (hl (zq6)) (subC 0 rfl sub0) (by kernel_rfl) ?_
  exact qR Tryz.func54
theorem zbet_s (k : pOk y mo d h m s n) (k' : pOk y' mo' d' h' m' s' n') (l1 : 1 ≤ L) (l2 : L ≤ 4) (v z : Int) (hv : v = -1 ∨ v = 1) (ev : cmp3 y' mo' d' y mo d = v) (ez : tnan h' m' s' n' - tnan h m s n = z) (hz : z * v < 0) (Y X W F1 F2 F3 F4 e' : Int)
  (hd : Fn 112 [] [dv y' mo' d', .int .i64 (-v)] (.tuple #[dv Y X W, .int .i64 0]))
  (hu : Fn 113 [] [dv y mo d, dv Y X W, .int .i64 L] (.tuple #[duv A B C D 0 0 0 0, .int .i64 e])) (hl : ∀ p : ZQ, Fn 110 [(p, z + v * 86400000000000)] [zv p, .int .i64 5] (.tuple #[duv F1 F2 F3 F4 H M S N, .int .i64 e'])) :
  Fn 54 [] [ptv y mo d h m s n, ptv y' mo' d' h' m' s' n', .int .i64 L] (.tuple #[duv A B C D H M S N, .int .i64 e]) := by
 have kr1 := zright7_yes y mo d h m s n k
 have kr2 := zright7_yes y' mo' d' h' m' s' n' k'
 have kn1 := fznanos h m s n k.2.1
 have kn2 := fznanos h' m' s' n' k'.2.1
 have b1 := tnan_bd k.2.1
 have b2 := tnan_bd k'.2.1
 have cc := zcmp5 y' mo' d' y mo d
 rw [ev] at cc
 generalize tnan h m s n = t at *
 generalize tnan h' m' s' n' = t' at *
 clear k k' ev
 rcases hv with rfl | rfl
 ·have hz' : 0 < z := by omega
  have iz : I64 (z - 86400000000000) := by unfold I64; omega
  rw [show z + -1 * 86400000000000 = z - 86400000000000 by omega] at hl
  rw [show -(-1 : Int) = 1 by omega] at hd
  clear hz
  refine fn_of Tryz.func54 rfl fun ww => ?_
  refine qF ent8 (kr1) ?_
  refine qF ent8 (kr2) ?_
  refine qN 25 (decide (L < 1)) ?_
  refine qN 29 (decide (L > 8)) ?_
  refine qN 33 (decide (L > 4)) ?_
  refine qF ent83 (kn2) ?_
  refine qF ent83 (kn1) ?_
  refine st_i 49 IntKind.i64 (x := IntKind.i64.wrap (t' - t)) ((Go.IntWalk.i64_in (t' - t) (by omega)).trans (ez)) (by kernel_rfl) ?_
  refine qF ent111 (cc) ?_
  refine qY 74 (decide (z > 0)) ?_
  refine qF ent112 (hd) ?_
  refine qI 82 (z - 86400000000000) ?_
  refine qF ent113 (hu) ?_
  refine qZ ent11 (fzint (z - 86400000000000) (by assumption)) fun zq7 => ?_
  refine st_fn ent110 (hl (zq7)) (subC 0 rfl sub0) (by kernel_rfl) ?_
  exact qR Tryz.func54
 ·have hz' : z < 0 := by omega
  have iz : I64 (z + 86400000000000) := by unfold I64; omega
  rw [show z + 1 * 86400000000000 = z + 86400000000000 by omega] at hl
  clear hz
  refine fn_of Tryz.func54 rfl fun ww => ?_
  refine qF ent8 (kr1) ?_
  refine qF ent8 (kr2) ?_
  refine qN 25 (decide (L < 1)) ?_
  refine qN 29 (decide (L > 8)) ?_
  refine qN 33 (decide (L > 4)) ?_
  refine qF ent83 (kn2) ?_
  refine qF ent83 (kn1) ?_
  refine st_i 49 IntKind.i64 (x := IntKind.i64.wrap (t' - t)) ((Go.IntWalk.i64_in (t' - t) (by omega)).trans (ez)) (by kernel_rfl) ?_
  refine qF ent111 (cc) ?_
  refine qY 61 (decide (z < 0)) ?_
  refine qF ent112 (hd) ?_
  refine qI 69 (z + 86400000000000) ?_
  refine qF ent113 (hu) ?_
  refine qZ ent11 (fzint (z + 86400000000000) (by assumption)) fun zq7 => ?_
  refine st_fn ent110 (hl (zq7)) (subC 0 rfl sub0) (by kernel_rfl) ?_
  exact qR Tryz.func54
theorem zbet (E Z : Int) (k : pOk y mo d h m s n) (k' : pOk y' mo' d' h' m' s' n') (l1 : 1 ≤ L) (l2 : L ≤ 4) (hE : bD y mo d h m s n y' mo' d' h' m' s' n' = E) (hZ : bZ y mo d h m s n y' mo' d' h' m' s' n' = Z) :
  Fn 54 [] [ptv y mo d h m s n, ptv y' mo' d' h' m' s' n', .int .i64 L] (.tuple #[duv (uY L y mo d (dY E) (dM E) (dD E)) (uMo L y mo d (dY E) (dM E) (dD E)) (uW L y mo d (dY E) (dM E) (dD E)) (uD L y mo d (dY E) (dM E) (dD E)) (l5 5 Z) (l6 5 Z) (l7 5 Z) (l8 5 Z), .int .i64 0]) := by
 obtain ⟨i1, i2, -⟩ := bt_in k k'
 obtain ⟨d1, d2⟩ := bt_date k k'
 rw [hE] at i1 d1 d2
 rw [hZ] at i2
 have la := fun p : ZQ => zulay_y 5 Z p (by unfold W128; omega) (lay5_ok i2)
 unfold bD at hE
 unfold bZ at hZ
 by_cases c : (tnan h' m' s' n' - tnan h m s n) * uS y mo d y' mo' d' < 0
 ·have hX : bX y mo d h m s n y' mo' d' h' m' s' n' = uS y mo d y' mo' d' := if_pos c
  rw [hX] at hE hZ
  have hv : uS y mo d y' mo' d' = -1 ∨ uS y mo d y' mo' d' = 1 := by
   rcases cmp3_tri y' mo' d' y mo d with q | q | q
   ·exact .inl q
   ·have q' : uS y mo d y' mo' d' = 0 := q
    rw [q'] at c; omega
   ·exact .inr q
  have ad := zaddd_yes y' mo' d' (-(uS y mo d y' mo' d')) k'.1 (by omega) (by omega)
  rw [show dnum y' mo' d' + -(uS y mo d y' mo' d') = E by omega] at ad
  rw [← hZ] at la
  have := zbet_s y mo d h m s n y' mo' d' h' m' s' n' L _ _ _ _ _ _ _ _ 0 k k' l1 l2 (uS y mo d y' mo' d') (tnan h' m' s' n' - tnan h m s n) hv rfl rfl c (dY E) (dM E) (dD E) _ _ _ _ 0 ad (zunt L y mo d (dY E) (dM E) (dD E) k.1 d1 l1 l2) la
  rw [hZ] at this
  exact this
 ·have hX : bX y mo d h m s n y' mo' d' h' m' s' n' = 0 := if_neg c
  rw [hX] at hE hZ
  obtain rfl : E = dnum y' mo' d' := by omega
  have z' : tnan h' m' s' n' - tnan h m s n = Z := by omega
  have hv : uS y mo d y' mo' d' = -1 ∨ uS y mo d y' mo' d' = 0 ∨ uS y mo d y' mo' d' = 1 := cmp3_tri y' mo' d' y mo d
  rw [z'] at c
  rw [(date_of k'.1.1).1, (date_of k'.1.1).2.1, (date_of k'.1.1).2.2]
  exact zbet_n y mo d h m s n y' mo' d' h' m' s' n' L _ _ _ _ _ _ _ _ 0 k k' l1 l2 (uS y mo d y' mo' d') Z hv rfl z' c _ _ _ _ 0 (zunt L y mo d y' mo' d' k.1 k'.1 l1 l2) la
end
end Go.Proofs.YthoedmikfpbfnaaGreat
end
section
/-
 So many units from a date-time: what the reference answers of layer 20; the law RelativeMoves.
-/
set_option linter.unusedVariables false
set_option linter.unusedSimpArgs false
set_option maxRecDepth 100000
namespace Go.Proofs.YthoedmikfpbfnaaGreat
open Go Go.RowKit Go.Ev

abbrev zz0 : Value := .agg #[.bool false, .slice none 0 0]
section
variable (y mo d h m s nn n u A B C H M S N e : Int) (p : ZQ)
theorem zrlen (l1 : 3 ≤ u) (l2 : u ≤ 8) : FnZ 35 [] [.int .i64 u] zv (rlen u) := by
 by_cases q : u = 3
 ·subst q
  have i1 : I64 604800000000000 := by unfold I64; omega
  show FnZ _ _ _ zv 604800000000000
  refine fnG_of Tryz.func35 rfl fun ww => ?_
  refine qZ ent11 (fzint (604800000000000) (by assumption)) fun zq0 => ?_
  exact st_retG (zq0) Tryz.func35 (subE 0 rfl (by rfl) sub0) (by kernel_rfl)
 ·have e : rlen u = ulen u := if_neg q
  have i1 : I64 (ulen u) := by have := ulen_pos (show 4 ≤ u by omega) l2; unfold I64; omega
  rw [e]
  refine fnG_of Tryz.func35 rfl fun ww => ?_
  refine qN 4 (u == 3) ?_
  refine qF ent85 (zulen_fn (u)) ?_
  refine qZ ent11 (fzint (ulen u) (by assumption)) fun zq1 => ?_
  exact st_retG (zq1) Tryz.func35 (subE 0 rfl (by rfl) sub0) (by kernel_rfl)
theorem zmv_1 (r : -4294967295 ≤ n ∧ n ≤ 4294967295) (ha : Fn 37 [] [ptv y mo d h m s nn, duv n 0 0 0 0 0 0 0, .int .i64 1] (.tuple #[ptv A B C H M S N, .int .i64 e])) : Fn 10 [(p, n)] [ptv y mo d h m s nn, zv p, .int .i64 1] (.tuple #[ptv A B C H M S N, .int .i64 e]) := by
 have hn : I64 n := by unfold I64; omega
 have b1 : Bits 1000 n := hn.w.bits.mono (by decide)
 refine fn_of Tryz.func10 rfl fun ww => ?_
 refine st_fn ent36 (fits_f (p) (n) (by exact Bits.mono hn.w.bits (by decide)) (by assumption)) (subC 0 rfl sub0) (by kernel_rfl) ?_
 refine qN 39 (decide (n > 4294967295)) ?_
 refine qN 43 (decide (n < -4294967295)) ?_
 refine qF ent37 (ha) ?_
 exact qR Tryz.func10
theorem zmv_2 (r : -4294967295 ≤ n ∧ n ≤ 4294967295) (ha : Fn 37 [] [ptv y mo d h m s nn, duv 0 n 0 0 0 0 0 0, .int .i64 1] (.tuple #[ptv A B C H M S N, .int .i64 e])) : Fn 10 [(p, n)] [ptv y mo d h m s nn, zv p, .int .i64 2] (.tuple #[ptv A B C H M S N, .int .i64 e]) := by
 have hn : I64 n := by unfold I64; omega
 have b1 : Bits 1000 n := hn.w.bits.mono (by decide)
 refine fn_of Tryz.func10 rfl fun ww => ?_
 refine st_fn ent36 (fits_f (p) (n) (by exact Bits.mono hn.w.bits (by decide)) (by assumption)) (subC 0 rfl sub0) (by kernel_rfl) ?_
 refine qN 39 (decide (n > 4294967295)) ?_
 refine qN 43 (decide (n < -4294967295)) ?_
 refine qF ent37 (ha) ?_
 exact qR Tryz.func10
end
end Go.Proofs.YthoedmikfpbfnaaGreat
end
section
/-
 How many units lie between two date-times: what the reference answers of layer 20.
-/
set_option linter.unusedVariables false
set_option linter.unusedSimpArgs false
set_option maxRecDepth 100000
namespace Go.Proofs.YthoedmikfpbfnaaGreat
open Go Go.RowKit Go.Ev

abbrev zzv (q : ZQ × ZQ) : Value := .tuple #[zv q.1, zv q.2, .int .i64 0]
theorem fzlowest (p q : ZQ) (x y : Int) (hx : Bits 1000 x) (hy : Bits 1000 y) (h0 : y ≠ 0) : FnZZ 46 [(p, x), (q, y)] [zv p, zv q] (fun q => .tuple #[zv q.1, zv q.2]) (frP x y) (frQ x y) := fun w h => (zlowest 1000 (by omega) _ _ _ _ _ _ _ _ x y w (two_z h).1 (two_z h).2 hx hy h0).mono fun _ _ => zretZ
section
variable (y mo d h m s nn y' mo' d' h' m' s' n' u A B C D H M S N v c f1 f2 f3 f4 f5 f6 f7 t1 t2 t3 t4 t5 t6 t7 e : Int)
theorem ztot_a (k : ¬ (pOk y mo d h m s nn ∧ pOk y' mo' d' h' m' s' n' ∧ 1 ≤ u ∧ u ≤ 8)) : Fn 45 [] [ptv y mo d h m s nn, ptv y' mo' d' h' m' s' n', .int .i64 u] (.tuple #[zz0, zz0, .int .i64 1]) := by
 by_cases k1 : pOk y mo d h m s nn
 ·have kr1 := zright7_yes y mo d h m s nn k1
  by_cases k2 : pOk y' mo' d' h' m' s' n'
  ·have kr2 := zright7_yes y' mo' d' h' m' s' n' k2
   by_cases l : u < 1
   ·clear k k1 k2
    refine fn_of Tryz.func45 rfl fun ww => ?_
    refine qF ent8 (kr1) ?_
    refine qF ent8 (kr2) ?_
    refine qY 30 (decide (u < 1)) ?_
    exact qR Tryz.func45
   ·have l2 : 8 < u := by
     rcases Int.lt_or_le 8 u with q | q
     ·exact q
     ·exact absurd ⟨k1, k2, by omega, q⟩ k
    clear k k1 k2
    refine fn_of Tryz.func45 rfl fun ww => ?_
    refine qF ent8 (kr1) ?_
    refine qF ent8 (kr2) ?_
    refine qN 30 (decide (u < 1)) ?_
    refine qY 34 (decide (u > 8)) ?_
    exact qR Tryz.func45
  ·have kr2 := zright7_no y' mo' d' h' m' s' n' k2
   clear k k1 k2
   refine fn_of Tryz.func45 rfl fun ww => ?_
   refine qF ent8 (kr1) ?_
   refine qF ent8 (kr2) ?_
   exact qR Tryz.func45
 ·have kr1 := zright7_no y mo d h m s nn k1
  clear k k1
  refine fn_of Tryz.func45 rfl fun ww => ?_
  refine qF ent8 (kr1) ?_
  exact qR Tryz.func45
theorem ztot_d (W : Int) (k : pOk y mo d h m s nn) (k' : pOk y' mo' d' h' m' s' n') (l1 : 3 ≤ u) (l2 : u ≤ 8) (hW : pnum y' mo' d' h' m' s' n' - pnum y mo d h m s nn = W) : FnG 45 [] [ptv y mo d h m s nn, ptv y' mo' d' h' m' s' n', .int .i64 u] zzv (fun q => [(q.1, W), (q.2, rlen u)]) := by
 subst hW
 have kr1 := zright7_yes y mo d h m s nn k
 have kr2 := zright7_yes y' mo' d' h' m' s' n' k'
 have kn1 := znanos7 y mo d h m s nn k
 have kn2 := znanos7 y' mo' d' h' m' s' n' k'
 have w1 : W128 (pnum y mo d h m s nn) := by have := pOk_in k; unfold pIn at this; unfold W128; omega
 have w2 : W128 (pnum y' mo' d' h' m' s' n') := by have := pOk_in k'; unfold pIn at this; unfold W128; omega
 generalize pnum y mo d h m s nn = p1 at *
 generalize pnum y' mo' d' h' m' s' n' = p2 at *
 clear k k'
 refine fnG_of Tryz.func45 rfl fun ww => ?_
 refine qF ent8 (kr1) ?_
 refine qF ent8 (kr2) ?_
 refine qN 30 (decide (u < 1)) ?_
 refine qN 34 (decide (u > 8)) ?_
 refine qZ ent33 (kn2) fun zq2 => ?_
 refine qZ ent33 (kn1) fun zq3 => ?_
 refine st_g ent38 (fzsub (zq2) (zq3) (p2) (p1) (by exact Bits.fit w2.bits (by decide)) (by exact Bits.fit w1.bits (by decide))) (subC 1 rfl (subC 0 rfl sub0)) (by kernel_rfl) (fun zq4 => ?_)
 refine qY 44 (decide (u > 2)) ?_
 refine qZ ent35 (zrlen (u) (by assumption) (by assumption)) fun zq5 => ?_
 exact st_retG ((zq4, zq5)) Tryz.func45 (subE 1 rfl (by rfl) (subE 0 rfl (by rfl) sub0)) (by kernel_rfl)
theorem ztot_0 (hu : u = 1 ∨ u = 2) (k : pOk y mo d h m s nn) (k' : pOk y' mo' d' h' m' s' n') (hW : pnum y' mo' d' h' m' s' n' - pnum y mo d h m s nn = 0) : FnG 45 [] [ptv y mo d h m s nn, ptv y' mo' d' h' m' s' n', .int .i64 u] zzv (fun q => [(q.1, 0), (q.2, 1)]) := by
 have kr1 := zright7_yes y mo d h m s nn k
 have kr2 := zright7_yes y' mo' d' h' m' s' n' k'
 have kn1 := znanos7 y mo d h m s nn k
 have kn2 := znanos7 y' mo' d' h' m' s' n' k'
 have w1 : W128 (pnum y mo d h m s nn) := by have := pOk_in k; unfold pIn at this; unfold W128; omega
 have w2 : W128 (pnum y' mo' d' h' m' s' n') := by have := pOk_in k'; unfold pIn at this; unfold W128; omega
 generalize pnum y mo d h m s nn = p1 at *
 generalize pnum y' mo' d' h' m' s' n' = p2 at *
 have kr3 : ∀ p : ZQ, Fn 103 [(p, p2 - p1)] [zv p] (.int .i64 0) := fun p => by
  have := fzsign p (p2 - p1) (Bits.fit (Bits.sub w2.bits w1.bits) (by decide)); rwa [hW] at this ⊢
 have i1 : I64 1 := by unfold I64; omega
 clear k k' hW
 rcases hu with rfl | rfl
 ·refine fnG_of Tryz.func45 rfl fun ww => ?_
  refine st_zero ?_
  refine qF ent8 (kr1) ?_
  refine qF ent8 (kr2) ?_
  refine qZ ent33 (kn2) fun zq2 => ?_
  refine qZ ent33 (kn1) fun zq3 => ?_
  refine st_g ent38 (fzsub (zq2) (zq3) (p2) (p1) (by exact Bits.fit w2.bits (by decide)) (by exact Bits.fit w1.bits (by decide))) (subC 1 rfl (subC 0 rfl sub0)) (by kernel_rfl) (fun zq4 => ?_)
  refine st_fn ent103 (kr3 (zq4)) (subC 0 rfl sub0) (by kernel_rfl) ?_
  refine qZ ent11 (fzint (1) (by assumption)) fun zq6 => ?_
  exact st_retG ((⟨false, none, 0, 0⟩, zq6) : ZQ × ZQ) Tryz.func45 (subE 4 rfl (by rfl) (subE 0 rfl (by rfl) sub0)) (by kernel_rfl)
 ·refine fnG_of Tryz.func45 rfl fun ww => ?_
  refine st_zero ?_
  refine qF ent8 (kr1) ?_
  refine qF ent8 (kr2) ?_
  refine qZ ent33 (kn2) fun zq2 => ?_
  refine qZ ent33 (kn1) fun zq3 => ?_
  refine st_g ent38 (fzsub (zq2) (zq3) (p2) (p1) (by exact Bits.fit w2.bits (by decide)) (by exact Bits.fit w1.bits (by decide))) (subC 1 rfl (subC 0 rfl sub0)) (by kernel_rfl) (fun zq4 => ?_)
  refine st_fn ent103 (kr3 (zq4)) (subC 0 rfl sub0) (by kernel_rfl) ?_
  refine qZ ent11 (fzint (1) (by assumption)) fun zq6 => ?_
  exact st_retG ((⟨false, none, 0, 0⟩, zq6) : ZQ × ZQ) Tryz.func45 (subE 4 rfl (by rfl) (subE 0 rfl (by rfl) sub0)) (by kernel_rfl)
theorem ztot_e (hu : u = 1 ∧ c = A ∨ u = 2 ∧ c = B) (k : pOk y mo d h m s nn) (k' : pOk y' mo' d' h' m' s' n') (hv : v = 1 ∨ v = -1) (ev : cmpI (pnum y' mo' d' h' m' s' n' - pnum y mo d h m s nn) 0 = v) (hc : -9000000 ≤ c ∧ c ≤ 9000000) (e0 q : Int)
  (kb : Fn 54 [] [ptv y mo d h m s nn, ptv y' mo' d' h' m' s' n', .int .i64 u] (.tuple #[duv A B C D H M S N, .int .i64 e0]))
  (km1 : ∀ p : ZQ, Fn 10 [(p, c)] [ptv y mo d h m s nn, zv p, .int .i64 u] (.tuple #[ptv f1 f2 f3 f4 f5 f6 f7, .int .i64 q])) (km2 : ∀ p : ZQ, Fn 10 [(p, c + v)] [ptv y mo d h m s nn, zv p, .int .i64 u] (.tuple #[ptv t1 t2 t3 t4 t5 t6 t7, .int .i64 e])) (he : e ≠ 0) :
  Fn 45 [] [ptv y mo d h m s nn, ptv y' mo' d' h' m' s' n', .int .i64 u] (.tuple #[zz0, zz0, .int .i64 e]) := by
 have kr1 := zright7_yes y mo d h m s nn k
 have kr2 := zright7_yes y' mo' d' h' m' s' n' k'
 have kn1 := znanos7 y mo d h m s nn k
 have kn2 := znanos7 y' mo' d' h' m' s' n' k'
 have w1 : W128 (pnum y mo d h m s nn) := by have := pOk_in k; unfold pIn at this; unfold W128; omega
 have w2 : W128 (pnum y' mo' d' h' m' s' n') := by have := pOk_in k'; unfold pIn at this; unfold W128; omega
 generalize pnum y mo d h m s nn = p1 at *
 generalize pnum y' mo' d' h' m' s' n' = p2 at *
 have kr3 : ∀ p : ZQ, Fn 103 [(p, p2 - p1)] [zv p] (.int .i64 v) := fun p => by
  have := fzsign p (p2 - p1) (Bits.fit (Bits.sub w2.bits w1.bits) (by decide)); rwa [ev] at this
 have i1 : I64 c := by unfold I64; omega
 have i2 : I64 (c + v) := by unfold I64; omega
 have hv0 : v ≠ 0 := by omega
 clear k k' ev
 rcases hu with ⟨rfl, rfl⟩ | ⟨rfl, rfl⟩
 ·refine fn_of Tryz.func45 rfl fun ww => ?_
  refine qF ent8 (kr1) ?_
  refine qF ent8 (kr2) ?_
  refine qZ ent33 (kn2) fun zq2 => ?_
  refine qZ ent33 (kn1) fun zq3 => ?_
  refine st_g ent38 (fzsub (zq2) (zq3) (p2) (p1) (by exact Bits.fit w2.bits (by decide)) (by exact Bits.fit w1.bits (by decide))) (subC 1 rfl (subC 0 rfl sub0)) (by kernel_rfl) (fun zq4 => ?_)
  refine st_fn ent103 (kr3 (zq4)) (subC 0 rfl sub0) (by kernel_rfl) ?_
  refine qN 51 (v == 0) ?_
  refine qF ent54 (kb) ?_
  refine qZ ent11 (fzint (c) (by assumption)) fun zq7 => ?_
  refine st_fn ent10 (km1 (zq7)) (subC 0 rfl sub0) (by kernel_rfl) ?_
  refine qI 79 (c + v) ?_
  refine qZ ent11 (fzint (c + v) (by assumption)) fun zq9 => ?_
  refine st_fn ent10 (km2 (zq9)) (subC 0 rfl sub0) (by kernel_rfl) ?_
  refine qV 86 (show (e != 0) = true by exact bne_iff_ne.2 (by omega)) ?_
  exact qR Tryz.func45
 ·refine fn_of Tryz.func45 rfl fun ww => ?_
  refine qF ent8 (kr1) ?_
  refine qF ent8 (kr2) ?_
  refine qZ ent33 (kn2) fun zq2 => ?_
  refine qZ ent33 (kn1) fun zq3 => ?_
  refine st_g ent38 (fzsub (zq2) (zq3) (p2) (p1) (by exact Bits.fit w2.bits (by decide)) (by exact Bits.fit w1.bits (by decide))) (subC 1 rfl (subC 0 rfl sub0)) (by kernel_rfl) (fun zq4 => ?_)
  refine st_fn ent103 (kr3 (zq4)) (subC 0 rfl sub0) (by kernel_rfl) ?_
  refine qN 51 (v == 0) ?_
  refine qF ent54 (kb) ?_
  refine qZ ent11 (fzint (c) (by assumption)) fun zq7 => ?_
  refine st_fn ent10 (km1 (zq7)) (subC 0 rfl sub0) (by kernel_rfl) ?_
  refine qI 79 (c + v) ?_
  refine qZ ent11 (fzint (c + v) (by assumption)) fun zq9 => ?_
  refine st_fn ent10 (km2 (zq9)) (subC 0 rfl sub0) (by kernel_rfl) ?_
  refine qV 86 (show (e != 0) = true by exact bne_iff_ne.2 (by omega)) ?_
  exact qR Tryz.func45
theorem ztot_p (hu : u = 1 ∧ c = A ∨ u = 2 ∧ c = B) (k : pOk y mo d h m s nn) (k' : pOk y' mo' d' h' m' s' n') (ev : cmpI (pnum y' mo' d' h' m' s' n' - pnum y mo d h m s nn) 0 = 1) (hc : -9000000 ≤ c ∧ c ≤ 9000000) (e0 : Int)
  (kb : Fn 54 [] [ptv y mo d h m s nn, ptv y' mo' d' h' m' s' n', .int .i64 u] (.tuple #[duv A B C D H M S N, .int .i64 e0]))
  (kf : pOk f1 f2 f3 f4 f5 f6 f7) (kt : pOk t1 t2 t3 t4 t5 t6 t7) (km1 : ∀ p : ZQ, Fn 10 [(p, c)] [ptv y mo d h m s nn, zv p, .int .i64 u] (.tuple #[ptv f1 f2 f3 f4 f5 f6 f7, .int .i64 0])) (km2 : ∀ p : ZQ, Fn 10 [(p, c + 1)] [ptv y mo d h m s nn, zv p, .int .i64 u] (.tuple #[ptv t1 t2 t3 t4 t5 t6 t7, .int .i64 0]))
  (hd : 0 < pnum t1 t2 t3 t4 t5 t6 t7 - pnum f1 f2 f3 f4 f5 f6 f7) :
  FnG 45 [] [ptv y mo d h m s nn, ptv y' mo' d' h' m' s' n', .int .i64 u] zzv (fun q => [(q.1, c * (pnum t1 t2 t3 t4 t5 t6 t7 - pnum f1 f2 f3 f4 f5 f6 f7) + 1 * (pnum y' mo' d' h' m' s' n' - pnum f1 f2 f3 f4 f5 f6 f7)), (q.2, pnum t1 t2 t3 t4 t5 t6 t7 - pnum f1 f2 f3 f4 f5 f6 f7)]) := by
 have kr1 := zright7_yes y mo d h m s nn k
 have kr2 := zright7_yes y' mo' d' h' m' s' n' k'
 have kn1 := znanos7 y mo d h m s nn k
 have kn2 := znanos7 y' mo' d' h' m' s' n' k'
 have kn3 := znanos7 f1 f2 f3 f4 f5 f6 f7 kf
 have kn4 := znanos7 t1 t2 t3 t4 t5 t6 t7 kt
 have w1 : W128 (pnum y mo d h m s nn) := by have := pOk_in k; unfold pIn at this; unfold W128; omega
 have w2 : W128 (pnum y' mo' d' h' m' s' n') := by have := pOk_in k'; unfold pIn at this; unfold W128; omega
 have w3 : W128 (pnum f1 f2 f3 f4 f5 f6 f7) := by have := pOk_in kf; unfold pIn at this; unfold W128; omega
 have w4 : W128 (pnum t1 t2 t3 t4 t5 t6 t7) := by have := pOk_in kt; unfold pIn at this; unfold W128; omega
 generalize pnum y mo d h m s nn = p1 at *
 generalize pnum y' mo' d' h' m' s' n' = p2 at *
 generalize pnum f1 f2 f3 f4 f5 f6 f7 = p3 at *
 generalize pnum t1 t2 t3 t4 t5 t6 t7 = p4 at *
 have kr3 : ∀ p : ZQ, Fn 103 [(p, p2 - p1)] [zv p] (.int .i64 1) := fun p => by
  have := fzsign p (p2 - p1) (Bits.fit (Bits.sub w2.bits w1.bits) (by decide)); rwa [ev] at this
 have i1 : I64 c := by unfold I64; omega
 have i2 : I64 (c + 1) := by unfold I64; omega
 have i3 : I64 1 := by unfold I64; omega
 clear k k' ev kf kt
 rcases hu with ⟨rfl, rfl⟩ | ⟨rfl, rfl⟩
 ·refine fnG_of Tryz.func45 rfl fun ww => ?_
  refine qF ent8 (kr1) ?_
  refine qF ent8 (kr2) ?_
  refine qZ ent33 (kn2) fun zq2 => ?_
  refine qZ ent33 (kn1) fun zq3 => ?_
  refine st_g ent38 (fzsub (zq2) (zq3) (p2) (p1) (by exact Bits.fit w2.bits (by decide)) (by exact Bits.fit w1.bits (by decide))) (subC 1 rfl (subC 0 rfl sub0)) (by kernel_rfl) (fun zq4 => ?_)
  refine st_fn ent103 (kr3 (zq4)) (subC 0 rfl sub0) (by kernel_rfl) ?_
  refine qF ent54 (kb) ?_
  refine qZ ent11 (fzint (c) (by assumption)) fun zq7 => ?_
  refine st_fn ent10 (km1 (zq7)) (subC 0 rfl sub0) (by kernel_rfl) ?_
  refine qI 79 (c + 1) ?_
  refine qZ ent11 (fzint (c + 1) (by assumption)) fun zq9 => ?_
  refine st_fn ent10 (km2 (zq9)) (subC 0 rfl sub0) (by kernel_rfl) ?_
  refine qZ ent33 (kn2) fun zq11 => ?_
  refine qZ ent33 (kn3) fun zq12 => ?_
  refine st_g ent38 (fzsub (zq11) (zq12) (p2) (p3) (by exact Bits.fit w2.bits (by decide)) (by exact Bits.fit w3.bits (by decide))) (subC 1 rfl (subC 0 rfl sub0)) (by kernel_rfl) (fun zq13 => ?_)
  refine qZ ent33 (kn4) fun zq14 => ?_
  refine qZ ent33 (kn3) fun zq15 => ?_
  refine st_g ent38 (fzsub (zq14) (zq15) (p4) (p3) (by exact Bits.fit w4.bits (by decide)) (by exact Bits.fit w3.bits (by decide))) (subC 1 rfl (subC 0 rfl sub0)) (by kernel_rfl) (fun zq16 => ?_)
  refine qZ ent11 (fzint (c) (by assumption)) fun zq17 => ?_
  refine st_g ent34 (fzmul (zq17) (zq16) (c) (p4 - p3) (by exact Bits.fit i1.w.bits (by decide)) (by exact Bits.fit (Bits.sub (Bits.mono (l := 128) w4.bits (by decide)) (Bits.mono (l := 128) w3.bits (by decide))) (by decide))) (subC 0 rfl (subC 1 rfl sub0)) (by kernel_rfl) (fun zq18 => ?_)
  refine qZ ent11 (fzint (1) (by assumption)) fun zq19 => ?_
  refine st_g ent34 (fzmul (zq19) (zq13) (1) (p2 - p3) (by exact Bits.fit i3.w.bits (by decide)) (by exact Bits.fit (Bits.sub (Bits.mono (l := 128) w2.bits (by decide)) (Bits.mono (l := 128) w3.bits (by decide))) (by decide))) (subC 0 rfl (subC 6 rfl sub0)) (by kernel_rfl) (fun zq20 => ?_)
  refine st_g ent32 (fzadd (zq18) (zq20) (c * (p4 - p3)) (1 * (p2 - p3)) (by exact Bits.fit (Bits.mul i1.w.bits (Bits.sub (Bits.mono (l := 128) w4.bits (by decide)) (Bits.mono (l := 128) w3.bits (by decide)))) (by decide)) (by exact Bits.fit (Bits.mul i3.w.bits (Bits.sub (Bits.mono (l := 128) w2.bits (by decide)) (Bits.mono (l := 128) w3.bits (by decide)))) (by decide))) (subC 2 rfl (subC 0 rfl sub0)) (by kernel_rfl) (fun zq21 => ?_)
  refine st_know (fun w h => z_neg (q := zq16) (x := p4 - p3) (h (zq16, p4 - p3) (subC 5 rfl sub0 _ (List.mem_singleton.2 rfl)))) fun hk110 => ?_
  have hz110 : (zq16).n = false := by rw [hk110]; exact decide_eq_false (by omega)
  refine qV 110 hz110 ?_
  exact st_retG ((zq21, zq16)) Tryz.func45 (subE 0 rfl (by rfl) (subE 5 rfl (by rfl) sub0)) (by kernel_rfl)
 ·refine fnG_of Tryz.func45 rfl fun ww => ?_
  refine qF ent8 (kr1) ?_
  refine qF ent8 (kr2) ?_
  refine qZ ent33 (kn2) fun zq2 => ?_
  refine qZ ent33 (kn1) fun zq3 => ?_
  refine st_g ent38 (fzsub (zq2) (zq3) (p2) (p1) (by exact Bits.fit w2.bits (by decide)) (by exact Bits.fit w1.bits (by decide))) (subC 1 rfl (subC 0 rfl sub0)) (by kernel_rfl) (fun zq4 => ?_)
  refine st_fn ent103 (kr3 (zq4)) (subC 0 rfl sub0) (by kernel_rfl) ?_
  refine qF ent54 (kb) ?_
  refine qZ ent11 (fzint (c) (by assumption)) fun zq7 => ?_
  refine st_fn ent10 (km1 (zq7)) (subC 0 rfl sub0) (by kernel_rfl) ?_
  refine qI 79 (c + 1) ?_
  refine qZ ent11 (fzint (c + 1) (by assumption)) fun zq9 => ?_
  refine st_fn ent10 (km2 (zq9)) (subC 0 rfl sub0) (by kernel_rfl) ?_
  refine qZ ent33 (kn2) fun zq11 => ?_
  refine qZ ent33 (kn3) fun zq12 => ?_
  refine st_g ent38 (fzsub (zq11) (zq12) (p2) (p3) (by exact Bits.fit w2.bits (by decide)) (by exact Bits.fit w3.bits (by decide))) (subC 1 rfl (subC 0 rfl sub0)) (by kernel_rfl) (fun zq13 => ?_)
  refine qZ ent33 (kn4) fun zq14 => ?_
  refine qZ ent33 (kn3) fun zq15 => ?_
  refine st_g ent38 (fzsub (zq14) (zq15) (p4) (p3) (by exact Bits.fit w4.bits (by decide)) (by exact Bits.fit w3.bits (by decide))) (subC 1 rfl (subC 0 rfl sub0)) (by kernel_rfl) (fun zq16 => ?_)
  refine qZ ent11 (fzint (c) (by assumption)) fun zq17 => ?_
  refine st_g ent34 (fzmul (zq17) (zq16) (c) (p4 - p3) (by exact Bits.fit i1.w.bits (by decide)) (by exact Bits.fit (Bits.sub (Bits.mono (l := 128) w4.bits (by decide)) (Bits.mono (l := 128) w3.bits (by decide))) (by decide))) (subC 0 rfl (subC 1 rfl sub0)) (by kernel_rfl) (fun zq18 => ?_)
  refine qZ ent11 (fzint (1) (by assumption)) fun zq19 => ?_
  refine st_g ent34 (fzmul (zq19) (zq13) (1) (p2 - p3) (by exact Bits.fit i3.w.bits (by decide)) (by exact Bits.fit (Bits.sub (Bits.mono (l := 128) w2.bits (by decide)) (Bits.mono (l := 128) w3.bits (by decide))) (by decide))) (subC 0 rfl (subC 6 rfl sub0)) (by kernel_rfl) (fun zq20 => ?_)
  refine st_g ent32 (fzadd (zq18) (zq20) (c * (p4 - p3)) (1 * (p2 - p3)) (by exact Bits.fit (Bits.mul i1.w.bits (Bits.sub (Bits.mono (l := 128) w4.bits (by decide)) (Bits.mono (l := 128) w3.bits (by decide)))) (by decide)) (by exact Bits.fit (Bits.mul i3.w.bits (Bits.sub (Bits.mono (l := 128) w2.bits (by decide)) (Bits.mono (l := 128) w3.bits (by decide)))) (by decide))) (subC 2 rfl (subC 0 rfl sub0)) (by kernel_rfl) (fun zq21 => ?_)
  refine st_know (fun w h => z_neg (q := zq16) (x := p4 - p3) (h (zq16, p4 - p3) (subC 5 rfl sub0 _ (List.mem_singleton.2 rfl)))) fun hk110 => ?_
  have hz110 : (zq16).n = false := by rw [hk110]; exact decide_eq_false (by omega)
  refine qV 110 hz110 ?_
  exact st_retG ((zq21, zq16)) Tryz.func45 (subE 0 rfl (by rfl) (subE 5 rfl (by rfl) sub0)) (by kernel_rfl)
theorem ztot_n (hu : u = 1 ∧ c = A ∨ u = 2 ∧ c = B) (k : pOk y mo d h m s nn) (k' : pOk y' mo' d' h' m' s' n') (ev : cmpI (pnum y' mo' d' h' m' s' n' - pnum y mo d h m s nn) 0 = -1) (hc : -9000000 ≤ c ∧ c ≤ 9000000) (e0 : Int)
  (kb : Fn 54 [] [ptv y mo d h m s nn, ptv y' mo' d' h' m' s' n', .int .i64 u] (.tuple #[duv A B C D H M S N, .int .i64 e0]))
  (kf : pOk f1 f2 f3 f4 f5 f6 f7) (kt : pOk t1 t2 t3 t4 t5 t6 t7) (km1 : ∀ p : ZQ, Fn 10 [(p, c)] [ptv y mo d h m s nn, zv p, .int .i64 u] (.tuple #[ptv f1 f2 f3 f4 f5 f6 f7, .int .i64 0])) (km2 : ∀ p : ZQ, Fn 10 [(p, c + -1)] [ptv y mo d h m s nn, zv p, .int .i64 u] (.tuple #[ptv t1 t2 t3 t4 t5 t6 t7, .int .i64 0]))
  (hd : pnum t1 t2 t3 t4 t5 t6 t7 - pnum f1 f2 f3 f4 f5 f6 f7 < 0) :
  FnG 45 [] [ptv y mo d h m s nn, ptv y' mo' d' h' m' s' n', .int .i64 u] zzv (fun q => [(q.1, -(c * (pnum t1 t2 t3 t4 t5 t6 t7 - pnum f1 f2 f3 f4 f5 f6 f7) + -1 * (pnum y' mo' d' h' m' s' n' - pnum f1 f2 f3 f4 f5 f6 f7))), (q.2, -(pnum t1 t2 t3 t4 t5 t6 t7 - pnum f1 f2 f3 f4 f5 f6 f7))]) := by
 have kr1 := zright7_yes y mo d h m s nn k
 have kr2 := zright7_yes y' mo' d' h' m' s' n' k'
 have kn1 := znanos7 y mo d h m s nn k
 have kn2 := znanos7 y' mo' d' h' m' s' n' k'
 have kn3 := znanos7 f1 f2 f3 f4 f5 f6 f7 kf
 have kn4 := znanos7 t1 t2 t3 t4 t5 t6 t7 kt
 have w1 : W128 (pnum y mo d h m s nn) := by have := pOk_in k; unfold pIn at this; unfold W128; omega
 have w2 : W128 (pnum y' mo' d' h' m' s' n') := by have := pOk_in k'; unfold pIn at this; unfold W128; omega
 have w3 : W128 (pnum f1 f2 f3 f4 f5 f6 f7) := by have := pOk_in kf; unfold pIn at this; unfold W128; omega
 have w4 : W128 (pnum t1 t2 t3 t4 t5 t6 t7) := by have := pOk_in kt; unfold pIn at this; unfold W128; omega
 generalize pnum y mo d h m s nn = p1 at *
 generalize pnum y' mo' d' h' m' s' n' = p2 at *
 generalize pnum f1 f2 f3 f4 f5 f6 f7 = p3 at *
 generalize pnum t1 t2 t3 t4 t5 t6 t7 = p4 at *
 have kr3 : ∀ p : ZQ, Fn 103 [(p, p2 - p1)] [zv p] (.int .i64 (-1)) := fun p => by
  have := fzsign p (p2 - p1) (Bits.fit (Bits.sub w2.bits w1.bits) (by decide)); rwa [ev] at this
 have i1 : I64 c := by unfold I64; omega
 have i2 : I64 (c + -1) := by unfold I64; omega
 have i3 : I64 (-1) := by unfold I64; omega
 clear k k' ev kf kt
 rcases hu with ⟨rfl, rfl⟩ | ⟨rfl, rfl⟩
 ·refine fnG_of Tryz.func45 rfl fun ww => ?_
  refine qF ent8 (kr1) ?_
  refine qF ent8 (kr2) ?_
  refine qZ ent33 (kn2) fun zq2 => ?_
  refine qZ ent33 (kn1) fun zq3 => ?_
  refine st_g ent38 (fzsub (zq2) (zq3) (p2) (p1) (by exact Bits.fit w2.bits (by decide)) (by exact Bits.fit w1.bits (by decide))) (subC 1 rfl (subC 0 rfl sub0)) (by kernel_rfl) (fun zq4 => ?_)
  refine st_fn ent103 (kr3 (zq4)) (subC 0 rfl sub0) (by kernel_rfl) ?_
  refine qF ent54 (kb) ?_
  refine qZ ent11 (fzint (c) (by assumption)) fun zq7 => ?_
  refine st_fn ent10 (km1 (zq7)) (subC 0 rfl sub0) (by kernel_rfl) ?_
  refine qI 79 (c + -1) ?_
  refine qZ ent11 (fzint (c + -1) (by assumption)) fun zq9 => ?_
  refine st_fn ent10 (km2 (zq9)) (subC 0 rfl sub0) (by kernel_rfl) ?_
  refine qZ ent33 (kn2) fun zq11 => ?_
  refine qZ ent33 (kn3) fun zq12 => ?_
  refine st_g ent38 (fzsub (zq11) (zq12) (p2) (p3) (by exact Bits.fit w2.bits (by decide)) (by exact Bits.fit w3.bits (by decide))) (subC 1 rfl (subC 0 rfl sub0)) (by kernel_rfl) (fun zq13 => ?_)
  refine qZ ent33 (kn4) fun zq14 => ?_
  refine qZ ent33 (kn3) fun zq15 => ?_
  refine st_g ent38 (fzsub (zq14) (zq15) (p4) (p3) (by exact Bits.fit w4.bits (by decide)) (by exact Bits.fit w3.bits (by decide))) (subC 1 rfl (subC 0 rfl sub0)) (by kernel_rfl) (fun zq16 => ?_)
  refine qZ ent11 (fzint (c) (by assumption)) fun zq17 => ?_
  refine st_g ent34 (fzmul (zq17) (zq16) (c) (p4 - p3) (by exact Bits.fit i1.w.bits (by decide)) (by exact Bits.fit (Bits.sub (Bits.mono (l := 128) w4.bits (by decide)) (Bits.mono (l := 128) w3.bits (by decide))) (by decide))) (subC 0 rfl (subC 1 rfl sub0)) (by kernel_rfl) (fun zq18 => ?_)
  refine qZ ent11 (fzint (-1) (by assumption)) fun zq19 => ?_
  refine st_g ent34 (fzmul (zq19) (zq13) (-1) (p2 - p3) (by exact Bits.fit i3.w.bits (by decide)) (by exact Bits.fit (Bits.sub (Bits.mono (l := 128) w2.bits (by decide)) (Bits.mono (l := 128) w3.bits (by decide))) (by decide))) (subC 0 rfl (subC 6 rfl sub0)) (by kernel_rfl) (fun zq20 => ?_)
  refine st_g ent32 (fzadd (zq18) (zq20) (c * (p4 - p3)) (-1 * (p2 - p3)) (by exact Bits.fit (Bits.mul i1.w.bits (Bits.sub (Bits.mono (l := 128) w4.bits (by decide)) (Bits.mono (l := 128) w3.bits (by decide)))) (by decide)) (by exact Bits.fit (Bits.mul i3.w.bits (Bits.sub (Bits.mono (l := 128) w2.bits (by decide)) (Bits.mono (l := 128) w3.bits (by decide)))) (by decide))) (subC 2 rfl (subC 0 rfl sub0)) (by kernel_rfl) (fun zq21 => ?_)
  refine st_know (fun w h => z_neg (q := zq16) (x := p4 - p3) (h (zq16, p4 - p3) (subC 5 rfl sub0 _ (List.mem_singleton.2 rfl)))) fun hk110 => ?_
  have hz110 : (zq16).n = true := by rw [hk110]; exact decide_eq_true (by omega)
  refine qV 110 hz110 ?_
  refine st_g ent88 (fzneg (zq21) (c * (p4 - p3) + -1 * (p2 - p3)) (by exact Bits.fit (Bits.add (Bits.mono (l := 257) (Bits.mul i1.w.bits (Bits.sub (Bits.mono (l := 128) w4.bits (by decide)) (Bits.mono (l := 128) w3.bits (by decide)))) (by decide)) (Bits.mono (l := 257) (Bits.mul i3.w.bits (Bits.sub (Bits.mono (l := 128) w2.bits (by decide)) (Bits.mono (l := 128) w3.bits (by decide)))) (by decide))) (by decide))) (subC 0 rfl sub0) (by kernel_rfl) (fun zq22 => ?_)
  refine st_g ent88 (fzneg (zq16) (p4 - p3) (by exact Bits.fit (Bits.sub (Bits.mono (l := 128) w4.bits (by decide)) (Bits.mono (l := 128) w3.bits (by decide))) (by decide))) (subC 6 rfl sub0) (by kernel_rfl) (fun zq23 => ?_)
  exact st_retG ((zq22, zq23)) Tryz.func45 (subE 1 rfl (by rfl) (subE 0 rfl (by rfl) sub0)) (by kernel_rfl)
 ·refine fnG_of Tryz.func45 rfl fun ww => ?_
  refine qF ent8 (kr1) ?_
  refine qF ent8 (kr2) ?_
  refine qZ ent33 (kn2) fun zq2 => ?_
  refine qZ ent33 (kn1) fun zq3 => ?_
  refine st_g ent38 (fzsub (zq2) (zq3) (p2) (p1) (by exact Bits.fit w2.bits (by decide)) (by exact Bits.fit w1.bits (by decide))) (subC 1 rfl (subC 0 rfl sub0)) (by kernel_rfl) (fun zq4 => ?_)
  refine st_fn ent103 (kr3 (zq4)) (subC 0 rfl sub0) (by kernel_rfl) ?_
  refine qF ent54 (kb) ?_
  refine qZ ent11 (fzint (c) (by assumption)) fun zq7 => ?_
  refine st_fn ent10 (km1 (zq7)) (subC 0 rfl sub0) (by kernel_rfl) ?_
  refine qI 79 (c + -1) ?_
  refine qZ ent11 (fzint (c + -1) (by assumption)) fun zq9 => ?_
  refine st_fn ent10 (km2 (zq9)) (subC 0 rfl sub0) (by kernel_rfl) ?_
  refine qZ ent33 (kn2) fun zq11 => ?_
  refine qZ ent33 (kn3) fun zq12 => ?_
  refine st_g ent38 (fzsub (zq11) (zq12) (p2) (p3) (by exact Bits.fit w2.bits (by decide)) (by exact Bits.fit w3.bits (by decide))) (subC 1 rfl (subC 0 rfl sub0)) (by kernel_rfl) (fun zq13 => ?_)
  refine qZ ent33 (kn4) fun zq14 => ?_
  refine qZ ent33 (kn3) fun zq15 => ?_
  refine st_g ent38 (fzsub (zq14) (zq15) (p4) (p3) (by exact Bits.fit w4.bits (by decide)) (by exact Bits.fit w3.bits (by decide))) (subC 1 rfl (subC 0 rfl sub0)) (by kernel_rfl) (fun zq16 => ?_)
  refine qZ ent11 (fzint (c) (by assumption)) fun zq17 => ?_
  refine st_g ent34 (fzmul (zq17) (zq16) (c) (p4 - p3) (by exact Bits.fit i1.w.bits (by decide)) (by exact Bits.fit (Bits.sub (Bits.mono (l := 128) w4.bits (by decide)) (Bits.mono (l := 128) w3.bits (by decide))) (by decide))) (subC 0 rfl (subC 1 rfl sub0)) (by kernel_rfl) (fun zq18 => ?_)
  refine qZ ent11 (fzint (-1) (by assumption)) fun zq19 => ?_
  refine st_g ent34 (fzmul (zq19) (zq13) (-1) (p2 - p3) (by exact Bits.fit i3.w.bits (by decide)) (by exact Bits.fit (Bits.sub (Bits.mono (l := 128) w2.bits (by decide)) (Bits.mono (l := 128) w3.bits (by decide))) (by decide))) (subC 0 rfl (subC 6 rfl sub0)) (by kernel_rfl) (fun zq20 => ?_)
  refine st_g ent32 (fzadd (zq18) (zq20) (c * (p4 - p3)) (-1 * (p2 - p3)) (by exact Bits.fit (Bits.mul i1.w.bits (Bits.sub (Bits.mono (l := 128) w4.bits (by decide)) (Bits.mono (l := 128) w3.bits (by decide)))) (by decide)) (by exact Bits.fit (Bits.mul i3.w.bits (Bits.sub (Bits.mono (l := 128) w2.bits (by decide)) (Bits.mono (l := 128) w3.bits (by decide)))) (by decide))) (subC 2 rfl (subC 0 rfl sub0)) (by kernel_rfl) (fun zq21 => ?_)
  refine st_know (fun w h => z_neg (q := zq16) (x := p4 - p3) (h (zq16, p4 - p3) (subC 5 rfl sub0 _ (List.mem_singleton.2 rfl)))) fun hk110 => ?_
  have hz110 : (zq16).n = true := by rw [hk110]; exact decide_eq_true (by omega)
  refine qV 110 hz110 ?_
  refine st_g ent88 (fzneg (zq21) (c * (p4 - p3) + -1 * (p2 - p3)) (by exact Bits.fit (Bits.add (Bits.mono (l := 257) (Bits.mul i1.w.bits (Bits.sub (Bits.mono (l := 128) w4.bits (by decide)) (Bits.mono (l := 128) w3.bits (by decide)))) (by decide)) (Bits.mono (l := 257) (Bits.mul i3.w.bits (Bits.sub (Bits.mono (l := 128) w2.bits (by decide)) (Bits.mono (l := 128) w3.bits (by decide)))) (by decide))) (by decide))) (subC 0 rfl sub0) (by kernel_rfl) (fun zq22 => ?_)
  refine st_g ent88 (fzneg (zq16) (p4 - p3) (by exact Bits.fit (Bits.sub (Bits.mono (l := 128) w4.bits (by decide)) (Bits.mono (l := 128) w3.bits (by decide))) (by decide))) (subC 6 rfl sub0) (by kernel_rfl) (fun zq23 => ?_)
  exact st_retG ((zq22, zq23)) Tryz.func45 (subE 1 rfl (by rfl) (subE 0 rfl (by rfl) sub0)) (by kernel_rfl)
theorem ztold_e (kt : Fn 45 [] [ptv y mo d h m s nn, ptv y' mo' d' h' m' s' n', .int .i64 u] (.tuple #[zz0, zz0, .int .i64 e])) (he : e ≠ 0) : Fn 13 [] [ptv y mo d h m s nn, ptv y' mo' d' h' m' s' n', .int .i64 u] (.tuple #[wz, wz, .int .i64 e]) := by
 refine fn_of Tryz.func13 rfl fun ww => ?_
 refine qF ent45 (kt) ?_
 refine qV 27 (show (e != 0) = true by exact bne_iff_ne.2 (by omega)) ?_
 exact qR Tryz.func13
theorem ztold_v (x z : Int) (kt : FnG 45 [] [ptv y mo d h m s nn, ptv y' mo' d' h' m' s' n', .int .i64 u] zzv (fun q => [(q.1, x), (q.2, z)])) (hx : W128 x) (hz : W128 z) (h0 : z ≠ 0) (h1 : W128 (frP x z)) (h2 : W128 (frQ x z)) : Fn 13 [] [ptv y mo d h m s nn, ptv y' mo' d' h' m' s' n', .int .i64 u] (.tuple #[wv (frP x z), wv (frQ x z), .int .i64 0]) := by
 have b1 : Bits 1000 (frP x z) := h1.bits.mono (by decide)
 have b2 : Bits 1000 (frQ x z) := h2.bits.mono (by decide)
 refine fn_of Tryz.func13 rfl fun ww => ?_
 refine qZ ent45 (kt) fun zq0 => ?_
 refine st_g ent46 (fzlowest (zq0.fst) (zq0.snd) (x) (z) (by exact Bits.mono hx.bits (by decide)) (by exact Bits.mono hz.bits (by decide)) (by assumption)) (subC 0 rfl (subC 1 rfl sub0)) (by kernel_rfl) (fun zq1 => ?_)
 refine st_fn ent47 (fitw_f (zq1.fst) (frP x z) (by exact Bits.mono h1.bits (by decide)) (by assumption)) (subC 0 rfl sub0) (by kernel_rfl) ?_
 refine st_fn ent47 (fitw_f (zq1.snd) (frQ x z) (by exact Bits.mono h2.bits (by decide)) (by assumption)) (subC 1 rfl sub0) (by kernel_rfl) ?_
 exact qR Tryz.func13
theorem rtotals_v (p q : Int) (kt : Fn 12 [] [ptv y mo d h m s nn, ptv y' mo' d' h' m' s' n', .int .i64 u] (.tuple #[wv p, wv q, .int .i64 e])) (kz : Fn 13 [] [ptv y mo d h m s nn, ptv y' mo' d' h' m' s' n', .int .i64 u] (.tuple #[wv p, wv q, .int .i64 e])) : Fn 4 [] [ptv y mo d h m s nn, ptv y' mo' d' h' m' s' n', .int .i64 u] (.bool true) := by
 refine fn_of Tryz.func4 rfl fun ww => ?_
 refine qF ent12 (kt) ?_
 refine qF ent13 (kz) ?_
 refine qF ent9 (alive20) ?_
 refine qV 33 (show (hi p == hi p && (lo p == lo p && true)) = true by simp_all) ?_
 refine qV 38 (show (hi q == hi q && (lo q == lo q && true)) = true by simp_all) ?_
 exact st_retv Tryz.func4 (show Value.bool (e == e) = _ by simp) (by kernel_rfl)
end
end Go.Proofs.YthoedmikfpbfnaaGreat
end
section
/-
 Whole years or months between two date-times: where they lead, by the program and by the reference.
-/
set_option linter.unusedVariables false
set_option linter.unusedSimpArgs false
set_option maxRecDepth 100000
namespace Go.Proofs.YthoedmikfpbfnaaGreat
open Go Go.RowKit Go.Ev

theorem cdn_lt {T1 T2 d : Int} (h : T1 < T2) (d1 : 1 ≤ d) : dnum (lY T1) (lM T1) (cD (lY T1) (lM T1) d) < dnum (lY T2) (lM T2) (cD (lY T2) (lM T2) d) := by
 obtain ⟨a1, a2, a3⟩ := ymi_l T1
 obtain ⟨b1, b2, b3⟩ := ymi_l T2
 refine dnum_lt (cD_in a2 a3 d1) (cD_in b2 b3 d1) ?_
 unfold ymi at a1 b1; omega
theorem cdn_le {T1 T2 d : Int} (h : T1 ≤ T2) (d1 : 1 ≤ d) : dnum (lY T1) (lM T1) (cD (lY T1) (lM T1) d) ≤ dnum (lY T2) (lM T2) (cD (lY T2) (lM T2) d) := by
 rcases Int.lt_or_eq_of_le h with q | q
 ·exact Int.le_of_lt (cdn_lt q d1)
 ·rw [q]; exact Int.le_refl _
theorem cdn_same {y m d : Int} (h : dIn y m d) : dnum (lY (ymi y m)) (lM (ymi y m)) (cD (lY (ymi y m)) (lM (ymi y m)) d) = dnum y m d := by
 rw [(l_ymi h.1 h.2.1).1, (l_ymi h.1 h.2.1).2, cD_same h]
section
variable (y mo d h m s nn a b T : Int)
theorem adm_both (k : pOk y mo d h m s nn) (o : uOk a b 0 0 0 0 0 0) (i : all64 a b 0 0 0 0 0 0) (hT : ymi y mo + (12 * a + b) = T) :
  (pOk (lY T) (lM T) (cD (lY T) (lM T) d) h m s nn ∧ Fn 26 [] [ptv y mo d h m s nn, duv a b 0 0 0 0 0 0, .int .i64 1] (.tuple #[ptv (lY T) (lM T) (cD (lY T) (lM T) d) h m s nn, .int .i64 0]) ∧ Fn 37 [] [ptv y mo d h m s nn, duv a b 0 0 0 0 0 0, .int .i64 1] (.tuple #[ptv (lY T) (lM T) (cD (lY T) (lM T) d) h m s nn, .int .i64 0])) ∨
  (¬ pOk (lY T) (lM T) (cD (lY T) (lM T) d) h m s nn ∧ Fn 26 [] [ptv y mo d h m s nn, duv a b 0 0 0 0 0 0, .int .i64 1] (.tuple #[pt0, .int .i64 4]) ∧ Fn 37 [] [ptv y mo d h m s nn, duv a b 0 0 0 0 0 0, .int .i64 1] (.tuple #[pt0, .int .i64 4])) := by
 obtain ⟨b1, b2, -⟩ := uOk_bd o
 have yy := dOk_year k.1
 have tb := tnan_bd k.2.1
 have z : dtot 0 0 0 0 0 = 0 := rfl
 have hQ : (tnan h m s nn + dtot 0 0 0 0 0).fdiv 86400000000000 = 0 := by rw [z, Int.fdiv_eq_ediv_of_nonneg _ (by omega)]; omega
 have hR : (tnan h m s nn + dtot 0 0 0 0 0).fmod 86400000000000 = tnan h m s nn := by rw [z, Int.fmod_eq_emod_of_nonneg _ (by omega)]; omega
 have hT' := hT
 unfold ymi at hT'
 have lc := clater y mo d (12 * a + b) T (by omega) (by omega) (by omega) k.1.1.1 k.1.1.2.1 (by omega) (by omega)
 have lz := zlater y mo d a b T (by omega) (by omega) (by omega) k.1.1.1 k.1.1.2.1 (by omega) (by omega) (by omega) (by omega)
 obtain ⟨r1, r2, r3, r4⟩ := t_tnan k.2.1
 by_cases q : dOk (lY T) (lM T) (cD (lY T) (lM T) d)
 ·have mv := cmoved_c y mo d (12 * a + b) (0 + 7 * 0 + 0) T (dnum (lY T) (lM T) (cD (lY T) (lM T) d)) hT (by omega) (by omega) k.1.1.1 k.1.1.2.1 (by omega) (by omega) k.1.1.2.2.1 q (by omega) q.2.1 q.2.2
  rw [(date_of q.1).1, (date_of q.1).2.1, (date_of q.1).2.2] at mv
  have za := zaddd_yes (lY T) (lM T) (cD (lY T) (lM T) d) (0 + 7 * 0 + 0) q (by have := q.2; omega) (by have := q.2; omega)
  rw [show dnum (lY T) (lM T) (cD (lY T) (lM T) d) + (0 + 7 * 0 + 0) = dnum (lY T) (lM T) (cD (lY T) (lM T) d) by omega, (date_of q.1).1, (date_of q.1).2.1, (date_of q.1).2.2] at za
  have zm := zmov_v a b 0 0 0 0 0 0 y mo d 0 1 T _ _ _ 0 _ _ _ (by omega) (by omega) (by omega) lz (zreg_cy (lY T) (lM T) d (ymi_l T).2.1 (ymi_l T).2.2 k.1.1.2.2.1 q) za
  by_cases p : pOk (lY T) (lM T) (cD (lY T) (lM T) d) h m s nn
  ·refine .inl ⟨p, ?_, ?_⟩
   ·have := cad_y y mo d h m s nn a b 0 0 0 0 0 0 1 _ _ _ 0 (tnan h m s nn) i k o (.inl rfl) hQ hR (by omega) mv (by rw [r1, r2, r3, r4]; exact p)
    rw [r1, r2, r3, r4] at this
    exact this
   ·have := zad_y y mo d h m s nn a b 0 0 0 0 0 0 1 _ _ _ 0 (tnan h m s nn) i k o (.inl rfl) hQ hR zm (by rw [r1, r2, r3, r4]; exact p)
    rw [r1, r2, r3, r4] at this
    exact this
  ·exact .inr ⟨p, cad_n y mo d h m s nn a b 0 0 0 0 0 0 1 _ _ _ 0 (tnan h m s nn) i k o (.inl rfl) hQ hR (by omega) mv (by rw [r1, r2, r3, r4]; exact p), zad_n y mo d h m s nn a b 0 0 0 0 0 0 1 _ _ _ 0 (tnan h m s nn) i k o (.inl rfl) hQ hR zm (by rw [r1, r2, r3, r4]; exact p)⟩
 ·refine .inr ⟨fun p => q p.1, ?_, ?_⟩
  ·exact cad_e y mo d h m s nn a b 0 0 0 0 0 0 1 4 0 (tnan h m s nn) i k o (.inl rfl) hQ hR (by omega) (cmov_e y mo d (0 + 7 * 0 + 0) T 1 (12 * a + b) 4 lc (creg_cn (lY T) (lM T) d (ymi_l T).2.1 (ymi_l T).2.2 k.1.1.2.2.1 q) (by decide)) (by decide)
  ·exact zad_e y mo d h m s nn a b 0 0 0 0 0 0 1 4 0 (tnan h m s nn) i k o (.inl rfl) hQ hR (zmov_e a b 0 0 0 0 0 0 y mo d 0 1 T 4 lz (zreg_cn (lY T) (lM T) d (ymi_l T).2.1 (ymi_l T).2.2 k.1.1.2.2.1 q) (by decide)) (by decide)
variable (u c : Int)
def um (u : Int) : Int := if u = 1 then 12 else 1
theorem mvm_both (hu : u = 1 ∨ u = 2) (k : pOk y mo d h m s nn) (r : -4294967295 ≤ c ∧ c ≤ 4294967295) (hT : ymi y mo + um u * c = T) :
  (pOk (lY T) (lM T) (cD (lY T) (lM T) d) h m s nn ∧ Fn 7 [] [ptv y mo d h m s nn, .int .i64 c, .int .i64 u] (.tuple #[ptv (lY T) (lM T) (cD (lY T) (lM T) d) h m s nn, .int .i64 0]) ∧ ∀ p : ZQ, Fn 10 [(p, c)] [ptv y mo d h m s nn, zv p, .int .i64 u] (.tuple #[ptv (lY T) (lM T) (cD (lY T) (lM T) d) h m s nn, .int .i64 0])) ∨
  (¬ pOk (lY T) (lM T) (cD (lY T) (lM T) d) h m s nn ∧ Fn 7 [] [ptv y mo d h m s nn, .int .i64 c, .int .i64 u] (.tuple #[pt0, .int .i64 4]) ∧ ∀ p : ZQ, Fn 10 [(p, c)] [ptv y mo d h m s nn, zv p, .int .i64 u] (.tuple #[pt0, .int .i64 4])) := by
 rcases hu with rfl | rfl
 ·obtain ⟨o, i⟩ := uOk_y c r
  have hT' : ymi y mo + (12 * c + 0) = T := by rw [← hT]; show _ = ymi y mo + 12 * c; omega
  rcases adm_both y mo d h m s nn c 0 T k o i hT' with ⟨p, a1, a2⟩ | ⟨p, a1, a2⟩
  ·exact .inl ⟨p, rmov_1 c y mo d h m s nn _ _ _ _ _ _ _ 0 k r a1, fun q => zmv_1 y mo d h m s nn c _ _ _ _ _ _ _ 0 q r a2⟩
  ·exact .inr ⟨p, rmov_1 c y mo d h m s nn _ _ _ _ _ _ _ 4 k r a1, fun q => zmv_1 y mo d h m s nn c _ _ _ _ _ _ _ 4 q r a2⟩
 ·obtain ⟨o, i⟩ := uOk_m c r
  have hT' : ymi y mo + (12 * 0 + c) = T := by rw [← hT]; show _ = ymi y mo + 1 * c; omega
  rcases adm_both y mo d h m s nn 0 c T k o i hT' with ⟨p, a1, a2⟩ | ⟨p, a1, a2⟩
  ·exact .inl ⟨p, rmov_2 c y mo d h m s nn _ _ _ _ _ _ _ 0 k r a1, fun q => zmv_2 y mo d h m s nn c _ _ _ _ _ _ _ 0 q r a2⟩
  ·exact .inr ⟨p, rmov_2 c y mo d h m s nn _ _ _ _ _ _ _ 4 k r a1, fun q => zmv_2 y mo d h m s nn c _ _ _ _ _ _ _ 4 q r a2⟩
end
section
variable (y mo d h m s n y' mo' d' h' m' s' n' u E Z : Int)
def uc (u y mo d y' mo' d' : Int) : Int := if u = 1 then uY u y mo d y' mo' d' else uMo u y mo d y' mo' d'
theorem tot_from (hu : u = 1 ∨ u = 2) (k : pOk y mo d h m s n) (k' : pOk y' mo' d' h' m' s' n') (hE : bD y mo d h m s n y' mo' d' h' m' s' n' = E) (hZ : bZ y mo d h m s n y' mo' d' h' m' s' n' = Z) (c T v : Int) (hc : uc u y mo d (dY E) (dM E) (dD E) = c) (hT : ymi y mo + um u * c = T)
  (hv : v = 1 ∨ v = -1) (ev : cmpI (pnum y' mo' d' h' m' s' n' - pnum y mo d h m s n) 0 = v) :
  pOk (lY T) (lM T) (cD (lY T) (lM T) d) h m s n ∧ 0 ≤ v * c ∧ 0 ≤ v * (pnum y' mo' d' h' m' s' n' - pnum (lY T) (lM T) (cD (lY T) (lM T) d) h m s n) ∧ (-9000000 ≤ c ∧ c ≤ 9000000) ∧ (c = 0 → pnum (lY T) (lM T) (cD (lY T) (lM T) d) h m s n = pnum y mo d h m s n) := by
 obtain ⟨i1, i2, i3, i4, -⟩ := bt_in k k'
 obtain ⟨d1, d2⟩ := bt_date k k'
 rw [hE] at i1 d1 d2 i3 i4
 rw [hZ] at i2 i3 i4
 have l1 : 1 ≤ u := by omega
 have l2 : u ≤ 4 := by omega
 obtain ⟨c1, c2, -, -, b5, -⟩ := uv_bd k.1 d1 l1 l2
 obtain ⟨u1, u2⟩ := until_back k.1 d1 l1 l2
 have sn := uS_num k.1.1 d1.1
 rw [d2] at sn u2
 have tr : cmpI E (dnum y mo d) = 1 ∧ dnum y mo d < E ∨ cmpI E (dnum y mo d) = 0 ∧ E = dnum y mo d ∨ cmpI E (dnum y mo d) = -1 ∧ E < dnum y mo d := by
  unfold cmpI; split <;> (try split) <;> omega
 rw [sn] at b5
 have w0 : uW u y mo d (dY E) (dM E) (dD E) = 0 := by unfold uW; rw [if_neg (by omega)]
 -- the months to which all years and months lead
 obtain ⟨TN, hTN⟩ : ∃ TN, ymi y mo + (12 * uY u y mo d (dY E) (dM E) (dD E) + uMo u y mo d (dY E) (dM E) (dD E)) = TN := ⟨_, rfl⟩
 rw [hTN] at u1 u2
 have hM : um u * c = 12 * uY u y mo d (dY E) (dM E) (dD E) ∧ u = 1 ∧ c = uY u y mo d (dY E) (dM E) (dD E) ∨ um u * c = uMo u y mo d (dY E) (dM E) (dD E) ∧ uY u y mo d (dY E) (dM E) (dD E) = 0 ∧ c = uMo u y mo d (dY E) (dM E) (dD E) := by
  rcases hu with rfl | rfl
  ·left; refine ⟨by rw [← hc]; rfl, rfl, by rw [← hc]; rfl⟩
  ·right; refine ⟨by rw [← hc]; show 1 * uMo 2 y mo d (dY E) (dM E) (dD E) = _; omega, rfl, by rw [← hc]; rfl⟩
 have s0 := cdn_same k.1.1
 have d01 := k.1.1.2.2.1
 have le1 : T ≤ TN → dnum (lY T) (lM T) (cD (lY T) (lM T) d) ≤ dnum (lY TN) (lM TN) (cD (lY TN) (lM TN) d) := fun q => cdn_le q d01
 have le2 : TN ≤ T → dnum (lY TN) (lM TN) (cD (lY TN) (lM TN) d) ≤ dnum (lY T) (lM T) (cD (lY T) (lM T) d) := fun q => cdn_le q d01
 have le3 : T ≤ ymi y mo → dnum (lY T) (lM T) (cD (lY T) (lM T) d) ≤ dnum y mo d := fun q => by have := cdn_le q d01; rwa [s0] at this
 have le4 : ymi y mo ≤ T → dnum y mo d ≤ dnum (lY T) (lM T) (cD (lY T) (lM T) d) := fun q => by have := cdn_le q d01; rwa [s0] at this
 have din := cD_in (y := lY T) (d := d) (ymi_l T).2.1 (ymi_l T).2.2 d01
 have pa := pOk_in k
 have pb := pOk_in k'
 have tb := tnan_bd k.2.1
 have k3 := k.2.2
 have kd := k.1.2
 have e1 : pnum (lY T) (lM T) (cD (lY T) (lM T) d) h m s n = dnum (lY T) (lM T) (cD (lY T) (lM T) d) * 86400000000000 + tnan h m s n := rfl
 have e2 : pnum y mo d h m s n = dnum y mo d * 86400000000000 + tnan h m s n := rfl
 rw [e1]
 have cv : cmpI (pnum y' mo' d' h' m' s' n' - pnum y mo d h m s n) 0 = 1 ∧ 0 < pnum y' mo' d' h' m' s' n' - pnum y mo d h m s n ∨ cmpI (pnum y' mo' d' h' m' s' n' - pnum y mo d h m s n) 0 = -1 ∧ pnum y' mo' d' h' m' s' n' - pnum y mo d h m s n < 0 ∨ cmpI (pnum y' mo' d' h' m' s' n' - pnum y mo d h m s n) 0 = 0 := by
  unfold cmpI; split <;> (try split) <;> omega
 rw [ev] at cv
 unfold pIn at pa pb
 generalize uY u y mo d (dY E) (dM E) (dD E) = A at *
 generalize uMo u y mo d (dY E) (dM E) (dD E) = B at *
 generalize uW u y mo d (dY E) (dM E) (dD E) = C at *
 generalize uD u y mo d (dY E) (dM E) (dD E) = D at *
 generalize pnum y' mo' d' h' m' s' n' = p' at *
 generalize pnum y mo d h m s n = p at *
 generalize dnum (lY TN) (lM TN) (cD (lY TN) (lM TN) d) = FN at *
 generalize cmpI E (dnum y mo d) = w at *
 generalize uS y mo d y' mo' d' = w' at *
 have core : (v = 1 ∧ dnum y mo d ≤ dnum (lY T) (lM T) (cD (lY T) (lM T) d) ∧ dnum (lY T) (lM T) (cD (lY T) (lM T) d) ≤ E ∧ 0 ≤ Z ∧ 0 ≤ c) ∨ (v = -1 ∧ E ≤ dnum (lY T) (lM T) (cD (lY T) (lM T) d) ∧ dnum (lY T) (lM T) (cD (lY T) (lM T) d) ≤ dnum y mo d ∧ Z ≤ 0 ∧ c ≤ 0) := by
  generalize dnum (lY T) (lM T) (cD (lY T) (lM T) d) = F at *
  generalize dnum y mo d = f at *
  have hz : (v = 1 → f ≤ E ∧ 0 ≤ Z) ∧ (v = -1 → E ≤ f ∧ Z ≤ 0) := by
   constructor
   ·intro q; rcases i4 with j | j | j <;> omega
   ·intro q; rcases i4 with j | j | j <;> omega
  rcases hv with rfl | rfl
  ·left
   obtain ⟨q1, q2⟩ := hz.1 rfl
   have ab : 0 ≤ A ∧ 0 ≤ B ∧ 0 ≤ D := by rcases b5 with j | j | j <;> omega
   have cc : 0 ≤ c ∧ 0 ≤ um u * c ∧ um u * c ≤ 12 * A + B := by rcases hM with j | j <;> omega
   generalize um u * c = q at *
   have g1 := le4 (by omega)
   have g2 := le1 (by omega)
   omega
  ·right
   obtain ⟨q1, q2⟩ := hz.2 rfl
   have ab : A ≤ 0 ∧ B ≤ 0 ∧ D ≤ 0 := by rcases b5 with j | j | j <;> omega
   have cc : c ≤ 0 ∧ um u * c ≤ 0 ∧ 12 * A + B ≤ um u * c := by rcases hM with j | j <;> omega
   generalize um u * c = q at *
   have g1 := le3 (by omega)
   have g2 := le2 (by omega)
   omega
 have cb : -9000000 ≤ c ∧ c ≤ 9000000 := by rcases hM with j | j <;> omega
 have cz : c = 0 → dnum (lY T) (lM T) (cD (lY T) (lM T) d) = dnum y mo d := fun q => by
  rw [q, Int.mul_zero] at hT
  have := le3 (by omega)
  have := le4 (by omega)
  omega
 refine ⟨⟨⟨din, by omega, by omega⟩, k.2.1, fun q => ?_⟩, by rcases core with ⟨rfl, j⟩ | ⟨rfl, j⟩ <;> omega, by rcases core with ⟨rfl, j⟩ | ⟨rfl, j⟩ <;> omega, cb, fun q => by have := cz q; omega⟩
 rcases core with ⟨rfl, j⟩ | ⟨rfl, j⟩
 ·exact k3 ⟨by omega, q.2⟩
 ·omega
end
end Go.Proofs.YthoedmikfpbfnaaGreat
end
section
/-
 How many units lie between two date-times, by the program and by the reference; what sign it has.
-/
set_option linter.unusedVariables false
set_option linter.unusedSimpArgs false
set_option maxRecDepth 100000
namespace Go.Proofs.YthoedmikfpbfnaaGreat
open Go Go.RowKit Go.Ev

theorem fr_le (n d : Int) : -(n.natAbs : Int) ≤ frP n d ∧ frP n d ≤ n.natAbs ∧ 0 ≤ frQ n d ∧ frQ n d ≤ d.natAbs := by
 unfold frP frQ wsg
 have h1 := Nat.div_le_self n.natAbs (Nat.gcd n.natAbs d.natAbs)
 have h2 := Nat.div_le_self d.natAbs (Nat.gcd n.natAbs d.natAbs)
 generalize n.natAbs / Nat.gcd n.natAbs d.natAbs = X at *
 generalize d.natAbs / Nat.gcd n.natAbs d.natAbs = Y at *
 split <;> omega
theorem fr_neg (n d : Int) (h0 : d ≠ 0) : frP (-n) (-d) = frP n d ∧ frQ (-n) (-d) = frQ n d := by
 unfold frP frQ
 rw [Int.natAbs_neg, Int.natAbs_neg]
 refine ⟨?_, rfl⟩
 by_cases z : n = 0
 ·subst z
  unfold wsg
  simp
 ·have e1 : decide (-n < 0) = !decide (n < 0) := by
   by_cases q : n < 0
   ·rw [decide_eq_true q, decide_eq_false (by omega)]; rfl
   ·rw [decide_eq_false q, decide_eq_true (by omega)]; rfl
  have e2 : decide (-d < 0) = !decide (d < 0) := by
   by_cases q : d < 0
   ·rw [decide_eq_true q, decide_eq_false (by omega)]; rfl
   ·rw [decide_eq_false q, decide_eq_true (by omega)]; rfl
  rw [e1, e2]
  cases decide (n < 0) <;> cases decide (d < 0) <;> rfl
theorem mul_bd {c d C D : Int} (hc : -C ≤ c ∧ c ≤ C) (hd : -D ≤ d ∧ d ≤ D) : -(C * D) ≤ c * d ∧ c * d ≤ C * D := by
 have h1 : c.natAbs ≤ C.toNat := by omega
 have h2 : d.natAbs ≤ D.toNat := by omega
 have h3 := Nat.mul_le_mul h1 h2
 rw [← Int.natAbs_mul] at h3
 have h4 : ((C.toNat * D.toNat : Nat) : Int) = C * D := by
  rw [Int.natCast_mul, Int.toNat_of_nonneg (by omega), Int.toNat_of_nonneg (by omega)]
 omega
theorem fr_okS {x z : Int} (h0 : z ≠ 0) (hx : -1000000000000000000000000000000000000 ≤ x ∧ x ≤ 1000000000000000000000000000000000000) (hz : -1000000000000000000000000000000000000 ≤ z ∧ z ≤ 1000000000000000000000000000000000000) : fOk x z := by
 have := fr_le x z
 exact ⟨h0, by unfold W128; omega, by unfold W128; omega⟩
section
variable (y mo d h m s n y' mo' d' h' m' s' n' u : Int)
theorem tot_all (k : pOk y mo d h m s n) (k' : pOk y' mo' d' h' m' s' n') (l1 : 1 ≤ u) (l8 : u ≤ 8) (W : Int) (hW : pnum y' mo' d' h' m' s' n' - pnum y mo d h m s n = W) :
  (∃ x z : Int, 0 < z ∧ z ≤ 20000000000000000000000 ∧ (-400000000000000000000000000000 ≤ x ∧ x ≤ 400000000000000000000000000000) ∧ cmpI x 0 = cmpI W 0 ∧ (3 ≤ u → x = W ∧ z = rlen u) ∧ (u ≤ 2 → -(1000000000 * z) ≤ x ∧ x ≤ 1000000000 * z) ∧
   Fn 12 [] [ptv y mo d h m s n, ptv y' mo' d' h' m' s' n', .int .i64 u] (.tuple #[wv (frP x z), wv (frQ x z), .int .i64 0]) ∧ FnG 45 [] [ptv y mo d h m s n, ptv y' mo' d' h' m' s' n', .int .i64 u] zzv (fun q => [(q.1, x), (q.2, z)])) ∨
  (u ≤ 2 ∧ Fn 12 [] [ptv y mo d h m s n, ptv y' mo' d' h' m' s' n', .int .i64 u] (.tuple #[wz, wz, .int .i64 4]) ∧ Fn 45 [] [ptv y mo d h m s n, ptv y' mo' d' h' m' s' n', .int .i64 u] (.tuple #[zz0, zz0, .int .i64 4])) := by
 have pa := pOk_in k
 have pb := pOk_in k'
 have wW : -17280000172800000000000 < W ∧ W < 17280000172800000000000 := by unfold pIn at pa pb; omega
 by_cases hu : 3 ≤ u
 ·have rl := rlen_in hu l8
  have fk := fr_okS (x := W) (z := rlen u) (by omega) (by omega) (by omega)
  refine .inl ⟨W, rlen u, by omega, by omega, by omega, rfl, fun _ => ⟨rfl, rfl⟩, fun q => by omega, ?_, ztot_d y mo d h m s n y' mo' d' h' m' s' n' u W k k' hu l8 hW⟩
  exact rtot_d u y mo d h m s n y' mo' d' h' m' s' n' k k' hu l8 _ _ 0 (by rw [hW]; exact frac_f W (rlen u) (by unfold W128; omega) (by unfold W128; omega) fk)
 ·have hu2 : u = 1 ∨ u = 2 := by omega
  obtain ⟨E, hE⟩ : ∃ E, bD y mo d h m s n y' mo' d' h' m' s' n' = E := ⟨_, rfl⟩
  obtain ⟨Z, hZ⟩ : ∃ Z, bZ y mo d h m s n y' mo' d' h' m' s' n' = Z := ⟨_, rfl⟩
  have kb := cbet y mo d h m s n y' mo' d' h' m' s' n' u E Z k k' l1 (by omega) hE hZ
  have zb := zbet y mo d h m s n y' mo' d' h' m' s' n' u E Z k k' l1 (by omega) hE hZ
  obtain ⟨d1, d2⟩ := bt_date k k'
  rw [hE] at d1
  obtain ⟨c1, c2, -⟩ := uv_bd k.1 d1 l1 (show u ≤ 4 by omega)
  by_cases w0 : W = 0
  ·subst w0
   refine .inl ⟨0, 1, by omega, by omega, by omega, rfl, fun q => absurd q hu, fun _ => by omega, ?_, ztot_0 y mo d h m s n y' mo' d' h' m' s' n' u hu2 k k' hW⟩
   exact rtot_0 y mo d h m s n y' mo' d' h' m' s' n' _ _ _ _ _ _ _ _ _ u hu2 k k' hW (by omega) (by omega) kb
  ·obtain ⟨v, hv, ev⟩ : ∃ v, (v = 1 ∨ v = -1) ∧ cmpI W 0 = v := by
    rcases Int.lt_trichotomy W 0 with q | q | q
    ·exact ⟨-1, .inr rfl, cmpI_lt q⟩
    ·exact absurd q w0
    ·exact ⟨1, .inl rfl, cmpI_gt q⟩
   obtain ⟨c, hc⟩ : ∃ c, uc u y mo d (dY E) (dM E) (dD E) = c := ⟨_, rfl⟩
   obtain ⟨T, hT⟩ : ∃ T, ymi y mo + um u * c = T := ⟨_, rfl⟩
   obtain ⟨T', hT'⟩ : ∃ T', ymi y mo + um u * (c + v) = T' := ⟨_, rfl⟩
   have ev' := ev
   rw [← hW] at ev'
   obtain ⟨pf, s1, s2, cb, cz⟩ := tot_from y mo d h m s n y' mo' d' h' m' s' n' u E Z hu2 k k' hE hZ c T v hc hT hv ev'
   have hcu : u = 1 ∧ c = uY u y mo d (dY E) (dM E) (dD E) ∨ u = 2 ∧ c = uMo u y mo d (dY E) (dM E) (dD E) := by
    rcases hu2 with rfl | rfl
    ·exact .inl ⟨rfl, hc.symm⟩
    ·exact .inr ⟨rfl, hc.symm⟩
   have hcu2 : u = 1 ∧ c = uY u y mo d (dY E) (dM E) (dD E) ∨ u = 2 ∧ c = uY u y mo d (dY E) (dM E) (dD E) + uMo u y mo d (dY E) (dM E) (dD E) := by
    rcases hu2 with rfl | rfl
    ·exact .inl ⟨rfl, hc.symm⟩
    ·refine .inr ⟨rfl, ?_⟩
     rw [show uY 2 y mo d (dY E) (dM E) (dD E) = 0 from rfl, Int.zero_add]; exact hc.symm
   have umv : (um u = 12 ∨ um u = 1) := by
    rcases hu2 with rfl | rfl
    ·exact .inl rfl
    ·exact .inr rfl
   rcases mvm_both y mo d h m s n T u c hu2 k (by omega) hT with ⟨-, f1, f2⟩ | ⟨np, -, -⟩
   ·rcases mvm_both y mo d h m s n T' u (c + v) hu2 k (by omega) hT' with ⟨pt, t1, t2⟩ | ⟨-, t1, t2⟩
    ·-- both are there
     have pfi := pOk_in pf
     have pti := pOk_in pt
     have dd : 86400000000000 ≤ v * (pnum (lY T') (lM T') (cD (lY T') (lM T') d) h m s n - pnum (lY T) (lM T) (cD (lY T) (lM T) d) h m s n) := by
      have e1 : pnum (lY T') (lM T') (cD (lY T') (lM T') d) h m s n = dnum (lY T') (lM T') (cD (lY T') (lM T') d) * 86400000000000 + tnan h m s n := rfl
      have e2 : pnum (lY T) (lM T) (cD (lY T) (lM T) d) h m s n = dnum (lY T) (lM T) (cD (lY T) (lM T) d) * 86400000000000 + tnan h m s n := rfl
      have d01 := k.1.1.2.2.1
      rw [e1, e2]
      rcases hv with rfl | rfl
      ·have : T < T' := by rcases umv with q | q <;> rw [q] at hT hT' <;> omega
       have := cdn_lt this d01
       omega
      ·have : T' < T := by rcases umv with q | q <;> rw [q] at hT hT' <;> omega
       have := cdn_lt this d01
       omega
     have ks1 := psince_yes _ _ _ _ _ _ _ y' mo' d' h' m' s' n' pf k'
     have ks2 := psince_yes _ _ _ _ _ _ _ _ _ _ _ _ _ _ pf pt
     have zp := fun (e1 : v = 1) => ztot_p y mo d h m s n y' mo' d' h' m' s' n' u _ _ _ _ _ _ _ _ c (lY T) (lM T) (cD (lY T) (lM T) d) h m s n (lY T') (lM T') (cD (lY T') (lM T') d) h m s n hcu k k' (by rw [ev', e1]) cb 0 zb pf pt f2 (by rw [← e1]; exact t2)
     have zn := fun (e1 : v = -1) => ztot_n y mo d h m s n y' mo' d' h' m' s' n' u _ _ _ _ _ _ _ _ c (lY T) (lM T) (cD (lY T) (lM T) d) h m s n (lY T') (lM T') (cD (lY T') (lM T') d) h m s n hcu k k' (by rw [ev', e1]) cb 0 zb pf pt f2 (by rw [← e1]; exact t2)
     have rm := fun p q x2 w2 x3 => rtot_m y mo d h m s n y' mo' d' h' m' s' n' _ _ _ _ _ _ _ _ 0 v c (lY T) (lM T) (cD (lY T) (lM T) d) h m s n (lY T') (lM T') (cD (lY T') (lM T') d) h m s n _ _ x2 w2 x3 p q 0 u hcu2 k k' hv ev' (by omega) (by omega) kb f1 t1 ks1 ks2
     have hXW : c = 0 → pnum y' mo' d' h' m' s' n' - pnum (lY T) (lM T) (cD (lY T) (lM T) d) h m s n = W := fun q => by have := cz q; omega
     generalize pnum (lY T) (lM T) (cD (lY T) (lM T) d) h m s n = a at *
     generalize pnum (lY T') (lM T') (cD (lY T') (lM T') d) h m s n = b at *
     have hz : -17280000172800000000000 ≤ b - a ∧ b - a ≤ 17280000172800000000000 := by unfold pIn at pfi pti; omega
     have hx : -17280000172800000000000 ≤ pnum y' mo' d' h' m' s' n' - a ∧ pnum y' mo' d' h' m' s' n' - a ≤ 17280000172800000000000 := by unfold pIn at pfi pb; omega
     generalize pnum y' mo' d' h' m' s' n' - a = X at *
     generalize b - a = D at *
     have md := mul_bd cb hz
     rw [show (9000000 : Int) * 17280000172800000000000 = 155520001555200000000000000000 by decide] at md
     have md2 : -(9000000 * (v * D)) ≤ c * D ∧ c * D ≤ 9000000 * (v * D) := mul_bd cb (by rcases hv with rfl | rfl <;> omega)
     have comm : D * c = c * D := Int.mul_comm _ _
     have vX : X * v = v * X := Int.mul_comm _ _
     have sgn : 0 < c * D + v * X := by
      have vc : v * c * (v * D) = c * D := by
       rcases hv with rfl | rfl
       ·rw [Int.one_mul, Int.one_mul]
       ·rw [Int.neg_mul, Int.neg_mul, Int.one_mul, Int.neg_mul, Int.one_mul, Int.mul_neg, Int.neg_neg]
      rcases Int.lt_or_eq_of_le s1 with q | q
      ·have := Int.mul_pos q (show 0 < v * D by omega)
       rw [vc] at this
       omega
      ·have c0 : c = 0 := by rcases hv with rfl | rfl <;> omega
       have e1 := hXW c0
       have vW : 0 < v * W := by
        rcases hv with rfl | rfl
        ·have := cmpI_p.1 ev; omega
        ·have := cmpI_n.1 ev; omega
       rw [c0, Int.zero_mul, e1]; omega
     have wX : W128 X := by unfold W128; omega
     have wD : W128 D := by unfold W128; omega
     have ic : I64 c := by unfold I64; omega
     rcases hv with rfl | rfl
     ·have e3 : D * c + X * 1 = c * D + 1 * X := by rw [comm]; omega
      have fk := fr_okS (x := c * D + 1 * X) (z := D) (by omega) (by omega) (by omega)
      refine .inl ⟨c * D + 1 * X, D, by omega, by omega, by omega, by rw [ev]; exact cmpI_gt (by omega), fun q => absurd q hu, fun _ => by omega, ?_, zp rfl (by omega)⟩
      exact rm _ _ (X * 1) (D * c) (c * D + 1 * X) (wtimes_f X 1 wX (by unfold I64; omega) (by unfold W128; omega)) (wtimes_f D c wD ic (by rw [comm]; unfold W128; omega)) (by rw [← e3]; exact wadd_yes (D * c) (X * 1) (by rw [comm]; unfold W128; omega) (by unfold W128; omega) (by rw [e3]; unfold W128; omega)) (frac_f _ _ (by unfold W128; omega) wD fk)
     ·have e3 : D * c + X * -1 = c * D + -1 * X := by rw [comm]; omega
      have fk := fr_okS (x := c * D + -1 * X) (z := D) (by omega) (by omega) (by omega)
      obtain ⟨n1, n2⟩ := fr_neg (c * D + -1 * X) D (by omega)
      refine .inl ⟨-(c * D + -1 * X), -D, by omega, by omega, by omega, by rw [ev]; exact cmpI_lt (by omega), fun q => absurd q hu, fun _ => by omega, ?_, zn rfl (by omega)⟩
      rw [n1, n2]
      exact rm _ _ (X * -1) (D * c) (c * D + -1 * X) (wtimes_f X (-1) wX (by unfold I64; omega) (by unfold W128; omega)) (wtimes_f D c wD ic (by rw [comm]; unfold W128; omega)) (by rw [← e3]; exact wadd_yes (D * c) (X * -1) (by rw [comm]; unfold W128; omega) (by unfold W128; omega) (by rw [e3]; unfold W128; omega)) (frac_f _ _ (by unfold W128; omega) wD fk)
    ·exact .inr ⟨by omega, rtot_e y mo d h m s n y' mo' d' h' m' s' n' _ _ _ _ _ _ _ _ 0 v c _ _ _ _ _ _ _ 0 0 0 0 0 0 0 0 4 u hcu2 k k' hv ev' (by omega) (by omega) kb f1 t1 (by decide), ztot_e y mo d h m s n y' mo' d' h' m' s' n' u _ _ _ _ _ _ _ _ v c _ _ _ _ _ _ _ 0 0 0 0 0 0 0 4 hcu k k' hv ev' cb 0 0 zb f2 t2 (by decide)⟩
   ·exact absurd pf np
theorem law_rtotals (W : World) : Calls Tryz.prog 4 #[ptv y mo d h m s n, ptv y' mo' d' h' m' s' n', .int .i64 u] W (fun e w' => e = .returned (.bool true) ∧ Ext W w') := by
 by_cases k : pOk y mo d h m s n ∧ pOk y' mo' d' h' m' s' n' ∧ 1 ≤ u ∧ u ≤ 8
 ·obtain ⟨k1, k2, l1, l8⟩ := k
  rcases tot_all y mo d h m s n y' mo' d' h' m' s' n' u k1 k2 l1 l8 _ rfl with ⟨x, z, z0, z1, x1, -, -, -, r1, r2⟩ | ⟨-, r1, r2⟩
  ·have fl := fr_le x z
   exact rtotals_v y mo d h m s n y' mo' d' h' m' s' n' u 0 _ _ r1 (ztold_v y mo d h m s n y' mo' d' h' m' s' n' u x z r2 (by unfold W128; omega) (by unfold W128; omega) (by omega) (by unfold W128; omega) (by unfold W128; omega)) W (zall_nil W)
  ·exact rtotals_v y mo d h m s n y' mo' d' h' m' s' n' u 4 0 0 r1 (ztold_e y mo d h m s n y' mo' d' h' m' s' n' u 4 r2 (by decide)) W (zall_nil W)
 ·exact rtotals_v y mo d h m s n y' mo' d' h' m' s' n' u 1 0 0 (rtot_a u y mo d h m s n y' mo' d' h' m' s' n' k) (ztold_e y mo d h m s n y' mo' d' h' m' s' n' u 1 (ztot_a y mo d h m s n y' mo' d' h' m' s' n' u k) (by decide)) W (zall_nil W)
end
end Go.Proofs.YthoedmikfpbfnaaGreat
end
section
/-
 What comes in: a wide number by its two halves, numbers by their bounds.
-/
namespace Go.Proofs.YthoedmikfpbfnaaGreat
open Go Go.RowKit

theorem i64_in {n : Int} (h : (Lit.int .i64 n).wf = true) : I64 n := bounds_i64 h
end Go.Proofs.YthoedmikfpbfnaaGreat
end
section
/-
 A struct of so many 64-bit numbers that comes in.
-/
namespace Go.Proofs.YthoedmikfpbfnaaGreat
open Go Go.RowKit

def intRow (P : Program) (t : TypeId) (n : Nat) : Bool := (match P.underlying t with
 | some (.struct _) => true
 | some (.array _ _) => true
 | _ => false) && decide (P.cellsOf t = n) && match P.cellTypes P.depth t with
 | some ts => decide (ts.length = n) && ts.all fun u => match P.underlying u with
  | some (.int .i64) => true
  | _ => false
 | none => false
theorem cells_in {P : Program} {w : World} {r : Reach} {b : Nat} {ts : List TypeId} (ha : ∀ u, u ∈ ts → P.underlying u = some (.int .i64)) (hne : 0 < ts.length) : ∀ (l : List Value),
  (∀ (i : Nat) (v : Value), l[i]? = some v → ∃ (j : Nat) (u : TypeId), ts[j]? = some u ∧ Cell.okWide P w r b u v) → ∃ xs : List Int, l = xs.map (Value.int .i64) ∧ ∀ x ∈ xs, I64 x
 | [], _ => ⟨[], rfl, fun x h => by cases h⟩
 | v :: l, h => by
  obtain ⟨xs, h1, h2⟩ := cells_in ha hne l fun i v hv => h (i + 1) v (by simpa using hv)
  obtain ⟨j, u, hu, hc⟩ := h 0 v rfl
  have hU := ha u (List.mem_of_getElem? hu)
  obtain ⟨x, rfl, hx⟩ : ∃ x, v = .int .i64 x ∧ I64 x := by
   simp only [Cell.okWide, hU] at hc
   cases v <;> simp [Cell.ok, hU] at hc
   rename_i k x
   obtain ⟨rfl, hk⟩ := hc
   refine ⟨x, rfl, ?_⟩
   have m0 : IntKind.i64.min = -9223372036854775808 := by decide
   have m1 : IntKind.i64.max = 9223372036854775807 := by decide
   unfold IntKind.has at hk
   rw [m0, m1] at hk
   exact hk
  exact ⟨x :: xs, by rw [h1]; rfl, fun y hy => by
   rcases List.mem_cons.1 hy with rfl | hy
   ·exact hx
   ·exact h2 y hy⟩
theorem ints_in {P : Program} {w : World} {r : Reach} {b : Nat} {t : TypeId} {n : Nat} {v : Value} (hn : 0 < n) (ht : intRow P t n = true) (hv : Value.okWide P w r b t v) : ∃ xs : List Int, v = .agg (xs.map (Value.int .i64)).toArray ∧ xs.length = n ∧ ∀ x ∈ xs, I64 x := by
 unfold intRow at ht
 rw [Bool.and_eq_true, Bool.and_eq_true] at ht
 obtain ⟨⟨hs, hc⟩, hl⟩ := ht
 obtain ⟨cs, rfl, hsz, ts, hts, -, hcell⟩ : ∃ cs, v = .agg cs ∧ cs.size = P.cellsOf t ∧ Row.okWide P w r b t cs := by
  unfold Value.okWide at hv
  split at hv
  ·exact hv
  ·exact hv
  ·rename_i h1 h2
   split at hs
   ·rename_i fs h; exact absurd h (h1 fs)
   ·rename_i m e h; exact absurd h (h2 m e)
   ·cases hs
 rw [hts] at hl
 simp only [Bool.and_eq_true, decide_eq_true_eq, List.all_eq_true] at hl hc
 have ha : ∀ u ∈ ts, P.underlying u = some (.int .i64) := fun u hu => by
  have := hl.2 u hu
  split at this
  ·assumption
  ·cases this
 obtain ⟨xs, h1, h2⟩ := cells_in (P := P) (w := w) (r := r) (b := b) ha (by omega) cs.toList fun i v hv => by
  obtain ⟨u, h3, h4⟩ := hcell i v (by simpa using hv)
  exact ⟨_, u, h3, h4⟩
 have e : cs = (xs.map (Value.int .i64)).toArray := by rw [← h1]
 refine ⟨xs, by rw [e], ?_, h2⟩
 have := congrArg Array.size e
 simp at this; omega
theorem list7 {α : Type} {l : List α} (h : l.length = 7) : ∃ a b c d e f g, l = [a, b, c, d, e, f, g] := by
 match l, h with
 | [a, b, c, d, e, f, g], _ => exact ⟨a, b, c, d, e, f, g, rfl⟩
end Go.Proofs.YthoedmikfpbfnaaGreat
end
