/-
  Texts joined: Reb, Rec, Ree, Rep, Rtt, Rsg, In, Inn. Each says at its head what it shows.
-/
import Derived.OpenShut
import Derived.WideShapes
import Derived.Test.YthoedmikfpbfnaaGreatPGd
section
/-
  How many units lie between two date-times: what the program answers of layer 20.
-/
set_option linter.unusedVariables false
set_option linter.unusedSimpArgs false
set_option maxRecDepth 100000
namespace Go.Proofs.YthoedmikfpbfnaaGreat
open Go Go.RowKit Go.Ev

section
variable (y mo d h m s nn y' mo' d' h' m' s' n' A B C D H M S N e0 v c f1 f2 f3 f4 f5 f6 f7 t1 t2 t3 t4 t5 t6 t7 x1 z1 x2 w2 x3 p q e : Int)
theorem rtot_0 (u : Int) (hu : u = 1 ∨ u = 2) (k : pOk y mo d h m s nn) (k' : pOk y' mo' d' h' m' s' n') (ev : pnum y' mo' d' h' m' s' n' - pnum y mo d h m s nn = 0) (hA : -9000000 ≤ A ∧ A ≤ 9000000) (hB : -9000000 ≤ B ∧ B ≤ 9000000)
    (kb : Fn 42 [] [ptv y mo d h m s nn, ptv y' mo' d' h' m' s' n', .int .i64 u] (.tuple #[duv A B C D H M S N, .int .i64 e0])) : Fn 12 [] [ptv y mo d h m s nn, ptv y' mo' d' h' m' s' n', .int .i64 u] (.tuple #[wz, wv 1, .int .i64 0]) := by
  have kr1 := psince_yes y mo d h m s nn y' mo' d' h' m' s' n' k k'
  rw [ev] at kr1
  have kr2 := rknown_y u (by omega) (by omega)
  have kr3 : Fn 16 [] [wv 0] (.int .i64 0) := wsign_fn 0
  have kr4 := wof_fn 1 (by unfold I64; omega)
  clear k k' ev
  rcases hu with rfl | rfl
  · refine fn_of Tryz.func12 rfl fun ww => ?_
    refine st_fn ent40 (kr1) sub0 (by kernel_rfl) ?_
    refine st_fn ent19 (kr2) sub0 (by kernel_rfl) ?_
    refine st_fn ent42 (kb) sub0 (by kernel_rfl) ?_
    refine st_i 60 .i64 (x' := A + B) (Go.IntWalk.i64_in _ (by omega)) (by kernel_rfl) ?_
    refine st_fn ent16 (kr3) sub0 (by kernel_rfl) ?_
    refine st_fn ent30 (kr4) sub0 (by kernel_rfl) ?_
    exact st_ret Tryz.func12 (by kernel_rfl)
  · refine fn_of Tryz.func12 rfl fun ww => ?_
    refine st_fn ent40 (kr1) sub0 (by kernel_rfl) ?_
    refine st_fn ent19 (kr2) sub0 (by kernel_rfl) ?_
    refine st_fn ent42 (kb) sub0 (by kernel_rfl) ?_
    refine st_i 60 .i64 (x' := A + B) (Go.IntWalk.i64_in _ (by omega)) (by kernel_rfl) ?_
    refine st_fn ent16 (kr3) sub0 (by kernel_rfl) ?_
    refine st_fn ent30 (kr4) sub0 (by kernel_rfl) ?_
    exact st_ret Tryz.func12 (by kernel_rfl)
theorem rtot_e (u : Int) (hu : u = 1 ∧ c = A ∨ u = 2 ∧ c = A + B) (k : pOk y mo d h m s nn) (k' : pOk y' mo' d' h' m' s' n') (hv : v = 1 ∨ v = -1) (ev : cmpI (pnum y' mo' d' h' m' s' n' - pnum y mo d h m s nn) 0 = v) (hA : -9000000 ≤ A ∧ A ≤ 9000000) (hB : -9000000 ≤ B ∧ B ≤ 9000000)
    (kb : Fn 42 [] [ptv y mo d h m s nn, ptv y' mo' d' h' m' s' n', .int .i64 u] (.tuple #[duv A B C D H M S N, .int .i64 e0]))
    (km1 : Fn 7 [] [ptv y mo d h m s nn, .int .i64 c, .int .i64 u] (.tuple #[ptv f1 f2 f3 f4 f5 f6 f7, .int .i64 q])) (km2 : Fn 7 [] [ptv y mo d h m s nn, .int .i64 (c + v), .int .i64 u] (.tuple #[ptv t1 t2 t3 t4 t5 t6 t7, .int .i64 e])) (he : e ≠ 0) :
    Fn 12 [] [ptv y mo d h m s nn, ptv y' mo' d' h' m' s' n', .int .i64 u] (.tuple #[wz, wz, .int .i64 e]) := by
  have kr1 := psince_yes y mo d h m s nn y' mo' d' h' m' s' n' k k'
  have kr2 := rknown_y u (by omega) (by omega)
  have kr3 := wsign_fn (pnum y' mo' d' h' m' s' n' - pnum y mo d h m s nn)
  rw [ev] at kr3
  generalize pnum y' mo' d' h' m' s' n' - pnum y mo d h m s nn = w at *
  clear k k' ev
  have hv0 : v ≠ 0 := by omega
  rcases hu with ⟨rfl, rfl⟩ | ⟨rfl, rfl⟩
  · refine fn_of Tryz.func12 rfl fun ww => ?_
    refine st_fn ent40 (kr1) sub0 (by kernel_rfl) ?_
    refine st_fn ent19 (kr2) sub0 (by kernel_rfl) ?_
    refine st_fn ent42 (kb) sub0 (by kernel_rfl) ?_
    refine st_i 60 .i64 (x' := c + B) (Go.IntWalk.i64_in _ (by omega)) (by kernel_rfl) ?_
    refine st_fn ent16 (kr3) sub0 (by kernel_rfl) ?_
    refine st_b 68 (show (v == 0) = false by exact decide_eq_false (by omega)) (by kernel_rfl) ?_
    refine st_fn ent7 (km1) sub0 (by kernel_rfl) ?_
    refine st_i 82 .i64 (x' := c + v) (Go.IntWalk.i64_in _ (by omega)) (by kernel_rfl) ?_
    refine st_fn ent7 (km2) sub0 (by kernel_rfl) ?_
    refine st_b 88 (show (e != 0) = true by exact bne_iff_ne.2 (by omega)) (by kernel_rfl) ?_
    exact st_ret Tryz.func12 (by kernel_rfl)
  · refine fn_of Tryz.func12 rfl fun ww => ?_
    refine st_fn ent40 (kr1) sub0 (by kernel_rfl) ?_
    refine st_fn ent19 (kr2) sub0 (by kernel_rfl) ?_
    refine st_fn ent42 (kb) sub0 (by kernel_rfl) ?_
    refine st_i 60 .i64 (x' := A + B) (Go.IntWalk.i64_in _ (by omega)) (by kernel_rfl) ?_
    refine st_fn ent16 (kr3) sub0 (by kernel_rfl) ?_
    refine st_b 68 (show (v == 0) = false by exact decide_eq_false (by omega)) (by kernel_rfl) ?_
    refine st_fn ent7 (km1) sub0 (by kernel_rfl) ?_
    refine st_i 82 .i64 (x' := A + B + v) (Go.IntWalk.i64_in _ (by omega)) (by kernel_rfl) ?_
    refine st_fn ent7 (km2) sub0 (by kernel_rfl) ?_
    refine st_b 88 (show (e != 0) = true by exact bne_iff_ne.2 (by omega)) (by kernel_rfl) ?_
    exact st_ret Tryz.func12 (by kernel_rfl)
theorem rtot_m (u : Int) (hu : u = 1 ∧ c = A ∨ u = 2 ∧ c = A + B) (k : pOk y mo d h m s nn) (k' : pOk y' mo' d' h' m' s' n') (hv : v = 1 ∨ v = -1) (ev : cmpI (pnum y' mo' d' h' m' s' n' - pnum y mo d h m s nn) 0 = v) (hA : -9000000 ≤ A ∧ A ≤ 9000000) (hB : -9000000 ≤ B ∧ B ≤ 9000000)
    (kb : Fn 42 [] [ptv y mo d h m s nn, ptv y' mo' d' h' m' s' n', .int .i64 u] (.tuple #[duv A B C D H M S N, .int .i64 e0]))
    (km1 : Fn 7 [] [ptv y mo d h m s nn, .int .i64 c, .int .i64 u] (.tuple #[ptv f1 f2 f3 f4 f5 f6 f7, .int .i64 0])) (km2 : Fn 7 [] [ptv y mo d h m s nn, .int .i64 (c + v), .int .i64 u] (.tuple #[ptv t1 t2 t3 t4 t5 t6 t7, .int .i64 0]))
    (ks1 : Fn 40 [] [ptv f1 f2 f3 f4 f5 f6 f7, ptv y' mo' d' h' m' s' n'] (.tuple #[wv x1, .int .i64 0])) (ks2 : Fn 40 [] [ptv f1 f2 f3 f4 f5 f6 f7, ptv t1 t2 t3 t4 t5 t6 t7] (.tuple #[wv z1, .int .i64 0]))
    (kt1 : Fn 43 [] [wv x1, .int .i64 v] (.tuple #[wv x2, .int .i64 0])) (kt2 : Fn 43 [] [wv z1, .int .i64 c] (.tuple #[wv w2, .int .i64 0])) (kd : Fn 44 [] [wv w2, wv x2] (.tuple #[wv x3, .int .i64 0])) (kf : Fn 41 [] [wv x3, wv z1] (.tuple #[wv p, wv q, .int .i64 e])) :
    Fn 12 [] [ptv y mo d h m s nn, ptv y' mo' d' h' m' s' n', .int .i64 u] (.tuple #[wv p, wv q, .int .i64 e]) := by
  have kr1 := psince_yes y mo d h m s nn y' mo' d' h' m' s' n' k k'
  have kr2 := rknown_y u (by omega) (by omega)
  have kr3 := wsign_fn (pnum y' mo' d' h' m' s' n' - pnum y mo d h m s nn)
  rw [ev] at kr3
  generalize pnum y' mo' d' h' m' s' n' - pnum y mo d h m s nn = w at *
  clear k k' ev
  have hv0 : v ≠ 0 := by omega
  rcases hu with ⟨rfl, rfl⟩ | ⟨rfl, rfl⟩
  · refine fn_of Tryz.func12 rfl fun ww => ?_
    refine st_fn ent40 (kr1) sub0 (by kernel_rfl) ?_
    refine st_fn ent19 (kr2) sub0 (by kernel_rfl) ?_
    refine st_fn ent42 (kb) sub0 (by kernel_rfl) ?_
    refine st_i 60 .i64 (x' := c + B) (Go.IntWalk.i64_in _ (by omega)) (by kernel_rfl) ?_
    refine st_fn ent16 (kr3) sub0 (by kernel_rfl) ?_
    refine st_b 68 (show (v == 0) = false by exact decide_eq_false (by omega)) (by kernel_rfl) ?_
    refine st_fn ent7 (km1) sub0 (by kernel_rfl) ?_
    refine st_i 82 .i64 (x' := c + v) (Go.IntWalk.i64_in _ (by omega)) (by kernel_rfl) ?_
    refine st_fn ent7 (km2) sub0 (by kernel_rfl) ?_
    refine st_fn ent40 (ks1) sub0 (by kernel_rfl) ?_
    refine st_fn ent40 (ks2) sub0 (by kernel_rfl) ?_
    refine st_fn ent43 (kt1) sub0 (by kernel_rfl) ?_
    refine st_fn ent43 (kt2) sub0 (by kernel_rfl) ?_
    refine st_fn ent44 (kd) sub0 (by kernel_rfl) ?_
    refine st_fn ent41 (kf) sub0 (by kernel_rfl) ?_
    exact st_ret Tryz.func12 (by kernel_rfl)
  · refine fn_of Tryz.func12 rfl fun ww => ?_
    refine st_fn ent40 (kr1) sub0 (by kernel_rfl) ?_
    refine st_fn ent19 (kr2) sub0 (by kernel_rfl) ?_
    refine st_fn ent42 (kb) sub0 (by kernel_rfl) ?_
    refine st_i 60 .i64 (x' := A + B) (Go.IntWalk.i64_in _ (by omega)) (by kernel_rfl) ?_
    refine st_fn ent16 (kr3) sub0 (by kernel_rfl) ?_
    refine st_b 68 (show (v == 0) = false by exact decide_eq_false (by omega)) (by kernel_rfl) ?_
    refine st_fn ent7 (km1) sub0 (by kernel_rfl) ?_
    refine st_i 82 .i64 (x' := A + B + v) (Go.IntWalk.i64_in _ (by omega)) (by kernel_rfl) ?_
    refine st_fn ent7 (km2) sub0 (by kernel_rfl) ?_
    refine st_fn ent40 (ks1) sub0 (by kernel_rfl) ?_
    refine st_fn ent40 (ks2) sub0 (by kernel_rfl) ?_
    refine st_fn ent43 (kt1) sub0 (by kernel_rfl) ?_
    refine st_fn ent43 (kt2) sub0 (by kernel_rfl) ?_
    refine st_fn ent44 (kd) sub0 (by kernel_rfl) ?_
    refine st_fn ent41 (kf) sub0 (by kernel_rfl) ?_
    exact st_ret Tryz.func12 (by kernel_rfl)
end
section
variable (u i a b : Int)
theorem rinc_c (h : u ≤ 4) : Fn 48 [] [.int .i64 u, .int .i64 i] (.bool (decide (1 ≤ i ∧ i ≤ 1000000000))) := by
  by_cases q1 : 1 ≤ i
  · by_cases q2 : i ≤ 1000000000
    · rw [decide_eq_true ⟨q1, q2⟩]
      refine fn_of Tryz.func48 rfl fun ww => ?_
      refine st_b 6 (show (decide (u ≤ 4)) = true by exact decide_eq_true (by omega)) (by kernel_rfl) ?_
      refine st_b 8 (show (decide (i ≥ 1)) = true by exact decide_eq_true (by omega)) (by kernel_rfl) ?_
      exact st_retv Tryz.func48 (show Value.bool (decide (i ≤ 1000000000)) = _ by simp_all) (by kernel_rfl)
    · rw [decide_eq_false (fun q => q2 q.2)]
      refine fn_of Tryz.func48 rfl fun ww => ?_
      refine st_b 6 (show (decide (u ≤ 4)) = true by exact decide_eq_true (by omega)) (by kernel_rfl) ?_
      refine st_b 8 (show (decide (i ≥ 1)) = true by exact decide_eq_true (by omega)) (by kernel_rfl) ?_
      exact st_retv Tryz.func48 (show Value.bool (decide (i ≤ 1000000000)) = _ by simp_all) (by kernel_rfl)
  · rw [decide_eq_false (fun q => q1 q.1)]
    refine fn_of Tryz.func48 rfl fun ww => ?_
    refine st_b 6 (show (decide (u ≤ 4)) = true by exact decide_eq_true (by omega)) (by kernel_rfl) ?_
    refine st_b 8 (show (decide (i ≥ 1)) = false by exact decide_eq_false (by omega)) (by kernel_rfl) ?_
    exact st_ret Tryz.func48 (by kernel_rfl)
variable (y mo d h m s n y' mo' d' h' m' s' n' L S' md e A B C D H M S N : Int)
variable (p q d2 w w2 t1 t2 t3 t4 t5 t6 t7 : Int)
theorem rrnd_v (l1 : 1 ≤ L) (l2 : L ≤ S') (l3 : S' ≤ 8) (kinc : Fn 48 [] [.int .i64 S', .int .i64 i] (.bool true)) (m1 : 1 ≤ md) (m2 : md ≤ 9) (ht : Fn 12 [] [ptv y mo d h m s n, ptv y' mo' d' h' m' s' n', .int .i64 S'] (.tuple #[wv p, wv q, .int .i64 0]))
    (hd : Fn 43 [] [wv q, .int .i64 i] (.tuple #[wv d2, .int .i64 0])) (hr : Fn 49 [] [wv p, wv d2, .int .i64 md] (.tuple #[wv w, .int .i64 0])) (hw : Fn 43 [] [wv w, .int .i64 i] (.tuple #[wv w2, .int .i64 0])) (hk : Fn 50 [] [wv w2] (.tuple #[.int .i64 w2, .bool true]))
    (hm : Fn 7 [] [ptv y mo d h m s n, .int .i64 w2, .int .i64 S'] (.tuple #[ptv t1 t2 t3 t4 t5 t6 t7, .int .i64 0])) (hb : Fn 42 [] [ptv y mo d h m s n, ptv t1 t2 t3 t4 t5 t6 t7, .int .i64 L] (.tuple #[duv A B C D H M S N, .int .i64 e])) :
    Fn 14 [] [ptv y mo d h m s n, ptv y' mo' d' h' m' s' n', .int .i64 L, .int .i64 S', .int .i64 i, .int .i64 md] (.tuple #[duv A B C D H M S N, .int .i64 e]) := by
  have kr1 := rknown_y L l1 (by omega)
  have kr2 := rknown_y S' (by omega) l3
  refine fn_of Tryz.func14 rfl fun ww => ?_
  refine st_fn ent19 (kr1) sub0 (by kernel_rfl) ?_
  refine st_fn ent19 (kr2) sub0 (by kernel_rfl) ?_
  refine st_b 33 (show (decide (L > S')) = false by exact decide_eq_false (by omega)) (by kernel_rfl) ?_
  refine st_fn ent48 (kinc) sub0 (by kernel_rfl) ?_
  refine st_b 43 (show (decide (md < 1)) = false by exact decide_eq_false (by omega)) (by kernel_rfl) ?_
  refine st_b 47 (show (decide (md > 9)) = false by exact decide_eq_false (by omega)) (by kernel_rfl) ?_
  refine st_fn ent12 (ht) sub0 (by kernel_rfl) ?_
  refine st_fn ent43 (hd) sub0 (by kernel_rfl) ?_
  refine st_fn ent49 (hr) sub0 (by kernel_rfl) ?_
  refine st_fn ent43 (hw) sub0 (by kernel_rfl) ?_
  refine st_fn ent50 (hk) sub0 (by kernel_rfl) ?_
  refine st_fn ent7 (hm) sub0 (by kernel_rfl) ?_
  refine st_fn ent42 (hb) sub0 (by kernel_rfl) ?_
  exact st_ret Tryz.func14 (by kernel_rfl)
end
end Go.Proofs.YthoedmikfpbfnaaGreat
end
section
/-
  What every right program answers of layer 20; the laws RelativeBack, RelativeExact.
-/
set_option linter.unusedVariables false
set_option linter.unusedSimpArgs false
set_option maxRecDepth 100000
namespace Go.Proofs.YthoedmikfpbfnaaGreat
open Go Go.RowKit Go.Ev

/-- Years and months put to a date-time that lead to a right one. -/
theorem cadm_y (y mo d h m s n a b T : Int) (k : pOk y mo d h m s n) (o : uOk a b 0 0 0 0 0 0) (i : all64 a b 0 0 0 0 0 0) (hT : ymi y mo + (12 * a + b) = T) (q : pOk (lY T) (lM T) (cD (lY T) (lM T) d) h m s n) :
    Fn 26 [] [ptv y mo d h m s n, duv a b 0 0 0 0 0 0, .int .i64 1] (.tuple #[ptv (lY T) (lM T) (cD (lY T) (lM T) d) h m s n, .int .i64 0]) := by
  obtain ⟨b1, b2, -⟩ := uOk_bd o
  have yy := dOk_year k.1
  have tb := tnan_bd k.2.1
  have mv := cmoved_c y mo d (12 * a + b) (0 + 7 * 0 + 0) T (dnum (lY T) (lM T) (cD (lY T) (lM T) d)) hT (by omega) (by omega) k.1.1.1 k.1.1.2.1 (by omega) (by omega) k.1.1.2.2.1 q.1 (by omega) q.1.2.1 q.1.2.2
  rw [(date_of q.1.1).1, (date_of q.1.1).2.1, (date_of q.1.1).2.2] at mv
  obtain ⟨r1, r2, r3, r4⟩ := t_tnan k.2.1
  have z : dtot 0 0 0 0 0 = 0 := rfl
  have := cad_y y mo d h m s n a b 0 0 0 0 0 0 1 _ _ _ 0 (tnan h m s n) i k o (.inl rfl) (by rw [z, Int.fdiv_eq_ediv_of_nonneg _ (by omega)]; omega) (by rw [z, Int.fmod_eq_emod_of_nonneg _ (by omega)]; omega) (by omega) mv (by rw [r1, r2, r3, r4]; exact q)
  rw [r1, r2, r3, r4] at this
  exact this
theorem lday (y m d : Int) : Fn 29 [] [.int .i64 y, .int .i64 m, .int .i64 d] (ptv y m d 0 0 0 0) := by
  refine fn_of Tryz.func29 rfl fun ww => ?_
  exact st_ret Tryz.func29 (by kernel_rfl)
theorem mov20m (y mo d n Y M D : Int) (k : pOk y mo d 0 0 0 0) (r : -4294967295 ≤ n ∧ n ≤ 4294967295) (T : Int) (hT : ymi y mo + (12 * 0 + n) = T) (e1 : lY T = Y) (e2 : lM T = M) (e3 : cD Y M d = D) (q : pOk Y M D 0 0 0 0) : Fn 7 [] [ptv y mo d 0 0 0 0, .int .i64 n, .int .i64 2] (.tuple #[ptv Y M D 0 0 0 0, .int .i64 0]) := by
  subst e1 e2 e3
  obtain ⟨o, i⟩ := uOk_m n r
  exact rmov_2 n y mo d 0 0 0 0 _ _ _ _ _ _ _ 0 k r (cadm_y y mo d 0 0 0 0 0 n T k o i hT q)
theorem mov20y (y mo d n Y M D : Int) (k : pOk y mo d 0 0 0 0) (r : -4294967295 ≤ n ∧ n ≤ 4294967295) (T : Int) (hT : ymi y mo + (12 * n + 0) = T) (e1 : lY T = Y) (e2 : lM T = M) (e3 : cD Y M d = D) (q : pOk Y M D 0 0 0 0) : Fn 7 [] [ptv y mo d 0 0 0 0, .int .i64 n, .int .i64 1] (.tuple #[ptv Y M D 0 0 0 0, .int .i64 0]) := by
  subst e1 e2 e3
  obtain ⟨o, i⟩ := uOk_y n r
  exact rmov_1 n y mo d 0 0 0 0 _ _ _ _ _ _ _ 0 k r (cadm_y y mo d 0 0 0 0 n 0 T k o i hT q)
theorem since20 (y mo d y' mo' d' x : Int) (k : pOk y mo d 0 0 0 0) (k' : pOk y' mo' d' 0 0 0 0) (e : pnum y' mo' d' 0 0 0 0 - pnum y mo d 0 0 0 0 = x) : Fn 40 [] [ptv y mo d 0 0 0 0, ptv y' mo' d' 0 0 0 0] (.tuple #[wv x, .int .i64 0]) := by
  subst e; exact psince_yes y mo d 0 0 0 0 y' mo' d' 0 0 0 0 k k'
theorem bet20 (y mo d y' mo' d' L A B C D : Int) (k : pOk y mo d 0 0 0 0) (k' : pOk y' mo' d' 0 0 0 0) (l1 : 1 ≤ L) (l2 : L ≤ 4) (hE : bD y mo d 0 0 0 0 y' mo' d' 0 0 0 0 = dnum y' mo' d') (hZ : bZ y mo d 0 0 0 0 y' mo' d' 0 0 0 0 = 0) (e1 : uY L y mo d y' mo' d' = A) (e2 : uMo L y mo d y' mo' d' = B) (e3 : uW L y mo d y' mo' d' = C) (e4 : uD L y mo d y' mo' d' = D) :
    Fn 42 [] [ptv y mo d 0 0 0 0, ptv y' mo' d' 0 0 0 0, .int .i64 L] (.tuple #[duv A B C D 0 0 0 0, .int .i64 0]) := by
  have := cbet y mo d 0 0 0 0 y' mo' d' 0 0 0 0 L _ _ k k' l1 l2 hE hZ
  rw [(date_of k'.1.1).1, (date_of k'.1.1).2.1, (date_of k'.1.1).2.2, e1, e2, e3, e4] at this
  exact this
theorem frac20 (n d p q : Int) (hn : W128 n) (hd : W128 d) (k : fOk n d) (e1 : frP n d = p) (e2 : frQ n d = q) : Fn 41 [] [wv n, wv d] (.tuple #[wv p, wv q, .int .i64 0]) := by
  subst e1 e2; exact frac_f n d hn hd k
theorem times20 (v n x : Int) (hv : W128 v) (hn : I64 n) (e : v * n = x) (h : W128 x) : Fn 43 [] [wv v, .int .i64 n] (.tuple #[wv x, .int .i64 0]) := by
  subst e; exact wtimes_f v n hv hn h
theorem add20 (v n x : Int) (hv : W128 v) (hn : W128 n) (e : v + n = x) (h : W128 x) : Fn 44 [] [wv v, wv n] (.tuple #[wv x, .int .i64 0]) := by
  subst e; exact wadd_yes v n hv hn h
theorem ratio20 (n d mode x : Int) (hn : W128 n) (hd : W128 d) (h0 : d ≠ 0) (h1 : 1 ≤ mode) (h2 : mode ≤ 9) (e : nearQ (nN n d) (nD d) mode = x) (h : W128 x) : Fn 49 [] [wv n, wv d, .int .i64 mode] (.tuple #[wv x, .int .i64 0]) := by
  have := ratio_any n d mode hn hd h0 h1 h2
  rwa [e, rtv_yes h] at this
theorem w20in {x : Int} (h : -1000000000000000000000000 ≤ x ∧ x ≤ 1000000000000000000000000) : W128 x := by unfold W128; omega
theorem alive20 : Fn 9 [] [] (.bool true) := by
  have i44 : I64 44 := by unfold I64; omega
  have i29 : I64 29 := by unfold I64; omega
  have i1 : I64 1 := by unfold I64; omega
  have at1 := rtot_m 2020 1 1 0 0 0 0 2020 2 16 0 0 0 0 0 1 0 15 0 0 0 0 0 1 1 2020 2 1 0 0 0 0 2020 3 1 0 0 0 0 1296000000000000 2505600000000000 1296000000000000 2505600000000000 3801600000000000 44 29 0 2 (.inr ⟨rfl, rfl⟩) (by decide +kernel) (by decide +kernel) (.inl rfl) (by decide +kernel) (by decide) (by decide)
    (bet20 2020 1 1 2020 2 16 2 0 1 0 15 (by decide +kernel) (by decide +kernel) (by decide) (by decide) (by decide +kernel) (by decide +kernel) (by decide +kernel) (by decide +kernel) (by decide +kernel) (by decide +kernel))
    (mov20m 2020 1 1 1 2020 2 1 (by decide +kernel) (by decide) 24241 (by decide) (by decide) (by decide) (by decide +kernel) (by decide +kernel)) (mov20m 2020 1 1 2 2020 3 1 (by decide +kernel) (by decide) 24242 (by decide) (by decide) (by decide) (by decide +kernel) (by decide +kernel))
    (since20 2020 2 1 2020 2 16 _ (by decide +kernel) (by decide +kernel) (by decide +kernel)) (since20 2020 2 1 2020 3 1 _ (by decide +kernel) (by decide +kernel) (by decide +kernel))
    (times20 _ 1 _ (w20in (by decide)) i1 (by decide) (w20in (by decide))) (times20 _ 1 _ (w20in (by decide)) i1 (by decide) (w20in (by decide))) (add20 _ _ _ (w20in (by decide)) (w20in (by decide)) (by decide) (w20in (by decide))) (frac20 _ _ _ _ (w20in (by decide)) (w20in (by decide)) (by decide +kernel) (by decide +kernel) (by decide +kernel))
  have at2 := rtot_m 2020 1 1 0 0 0 0 2021 7 2 0 0 0 0 1 6 0 1 0 0 0 0 0 1 1 2021 1 1 0 0 0 0 2022 1 1 0 0 0 0 15724800000000000 31536000000000000 15724800000000000 31536000000000000 47260800000000000 547 365 0 1 (.inl ⟨rfl, rfl⟩) (by decide +kernel) (by decide +kernel) (.inl rfl) (by decide +kernel) (by decide) (by decide)
    (bet20 2020 1 1 2021 7 2 1 1 6 0 1 (by decide +kernel) (by decide +kernel) (by decide) (by decide) (by decide +kernel) (by decide +kernel) (by decide +kernel) (by decide +kernel) (by decide +kernel) (by decide +kernel))
    (mov20y 2020 1 1 1 2021 1 1 (by decide +kernel) (by decide) 24252 (by decide) (by decide) (by decide) (by decide +kernel) (by decide +kernel)) (mov20y 2020 1 1 2 2022 1 1 (by decide +kernel) (by decide) 24264 (by decide) (by decide) (by decide) (by decide +kernel) (by decide +kernel))
    (since20 2021 1 1 2021 7 2 _ (by decide +kernel) (by decide +kernel) (by decide +kernel)) (since20 2021 1 1 2022 1 1 _ (by decide +kernel) (by decide +kernel) (by decide +kernel))
    (times20 _ 1 _ (w20in (by decide)) i1 (by decide) (w20in (by decide))) (times20 _ 1 _ (w20in (by decide)) i1 (by decide) (w20in (by decide))) (add20 _ _ _ (w20in (by decide)) (w20in (by decide)) (by decide) (w20in (by decide))) (frac20 _ _ _ _ (w20in (by decide)) (w20in (by decide)) (by decide +kernel) (by decide +kernel) (by decide +kernel))
  have ai := rinc_c 1 1 (by decide)
  rw [show decide ((1 : Int) ≤ 1 ∧ (1 : Int) ≤ 1000000000) = true by decide] at ai
  have at3 := rrnd_v 1 2020 1 1 0 0 0 0 2021 7 2 0 0 0 0 1 1 7 0 1 0 0 0 0 0 0 0 547 365 365 1 1 2021 1 1 0 0 0 0 (by decide) (by decide) (by decide) ai (by decide) (by decide) at2
    (times20 _ 1 _ (w20in (by decide)) i1 (by decide) (w20in (by decide))) (ratio20 _ _ _ _ (w20in (by decide)) (w20in (by decide)) (by decide) (by decide) (by decide) (by decide +kernel) (w20in (by decide))) (times20 _ 1 _ (w20in (by decide)) i1 (by decide) (w20in (by decide))) (wint_f 1 i1)
    (mov20y 2020 1 1 1 2021 1 1 (by decide +kernel) (by decide) 24252 (by decide) (by decide) (by decide) (by decide +kernel) (by decide +kernel))
    (bet20 2020 1 1 2021 1 1 1 1 0 0 0 (by decide +kernel) (by decide +kernel) (by decide) (by decide) (by decide +kernel) (by decide +kernel) (by decide +kernel) (by decide +kernel) (by decide +kernel) (by decide +kernel))
  have at4 := mov20m 2020 1 31 1 2020 2 29 (by decide +kernel) (by decide) 24241 (by decide) (by decide) (by decide) (by decide +kernel) (by decide +kernel)
  clear at2 ai
  refine fn_of Tryz.func9 rfl fun ww => ?_
  refine st_fn ent29 (lday (2020) (1) (1)) sub0 (by kernel_rfl) ?_
  refine st_fn ent29 (lday (2020) (2) (16)) sub0 (by kernel_rfl) ?_
  refine st_fn ent12 (at1) sub0 (by kernel_rfl) ?_
  refine st_fn ent29 (lday (2020) (1) (1)) sub0 (by kernel_rfl) ?_
  refine st_fn ent29 (lday (2021) (7) (2)) sub0 (by kernel_rfl) ?_
  refine st_fn ent14 (at3) sub0 (by kernel_rfl) ?_
  refine st_fn ent29 (lday (2020) (1) (31)) sub0 (by kernel_rfl) ?_
  refine st_fn ent7 (at4) sub0 (by kernel_rfl) ?_
  refine st_fn ent30 (wof_fn (44) (by assumption)) sub0 (by kernel_rfl) ?_
  refine st_fn ent30 (wof_fn (29) (by assumption)) sub0 (by kernel_rfl) ?_
  refine st_fn ent29 (lday (2020) (2) (29)) sub0 (by kernel_rfl) ?_
  exact st_ret Tryz.func9 (by kernel_rfl)
/-! back -/
/-! exact -/
end Go.Proofs.YthoedmikfpbfnaaGreat
end
section
/-
  How many units lie between two date-times: what the reference answers of layer 20.
-/
set_option linter.unusedVariables false
set_option linter.unusedSimpArgs false
set_option maxRecDepth 100000
namespace Go.Proofs.YthoedmikfpbfnaaGreat
open Go Go.RowKit Go.Ev

section
variable (y mo d h m s nn y' mo' d' h' m' s' n' u A B C D H M S N v c f1 f2 f3 f4 f5 f6 f7 t1 t2 t3 t4 t5 t6 t7 e : Int)
theorem rsigns_v (p q : Int) (kt : Fn 12 [] [ptv y mo d h m s nn, ptv y' mo' d' h' m' s' n', .int .i64 u] (.tuple #[wv p, wv q, .int .i64 0])) (kw1 : Fn 16 [] [wv p] (.int .i64 v)) (kc : Fn 17 [] [ptv y' mo' d' h' m' s' n', ptv y mo d h m s nn] (.int .i64 v)) (kw2 : Fn 16 [] [wv q] (.int .i64 1)) :
    Fn 6 [] [ptv y mo d h m s nn, ptv y' mo' d' h' m' s' n', .int .i64 u] (.bool true) := by
  refine fn_of Tryz.func6 rfl fun ww => ?_
  refine st_fn ent12 (kt) sub0 (by kernel_rfl) ?_
  refine st_fn ent9 (alive20) sub0 (by kernel_rfl) ?_
  refine st_fn ent16 (kw1) sub0 (by kernel_rfl) ?_
  refine st_fn ent17 (kc) sub0 (by kernel_rfl) ?_
  refine st_b 40 (show (v == v) = true by exact decide_eq_true (by omega)) (by kernel_rfl) ?_
  refine st_fn ent16 (kw2) sub0 (by kernel_rfl) ?_
  exact st_ret Tryz.func6 (by kernel_rfl)
theorem rsigns_e (kt : Fn 12 [] [ptv y mo d h m s nn, ptv y' mo' d' h' m' s' n', .int .i64 u] (.tuple #[wz, wz, .int .i64 e])) (q : e = 1 ∨ e = 4 ∧ u ≤ 2) : Fn 6 [] [ptv y mo d h m s nn, ptv y' mo' d' h' m' s' n', .int .i64 u] (.bool true) := by
  rcases q with rfl | ⟨rfl, q⟩
  · refine fn_of Tryz.func6 rfl fun ww => ?_
    refine st_fn ent12 (kt) sub0 (by kernel_rfl) ?_
    refine st_fn ent9 (alive20) sub0 (by kernel_rfl) ?_
    exact st_ret Tryz.func6 (by kernel_rfl)
  · refine fn_of Tryz.func6 rfl fun ww => ?_
    refine st_fn ent12 (kt) sub0 (by kernel_rfl) ?_
    refine st_fn ent9 (alive20) sub0 (by kernel_rfl) ?_
    exact st_retv Tryz.func6 (show Value.bool (decide (u ≤ 2)) = _ by simp_all) (by kernel_rfl)
end
end Go.Proofs.YthoedmikfpbfnaaGreat
end
section
/-
  Whole years or months between two date-times: where they lead, by the program and by the reference.
-/
set_option linter.unusedVariables false
set_option linter.unusedSimpArgs false
set_option maxRecDepth 100000
namespace Go.Proofs.YthoedmikfpbfnaaGreat
open Go Go.RowKit Go.Ev

theorem cdn_lt {T1 T2 d : Int} (h : T1 < T2) (d1 : 1 ≤ d) : dnum (lY T1) (lM T1) (cD (lY T1) (lM T1) d) < dnum (lY T2) (lM T2) (cD (lY T2) (lM T2) d) := by
  obtain ⟨a1, a2, a3⟩ := ymi_l T1
  obtain ⟨b1, b2, b3⟩ := ymi_l T2
  refine dnum_lt (cD_in a2 a3 d1) (cD_in b2 b3 d1) ?_
  unfold ymi at a1 b1; omega
theorem cdn_le {T1 T2 d : Int} (h : T1 ≤ T2) (d1 : 1 ≤ d) : dnum (lY T1) (lM T1) (cD (lY T1) (lM T1) d) ≤ dnum (lY T2) (lM T2) (cD (lY T2) (lM T2) d) := by
  rcases Int.lt_or_eq_of_le h with q | q
  · exact Int.le_of_lt (cdn_lt q d1)
  · rw [q]; exact Int.le_refl _
theorem cdn_same {y m d : Int} (h : dIn y m d) : dnum (lY (ymi y m)) (lM (ymi y m)) (cD (lY (ymi y m)) (lM (ymi y m)) d) = dnum y m d := by
  rw [(l_ymi h.1 h.2.1).1, (l_ymi h.1 h.2.1).2, cD_same h]
section
variable (y mo d h m s nn a b T : Int)
variable (u c : Int)
/-- So many months to a unit. -/
def um (u : Int) : Int := if u = 1 then 12 else 1
end
section
variable (y mo d h m s n y' mo' d' h' m' s' n' u E Z : Int)
/-- The whole years or months that lie between. -/
def uc (u y mo d y' mo' d' : Int) : Int := if u = 1 then uY u y mo d y' mo' d' else uMo u y mo d y' mo' d'
/-- Where the whole years or months between two date-times lead: a day that lies between them. -/
theorem tot_from (hu : u = 1 ∨ u = 2) (k : pOk y mo d h m s n) (k' : pOk y' mo' d' h' m' s' n') (hE : bD y mo d h m s n y' mo' d' h' m' s' n' = E) (hZ : bZ y mo d h m s n y' mo' d' h' m' s' n' = Z) (c T v : Int) (hc : uc u y mo d (dY E) (dM E) (dD E) = c) (hT : ymi y mo + um u * c = T)
    (hv : v = 1 ∨ v = -1) (ev : cmpI (pnum y' mo' d' h' m' s' n' - pnum y mo d h m s n) 0 = v) :
    pOk (lY T) (lM T) (cD (lY T) (lM T) d) h m s n ∧ 0 ≤ v * c ∧ 0 ≤ v * (pnum y' mo' d' h' m' s' n' - pnum (lY T) (lM T) (cD (lY T) (lM T) d) h m s n) ∧ (-9000000 ≤ c ∧ c ≤ 9000000) ∧ (c = 0 → pnum (lY T) (lM T) (cD (lY T) (lM T) d) h m s n = pnum y mo d h m s n) := by
  obtain ⟨i1, i2, i3, i4, -⟩ := bt_in k k'
  obtain ⟨d1, d2⟩ := bt_date k k'
  rw [hE] at i1 d1 d2 i3 i4
  rw [hZ] at i2 i3 i4
  have l1 : 1 ≤ u := by omega
  have l2 : u ≤ 4 := by omega
  obtain ⟨c1, c2, -, -, b5, -⟩ := uv_bd k.1 d1 l1 l2
  obtain ⟨u1, u2⟩ := until_back k.1 d1 l1 l2
  have sn := uS_num k.1.1 d1.1
  rw [d2] at sn u2
  have tr : cmpI E (dnum y mo d) = 1 ∧ dnum y mo d < E ∨ cmpI E (dnum y mo d) = 0 ∧ E = dnum y mo d ∨ cmpI E (dnum y mo d) = -1 ∧ E < dnum y mo d := by
    unfold cmpI; split <;> (try split) <;> omega
  rw [sn] at b5
  have w0 : uW u y mo d (dY E) (dM E) (dD E) = 0 := by unfold uW; rw [if_neg (by omega)]
  -- the months to which all years and months lead
  obtain ⟨TN, hTN⟩ : ∃ TN, ymi y mo + (12 * uY u y mo d (dY E) (dM E) (dD E) + uMo u y mo d (dY E) (dM E) (dD E)) = TN := ⟨_, rfl⟩
  rw [hTN] at u1 u2
  have hM : um u * c = 12 * uY u y mo d (dY E) (dM E) (dD E) ∧ u = 1 ∧ c = uY u y mo d (dY E) (dM E) (dD E) ∨ um u * c = uMo u y mo d (dY E) (dM E) (dD E) ∧ uY u y mo d (dY E) (dM E) (dD E) = 0 ∧ c = uMo u y mo d (dY E) (dM E) (dD E) := by
    rcases hu with rfl | rfl
    · left; refine ⟨by rw [← hc]; rfl, rfl, by rw [← hc]; rfl⟩
    · right; refine ⟨by rw [← hc]; show 1 * uMo 2 y mo d (dY E) (dM E) (dD E) = _; omega, rfl, by rw [← hc]; rfl⟩
  have s0 := cdn_same k.1.1
  have d01 := k.1.1.2.2.1
  have le1 : T ≤ TN → dnum (lY T) (lM T) (cD (lY T) (lM T) d) ≤ dnum (lY TN) (lM TN) (cD (lY TN) (lM TN) d) := fun q => cdn_le q d01
  have le2 : TN ≤ T → dnum (lY TN) (lM TN) (cD (lY TN) (lM TN) d) ≤ dnum (lY T) (lM T) (cD (lY T) (lM T) d) := fun q => cdn_le q d01
  have le3 : T ≤ ymi y mo → dnum (lY T) (lM T) (cD (lY T) (lM T) d) ≤ dnum y mo d := fun q => by have := cdn_le q d01; rwa [s0] at this
  have le4 : ymi y mo ≤ T → dnum y mo d ≤ dnum (lY T) (lM T) (cD (lY T) (lM T) d) := fun q => by have := cdn_le q d01; rwa [s0] at this
  have din := cD_in (y := lY T) (d := d) (ymi_l T).2.1 (ymi_l T).2.2 d01
  have pa := pOk_in k
  have pb := pOk_in k'
  have tb := tnan_bd k.2.1
  have k3 := k.2.2
  have kd := k.1.2
  have e1 : pnum (lY T) (lM T) (cD (lY T) (lM T) d) h m s n = dnum (lY T) (lM T) (cD (lY T) (lM T) d) * 86400000000000 + tnan h m s n := rfl
  have e2 : pnum y mo d h m s n = dnum y mo d * 86400000000000 + tnan h m s n := rfl
  rw [e1]
  have cv : cmpI (pnum y' mo' d' h' m' s' n' - pnum y mo d h m s n) 0 = 1 ∧ 0 < pnum y' mo' d' h' m' s' n' - pnum y mo d h m s n ∨ cmpI (pnum y' mo' d' h' m' s' n' - pnum y mo d h m s n) 0 = -1 ∧ pnum y' mo' d' h' m' s' n' - pnum y mo d h m s n < 0 ∨ cmpI (pnum y' mo' d' h' m' s' n' - pnum y mo d h m s n) 0 = 0 := by
    unfold cmpI; split <;> (try split) <;> omega
  rw [ev] at cv
  unfold pIn at pa pb
  generalize uY u y mo d (dY E) (dM E) (dD E) = A at *
  generalize uMo u y mo d (dY E) (dM E) (dD E) = B at *
  generalize uW u y mo d (dY E) (dM E) (dD E) = C at *
  generalize uD u y mo d (dY E) (dM E) (dD E) = D at *
  generalize pnum y' mo' d' h' m' s' n' = p' at *
  generalize pnum y mo d h m s n = p at *
  generalize dnum (lY TN) (lM TN) (cD (lY TN) (lM TN) d) = FN at *
  generalize cmpI E (dnum y mo d) = w at *
  generalize uS y mo d y' mo' d' = w' at *
  have core : (v = 1 ∧ dnum y mo d ≤ dnum (lY T) (lM T) (cD (lY T) (lM T) d) ∧ dnum (lY T) (lM T) (cD (lY T) (lM T) d) ≤ E ∧ 0 ≤ Z ∧ 0 ≤ c) ∨ (v = -1 ∧ E ≤ dnum (lY T) (lM T) (cD (lY T) (lM T) d) ∧ dnum (lY T) (lM T) (cD (lY T) (lM T) d) ≤ dnum y mo d ∧ Z ≤ 0 ∧ c ≤ 0) := by
    generalize dnum (lY T) (lM T) (cD (lY T) (lM T) d) = F at *
    generalize dnum y mo d = f at *
    have hz : (v = 1 → f ≤ E ∧ 0 ≤ Z) ∧ (v = -1 → E ≤ f ∧ Z ≤ 0) := by
      constructor
      · intro q; rcases i4 with j | j | j <;> omega
      · intro q; rcases i4 with j | j | j <;> omega
    rcases hv with rfl | rfl
    · left
      obtain ⟨q1, q2⟩ := hz.1 rfl
      have ab : 0 ≤ A ∧ 0 ≤ B ∧ 0 ≤ D := by rcases b5 with j | j | j <;> omega
      have cc : 0 ≤ c ∧ 0 ≤ um u * c ∧ um u * c ≤ 12 * A + B := by rcases hM with j | j <;> omega
      generalize um u * c = q at *
      have g1 := le4 (by omega)
      have g2 := le1 (by omega)
      omega
    · right
      obtain ⟨q1, q2⟩ := hz.2 rfl
      have ab : A ≤ 0 ∧ B ≤ 0 ∧ D ≤ 0 := by rcases b5 with j | j | j <;> omega
      have cc : c ≤ 0 ∧ um u * c ≤ 0 ∧ 12 * A + B ≤ um u * c := by rcases hM with j | j <;> omega
      generalize um u * c = q at *
      have g1 := le3 (by omega)
      have g2 := le2 (by omega)
      omega
  have cb : -9000000 ≤ c ∧ c ≤ 9000000 := by rcases hM with j | j <;> omega
  have cz : c = 0 → dnum (lY T) (lM T) (cD (lY T) (lM T) d) = dnum y mo d := fun q => by
    rw [q, Int.mul_zero] at hT
    have := le3 (by omega)
    have := le4 (by omega)
    omega
  refine ⟨⟨⟨din, by omega, by omega⟩, k.2.1, fun q => ?_⟩, by rcases core with ⟨rfl, j⟩ | ⟨rfl, j⟩ <;> omega, by rcases core with ⟨rfl, j⟩ | ⟨rfl, j⟩ <;> omega, cb, fun q => by have := cz q; omega⟩
  rcases core with ⟨rfl, j⟩ | ⟨rfl, j⟩
  · exact k3 ⟨by omega, q.2⟩
  · omega
end
end Go.Proofs.YthoedmikfpbfnaaGreat
end
section
/-
  How many units lie between two date-times, by the program and by the reference; what sign it has.
-/
set_option linter.unusedVariables false
set_option linter.unusedSimpArgs false
set_option maxRecDepth 100000
namespace Go.Proofs.YthoedmikfpbfnaaGreat
open Go Go.RowKit Go.Ev

theorem fr_le (n d : Int) : -(n.natAbs : Int) ≤ frP n d ∧ frP n d ≤ n.natAbs ∧ 0 ≤ frQ n d ∧ frQ n d ≤ d.natAbs := by
  unfold frP frQ wsg
  have h1 := Nat.div_le_self n.natAbs (Nat.gcd n.natAbs d.natAbs)
  have h2 := Nat.div_le_self d.natAbs (Nat.gcd n.natAbs d.natAbs)
  generalize n.natAbs / Nat.gcd n.natAbs d.natAbs = X at *
  generalize d.natAbs / Nat.gcd n.natAbs d.natAbs = Y at *
  split <;> omega
theorem fr_neg (n d : Int) (h0 : d ≠ 0) : frP (-n) (-d) = frP n d ∧ frQ (-n) (-d) = frQ n d := by
  unfold frP frQ
  rw [Int.natAbs_neg, Int.natAbs_neg]
  refine ⟨?_, rfl⟩
  by_cases z : n = 0
  · subst z
    unfold wsg
    simp
  · have e1 : decide (-n < 0) = !decide (n < 0) := by
      by_cases q : n < 0
      · rw [decide_eq_true q, decide_eq_false (by omega)]; rfl
      · rw [decide_eq_false q, decide_eq_true (by omega)]; rfl
    have e2 : decide (-d < 0) = !decide (d < 0) := by
      by_cases q : d < 0
      · rw [decide_eq_true q, decide_eq_false (by omega)]; rfl
      · rw [decide_eq_false q, decide_eq_true (by omega)]; rfl
    rw [e1, e2]
    cases decide (n < 0) <;> cases decide (d < 0) <;> rfl
theorem mul_bd {c d C D : Int} (hc : -C ≤ c ∧ c ≤ C) (hd : -D ≤ d ∧ d ≤ D) : -(C * D) ≤ c * d ∧ c * d ≤ C * D := by
  have h1 : c.natAbs ≤ C.toNat := by omega
  have h2 : d.natAbs ≤ D.toNat := by omega
  have h3 := Nat.mul_le_mul h1 h2
  rw [← Int.natAbs_mul] at h3
  have h4 : ((C.toNat * D.toNat : Nat) : Int) = C * D := by
    rw [Int.natCast_mul, Int.toNat_of_nonneg (by omega), Int.toNat_of_nonneg (by omega)]
  omega
theorem fr_okS {x z : Int} (h0 : z ≠ 0) (hx : -1000000000000000000000000000000000000 ≤ x ∧ x ≤ 1000000000000000000000000000000000000) (hz : -1000000000000000000000000000000000000 ≤ z ∧ z ≤ 1000000000000000000000000000000000000) : fOk x z := by
  have := fr_le x z
  exact ⟨h0, by unfold W128; omega, by unfold W128; omega⟩
theorem cmpI_sub20 (a b P : Int) (h : a - b = P) : cmpI P 0 = cmpI a b := by
  unfold cmpI; split <;> (try split) <;> (try split) <;> (try split) <;> omega
/-- A fraction's sign is that of the number above. -/
theorem fr_sign (x : Int) {z : Int} (h0 : 0 < z) : cmpI (frP x z) 0 = cmpI x 0 ∧ cmpI (frQ x z) 0 = 1 := by
  obtain ⟨G, X, Y, hG, g0, e1, e2, y0, p, q⟩ := fr_scale x (show z ≠ 0 by omega)
  rw [p, q]
  refine ⟨?_, cmpI_gt (by omega)⟩
  rw [decide_eq_false (show ¬ z < 0 by omega)]
  unfold wsg
  by_cases n : x < 0
  · rw [decide_eq_true n]
    have : X ≠ 0 := fun w => by rw [w] at e1; omega
    rw [if_pos (by rfl), cmpI_lt n, cmpI_lt (by omega)]
  · rw [decide_eq_false n, if_neg (by decide)]
    rcases Nat.eq_zero_or_pos X with w | w
    · have : x = 0 := by rw [w] at e1; omega
      rw [w, this]; rfl
    · have : 0 < x := by
        have := Nat.mul_pos g0 w
        omega
      rw [cmpI_gt (show (X : Int) > 0 by omega), cmpI_gt this]
end Go.Proofs.YthoedmikfpbfnaaGreat
end
section
/-
  The law RelativeSigns (the program alone).
-/
set_option linter.unusedVariables false
set_option linter.unusedSimpArgs false
set_option maxRecDepth 100000
namespace Go.Proofs.YthoedmikfpbfnaaGreat
open Go Go.RowKit Go.Ev

section
variable (y mo d h m s nn a b T : Int)
/-- Years and months put to a date-time, by the program. -/
theorem adm_p (k : pOk y mo d h m s nn) (o : uOk a b 0 0 0 0 0 0) (i : all64 a b 0 0 0 0 0 0) (hT : ymi y mo + (12 * a + b) = T) :
    (pOk (lY T) (lM T) (cD (lY T) (lM T) d) h m s nn ∧ Fn 26 [] [ptv y mo d h m s nn, duv a b 0 0 0 0 0 0, .int .i64 1] (.tuple #[ptv (lY T) (lM T) (cD (lY T) (lM T) d) h m s nn, .int .i64 0])) ∨
    (¬ pOk (lY T) (lM T) (cD (lY T) (lM T) d) h m s nn ∧ Fn 26 [] [ptv y mo d h m s nn, duv a b 0 0 0 0 0 0, .int .i64 1] (.tuple #[pt0, .int .i64 4])) := by
  obtain ⟨b1, b2, -⟩ := uOk_bd o
  have yy := dOk_year k.1
  have tb := tnan_bd k.2.1
  have z : dtot 0 0 0 0 0 = 0 := rfl
  have hQ : (tnan h m s nn + dtot 0 0 0 0 0).fdiv 86400000000000 = 0 := by rw [z, Int.fdiv_eq_ediv_of_nonneg _ (by omega)]; omega
  have hR : (tnan h m s nn + dtot 0 0 0 0 0).fmod 86400000000000 = tnan h m s nn := by rw [z, Int.fmod_eq_emod_of_nonneg _ (by omega)]; omega
  have hT' := hT
  unfold ymi at hT'
  have lc := clater y mo d (12 * a + b) T (by omega) (by omega) (by omega) k.1.1.1 k.1.1.2.1 (by omega) (by omega)
  obtain ⟨r1, r2, r3, r4⟩ := t_tnan k.2.1
  by_cases q : dOk (lY T) (lM T) (cD (lY T) (lM T) d)
  · have mv := cmoved_c y mo d (12 * a + b) (0 + 7 * 0 + 0) T (dnum (lY T) (lM T) (cD (lY T) (lM T) d)) hT (by omega) (by omega) k.1.1.1 k.1.1.2.1 (by omega) (by omega) k.1.1.2.2.1 q (by omega) q.2.1 q.2.2
    rw [(date_of q.1).1, (date_of q.1).2.1, (date_of q.1).2.2] at mv
    by_cases p : pOk (lY T) (lM T) (cD (lY T) (lM T) d) h m s nn
    · exact .inl ⟨p, cadm_y y mo d h m s nn a b T k o i hT p⟩
    · exact .inr ⟨p, cad_n y mo d h m s nn a b 0 0 0 0 0 0 1 _ _ _ 0 (tnan h m s nn) i k o (.inl rfl) hQ hR (by omega) mv (by rw [r1, r2, r3, r4]; exact p)⟩
  · refine .inr ⟨fun p => q p.1, ?_⟩
    exact cad_e y mo d h m s nn a b 0 0 0 0 0 0 1 4 0 (tnan h m s nn) i k o (.inl rfl) hQ hR (by omega) (cmov_e y mo d (0 + 7 * 0 + 0) T 1 (12 * a + b) 4 lc (creg_cn (lY T) (lM T) d (ymi_l T).2.1 (ymi_l T).2.2 k.1.1.2.2.1 q) (by decide)) (by decide)
variable (u c : Int)
theorem mvm_p (hu : u = 1 ∨ u = 2) (k : pOk y mo d h m s nn) (r : -4294967295 ≤ c ∧ c ≤ 4294967295) (hT : ymi y mo + um u * c = T) :
    (pOk (lY T) (lM T) (cD (lY T) (lM T) d) h m s nn ∧ Fn 7 [] [ptv y mo d h m s nn, .int .i64 c, .int .i64 u] (.tuple #[ptv (lY T) (lM T) (cD (lY T) (lM T) d) h m s nn, .int .i64 0])) ∨
    (¬ pOk (lY T) (lM T) (cD (lY T) (lM T) d) h m s nn ∧ Fn 7 [] [ptv y mo d h m s nn, .int .i64 c, .int .i64 u] (.tuple #[pt0, .int .i64 4])) := by
  rcases hu with rfl | rfl
  · obtain ⟨o, i⟩ := uOk_y c r
    have hT' : ymi y mo + (12 * c + 0) = T := by rw [← hT]; show _ = ymi y mo + 12 * c; omega
    rcases adm_p y mo d h m s nn c 0 T k o i hT' with ⟨p, a1⟩ | ⟨p, a1⟩
    · exact .inl ⟨p, rmov_1 c y mo d h m s nn _ _ _ _ _ _ _ 0 k r a1⟩
    · exact .inr ⟨p, rmov_1 c y mo d h m s nn _ _ _ _ _ _ _ 4 k r a1⟩
  · obtain ⟨o, i⟩ := uOk_m c r
    have hT' : ymi y mo + (12 * 0 + c) = T := by rw [← hT]; show _ = ymi y mo + 1 * c; omega
    rcases adm_p y mo d h m s nn 0 c T k o i hT' with ⟨p, a1⟩ | ⟨p, a1⟩
    · exact .inl ⟨p, rmov_2 c y mo d h m s nn _ _ _ _ _ _ _ 0 k r a1⟩
    · exact .inr ⟨p, rmov_2 c y mo d h m s nn _ _ _ _ _ _ _ 4 k r a1⟩
end
/-- A fraction, from the quotient that is known alone. -/
theorem frac_s (n d : Int) (hn : W128 n) (hd : W128 d) (hk : fOk n d) : Fn 41 [] [wv n, wv d] (.tuple #[wv (frP n d), wv (frQ n d), .int .i64 0]) := fun w _ => (dfrac_yes n d w hn hd hk.1 hk.2.1 hk.2.2).mono fun e w' ⟨h1, h2⟩ => ⟨by
  rw [h1, fv_yes hk, fv_yes hk, fv_yes hk, fv_yes hk, fe_yes hk], h2⟩
section
variable (y mo d h m s n y' mo' d' h' m' s' n' u : Int)
/-- How many units lie between: the program's and the reference's fraction, or both refuse. -/
theorem tot_p (k : pOk y mo d h m s n) (k' : pOk y' mo' d' h' m' s' n') (l1 : 1 ≤ u) (l8 : u ≤ 8) (W : Int) (hW : pnum y' mo' d' h' m' s' n' - pnum y mo d h m s n = W) :
    (∃ x z : Int, 0 < z ∧ z ≤ 20000000000000000000000 ∧ (-400000000000000000000000000000 ≤ x ∧ x ≤ 400000000000000000000000000000) ∧ cmpI x 0 = cmpI W 0 ∧ (3 ≤ u → x = W ∧ z = rlen u) ∧ (u ≤ 2 → -(1000000000 * z) ≤ x ∧ x ≤ 1000000000 * z) ∧
      Fn 12 [] [ptv y mo d h m s n, ptv y' mo' d' h' m' s' n', .int .i64 u] (.tuple #[wv (frP x z), wv (frQ x z), .int .i64 0])) ∨
    (u ≤ 2 ∧ Fn 12 [] [ptv y mo d h m s n, ptv y' mo' d' h' m' s' n', .int .i64 u] (.tuple #[wz, wz, .int .i64 4])) := by
  have pa := pOk_in k
  have pb := pOk_in k'
  have wW : -17280000172800000000000 < W ∧ W < 17280000172800000000000 := by unfold pIn at pa pb; omega
  by_cases hu : 3 ≤ u
  · have rl := rlen_in hu l8
    have fk := fr_okS (x := W) (z := rlen u) (by omega) (by omega) (by omega)
    refine .inl ⟨W, rlen u, by omega, by omega, by omega, rfl, fun _ => ⟨rfl, rfl⟩, fun q => by omega, ?_⟩
    exact rtot_d u y mo d h m s n y' mo' d' h' m' s' n' k k' hu l8 _ _ 0 (by rw [hW]; exact frac_s W (rlen u) (by unfold W128; omega) (by unfold W128; omega) fk)
  · have hu2 : u = 1 ∨ u = 2 := by omega
    obtain ⟨E, hE⟩ : ∃ E, bD y mo d h m s n y' mo' d' h' m' s' n' = E := ⟨_, rfl⟩
    obtain ⟨Z, hZ⟩ : ∃ Z, bZ y mo d h m s n y' mo' d' h' m' s' n' = Z := ⟨_, rfl⟩
    have kb := cbet y mo d h m s n y' mo' d' h' m' s' n' u E Z k k' l1 (by omega) hE hZ
    obtain ⟨d1, d2⟩ := bt_date k k'
    rw [hE] at d1
    obtain ⟨c1, c2, -⟩ := uv_bd k.1 d1 l1 (show u ≤ 4 by omega)
    by_cases w0 : W = 0
    · subst w0
      refine .inl ⟨0, 1, by omega, by omega, by omega, rfl, fun q => absurd q hu, fun _ => by omega, ?_⟩
      exact rtot_0 y mo d h m s n y' mo' d' h' m' s' n' _ _ _ _ _ _ _ _ _ u hu2 k k' hW (by omega) (by omega) kb
    · obtain ⟨v, hv, ev⟩ : ∃ v, (v = 1 ∨ v = -1) ∧ cmpI W 0 = v := by
        rcases Int.lt_trichotomy W 0 with q | q | q
        · exact ⟨-1, .inr rfl, cmpI_lt q⟩
        · exact absurd q w0
        · exact ⟨1, .inl rfl, cmpI_gt q⟩
      obtain ⟨c, hc⟩ : ∃ c, uc u y mo d (dY E) (dM E) (dD E) = c := ⟨_, rfl⟩
      obtain ⟨T, hT⟩ : ∃ T, ymi y mo + um u * c = T := ⟨_, rfl⟩
      obtain ⟨T', hT'⟩ : ∃ T', ymi y mo + um u * (c + v) = T' := ⟨_, rfl⟩
      have ev' := ev
      rw [← hW] at ev'
      obtain ⟨pf, s1, s2, cb, cz⟩ := tot_from y mo d h m s n y' mo' d' h' m' s' n' u E Z hu2 k k' hE hZ c T v hc hT hv ev'
      have hcu : u = 1 ∧ c = uY u y mo d (dY E) (dM E) (dD E) ∨ u = 2 ∧ c = uMo u y mo d (dY E) (dM E) (dD E) := by
        rcases hu2 with rfl | rfl
        · exact .inl ⟨rfl, hc.symm⟩
        · exact .inr ⟨rfl, hc.symm⟩
      have hcu2 : u = 1 ∧ c = uY u y mo d (dY E) (dM E) (dD E) ∨ u = 2 ∧ c = uY u y mo d (dY E) (dM E) (dD E) + uMo u y mo d (dY E) (dM E) (dD E) := by
        rcases hu2 with rfl | rfl
        · exact .inl ⟨rfl, hc.symm⟩
        · refine .inr ⟨rfl, ?_⟩
          rw [show uY 2 y mo d (dY E) (dM E) (dD E) = 0 from rfl, Int.zero_add]; exact hc.symm
      have umv : (um u = 12 ∨ um u = 1) := by
        rcases hu2 with rfl | rfl
        · exact .inl rfl
        · exact .inr rfl
      rcases mvm_p y mo d h m s n T u c hu2 k (by omega) hT with ⟨-, f1⟩ | ⟨np, -⟩
      · rcases mvm_p y mo d h m s n T' u (c + v) hu2 k (by omega) hT' with ⟨pt, t1⟩ | ⟨-, t1⟩
        · -- both are there
          have pfi := pOk_in pf
          have pti := pOk_in pt
          have dd : 86400000000000 ≤ v * (pnum (lY T') (lM T') (cD (lY T') (lM T') d) h m s n - pnum (lY T) (lM T) (cD (lY T) (lM T) d) h m s n) := by
            have e1 : pnum (lY T') (lM T') (cD (lY T') (lM T') d) h m s n = dnum (lY T') (lM T') (cD (lY T') (lM T') d) * 86400000000000 + tnan h m s n := rfl
            have e2 : pnum (lY T) (lM T) (cD (lY T) (lM T) d) h m s n = dnum (lY T) (lM T) (cD (lY T) (lM T) d) * 86400000000000 + tnan h m s n := rfl
            have d01 := k.1.1.2.2.1
            rw [e1, e2]
            rcases hv with rfl | rfl
            · have : T < T' := by rcases umv with q | q <;> rw [q] at hT hT' <;> omega
              have := cdn_lt this d01
              omega
            · have : T' < T := by rcases umv with q | q <;> rw [q] at hT hT' <;> omega
              have := cdn_lt this d01
              omega
          have ks1 := psince_yes _ _ _ _ _ _ _ y' mo' d' h' m' s' n' pf k'
          have ks2 := psince_yes _ _ _ _ _ _ _ _ _ _ _ _ _ _ pf pt
          have rm := fun p q x2 w2 x3 => rtot_m y mo d h m s n y' mo' d' h' m' s' n' _ _ _ _ _ _ _ _ 0 v c (lY T) (lM T) (cD (lY T) (lM T) d) h m s n (lY T') (lM T') (cD (lY T') (lM T') d) h m s n _ _ x2 w2 x3 p q 0 u hcu2 k k' hv ev' (by omega) (by omega) kb f1 t1 ks1 ks2
          have hXW : c = 0 → pnum y' mo' d' h' m' s' n' - pnum (lY T) (lM T) (cD (lY T) (lM T) d) h m s n = W := fun q => by have := cz q; omega
          generalize pnum (lY T) (lM T) (cD (lY T) (lM T) d) h m s n = a at *
          generalize pnum (lY T') (lM T') (cD (lY T') (lM T') d) h m s n = b at *
          have hz : -17280000172800000000000 ≤ b - a ∧ b - a ≤ 17280000172800000000000 := by unfold pIn at pfi pti; omega
          have hx : -17280000172800000000000 ≤ pnum y' mo' d' h' m' s' n' - a ∧ pnum y' mo' d' h' m' s' n' - a ≤ 17280000172800000000000 := by unfold pIn at pfi pb; omega
          generalize pnum y' mo' d' h' m' s' n' - a = X at *
          generalize b - a = D at *
          have md := mul_bd cb hz
          rw [show (9000000 : Int) * 17280000172800000000000 = 155520001555200000000000000000 by decide] at md
          have md2 : -(9000000 * (v * D)) ≤ c * D ∧ c * D ≤ 9000000 * (v * D) := mul_bd cb (by rcases hv with rfl | rfl <;> omega)
          have comm : D * c = c * D := Int.mul_comm _ _
          have vX : X * v = v * X := Int.mul_comm _ _
          have sgn : 0 < c * D + v * X := by
            have vc : v * c * (v * D) = c * D := by
              rcases hv with rfl | rfl
              · rw [Int.one_mul, Int.one_mul]
              · rw [Int.neg_mul, Int.neg_mul, Int.one_mul, Int.neg_mul, Int.one_mul, Int.mul_neg, Int.neg_neg]
            rcases Int.lt_or_eq_of_le s1 with q | q
            · have := Int.mul_pos q (show 0 < v * D by omega)
              rw [vc] at this
              omega
            · have c0 : c = 0 := by rcases hv with rfl | rfl <;> omega
              have e1 := hXW c0
              have vW : 0 < v * W := by
                rcases hv with rfl | rfl
                · have := cmpI_p.1 ev; omega
                · have := cmpI_n.1 ev; omega
              rw [c0, Int.zero_mul, e1]; omega
          have wX : W128 X := by unfold W128; omega
          have wD : W128 D := by unfold W128; omega
          have ic : I64 c := by unfold I64; omega
          rcases hv with rfl | rfl
          · have e3 : D * c + X * 1 = c * D + 1 * X := by rw [comm]; omega
            have fk := fr_okS (x := c * D + 1 * X) (z := D) (by omega) (by omega) (by omega)
            refine .inl ⟨c * D + 1 * X, D, by omega, by omega, by omega, by rw [ev]; exact cmpI_gt (by omega), fun q => absurd q hu, fun _ => by omega, ?_⟩
            exact rm _ _ (X * 1) (D * c) (c * D + 1 * X) (wtimes_f X 1 wX (by unfold I64; omega) (by unfold W128; omega)) (wtimes_f D c wD ic (by rw [comm]; unfold W128; omega)) (by rw [← e3]; exact wadd_yes (D * c) (X * 1) (by rw [comm]; unfold W128; omega) (by unfold W128; omega) (by rw [e3]; unfold W128; omega)) (frac_s _ _ (by unfold W128; omega) wD fk)
          · have e3 : D * c + X * -1 = c * D + -1 * X := by rw [comm]; omega
            have fk := fr_okS (x := c * D + -1 * X) (z := D) (by omega) (by omega) (by omega)
            obtain ⟨n1, n2⟩ := fr_neg (c * D + -1 * X) D (by omega)
            refine .inl ⟨-(c * D + -1 * X), -D, by omega, by omega, by omega, by rw [ev]; exact cmpI_lt (by omega), fun q => absurd q hu, fun _ => by omega, ?_⟩
            rw [n1, n2]
            exact rm _ _ (X * -1) (D * c) (c * D + -1 * X) (wtimes_f X (-1) wX (by unfold I64; omega) (by unfold W128; omega)) (wtimes_f D c wD ic (by rw [comm]; unfold W128; omega)) (by rw [← e3]; exact wadd_yes (D * c) (X * -1) (by rw [comm]; unfold W128; omega) (by unfold W128; omega) (by rw [e3]; unfold W128; omega)) (frac_s _ _ (by unfold W128; omega) wD fk)
        · exact .inr ⟨by omega, rtot_e y mo d h m s n y' mo' d' h' m' s' n' _ _ _ _ _ _ _ _ 0 v c _ _ _ _ _ _ _ 0 0 0 0 0 0 0 0 4 u hcu2 k k' hv ev' (by omega) (by omega) kb f1 t1 (by decide)⟩
      · exact absurd pf np
theorem law_rsigns_p (W : World) : Calls Tryz.prog 6 #[ptv y mo d h m s n, ptv y' mo' d' h' m' s' n', .int .i64 u] W (fun e w' => e = .returned (.bool true) ∧ Ext W w') := by
  by_cases k : pOk y mo d h m s n ∧ pOk y' mo' d' h' m' s' n' ∧ 1 ≤ u ∧ u ≤ 8
  · obtain ⟨k1, k2, l1, l8⟩ := k
    rcases tot_p y mo d h m s n y' mo' d' h' m' s' n' u k1 k2 l1 l8 _ rfl with ⟨x, z, z0, -, -, sx, -, -, r1⟩ | ⟨l2, r1⟩
    · obtain ⟨f1, f2⟩ := fr_sign x z0
      have w1 := wsign_fn (frP x z)
      have w2 := wsign_fn (frQ x z)
      rw [f1, sx, cmpI_sub20 _ _ _ rfl, ← cmp7_num k2 k1] at w1
      rw [f2] at w2
      exact rsigns_v y mo d h m s n y' mo' d' h' m' s' n' u _ _ _ r1 w1 (pcmp _ _ _ _ _ _ _ _ _ _ _ _ _ _) w2 W (zall_nil W)
    · exact rsigns_e y mo d h m s n y' mo' d' h' m' s' n' u 4 r1 (.inr ⟨rfl, l2⟩) W (zall_nil W)
  · exact rsigns_e y mo d h m s n y' mo' d' h' m' s' n' u 1 (rtot_a u y mo d h m s n y' mo' d' h' m' s' n' k) (.inl rfl) W (zall_nil W)
end
end Go.Proofs.YthoedmikfpbfnaaGreat
end
section
/-
  What comes in: a wide number by its two halves, numbers by their bounds.
-/
namespace Go.Proofs.YthoedmikfpbfnaaGreat
open Go Go.RowKit

theorem i64_in {n : Int} (h : (Lit.int .i64 n).wf = true) : I64 n := bounds_i64 h
end Go.Proofs.YthoedmikfpbfnaaGreat
end
section
/-
  A struct of so many 64-bit numbers that comes in.
-/
namespace Go.Proofs.YthoedmikfpbfnaaGreat
open Go Go.RowKit

def intRow (P : Program) (t : TypeId) (n : Nat) : Bool := (match P.underlying t with
  | some (.struct _) => true
  | some (.array _ _) => true
  | _ => false) && decide (P.cellsOf t = n) && match P.cellTypes P.depth t with
  | some ts => decide (ts.length = n) && ts.all fun u => match P.underlying u with
    | some (.int .i64) => true
    | _ => false
  | none => false
theorem cells_in {P : Program} {w : World} {r : Reach} {b : Nat} {ts : List TypeId} (ha : ∀ u, u ∈ ts → P.underlying u = some (.int .i64)) (hne : 0 < ts.length) : ∀ (l : List Value),
    (∀ (i : Nat) (v : Value), l[i]? = some v → ∃ (j : Nat) (u : TypeId), ts[j]? = some u ∧ Cell.okWide P w r b u v) → ∃ xs : List Int, l = xs.map (Value.int .i64) ∧ ∀ x ∈ xs, I64 x
  | [], _ => ⟨[], rfl, fun x h => by cases h⟩
  | v :: l, h => by
    obtain ⟨xs, h1, h2⟩ := cells_in ha hne l fun i v hv => h (i + 1) v (by simpa using hv)
    obtain ⟨j, u, hu, hc⟩ := h 0 v rfl
    have hU := ha u (List.mem_of_getElem? hu)
    obtain ⟨x, rfl, hx⟩ : ∃ x, v = .int .i64 x ∧ I64 x := by
      simp only [Cell.okWide, hU] at hc
      cases v <;> simp [Cell.ok, hU] at hc
      rename_i k x
      obtain ⟨rfl, hk⟩ := hc
      refine ⟨x, rfl, ?_⟩
      have m0 : IntKind.i64.min = -9223372036854775808 := by decide
      have m1 : IntKind.i64.max = 9223372036854775807 := by decide
      unfold IntKind.has at hk
      rw [m0, m1] at hk
      exact hk
    exact ⟨x :: xs, by rw [h1]; rfl, fun y hy => by
      rcases List.mem_cons.1 hy with rfl | hy
      · exact hx
      · exact h2 y hy⟩
theorem ints_in {P : Program} {w : World} {r : Reach} {b : Nat} {t : TypeId} {n : Nat} {v : Value} (hn : 0 < n) (ht : intRow P t n = true) (hv : Value.okWide P w r b t v) : ∃ xs : List Int, v = .agg (xs.map (Value.int .i64)).toArray ∧ xs.length = n ∧ ∀ x ∈ xs, I64 x := by
  unfold intRow at ht
  rw [Bool.and_eq_true, Bool.and_eq_true] at ht
  obtain ⟨⟨hs, hc⟩, hl⟩ := ht
  obtain ⟨cs, rfl, hsz, ts, hts, -, hcell⟩ : ∃ cs, v = .agg cs ∧ cs.size = P.cellsOf t ∧ Row.okWide P w r b t cs := by
    unfold Value.okWide at hv
    split at hv
    · exact hv
    · exact hv
    · rename_i h1 h2
      split at hs
      · rename_i fs h; exact absurd h (h1 fs)
      · rename_i m e h; exact absurd h (h2 m e)
      · cases hs
  rw [hts] at hl
  simp only [Bool.and_eq_true, decide_eq_true_eq, List.all_eq_true] at hl hc
  have ha : ∀ u ∈ ts, P.underlying u = some (.int .i64) := fun u hu => by
    have := hl.2 u hu
    split at this
    · assumption
    · cases this
  obtain ⟨xs, h1, h2⟩ := cells_in (P := P) (w := w) (r := r) (b := b) ha (by omega) cs.toList fun i v hv => by
    obtain ⟨u, h3, h4⟩ := hcell i v (by simpa using hv)
    exact ⟨_, u, h3, h4⟩
  have e : cs = (xs.map (Value.int .i64)).toArray := by rw [← h1]
  refine ⟨xs, by rw [e], ?_, h2⟩
  have := congrArg Array.size e
  simp at this; omega
theorem list7 {α : Type} {l : List α} (h : l.length = 7) : ∃ a b c d e f g, l = [a, b, c, d, e, f, g] := by
  match l, h with
  | [a, b, c, d, e, f, g], _ => exact ⟨a, b, c, d, e, f, g, rfl⟩
end Go.Proofs.YthoedmikfpbfnaaGreat
end
