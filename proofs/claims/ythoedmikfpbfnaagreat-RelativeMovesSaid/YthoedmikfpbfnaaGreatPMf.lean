/-
  Texts joined: Rea, Reb, Rec, Enz, Plz, Caz, Cay, Red, In, Inn. Each says at its head what it shows.
-/
import Derived.OpenShut
import Derived.WideShapes
import Derived.Test.YthoedmikfpbfnaaGreatPMe
section
/-
  So many units from a date-time: what the program answers of layer 20.
-/
set_option linter.unusedVariables false
set_option linter.unusedSimpArgs false
set_option maxRecDepth 100000
namespace Go.Proofs.YthoedmikfpbfnaaGreat
open Go Go.RowKit Go.Ev

theorem wtimes_f (v n : Int) (hv : W128 v) (hn : I64 n) (h : W128 (v * n)) : Fn 43 [] [wv v, .int .i64 n] (.tuple #[wv (v * n), .int .i64 0]) := fun w _ => (wtimes v n w hv hn).mono fun e w' ⟨h1, h2⟩ => ⟨by rw [h1, thi_yes h, tlo_yes h, ter_yes h], h2⟩
/-- A unit's length, of a week to a nanosecond. -/
def rlen (u : Int) : Int := if u = 3 then 604800000000000 else ulen u
theorem rlen_in {u : Int} (h : 3 ≤ u) (k : u ≤ 8) : 1 ≤ rlen u ∧ rlen u ≤ 604800000000000 := by
  unfold rlen
  split
  · omega
  · have := ulen_pos (show 4 ≤ u by omega) k; omega
section
variable (u i n : Int)
theorem rknown_y (h : 1 ≤ u) (k : u ≤ 8) : Fn 19 [] [.int .i64 u] (.bool true) := by
  refine fn_of Tryz.func19 rfl fun ww => ?_
  refine st_b 4 (show (decide (u ≥ 1)) = true by exact decide_eq_true (by omega)) (by kernel_rfl) ?_
  exact st_retv Tryz.func19 (show Value.bool (decide (u ≤ 8)) = _ by simp_all) (by kernel_rfl)
theorem rknown_n (h : u < 1 ∨ 8 < u) : Fn 19 [] [.int .i64 u] (.bool false) := by
  by_cases q : u < 1
  · refine fn_of Tryz.func19 rfl fun ww => ?_
    refine st_b 4 (show (decide (u ≥ 1)) = false by exact decide_eq_false (by omega)) (by kernel_rfl) ?_
    exact st_ret Tryz.func19 (by kernel_rfl)
  · have q2 : 8 < u := by omega
    refine fn_of Tryz.func19 rfl fun ww => ?_
    refine st_b 4 (show (decide (u ≥ 1)) = true by exact decide_eq_true (by omega)) (by kernel_rfl) ?_
    exact st_retv Tryz.func19 (show Value.bool (decide (u ≤ 8)) = _ by simp_all) (by kernel_rfl)
theorem rlength : Fn 24 [] [.int .i64 u] (.int .i64 (rlen u)) := by
  by_cases q : u = 3
  · subst q
    refine fn_of Tryz.func24 rfl fun ww => ?_
    exact st_retv Tryz.func24 (show vI64 604800000000000 = _ by rfl) (by kernel_rfl)
  · have e : rlen u = ulen u := if_neg q
    rw [e]
    have kl := ulen_fn u
    refine fn_of Tryz.func24 rfl fun ww => ?_
    refine st_b 4 (show (u == 3) = false by exact decide_eq_false (by omega)) (by kernel_rfl) ?_
    refine st_fn ent63 (kl) sub0 (by kernel_rfl) ?_
    exact st_ret Tryz.func24 (by kernel_rfl)
abbrev kN (n : Int) : List Bk := [⟨[.val (.int .i64 n)], 2⟩]
abbrev EN : List TypeId := [999999, 2]
theorem rmv1 : FnM 20 [.ptr 0 0] (kN n) (duv n 0 0 0 0 0 0 0) := by
  refine fnM_of EN Tryz.func20 rfl (by kernel_rfl) fun ww => ?_
  exact st_ret Tryz.func20 (by kernel_rfl)
theorem rmv2 : FnM 21 [.ptr 0 0] (kN n) (duv 0 n 0 0 0 0 0 0) := by
  refine fnM_of EN Tryz.func21 rfl (by kernel_rfl) fun ww => ?_
  exact st_ret Tryz.func21 (by kernel_rfl)
variable (y mo d h m s nn A B C H M S N e : Int)
theorem rmov_a (k : ¬ (pOk y mo d h m s nn ∧ 1 ≤ u ∧ u ≤ 8)) : Fn 7 [] [ptv y mo d h m s nn, .int .i64 n, .int .i64 u] (.tuple #[pt0, .int .i64 1]) := by
  by_cases k1 : pOk y mo d h m s nn
  · have kr1 := pright_yes y mo d h m s nn k1
    have kr2 := rknown_n u (by
      rcases Int.lt_or_le u 1 with q | q
      · exact .inl q
      · rcases Int.lt_or_le 8 u with q' | q'
        · exact .inr q'
        · exact absurd ⟨k1, q, q'⟩ k)
    clear k k1
    refine fn_of Tryz.func7 rfl fun ww => ?_
    refine st_fn ent18 (kr1) sub0 (by kernel_rfl) ?_
    refine st_fn ent19 (kr2) sub0 (by kernel_rfl) ?_
    exact st_ret Tryz.func7 (by kernel_rfl)
  · have kr1 := pright_no y mo d h m s nn k1
    clear k k1
    refine fn_of Tryz.func7 rfl fun ww => ?_
    refine st_fn ent18 (kr1) sub0 (by kernel_rfl) ?_
    exact st_ret Tryz.func7 (by kernel_rfl)
theorem rmov_d (k : pOk y mo d h m s nn) (l1 : 3 ≤ u) (l2 : u ≤ 8) (hn : I64 n) (ha : Fn 22 [] [ptv y mo d h m s nn, wv (n * rlen u)] (.tuple #[ptv A B C H M S N, .int .i64 e])) : Fn 7 [] [ptv y mo d h m s nn, .int .i64 n, .int .i64 u] (.tuple #[ptv A B C H M S N, .int .i64 e]) := by
  have kr1 := pright_yes y mo d h m s nn k
  have kr2 := rknown_y u (by omega) l2
  have kr3 := rlength u
  have rl := rlen_in l1 l2
  have i1 : I64 (rlen u) := by unfold I64; omega
  have kr4 := wmul_f n (rlen u) hn i1
  clear k
  refine fn_of Tryz.func7 rfl fun ww => ?_
  refine st_fn ent18 (kr1) sub0 (by kernel_rfl) ?_
  refine st_fn ent19 (kr2) sub0 (by kernel_rfl) ?_
  refine st_b 23 (show (decide (u > 2)) = true by exact decide_eq_true (by omega)) (by kernel_rfl) ?_
  refine st_fn ent24 (kr3) sub0 (by kernel_rfl) ?_
  refine st_fn ent23 (kr4) sub0 (by kernel_rfl) ?_
  refine st_fn ent22 (ha) sub0 (by kernel_rfl) ?_
  exact st_ret Tryz.func7 (by kernel_rfl)
theorem rmov_r (hu : u = 1 ∨ u = 2) (k : pOk y mo d h m s nn) (hn : I64 n) (r : ¬ (-4294967295 ≤ n ∧ n ≤ 4294967295)) : Fn 7 [] [ptv y mo d h m s nn, .int .i64 n, .int .i64 u] (.tuple #[pt0, .int .i64 4]) := by
  have kr1 := pright_yes y mo d h m s nn k
  have kr2 := rknown_y u (by omega) (by omega)
  rcases hu with rfl | rfl
  · have kr3 := rmv1 n
    have kr4 := uright_f n 0 0 0 0 0 0 0 ⟨hn, i64_0, i64_0, i64_0, i64_0, i64_0, i64_0, i64_0⟩ (fun q => by have := q.2.1.1; unfold cnt1 at this; omega)
    clear k r
    refine fn_of Tryz.func7 rfl fun ww => ?_
    refine st_fn ent18 (kr1) sub0 (by kernel_rfl) ?_
    refine st_fn ent19 (kr2) sub0 (by kernel_rfl) ?_
    refine st_fm [1] ent20 (kr3) (by kernel_rfl) (by kernel_rfl) (by kernel_rfl) ?_
    refine st_fn ent25 (kr4) sub0 (by kernel_rfl) ?_
    exact st_ret Tryz.func7 (by kernel_rfl)
  · have kr3 := rmv2 n
    have kr4 := uright_f 0 n 0 0 0 0 0 0 ⟨i64_0, hn, i64_0, i64_0, i64_0, i64_0, i64_0, i64_0⟩ (fun q => by have := q.2.1.2.1; unfold cnt1 at this; omega)
    clear k r
    refine fn_of Tryz.func7 rfl fun ww => ?_
    refine st_fn ent18 (kr1) sub0 (by kernel_rfl) ?_
    refine st_fn ent19 (kr2) sub0 (by kernel_rfl) ?_
    refine st_fm [1] ent21 (kr3) (by kernel_rfl) (by kernel_rfl) (by kernel_rfl) ?_
    refine st_fn ent25 (kr4) sub0 (by kernel_rfl) ?_
    exact st_ret Tryz.func7 (by kernel_rfl)
theorem uOk_y (r : -4294967295 ≤ n ∧ n ≤ 4294967295) : uOk n 0 0 0 0 0 0 0 ∧ all64 n 0 0 0 0 0 0 0 := by
  refine ⟨⟨?_, ⟨by unfold cnt1; omega, by unfold cnt1; omega, by unfold cnt1; omega⟩, by unfold dtot LIM; omega⟩, by unfold I64; omega, i64_0, i64_0, i64_0, i64_0, i64_0, i64_0, i64_0⟩
  unfold pos8 neg8; omega
theorem uOk_m (r : -4294967295 ≤ n ∧ n ≤ 4294967295) : uOk 0 n 0 0 0 0 0 0 ∧ all64 0 n 0 0 0 0 0 0 := by
  refine ⟨⟨?_, ⟨by unfold cnt1; omega, by unfold cnt1; omega, by unfold cnt1; omega⟩, by unfold dtot LIM; omega⟩, i64_0, by unfold I64; omega, i64_0, i64_0, i64_0, i64_0, i64_0, i64_0⟩
  unfold pos8 neg8; omega
theorem rmov_1 (k : pOk y mo d h m s nn) (r : -4294967295 ≤ n ∧ n ≤ 4294967295) (ha : Fn 26 [] [ptv y mo d h m s nn, duv n 0 0 0 0 0 0 0, .int .i64 1] (.tuple #[ptv A B C H M S N, .int .i64 e])) : Fn 7 [] [ptv y mo d h m s nn, .int .i64 n, .int .i64 1] (.tuple #[ptv A B C H M S N, .int .i64 e]) := by
  have kr1 := pright_yes y mo d h m s nn k
  have kr2 := rknown_y 1 (by omega) (by omega)
  have kr3 := rmv1 n
  obtain ⟨o, i⟩ := uOk_y n r
  have kr4 := uright_y n 0 0 0 0 0 0 0 i o
  clear k r o i
  refine fn_of Tryz.func7 rfl fun ww => ?_
  refine st_fn ent18 (kr1) sub0 (by kernel_rfl) ?_
  refine st_fn ent19 (kr2) sub0 (by kernel_rfl) ?_
  refine st_fm [1] ent20 (kr3) (by kernel_rfl) (by kernel_rfl) (by kernel_rfl) ?_
  refine st_fn ent25 (kr4) sub0 (by kernel_rfl) ?_
  refine st_fn ent26 (ha) sub0 (by kernel_rfl) ?_
  exact st_ret Tryz.func7 (by kernel_rfl)
theorem rmov_2 (k : pOk y mo d h m s nn) (r : -4294967295 ≤ n ∧ n ≤ 4294967295) (ha : Fn 26 [] [ptv y mo d h m s nn, duv 0 n 0 0 0 0 0 0, .int .i64 1] (.tuple #[ptv A B C H M S N, .int .i64 e])) : Fn 7 [] [ptv y mo d h m s nn, .int .i64 n, .int .i64 2] (.tuple #[ptv A B C H M S N, .int .i64 e]) := by
  have kr1 := pright_yes y mo d h m s nn k
  have kr2 := rknown_y 2 (by omega) (by omega)
  have kr3 := rmv2 n
  obtain ⟨o, i⟩ := uOk_m n r
  have kr4 := uright_y 0 n 0 0 0 0 0 0 i o
  clear k r o i
  refine fn_of Tryz.func7 rfl fun ww => ?_
  refine st_fn ent18 (kr1) sub0 (by kernel_rfl) ?_
  refine st_fn ent19 (kr2) sub0 (by kernel_rfl) ?_
  refine st_fm [1] ent21 (kr3) (by kernel_rfl) (by kernel_rfl) (by kernel_rfl) ?_
  refine st_fn ent25 (kr4) sub0 (by kernel_rfl) ?_
  refine st_fn ent26 (ha) sub0 (by kernel_rfl) ?_
  exact st_ret Tryz.func7 (by kernel_rfl)
/-! totals -/
variable (y' mo' d' h' m' s' n' : Int)
end
end Go.Proofs.YthoedmikfpbfnaaGreat
end
section
/-
  How many units lie between two date-times: what the program answers of layer 20.
-/
set_option linter.unusedVariables false
set_option linter.unusedSimpArgs false
set_option maxRecDepth 100000
namespace Go.Proofs.YthoedmikfpbfnaaGreat
open Go Go.RowKit Go.Ev

section
variable (y mo d h m s nn y' mo' d' h' m' s' n' A B C D H M S N e0 v c f1 f2 f3 f4 f5 f6 f7 t1 t2 t3 t4 t5 t6 t7 x1 z1 x2 w2 x3 p q e : Int)
theorem rtot_m (u : Int) (hu : u = 1 ∧ c = A ∨ u = 2 ∧ c = A + B) (k : pOk y mo d h m s nn) (k' : pOk y' mo' d' h' m' s' n') (hv : v = 1 ∨ v = -1) (ev : cmpI (pnum y' mo' d' h' m' s' n' - pnum y mo d h m s nn) 0 = v) (hA : -9000000 ≤ A ∧ A ≤ 9000000) (hB : -9000000 ≤ B ∧ B ≤ 9000000)
    (kb : Fn 42 [] [ptv y mo d h m s nn, ptv y' mo' d' h' m' s' n', .int .i64 u] (.tuple #[duv A B C D H M S N, .int .i64 e0]))
    (km1 : Fn 7 [] [ptv y mo d h m s nn, .int .i64 c, .int .i64 u] (.tuple #[ptv f1 f2 f3 f4 f5 f6 f7, .int .i64 0])) (km2 : Fn 7 [] [ptv y mo d h m s nn, .int .i64 (c + v), .int .i64 u] (.tuple #[ptv t1 t2 t3 t4 t5 t6 t7, .int .i64 0]))
    (ks1 : Fn 40 [] [ptv f1 f2 f3 f4 f5 f6 f7, ptv y' mo' d' h' m' s' n'] (.tuple #[wv x1, .int .i64 0])) (ks2 : Fn 40 [] [ptv f1 f2 f3 f4 f5 f6 f7, ptv t1 t2 t3 t4 t5 t6 t7] (.tuple #[wv z1, .int .i64 0]))
    (kt1 : Fn 43 [] [wv x1, .int .i64 v] (.tuple #[wv x2, .int .i64 0])) (kt2 : Fn 43 [] [wv z1, .int .i64 c] (.tuple #[wv w2, .int .i64 0])) (kd : Fn 44 [] [wv w2, wv x2] (.tuple #[wv x3, .int .i64 0])) (kf : Fn 41 [] [wv x3, wv z1] (.tuple #[wv p, wv q, .int .i64 e])) :
    Fn 12 [] [ptv y mo d h m s nn, ptv y' mo' d' h' m' s' n', .int .i64 u] (.tuple #[wv p, wv q, .int .i64 e]) := by
  have kr1 := psince_yes y mo d h m s nn y' mo' d' h' m' s' n' k k'
  have kr2 := rknown_y u (by omega) (by omega)
  have kr3 := wsign_fn (pnum y' mo' d' h' m' s' n' - pnum y mo d h m s nn)
  rw [ev] at kr3
  generalize pnum y' mo' d' h' m' s' n' - pnum y mo d h m s nn = w at *
  clear k k' ev
  have hv0 : v ≠ 0 := by omega
  rcases hu with ⟨rfl, rfl⟩ | ⟨rfl, rfl⟩
  · refine fn_of Tryz.func12 rfl fun ww => ?_
    refine st_fn ent40 (kr1) sub0 (by kernel_rfl) ?_
    refine st_fn ent19 (kr2) sub0 (by kernel_rfl) ?_
    refine st_fn ent42 (kb) sub0 (by kernel_rfl) ?_
    refine st_i 60 .i64 (x' := c + B) (Go.IntWalk.i64_in _ (by omega)) (by kernel_rfl) ?_
    refine st_fn ent16 (kr3) sub0 (by kernel_rfl) ?_
    refine st_b 68 (show (v == 0) = false by exact decide_eq_false (by omega)) (by kernel_rfl) ?_
    refine st_fn ent7 (km1) sub0 (by kernel_rfl) ?_
    refine st_i 82 .i64 (x' := c + v) (Go.IntWalk.i64_in _ (by omega)) (by kernel_rfl) ?_
    refine st_fn ent7 (km2) sub0 (by kernel_rfl) ?_
    refine st_fn ent40 (ks1) sub0 (by kernel_rfl) ?_
    refine st_fn ent40 (ks2) sub0 (by kernel_rfl) ?_
    refine st_fn ent43 (kt1) sub0 (by kernel_rfl) ?_
    refine st_fn ent43 (kt2) sub0 (by kernel_rfl) ?_
    refine st_fn ent44 (kd) sub0 (by kernel_rfl) ?_
    refine st_fn ent41 (kf) sub0 (by kernel_rfl) ?_
    exact st_ret Tryz.func12 (by kernel_rfl)
  · refine fn_of Tryz.func12 rfl fun ww => ?_
    refine st_fn ent40 (kr1) sub0 (by kernel_rfl) ?_
    refine st_fn ent19 (kr2) sub0 (by kernel_rfl) ?_
    refine st_fn ent42 (kb) sub0 (by kernel_rfl) ?_
    refine st_i 60 .i64 (x' := A + B) (Go.IntWalk.i64_in _ (by omega)) (by kernel_rfl) ?_
    refine st_fn ent16 (kr3) sub0 (by kernel_rfl) ?_
    refine st_b 68 (show (v == 0) = false by exact decide_eq_false (by omega)) (by kernel_rfl) ?_
    refine st_fn ent7 (km1) sub0 (by kernel_rfl) ?_
    refine st_i 82 .i64 (x' := A + B + v) (Go.IntWalk.i64_in _ (by omega)) (by kernel_rfl) ?_
    refine st_fn ent7 (km2) sub0 (by kernel_rfl) ?_
    refine st_fn ent40 (ks1) sub0 (by kernel_rfl) ?_
    refine st_fn ent40 (ks2) sub0 (by kernel_rfl) ?_
    refine st_fn ent43 (kt1) sub0 (by kernel_rfl) ?_
    refine st_fn ent43 (kt2) sub0 (by kernel_rfl) ?_
    refine st_fn ent44 (kd) sub0 (by kernel_rfl) ?_
    refine st_fn ent41 (kf) sub0 (by kernel_rfl) ?_
    exact st_ret Tryz.func12 (by kernel_rfl)
end
section
variable (u i a b : Int)
theorem rinc_c (h : u ≤ 4) : Fn 48 [] [.int .i64 u, .int .i64 i] (.bool (decide (1 ≤ i ∧ i ≤ 1000000000))) := by
  by_cases q1 : 1 ≤ i
  · by_cases q2 : i ≤ 1000000000
    · rw [decide_eq_true ⟨q1, q2⟩]
      refine fn_of Tryz.func48 rfl fun ww => ?_
      refine st_b 6 (show (decide (u ≤ 4)) = true by exact decide_eq_true (by omega)) (by kernel_rfl) ?_
      refine st_b 8 (show (decide (i ≥ 1)) = true by exact decide_eq_true (by omega)) (by kernel_rfl) ?_
      exact st_retv Tryz.func48 (show Value.bool (decide (i ≤ 1000000000)) = _ by simp_all) (by kernel_rfl)
    · rw [decide_eq_false (fun q => q2 q.2)]
      refine fn_of Tryz.func48 rfl fun ww => ?_
      refine st_b 6 (show (decide (u ≤ 4)) = true by exact decide_eq_true (by omega)) (by kernel_rfl) ?_
      refine st_b 8 (show (decide (i ≥ 1)) = true by exact decide_eq_true (by omega)) (by kernel_rfl) ?_
      exact st_retv Tryz.func48 (show Value.bool (decide (i ≤ 1000000000)) = _ by simp_all) (by kernel_rfl)
  · rw [decide_eq_false (fun q => q1 q.1)]
    refine fn_of Tryz.func48 rfl fun ww => ?_
    refine st_b 6 (show (decide (u ≤ 4)) = true by exact decide_eq_true (by omega)) (by kernel_rfl) ?_
    refine st_b 8 (show (decide (i ≥ 1)) = false by exact decide_eq_false (by omega)) (by kernel_rfl) ?_
    exact st_ret Tryz.func48 (by kernel_rfl)
variable (y mo d h m s n y' mo' d' h' m' s' n' L S' md e A B C D H M S N : Int)
variable (p q d2 w w2 t1 t2 t3 t4 t5 t6 t7 : Int)
theorem rrnd_v (l1 : 1 ≤ L) (l2 : L ≤ S') (l3 : S' ≤ 8) (kinc : Fn 48 [] [.int .i64 S', .int .i64 i] (.bool true)) (m1 : 1 ≤ md) (m2 : md ≤ 9) (ht : Fn 12 [] [ptv y mo d h m s n, ptv y' mo' d' h' m' s' n', .int .i64 S'] (.tuple #[wv p, wv q, .int .i64 0]))
    (hd : Fn 43 [] [wv q, .int .i64 i] (.tuple #[wv d2, .int .i64 0])) (hr : Fn 49 [] [wv p, wv d2, .int .i64 md] (.tuple #[wv w, .int .i64 0])) (hw : Fn 43 [] [wv w, .int .i64 i] (.tuple #[wv w2, .int .i64 0])) (hk : Fn 50 [] [wv w2] (.tuple #[.int .i64 w2, .bool true]))
    (hm : Fn 7 [] [ptv y mo d h m s n, .int .i64 w2, .int .i64 S'] (.tuple #[ptv t1 t2 t3 t4 t5 t6 t7, .int .i64 0])) (hb : Fn 42 [] [ptv y mo d h m s n, ptv t1 t2 t3 t4 t5 t6 t7, .int .i64 L] (.tuple #[duv A B C D H M S N, .int .i64 e])) :
    Fn 14 [] [ptv y mo d h m s n, ptv y' mo' d' h' m' s' n', .int .i64 L, .int .i64 S', .int .i64 i, .int .i64 md] (.tuple #[duv A B C D H M S N, .int .i64 e]) := by
  have kr1 := rknown_y L l1 (by omega)
  have kr2 := rknown_y S' (by omega) l3
  refine fn_of Tryz.func14 rfl fun ww => ?_
  refine st_fn ent19 (kr1) sub0 (by kernel_rfl) ?_
  refine st_fn ent19 (kr2) sub0 (by kernel_rfl) ?_
  refine st_b 33 (show (decide (L > S')) = false by exact decide_eq_false (by omega)) (by kernel_rfl) ?_
  refine st_fn ent48 (kinc) sub0 (by kernel_rfl) ?_
  refine st_b 43 (show (decide (md < 1)) = false by exact decide_eq_false (by omega)) (by kernel_rfl) ?_
  refine st_b 47 (show (decide (md > 9)) = false by exact decide_eq_false (by omega)) (by kernel_rfl) ?_
  refine st_fn ent12 (ht) sub0 (by kernel_rfl) ?_
  refine st_fn ent43 (hd) sub0 (by kernel_rfl) ?_
  refine st_fn ent49 (hr) sub0 (by kernel_rfl) ?_
  refine st_fn ent43 (hw) sub0 (by kernel_rfl) ?_
  refine st_fn ent50 (hk) sub0 (by kernel_rfl) ?_
  refine st_fn ent7 (hm) sub0 (by kernel_rfl) ?_
  refine st_fn ent42 (hb) sub0 (by kernel_rfl) ?_
  exact st_ret Tryz.func14 (by kernel_rfl)
end
end Go.Proofs.YthoedmikfpbfnaaGreat
end
section
/-
  What every right program answers of layer 20; the laws RelativeBack, RelativeExact.
-/
set_option linter.unusedVariables false
set_option linter.unusedSimpArgs false
set_option maxRecDepth 100000
namespace Go.Proofs.YthoedmikfpbfnaaGreat
open Go Go.RowKit Go.Ev

/-- Years and months put to a date-time that lead to a right one. -/
theorem cadm_y (y mo d h m s n a b T : Int) (k : pOk y mo d h m s n) (o : uOk a b 0 0 0 0 0 0) (i : all64 a b 0 0 0 0 0 0) (hT : ymi y mo + (12 * a + b) = T) (q : pOk (lY T) (lM T) (cD (lY T) (lM T) d) h m s n) :
    Fn 26 [] [ptv y mo d h m s n, duv a b 0 0 0 0 0 0, .int .i64 1] (.tuple #[ptv (lY T) (lM T) (cD (lY T) (lM T) d) h m s n, .int .i64 0]) := by
  obtain ⟨b1, b2, -⟩ := uOk_bd o
  have yy := dOk_year k.1
  have tb := tnan_bd k.2.1
  have mv := cmoved_c y mo d (12 * a + b) (0 + 7 * 0 + 0) T (dnum (lY T) (lM T) (cD (lY T) (lM T) d)) hT (by omega) (by omega) k.1.1.1 k.1.1.2.1 (by omega) (by omega) k.1.1.2.2.1 q.1 (by omega) q.1.2.1 q.1.2.2
  rw [(date_of q.1.1).1, (date_of q.1.1).2.1, (date_of q.1.1).2.2] at mv
  obtain ⟨r1, r2, r3, r4⟩ := t_tnan k.2.1
  have z : dtot 0 0 0 0 0 = 0 := rfl
  have := cad_y y mo d h m s n a b 0 0 0 0 0 0 1 _ _ _ 0 (tnan h m s n) i k o (.inl rfl) (by rw [z, Int.fdiv_eq_ediv_of_nonneg _ (by omega)]; omega) (by rw [z, Int.fmod_eq_emod_of_nonneg _ (by omega)]; omega) (by omega) mv (by rw [r1, r2, r3, r4]; exact q)
  rw [r1, r2, r3, r4] at this
  exact this
theorem lday (y m d : Int) : Fn 29 [] [.int .i64 y, .int .i64 m, .int .i64 d] (ptv y m d 0 0 0 0) := by
  refine fn_of Tryz.func29 rfl fun ww => ?_
  exact st_ret Tryz.func29 (by kernel_rfl)
theorem mov20m (y mo d n Y M D : Int) (k : pOk y mo d 0 0 0 0) (r : -4294967295 ≤ n ∧ n ≤ 4294967295) (T : Int) (hT : ymi y mo + (12 * 0 + n) = T) (e1 : lY T = Y) (e2 : lM T = M) (e3 : cD Y M d = D) (q : pOk Y M D 0 0 0 0) : Fn 7 [] [ptv y mo d 0 0 0 0, .int .i64 n, .int .i64 2] (.tuple #[ptv Y M D 0 0 0 0, .int .i64 0]) := by
  subst e1 e2 e3
  obtain ⟨o, i⟩ := uOk_m n r
  exact rmov_2 n y mo d 0 0 0 0 _ _ _ _ _ _ _ 0 k r (cadm_y y mo d 0 0 0 0 0 n T k o i hT q)
theorem mov20y (y mo d n Y M D : Int) (k : pOk y mo d 0 0 0 0) (r : -4294967295 ≤ n ∧ n ≤ 4294967295) (T : Int) (hT : ymi y mo + (12 * n + 0) = T) (e1 : lY T = Y) (e2 : lM T = M) (e3 : cD Y M d = D) (q : pOk Y M D 0 0 0 0) : Fn 7 [] [ptv y mo d 0 0 0 0, .int .i64 n, .int .i64 1] (.tuple #[ptv Y M D 0 0 0 0, .int .i64 0]) := by
  subst e1 e2 e3
  obtain ⟨o, i⟩ := uOk_y n r
  exact rmov_1 n y mo d 0 0 0 0 _ _ _ _ _ _ _ 0 k r (cadm_y y mo d 0 0 0 0 n 0 T k o i hT q)
theorem since20 (y mo d y' mo' d' x : Int) (k : pOk y mo d 0 0 0 0) (k' : pOk y' mo' d' 0 0 0 0) (e : pnum y' mo' d' 0 0 0 0 - pnum y mo d 0 0 0 0 = x) : Fn 40 [] [ptv y mo d 0 0 0 0, ptv y' mo' d' 0 0 0 0] (.tuple #[wv x, .int .i64 0]) := by
  subst e; exact psince_yes y mo d 0 0 0 0 y' mo' d' 0 0 0 0 k k'
theorem bet20 (y mo d y' mo' d' L A B C D : Int) (k : pOk y mo d 0 0 0 0) (k' : pOk y' mo' d' 0 0 0 0) (l1 : 1 ≤ L) (l2 : L ≤ 4) (hE : bD y mo d 0 0 0 0 y' mo' d' 0 0 0 0 = dnum y' mo' d') (hZ : bZ y mo d 0 0 0 0 y' mo' d' 0 0 0 0 = 0) (e1 : uY L y mo d y' mo' d' = A) (e2 : uMo L y mo d y' mo' d' = B) (e3 : uW L y mo d y' mo' d' = C) (e4 : uD L y mo d y' mo' d' = D) :
    Fn 42 [] [ptv y mo d 0 0 0 0, ptv y' mo' d' 0 0 0 0, .int .i64 L] (.tuple #[duv A B C D 0 0 0 0, .int .i64 0]) := by
  have := cbet y mo d 0 0 0 0 y' mo' d' 0 0 0 0 L _ _ k k' l1 l2 hE hZ
  rw [(date_of k'.1.1).1, (date_of k'.1.1).2.1, (date_of k'.1.1).2.2, e1, e2, e3, e4] at this
  exact this
theorem frac20 (n d p q : Int) (hn : W128 n) (hd : W128 d) (k : fOk n d) (e1 : frP n d = p) (e2 : frQ n d = q) : Fn 41 [] [wv n, wv d] (.tuple #[wv p, wv q, .int .i64 0]) := by
  subst e1 e2; exact frac_f n d hn hd k
theorem times20 (v n x : Int) (hv : W128 v) (hn : I64 n) (e : v * n = x) (h : W128 x) : Fn 43 [] [wv v, .int .i64 n] (.tuple #[wv x, .int .i64 0]) := by
  subst e; exact wtimes_f v n hv hn h
theorem add20 (v n x : Int) (hv : W128 v) (hn : W128 n) (e : v + n = x) (h : W128 x) : Fn 44 [] [wv v, wv n] (.tuple #[wv x, .int .i64 0]) := by
  subst e; exact wadd_yes v n hv hn h
theorem ratio20 (n d mode x : Int) (hn : W128 n) (hd : W128 d) (h0 : d ≠ 0) (h1 : 1 ≤ mode) (h2 : mode ≤ 9) (e : nearQ (nN n d) (nD d) mode = x) (h : W128 x) : Fn 49 [] [wv n, wv d, .int .i64 mode] (.tuple #[wv x, .int .i64 0]) := by
  have := ratio_any n d mode hn hd h0 h1 h2
  rwa [e, rtv_yes h] at this
theorem w20in {x : Int} (h : -1000000000000000000000000 ≤ x ∧ x ≤ 1000000000000000000000000) : W128 x := by unfold W128; omega
theorem alive20 : Fn 9 [] [] (.bool true) := by
  have i44 : I64 44 := by unfold I64; omega
  have i29 : I64 29 := by unfold I64; omega
  have i1 : I64 1 := by unfold I64; omega
  have at1 := rtot_m 2020 1 1 0 0 0 0 2020 2 16 0 0 0 0 0 1 0 15 0 0 0 0 0 1 1 2020 2 1 0 0 0 0 2020 3 1 0 0 0 0 1296000000000000 2505600000000000 1296000000000000 2505600000000000 3801600000000000 44 29 0 2 (.inr ⟨rfl, rfl⟩) (by decide +kernel) (by decide +kernel) (.inl rfl) (by decide +kernel) (by decide) (by decide)
    (bet20 2020 1 1 2020 2 16 2 0 1 0 15 (by decide +kernel) (by decide +kernel) (by decide) (by decide) (by decide +kernel) (by decide +kernel) (by decide +kernel) (by decide +kernel) (by decide +kernel) (by decide +kernel))
    (mov20m 2020 1 1 1 2020 2 1 (by decide +kernel) (by decide) 24241 (by decide) (by decide) (by decide) (by decide +kernel) (by decide +kernel)) (mov20m 2020 1 1 2 2020 3 1 (by decide +kernel) (by decide) 24242 (by decide) (by decide) (by decide) (by decide +kernel) (by decide +kernel))
    (since20 2020 2 1 2020 2 16 _ (by decide +kernel) (by decide +kernel) (by decide +kernel)) (since20 2020 2 1 2020 3 1 _ (by decide +kernel) (by decide +kernel) (by decide +kernel))
    (times20 _ 1 _ (w20in (by decide)) i1 (by decide) (w20in (by decide))) (times20 _ 1 _ (w20in (by decide)) i1 (by decide) (w20in (by decide))) (add20 _ _ _ (w20in (by decide)) (w20in (by decide)) (by decide) (w20in (by decide))) (frac20 _ _ _ _ (w20in (by decide)) (w20in (by decide)) (by decide +kernel) (by decide +kernel) (by decide +kernel))
  have at2 := rtot_m 2020 1 1 0 0 0 0 2021 7 2 0 0 0 0 1 6 0 1 0 0 0 0 0 1 1 2021 1 1 0 0 0 0 2022 1 1 0 0 0 0 15724800000000000 31536000000000000 15724800000000000 31536000000000000 47260800000000000 547 365 0 1 (.inl ⟨rfl, rfl⟩) (by decide +kernel) (by decide +kernel) (.inl rfl) (by decide +kernel) (by decide) (by decide)
    (bet20 2020 1 1 2021 7 2 1 1 6 0 1 (by decide +kernel) (by decide +kernel) (by decide) (by decide) (by decide +kernel) (by decide +kernel) (by decide +kernel) (by decide +kernel) (by decide +kernel) (by decide +kernel))
    (mov20y 2020 1 1 1 2021 1 1 (by decide +kernel) (by decide) 24252 (by decide) (by decide) (by decide) (by decide +kernel) (by decide +kernel)) (mov20y 2020 1 1 2 2022 1 1 (by decide +kernel) (by decide) 24264 (by decide) (by decide) (by decide) (by decide +kernel) (by decide +kernel))
    (since20 2021 1 1 2021 7 2 _ (by decide +kernel) (by decide +kernel) (by decide +kernel)) (since20 2021 1 1 2022 1 1 _ (by decide +kernel) (by decide +kernel) (by decide +kernel))
    (times20 _ 1 _ (w20in (by decide)) i1 (by decide) (w20in (by decide))) (times20 _ 1 _ (w20in (by decide)) i1 (by decide) (w20in (by decide))) (add20 _ _ _ (w20in (by decide)) (w20in (by decide)) (by decide) (w20in (by decide))) (frac20 _ _ _ _ (w20in (by decide)) (w20in (by decide)) (by decide +kernel) (by decide +kernel) (by decide +kernel))
  have ai := rinc_c 1 1 (by decide)
  rw [show decide ((1 : Int) ≤ 1 ∧ (1 : Int) ≤ 1000000000) = true by decide] at ai
  have at3 := rrnd_v 1 2020 1 1 0 0 0 0 2021 7 2 0 0 0 0 1 1 7 0 1 0 0 0 0 0 0 0 547 365 365 1 1 2021 1 1 0 0 0 0 (by decide) (by decide) (by decide) ai (by decide) (by decide) at2
    (times20 _ 1 _ (w20in (by decide)) i1 (by decide) (w20in (by decide))) (ratio20 _ _ _ _ (w20in (by decide)) (w20in (by decide)) (by decide) (by decide) (by decide) (by decide +kernel) (w20in (by decide))) (times20 _ 1 _ (w20in (by decide)) i1 (by decide) (w20in (by decide))) (wint_f 1 i1)
    (mov20y 2020 1 1 1 2021 1 1 (by decide +kernel) (by decide) 24252 (by decide) (by decide) (by decide) (by decide +kernel) (by decide +kernel))
    (bet20 2020 1 1 2021 1 1 1 1 0 0 0 (by decide +kernel) (by decide +kernel) (by decide) (by decide) (by decide +kernel) (by decide +kernel) (by decide +kernel) (by decide +kernel) (by decide +kernel) (by decide +kernel))
  have at4 := mov20m 2020 1 31 1 2020 2 29 (by decide +kernel) (by decide) 24241 (by decide) (by decide) (by decide) (by decide +kernel) (by decide +kernel)
  clear at2 ai
  refine fn_of Tryz.func9 rfl fun ww => ?_
  refine st_fn ent29 (lday (2020) (1) (1)) sub0 (by kernel_rfl) ?_
  refine st_fn ent29 (lday (2020) (2) (16)) sub0 (by kernel_rfl) ?_
  refine st_fn ent12 (at1) sub0 (by kernel_rfl) ?_
  refine st_fn ent29 (lday (2020) (1) (1)) sub0 (by kernel_rfl) ?_
  refine st_fn ent29 (lday (2021) (7) (2)) sub0 (by kernel_rfl) ?_
  refine st_fn ent14 (at3) sub0 (by kernel_rfl) ?_
  refine st_fn ent29 (lday (2020) (1) (31)) sub0 (by kernel_rfl) ?_
  refine st_fn ent7 (at4) sub0 (by kernel_rfl) ?_
  refine st_fn ent30 (wof_fn (44) (by assumption)) sub0 (by kernel_rfl) ?_
  refine st_fn ent30 (wof_fn (29) (by assumption)) sub0 (by kernel_rfl) ?_
  refine st_fn ent29 (lday (2020) (2) (29)) sub0 (by kernel_rfl) ?_
  exact st_ret Tryz.func9 (by kernel_rfl)
/-! back -/
/-! exact -/
end Go.Proofs.YthoedmikfpbfnaaGreat
end
section
/-
  Functions that are entered when they are called (those that only some seats have).
-/
namespace Go.Proofs.YthoedmikfpbfnaaGreat
open Go Go.Ev
theorem ent37 : Enters Tryz.prog 37 := enters_of Tryz.func37 (by kernel_rfl) rfl
theorem ent90 : Enters Tryz.prog 90 := enters_of Tryz.func90 (by kernel_rfl) rfl
theorem ent91 : Enters Tryz.prog 91 := enters_of Tryz.func91 (by kernel_rfl) rfl
theorem ent10 : Enters Tryz.prog 10 := enters_of Tryz.func10 (by kernel_rfl) rfl
theorem ent35 : Enters Tryz.prog 35 := enters_of Tryz.func35 (by kernel_rfl) rfl
end Go.Proofs.YthoedmikfpbfnaaGreat
end
section
/-
  Date-times: what the reference answers of layer 7.
-/
set_option linter.unusedVariables false
set_option maxRecDepth 100000
namespace Go.Proofs.YthoedmikfpbfnaaGreat
open Go Go.RowKit Go.Ev

theorem fzday : FnZ 76 [] [] zv 86400000000000 := by
  have i : I64 86400000000000 := by unfold I64; omega
  refine fnG_of Tryz.func76 rfl fun ww => ?_
  refine st_g ent11 (fzint (86400000000000) (by assumption)) sub0 (by kernel_rfl) (fun zq0 => ?_)
  exact st_retG (zq0) Tryz.func76 (subE 0 rfl (by rfl) sub0) (by kernel_rfl)
theorem time0_no {h m s n : Int} (k : tOk h m s n) (q : tnan h m s n ≠ 0) : (h == 0 && (m == 0 && (s == 0 && (n == 0 && true)))) = false := by
  have := tnan_0 k
  rw [Bool.eq_false_iff]
  intro z
  simp at z
  omega
section
variable (y mo d h m s n : Int)
theorem zright7_yes (k : pOk y mo d h m s n) : Fn 8 [] [ptv y mo d h m s n] (.bool true) := by
  obtain ⟨k1, k2, k3⟩ := k
  by_cases q : dnum y mo d = -100000001
  · have q2 := time0_no k2 fun z => k3 ⟨q, z⟩
    clear k3
    refine fn_of Tryz.func8 rfl fun ww => ?_
    refine st_fn ent27 (zdays_yes (y) (mo) (d) (by assumption)) sub0 (by kernel_rfl) ?_
    refine st_fn ent28 (fzright_yes (h) (m) (s) (n) (by assumption)) sub0 (by kernel_rfl) ?_
    refine st_b 19 (show (dnum y mo d != -100000001) = false by exact bne_eq_false_iff_eq.2 (by omega)) (by kernel_rfl) ?_
    exact st_retv Tryz.func8 (show Value.bool (!(h == 0 && (m == 0 && (s == 0 && (n == 0 && true))))) = _ by (rw [q2]; rfl)) (by kernel_rfl)
  · clear k3
    refine fn_of Tryz.func8 rfl fun ww => ?_
    refine st_fn ent27 (zdays_yes (y) (mo) (d) (by assumption)) sub0 (by kernel_rfl) ?_
    refine st_fn ent28 (fzright_yes (h) (m) (s) (n) (by assumption)) sub0 (by kernel_rfl) ?_
    refine st_b 19 (show (dnum y mo d != -100000001) = true by exact bne_iff_ne.2 (by omega)) (by kernel_rfl) ?_
    exact st_ret Tryz.func8 (by kernel_rfl)
theorem zright7_no (k : ¬ pOk y mo d h m s n) : Fn 8 [] [ptv y mo d h m s n] (.bool false) := by
  by_cases k1 : dOk y mo d
  · by_cases k2 : tOk h m s n
    · have k3 : dnum y mo d = -100000001 ∧ tnan h m s n = 0 := Classical.byContradiction fun q => k ⟨k1, k2, q⟩
      obtain ⟨k4, k5⟩ := k3
      obtain ⟨rfl, rfl, rfl, rfl⟩ := (tnan_0 k2).1 k5
      clear k
      refine fn_of Tryz.func8 rfl fun ww => ?_
      refine st_fn ent27 (zdays_yes (y) (mo) (d) (by assumption)) sub0 (by kernel_rfl) ?_
      refine st_fn ent28 (fzright_yes (0) (0) (0) (0) (by assumption)) sub0 (by kernel_rfl) ?_
      refine st_b 19 (show (dnum y mo d != -100000001) = false by exact bne_eq_false_iff_eq.2 (by omega)) (by kernel_rfl) ?_
      exact st_ret Tryz.func8 (by kernel_rfl)
    · clear k
      refine fn_of Tryz.func8 rfl fun ww => ?_
      refine st_fn ent27 (zdays_yes (y) (mo) (d) (by assumption)) sub0 (by kernel_rfl) ?_
      refine st_fn ent28 (fzright_no (h) (m) (s) (n) (by assumption)) sub0 (by kernel_rfl) ?_
      exact st_ret Tryz.func8 (by kernel_rfl)
  · clear k
    refine fn_of Tryz.func8 rfl fun ww => ?_
    refine st_fn ent27 (zdays_no (y) (mo) (d) (by assumption)) sub0 (by kernel_rfl) ?_
    exact st_ret Tryz.func8 (by kernel_rfl)
theorem znanos7 (k : pOk y mo d h m s n) : FnZ 33 [] [ptv y mo d h m s n] zv (pnum y mo d h m s n) := by
  obtain ⟨k1, k2, k3⟩ := k
  have b := tnan_bd k2
  obtain ⟨k4, k5, k6⟩ := k1
  have k1 : dOk y mo d := ⟨k4, k5, k6⟩
  have i1 : I64 (dnum y mo d) := by unfold I64; omega
  have i2 : I64 (tnan h m s n) := by unfold I64; omega
  have i3 : I64 86400000000000 := by unfold I64; omega
  unfold pnum
  clear k3 k4
  refine fnG_of Tryz.func33 rfl fun ww => ?_
  refine st_fn ent27 (zdays_yes (y) (mo) (d) (by assumption)) sub0 (by kernel_rfl) ?_
  refine st_g ent11 (fzint (dnum y mo d) (by assumption)) sub0 (by kernel_rfl) (fun zq1 => ?_)
  refine st_g ent76 (fzday) sub0 (by kernel_rfl) (fun zq2 => ?_)
  refine st_g ent34 (fzmul (zq1) (zq2) (dnum y mo d) (86400000000000) (by exact Bits.fit i1.w.bits (by decide)) (by exact Bits.fit i3.w.bits (by decide))) (subC 1 rfl (subC 0 rfl sub0)) (by kernel_rfl) (fun zq3 => ?_)
  refine st_fn ent83 (fznanos (h) (m) (s) (n) (by assumption)) sub0 (by kernel_rfl) ?_
  refine st_g ent11 (fzint (tnan h m s n) (by assumption)) sub0 (by kernel_rfl) (fun zq5 => ?_)
  refine st_g ent32 (fzadd (zq3) (zq5) (dnum y mo d * 86400000000000) (tnan h m s n) (by exact Bits.fit (Bits.mul i1.w.bits i3.w.bits) (by decide)) (by exact Bits.fit i2.w.bits (by decide))) (subC 1 rfl (subC 0 rfl sub0)) (by kernel_rfl) (fun zq6 => ?_)
  exact st_retG (zq6) Tryz.func33 (subE 0 rfl (by rfl) sub0) (by kernel_rfl)
end
section
variable (p : ZQ) (x : Int)
theorem zof7_yes (k : pIn x) : Fn 31 [(p, x)] [zv p] (.tuple #[ptN x, .bool true]) := by
  have hb : Bits 1000 x := Bits.mono (show W128 x by unfold pIn at k; unfold W128; omega).bits (by decide)
  have hy : Bits 1000 86400000000000 := Bits.mono (show W128 86400000000000 by unfold W128; omega).bits (by decide)
  obtain ⟨⟨k1, k2⟩, k3⟩ := pIn_split.1 k
  obtain ⟨-, b, c⟩ := x_split x
  have i1 : I64 (x.fdiv 86400000000000) := by show I64 (xd x); unfold I64; omega
  have i2 : I64 (x.fmod 86400000000000) := by show I64 (xt x); unfold I64; omega
  have b1 : Bits 1000 (x.fdiv 86400000000000) := i1.w.bits.mono (by decide)
  have b2 : Bits 1000 (x.fmod 86400000000000) := i2.w.bits.mono (by decide)
  have o1 := zof5_yes (x.fdiv 86400000000000) k1 k2
  have o2 := fzof (x.fmod 86400000000000) b c
  have o3 := zright7_yes _ _ _ _ _ _ _ (of_pOk k).1
  have e1 : (x.fdiv 86400000000000 < -200000000) = False := by simp only [eq_iff_iff, iff_false]; show ¬ xd x < _; omega
  have e2 : (200000000 < x.fdiv 86400000000000) = False := by simp only [eq_iff_iff, iff_false]; show ¬ _ < xd x; omega
  change -100000001 ≤ x.fdiv 86400000000000 at k1
  change x.fdiv 86400000000000 ≤ 100000000 at k2
  clear k3 e1 e2
  refine fn_of Tryz.func31 rfl fun ww => ?_
  refine st_g ent76 (fzday) sub0 (by kernel_rfl) (fun zq0 => ?_)
  refine st_g ent75 (fzdiv (p) (zq0) (x) (86400000000000) (by exact Bits.mono hb (by decide)) (by exact Bits.mono hy (by decide)) (by omega)) (subC 1 rfl (subC 0 rfl sub0)) (by kernel_rfl) (fun zq1 => ?_)
  refine st_fn ent36 (fits_f (zq1.fst) (x.fdiv 86400000000000) (by exact Bits.mono i1.w.bits (by decide)) (by assumption)) (subC 0 rfl sub0) (by kernel_rfl) ?_
  refine st_b 28 (show (decide (x.fdiv 86400000000000 < -200000000)) = false by exact decide_eq_false (by omega)) (by kernel_rfl) ?_
  refine st_b 32 (show (decide (x.fdiv 86400000000000 > 200000000)) = false by exact decide_eq_false (by omega)) (by kernel_rfl) ?_
  refine st_fn ent77 (o1) sub0 (by kernel_rfl) ?_
  refine st_fn ent36 (fits_f (zq1.snd) (x.fmod 86400000000000) (by exact Bits.mono i2.w.bits (by decide)) (by assumption)) (subC 1 rfl sub0) (by kernel_rfl) ?_
  refine st_fn ent78 (o2) sub0 (by kernel_rfl) ?_
  refine st_fn ent8 (o3) sub0 (by kernel_rfl) ?_
  exact st_retv Tryz.func31 (show Value.tuple #[Value.agg { toList := [vI64 (dY (x.fdiv 86400000000000)), vI64 (dM (x.fdiv 86400000000000)), vI64 (dD (x.fdiv 86400000000000)), vI64 (tH (x.fmod 86400000000000)), vI64 (tM (x.fmod 86400000000000)), vI64 (tS (x.fmod 86400000000000)), vI64 (tN (x.fmod 86400000000000))] }, Value.bool true] = _ by rfl) (by kernel_rfl)
theorem zof7_no (hx : Bits 900 x) (k : ¬ pIn x) : Fn 31 [(p, x)] [zv p] (.tuple #[pt0, .bool false]) := by
  have hb : Bits 1000 x := hx.mono (by decide)
  have hy : Bits 1000 86400000000000 := Bits.mono (show W128 86400000000000 by unfold W128; omega).bits (by decide)
  obtain ⟨-, b, c⟩ := x_split x
  have i2 : I64 (x.fmod 86400000000000) := by show I64 (xt x); unfold I64; omega
  have b2 : Bits 1000 (x.fmod 86400000000000) := i2.w.bits.mono (by decide)
  have b1 : Bits 1000 (x.fdiv 86400000000000) := Bits.mono (fdiv_b hx (by omega)) (by decide)
  have o2 := fzof (x.fmod 86400000000000) b c
  by_cases i1 : I64 (x.fdiv 86400000000000)
  · by_cases k1 : x.fdiv 86400000000000 < -200000000
    · refine fn_of Tryz.func31 rfl fun ww => ?_
      refine st_g ent76 (fzday) sub0 (by kernel_rfl) (fun zq0 => ?_)
      refine st_g ent75 (fzdiv (p) (zq0) (x) (86400000000000) (by exact Bits.mono hx (by decide)) (by exact Bits.mono hy (by decide)) (by omega)) (subC 1 rfl (subC 0 rfl sub0)) (by kernel_rfl) (fun zq1 => ?_)
      refine st_fn ent36 (fits_f (zq1.fst) (x.fdiv 86400000000000) (by exact Bits.mono b1 (by decide)) (by assumption)) (subC 0 rfl sub0) (by kernel_rfl) ?_
      refine st_b 28 (show (decide (x.fdiv 86400000000000 < -200000000)) = true by exact decide_eq_true (by omega)) (by kernel_rfl) ?_
      exact st_ret Tryz.func31 (by kernel_rfl)
    · by_cases k2 : 200000000 < x.fdiv 86400000000000
      · refine fn_of Tryz.func31 rfl fun ww => ?_
        refine st_g ent76 (fzday) sub0 (by kernel_rfl) (fun zq0 => ?_)
        refine st_g ent75 (fzdiv (p) (zq0) (x) (86400000000000) (by exact Bits.mono hx (by decide)) (by exact Bits.mono hy (by decide)) (by omega)) (subC 1 rfl (subC 0 rfl sub0)) (by kernel_rfl) (fun zq1 => ?_)
        refine st_fn ent36 (fits_f (zq1.fst) (x.fdiv 86400000000000) (by exact Bits.mono b1 (by decide)) (by assumption)) (subC 0 rfl sub0) (by kernel_rfl) ?_
        refine st_b 28 (show (decide (x.fdiv 86400000000000 < -200000000)) = false by exact decide_eq_false (by omega)) (by kernel_rfl) ?_
        refine st_b 32 (show (decide (x.fdiv 86400000000000 > 200000000)) = true by exact decide_eq_true (by omega)) (by kernel_rfl) ?_
        exact st_ret Tryz.func31 (by kernel_rfl)
      · by_cases k3 : -100000001 ≤ x.fdiv 86400000000000 ∧ x.fdiv 86400000000000 ≤ 100000000
        · have o1 := zof5_yes (x.fdiv 86400000000000) k3.1 k3.2
          have k4 : ¬ pOk (dY (x.fdiv 86400000000000)) (dM (x.fdiv 86400000000000)) (dD (x.fdiv 86400000000000)) (tH (x.fmod 86400000000000)) (tM (x.fmod 86400000000000)) (tS (x.fmod 86400000000000)) (tN (x.fmod 86400000000000)) := fun q => k (pIn_split.2 ⟨k3, fun z => q.2.2 ⟨(date_ok (xd x)).2.trans z.1, (tnan_t b).trans z.2⟩⟩)
          have o3 := zright7_no _ _ _ _ _ _ _ k4
          refine fn_of Tryz.func31 rfl fun ww => ?_
          refine st_g ent76 (fzday) sub0 (by kernel_rfl) (fun zq0 => ?_)
          refine st_g ent75 (fzdiv (p) (zq0) (x) (86400000000000) (by exact Bits.mono hx (by decide)) (by exact Bits.mono hy (by decide)) (by omega)) (subC 1 rfl (subC 0 rfl sub0)) (by kernel_rfl) (fun zq1 => ?_)
          refine st_fn ent36 (fits_f (zq1.fst) (x.fdiv 86400000000000) (by exact Bits.mono b1 (by decide)) (by assumption)) (subC 0 rfl sub0) (by kernel_rfl) ?_
          refine st_b 28 (show (decide (x.fdiv 86400000000000 < -200000000)) = false by exact decide_eq_false (by omega)) (by kernel_rfl) ?_
          refine st_b 32 (show (decide (x.fdiv 86400000000000 > 200000000)) = false by exact decide_eq_false (by omega)) (by kernel_rfl) ?_
          refine st_fn ent77 (o1) sub0 (by kernel_rfl) ?_
          refine st_fn ent36 (fits_f (zq1.snd) (x.fmod 86400000000000) (by exact Bits.mono i2.w.bits (by decide)) (by assumption)) (subC 1 rfl sub0) (by kernel_rfl) ?_
          refine st_fn ent78 (o2) sub0 (by kernel_rfl) ?_
          refine st_fn ent8 (o3) sub0 (by kernel_rfl) ?_
          exact st_ret Tryz.func31 (by kernel_rfl)
        · have o1 := zof5_no (x.fdiv 86400000000000) (by omega)
          refine fn_of Tryz.func31 rfl fun ww => ?_
          refine st_g ent76 (fzday) sub0 (by kernel_rfl) (fun zq0 => ?_)
          refine st_g ent75 (fzdiv (p) (zq0) (x) (86400000000000) (by exact Bits.mono hx (by decide)) (by exact Bits.mono hy (by decide)) (by omega)) (subC 1 rfl (subC 0 rfl sub0)) (by kernel_rfl) (fun zq1 => ?_)
          refine st_fn ent36 (fits_f (zq1.fst) (x.fdiv 86400000000000) (by exact Bits.mono b1 (by decide)) (by assumption)) (subC 0 rfl sub0) (by kernel_rfl) ?_
          refine st_b 28 (show (decide (x.fdiv 86400000000000 < -200000000)) = false by exact decide_eq_false (by omega)) (by kernel_rfl) ?_
          refine st_b 32 (show (decide (x.fdiv 86400000000000 > 200000000)) = false by exact decide_eq_false (by omega)) (by kernel_rfl) ?_
          refine st_fn ent77 (o1) sub0 (by kernel_rfl) ?_
          refine st_fn ent36 (fits_f (zq1.snd) (x.fmod 86400000000000) (by exact Bits.mono i2.w.bits (by decide)) (by assumption)) (subC 1 rfl sub0) (by kernel_rfl) ?_
          refine st_fn ent78 (o2) sub0 (by kernel_rfl) ?_
          exact st_ret Tryz.func31 (by kernel_rfl)
  · refine fn_of Tryz.func31 rfl fun ww => ?_
    refine st_g ent76 (fzday) sub0 (by kernel_rfl) (fun zq0 => ?_)
    refine st_g ent75 (fzdiv (p) (zq0) (x) (86400000000000) (by exact Bits.mono hx (by decide)) (by exact Bits.mono hy (by decide)) (by omega)) (subC 1 rfl (subC 0 rfl sub0)) (by kernel_rfl) (fun zq1 => ?_)
    refine st_fn ent36 (fits_n (zq1.fst) (x.fdiv 86400000000000) (by exact Bits.mono b1 (by decide)) (by assumption)) (subC 0 rfl sub0) (by kernel_rfl) ?_
    exact st_ret Tryz.func31 (by kernel_rfl)
end
end Go.Proofs.YthoedmikfpbfnaaGreat
end
section
/-
  Durations put to days and to date-times, and what lies between date-times: what the reference answers of layer 19; the laws CalendarAddsDates, CalendarAdds, CalendarBetweens.
-/
set_option linter.unusedVariables false
set_option linter.unusedSimpArgs false
set_option maxRecDepth 100000
namespace Go.Proofs.YthoedmikfpbfnaaGreat
open Go Go.RowKit Go.Ev

section
variable (y m d n T : Int)
theorem zreg_cn (m1 : 1 ≤ m) (m2 : m ≤ 12) (d1 : 1 ≤ d) (k : ¬ dOk y m (cD y m d)) : Fn 135 [] [.int .i64 y, .int .i64 m, .int .i64 d, .int .i64 1] (.tuple #[dv0, .int .i64 4]) := by
  have kc := zmonth y m
  obtain ⟨l, hl⟩ : ∃ l, l = mlen y m := ⟨_, rfl⟩
  have hc : cD y m d = if l < d then l else d := by rw [hl]; rfl
  rw [hc] at k
  rw [← hl] at kc
  by_cases q : l < d
  · rw [if_pos q] at k
    refine fn_of Tryz.func135 rfl fun ww => ?_
    refine st_b 41 (show (decide (m < 1)) = false by exact decide_eq_false (by omega)) (by kernel_rfl) ?_
    refine st_b 43 (show (decide (m > 12)) = false by exact decide_eq_false (by omega)) (by kernel_rfl) ?_
    refine st_b 45 (show (decide (d < 1)) = false by exact decide_eq_false (by omega)) (by kernel_rfl) ?_
    refine st_fn ent73 (kc) sub0 (by kernel_rfl) ?_
    refine st_b 50 (show (decide (d > l)) = true by exact decide_eq_true (by omega)) (by kernel_rfl) ?_
    refine st_fn ent73 (kc) sub0 (by kernel_rfl) ?_
    refine st_fn ent162 (zright5_no (y) (m) (l) (by assumption)) sub0 (by kernel_rfl) ?_
    exact st_ret Tryz.func135 (by kernel_rfl)
  · rw [if_neg q] at k
    refine fn_of Tryz.func135 rfl fun ww => ?_
    refine st_b 41 (show (decide (m < 1)) = false by exact decide_eq_false (by omega)) (by kernel_rfl) ?_
    refine st_b 43 (show (decide (m > 12)) = false by exact decide_eq_false (by omega)) (by kernel_rfl) ?_
    refine st_b 45 (show (decide (d < 1)) = false by exact decide_eq_false (by omega)) (by kernel_rfl) ?_
    refine st_fn ent73 (kc) sub0 (by kernel_rfl) ?_
    refine st_b 50 (show (decide (d > l)) = false by exact decide_eq_false (by omega)) (by kernel_rfl) ?_
    refine st_fn ent162 (zright5_no (y) (m) (d) (by assumption)) sub0 (by kernel_rfl) ?_
    exact st_ret Tryz.func135 (by kernel_rfl)
end
section
variable (a b c d h mi s n : Int)
theorem zpart (i : all64 a b c d h mi s n) : FnZ 90 [] [duv a b c d h mi s n] zv (dtot 0 h mi s n) := by
  have t1 : FnZ 132 [] [duv a b c 0 h mi s n] zv (dtot 0 h mi s n) := zutot a b c 0 h mi s n i64_0 i.2.2.2.2.1 i.2.2.2.2.2.1 i.2.2.2.2.2.2.1 i.2.2.2.2.2.2.2
  clear i
  refine fnG_of Tryz.func90 rfl fun ww => ?_
  refine st_g ent132 (t1) sub0 (by kernel_rfl) (fun zq0 => ?_)
  exact st_retG (zq0) Tryz.func90 (subE 0 rfl (by rfl) sub0) (by kernel_rfl)
variable (y m D k q o T A B C e : Int)
theorem zmov_e (hl : Fn 134 [] [dv y m D, .int .i64 a, .int .i64 b] (dv (lY T) (lM T) D)) (hr : Fn 135 [] [.int .i64 (lY T), .int .i64 (lM T), .int .i64 D, .int .i64 o] (.tuple #[dv0, .int .i64 e])) (he : e ≠ 0) :
    Fn 91 [] [dv y m D, duv a b c d h mi s n, .int .i64 q, .int .i64 o] (.tuple #[dv0, .int .i64 e]) := by
  refine fn_of Tryz.func91 rfl fun ww => ?_
  refine st_fn ent134 (hl) sub0 (by kernel_rfl) ?_
  refine st_fn ent135 (hr) sub0 (by kernel_rfl) ?_
  refine st_b 31 (show (e != 0) = true by exact bne_iff_ne.2 (by omega)) (by kernel_rfl) ?_
  exact st_ret Tryz.func91 (by kernel_rfl)
theorem zmov_v (Y M W : Int) (hc : -4294967295 ≤ c ∧ c ≤ 4294967295) (hd : -104249991400 ≤ d ∧ d ≤ 104249991400) (hq : -200000000000 ≤ q ∧ q ≤ 200000000000) (hl : Fn 134 [] [dv y m D, .int .i64 a, .int .i64 b] (dv (lY T) (lM T) D)) (hr : Fn 135 [] [.int .i64 (lY T), .int .i64 (lM T), .int .i64 D, .int .i64 o] (.tuple #[dv Y M W, .int .i64 0])) (ha : Fn 112 [] [dv Y M W, .int .i64 (d + 7 * c + q)] (.tuple #[dv A B C, .int .i64 e])) :
    Fn 91 [] [dv y m D, duv a b c d h mi s n, .int .i64 q, .int .i64 o] (.tuple #[dv A B C, .int .i64 e]) := by
  refine fn_of Tryz.func91 rfl fun ww => ?_
  refine st_fn ent134 (hl) sub0 (by kernel_rfl) ?_
  refine st_fn ent135 (hr) sub0 (by kernel_rfl) ?_
  refine st_i 39 .i64 (x' := 7 * c) (Go.IntWalk.i64_in _ (by omega)) (by kernel_rfl) ?_
  refine st_i 40 .i64 (x' := d + 7 * c) (Go.IntWalk.i64_in _ (by omega)) (by kernel_rfl) ?_
  refine st_i 42 .i64 (x' := d + 7 * c + q) (Go.IntWalk.i64_in _ (by omega)) (by kernel_rfl) ?_
  refine st_fn ent112 (ha) sub0 (by kernel_rfl) ?_
  exact st_ret Tryz.func91 (by kernel_rfl)
end
end Go.Proofs.YthoedmikfpbfnaaGreat
end
section
/-
  Durations put to date-times, and what lies between date-times: what the reference answers of layer 19; the laws CalendarAdds, CalendarBetweens.
-/
set_option linter.unusedVariables false
set_option linter.unusedSimpArgs false
set_option maxRecDepth 100000
namespace Go.Proofs.YthoedmikfpbfnaaGreat
open Go Go.RowKit Go.Ev

section
variable (y mo D h m s n a b c d hh mi ss nn o A B C e Q R : Int)
/-- The days and the rest of a time and a duration, as the reference reckons them. -/
theorem zdays_r (k : tOk h m s n) (hb : -9007199254740992000000000 < dtot 0 hh mi ss nn ∧ dtot 0 hh mi ss nn < 9007199254740992000000000) (hQ : (tnan h m s n + dtot 0 hh mi ss nn).fdiv 86400000000000 = Q) (hR : (tnan h m s n + dtot 0 hh mi ss nn).fmod 86400000000000 = R) :
    (∀ p q : ZQ, FnZZ 75 [(p, tnan h m s n + dtot 0 hh mi ss nn), (q, 86400000000000)] [zv p, zv q] (fun q => .tuple #[zv q.1, zv q.2]) Q R) ∧ I64 (tnan h m s n) ∧ W128 (dtot 0 hh mi ss nn) ∧ I64 Q ∧ I64 R ∧ 0 ≤ R ∧ R < 86400000000000 := by
  have b := tnan_bd k
  have e2 : Q * 86400000000000 + R = tnan h m s n + dtot 0 hh mi ss nn ∧ 0 ≤ R ∧ R < 86400000000000 := by rw [← hQ, ← hR]; exact x_split _
  have bx : Bits 1000 (tnan h m s n + dtot 0 hh mi ss nn) := Bits.mono (show W128 (tnan h m s n + dtot 0 hh mi ss nn) by unfold W128; omega).bits (by decide)
  have by_ : Bits 1000 86400000000000 := Bits.mono (show W128 86400000000000 by unfold W128; omega).bits (by decide)
  refine ⟨fun p q => ?_, by unfold I64; omega, by unfold W128; omega, by unfold I64; omega, by unfold I64; omega, e2.2.1, e2.2.2⟩
  have := fzdiv p q _ 86400000000000 bx by_ (by omega)
  rwa [hQ, hR] at this
theorem zad_e (i : all64 a b c d hh mi ss nn) (k1 : pOk y mo D h m s n) (k2 : uOk a b c d hh mi ss nn) (k3 : o = 1 ∨ o = 2) (hQ : (tnan h m s n + dtot 0 hh mi ss nn).fdiv 86400000000000 = Q) (hR : (tnan h m s n + dtot 0 hh mi ss nn).fmod 86400000000000 = R)
    (hm : Fn 91 [] [dv y mo D, duv a b c d hh mi ss nn, .int .i64 Q, .int .i64 o] (.tuple #[dv0, .int .i64 e])) (he : e ≠ 0) : Fn 37 [] [ptv y mo D h m s n, duv a b c d hh mi ss nn, .int .i64 o] (.tuple #[pt0, .int .i64 e]) := by
  have kr1 := zright7_yes y mo D h m s n k1
  have kr2 := zuright_y a b c d hh mi ss nn i k2
  have kr3 := zpart a b c d hh mi ss nn i
  have kr4 := fznanos h m s n k1.2.1
  obtain ⟨kr5, i1, i2, i3, i4, r0, r1⟩ := zdays_r h m s n hh mi ss nn Q R k1.2.1 (uOk_bd k2).2.2.2.2 hQ hR
  have bq : Bits 1000 Q := i3.w.bits.mono (by decide)
  have br : Bits 1000 R := i4.w.bits.mono (by decide)
  clear i k1 k2 hQ hR
  rcases k3 with rfl | rfl
  · refine fn_of Tryz.func37 rfl fun ww => ?_
    refine st_fn ent8 (kr1) sub0 (by kernel_rfl) ?_
    refine st_fn ent89 (kr2) sub0 (by kernel_rfl) ?_
    refine st_fn ent83 (kr4) sub0 (by kernel_rfl) ?_
    refine st_g ent11 (fzint (tnan h m s n) (by assumption)) sub0 (by kernel_rfl) (fun zq3 => ?_)
    refine st_g ent90 (kr3) sub0 (by kernel_rfl) (fun zq4 => ?_)
    refine st_g ent32 (fzadd (zq3) (zq4) (tnan h m s n) (dtot 0 hh mi ss nn) (by exact Bits.fit i1.w.bits (by decide)) (by exact Bits.fit i2.bits (by decide))) (subC 1 rfl (subC 0 rfl sub0)) (by kernel_rfl) (fun zq5 => ?_)
    refine st_g ent76 (fzday) sub0 (by kernel_rfl) (fun zq6 => ?_)
    refine st_g ent75 (kr5 (zq5) (zq6)) (subC 1 rfl (subC 0 rfl sub0)) (by kernel_rfl) (fun zq7 => ?_)
    refine st_fn ent36 (fits_f (zq7.fst) (Q) (by exact Bits.mono i3.w.bits (by decide)) (by assumption)) (subC 0 rfl sub0) (by kernel_rfl) ?_
    refine st_fn ent36 (fits_f (zq7.snd) (R) (by exact Bits.mono i4.w.bits (by decide)) (by assumption)) (subC 1 rfl sub0) (by kernel_rfl) ?_
    refine st_fn ent91 (hm) sub0 (by kernel_rfl) ?_
    refine st_b 66 (show (e != 0) = true by exact bne_iff_ne.2 (by omega)) (by kernel_rfl) ?_
    exact st_ret Tryz.func37 (by kernel_rfl)
  · refine fn_of Tryz.func37 rfl fun ww => ?_
    refine st_fn ent8 (kr1) sub0 (by kernel_rfl) ?_
    refine st_fn ent89 (kr2) sub0 (by kernel_rfl) ?_
    refine st_fn ent83 (kr4) sub0 (by kernel_rfl) ?_
    refine st_g ent11 (fzint (tnan h m s n) (by assumption)) sub0 (by kernel_rfl) (fun zq3 => ?_)
    refine st_g ent90 (kr3) sub0 (by kernel_rfl) (fun zq4 => ?_)
    refine st_g ent32 (fzadd (zq3) (zq4) (tnan h m s n) (dtot 0 hh mi ss nn) (by exact Bits.fit i1.w.bits (by decide)) (by exact Bits.fit i2.bits (by decide))) (subC 1 rfl (subC 0 rfl sub0)) (by kernel_rfl) (fun zq5 => ?_)
    refine st_g ent76 (fzday) sub0 (by kernel_rfl) (fun zq6 => ?_)
    refine st_g ent75 (kr5 (zq5) (zq6)) (subC 1 rfl (subC 0 rfl sub0)) (by kernel_rfl) (fun zq7 => ?_)
    refine st_fn ent36 (fits_f (zq7.fst) (Q) (by exact Bits.mono i3.w.bits (by decide)) (by assumption)) (subC 0 rfl sub0) (by kernel_rfl) ?_
    refine st_fn ent36 (fits_f (zq7.snd) (R) (by exact Bits.mono i4.w.bits (by decide)) (by assumption)) (subC 1 rfl sub0) (by kernel_rfl) ?_
    refine st_fn ent91 (hm) sub0 (by kernel_rfl) ?_
    refine st_b 66 (show (e != 0) = true by exact bne_iff_ne.2 (by omega)) (by kernel_rfl) ?_
    exact st_ret Tryz.func37 (by kernel_rfl)
theorem zad_n (i : all64 a b c d hh mi ss nn) (k1 : pOk y mo D h m s n) (k2 : uOk a b c d hh mi ss nn) (k3 : o = 1 ∨ o = 2) (hQ : (tnan h m s n + dtot 0 hh mi ss nn).fdiv 86400000000000 = Q) (hR : (tnan h m s n + dtot 0 hh mi ss nn).fmod 86400000000000 = R)
    (hm : Fn 91 [] [dv y mo D, duv a b c d hh mi ss nn, .int .i64 Q, .int .i64 o] (.tuple #[dv A B C, .int .i64 0])) (hp : ¬ pOk A B C (tH R) (tM R) (tS R) (tN R)) : Fn 37 [] [ptv y mo D h m s n, duv a b c d hh mi ss nn, .int .i64 o] (.tuple #[pt0, .int .i64 4]) := by
  have kr1 := zright7_yes y mo D h m s n k1
  have kr2 := zuright_y a b c d hh mi ss nn i k2
  have kr3 := zpart a b c d hh mi ss nn i
  have kr4 := fznanos h m s n k1.2.1
  have kr6 := zright7_no _ _ _ _ _ _ _ hp
  obtain ⟨kr5, i1, i2, i3, i4, r0, r1⟩ := zdays_r h m s n hh mi ss nn Q R k1.2.1 (uOk_bd k2).2.2.2.2 hQ hR
  have bq : Bits 1000 Q := i3.w.bits.mono (by decide)
  have br : Bits 1000 R := i4.w.bits.mono (by decide)
  clear i k1 k2 hQ hR hp
  rcases k3 with rfl | rfl
  · refine fn_of Tryz.func37 rfl fun ww => ?_
    refine st_fn ent8 (kr1) sub0 (by kernel_rfl) ?_
    refine st_fn ent89 (kr2) sub0 (by kernel_rfl) ?_
    refine st_fn ent83 (kr4) sub0 (by kernel_rfl) ?_
    refine st_g ent11 (fzint (tnan h m s n) (by assumption)) sub0 (by kernel_rfl) (fun zq3 => ?_)
    refine st_g ent90 (kr3) sub0 (by kernel_rfl) (fun zq4 => ?_)
    refine st_g ent32 (fzadd (zq3) (zq4) (tnan h m s n) (dtot 0 hh mi ss nn) (by exact Bits.fit i1.w.bits (by decide)) (by exact Bits.fit i2.bits (by decide))) (subC 1 rfl (subC 0 rfl sub0)) (by kernel_rfl) (fun zq5 => ?_)
    refine st_g ent76 (fzday) sub0 (by kernel_rfl) (fun zq6 => ?_)
    refine st_g ent75 (kr5 (zq5) (zq6)) (subC 1 rfl (subC 0 rfl sub0)) (by kernel_rfl) (fun zq7 => ?_)
    refine st_fn ent36 (fits_f (zq7.fst) (Q) (by exact Bits.mono i3.w.bits (by decide)) (by assumption)) (subC 0 rfl sub0) (by kernel_rfl) ?_
    refine st_fn ent36 (fits_f (zq7.snd) (R) (by exact Bits.mono i4.w.bits (by decide)) (by assumption)) (subC 1 rfl sub0) (by kernel_rfl) ?_
    refine st_fn ent91 (hm) sub0 (by kernel_rfl) ?_
    refine st_fn ent78 (fzof (R) (by assumption) (by assumption)) sub0 (by kernel_rfl) ?_
    refine st_fn ent8 (kr6) sub0 (by kernel_rfl) ?_
    exact st_ret Tryz.func37 (by kernel_rfl)
  · refine fn_of Tryz.func37 rfl fun ww => ?_
    refine st_fn ent8 (kr1) sub0 (by kernel_rfl) ?_
    refine st_fn ent89 (kr2) sub0 (by kernel_rfl) ?_
    refine st_fn ent83 (kr4) sub0 (by kernel_rfl) ?_
    refine st_g ent11 (fzint (tnan h m s n) (by assumption)) sub0 (by kernel_rfl) (fun zq3 => ?_)
    refine st_g ent90 (kr3) sub0 (by kernel_rfl) (fun zq4 => ?_)
    refine st_g ent32 (fzadd (zq3) (zq4) (tnan h m s n) (dtot 0 hh mi ss nn) (by exact Bits.fit i1.w.bits (by decide)) (by exact Bits.fit i2.bits (by decide))) (subC 1 rfl (subC 0 rfl sub0)) (by kernel_rfl) (fun zq5 => ?_)
    refine st_g ent76 (fzday) sub0 (by kernel_rfl) (fun zq6 => ?_)
    refine st_g ent75 (kr5 (zq5) (zq6)) (subC 1 rfl (subC 0 rfl sub0)) (by kernel_rfl) (fun zq7 => ?_)
    refine st_fn ent36 (fits_f (zq7.fst) (Q) (by exact Bits.mono i3.w.bits (by decide)) (by assumption)) (subC 0 rfl sub0) (by kernel_rfl) ?_
    refine st_fn ent36 (fits_f (zq7.snd) (R) (by exact Bits.mono i4.w.bits (by decide)) (by assumption)) (subC 1 rfl sub0) (by kernel_rfl) ?_
    refine st_fn ent91 (hm) sub0 (by kernel_rfl) ?_
    refine st_fn ent78 (fzof (R) (by assumption) (by assumption)) sub0 (by kernel_rfl) ?_
    refine st_fn ent8 (kr6) sub0 (by kernel_rfl) ?_
    exact st_ret Tryz.func37 (by kernel_rfl)
theorem zad_y (i : all64 a b c d hh mi ss nn) (k1 : pOk y mo D h m s n) (k2 : uOk a b c d hh mi ss nn) (k3 : o = 1 ∨ o = 2) (hQ : (tnan h m s n + dtot 0 hh mi ss nn).fdiv 86400000000000 = Q) (hR : (tnan h m s n + dtot 0 hh mi ss nn).fmod 86400000000000 = R)
    (hm : Fn 91 [] [dv y mo D, duv a b c d hh mi ss nn, .int .i64 Q, .int .i64 o] (.tuple #[dv A B C, .int .i64 0])) (hp : pOk A B C (tH R) (tM R) (tS R) (tN R)) : Fn 37 [] [ptv y mo D h m s n, duv a b c d hh mi ss nn, .int .i64 o] (.tuple #[ptv A B C (tH R) (tM R) (tS R) (tN R), .int .i64 0]) := by
  have kr1 := zright7_yes y mo D h m s n k1
  have kr2 := zuright_y a b c d hh mi ss nn i k2
  have kr3 := zpart a b c d hh mi ss nn i
  have kr4 := fznanos h m s n k1.2.1
  have kr6 := zright7_yes _ _ _ _ _ _ _ hp
  obtain ⟨kr5, i1, i2, i3, i4, r0, r1⟩ := zdays_r h m s n hh mi ss nn Q R k1.2.1 (uOk_bd k2).2.2.2.2 hQ hR
  have bq : Bits 1000 Q := i3.w.bits.mono (by decide)
  have br : Bits 1000 R := i4.w.bits.mono (by decide)
  clear i k1 k2 hQ hR hp
  rcases k3 with rfl | rfl
  · refine fn_of Tryz.func37 rfl fun ww => ?_
    refine st_fn ent8 (kr1) sub0 (by kernel_rfl) ?_
    refine st_fn ent89 (kr2) sub0 (by kernel_rfl) ?_
    refine st_fn ent83 (kr4) sub0 (by kernel_rfl) ?_
    refine st_g ent11 (fzint (tnan h m s n) (by assumption)) sub0 (by kernel_rfl) (fun zq3 => ?_)
    refine st_g ent90 (kr3) sub0 (by kernel_rfl) (fun zq4 => ?_)
    refine st_g ent32 (fzadd (zq3) (zq4) (tnan h m s n) (dtot 0 hh mi ss nn) (by exact Bits.fit i1.w.bits (by decide)) (by exact Bits.fit i2.bits (by decide))) (subC 1 rfl (subC 0 rfl sub0)) (by kernel_rfl) (fun zq5 => ?_)
    refine st_g ent76 (fzday) sub0 (by kernel_rfl) (fun zq6 => ?_)
    refine st_g ent75 (kr5 (zq5) (zq6)) (subC 1 rfl (subC 0 rfl sub0)) (by kernel_rfl) (fun zq7 => ?_)
    refine st_fn ent36 (fits_f (zq7.fst) (Q) (by exact Bits.mono i3.w.bits (by decide)) (by assumption)) (subC 0 rfl sub0) (by kernel_rfl) ?_
    refine st_fn ent36 (fits_f (zq7.snd) (R) (by exact Bits.mono i4.w.bits (by decide)) (by assumption)) (subC 1 rfl sub0) (by kernel_rfl) ?_
    refine st_fn ent91 (hm) sub0 (by kernel_rfl) ?_
    refine st_fn ent78 (fzof (R) (by assumption) (by assumption)) sub0 (by kernel_rfl) ?_
    refine st_fn ent8 (kr6) sub0 (by kernel_rfl) ?_
    exact st_ret Tryz.func37 (by kernel_rfl)
  · refine fn_of Tryz.func37 rfl fun ww => ?_
    refine st_fn ent8 (kr1) sub0 (by kernel_rfl) ?_
    refine st_fn ent89 (kr2) sub0 (by kernel_rfl) ?_
    refine st_fn ent83 (kr4) sub0 (by kernel_rfl) ?_
    refine st_g ent11 (fzint (tnan h m s n) (by assumption)) sub0 (by kernel_rfl) (fun zq3 => ?_)
    refine st_g ent90 (kr3) sub0 (by kernel_rfl) (fun zq4 => ?_)
    refine st_g ent32 (fzadd (zq3) (zq4) (tnan h m s n) (dtot 0 hh mi ss nn) (by exact Bits.fit i1.w.bits (by decide)) (by exact Bits.fit i2.bits (by decide))) (subC 1 rfl (subC 0 rfl sub0)) (by kernel_rfl) (fun zq5 => ?_)
    refine st_g ent76 (fzday) sub0 (by kernel_rfl) (fun zq6 => ?_)
    refine st_g ent75 (kr5 (zq5) (zq6)) (subC 1 rfl (subC 0 rfl sub0)) (by kernel_rfl) (fun zq7 => ?_)
    refine st_fn ent36 (fits_f (zq7.fst) (Q) (by exact Bits.mono i3.w.bits (by decide)) (by assumption)) (subC 0 rfl sub0) (by kernel_rfl) ?_
    refine st_fn ent36 (fits_f (zq7.snd) (R) (by exact Bits.mono i4.w.bits (by decide)) (by assumption)) (subC 1 rfl sub0) (by kernel_rfl) ?_
    refine st_fn ent91 (hm) sub0 (by kernel_rfl) ?_
    refine st_fn ent78 (fzof (R) (by assumption) (by assumption)) sub0 (by kernel_rfl) ?_
    refine st_fn ent8 (kr6) sub0 (by kernel_rfl) ?_
    exact st_ret Tryz.func37 (by kernel_rfl)
variable (E F G : Int)
end
end Go.Proofs.YthoedmikfpbfnaaGreat
end
section
/-
  So many units from a date-time: what the reference answers of layer 20; the law RelativeMoves.
-/
set_option linter.unusedVariables false
set_option linter.unusedSimpArgs false
set_option maxRecDepth 100000
namespace Go.Proofs.YthoedmikfpbfnaaGreat
open Go Go.RowKit Go.Ev

section
variable (y mo d h m s nn n u A B C H M S N e : Int) (p : ZQ)
theorem zrlen (l1 : 3 ≤ u) (l2 : u ≤ 8) : FnZ 35 [] [.int .i64 u] zv (rlen u) := by
  by_cases q : u = 3
  · subst q
    have i1 : I64 604800000000000 := by unfold I64; omega
    show FnZ _ _ _ zv 604800000000000
    refine fnG_of Tryz.func35 rfl fun ww => ?_
    refine st_g ent11 (fzint (604800000000000) (by assumption)) sub0 (by kernel_rfl) (fun zq0 => ?_)
    exact st_retG (zq0) Tryz.func35 (subE 0 rfl (by rfl) sub0) (by kernel_rfl)
  · have e : rlen u = ulen u := if_neg q
    have i1 : I64 (ulen u) := by have := ulen_pos (show 4 ≤ u by omega) l2; unfold I64; omega
    rw [e]
    refine fnG_of Tryz.func35 rfl fun ww => ?_
    refine st_b 4 (show (u == 3) = false by exact decide_eq_false (by omega)) (by kernel_rfl) ?_
    refine st_fn ent85 (zulen_fn (u)) sub0 (by kernel_rfl) ?_
    refine st_g ent11 (fzint (ulen u) (by assumption)) sub0 (by kernel_rfl) (fun zq1 => ?_)
    exact st_retG (zq1) Tryz.func35 (subE 0 rfl (by rfl) sub0) (by kernel_rfl)
theorem zmv_y (l1 : 3 ≤ u) (l2 : u ≤ 8) (k : pOk y mo d h m s nn) (hn : Bits 200 n) (l : pIn (pnum y mo d h m s nn + n * rlen u)) : Fn 10 [(p, n)] [ptv y mo d h m s nn, zv p, .int .i64 u] (.tuple #[ptN (pnum y mo d h m s nn + n * rlen u), .int .i64 0]) := by
  have kn := znanos7 y mo d h m s nn k
  have wx : W128 (pnum y mo d h m s nn) := by have := pOk_in k; unfold pIn at this; unfold W128; omega
  have rl := rlen_in l1 l2
  have wr : W128 (rlen u) := by unfold W128; omega
  clear k
  refine fn_of Tryz.func10 rfl fun ww => ?_
  refine st_b 14 (show (decide (u > 2)) = true by exact decide_eq_true (by omega)) (by kernel_rfl) ?_
  refine st_g ent33 (kn) sub0 (by kernel_rfl) (fun zq0 => ?_)
  refine st_g ent35 (zrlen (u) (by assumption) (by assumption)) sub0 (by kernel_rfl) (fun zq1 => ?_)
  refine st_g ent34 (fzmul (p) (zq1) (n) (rlen u) (by exact Bits.fit hn (by decide)) (by exact Bits.fit wr.bits (by decide))) (subC 2 rfl (subC 0 rfl sub0)) (by kernel_rfl) (fun zq2 => ?_)
  refine st_g ent32 (fzadd (zq0) (zq2) (pnum y mo d h m s nn) (n * rlen u) (by exact Bits.fit wx.bits (by decide)) (by exact Bits.fit (Bits.mul hn wr.bits) (by decide))) (subC 2 rfl (subC 0 rfl sub0)) (by kernel_rfl) (fun zq3 => ?_)
  refine st_fn ent31 (zof7_yes (zq3) (pnum y mo d h m s nn + n * rlen u) (by assumption)) (subC 0 rfl sub0) (by kernel_rfl) ?_
  exact st_ret Tryz.func10 (by kernel_rfl)
theorem zmv_n (l1 : 3 ≤ u) (l2 : u ≤ 8) (k : pOk y mo d h m s nn) (hn : Bits 200 n) (l : ¬ pIn (pnum y mo d h m s nn + n * rlen u)) : Fn 10 [(p, n)] [ptv y mo d h m s nn, zv p, .int .i64 u] (.tuple #[pt0, .int .i64 4]) := by
  have kn := znanos7 y mo d h m s nn k
  have wx : W128 (pnum y mo d h m s nn) := by have := pOk_in k; unfold pIn at this; unfold W128; omega
  have rl := rlen_in l1 l2
  have wr : W128 (rlen u) := by unfold W128; omega
  have b0 : Bits 328 (n * rlen u) := Bits.mul hn wr.bits
  have b1 : Bits 900 (pnum y mo d h m s nn + n * rlen u) := Bits.mono (Bits.add (Bits.mono wx.bits (show 128 ≤ 328 by decide)) b0) (by decide)
  clear k
  refine fn_of Tryz.func10 rfl fun ww => ?_
  refine st_b 14 (show (decide (u > 2)) = true by exact decide_eq_true (by omega)) (by kernel_rfl) ?_
  refine st_g ent33 (kn) sub0 (by kernel_rfl) (fun zq0 => ?_)
  refine st_g ent35 (zrlen (u) (by assumption) (by assumption)) sub0 (by kernel_rfl) (fun zq1 => ?_)
  refine st_g ent34 (fzmul (p) (zq1) (n) (rlen u) (by exact Bits.fit hn (by decide)) (by exact Bits.fit wr.bits (by decide))) (subC 2 rfl (subC 0 rfl sub0)) (by kernel_rfl) (fun zq2 => ?_)
  refine st_g ent32 (fzadd (zq0) (zq2) (pnum y mo d h m s nn) (n * rlen u) (by exact Bits.fit wx.bits (by decide)) (by exact Bits.fit b0 (by decide))) (subC 2 rfl (subC 0 rfl sub0)) (by kernel_rfl) (fun zq3 => ?_)
  refine st_fn ent31 (zof7_no (zq3) (pnum y mo d h m s nn + n * rlen u) (by exact Bits.mono b1 (by decide)) (by assumption)) (subC 0 rfl sub0) (by kernel_rfl) ?_
  exact st_ret Tryz.func10 (by kernel_rfl)
theorem zmv_r (hu : u = 1 ∨ u = 2) (hn : I64 n) (q : ¬ (-4294967295 ≤ n ∧ n ≤ 4294967295)) : Fn 10 [(p, n)] [ptv y mo d h m s nn, zv p, .int .i64 u] (.tuple #[pt0, .int .i64 4]) := by
  have b1 : Bits 1000 n := hn.w.bits.mono (by decide)
  by_cases q1 : 4294967295 < n
  · clear q
    rcases hu with rfl | rfl
    · refine fn_of Tryz.func10 rfl fun ww => ?_
      refine st_fn ent36 (fits_f (p) (n) (by exact Bits.mono hn.w.bits (by decide)) (by assumption)) (subC 0 rfl sub0) (by kernel_rfl) ?_
      refine st_b 39 (show (decide (n > 4294967295)) = true by exact decide_eq_true (by omega)) (by kernel_rfl) ?_
      exact st_ret Tryz.func10 (by kernel_rfl)
    · refine fn_of Tryz.func10 rfl fun ww => ?_
      refine st_fn ent36 (fits_f (p) (n) (by exact Bits.mono hn.w.bits (by decide)) (by assumption)) (subC 0 rfl sub0) (by kernel_rfl) ?_
      refine st_b 39 (show (decide (n > 4294967295)) = true by exact decide_eq_true (by omega)) (by kernel_rfl) ?_
      exact st_ret Tryz.func10 (by kernel_rfl)
  · have q2 : n < -4294967295 := by omega
    clear q
    rcases hu with rfl | rfl
    · refine fn_of Tryz.func10 rfl fun ww => ?_
      refine st_fn ent36 (fits_f (p) (n) (by exact Bits.mono hn.w.bits (by decide)) (by assumption)) (subC 0 rfl sub0) (by kernel_rfl) ?_
      refine st_b 39 (show (decide (n > 4294967295)) = false by exact decide_eq_false (by omega)) (by kernel_rfl) ?_
      refine st_b 43 (show (decide (n < -4294967295)) = true by exact decide_eq_true (by omega)) (by kernel_rfl) ?_
      exact st_ret Tryz.func10 (by kernel_rfl)
    · refine fn_of Tryz.func10 rfl fun ww => ?_
      refine st_fn ent36 (fits_f (p) (n) (by exact Bits.mono hn.w.bits (by decide)) (by assumption)) (subC 0 rfl sub0) (by kernel_rfl) ?_
      refine st_b 39 (show (decide (n > 4294967295)) = false by exact decide_eq_false (by omega)) (by kernel_rfl) ?_
      refine st_b 43 (show (decide (n < -4294967295)) = true by exact decide_eq_true (by omega)) (by kernel_rfl) ?_
      exact st_ret Tryz.func10 (by kernel_rfl)
theorem zmv_1 (r : -4294967295 ≤ n ∧ n ≤ 4294967295) (ha : Fn 37 [] [ptv y mo d h m s nn, duv n 0 0 0 0 0 0 0, .int .i64 1] (.tuple #[ptv A B C H M S N, .int .i64 e])) : Fn 10 [(p, n)] [ptv y mo d h m s nn, zv p, .int .i64 1] (.tuple #[ptv A B C H M S N, .int .i64 e]) := by
  have hn : I64 n := by unfold I64; omega
  have b1 : Bits 1000 n := hn.w.bits.mono (by decide)
  refine fn_of Tryz.func10 rfl fun ww => ?_
  refine st_fn ent36 (fits_f (p) (n) (by exact Bits.mono hn.w.bits (by decide)) (by assumption)) (subC 0 rfl sub0) (by kernel_rfl) ?_
  refine st_b 39 (show (decide (n > 4294967295)) = false by exact decide_eq_false (by omega)) (by kernel_rfl) ?_
  refine st_b 43 (show (decide (n < -4294967295)) = false by exact decide_eq_false (by omega)) (by kernel_rfl) ?_
  refine st_fn ent37 (ha) sub0 (by kernel_rfl) ?_
  exact st_ret Tryz.func10 (by kernel_rfl)
theorem zmv_2 (r : -4294967295 ≤ n ∧ n ≤ 4294967295) (ha : Fn 37 [] [ptv y mo d h m s nn, duv 0 n 0 0 0 0 0 0, .int .i64 1] (.tuple #[ptv A B C H M S N, .int .i64 e])) : Fn 10 [(p, n)] [ptv y mo d h m s nn, zv p, .int .i64 2] (.tuple #[ptv A B C H M S N, .int .i64 e]) := by
  have hn : I64 n := by unfold I64; omega
  have b1 : Bits 1000 n := hn.w.bits.mono (by decide)
  refine fn_of Tryz.func10 rfl fun ww => ?_
  refine st_fn ent36 (fits_f (p) (n) (by exact Bits.mono hn.w.bits (by decide)) (by assumption)) (subC 0 rfl sub0) (by kernel_rfl) ?_
  refine st_b 39 (show (decide (n > 4294967295)) = false by exact decide_eq_false (by omega)) (by kernel_rfl) ?_
  refine st_b 43 (show (decide (n < -4294967295)) = false by exact decide_eq_false (by omega)) (by kernel_rfl) ?_
  refine st_fn ent37 (ha) sub0 (by kernel_rfl) ?_
  exact st_ret Tryz.func10 (by kernel_rfl)
end
/-- Months and days put alike, where a day that is too great is brought down. -/
theorem mov20c (a b c d h mi s n y m D q : Int) (k1 : dOk y m D) (k2 : uOk a b c d h mi s n) (hq : -200000000000 ≤ q ∧ q ≤ 200000000000) :
    (Fn 72 [] [dv y m D, .int .i64 (12 * a + b), .int .i64 (d + 7 * c + q), .int .i64 1] (.tuple #[dv0, .int .i64 4]) ∧ Fn 91 [] [dv y m D, duv a b c d h mi s n, .int .i64 q, .int .i64 1] (.tuple #[dv0, .int .i64 4])) ∨
    ∃ A B C, Fn 72 [] [dv y m D, .int .i64 (12 * a + b), .int .i64 (d + 7 * c + q), .int .i64 1] (.tuple #[dv A B C, .int .i64 0]) ∧ Fn 91 [] [dv y m D, duv a b c d h mi s n, .int .i64 q, .int .i64 1] (.tuple #[dv A B C, .int .i64 0]) := by
  obtain ⟨b1, b2, b3, b4, b5⟩ := uOk_bd k2
  have yy := dOk_year k1
  obtain ⟨T, hT⟩ : ∃ T, ymi y m + (12 * a + b) = T := ⟨_, rfl⟩
  have hT' := hT
  unfold ymi at hT'
  have lc := clater y m D (12 * a + b) T (by omega) (by omega) (by omega) k1.1.1 k1.1.2.1 (by omega) (by omega)
  have lz := zlater y m D a b T (by omega) (by omega) (by omega) k1.1.1 k1.1.2.1 (by omega) (by omega) (by omega) (by omega)
  by_cases kW : dOk (lY T) (lM T) (cD (lY T) (lM T) D)
  · have r1 := creg_cy (lY T) (lM T) D (ymi_l T).2.1 (ymi_l T).2.2 k1.1.2.2.1 kW
    have r2 := zreg_cy (lY T) (lM T) D (ymi_l T).2.1 (ymi_l T).2.2 k1.1.2.2.1 kW
    by_cases z : -100000001 ≤ dnum (lY T) (lM T) (cD (lY T) (lM T) D) + (d + 7 * c + q) ∧ dnum (lY T) (lM T) (cD (lY T) (lM T) D) + (d + 7 * c + q) ≤ 100000000
    · exact .inr ⟨_, _, _, cmov_v y m D _ T 1 _ _ _ _ 0 _ _ _ lc r1 (caddd_yes _ _ _ _ kW z.1 z.2), zmov_v a b c d h mi s n y m D q 1 T _ _ _ 0 _ _ _ b3 b4 hq lz r2 (zaddd_yes _ _ _ _ kW z.1 z.2)⟩
    · exact .inl ⟨cmov_v y m D _ T 1 _ _ _ _ 4 _ _ _ lc r1 (caddd_no _ _ _ _ kW (by omega)), zmov_v a b c d h mi s n y m D q 1 T _ _ _ 4 _ _ _ b3 b4 hq lz r2 (zaddd_no _ _ _ _ kW (by omega))⟩
  · exact .inl ⟨cmov_e y m D _ T 1 _ 4 lc (creg_cn (lY T) (lM T) D (ymi_l T).2.1 (ymi_l T).2.2 k1.1.2.2.1 kW) (by decide), zmov_e a b c d h mi s n y m D q 1 T 4 lz (zreg_cn (lY T) (lM T) D (ymi_l T).2.1 (ymi_l T).2.2 k1.1.2.2.1 kW) (by decide)⟩
section
variable (y mo d h m s nn n u : Int)
/-- The program and the reference go so many units alike. -/
theorem mov20both (k : pOk y mo d h m s nn) (l1 : 1 ≤ u) (l2 : u ≤ 8) (hn : I64 n) : ∃ A B C H M S N e, (e = 0 ∨ e = 4) ∧ (e = 0 → pOk A B C H M S N) ∧ Fn 7 [] [ptv y mo d h m s nn, .int .i64 n, .int .i64 u] (.tuple #[ptv A B C H M S N, .int .i64 e]) ∧ ∀ p : ZQ, Fn 10 [(p, n)] [ptv y mo d h m s nn, zv p, .int .i64 u] (.tuple #[ptv A B C H M S N, .int .i64 e]) := by
  by_cases hu : 3 ≤ u
  · have rl := rlen_in hu l2
    have w : W128 (n * rlen u) := by
      unfold I64 at hn
      have a := Int.mul_le_mul_of_nonneg_right hn.2 (show 0 ≤ rlen u by omega)
      have b := Int.mul_le_mul_of_nonneg_right hn.1 (show 0 ≤ rlen u by omega)
      generalize n * rlen u = x at *
      unfold W128; omega
    have bn : Bits 200 n := hn.w.bits.mono (by decide)
    by_cases l : pIn (pnum y mo d h m s nn + n * rlen u)
    · exact ⟨_, _, _, _, _, _, _, 0, .inl rfl, fun _ => (of_pOk l).1, rmov_d u n y mo d h m s nn _ _ _ _ _ _ _ 0 k hu l2 hn (padd_yes y mo d h m s nn (n * rlen u) k w l), fun p => zmv_y y mo d h m s nn n u p hu l2 k bn l⟩
    · exact ⟨_, _, _, _, _, _, _, 4, .inr rfl, fun q => by omega, rmov_d u n y mo d h m s nn _ _ _ _ _ _ _ 4 k hu l2 hn (padd_no y mo d h m s nn (n * rlen u) k w l), fun p => zmv_n y mo d h m s nn n u p hu l2 k bn l⟩
  · have hu2 : u = 1 ∨ u = 2 := by omega
    by_cases r : -4294967295 ≤ n ∧ n ≤ 4294967295
    · have fin : ∀ a b : Int, uOk a b 0 0 0 0 0 0 → all64 a b 0 0 0 0 0 0 → ∃ A B C H M S N e, (e = 0 ∨ e = 4) ∧ (e = 0 → pOk A B C H M S N) ∧ Fn 26 [] [ptv y mo d h m s nn, duv a b 0 0 0 0 0 0, .int .i64 1] (.tuple #[ptv A B C H M S N, .int .i64 e]) ∧ Fn 37 [] [ptv y mo d h m s nn, duv a b 0 0 0 0 0 0, .int .i64 1] (.tuple #[ptv A B C H M S N, .int .i64 e]) := fun a b o i => by
        have tb := tnan_bd k.2.1
        have z : dtot 0 0 0 0 0 = 0 := rfl
        have hQ : (tnan h m s nn + dtot 0 0 0 0 0).fdiv 86400000000000 = 0 := by rw [z, Int.fdiv_eq_ediv_of_nonneg _ (by omega)]; omega
        have hR : (tnan h m s nn + dtot 0 0 0 0 0).fmod 86400000000000 = tnan h m s nn := by rw [z, Int.fmod_eq_emod_of_nonneg _ (by omega)]; omega
        rcases mov20c a b 0 0 0 0 0 0 y mo d 0 k.1 o (by omega) with ⟨r1, r2⟩ | ⟨A, B, C, r1, r2⟩
        · exact ⟨_, _, _, _, _, _, _, 4, .inr rfl, fun q => by omega, cad_e y mo d h m s nn a b 0 0 0 0 0 0 1 4 0 _ i k o (.inl rfl) hQ hR (by omega) r1 (by decide), zad_e y mo d h m s nn a b 0 0 0 0 0 0 1 4 0 _ i k o (.inl rfl) hQ hR r2 (by decide)⟩
        · by_cases hp : pOk A B C (tH (tnan h m s nn)) (tM (tnan h m s nn)) (tS (tnan h m s nn)) (tN (tnan h m s nn))
          · exact ⟨_, _, _, _, _, _, _, 0, .inl rfl, fun _ => hp, cad_y y mo d h m s nn a b 0 0 0 0 0 0 1 A B C 0 _ i k o (.inl rfl) hQ hR (by omega) r1 hp, zad_y y mo d h m s nn a b 0 0 0 0 0 0 1 A B C 0 _ i k o (.inl rfl) hQ hR r2 hp⟩
          · exact ⟨_, _, _, _, _, _, _, 4, .inr rfl, fun q => by omega, cad_n y mo d h m s nn a b 0 0 0 0 0 0 1 A B C 0 _ i k o (.inl rfl) hQ hR (by omega) r1 hp, zad_n y mo d h m s nn a b 0 0 0 0 0 0 1 A B C 0 _ i k o (.inl rfl) hQ hR r2 hp⟩
      rcases hu2 with rfl | rfl
      · obtain ⟨o, i⟩ := uOk_y n r
        obtain ⟨A, B, C, H, M, S, N, e, e1, e2, ka, kz⟩ := fin n 0 o i
        exact ⟨_, _, _, _, _, _, _, _, e1, e2, rmov_1 n y mo d h m s nn _ _ _ _ _ _ _ _ k r ka, fun p => zmv_1 y mo d h m s nn n _ _ _ _ _ _ _ _ p r kz⟩
      · obtain ⟨o, i⟩ := uOk_m n r
        obtain ⟨A, B, C, H, M, S, N, e, e1, e2, ka, kz⟩ := fin 0 n o i
        exact ⟨_, _, _, _, _, _, _, _, e1, e2, rmov_2 n y mo d h m s nn _ _ _ _ _ _ _ _ k r ka, fun p => zmv_2 y mo d h m s nn n _ _ _ _ _ _ _ _ p r kz⟩
    · exact ⟨_, _, _, _, _, _, _, 4, .inr rfl, fun q => by omega, rmov_r u n y mo d h m s nn hu2 k hn r, fun p => zmv_r y mo d h m s nn n u p hu2 hn r⟩
variable (A B C H M S N e : Int)
theorem rmoves_v (k : pOk y mo d h m s nn) (l1 : 1 ≤ u) (l2 : u ≤ 8) (hn : I64 n) (km : Fn 7 [] [ptv y mo d h m s nn, .int .i64 n, .int .i64 u] (.tuple #[ptv A B C H M S N, .int .i64 e])) (kz : ∀ p : ZQ, Fn 10 [(p, n)] [ptv y mo d h m s nn, zv p, .int .i64 u] (.tuple #[ptv A B C H M S N, .int .i64 e])) :
    Fn 3 [] [ptv y mo d h m s nn, .int .i64 n, .int .i64 u] (.bool true) := by
  have kr := zright7_yes y mo d h m s nn k
  clear k
  refine fn_of Tryz.func3 rfl fun ww => ?_
  refine st_fn ent7 (km) sub0 (by kernel_rfl) ?_
  refine st_fn ent8 (kr) sub0 (by kernel_rfl) ?_
  refine st_b 23 (show (decide (u < 1)) = false by exact decide_eq_false (by omega)) (by kernel_rfl) ?_
  refine st_b 27 (show (decide (u > 8)) = false by exact decide_eq_false (by omega)) (by kernel_rfl) ?_
  refine st_g ent11 (fzint (n) (by assumption)) sub0 (by kernel_rfl) (fun zq2 => ?_)
  refine st_fn ent10 (kz (zq2)) (subC 0 rfl sub0) (by kernel_rfl) ?_
  refine st_fn ent9 (alive20) sub0 (by kernel_rfl) ?_
  refine st_b 51 (show (A == A && (B == B && (C == C && true)) && (H == H && (M == M && (S == S && (N == N && true))) && true)) = true by simp_all) (by kernel_rfl) ?_
  exact st_retv Tryz.func3 (show Value.bool (e == e) = _ by simp) (by kernel_rfl)
theorem rmoves_a (k : ¬ (pOk y mo d h m s nn ∧ 1 ≤ u ∧ u ≤ 8)) (km : Fn 7 [] [ptv y mo d h m s nn, .int .i64 n, .int .i64 u] (.tuple #[pt0, .int .i64 1])) : Fn 3 [] [ptv y mo d h m s nn, .int .i64 n, .int .i64 u] (.bool true) := by
  by_cases k1 : pOk y mo d h m s nn
  · have kr := zright7_yes y mo d h m s nn k1
    by_cases q1 : u < 1
    · clear k k1
      refine fn_of Tryz.func3 rfl fun ww => ?_
      refine st_fn ent7 (km) sub0 (by kernel_rfl) ?_
      refine st_fn ent8 (kr) sub0 (by kernel_rfl) ?_
      refine st_b 23 (show (decide (u < 1)) = true by exact decide_eq_true (by omega)) (by kernel_rfl) ?_
      refine st_fn ent9 (alive20) sub0 (by kernel_rfl) ?_
      exact st_ret Tryz.func3 (by kernel_rfl)
    · have q2 : 8 < u := by
        rcases Int.lt_or_le 8 u with q | q
        · exact q
        · exact absurd ⟨k1, by omega, q⟩ k
      clear k k1
      refine fn_of Tryz.func3 rfl fun ww => ?_
      refine st_fn ent7 (km) sub0 (by kernel_rfl) ?_
      refine st_fn ent8 (kr) sub0 (by kernel_rfl) ?_
      refine st_b 23 (show (decide (u < 1)) = false by exact decide_eq_false (by omega)) (by kernel_rfl) ?_
      refine st_b 27 (show (decide (u > 8)) = true by exact decide_eq_true (by omega)) (by kernel_rfl) ?_
      refine st_fn ent9 (alive20) sub0 (by kernel_rfl) ?_
      exact st_ret Tryz.func3 (by kernel_rfl)
  · have kr := zright7_no y mo d h m s nn k1
    clear k k1
    refine fn_of Tryz.func3 rfl fun ww => ?_
    refine st_fn ent7 (km) sub0 (by kernel_rfl) ?_
    refine st_fn ent8 (kr) sub0 (by kernel_rfl) ?_
    refine st_fn ent9 (alive20) sub0 (by kernel_rfl) ?_
    exact st_ret Tryz.func3 (by kernel_rfl)
theorem law_rmoves (W : World) (hn : I64 n) : Calls Tryz.prog 3 #[ptv y mo d h m s nn, .int .i64 n, .int .i64 u] W (fun e w' => e = .returned (.bool true) ∧ Ext W w') := by
  by_cases k : pOk y mo d h m s nn ∧ 1 ≤ u ∧ u ≤ 8
  · obtain ⟨A, B, C, H, M, S, N, e, -, -, r1, r2⟩ := mov20both y mo d h m s nn n u k.1 k.2.1 k.2.2 hn
    exact rmoves_v y mo d h m s nn n u A B C H M S N e k.1 k.2.1 k.2.2 hn r1 r2 W (zall_nil W)
  · exact rmoves_a y mo d h m s nn n u k (rmov_a u n y mo d h m s nn k) W (zall_nil W)
end
end Go.Proofs.YthoedmikfpbfnaaGreat
end
section
/-
  What comes in: a wide number by its two halves, numbers by their bounds.
-/
namespace Go.Proofs.YthoedmikfpbfnaaGreat
open Go Go.RowKit

theorem i64_in {n : Int} (h : (Lit.int .i64 n).wf = true) : I64 n := bounds_i64 h
end Go.Proofs.YthoedmikfpbfnaaGreat
end
section
/-
  A struct of so many 64-bit numbers that comes in.
-/
namespace Go.Proofs.YthoedmikfpbfnaaGreat
open Go Go.RowKit

def intRow (P : Program) (t : TypeId) (n : Nat) : Bool := (match P.underlying t with
  | some (.struct _) => true
  | some (.array _ _) => true
  | _ => false) && decide (P.cellsOf t = n) && match P.cellTypes P.depth t with
  | some ts => decide (ts.length = n) && ts.all fun u => match P.underlying u with
    | some (.int .i64) => true
    | _ => false
  | none => false
theorem cells_in {P : Program} {w : World} {r : Reach} {b : Nat} {ts : List TypeId} (ha : ∀ u, u ∈ ts → P.underlying u = some (.int .i64)) (hne : 0 < ts.length) : ∀ (l : List Value),
    (∀ (i : Nat) (v : Value), l[i]? = some v → ∃ (j : Nat) (u : TypeId), ts[j]? = some u ∧ Cell.okWide P w r b u v) → ∃ xs : List Int, l = xs.map (Value.int .i64) ∧ ∀ x ∈ xs, I64 x
  | [], _ => ⟨[], rfl, fun x h => by cases h⟩
  | v :: l, h => by
    obtain ⟨xs, h1, h2⟩ := cells_in ha hne l fun i v hv => h (i + 1) v (by simpa using hv)
    obtain ⟨j, u, hu, hc⟩ := h 0 v rfl
    have hU := ha u (List.mem_of_getElem? hu)
    obtain ⟨x, rfl, hx⟩ : ∃ x, v = .int .i64 x ∧ I64 x := by
      simp only [Cell.okWide, hU] at hc
      cases v <;> simp [Cell.ok, hU] at hc
      rename_i k x
      obtain ⟨rfl, hk⟩ := hc
      refine ⟨x, rfl, ?_⟩
      have m0 : IntKind.i64.min = -9223372036854775808 := by decide
      have m1 : IntKind.i64.max = 9223372036854775807 := by decide
      unfold IntKind.has at hk
      rw [m0, m1] at hk
      exact hk
    exact ⟨x :: xs, by rw [h1]; rfl, fun y hy => by
      rcases List.mem_cons.1 hy with rfl | hy
      · exact hx
      · exact h2 y hy⟩
theorem ints_in {P : Program} {w : World} {r : Reach} {b : Nat} {t : TypeId} {n : Nat} {v : Value} (hn : 0 < n) (ht : intRow P t n = true) (hv : Value.okWide P w r b t v) : ∃ xs : List Int, v = .agg (xs.map (Value.int .i64)).toArray ∧ xs.length = n ∧ ∀ x ∈ xs, I64 x := by
  unfold intRow at ht
  rw [Bool.and_eq_true, Bool.and_eq_true] at ht
  obtain ⟨⟨hs, hc⟩, hl⟩ := ht
  obtain ⟨cs, rfl, hsz, ts, hts, -, hcell⟩ : ∃ cs, v = .agg cs ∧ cs.size = P.cellsOf t ∧ Row.okWide P w r b t cs := by
    unfold Value.okWide at hv
    split at hv
    · exact hv
    · exact hv
    · rename_i h1 h2
      split at hs
      · rename_i fs h; exact absurd h (h1 fs)
      · rename_i m e h; exact absurd h (h2 m e)
      · cases hs
  rw [hts] at hl
  simp only [Bool.and_eq_true, decide_eq_true_eq, List.all_eq_true] at hl hc
  have ha : ∀ u ∈ ts, P.underlying u = some (.int .i64) := fun u hu => by
    have := hl.2 u hu
    split at this
    · assumption
    · cases this
  obtain ⟨xs, h1, h2⟩ := cells_in (P := P) (w := w) (r := r) (b := b) ha (by omega) cs.toList fun i v hv => by
    obtain ⟨u, h3, h4⟩ := hcell i v (by simpa using hv)
    exact ⟨_, u, h3, h4⟩
  have e : cs = (xs.map (Value.int .i64)).toArray := by rw [← h1]
  refine ⟨xs, by rw [e], ?_, h2⟩
  have := congrArg Array.size e
  simp at this; omega
theorem list7 {α : Type} {l : List α} (h : l.length = 7) : ∃ a b c d e f g, l = [a, b, c, d, e, f, g] := by
  match l, h with
  | [a, b, c, d, e, f, g], _ => exact ⟨a, b, c, d, e, f, g, rfl⟩
end Go.Proofs.YthoedmikfpbfnaaGreat
end
