/-
  Date-times: what the program and the reference answer of layer 7.
-/
import Derived.Test.YtcndfpfjckkinaaCiv3
import Derived.Test.YtcndfpfjckkinaaFx
import Derived.Test.YtcndfpfjckkinaaFc
import Derived.Test.YtcndfpfjckkinaaCrd
import Derived.Test.YtcndfpfjckkinaaPla
set_option linter.unusedVariables false
set_option maxRecDepth 100000
namespace Go.Proofs.Ytcndfpfjckkinaa
open Go Go.RowKit Go.Ev

abbrev ptv (y mo d h m s n : Int) : Value := .agg #[.int .i64 y, .int .i64 mo, .int .i64 d, .int .i64 h, .int .i64 m, .int .i64 s, .int .i64 n]
abbrev pt0 : Value := ptv 0 0 0 0 0 0 0
abbrev ptN (x : Int) : Value := ptv (dY (xd x)) (dM (xd x)) (dD (xd x)) (tH (xt x)) (tM (xt x)) (tS (xt x)) (tN (xt x))
abbrev wz : Value := .agg #[.int .i64 0, .int .u64 0]
section
variable (y mo d h m s n : Int)
theorem pnumber_yes (k : pOk y mo d h m s n) : Fn 118 [] [ptv y mo d h m s n] (.tuple #[wv (pnum y mo d h m s n), .bool true]) := by
  obtain ⟨k1, k2, k3⟩ := k
  have b := tnan_bd k2
  obtain ⟨k4, k5, k6⟩ := k1
  have k1 : dOk y mo d := ⟨k4, k5, k6⟩
  clear k4
  have e : (if dnum y mo d = -100000001 then (if tnan h m s n = 0 then 1 else 0) else 0) = (0 : Int) := by
    split
    · split
      · rename_i q1 q2; exact absurd ⟨q1, q2⟩ k3
      · rfl
    · rfl
  unfold pnum
  by_cases q : dnum y mo d = -100000001
  · have q2 : tnan h m s n ≠ 0 := fun z => k3 ⟨q, z⟩
    clear e k3
    refine fn_of Try.func118 rfl fun ww => ?_
    refine st_fn ent152 (cdays_yes (y) (mo) (d) (by assumption)) sub0 (by kernel_rfl) ?_
    refine st_fn ent103 (fcnanos_yes (h) (m) (s) (n) (by assumption)) sub0 (by kernel_rfl) ?_
    refine st_b 30 (show (dnum y mo d == -100000001) = true by exact decide_eq_true (by omega)) (by kernel_rfl) ?_
    refine st_b 33 (show (tnan h m s n == 0) = false by exact decide_eq_false (by omega)) (by kernel_rfl) ?_
    refine st_fn ent144 (wmul_f (dnum y mo d) (86400000000000) (by (unfold I64; omega)) (by (unfold I64; omega))) sub0 (by kernel_rfl) ?_
    refine st_fn ent51 (wof_fn (tnan h m s n) (by (unfold I64; omega))) sub0 (by kernel_rfl) ?_
    refine st_fn ent129 (wadd_yes (dnum y mo d * 86400000000000) (tnan h m s n) (by (unfold W128; omega)) (by (unfold W128; omega)) (by (unfold W128; omega))) sub0 (by kernel_rfl) ?_
    exact st_ret Try.func118 (by kernel_rfl)
  · clear e k3
    refine fn_of Try.func118 rfl fun ww => ?_
    refine st_fn ent152 (cdays_yes (y) (mo) (d) (by assumption)) sub0 (by kernel_rfl) ?_
    refine st_fn ent103 (fcnanos_yes (h) (m) (s) (n) (by assumption)) sub0 (by kernel_rfl) ?_
    refine st_b 30 (show (dnum y mo d == -100000001) = false by exact decide_eq_false (by omega)) (by kernel_rfl) ?_
    refine st_fn ent144 (wmul_f (dnum y mo d) (86400000000000) (by (unfold I64; omega)) (by (unfold I64; omega))) sub0 (by kernel_rfl) ?_
    refine st_fn ent51 (wof_fn (tnan h m s n) (by (unfold I64; omega))) sub0 (by kernel_rfl) ?_
    refine st_fn ent129 (wadd_yes (dnum y mo d * 86400000000000) (tnan h m s n) (by (unfold W128; omega)) (by (unfold W128; omega)) (by (unfold W128; omega))) sub0 (by kernel_rfl) ?_
    exact st_ret Try.func118 (by kernel_rfl)
theorem pnumber_no (k : ¬ pOk y mo d h m s n) : Fn 118 [] [ptv y mo d h m s n] (.tuple #[wz, .bool false]) := by
  by_cases k1 : dOk y mo d
  · by_cases k2 : tOk h m s n
    · have k3 : dnum y mo d = -100000001 ∧ tnan h m s n = 0 := Classical.byContradiction fun q => k ⟨k1, k2, q⟩
      obtain ⟨k4, k5⟩ := k3
      clear k
      refine fn_of Try.func118 rfl fun ww => ?_
      refine st_fn ent152 (cdays_yes (y) (mo) (d) (by assumption)) sub0 (by kernel_rfl) ?_
      refine st_fn ent103 (fcnanos_yes (h) (m) (s) (n) (by assumption)) sub0 (by kernel_rfl) ?_
      refine st_b 30 (show (dnum y mo d == -100000001) = true by exact decide_eq_true (by omega)) (by kernel_rfl) ?_
      refine st_b 33 (show (tnan h m s n == 0) = true by exact decide_eq_true (by omega)) (by kernel_rfl) ?_
      exact st_ret Try.func118 (by kernel_rfl)
    · clear k
      refine fn_of Try.func118 rfl fun ww => ?_
      refine st_fn ent152 (cdays_yes (y) (mo) (d) (by assumption)) sub0 (by kernel_rfl) ?_
      refine st_fn ent103 (fcnanos_no (h) (m) (s) (n) (by assumption)) sub0 (by kernel_rfl) ?_
      exact st_ret Try.func118 (by kernel_rfl)
  · by_cases k2 : tOk h m s n
    · clear k
      refine fn_of Try.func118 rfl fun ww => ?_
      refine st_fn ent152 (cdays_no (y) (mo) (d) (by assumption)) sub0 (by kernel_rfl) ?_
      refine st_fn ent103 (fcnanos_yes (h) (m) (s) (n) (by assumption)) sub0 (by kernel_rfl) ?_
      exact st_ret Try.func118 (by kernel_rfl)
    · clear k
      refine fn_of Try.func118 rfl fun ww => ?_
      refine st_fn ent152 (cdays_no (y) (mo) (d) (by assumption)) sub0 (by kernel_rfl) ?_
      refine st_fn ent103 (fcnanos_no (h) (m) (s) (n) (by assumption)) sub0 (by kernel_rfl) ?_
      exact st_ret Try.func118 (by kernel_rfl)
theorem pright_yes (k : pOk y mo d h m s n) : Fn 39 [] [ptv y mo d h m s n] (.bool true) := by
  refine fn_of Try.func39 rfl fun ww => ?_
  refine st_fn ent118 (pnumber_yes (y) (mo) (d) (h) (m) (s) (n) (by assumption)) sub0 (by kernel_rfl) ?_
  exact st_ret Try.func39 (by kernel_rfl)
theorem pright_no (k : ¬ pOk y mo d h m s n) : Fn 39 [] [ptv y mo d h m s n] (.bool false) := by
  refine fn_of Try.func39 rfl fun ww => ?_
  refine st_fn ent118 (pnumber_no (y) (mo) (d) (h) (m) (s) (n) (by assumption)) sub0 (by kernel_rfl) ?_
  exact st_ret Try.func39 (by kernel_rfl)
theorem pnanos_yes (k : pOk y mo d h m s n) : Fn 31 [] [ptv y mo d h m s n] (.tuple #[wv (pnum y mo d h m s n), .bool true]) := by
  refine fn_of Try.func31 rfl fun ww => ?_
  refine st_fn ent118 (pnumber_yes (y) (mo) (d) (h) (m) (s) (n) (by assumption)) sub0 (by kernel_rfl) ?_
  exact st_ret Try.func31 (by kernel_rfl)
theorem pnanos_no (k : ¬ pOk y mo d h m s n) : Fn 31 [] [ptv y mo d h m s n] (.tuple #[wz, .bool false]) := by
  refine fn_of Try.func31 rfl fun ww => ?_
  refine st_fn ent118 (pnumber_no (y) (mo) (d) (h) (m) (s) (n) (by assumption)) sub0 (by kernel_rfl) ?_
  exact st_ret Try.func31 (by kernel_rfl)
end
section
variable (x : Int)
theorem dby_day (hx : W128 x) : Fn 120 [] [wv x, .int .i64 86400000000000] (.tuple #[wv (xd x), .int .i64 (xt x), .int .i64 0]) := dby_f x 86400000000000 hx (by omega) (by unfold I64; omega)
theorem pof_yes (k : pIn x) : Fn 33 [] [wv x] (.tuple #[ptN x, .bool true]) := by
  have hx : W128 x := by unfold pIn at k; unfold W128; omega
  obtain ⟨⟨k1, k2⟩, k3⟩ := pIn_split.1 k
  obtain ⟨-, b, c⟩ := x_split x
  have i1 : I64 (xd x) := by unfold I64; omega
  by_cases q : xd x = -100000001
  · have q2 : xt x ≠ 0 := fun z => k3 ⟨q, z⟩
    clear k3
    refine fn_of Try.func33 rfl fun ww => ?_
    refine st_fn ent120 (dby_day (x) (by assumption)) sub0 (by kernel_rfl) ?_
    refine st_fn ent105 (wint_f (xd x) (by assumption)) sub0 (by kernel_rfl) ?_
    refine st_b 28 (show (decide (xd x < -100000001)) = false by exact decide_eq_false (by omega)) (by kernel_rfl) ?_
    refine st_b 32 (show (decide (xd x > 100000000)) = false by exact decide_eq_false (by omega)) (by kernel_rfl) ?_
    refine st_b 36 (show (xd x == -100000001) = true by exact decide_eq_true (by omega)) (by kernel_rfl) ?_
    refine st_b 39 (show (xt x == 0) = false by exact decide_eq_false (by omega)) (by kernel_rfl) ?_
    refine st_fn ent121 (cof5_yes (xd x) (by assumption) (by assumption)) sub0 (by kernel_rfl) ?_
    refine st_fn ent106 (fcof_yes (xt x) (by assumption) (by assumption)) sub0 (by kernel_rfl) ?_
    exact st_ret Try.func33 (by kernel_rfl)
  · clear k3
    refine fn_of Try.func33 rfl fun ww => ?_
    refine st_fn ent120 (dby_day (x) (by assumption)) sub0 (by kernel_rfl) ?_
    refine st_fn ent105 (wint_f (xd x) (by assumption)) sub0 (by kernel_rfl) ?_
    refine st_b 28 (show (decide (xd x < -100000001)) = false by exact decide_eq_false (by omega)) (by kernel_rfl) ?_
    refine st_b 32 (show (decide (xd x > 100000000)) = false by exact decide_eq_false (by omega)) (by kernel_rfl) ?_
    refine st_b 36 (show (xd x == -100000001) = false by exact decide_eq_false (by omega)) (by kernel_rfl) ?_
    refine st_fn ent121 (cof5_yes (xd x) (by assumption) (by assumption)) sub0 (by kernel_rfl) ?_
    refine st_fn ent106 (fcof_yes (xt x) (by assumption) (by assumption)) sub0 (by kernel_rfl) ?_
    exact st_ret Try.func33 (by kernel_rfl)
theorem pof_no (hx : W128 x) (k : ¬ pIn x) : Fn 33 [] [wv x] (.tuple #[pt0, .bool false]) := by
  obtain ⟨-, b, c⟩ := x_split x
  by_cases i1 : I64 (xd x)
  · by_cases k1 : xd x < -100000001
    · refine fn_of Try.func33 rfl fun ww => ?_
      refine st_fn ent120 (dby_day (x) (by assumption)) sub0 (by kernel_rfl) ?_
      refine st_fn ent105 (wint_f (xd x) (by assumption)) sub0 (by kernel_rfl) ?_
      refine st_b 28 (show (decide (xd x < -100000001)) = true by exact decide_eq_true (by omega)) (by kernel_rfl) ?_
      exact st_ret Try.func33 (by kernel_rfl)
    · by_cases k2 : 100000000 < xd x
      · refine fn_of Try.func33 rfl fun ww => ?_
        refine st_fn ent120 (dby_day (x) (by assumption)) sub0 (by kernel_rfl) ?_
        refine st_fn ent105 (wint_f (xd x) (by assumption)) sub0 (by kernel_rfl) ?_
        refine st_b 28 (show (decide (xd x < -100000001)) = false by exact decide_eq_false (by omega)) (by kernel_rfl) ?_
        refine st_b 32 (show (decide (xd x > 100000000)) = true by exact decide_eq_true (by omega)) (by kernel_rfl) ?_
        exact st_ret Try.func33 (by kernel_rfl)
      · have k3 : xd x = -100000001 ∧ xt x = 0 := Classical.byContradiction fun q => k (pIn_split.2 ⟨⟨by omega, by omega⟩, q⟩)
        obtain ⟨k4, k5⟩ := k3
        clear k
        refine fn_of Try.func33 rfl fun ww => ?_
        refine st_fn ent120 (dby_day (x) (by assumption)) sub0 (by kernel_rfl) ?_
        refine st_fn ent105 (wint_f (xd x) (by assumption)) sub0 (by kernel_rfl) ?_
        refine st_b 28 (show (decide (xd x < -100000001)) = false by exact decide_eq_false (by omega)) (by kernel_rfl) ?_
        refine st_b 32 (show (decide (xd x > 100000000)) = false by exact decide_eq_false (by omega)) (by kernel_rfl) ?_
        refine st_b 36 (show (xd x == -100000001) = true by exact decide_eq_true (by omega)) (by kernel_rfl) ?_
        refine st_b 39 (show (xt x == 0) = true by exact decide_eq_true (by omega)) (by kernel_rfl) ?_
        exact st_ret Try.func33 (by kernel_rfl)
  · refine fn_of Try.func33 rfl fun ww => ?_
    refine st_fn ent120 (dby_day (x) (by assumption)) sub0 (by kernel_rfl) ?_
    refine st_fn ent105 (wint_n (xd x) (by assumption)) sub0 (by kernel_rfl) ?_
    exact st_ret Try.func33 (by kernel_rfl)
end
section
variable (y mo d h m s n w : Int)
theorem padd_arg (k : ¬ pOk y mo d h m s n) : Fn 40 [] [ptv y mo d h m s n, wv w] (.tuple #[pt0, .int .i64 1]) := by
  refine fn_of Try.func40 rfl fun ww => ?_
  refine st_fn ent118 (pnumber_no (y) (mo) (d) (h) (m) (s) (n) (by assumption)) sub0 (by kernel_rfl) ?_
  exact st_ret Try.func40 (by kernel_rfl)
theorem padd_yes (k : pOk y mo d h m s n) (hw : W128 w) (l : pIn (pnum y mo d h m s n + w)) : Fn 40 [] [ptv y mo d h m s n, wv w] (.tuple #[ptN (pnum y mo d h m s n + w), .int .i64 0]) := by
  have i := pOk_in k
  have hx : W128 (pnum y mo d h m s n) := by unfold pIn at i; unfold W128; omega
  have hy : W128 (pnum y mo d h m s n + w) := by unfold pIn at l; unfold W128; omega
  refine fn_of Try.func40 rfl fun ww => ?_
  refine st_fn ent118 (pnumber_yes (y) (mo) (d) (h) (m) (s) (n) (by assumption)) sub0 (by kernel_rfl) ?_
  refine st_fn ent129 (wadd_yes (pnum y mo d h m s n) (w) (by assumption) (by assumption) (by assumption)) sub0 (by kernel_rfl) ?_
  refine st_fn ent33 (pof_yes (pnum y mo d h m s n + w) (by assumption)) sub0 (by kernel_rfl) ?_
  exact st_ret Try.func40 (by kernel_rfl)
theorem p0_in : pIn 0 := by unfold pIn; omega
theorem padd_no (k : pOk y mo d h m s n) (hw : W128 w) (l : ¬ pIn (pnum y mo d h m s n + w)) : Fn 40 [] [ptv y mo d h m s n, wv w] (.tuple #[pt0, .int .i64 4]) := by
  have i := pOk_in k
  have hx : W128 (pnum y mo d h m s n) := by unfold pIn at i; unfold W128; omega
  by_cases hy : W128 (pnum y mo d h m s n + w)
  · refine fn_of Try.func40 rfl fun ww => ?_
    refine st_fn ent118 (pnumber_yes (y) (mo) (d) (h) (m) (s) (n) (by assumption)) sub0 (by kernel_rfl) ?_
    refine st_fn ent129 (wadd_yes (pnum y mo d h m s n) (w) (by assumption) (by assumption) (by assumption)) sub0 (by kernel_rfl) ?_
    refine st_fn ent33 (pof_no (pnum y mo d h m s n + w) (by assumption) (by assumption)) sub0 (by kernel_rfl) ?_
    exact st_ret Try.func40 (by kernel_rfl)
  · have h0 : Fn 33 [] [wz] (.tuple #[ptN 0, .bool true]) := pof_yes 0 p0_in
    refine fn_of Try.func40 rfl fun ww => ?_
    refine st_fn ent118 (pnumber_yes (y) (mo) (d) (h) (m) (s) (n) (by assumption)) sub0 (by kernel_rfl) ?_
    refine st_fn ent129 (wadd_no (pnum y mo d h m s n) (w) (by assumption) (by assumption) (by assumption)) sub0 (by kernel_rfl) ?_
    refine st_fn ent33 (h0) sub0 (by kernel_rfl) ?_
    exact st_ret Try.func40 (by kernel_rfl)
end
section
variable (y mo d h m s n y' mo' d' h' m' s' n' : Int)
theorem psince_yes (k : pOk y mo d h m s n) (k' : pOk y' mo' d' h' m' s' n') : Fn 42 [] [ptv y mo d h m s n, ptv y' mo' d' h' m' s' n'] (.tuple #[wv (pnum y' mo' d' h' m' s' n' - pnum y mo d h m s n), .int .i64 0]) := by
  have i := pOk_in k
  have i' := pOk_in k'
  have hx : W128 (pnum y mo d h m s n) := by unfold pIn at i; unfold W128; omega
  have hx' : W128 (pnum y' mo' d' h' m' s' n') := by unfold pIn at i'; unfold W128; omega
  have hy : W128 (pnum y' mo' d' h' m' s' n' - pnum y mo d h m s n) := by unfold pIn at i i'; unfold W128; omega
  refine fn_of Try.func42 rfl fun ww => ?_
  refine st_fn ent118 (pnumber_yes (y) (mo) (d) (h) (m) (s) (n) (by assumption)) sub0 (by kernel_rfl) ?_
  refine st_fn ent118 (pnumber_yes (y') (mo') (d') (h') (m') (s') (n') (by assumption)) sub0 (by kernel_rfl) ?_
  refine st_fn ent130 (wsub_yes (pnum y' mo' d' h' m' s' n') (pnum y mo d h m s n) (by assumption) (by assumption) (by assumption)) sub0 (by kernel_rfl) ?_
  exact st_ret Try.func42 (by kernel_rfl)
theorem psince_no (k : ¬ (pOk y mo d h m s n ∧ pOk y' mo' d' h' m' s' n')) : Fn 42 [] [ptv y mo d h m s n, ptv y' mo' d' h' m' s' n'] (.tuple #[wz, .int .i64 1]) := by
  by_cases k1 : pOk y mo d h m s n
  · have k2 : ¬ pOk y' mo' d' h' m' s' n' := fun q => k ⟨k1, q⟩
    clear k
    refine fn_of Try.func42 rfl fun ww => ?_
    refine st_fn ent118 (pnumber_yes (y) (mo) (d) (h) (m) (s) (n) (by assumption)) sub0 (by kernel_rfl) ?_
    refine st_fn ent118 (pnumber_no (y') (mo') (d') (h') (m') (s') (n') (by assumption)) sub0 (by kernel_rfl) ?_
    exact st_ret Try.func42 (by kernel_rfl)
  · by_cases k2 : pOk y' mo' d' h' m' s' n'
    · clear k
      refine fn_of Try.func42 rfl fun ww => ?_
      refine st_fn ent118 (pnumber_no (y) (mo) (d) (h) (m) (s) (n) (by assumption)) sub0 (by kernel_rfl) ?_
      refine st_fn ent118 (pnumber_yes (y') (mo') (d') (h') (m') (s') (n') (by assumption)) sub0 (by kernel_rfl) ?_
      exact st_ret Try.func42 (by kernel_rfl)
    · clear k
      refine fn_of Try.func42 rfl fun ww => ?_
      refine st_fn ent118 (pnumber_no (y) (mo) (d) (h) (m) (s) (n) (by assumption)) sub0 (by kernel_rfl) ?_
      refine st_fn ent118 (pnumber_no (y') (mo') (d') (h') (m') (s') (n') (by assumption)) sub0 (by kernel_rfl) ?_
      exact st_ret Try.func42 (by kernel_rfl)
theorem pcmp_eq (k : cmp3 y mo d y' mo' d' = 0) : Fn 43 [] [ptv y mo d h m s n, ptv y' mo' d' h' m' s' n'] (.int .i64 (cmp4 h m s n h' m' s' n')) := by
  refine fn_of Try.func43 rfl fun ww => ?_
  refine st_fn ent98 (ccmp5 (y) (mo) (d) (y') (mo') (d')) sub0 (by kernel_rfl) ?_
  refine st_b 12 (show (cmp3 y mo d y' mo' d' != 0) = false by exact bne_eq_false_iff_eq.2 (by omega)) (by kernel_rfl) ?_
  refine st_fn ent29 (fccmp (h) (m) (s) (n) (h') (m') (s') (n')) sub0 (by kernel_rfl) ?_
  exact st_ret Try.func43 (by kernel_rfl)
theorem pcmp_ne (k : cmp3 y mo d y' mo' d' ≠ 0) : Fn 43 [] [ptv y mo d h m s n, ptv y' mo' d' h' m' s' n'] (.int .i64 (cmp3 y mo d y' mo' d')) := by
  refine fn_of Try.func43 rfl fun ww => ?_
  refine st_fn ent98 (ccmp5 (y) (mo) (d) (y') (mo') (d')) sub0 (by kernel_rfl) ?_
  refine st_b 12 (show (cmp3 y mo d y' mo' d' != 0) = true by exact bne_iff_ne.2 (by omega)) (by kernel_rfl) ?_
  exact st_ret Try.func43 (by kernel_rfl)
theorem pcmp : Fn 43 [] [ptv y mo d h m s n, ptv y' mo' d' h' m' s' n'] (.int .i64 (cmp7 y mo d h m s n y' mo' d' h' m' s' n')) := by
  by_cases k : cmp3 y mo d y' mo' d' = 0
  · have := pcmp_eq y mo d h m s n y' mo' d' h' m' s' n' k
    unfold cmp7; rw [if_pos k]; exact this
  · have := pcmp_ne y mo d h m s n y' mo' d' h' m' s' n' k
    unfold cmp7; rw [if_neg k]; exact this
end
end Go.Proofs.Ytcndfpfjckkinaa
