/-
  The laws PlainRounds and PlainNear, walked.
-/
import Derived.Test.YtcndfpfjckkinaaPll
import Derived.Test.YtcndfpfjckkinaaCro
import Derived.Test.YtcndfpfjckkinaaNrr
set_option linter.unusedVariables false
set_option maxRecDepth 100000
namespace Go.Proofs.Ytcndfpfjckkinaa
open Go Go.RowKit Go.Ev

section
variable (y mo d h m s n i mode : Int)
theorem pround_a1 (k1 : ¬ pOk y mo d h m s n) (v : Value) (a b c e q r : Int) (hv : Fn 26 [] [tv h m s n, .int .i64 i, .int .i64 mode] (.tuple #[tv a b c e, .int .i64 q, .int .i64 r])) : Fn 49 [] [ptv y mo d h m s n, .int .i64 i, .int .i64 mode] (.tuple #[pt0, .int .i64 1]) := by
  refine fn_of Try.func49 rfl fun ww => ?_
  refine st_fn ent26 (hv) sub0 (by kernel_rfl) ?_
  refine st_fn ent39 (pright_no (y) (mo) (d) (h) (m) (s) (n) (by assumption)) sub0 (by kernel_rfl) ?_
  exact st_ret Try.func49 (by kernel_rfl)
theorem pround_a2 (k1 : pOk y mo d h m s n) (hv : Fn 26 [] [tv h m s n, .int .i64 i, .int .i64 mode] bad6) : Fn 49 [] [ptv y mo d h m s n, .int .i64 i, .int .i64 mode] (.tuple #[pt0, .int .i64 1]) := by
  refine fn_of Try.func49 rfl fun ww => ?_
  refine st_fn ent26 (hv) sub0 (by kernel_rfl) ?_
  refine st_fn ent39 (pright_yes (y) (mo) (d) (h) (m) (s) (n) (by assumption)) sub0 (by kernel_rfl) ?_
  exact st_ret Try.func49 (by kernel_rfl)
variable (a b c e q p o r : Int)
theorem pround_r1 (k1 : pOk y mo d h m s n) (hv : Fn 26 [] [tv h m s n, .int .i64 i, .int .i64 mode] (.tuple #[tv a b c e, .int .i64 q, .int .i64 0])) (h2 : Fn 132 [] [dv y mo d, .int .i64 q] (.tuple #[dv 0 0 0, .int .i64 4])) :
    Fn 49 [] [ptv y mo d h m s n, .int .i64 i, .int .i64 mode] (.tuple #[pt0, .int .i64 4]) := by
  refine fn_of Try.func49 rfl fun ww => ?_
  refine st_fn ent26 (hv) sub0 (by kernel_rfl) ?_
  refine st_fn ent39 (pright_yes (y) (mo) (d) (h) (m) (s) (n) (by assumption)) sub0 (by kernel_rfl) ?_
  refine st_fn ent132 (h2) sub0 (by kernel_rfl) ?_
  exact st_ret Try.func49 (by kernel_rfl)
theorem pround_r2 (k1 : pOk y mo d h m s n) (hv : Fn 26 [] [tv h m s n, .int .i64 i, .int .i64 mode] (.tuple #[tv a b c e, .int .i64 q, .int .i64 0])) (h2 : Fn 132 [] [dv y mo d, .int .i64 q] (.tuple #[dv p o r, .int .i64 0])) (k2 : ¬ pOk p o r a b c e) :
    Fn 49 [] [ptv y mo d h m s n, .int .i64 i, .int .i64 mode] (.tuple #[pt0, .int .i64 4]) := by
  refine fn_of Try.func49 rfl fun ww => ?_
  refine st_fn ent26 (hv) sub0 (by kernel_rfl) ?_
  refine st_fn ent39 (pright_yes (y) (mo) (d) (h) (m) (s) (n) (by assumption)) sub0 (by kernel_rfl) ?_
  refine st_fn ent132 (h2) sub0 (by kernel_rfl) ?_
  refine st_fn ent39 (pright_no (p) (o) (r) (a) (b) (c) (e) (by assumption)) sub0 (by kernel_rfl) ?_
  exact st_ret Try.func49 (by kernel_rfl)
theorem pround_r3 (k1 : pOk y mo d h m s n) (hv : Fn 26 [] [tv h m s n, .int .i64 i, .int .i64 mode] (.tuple #[tv a b c e, .int .i64 q, .int .i64 0])) (h2 : Fn 132 [] [dv y mo d, .int .i64 q] (.tuple #[dv p o r, .int .i64 0])) (k2 : pOk p o r a b c e) :
    Fn 49 [] [ptv y mo d h m s n, .int .i64 i, .int .i64 mode] (.tuple #[ptv p o r a b c e, .int .i64 0]) := by
  refine fn_of Try.func49 rfl fun ww => ?_
  refine st_fn ent26 (hv) sub0 (by kernel_rfl) ?_
  refine st_fn ent39 (pright_yes (y) (mo) (d) (h) (m) (s) (n) (by assumption)) sub0 (by kernel_rfl) ?_
  refine st_fn ent132 (h2) sub0 (by kernel_rfl) ?_
  refine st_fn ent39 (pright_yes (p) (o) (r) (a) (b) (c) (e) (by assumption)) sub0 (by kernel_rfl) ?_
  exact st_ret Try.func49 (by kernel_rfl)
theorem zround7_a1 (k1 : ¬ pOk y mo d h m s n) (v : Value) (a b c e q r : Int) (hv : Fn 27 [] [tv h m s n, .int .i64 i, .int .i64 mode] (.tuple #[tv a b c e, .int .i64 q, .int .i64 r])) : Fn 50 [] [ptv y mo d h m s n, .int .i64 i, .int .i64 mode] (.tuple #[pt0, .int .i64 1]) := by
  refine fn_of Try.func50 rfl fun ww => ?_
  refine st_fn ent27 (hv) sub0 (by kernel_rfl) ?_
  refine st_fn ent32 (zright7_no (y) (mo) (d) (h) (m) (s) (n) (by assumption)) sub0 (by kernel_rfl) ?_
  exact st_ret Try.func50 (by kernel_rfl)
theorem zround7_a2 (k1 : pOk y mo d h m s n) (hv : Fn 27 [] [tv h m s n, .int .i64 i, .int .i64 mode] bad6) : Fn 50 [] [ptv y mo d h m s n, .int .i64 i, .int .i64 mode] (.tuple #[pt0, .int .i64 1]) := by
  refine fn_of Try.func50 rfl fun ww => ?_
  refine st_fn ent27 (hv) sub0 (by kernel_rfl) ?_
  refine st_fn ent32 (zright7_yes (y) (mo) (d) (h) (m) (s) (n) (by assumption)) sub0 (by kernel_rfl) ?_
  exact st_ret Try.func50 (by kernel_rfl)
theorem zround7_r1 (k1 : pOk y mo d h m s n) (hv : Fn 27 [] [tv h m s n, .int .i64 i, .int .i64 mode] (.tuple #[tv a b c e, .int .i64 q, .int .i64 0])) (h2 : Fn 133 [] [dv y mo d, .int .i64 q] (.tuple #[dv 0 0 0, .int .i64 4])) :
    Fn 50 [] [ptv y mo d h m s n, .int .i64 i, .int .i64 mode] (.tuple #[pt0, .int .i64 4]) := by
  refine fn_of Try.func50 rfl fun ww => ?_
  refine st_fn ent27 (hv) sub0 (by kernel_rfl) ?_
  refine st_fn ent32 (zright7_yes (y) (mo) (d) (h) (m) (s) (n) (by assumption)) sub0 (by kernel_rfl) ?_
  refine st_fn ent133 (h2) sub0 (by kernel_rfl) ?_
  exact st_ret Try.func50 (by kernel_rfl)
theorem zround7_r2 (k1 : pOk y mo d h m s n) (hv : Fn 27 [] [tv h m s n, .int .i64 i, .int .i64 mode] (.tuple #[tv a b c e, .int .i64 q, .int .i64 0])) (h2 : Fn 133 [] [dv y mo d, .int .i64 q] (.tuple #[dv p o r, .int .i64 0])) (k2 : ¬ pOk p o r a b c e) :
    Fn 50 [] [ptv y mo d h m s n, .int .i64 i, .int .i64 mode] (.tuple #[pt0, .int .i64 4]) := by
  refine fn_of Try.func50 rfl fun ww => ?_
  refine st_fn ent27 (hv) sub0 (by kernel_rfl) ?_
  refine st_fn ent32 (zright7_yes (y) (mo) (d) (h) (m) (s) (n) (by assumption)) sub0 (by kernel_rfl) ?_
  refine st_fn ent133 (h2) sub0 (by kernel_rfl) ?_
  refine st_fn ent32 (zright7_no (p) (o) (r) (a) (b) (c) (e) (by assumption)) sub0 (by kernel_rfl) ?_
  exact st_ret Try.func50 (by kernel_rfl)
theorem zround7_r3 (k1 : pOk y mo d h m s n) (hv : Fn 27 [] [tv h m s n, .int .i64 i, .int .i64 mode] (.tuple #[tv a b c e, .int .i64 q, .int .i64 0])) (h2 : Fn 133 [] [dv y mo d, .int .i64 q] (.tuple #[dv p o r, .int .i64 0])) (k2 : pOk p o r a b c e) :
    Fn 50 [] [ptv y mo d h m s n, .int .i64 i, .int .i64 mode] (.tuple #[ptv p o r a b c e, .int .i64 0]) := by
  refine fn_of Try.func50 rfl fun ww => ?_
  refine st_fn ent27 (hv) sub0 (by kernel_rfl) ?_
  refine st_fn ent32 (zright7_yes (y) (mo) (d) (h) (m) (s) (n) (by assumption)) sub0 (by kernel_rfl) ?_
  refine st_fn ent133 (h2) sub0 (by kernel_rfl) ?_
  refine st_fn ent32 (zright7_yes (p) (o) (r) (a) (b) (c) (e) (by assumption)) sub0 (by kernel_rfl) ?_
  exact st_ret Try.func50 (by kernel_rfl)
end
/-- A date-time's number, rounded. -/
def pR (y mo d h m s n i mode : Int) : Int := dnum y mo d * 86400000000000 + rY h m s n i mode
/-- A day's number, and a time that isn't less than 0, as one number. -/
theorem split_nn (D T : Int) (h : 0 ≤ T) : xd (D * 86400000000000 + T) = D + T / 86400000000000 ∧ xt (D * 86400000000000 + T) = T % 86400000000000 := by
  have a := x_split (D * 86400000000000 + T)
  generalize xd (D * 86400000000000 + T) = X at *
  generalize xt (D * 86400000000000 + T) = Y at *
  omega
section
variable (y mo d h m s n i mode : Int)
theorem pround_no (k : ¬ (pOk y mo d h m s n ∧ rOk i mode)) : Fn 49 [] [ptv y mo d h m s n, .int .i64 i, .int .i64 mode] (.tuple #[pt0, .int .i64 1]) := by
  by_cases k1 : pOk y mo d h m s n
  · exact pround_a2 y mo d h m s n i mode k1 (cround_no h m s n i mode fun q => k ⟨k1, q.2⟩)
  · by_cases k2 : tOk h m s n ∧ rOk i mode
    · exact pround_a1 y mo d h m s n i mode k1 bad6 _ _ _ _ _ _ (cround_yes h m s n i mode k2.1 k2.2)
    · exact pround_a1 y mo d h m s n i mode k1 bad6 _ _ _ _ _ _ (cround_no h m s n i mode k2)
theorem zround7_no (k : ¬ (pOk y mo d h m s n ∧ rOk i mode)) : Fn 50 [] [ptv y mo d h m s n, .int .i64 i, .int .i64 mode] (.tuple #[pt0, .int .i64 1]) := by
  by_cases k1 : pOk y mo d h m s n
  · exact zround7_a2 y mo d h m s n i mode k1 (zround_no h m s n i mode fun q => k ⟨k1, q.2⟩)
  · by_cases k2 : tOk h m s n ∧ rOk i mode
    · exact zround7_a1 y mo d h m s n i mode k1 bad6 _ _ _ _ _ _ (zround_yes h m s n i mode k2.1 k2.2)
    · exact zround7_a1 y mo d h m s n i mode k1 bad6 _ _ _ _ _ _ (zround_no h m s n i mode k2)
theorem pR_split (k : pOk y mo d h m s n) (r : rOk i mode) : xd (pR y mo d h m s n i mode) = dnum y mo d + rY h m s n i mode / 86400000000000 ∧ xt (pR y mo d h m s n i mode) = rY h m s n i mode % 86400000000000 ∧ 0 ≤ rY h m s n i mode / 86400000000000 ∧ rY h m s n i mode / 86400000000000 ≤ 1 := by
  have b := rY_in k.2.1 r
  obtain ⟨e, f⟩ := split_nn (dnum y mo d) (rY h m s n i mode) b.1
  exact ⟨e, f, by omega, by omega⟩
theorem ptN_pOk {x : Int} : pIn x ↔ (-100000001 ≤ xd x ∧ xd x ≤ 100000000) ∧ pOk (dY (xd x)) (dM (xd x)) (dD (xd x)) (tH (xt x)) (tM (xt x)) (tS (xt x)) (tN (xt x)) := by
  constructor
  · intro k; exact ⟨(pIn_split.1 k).1, (of_pOk k).1⟩
  · intro ⟨k1, k2⟩
    refine pIn_split.2 ⟨k1, fun z => k2.2.2 ⟨(date_ok (xd x)).2.trans z.1, (tnan_t (x_split x).2.1).trans z.2⟩⟩
theorem pround_yes (k : pOk y mo d h m s n) (r : rOk i mode) (l : pIn (pR y mo d h m s n i mode)) : Fn 49 [] [ptv y mo d h m s n, .int .i64 i, .int .i64 mode] (.tuple #[ptN (pR y mo d h m s n i mode), .int .i64 0]) := by
  obtain ⟨e, f, g0, g1⟩ := pR_split y mo d h m s n i mode k r
  obtain ⟨l1, l2⟩ := ptN_pOk.1 l
  unfold ptN
  rw [e, f] at *
  exact pround_r3 y mo d h m s n i mode _ _ _ _ _ _ _ _ k (cround_yes h m s n i mode k.2.1 r) (caddd_yes y mo d _ k.1 l1.1 l1.2) l2
theorem zround7_yes (k : pOk y mo d h m s n) (r : rOk i mode) (l : pIn (pR y mo d h m s n i mode)) : Fn 50 [] [ptv y mo d h m s n, .int .i64 i, .int .i64 mode] (.tuple #[ptN (pR y mo d h m s n i mode), .int .i64 0]) := by
  obtain ⟨e, f, g0, g1⟩ := pR_split y mo d h m s n i mode k r
  obtain ⟨l1, l2⟩ := ptN_pOk.1 l
  unfold ptN
  rw [e, f] at *
  exact zround7_r3 y mo d h m s n i mode _ _ _ _ _ _ _ _ k (zround_yes h m s n i mode k.2.1 r) (zaddd_yes y mo d _ k.1 l1.1 l1.2) l2
theorem pround_ov (k : pOk y mo d h m s n) (r : rOk i mode) (l : ¬ pIn (pR y mo d h m s n i mode)) : Fn 49 [] [ptv y mo d h m s n, .int .i64 i, .int .i64 mode] (.tuple #[pt0, .int .i64 4]) := by
  obtain ⟨e, f, g0, g1⟩ := pR_split y mo d h m s n i mode k r
  have l' := fun z => l (ptN_pOk.2 z)
  rw [e, f] at l'
  by_cases l1 : -100000001 ≤ dnum y mo d + rY h m s n i mode / 86400000000000 ∧ dnum y mo d + rY h m s n i mode / 86400000000000 ≤ 100000000
  · exact pround_r2 y mo d h m s n i mode _ _ _ _ _ _ _ _ k (cround_yes h m s n i mode k.2.1 r) (caddd_yes y mo d _ k.1 l1.1 l1.2) fun z => l' ⟨l1, z⟩
  · exact pround_r1 y mo d h m s n i mode _ _ _ _ _ k (cround_yes h m s n i mode k.2.1 r) (caddd_no y mo d _ k.1 (by omega))
theorem zround7_ov (k : pOk y mo d h m s n) (r : rOk i mode) (l : ¬ pIn (pR y mo d h m s n i mode)) : Fn 50 [] [ptv y mo d h m s n, .int .i64 i, .int .i64 mode] (.tuple #[pt0, .int .i64 4]) := by
  obtain ⟨e, f, g0, g1⟩ := pR_split y mo d h m s n i mode k r
  have l' := fun z => l (ptN_pOk.2 z)
  rw [e, f] at l'
  by_cases l1 : -100000001 ≤ dnum y mo d + rY h m s n i mode / 86400000000000 ∧ dnum y mo d + rY h m s n i mode / 86400000000000 ≤ 100000000
  · exact zround7_r2 y mo d h m s n i mode _ _ _ _ _ _ _ _ k (zround_yes h m s n i mode k.2.1 r) (zaddd_yes y mo d _ k.1 l1.1 l1.2) fun z => l' ⟨l1, z⟩
  · exact zround7_r1 y mo d h m s n i mode _ _ _ _ _ k (zround_yes h m s n i mode k.2.1 r) (zaddd_no y mo d _ k.1 (by omega))
theorem prounds_v (a b c a' b' c' n' e : Int) (h1 : Fn 49 [] [ptv y mo d h m s n, .int .i64 i, .int .i64 mode] (.tuple #[ptv a b c a' b' c' n', .int .i64 e])) (h2 : Fn 50 [] [ptv y mo d h m s n, .int .i64 i, .int .i64 mode] (.tuple #[ptv a b c a' b' c' n', .int .i64 e])) : Fn 8 [] [ptv y mo d h m s n, .int .i64 i, .int .i64 mode] (.bool true) := by
  refine fn_of Try.func8 rfl fun ww => ?_
  refine st_fn ent49 (h1) sub0 (by kernel_rfl) ?_
  refine st_fn ent50 (h2) sub0 (by kernel_rfl) ?_
  refine st_fn ent38 (alive7) sub0 (by kernel_rfl) ?_
  refine st_b 29 (show (a == a && (b == b && (c == c && true)) && (a' == a' && (b' == b' && (c' == c' && (n' == n' && true))) && true)) = true by simp_all) (by kernel_rfl) ?_
  exact st_retv Try.func8 (show Value.bool (e == e) = _ by simp) (by kernel_rfl)
theorem law_prounds (W : World) : Calls Try.prog 8 #[ptv y mo d h m s n, .int .i64 i, .int .i64 mode] W (fun e w' => e = .returned (.bool true) ∧ Ext W w') := by
  by_cases k : pOk y mo d h m s n ∧ rOk i mode
  · by_cases l : pIn (pR y mo d h m s n i mode)
    · exact prounds_v y mo d h m s n i mode _ _ _ _ _ _ _ _ (pround_yes y mo d h m s n i mode k.1 k.2 l) (zround7_yes y mo d h m s n i mode k.1 k.2 l) W (zall_nil W)
    · exact prounds_v y mo d h m s n i mode _ _ _ _ _ _ _ _ (pround_ov y mo d h m s n i mode k.1 k.2 l) (zround7_ov y mo d h m s n i mode k.1 k.2 l) W (zall_nil W)
  · exact prounds_v y mo d h m s n i mode _ _ _ _ _ _ _ _ (pround_no y mo d h m s n i mode k) (zround7_no y mo d h m s n i mode k) W (zall_nil W)
/-- What is rounded stays when it is rounded again. -/
theorem pR_again (k : pOk y mo d h m s n) (r : rOk i mode) (l : pIn (pR y mo d h m s n i mode)) : pR (dY (xd (pR y mo d h m s n i mode))) (dM (xd (pR y mo d h m s n i mode))) (dD (xd (pR y mo d h m s n i mode))) (tH (xt (pR y mo d h m s n i mode))) (tM (xt (pR y mo d h m s n i mode))) (tS (xt (pR y mo d h m s n i mode))) (tN (xt (pR y mo d h m s n i mode))) i mode = pR y mo d h m s n i mode := by
  obtain ⟨e, f, g0, g1⟩ := pR_split y mo d h m s n i mode k r
  have b := rY_in k.2.1 r
  have sp := x_split (pR y mo d h m s n i mode)
  have q : rY (tH (xt (pR y mo d h m s n i mode))) (tM (xt (pR y mo d h m s n i mode))) (tS (xt (pR y mo d h m s n i mode))) (tN (xt (pR y mo d h m s n i mode))) i mode = xt (pR y mo d h m s n i mode) := by
    unfold rY
    rw [tnan_t sp.2.1]
    refine near_dvd ?_
    rw [f]
    by_cases z : rY h m s n i mode = 86400000000000
    · rw [z, show (86400000000000 : Int) % 86400000000000 = 0 by decide]; simp
    · rw [show rY h m s n i mode % 86400000000000 = rY h m s n i mode by omega]; unfold rY; rw [Int.mul_comm]; simp
  rw [show pR (dY (xd (pR y mo d h m s n i mode))) (dM (xd (pR y mo d h m s n i mode))) (dD (xd (pR y mo d h m s n i mode))) (tH (xt (pR y mo d h m s n i mode))) (tM (xt (pR y mo d h m s n i mode))) (tS (xt (pR y mo d h m s n i mode))) (tN (xt (pR y mo d h m s n i mode))) i mode = dnum (dY (xd (pR y mo d h m s n i mode))) (dM (xd (pR y mo d h m s n i mode))) (dD (xd (pR y mo d h m s n i mode))) * 86400000000000 + rY (tH (xt (pR y mo d h m s n i mode))) (tM (xt (pR y mo d h m s n i mode))) (tS (xt (pR y mo d h m s n i mode))) (tN (xt (pR y mo d h m s n i mode))) i mode from rfl, q, (date_ok _).2]
  exact sp.1
theorem pnear_bad (e : Int) (he : e ≠ 0) (h1 : Fn 49 [] [ptv y mo d h m s n, .int .i64 i, .int .i64 mode] (.tuple #[pt0, .int .i64 e])) : Fn 9 [] [ptv y mo d h m s n, .int .i64 i, .int .i64 mode] (.bool true) := by
  refine fn_of Try.func9 rfl fun ww => ?_
  refine st_fn ent49 (h1) sub0 (by kernel_rfl) ?_
  refine st_b 21 (show (e != 0) = true by exact bne_iff_ne.2 (by omega)) (by kernel_rfl) ?_
  refine st_fn ent38 (alive7) sub0 (by kernel_rfl) ?_
  exact st_ret Try.func9 (by kernel_rfl)
theorem pnear_ok (a b c a' b' c' n' v : Int) (hi : I64 i) (hj : I64 (-i)) (c1 : cmpI v i = -1) (c2 : cmpI v (-i) = 1) (h1 : Fn 49 [] [ptv y mo d h m s n, .int .i64 i, .int .i64 mode] (.tuple #[ptv a b c a' b' c' n', .int .i64 0])) (h2 : Fn 49 [] [ptv a b c a' b' c' n', .int .i64 i, .int .i64 mode] (.tuple #[ptv a b c a' b' c' n', .int .i64 0]))
    (h3 : Fn 42 [] [ptv y mo d h m s n, ptv a b c a' b' c' n'] (.tuple #[wv v, .int .i64 0])) : Fn 9 [] [ptv y mo d h m s n, .int .i64 i, .int .i64 mode] (.bool true) := by
  have hi' : -9223372036854775808 ≤ -i ∧ -i ≤ 9223372036854775807 := hj
  refine fn_of Try.func9 rfl fun ww => ?_
  refine st_fn ent49 (h1) sub0 (by kernel_rfl) ?_
  refine st_fn ent42 (h3) sub0 (by kernel_rfl) ?_
  refine st_fn ent49 (h2) sub0 (by kernel_rfl) ?_
  refine st_fn ent38 (alive7) sub0 (by kernel_rfl) ?_
  refine st_fn ent51 (wof_fn (i) (by assumption)) sub0 (by kernel_rfl) ?_
  refine st_fn ent47 (wcmp_fn (v) (i)) sub0 (by kernel_rfl) ?_
  refine st_b 51 (show (decide (cmpI v i < 0)) = true by exact decide_eq_true (by omega)) (by kernel_rfl) ?_
  refine st_i 56 .i64 (x' := 0 - i) (Go.IntWalk.i64_in _ (by omega)) (by kernel_rfl) ?_
  refine st_fn ent51 (wof_fn (0 - i) (by (unfold I64; omega))) sub0 (by kernel_rfl) ?_
  refine st_fn ent47 (wcmp_fn (v) (0 - i)) sub0 (by kernel_rfl) ?_
  refine st_b 59 (show (decide (cmpI v (0 - i) > 0)) = true by simp_all) (by kernel_rfl) ?_
  refine st_b 64 (show (a == a && (b == b && (c == c && true)) && (a' == a' && (b' == b' && (c' == c' && (n' == n' && true))) && true)) = true by simp_all) (by kernel_rfl) ?_
  exact st_ret Try.func9 (by kernel_rfl)
theorem law_pnear (W : World) : Calls Try.prog 9 #[ptv y mo d h m s n, .int .i64 i, .int .i64 mode] W (fun e w' => e = .returned (.bool true) ∧ Ext W w') := by
  by_cases k : pOk y mo d h m s n ∧ rOk i mode
  · obtain ⟨k, r⟩ := k
    by_cases l : pIn (pR y mo d h m s n i mode)
    · obtain ⟨g1, g2⟩ := of_pOk l
      have h1 := pround_yes y mo d h m s n i mode k r l
      have h3 := psince_yes _ _ _ _ _ _ _ _ _ _ _ _ _ _ k g1
      rw [g2] at h3
      have ag := pR_again y mo d h m s n i mode k r l
      have h2 := pround_yes _ _ _ _ _ _ _ i mode g1 r (by rw [ag]; exact l)
      rw [ag] at h2
      have nr := (nearQ_near (w := tnan h m s n) (d := i) (mode := mode) (by have := r.1; omega) r.2.2.2.1 r.2.2.2.2).1
      have q : pR y mo d h m s n i mode - pnum y mo d h m s n = i * nearQ (tnan h m s n) i mode - tnan h m s n := by unfold pR pnum rY; rw [Int.mul_comm i]; omega
      have r1 := r.1; have r2 := r.2.1
      refine pnear_ok y mo d h m s n i mode _ _ _ _ _ _ _ _ (by unfold I64; omega) (by unfold I64; omega) ?_ ?_ h1 h2 h3 W (zall_nil W)
      · rw [q]; exact cmpI_lt (by omega)
      · rw [q]; exact cmpI_gt (by omega)
    · exact pnear_bad y mo d h m s n i mode 4 (by omega) (pround_ov y mo d h m s n i mode k r l) W (zall_nil W)
  · exact pnear_bad y mo d h m s n i mode 1 (by omega) (pround_no y mo d h m s n i mode k) W (zall_nil W)
end
end Go.Proofs.Ytcndfpfjckkinaa
