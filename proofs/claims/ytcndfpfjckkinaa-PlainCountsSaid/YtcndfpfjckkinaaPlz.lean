/-
  Date-times: what the reference answers of layer 7.
-/
import Derived.Test.YtcndfpfjckkinaaPlc
import Derived.Test.YtcndfpfjckkinaaCrd
set_option linter.unusedVariables false
set_option maxRecDepth 100000
namespace Go.Proofs.Ytcndfpfjckkinaa
open Go Go.RowKit Go.Ev

theorem fzday : FnZ 123 [] [] zv 86400000000000 := by
  have i : I64 86400000000000 := by unfold I64; omega
  refine fnG_of Try.func123 rfl fun ww => ?_
  refine st_g ent109 (fzint (86400000000000) (by assumption)) sub0 (by kernel_rfl) (fun zq0 => ?_)
  exact st_retG (zq0) Try.func123 (subE 0 rfl (by rfl) sub0) (by kernel_rfl)
theorem time0_no {h m s n : Int} (k : tOk h m s n) (q : tnan h m s n ≠ 0) : (h == 0 && (m == 0 && (s == 0 && (n == 0 && true)))) = false := by
  have := tnan_0 k
  rw [Bool.eq_false_iff]
  intro z
  simp at z
  omega
section
variable (y mo d h m s n : Int)
theorem zright7_yes (k : pOk y mo d h m s n) : Fn 32 [] [ptv y mo d h m s n] (.bool true) := by
  obtain ⟨k1, k2, k3⟩ := k
  by_cases q : dnum y mo d = -100000001
  · have q2 := time0_no k2 fun z => k3 ⟨q, z⟩
    clear k3
    refine fn_of Try.func32 rfl fun ww => ?_
    refine st_fn ent119 (zdays_yes (y) (mo) (d) (by assumption)) sub0 (by kernel_rfl) ?_
    refine st_fn ent107 (fzright_yes (h) (m) (s) (n) (by assumption)) sub0 (by kernel_rfl) ?_
    refine st_b 19 (show (dnum y mo d != -100000001) = false by exact bne_eq_false_iff_eq.2 (by omega)) (by kernel_rfl) ?_
    exact st_retv Try.func32 (show Value.bool (!(h == 0 && (m == 0 && (s == 0 && (n == 0 && true))))) = _ by (rw [q2]; rfl)) (by kernel_rfl)
  · clear k3
    refine fn_of Try.func32 rfl fun ww => ?_
    refine st_fn ent119 (zdays_yes (y) (mo) (d) (by assumption)) sub0 (by kernel_rfl) ?_
    refine st_fn ent107 (fzright_yes (h) (m) (s) (n) (by assumption)) sub0 (by kernel_rfl) ?_
    refine st_b 19 (show (dnum y mo d != -100000001) = true by exact bne_iff_ne.2 (by omega)) (by kernel_rfl) ?_
    exact st_ret Try.func32 (by kernel_rfl)
theorem zright7_no (k : ¬ pOk y mo d h m s n) : Fn 32 [] [ptv y mo d h m s n] (.bool false) := by
  by_cases k1 : dOk y mo d
  · by_cases k2 : tOk h m s n
    · have k3 : dnum y mo d = -100000001 ∧ tnan h m s n = 0 := Classical.byContradiction fun q => k ⟨k1, k2, q⟩
      obtain ⟨k4, k5⟩ := k3
      obtain ⟨rfl, rfl, rfl, rfl⟩ := (tnan_0 k2).1 k5
      clear k
      refine fn_of Try.func32 rfl fun ww => ?_
      refine st_fn ent119 (zdays_yes (y) (mo) (d) (by assumption)) sub0 (by kernel_rfl) ?_
      refine st_fn ent107 (fzright_yes (0) (0) (0) (0) (by assumption)) sub0 (by kernel_rfl) ?_
      refine st_b 19 (show (dnum y mo d != -100000001) = false by exact bne_eq_false_iff_eq.2 (by omega)) (by kernel_rfl) ?_
      exact st_ret Try.func32 (by kernel_rfl)
    · clear k
      refine fn_of Try.func32 rfl fun ww => ?_
      refine st_fn ent119 (zdays_yes (y) (mo) (d) (by assumption)) sub0 (by kernel_rfl) ?_
      refine st_fn ent107 (fzright_no (h) (m) (s) (n) (by assumption)) sub0 (by kernel_rfl) ?_
      exact st_ret Try.func32 (by kernel_rfl)
  · clear k
    refine fn_of Try.func32 rfl fun ww => ?_
    refine st_fn ent119 (zdays_no (y) (mo) (d) (by assumption)) sub0 (by kernel_rfl) ?_
    exact st_ret Try.func32 (by kernel_rfl)
theorem znanos7 (k : pOk y mo d h m s n) : FnZ 37 [] [ptv y mo d h m s n] zv (pnum y mo d h m s n) := by
  obtain ⟨k1, k2, k3⟩ := k
  have b := tnan_bd k2
  obtain ⟨k4, k5, k6⟩ := k1
  have k1 : dOk y mo d := ⟨k4, k5, k6⟩
  have i1 : I64 (dnum y mo d) := by unfold I64; omega
  have i2 : I64 (tnan h m s n) := by unfold I64; omega
  have i3 : I64 86400000000000 := by unfold I64; omega
  unfold pnum
  clear k3 k4
  refine fnG_of Try.func37 rfl fun ww => ?_
  refine st_fn ent119 (zdays_yes (y) (mo) (d) (by assumption)) sub0 (by kernel_rfl) ?_
  refine st_g ent109 (fzint (dnum y mo d) (by assumption)) sub0 (by kernel_rfl) (fun zq1 => ?_)
  refine st_g ent123 (fzday) sub0 (by kernel_rfl) (fun zq2 => ?_)
  refine st_g ent112 (fzmul (zq1) (zq2) (dnum y mo d) (86400000000000) (by exact Bits.fit i1.w.bits (by decide)) (by exact Bits.fit i3.w.bits (by decide))) (subC 1 rfl (subC 0 rfl sub0)) (by kernel_rfl) (fun zq3 => ?_)
  refine st_fn ent110 (fznanos (h) (m) (s) (n) (by assumption)) sub0 (by kernel_rfl) ?_
  refine st_g ent109 (fzint (tnan h m s n) (by assumption)) sub0 (by kernel_rfl) (fun zq5 => ?_)
  refine st_g ent125 (fzadd (zq3) (zq5) (dnum y mo d * 86400000000000) (tnan h m s n) (by exact Bits.fit (Bits.mul i1.w.bits i3.w.bits) (by decide)) (by exact Bits.fit i2.w.bits (by decide))) (subC 1 rfl (subC 0 rfl sub0)) (by kernel_rfl) (fun zq6 => ?_)
  exact st_retG (zq6) Try.func37 (subE 0 rfl (by rfl) sub0) (by kernel_rfl)
end
section
variable (p : ZQ) (x : Int)
theorem zof7_yes (k : pIn x) : Fn 34 [(p, x)] [zv p] (.tuple #[ptN x, .bool true]) := by
  have hb : Bits 1000 x := Bits.mono (show W128 x by unfold pIn at k; unfold W128; omega).bits (by decide)
  have hy : Bits 1000 86400000000000 := Bits.mono (show W128 86400000000000 by unfold W128; omega).bits (by decide)
  obtain ⟨⟨k1, k2⟩, k3⟩ := pIn_split.1 k
  obtain ⟨-, b, c⟩ := x_split x
  have i1 : I64 (x.fdiv 86400000000000) := by show I64 (xd x); unfold I64; omega
  have i2 : I64 (x.fmod 86400000000000) := by show I64 (xt x); unfold I64; omega
  have b1 : Bits 1000 (x.fdiv 86400000000000) := i1.w.bits.mono (by decide)
  have b2 : Bits 1000 (x.fmod 86400000000000) := i2.w.bits.mono (by decide)
  have o1 := zof5_yes (x.fdiv 86400000000000) k1 k2
  have o2 := fzof (x.fmod 86400000000000) b c
  have o3 := zright7_yes _ _ _ _ _ _ _ (of_pOk k).1
  have e1 : (x.fdiv 86400000000000 < -200000000) = False := by simp only [eq_iff_iff, iff_false]; show ¬ xd x < _; omega
  have e2 : (200000000 < x.fdiv 86400000000000) = False := by simp only [eq_iff_iff, iff_false]; show ¬ _ < xd x; omega
  change -100000001 ≤ x.fdiv 86400000000000 at k1
  change x.fdiv 86400000000000 ≤ 100000000 at k2
  clear k3 e1 e2
  refine fn_of Try.func34 rfl fun ww => ?_
  refine st_g ent123 (fzday) sub0 (by kernel_rfl) (fun zq0 => ?_)
  refine st_g ent122 (fzdiv (p) (zq0) (x) (86400000000000) (by exact Bits.mono hb (by decide)) (by exact Bits.mono hy (by decide)) (by omega)) (subC 1 rfl (subC 0 rfl sub0)) (by kernel_rfl) (fun zq1 => ?_)
  refine st_fn ent111 (fits_f (zq1.fst) (x.fdiv 86400000000000) (by exact Bits.mono i1.w.bits (by decide)) (by assumption)) (subC 0 rfl sub0) (by kernel_rfl) ?_
  refine st_b 28 (show (decide (x.fdiv 86400000000000 < -200000000)) = false by exact decide_eq_false (by omega)) (by kernel_rfl) ?_
  refine st_b 32 (show (decide (x.fdiv 86400000000000 > 200000000)) = false by exact decide_eq_false (by omega)) (by kernel_rfl) ?_
  refine st_fn ent124 (o1) sub0 (by kernel_rfl) ?_
  refine st_fn ent111 (fits_f (zq1.snd) (x.fmod 86400000000000) (by exact Bits.mono i2.w.bits (by decide)) (by assumption)) (subC 1 rfl sub0) (by kernel_rfl) ?_
  refine st_fn ent113 (o2) sub0 (by kernel_rfl) ?_
  refine st_fn ent32 (o3) sub0 (by kernel_rfl) ?_
  exact st_retv Try.func34 (show Value.tuple #[Value.agg { toList := [Value.int IntKind.i64 (dY (x.fdiv 86400000000000)), Value.int IntKind.i64 (dM (x.fdiv 86400000000000)), Value.int IntKind.i64 (dD (x.fdiv 86400000000000)), Value.int IntKind.i64 (tH (x.fmod 86400000000000)), Value.int IntKind.i64 (tM (x.fmod 86400000000000)), Value.int IntKind.i64 (tS (x.fmod 86400000000000)), Value.int IntKind.i64 (tN (x.fmod 86400000000000))] }, Value.bool true] = _ by rfl) (by kernel_rfl)
theorem zof7_no (hx : Bits 900 x) (k : ¬ pIn x) : Fn 34 [(p, x)] [zv p] (.tuple #[pt0, .bool false]) := by
  have hb : Bits 1000 x := hx.mono (by decide)
  have hy : Bits 1000 86400000000000 := Bits.mono (show W128 86400000000000 by unfold W128; omega).bits (by decide)
  obtain ⟨-, b, c⟩ := x_split x
  have i2 : I64 (x.fmod 86400000000000) := by show I64 (xt x); unfold I64; omega
  have b2 : Bits 1000 (x.fmod 86400000000000) := i2.w.bits.mono (by decide)
  have b1 : Bits 1000 (x.fdiv 86400000000000) := Bits.mono (fdiv_b hx (by omega)) (by decide)
  have o2 := fzof (x.fmod 86400000000000) b c
  by_cases i1 : I64 (x.fdiv 86400000000000)
  · by_cases k1 : x.fdiv 86400000000000 < -200000000
    · refine fn_of Try.func34 rfl fun ww => ?_
      refine st_g ent123 (fzday) sub0 (by kernel_rfl) (fun zq0 => ?_)
      refine st_g ent122 (fzdiv (p) (zq0) (x) (86400000000000) (by exact Bits.mono hx (by decide)) (by exact Bits.mono hy (by decide)) (by omega)) (subC 1 rfl (subC 0 rfl sub0)) (by kernel_rfl) (fun zq1 => ?_)
      refine st_fn ent111 (fits_f (zq1.fst) (x.fdiv 86400000000000) (by exact Bits.mono b1 (by decide)) (by assumption)) (subC 0 rfl sub0) (by kernel_rfl) ?_
      refine st_b 28 (show (decide (x.fdiv 86400000000000 < -200000000)) = true by exact decide_eq_true (by omega)) (by kernel_rfl) ?_
      exact st_ret Try.func34 (by kernel_rfl)
    · by_cases k2 : 200000000 < x.fdiv 86400000000000
      · refine fn_of Try.func34 rfl fun ww => ?_
        refine st_g ent123 (fzday) sub0 (by kernel_rfl) (fun zq0 => ?_)
        refine st_g ent122 (fzdiv (p) (zq0) (x) (86400000000000) (by exact Bits.mono hx (by decide)) (by exact Bits.mono hy (by decide)) (by omega)) (subC 1 rfl (subC 0 rfl sub0)) (by kernel_rfl) (fun zq1 => ?_)
        refine st_fn ent111 (fits_f (zq1.fst) (x.fdiv 86400000000000) (by exact Bits.mono b1 (by decide)) (by assumption)) (subC 0 rfl sub0) (by kernel_rfl) ?_
        refine st_b 28 (show (decide (x.fdiv 86400000000000 < -200000000)) = false by exact decide_eq_false (by omega)) (by kernel_rfl) ?_
        refine st_b 32 (show (decide (x.fdiv 86400000000000 > 200000000)) = true by exact decide_eq_true (by omega)) (by kernel_rfl) ?_
        exact st_ret Try.func34 (by kernel_rfl)
      · by_cases k3 : -100000001 ≤ x.fdiv 86400000000000 ∧ x.fdiv 86400000000000 ≤ 100000000
        · have o1 := zof5_yes (x.fdiv 86400000000000) k3.1 k3.2
          have k4 : ¬ pOk (dY (x.fdiv 86400000000000)) (dM (x.fdiv 86400000000000)) (dD (x.fdiv 86400000000000)) (tH (x.fmod 86400000000000)) (tM (x.fmod 86400000000000)) (tS (x.fmod 86400000000000)) (tN (x.fmod 86400000000000)) := fun q => k (pIn_split.2 ⟨k3, fun z => q.2.2 ⟨(date_ok (xd x)).2.trans z.1, (tnan_t b).trans z.2⟩⟩)
          have o3 := zright7_no _ _ _ _ _ _ _ k4
          refine fn_of Try.func34 rfl fun ww => ?_
          refine st_g ent123 (fzday) sub0 (by kernel_rfl) (fun zq0 => ?_)
          refine st_g ent122 (fzdiv (p) (zq0) (x) (86400000000000) (by exact Bits.mono hx (by decide)) (by exact Bits.mono hy (by decide)) (by omega)) (subC 1 rfl (subC 0 rfl sub0)) (by kernel_rfl) (fun zq1 => ?_)
          refine st_fn ent111 (fits_f (zq1.fst) (x.fdiv 86400000000000) (by exact Bits.mono b1 (by decide)) (by assumption)) (subC 0 rfl sub0) (by kernel_rfl) ?_
          refine st_b 28 (show (decide (x.fdiv 86400000000000 < -200000000)) = false by exact decide_eq_false (by omega)) (by kernel_rfl) ?_
          refine st_b 32 (show (decide (x.fdiv 86400000000000 > 200000000)) = false by exact decide_eq_false (by omega)) (by kernel_rfl) ?_
          refine st_fn ent124 (o1) sub0 (by kernel_rfl) ?_
          refine st_fn ent111 (fits_f (zq1.snd) (x.fmod 86400000000000) (by exact Bits.mono i2.w.bits (by decide)) (by assumption)) (subC 1 rfl sub0) (by kernel_rfl) ?_
          refine st_fn ent113 (o2) sub0 (by kernel_rfl) ?_
          refine st_fn ent32 (o3) sub0 (by kernel_rfl) ?_
          exact st_ret Try.func34 (by kernel_rfl)
        · have o1 := zof5_no (x.fdiv 86400000000000) (by omega)
          refine fn_of Try.func34 rfl fun ww => ?_
          refine st_g ent123 (fzday) sub0 (by kernel_rfl) (fun zq0 => ?_)
          refine st_g ent122 (fzdiv (p) (zq0) (x) (86400000000000) (by exact Bits.mono hx (by decide)) (by exact Bits.mono hy (by decide)) (by omega)) (subC 1 rfl (subC 0 rfl sub0)) (by kernel_rfl) (fun zq1 => ?_)
          refine st_fn ent111 (fits_f (zq1.fst) (x.fdiv 86400000000000) (by exact Bits.mono b1 (by decide)) (by assumption)) (subC 0 rfl sub0) (by kernel_rfl) ?_
          refine st_b 28 (show (decide (x.fdiv 86400000000000 < -200000000)) = false by exact decide_eq_false (by omega)) (by kernel_rfl) ?_
          refine st_b 32 (show (decide (x.fdiv 86400000000000 > 200000000)) = false by exact decide_eq_false (by omega)) (by kernel_rfl) ?_
          refine st_fn ent124 (o1) sub0 (by kernel_rfl) ?_
          refine st_fn ent111 (fits_f (zq1.snd) (x.fmod 86400000000000) (by exact Bits.mono i2.w.bits (by decide)) (by assumption)) (subC 1 rfl sub0) (by kernel_rfl) ?_
          refine st_fn ent113 (o2) sub0 (by kernel_rfl) ?_
          exact st_ret Try.func34 (by kernel_rfl)
  · refine fn_of Try.func34 rfl fun ww => ?_
    refine st_g ent123 (fzday) sub0 (by kernel_rfl) (fun zq0 => ?_)
    refine st_g ent122 (fzdiv (p) (zq0) (x) (86400000000000) (by exact Bits.mono hx (by decide)) (by exact Bits.mono hy (by decide)) (by omega)) (subC 1 rfl (subC 0 rfl sub0)) (by kernel_rfl) (fun zq1 => ?_)
    refine st_fn ent111 (fits_n (zq1.fst) (x.fdiv 86400000000000) (by exact Bits.mono b1 (by decide)) (by assumption)) (subC 0 rfl sub0) (by kernel_rfl) ?_
    exact st_ret Try.func34 (by kernel_rfl)
end
section
variable (y mo d h m s n w : Int)
theorem zadd7_arg (k : ¬ pOk y mo d h m s n) : Fn 41 [] [ptv y mo d h m s n, wv w] (.tuple #[pt0, .int .i64 1]) := by
  refine fn_of Try.func41 rfl fun ww => ?_
  refine st_fn ent32 (zright7_no (y) (mo) (d) (h) (m) (s) (n) (by assumption)) sub0 (by kernel_rfl) ?_
  exact st_ret Try.func41 (by kernel_rfl)
theorem zadd7_yes (k : pOk y mo d h m s n) (hw : W128 w) (l : pIn (pnum y mo d h m s n + w)) : Fn 41 [] [ptv y mo d h m s n, wv w] (.tuple #[ptN (pnum y mo d h m s n + w), .int .i64 0]) := by
  have i := pOk_in k
  have hx : W128 (pnum y mo d h m s n) := by unfold pIn at i; unfold W128; omega
  refine fn_of Try.func41 rfl fun ww => ?_
  refine st_fn ent32 (zright7_yes (y) (mo) (d) (h) (m) (s) (n) (by assumption)) sub0 (by kernel_rfl) ?_
  refine st_g ent37 (znanos7 (y) (mo) (d) (h) (m) (s) (n) (by assumption)) sub0 (by kernel_rfl) (fun zq1 => ?_)
  refine st_g ent35 (frof (w) (by assumption)) sub0 (by kernel_rfl) (fun zq2 => ?_)
  refine st_g ent125 (fzadd (zq1) (zq2) (pnum y mo d h m s n) (w) (by exact Bits.fit hx.bits (by decide)) (by exact Bits.fit hw.bits (by decide))) (subC 1 rfl (subC 0 rfl sub0)) (by kernel_rfl) (fun zq3 => ?_)
  refine st_fn ent34 (zof7_yes (zq3) (pnum y mo d h m s n + w) (by assumption)) (subC 0 rfl sub0) (by kernel_rfl) ?_
  exact st_ret Try.func41 (by kernel_rfl)
theorem zadd7_no (k : pOk y mo d h m s n) (hw : W128 w) (l : ¬ pIn (pnum y mo d h m s n + w)) : Fn 41 [] [ptv y mo d h m s n, wv w] (.tuple #[pt0, .int .i64 4]) := by
  have i := pOk_in k
  have hx : W128 (pnum y mo d h m s n) := by unfold pIn at i; unfold W128; omega
  refine fn_of Try.func41 rfl fun ww => ?_
  refine st_fn ent32 (zright7_yes (y) (mo) (d) (h) (m) (s) (n) (by assumption)) sub0 (by kernel_rfl) ?_
  refine st_g ent37 (znanos7 (y) (mo) (d) (h) (m) (s) (n) (by assumption)) sub0 (by kernel_rfl) (fun zq1 => ?_)
  refine st_g ent35 (frof (w) (by assumption)) sub0 (by kernel_rfl) (fun zq2 => ?_)
  refine st_g ent125 (fzadd (zq1) (zq2) (pnum y mo d h m s n) (w) (by exact Bits.fit hx.bits (by decide)) (by exact Bits.fit hw.bits (by decide))) (subC 1 rfl (subC 0 rfl sub0)) (by kernel_rfl) (fun zq3 => ?_)
  refine st_fn ent34 (zof7_no (zq3) (pnum y mo d h m s n + w) (by exact Bits.mono (Bits.add (Bits.mono (l := 128) hx.bits (by decide)) (Bits.mono (l := 128) hw.bits (by decide))) (by decide)) (by assumption)) (subC 0 rfl sub0) (by kernel_rfl) ?_
  exact st_ret Try.func41 (by kernel_rfl)
end
section
variable (y mo d h m s n y' mo' d' h' m' s' n' : Int)
theorem zcmp7_eq (k : y = y' ∧ mo = mo' ∧ d = d') : Fn 44 [] [ptv y mo d h m s n, ptv y' mo' d' h' m' s' n'] (.int .i64 (cmp4 h m s n h' m' s' n')) := by
  obtain ⟨rfl, rfl, rfl⟩ := k
  refine fn_of Try.func44 rfl fun ww => ?_
  refine st_b 9 (show (!(y == y && (mo == mo && (d == d && true)))) = false by simp_all) (by kernel_rfl) ?_
  refine st_fn ent30 (fzcmp4 (h) (m) (s) (n) (h') (m') (s') (n')) sub0 (by kernel_rfl) ?_
  exact st_ret Try.func44 (by kernel_rfl)
theorem zcmp7_ne (k : ¬ (y = y' ∧ mo = mo' ∧ d = d')) : Fn 44 [] [ptv y mo d h m s n, ptv y' mo' d' h' m' s' n'] (.int .i64 (cmp3 y mo d y' mo' d')) := by
  have q : (y == y' && (mo == mo' && (d == d' && true))) = false := by
    rw [Bool.eq_false_iff]; intro z; simp at z; exact k z
  refine fn_of Try.func44 rfl fun ww => ?_
  refine st_b 9 (show (!(y == y' && (mo == mo' && (d == d' && true)))) = true by (simp; omega)) (by kernel_rfl) ?_
  refine st_fn ent131 (zcmp5 (y) (mo) (d) (y') (mo') (d')) sub0 (by kernel_rfl) ?_
  exact st_ret Try.func44 (by kernel_rfl)
theorem zcmp7 : Fn 44 [] [ptv y mo d h m s n, ptv y' mo' d' h' m' s' n'] (.int .i64 (cmp7 y mo d h m s n y' mo' d' h' m' s' n')) := by
  by_cases k : cmp3 y mo d y' mo' d' = 0
  · have := zcmp7_eq y mo d h m s n y' mo' d' h' m' s' n' (cmp3_0.1 k)
    unfold cmp7; rw [if_pos k]; exact this
  · have := zcmp7_ne y mo d h m s n y' mo' d' h' m' s' n' fun z => k (cmp3_0.2 z)
    unfold cmp7; rw [if_neg k]; exact this
end
end Go.Proofs.Ytcndfpfjckkinaa
