/-
  The law ClockRounds, walked: its end.
-/
import Derived.Test.YtcndfpfjckkinaaCrr
set_option linter.unusedVariables false
set_option maxRecDepth 100000
namespace Go.Proofs.Ytcndfpfjckkinaa
open Go Go.RowKit Go.Ev

section
variable (h m s n i mode : Int) (k : tOk h m s n) (hi : 1 ≤ i) (hj : i ≤ 86400000000000)
include k hi hj
theorem cr4 (ht : Int.tmod 86400000000000 i ≠ 0) : Fn 26 [] [tv h m s n, .int .i64 i, .int .i64 mode] bad6 := by
  refine fn_of Try.func26 rfl fun ww => ?_
  refine st_fn ent103 (fcnanos_yes (h) (m) (s) (n) (by assumption)) sub0 (by kernel_rfl) ?_
  refine st_b 24 (show (decide (i < 1)) = false by exact decide_eq_false (by omega)) (by kernel_rfl) ?_
  refine st_b 28 (show (decide (i > 86400000000000)) = false by exact decide_eq_false (by omega)) (by kernel_rfl) ?_
  refine st_div 31 (fun w => rem_run (T := 2) (k := IntKind.i64) (x := 86400000000000) (y := i) (by omega) w) (by kernel_rfl) ?_
  refine st_b 33 (show (Int.tmod 86400000000000 i != 0) = true by exact bne_iff_ne.2 (by omega)) (by kernel_rfl) ?_
  exact st_ret Try.func26 (by kernel_rfl)
theorem zr4 (ht : Int.tmod 86400000000000 i ≠ 0) : Fn 27 [] [tv h m s n, .int .i64 i, .int .i64 mode] bad6 := by
  refine fn_of Try.func27 rfl fun ww => ?_
  refine st_fn ent107 (fzright_yes (h) (m) (s) (n) (by assumption)) sub0 (by kernel_rfl) ?_
  refine st_b 18 (show (decide (i < 1)) = false by exact decide_eq_false (by omega)) (by kernel_rfl) ?_
  refine st_b 22 (show (decide (i > 86400000000000)) = false by exact decide_eq_false (by omega)) (by kernel_rfl) ?_
  refine st_div 25 (fun w => rem_run (T := 2) (k := IntKind.i64) (x := 86400000000000) (y := i) (by omega) w) (by kernel_rfl) ?_
  refine st_b 27 (show (Int.tmod 86400000000000 i != 0) = true by exact bne_iff_ne.2 (by omega)) (by kernel_rfl) ?_
  exact st_ret Try.func27 (by kernel_rfl)
theorem cr5 (ht : Int.tmod 86400000000000 i = 0) (hm : mode < 1 ∨ 9 < mode) (ha : I64 (tnan h m s n)) (hI : I64 i) (wa : W128 (tnan h m s n)) (wi : W128 i) (h0 : 0 < i) (hc : cmpI i 0 = 1) : Fn 26 [] [tv h m s n, .int .i64 i, .int .i64 mode] bad6 := by
  refine fn_of Try.func26 rfl fun ww => ?_
  refine st_fn ent103 (fcnanos_yes (h) (m) (s) (n) (by assumption)) sub0 (by kernel_rfl) ?_
  refine st_b 24 (show (decide (i < 1)) = false by exact decide_eq_false (by omega)) (by kernel_rfl) ?_
  refine st_b 28 (show (decide (i > 86400000000000)) = false by exact decide_eq_false (by omega)) (by kernel_rfl) ?_
  refine st_div 31 (fun w => rem_run (T := 2) (k := IntKind.i64) (x := 86400000000000) (y := i) (by omega) w) (by kernel_rfl) ?_
  refine st_b 33 (show (Int.tmod 86400000000000 i != 0) = false by exact bne_eq_false_iff_eq.2 (by omega)) (by kernel_rfl) ?_
  refine st_fn ent51 (wof_fn (tnan h m s n) (by assumption)) sub0 (by kernel_rfl) ?_
  refine st_fn ent51 (wof_fn (i) (by assumption)) sub0 (by kernel_rfl) ?_
  refine st_fn ent104 (to_arg2 (tnan h m s n) (i) (mode) (by assumption) (by assumption) (by assumption) (by assumption) (by assumption)) sub0 (by kernel_rfl) ?_
  exact st_ret Try.func26 (by kernel_rfl)
theorem zr5 (ht : Int.tmod 86400000000000 i = 0) (hm : mode < 1 ∨ 9 < mode) (ha : I64 (tnan h m s n)) (hI : I64 i) : Fn 27 [] [tv h m s n, .int .i64 i, .int .i64 mode] bad6 := by
  refine fn_of Try.func27 rfl fun ww => ?_
  refine st_fn ent107 (fzright_yes (h) (m) (s) (n) (by assumption)) sub0 (by kernel_rfl) ?_
  refine st_b 18 (show (decide (i < 1)) = false by exact decide_eq_false (by omega)) (by kernel_rfl) ?_
  refine st_b 22 (show (decide (i > 86400000000000)) = false by exact decide_eq_false (by omega)) (by kernel_rfl) ?_
  refine st_div 25 (fun w => rem_run (T := 2) (k := IntKind.i64) (x := 86400000000000) (y := i) (by omega) w) (by kernel_rfl) ?_
  refine st_b 27 (show (Int.tmod 86400000000000 i != 0) = false by exact bne_eq_false_iff_eq.2 (by omega)) (by kernel_rfl) ?_
  refine st_fn ent110 (fznanos (h) (m) (s) (n) (by assumption)) sub0 (by kernel_rfl) ?_
  refine st_g ent109 (fzint (tnan h m s n) (by assumption)) sub0 (by kernel_rfl) (fun zq2 => ?_)
  refine st_g ent109 (fzint (i) (by assumption)) sub0 (by kernel_rfl) (fun zq3 => ?_)
  refine st_fn ent108 (near_bad (zq2) (zq3) (mode) (by assumption)) sub0 (by kernel_rfl) ?_
  exact st_ret Try.func27 (by kernel_rfl)
theorem cr6 (ht : Int.tmod 86400000000000 i = 0) (ha : I64 (tnan h m s n)) (hI : I64 i) (y : Int) (hy : Fn 104 [] [wv (tnan h m s n), wv i, .int .i64 mode] (.tuple #[wv y, .int .i64 0])) (iy : I64 y) (y0 : 0 ≤ y) (y1 : y < 86400000000000)
    (e1 : y.tmod 86400000000000 = y) (e2 : y.tdiv 86400000000000 = 0) : Fn 26 [] [tv h m s n, .int .i64 i, .int .i64 mode] (.tuple #[tv (tH y) (tM y) (tS y) (tN y), .int .i64 0, .int .i64 0]) := by
  refine fn_of Try.func26 rfl fun ww => ?_
  refine st_fn ent103 (fcnanos_yes (h) (m) (s) (n) (by assumption)) sub0 (by kernel_rfl) ?_
  refine st_b 24 (show (decide (i < 1)) = false by exact decide_eq_false (by omega)) (by kernel_rfl) ?_
  refine st_b 28 (show (decide (i > 86400000000000)) = false by exact decide_eq_false (by omega)) (by kernel_rfl) ?_
  refine st_div 31 (fun w => rem_run (T := 2) (k := IntKind.i64) (x := 86400000000000) (y := i) (by omega) w) (by kernel_rfl) ?_
  refine st_b 33 (show (Int.tmod 86400000000000 i != 0) = false by exact bne_eq_false_iff_eq.2 (by omega)) (by kernel_rfl) ?_
  refine st_fn ent51 (wof_fn (tnan h m s n) (by assumption)) sub0 (by kernel_rfl) ?_
  refine st_fn ent51 (wof_fn (i) (by assumption)) sub0 (by kernel_rfl) ?_
  refine st_fn ent104 (hy) sub0 (by kernel_rfl) ?_
  refine st_fn ent105 (wint_f (y) (by assumption)) sub0 (by kernel_rfl) ?_
  refine st_i 56 IntKind.i64 (x := y.tmod 86400000000000) (e1) (by kernel_rfl) ?_
  refine st_fn ent106 (fcof_yes (y) (by assumption) (by assumption)) sub0 (by kernel_rfl) ?_
  refine st_i 62 IntKind.i64 (x := IntKind.i64.wrap (y.tdiv 86400000000000)) ((Go.IntWalk.i64_in (y.tdiv 86400000000000) (by omega)).trans (e2)) (by kernel_rfl) ?_
  exact st_ret Try.func26 (by kernel_rfl)
theorem cr7 (ht : Int.tmod 86400000000000 i = 0) (ha : I64 (tnan h m s n)) (hI : I64 i) (hy : Fn 104 [] [wv (tnan h m s n), wv i, .int .i64 mode] (.tuple #[wv 86400000000000, .int .i64 0])) (iy : I64 86400000000000)
    (hof : Fn 106 [] [.int .i64 0] (.tuple #[tv 0 0 0 0, .bool true])) : Fn 26 [] [tv h m s n, .int .i64 i, .int .i64 mode] (.tuple #[tv 0 0 0 0, .int .i64 1, .int .i64 0]) := by
  refine fn_of Try.func26 rfl fun ww => ?_
  refine st_fn ent103 (fcnanos_yes (h) (m) (s) (n) (by assumption)) sub0 (by kernel_rfl) ?_
  refine st_b 24 (show (decide (i < 1)) = false by exact decide_eq_false (by omega)) (by kernel_rfl) ?_
  refine st_b 28 (show (decide (i > 86400000000000)) = false by exact decide_eq_false (by omega)) (by kernel_rfl) ?_
  refine st_div 31 (fun w => rem_run (T := 2) (k := IntKind.i64) (x := 86400000000000) (y := i) (by omega) w) (by kernel_rfl) ?_
  refine st_b 33 (show (Int.tmod 86400000000000 i != 0) = false by exact bne_eq_false_iff_eq.2 (by omega)) (by kernel_rfl) ?_
  refine st_fn ent51 (wof_fn (tnan h m s n) (by assumption)) sub0 (by kernel_rfl) ?_
  refine st_fn ent51 (wof_fn (i) (by assumption)) sub0 (by kernel_rfl) ?_
  refine st_fn ent104 (hy) sub0 (by kernel_rfl) ?_
  refine st_fn ent105 (wint_f (86400000000000) (by assumption)) sub0 (by kernel_rfl) ?_
  refine st_i 56 IntKind.i64 (x := Int.tmod 86400000000000 86400000000000) ((by decide : Int.tmod 86400000000000 86400000000000 = 0)) (by kernel_rfl) ?_
  refine st_fn ent106 (hof) sub0 (by kernel_rfl) ?_
  refine st_i 62 IntKind.i64 (x := IntKind.i64.wrap (Int.tdiv 86400000000000 86400000000000)) ((by decide : Int.tdiv 86400000000000 86400000000000 = 1)) (by kernel_rfl) ?_
  exact st_ret Try.func26 (by kernel_rfl)
theorem zr6 (ht : Int.tmod 86400000000000 i = 0) (h1 : 1 ≤ mode) (h2 : mode ≤ 9) (ha : I64 (tnan h m s n)) (hI : I64 i) (h0 : 0 < i) (b1 : Bits 200 (tnan h m s n)) (b2 : Bits 200 i) (b3 : Bits 202 (nearQ (tnan h m s n) i mode)) (y : Int) (hy : nearQ (tnan h m s n) i mode * i = y) (iy : I64 (nearQ (tnan h m s n) i mode * i)) (y0 : 0 ≤ y) (y1 : y < 86400000000000) :
    Fn 27 [] [tv h m s n, .int .i64 i, .int .i64 mode] (.tuple #[tv (tH y) (tM y) (tS y) (tN y), .int .i64 0, .int .i64 0]) := by
  refine fn_of Try.func27 rfl fun ww => ?_
  refine st_fn ent107 (fzright_yes (h) (m) (s) (n) (by assumption)) sub0 (by kernel_rfl) ?_
  refine st_b 18 (show (decide (i < 1)) = false by exact decide_eq_false (by omega)) (by kernel_rfl) ?_
  refine st_b 22 (show (decide (i > 86400000000000)) = false by exact decide_eq_false (by omega)) (by kernel_rfl) ?_
  refine st_div 25 (fun w => rem_run (T := 2) (k := IntKind.i64) (x := 86400000000000) (y := i) (by omega) w) (by kernel_rfl) ?_
  refine st_b 27 (show (Int.tmod 86400000000000 i != 0) = false by exact bne_eq_false_iff_eq.2 (by omega)) (by kernel_rfl) ?_
  refine st_fn ent110 (fznanos (h) (m) (s) (n) (by assumption)) sub0 (by kernel_rfl) ?_
  refine st_g ent109 (fzint (tnan h m s n) (by assumption)) sub0 (by kernel_rfl) (fun zq2 => ?_)
  refine st_g ent109 (fzint (i) (by assumption)) sub0 (by kernel_rfl) (fun zq3 => ?_)
  refine st_g ent108 (near_ok (zq2) (zq3) (tnan h m s n) (i) (mode) (by exact Bits.mono ha.w.bits (by decide)) (by exact Bits.mono hI.w.bits (by decide)) (by assumption) (by assumption) (by assumption)) (subC 1 rfl (subC 0 rfl sub0)) (by kernel_rfl) (fun zq4 => ?_)
  refine st_g ent109 (fzint (i) (by assumption)) sub0 (by kernel_rfl) (fun zq5 => ?_)
  refine st_g ent112 (fzmul (zq4) (zq5) (nearQ (tnan h m s n) i mode) (i) (by exact Bits.fit b3 (by decide)) (by exact Bits.fit hI.w.bits (by decide))) (subC 1 rfl (subC 0 rfl sub0)) (by kernel_rfl) (fun zq6 => ?_)
  refine st_fn ent111 (fits_f (zq6) (nearQ (tnan h m s n) i mode * i) (by exact Bits.mono iy.w.bits (by decide)) (by assumption)) (subC 0 rfl sub0) (by kernel_rfl) ?_
  refine st_i 49 IntKind.i64 (x := nearQ (tnan h m s n) i mode * i) (hy) (by kernel_rfl) ?_
  refine st_b 52 (show (y == 86400000000000) = false by exact decide_eq_false (by omega)) (by kernel_rfl) ?_
  refine st_fn ent113 (fzof (y) (by assumption) (by assumption)) sub0 (by kernel_rfl) ?_
  exact st_ret Try.func27 (by kernel_rfl)
theorem zr7 (ht : Int.tmod 86400000000000 i = 0) (h1 : 1 ≤ mode) (h2 : mode ≤ 9) (ha : I64 (tnan h m s n)) (hI : I64 i) (h0 : 0 < i) (b1 : Bits 200 (tnan h m s n)) (b2 : Bits 200 i) (b3 : Bits 202 (nearQ (tnan h m s n) i mode)) (hy : nearQ (tnan h m s n) i mode * i = 86400000000000) (iy : I64 (nearQ (tnan h m s n) i mode * i)) :
    Fn 27 [] [tv h m s n, .int .i64 i, .int .i64 mode] (.tuple #[tv 0 0 0 0, .int .i64 1, .int .i64 0]) := by
  refine fn_of Try.func27 rfl fun ww => ?_
  refine st_fn ent107 (fzright_yes (h) (m) (s) (n) (by assumption)) sub0 (by kernel_rfl) ?_
  refine st_b 18 (show (decide (i < 1)) = false by exact decide_eq_false (by omega)) (by kernel_rfl) ?_
  refine st_b 22 (show (decide (i > 86400000000000)) = false by exact decide_eq_false (by omega)) (by kernel_rfl) ?_
  refine st_div 25 (fun w => rem_run (T := 2) (k := IntKind.i64) (x := 86400000000000) (y := i) (by omega) w) (by kernel_rfl) ?_
  refine st_b 27 (show (Int.tmod 86400000000000 i != 0) = false by exact bne_eq_false_iff_eq.2 (by omega)) (by kernel_rfl) ?_
  refine st_fn ent110 (fznanos (h) (m) (s) (n) (by assumption)) sub0 (by kernel_rfl) ?_
  refine st_g ent109 (fzint (tnan h m s n) (by assumption)) sub0 (by kernel_rfl) (fun zq2 => ?_)
  refine st_g ent109 (fzint (i) (by assumption)) sub0 (by kernel_rfl) (fun zq3 => ?_)
  refine st_g ent108 (near_ok (zq2) (zq3) (tnan h m s n) (i) (mode) (by exact Bits.mono ha.w.bits (by decide)) (by exact Bits.mono hI.w.bits (by decide)) (by assumption) (by assumption) (by assumption)) (subC 1 rfl (subC 0 rfl sub0)) (by kernel_rfl) (fun zq4 => ?_)
  refine st_g ent109 (fzint (i) (by assumption)) sub0 (by kernel_rfl) (fun zq5 => ?_)
  refine st_g ent112 (fzmul (zq4) (zq5) (nearQ (tnan h m s n) i mode) (i) (by exact Bits.fit b3 (by decide)) (by exact Bits.fit hI.w.bits (by decide))) (subC 1 rfl (subC 0 rfl sub0)) (by kernel_rfl) (fun zq6 => ?_)
  refine st_fn ent111 (fits_f (zq6) (nearQ (tnan h m s n) i mode * i) (by exact Bits.mono iy.w.bits (by decide)) (by assumption)) (subC 0 rfl sub0) (by kernel_rfl) ?_
  refine st_i 49 IntKind.i64 (x := nearQ (tnan h m s n) i mode * i) (hy) (by kernel_rfl) ?_
  exact st_ret Try.func27 (by kernel_rfl)
end
end Go.Proofs.Ytcndfpfjckkinaa
