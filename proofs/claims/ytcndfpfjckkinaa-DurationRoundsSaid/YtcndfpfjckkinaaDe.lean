/-
  Texts joined: Duf, Dul, Duh, In. Each says at its head what it shows.
-/
import Derived.OpenShut
import Derived.Test.YtcndfpfjckkinaaDd
section
/-
  A total laid out, as the reference does it.
-/
set_option linter.unusedVariables false
set_option maxRecDepth 100000
namespace Go.Proofs.Ytcndfpfjckkinaa
open Go Go.RowKit Go.Ev

section
variable (p q : ZQ) (y A B : Int)
theorem zdt (h0 : 0 ≤ y) (hy : Bits 900 y) (hB : 0 < B) (hB2 : Bits 900 B) : FnZZ 122 [(p, y), (q, B)] [zv p, zv q] (fun q => .tuple #[zv q.1, zv q.2]) (y.tdiv B) (y.tmod B) := by
  have t := fzdiv p q y B (hy.mono (by decide)) (hB2.mono (by decide)) (by omega)
  rwa [Int.fdiv_eq_ediv_of_nonneg _ (by omega), Int.fmod_eq_emod_of_nonneg _ (by omega), ← Int.tdiv_eq_ediv_of_nonneg h0, ← Int.tmod_eq_emod_of_nonneg h0] at t
theorem tmod_nb (h0 : 0 ≤ y) (hA : 0 < A) (hA2 : Bits 900 A) : 0 ≤ y.tmod A ∧ Bits 900 (y.tmod A) := by
  have e := (td y A hA).2.1 h0
  exact ⟨e.2.1, hA2.le (by omega)⟩
theorem zdc (h0 : 0 ≤ y) (hA : 0 < A) (hA2 : Bits 900 A) (hB : 0 < B) (hB2 : Bits 900 B) (hd : B ∣ A) : FnZZ 122 [(p, y.tmod A), (q, B)] [zv p, zv q] (fun q => .tuple #[zv q.1, zv q.2]) ((y.tmod A).tdiv B) (y.tmod B) := by
  obtain ⟨a, b⟩ := tmod_nb y A h0 hA hA2
  have t := zdt p q (y.tmod A) B a b hB hB2
  rwa [Int.tmod_tmod_of_dvd y hd] at t
theorem tdvb (h0 : 0 ≤ y) (hy : Bits 900 y) (hB : 0 < B) : Bits 900 (y.tdiv B) := by
  obtain ⟨e1, e2, e3⟩ := td y B hB
  have g := e2 h0
  have : y.tdiv B ≤ y.tdiv B * B := by have := Int.mul_le_mul_of_nonneg_left (show 1 ≤ B by omega) g.1; omega
  exact hy.le (by omega)
theorem zng (hy : Bits 900 y) : FnZ 128 [(p, y)] [zv p] zv (-y) := fzneg p y (hy.fit (by decide))
end
theorem zulay4p_y (p : ZQ) (x : Int) (hx : W128 x) (h0 : 0 ≤ x) (g : I64 (x.tdiv 86400000000000)) (k : uOk 0 0 0 (x.tdiv 86400000000000) ((x.tmod 86400000000000).tdiv 3600000000000) ((x.tmod 3600000000000).tdiv 60000000000) ((x.tmod 60000000000).tdiv 1000000000) (x.tmod 1000000000)) : Fn 53 [(p, x)] [zv p, .int .i64 4] (.tuple #[duv 0 0 0 (x.tdiv 86400000000000) ((x.tmod 86400000000000).tdiv 3600000000000) ((x.tmod 3600000000000).tdiv 60000000000) ((x.tmod 60000000000).tdiv 1000000000) (x.tmod 1000000000), .int .i64 0]) := by
  have hy : Bits 900 x := hx.bits.mono (by decide)
  have y0 : 0 ≤ x := by omega
  have bL4 : Bits 900 86400000000000 := Bits.mono (show W128 86400000000000 by unfold W128; omega).bits (by decide)
  have bL5 : Bits 900 3600000000000 := Bits.mono (show W128 3600000000000 by unfold W128; omega).bits (by decide)
  have bL6 : Bits 900 60000000000 := Bits.mono (show W128 60000000000 by unfold W128; omega).bits (by decide)
  have bL7 : Bits 900 1000000000 := Bits.mono (show W128 1000000000 by unfold W128; omega).bits (by decide)
  have bL8 : Bits 900 1 := Bits.mono (show W128 1 by unfold W128; omega).bits (by decide)
  have j1 : I64 86400000000000 := by unfold I64; omega
  have j2 : I64 3600000000000 := by unfold I64; omega
  have j3 : I64 60000000000 := by unfold I64; omega
  have j4 : I64 1000000000 := by unfold I64; omega
  have j5 : I64 1 := by unfold I64; omega
  have j0 : I64 0 := by unfold I64; omega
  have fa : ∀ p : ZQ, FnZ 136 [(p, x)] [zv p] zv x := fun p => by
    have t := fzabs p x (hx.bits.fit (by decide))
    rwa [show ((x.natAbs : Nat) : Int) = x by omega] at t
  have d0 : ∀ p q : ZQ, FnZZ 122 [(p, x), (q, 86400000000000)] [zv p, zv q] (fun q => .tuple #[zv q.1, zv q.2]) (x.tdiv 86400000000000) (x.tmod 86400000000000) := fun p q => zdt p q x 86400000000000 y0 hy (by omega) bL4
  have d1 : ∀ p q : ZQ, FnZZ 122 [(p, x.tmod 86400000000000), (q, 3600000000000)] [zv p, zv q] (fun q => .tuple #[zv q.1, zv q.2]) ((x.tmod 86400000000000).tdiv 3600000000000) (x.tmod 3600000000000) := fun p q => zdc p q x 86400000000000 3600000000000 y0 (by omega) bL4 (by omega) bL5 (by decide)
  have d2 : ∀ p q : ZQ, FnZZ 122 [(p, x.tmod 3600000000000), (q, 60000000000)] [zv p, zv q] (fun q => .tuple #[zv q.1, zv q.2]) ((x.tmod 3600000000000).tdiv 60000000000) (x.tmod 60000000000) := fun p q => zdc p q x 3600000000000 60000000000 y0 (by omega) bL5 (by omega) bL6 (by decide)
  have d3 : ∀ p q : ZQ, FnZZ 122 [(p, x.tmod 60000000000), (q, 1000000000)] [zv p, zv q] (fun q => .tuple #[zv q.1, zv q.2]) ((x.tmod 60000000000).tdiv 1000000000) (x.tmod 1000000000) := fun p q => zdc p q x 60000000000 1000000000 y0 (by omega) bL6 (by omega) bL7 (by decide)
  have d4 : ∀ p q : ZQ, FnZZ 122 [(p, x.tmod 1000000000), (q, 1)] [zv p, zv q] (fun q => .tuple #[zv q.1, zv q.2]) ((x.tmod 1000000000).tdiv 1) (x.tmod 1) := fun p q => zdc p q x 1000000000 1 y0 (by omega) bL7 (by omega) bL8 (by decide)
  have g5 : I64 ((x.tmod 86400000000000).tdiv 3600000000000) := by have := td2 x 86400000000000 3600000000000 24 (by decide) (by omega) (by omega); unfold I64; omega
  have g6 : I64 ((x.tmod 3600000000000).tdiv 60000000000) := by have := td2 x 3600000000000 60000000000 60 (by decide) (by omega) (by omega); unfold I64; omega
  have g7 : I64 ((x.tmod 60000000000).tdiv 1000000000) := by have := td2 x 60000000000 1000000000 60 (by decide) (by omega) (by omega); unfold I64; omega
  have g8 : I64 (x.tmod 1000000000) := by
    obtain ⟨e1, e2, e3⟩ := td x 1000000000 (by omega)
    by_cases z : 0 ≤ x
    · have := e2 z; unfold I64; omega
    · have := e3 (by omega); unfold I64; omega
  have f0 : ∀ p : ZQ, Fn 111 [(p, x.tdiv 86400000000000)] [zv p] (.tuple #[.int .i64 (x.tdiv 86400000000000), .bool true]) := fun p => by
    have t := fits_f p (x.tdiv 86400000000000) (g.w.bits.mono (by decide)) g
    exact t
  have f1 : ∀ p : ZQ, Fn 111 [(p, (x.tmod 86400000000000).tdiv 3600000000000)] [zv p] (.tuple #[.int .i64 ((x.tmod 86400000000000).tdiv 3600000000000), .bool true]) := fun p => by
    have t := fits_f p ((x.tmod 86400000000000).tdiv 3600000000000) (g5.w.bits.mono (by decide)) g5
    exact t
  have f2 : ∀ p : ZQ, Fn 111 [(p, (x.tmod 3600000000000).tdiv 60000000000)] [zv p] (.tuple #[.int .i64 ((x.tmod 3600000000000).tdiv 60000000000), .bool true]) := fun p => by
    have t := fits_f p ((x.tmod 3600000000000).tdiv 60000000000) (g6.w.bits.mono (by decide)) g6
    exact t
  have f3 : ∀ p : ZQ, Fn 111 [(p, (x.tmod 60000000000).tdiv 1000000000)] [zv p] (.tuple #[.int .i64 ((x.tmod 60000000000).tdiv 1000000000), .bool true]) := fun p => by
    have t := fits_f p ((x.tmod 60000000000).tdiv 1000000000) (g7.w.bits.mono (by decide)) g7
    exact t
  have f4 : ∀ p : ZQ, Fn 111 [(p, (x.tmod 1000000000).tdiv 1)] [zv p] (.tuple #[.int .i64 (x.tmod 1000000000), .bool true]) := fun p => by
    have t := fits_f p (x.tmod 1000000000) (g8.w.bits.mono (by decide)) g8
    simpa only [tdiv_1] using t
  have r := zuright_y 0 0 0 (x.tdiv 86400000000000) ((x.tmod 86400000000000).tdiv 3600000000000) ((x.tmod 3600000000000).tdiv 60000000000) ((x.tmod 60000000000).tdiv 1000000000) (x.tmod 1000000000) ⟨j0, j0, j0, g, g5, g6, g7, g8⟩ k
  refine fn_of Try.func53 rfl fun ww => ?_
  refine st_know (p := p.n = false) (fun w hw => by rw [z_neg (hw (p, x) (by simp))]; simp; omega) fun hn => ?_
  clear hy y0 g hx k
  refine st_fn ent64 (zulen4) sub0 (by kernel_rfl) ?_
  refine st_g ent136 (fa (p)) (subC 0 rfl sub0) (by kernel_rfl) (fun zq1 => ?_)
  refine st_round (by kernel_rfl) ?_
  refine st_fn ent64 (zulen4) sub0 (by kernel_rfl) ?_
  refine st_g ent109 (fzint (86400000000000) (by assumption)) sub0 (by kernel_rfl) (fun zq3 => ?_)
  refine st_g ent122 (d0 (zq1) (zq3)) (subC 1 rfl (subC 0 rfl sub0)) (by kernel_rfl) (fun zq4 => ?_)
  refine st_b 34 (show (p.n) = false by assumption) (by kernel_rfl) ?_
  refine st_fn ent111 (f0 (zq4.fst)) (subC 0 rfl sub0) (by kernel_rfl) ?_
  refine st_i 46 .i64 (x' := 4 - 1) (Go.IntWalk.i64_in _ (by omega)) (by kernel_rfl) ?_
  refine st_i 24 .i64 (x' := 4 + 1) (Go.IntWalk.i64_in _ (by omega)) (by kernel_rfl) ?_
  refine st_round (by kernel_rfl) ?_
  refine st_fn ent64 (zulen5) sub0 (by kernel_rfl) ?_
  refine st_g ent109 (fzint (3600000000000) (by assumption)) sub0 (by kernel_rfl) (fun zq7 => ?_)
  refine st_g ent122 (d1 (zq4.snd) (zq7)) (subC 2 rfl (subC 0 rfl sub0)) (by kernel_rfl) (fun zq8 => ?_)
  refine st_b 34 (show (p.n) = false by assumption) (by kernel_rfl) ?_
  refine st_fn ent111 (f1 (zq8.fst)) (subC 0 rfl sub0) (by kernel_rfl) ?_
  refine st_i 46 .i64 (x' := 4 + 1 - 1) (Go.IntWalk.i64_in _ (by omega)) (by kernel_rfl) ?_
  refine st_i 24 .i64 (x' := 4 + 1 + 1) (Go.IntWalk.i64_in _ (by omega)) (by kernel_rfl) ?_
  refine st_round (by kernel_rfl) ?_
  refine st_fn ent64 (zulen6) sub0 (by kernel_rfl) ?_
  refine st_g ent109 (fzint (60000000000) (by assumption)) sub0 (by kernel_rfl) (fun zq11 => ?_)
  refine st_g ent122 (d2 (zq8.snd) (zq11)) (subC 2 rfl (subC 0 rfl sub0)) (by kernel_rfl) (fun zq12 => ?_)
  refine st_b 34 (show (p.n) = false by assumption) (by kernel_rfl) ?_
  refine st_fn ent111 (f2 (zq12.fst)) (subC 0 rfl sub0) (by kernel_rfl) ?_
  refine st_i 46 .i64 (x' := 4 + 1 + 1 - 1) (Go.IntWalk.i64_in _ (by omega)) (by kernel_rfl) ?_
  refine st_i 24 .i64 (x' := 4 + 1 + 1 + 1) (Go.IntWalk.i64_in _ (by omega)) (by kernel_rfl) ?_
  refine st_round (by kernel_rfl) ?_
  refine st_fn ent64 (zulen7) sub0 (by kernel_rfl) ?_
  refine st_g ent109 (fzint (1000000000) (by assumption)) sub0 (by kernel_rfl) (fun zq15 => ?_)
  refine st_g ent122 (d3 (zq12.snd) (zq15)) (subC 2 rfl (subC 0 rfl sub0)) (by kernel_rfl) (fun zq16 => ?_)
  refine st_b 34 (show (p.n) = false by assumption) (by kernel_rfl) ?_
  refine st_fn ent111 (f3 (zq16.fst)) (subC 0 rfl sub0) (by kernel_rfl) ?_
  refine st_i 46 .i64 (x' := 4 + 1 + 1 + 1 - 1) (Go.IntWalk.i64_in _ (by omega)) (by kernel_rfl) ?_
  refine st_i 24 .i64 (x' := 4 + 1 + 1 + 1 + 1) (Go.IntWalk.i64_in _ (by omega)) (by kernel_rfl) ?_
  refine st_round (by kernel_rfl) ?_
  refine st_fn ent64 (zulen8) sub0 (by kernel_rfl) ?_
  refine st_g ent109 (fzint (1) (by assumption)) sub0 (by kernel_rfl) (fun zq19 => ?_)
  refine st_g ent122 (d4 (zq16.snd) (zq19)) (subC 2 rfl (subC 0 rfl sub0)) (by kernel_rfl) (fun zq20 => ?_)
  refine st_b 34 (show (p.n) = false by assumption) (by kernel_rfl) ?_
  refine st_fn ent111 (f4 (zq20.fst)) (subC 0 rfl sub0) (by kernel_rfl) ?_
  refine st_i 46 .i64 (x' := 4 + 1 + 1 + 1 + 1 - 1) (Go.IntWalk.i64_in _ (by omega)) (by kernel_rfl) ?_
  refine st_i 24 .i64 (x' := 4 + 1 + 1 + 1 + 1 + 1) (Go.IntWalk.i64_in _ (by omega)) (by kernel_rfl) ?_
  refine st_round (by kernel_rfl) ?_
  refine st_fn ent137 (zumade (0) (0) (0) (x.tdiv 86400000000000) ((x.tmod 86400000000000).tdiv 3600000000000) ((x.tmod 3600000000000).tdiv 60000000000) ((x.tmod 60000000000).tdiv 1000000000) (x.tmod 1000000000)) sub0 (by kernel_rfl) ?_
  refine st_fn ent67 (r) sub0 (by kernel_rfl) ?_
  exact st_ret Try.func53 (by kernel_rfl)
theorem zulay4p_r (p : ZQ) (x : Int) (hx : W128 x) (h0 : 0 ≤ x) (g : I64 (x.tdiv 86400000000000)) (k : ¬ uOk 0 0 0 (x.tdiv 86400000000000) ((x.tmod 86400000000000).tdiv 3600000000000) ((x.tmod 3600000000000).tdiv 60000000000) ((x.tmod 60000000000).tdiv 1000000000) (x.tmod 1000000000)) : Fn 53 [(p, x)] [zv p, .int .i64 4] (.tuple #[du0, .int .i64 4]) := by
  have hy : Bits 900 x := hx.bits.mono (by decide)
  have y0 : 0 ≤ x := by omega
  have bL4 : Bits 900 86400000000000 := Bits.mono (show W128 86400000000000 by unfold W128; omega).bits (by decide)
  have bL5 : Bits 900 3600000000000 := Bits.mono (show W128 3600000000000 by unfold W128; omega).bits (by decide)
  have bL6 : Bits 900 60000000000 := Bits.mono (show W128 60000000000 by unfold W128; omega).bits (by decide)
  have bL7 : Bits 900 1000000000 := Bits.mono (show W128 1000000000 by unfold W128; omega).bits (by decide)
  have bL8 : Bits 900 1 := Bits.mono (show W128 1 by unfold W128; omega).bits (by decide)
  have j1 : I64 86400000000000 := by unfold I64; omega
  have j2 : I64 3600000000000 := by unfold I64; omega
  have j3 : I64 60000000000 := by unfold I64; omega
  have j4 : I64 1000000000 := by unfold I64; omega
  have j5 : I64 1 := by unfold I64; omega
  have j0 : I64 0 := by unfold I64; omega
  have fa : ∀ p : ZQ, FnZ 136 [(p, x)] [zv p] zv x := fun p => by
    have t := fzabs p x (hx.bits.fit (by decide))
    rwa [show ((x.natAbs : Nat) : Int) = x by omega] at t
  have d0 : ∀ p q : ZQ, FnZZ 122 [(p, x), (q, 86400000000000)] [zv p, zv q] (fun q => .tuple #[zv q.1, zv q.2]) (x.tdiv 86400000000000) (x.tmod 86400000000000) := fun p q => zdt p q x 86400000000000 y0 hy (by omega) bL4
  have d1 : ∀ p q : ZQ, FnZZ 122 [(p, x.tmod 86400000000000), (q, 3600000000000)] [zv p, zv q] (fun q => .tuple #[zv q.1, zv q.2]) ((x.tmod 86400000000000).tdiv 3600000000000) (x.tmod 3600000000000) := fun p q => zdc p q x 86400000000000 3600000000000 y0 (by omega) bL4 (by omega) bL5 (by decide)
  have d2 : ∀ p q : ZQ, FnZZ 122 [(p, x.tmod 3600000000000), (q, 60000000000)] [zv p, zv q] (fun q => .tuple #[zv q.1, zv q.2]) ((x.tmod 3600000000000).tdiv 60000000000) (x.tmod 60000000000) := fun p q => zdc p q x 3600000000000 60000000000 y0 (by omega) bL5 (by omega) bL6 (by decide)
  have d3 : ∀ p q : ZQ, FnZZ 122 [(p, x.tmod 60000000000), (q, 1000000000)] [zv p, zv q] (fun q => .tuple #[zv q.1, zv q.2]) ((x.tmod 60000000000).tdiv 1000000000) (x.tmod 1000000000) := fun p q => zdc p q x 60000000000 1000000000 y0 (by omega) bL6 (by omega) bL7 (by decide)
  have d4 : ∀ p q : ZQ, FnZZ 122 [(p, x.tmod 1000000000), (q, 1)] [zv p, zv q] (fun q => .tuple #[zv q.1, zv q.2]) ((x.tmod 1000000000).tdiv 1) (x.tmod 1) := fun p q => zdc p q x 1000000000 1 y0 (by omega) bL7 (by omega) bL8 (by decide)
  have g5 : I64 ((x.tmod 86400000000000).tdiv 3600000000000) := by have := td2 x 86400000000000 3600000000000 24 (by decide) (by omega) (by omega); unfold I64; omega
  have g6 : I64 ((x.tmod 3600000000000).tdiv 60000000000) := by have := td2 x 3600000000000 60000000000 60 (by decide) (by omega) (by omega); unfold I64; omega
  have g7 : I64 ((x.tmod 60000000000).tdiv 1000000000) := by have := td2 x 60000000000 1000000000 60 (by decide) (by omega) (by omega); unfold I64; omega
  have g8 : I64 (x.tmod 1000000000) := by
    obtain ⟨e1, e2, e3⟩ := td x 1000000000 (by omega)
    by_cases z : 0 ≤ x
    · have := e2 z; unfold I64; omega
    · have := e3 (by omega); unfold I64; omega
  have f0 : ∀ p : ZQ, Fn 111 [(p, x.tdiv 86400000000000)] [zv p] (.tuple #[.int .i64 (x.tdiv 86400000000000), .bool true]) := fun p => by
    have t := fits_f p (x.tdiv 86400000000000) (g.w.bits.mono (by decide)) g
    exact t
  have f1 : ∀ p : ZQ, Fn 111 [(p, (x.tmod 86400000000000).tdiv 3600000000000)] [zv p] (.tuple #[.int .i64 ((x.tmod 86400000000000).tdiv 3600000000000), .bool true]) := fun p => by
    have t := fits_f p ((x.tmod 86400000000000).tdiv 3600000000000) (g5.w.bits.mono (by decide)) g5
    exact t
  have f2 : ∀ p : ZQ, Fn 111 [(p, (x.tmod 3600000000000).tdiv 60000000000)] [zv p] (.tuple #[.int .i64 ((x.tmod 3600000000000).tdiv 60000000000), .bool true]) := fun p => by
    have t := fits_f p ((x.tmod 3600000000000).tdiv 60000000000) (g6.w.bits.mono (by decide)) g6
    exact t
  have f3 : ∀ p : ZQ, Fn 111 [(p, (x.tmod 60000000000).tdiv 1000000000)] [zv p] (.tuple #[.int .i64 ((x.tmod 60000000000).tdiv 1000000000), .bool true]) := fun p => by
    have t := fits_f p ((x.tmod 60000000000).tdiv 1000000000) (g7.w.bits.mono (by decide)) g7
    exact t
  have f4 : ∀ p : ZQ, Fn 111 [(p, (x.tmod 1000000000).tdiv 1)] [zv p] (.tuple #[.int .i64 (x.tmod 1000000000), .bool true]) := fun p => by
    have t := fits_f p (x.tmod 1000000000) (g8.w.bits.mono (by decide)) g8
    simpa only [tdiv_1] using t
  have r := zuright_f 0 0 0 (x.tdiv 86400000000000) ((x.tmod 86400000000000).tdiv 3600000000000) ((x.tmod 3600000000000).tdiv 60000000000) ((x.tmod 60000000000).tdiv 1000000000) (x.tmod 1000000000) ⟨j0, j0, j0, g, g5, g6, g7, g8⟩ k
  refine fn_of Try.func53 rfl fun ww => ?_
  refine st_know (p := p.n = false) (fun w hw => by rw [z_neg (hw (p, x) (by simp))]; simp; omega) fun hn => ?_
  clear hy y0 g hx k
  refine st_fn ent64 (zulen4) sub0 (by kernel_rfl) ?_
  refine st_g ent136 (fa (p)) (subC 0 rfl sub0) (by kernel_rfl) (fun zq1 => ?_)
  refine st_round (by kernel_rfl) ?_
  refine st_fn ent64 (zulen4) sub0 (by kernel_rfl) ?_
  refine st_g ent109 (fzint (86400000000000) (by assumption)) sub0 (by kernel_rfl) (fun zq3 => ?_)
  refine st_g ent122 (d0 (zq1) (zq3)) (subC 1 rfl (subC 0 rfl sub0)) (by kernel_rfl) (fun zq4 => ?_)
  refine st_b 34 (show (p.n) = false by assumption) (by kernel_rfl) ?_
  refine st_fn ent111 (f0 (zq4.fst)) (subC 0 rfl sub0) (by kernel_rfl) ?_
  refine st_i 46 .i64 (x' := 4 - 1) (Go.IntWalk.i64_in _ (by omega)) (by kernel_rfl) ?_
  refine st_i 24 .i64 (x' := 4 + 1) (Go.IntWalk.i64_in _ (by omega)) (by kernel_rfl) ?_
  refine st_round (by kernel_rfl) ?_
  refine st_fn ent64 (zulen5) sub0 (by kernel_rfl) ?_
  refine st_g ent109 (fzint (3600000000000) (by assumption)) sub0 (by kernel_rfl) (fun zq7 => ?_)
  refine st_g ent122 (d1 (zq4.snd) (zq7)) (subC 2 rfl (subC 0 rfl sub0)) (by kernel_rfl) (fun zq8 => ?_)
  refine st_b 34 (show (p.n) = false by assumption) (by kernel_rfl) ?_
  refine st_fn ent111 (f1 (zq8.fst)) (subC 0 rfl sub0) (by kernel_rfl) ?_
  refine st_i 46 .i64 (x' := 4 + 1 - 1) (Go.IntWalk.i64_in _ (by omega)) (by kernel_rfl) ?_
  refine st_i 24 .i64 (x' := 4 + 1 + 1) (Go.IntWalk.i64_in _ (by omega)) (by kernel_rfl) ?_
  refine st_round (by kernel_rfl) ?_
  refine st_fn ent64 (zulen6) sub0 (by kernel_rfl) ?_
  refine st_g ent109 (fzint (60000000000) (by assumption)) sub0 (by kernel_rfl) (fun zq11 => ?_)
  refine st_g ent122 (d2 (zq8.snd) (zq11)) (subC 2 rfl (subC 0 rfl sub0)) (by kernel_rfl) (fun zq12 => ?_)
  refine st_b 34 (show (p.n) = false by assumption) (by kernel_rfl) ?_
  refine st_fn ent111 (f2 (zq12.fst)) (subC 0 rfl sub0) (by kernel_rfl) ?_
  refine st_i 46 .i64 (x' := 4 + 1 + 1 - 1) (Go.IntWalk.i64_in _ (by omega)) (by kernel_rfl) ?_
  refine st_i 24 .i64 (x' := 4 + 1 + 1 + 1) (Go.IntWalk.i64_in _ (by omega)) (by kernel_rfl) ?_
  refine st_round (by kernel_rfl) ?_
  refine st_fn ent64 (zulen7) sub0 (by kernel_rfl) ?_
  refine st_g ent109 (fzint (1000000000) (by assumption)) sub0 (by kernel_rfl) (fun zq15 => ?_)
  refine st_g ent122 (d3 (zq12.snd) (zq15)) (subC 2 rfl (subC 0 rfl sub0)) (by kernel_rfl) (fun zq16 => ?_)
  refine st_b 34 (show (p.n) = false by assumption) (by kernel_rfl) ?_
  refine st_fn ent111 (f3 (zq16.fst)) (subC 0 rfl sub0) (by kernel_rfl) ?_
  refine st_i 46 .i64 (x' := 4 + 1 + 1 + 1 - 1) (Go.IntWalk.i64_in _ (by omega)) (by kernel_rfl) ?_
  refine st_i 24 .i64 (x' := 4 + 1 + 1 + 1 + 1) (Go.IntWalk.i64_in _ (by omega)) (by kernel_rfl) ?_
  refine st_round (by kernel_rfl) ?_
  refine st_fn ent64 (zulen8) sub0 (by kernel_rfl) ?_
  refine st_g ent109 (fzint (1) (by assumption)) sub0 (by kernel_rfl) (fun zq19 => ?_)
  refine st_g ent122 (d4 (zq16.snd) (zq19)) (subC 2 rfl (subC 0 rfl sub0)) (by kernel_rfl) (fun zq20 => ?_)
  refine st_b 34 (show (p.n) = false by assumption) (by kernel_rfl) ?_
  refine st_fn ent111 (f4 (zq20.fst)) (subC 0 rfl sub0) (by kernel_rfl) ?_
  refine st_i 46 .i64 (x' := 4 + 1 + 1 + 1 + 1 - 1) (Go.IntWalk.i64_in _ (by omega)) (by kernel_rfl) ?_
  refine st_i 24 .i64 (x' := 4 + 1 + 1 + 1 + 1 + 1) (Go.IntWalk.i64_in _ (by omega)) (by kernel_rfl) ?_
  refine st_round (by kernel_rfl) ?_
  refine st_fn ent137 (zumade (0) (0) (0) (x.tdiv 86400000000000) ((x.tmod 86400000000000).tdiv 3600000000000) ((x.tmod 3600000000000).tdiv 60000000000) ((x.tmod 60000000000).tdiv 1000000000) (x.tmod 1000000000)) sub0 (by kernel_rfl) ?_
  refine st_fn ent67 (r) sub0 (by kernel_rfl) ?_
  exact st_ret Try.func53 (by kernel_rfl)
theorem zulay4p_o (p : ZQ) (x : Int) (hx : W128 x) (h0 : 0 ≤ x) (g : ¬ I64 (x.tdiv 86400000000000)) : Fn 53 [(p, x)] [zv p, .int .i64 4] (.tuple #[du0, .int .i64 4]) := by
  have hy : Bits 900 x := hx.bits.mono (by decide)
  have y0 : 0 ≤ x := by omega
  have bL4 : Bits 900 86400000000000 := Bits.mono (show W128 86400000000000 by unfold W128; omega).bits (by decide)
  have bL5 : Bits 900 3600000000000 := Bits.mono (show W128 3600000000000 by unfold W128; omega).bits (by decide)
  have bL6 : Bits 900 60000000000 := Bits.mono (show W128 60000000000 by unfold W128; omega).bits (by decide)
  have bL7 : Bits 900 1000000000 := Bits.mono (show W128 1000000000 by unfold W128; omega).bits (by decide)
  have bL8 : Bits 900 1 := Bits.mono (show W128 1 by unfold W128; omega).bits (by decide)
  have j1 : I64 86400000000000 := by unfold I64; omega
  have j2 : I64 3600000000000 := by unfold I64; omega
  have j3 : I64 60000000000 := by unfold I64; omega
  have j4 : I64 1000000000 := by unfold I64; omega
  have j5 : I64 1 := by unfold I64; omega
  have j0 : I64 0 := by unfold I64; omega
  have fa : ∀ p : ZQ, FnZ 136 [(p, x)] [zv p] zv x := fun p => by
    have t := fzabs p x (hx.bits.fit (by decide))
    rwa [show ((x.natAbs : Nat) : Int) = x by omega] at t
  have d0 : ∀ p q : ZQ, FnZZ 122 [(p, x), (q, 86400000000000)] [zv p, zv q] (fun q => .tuple #[zv q.1, zv q.2]) (x.tdiv 86400000000000) (x.tmod 86400000000000) := fun p q => zdt p q x 86400000000000 y0 hy (by omega) bL4
  have g5 : I64 ((x.tmod 86400000000000).tdiv 3600000000000) := by have := td2 x 86400000000000 3600000000000 24 (by decide) (by omega) (by omega); unfold I64; omega
  have g6 : I64 ((x.tmod 3600000000000).tdiv 60000000000) := by have := td2 x 3600000000000 60000000000 60 (by decide) (by omega) (by omega); unfold I64; omega
  have g7 : I64 ((x.tmod 60000000000).tdiv 1000000000) := by have := td2 x 60000000000 1000000000 60 (by decide) (by omega) (by omega); unfold I64; omega
  have g8 : I64 (x.tmod 1000000000) := by
    obtain ⟨e1, e2, e3⟩ := td x 1000000000 (by omega)
    by_cases z : 0 ≤ x
    · have := e2 z; unfold I64; omega
    · have := e3 (by omega); unfold I64; omega
  have f0 : ∀ p : ZQ, Fn 111 [(p, x.tdiv 86400000000000)] [zv p] (.tuple #[.int .i64 0, .bool false]) := fun p => by
    have t := fits_n p (x.tdiv 86400000000000) ((tdvb x 86400000000000 y0 hy (by omega)).mono (by decide)) g
    exact t
  refine fn_of Try.func53 rfl fun ww => ?_
  refine st_know (p := p.n = false) (fun w hw => by rw [z_neg (hw (p, x) (by simp))]; simp; omega) fun hn => ?_
  clear hy y0 g hx
  refine st_fn ent64 (zulen4) sub0 (by kernel_rfl) ?_
  refine st_g ent136 (fa (p)) (subC 0 rfl sub0) (by kernel_rfl) (fun zq1 => ?_)
  refine st_round (by kernel_rfl) ?_
  refine st_fn ent64 (zulen4) sub0 (by kernel_rfl) ?_
  refine st_g ent109 (fzint (86400000000000) (by assumption)) sub0 (by kernel_rfl) (fun zq3 => ?_)
  refine st_g ent122 (d0 (zq1) (zq3)) (subC 1 rfl (subC 0 rfl sub0)) (by kernel_rfl) (fun zq4 => ?_)
  refine st_b 34 (show (p.n) = false by assumption) (by kernel_rfl) ?_
  refine st_fn ent111 (f0 (zq4.fst)) (subC 0 rfl sub0) (by kernel_rfl) ?_
  exact st_ret Try.func53 (by kernel_rfl)
theorem zulay4n_y (p : ZQ) (x : Int) (hx : W128 x) (h0 : x < 0) (g : I64 (x.tdiv 86400000000000)) (k : uOk 0 0 0 (x.tdiv 86400000000000) ((x.tmod 86400000000000).tdiv 3600000000000) ((x.tmod 3600000000000).tdiv 60000000000) ((x.tmod 60000000000).tdiv 1000000000) (x.tmod 1000000000)) : Fn 53 [(p, x)] [zv p, .int .i64 4] (.tuple #[duv 0 0 0 (x.tdiv 86400000000000) ((x.tmod 86400000000000).tdiv 3600000000000) ((x.tmod 3600000000000).tdiv 60000000000) ((x.tmod 60000000000).tdiv 1000000000) (x.tmod 1000000000), .int .i64 0]) := by
  have hy : Bits 900 (-x) := (hx.bits.neg).mono (by decide)
  have y0 : 0 ≤ (-x) := by omega
  have bL4 : Bits 900 86400000000000 := Bits.mono (show W128 86400000000000 by unfold W128; omega).bits (by decide)
  have bL5 : Bits 900 3600000000000 := Bits.mono (show W128 3600000000000 by unfold W128; omega).bits (by decide)
  have bL6 : Bits 900 60000000000 := Bits.mono (show W128 60000000000 by unfold W128; omega).bits (by decide)
  have bL7 : Bits 900 1000000000 := Bits.mono (show W128 1000000000 by unfold W128; omega).bits (by decide)
  have bL8 : Bits 900 1 := Bits.mono (show W128 1 by unfold W128; omega).bits (by decide)
  have j1 : I64 86400000000000 := by unfold I64; omega
  have j2 : I64 3600000000000 := by unfold I64; omega
  have j3 : I64 60000000000 := by unfold I64; omega
  have j4 : I64 1000000000 := by unfold I64; omega
  have j5 : I64 1 := by unfold I64; omega
  have j0 : I64 0 := by unfold I64; omega
  have fa : ∀ p : ZQ, FnZ 136 [(p, x)] [zv p] zv (-x) := fun p => by
    have t := fzabs p x (hx.bits.fit (by decide))
    rwa [show ((x.natAbs : Nat) : Int) = -x by omega] at t
  have d0 : ∀ p q : ZQ, FnZZ 122 [(p, (-x)), (q, 86400000000000)] [zv p, zv q] (fun q => .tuple #[zv q.1, zv q.2]) ((-x).tdiv 86400000000000) ((-x).tmod 86400000000000) := fun p q => zdt p q (-x) 86400000000000 y0 hy (by omega) bL4
  have d1 : ∀ p q : ZQ, FnZZ 122 [(p, (-x).tmod 86400000000000), (q, 3600000000000)] [zv p, zv q] (fun q => .tuple #[zv q.1, zv q.2]) (((-x).tmod 86400000000000).tdiv 3600000000000) ((-x).tmod 3600000000000) := fun p q => zdc p q (-x) 86400000000000 3600000000000 y0 (by omega) bL4 (by omega) bL5 (by decide)
  have d2 : ∀ p q : ZQ, FnZZ 122 [(p, (-x).tmod 3600000000000), (q, 60000000000)] [zv p, zv q] (fun q => .tuple #[zv q.1, zv q.2]) (((-x).tmod 3600000000000).tdiv 60000000000) ((-x).tmod 60000000000) := fun p q => zdc p q (-x) 3600000000000 60000000000 y0 (by omega) bL5 (by omega) bL6 (by decide)
  have d3 : ∀ p q : ZQ, FnZZ 122 [(p, (-x).tmod 60000000000), (q, 1000000000)] [zv p, zv q] (fun q => .tuple #[zv q.1, zv q.2]) (((-x).tmod 60000000000).tdiv 1000000000) ((-x).tmod 1000000000) := fun p q => zdc p q (-x) 60000000000 1000000000 y0 (by omega) bL6 (by omega) bL7 (by decide)
  have d4 : ∀ p q : ZQ, FnZZ 122 [(p, (-x).tmod 1000000000), (q, 1)] [zv p, zv q] (fun q => .tuple #[zv q.1, zv q.2]) (((-x).tmod 1000000000).tdiv 1) ((-x).tmod 1) := fun p q => zdc p q (-x) 1000000000 1 y0 (by omega) bL7 (by omega) bL8 (by decide)
  have g5 : I64 ((x.tmod 86400000000000).tdiv 3600000000000) := by have := td2 x 86400000000000 3600000000000 24 (by decide) (by omega) (by omega); unfold I64; omega
  have g6 : I64 ((x.tmod 3600000000000).tdiv 60000000000) := by have := td2 x 3600000000000 60000000000 60 (by decide) (by omega) (by omega); unfold I64; omega
  have g7 : I64 ((x.tmod 60000000000).tdiv 1000000000) := by have := td2 x 60000000000 1000000000 60 (by decide) (by omega) (by omega); unfold I64; omega
  have g8 : I64 (x.tmod 1000000000) := by
    obtain ⟨e1, e2, e3⟩ := td x 1000000000 (by omega)
    by_cases z : 0 ≤ x
    · have := e2 z; unfold I64; omega
    · have := e3 (by omega); unfold I64; omega
  have n0 : ∀ p : ZQ, FnZ 128 [(p, (-x).tdiv 86400000000000)] [zv p] zv (x.tdiv 86400000000000) := fun p => by
    have t := zng p ((-x).tdiv 86400000000000) (tdvb (-x) 86400000000000 y0 hy (by omega))
    rwa [show -((-x).tdiv 86400000000000) = (x.tdiv 86400000000000) by rw [Int.neg_tdiv, Int.neg_neg]] at t
  have f0 : ∀ p : ZQ, Fn 111 [(p, (x.tdiv 86400000000000))] [zv p] (.tuple #[.int .i64 (x.tdiv 86400000000000), .bool true]) := fun p => by
    have t := fits_f p (x.tdiv 86400000000000) (g.w.bits.mono (by decide)) g
    exact t
  have n1 : ∀ p : ZQ, FnZ 128 [(p, ((-x).tmod 86400000000000).tdiv 3600000000000)] [zv p] zv ((x.tmod 86400000000000).tdiv 3600000000000) := fun p => by
    have t := zng p (((-x).tmod 86400000000000).tdiv 3600000000000) (tdvb _ 3600000000000 (tmod_nb (-x) 86400000000000 y0 (by omega) bL4).1 (tmod_nb (-x) 86400000000000 y0 (by omega) bL4).2 (by omega))
    rwa [show -(((-x).tmod 86400000000000).tdiv 3600000000000) = ((x.tmod 86400000000000).tdiv 3600000000000) by rw [Int.neg_tmod, Int.neg_tdiv, Int.neg_neg]] at t
  have f1 : ∀ p : ZQ, Fn 111 [(p, ((x.tmod 86400000000000).tdiv 3600000000000))] [zv p] (.tuple #[.int .i64 ((x.tmod 86400000000000).tdiv 3600000000000), .bool true]) := fun p => by
    have t := fits_f p ((x.tmod 86400000000000).tdiv 3600000000000) (g5.w.bits.mono (by decide)) g5
    exact t
  have n2 : ∀ p : ZQ, FnZ 128 [(p, ((-x).tmod 3600000000000).tdiv 60000000000)] [zv p] zv ((x.tmod 3600000000000).tdiv 60000000000) := fun p => by
    have t := zng p (((-x).tmod 3600000000000).tdiv 60000000000) (tdvb _ 60000000000 (tmod_nb (-x) 3600000000000 y0 (by omega) bL5).1 (tmod_nb (-x) 3600000000000 y0 (by omega) bL5).2 (by omega))
    rwa [show -(((-x).tmod 3600000000000).tdiv 60000000000) = ((x.tmod 3600000000000).tdiv 60000000000) by rw [Int.neg_tmod, Int.neg_tdiv, Int.neg_neg]] at t
  have f2 : ∀ p : ZQ, Fn 111 [(p, ((x.tmod 3600000000000).tdiv 60000000000))] [zv p] (.tuple #[.int .i64 ((x.tmod 3600000000000).tdiv 60000000000), .bool true]) := fun p => by
    have t := fits_f p ((x.tmod 3600000000000).tdiv 60000000000) (g6.w.bits.mono (by decide)) g6
    exact t
  have n3 : ∀ p : ZQ, FnZ 128 [(p, ((-x).tmod 60000000000).tdiv 1000000000)] [zv p] zv ((x.tmod 60000000000).tdiv 1000000000) := fun p => by
    have t := zng p (((-x).tmod 60000000000).tdiv 1000000000) (tdvb _ 1000000000 (tmod_nb (-x) 60000000000 y0 (by omega) bL6).1 (tmod_nb (-x) 60000000000 y0 (by omega) bL6).2 (by omega))
    rwa [show -(((-x).tmod 60000000000).tdiv 1000000000) = ((x.tmod 60000000000).tdiv 1000000000) by rw [Int.neg_tmod, Int.neg_tdiv, Int.neg_neg]] at t
  have f3 : ∀ p : ZQ, Fn 111 [(p, ((x.tmod 60000000000).tdiv 1000000000))] [zv p] (.tuple #[.int .i64 ((x.tmod 60000000000).tdiv 1000000000), .bool true]) := fun p => by
    have t := fits_f p ((x.tmod 60000000000).tdiv 1000000000) (g7.w.bits.mono (by decide)) g7
    exact t
  have n4 : ∀ p : ZQ, FnZ 128 [(p, ((-x).tmod 1000000000).tdiv 1)] [zv p] zv (x.tmod 1000000000) := fun p => by
    have t := zng p (((-x).tmod 1000000000).tdiv 1) (tdvb _ 1 (tmod_nb (-x) 1000000000 y0 (by omega) bL7).1 (tmod_nb (-x) 1000000000 y0 (by omega) bL7).2 (by omega))
    rwa [show -(((-x).tmod 1000000000).tdiv 1) = (x.tmod 1000000000) by rw [Int.neg_tmod, Int.neg_tdiv, Int.neg_neg, tdiv_1]] at t
  have f4 : ∀ p : ZQ, Fn 111 [(p, (x.tmod 1000000000))] [zv p] (.tuple #[.int .i64 (x.tmod 1000000000), .bool true]) := fun p => by
    have t := fits_f p (x.tmod 1000000000) (g8.w.bits.mono (by decide)) g8
    exact t
  have r := zuright_y 0 0 0 (x.tdiv 86400000000000) ((x.tmod 86400000000000).tdiv 3600000000000) ((x.tmod 3600000000000).tdiv 60000000000) ((x.tmod 60000000000).tdiv 1000000000) (x.tmod 1000000000) ⟨j0, j0, j0, g, g5, g6, g7, g8⟩ k
  refine fn_of Try.func53 rfl fun ww => ?_
  refine st_know (p := p.n = true) (fun w hw => by rw [z_neg (hw (p, x) (by simp))]; simp; omega) fun hn => ?_
  clear hy y0 g hx k
  refine st_fn ent64 (zulen4) sub0 (by kernel_rfl) ?_
  refine st_g ent136 (fa (p)) (subC 0 rfl sub0) (by kernel_rfl) (fun zq1 => ?_)
  refine st_round (by kernel_rfl) ?_
  refine st_fn ent64 (zulen4) sub0 (by kernel_rfl) ?_
  refine st_g ent109 (fzint (86400000000000) (by assumption)) sub0 (by kernel_rfl) (fun zq3 => ?_)
  refine st_g ent122 (d0 (zq1) (zq3)) (subC 1 rfl (subC 0 rfl sub0)) (by kernel_rfl) (fun zq4 => ?_)
  refine st_b 34 (show (p.n) = true by assumption) (by kernel_rfl) ?_
  refine st_g ent128 (n0 (zq4.fst)) (subC 0 rfl sub0) (by kernel_rfl) (fun zq5 => ?_)
  refine st_fn ent111 (f0 (zq5)) (subC 0 rfl sub0) (by kernel_rfl) ?_
  refine st_i 46 .i64 (x' := 4 - 1) (Go.IntWalk.i64_in _ (by omega)) (by kernel_rfl) ?_
  refine st_i 24 .i64 (x' := 4 + 1) (Go.IntWalk.i64_in _ (by omega)) (by kernel_rfl) ?_
  refine st_round (by kernel_rfl) ?_
  refine st_fn ent64 (zulen5) sub0 (by kernel_rfl) ?_
  refine st_g ent109 (fzint (3600000000000) (by assumption)) sub0 (by kernel_rfl) (fun zq8 => ?_)
  refine st_g ent122 (d1 (zq4.snd) (zq8)) (subC 3 rfl (subC 0 rfl sub0)) (by kernel_rfl) (fun zq9 => ?_)
  refine st_b 34 (show (p.n) = true by assumption) (by kernel_rfl) ?_
  refine st_g ent128 (n1 (zq9.fst)) (subC 0 rfl sub0) (by kernel_rfl) (fun zq10 => ?_)
  refine st_fn ent111 (f1 (zq10)) (subC 0 rfl sub0) (by kernel_rfl) ?_
  refine st_i 46 .i64 (x' := 4 + 1 - 1) (Go.IntWalk.i64_in _ (by omega)) (by kernel_rfl) ?_
  refine st_i 24 .i64 (x' := 4 + 1 + 1) (Go.IntWalk.i64_in _ (by omega)) (by kernel_rfl) ?_
  refine st_round (by kernel_rfl) ?_
  refine st_fn ent64 (zulen6) sub0 (by kernel_rfl) ?_
  refine st_g ent109 (fzint (60000000000) (by assumption)) sub0 (by kernel_rfl) (fun zq13 => ?_)
  refine st_g ent122 (d2 (zq9.snd) (zq13)) (subC 3 rfl (subC 0 rfl sub0)) (by kernel_rfl) (fun zq14 => ?_)
  refine st_b 34 (show (p.n) = true by assumption) (by kernel_rfl) ?_
  refine st_g ent128 (n2 (zq14.fst)) (subC 0 rfl sub0) (by kernel_rfl) (fun zq15 => ?_)
  refine st_fn ent111 (f2 (zq15)) (subC 0 rfl sub0) (by kernel_rfl) ?_
  refine st_i 46 .i64 (x' := 4 + 1 + 1 - 1) (Go.IntWalk.i64_in _ (by omega)) (by kernel_rfl) ?_
  refine st_i 24 .i64 (x' := 4 + 1 + 1 + 1) (Go.IntWalk.i64_in _ (by omega)) (by kernel_rfl) ?_
  refine st_round (by kernel_rfl) ?_
  refine st_fn ent64 (zulen7) sub0 (by kernel_rfl) ?_
  refine st_g ent109 (fzint (1000000000) (by assumption)) sub0 (by kernel_rfl) (fun zq18 => ?_)
  refine st_g ent122 (d3 (zq14.snd) (zq18)) (subC 3 rfl (subC 0 rfl sub0)) (by kernel_rfl) (fun zq19 => ?_)
  refine st_b 34 (show (p.n) = true by assumption) (by kernel_rfl) ?_
  refine st_g ent128 (n3 (zq19.fst)) (subC 0 rfl sub0) (by kernel_rfl) (fun zq20 => ?_)
  refine st_fn ent111 (f3 (zq20)) (subC 0 rfl sub0) (by kernel_rfl) ?_
  refine st_i 46 .i64 (x' := 4 + 1 + 1 + 1 - 1) (Go.IntWalk.i64_in _ (by omega)) (by kernel_rfl) ?_
  refine st_i 24 .i64 (x' := 4 + 1 + 1 + 1 + 1) (Go.IntWalk.i64_in _ (by omega)) (by kernel_rfl) ?_
  refine st_round (by kernel_rfl) ?_
  refine st_fn ent64 (zulen8) sub0 (by kernel_rfl) ?_
  refine st_g ent109 (fzint (1) (by assumption)) sub0 (by kernel_rfl) (fun zq23 => ?_)
  refine st_g ent122 (d4 (zq19.snd) (zq23)) (subC 3 rfl (subC 0 rfl sub0)) (by kernel_rfl) (fun zq24 => ?_)
  refine st_b 34 (show (p.n) = true by assumption) (by kernel_rfl) ?_
  refine st_g ent128 (n4 (zq24.fst)) (subC 0 rfl sub0) (by kernel_rfl) (fun zq25 => ?_)
  refine st_fn ent111 (f4 (zq25)) (subC 0 rfl sub0) (by kernel_rfl) ?_
  refine st_i 46 .i64 (x' := 4 + 1 + 1 + 1 + 1 - 1) (Go.IntWalk.i64_in _ (by omega)) (by kernel_rfl) ?_
  refine st_i 24 .i64 (x' := 4 + 1 + 1 + 1 + 1 + 1) (Go.IntWalk.i64_in _ (by omega)) (by kernel_rfl) ?_
  refine st_round (by kernel_rfl) ?_
  refine st_fn ent137 (zumade (0) (0) (0) (x.tdiv 86400000000000) ((x.tmod 86400000000000).tdiv 3600000000000) ((x.tmod 3600000000000).tdiv 60000000000) ((x.tmod 60000000000).tdiv 1000000000) (x.tmod 1000000000)) sub0 (by kernel_rfl) ?_
  refine st_fn ent67 (r) sub0 (by kernel_rfl) ?_
  exact st_ret Try.func53 (by kernel_rfl)
theorem zulay4n_r (p : ZQ) (x : Int) (hx : W128 x) (h0 : x < 0) (g : I64 (x.tdiv 86400000000000)) (k : ¬ uOk 0 0 0 (x.tdiv 86400000000000) ((x.tmod 86400000000000).tdiv 3600000000000) ((x.tmod 3600000000000).tdiv 60000000000) ((x.tmod 60000000000).tdiv 1000000000) (x.tmod 1000000000)) : Fn 53 [(p, x)] [zv p, .int .i64 4] (.tuple #[du0, .int .i64 4]) := by
  have hy : Bits 900 (-x) := (hx.bits.neg).mono (by decide)
  have y0 : 0 ≤ (-x) := by omega
  have bL4 : Bits 900 86400000000000 := Bits.mono (show W128 86400000000000 by unfold W128; omega).bits (by decide)
  have bL5 : Bits 900 3600000000000 := Bits.mono (show W128 3600000000000 by unfold W128; omega).bits (by decide)
  have bL6 : Bits 900 60000000000 := Bits.mono (show W128 60000000000 by unfold W128; omega).bits (by decide)
  have bL7 : Bits 900 1000000000 := Bits.mono (show W128 1000000000 by unfold W128; omega).bits (by decide)
  have bL8 : Bits 900 1 := Bits.mono (show W128 1 by unfold W128; omega).bits (by decide)
  have j1 : I64 86400000000000 := by unfold I64; omega
  have j2 : I64 3600000000000 := by unfold I64; omega
  have j3 : I64 60000000000 := by unfold I64; omega
  have j4 : I64 1000000000 := by unfold I64; omega
  have j5 : I64 1 := by unfold I64; omega
  have j0 : I64 0 := by unfold I64; omega
  have fa : ∀ p : ZQ, FnZ 136 [(p, x)] [zv p] zv (-x) := fun p => by
    have t := fzabs p x (hx.bits.fit (by decide))
    rwa [show ((x.natAbs : Nat) : Int) = -x by omega] at t
  have d0 : ∀ p q : ZQ, FnZZ 122 [(p, (-x)), (q, 86400000000000)] [zv p, zv q] (fun q => .tuple #[zv q.1, zv q.2]) ((-x).tdiv 86400000000000) ((-x).tmod 86400000000000) := fun p q => zdt p q (-x) 86400000000000 y0 hy (by omega) bL4
  have d1 : ∀ p q : ZQ, FnZZ 122 [(p, (-x).tmod 86400000000000), (q, 3600000000000)] [zv p, zv q] (fun q => .tuple #[zv q.1, zv q.2]) (((-x).tmod 86400000000000).tdiv 3600000000000) ((-x).tmod 3600000000000) := fun p q => zdc p q (-x) 86400000000000 3600000000000 y0 (by omega) bL4 (by omega) bL5 (by decide)
  have d2 : ∀ p q : ZQ, FnZZ 122 [(p, (-x).tmod 3600000000000), (q, 60000000000)] [zv p, zv q] (fun q => .tuple #[zv q.1, zv q.2]) (((-x).tmod 3600000000000).tdiv 60000000000) ((-x).tmod 60000000000) := fun p q => zdc p q (-x) 3600000000000 60000000000 y0 (by omega) bL5 (by omega) bL6 (by decide)
  have d3 : ∀ p q : ZQ, FnZZ 122 [(p, (-x).tmod 60000000000), (q, 1000000000)] [zv p, zv q] (fun q => .tuple #[zv q.1, zv q.2]) (((-x).tmod 60000000000).tdiv 1000000000) ((-x).tmod 1000000000) := fun p q => zdc p q (-x) 60000000000 1000000000 y0 (by omega) bL6 (by omega) bL7 (by decide)
  have d4 : ∀ p q : ZQ, FnZZ 122 [(p, (-x).tmod 1000000000), (q, 1)] [zv p, zv q] (fun q => .tuple #[zv q.1, zv q.2]) (((-x).tmod 1000000000).tdiv 1) ((-x).tmod 1) := fun p q => zdc p q (-x) 1000000000 1 y0 (by omega) bL7 (by omega) bL8 (by decide)
  have g5 : I64 ((x.tmod 86400000000000).tdiv 3600000000000) := by have := td2 x 86400000000000 3600000000000 24 (by decide) (by omega) (by omega); unfold I64; omega
  have g6 : I64 ((x.tmod 3600000000000).tdiv 60000000000) := by have := td2 x 3600000000000 60000000000 60 (by decide) (by omega) (by omega); unfold I64; omega
  have g7 : I64 ((x.tmod 60000000000).tdiv 1000000000) := by have := td2 x 60000000000 1000000000 60 (by decide) (by omega) (by omega); unfold I64; omega
  have g8 : I64 (x.tmod 1000000000) := by
    obtain ⟨e1, e2, e3⟩ := td x 1000000000 (by omega)
    by_cases z : 0 ≤ x
    · have := e2 z; unfold I64; omega
    · have := e3 (by omega); unfold I64; omega
  have n0 : ∀ p : ZQ, FnZ 128 [(p, (-x).tdiv 86400000000000)] [zv p] zv (x.tdiv 86400000000000) := fun p => by
    have t := zng p ((-x).tdiv 86400000000000) (tdvb (-x) 86400000000000 y0 hy (by omega))
    rwa [show -((-x).tdiv 86400000000000) = (x.tdiv 86400000000000) by rw [Int.neg_tdiv, Int.neg_neg]] at t
  have f0 : ∀ p : ZQ, Fn 111 [(p, (x.tdiv 86400000000000))] [zv p] (.tuple #[.int .i64 (x.tdiv 86400000000000), .bool true]) := fun p => by
    have t := fits_f p (x.tdiv 86400000000000) (g.w.bits.mono (by decide)) g
    exact t
  have n1 : ∀ p : ZQ, FnZ 128 [(p, ((-x).tmod 86400000000000).tdiv 3600000000000)] [zv p] zv ((x.tmod 86400000000000).tdiv 3600000000000) := fun p => by
    have t := zng p (((-x).tmod 86400000000000).tdiv 3600000000000) (tdvb _ 3600000000000 (tmod_nb (-x) 86400000000000 y0 (by omega) bL4).1 (tmod_nb (-x) 86400000000000 y0 (by omega) bL4).2 (by omega))
    rwa [show -(((-x).tmod 86400000000000).tdiv 3600000000000) = ((x.tmod 86400000000000).tdiv 3600000000000) by rw [Int.neg_tmod, Int.neg_tdiv, Int.neg_neg]] at t
  have f1 : ∀ p : ZQ, Fn 111 [(p, ((x.tmod 86400000000000).tdiv 3600000000000))] [zv p] (.tuple #[.int .i64 ((x.tmod 86400000000000).tdiv 3600000000000), .bool true]) := fun p => by
    have t := fits_f p ((x.tmod 86400000000000).tdiv 3600000000000) (g5.w.bits.mono (by decide)) g5
    exact t
  have n2 : ∀ p : ZQ, FnZ 128 [(p, ((-x).tmod 3600000000000).tdiv 60000000000)] [zv p] zv ((x.tmod 3600000000000).tdiv 60000000000) := fun p => by
    have t := zng p (((-x).tmod 3600000000000).tdiv 60000000000) (tdvb _ 60000000000 (tmod_nb (-x) 3600000000000 y0 (by omega) bL5).1 (tmod_nb (-x) 3600000000000 y0 (by omega) bL5).2 (by omega))
    rwa [show -(((-x).tmod 3600000000000).tdiv 60000000000) = ((x.tmod 3600000000000).tdiv 60000000000) by rw [Int.neg_tmod, Int.neg_tdiv, Int.neg_neg]] at t
  have f2 : ∀ p : ZQ, Fn 111 [(p, ((x.tmod 3600000000000).tdiv 60000000000))] [zv p] (.tuple #[.int .i64 ((x.tmod 3600000000000).tdiv 60000000000), .bool true]) := fun p => by
    have t := fits_f p ((x.tmod 3600000000000).tdiv 60000000000) (g6.w.bits.mono (by decide)) g6
    exact t
  have n3 : ∀ p : ZQ, FnZ 128 [(p, ((-x).tmod 60000000000).tdiv 1000000000)] [zv p] zv ((x.tmod 60000000000).tdiv 1000000000) := fun p => by
    have t := zng p (((-x).tmod 60000000000).tdiv 1000000000) (tdvb _ 1000000000 (tmod_nb (-x) 60000000000 y0 (by omega) bL6).1 (tmod_nb (-x) 60000000000 y0 (by omega) bL6).2 (by omega))
    rwa [show -(((-x).tmod 60000000000).tdiv 1000000000) = ((x.tmod 60000000000).tdiv 1000000000) by rw [Int.neg_tmod, Int.neg_tdiv, Int.neg_neg]] at t
  have f3 : ∀ p : ZQ, Fn 111 [(p, ((x.tmod 60000000000).tdiv 1000000000))] [zv p] (.tuple #[.int .i64 ((x.tmod 60000000000).tdiv 1000000000), .bool true]) := fun p => by
    have t := fits_f p ((x.tmod 60000000000).tdiv 1000000000) (g7.w.bits.mono (by decide)) g7
    exact t
  have n4 : ∀ p : ZQ, FnZ 128 [(p, ((-x).tmod 1000000000).tdiv 1)] [zv p] zv (x.tmod 1000000000) := fun p => by
    have t := zng p (((-x).tmod 1000000000).tdiv 1) (tdvb _ 1 (tmod_nb (-x) 1000000000 y0 (by omega) bL7).1 (tmod_nb (-x) 1000000000 y0 (by omega) bL7).2 (by omega))
    rwa [show -(((-x).tmod 1000000000).tdiv 1) = (x.tmod 1000000000) by rw [Int.neg_tmod, Int.neg_tdiv, Int.neg_neg, tdiv_1]] at t
  have f4 : ∀ p : ZQ, Fn 111 [(p, (x.tmod 1000000000))] [zv p] (.tuple #[.int .i64 (x.tmod 1000000000), .bool true]) := fun p => by
    have t := fits_f p (x.tmod 1000000000) (g8.w.bits.mono (by decide)) g8
    exact t
  have r := zuright_f 0 0 0 (x.tdiv 86400000000000) ((x.tmod 86400000000000).tdiv 3600000000000) ((x.tmod 3600000000000).tdiv 60000000000) ((x.tmod 60000000000).tdiv 1000000000) (x.tmod 1000000000) ⟨j0, j0, j0, g, g5, g6, g7, g8⟩ k
  refine fn_of Try.func53 rfl fun ww => ?_
  refine st_know (p := p.n = true) (fun w hw => by rw [z_neg (hw (p, x) (by simp))]; simp; omega) fun hn => ?_
  clear hy y0 g hx k
  refine st_fn ent64 (zulen4) sub0 (by kernel_rfl) ?_
  refine st_g ent136 (fa (p)) (subC 0 rfl sub0) (by kernel_rfl) (fun zq1 => ?_)
  refine st_round (by kernel_rfl) ?_
  refine st_fn ent64 (zulen4) sub0 (by kernel_rfl) ?_
  refine st_g ent109 (fzint (86400000000000) (by assumption)) sub0 (by kernel_rfl) (fun zq3 => ?_)
  refine st_g ent122 (d0 (zq1) (zq3)) (subC 1 rfl (subC 0 rfl sub0)) (by kernel_rfl) (fun zq4 => ?_)
  refine st_b 34 (show (p.n) = true by assumption) (by kernel_rfl) ?_
  refine st_g ent128 (n0 (zq4.fst)) (subC 0 rfl sub0) (by kernel_rfl) (fun zq5 => ?_)
  refine st_fn ent111 (f0 (zq5)) (subC 0 rfl sub0) (by kernel_rfl) ?_
  refine st_i 46 .i64 (x' := 4 - 1) (Go.IntWalk.i64_in _ (by omega)) (by kernel_rfl) ?_
  refine st_i 24 .i64 (x' := 4 + 1) (Go.IntWalk.i64_in _ (by omega)) (by kernel_rfl) ?_
  refine st_round (by kernel_rfl) ?_
  refine st_fn ent64 (zulen5) sub0 (by kernel_rfl) ?_
  refine st_g ent109 (fzint (3600000000000) (by assumption)) sub0 (by kernel_rfl) (fun zq8 => ?_)
  refine st_g ent122 (d1 (zq4.snd) (zq8)) (subC 3 rfl (subC 0 rfl sub0)) (by kernel_rfl) (fun zq9 => ?_)
  refine st_b 34 (show (p.n) = true by assumption) (by kernel_rfl) ?_
  refine st_g ent128 (n1 (zq9.fst)) (subC 0 rfl sub0) (by kernel_rfl) (fun zq10 => ?_)
  refine st_fn ent111 (f1 (zq10)) (subC 0 rfl sub0) (by kernel_rfl) ?_
  refine st_i 46 .i64 (x' := 4 + 1 - 1) (Go.IntWalk.i64_in _ (by omega)) (by kernel_rfl) ?_
  refine st_i 24 .i64 (x' := 4 + 1 + 1) (Go.IntWalk.i64_in _ (by omega)) (by kernel_rfl) ?_
  refine st_round (by kernel_rfl) ?_
  refine st_fn ent64 (zulen6) sub0 (by kernel_rfl) ?_
  refine st_g ent109 (fzint (60000000000) (by assumption)) sub0 (by kernel_rfl) (fun zq13 => ?_)
  refine st_g ent122 (d2 (zq9.snd) (zq13)) (subC 3 rfl (subC 0 rfl sub0)) (by kernel_rfl) (fun zq14 => ?_)
  refine st_b 34 (show (p.n) = true by assumption) (by kernel_rfl) ?_
  refine st_g ent128 (n2 (zq14.fst)) (subC 0 rfl sub0) (by kernel_rfl) (fun zq15 => ?_)
  refine st_fn ent111 (f2 (zq15)) (subC 0 rfl sub0) (by kernel_rfl) ?_
  refine st_i 46 .i64 (x' := 4 + 1 + 1 - 1) (Go.IntWalk.i64_in _ (by omega)) (by kernel_rfl) ?_
  refine st_i 24 .i64 (x' := 4 + 1 + 1 + 1) (Go.IntWalk.i64_in _ (by omega)) (by kernel_rfl) ?_
  refine st_round (by kernel_rfl) ?_
  refine st_fn ent64 (zulen7) sub0 (by kernel_rfl) ?_
  refine st_g ent109 (fzint (1000000000) (by assumption)) sub0 (by kernel_rfl) (fun zq18 => ?_)
  refine st_g ent122 (d3 (zq14.snd) (zq18)) (subC 3 rfl (subC 0 rfl sub0)) (by kernel_rfl) (fun zq19 => ?_)
  refine st_b 34 (show (p.n) = true by assumption) (by kernel_rfl) ?_
  refine st_g ent128 (n3 (zq19.fst)) (subC 0 rfl sub0) (by kernel_rfl) (fun zq20 => ?_)
  refine st_fn ent111 (f3 (zq20)) (subC 0 rfl sub0) (by kernel_rfl) ?_
  refine st_i 46 .i64 (x' := 4 + 1 + 1 + 1 - 1) (Go.IntWalk.i64_in _ (by omega)) (by kernel_rfl) ?_
  refine st_i 24 .i64 (x' := 4 + 1 + 1 + 1 + 1) (Go.IntWalk.i64_in _ (by omega)) (by kernel_rfl) ?_
  refine st_round (by kernel_rfl) ?_
  refine st_fn ent64 (zulen8) sub0 (by kernel_rfl) ?_
  refine st_g ent109 (fzint (1) (by assumption)) sub0 (by kernel_rfl) (fun zq23 => ?_)
  refine st_g ent122 (d4 (zq19.snd) (zq23)) (subC 3 rfl (subC 0 rfl sub0)) (by kernel_rfl) (fun zq24 => ?_)
  refine st_b 34 (show (p.n) = true by assumption) (by kernel_rfl) ?_
  refine st_g ent128 (n4 (zq24.fst)) (subC 0 rfl sub0) (by kernel_rfl) (fun zq25 => ?_)
  refine st_fn ent111 (f4 (zq25)) (subC 0 rfl sub0) (by kernel_rfl) ?_
  refine st_i 46 .i64 (x' := 4 + 1 + 1 + 1 + 1 - 1) (Go.IntWalk.i64_in _ (by omega)) (by kernel_rfl) ?_
  refine st_i 24 .i64 (x' := 4 + 1 + 1 + 1 + 1 + 1) (Go.IntWalk.i64_in _ (by omega)) (by kernel_rfl) ?_
  refine st_round (by kernel_rfl) ?_
  refine st_fn ent137 (zumade (0) (0) (0) (x.tdiv 86400000000000) ((x.tmod 86400000000000).tdiv 3600000000000) ((x.tmod 3600000000000).tdiv 60000000000) ((x.tmod 60000000000).tdiv 1000000000) (x.tmod 1000000000)) sub0 (by kernel_rfl) ?_
  refine st_fn ent67 (r) sub0 (by kernel_rfl) ?_
  exact st_ret Try.func53 (by kernel_rfl)
theorem zulay4n_o (p : ZQ) (x : Int) (hx : W128 x) (h0 : x < 0) (g : ¬ I64 (x.tdiv 86400000000000)) : Fn 53 [(p, x)] [zv p, .int .i64 4] (.tuple #[du0, .int .i64 4]) := by
  have hy : Bits 900 (-x) := (hx.bits.neg).mono (by decide)
  have y0 : 0 ≤ (-x) := by omega
  have bL4 : Bits 900 86400000000000 := Bits.mono (show W128 86400000000000 by unfold W128; omega).bits (by decide)
  have bL5 : Bits 900 3600000000000 := Bits.mono (show W128 3600000000000 by unfold W128; omega).bits (by decide)
  have bL6 : Bits 900 60000000000 := Bits.mono (show W128 60000000000 by unfold W128; omega).bits (by decide)
  have bL7 : Bits 900 1000000000 := Bits.mono (show W128 1000000000 by unfold W128; omega).bits (by decide)
  have bL8 : Bits 900 1 := Bits.mono (show W128 1 by unfold W128; omega).bits (by decide)
  have j1 : I64 86400000000000 := by unfold I64; omega
  have j2 : I64 3600000000000 := by unfold I64; omega
  have j3 : I64 60000000000 := by unfold I64; omega
  have j4 : I64 1000000000 := by unfold I64; omega
  have j5 : I64 1 := by unfold I64; omega
  have j0 : I64 0 := by unfold I64; omega
  have fa : ∀ p : ZQ, FnZ 136 [(p, x)] [zv p] zv (-x) := fun p => by
    have t := fzabs p x (hx.bits.fit (by decide))
    rwa [show ((x.natAbs : Nat) : Int) = -x by omega] at t
  have d0 : ∀ p q : ZQ, FnZZ 122 [(p, (-x)), (q, 86400000000000)] [zv p, zv q] (fun q => .tuple #[zv q.1, zv q.2]) ((-x).tdiv 86400000000000) ((-x).tmod 86400000000000) := fun p q => zdt p q (-x) 86400000000000 y0 hy (by omega) bL4
  have g5 : I64 ((x.tmod 86400000000000).tdiv 3600000000000) := by have := td2 x 86400000000000 3600000000000 24 (by decide) (by omega) (by omega); unfold I64; omega
  have g6 : I64 ((x.tmod 3600000000000).tdiv 60000000000) := by have := td2 x 3600000000000 60000000000 60 (by decide) (by omega) (by omega); unfold I64; omega
  have g7 : I64 ((x.tmod 60000000000).tdiv 1000000000) := by have := td2 x 60000000000 1000000000 60 (by decide) (by omega) (by omega); unfold I64; omega
  have g8 : I64 (x.tmod 1000000000) := by
    obtain ⟨e1, e2, e3⟩ := td x 1000000000 (by omega)
    by_cases z : 0 ≤ x
    · have := e2 z; unfold I64; omega
    · have := e3 (by omega); unfold I64; omega
  have n0 : ∀ p : ZQ, FnZ 128 [(p, (-x).tdiv 86400000000000)] [zv p] zv (x.tdiv 86400000000000) := fun p => by
    have t := zng p ((-x).tdiv 86400000000000) (tdvb (-x) 86400000000000 y0 hy (by omega))
    rwa [show -((-x).tdiv 86400000000000) = (x.tdiv 86400000000000) by rw [Int.neg_tdiv, Int.neg_neg]] at t
  have f0 : ∀ p : ZQ, Fn 111 [(p, (x.tdiv 86400000000000))] [zv p] (.tuple #[.int .i64 0, .bool false]) := fun p => by
    have t := fits_n p (x.tdiv 86400000000000) (by rw [show (x.tdiv 86400000000000) = -((-x).tdiv 86400000000000) by rw [Int.neg_tdiv, Int.neg_neg]]; exact ((tdvb (-x) 86400000000000 y0 hy (by omega)).neg).mono (by decide)) g
    exact t
  refine fn_of Try.func53 rfl fun ww => ?_
  refine st_know (p := p.n = true) (fun w hw => by rw [z_neg (hw (p, x) (by simp))]; simp; omega) fun hn => ?_
  clear hy y0 g hx
  refine st_fn ent64 (zulen4) sub0 (by kernel_rfl) ?_
  refine st_g ent136 (fa (p)) (subC 0 rfl sub0) (by kernel_rfl) (fun zq1 => ?_)
  refine st_round (by kernel_rfl) ?_
  refine st_fn ent64 (zulen4) sub0 (by kernel_rfl) ?_
  refine st_g ent109 (fzint (86400000000000) (by assumption)) sub0 (by kernel_rfl) (fun zq3 => ?_)
  refine st_g ent122 (d0 (zq1) (zq3)) (subC 1 rfl (subC 0 rfl sub0)) (by kernel_rfl) (fun zq4 => ?_)
  refine st_b 34 (show (p.n) = true by assumption) (by kernel_rfl) ?_
  refine st_g ent128 (n0 (zq4.fst)) (subC 0 rfl sub0) (by kernel_rfl) (fun zq5 => ?_)
  refine st_fn ent111 (f0 (zq5)) (subC 0 rfl sub0) (by kernel_rfl) ?_
  exact st_ret Try.func53 (by kernel_rfl)
theorem zulay5p_y (p : ZQ) (x : Int) (hx : W128 x) (h0 : 0 ≤ x) (g : I64 (x.tdiv 3600000000000)) (k : uOk 0 0 0 0 (x.tdiv 3600000000000) ((x.tmod 3600000000000).tdiv 60000000000) ((x.tmod 60000000000).tdiv 1000000000) (x.tmod 1000000000)) : Fn 53 [(p, x)] [zv p, .int .i64 5] (.tuple #[duv 0 0 0 0 (x.tdiv 3600000000000) ((x.tmod 3600000000000).tdiv 60000000000) ((x.tmod 60000000000).tdiv 1000000000) (x.tmod 1000000000), .int .i64 0]) := by
  have hy : Bits 900 x := hx.bits.mono (by decide)
  have y0 : 0 ≤ x := by omega
  have bL4 : Bits 900 86400000000000 := Bits.mono (show W128 86400000000000 by unfold W128; omega).bits (by decide)
  have bL5 : Bits 900 3600000000000 := Bits.mono (show W128 3600000000000 by unfold W128; omega).bits (by decide)
  have bL6 : Bits 900 60000000000 := Bits.mono (show W128 60000000000 by unfold W128; omega).bits (by decide)
  have bL7 : Bits 900 1000000000 := Bits.mono (show W128 1000000000 by unfold W128; omega).bits (by decide)
  have bL8 : Bits 900 1 := Bits.mono (show W128 1 by unfold W128; omega).bits (by decide)
  have j1 : I64 86400000000000 := by unfold I64; omega
  have j2 : I64 3600000000000 := by unfold I64; omega
  have j3 : I64 60000000000 := by unfold I64; omega
  have j4 : I64 1000000000 := by unfold I64; omega
  have j5 : I64 1 := by unfold I64; omega
  have j0 : I64 0 := by unfold I64; omega
  have fa : ∀ p : ZQ, FnZ 136 [(p, x)] [zv p] zv x := fun p => by
    have t := fzabs p x (hx.bits.fit (by decide))
    rwa [show ((x.natAbs : Nat) : Int) = x by omega] at t
  have d0 : ∀ p q : ZQ, FnZZ 122 [(p, x), (q, 3600000000000)] [zv p, zv q] (fun q => .tuple #[zv q.1, zv q.2]) (x.tdiv 3600000000000) (x.tmod 3600000000000) := fun p q => zdt p q x 3600000000000 y0 hy (by omega) bL5
  have d1 : ∀ p q : ZQ, FnZZ 122 [(p, x.tmod 3600000000000), (q, 60000000000)] [zv p, zv q] (fun q => .tuple #[zv q.1, zv q.2]) ((x.tmod 3600000000000).tdiv 60000000000) (x.tmod 60000000000) := fun p q => zdc p q x 3600000000000 60000000000 y0 (by omega) bL5 (by omega) bL6 (by decide)
  have d2 : ∀ p q : ZQ, FnZZ 122 [(p, x.tmod 60000000000), (q, 1000000000)] [zv p, zv q] (fun q => .tuple #[zv q.1, zv q.2]) ((x.tmod 60000000000).tdiv 1000000000) (x.tmod 1000000000) := fun p q => zdc p q x 60000000000 1000000000 y0 (by omega) bL6 (by omega) bL7 (by decide)
  have d3 : ∀ p q : ZQ, FnZZ 122 [(p, x.tmod 1000000000), (q, 1)] [zv p, zv q] (fun q => .tuple #[zv q.1, zv q.2]) ((x.tmod 1000000000).tdiv 1) (x.tmod 1) := fun p q => zdc p q x 1000000000 1 y0 (by omega) bL7 (by omega) bL8 (by decide)
  have g6 : I64 ((x.tmod 3600000000000).tdiv 60000000000) := by have := td2 x 3600000000000 60000000000 60 (by decide) (by omega) (by omega); unfold I64; omega
  have g7 : I64 ((x.tmod 60000000000).tdiv 1000000000) := by have := td2 x 60000000000 1000000000 60 (by decide) (by omega) (by omega); unfold I64; omega
  have g8 : I64 (x.tmod 1000000000) := by
    obtain ⟨e1, e2, e3⟩ := td x 1000000000 (by omega)
    by_cases z : 0 ≤ x
    · have := e2 z; unfold I64; omega
    · have := e3 (by omega); unfold I64; omega
  have f0 : ∀ p : ZQ, Fn 111 [(p, x.tdiv 3600000000000)] [zv p] (.tuple #[.int .i64 (x.tdiv 3600000000000), .bool true]) := fun p => by
    have t := fits_f p (x.tdiv 3600000000000) (g.w.bits.mono (by decide)) g
    exact t
  have f1 : ∀ p : ZQ, Fn 111 [(p, (x.tmod 3600000000000).tdiv 60000000000)] [zv p] (.tuple #[.int .i64 ((x.tmod 3600000000000).tdiv 60000000000), .bool true]) := fun p => by
    have t := fits_f p ((x.tmod 3600000000000).tdiv 60000000000) (g6.w.bits.mono (by decide)) g6
    exact t
  have f2 : ∀ p : ZQ, Fn 111 [(p, (x.tmod 60000000000).tdiv 1000000000)] [zv p] (.tuple #[.int .i64 ((x.tmod 60000000000).tdiv 1000000000), .bool true]) := fun p => by
    have t := fits_f p ((x.tmod 60000000000).tdiv 1000000000) (g7.w.bits.mono (by decide)) g7
    exact t
  have f3 : ∀ p : ZQ, Fn 111 [(p, (x.tmod 1000000000).tdiv 1)] [zv p] (.tuple #[.int .i64 (x.tmod 1000000000), .bool true]) := fun p => by
    have t := fits_f p (x.tmod 1000000000) (g8.w.bits.mono (by decide)) g8
    simpa only [tdiv_1] using t
  have r := zuright_y 0 0 0 0 (x.tdiv 3600000000000) ((x.tmod 3600000000000).tdiv 60000000000) ((x.tmod 60000000000).tdiv 1000000000) (x.tmod 1000000000) ⟨j0, j0, j0, j0, g, g6, g7, g8⟩ k
  refine fn_of Try.func53 rfl fun ww => ?_
  refine st_know (p := p.n = false) (fun w hw => by rw [z_neg (hw (p, x) (by simp))]; simp; omega) fun hn => ?_
  clear hy y0 g hx k
  refine st_fn ent64 (zulen5) sub0 (by kernel_rfl) ?_
  refine st_g ent136 (fa (p)) (subC 0 rfl sub0) (by kernel_rfl) (fun zq1 => ?_)
  refine st_round (by kernel_rfl) ?_
  refine st_fn ent64 (zulen5) sub0 (by kernel_rfl) ?_
  refine st_g ent109 (fzint (3600000000000) (by assumption)) sub0 (by kernel_rfl) (fun zq3 => ?_)
  refine st_g ent122 (d0 (zq1) (zq3)) (subC 1 rfl (subC 0 rfl sub0)) (by kernel_rfl) (fun zq4 => ?_)
  refine st_b 34 (show (p.n) = false by assumption) (by kernel_rfl) ?_
  refine st_fn ent111 (f0 (zq4.fst)) (subC 0 rfl sub0) (by kernel_rfl) ?_
  refine st_i 46 .i64 (x' := 5 - 1) (Go.IntWalk.i64_in _ (by omega)) (by kernel_rfl) ?_
  refine st_i 24 .i64 (x' := 5 + 1) (Go.IntWalk.i64_in _ (by omega)) (by kernel_rfl) ?_
  refine st_round (by kernel_rfl) ?_
  refine st_fn ent64 (zulen6) sub0 (by kernel_rfl) ?_
  refine st_g ent109 (fzint (60000000000) (by assumption)) sub0 (by kernel_rfl) (fun zq7 => ?_)
  refine st_g ent122 (d1 (zq4.snd) (zq7)) (subC 2 rfl (subC 0 rfl sub0)) (by kernel_rfl) (fun zq8 => ?_)
  refine st_b 34 (show (p.n) = false by assumption) (by kernel_rfl) ?_
  refine st_fn ent111 (f1 (zq8.fst)) (subC 0 rfl sub0) (by kernel_rfl) ?_
  refine st_i 46 .i64 (x' := 5 + 1 - 1) (Go.IntWalk.i64_in _ (by omega)) (by kernel_rfl) ?_
  refine st_i 24 .i64 (x' := 5 + 1 + 1) (Go.IntWalk.i64_in _ (by omega)) (by kernel_rfl) ?_
  refine st_round (by kernel_rfl) ?_
  refine st_fn ent64 (zulen7) sub0 (by kernel_rfl) ?_
  refine st_g ent109 (fzint (1000000000) (by assumption)) sub0 (by kernel_rfl) (fun zq11 => ?_)
  refine st_g ent122 (d2 (zq8.snd) (zq11)) (subC 2 rfl (subC 0 rfl sub0)) (by kernel_rfl) (fun zq12 => ?_)
  refine st_b 34 (show (p.n) = false by assumption) (by kernel_rfl) ?_
  refine st_fn ent111 (f2 (zq12.fst)) (subC 0 rfl sub0) (by kernel_rfl) ?_
  refine st_i 46 .i64 (x' := 5 + 1 + 1 - 1) (Go.IntWalk.i64_in _ (by omega)) (by kernel_rfl) ?_
  refine st_i 24 .i64 (x' := 5 + 1 + 1 + 1) (Go.IntWalk.i64_in _ (by omega)) (by kernel_rfl) ?_
  refine st_round (by kernel_rfl) ?_
  refine st_fn ent64 (zulen8) sub0 (by kernel_rfl) ?_
  refine st_g ent109 (fzint (1) (by assumption)) sub0 (by kernel_rfl) (fun zq15 => ?_)
  refine st_g ent122 (d3 (zq12.snd) (zq15)) (subC 2 rfl (subC 0 rfl sub0)) (by kernel_rfl) (fun zq16 => ?_)
  refine st_b 34 (show (p.n) = false by assumption) (by kernel_rfl) ?_
  refine st_fn ent111 (f3 (zq16.fst)) (subC 0 rfl sub0) (by kernel_rfl) ?_
  refine st_i 46 .i64 (x' := 5 + 1 + 1 + 1 - 1) (Go.IntWalk.i64_in _ (by omega)) (by kernel_rfl) ?_
  refine st_i 24 .i64 (x' := 5 + 1 + 1 + 1 + 1) (Go.IntWalk.i64_in _ (by omega)) (by kernel_rfl) ?_
  refine st_round (by kernel_rfl) ?_
  refine st_fn ent137 (zumade (0) (0) (0) (0) (x.tdiv 3600000000000) ((x.tmod 3600000000000).tdiv 60000000000) ((x.tmod 60000000000).tdiv 1000000000) (x.tmod 1000000000)) sub0 (by kernel_rfl) ?_
  refine st_fn ent67 (r) sub0 (by kernel_rfl) ?_
  exact st_ret Try.func53 (by kernel_rfl)
theorem zulay5p_r (p : ZQ) (x : Int) (hx : W128 x) (h0 : 0 ≤ x) (g : I64 (x.tdiv 3600000000000)) (k : ¬ uOk 0 0 0 0 (x.tdiv 3600000000000) ((x.tmod 3600000000000).tdiv 60000000000) ((x.tmod 60000000000).tdiv 1000000000) (x.tmod 1000000000)) : Fn 53 [(p, x)] [zv p, .int .i64 5] (.tuple #[du0, .int .i64 4]) := by
  have hy : Bits 900 x := hx.bits.mono (by decide)
  have y0 : 0 ≤ x := by omega
  have bL4 : Bits 900 86400000000000 := Bits.mono (show W128 86400000000000 by unfold W128; omega).bits (by decide)
  have bL5 : Bits 900 3600000000000 := Bits.mono (show W128 3600000000000 by unfold W128; omega).bits (by decide)
  have bL6 : Bits 900 60000000000 := Bits.mono (show W128 60000000000 by unfold W128; omega).bits (by decide)
  have bL7 : Bits 900 1000000000 := Bits.mono (show W128 1000000000 by unfold W128; omega).bits (by decide)
  have bL8 : Bits 900 1 := Bits.mono (show W128 1 by unfold W128; omega).bits (by decide)
  have j1 : I64 86400000000000 := by unfold I64; omega
  have j2 : I64 3600000000000 := by unfold I64; omega
  have j3 : I64 60000000000 := by unfold I64; omega
  have j4 : I64 1000000000 := by unfold I64; omega
  have j5 : I64 1 := by unfold I64; omega
  have j0 : I64 0 := by unfold I64; omega
  have fa : ∀ p : ZQ, FnZ 136 [(p, x)] [zv p] zv x := fun p => by
    have t := fzabs p x (hx.bits.fit (by decide))
    rwa [show ((x.natAbs : Nat) : Int) = x by omega] at t
  have d0 : ∀ p q : ZQ, FnZZ 122 [(p, x), (q, 3600000000000)] [zv p, zv q] (fun q => .tuple #[zv q.1, zv q.2]) (x.tdiv 3600000000000) (x.tmod 3600000000000) := fun p q => zdt p q x 3600000000000 y0 hy (by omega) bL5
  have d1 : ∀ p q : ZQ, FnZZ 122 [(p, x.tmod 3600000000000), (q, 60000000000)] [zv p, zv q] (fun q => .tuple #[zv q.1, zv q.2]) ((x.tmod 3600000000000).tdiv 60000000000) (x.tmod 60000000000) := fun p q => zdc p q x 3600000000000 60000000000 y0 (by omega) bL5 (by omega) bL6 (by decide)
  have d2 : ∀ p q : ZQ, FnZZ 122 [(p, x.tmod 60000000000), (q, 1000000000)] [zv p, zv q] (fun q => .tuple #[zv q.1, zv q.2]) ((x.tmod 60000000000).tdiv 1000000000) (x.tmod 1000000000) := fun p q => zdc p q x 60000000000 1000000000 y0 (by omega) bL6 (by omega) bL7 (by decide)
  have d3 : ∀ p q : ZQ, FnZZ 122 [(p, x.tmod 1000000000), (q, 1)] [zv p, zv q] (fun q => .tuple #[zv q.1, zv q.2]) ((x.tmod 1000000000).tdiv 1) (x.tmod 1) := fun p q => zdc p q x 1000000000 1 y0 (by omega) bL7 (by omega) bL8 (by decide)
  have g6 : I64 ((x.tmod 3600000000000).tdiv 60000000000) := by have := td2 x 3600000000000 60000000000 60 (by decide) (by omega) (by omega); unfold I64; omega
  have g7 : I64 ((x.tmod 60000000000).tdiv 1000000000) := by have := td2 x 60000000000 1000000000 60 (by decide) (by omega) (by omega); unfold I64; omega
  have g8 : I64 (x.tmod 1000000000) := by
    obtain ⟨e1, e2, e3⟩ := td x 1000000000 (by omega)
    by_cases z : 0 ≤ x
    · have := e2 z; unfold I64; omega
    · have := e3 (by omega); unfold I64; omega
  have f0 : ∀ p : ZQ, Fn 111 [(p, x.tdiv 3600000000000)] [zv p] (.tuple #[.int .i64 (x.tdiv 3600000000000), .bool true]) := fun p => by
    have t := fits_f p (x.tdiv 3600000000000) (g.w.bits.mono (by decide)) g
    exact t
  have f1 : ∀ p : ZQ, Fn 111 [(p, (x.tmod 3600000000000).tdiv 60000000000)] [zv p] (.tuple #[.int .i64 ((x.tmod 3600000000000).tdiv 60000000000), .bool true]) := fun p => by
    have t := fits_f p ((x.tmod 3600000000000).tdiv 60000000000) (g6.w.bits.mono (by decide)) g6
    exact t
  have f2 : ∀ p : ZQ, Fn 111 [(p, (x.tmod 60000000000).tdiv 1000000000)] [zv p] (.tuple #[.int .i64 ((x.tmod 60000000000).tdiv 1000000000), .bool true]) := fun p => by
    have t := fits_f p ((x.tmod 60000000000).tdiv 1000000000) (g7.w.bits.mono (by decide)) g7
    exact t
  have f3 : ∀ p : ZQ, Fn 111 [(p, (x.tmod 1000000000).tdiv 1)] [zv p] (.tuple #[.int .i64 (x.tmod 1000000000), .bool true]) := fun p => by
    have t := fits_f p (x.tmod 1000000000) (g8.w.bits.mono (by decide)) g8
    simpa only [tdiv_1] using t
  have r := zuright_f 0 0 0 0 (x.tdiv 3600000000000) ((x.tmod 3600000000000).tdiv 60000000000) ((x.tmod 60000000000).tdiv 1000000000) (x.tmod 1000000000) ⟨j0, j0, j0, j0, g, g6, g7, g8⟩ k
  refine fn_of Try.func53 rfl fun ww => ?_
  refine st_know (p := p.n = false) (fun w hw => by rw [z_neg (hw (p, x) (by simp))]; simp; omega) fun hn => ?_
  clear hy y0 g hx k
  refine st_fn ent64 (zulen5) sub0 (by kernel_rfl) ?_
  refine st_g ent136 (fa (p)) (subC 0 rfl sub0) (by kernel_rfl) (fun zq1 => ?_)
  refine st_round (by kernel_rfl) ?_
  refine st_fn ent64 (zulen5) sub0 (by kernel_rfl) ?_
  refine st_g ent109 (fzint (3600000000000) (by assumption)) sub0 (by kernel_rfl) (fun zq3 => ?_)
  refine st_g ent122 (d0 (zq1) (zq3)) (subC 1 rfl (subC 0 rfl sub0)) (by kernel_rfl) (fun zq4 => ?_)
  refine st_b 34 (show (p.n) = false by assumption) (by kernel_rfl) ?_
  refine st_fn ent111 (f0 (zq4.fst)) (subC 0 rfl sub0) (by kernel_rfl) ?_
  refine st_i 46 .i64 (x' := 5 - 1) (Go.IntWalk.i64_in _ (by omega)) (by kernel_rfl) ?_
  refine st_i 24 .i64 (x' := 5 + 1) (Go.IntWalk.i64_in _ (by omega)) (by kernel_rfl) ?_
  refine st_round (by kernel_rfl) ?_
  refine st_fn ent64 (zulen6) sub0 (by kernel_rfl) ?_
  refine st_g ent109 (fzint (60000000000) (by assumption)) sub0 (by kernel_rfl) (fun zq7 => ?_)
  refine st_g ent122 (d1 (zq4.snd) (zq7)) (subC 2 rfl (subC 0 rfl sub0)) (by kernel_rfl) (fun zq8 => ?_)
  refine st_b 34 (show (p.n) = false by assumption) (by kernel_rfl) ?_
  refine st_fn ent111 (f1 (zq8.fst)) (subC 0 rfl sub0) (by kernel_rfl) ?_
  refine st_i 46 .i64 (x' := 5 + 1 - 1) (Go.IntWalk.i64_in _ (by omega)) (by kernel_rfl) ?_
  refine st_i 24 .i64 (x' := 5 + 1 + 1) (Go.IntWalk.i64_in _ (by omega)) (by kernel_rfl) ?_
  refine st_round (by kernel_rfl) ?_
  refine st_fn ent64 (zulen7) sub0 (by kernel_rfl) ?_
  refine st_g ent109 (fzint (1000000000) (by assumption)) sub0 (by kernel_rfl) (fun zq11 => ?_)
  refine st_g ent122 (d2 (zq8.snd) (zq11)) (subC 2 rfl (subC 0 rfl sub0)) (by kernel_rfl) (fun zq12 => ?_)
  refine st_b 34 (show (p.n) = false by assumption) (by kernel_rfl) ?_
  refine st_fn ent111 (f2 (zq12.fst)) (subC 0 rfl sub0) (by kernel_rfl) ?_
  refine st_i 46 .i64 (x' := 5 + 1 + 1 - 1) (Go.IntWalk.i64_in _ (by omega)) (by kernel_rfl) ?_
  refine st_i 24 .i64 (x' := 5 + 1 + 1 + 1) (Go.IntWalk.i64_in _ (by omega)) (by kernel_rfl) ?_
  refine st_round (by kernel_rfl) ?_
  refine st_fn ent64 (zulen8) sub0 (by kernel_rfl) ?_
  refine st_g ent109 (fzint (1) (by assumption)) sub0 (by kernel_rfl) (fun zq15 => ?_)
  refine st_g ent122 (d3 (zq12.snd) (zq15)) (subC 2 rfl (subC 0 rfl sub0)) (by kernel_rfl) (fun zq16 => ?_)
  refine st_b 34 (show (p.n) = false by assumption) (by kernel_rfl) ?_
  refine st_fn ent111 (f3 (zq16.fst)) (subC 0 rfl sub0) (by kernel_rfl) ?_
  refine st_i 46 .i64 (x' := 5 + 1 + 1 + 1 - 1) (Go.IntWalk.i64_in _ (by omega)) (by kernel_rfl) ?_
  refine st_i 24 .i64 (x' := 5 + 1 + 1 + 1 + 1) (Go.IntWalk.i64_in _ (by omega)) (by kernel_rfl) ?_
  refine st_round (by kernel_rfl) ?_
  refine st_fn ent137 (zumade (0) (0) (0) (0) (x.tdiv 3600000000000) ((x.tmod 3600000000000).tdiv 60000000000) ((x.tmod 60000000000).tdiv 1000000000) (x.tmod 1000000000)) sub0 (by kernel_rfl) ?_
  refine st_fn ent67 (r) sub0 (by kernel_rfl) ?_
  exact st_ret Try.func53 (by kernel_rfl)
theorem zulay5p_o (p : ZQ) (x : Int) (hx : W128 x) (h0 : 0 ≤ x) (g : ¬ I64 (x.tdiv 3600000000000)) : Fn 53 [(p, x)] [zv p, .int .i64 5] (.tuple #[du0, .int .i64 4]) := by
  have hy : Bits 900 x := hx.bits.mono (by decide)
  have y0 : 0 ≤ x := by omega
  have bL4 : Bits 900 86400000000000 := Bits.mono (show W128 86400000000000 by unfold W128; omega).bits (by decide)
  have bL5 : Bits 900 3600000000000 := Bits.mono (show W128 3600000000000 by unfold W128; omega).bits (by decide)
  have bL6 : Bits 900 60000000000 := Bits.mono (show W128 60000000000 by unfold W128; omega).bits (by decide)
  have bL7 : Bits 900 1000000000 := Bits.mono (show W128 1000000000 by unfold W128; omega).bits (by decide)
  have bL8 : Bits 900 1 := Bits.mono (show W128 1 by unfold W128; omega).bits (by decide)
  have j1 : I64 86400000000000 := by unfold I64; omega
  have j2 : I64 3600000000000 := by unfold I64; omega
  have j3 : I64 60000000000 := by unfold I64; omega
  have j4 : I64 1000000000 := by unfold I64; omega
  have j5 : I64 1 := by unfold I64; omega
  have j0 : I64 0 := by unfold I64; omega
  have fa : ∀ p : ZQ, FnZ 136 [(p, x)] [zv p] zv x := fun p => by
    have t := fzabs p x (hx.bits.fit (by decide))
    rwa [show ((x.natAbs : Nat) : Int) = x by omega] at t
  have d0 : ∀ p q : ZQ, FnZZ 122 [(p, x), (q, 3600000000000)] [zv p, zv q] (fun q => .tuple #[zv q.1, zv q.2]) (x.tdiv 3600000000000) (x.tmod 3600000000000) := fun p q => zdt p q x 3600000000000 y0 hy (by omega) bL5
  have g6 : I64 ((x.tmod 3600000000000).tdiv 60000000000) := by have := td2 x 3600000000000 60000000000 60 (by decide) (by omega) (by omega); unfold I64; omega
  have g7 : I64 ((x.tmod 60000000000).tdiv 1000000000) := by have := td2 x 60000000000 1000000000 60 (by decide) (by omega) (by omega); unfold I64; omega
  have g8 : I64 (x.tmod 1000000000) := by
    obtain ⟨e1, e2, e3⟩ := td x 1000000000 (by omega)
    by_cases z : 0 ≤ x
    · have := e2 z; unfold I64; omega
    · have := e3 (by omega); unfold I64; omega
  have f0 : ∀ p : ZQ, Fn 111 [(p, x.tdiv 3600000000000)] [zv p] (.tuple #[.int .i64 0, .bool false]) := fun p => by
    have t := fits_n p (x.tdiv 3600000000000) ((tdvb x 3600000000000 y0 hy (by omega)).mono (by decide)) g
    exact t
  refine fn_of Try.func53 rfl fun ww => ?_
  refine st_know (p := p.n = false) (fun w hw => by rw [z_neg (hw (p, x) (by simp))]; simp; omega) fun hn => ?_
  clear hy y0 g hx
  refine st_fn ent64 (zulen5) sub0 (by kernel_rfl) ?_
  refine st_g ent136 (fa (p)) (subC 0 rfl sub0) (by kernel_rfl) (fun zq1 => ?_)
  refine st_round (by kernel_rfl) ?_
  refine st_fn ent64 (zulen5) sub0 (by kernel_rfl) ?_
  refine st_g ent109 (fzint (3600000000000) (by assumption)) sub0 (by kernel_rfl) (fun zq3 => ?_)
  refine st_g ent122 (d0 (zq1) (zq3)) (subC 1 rfl (subC 0 rfl sub0)) (by kernel_rfl) (fun zq4 => ?_)
  refine st_b 34 (show (p.n) = false by assumption) (by kernel_rfl) ?_
  refine st_fn ent111 (f0 (zq4.fst)) (subC 0 rfl sub0) (by kernel_rfl) ?_
  exact st_ret Try.func53 (by kernel_rfl)
theorem zulay5n_y (p : ZQ) (x : Int) (hx : W128 x) (h0 : x < 0) (g : I64 (x.tdiv 3600000000000)) (k : uOk 0 0 0 0 (x.tdiv 3600000000000) ((x.tmod 3600000000000).tdiv 60000000000) ((x.tmod 60000000000).tdiv 1000000000) (x.tmod 1000000000)) : Fn 53 [(p, x)] [zv p, .int .i64 5] (.tuple #[duv 0 0 0 0 (x.tdiv 3600000000000) ((x.tmod 3600000000000).tdiv 60000000000) ((x.tmod 60000000000).tdiv 1000000000) (x.tmod 1000000000), .int .i64 0]) := by
  have hy : Bits 900 (-x) := (hx.bits.neg).mono (by decide)
  have y0 : 0 ≤ (-x) := by omega
  have bL4 : Bits 900 86400000000000 := Bits.mono (show W128 86400000000000 by unfold W128; omega).bits (by decide)
  have bL5 : Bits 900 3600000000000 := Bits.mono (show W128 3600000000000 by unfold W128; omega).bits (by decide)
  have bL6 : Bits 900 60000000000 := Bits.mono (show W128 60000000000 by unfold W128; omega).bits (by decide)
  have bL7 : Bits 900 1000000000 := Bits.mono (show W128 1000000000 by unfold W128; omega).bits (by decide)
  have bL8 : Bits 900 1 := Bits.mono (show W128 1 by unfold W128; omega).bits (by decide)
  have j1 : I64 86400000000000 := by unfold I64; omega
  have j2 : I64 3600000000000 := by unfold I64; omega
  have j3 : I64 60000000000 := by unfold I64; omega
  have j4 : I64 1000000000 := by unfold I64; omega
  have j5 : I64 1 := by unfold I64; omega
  have j0 : I64 0 := by unfold I64; omega
  have fa : ∀ p : ZQ, FnZ 136 [(p, x)] [zv p] zv (-x) := fun p => by
    have t := fzabs p x (hx.bits.fit (by decide))
    rwa [show ((x.natAbs : Nat) : Int) = -x by omega] at t
  have d0 : ∀ p q : ZQ, FnZZ 122 [(p, (-x)), (q, 3600000000000)] [zv p, zv q] (fun q => .tuple #[zv q.1, zv q.2]) ((-x).tdiv 3600000000000) ((-x).tmod 3600000000000) := fun p q => zdt p q (-x) 3600000000000 y0 hy (by omega) bL5
  have d1 : ∀ p q : ZQ, FnZZ 122 [(p, (-x).tmod 3600000000000), (q, 60000000000)] [zv p, zv q] (fun q => .tuple #[zv q.1, zv q.2]) (((-x).tmod 3600000000000).tdiv 60000000000) ((-x).tmod 60000000000) := fun p q => zdc p q (-x) 3600000000000 60000000000 y0 (by omega) bL5 (by omega) bL6 (by decide)
  have d2 : ∀ p q : ZQ, FnZZ 122 [(p, (-x).tmod 60000000000), (q, 1000000000)] [zv p, zv q] (fun q => .tuple #[zv q.1, zv q.2]) (((-x).tmod 60000000000).tdiv 1000000000) ((-x).tmod 1000000000) := fun p q => zdc p q (-x) 60000000000 1000000000 y0 (by omega) bL6 (by omega) bL7 (by decide)
  have d3 : ∀ p q : ZQ, FnZZ 122 [(p, (-x).tmod 1000000000), (q, 1)] [zv p, zv q] (fun q => .tuple #[zv q.1, zv q.2]) (((-x).tmod 1000000000).tdiv 1) ((-x).tmod 1) := fun p q => zdc p q (-x) 1000000000 1 y0 (by omega) bL7 (by omega) bL8 (by decide)
  have g6 : I64 ((x.tmod 3600000000000).tdiv 60000000000) := by have := td2 x 3600000000000 60000000000 60 (by decide) (by omega) (by omega); unfold I64; omega
  have g7 : I64 ((x.tmod 60000000000).tdiv 1000000000) := by have := td2 x 60000000000 1000000000 60 (by decide) (by omega) (by omega); unfold I64; omega
  have g8 : I64 (x.tmod 1000000000) := by
    obtain ⟨e1, e2, e3⟩ := td x 1000000000 (by omega)
    by_cases z : 0 ≤ x
    · have := e2 z; unfold I64; omega
    · have := e3 (by omega); unfold I64; omega
  have n0 : ∀ p : ZQ, FnZ 128 [(p, (-x).tdiv 3600000000000)] [zv p] zv (x.tdiv 3600000000000) := fun p => by
    have t := zng p ((-x).tdiv 3600000000000) (tdvb (-x) 3600000000000 y0 hy (by omega))
    rwa [show -((-x).tdiv 3600000000000) = (x.tdiv 3600000000000) by rw [Int.neg_tdiv, Int.neg_neg]] at t
  have f0 : ∀ p : ZQ, Fn 111 [(p, (x.tdiv 3600000000000))] [zv p] (.tuple #[.int .i64 (x.tdiv 3600000000000), .bool true]) := fun p => by
    have t := fits_f p (x.tdiv 3600000000000) (g.w.bits.mono (by decide)) g
    exact t
  have n1 : ∀ p : ZQ, FnZ 128 [(p, ((-x).tmod 3600000000000).tdiv 60000000000)] [zv p] zv ((x.tmod 3600000000000).tdiv 60000000000) := fun p => by
    have t := zng p (((-x).tmod 3600000000000).tdiv 60000000000) (tdvb _ 60000000000 (tmod_nb (-x) 3600000000000 y0 (by omega) bL5).1 (tmod_nb (-x) 3600000000000 y0 (by omega) bL5).2 (by omega))
    rwa [show -(((-x).tmod 3600000000000).tdiv 60000000000) = ((x.tmod 3600000000000).tdiv 60000000000) by rw [Int.neg_tmod, Int.neg_tdiv, Int.neg_neg]] at t
  have f1 : ∀ p : ZQ, Fn 111 [(p, ((x.tmod 3600000000000).tdiv 60000000000))] [zv p] (.tuple #[.int .i64 ((x.tmod 3600000000000).tdiv 60000000000), .bool true]) := fun p => by
    have t := fits_f p ((x.tmod 3600000000000).tdiv 60000000000) (g6.w.bits.mono (by decide)) g6
    exact t
  have n2 : ∀ p : ZQ, FnZ 128 [(p, ((-x).tmod 60000000000).tdiv 1000000000)] [zv p] zv ((x.tmod 60000000000).tdiv 1000000000) := fun p => by
    have t := zng p (((-x).tmod 60000000000).tdiv 1000000000) (tdvb _ 1000000000 (tmod_nb (-x) 60000000000 y0 (by omega) bL6).1 (tmod_nb (-x) 60000000000 y0 (by omega) bL6).2 (by omega))
    rwa [show -(((-x).tmod 60000000000).tdiv 1000000000) = ((x.tmod 60000000000).tdiv 1000000000) by rw [Int.neg_tmod, Int.neg_tdiv, Int.neg_neg]] at t
  have f2 : ∀ p : ZQ, Fn 111 [(p, ((x.tmod 60000000000).tdiv 1000000000))] [zv p] (.tuple #[.int .i64 ((x.tmod 60000000000).tdiv 1000000000), .bool true]) := fun p => by
    have t := fits_f p ((x.tmod 60000000000).tdiv 1000000000) (g7.w.bits.mono (by decide)) g7
    exact t
  have n3 : ∀ p : ZQ, FnZ 128 [(p, ((-x).tmod 1000000000).tdiv 1)] [zv p] zv (x.tmod 1000000000) := fun p => by
    have t := zng p (((-x).tmod 1000000000).tdiv 1) (tdvb _ 1 (tmod_nb (-x) 1000000000 y0 (by omega) bL7).1 (tmod_nb (-x) 1000000000 y0 (by omega) bL7).2 (by omega))
    rwa [show -(((-x).tmod 1000000000).tdiv 1) = (x.tmod 1000000000) by rw [Int.neg_tmod, Int.neg_tdiv, Int.neg_neg, tdiv_1]] at t
  have f3 : ∀ p : ZQ, Fn 111 [(p, (x.tmod 1000000000))] [zv p] (.tuple #[.int .i64 (x.tmod 1000000000), .bool true]) := fun p => by
    have t := fits_f p (x.tmod 1000000000) (g8.w.bits.mono (by decide)) g8
    exact t
  have r := zuright_y 0 0 0 0 (x.tdiv 3600000000000) ((x.tmod 3600000000000).tdiv 60000000000) ((x.tmod 60000000000).tdiv 1000000000) (x.tmod 1000000000) ⟨j0, j0, j0, j0, g, g6, g7, g8⟩ k
  refine fn_of Try.func53 rfl fun ww => ?_
  refine st_know (p := p.n = true) (fun w hw => by rw [z_neg (hw (p, x) (by simp))]; simp; omega) fun hn => ?_
  clear hy y0 g hx k
  refine st_fn ent64 (zulen5) sub0 (by kernel_rfl) ?_
  refine st_g ent136 (fa (p)) (subC 0 rfl sub0) (by kernel_rfl) (fun zq1 => ?_)
  refine st_round (by kernel_rfl) ?_
  refine st_fn ent64 (zulen5) sub0 (by kernel_rfl) ?_
  refine st_g ent109 (fzint (3600000000000) (by assumption)) sub0 (by kernel_rfl) (fun zq3 => ?_)
  refine st_g ent122 (d0 (zq1) (zq3)) (subC 1 rfl (subC 0 rfl sub0)) (by kernel_rfl) (fun zq4 => ?_)
  refine st_b 34 (show (p.n) = true by assumption) (by kernel_rfl) ?_
  refine st_g ent128 (n0 (zq4.fst)) (subC 0 rfl sub0) (by kernel_rfl) (fun zq5 => ?_)
  refine st_fn ent111 (f0 (zq5)) (subC 0 rfl sub0) (by kernel_rfl) ?_
  refine st_i 46 .i64 (x' := 5 - 1) (Go.IntWalk.i64_in _ (by omega)) (by kernel_rfl) ?_
  refine st_i 24 .i64 (x' := 5 + 1) (Go.IntWalk.i64_in _ (by omega)) (by kernel_rfl) ?_
  refine st_round (by kernel_rfl) ?_
  refine st_fn ent64 (zulen6) sub0 (by kernel_rfl) ?_
  refine st_g ent109 (fzint (60000000000) (by assumption)) sub0 (by kernel_rfl) (fun zq8 => ?_)
  refine st_g ent122 (d1 (zq4.snd) (zq8)) (subC 3 rfl (subC 0 rfl sub0)) (by kernel_rfl) (fun zq9 => ?_)
  refine st_b 34 (show (p.n) = true by assumption) (by kernel_rfl) ?_
  refine st_g ent128 (n1 (zq9.fst)) (subC 0 rfl sub0) (by kernel_rfl) (fun zq10 => ?_)
  refine st_fn ent111 (f1 (zq10)) (subC 0 rfl sub0) (by kernel_rfl) ?_
  refine st_i 46 .i64 (x' := 5 + 1 - 1) (Go.IntWalk.i64_in _ (by omega)) (by kernel_rfl) ?_
  refine st_i 24 .i64 (x' := 5 + 1 + 1) (Go.IntWalk.i64_in _ (by omega)) (by kernel_rfl) ?_
  refine st_round (by kernel_rfl) ?_
  refine st_fn ent64 (zulen7) sub0 (by kernel_rfl) ?_
  refine st_g ent109 (fzint (1000000000) (by assumption)) sub0 (by kernel_rfl) (fun zq13 => ?_)
  refine st_g ent122 (d2 (zq9.snd) (zq13)) (subC 3 rfl (subC 0 rfl sub0)) (by kernel_rfl) (fun zq14 => ?_)
  refine st_b 34 (show (p.n) = true by assumption) (by kernel_rfl) ?_
  refine st_g ent128 (n2 (zq14.fst)) (subC 0 rfl sub0) (by kernel_rfl) (fun zq15 => ?_)
  refine st_fn ent111 (f2 (zq15)) (subC 0 rfl sub0) (by kernel_rfl) ?_
  refine st_i 46 .i64 (x' := 5 + 1 + 1 - 1) (Go.IntWalk.i64_in _ (by omega)) (by kernel_rfl) ?_
  refine st_i 24 .i64 (x' := 5 + 1 + 1 + 1) (Go.IntWalk.i64_in _ (by omega)) (by kernel_rfl) ?_
  refine st_round (by kernel_rfl) ?_
  refine st_fn ent64 (zulen8) sub0 (by kernel_rfl) ?_
  refine st_g ent109 (fzint (1) (by assumption)) sub0 (by kernel_rfl) (fun zq18 => ?_)
  refine st_g ent122 (d3 (zq14.snd) (zq18)) (subC 3 rfl (subC 0 rfl sub0)) (by kernel_rfl) (fun zq19 => ?_)
  refine st_b 34 (show (p.n) = true by assumption) (by kernel_rfl) ?_
  refine st_g ent128 (n3 (zq19.fst)) (subC 0 rfl sub0) (by kernel_rfl) (fun zq20 => ?_)
  refine st_fn ent111 (f3 (zq20)) (subC 0 rfl sub0) (by kernel_rfl) ?_
  refine st_i 46 .i64 (x' := 5 + 1 + 1 + 1 - 1) (Go.IntWalk.i64_in _ (by omega)) (by kernel_rfl) ?_
  refine st_i 24 .i64 (x' := 5 + 1 + 1 + 1 + 1) (Go.IntWalk.i64_in _ (by omega)) (by kernel_rfl) ?_
  refine st_round (by kernel_rfl) ?_
  refine st_fn ent137 (zumade (0) (0) (0) (0) (x.tdiv 3600000000000) ((x.tmod 3600000000000).tdiv 60000000000) ((x.tmod 60000000000).tdiv 1000000000) (x.tmod 1000000000)) sub0 (by kernel_rfl) ?_
  refine st_fn ent67 (r) sub0 (by kernel_rfl) ?_
  exact st_ret Try.func53 (by kernel_rfl)
theorem zulay5n_r (p : ZQ) (x : Int) (hx : W128 x) (h0 : x < 0) (g : I64 (x.tdiv 3600000000000)) (k : ¬ uOk 0 0 0 0 (x.tdiv 3600000000000) ((x.tmod 3600000000000).tdiv 60000000000) ((x.tmod 60000000000).tdiv 1000000000) (x.tmod 1000000000)) : Fn 53 [(p, x)] [zv p, .int .i64 5] (.tuple #[du0, .int .i64 4]) := by
  have hy : Bits 900 (-x) := (hx.bits.neg).mono (by decide)
  have y0 : 0 ≤ (-x) := by omega
  have bL4 : Bits 900 86400000000000 := Bits.mono (show W128 86400000000000 by unfold W128; omega).bits (by decide)
  have bL5 : Bits 900 3600000000000 := Bits.mono (show W128 3600000000000 by unfold W128; omega).bits (by decide)
  have bL6 : Bits 900 60000000000 := Bits.mono (show W128 60000000000 by unfold W128; omega).bits (by decide)
  have bL7 : Bits 900 1000000000 := Bits.mono (show W128 1000000000 by unfold W128; omega).bits (by decide)
  have bL8 : Bits 900 1 := Bits.mono (show W128 1 by unfold W128; omega).bits (by decide)
  have j1 : I64 86400000000000 := by unfold I64; omega
  have j2 : I64 3600000000000 := by unfold I64; omega
  have j3 : I64 60000000000 := by unfold I64; omega
  have j4 : I64 1000000000 := by unfold I64; omega
  have j5 : I64 1 := by unfold I64; omega
  have j0 : I64 0 := by unfold I64; omega
  have fa : ∀ p : ZQ, FnZ 136 [(p, x)] [zv p] zv (-x) := fun p => by
    have t := fzabs p x (hx.bits.fit (by decide))
    rwa [show ((x.natAbs : Nat) : Int) = -x by omega] at t
  have d0 : ∀ p q : ZQ, FnZZ 122 [(p, (-x)), (q, 3600000000000)] [zv p, zv q] (fun q => .tuple #[zv q.1, zv q.2]) ((-x).tdiv 3600000000000) ((-x).tmod 3600000000000) := fun p q => zdt p q (-x) 3600000000000 y0 hy (by omega) bL5
  have d1 : ∀ p q : ZQ, FnZZ 122 [(p, (-x).tmod 3600000000000), (q, 60000000000)] [zv p, zv q] (fun q => .tuple #[zv q.1, zv q.2]) (((-x).tmod 3600000000000).tdiv 60000000000) ((-x).tmod 60000000000) := fun p q => zdc p q (-x) 3600000000000 60000000000 y0 (by omega) bL5 (by omega) bL6 (by decide)
  have d2 : ∀ p q : ZQ, FnZZ 122 [(p, (-x).tmod 60000000000), (q, 1000000000)] [zv p, zv q] (fun q => .tuple #[zv q.1, zv q.2]) (((-x).tmod 60000000000).tdiv 1000000000) ((-x).tmod 1000000000) := fun p q => zdc p q (-x) 60000000000 1000000000 y0 (by omega) bL6 (by omega) bL7 (by decide)
  have d3 : ∀ p q : ZQ, FnZZ 122 [(p, (-x).tmod 1000000000), (q, 1)] [zv p, zv q] (fun q => .tuple #[zv q.1, zv q.2]) (((-x).tmod 1000000000).tdiv 1) ((-x).tmod 1) := fun p q => zdc p q (-x) 1000000000 1 y0 (by omega) bL7 (by omega) bL8 (by decide)
  have g6 : I64 ((x.tmod 3600000000000).tdiv 60000000000) := by have := td2 x 3600000000000 60000000000 60 (by decide) (by omega) (by omega); unfold I64; omega
  have g7 : I64 ((x.tmod 60000000000).tdiv 1000000000) := by have := td2 x 60000000000 1000000000 60 (by decide) (by omega) (by omega); unfold I64; omega
  have g8 : I64 (x.tmod 1000000000) := by
    obtain ⟨e1, e2, e3⟩ := td x 1000000000 (by omega)
    by_cases z : 0 ≤ x
    · have := e2 z; unfold I64; omega
    · have := e3 (by omega); unfold I64; omega
  have n0 : ∀ p : ZQ, FnZ 128 [(p, (-x).tdiv 3600000000000)] [zv p] zv (x.tdiv 3600000000000) := fun p => by
    have t := zng p ((-x).tdiv 3600000000000) (tdvb (-x) 3600000000000 y0 hy (by omega))
    rwa [show -((-x).tdiv 3600000000000) = (x.tdiv 3600000000000) by rw [Int.neg_tdiv, Int.neg_neg]] at t
  have f0 : ∀ p : ZQ, Fn 111 [(p, (x.tdiv 3600000000000))] [zv p] (.tuple #[.int .i64 (x.tdiv 3600000000000), .bool true]) := fun p => by
    have t := fits_f p (x.tdiv 3600000000000) (g.w.bits.mono (by decide)) g
    exact t
  have n1 : ∀ p : ZQ, FnZ 128 [(p, ((-x).tmod 3600000000000).tdiv 60000000000)] [zv p] zv ((x.tmod 3600000000000).tdiv 60000000000) := fun p => by
    have t := zng p (((-x).tmod 3600000000000).tdiv 60000000000) (tdvb _ 60000000000 (tmod_nb (-x) 3600000000000 y0 (by omega) bL5).1 (tmod_nb (-x) 3600000000000 y0 (by omega) bL5).2 (by omega))
    rwa [show -(((-x).tmod 3600000000000).tdiv 60000000000) = ((x.tmod 3600000000000).tdiv 60000000000) by rw [Int.neg_tmod, Int.neg_tdiv, Int.neg_neg]] at t
  have f1 : ∀ p : ZQ, Fn 111 [(p, ((x.tmod 3600000000000).tdiv 60000000000))] [zv p] (.tuple #[.int .i64 ((x.tmod 3600000000000).tdiv 60000000000), .bool true]) := fun p => by
    have t := fits_f p ((x.tmod 3600000000000).tdiv 60000000000) (g6.w.bits.mono (by decide)) g6
    exact t
  have n2 : ∀ p : ZQ, FnZ 128 [(p, ((-x).tmod 60000000000).tdiv 1000000000)] [zv p] zv ((x.tmod 60000000000).tdiv 1000000000) := fun p => by
    have t := zng p (((-x).tmod 60000000000).tdiv 1000000000) (tdvb _ 1000000000 (tmod_nb (-x) 60000000000 y0 (by omega) bL6).1 (tmod_nb (-x) 60000000000 y0 (by omega) bL6).2 (by omega))
    rwa [show -(((-x).tmod 60000000000).tdiv 1000000000) = ((x.tmod 60000000000).tdiv 1000000000) by rw [Int.neg_tmod, Int.neg_tdiv, Int.neg_neg]] at t
  have f2 : ∀ p : ZQ, Fn 111 [(p, ((x.tmod 60000000000).tdiv 1000000000))] [zv p] (.tuple #[.int .i64 ((x.tmod 60000000000).tdiv 1000000000), .bool true]) := fun p => by
    have t := fits_f p ((x.tmod 60000000000).tdiv 1000000000) (g7.w.bits.mono (by decide)) g7
    exact t
  have n3 : ∀ p : ZQ, FnZ 128 [(p, ((-x).tmod 1000000000).tdiv 1)] [zv p] zv (x.tmod 1000000000) := fun p => by
    have t := zng p (((-x).tmod 1000000000).tdiv 1) (tdvb _ 1 (tmod_nb (-x) 1000000000 y0 (by omega) bL7).1 (tmod_nb (-x) 1000000000 y0 (by omega) bL7).2 (by omega))
    rwa [show -(((-x).tmod 1000000000).tdiv 1) = (x.tmod 1000000000) by rw [Int.neg_tmod, Int.neg_tdiv, Int.neg_neg, tdiv_1]] at t
  have f3 : ∀ p : ZQ, Fn 111 [(p, (x.tmod 1000000000))] [zv p] (.tuple #[.int .i64 (x.tmod 1000000000), .bool true]) := fun p => by
    have t := fits_f p (x.tmod 1000000000) (g8.w.bits.mono (by decide)) g8
    exact t
  have r := zuright_f 0 0 0 0 (x.tdiv 3600000000000) ((x.tmod 3600000000000).tdiv 60000000000) ((x.tmod 60000000000).tdiv 1000000000) (x.tmod 1000000000) ⟨j0, j0, j0, j0, g, g6, g7, g8⟩ k
  refine fn_of Try.func53 rfl fun ww => ?_
  refine st_know (p := p.n = true) (fun w hw => by rw [z_neg (hw (p, x) (by simp))]; simp; omega) fun hn => ?_
  clear hy y0 g hx k
  refine st_fn ent64 (zulen5) sub0 (by kernel_rfl) ?_
  refine st_g ent136 (fa (p)) (subC 0 rfl sub0) (by kernel_rfl) (fun zq1 => ?_)
  refine st_round (by kernel_rfl) ?_
  refine st_fn ent64 (zulen5) sub0 (by kernel_rfl) ?_
  refine st_g ent109 (fzint (3600000000000) (by assumption)) sub0 (by kernel_rfl) (fun zq3 => ?_)
  refine st_g ent122 (d0 (zq1) (zq3)) (subC 1 rfl (subC 0 rfl sub0)) (by kernel_rfl) (fun zq4 => ?_)
  refine st_b 34 (show (p.n) = true by assumption) (by kernel_rfl) ?_
  refine st_g ent128 (n0 (zq4.fst)) (subC 0 rfl sub0) (by kernel_rfl) (fun zq5 => ?_)
  refine st_fn ent111 (f0 (zq5)) (subC 0 rfl sub0) (by kernel_rfl) ?_
  refine st_i 46 .i64 (x' := 5 - 1) (Go.IntWalk.i64_in _ (by omega)) (by kernel_rfl) ?_
  refine st_i 24 .i64 (x' := 5 + 1) (Go.IntWalk.i64_in _ (by omega)) (by kernel_rfl) ?_
  refine st_round (by kernel_rfl) ?_
  refine st_fn ent64 (zulen6) sub0 (by kernel_rfl) ?_
  refine st_g ent109 (fzint (60000000000) (by assumption)) sub0 (by kernel_rfl) (fun zq8 => ?_)
  refine st_g ent122 (d1 (zq4.snd) (zq8)) (subC 3 rfl (subC 0 rfl sub0)) (by kernel_rfl) (fun zq9 => ?_)
  refine st_b 34 (show (p.n) = true by assumption) (by kernel_rfl) ?_
  refine st_g ent128 (n1 (zq9.fst)) (subC 0 rfl sub0) (by kernel_rfl) (fun zq10 => ?_)
  refine st_fn ent111 (f1 (zq10)) (subC 0 rfl sub0) (by kernel_rfl) ?_
  refine st_i 46 .i64 (x' := 5 + 1 - 1) (Go.IntWalk.i64_in _ (by omega)) (by kernel_rfl) ?_
  refine st_i 24 .i64 (x' := 5 + 1 + 1) (Go.IntWalk.i64_in _ (by omega)) (by kernel_rfl) ?_
  refine st_round (by kernel_rfl) ?_
  refine st_fn ent64 (zulen7) sub0 (by kernel_rfl) ?_
  refine st_g ent109 (fzint (1000000000) (by assumption)) sub0 (by kernel_rfl) (fun zq13 => ?_)
  refine st_g ent122 (d2 (zq9.snd) (zq13)) (subC 3 rfl (subC 0 rfl sub0)) (by kernel_rfl) (fun zq14 => ?_)
  refine st_b 34 (show (p.n) = true by assumption) (by kernel_rfl) ?_
  refine st_g ent128 (n2 (zq14.fst)) (subC 0 rfl sub0) (by kernel_rfl) (fun zq15 => ?_)
  refine st_fn ent111 (f2 (zq15)) (subC 0 rfl sub0) (by kernel_rfl) ?_
  refine st_i 46 .i64 (x' := 5 + 1 + 1 - 1) (Go.IntWalk.i64_in _ (by omega)) (by kernel_rfl) ?_
  refine st_i 24 .i64 (x' := 5 + 1 + 1 + 1) (Go.IntWalk.i64_in _ (by omega)) (by kernel_rfl) ?_
  refine st_round (by kernel_rfl) ?_
  refine st_fn ent64 (zulen8) sub0 (by kernel_rfl) ?_
  refine st_g ent109 (fzint (1) (by assumption)) sub0 (by kernel_rfl) (fun zq18 => ?_)
  refine st_g ent122 (d3 (zq14.snd) (zq18)) (subC 3 rfl (subC 0 rfl sub0)) (by kernel_rfl) (fun zq19 => ?_)
  refine st_b 34 (show (p.n) = true by assumption) (by kernel_rfl) ?_
  refine st_g ent128 (n3 (zq19.fst)) (subC 0 rfl sub0) (by kernel_rfl) (fun zq20 => ?_)
  refine st_fn ent111 (f3 (zq20)) (subC 0 rfl sub0) (by kernel_rfl) ?_
  refine st_i 46 .i64 (x' := 5 + 1 + 1 + 1 - 1) (Go.IntWalk.i64_in _ (by omega)) (by kernel_rfl) ?_
  refine st_i 24 .i64 (x' := 5 + 1 + 1 + 1 + 1) (Go.IntWalk.i64_in _ (by omega)) (by kernel_rfl) ?_
  refine st_round (by kernel_rfl) ?_
  refine st_fn ent137 (zumade (0) (0) (0) (0) (x.tdiv 3600000000000) ((x.tmod 3600000000000).tdiv 60000000000) ((x.tmod 60000000000).tdiv 1000000000) (x.tmod 1000000000)) sub0 (by kernel_rfl) ?_
  refine st_fn ent67 (r) sub0 (by kernel_rfl) ?_
  exact st_ret Try.func53 (by kernel_rfl)
theorem zulay5n_o (p : ZQ) (x : Int) (hx : W128 x) (h0 : x < 0) (g : ¬ I64 (x.tdiv 3600000000000)) : Fn 53 [(p, x)] [zv p, .int .i64 5] (.tuple #[du0, .int .i64 4]) := by
  have hy : Bits 900 (-x) := (hx.bits.neg).mono (by decide)
  have y0 : 0 ≤ (-x) := by omega
  have bL4 : Bits 900 86400000000000 := Bits.mono (show W128 86400000000000 by unfold W128; omega).bits (by decide)
  have bL5 : Bits 900 3600000000000 := Bits.mono (show W128 3600000000000 by unfold W128; omega).bits (by decide)
  have bL6 : Bits 900 60000000000 := Bits.mono (show W128 60000000000 by unfold W128; omega).bits (by decide)
  have bL7 : Bits 900 1000000000 := Bits.mono (show W128 1000000000 by unfold W128; omega).bits (by decide)
  have bL8 : Bits 900 1 := Bits.mono (show W128 1 by unfold W128; omega).bits (by decide)
  have j1 : I64 86400000000000 := by unfold I64; omega
  have j2 : I64 3600000000000 := by unfold I64; omega
  have j3 : I64 60000000000 := by unfold I64; omega
  have j4 : I64 1000000000 := by unfold I64; omega
  have j5 : I64 1 := by unfold I64; omega
  have j0 : I64 0 := by unfold I64; omega
  have fa : ∀ p : ZQ, FnZ 136 [(p, x)] [zv p] zv (-x) := fun p => by
    have t := fzabs p x (hx.bits.fit (by decide))
    rwa [show ((x.natAbs : Nat) : Int) = -x by omega] at t
  have d0 : ∀ p q : ZQ, FnZZ 122 [(p, (-x)), (q, 3600000000000)] [zv p, zv q] (fun q => .tuple #[zv q.1, zv q.2]) ((-x).tdiv 3600000000000) ((-x).tmod 3600000000000) := fun p q => zdt p q (-x) 3600000000000 y0 hy (by omega) bL5
  have g6 : I64 ((x.tmod 3600000000000).tdiv 60000000000) := by have := td2 x 3600000000000 60000000000 60 (by decide) (by omega) (by omega); unfold I64; omega
  have g7 : I64 ((x.tmod 60000000000).tdiv 1000000000) := by have := td2 x 60000000000 1000000000 60 (by decide) (by omega) (by omega); unfold I64; omega
  have g8 : I64 (x.tmod 1000000000) := by
    obtain ⟨e1, e2, e3⟩ := td x 1000000000 (by omega)
    by_cases z : 0 ≤ x
    · have := e2 z; unfold I64; omega
    · have := e3 (by omega); unfold I64; omega
  have n0 : ∀ p : ZQ, FnZ 128 [(p, (-x).tdiv 3600000000000)] [zv p] zv (x.tdiv 3600000000000) := fun p => by
    have t := zng p ((-x).tdiv 3600000000000) (tdvb (-x) 3600000000000 y0 hy (by omega))
    rwa [show -((-x).tdiv 3600000000000) = (x.tdiv 3600000000000) by rw [Int.neg_tdiv, Int.neg_neg]] at t
  have f0 : ∀ p : ZQ, Fn 111 [(p, (x.tdiv 3600000000000))] [zv p] (.tuple #[.int .i64 0, .bool false]) := fun p => by
    have t := fits_n p (x.tdiv 3600000000000) (by rw [show (x.tdiv 3600000000000) = -((-x).tdiv 3600000000000) by rw [Int.neg_tdiv, Int.neg_neg]]; exact ((tdvb (-x) 3600000000000 y0 hy (by omega)).neg).mono (by decide)) g
    exact t
  refine fn_of Try.func53 rfl fun ww => ?_
  refine st_know (p := p.n = true) (fun w hw => by rw [z_neg (hw (p, x) (by simp))]; simp; omega) fun hn => ?_
  clear hy y0 g hx
  refine st_fn ent64 (zulen5) sub0 (by kernel_rfl) ?_
  refine st_g ent136 (fa (p)) (subC 0 rfl sub0) (by kernel_rfl) (fun zq1 => ?_)
  refine st_round (by kernel_rfl) ?_
  refine st_fn ent64 (zulen5) sub0 (by kernel_rfl) ?_
  refine st_g ent109 (fzint (3600000000000) (by assumption)) sub0 (by kernel_rfl) (fun zq3 => ?_)
  refine st_g ent122 (d0 (zq1) (zq3)) (subC 1 rfl (subC 0 rfl sub0)) (by kernel_rfl) (fun zq4 => ?_)
  refine st_b 34 (show (p.n) = true by assumption) (by kernel_rfl) ?_
  refine st_g ent128 (n0 (zq4.fst)) (subC 0 rfl sub0) (by kernel_rfl) (fun zq5 => ?_)
  refine st_fn ent111 (f0 (zq5)) (subC 0 rfl sub0) (by kernel_rfl) ?_
  exact st_ret Try.func53 (by kernel_rfl)
theorem zulay6p_y (p : ZQ) (x : Int) (hx : W128 x) (h0 : 0 ≤ x) (g : I64 (x.tdiv 60000000000)) (k : uOk 0 0 0 0 0 (x.tdiv 60000000000) ((x.tmod 60000000000).tdiv 1000000000) (x.tmod 1000000000)) : Fn 53 [(p, x)] [zv p, .int .i64 6] (.tuple #[duv 0 0 0 0 0 (x.tdiv 60000000000) ((x.tmod 60000000000).tdiv 1000000000) (x.tmod 1000000000), .int .i64 0]) := by
  have hy : Bits 900 x := hx.bits.mono (by decide)
  have y0 : 0 ≤ x := by omega
  have bL4 : Bits 900 86400000000000 := Bits.mono (show W128 86400000000000 by unfold W128; omega).bits (by decide)
  have bL5 : Bits 900 3600000000000 := Bits.mono (show W128 3600000000000 by unfold W128; omega).bits (by decide)
  have bL6 : Bits 900 60000000000 := Bits.mono (show W128 60000000000 by unfold W128; omega).bits (by decide)
  have bL7 : Bits 900 1000000000 := Bits.mono (show W128 1000000000 by unfold W128; omega).bits (by decide)
  have bL8 : Bits 900 1 := Bits.mono (show W128 1 by unfold W128; omega).bits (by decide)
  have j1 : I64 86400000000000 := by unfold I64; omega
  have j2 : I64 3600000000000 := by unfold I64; omega
  have j3 : I64 60000000000 := by unfold I64; omega
  have j4 : I64 1000000000 := by unfold I64; omega
  have j5 : I64 1 := by unfold I64; omega
  have j0 : I64 0 := by unfold I64; omega
  have fa : ∀ p : ZQ, FnZ 136 [(p, x)] [zv p] zv x := fun p => by
    have t := fzabs p x (hx.bits.fit (by decide))
    rwa [show ((x.natAbs : Nat) : Int) = x by omega] at t
  have d0 : ∀ p q : ZQ, FnZZ 122 [(p, x), (q, 60000000000)] [zv p, zv q] (fun q => .tuple #[zv q.1, zv q.2]) (x.tdiv 60000000000) (x.tmod 60000000000) := fun p q => zdt p q x 60000000000 y0 hy (by omega) bL6
  have d1 : ∀ p q : ZQ, FnZZ 122 [(p, x.tmod 60000000000), (q, 1000000000)] [zv p, zv q] (fun q => .tuple #[zv q.1, zv q.2]) ((x.tmod 60000000000).tdiv 1000000000) (x.tmod 1000000000) := fun p q => zdc p q x 60000000000 1000000000 y0 (by omega) bL6 (by omega) bL7 (by decide)
  have d2 : ∀ p q : ZQ, FnZZ 122 [(p, x.tmod 1000000000), (q, 1)] [zv p, zv q] (fun q => .tuple #[zv q.1, zv q.2]) ((x.tmod 1000000000).tdiv 1) (x.tmod 1) := fun p q => zdc p q x 1000000000 1 y0 (by omega) bL7 (by omega) bL8 (by decide)
  have g7 : I64 ((x.tmod 60000000000).tdiv 1000000000) := by have := td2 x 60000000000 1000000000 60 (by decide) (by omega) (by omega); unfold I64; omega
  have g8 : I64 (x.tmod 1000000000) := by
    obtain ⟨e1, e2, e3⟩ := td x 1000000000 (by omega)
    by_cases z : 0 ≤ x
    · have := e2 z; unfold I64; omega
    · have := e3 (by omega); unfold I64; omega
  have f0 : ∀ p : ZQ, Fn 111 [(p, x.tdiv 60000000000)] [zv p] (.tuple #[.int .i64 (x.tdiv 60000000000), .bool true]) := fun p => by
    have t := fits_f p (x.tdiv 60000000000) (g.w.bits.mono (by decide)) g
    exact t
  have f1 : ∀ p : ZQ, Fn 111 [(p, (x.tmod 60000000000).tdiv 1000000000)] [zv p] (.tuple #[.int .i64 ((x.tmod 60000000000).tdiv 1000000000), .bool true]) := fun p => by
    have t := fits_f p ((x.tmod 60000000000).tdiv 1000000000) (g7.w.bits.mono (by decide)) g7
    exact t
  have f2 : ∀ p : ZQ, Fn 111 [(p, (x.tmod 1000000000).tdiv 1)] [zv p] (.tuple #[.int .i64 (x.tmod 1000000000), .bool true]) := fun p => by
    have t := fits_f p (x.tmod 1000000000) (g8.w.bits.mono (by decide)) g8
    simpa only [tdiv_1] using t
  have r := zuright_y 0 0 0 0 0 (x.tdiv 60000000000) ((x.tmod 60000000000).tdiv 1000000000) (x.tmod 1000000000) ⟨j0, j0, j0, j0, j0, g, g7, g8⟩ k
  refine fn_of Try.func53 rfl fun ww => ?_
  refine st_know (p := p.n = false) (fun w hw => by rw [z_neg (hw (p, x) (by simp))]; simp; omega) fun hn => ?_
  clear hy y0 g hx k
  refine st_fn ent64 (zulen6) sub0 (by kernel_rfl) ?_
  refine st_g ent136 (fa (p)) (subC 0 rfl sub0) (by kernel_rfl) (fun zq1 => ?_)
  refine st_round (by kernel_rfl) ?_
  refine st_fn ent64 (zulen6) sub0 (by kernel_rfl) ?_
  refine st_g ent109 (fzint (60000000000) (by assumption)) sub0 (by kernel_rfl) (fun zq3 => ?_)
  refine st_g ent122 (d0 (zq1) (zq3)) (subC 1 rfl (subC 0 rfl sub0)) (by kernel_rfl) (fun zq4 => ?_)
  refine st_b 34 (show (p.n) = false by assumption) (by kernel_rfl) ?_
  refine st_fn ent111 (f0 (zq4.fst)) (subC 0 rfl sub0) (by kernel_rfl) ?_
  refine st_i 46 .i64 (x' := 6 - 1) (Go.IntWalk.i64_in _ (by omega)) (by kernel_rfl) ?_
  refine st_i 24 .i64 (x' := 6 + 1) (Go.IntWalk.i64_in _ (by omega)) (by kernel_rfl) ?_
  refine st_round (by kernel_rfl) ?_
  refine st_fn ent64 (zulen7) sub0 (by kernel_rfl) ?_
  refine st_g ent109 (fzint (1000000000) (by assumption)) sub0 (by kernel_rfl) (fun zq7 => ?_)
  refine st_g ent122 (d1 (zq4.snd) (zq7)) (subC 2 rfl (subC 0 rfl sub0)) (by kernel_rfl) (fun zq8 => ?_)
  refine st_b 34 (show (p.n) = false by assumption) (by kernel_rfl) ?_
  refine st_fn ent111 (f1 (zq8.fst)) (subC 0 rfl sub0) (by kernel_rfl) ?_
  refine st_i 46 .i64 (x' := 6 + 1 - 1) (Go.IntWalk.i64_in _ (by omega)) (by kernel_rfl) ?_
  refine st_i 24 .i64 (x' := 6 + 1 + 1) (Go.IntWalk.i64_in _ (by omega)) (by kernel_rfl) ?_
  refine st_round (by kernel_rfl) ?_
  refine st_fn ent64 (zulen8) sub0 (by kernel_rfl) ?_
  refine st_g ent109 (fzint (1) (by assumption)) sub0 (by kernel_rfl) (fun zq11 => ?_)
  refine st_g ent122 (d2 (zq8.snd) (zq11)) (subC 2 rfl (subC 0 rfl sub0)) (by kernel_rfl) (fun zq12 => ?_)
  refine st_b 34 (show (p.n) = false by assumption) (by kernel_rfl) ?_
  refine st_fn ent111 (f2 (zq12.fst)) (subC 0 rfl sub0) (by kernel_rfl) ?_
  refine st_i 46 .i64 (x' := 6 + 1 + 1 - 1) (Go.IntWalk.i64_in _ (by omega)) (by kernel_rfl) ?_
  refine st_i 24 .i64 (x' := 6 + 1 + 1 + 1) (Go.IntWalk.i64_in _ (by omega)) (by kernel_rfl) ?_
  refine st_round (by kernel_rfl) ?_
  refine st_fn ent137 (zumade (0) (0) (0) (0) (0) (x.tdiv 60000000000) ((x.tmod 60000000000).tdiv 1000000000) (x.tmod 1000000000)) sub0 (by kernel_rfl) ?_
  refine st_fn ent67 (r) sub0 (by kernel_rfl) ?_
  exact st_ret Try.func53 (by kernel_rfl)
theorem zulay6p_r (p : ZQ) (x : Int) (hx : W128 x) (h0 : 0 ≤ x) (g : I64 (x.tdiv 60000000000)) (k : ¬ uOk 0 0 0 0 0 (x.tdiv 60000000000) ((x.tmod 60000000000).tdiv 1000000000) (x.tmod 1000000000)) : Fn 53 [(p, x)] [zv p, .int .i64 6] (.tuple #[du0, .int .i64 4]) := by
  have hy : Bits 900 x := hx.bits.mono (by decide)
  have y0 : 0 ≤ x := by omega
  have bL4 : Bits 900 86400000000000 := Bits.mono (show W128 86400000000000 by unfold W128; omega).bits (by decide)
  have bL5 : Bits 900 3600000000000 := Bits.mono (show W128 3600000000000 by unfold W128; omega).bits (by decide)
  have bL6 : Bits 900 60000000000 := Bits.mono (show W128 60000000000 by unfold W128; omega).bits (by decide)
  have bL7 : Bits 900 1000000000 := Bits.mono (show W128 1000000000 by unfold W128; omega).bits (by decide)
  have bL8 : Bits 900 1 := Bits.mono (show W128 1 by unfold W128; omega).bits (by decide)
  have j1 : I64 86400000000000 := by unfold I64; omega
  have j2 : I64 3600000000000 := by unfold I64; omega
  have j3 : I64 60000000000 := by unfold I64; omega
  have j4 : I64 1000000000 := by unfold I64; omega
  have j5 : I64 1 := by unfold I64; omega
  have j0 : I64 0 := by unfold I64; omega
  have fa : ∀ p : ZQ, FnZ 136 [(p, x)] [zv p] zv x := fun p => by
    have t := fzabs p x (hx.bits.fit (by decide))
    rwa [show ((x.natAbs : Nat) : Int) = x by omega] at t
  have d0 : ∀ p q : ZQ, FnZZ 122 [(p, x), (q, 60000000000)] [zv p, zv q] (fun q => .tuple #[zv q.1, zv q.2]) (x.tdiv 60000000000) (x.tmod 60000000000) := fun p q => zdt p q x 60000000000 y0 hy (by omega) bL6
  have d1 : ∀ p q : ZQ, FnZZ 122 [(p, x.tmod 60000000000), (q, 1000000000)] [zv p, zv q] (fun q => .tuple #[zv q.1, zv q.2]) ((x.tmod 60000000000).tdiv 1000000000) (x.tmod 1000000000) := fun p q => zdc p q x 60000000000 1000000000 y0 (by omega) bL6 (by omega) bL7 (by decide)
  have d2 : ∀ p q : ZQ, FnZZ 122 [(p, x.tmod 1000000000), (q, 1)] [zv p, zv q] (fun q => .tuple #[zv q.1, zv q.2]) ((x.tmod 1000000000).tdiv 1) (x.tmod 1) := fun p q => zdc p q x 1000000000 1 y0 (by omega) bL7 (by omega) bL8 (by decide)
  have g7 : I64 ((x.tmod 60000000000).tdiv 1000000000) := by have := td2 x 60000000000 1000000000 60 (by decide) (by omega) (by omega); unfold I64; omega
  have g8 : I64 (x.tmod 1000000000) := by
    obtain ⟨e1, e2, e3⟩ := td x 1000000000 (by omega)
    by_cases z : 0 ≤ x
    · have := e2 z; unfold I64; omega
    · have := e3 (by omega); unfold I64; omega
  have f0 : ∀ p : ZQ, Fn 111 [(p, x.tdiv 60000000000)] [zv p] (.tuple #[.int .i64 (x.tdiv 60000000000), .bool true]) := fun p => by
    have t := fits_f p (x.tdiv 60000000000) (g.w.bits.mono (by decide)) g
    exact t
  have f1 : ∀ p : ZQ, Fn 111 [(p, (x.tmod 60000000000).tdiv 1000000000)] [zv p] (.tuple #[.int .i64 ((x.tmod 60000000000).tdiv 1000000000), .bool true]) := fun p => by
    have t := fits_f p ((x.tmod 60000000000).tdiv 1000000000) (g7.w.bits.mono (by decide)) g7
    exact t
  have f2 : ∀ p : ZQ, Fn 111 [(p, (x.tmod 1000000000).tdiv 1)] [zv p] (.tuple #[.int .i64 (x.tmod 1000000000), .bool true]) := fun p => by
    have t := fits_f p (x.tmod 1000000000) (g8.w.bits.mono (by decide)) g8
    simpa only [tdiv_1] using t
  have r := zuright_f 0 0 0 0 0 (x.tdiv 60000000000) ((x.tmod 60000000000).tdiv 1000000000) (x.tmod 1000000000) ⟨j0, j0, j0, j0, j0, g, g7, g8⟩ k
  refine fn_of Try.func53 rfl fun ww => ?_
  refine st_know (p := p.n = false) (fun w hw => by rw [z_neg (hw (p, x) (by simp))]; simp; omega) fun hn => ?_
  clear hy y0 g hx k
  refine st_fn ent64 (zulen6) sub0 (by kernel_rfl) ?_
  refine st_g ent136 (fa (p)) (subC 0 rfl sub0) (by kernel_rfl) (fun zq1 => ?_)
  refine st_round (by kernel_rfl) ?_
  refine st_fn ent64 (zulen6) sub0 (by kernel_rfl) ?_
  refine st_g ent109 (fzint (60000000000) (by assumption)) sub0 (by kernel_rfl) (fun zq3 => ?_)
  refine st_g ent122 (d0 (zq1) (zq3)) (subC 1 rfl (subC 0 rfl sub0)) (by kernel_rfl) (fun zq4 => ?_)
  refine st_b 34 (show (p.n) = false by assumption) (by kernel_rfl) ?_
  refine st_fn ent111 (f0 (zq4.fst)) (subC 0 rfl sub0) (by kernel_rfl) ?_
  refine st_i 46 .i64 (x' := 6 - 1) (Go.IntWalk.i64_in _ (by omega)) (by kernel_rfl) ?_
  refine st_i 24 .i64 (x' := 6 + 1) (Go.IntWalk.i64_in _ (by omega)) (by kernel_rfl) ?_
  refine st_round (by kernel_rfl) ?_
  refine st_fn ent64 (zulen7) sub0 (by kernel_rfl) ?_
  refine st_g ent109 (fzint (1000000000) (by assumption)) sub0 (by kernel_rfl) (fun zq7 => ?_)
  refine st_g ent122 (d1 (zq4.snd) (zq7)) (subC 2 rfl (subC 0 rfl sub0)) (by kernel_rfl) (fun zq8 => ?_)
  refine st_b 34 (show (p.n) = false by assumption) (by kernel_rfl) ?_
  refine st_fn ent111 (f1 (zq8.fst)) (subC 0 rfl sub0) (by kernel_rfl) ?_
  refine st_i 46 .i64 (x' := 6 + 1 - 1) (Go.IntWalk.i64_in _ (by omega)) (by kernel_rfl) ?_
  refine st_i 24 .i64 (x' := 6 + 1 + 1) (Go.IntWalk.i64_in _ (by omega)) (by kernel_rfl) ?_
  refine st_round (by kernel_rfl) ?_
  refine st_fn ent64 (zulen8) sub0 (by kernel_rfl) ?_
  refine st_g ent109 (fzint (1) (by assumption)) sub0 (by kernel_rfl) (fun zq11 => ?_)
  refine st_g ent122 (d2 (zq8.snd) (zq11)) (subC 2 rfl (subC 0 rfl sub0)) (by kernel_rfl) (fun zq12 => ?_)
  refine st_b 34 (show (p.n) = false by assumption) (by kernel_rfl) ?_
  refine st_fn ent111 (f2 (zq12.fst)) (subC 0 rfl sub0) (by kernel_rfl) ?_
  refine st_i 46 .i64 (x' := 6 + 1 + 1 - 1) (Go.IntWalk.i64_in _ (by omega)) (by kernel_rfl) ?_
  refine st_i 24 .i64 (x' := 6 + 1 + 1 + 1) (Go.IntWalk.i64_in _ (by omega)) (by kernel_rfl) ?_
  refine st_round (by kernel_rfl) ?_
  refine st_fn ent137 (zumade (0) (0) (0) (0) (0) (x.tdiv 60000000000) ((x.tmod 60000000000).tdiv 1000000000) (x.tmod 1000000000)) sub0 (by kernel_rfl) ?_
  refine st_fn ent67 (r) sub0 (by kernel_rfl) ?_
  exact st_ret Try.func53 (by kernel_rfl)
theorem zulay6p_o (p : ZQ) (x : Int) (hx : W128 x) (h0 : 0 ≤ x) (g : ¬ I64 (x.tdiv 60000000000)) : Fn 53 [(p, x)] [zv p, .int .i64 6] (.tuple #[du0, .int .i64 4]) := by
  have hy : Bits 900 x := hx.bits.mono (by decide)
  have y0 : 0 ≤ x := by omega
  have bL4 : Bits 900 86400000000000 := Bits.mono (show W128 86400000000000 by unfold W128; omega).bits (by decide)
  have bL5 : Bits 900 3600000000000 := Bits.mono (show W128 3600000000000 by unfold W128; omega).bits (by decide)
  have bL6 : Bits 900 60000000000 := Bits.mono (show W128 60000000000 by unfold W128; omega).bits (by decide)
  have bL7 : Bits 900 1000000000 := Bits.mono (show W128 1000000000 by unfold W128; omega).bits (by decide)
  have bL8 : Bits 900 1 := Bits.mono (show W128 1 by unfold W128; omega).bits (by decide)
  have j1 : I64 86400000000000 := by unfold I64; omega
  have j2 : I64 3600000000000 := by unfold I64; omega
  have j3 : I64 60000000000 := by unfold I64; omega
  have j4 : I64 1000000000 := by unfold I64; omega
  have j5 : I64 1 := by unfold I64; omega
  have j0 : I64 0 := by unfold I64; omega
  have fa : ∀ p : ZQ, FnZ 136 [(p, x)] [zv p] zv x := fun p => by
    have t := fzabs p x (hx.bits.fit (by decide))
    rwa [show ((x.natAbs : Nat) : Int) = x by omega] at t
  have d0 : ∀ p q : ZQ, FnZZ 122 [(p, x), (q, 60000000000)] [zv p, zv q] (fun q => .tuple #[zv q.1, zv q.2]) (x.tdiv 60000000000) (x.tmod 60000000000) := fun p q => zdt p q x 60000000000 y0 hy (by omega) bL6
  have g7 : I64 ((x.tmod 60000000000).tdiv 1000000000) := by have := td2 x 60000000000 1000000000 60 (by decide) (by omega) (by omega); unfold I64; omega
  have g8 : I64 (x.tmod 1000000000) := by
    obtain ⟨e1, e2, e3⟩ := td x 1000000000 (by omega)
    by_cases z : 0 ≤ x
    · have := e2 z; unfold I64; omega
    · have := e3 (by omega); unfold I64; omega
  have f0 : ∀ p : ZQ, Fn 111 [(p, x.tdiv 60000000000)] [zv p] (.tuple #[.int .i64 0, .bool false]) := fun p => by
    have t := fits_n p (x.tdiv 60000000000) ((tdvb x 60000000000 y0 hy (by omega)).mono (by decide)) g
    exact t
  refine fn_of Try.func53 rfl fun ww => ?_
  refine st_know (p := p.n = false) (fun w hw => by rw [z_neg (hw (p, x) (by simp))]; simp; omega) fun hn => ?_
  clear hy y0 g hx
  refine st_fn ent64 (zulen6) sub0 (by kernel_rfl) ?_
  refine st_g ent136 (fa (p)) (subC 0 rfl sub0) (by kernel_rfl) (fun zq1 => ?_)
  refine st_round (by kernel_rfl) ?_
  refine st_fn ent64 (zulen6) sub0 (by kernel_rfl) ?_
  refine st_g ent109 (fzint (60000000000) (by assumption)) sub0 (by kernel_rfl) (fun zq3 => ?_)
  refine st_g ent122 (d0 (zq1) (zq3)) (subC 1 rfl (subC 0 rfl sub0)) (by kernel_rfl) (fun zq4 => ?_)
  refine st_b 34 (show (p.n) = false by assumption) (by kernel_rfl) ?_
  refine st_fn ent111 (f0 (zq4.fst)) (subC 0 rfl sub0) (by kernel_rfl) ?_
  exact st_ret Try.func53 (by kernel_rfl)
theorem zulay6n_y (p : ZQ) (x : Int) (hx : W128 x) (h0 : x < 0) (g : I64 (x.tdiv 60000000000)) (k : uOk 0 0 0 0 0 (x.tdiv 60000000000) ((x.tmod 60000000000).tdiv 1000000000) (x.tmod 1000000000)) : Fn 53 [(p, x)] [zv p, .int .i64 6] (.tuple #[duv 0 0 0 0 0 (x.tdiv 60000000000) ((x.tmod 60000000000).tdiv 1000000000) (x.tmod 1000000000), .int .i64 0]) := by
  have hy : Bits 900 (-x) := (hx.bits.neg).mono (by decide)
  have y0 : 0 ≤ (-x) := by omega
  have bL4 : Bits 900 86400000000000 := Bits.mono (show W128 86400000000000 by unfold W128; omega).bits (by decide)
  have bL5 : Bits 900 3600000000000 := Bits.mono (show W128 3600000000000 by unfold W128; omega).bits (by decide)
  have bL6 : Bits 900 60000000000 := Bits.mono (show W128 60000000000 by unfold W128; omega).bits (by decide)
  have bL7 : Bits 900 1000000000 := Bits.mono (show W128 1000000000 by unfold W128; omega).bits (by decide)
  have bL8 : Bits 900 1 := Bits.mono (show W128 1 by unfold W128; omega).bits (by decide)
  have j1 : I64 86400000000000 := by unfold I64; omega
  have j2 : I64 3600000000000 := by unfold I64; omega
  have j3 : I64 60000000000 := by unfold I64; omega
  have j4 : I64 1000000000 := by unfold I64; omega
  have j5 : I64 1 := by unfold I64; omega
  have j0 : I64 0 := by unfold I64; omega
  have fa : ∀ p : ZQ, FnZ 136 [(p, x)] [zv p] zv (-x) := fun p => by
    have t := fzabs p x (hx.bits.fit (by decide))
    rwa [show ((x.natAbs : Nat) : Int) = -x by omega] at t
  have d0 : ∀ p q : ZQ, FnZZ 122 [(p, (-x)), (q, 60000000000)] [zv p, zv q] (fun q => .tuple #[zv q.1, zv q.2]) ((-x).tdiv 60000000000) ((-x).tmod 60000000000) := fun p q => zdt p q (-x) 60000000000 y0 hy (by omega) bL6
  have d1 : ∀ p q : ZQ, FnZZ 122 [(p, (-x).tmod 60000000000), (q, 1000000000)] [zv p, zv q] (fun q => .tuple #[zv q.1, zv q.2]) (((-x).tmod 60000000000).tdiv 1000000000) ((-x).tmod 1000000000) := fun p q => zdc p q (-x) 60000000000 1000000000 y0 (by omega) bL6 (by omega) bL7 (by decide)
  have d2 : ∀ p q : ZQ, FnZZ 122 [(p, (-x).tmod 1000000000), (q, 1)] [zv p, zv q] (fun q => .tuple #[zv q.1, zv q.2]) (((-x).tmod 1000000000).tdiv 1) ((-x).tmod 1) := fun p q => zdc p q (-x) 1000000000 1 y0 (by omega) bL7 (by omega) bL8 (by decide)
  have g7 : I64 ((x.tmod 60000000000).tdiv 1000000000) := by have := td2 x 60000000000 1000000000 60 (by decide) (by omega) (by omega); unfold I64; omega
  have g8 : I64 (x.tmod 1000000000) := by
    obtain ⟨e1, e2, e3⟩ := td x 1000000000 (by omega)
    by_cases z : 0 ≤ x
    · have := e2 z; unfold I64; omega
    · have := e3 (by omega); unfold I64; omega
  have n0 : ∀ p : ZQ, FnZ 128 [(p, (-x).tdiv 60000000000)] [zv p] zv (x.tdiv 60000000000) := fun p => by
    have t := zng p ((-x).tdiv 60000000000) (tdvb (-x) 60000000000 y0 hy (by omega))
    rwa [show -((-x).tdiv 60000000000) = (x.tdiv 60000000000) by rw [Int.neg_tdiv, Int.neg_neg]] at t
  have f0 : ∀ p : ZQ, Fn 111 [(p, (x.tdiv 60000000000))] [zv p] (.tuple #[.int .i64 (x.tdiv 60000000000), .bool true]) := fun p => by
    have t := fits_f p (x.tdiv 60000000000) (g.w.bits.mono (by decide)) g
    exact t
  have n1 : ∀ p : ZQ, FnZ 128 [(p, ((-x).tmod 60000000000).tdiv 1000000000)] [zv p] zv ((x.tmod 60000000000).tdiv 1000000000) := fun p => by
    have t := zng p (((-x).tmod 60000000000).tdiv 1000000000) (tdvb _ 1000000000 (tmod_nb (-x) 60000000000 y0 (by omega) bL6).1 (tmod_nb (-x) 60000000000 y0 (by omega) bL6).2 (by omega))
    rwa [show -(((-x).tmod 60000000000).tdiv 1000000000) = ((x.tmod 60000000000).tdiv 1000000000) by rw [Int.neg_tmod, Int.neg_tdiv, Int.neg_neg]] at t
  have f1 : ∀ p : ZQ, Fn 111 [(p, ((x.tmod 60000000000).tdiv 1000000000))] [zv p] (.tuple #[.int .i64 ((x.tmod 60000000000).tdiv 1000000000), .bool true]) := fun p => by
    have t := fits_f p ((x.tmod 60000000000).tdiv 1000000000) (g7.w.bits.mono (by decide)) g7
    exact t
  have n2 : ∀ p : ZQ, FnZ 128 [(p, ((-x).tmod 1000000000).tdiv 1)] [zv p] zv (x.tmod 1000000000) := fun p => by
    have t := zng p (((-x).tmod 1000000000).tdiv 1) (tdvb _ 1 (tmod_nb (-x) 1000000000 y0 (by omega) bL7).1 (tmod_nb (-x) 1000000000 y0 (by omega) bL7).2 (by omega))
    rwa [show -(((-x).tmod 1000000000).tdiv 1) = (x.tmod 1000000000) by rw [Int.neg_tmod, Int.neg_tdiv, Int.neg_neg, tdiv_1]] at t
  have f2 : ∀ p : ZQ, Fn 111 [(p, (x.tmod 1000000000))] [zv p] (.tuple #[.int .i64 (x.tmod 1000000000), .bool true]) := fun p => by
    have t := fits_f p (x.tmod 1000000000) (g8.w.bits.mono (by decide)) g8
    exact t
  have r := zuright_y 0 0 0 0 0 (x.tdiv 60000000000) ((x.tmod 60000000000).tdiv 1000000000) (x.tmod 1000000000) ⟨j0, j0, j0, j0, j0, g, g7, g8⟩ k
  refine fn_of Try.func53 rfl fun ww => ?_
  refine st_know (p := p.n = true) (fun w hw => by rw [z_neg (hw (p, x) (by simp))]; simp; omega) fun hn => ?_
  clear hy y0 g hx k
  refine st_fn ent64 (zulen6) sub0 (by kernel_rfl) ?_
  refine st_g ent136 (fa (p)) (subC 0 rfl sub0) (by kernel_rfl) (fun zq1 => ?_)
  refine st_round (by kernel_rfl) ?_
  refine st_fn ent64 (zulen6) sub0 (by kernel_rfl) ?_
  refine st_g ent109 (fzint (60000000000) (by assumption)) sub0 (by kernel_rfl) (fun zq3 => ?_)
  refine st_g ent122 (d0 (zq1) (zq3)) (subC 1 rfl (subC 0 rfl sub0)) (by kernel_rfl) (fun zq4 => ?_)
  refine st_b 34 (show (p.n) = true by assumption) (by kernel_rfl) ?_
  refine st_g ent128 (n0 (zq4.fst)) (subC 0 rfl sub0) (by kernel_rfl) (fun zq5 => ?_)
  refine st_fn ent111 (f0 (zq5)) (subC 0 rfl sub0) (by kernel_rfl) ?_
  refine st_i 46 .i64 (x' := 6 - 1) (Go.IntWalk.i64_in _ (by omega)) (by kernel_rfl) ?_
  refine st_i 24 .i64 (x' := 6 + 1) (Go.IntWalk.i64_in _ (by omega)) (by kernel_rfl) ?_
  refine st_round (by kernel_rfl) ?_
  refine st_fn ent64 (zulen7) sub0 (by kernel_rfl) ?_
  refine st_g ent109 (fzint (1000000000) (by assumption)) sub0 (by kernel_rfl) (fun zq8 => ?_)
  refine st_g ent122 (d1 (zq4.snd) (zq8)) (subC 3 rfl (subC 0 rfl sub0)) (by kernel_rfl) (fun zq9 => ?_)
  refine st_b 34 (show (p.n) = true by assumption) (by kernel_rfl) ?_
  refine st_g ent128 (n1 (zq9.fst)) (subC 0 rfl sub0) (by kernel_rfl) (fun zq10 => ?_)
  refine st_fn ent111 (f1 (zq10)) (subC 0 rfl sub0) (by kernel_rfl) ?_
  refine st_i 46 .i64 (x' := 6 + 1 - 1) (Go.IntWalk.i64_in _ (by omega)) (by kernel_rfl) ?_
  refine st_i 24 .i64 (x' := 6 + 1 + 1) (Go.IntWalk.i64_in _ (by omega)) (by kernel_rfl) ?_
  refine st_round (by kernel_rfl) ?_
  refine st_fn ent64 (zulen8) sub0 (by kernel_rfl) ?_
  refine st_g ent109 (fzint (1) (by assumption)) sub0 (by kernel_rfl) (fun zq13 => ?_)
  refine st_g ent122 (d2 (zq9.snd) (zq13)) (subC 3 rfl (subC 0 rfl sub0)) (by kernel_rfl) (fun zq14 => ?_)
  refine st_b 34 (show (p.n) = true by assumption) (by kernel_rfl) ?_
  refine st_g ent128 (n2 (zq14.fst)) (subC 0 rfl sub0) (by kernel_rfl) (fun zq15 => ?_)
  refine st_fn ent111 (f2 (zq15)) (subC 0 rfl sub0) (by kernel_rfl) ?_
  refine st_i 46 .i64 (x' := 6 + 1 + 1 - 1) (Go.IntWalk.i64_in _ (by omega)) (by kernel_rfl) ?_
  refine st_i 24 .i64 (x' := 6 + 1 + 1 + 1) (Go.IntWalk.i64_in _ (by omega)) (by kernel_rfl) ?_
  refine st_round (by kernel_rfl) ?_
  refine st_fn ent137 (zumade (0) (0) (0) (0) (0) (x.tdiv 60000000000) ((x.tmod 60000000000).tdiv 1000000000) (x.tmod 1000000000)) sub0 (by kernel_rfl) ?_
  refine st_fn ent67 (r) sub0 (by kernel_rfl) ?_
  exact st_ret Try.func53 (by kernel_rfl)
theorem zulay6n_r (p : ZQ) (x : Int) (hx : W128 x) (h0 : x < 0) (g : I64 (x.tdiv 60000000000)) (k : ¬ uOk 0 0 0 0 0 (x.tdiv 60000000000) ((x.tmod 60000000000).tdiv 1000000000) (x.tmod 1000000000)) : Fn 53 [(p, x)] [zv p, .int .i64 6] (.tuple #[du0, .int .i64 4]) := by
  have hy : Bits 900 (-x) := (hx.bits.neg).mono (by decide)
  have y0 : 0 ≤ (-x) := by omega
  have bL4 : Bits 900 86400000000000 := Bits.mono (show W128 86400000000000 by unfold W128; omega).bits (by decide)
  have bL5 : Bits 900 3600000000000 := Bits.mono (show W128 3600000000000 by unfold W128; omega).bits (by decide)
  have bL6 : Bits 900 60000000000 := Bits.mono (show W128 60000000000 by unfold W128; omega).bits (by decide)
  have bL7 : Bits 900 1000000000 := Bits.mono (show W128 1000000000 by unfold W128; omega).bits (by decide)
  have bL8 : Bits 900 1 := Bits.mono (show W128 1 by unfold W128; omega).bits (by decide)
  have j1 : I64 86400000000000 := by unfold I64; omega
  have j2 : I64 3600000000000 := by unfold I64; omega
  have j3 : I64 60000000000 := by unfold I64; omega
  have j4 : I64 1000000000 := by unfold I64; omega
  have j5 : I64 1 := by unfold I64; omega
  have j0 : I64 0 := by unfold I64; omega
  have fa : ∀ p : ZQ, FnZ 136 [(p, x)] [zv p] zv (-x) := fun p => by
    have t := fzabs p x (hx.bits.fit (by decide))
    rwa [show ((x.natAbs : Nat) : Int) = -x by omega] at t
  have d0 : ∀ p q : ZQ, FnZZ 122 [(p, (-x)), (q, 60000000000)] [zv p, zv q] (fun q => .tuple #[zv q.1, zv q.2]) ((-x).tdiv 60000000000) ((-x).tmod 60000000000) := fun p q => zdt p q (-x) 60000000000 y0 hy (by omega) bL6
  have d1 : ∀ p q : ZQ, FnZZ 122 [(p, (-x).tmod 60000000000), (q, 1000000000)] [zv p, zv q] (fun q => .tuple #[zv q.1, zv q.2]) (((-x).tmod 60000000000).tdiv 1000000000) ((-x).tmod 1000000000) := fun p q => zdc p q (-x) 60000000000 1000000000 y0 (by omega) bL6 (by omega) bL7 (by decide)
  have d2 : ∀ p q : ZQ, FnZZ 122 [(p, (-x).tmod 1000000000), (q, 1)] [zv p, zv q] (fun q => .tuple #[zv q.1, zv q.2]) (((-x).tmod 1000000000).tdiv 1) ((-x).tmod 1) := fun p q => zdc p q (-x) 1000000000 1 y0 (by omega) bL7 (by omega) bL8 (by decide)
  have g7 : I64 ((x.tmod 60000000000).tdiv 1000000000) := by have := td2 x 60000000000 1000000000 60 (by decide) (by omega) (by omega); unfold I64; omega
  have g8 : I64 (x.tmod 1000000000) := by
    obtain ⟨e1, e2, e3⟩ := td x 1000000000 (by omega)
    by_cases z : 0 ≤ x
    · have := e2 z; unfold I64; omega
    · have := e3 (by omega); unfold I64; omega
  have n0 : ∀ p : ZQ, FnZ 128 [(p, (-x).tdiv 60000000000)] [zv p] zv (x.tdiv 60000000000) := fun p => by
    have t := zng p ((-x).tdiv 60000000000) (tdvb (-x) 60000000000 y0 hy (by omega))
    rwa [show -((-x).tdiv 60000000000) = (x.tdiv 60000000000) by rw [Int.neg_tdiv, Int.neg_neg]] at t
  have f0 : ∀ p : ZQ, Fn 111 [(p, (x.tdiv 60000000000))] [zv p] (.tuple #[.int .i64 (x.tdiv 60000000000), .bool true]) := fun p => by
    have t := fits_f p (x.tdiv 60000000000) (g.w.bits.mono (by decide)) g
    exact t
  have n1 : ∀ p : ZQ, FnZ 128 [(p, ((-x).tmod 60000000000).tdiv 1000000000)] [zv p] zv ((x.tmod 60000000000).tdiv 1000000000) := fun p => by
    have t := zng p (((-x).tmod 60000000000).tdiv 1000000000) (tdvb _ 1000000000 (tmod_nb (-x) 60000000000 y0 (by omega) bL6).1 (tmod_nb (-x) 60000000000 y0 (by omega) bL6).2 (by omega))
    rwa [show -(((-x).tmod 60000000000).tdiv 1000000000) = ((x.tmod 60000000000).tdiv 1000000000) by rw [Int.neg_tmod, Int.neg_tdiv, Int.neg_neg]] at t
  have f1 : ∀ p : ZQ, Fn 111 [(p, ((x.tmod 60000000000).tdiv 1000000000))] [zv p] (.tuple #[.int .i64 ((x.tmod 60000000000).tdiv 1000000000), .bool true]) := fun p => by
    have t := fits_f p ((x.tmod 60000000000).tdiv 1000000000) (g7.w.bits.mono (by decide)) g7
    exact t
  have n2 : ∀ p : ZQ, FnZ 128 [(p, ((-x).tmod 1000000000).tdiv 1)] [zv p] zv (x.tmod 1000000000) := fun p => by
    have t := zng p (((-x).tmod 1000000000).tdiv 1) (tdvb _ 1 (tmod_nb (-x) 1000000000 y0 (by omega) bL7).1 (tmod_nb (-x) 1000000000 y0 (by omega) bL7).2 (by omega))
    rwa [show -(((-x).tmod 1000000000).tdiv 1) = (x.tmod 1000000000) by rw [Int.neg_tmod, Int.neg_tdiv, Int.neg_neg, tdiv_1]] at t
  have f2 : ∀ p : ZQ, Fn 111 [(p, (x.tmod 1000000000))] [zv p] (.tuple #[.int .i64 (x.tmod 1000000000), .bool true]) := fun p => by
    have t := fits_f p (x.tmod 1000000000) (g8.w.bits.mono (by decide)) g8
    exact t
  have r := zuright_f 0 0 0 0 0 (x.tdiv 60000000000) ((x.tmod 60000000000).tdiv 1000000000) (x.tmod 1000000000) ⟨j0, j0, j0, j0, j0, g, g7, g8⟩ k
  refine fn_of Try.func53 rfl fun ww => ?_
  refine st_know (p := p.n = true) (fun w hw => by rw [z_neg (hw (p, x) (by simp))]; simp; omega) fun hn => ?_
  clear hy y0 g hx k
  refine st_fn ent64 (zulen6) sub0 (by kernel_rfl) ?_
  refine st_g ent136 (fa (p)) (subC 0 rfl sub0) (by kernel_rfl) (fun zq1 => ?_)
  refine st_round (by kernel_rfl) ?_
  refine st_fn ent64 (zulen6) sub0 (by kernel_rfl) ?_
  refine st_g ent109 (fzint (60000000000) (by assumption)) sub0 (by kernel_rfl) (fun zq3 => ?_)
  refine st_g ent122 (d0 (zq1) (zq3)) (subC 1 rfl (subC 0 rfl sub0)) (by kernel_rfl) (fun zq4 => ?_)
  refine st_b 34 (show (p.n) = true by assumption) (by kernel_rfl) ?_
  refine st_g ent128 (n0 (zq4.fst)) (subC 0 rfl sub0) (by kernel_rfl) (fun zq5 => ?_)
  refine st_fn ent111 (f0 (zq5)) (subC 0 rfl sub0) (by kernel_rfl) ?_
  refine st_i 46 .i64 (x' := 6 - 1) (Go.IntWalk.i64_in _ (by omega)) (by kernel_rfl) ?_
  refine st_i 24 .i64 (x' := 6 + 1) (Go.IntWalk.i64_in _ (by omega)) (by kernel_rfl) ?_
  refine st_round (by kernel_rfl) ?_
  refine st_fn ent64 (zulen7) sub0 (by kernel_rfl) ?_
  refine st_g ent109 (fzint (1000000000) (by assumption)) sub0 (by kernel_rfl) (fun zq8 => ?_)
  refine st_g ent122 (d1 (zq4.snd) (zq8)) (subC 3 rfl (subC 0 rfl sub0)) (by kernel_rfl) (fun zq9 => ?_)
  refine st_b 34 (show (p.n) = true by assumption) (by kernel_rfl) ?_
  refine st_g ent128 (n1 (zq9.fst)) (subC 0 rfl sub0) (by kernel_rfl) (fun zq10 => ?_)
  refine st_fn ent111 (f1 (zq10)) (subC 0 rfl sub0) (by kernel_rfl) ?_
  refine st_i 46 .i64 (x' := 6 + 1 - 1) (Go.IntWalk.i64_in _ (by omega)) (by kernel_rfl) ?_
  refine st_i 24 .i64 (x' := 6 + 1 + 1) (Go.IntWalk.i64_in _ (by omega)) (by kernel_rfl) ?_
  refine st_round (by kernel_rfl) ?_
  refine st_fn ent64 (zulen8) sub0 (by kernel_rfl) ?_
  refine st_g ent109 (fzint (1) (by assumption)) sub0 (by kernel_rfl) (fun zq13 => ?_)
  refine st_g ent122 (d2 (zq9.snd) (zq13)) (subC 3 rfl (subC 0 rfl sub0)) (by kernel_rfl) (fun zq14 => ?_)
  refine st_b 34 (show (p.n) = true by assumption) (by kernel_rfl) ?_
  refine st_g ent128 (n2 (zq14.fst)) (subC 0 rfl sub0) (by kernel_rfl) (fun zq15 => ?_)
  refine st_fn ent111 (f2 (zq15)) (subC 0 rfl sub0) (by kernel_rfl) ?_
  refine st_i 46 .i64 (x' := 6 + 1 + 1 - 1) (Go.IntWalk.i64_in _ (by omega)) (by kernel_rfl) ?_
  refine st_i 24 .i64 (x' := 6 + 1 + 1 + 1) (Go.IntWalk.i64_in _ (by omega)) (by kernel_rfl) ?_
  refine st_round (by kernel_rfl) ?_
  refine st_fn ent137 (zumade (0) (0) (0) (0) (0) (x.tdiv 60000000000) ((x.tmod 60000000000).tdiv 1000000000) (x.tmod 1000000000)) sub0 (by kernel_rfl) ?_
  refine st_fn ent67 (r) sub0 (by kernel_rfl) ?_
  exact st_ret Try.func53 (by kernel_rfl)
theorem zulay6n_o (p : ZQ) (x : Int) (hx : W128 x) (h0 : x < 0) (g : ¬ I64 (x.tdiv 60000000000)) : Fn 53 [(p, x)] [zv p, .int .i64 6] (.tuple #[du0, .int .i64 4]) := by
  have hy : Bits 900 (-x) := (hx.bits.neg).mono (by decide)
  have y0 : 0 ≤ (-x) := by omega
  have bL4 : Bits 900 86400000000000 := Bits.mono (show W128 86400000000000 by unfold W128; omega).bits (by decide)
  have bL5 : Bits 900 3600000000000 := Bits.mono (show W128 3600000000000 by unfold W128; omega).bits (by decide)
  have bL6 : Bits 900 60000000000 := Bits.mono (show W128 60000000000 by unfold W128; omega).bits (by decide)
  have bL7 : Bits 900 1000000000 := Bits.mono (show W128 1000000000 by unfold W128; omega).bits (by decide)
  have bL8 : Bits 900 1 := Bits.mono (show W128 1 by unfold W128; omega).bits (by decide)
  have j1 : I64 86400000000000 := by unfold I64; omega
  have j2 : I64 3600000000000 := by unfold I64; omega
  have j3 : I64 60000000000 := by unfold I64; omega
  have j4 : I64 1000000000 := by unfold I64; omega
  have j5 : I64 1 := by unfold I64; omega
  have j0 : I64 0 := by unfold I64; omega
  have fa : ∀ p : ZQ, FnZ 136 [(p, x)] [zv p] zv (-x) := fun p => by
    have t := fzabs p x (hx.bits.fit (by decide))
    rwa [show ((x.natAbs : Nat) : Int) = -x by omega] at t
  have d0 : ∀ p q : ZQ, FnZZ 122 [(p, (-x)), (q, 60000000000)] [zv p, zv q] (fun q => .tuple #[zv q.1, zv q.2]) ((-x).tdiv 60000000000) ((-x).tmod 60000000000) := fun p q => zdt p q (-x) 60000000000 y0 hy (by omega) bL6
  have g7 : I64 ((x.tmod 60000000000).tdiv 1000000000) := by have := td2 x 60000000000 1000000000 60 (by decide) (by omega) (by omega); unfold I64; omega
  have g8 : I64 (x.tmod 1000000000) := by
    obtain ⟨e1, e2, e3⟩ := td x 1000000000 (by omega)
    by_cases z : 0 ≤ x
    · have := e2 z; unfold I64; omega
    · have := e3 (by omega); unfold I64; omega
  have n0 : ∀ p : ZQ, FnZ 128 [(p, (-x).tdiv 60000000000)] [zv p] zv (x.tdiv 60000000000) := fun p => by
    have t := zng p ((-x).tdiv 60000000000) (tdvb (-x) 60000000000 y0 hy (by omega))
    rwa [show -((-x).tdiv 60000000000) = (x.tdiv 60000000000) by rw [Int.neg_tdiv, Int.neg_neg]] at t
  have f0 : ∀ p : ZQ, Fn 111 [(p, (x.tdiv 60000000000))] [zv p] (.tuple #[.int .i64 0, .bool false]) := fun p => by
    have t := fits_n p (x.tdiv 60000000000) (by rw [show (x.tdiv 60000000000) = -((-x).tdiv 60000000000) by rw [Int.neg_tdiv, Int.neg_neg]]; exact ((tdvb (-x) 60000000000 y0 hy (by omega)).neg).mono (by decide)) g
    exact t
  refine fn_of Try.func53 rfl fun ww => ?_
  refine st_know (p := p.n = true) (fun w hw => by rw [z_neg (hw (p, x) (by simp))]; simp; omega) fun hn => ?_
  clear hy y0 g hx
  refine st_fn ent64 (zulen6) sub0 (by kernel_rfl) ?_
  refine st_g ent136 (fa (p)) (subC 0 rfl sub0) (by kernel_rfl) (fun zq1 => ?_)
  refine st_round (by kernel_rfl) ?_
  refine st_fn ent64 (zulen6) sub0 (by kernel_rfl) ?_
  refine st_g ent109 (fzint (60000000000) (by assumption)) sub0 (by kernel_rfl) (fun zq3 => ?_)
  refine st_g ent122 (d0 (zq1) (zq3)) (subC 1 rfl (subC 0 rfl sub0)) (by kernel_rfl) (fun zq4 => ?_)
  refine st_b 34 (show (p.n) = true by assumption) (by kernel_rfl) ?_
  refine st_g ent128 (n0 (zq4.fst)) (subC 0 rfl sub0) (by kernel_rfl) (fun zq5 => ?_)
  refine st_fn ent111 (f0 (zq5)) (subC 0 rfl sub0) (by kernel_rfl) ?_
  exact st_ret Try.func53 (by kernel_rfl)
theorem zulay7p_y (p : ZQ) (x : Int) (hx : W128 x) (h0 : 0 ≤ x) (g : I64 (x.tdiv 1000000000)) (k : uOk 0 0 0 0 0 0 (x.tdiv 1000000000) (x.tmod 1000000000)) : Fn 53 [(p, x)] [zv p, .int .i64 7] (.tuple #[duv 0 0 0 0 0 0 (x.tdiv 1000000000) (x.tmod 1000000000), .int .i64 0]) := by
  have hy : Bits 900 x := hx.bits.mono (by decide)
  have y0 : 0 ≤ x := by omega
  have bL4 : Bits 900 86400000000000 := Bits.mono (show W128 86400000000000 by unfold W128; omega).bits (by decide)
  have bL5 : Bits 900 3600000000000 := Bits.mono (show W128 3600000000000 by unfold W128; omega).bits (by decide)
  have bL6 : Bits 900 60000000000 := Bits.mono (show W128 60000000000 by unfold W128; omega).bits (by decide)
  have bL7 : Bits 900 1000000000 := Bits.mono (show W128 1000000000 by unfold W128; omega).bits (by decide)
  have bL8 : Bits 900 1 := Bits.mono (show W128 1 by unfold W128; omega).bits (by decide)
  have j1 : I64 86400000000000 := by unfold I64; omega
  have j2 : I64 3600000000000 := by unfold I64; omega
  have j3 : I64 60000000000 := by unfold I64; omega
  have j4 : I64 1000000000 := by unfold I64; omega
  have j5 : I64 1 := by unfold I64; omega
  have j0 : I64 0 := by unfold I64; omega
  have fa : ∀ p : ZQ, FnZ 136 [(p, x)] [zv p] zv x := fun p => by
    have t := fzabs p x (hx.bits.fit (by decide))
    rwa [show ((x.natAbs : Nat) : Int) = x by omega] at t
  have d0 : ∀ p q : ZQ, FnZZ 122 [(p, x), (q, 1000000000)] [zv p, zv q] (fun q => .tuple #[zv q.1, zv q.2]) (x.tdiv 1000000000) (x.tmod 1000000000) := fun p q => zdt p q x 1000000000 y0 hy (by omega) bL7
  have d1 : ∀ p q : ZQ, FnZZ 122 [(p, x.tmod 1000000000), (q, 1)] [zv p, zv q] (fun q => .tuple #[zv q.1, zv q.2]) ((x.tmod 1000000000).tdiv 1) (x.tmod 1) := fun p q => zdc p q x 1000000000 1 y0 (by omega) bL7 (by omega) bL8 (by decide)
  have g8 : I64 (x.tmod 1000000000) := by
    obtain ⟨e1, e2, e3⟩ := td x 1000000000 (by omega)
    by_cases z : 0 ≤ x
    · have := e2 z; unfold I64; omega
    · have := e3 (by omega); unfold I64; omega
  have f0 : ∀ p : ZQ, Fn 111 [(p, x.tdiv 1000000000)] [zv p] (.tuple #[.int .i64 (x.tdiv 1000000000), .bool true]) := fun p => by
    have t := fits_f p (x.tdiv 1000000000) (g.w.bits.mono (by decide)) g
    exact t
  have f1 : ∀ p : ZQ, Fn 111 [(p, (x.tmod 1000000000).tdiv 1)] [zv p] (.tuple #[.int .i64 (x.tmod 1000000000), .bool true]) := fun p => by
    have t := fits_f p (x.tmod 1000000000) (g8.w.bits.mono (by decide)) g8
    simpa only [tdiv_1] using t
  have r := zuright_y 0 0 0 0 0 0 (x.tdiv 1000000000) (x.tmod 1000000000) ⟨j0, j0, j0, j0, j0, j0, g, g8⟩ k
  refine fn_of Try.func53 rfl fun ww => ?_
  refine st_know (p := p.n = false) (fun w hw => by rw [z_neg (hw (p, x) (by simp))]; simp; omega) fun hn => ?_
  clear hy y0 g hx k
  refine st_fn ent64 (zulen7) sub0 (by kernel_rfl) ?_
  refine st_g ent136 (fa (p)) (subC 0 rfl sub0) (by kernel_rfl) (fun zq1 => ?_)
  refine st_round (by kernel_rfl) ?_
  refine st_fn ent64 (zulen7) sub0 (by kernel_rfl) ?_
  refine st_g ent109 (fzint (1000000000) (by assumption)) sub0 (by kernel_rfl) (fun zq3 => ?_)
  refine st_g ent122 (d0 (zq1) (zq3)) (subC 1 rfl (subC 0 rfl sub0)) (by kernel_rfl) (fun zq4 => ?_)
  refine st_b 34 (show (p.n) = false by assumption) (by kernel_rfl) ?_
  refine st_fn ent111 (f0 (zq4.fst)) (subC 0 rfl sub0) (by kernel_rfl) ?_
  refine st_i 46 .i64 (x' := 7 - 1) (Go.IntWalk.i64_in _ (by omega)) (by kernel_rfl) ?_
  refine st_i 24 .i64 (x' := 7 + 1) (Go.IntWalk.i64_in _ (by omega)) (by kernel_rfl) ?_
  refine st_round (by kernel_rfl) ?_
  refine st_fn ent64 (zulen8) sub0 (by kernel_rfl) ?_
  refine st_g ent109 (fzint (1) (by assumption)) sub0 (by kernel_rfl) (fun zq7 => ?_)
  refine st_g ent122 (d1 (zq4.snd) (zq7)) (subC 2 rfl (subC 0 rfl sub0)) (by kernel_rfl) (fun zq8 => ?_)
  refine st_b 34 (show (p.n) = false by assumption) (by kernel_rfl) ?_
  refine st_fn ent111 (f1 (zq8.fst)) (subC 0 rfl sub0) (by kernel_rfl) ?_
  refine st_i 46 .i64 (x' := 7 + 1 - 1) (Go.IntWalk.i64_in _ (by omega)) (by kernel_rfl) ?_
  refine st_i 24 .i64 (x' := 7 + 1 + 1) (Go.IntWalk.i64_in _ (by omega)) (by kernel_rfl) ?_
  refine st_round (by kernel_rfl) ?_
  refine st_fn ent137 (zumade (0) (0) (0) (0) (0) (0) (x.tdiv 1000000000) (x.tmod 1000000000)) sub0 (by kernel_rfl) ?_
  refine st_fn ent67 (r) sub0 (by kernel_rfl) ?_
  exact st_ret Try.func53 (by kernel_rfl)
theorem zulay7p_r (p : ZQ) (x : Int) (hx : W128 x) (h0 : 0 ≤ x) (g : I64 (x.tdiv 1000000000)) (k : ¬ uOk 0 0 0 0 0 0 (x.tdiv 1000000000) (x.tmod 1000000000)) : Fn 53 [(p, x)] [zv p, .int .i64 7] (.tuple #[du0, .int .i64 4]) := by
  have hy : Bits 900 x := hx.bits.mono (by decide)
  have y0 : 0 ≤ x := by omega
  have bL4 : Bits 900 86400000000000 := Bits.mono (show W128 86400000000000 by unfold W128; omega).bits (by decide)
  have bL5 : Bits 900 3600000000000 := Bits.mono (show W128 3600000000000 by unfold W128; omega).bits (by decide)
  have bL6 : Bits 900 60000000000 := Bits.mono (show W128 60000000000 by unfold W128; omega).bits (by decide)
  have bL7 : Bits 900 1000000000 := Bits.mono (show W128 1000000000 by unfold W128; omega).bits (by decide)
  have bL8 : Bits 900 1 := Bits.mono (show W128 1 by unfold W128; omega).bits (by decide)
  have j1 : I64 86400000000000 := by unfold I64; omega
  have j2 : I64 3600000000000 := by unfold I64; omega
  have j3 : I64 60000000000 := by unfold I64; omega
  have j4 : I64 1000000000 := by unfold I64; omega
  have j5 : I64 1 := by unfold I64; omega
  have j0 : I64 0 := by unfold I64; omega
  have fa : ∀ p : ZQ, FnZ 136 [(p, x)] [zv p] zv x := fun p => by
    have t := fzabs p x (hx.bits.fit (by decide))
    rwa [show ((x.natAbs : Nat) : Int) = x by omega] at t
  have d0 : ∀ p q : ZQ, FnZZ 122 [(p, x), (q, 1000000000)] [zv p, zv q] (fun q => .tuple #[zv q.1, zv q.2]) (x.tdiv 1000000000) (x.tmod 1000000000) := fun p q => zdt p q x 1000000000 y0 hy (by omega) bL7
  have d1 : ∀ p q : ZQ, FnZZ 122 [(p, x.tmod 1000000000), (q, 1)] [zv p, zv q] (fun q => .tuple #[zv q.1, zv q.2]) ((x.tmod 1000000000).tdiv 1) (x.tmod 1) := fun p q => zdc p q x 1000000000 1 y0 (by omega) bL7 (by omega) bL8 (by decide)
  have g8 : I64 (x.tmod 1000000000) := by
    obtain ⟨e1, e2, e3⟩ := td x 1000000000 (by omega)
    by_cases z : 0 ≤ x
    · have := e2 z; unfold I64; omega
    · have := e3 (by omega); unfold I64; omega
  have f0 : ∀ p : ZQ, Fn 111 [(p, x.tdiv 1000000000)] [zv p] (.tuple #[.int .i64 (x.tdiv 1000000000), .bool true]) := fun p => by
    have t := fits_f p (x.tdiv 1000000000) (g.w.bits.mono (by decide)) g
    exact t
  have f1 : ∀ p : ZQ, Fn 111 [(p, (x.tmod 1000000000).tdiv 1)] [zv p] (.tuple #[.int .i64 (x.tmod 1000000000), .bool true]) := fun p => by
    have t := fits_f p (x.tmod 1000000000) (g8.w.bits.mono (by decide)) g8
    simpa only [tdiv_1] using t
  have r := zuright_f 0 0 0 0 0 0 (x.tdiv 1000000000) (x.tmod 1000000000) ⟨j0, j0, j0, j0, j0, j0, g, g8⟩ k
  refine fn_of Try.func53 rfl fun ww => ?_
  refine st_know (p := p.n = false) (fun w hw => by rw [z_neg (hw (p, x) (by simp))]; simp; omega) fun hn => ?_
  clear hy y0 g hx k
  refine st_fn ent64 (zulen7) sub0 (by kernel_rfl) ?_
  refine st_g ent136 (fa (p)) (subC 0 rfl sub0) (by kernel_rfl) (fun zq1 => ?_)
  refine st_round (by kernel_rfl) ?_
  refine st_fn ent64 (zulen7) sub0 (by kernel_rfl) ?_
  refine st_g ent109 (fzint (1000000000) (by assumption)) sub0 (by kernel_rfl) (fun zq3 => ?_)
  refine st_g ent122 (d0 (zq1) (zq3)) (subC 1 rfl (subC 0 rfl sub0)) (by kernel_rfl) (fun zq4 => ?_)
  refine st_b 34 (show (p.n) = false by assumption) (by kernel_rfl) ?_
  refine st_fn ent111 (f0 (zq4.fst)) (subC 0 rfl sub0) (by kernel_rfl) ?_
  refine st_i 46 .i64 (x' := 7 - 1) (Go.IntWalk.i64_in _ (by omega)) (by kernel_rfl) ?_
  refine st_i 24 .i64 (x' := 7 + 1) (Go.IntWalk.i64_in _ (by omega)) (by kernel_rfl) ?_
  refine st_round (by kernel_rfl) ?_
  refine st_fn ent64 (zulen8) sub0 (by kernel_rfl) ?_
  refine st_g ent109 (fzint (1) (by assumption)) sub0 (by kernel_rfl) (fun zq7 => ?_)
  refine st_g ent122 (d1 (zq4.snd) (zq7)) (subC 2 rfl (subC 0 rfl sub0)) (by kernel_rfl) (fun zq8 => ?_)
  refine st_b 34 (show (p.n) = false by assumption) (by kernel_rfl) ?_
  refine st_fn ent111 (f1 (zq8.fst)) (subC 0 rfl sub0) (by kernel_rfl) ?_
  refine st_i 46 .i64 (x' := 7 + 1 - 1) (Go.IntWalk.i64_in _ (by omega)) (by kernel_rfl) ?_
  refine st_i 24 .i64 (x' := 7 + 1 + 1) (Go.IntWalk.i64_in _ (by omega)) (by kernel_rfl) ?_
  refine st_round (by kernel_rfl) ?_
  refine st_fn ent137 (zumade (0) (0) (0) (0) (0) (0) (x.tdiv 1000000000) (x.tmod 1000000000)) sub0 (by kernel_rfl) ?_
  refine st_fn ent67 (r) sub0 (by kernel_rfl) ?_
  exact st_ret Try.func53 (by kernel_rfl)
theorem zulay7p_o (p : ZQ) (x : Int) (hx : W128 x) (h0 : 0 ≤ x) (g : ¬ I64 (x.tdiv 1000000000)) : Fn 53 [(p, x)] [zv p, .int .i64 7] (.tuple #[du0, .int .i64 4]) := by
  have hy : Bits 900 x := hx.bits.mono (by decide)
  have y0 : 0 ≤ x := by omega
  have bL4 : Bits 900 86400000000000 := Bits.mono (show W128 86400000000000 by unfold W128; omega).bits (by decide)
  have bL5 : Bits 900 3600000000000 := Bits.mono (show W128 3600000000000 by unfold W128; omega).bits (by decide)
  have bL6 : Bits 900 60000000000 := Bits.mono (show W128 60000000000 by unfold W128; omega).bits (by decide)
  have bL7 : Bits 900 1000000000 := Bits.mono (show W128 1000000000 by unfold W128; omega).bits (by decide)
  have bL8 : Bits 900 1 := Bits.mono (show W128 1 by unfold W128; omega).bits (by decide)
  have j1 : I64 86400000000000 := by unfold I64; omega
  have j2 : I64 3600000000000 := by unfold I64; omega
  have j3 : I64 60000000000 := by unfold I64; omega
  have j4 : I64 1000000000 := by unfold I64; omega
  have j5 : I64 1 := by unfold I64; omega
  have j0 : I64 0 := by unfold I64; omega
  have fa : ∀ p : ZQ, FnZ 136 [(p, x)] [zv p] zv x := fun p => by
    have t := fzabs p x (hx.bits.fit (by decide))
    rwa [show ((x.natAbs : Nat) : Int) = x by omega] at t
  have d0 : ∀ p q : ZQ, FnZZ 122 [(p, x), (q, 1000000000)] [zv p, zv q] (fun q => .tuple #[zv q.1, zv q.2]) (x.tdiv 1000000000) (x.tmod 1000000000) := fun p q => zdt p q x 1000000000 y0 hy (by omega) bL7
  have g8 : I64 (x.tmod 1000000000) := by
    obtain ⟨e1, e2, e3⟩ := td x 1000000000 (by omega)
    by_cases z : 0 ≤ x
    · have := e2 z; unfold I64; omega
    · have := e3 (by omega); unfold I64; omega
  have f0 : ∀ p : ZQ, Fn 111 [(p, x.tdiv 1000000000)] [zv p] (.tuple #[.int .i64 0, .bool false]) := fun p => by
    have t := fits_n p (x.tdiv 1000000000) ((tdvb x 1000000000 y0 hy (by omega)).mono (by decide)) g
    exact t
  refine fn_of Try.func53 rfl fun ww => ?_
  refine st_know (p := p.n = false) (fun w hw => by rw [z_neg (hw (p, x) (by simp))]; simp; omega) fun hn => ?_
  clear hy y0 g hx
  refine st_fn ent64 (zulen7) sub0 (by kernel_rfl) ?_
  refine st_g ent136 (fa (p)) (subC 0 rfl sub0) (by kernel_rfl) (fun zq1 => ?_)
  refine st_round (by kernel_rfl) ?_
  refine st_fn ent64 (zulen7) sub0 (by kernel_rfl) ?_
  refine st_g ent109 (fzint (1000000000) (by assumption)) sub0 (by kernel_rfl) (fun zq3 => ?_)
  refine st_g ent122 (d0 (zq1) (zq3)) (subC 1 rfl (subC 0 rfl sub0)) (by kernel_rfl) (fun zq4 => ?_)
  refine st_b 34 (show (p.n) = false by assumption) (by kernel_rfl) ?_
  refine st_fn ent111 (f0 (zq4.fst)) (subC 0 rfl sub0) (by kernel_rfl) ?_
  exact st_ret Try.func53 (by kernel_rfl)
theorem zulay7n_y (p : ZQ) (x : Int) (hx : W128 x) (h0 : x < 0) (g : I64 (x.tdiv 1000000000)) (k : uOk 0 0 0 0 0 0 (x.tdiv 1000000000) (x.tmod 1000000000)) : Fn 53 [(p, x)] [zv p, .int .i64 7] (.tuple #[duv 0 0 0 0 0 0 (x.tdiv 1000000000) (x.tmod 1000000000), .int .i64 0]) := by
  have hy : Bits 900 (-x) := (hx.bits.neg).mono (by decide)
  have y0 : 0 ≤ (-x) := by omega
  have bL4 : Bits 900 86400000000000 := Bits.mono (show W128 86400000000000 by unfold W128; omega).bits (by decide)
  have bL5 : Bits 900 3600000000000 := Bits.mono (show W128 3600000000000 by unfold W128; omega).bits (by decide)
  have bL6 : Bits 900 60000000000 := Bits.mono (show W128 60000000000 by unfold W128; omega).bits (by decide)
  have bL7 : Bits 900 1000000000 := Bits.mono (show W128 1000000000 by unfold W128; omega).bits (by decide)
  have bL8 : Bits 900 1 := Bits.mono (show W128 1 by unfold W128; omega).bits (by decide)
  have j1 : I64 86400000000000 := by unfold I64; omega
  have j2 : I64 3600000000000 := by unfold I64; omega
  have j3 : I64 60000000000 := by unfold I64; omega
  have j4 : I64 1000000000 := by unfold I64; omega
  have j5 : I64 1 := by unfold I64; omega
  have j0 : I64 0 := by unfold I64; omega
  have fa : ∀ p : ZQ, FnZ 136 [(p, x)] [zv p] zv (-x) := fun p => by
    have t := fzabs p x (hx.bits.fit (by decide))
    rwa [show ((x.natAbs : Nat) : Int) = -x by omega] at t
  have d0 : ∀ p q : ZQ, FnZZ 122 [(p, (-x)), (q, 1000000000)] [zv p, zv q] (fun q => .tuple #[zv q.1, zv q.2]) ((-x).tdiv 1000000000) ((-x).tmod 1000000000) := fun p q => zdt p q (-x) 1000000000 y0 hy (by omega) bL7
  have d1 : ∀ p q : ZQ, FnZZ 122 [(p, (-x).tmod 1000000000), (q, 1)] [zv p, zv q] (fun q => .tuple #[zv q.1, zv q.2]) (((-x).tmod 1000000000).tdiv 1) ((-x).tmod 1) := fun p q => zdc p q (-x) 1000000000 1 y0 (by omega) bL7 (by omega) bL8 (by decide)
  have g8 : I64 (x.tmod 1000000000) := by
    obtain ⟨e1, e2, e3⟩ := td x 1000000000 (by omega)
    by_cases z : 0 ≤ x
    · have := e2 z; unfold I64; omega
    · have := e3 (by omega); unfold I64; omega
  have n0 : ∀ p : ZQ, FnZ 128 [(p, (-x).tdiv 1000000000)] [zv p] zv (x.tdiv 1000000000) := fun p => by
    have t := zng p ((-x).tdiv 1000000000) (tdvb (-x) 1000000000 y0 hy (by omega))
    rwa [show -((-x).tdiv 1000000000) = (x.tdiv 1000000000) by rw [Int.neg_tdiv, Int.neg_neg]] at t
  have f0 : ∀ p : ZQ, Fn 111 [(p, (x.tdiv 1000000000))] [zv p] (.tuple #[.int .i64 (x.tdiv 1000000000), .bool true]) := fun p => by
    have t := fits_f p (x.tdiv 1000000000) (g.w.bits.mono (by decide)) g
    exact t
  have n1 : ∀ p : ZQ, FnZ 128 [(p, ((-x).tmod 1000000000).tdiv 1)] [zv p] zv (x.tmod 1000000000) := fun p => by
    have t := zng p (((-x).tmod 1000000000).tdiv 1) (tdvb _ 1 (tmod_nb (-x) 1000000000 y0 (by omega) bL7).1 (tmod_nb (-x) 1000000000 y0 (by omega) bL7).2 (by omega))
    rwa [show -(((-x).tmod 1000000000).tdiv 1) = (x.tmod 1000000000) by rw [Int.neg_tmod, Int.neg_tdiv, Int.neg_neg, tdiv_1]] at t
  have f1 : ∀ p : ZQ, Fn 111 [(p, (x.tmod 1000000000))] [zv p] (.tuple #[.int .i64 (x.tmod 1000000000), .bool true]) := fun p => by
    have t := fits_f p (x.tmod 1000000000) (g8.w.bits.mono (by decide)) g8
    exact t
  have r := zuright_y 0 0 0 0 0 0 (x.tdiv 1000000000) (x.tmod 1000000000) ⟨j0, j0, j0, j0, j0, j0, g, g8⟩ k
  refine fn_of Try.func53 rfl fun ww => ?_
  refine st_know (p := p.n = true) (fun w hw => by rw [z_neg (hw (p, x) (by simp))]; simp; omega) fun hn => ?_
  clear hy y0 g hx k
  refine st_fn ent64 (zulen7) sub0 (by kernel_rfl) ?_
  refine st_g ent136 (fa (p)) (subC 0 rfl sub0) (by kernel_rfl) (fun zq1 => ?_)
  refine st_round (by kernel_rfl) ?_
  refine st_fn ent64 (zulen7) sub0 (by kernel_rfl) ?_
  refine st_g ent109 (fzint (1000000000) (by assumption)) sub0 (by kernel_rfl) (fun zq3 => ?_)
  refine st_g ent122 (d0 (zq1) (zq3)) (subC 1 rfl (subC 0 rfl sub0)) (by kernel_rfl) (fun zq4 => ?_)
  refine st_b 34 (show (p.n) = true by assumption) (by kernel_rfl) ?_
  refine st_g ent128 (n0 (zq4.fst)) (subC 0 rfl sub0) (by kernel_rfl) (fun zq5 => ?_)
  refine st_fn ent111 (f0 (zq5)) (subC 0 rfl sub0) (by kernel_rfl) ?_
  refine st_i 46 .i64 (x' := 7 - 1) (Go.IntWalk.i64_in _ (by omega)) (by kernel_rfl) ?_
  refine st_i 24 .i64 (x' := 7 + 1) (Go.IntWalk.i64_in _ (by omega)) (by kernel_rfl) ?_
  refine st_round (by kernel_rfl) ?_
  refine st_fn ent64 (zulen8) sub0 (by kernel_rfl) ?_
  refine st_g ent109 (fzint (1) (by assumption)) sub0 (by kernel_rfl) (fun zq8 => ?_)
  refine st_g ent122 (d1 (zq4.snd) (zq8)) (subC 3 rfl (subC 0 rfl sub0)) (by kernel_rfl) (fun zq9 => ?_)
  refine st_b 34 (show (p.n) = true by assumption) (by kernel_rfl) ?_
  refine st_g ent128 (n1 (zq9.fst)) (subC 0 rfl sub0) (by kernel_rfl) (fun zq10 => ?_)
  refine st_fn ent111 (f1 (zq10)) (subC 0 rfl sub0) (by kernel_rfl) ?_
  refine st_i 46 .i64 (x' := 7 + 1 - 1) (Go.IntWalk.i64_in _ (by omega)) (by kernel_rfl) ?_
  refine st_i 24 .i64 (x' := 7 + 1 + 1) (Go.IntWalk.i64_in _ (by omega)) (by kernel_rfl) ?_
  refine st_round (by kernel_rfl) ?_
  refine st_fn ent137 (zumade (0) (0) (0) (0) (0) (0) (x.tdiv 1000000000) (x.tmod 1000000000)) sub0 (by kernel_rfl) ?_
  refine st_fn ent67 (r) sub0 (by kernel_rfl) ?_
  exact st_ret Try.func53 (by kernel_rfl)
theorem zulay7n_r (p : ZQ) (x : Int) (hx : W128 x) (h0 : x < 0) (g : I64 (x.tdiv 1000000000)) (k : ¬ uOk 0 0 0 0 0 0 (x.tdiv 1000000000) (x.tmod 1000000000)) : Fn 53 [(p, x)] [zv p, .int .i64 7] (.tuple #[du0, .int .i64 4]) := by
  have hy : Bits 900 (-x) := (hx.bits.neg).mono (by decide)
  have y0 : 0 ≤ (-x) := by omega
  have bL4 : Bits 900 86400000000000 := Bits.mono (show W128 86400000000000 by unfold W128; omega).bits (by decide)
  have bL5 : Bits 900 3600000000000 := Bits.mono (show W128 3600000000000 by unfold W128; omega).bits (by decide)
  have bL6 : Bits 900 60000000000 := Bits.mono (show W128 60000000000 by unfold W128; omega).bits (by decide)
  have bL7 : Bits 900 1000000000 := Bits.mono (show W128 1000000000 by unfold W128; omega).bits (by decide)
  have bL8 : Bits 900 1 := Bits.mono (show W128 1 by unfold W128; omega).bits (by decide)
  have j1 : I64 86400000000000 := by unfold I64; omega
  have j2 : I64 3600000000000 := by unfold I64; omega
  have j3 : I64 60000000000 := by unfold I64; omega
  have j4 : I64 1000000000 := by unfold I64; omega
  have j5 : I64 1 := by unfold I64; omega
  have j0 : I64 0 := by unfold I64; omega
  have fa : ∀ p : ZQ, FnZ 136 [(p, x)] [zv p] zv (-x) := fun p => by
    have t := fzabs p x (hx.bits.fit (by decide))
    rwa [show ((x.natAbs : Nat) : Int) = -x by omega] at t
  have d0 : ∀ p q : ZQ, FnZZ 122 [(p, (-x)), (q, 1000000000)] [zv p, zv q] (fun q => .tuple #[zv q.1, zv q.2]) ((-x).tdiv 1000000000) ((-x).tmod 1000000000) := fun p q => zdt p q (-x) 1000000000 y0 hy (by omega) bL7
  have d1 : ∀ p q : ZQ, FnZZ 122 [(p, (-x).tmod 1000000000), (q, 1)] [zv p, zv q] (fun q => .tuple #[zv q.1, zv q.2]) (((-x).tmod 1000000000).tdiv 1) ((-x).tmod 1) := fun p q => zdc p q (-x) 1000000000 1 y0 (by omega) bL7 (by omega) bL8 (by decide)
  have g8 : I64 (x.tmod 1000000000) := by
    obtain ⟨e1, e2, e3⟩ := td x 1000000000 (by omega)
    by_cases z : 0 ≤ x
    · have := e2 z; unfold I64; omega
    · have := e3 (by omega); unfold I64; omega
  have n0 : ∀ p : ZQ, FnZ 128 [(p, (-x).tdiv 1000000000)] [zv p] zv (x.tdiv 1000000000) := fun p => by
    have t := zng p ((-x).tdiv 1000000000) (tdvb (-x) 1000000000 y0 hy (by omega))
    rwa [show -((-x).tdiv 1000000000) = (x.tdiv 1000000000) by rw [Int.neg_tdiv, Int.neg_neg]] at t
  have f0 : ∀ p : ZQ, Fn 111 [(p, (x.tdiv 1000000000))] [zv p] (.tuple #[.int .i64 (x.tdiv 1000000000), .bool true]) := fun p => by
    have t := fits_f p (x.tdiv 1000000000) (g.w.bits.mono (by decide)) g
    exact t
  have n1 : ∀ p : ZQ, FnZ 128 [(p, ((-x).tmod 1000000000).tdiv 1)] [zv p] zv (x.tmod 1000000000) := fun p => by
    have t := zng p (((-x).tmod 1000000000).tdiv 1) (tdvb _ 1 (tmod_nb (-x) 1000000000 y0 (by omega) bL7).1 (tmod_nb (-x) 1000000000 y0 (by omega) bL7).2 (by omega))
    rwa [show -(((-x).tmod 1000000000).tdiv 1) = (x.tmod 1000000000) by rw [Int.neg_tmod, Int.neg_tdiv, Int.neg_neg, tdiv_1]] at t
  have f1 : ∀ p : ZQ, Fn 111 [(p, (x.tmod 1000000000))] [zv p] (.tuple #[.int .i64 (x.tmod 1000000000), .bool true]) := fun p => by
    have t := fits_f p (x.tmod 1000000000) (g8.w.bits.mono (by decide)) g8
    exact t
  have r := zuright_f 0 0 0 0 0 0 (x.tdiv 1000000000) (x.tmod 1000000000) ⟨j0, j0, j0, j0, j0, j0, g, g8⟩ k
  refine fn_of Try.func53 rfl fun ww => ?_
  refine st_know (p := p.n = true) (fun w hw => by rw [z_neg (hw (p, x) (by simp))]; simp; omega) fun hn => ?_
  clear hy y0 g hx k
  refine st_fn ent64 (zulen7) sub0 (by kernel_rfl) ?_
  refine st_g ent136 (fa (p)) (subC 0 rfl sub0) (by kernel_rfl) (fun zq1 => ?_)
  refine st_round (by kernel_rfl) ?_
  refine st_fn ent64 (zulen7) sub0 (by kernel_rfl) ?_
  refine st_g ent109 (fzint (1000000000) (by assumption)) sub0 (by kernel_rfl) (fun zq3 => ?_)
  refine st_g ent122 (d0 (zq1) (zq3)) (subC 1 rfl (subC 0 rfl sub0)) (by kernel_rfl) (fun zq4 => ?_)
  refine st_b 34 (show (p.n) = true by assumption) (by kernel_rfl) ?_
  refine st_g ent128 (n0 (zq4.fst)) (subC 0 rfl sub0) (by kernel_rfl) (fun zq5 => ?_)
  refine st_fn ent111 (f0 (zq5)) (subC 0 rfl sub0) (by kernel_rfl) ?_
  refine st_i 46 .i64 (x' := 7 - 1) (Go.IntWalk.i64_in _ (by omega)) (by kernel_rfl) ?_
  refine st_i 24 .i64 (x' := 7 + 1) (Go.IntWalk.i64_in _ (by omega)) (by kernel_rfl) ?_
  refine st_round (by kernel_rfl) ?_
  refine st_fn ent64 (zulen8) sub0 (by kernel_rfl) ?_
  refine st_g ent109 (fzint (1) (by assumption)) sub0 (by kernel_rfl) (fun zq8 => ?_)
  refine st_g ent122 (d1 (zq4.snd) (zq8)) (subC 3 rfl (subC 0 rfl sub0)) (by kernel_rfl) (fun zq9 => ?_)
  refine st_b 34 (show (p.n) = true by assumption) (by kernel_rfl) ?_
  refine st_g ent128 (n1 (zq9.fst)) (subC 0 rfl sub0) (by kernel_rfl) (fun zq10 => ?_)
  refine st_fn ent111 (f1 (zq10)) (subC 0 rfl sub0) (by kernel_rfl) ?_
  refine st_i 46 .i64 (x' := 7 + 1 - 1) (Go.IntWalk.i64_in _ (by omega)) (by kernel_rfl) ?_
  refine st_i 24 .i64 (x' := 7 + 1 + 1) (Go.IntWalk.i64_in _ (by omega)) (by kernel_rfl) ?_
  refine st_round (by kernel_rfl) ?_
  refine st_fn ent137 (zumade (0) (0) (0) (0) (0) (0) (x.tdiv 1000000000) (x.tmod 1000000000)) sub0 (by kernel_rfl) ?_
  refine st_fn ent67 (r) sub0 (by kernel_rfl) ?_
  exact st_ret Try.func53 (by kernel_rfl)
theorem zulay7n_o (p : ZQ) (x : Int) (hx : W128 x) (h0 : x < 0) (g : ¬ I64 (x.tdiv 1000000000)) : Fn 53 [(p, x)] [zv p, .int .i64 7] (.tuple #[du0, .int .i64 4]) := by
  have hy : Bits 900 (-x) := (hx.bits.neg).mono (by decide)
  have y0 : 0 ≤ (-x) := by omega
  have bL4 : Bits 900 86400000000000 := Bits.mono (show W128 86400000000000 by unfold W128; omega).bits (by decide)
  have bL5 : Bits 900 3600000000000 := Bits.mono (show W128 3600000000000 by unfold W128; omega).bits (by decide)
  have bL6 : Bits 900 60000000000 := Bits.mono (show W128 60000000000 by unfold W128; omega).bits (by decide)
  have bL7 : Bits 900 1000000000 := Bits.mono (show W128 1000000000 by unfold W128; omega).bits (by decide)
  have bL8 : Bits 900 1 := Bits.mono (show W128 1 by unfold W128; omega).bits (by decide)
  have j1 : I64 86400000000000 := by unfold I64; omega
  have j2 : I64 3600000000000 := by unfold I64; omega
  have j3 : I64 60000000000 := by unfold I64; omega
  have j4 : I64 1000000000 := by unfold I64; omega
  have j5 : I64 1 := by unfold I64; omega
  have j0 : I64 0 := by unfold I64; omega
  have fa : ∀ p : ZQ, FnZ 136 [(p, x)] [zv p] zv (-x) := fun p => by
    have t := fzabs p x (hx.bits.fit (by decide))
    rwa [show ((x.natAbs : Nat) : Int) = -x by omega] at t
  have d0 : ∀ p q : ZQ, FnZZ 122 [(p, (-x)), (q, 1000000000)] [zv p, zv q] (fun q => .tuple #[zv q.1, zv q.2]) ((-x).tdiv 1000000000) ((-x).tmod 1000000000) := fun p q => zdt p q (-x) 1000000000 y0 hy (by omega) bL7
  have g8 : I64 (x.tmod 1000000000) := by
    obtain ⟨e1, e2, e3⟩ := td x 1000000000 (by omega)
    by_cases z : 0 ≤ x
    · have := e2 z; unfold I64; omega
    · have := e3 (by omega); unfold I64; omega
  have n0 : ∀ p : ZQ, FnZ 128 [(p, (-x).tdiv 1000000000)] [zv p] zv (x.tdiv 1000000000) := fun p => by
    have t := zng p ((-x).tdiv 1000000000) (tdvb (-x) 1000000000 y0 hy (by omega))
    rwa [show -((-x).tdiv 1000000000) = (x.tdiv 1000000000) by rw [Int.neg_tdiv, Int.neg_neg]] at t
  have f0 : ∀ p : ZQ, Fn 111 [(p, (x.tdiv 1000000000))] [zv p] (.tuple #[.int .i64 0, .bool false]) := fun p => by
    have t := fits_n p (x.tdiv 1000000000) (by rw [show (x.tdiv 1000000000) = -((-x).tdiv 1000000000) by rw [Int.neg_tdiv, Int.neg_neg]]; exact ((tdvb (-x) 1000000000 y0 hy (by omega)).neg).mono (by decide)) g
    exact t
  refine fn_of Try.func53 rfl fun ww => ?_
  refine st_know (p := p.n = true) (fun w hw => by rw [z_neg (hw (p, x) (by simp))]; simp; omega) fun hn => ?_
  clear hy y0 g hx
  refine st_fn ent64 (zulen7) sub0 (by kernel_rfl) ?_
  refine st_g ent136 (fa (p)) (subC 0 rfl sub0) (by kernel_rfl) (fun zq1 => ?_)
  refine st_round (by kernel_rfl) ?_
  refine st_fn ent64 (zulen7) sub0 (by kernel_rfl) ?_
  refine st_g ent109 (fzint (1000000000) (by assumption)) sub0 (by kernel_rfl) (fun zq3 => ?_)
  refine st_g ent122 (d0 (zq1) (zq3)) (subC 1 rfl (subC 0 rfl sub0)) (by kernel_rfl) (fun zq4 => ?_)
  refine st_b 34 (show (p.n) = true by assumption) (by kernel_rfl) ?_
  refine st_g ent128 (n0 (zq4.fst)) (subC 0 rfl sub0) (by kernel_rfl) (fun zq5 => ?_)
  refine st_fn ent111 (f0 (zq5)) (subC 0 rfl sub0) (by kernel_rfl) ?_
  exact st_ret Try.func53 (by kernel_rfl)
theorem zulay8p_y (p : ZQ) (x : Int) (hx : W128 x) (h0 : 0 ≤ x) (g : I64 x) (k : uOk 0 0 0 0 0 0 0 x) : Fn 53 [(p, x)] [zv p, .int .i64 8] (.tuple #[duv 0 0 0 0 0 0 0 x, .int .i64 0]) := by
  have hy : Bits 900 x := hx.bits.mono (by decide)
  have y0 : 0 ≤ x := by omega
  have bL4 : Bits 900 86400000000000 := Bits.mono (show W128 86400000000000 by unfold W128; omega).bits (by decide)
  have bL5 : Bits 900 3600000000000 := Bits.mono (show W128 3600000000000 by unfold W128; omega).bits (by decide)
  have bL6 : Bits 900 60000000000 := Bits.mono (show W128 60000000000 by unfold W128; omega).bits (by decide)
  have bL7 : Bits 900 1000000000 := Bits.mono (show W128 1000000000 by unfold W128; omega).bits (by decide)
  have bL8 : Bits 900 1 := Bits.mono (show W128 1 by unfold W128; omega).bits (by decide)
  have j1 : I64 86400000000000 := by unfold I64; omega
  have j2 : I64 3600000000000 := by unfold I64; omega
  have j3 : I64 60000000000 := by unfold I64; omega
  have j4 : I64 1000000000 := by unfold I64; omega
  have j5 : I64 1 := by unfold I64; omega
  have j0 : I64 0 := by unfold I64; omega
  have fa : ∀ p : ZQ, FnZ 136 [(p, x)] [zv p] zv x := fun p => by
    have t := fzabs p x (hx.bits.fit (by decide))
    rwa [show ((x.natAbs : Nat) : Int) = x by omega] at t
  have d0 : ∀ p q : ZQ, FnZZ 122 [(p, x), (q, 1)] [zv p, zv q] (fun q => .tuple #[zv q.1, zv q.2]) (x.tdiv 1) (x.tmod 1) := fun p q => zdt p q x 1 y0 hy (by omega) bL8
  have f0 : ∀ p : ZQ, Fn 111 [(p, x.tdiv 1)] [zv p] (.tuple #[.int .i64 x, .bool true]) := fun p => by
    have t := fits_f p x (g.w.bits.mono (by decide)) g
    simpa only [tdiv_1] using t
  have r := zuright_y 0 0 0 0 0 0 0 x ⟨j0, j0, j0, j0, j0, j0, j0, g⟩ k
  refine fn_of Try.func53 rfl fun ww => ?_
  refine st_know (p := p.n = false) (fun w hw => by rw [z_neg (hw (p, x) (by simp))]; simp; omega) fun hn => ?_
  clear hy y0 g hx k
  refine st_fn ent64 (zulen8) sub0 (by kernel_rfl) ?_
  refine st_g ent136 (fa (p)) (subC 0 rfl sub0) (by kernel_rfl) (fun zq1 => ?_)
  refine st_round (by kernel_rfl) ?_
  refine st_fn ent64 (zulen8) sub0 (by kernel_rfl) ?_
  refine st_g ent109 (fzint (1) (by assumption)) sub0 (by kernel_rfl) (fun zq3 => ?_)
  refine st_g ent122 (d0 (zq1) (zq3)) (subC 1 rfl (subC 0 rfl sub0)) (by kernel_rfl) (fun zq4 => ?_)
  refine st_b 34 (show (p.n) = false by assumption) (by kernel_rfl) ?_
  refine st_fn ent111 (f0 (zq4.fst)) (subC 0 rfl sub0) (by kernel_rfl) ?_
  refine st_i 46 .i64 (x' := 8 - 1) (Go.IntWalk.i64_in _ (by omega)) (by kernel_rfl) ?_
  refine st_i 24 .i64 (x' := 8 + 1) (Go.IntWalk.i64_in _ (by omega)) (by kernel_rfl) ?_
  refine st_round (by kernel_rfl) ?_
  refine st_fn ent137 (zumade (0) (0) (0) (0) (0) (0) (0) (x)) sub0 (by kernel_rfl) ?_
  refine st_fn ent67 (r) sub0 (by kernel_rfl) ?_
  exact st_ret Try.func53 (by kernel_rfl)
theorem zulay8p_r (p : ZQ) (x : Int) (hx : W128 x) (h0 : 0 ≤ x) (g : I64 x) (k : ¬ uOk 0 0 0 0 0 0 0 x) : Fn 53 [(p, x)] [zv p, .int .i64 8] (.tuple #[du0, .int .i64 4]) := by
  have hy : Bits 900 x := hx.bits.mono (by decide)
  have y0 : 0 ≤ x := by omega
  have bL4 : Bits 900 86400000000000 := Bits.mono (show W128 86400000000000 by unfold W128; omega).bits (by decide)
  have bL5 : Bits 900 3600000000000 := Bits.mono (show W128 3600000000000 by unfold W128; omega).bits (by decide)
  have bL6 : Bits 900 60000000000 := Bits.mono (show W128 60000000000 by unfold W128; omega).bits (by decide)
  have bL7 : Bits 900 1000000000 := Bits.mono (show W128 1000000000 by unfold W128; omega).bits (by decide)
  have bL8 : Bits 900 1 := Bits.mono (show W128 1 by unfold W128; omega).bits (by decide)
  have j1 : I64 86400000000000 := by unfold I64; omega
  have j2 : I64 3600000000000 := by unfold I64; omega
  have j3 : I64 60000000000 := by unfold I64; omega
  have j4 : I64 1000000000 := by unfold I64; omega
  have j5 : I64 1 := by unfold I64; omega
  have j0 : I64 0 := by unfold I64; omega
  have fa : ∀ p : ZQ, FnZ 136 [(p, x)] [zv p] zv x := fun p => by
    have t := fzabs p x (hx.bits.fit (by decide))
    rwa [show ((x.natAbs : Nat) : Int) = x by omega] at t
  have d0 : ∀ p q : ZQ, FnZZ 122 [(p, x), (q, 1)] [zv p, zv q] (fun q => .tuple #[zv q.1, zv q.2]) (x.tdiv 1) (x.tmod 1) := fun p q => zdt p q x 1 y0 hy (by omega) bL8
  have f0 : ∀ p : ZQ, Fn 111 [(p, x.tdiv 1)] [zv p] (.tuple #[.int .i64 x, .bool true]) := fun p => by
    have t := fits_f p x (g.w.bits.mono (by decide)) g
    simpa only [tdiv_1] using t
  have r := zuright_f 0 0 0 0 0 0 0 x ⟨j0, j0, j0, j0, j0, j0, j0, g⟩ k
  refine fn_of Try.func53 rfl fun ww => ?_
  refine st_know (p := p.n = false) (fun w hw => by rw [z_neg (hw (p, x) (by simp))]; simp; omega) fun hn => ?_
  clear hy y0 g hx k
  refine st_fn ent64 (zulen8) sub0 (by kernel_rfl) ?_
  refine st_g ent136 (fa (p)) (subC 0 rfl sub0) (by kernel_rfl) (fun zq1 => ?_)
  refine st_round (by kernel_rfl) ?_
  refine st_fn ent64 (zulen8) sub0 (by kernel_rfl) ?_
  refine st_g ent109 (fzint (1) (by assumption)) sub0 (by kernel_rfl) (fun zq3 => ?_)
  refine st_g ent122 (d0 (zq1) (zq3)) (subC 1 rfl (subC 0 rfl sub0)) (by kernel_rfl) (fun zq4 => ?_)
  refine st_b 34 (show (p.n) = false by assumption) (by kernel_rfl) ?_
  refine st_fn ent111 (f0 (zq4.fst)) (subC 0 rfl sub0) (by kernel_rfl) ?_
  refine st_i 46 .i64 (x' := 8 - 1) (Go.IntWalk.i64_in _ (by omega)) (by kernel_rfl) ?_
  refine st_i 24 .i64 (x' := 8 + 1) (Go.IntWalk.i64_in _ (by omega)) (by kernel_rfl) ?_
  refine st_round (by kernel_rfl) ?_
  refine st_fn ent137 (zumade (0) (0) (0) (0) (0) (0) (0) (x)) sub0 (by kernel_rfl) ?_
  refine st_fn ent67 (r) sub0 (by kernel_rfl) ?_
  exact st_ret Try.func53 (by kernel_rfl)
theorem zulay8p_o (p : ZQ) (x : Int) (hx : W128 x) (h0 : 0 ≤ x) (g : ¬ I64 x) : Fn 53 [(p, x)] [zv p, .int .i64 8] (.tuple #[du0, .int .i64 4]) := by
  have hy : Bits 900 x := hx.bits.mono (by decide)
  have y0 : 0 ≤ x := by omega
  have bL4 : Bits 900 86400000000000 := Bits.mono (show W128 86400000000000 by unfold W128; omega).bits (by decide)
  have bL5 : Bits 900 3600000000000 := Bits.mono (show W128 3600000000000 by unfold W128; omega).bits (by decide)
  have bL6 : Bits 900 60000000000 := Bits.mono (show W128 60000000000 by unfold W128; omega).bits (by decide)
  have bL7 : Bits 900 1000000000 := Bits.mono (show W128 1000000000 by unfold W128; omega).bits (by decide)
  have bL8 : Bits 900 1 := Bits.mono (show W128 1 by unfold W128; omega).bits (by decide)
  have j1 : I64 86400000000000 := by unfold I64; omega
  have j2 : I64 3600000000000 := by unfold I64; omega
  have j3 : I64 60000000000 := by unfold I64; omega
  have j4 : I64 1000000000 := by unfold I64; omega
  have j5 : I64 1 := by unfold I64; omega
  have j0 : I64 0 := by unfold I64; omega
  have fa : ∀ p : ZQ, FnZ 136 [(p, x)] [zv p] zv x := fun p => by
    have t := fzabs p x (hx.bits.fit (by decide))
    rwa [show ((x.natAbs : Nat) : Int) = x by omega] at t
  have d0 : ∀ p q : ZQ, FnZZ 122 [(p, x), (q, 1)] [zv p, zv q] (fun q => .tuple #[zv q.1, zv q.2]) (x.tdiv 1) (x.tmod 1) := fun p q => zdt p q x 1 y0 hy (by omega) bL8
  have f0 : ∀ p : ZQ, Fn 111 [(p, x.tdiv 1)] [zv p] (.tuple #[.int .i64 0, .bool false]) := fun p => by
    have t := fits_n p x (hy.mono (by decide)) g
    simpa only [tdiv_1] using t
  refine fn_of Try.func53 rfl fun ww => ?_
  refine st_know (p := p.n = false) (fun w hw => by rw [z_neg (hw (p, x) (by simp))]; simp; omega) fun hn => ?_
  clear hy y0 g hx
  refine st_fn ent64 (zulen8) sub0 (by kernel_rfl) ?_
  refine st_g ent136 (fa (p)) (subC 0 rfl sub0) (by kernel_rfl) (fun zq1 => ?_)
  refine st_round (by kernel_rfl) ?_
  refine st_fn ent64 (zulen8) sub0 (by kernel_rfl) ?_
  refine st_g ent109 (fzint (1) (by assumption)) sub0 (by kernel_rfl) (fun zq3 => ?_)
  refine st_g ent122 (d0 (zq1) (zq3)) (subC 1 rfl (subC 0 rfl sub0)) (by kernel_rfl) (fun zq4 => ?_)
  refine st_b 34 (show (p.n) = false by assumption) (by kernel_rfl) ?_
  refine st_fn ent111 (f0 (zq4.fst)) (subC 0 rfl sub0) (by kernel_rfl) ?_
  exact st_ret Try.func53 (by kernel_rfl)
theorem zulay8n_y (p : ZQ) (x : Int) (hx : W128 x) (h0 : x < 0) (g : I64 x) (k : uOk 0 0 0 0 0 0 0 x) : Fn 53 [(p, x)] [zv p, .int .i64 8] (.tuple #[duv 0 0 0 0 0 0 0 x, .int .i64 0]) := by
  have hy : Bits 900 (-x) := (hx.bits.neg).mono (by decide)
  have y0 : 0 ≤ (-x) := by omega
  have bL4 : Bits 900 86400000000000 := Bits.mono (show W128 86400000000000 by unfold W128; omega).bits (by decide)
  have bL5 : Bits 900 3600000000000 := Bits.mono (show W128 3600000000000 by unfold W128; omega).bits (by decide)
  have bL6 : Bits 900 60000000000 := Bits.mono (show W128 60000000000 by unfold W128; omega).bits (by decide)
  have bL7 : Bits 900 1000000000 := Bits.mono (show W128 1000000000 by unfold W128; omega).bits (by decide)
  have bL8 : Bits 900 1 := Bits.mono (show W128 1 by unfold W128; omega).bits (by decide)
  have j1 : I64 86400000000000 := by unfold I64; omega
  have j2 : I64 3600000000000 := by unfold I64; omega
  have j3 : I64 60000000000 := by unfold I64; omega
  have j4 : I64 1000000000 := by unfold I64; omega
  have j5 : I64 1 := by unfold I64; omega
  have j0 : I64 0 := by unfold I64; omega
  have fa : ∀ p : ZQ, FnZ 136 [(p, x)] [zv p] zv (-x) := fun p => by
    have t := fzabs p x (hx.bits.fit (by decide))
    rwa [show ((x.natAbs : Nat) : Int) = -x by omega] at t
  have d0 : ∀ p q : ZQ, FnZZ 122 [(p, (-x)), (q, 1)] [zv p, zv q] (fun q => .tuple #[zv q.1, zv q.2]) ((-x).tdiv 1) ((-x).tmod 1) := fun p q => zdt p q (-x) 1 y0 hy (by omega) bL8
  have n0 : ∀ p : ZQ, FnZ 128 [(p, (-x).tdiv 1)] [zv p] zv x := fun p => by
    have t := zng p ((-x).tdiv 1) (tdvb (-x) 1 y0 hy (by omega))
    rwa [show -((-x).tdiv 1) = x by rw [Int.neg_tdiv, Int.neg_neg, tdiv_1]] at t
  have f0 : ∀ p : ZQ, Fn 111 [(p, x)] [zv p] (.tuple #[.int .i64 x, .bool true]) := fun p => by
    have t := fits_f p x (g.w.bits.mono (by decide)) g
    exact t
  have r := zuright_y 0 0 0 0 0 0 0 x ⟨j0, j0, j0, j0, j0, j0, j0, g⟩ k
  refine fn_of Try.func53 rfl fun ww => ?_
  refine st_know (p := p.n = true) (fun w hw => by rw [z_neg (hw (p, x) (by simp))]; simp; omega) fun hn => ?_
  clear hy y0 g hx k
  refine st_fn ent64 (zulen8) sub0 (by kernel_rfl) ?_
  refine st_g ent136 (fa (p)) (subC 0 rfl sub0) (by kernel_rfl) (fun zq1 => ?_)
  refine st_round (by kernel_rfl) ?_
  refine st_fn ent64 (zulen8) sub0 (by kernel_rfl) ?_
  refine st_g ent109 (fzint (1) (by assumption)) sub0 (by kernel_rfl) (fun zq3 => ?_)
  refine st_g ent122 (d0 (zq1) (zq3)) (subC 1 rfl (subC 0 rfl sub0)) (by kernel_rfl) (fun zq4 => ?_)
  refine st_b 34 (show (p.n) = true by assumption) (by kernel_rfl) ?_
  refine st_g ent128 (n0 (zq4.fst)) (subC 0 rfl sub0) (by kernel_rfl) (fun zq5 => ?_)
  refine st_fn ent111 (f0 (zq5)) (subC 0 rfl sub0) (by kernel_rfl) ?_
  refine st_i 46 .i64 (x' := 8 - 1) (Go.IntWalk.i64_in _ (by omega)) (by kernel_rfl) ?_
  refine st_i 24 .i64 (x' := 8 + 1) (Go.IntWalk.i64_in _ (by omega)) (by kernel_rfl) ?_
  refine st_round (by kernel_rfl) ?_
  refine st_fn ent137 (zumade (0) (0) (0) (0) (0) (0) (0) (x)) sub0 (by kernel_rfl) ?_
  refine st_fn ent67 (r) sub0 (by kernel_rfl) ?_
  exact st_ret Try.func53 (by kernel_rfl)
theorem zulay8n_r (p : ZQ) (x : Int) (hx : W128 x) (h0 : x < 0) (g : I64 x) (k : ¬ uOk 0 0 0 0 0 0 0 x) : Fn 53 [(p, x)] [zv p, .int .i64 8] (.tuple #[du0, .int .i64 4]) := by
  have hy : Bits 900 (-x) := (hx.bits.neg).mono (by decide)
  have y0 : 0 ≤ (-x) := by omega
  have bL4 : Bits 900 86400000000000 := Bits.mono (show W128 86400000000000 by unfold W128; omega).bits (by decide)
  have bL5 : Bits 900 3600000000000 := Bits.mono (show W128 3600000000000 by unfold W128; omega).bits (by decide)
  have bL6 : Bits 900 60000000000 := Bits.mono (show W128 60000000000 by unfold W128; omega).bits (by decide)
  have bL7 : Bits 900 1000000000 := Bits.mono (show W128 1000000000 by unfold W128; omega).bits (by decide)
  have bL8 : Bits 900 1 := Bits.mono (show W128 1 by unfold W128; omega).bits (by decide)
  have j1 : I64 86400000000000 := by unfold I64; omega
  have j2 : I64 3600000000000 := by unfold I64; omega
  have j3 : I64 60000000000 := by unfold I64; omega
  have j4 : I64 1000000000 := by unfold I64; omega
  have j5 : I64 1 := by unfold I64; omega
  have j0 : I64 0 := by unfold I64; omega
  have fa : ∀ p : ZQ, FnZ 136 [(p, x)] [zv p] zv (-x) := fun p => by
    have t := fzabs p x (hx.bits.fit (by decide))
    rwa [show ((x.natAbs : Nat) : Int) = -x by omega] at t
  have d0 : ∀ p q : ZQ, FnZZ 122 [(p, (-x)), (q, 1)] [zv p, zv q] (fun q => .tuple #[zv q.1, zv q.2]) ((-x).tdiv 1) ((-x).tmod 1) := fun p q => zdt p q (-x) 1 y0 hy (by omega) bL8
  have n0 : ∀ p : ZQ, FnZ 128 [(p, (-x).tdiv 1)] [zv p] zv x := fun p => by
    have t := zng p ((-x).tdiv 1) (tdvb (-x) 1 y0 hy (by omega))
    rwa [show -((-x).tdiv 1) = x by rw [Int.neg_tdiv, Int.neg_neg, tdiv_1]] at t
  have f0 : ∀ p : ZQ, Fn 111 [(p, x)] [zv p] (.tuple #[.int .i64 x, .bool true]) := fun p => by
    have t := fits_f p x (g.w.bits.mono (by decide)) g
    exact t
  have r := zuright_f 0 0 0 0 0 0 0 x ⟨j0, j0, j0, j0, j0, j0, j0, g⟩ k
  refine fn_of Try.func53 rfl fun ww => ?_
  refine st_know (p := p.n = true) (fun w hw => by rw [z_neg (hw (p, x) (by simp))]; simp; omega) fun hn => ?_
  clear hy y0 g hx k
  refine st_fn ent64 (zulen8) sub0 (by kernel_rfl) ?_
  refine st_g ent136 (fa (p)) (subC 0 rfl sub0) (by kernel_rfl) (fun zq1 => ?_)
  refine st_round (by kernel_rfl) ?_
  refine st_fn ent64 (zulen8) sub0 (by kernel_rfl) ?_
  refine st_g ent109 (fzint (1) (by assumption)) sub0 (by kernel_rfl) (fun zq3 => ?_)
  refine st_g ent122 (d0 (zq1) (zq3)) (subC 1 rfl (subC 0 rfl sub0)) (by kernel_rfl) (fun zq4 => ?_)
  refine st_b 34 (show (p.n) = true by assumption) (by kernel_rfl) ?_
  refine st_g ent128 (n0 (zq4.fst)) (subC 0 rfl sub0) (by kernel_rfl) (fun zq5 => ?_)
  refine st_fn ent111 (f0 (zq5)) (subC 0 rfl sub0) (by kernel_rfl) ?_
  refine st_i 46 .i64 (x' := 8 - 1) (Go.IntWalk.i64_in _ (by omega)) (by kernel_rfl) ?_
  refine st_i 24 .i64 (x' := 8 + 1) (Go.IntWalk.i64_in _ (by omega)) (by kernel_rfl) ?_
  refine st_round (by kernel_rfl) ?_
  refine st_fn ent137 (zumade (0) (0) (0) (0) (0) (0) (0) (x)) sub0 (by kernel_rfl) ?_
  refine st_fn ent67 (r) sub0 (by kernel_rfl) ?_
  exact st_ret Try.func53 (by kernel_rfl)
theorem zulay8n_o (p : ZQ) (x : Int) (hx : W128 x) (h0 : x < 0) (g : ¬ I64 x) : Fn 53 [(p, x)] [zv p, .int .i64 8] (.tuple #[du0, .int .i64 4]) := by
  have hy : Bits 900 (-x) := (hx.bits.neg).mono (by decide)
  have y0 : 0 ≤ (-x) := by omega
  have bL4 : Bits 900 86400000000000 := Bits.mono (show W128 86400000000000 by unfold W128; omega).bits (by decide)
  have bL5 : Bits 900 3600000000000 := Bits.mono (show W128 3600000000000 by unfold W128; omega).bits (by decide)
  have bL6 : Bits 900 60000000000 := Bits.mono (show W128 60000000000 by unfold W128; omega).bits (by decide)
  have bL7 : Bits 900 1000000000 := Bits.mono (show W128 1000000000 by unfold W128; omega).bits (by decide)
  have bL8 : Bits 900 1 := Bits.mono (show W128 1 by unfold W128; omega).bits (by decide)
  have j1 : I64 86400000000000 := by unfold I64; omega
  have j2 : I64 3600000000000 := by unfold I64; omega
  have j3 : I64 60000000000 := by unfold I64; omega
  have j4 : I64 1000000000 := by unfold I64; omega
  have j5 : I64 1 := by unfold I64; omega
  have j0 : I64 0 := by unfold I64; omega
  have fa : ∀ p : ZQ, FnZ 136 [(p, x)] [zv p] zv (-x) := fun p => by
    have t := fzabs p x (hx.bits.fit (by decide))
    rwa [show ((x.natAbs : Nat) : Int) = -x by omega] at t
  have d0 : ∀ p q : ZQ, FnZZ 122 [(p, (-x)), (q, 1)] [zv p, zv q] (fun q => .tuple #[zv q.1, zv q.2]) ((-x).tdiv 1) ((-x).tmod 1) := fun p q => zdt p q (-x) 1 y0 hy (by omega) bL8
  have n0 : ∀ p : ZQ, FnZ 128 [(p, (-x).tdiv 1)] [zv p] zv x := fun p => by
    have t := zng p ((-x).tdiv 1) (tdvb (-x) 1 y0 hy (by omega))
    rwa [show -((-x).tdiv 1) = x by rw [Int.neg_tdiv, Int.neg_neg, tdiv_1]] at t
  have f0 : ∀ p : ZQ, Fn 111 [(p, x)] [zv p] (.tuple #[.int .i64 0, .bool false]) := fun p => by
    have t := fits_n p x (by rw [show x = -((-x).tdiv 1) by rw [Int.neg_tdiv, Int.neg_neg, tdiv_1]]; exact ((tdvb (-x) 1 y0 hy (by omega)).neg).mono (by decide)) g
    exact t
  refine fn_of Try.func53 rfl fun ww => ?_
  refine st_know (p := p.n = true) (fun w hw => by rw [z_neg (hw (p, x) (by simp))]; simp; omega) fun hn => ?_
  clear hy y0 g hx
  refine st_fn ent64 (zulen8) sub0 (by kernel_rfl) ?_
  refine st_g ent136 (fa (p)) (subC 0 rfl sub0) (by kernel_rfl) (fun zq1 => ?_)
  refine st_round (by kernel_rfl) ?_
  refine st_fn ent64 (zulen8) sub0 (by kernel_rfl) ?_
  refine st_g ent109 (fzint (1) (by assumption)) sub0 (by kernel_rfl) (fun zq3 => ?_)
  refine st_g ent122 (d0 (zq1) (zq3)) (subC 1 rfl (subC 0 rfl sub0)) (by kernel_rfl) (fun zq4 => ?_)
  refine st_b 34 (show (p.n) = true by assumption) (by kernel_rfl) ?_
  refine st_g ent128 (n0 (zq4.fst)) (subC 0 rfl sub0) (by kernel_rfl) (fun zq5 => ?_)
  refine st_fn ent111 (f0 (zq5)) (subC 0 rfl sub0) (by kernel_rfl) ?_
  exact st_ret Try.func53 (by kernel_rfl)
theorem zulay_arg (p : ZQ) (x u : Int) (h : u < 4 ∨ 8 < u) : Fn 53 [] [zv p, .int .i64 u] (.tuple #[du0, .int .i64 1]) := by
  have l := zulen_o u h
  refine fn_of Try.func53 rfl fun ww => ?_
  refine st_fn ent64 (l) sub0 (by kernel_rfl) ?_
  exact st_ret Try.func53 (by kernel_rfl)
end Go.Proofs.Ytcndfpfjckkinaa
end
section
/-
  Durations: a total laid out; the other sign; sums; increments; rounding.
-/
set_option linter.unusedVariables false
set_option linter.unusedSimpArgs false
set_option maxRecDepth 100000
namespace Go.Proofs.Ytcndfpfjckkinaa
open Go Go.RowKit Go.Ev

section
variable (u x : Int)
abbrev lav (u x : Int) : Value := .tuple #[duv 0 0 0 (l4 u x) (l5 u x) (l6 u x) (l7 u x) (l8 u x), .int .i64 0]
abbrev la4 : Value := .tuple #[du0, .int .i64 4]
theorem ulay_y (hx : W128 x) (k : layOk u x) : Fn 52 [] [wv x, .int .i64 u] (lav u x) := by
  have r := lay_ok k
  obtain ⟨⟨k1, k2⟩, k3, k4⟩ := k
  have r := r.1
  rcases units k1 k2 with rfl | rfl | rfl | rfl | rfl <;> simp only [l4, l5, l6, l7, l8, ulen, lav, Int.reduceEq, Int.reduceLE, if_true, if_false, tdiv_1] at r k4 ⊢
  · exact ulay4_y x hx k4 r
  · exact ulay5_y x hx k4 r
  · exact ulay6_y x hx k4 r
  · exact ulay7_y x hx k4 r
  · exact ulay8_y x hx k4 r
theorem lay_not {u x : Int} (k1 : 4 ≤ u) (k2 : u ≤ 8) (k : ¬ layOk u x) (g : I64 (x.tdiv (ulen u))) : ¬ uOk 0 0 0 (l4 u x) (l5 u x) (l6 u x) (l7 u x) (l8 u x) := fun q => by
  have t := (lay_tot (x := x) k1 k2).1
  have q2 := q.2.2
  rw [t] at q2
  exact k ⟨⟨k1, k2⟩, q2, g⟩
theorem ulay_n (hx : W128 x) (k1 : 4 ≤ u) (k2 : u ≤ 8) (k : ¬ layOk u x) : Fn 52 [] [wv x, .int .i64 u] la4 := by
  by_cases g : I64 (x.tdiv (ulen u))
  · have r := lay_not k1 k2 k g
    rcases units k1 k2 with rfl | rfl | rfl | rfl | rfl <;> simp only [l4, l5, l6, l7, l8, ulen, Int.reduceEq, Int.reduceLE, if_true, if_false, tdiv_1] at r g
    · exact ulay4_r x hx g r
    · exact ulay5_r x hx g r
    · exact ulay6_r x hx g r
    · exact ulay7_r x hx g r
    · exact ulay8_r x hx g r
  · rcases units k1 k2 with rfl | rfl | rfl | rfl | rfl <;> simp only [ulen, Int.reduceEq, if_true, if_false, tdiv_1] at g
    · exact ulay4_o x hx g
    · exact ulay5_o x hx g
    · exact ulay6_o x hx g
    · exact ulay7_o x hx g
    · exact ulay8_o x hx g
variable (p : ZQ)
theorem zulay_y (hx : W128 x) (k : layOk u x) : Fn 53 [(p, x)] [zv p, .int .i64 u] (lav u x) := by
  have r := lay_ok k
  obtain ⟨⟨k1, k2⟩, k3, k4⟩ := k
  have r := r.1
  by_cases h0 : 0 ≤ x
  · rcases units k1 k2 with rfl | rfl | rfl | rfl | rfl <;> simp only [l4, l5, l6, l7, l8, ulen, lav, Int.reduceEq, Int.reduceLE, if_true, if_false, tdiv_1] at r k4 ⊢
    · exact zulay4p_y p x hx h0 k4 r
    · exact zulay5p_y p x hx h0 k4 r
    · exact zulay6p_y p x hx h0 k4 r
    · exact zulay7p_y p x hx h0 k4 r
    · exact zulay8p_y p x hx h0 k4 r
  · have h0 : x < 0 := by omega
    rcases units k1 k2 with rfl | rfl | rfl | rfl | rfl <;> simp only [l4, l5, l6, l7, l8, ulen, lav, Int.reduceEq, Int.reduceLE, if_true, if_false, tdiv_1] at r k4 ⊢
    · exact zulay4n_y p x hx h0 k4 r
    · exact zulay5n_y p x hx h0 k4 r
    · exact zulay6n_y p x hx h0 k4 r
    · exact zulay7n_y p x hx h0 k4 r
    · exact zulay8n_y p x hx h0 k4 r
theorem zulay_n (hx : W128 x) (k1 : 4 ≤ u) (k2 : u ≤ 8) (k : ¬ layOk u x) : Fn 53 [(p, x)] [zv p, .int .i64 u] la4 := by
  by_cases g : I64 (x.tdiv (ulen u))
  · have r := lay_not k1 k2 k g
    by_cases h0 : 0 ≤ x
    · rcases units k1 k2 with rfl | rfl | rfl | rfl | rfl <;> simp only [l4, l5, l6, l7, l8, ulen, Int.reduceEq, Int.reduceLE, if_true, if_false, tdiv_1] at r g
      · exact zulay4p_r p x hx h0 g r
      · exact zulay5p_r p x hx h0 g r
      · exact zulay6p_r p x hx h0 g r
      · exact zulay7p_r p x hx h0 g r
      · exact zulay8p_r p x hx h0 g r
    · have h0 : x < 0 := by omega
      rcases units k1 k2 with rfl | rfl | rfl | rfl | rfl <;> simp only [l4, l5, l6, l7, l8, ulen, Int.reduceEq, Int.reduceLE, if_true, if_false, tdiv_1] at r g
      · exact zulay4n_r p x hx h0 g r
      · exact zulay5n_r p x hx h0 g r
      · exact zulay6n_r p x hx h0 g r
      · exact zulay7n_r p x hx h0 g r
      · exact zulay8n_r p x hx h0 g r
  · by_cases h0 : 0 ≤ x
    · rcases units k1 k2 with rfl | rfl | rfl | rfl | rfl <;> simp only [ulen, Int.reduceEq, if_true, if_false, tdiv_1] at g
      · exact zulay4p_o p x hx h0 g
      · exact zulay5p_o p x hx h0 g
      · exact zulay6p_o p x hx h0 g
      · exact zulay7p_o p x hx h0 g
      · exact zulay8p_o p x hx h0 g
    · have h0 : x < 0 := by omega
      rcases units k1 k2 with rfl | rfl | rfl | rfl | rfl <;> simp only [ulen, Int.reduceEq, if_true, if_false, tdiv_1] at g
      · exact zulay4n_o p x hx h0 g
      · exact zulay5n_o p x hx h0 g
      · exact zulay6n_o p x hx h0 g
      · exact zulay7n_o p x hx h0 g
      · exact zulay8n_o p x hx h0 g
end
end Go.Proofs.Ytcndfpfjckkinaa
end
section
/-
  Durations: increments, sums, rounding; the laws DurationUnits, DurationLays, DurationTotals.
-/
set_option linter.unusedVariables false
set_option linter.unusedSimpArgs false
set_option maxRecDepth 100000
namespace Go.Proofs.Ytcndfpfjckkinaa
open Go Go.RowKit Go.Ev

section
variable (u i : Int)
theorem uinc : Fn 65 [] [.int .i64 u, .int .i64 i] (.bool (decide (incOk u i))) := by
  by_cases h : 4 ≤ u ∧ u ≤ 8
  · by_cases k : 1 ≤ i
    · rcases units h.1 h.2 with rfl | rfl | rfl | rfl | rfl
      · refine fn_of Try.func65 rfl fun ww => ?_
        refine st_b 9 (show (decide (i ≥ 1)) = true by exact decide_eq_true (by omega)) (by kernel_rfl) ?_
        exact st_retv Try.func65 (show Value.bool (decide (i ≤ 1000000000)) = _ by (refine b_eq (decide_eq_decide.2 ?_); unfold incOk; omega)) (by kernel_rfl)
      · by_cases l : i < 24
        · refine fn_of Try.func65 rfl fun ww => ?_
          refine st_i 22 .i64 (x' := 5 - 5) (Go.IntWalk.i64_in _ (by omega)) (by kernel_rfl) ?_
          refine st_b 25 (show (decide (i ≥ 1)) = true by exact decide_eq_true (by omega)) (by kernel_rfl) ?_
          refine st_b 29 (show (decide (i < 24)) = true by exact decide_eq_true (by omega)) (by kernel_rfl) ?_
          refine st_div 33 (fun w => rem_run (T := 2) (k := IntKind.i64) (x := 24) (y := i) (by omega) w) (by kernel_rfl) ?_
          exact st_retv Try.func65 (show Value.bool (Int.tmod 24 i == 0) = _ by (refine b_eq ?_; rw [Bool.eq_iff_iff, beq_iff_eq, decide_eq_true_iff]; unfold incOk; omega)) (by kernel_rfl)
        · refine fn_of Try.func65 rfl fun ww => ?_
          refine st_i 22 .i64 (x' := 5 - 5) (Go.IntWalk.i64_in _ (by omega)) (by kernel_rfl) ?_
          refine st_b 25 (show (decide (i ≥ 1)) = true by exact decide_eq_true (by omega)) (by kernel_rfl) ?_
          refine st_b 29 (show (decide (i < 24)) = false by exact decide_eq_false (by omega)) (by kernel_rfl) ?_
          exact st_retv Try.func65 (show Value.bool (false) = _ by (refine b_eq (decide_eq_false ?_).symm; unfold incOk; omega)) (by kernel_rfl)
      · by_cases l : i < 60
        · refine fn_of Try.func65 rfl fun ww => ?_
          refine st_i 22 .i64 (x' := 6 - 5) (Go.IntWalk.i64_in _ (by omega)) (by kernel_rfl) ?_
          refine st_b 25 (show (decide (i ≥ 1)) = true by exact decide_eq_true (by omega)) (by kernel_rfl) ?_
          refine st_b 29 (show (decide (i < 60)) = true by exact decide_eq_true (by omega)) (by kernel_rfl) ?_
          refine st_div 33 (fun w => rem_run (T := 2) (k := IntKind.i64) (x := 60) (y := i) (by omega) w) (by kernel_rfl) ?_
          exact st_retv Try.func65 (show Value.bool (Int.tmod 60 i == 0) = _ by (refine b_eq ?_; rw [Bool.eq_iff_iff, beq_iff_eq, decide_eq_true_iff]; unfold incOk; omega)) (by kernel_rfl)
        · refine fn_of Try.func65 rfl fun ww => ?_
          refine st_i 22 .i64 (x' := 6 - 5) (Go.IntWalk.i64_in _ (by omega)) (by kernel_rfl) ?_
          refine st_b 25 (show (decide (i ≥ 1)) = true by exact decide_eq_true (by omega)) (by kernel_rfl) ?_
          refine st_b 29 (show (decide (i < 60)) = false by exact decide_eq_false (by omega)) (by kernel_rfl) ?_
          exact st_retv Try.func65 (show Value.bool (false) = _ by (refine b_eq (decide_eq_false ?_).symm; unfold incOk; omega)) (by kernel_rfl)
      · by_cases l : i < 60
        · refine fn_of Try.func65 rfl fun ww => ?_
          refine st_i 22 .i64 (x' := 7 - 5) (Go.IntWalk.i64_in _ (by omega)) (by kernel_rfl) ?_
          refine st_b 25 (show (decide (i ≥ 1)) = true by exact decide_eq_true (by omega)) (by kernel_rfl) ?_
          refine st_b 29 (show (decide (i < 60)) = true by exact decide_eq_true (by omega)) (by kernel_rfl) ?_
          refine st_div 33 (fun w => rem_run (T := 2) (k := IntKind.i64) (x := 60) (y := i) (by omega) w) (by kernel_rfl) ?_
          exact st_retv Try.func65 (show Value.bool (Int.tmod 60 i == 0) = _ by (refine b_eq ?_; rw [Bool.eq_iff_iff, beq_iff_eq, decide_eq_true_iff]; unfold incOk; omega)) (by kernel_rfl)
        · refine fn_of Try.func65 rfl fun ww => ?_
          refine st_i 22 .i64 (x' := 7 - 5) (Go.IntWalk.i64_in _ (by omega)) (by kernel_rfl) ?_
          refine st_b 25 (show (decide (i ≥ 1)) = true by exact decide_eq_true (by omega)) (by kernel_rfl) ?_
          refine st_b 29 (show (decide (i < 60)) = false by exact decide_eq_false (by omega)) (by kernel_rfl) ?_
          exact st_retv Try.func65 (show Value.bool (false) = _ by (refine b_eq (decide_eq_false ?_).symm; unfold incOk; omega)) (by kernel_rfl)
      · by_cases l : i < 1000000000
        · refine fn_of Try.func65 rfl fun ww => ?_
          refine st_i 22 .i64 (x' := 8 - 5) (Go.IntWalk.i64_in _ (by omega)) (by kernel_rfl) ?_
          refine st_b 25 (show (decide (i ≥ 1)) = true by exact decide_eq_true (by omega)) (by kernel_rfl) ?_
          refine st_b 29 (show (decide (i < 1000000000)) = true by exact decide_eq_true (by omega)) (by kernel_rfl) ?_
          refine st_div 33 (fun w => rem_run (T := 2) (k := IntKind.i64) (x := 1000000000) (y := i) (by omega) w) (by kernel_rfl) ?_
          exact st_retv Try.func65 (show Value.bool (Int.tmod 1000000000 i == 0) = _ by (refine b_eq ?_; rw [Bool.eq_iff_iff, beq_iff_eq, decide_eq_true_iff]; unfold incOk; omega)) (by kernel_rfl)
        · refine fn_of Try.func65 rfl fun ww => ?_
          refine st_i 22 .i64 (x' := 8 - 5) (Go.IntWalk.i64_in _ (by omega)) (by kernel_rfl) ?_
          refine st_b 25 (show (decide (i ≥ 1)) = true by exact decide_eq_true (by omega)) (by kernel_rfl) ?_
          refine st_b 29 (show (decide (i < 1000000000)) = false by exact decide_eq_false (by omega)) (by kernel_rfl) ?_
          exact st_retv Try.func65 (show Value.bool (false) = _ by (refine b_eq (decide_eq_false ?_).symm; unfold incOk; omega)) (by kernel_rfl)
    · rcases units h.1 h.2 with rfl | rfl | rfl | rfl | rfl
      · refine fn_of Try.func65 rfl fun ww => ?_
        refine st_b 9 (show (decide (i ≥ 1)) = false by exact decide_eq_false (by omega)) (by kernel_rfl) ?_
        exact st_retv Try.func65 (show Value.bool (false) = _ by (refine b_eq (decide_eq_false ?_).symm; unfold incOk; omega)) (by kernel_rfl)
      · refine fn_of Try.func65 rfl fun ww => ?_
        refine st_i 22 .i64 (x' := 5 - 5) (Go.IntWalk.i64_in _ (by omega)) (by kernel_rfl) ?_
        refine st_b 25 (show (decide (i ≥ 1)) = false by exact decide_eq_false (by omega)) (by kernel_rfl) ?_
        exact st_retv Try.func65 (show Value.bool (false) = _ by (refine b_eq (decide_eq_false ?_).symm; unfold incOk; omega)) (by kernel_rfl)
      · refine fn_of Try.func65 rfl fun ww => ?_
        refine st_i 22 .i64 (x' := 6 - 5) (Go.IntWalk.i64_in _ (by omega)) (by kernel_rfl) ?_
        refine st_b 25 (show (decide (i ≥ 1)) = false by exact decide_eq_false (by omega)) (by kernel_rfl) ?_
        exact st_retv Try.func65 (show Value.bool (false) = _ by (refine b_eq (decide_eq_false ?_).symm; unfold incOk; omega)) (by kernel_rfl)
      · refine fn_of Try.func65 rfl fun ww => ?_
        refine st_i 22 .i64 (x' := 7 - 5) (Go.IntWalk.i64_in _ (by omega)) (by kernel_rfl) ?_
        refine st_b 25 (show (decide (i ≥ 1)) = false by exact decide_eq_false (by omega)) (by kernel_rfl) ?_
        exact st_retv Try.func65 (show Value.bool (false) = _ by (refine b_eq (decide_eq_false ?_).symm; unfold incOk; omega)) (by kernel_rfl)
      · refine fn_of Try.func65 rfl fun ww => ?_
        refine st_i 22 .i64 (x' := 8 - 5) (Go.IntWalk.i64_in _ (by omega)) (by kernel_rfl) ?_
        refine st_b 25 (show (decide (i ≥ 1)) = false by exact decide_eq_false (by omega)) (by kernel_rfl) ?_
        exact st_retv Try.func65 (show Value.bool (false) = _ by (refine b_eq (decide_eq_false ?_).symm; unfold incOk; omega)) (by kernel_rfl)
  · by_cases k : u < 4
    · refine fn_of Try.func65 rfl fun ww => ?_
      refine st_b 7 (show (u == 4) = false by exact decide_eq_false (by omega)) (by kernel_rfl) ?_
      refine st_b 15 (show (decide (u < 4)) = true by exact decide_eq_true (by omega)) (by kernel_rfl) ?_
      exact st_retv Try.func65 (show Value.bool (false) = _ by (refine b_eq (decide_eq_false ?_).symm; unfold incOk; omega)) (by kernel_rfl)
    · have k' : 8 < u := by omega
      refine fn_of Try.func65 rfl fun ww => ?_
      refine st_b 7 (show (u == 4) = false by exact decide_eq_false (by omega)) (by kernel_rfl) ?_
      refine st_b 15 (show (decide (u < 4)) = false by exact decide_eq_false (by omega)) (by kernel_rfl) ?_
      refine st_b 18 (show (decide (u > 8)) = true by exact decide_eq_true (by omega)) (by kernel_rfl) ?_
      exact st_retv Try.func65 (show Value.bool (false) = _ by (refine b_eq (decide_eq_false ?_).symm; unfold incOk; omega)) (by kernel_rfl)
theorem zuinc : Fn 66 [] [.int .i64 u, .int .i64 i] (.bool (decide (incOk u i))) := by
  by_cases h : 4 ≤ u ∧ u ≤ 8
  · by_cases k : 1 ≤ i
    · rcases units h.1 h.2 with rfl | rfl | rfl | rfl | rfl
      · refine fn_of Try.func66 rfl fun ww => ?_
        refine st_b 10 (show (decide (i ≥ 1)) = true by exact decide_eq_true (by omega)) (by kernel_rfl) ?_
        exact st_retv Try.func66 (show Value.bool (decide (i ≤ 1000000000)) = _ by (refine b_eq (decide_eq_decide.2 ?_); unfold incOk; omega)) (by kernel_rfl)
      · by_cases l : i < 24
        · refine fn_of Try.func66 rfl fun ww => ?_
          refine st_b 23 (show (decide (i ≥ 1)) = true by exact decide_eq_true (by omega)) (by kernel_rfl) ?_
          refine st_b 27 (show (decide (i < 24)) = true by exact decide_eq_true (by omega)) (by kernel_rfl) ?_
          refine st_div 31 (fun w => rem_run (T := 2) (k := IntKind.i64) (x := 24) (y := i) (by omega) w) (by kernel_rfl) ?_
          exact st_retv Try.func66 (show Value.bool (Int.tmod 24 i == 0) = _ by (refine b_eq ?_; rw [Bool.eq_iff_iff, beq_iff_eq, decide_eq_true_iff]; unfold incOk; omega)) (by kernel_rfl)
        · refine fn_of Try.func66 rfl fun ww => ?_
          refine st_b 23 (show (decide (i ≥ 1)) = true by exact decide_eq_true (by omega)) (by kernel_rfl) ?_
          refine st_b 27 (show (decide (i < 24)) = false by exact decide_eq_false (by omega)) (by kernel_rfl) ?_
          exact st_retv Try.func66 (show Value.bool (false) = _ by (refine b_eq (decide_eq_false ?_).symm; unfold incOk; omega)) (by kernel_rfl)
      · by_cases l : i < 60
        · refine fn_of Try.func66 rfl fun ww => ?_
          refine st_b 23 (show (decide (i ≥ 1)) = true by exact decide_eq_true (by omega)) (by kernel_rfl) ?_
          refine st_b 27 (show (decide (i < 60)) = true by exact decide_eq_true (by omega)) (by kernel_rfl) ?_
          refine st_div 31 (fun w => rem_run (T := 2) (k := IntKind.i64) (x := 60) (y := i) (by omega) w) (by kernel_rfl) ?_
          exact st_retv Try.func66 (show Value.bool (Int.tmod 60 i == 0) = _ by (refine b_eq ?_; rw [Bool.eq_iff_iff, beq_iff_eq, decide_eq_true_iff]; unfold incOk; omega)) (by kernel_rfl)
        · refine fn_of Try.func66 rfl fun ww => ?_
          refine st_b 23 (show (decide (i ≥ 1)) = true by exact decide_eq_true (by omega)) (by kernel_rfl) ?_
          refine st_b 27 (show (decide (i < 60)) = false by exact decide_eq_false (by omega)) (by kernel_rfl) ?_
          exact st_retv Try.func66 (show Value.bool (false) = _ by (refine b_eq (decide_eq_false ?_).symm; unfold incOk; omega)) (by kernel_rfl)
      · by_cases l : i < 60
        · refine fn_of Try.func66 rfl fun ww => ?_
          refine st_b 23 (show (decide (i ≥ 1)) = true by exact decide_eq_true (by omega)) (by kernel_rfl) ?_
          refine st_b 27 (show (decide (i < 60)) = true by exact decide_eq_true (by omega)) (by kernel_rfl) ?_
          refine st_div 31 (fun w => rem_run (T := 2) (k := IntKind.i64) (x := 60) (y := i) (by omega) w) (by kernel_rfl) ?_
          exact st_retv Try.func66 (show Value.bool (Int.tmod 60 i == 0) = _ by (refine b_eq ?_; rw [Bool.eq_iff_iff, beq_iff_eq, decide_eq_true_iff]; unfold incOk; omega)) (by kernel_rfl)
        · refine fn_of Try.func66 rfl fun ww => ?_
          refine st_b 23 (show (decide (i ≥ 1)) = true by exact decide_eq_true (by omega)) (by kernel_rfl) ?_
          refine st_b 27 (show (decide (i < 60)) = false by exact decide_eq_false (by omega)) (by kernel_rfl) ?_
          exact st_retv Try.func66 (show Value.bool (false) = _ by (refine b_eq (decide_eq_false ?_).symm; unfold incOk; omega)) (by kernel_rfl)
      · by_cases l : i < 1000000000
        · refine fn_of Try.func66 rfl fun ww => ?_
          refine st_b 23 (show (decide (i ≥ 1)) = true by exact decide_eq_true (by omega)) (by kernel_rfl) ?_
          refine st_b 27 (show (decide (i < 1000000000)) = true by exact decide_eq_true (by omega)) (by kernel_rfl) ?_
          refine st_div 31 (fun w => rem_run (T := 2) (k := IntKind.i64) (x := 1000000000) (y := i) (by omega) w) (by kernel_rfl) ?_
          exact st_retv Try.func66 (show Value.bool (Int.tmod 1000000000 i == 0) = _ by (refine b_eq ?_; rw [Bool.eq_iff_iff, beq_iff_eq, decide_eq_true_iff]; unfold incOk; omega)) (by kernel_rfl)
        · refine fn_of Try.func66 rfl fun ww => ?_
          refine st_b 23 (show (decide (i ≥ 1)) = true by exact decide_eq_true (by omega)) (by kernel_rfl) ?_
          refine st_b 27 (show (decide (i < 1000000000)) = false by exact decide_eq_false (by omega)) (by kernel_rfl) ?_
          exact st_retv Try.func66 (show Value.bool (false) = _ by (refine b_eq (decide_eq_false ?_).symm; unfold incOk; omega)) (by kernel_rfl)
    · rcases units h.1 h.2 with rfl | rfl | rfl | rfl | rfl
      · refine fn_of Try.func66 rfl fun ww => ?_
        refine st_b 10 (show (decide (i ≥ 1)) = false by exact decide_eq_false (by omega)) (by kernel_rfl) ?_
        exact st_retv Try.func66 (show Value.bool (false) = _ by (refine b_eq (decide_eq_false ?_).symm; unfold incOk; omega)) (by kernel_rfl)
      · refine fn_of Try.func66 rfl fun ww => ?_
        refine st_b 23 (show (decide (i ≥ 1)) = false by exact decide_eq_false (by omega)) (by kernel_rfl) ?_
        exact st_retv Try.func66 (show Value.bool (false) = _ by (refine b_eq (decide_eq_false ?_).symm; unfold incOk; omega)) (by kernel_rfl)
      · refine fn_of Try.func66 rfl fun ww => ?_
        refine st_b 23 (show (decide (i ≥ 1)) = false by exact decide_eq_false (by omega)) (by kernel_rfl) ?_
        exact st_retv Try.func66 (show Value.bool (false) = _ by (refine b_eq (decide_eq_false ?_).symm; unfold incOk; omega)) (by kernel_rfl)
      · refine fn_of Try.func66 rfl fun ww => ?_
        refine st_b 23 (show (decide (i ≥ 1)) = false by exact decide_eq_false (by omega)) (by kernel_rfl) ?_
        exact st_retv Try.func66 (show Value.bool (false) = _ by (refine b_eq (decide_eq_false ?_).symm; unfold incOk; omega)) (by kernel_rfl)
      · refine fn_of Try.func66 rfl fun ww => ?_
        refine st_b 23 (show (decide (i ≥ 1)) = false by exact decide_eq_false (by omega)) (by kernel_rfl) ?_
        exact st_retv Try.func66 (show Value.bool (false) = _ by (refine b_eq (decide_eq_false ?_).symm; unfold incOk; omega)) (by kernel_rfl)
  · by_cases k : u < 4
    · by_cases k2 : 1 ≤ i
      · refine fn_of Try.func66 rfl fun ww => ?_
        refine st_b 8 (show (u == 4) = false by exact decide_eq_false (by omega)) (by kernel_rfl) ?_
        refine st_b 16 (show (u == 5) = false by exact decide_eq_false (by omega)) (by kernel_rfl) ?_
        refine st_b 18 (show (u == 6) = false by exact decide_eq_false (by omega)) (by kernel_rfl) ?_
        refine st_b 19 (show (u == 7) = false by exact decide_eq_false (by omega)) (by kernel_rfl) ?_
        refine st_b 21 (show (u == 8) = false by exact decide_eq_false (by omega)) (by kernel_rfl) ?_
        refine st_b 23 (show (decide (i ≥ 1)) = true by exact decide_eq_true (by omega)) (by kernel_rfl) ?_
        refine st_b 27 (show (decide (i < 0)) = false by exact decide_eq_false (by omega)) (by kernel_rfl) ?_
        exact st_retv Try.func66 (show Value.bool (false) = _ by (refine b_eq (decide_eq_false ?_).symm; unfold incOk; omega)) (by kernel_rfl)
      · refine fn_of Try.func66 rfl fun ww => ?_
        refine st_b 8 (show (u == 4) = false by exact decide_eq_false (by omega)) (by kernel_rfl) ?_
        refine st_b 16 (show (u == 5) = false by exact decide_eq_false (by omega)) (by kernel_rfl) ?_
        refine st_b 18 (show (u == 6) = false by exact decide_eq_false (by omega)) (by kernel_rfl) ?_
        refine st_b 19 (show (u == 7) = false by exact decide_eq_false (by omega)) (by kernel_rfl) ?_
        refine st_b 21 (show (u == 8) = false by exact decide_eq_false (by omega)) (by kernel_rfl) ?_
        refine st_b 23 (show (decide (i ≥ 1)) = false by exact decide_eq_false (by omega)) (by kernel_rfl) ?_
        exact st_retv Try.func66 (show Value.bool (false) = _ by (refine b_eq (decide_eq_false ?_).symm; unfold incOk; omega)) (by kernel_rfl)
    · have k' : 8 < u := by omega
      by_cases k2 : 1 ≤ i
      · refine fn_of Try.func66 rfl fun ww => ?_
        refine st_b 8 (show (u == 4) = false by exact decide_eq_false (by omega)) (by kernel_rfl) ?_
        refine st_b 16 (show (u == 5) = false by exact decide_eq_false (by omega)) (by kernel_rfl) ?_
        refine st_b 18 (show (u == 6) = false by exact decide_eq_false (by omega)) (by kernel_rfl) ?_
        refine st_b 19 (show (u == 7) = false by exact decide_eq_false (by omega)) (by kernel_rfl) ?_
        refine st_b 21 (show (u == 8) = false by exact decide_eq_false (by omega)) (by kernel_rfl) ?_
        refine st_b 23 (show (decide (i ≥ 1)) = true by exact decide_eq_true (by omega)) (by kernel_rfl) ?_
        refine st_b 27 (show (decide (i < 0)) = false by exact decide_eq_false (by omega)) (by kernel_rfl) ?_
        exact st_retv Try.func66 (show Value.bool (false) = _ by (refine b_eq (decide_eq_false ?_).symm; unfold incOk; omega)) (by kernel_rfl)
      · refine fn_of Try.func66 rfl fun ww => ?_
        refine st_b 8 (show (u == 4) = false by exact decide_eq_false (by omega)) (by kernel_rfl) ?_
        refine st_b 16 (show (u == 5) = false by exact decide_eq_false (by omega)) (by kernel_rfl) ?_
        refine st_b 18 (show (u == 6) = false by exact decide_eq_false (by omega)) (by kernel_rfl) ?_
        refine st_b 19 (show (u == 7) = false by exact decide_eq_false (by omega)) (by kernel_rfl) ?_
        refine st_b 21 (show (u == 8) = false by exact decide_eq_false (by omega)) (by kernel_rfl) ?_
        refine st_b 23 (show (decide (i ≥ 1)) = false by exact decide_eq_false (by omega)) (by kernel_rfl) ?_
        exact st_retv Try.func66 (show Value.bool (false) = _ by (refine b_eq (decide_eq_false ?_).symm; unfold incOk; omega)) (by kernel_rfl)
theorem i64_0 : I64 0 := by unfold I64; omega
theorem l_i64 {u x : Int} (k : layOk u x) : I64 (l4 u x) ∧ I64 (l5 u x) ∧ I64 (l6 u x) ∧ I64 (l7 u x) ∧ I64 (l8 u x) := by
  have s := lay_small (x := x) k.1.1 k.1.2
  obtain ⟨⟨k1, k2⟩, k3, k4⟩ := k
  rcases units k1 k2 with rfl | rfl | rfl | rfl | rfl <;> unfold I64 <;> simp only [l4, l5, l6, l7, l8, ulen, Int.reduceEq, Int.reduceLE, Int.reduceLT, if_true, if_false, tdiv_1, true_implies, false_implies, true_and, and_true, and_self] at s k4 ⊢ <;> omega
theorem lay_64 {u x : Int} (k : layOk u x) : all64 0 0 0 (l4 u x) (l5 u x) (l6 u x) (l7 u x) (l8 u x) := by
  obtain ⟨a, b, c, d, e⟩ := l_i64 k
  exact ⟨i64_0, i64_0, i64_0, a, b, c, d, e⟩
theorem I64.w' {x : Int} (h : I64 x) : W128 x := h.w
theorem alive18 : Fn 54 [] [] (.bool true) := by
  have i1 : I64 90061000000001 := by unfold I64; omega
  have a1 := ulay_y 5 90061000000001 (by unfold W128; omega) (by decide)
  have r1 := uright_y 0 0 0 0 25 1 1 1 (by unfold all64 I64; omega) (by decide)
  have x1 := uexact_y 0 0 0 1 0 0 0 0 (by unfold all64 I64; omega) (by decide)
  have x2 := uexact_y 0 0 0 0 (-25) 0 0 0 (by unfold all64 I64; omega) (by decide)
  have t1 := utot 0 0 0 1 0 0 0 0 (by unfold I64; omega) (by unfold I64; omega) (by unfold I64; omega) (by unfold I64; omega) (by unfold I64; omega)
  have t2 := utot 0 0 0 0 (-25) 0 0 0 (by unfold I64; omega) (by unfold I64; omega) (by unfold I64; omega) (by unfold I64; omega) (by unfold I64; omega)
  have g1 := ularg 0 0 0 1 0 0 0 0
  have g2 := ularg 0 0 0 0 (-25) 0 0 0
  have w1 := wadd_yes 86400000000000 (-90000000000000) (by unfold W128; omega) (by unfold W128; omega) (by unfold W128; omega)
  have a2 := ulay_y 4 (-3600000000000) (by unfold W128; omega) (by decide)
  have ad : Fn 55 [] [duv 0 0 0 1 0 0 0 0, duv 0 0 0 0 (-25) 0 0 0] (.tuple #[duv 0 0 0 0 (-1) 0 0 0, .int .i64 0]) := by
    refine fn_of Try.func55 rfl fun ww => ?_
    refine st_fn ent138 (x1) sub0 (by kernel_rfl) ?_
    refine st_fn ent138 (x2) sub0 (by kernel_rfl) ?_
    refine st_fn ent139 (t1) sub0 (by kernel_rfl) ?_
    refine st_fn ent139 (t2) sub0 (by kernel_rfl) ?_
    refine st_fn ent129 (w1) sub0 (by kernel_rfl) ?_
    refine st_fn ent70 (g1) sub0 (by kernel_rfl) ?_
    refine st_fn ent70 (g2) sub0 (by kernel_rfl) ?_
    refine st_fn ent52 (a2) sub0 (by kernel_rfl) ?_
    exact st_retv Try.func55 (show Value.tuple #[Value.agg { toList := [Value.int IntKind.i64 0, Value.int IntKind.i64 0, Value.int IntKind.i64 0, Value.int IntKind.i64 (l4 4 (-3600000000000)), Value.int IntKind.i64 (l5 4 (-3600000000000)), Value.int IntKind.i64 (l6 4 (-3600000000000)), Value.int IntKind.i64 (l7 4 (-3600000000000)), Value.int IntKind.i64 (l8 4 (-3600000000000))] }, Value.int IntKind.i64 0] = _ by rfl) (by kernel_rfl)
  refine fn_of Try.func54 rfl fun ww => ?_
  refine st_fn ent51 (wof_fn (90061000000001) (by assumption)) sub0 (by kernel_rfl) ?_
  refine st_fn ent52 (a1) sub0 (by kernel_rfl) ?_
  refine st_fn ent55 (ad) sub0 (by kernel_rfl) ?_
  refine st_fn ent62 (r1) sub0 (by kernel_rfl) ?_
  exact st_ret Try.func54 (by kernel_rfl)
theorem dunits_v (W : World) : Calls Try.prog 13 #[.int .i64 u, .int .i64 i] W (fun e w' => e = .returned (.bool true) ∧ Ext W w') := by
  have h : Fn 13 [] [.int .i64 u, .int .i64 i] (.bool true) := by
    have e : (decide (incOk u i) == decide (incOk u i)) = true := beq_self_eq_true _
    refine fn_of Try.func13 rfl fun ww => ?_
    refine st_fn ent54 (alive18) sub0 (by kernel_rfl) ?_
    refine st_fn ent63 (ulen_fn (u)) sub0 (by kernel_rfl) ?_
    refine st_fn ent64 (zulen_fn (u)) sub0 (by kernel_rfl) ?_
    refine st_b 11 (show (ulen u == ulen u) = true by exact decide_eq_true (by omega)) (by kernel_rfl) ?_
    refine st_fn ent65 (uinc (u) (i)) sub0 (by kernel_rfl) ?_
    refine st_fn ent66 (zuinc (u) (i)) sub0 (by kernel_rfl) ?_
    exact st_retv Try.func13 (show Value.bool (decide (incOk u i) == decide (incOk u i)) = _ by simp) (by kernel_rfl)
  exact h W (zall_nil W)
end
section
variable (u x : Int)
theorem dlays_v (a b c d h mi s n e : Int) (hx : W128 x) (h1 : Fn 52 [] [wv x, .int .i64 u] (.tuple #[duv a b c d h mi s n, .int .i64 e])) (h2 : ∀ p : ZQ, Fn 53 [(p, x)] [zv p, .int .i64 u] (.tuple #[duv a b c d h mi s n, .int .i64 e])) : Fn 10 [] [wv x, .int .i64 u] (.bool true) := by
  refine fn_of Try.func10 rfl fun ww => ?_
  refine st_fn ent52 (h1) sub0 (by kernel_rfl) ?_
  refine st_g ent35 (frof (x) (by assumption)) sub0 (by kernel_rfl) (fun zq1 => ?_)
  refine st_fn ent53 (h2 (zq1)) (subC 0 rfl sub0) (by kernel_rfl) ?_
  refine st_fn ent54 (alive18) sub0 (by kernel_rfl) ?_
  refine st_b 26 (show (a == a && (b == b && (c == c && (d == d && (h == h && (mi == mi && (s == s && (n == n && true)))))))) = true by simp_all) (by kernel_rfl) ?_
  exact st_retv Try.func10 (show Value.bool (e == e) = _ by simp) (by kernel_rfl)
theorem law_dlays (W : World) (hx : W128 x) : Calls Try.prog 10 #[wv x, .int .i64 u] W (fun e w' => e = .returned (.bool true) ∧ Ext W w') := by
  by_cases h : 4 ≤ u ∧ u ≤ 8
  · by_cases k : layOk u x
    · exact dlays_v u x _ _ _ _ _ _ _ _ _ hx (ulay_y u x hx k) (fun p => zulay_y u x p hx k) W (zall_nil W)
    · exact dlays_v u x _ _ _ _ _ _ _ _ _ hx (ulay_n u x hx h.1 h.2 k) (fun p => zulay_n u x p hx h.1 h.2 k) W (zall_nil W)
  · exact dlays_v u x _ _ _ _ _ _ _ _ _ hx (ulay_arg x u (by omega)) (fun p w _ => zulay_arg p x u (by omega) w (zall_nil w)) W (zall_nil W)
theorem dtots_e (e : Int) (he : e = 1 ∨ e = 4) (h1 : Fn 52 [] [wv x, .int .i64 u] (.tuple #[du0, .int .i64 e])) : Fn 12 [] [wv x, .int .i64 u] (.bool true) := by
  rcases he with rfl | rfl
  · refine fn_of Try.func12 rfl fun ww => ?_
    refine st_fn ent52 (h1) sub0 (by kernel_rfl) ?_
    refine st_fn ent54 (alive18) sub0 (by kernel_rfl) ?_
    exact st_ret Try.func12 (by kernel_rfl)
  · refine fn_of Try.func12 rfl fun ww => ?_
    refine st_fn ent52 (h1) sub0 (by kernel_rfl) ?_
    refine st_fn ent54 (alive18) sub0 (by kernel_rfl) ?_
    exact st_ret Try.func12 (by kernel_rfl)
theorem dtots_v (d h mi s n : Int) (h1 : Fn 52 [] [wv x, .int .i64 u] (.tuple #[duv 0 0 0 d h mi s n, .int .i64 0])) (h2 : Fn 60 [] [duv 0 0 0 d h mi s n] (.tuple #[wv x, .int .i64 0])) (h3 : Fn 61 [] [duv 0 0 0 d h mi s n] (.int .i64 (cmpI x 0))) (h4 : Fn 62 [] [duv 0 0 0 d h mi s n] (.bool true))
    (k : (u < 5 → -24 < h ∧ h < 24) ∧ (u < 6 → -60 < mi ∧ mi < 60) ∧ (u < 7 → -60 < s ∧ s < 60) ∧ (u < 8 → -1000000000 < n ∧ n < 1000000000)) : Fn 12 [] [wv x, .int .i64 u] (.bool true) := by
  by_cases u5 : u < 5
  · refine fn_of Try.func12 rfl fun ww => ?_
    refine st_fn ent52 (h1) sub0 (by kernel_rfl) ?_
    refine st_fn ent60 (h2) sub0 (by kernel_rfl) ?_
    refine st_fn ent61 (h3) sub0 (by kernel_rfl) ?_
    refine st_b 41 (show (decide (u ≥ 5)) = false by exact decide_eq_false (by omega)) (by kernel_rfl) ?_
    refine st_b 45 (show (decide (h > -24)) = true by exact decide_eq_true (by omega)) (by kernel_rfl) ?_
    refine st_b 49 (show (decide (h < 24)) = true by exact decide_eq_true (by omega)) (by kernel_rfl) ?_
    refine st_b 54 (show (decide (u ≥ 6)) = false by exact decide_eq_false (by omega)) (by kernel_rfl) ?_
    refine st_b 58 (show (decide (mi > -60)) = true by exact decide_eq_true (by omega)) (by kernel_rfl) ?_
    refine st_b 62 (show (decide (mi < 60)) = true by exact decide_eq_true (by omega)) (by kernel_rfl) ?_
    refine st_b 68 (show (decide (u ≥ 7)) = false by exact decide_eq_false (by omega)) (by kernel_rfl) ?_
    refine st_b 72 (show (decide (s > -60)) = true by exact decide_eq_true (by omega)) (by kernel_rfl) ?_
    refine st_b 76 (show (decide (s < 60)) = true by exact decide_eq_true (by omega)) (by kernel_rfl) ?_
    refine st_b 82 (show (decide (u ≥ 8)) = false by exact decide_eq_false (by omega)) (by kernel_rfl) ?_
    refine st_b 86 (show (decide (n > -1000000000)) = true by exact decide_eq_true (by omega)) (by kernel_rfl) ?_
    refine st_b 90 (show (decide (n < 1000000000)) = true by exact decide_eq_true (by omega)) (by kernel_rfl) ?_
    refine st_fn ent54 (alive18) sub0 (by kernel_rfl) ?_
    refine st_b 98 (show (hi x == hi x && (lo x == lo x && true)) = true by simp_all) (by kernel_rfl) ?_
    refine st_fn ent48 (wsign_fn (x)) sub0 (by kernel_rfl) ?_
    refine st_b 108 (show (cmpI x 0 == cmpI x 0) = true by exact decide_eq_true (by omega)) (by kernel_rfl) ?_
    refine st_fn ent62 (h4) sub0 (by kernel_rfl) ?_
    exact st_ret Try.func12 (by kernel_rfl)
  · by_cases u6 : u < 6
    · refine fn_of Try.func12 rfl fun ww => ?_
      refine st_fn ent52 (h1) sub0 (by kernel_rfl) ?_
      refine st_fn ent60 (h2) sub0 (by kernel_rfl) ?_
      refine st_fn ent61 (h3) sub0 (by kernel_rfl) ?_
      refine st_b 41 (show (decide (u ≥ 5)) = true by exact decide_eq_true (by omega)) (by kernel_rfl) ?_
      refine st_b 54 (show (decide (u ≥ 6)) = false by exact decide_eq_false (by omega)) (by kernel_rfl) ?_
      refine st_b 58 (show (decide (mi > -60)) = true by exact decide_eq_true (by omega)) (by kernel_rfl) ?_
      refine st_b 62 (show (decide (mi < 60)) = true by exact decide_eq_true (by omega)) (by kernel_rfl) ?_
      refine st_b 68 (show (decide (u ≥ 7)) = false by exact decide_eq_false (by omega)) (by kernel_rfl) ?_
      refine st_b 72 (show (decide (s > -60)) = true by exact decide_eq_true (by omega)) (by kernel_rfl) ?_
      refine st_b 76 (show (decide (s < 60)) = true by exact decide_eq_true (by omega)) (by kernel_rfl) ?_
      refine st_b 82 (show (decide (u ≥ 8)) = false by exact decide_eq_false (by omega)) (by kernel_rfl) ?_
      refine st_b 86 (show (decide (n > -1000000000)) = true by exact decide_eq_true (by omega)) (by kernel_rfl) ?_
      refine st_b 90 (show (decide (n < 1000000000)) = true by exact decide_eq_true (by omega)) (by kernel_rfl) ?_
      refine st_fn ent54 (alive18) sub0 (by kernel_rfl) ?_
      refine st_b 98 (show (hi x == hi x && (lo x == lo x && true)) = true by simp_all) (by kernel_rfl) ?_
      refine st_fn ent48 (wsign_fn (x)) sub0 (by kernel_rfl) ?_
      refine st_b 108 (show (cmpI x 0 == cmpI x 0) = true by exact decide_eq_true (by omega)) (by kernel_rfl) ?_
      refine st_fn ent62 (h4) sub0 (by kernel_rfl) ?_
      exact st_ret Try.func12 (by kernel_rfl)
    · by_cases u7 : u < 7
      · refine fn_of Try.func12 rfl fun ww => ?_
        refine st_fn ent52 (h1) sub0 (by kernel_rfl) ?_
        refine st_fn ent60 (h2) sub0 (by kernel_rfl) ?_
        refine st_fn ent61 (h3) sub0 (by kernel_rfl) ?_
        refine st_b 41 (show (decide (u ≥ 5)) = true by exact decide_eq_true (by omega)) (by kernel_rfl) ?_
        refine st_b 54 (show (decide (u ≥ 6)) = true by exact decide_eq_true (by omega)) (by kernel_rfl) ?_
        refine st_b 68 (show (decide (u ≥ 7)) = false by exact decide_eq_false (by omega)) (by kernel_rfl) ?_
        refine st_b 72 (show (decide (s > -60)) = true by exact decide_eq_true (by omega)) (by kernel_rfl) ?_
        refine st_b 76 (show (decide (s < 60)) = true by exact decide_eq_true (by omega)) (by kernel_rfl) ?_
        refine st_b 82 (show (decide (u ≥ 8)) = false by exact decide_eq_false (by omega)) (by kernel_rfl) ?_
        refine st_b 86 (show (decide (n > -1000000000)) = true by exact decide_eq_true (by omega)) (by kernel_rfl) ?_
        refine st_b 90 (show (decide (n < 1000000000)) = true by exact decide_eq_true (by omega)) (by kernel_rfl) ?_
        refine st_fn ent54 (alive18) sub0 (by kernel_rfl) ?_
        refine st_b 98 (show (hi x == hi x && (lo x == lo x && true)) = true by simp_all) (by kernel_rfl) ?_
        refine st_fn ent48 (wsign_fn (x)) sub0 (by kernel_rfl) ?_
        refine st_b 108 (show (cmpI x 0 == cmpI x 0) = true by exact decide_eq_true (by omega)) (by kernel_rfl) ?_
        refine st_fn ent62 (h4) sub0 (by kernel_rfl) ?_
        exact st_ret Try.func12 (by kernel_rfl)
      · by_cases u8 : u < 8
        · refine fn_of Try.func12 rfl fun ww => ?_
          refine st_fn ent52 (h1) sub0 (by kernel_rfl) ?_
          refine st_fn ent60 (h2) sub0 (by kernel_rfl) ?_
          refine st_fn ent61 (h3) sub0 (by kernel_rfl) ?_
          refine st_b 41 (show (decide (u ≥ 5)) = true by exact decide_eq_true (by omega)) (by kernel_rfl) ?_
          refine st_b 54 (show (decide (u ≥ 6)) = true by exact decide_eq_true (by omega)) (by kernel_rfl) ?_
          refine st_b 68 (show (decide (u ≥ 7)) = true by exact decide_eq_true (by omega)) (by kernel_rfl) ?_
          refine st_b 82 (show (decide (u ≥ 8)) = false by exact decide_eq_false (by omega)) (by kernel_rfl) ?_
          refine st_b 86 (show (decide (n > -1000000000)) = true by exact decide_eq_true (by omega)) (by kernel_rfl) ?_
          refine st_b 90 (show (decide (n < 1000000000)) = true by exact decide_eq_true (by omega)) (by kernel_rfl) ?_
          refine st_fn ent54 (alive18) sub0 (by kernel_rfl) ?_
          refine st_b 98 (show (hi x == hi x && (lo x == lo x && true)) = true by simp_all) (by kernel_rfl) ?_
          refine st_fn ent48 (wsign_fn (x)) sub0 (by kernel_rfl) ?_
          refine st_b 108 (show (cmpI x 0 == cmpI x 0) = true by exact decide_eq_true (by omega)) (by kernel_rfl) ?_
          refine st_fn ent62 (h4) sub0 (by kernel_rfl) ?_
          exact st_ret Try.func12 (by kernel_rfl)
        · refine fn_of Try.func12 rfl fun ww => ?_
          refine st_fn ent52 (h1) sub0 (by kernel_rfl) ?_
          refine st_fn ent60 (h2) sub0 (by kernel_rfl) ?_
          refine st_fn ent61 (h3) sub0 (by kernel_rfl) ?_
          refine st_b 41 (show (decide (u ≥ 5)) = true by exact decide_eq_true (by omega)) (by kernel_rfl) ?_
          refine st_b 54 (show (decide (u ≥ 6)) = true by exact decide_eq_true (by omega)) (by kernel_rfl) ?_
          refine st_b 68 (show (decide (u ≥ 7)) = true by exact decide_eq_true (by omega)) (by kernel_rfl) ?_
          refine st_b 82 (show (decide (u ≥ 8)) = true by exact decide_eq_true (by omega)) (by kernel_rfl) ?_
          refine st_fn ent54 (alive18) sub0 (by kernel_rfl) ?_
          refine st_b 98 (show (hi x == hi x && (lo x == lo x && true)) = true by simp_all) (by kernel_rfl) ?_
          refine st_fn ent48 (wsign_fn (x)) sub0 (by kernel_rfl) ?_
          refine st_b 108 (show (cmpI x 0 == cmpI x 0) = true by exact decide_eq_true (by omega)) (by kernel_rfl) ?_
          refine st_fn ent62 (h4) sub0 (by kernel_rfl) ?_
          exact st_ret Try.func12 (by kernel_rfl)
theorem law_dtots (W : World) (hx : W128 x) : Calls Try.prog 12 #[wv x, .int .i64 u] W (fun e w' => e = .returned (.bool true) ∧ Ext W w') := by
  by_cases h : 4 ≤ u ∧ u ≤ 8
  · by_cases k : layOk u x
    · have o := lay_ok k
      have a := lay_64 k
      have t := (lay_tot (x := x) k.1.1 k.1.2).1
      have t1 := utotal_y _ _ _ _ _ _ _ _ a o.1
      rw [t] at t1
      have s1 := usign _ _ _ _ _ _ _ _ a
      rw [sg8_ex o.1.1, t] at s1
      exact dtots_v u x _ _ _ _ _ (ulay_y u x hx k) t1 s1 (uright_y _ _ _ _ _ _ _ _ a o.1) (lay_small k.1.1 k.1.2) W (zall_nil W)
    · exact dtots_e u x 4 (.inr rfl) (ulay_n u x hx h.1 h.2 k) W (zall_nil W)
  · exact dtots_e u x 1 (.inl rfl) (ulay_arg x u (by omega)) W (zall_nil W)
end
end Go.Proofs.Ytcndfpfjckkinaa
end
section
/-
  What comes in: a wide number by its two halves, numbers by their bounds.
-/
namespace Go.Proofs.Ytcndfpfjckkinaa
open Go Go.RowKit

theorem i64_in {n : Int} (h : (Lit.int .i64 n).wf = true) : I64 n := bounds_i64 h
theorem wide_in {a b : Int} (h : (Lit.int .i64 a).wf = true) (h' : (Lit.int .u64 b).wf = true) : ∃ n, W128 n ∧ a = hi n ∧ b = lo n := by
  obtain ⟨h1, h2⟩ := bounds_i64 h
  obtain ⟨h3, h4⟩ := bounds_u64 h'
  obtain ⟨e1, e2⟩ := of_hi_lo a b h3 (by omega)
  exact ⟨a * 18446744073709551616 + b, by unfold W128; omega, e1.symm, e2.symm⟩
end Go.Proofs.Ytcndfpfjckkinaa
end
