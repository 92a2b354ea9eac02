/-
  Texts joined: Duf, Dul, Duh, Dui, Duk, Mw, Ml, Inw, Inl, In, Duj, Inn. Each says at its head what it shows.
-/
import Derived.OpenShut
import Derived.WideShapes
import Derived.Test.YtccllfegnijpiaaPIe
section
/-
  A total laid out, as the reference does it.
-/
set_option linter.unusedVariables false
set_option maxRecDepth 100000
namespace Go.Proofs.Ytccllfegnijpiaa
open Go Go.RowKit Go.Ev

section
variable (p q : ZQ) (y A B : Int)
theorem zdt (h0 : 0 ≤ y) (hy : Bits 900 y) (hB : 0 < B) (hB2 : Bits 900 B) : FnZZ 44 [(p, y), (q, B)] [zv p, zv q] (fun q => .tuple #[zv q.1, zv q.2]) (y.tdiv B) (y.tmod B) := by
  have t := fzdiv p q y B (hy.mono (by decide)) (hB2.mono (by decide)) (by omega)
  rwa [Int.fdiv_eq_ediv_of_nonneg _ (by omega), Int.fmod_eq_emod_of_nonneg _ (by omega), ← Int.tdiv_eq_ediv_of_nonneg h0, ← Int.tmod_eq_emod_of_nonneg h0] at t
theorem tmod_nb (h0 : 0 ≤ y) (hA : 0 < A) (hA2 : Bits 900 A) : 0 ≤ y.tmod A ∧ Bits 900 (y.tmod A) := by
  have e := (td y A hA).2.1 h0
  exact ⟨e.2.1, hA2.le (by omega)⟩
theorem zdc (h0 : 0 ≤ y) (hA : 0 < A) (hA2 : Bits 900 A) (hB : 0 < B) (hB2 : Bits 900 B) (hd : B ∣ A) : FnZZ 44 [(p, y.tmod A), (q, B)] [zv p, zv q] (fun q => .tuple #[zv q.1, zv q.2]) ((y.tmod A).tdiv B) (y.tmod B) := by
  obtain ⟨a, b⟩ := tmod_nb y A h0 hA hA2
  have t := zdt p q (y.tmod A) B a b hB hB2
  rwa [Int.tmod_tmod_of_dvd y hd] at t
theorem tdvb (h0 : 0 ≤ y) (hy : Bits 900 y) (hB : 0 < B) : Bits 900 (y.tdiv B) := by
  obtain ⟨e1, e2, e3⟩ := td y B hB
  have g := e2 h0
  have : y.tdiv B ≤ y.tdiv B * B := by have := Int.mul_le_mul_of_nonneg_left (show 1 ≤ B by omega) g.1; omega
  exact hy.le (by omega)
theorem zng (hy : Bits 900 y) : FnZ 107 [(p, y)] [zv p] zv (-y) := fzneg p y (hy.fit (by decide))
end
theorem zulay4p_y (p : ZQ) (x : Int) (hx : W128 x) (h0 : 0 ≤ x) (g : I64 (x.tdiv 86400000000000)) (k : uOk 0 0 0 (x.tdiv 86400000000000) ((x.tmod 86400000000000).tdiv 3600000000000) ((x.tmod 3600000000000).tdiv 60000000000) ((x.tmod 60000000000).tdiv 1000000000) (x.tmod 1000000000)) : Fn 65 [(p, x)] [zv p, .int .i64 4] (.tuple #[duv 0 0 0 (x.tdiv 86400000000000) ((x.tmod 86400000000000).tdiv 3600000000000) ((x.tmod 3600000000000).tdiv 60000000000) ((x.tmod 60000000000).tdiv 1000000000) (x.tmod 1000000000), .int .i64 0]) := by
  have hy : Bits 900 x := hx.bits.mono (by decide)
  have y0 : 0 ≤ x := by omega
  have bL4 : Bits 900 86400000000000 := Bits.mono (show W128 86400000000000 by unfold W128; omega).bits (by decide)
  have bL5 : Bits 900 3600000000000 := Bits.mono (show W128 3600000000000 by unfold W128; omega).bits (by decide)
  have bL6 : Bits 900 60000000000 := Bits.mono (show W128 60000000000 by unfold W128; omega).bits (by decide)
  have bL7 : Bits 900 1000000000 := Bits.mono (show W128 1000000000 by unfold W128; omega).bits (by decide)
  have bL8 : Bits 900 1 := Bits.mono (show W128 1 by unfold W128; omega).bits (by decide)
  have j1 : I64 86400000000000 := by unfold I64; omega
  have j2 : I64 3600000000000 := by unfold I64; omega
  have j3 : I64 60000000000 := by unfold I64; omega
  have j4 : I64 1000000000 := by unfold I64; omega
  have j5 : I64 1 := by unfold I64; omega
  have j0 : I64 0 := by unfold I64; omega
  have fa : ∀ p : ZQ, FnZ 106 [(p, x)] [zv p] zv x := fun p => by
    have t := fzabs p x (hx.bits.fit (by decide))
    rwa [show ((x.natAbs : Nat) : Int) = x by omega] at t
  have d0 : ∀ p q : ZQ, FnZZ 44 [(p, x), (q, 86400000000000)] [zv p, zv q] (fun q => .tuple #[zv q.1, zv q.2]) (x.tdiv 86400000000000) (x.tmod 86400000000000) := fun p q => zdt p q x 86400000000000 y0 hy (by omega) bL4
  have d1 : ∀ p q : ZQ, FnZZ 44 [(p, x.tmod 86400000000000), (q, 3600000000000)] [zv p, zv q] (fun q => .tuple #[zv q.1, zv q.2]) ((x.tmod 86400000000000).tdiv 3600000000000) (x.tmod 3600000000000) := fun p q => zdc p q x 86400000000000 3600000000000 y0 (by omega) bL4 (by omega) bL5 (by decide)
  have d2 : ∀ p q : ZQ, FnZZ 44 [(p, x.tmod 3600000000000), (q, 60000000000)] [zv p, zv q] (fun q => .tuple #[zv q.1, zv q.2]) ((x.tmod 3600000000000).tdiv 60000000000) (x.tmod 60000000000) := fun p q => zdc p q x 3600000000000 60000000000 y0 (by omega) bL5 (by omega) bL6 (by decide)
  have d3 : ∀ p q : ZQ, FnZZ 44 [(p, x.tmod 60000000000), (q, 1000000000)] [zv p, zv q] (fun q => .tuple #[zv q.1, zv q.2]) ((x.tmod 60000000000).tdiv 1000000000) (x.tmod 1000000000) := fun p q => zdc p q x 60000000000 1000000000 y0 (by omega) bL6 (by omega) bL7 (by decide)
  have d4 : ∀ p q : ZQ, FnZZ 44 [(p, x.tmod 1000000000), (q, 1)] [zv p, zv q] (fun q => .tuple #[zv q.1, zv q.2]) ((x.tmod 1000000000).tdiv 1) (x.tmod 1) := fun p q => zdc p q x 1000000000 1 y0 (by omega) bL7 (by omega) bL8 (by decide)
  have g5 : I64 ((x.tmod 86400000000000).tdiv 3600000000000) := by have := td2 x 86400000000000 3600000000000 24 (by decide) (by omega) (by omega); unfold I64; omega
  have g6 : I64 ((x.tmod 3600000000000).tdiv 60000000000) := by have := td2 x 3600000000000 60000000000 60 (by decide) (by omega) (by omega); unfold I64; omega
  have g7 : I64 ((x.tmod 60000000000).tdiv 1000000000) := by have := td2 x 60000000000 1000000000 60 (by decide) (by omega) (by omega); unfold I64; omega
  have g8 : I64 (x.tmod 1000000000) := by
    obtain ⟨e1, e2, e3⟩ := td x 1000000000 (by omega)
    by_cases z : 0 ≤ x
    · have := e2 z; unfold I64; omega
    · have := e3 (by omega); unfold I64; omega
  have f0 : ∀ p : ZQ, Fn 59 [(p, x.tdiv 86400000000000)] [zv p] (.tuple #[.int .i64 (x.tdiv 86400000000000), .bool true]) := fun p => by
    have t := fits_f p (x.tdiv 86400000000000) (g.w.bits.mono (by decide)) g
    exact t
  have f1 : ∀ p : ZQ, Fn 59 [(p, (x.tmod 86400000000000).tdiv 3600000000000)] [zv p] (.tuple #[.int .i64 ((x.tmod 86400000000000).tdiv 3600000000000), .bool true]) := fun p => by
    have t := fits_f p ((x.tmod 86400000000000).tdiv 3600000000000) (g5.w.bits.mono (by decide)) g5
    exact t
  have f2 : ∀ p : ZQ, Fn 59 [(p, (x.tmod 3600000000000).tdiv 60000000000)] [zv p] (.tuple #[.int .i64 ((x.tmod 3600000000000).tdiv 60000000000), .bool true]) := fun p => by
    have t := fits_f p ((x.tmod 3600000000000).tdiv 60000000000) (g6.w.bits.mono (by decide)) g6
    exact t
  have f3 : ∀ p : ZQ, Fn 59 [(p, (x.tmod 60000000000).tdiv 1000000000)] [zv p] (.tuple #[.int .i64 ((x.tmod 60000000000).tdiv 1000000000), .bool true]) := fun p => by
    have t := fits_f p ((x.tmod 60000000000).tdiv 1000000000) (g7.w.bits.mono (by decide)) g7
    exact t
  have f4 : ∀ p : ZQ, Fn 59 [(p, (x.tmod 1000000000).tdiv 1)] [zv p] (.tuple #[.int .i64 (x.tmod 1000000000), .bool true]) := fun p => by
    have t := fits_f p (x.tmod 1000000000) (g8.w.bits.mono (by decide)) g8
    simpa only [tdiv_1] using t
  have r := zuright_y 0 0 0 (x.tdiv 86400000000000) ((x.tmod 86400000000000).tdiv 3600000000000) ((x.tmod 3600000000000).tdiv 60000000000) ((x.tmod 60000000000).tdiv 1000000000) (x.tmod 1000000000) ⟨j0, j0, j0, g, g5, g6, g7, g8⟩ k
  refine fn_of Try.func65 rfl fun ww => ?_
  refine st_know (p := p.n = false) (fun w hw => by rw [z_neg (hw (p, x) (by simp))]; simp; omega) fun hn => ?_
  clear hy y0 g hx k
  refine st_fn ent43 (zulen4) sub0 (by kernel_rfl) ?_
  refine st_g ent106 (fa (p)) (subC 0 rfl sub0) (by kernel_rfl) (fun zq1 => ?_)
  refine st_round (by kernel_rfl) ?_
  refine st_fn ent43 (zulen4) sub0 (by kernel_rfl) ?_
  refine st_g ent42 (fzint (86400000000000) (by assumption)) sub0 (by kernel_rfl) (fun zq3 => ?_)
  refine st_g ent44 (d0 (zq1) (zq3)) (subC 1 rfl (subC 0 rfl sub0)) (by kernel_rfl) (fun zq4 => ?_)
  refine st_b 34 (show (p.n) = false by assumption) (by kernel_rfl) ?_
  refine st_fn ent59 (f0 (zq4.fst)) (subC 0 rfl sub0) (by kernel_rfl) ?_
  refine st_i 46 .i64 (x' := 4 - 1) (Go.IntWalk.i64_in _ (by omega)) (by kernel_rfl) ?_
  refine st_i 24 .i64 (x' := 4 + 1) (Go.IntWalk.i64_in _ (by omega)) (by kernel_rfl) ?_
  refine st_round (by kernel_rfl) ?_
  refine st_fn ent43 (zulen5) sub0 (by kernel_rfl) ?_
  refine st_g ent42 (fzint (3600000000000) (by assumption)) sub0 (by kernel_rfl) (fun zq7 => ?_)
  refine st_g ent44 (d1 (zq4.snd) (zq7)) (subC 2 rfl (subC 0 rfl sub0)) (by kernel_rfl) (fun zq8 => ?_)
  refine st_b 34 (show (p.n) = false by assumption) (by kernel_rfl) ?_
  refine st_fn ent59 (f1 (zq8.fst)) (subC 0 rfl sub0) (by kernel_rfl) ?_
  refine st_i 46 .i64 (x' := 4 + 1 - 1) (Go.IntWalk.i64_in _ (by omega)) (by kernel_rfl) ?_
  refine st_i 24 .i64 (x' := 4 + 1 + 1) (Go.IntWalk.i64_in _ (by omega)) (by kernel_rfl) ?_
  refine st_round (by kernel_rfl) ?_
  refine st_fn ent43 (zulen6) sub0 (by kernel_rfl) ?_
  refine st_g ent42 (fzint (60000000000) (by assumption)) sub0 (by kernel_rfl) (fun zq11 => ?_)
  refine st_g ent44 (d2 (zq8.snd) (zq11)) (subC 2 rfl (subC 0 rfl sub0)) (by kernel_rfl) (fun zq12 => ?_)
  refine st_b 34 (show (p.n) = false by assumption) (by kernel_rfl) ?_
  refine st_fn ent59 (f2 (zq12.fst)) (subC 0 rfl sub0) (by kernel_rfl) ?_
  refine st_i 46 .i64 (x' := 4 + 1 + 1 - 1) (Go.IntWalk.i64_in _ (by omega)) (by kernel_rfl) ?_
  refine st_i 24 .i64 (x' := 4 + 1 + 1 + 1) (Go.IntWalk.i64_in _ (by omega)) (by kernel_rfl) ?_
  refine st_round (by kernel_rfl) ?_
  refine st_fn ent43 (zulen7) sub0 (by kernel_rfl) ?_
  refine st_g ent42 (fzint (1000000000) (by assumption)) sub0 (by kernel_rfl) (fun zq15 => ?_)
  refine st_g ent44 (d3 (zq12.snd) (zq15)) (subC 2 rfl (subC 0 rfl sub0)) (by kernel_rfl) (fun zq16 => ?_)
  refine st_b 34 (show (p.n) = false by assumption) (by kernel_rfl) ?_
  refine st_fn ent59 (f3 (zq16.fst)) (subC 0 rfl sub0) (by kernel_rfl) ?_
  refine st_i 46 .i64 (x' := 4 + 1 + 1 + 1 - 1) (Go.IntWalk.i64_in _ (by omega)) (by kernel_rfl) ?_
  refine st_i 24 .i64 (x' := 4 + 1 + 1 + 1 + 1) (Go.IntWalk.i64_in _ (by omega)) (by kernel_rfl) ?_
  refine st_round (by kernel_rfl) ?_
  refine st_fn ent43 (zulen8) sub0 (by kernel_rfl) ?_
  refine st_g ent42 (fzint (1) (by assumption)) sub0 (by kernel_rfl) (fun zq19 => ?_)
  refine st_g ent44 (d4 (zq16.snd) (zq19)) (subC 2 rfl (subC 0 rfl sub0)) (by kernel_rfl) (fun zq20 => ?_)
  refine st_b 34 (show (p.n) = false by assumption) (by kernel_rfl) ?_
  refine st_fn ent59 (f4 (zq20.fst)) (subC 0 rfl sub0) (by kernel_rfl) ?_
  refine st_i 46 .i64 (x' := 4 + 1 + 1 + 1 + 1 - 1) (Go.IntWalk.i64_in _ (by omega)) (by kernel_rfl) ?_
  refine st_i 24 .i64 (x' := 4 + 1 + 1 + 1 + 1 + 1) (Go.IntWalk.i64_in _ (by omega)) (by kernel_rfl) ?_
  refine st_round (by kernel_rfl) ?_
  refine st_fn ent121 (zumade (0) (0) (0) (x.tdiv 86400000000000) ((x.tmod 86400000000000).tdiv 3600000000000) ((x.tmod 3600000000000).tdiv 60000000000) ((x.tmod 60000000000).tdiv 1000000000) (x.tmod 1000000000)) sub0 (by kernel_rfl) ?_
  refine st_fn ent119 (r) sub0 (by kernel_rfl) ?_
  exact st_ret Try.func65 (by kernel_rfl)
theorem zulay4p_r (p : ZQ) (x : Int) (hx : W128 x) (h0 : 0 ≤ x) (g : I64 (x.tdiv 86400000000000)) (k : ¬ uOk 0 0 0 (x.tdiv 86400000000000) ((x.tmod 86400000000000).tdiv 3600000000000) ((x.tmod 3600000000000).tdiv 60000000000) ((x.tmod 60000000000).tdiv 1000000000) (x.tmod 1000000000)) : Fn 65 [(p, x)] [zv p, .int .i64 4] (.tuple #[du0, .int .i64 4]) := by
  have hy : Bits 900 x := hx.bits.mono (by decide)
  have y0 : 0 ≤ x := by omega
  have bL4 : Bits 900 86400000000000 := Bits.mono (show W128 86400000000000 by unfold W128; omega).bits (by decide)
  have bL5 : Bits 900 3600000000000 := Bits.mono (show W128 3600000000000 by unfold W128; omega).bits (by decide)
  have bL6 : Bits 900 60000000000 := Bits.mono (show W128 60000000000 by unfold W128; omega).bits (by decide)
  have bL7 : Bits 900 1000000000 := Bits.mono (show W128 1000000000 by unfold W128; omega).bits (by decide)
  have bL8 : Bits 900 1 := Bits.mono (show W128 1 by unfold W128; omega).bits (by decide)
  have j1 : I64 86400000000000 := by unfold I64; omega
  have j2 : I64 3600000000000 := by unfold I64; omega
  have j3 : I64 60000000000 := by unfold I64; omega
  have j4 : I64 1000000000 := by unfold I64; omega
  have j5 : I64 1 := by unfold I64; omega
  have j0 : I64 0 := by unfold I64; omega
  have fa : ∀ p : ZQ, FnZ 106 [(p, x)] [zv p] zv x := fun p => by
    have t := fzabs p x (hx.bits.fit (by decide))
    rwa [show ((x.natAbs : Nat) : Int) = x by omega] at t
  have d0 : ∀ p q : ZQ, FnZZ 44 [(p, x), (q, 86400000000000)] [zv p, zv q] (fun q => .tuple #[zv q.1, zv q.2]) (x.tdiv 86400000000000) (x.tmod 86400000000000) := fun p q => zdt p q x 86400000000000 y0 hy (by omega) bL4
  have d1 : ∀ p q : ZQ, FnZZ 44 [(p, x.tmod 86400000000000), (q, 3600000000000)] [zv p, zv q] (fun q => .tuple #[zv q.1, zv q.2]) ((x.tmod 86400000000000).tdiv 3600000000000) (x.tmod 3600000000000) := fun p q => zdc p q x 86400000000000 3600000000000 y0 (by omega) bL4 (by omega) bL5 (by decide)
  have d2 : ∀ p q : ZQ, FnZZ 44 [(p, x.tmod 3600000000000), (q, 60000000000)] [zv p, zv q] (fun q => .tuple #[zv q.1, zv q.2]) ((x.tmod 3600000000000).tdiv 60000000000) (x.tmod 60000000000) := fun p q => zdc p q x 3600000000000 60000000000 y0 (by omega) bL5 (by omega) bL6 (by decide)
  have d3 : ∀ p q : ZQ, FnZZ 44 [(p, x.tmod 60000000000), (q, 1000000000)] [zv p, zv q] (fun q => .tuple #[zv q.1, zv q.2]) ((x.tmod 60000000000).tdiv 1000000000) (x.tmod 1000000000) := fun p q => zdc p q x 60000000000 1000000000 y0 (by omega) bL6 (by omega) bL7 (by decide)
  have d4 : ∀ p q : ZQ, FnZZ 44 [(p, x.tmod 1000000000), (q, 1)] [zv p, zv q] (fun q => .tuple #[zv q.1, zv q.2]) ((x.tmod 1000000000).tdiv 1) (x.tmod 1) := fun p q => zdc p q x 1000000000 1 y0 (by omega) bL7 (by omega) bL8 (by decide)
  have g5 : I64 ((x.tmod 86400000000000).tdiv 3600000000000) := by have := td2 x 86400000000000 3600000000000 24 (by decide) (by omega) (by omega); unfold I64; omega
  have g6 : I64 ((x.tmod 3600000000000).tdiv 60000000000) := by have := td2 x 3600000000000 60000000000 60 (by decide) (by omega) (by omega); unfold I64; omega
  have g7 : I64 ((x.tmod 60000000000).tdiv 1000000000) := by have := td2 x 60000000000 1000000000 60 (by decide) (by omega) (by omega); unfold I64; omega
  have g8 : I64 (x.tmod 1000000000) := by
    obtain ⟨e1, e2, e3⟩ := td x 1000000000 (by omega)
    by_cases z : 0 ≤ x
    · have := e2 z; unfold I64; omega
    · have := e3 (by omega); unfold I64; omega
  have f0 : ∀ p : ZQ, Fn 59 [(p, x.tdiv 86400000000000)] [zv p] (.tuple #[.int .i64 (x.tdiv 86400000000000), .bool true]) := fun p => by
    have t := fits_f p (x.tdiv 86400000000000) (g.w.bits.mono (by decide)) g
    exact t
  have f1 : ∀ p : ZQ, Fn 59 [(p, (x.tmod 86400000000000).tdiv 3600000000000)] [zv p] (.tuple #[.int .i64 ((x.tmod 86400000000000).tdiv 3600000000000), .bool true]) := fun p => by
    have t := fits_f p ((x.tmod 86400000000000).tdiv 3600000000000) (g5.w.bits.mono (by decide)) g5
    exact t
  have f2 : ∀ p : ZQ, Fn 59 [(p, (x.tmod 3600000000000).tdiv 60000000000)] [zv p] (.tuple #[.int .i64 ((x.tmod 3600000000000).tdiv 60000000000), .bool true]) := fun p => by
    have t := fits_f p ((x.tmod 3600000000000).tdiv 60000000000) (g6.w.bits.mono (by decide)) g6
    exact t
  have f3 : ∀ p : ZQ, Fn 59 [(p, (x.tmod 60000000000).tdiv 1000000000)] [zv p] (.tuple #[.int .i64 ((x.tmod 60000000000).tdiv 1000000000), .bool true]) := fun p => by
    have t := fits_f p ((x.tmod 60000000000).tdiv 1000000000) (g7.w.bits.mono (by decide)) g7
    exact t
  have f4 : ∀ p : ZQ, Fn 59 [(p, (x.tmod 1000000000).tdiv 1)] [zv p] (.tuple #[.int .i64 (x.tmod 1000000000), .bool true]) := fun p => by
    have t := fits_f p (x.tmod 1000000000) (g8.w.bits.mono (by decide)) g8
    simpa only [tdiv_1] using t
  have r := zuright_f 0 0 0 (x.tdiv 86400000000000) ((x.tmod 86400000000000).tdiv 3600000000000) ((x.tmod 3600000000000).tdiv 60000000000) ((x.tmod 60000000000).tdiv 1000000000) (x.tmod 1000000000) ⟨j0, j0, j0, g, g5, g6, g7, g8⟩ k
  refine fn_of Try.func65 rfl fun ww => ?_
  refine st_know (p := p.n = false) (fun w hw => by rw [z_neg (hw (p, x) (by simp))]; simp; omega) fun hn => ?_
  clear hy y0 g hx k
  refine st_fn ent43 (zulen4) sub0 (by kernel_rfl) ?_
  refine st_g ent106 (fa (p)) (subC 0 rfl sub0) (by kernel_rfl) (fun zq1 => ?_)
  refine st_round (by kernel_rfl) ?_
  refine st_fn ent43 (zulen4) sub0 (by kernel_rfl) ?_
  refine st_g ent42 (fzint (86400000000000) (by assumption)) sub0 (by kernel_rfl) (fun zq3 => ?_)
  refine st_g ent44 (d0 (zq1) (zq3)) (subC 1 rfl (subC 0 rfl sub0)) (by kernel_rfl) (fun zq4 => ?_)
  refine st_b 34 (show (p.n) = false by assumption) (by kernel_rfl) ?_
  refine st_fn ent59 (f0 (zq4.fst)) (subC 0 rfl sub0) (by kernel_rfl) ?_
  refine st_i 46 .i64 (x' := 4 - 1) (Go.IntWalk.i64_in _ (by omega)) (by kernel_rfl) ?_
  refine st_i 24 .i64 (x' := 4 + 1) (Go.IntWalk.i64_in _ (by omega)) (by kernel_rfl) ?_
  refine st_round (by kernel_rfl) ?_
  refine st_fn ent43 (zulen5) sub0 (by kernel_rfl) ?_
  refine st_g ent42 (fzint (3600000000000) (by assumption)) sub0 (by kernel_rfl) (fun zq7 => ?_)
  refine st_g ent44 (d1 (zq4.snd) (zq7)) (subC 2 rfl (subC 0 rfl sub0)) (by kernel_rfl) (fun zq8 => ?_)
  refine st_b 34 (show (p.n) = false by assumption) (by kernel_rfl) ?_
  refine st_fn ent59 (f1 (zq8.fst)) (subC 0 rfl sub0) (by kernel_rfl) ?_
  refine st_i 46 .i64 (x' := 4 + 1 - 1) (Go.IntWalk.i64_in _ (by omega)) (by kernel_rfl) ?_
  refine st_i 24 .i64 (x' := 4 + 1 + 1) (Go.IntWalk.i64_in _ (by omega)) (by kernel_rfl) ?_
  refine st_round (by kernel_rfl) ?_
  refine st_fn ent43 (zulen6) sub0 (by kernel_rfl) ?_
  refine st_g ent42 (fzint (60000000000) (by assumption)) sub0 (by kernel_rfl) (fun zq11 => ?_)
  refine st_g ent44 (d2 (zq8.snd) (zq11)) (subC 2 rfl (subC 0 rfl sub0)) (by kernel_rfl) (fun zq12 => ?_)
  refine st_b 34 (show (p.n) = false by assumption) (by kernel_rfl) ?_
  refine st_fn ent59 (f2 (zq12.fst)) (subC 0 rfl sub0) (by kernel_rfl) ?_
  refine st_i 46 .i64 (x' := 4 + 1 + 1 - 1) (Go.IntWalk.i64_in _ (by omega)) (by kernel_rfl) ?_
  refine st_i 24 .i64 (x' := 4 + 1 + 1 + 1) (Go.IntWalk.i64_in _ (by omega)) (by kernel_rfl) ?_
  refine st_round (by kernel_rfl) ?_
  refine st_fn ent43 (zulen7) sub0 (by kernel_rfl) ?_
  refine st_g ent42 (fzint (1000000000) (by assumption)) sub0 (by kernel_rfl) (fun zq15 => ?_)
  refine st_g ent44 (d3 (zq12.snd) (zq15)) (subC 2 rfl (subC 0 rfl sub0)) (by kernel_rfl) (fun zq16 => ?_)
  refine st_b 34 (show (p.n) = false by assumption) (by kernel_rfl) ?_
  refine st_fn ent59 (f3 (zq16.fst)) (subC 0 rfl sub0) (by kernel_rfl) ?_
  refine st_i 46 .i64 (x' := 4 + 1 + 1 + 1 - 1) (Go.IntWalk.i64_in _ (by omega)) (by kernel_rfl) ?_
  refine st_i 24 .i64 (x' := 4 + 1 + 1 + 1 + 1) (Go.IntWalk.i64_in _ (by omega)) (by kernel_rfl) ?_
  refine st_round (by kernel_rfl) ?_
  refine st_fn ent43 (zulen8) sub0 (by kernel_rfl) ?_
  refine st_g ent42 (fzint (1) (by assumption)) sub0 (by kernel_rfl) (fun zq19 => ?_)
  refine st_g ent44 (d4 (zq16.snd) (zq19)) (subC 2 rfl (subC 0 rfl sub0)) (by kernel_rfl) (fun zq20 => ?_)
  refine st_b 34 (show (p.n) = false by assumption) (by kernel_rfl) ?_
  refine st_fn ent59 (f4 (zq20.fst)) (subC 0 rfl sub0) (by kernel_rfl) ?_
  refine st_i 46 .i64 (x' := 4 + 1 + 1 + 1 + 1 - 1) (Go.IntWalk.i64_in _ (by omega)) (by kernel_rfl) ?_
  refine st_i 24 .i64 (x' := 4 + 1 + 1 + 1 + 1 + 1) (Go.IntWalk.i64_in _ (by omega)) (by kernel_rfl) ?_
  refine st_round (by kernel_rfl) ?_
  refine st_fn ent121 (zumade (0) (0) (0) (x.tdiv 86400000000000) ((x.tmod 86400000000000).tdiv 3600000000000) ((x.tmod 3600000000000).tdiv 60000000000) ((x.tmod 60000000000).tdiv 1000000000) (x.tmod 1000000000)) sub0 (by kernel_rfl) ?_
  refine st_fn ent119 (r) sub0 (by kernel_rfl) ?_
  exact st_ret Try.func65 (by kernel_rfl)
theorem zulay4p_o (p : ZQ) (x : Int) (hx : W128 x) (h0 : 0 ≤ x) (g : ¬ I64 (x.tdiv 86400000000000)) : Fn 65 [(p, x)] [zv p, .int .i64 4] (.tuple #[du0, .int .i64 4]) := by
  have hy : Bits 900 x := hx.bits.mono (by decide)
  have y0 : 0 ≤ x := by omega
  have bL4 : Bits 900 86400000000000 := Bits.mono (show W128 86400000000000 by unfold W128; omega).bits (by decide)
  have bL5 : Bits 900 3600000000000 := Bits.mono (show W128 3600000000000 by unfold W128; omega).bits (by decide)
  have bL6 : Bits 900 60000000000 := Bits.mono (show W128 60000000000 by unfold W128; omega).bits (by decide)
  have bL7 : Bits 900 1000000000 := Bits.mono (show W128 1000000000 by unfold W128; omega).bits (by decide)
  have bL8 : Bits 900 1 := Bits.mono (show W128 1 by unfold W128; omega).bits (by decide)
  have j1 : I64 86400000000000 := by unfold I64; omega
  have j2 : I64 3600000000000 := by unfold I64; omega
  have j3 : I64 60000000000 := by unfold I64; omega
  have j4 : I64 1000000000 := by unfold I64; omega
  have j5 : I64 1 := by unfold I64; omega
  have j0 : I64 0 := by unfold I64; omega
  have fa : ∀ p : ZQ, FnZ 106 [(p, x)] [zv p] zv x := fun p => by
    have t := fzabs p x (hx.bits.fit (by decide))
    rwa [show ((x.natAbs : Nat) : Int) = x by omega] at t
  have d0 : ∀ p q : ZQ, FnZZ 44 [(p, x), (q, 86400000000000)] [zv p, zv q] (fun q => .tuple #[zv q.1, zv q.2]) (x.tdiv 86400000000000) (x.tmod 86400000000000) := fun p q => zdt p q x 86400000000000 y0 hy (by omega) bL4
  have g5 : I64 ((x.tmod 86400000000000).tdiv 3600000000000) := by have := td2 x 86400000000000 3600000000000 24 (by decide) (by omega) (by omega); unfold I64; omega
  have g6 : I64 ((x.tmod 3600000000000).tdiv 60000000000) := by have := td2 x 3600000000000 60000000000 60 (by decide) (by omega) (by omega); unfold I64; omega
  have g7 : I64 ((x.tmod 60000000000).tdiv 1000000000) := by have := td2 x 60000000000 1000000000 60 (by decide) (by omega) (by omega); unfold I64; omega
  have g8 : I64 (x.tmod 1000000000) := by
    obtain ⟨e1, e2, e3⟩ := td x 1000000000 (by omega)
    by_cases z : 0 ≤ x
    · have := e2 z; unfold I64; omega
    · have := e3 (by omega); unfold I64; omega
  have f0 : ∀ p : ZQ, Fn 59 [(p, x.tdiv 86400000000000)] [zv p] (.tuple #[.int .i64 0, .bool false]) := fun p => by
    have t := fits_n p (x.tdiv 86400000000000) ((tdvb x 86400000000000 y0 hy (by omega)).mono (by decide)) g
    exact t
  refine fn_of Try.func65 rfl fun ww => ?_
  refine st_know (p := p.n = false) (fun w hw => by rw [z_neg (hw (p, x) (by simp))]; simp; omega) fun hn => ?_
  clear hy y0 g hx
  refine st_fn ent43 (zulen4) sub0 (by kernel_rfl) ?_
  refine st_g ent106 (fa (p)) (subC 0 rfl sub0) (by kernel_rfl) (fun zq1 => ?_)
  refine st_round (by kernel_rfl) ?_
  refine st_fn ent43 (zulen4) sub0 (by kernel_rfl) ?_
  refine st_g ent42 (fzint (86400000000000) (by assumption)) sub0 (by kernel_rfl) (fun zq3 => ?_)
  refine st_g ent44 (d0 (zq1) (zq3)) (subC 1 rfl (subC 0 rfl sub0)) (by kernel_rfl) (fun zq4 => ?_)
  refine st_b 34 (show (p.n) = false by assumption) (by kernel_rfl) ?_
  refine st_fn ent59 (f0 (zq4.fst)) (subC 0 rfl sub0) (by kernel_rfl) ?_
  exact st_ret Try.func65 (by kernel_rfl)
theorem zulay4n_y (p : ZQ) (x : Int) (hx : W128 x) (h0 : x < 0) (g : I64 (x.tdiv 86400000000000)) (k : uOk 0 0 0 (x.tdiv 86400000000000) ((x.tmod 86400000000000).tdiv 3600000000000) ((x.tmod 3600000000000).tdiv 60000000000) ((x.tmod 60000000000).tdiv 1000000000) (x.tmod 1000000000)) : Fn 65 [(p, x)] [zv p, .int .i64 4] (.tuple #[duv 0 0 0 (x.tdiv 86400000000000) ((x.tmod 86400000000000).tdiv 3600000000000) ((x.tmod 3600000000000).tdiv 60000000000) ((x.tmod 60000000000).tdiv 1000000000) (x.tmod 1000000000), .int .i64 0]) := by
  have hy : Bits 900 (-x) := (hx.bits.neg).mono (by decide)
  have y0 : 0 ≤ (-x) := by omega
  have bL4 : Bits 900 86400000000000 := Bits.mono (show W128 86400000000000 by unfold W128; omega).bits (by decide)
  have bL5 : Bits 900 3600000000000 := Bits.mono (show W128 3600000000000 by unfold W128; omega).bits (by decide)
  have bL6 : Bits 900 60000000000 := Bits.mono (show W128 60000000000 by unfold W128; omega).bits (by decide)
  have bL7 : Bits 900 1000000000 := Bits.mono (show W128 1000000000 by unfold W128; omega).bits (by decide)
  have bL8 : Bits 900 1 := Bits.mono (show W128 1 by unfold W128; omega).bits (by decide)
  have j1 : I64 86400000000000 := by unfold I64; omega
  have j2 : I64 3600000000000 := by unfold I64; omega
  have j3 : I64 60000000000 := by unfold I64; omega
  have j4 : I64 1000000000 := by unfold I64; omega
  have j5 : I64 1 := by unfold I64; omega
  have j0 : I64 0 := by unfold I64; omega
  have fa : ∀ p : ZQ, FnZ 106 [(p, x)] [zv p] zv (-x) := fun p => by
    have t := fzabs p x (hx.bits.fit (by decide))
    rwa [show ((x.natAbs : Nat) : Int) = -x by omega] at t
  have d0 : ∀ p q : ZQ, FnZZ 44 [(p, (-x)), (q, 86400000000000)] [zv p, zv q] (fun q => .tuple #[zv q.1, zv q.2]) ((-x).tdiv 86400000000000) ((-x).tmod 86400000000000) := fun p q => zdt p q (-x) 86400000000000 y0 hy (by omega) bL4
  have d1 : ∀ p q : ZQ, FnZZ 44 [(p, (-x).tmod 86400000000000), (q, 3600000000000)] [zv p, zv q] (fun q => .tuple #[zv q.1, zv q.2]) (((-x).tmod 86400000000000).tdiv 3600000000000) ((-x).tmod 3600000000000) := fun p q => zdc p q (-x) 86400000000000 3600000000000 y0 (by omega) bL4 (by omega) bL5 (by decide)
  have d2 : ∀ p q : ZQ, FnZZ 44 [(p, (-x).tmod 3600000000000), (q, 60000000000)] [zv p, zv q] (fun q => .tuple #[zv q.1, zv q.2]) (((-x).tmod 3600000000000).tdiv 60000000000) ((-x).tmod 60000000000) := fun p q => zdc p q (-x) 3600000000000 60000000000 y0 (by omega) bL5 (by omega) bL6 (by decide)
  have d3 : ∀ p q : ZQ, FnZZ 44 [(p, (-x).tmod 60000000000), (q, 1000000000)] [zv p, zv q] (fun q => .tuple #[zv q.1, zv q.2]) (((-x).tmod 60000000000).tdiv 1000000000) ((-x).tmod 1000000000) := fun p q => zdc p q (-x) 60000000000 1000000000 y0 (by omega) bL6 (by omega) bL7 (by decide)
  have d4 : ∀ p q : ZQ, FnZZ 44 [(p, (-x).tmod 1000000000), (q, 1)] [zv p, zv q] (fun q => .tuple #[zv q.1, zv q.2]) (((-x).tmod 1000000000).tdiv 1) ((-x).tmod 1) := fun p q => zdc p q (-x) 1000000000 1 y0 (by omega) bL7 (by omega) bL8 (by decide)
  have g5 : I64 ((x.tmod 86400000000000).tdiv 3600000000000) := by have := td2 x 86400000000000 3600000000000 24 (by decide) (by omega) (by omega); unfold I64; omega
  have g6 : I64 ((x.tmod 3600000000000).tdiv 60000000000) := by have := td2 x 3600000000000 60000000000 60 (by decide) (by omega) (by omega); unfold I64; omega
  have g7 : I64 ((x.tmod 60000000000).tdiv 1000000000) := by have := td2 x 60000000000 1000000000 60 (by decide) (by omega) (by omega); unfold I64; omega
  have g8 : I64 (x.tmod 1000000000) := by
    obtain ⟨e1, e2, e3⟩ := td x 1000000000 (by omega)
    by_cases z : 0 ≤ x
    · have := e2 z; unfold I64; omega
    · have := e3 (by omega); unfold I64; omega
  have n0 : ∀ p : ZQ, FnZ 107 [(p, (-x).tdiv 86400000000000)] [zv p] zv (x.tdiv 86400000000000) := fun p => by
    have t := zng p ((-x).tdiv 86400000000000) (tdvb (-x) 86400000000000 y0 hy (by omega))
    rwa [show -((-x).tdiv 86400000000000) = (x.tdiv 86400000000000) by rw [Int.neg_tdiv, Int.neg_neg]] at t
  have f0 : ∀ p : ZQ, Fn 59 [(p, (x.tdiv 86400000000000))] [zv p] (.tuple #[.int .i64 (x.tdiv 86400000000000), .bool true]) := fun p => by
    have t := fits_f p (x.tdiv 86400000000000) (g.w.bits.mono (by decide)) g
    exact t
  have n1 : ∀ p : ZQ, FnZ 107 [(p, ((-x).tmod 86400000000000).tdiv 3600000000000)] [zv p] zv ((x.tmod 86400000000000).tdiv 3600000000000) := fun p => by
    have t := zng p (((-x).tmod 86400000000000).tdiv 3600000000000) (tdvb _ 3600000000000 (tmod_nb (-x) 86400000000000 y0 (by omega) bL4).1 (tmod_nb (-x) 86400000000000 y0 (by omega) bL4).2 (by omega))
    rwa [show -(((-x).tmod 86400000000000).tdiv 3600000000000) = ((x.tmod 86400000000000).tdiv 3600000000000) by rw [Int.neg_tmod, Int.neg_tdiv, Int.neg_neg]] at t
  have f1 : ∀ p : ZQ, Fn 59 [(p, ((x.tmod 86400000000000).tdiv 3600000000000))] [zv p] (.tuple #[.int .i64 ((x.tmod 86400000000000).tdiv 3600000000000), .bool true]) := fun p => by
    have t := fits_f p ((x.tmod 86400000000000).tdiv 3600000000000) (g5.w.bits.mono (by decide)) g5
    exact t
  have n2 : ∀ p : ZQ, FnZ 107 [(p, ((-x).tmod 3600000000000).tdiv 60000000000)] [zv p] zv ((x.tmod 3600000000000).tdiv 60000000000) := fun p => by
    have t := zng p (((-x).tmod 3600000000000).tdiv 60000000000) (tdvb _ 60000000000 (tmod_nb (-x) 3600000000000 y0 (by omega) bL5).1 (tmod_nb (-x) 3600000000000 y0 (by omega) bL5).2 (by omega))
    rwa [show -(((-x).tmod 3600000000000).tdiv 60000000000) = ((x.tmod 3600000000000).tdiv 60000000000) by rw [Int.neg_tmod, Int.neg_tdiv, Int.neg_neg]] at t
  have f2 : ∀ p : ZQ, Fn 59 [(p, ((x.tmod 3600000000000).tdiv 60000000000))] [zv p] (.tuple #[.int .i64 ((x.tmod 3600000000000).tdiv 60000000000), .bool true]) := fun p => by
    have t := fits_f p ((x.tmod 3600000000000).tdiv 60000000000) (g6.w.bits.mono (by decide)) g6
    exact t
  have n3 : ∀ p : ZQ, FnZ 107 [(p, ((-x).tmod 60000000000).tdiv 1000000000)] [zv p] zv ((x.tmod 60000000000).tdiv 1000000000) := fun p => by
    have t := zng p (((-x).tmod 60000000000).tdiv 1000000000) (tdvb _ 1000000000 (tmod_nb (-x) 60000000000 y0 (by omega) bL6).1 (tmod_nb (-x) 60000000000 y0 (by omega) bL6).2 (by omega))
    rwa [show -(((-x).tmod 60000000000).tdiv 1000000000) = ((x.tmod 60000000000).tdiv 1000000000) by rw [Int.neg_tmod, Int.neg_tdiv, Int.neg_neg]] at t
  have f3 : ∀ p : ZQ, Fn 59 [(p, ((x.tmod 60000000000).tdiv 1000000000))] [zv p] (.tuple #[.int .i64 ((x.tmod 60000000000).tdiv 1000000000), .bool true]) := fun p => by
    have t := fits_f p ((x.tmod 60000000000).tdiv 1000000000) (g7.w.bits.mono (by decide)) g7
    exact t
  have n4 : ∀ p : ZQ, FnZ 107 [(p, ((-x).tmod 1000000000).tdiv 1)] [zv p] zv (x.tmod 1000000000) := fun p => by
    have t := zng p (((-x).tmod 1000000000).tdiv 1) (tdvb _ 1 (tmod_nb (-x) 1000000000 y0 (by omega) bL7).1 (tmod_nb (-x) 1000000000 y0 (by omega) bL7).2 (by omega))
    rwa [show -(((-x).tmod 1000000000).tdiv 1) = (x.tmod 1000000000) by rw [Int.neg_tmod, Int.neg_tdiv, Int.neg_neg, tdiv_1]] at t
  have f4 : ∀ p : ZQ, Fn 59 [(p, (x.tmod 1000000000))] [zv p] (.tuple #[.int .i64 (x.tmod 1000000000), .bool true]) := fun p => by
    have t := fits_f p (x.tmod 1000000000) (g8.w.bits.mono (by decide)) g8
    exact t
  have r := zuright_y 0 0 0 (x.tdiv 86400000000000) ((x.tmod 86400000000000).tdiv 3600000000000) ((x.tmod 3600000000000).tdiv 60000000000) ((x.tmod 60000000000).tdiv 1000000000) (x.tmod 1000000000) ⟨j0, j0, j0, g, g5, g6, g7, g8⟩ k
  refine fn_of Try.func65 rfl fun ww => ?_
  refine st_know (p := p.n = true) (fun w hw => by rw [z_neg (hw (p, x) (by simp))]; simp; omega) fun hn => ?_
  clear hy y0 g hx k
  refine st_fn ent43 (zulen4) sub0 (by kernel_rfl) ?_
  refine st_g ent106 (fa (p)) (subC 0 rfl sub0) (by kernel_rfl) (fun zq1 => ?_)
  refine st_round (by kernel_rfl) ?_
  refine st_fn ent43 (zulen4) sub0 (by kernel_rfl) ?_
  refine st_g ent42 (fzint (86400000000000) (by assumption)) sub0 (by kernel_rfl) (fun zq3 => ?_)
  refine st_g ent44 (d0 (zq1) (zq3)) (subC 1 rfl (subC 0 rfl sub0)) (by kernel_rfl) (fun zq4 => ?_)
  refine st_b 34 (show (p.n) = true by assumption) (by kernel_rfl) ?_
  refine st_g ent107 (n0 (zq4.fst)) (subC 0 rfl sub0) (by kernel_rfl) (fun zq5 => ?_)
  refine st_fn ent59 (f0 (zq5)) (subC 0 rfl sub0) (by kernel_rfl) ?_
  refine st_i 46 .i64 (x' := 4 - 1) (Go.IntWalk.i64_in _ (by omega)) (by kernel_rfl) ?_
  refine st_i 24 .i64 (x' := 4 + 1) (Go.IntWalk.i64_in _ (by omega)) (by kernel_rfl) ?_
  refine st_round (by kernel_rfl) ?_
  refine st_fn ent43 (zulen5) sub0 (by kernel_rfl) ?_
  refine st_g ent42 (fzint (3600000000000) (by assumption)) sub0 (by kernel_rfl) (fun zq8 => ?_)
  refine st_g ent44 (d1 (zq4.snd) (zq8)) (subC 3 rfl (subC 0 rfl sub0)) (by kernel_rfl) (fun zq9 => ?_)
  refine st_b 34 (show (p.n) = true by assumption) (by kernel_rfl) ?_
  refine st_g ent107 (n1 (zq9.fst)) (subC 0 rfl sub0) (by kernel_rfl) (fun zq10 => ?_)
  refine st_fn ent59 (f1 (zq10)) (subC 0 rfl sub0) (by kernel_rfl) ?_
  refine st_i 46 .i64 (x' := 4 + 1 - 1) (Go.IntWalk.i64_in _ (by omega)) (by kernel_rfl) ?_
  refine st_i 24 .i64 (x' := 4 + 1 + 1) (Go.IntWalk.i64_in _ (by omega)) (by kernel_rfl) ?_
  refine st_round (by kernel_rfl) ?_
  refine st_fn ent43 (zulen6) sub0 (by kernel_rfl) ?_
  refine st_g ent42 (fzint (60000000000) (by assumption)) sub0 (by kernel_rfl) (fun zq13 => ?_)
  refine st_g ent44 (d2 (zq9.snd) (zq13)) (subC 3 rfl (subC 0 rfl sub0)) (by kernel_rfl) (fun zq14 => ?_)
  refine st_b 34 (show (p.n) = true by assumption) (by kernel_rfl) ?_
  refine st_g ent107 (n2 (zq14.fst)) (subC 0 rfl sub0) (by kernel_rfl) (fun zq15 => ?_)
  refine st_fn ent59 (f2 (zq15)) (subC 0 rfl sub0) (by kernel_rfl) ?_
  refine st_i 46 .i64 (x' := 4 + 1 + 1 - 1) (Go.IntWalk.i64_in _ (by omega)) (by kernel_rfl) ?_
  refine st_i 24 .i64 (x' := 4 + 1 + 1 + 1) (Go.IntWalk.i64_in _ (by omega)) (by kernel_rfl) ?_
  refine st_round (by kernel_rfl) ?_
  refine st_fn ent43 (zulen7) sub0 (by kernel_rfl) ?_
  refine st_g ent42 (fzint (1000000000) (by assumption)) sub0 (by kernel_rfl) (fun zq18 => ?_)
  refine st_g ent44 (d3 (zq14.snd) (zq18)) (subC 3 rfl (subC 0 rfl sub0)) (by kernel_rfl) (fun zq19 => ?_)
  refine st_b 34 (show (p.n) = true by assumption) (by kernel_rfl) ?_
  refine st_g ent107 (n3 (zq19.fst)) (subC 0 rfl sub0) (by kernel_rfl) (fun zq20 => ?_)
  refine st_fn ent59 (f3 (zq20)) (subC 0 rfl sub0) (by kernel_rfl) ?_
  refine st_i 46 .i64 (x' := 4 + 1 + 1 + 1 - 1) (Go.IntWalk.i64_in _ (by omega)) (by kernel_rfl) ?_
  refine st_i 24 .i64 (x' := 4 + 1 + 1 + 1 + 1) (Go.IntWalk.i64_in _ (by omega)) (by kernel_rfl) ?_
  refine st_round (by kernel_rfl) ?_
  refine st_fn ent43 (zulen8) sub0 (by kernel_rfl) ?_
  refine st_g ent42 (fzint (1) (by assumption)) sub0 (by kernel_rfl) (fun zq23 => ?_)
  refine st_g ent44 (d4 (zq19.snd) (zq23)) (subC 3 rfl (subC 0 rfl sub0)) (by kernel_rfl) (fun zq24 => ?_)
  refine st_b 34 (show (p.n) = true by assumption) (by kernel_rfl) ?_
  refine st_g ent107 (n4 (zq24.fst)) (subC 0 rfl sub0) (by kernel_rfl) (fun zq25 => ?_)
  refine st_fn ent59 (f4 (zq25)) (subC 0 rfl sub0) (by kernel_rfl) ?_
  refine st_i 46 .i64 (x' := 4 + 1 + 1 + 1 + 1 - 1) (Go.IntWalk.i64_in _ (by omega)) (by kernel_rfl) ?_
  refine st_i 24 .i64 (x' := 4 + 1 + 1 + 1 + 1 + 1) (Go.IntWalk.i64_in _ (by omega)) (by kernel_rfl) ?_
  refine st_round (by kernel_rfl) ?_
  refine st_fn ent121 (zumade (0) (0) (0) (x.tdiv 86400000000000) ((x.tmod 86400000000000).tdiv 3600000000000) ((x.tmod 3600000000000).tdiv 60000000000) ((x.tmod 60000000000).tdiv 1000000000) (x.tmod 1000000000)) sub0 (by kernel_rfl) ?_
  refine st_fn ent119 (r) sub0 (by kernel_rfl) ?_
  exact st_ret Try.func65 (by kernel_rfl)
theorem zulay4n_r (p : ZQ) (x : Int) (hx : W128 x) (h0 : x < 0) (g : I64 (x.tdiv 86400000000000)) (k : ¬ uOk 0 0 0 (x.tdiv 86400000000000) ((x.tmod 86400000000000).tdiv 3600000000000) ((x.tmod 3600000000000).tdiv 60000000000) ((x.tmod 60000000000).tdiv 1000000000) (x.tmod 1000000000)) : Fn 65 [(p, x)] [zv p, .int .i64 4] (.tuple #[du0, .int .i64 4]) := by
  have hy : Bits 900 (-x) := (hx.bits.neg).mono (by decide)
  have y0 : 0 ≤ (-x) := by omega
  have bL4 : Bits 900 86400000000000 := Bits.mono (show W128 86400000000000 by unfold W128; omega).bits (by decide)
  have bL5 : Bits 900 3600000000000 := Bits.mono (show W128 3600000000000 by unfold W128; omega).bits (by decide)
  have bL6 : Bits 900 60000000000 := Bits.mono (show W128 60000000000 by unfold W128; omega).bits (by decide)
  have bL7 : Bits 900 1000000000 := Bits.mono (show W128 1000000000 by unfold W128; omega).bits (by decide)
  have bL8 : Bits 900 1 := Bits.mono (show W128 1 by unfold W128; omega).bits (by decide)
  have j1 : I64 86400000000000 := by unfold I64; omega
  have j2 : I64 3600000000000 := by unfold I64; omega
  have j3 : I64 60000000000 := by unfold I64; omega
  have j4 : I64 1000000000 := by unfold I64; omega
  have j5 : I64 1 := by unfold I64; omega
  have j0 : I64 0 := by unfold I64; omega
  have fa : ∀ p : ZQ, FnZ 106 [(p, x)] [zv p] zv (-x) := fun p => by
    have t := fzabs p x (hx.bits.fit (by decide))
    rwa [show ((x.natAbs : Nat) : Int) = -x by omega] at t
  have d0 : ∀ p q : ZQ, FnZZ 44 [(p, (-x)), (q, 86400000000000)] [zv p, zv q] (fun q => .tuple #[zv q.1, zv q.2]) ((-x).tdiv 86400000000000) ((-x).tmod 86400000000000) := fun p q => zdt p q (-x) 86400000000000 y0 hy (by omega) bL4
  have d1 : ∀ p q : ZQ, FnZZ 44 [(p, (-x).tmod 86400000000000), (q, 3600000000000)] [zv p, zv q] (fun q => .tuple #[zv q.1, zv q.2]) (((-x).tmod 86400000000000).tdiv 3600000000000) ((-x).tmod 3600000000000) := fun p q => zdc p q (-x) 86400000000000 3600000000000 y0 (by omega) bL4 (by omega) bL5 (by decide)
  have d2 : ∀ p q : ZQ, FnZZ 44 [(p, (-x).tmod 3600000000000), (q, 60000000000)] [zv p, zv q] (fun q => .tuple #[zv q.1, zv q.2]) (((-x).tmod 3600000000000).tdiv 60000000000) ((-x).tmod 60000000000) := fun p q => zdc p q (-x) 3600000000000 60000000000 y0 (by omega) bL5 (by omega) bL6 (by decide)
  have d3 : ∀ p q : ZQ, FnZZ 44 [(p, (-x).tmod 60000000000), (q, 1000000000)] [zv p, zv q] (fun q => .tuple #[zv q.1, zv q.2]) (((-x).tmod 60000000000).tdiv 1000000000) ((-x).tmod 1000000000) := fun p q => zdc p q (-x) 60000000000 1000000000 y0 (by omega) bL6 (by omega) bL7 (by decide)
  have d4 : ∀ p q : ZQ, FnZZ 44 [(p, (-x).tmod 1000000000), (q, 1)] [zv p, zv q] (fun q => .tuple #[zv q.1, zv q.2]) (((-x).tmod 1000000000).tdiv 1) ((-x).tmod 1) := fun p q => zdc p q (-x) 1000000000 1 y0 (by omega) bL7 (by omega) bL8 (by decide)
  have g5 : I64 ((x.tmod 86400000000000).tdiv 3600000000000) := by have := td2 x 86400000000000 3600000000000 24 (by decide) (by omega) (by omega); unfold I64; omega
  have g6 : I64 ((x.tmod 3600000000000).tdiv 60000000000) := by have := td2 x 3600000000000 60000000000 60 (by decide) (by omega) (by omega); unfold I64; omega
  have g7 : I64 ((x.tmod 60000000000).tdiv 1000000000) := by have := td2 x 60000000000 1000000000 60 (by decide) (by omega) (by omega); unfold I64; omega
  have g8 : I64 (x.tmod 1000000000) := by
    obtain ⟨e1, e2, e3⟩ := td x 1000000000 (by omega)
    by_cases z : 0 ≤ x
    · have := e2 z; unfold I64; omega
    · have := e3 (by omega); unfold I64; omega
  have n0 : ∀ p : ZQ, FnZ 107 [(p, (-x).tdiv 86400000000000)] [zv p] zv (x.tdiv 86400000000000) := fun p => by
    have t := zng p ((-x).tdiv 86400000000000) (tdvb (-x) 86400000000000 y0 hy (by omega))
    rwa [show -((-x).tdiv 86400000000000) = (x.tdiv 86400000000000) by rw [Int.neg_tdiv, Int.neg_neg]] at t
  have f0 : ∀ p : ZQ, Fn 59 [(p, (x.tdiv 86400000000000))] [zv p] (.tuple #[.int .i64 (x.tdiv 86400000000000), .bool true]) := fun p => by
    have t := fits_f p (x.tdiv 86400000000000) (g.w.bits.mono (by decide)) g
    exact t
  have n1 : ∀ p : ZQ, FnZ 107 [(p, ((-x).tmod 86400000000000).tdiv 3600000000000)] [zv p] zv ((x.tmod 86400000000000).tdiv 3600000000000) := fun p => by
    have t := zng p (((-x).tmod 86400000000000).tdiv 3600000000000) (tdvb _ 3600000000000 (tmod_nb (-x) 86400000000000 y0 (by omega) bL4).1 (tmod_nb (-x) 86400000000000 y0 (by omega) bL4).2 (by omega))
    rwa [show -(((-x).tmod 86400000000000).tdiv 3600000000000) = ((x.tmod 86400000000000).tdiv 3600000000000) by rw [Int.neg_tmod, Int.neg_tdiv, Int.neg_neg]] at t
  have f1 : ∀ p : ZQ, Fn 59 [(p, ((x.tmod 86400000000000).tdiv 3600000000000))] [zv p] (.tuple #[.int .i64 ((x.tmod 86400000000000).tdiv 3600000000000), .bool true]) := fun p => by
    have t := fits_f p ((x.tmod 86400000000000).tdiv 3600000000000) (g5.w.bits.mono (by decide)) g5
    exact t
  have n2 : ∀ p : ZQ, FnZ 107 [(p, ((-x).tmod 3600000000000).tdiv 60000000000)] [zv p] zv ((x.tmod 3600000000000).tdiv 60000000000) := fun p => by
    have t := zng p (((-x).tmod 3600000000000).tdiv 60000000000) (tdvb _ 60000000000 (tmod_nb (-x) 3600000000000 y0 (by omega) bL5).1 (tmod_nb (-x) 3600000000000 y0 (by omega) bL5).2 (by omega))
    rwa [show -(((-x).tmod 3600000000000).tdiv 60000000000) = ((x.tmod 3600000000000).tdiv 60000000000) by rw [Int.neg_tmod, Int.neg_tdiv, Int.neg_neg]] at t
  have f2 : ∀ p : ZQ, Fn 59 [(p, ((x.tmod 3600000000000).tdiv 60000000000))] [zv p] (.tuple #[.int .i64 ((x.tmod 3600000000000).tdiv 60000000000), .bool true]) := fun p => by
    have t := fits_f p ((x.tmod 3600000000000).tdiv 60000000000) (g6.w.bits.mono (by decide)) g6
    exact t
  have n3 : ∀ p : ZQ, FnZ 107 [(p, ((-x).tmod 60000000000).tdiv 1000000000)] [zv p] zv ((x.tmod 60000000000).tdiv 1000000000) := fun p => by
    have t := zng p (((-x).tmod 60000000000).tdiv 1000000000) (tdvb _ 1000000000 (tmod_nb (-x) 60000000000 y0 (by omega) bL6).1 (tmod_nb (-x) 60000000000 y0 (by omega) bL6).2 (by omega))
    rwa [show -(((-x).tmod 60000000000).tdiv 1000000000) = ((x.tmod 60000000000).tdiv 1000000000) by rw [Int.neg_tmod, Int.neg_tdiv, Int.neg_neg]] at t
  have f3 : ∀ p : ZQ, Fn 59 [(p, ((x.tmod 60000000000).tdiv 1000000000))] [zv p] (.tuple #[.int .i64 ((x.tmod 60000000000).tdiv 1000000000), .bool true]) := fun p => by
    have t := fits_f p ((x.tmod 60000000000).tdiv 1000000000) (g7.w.bits.mono (by decide)) g7
    exact t
  have n4 : ∀ p : ZQ, FnZ 107 [(p, ((-x).tmod 1000000000).tdiv 1)] [zv p] zv (x.tmod 1000000000) := fun p => by
    have t := zng p (((-x).tmod 1000000000).tdiv 1) (tdvb _ 1 (tmod_nb (-x) 1000000000 y0 (by omega) bL7).1 (tmod_nb (-x) 1000000000 y0 (by omega) bL7).2 (by omega))
    rwa [show -(((-x).tmod 1000000000).tdiv 1) = (x.tmod 1000000000) by rw [Int.neg_tmod, Int.neg_tdiv, Int.neg_neg, tdiv_1]] at t
  have f4 : ∀ p : ZQ, Fn 59 [(p, (x.tmod 1000000000))] [zv p] (.tuple #[.int .i64 (x.tmod 1000000000), .bool true]) := fun p => by
    have t := fits_f p (x.tmod 1000000000) (g8.w.bits.mono (by decide)) g8
    exact t
  have r := zuright_f 0 0 0 (x.tdiv 86400000000000) ((x.tmod 86400000000000).tdiv 3600000000000) ((x.tmod 3600000000000).tdiv 60000000000) ((x.tmod 60000000000).tdiv 1000000000) (x.tmod 1000000000) ⟨j0, j0, j0, g, g5, g6, g7, g8⟩ k
  refine fn_of Try.func65 rfl fun ww => ?_
  refine st_know (p := p.n = true) (fun w hw => by rw [z_neg (hw (p, x) (by simp))]; simp; omega) fun hn => ?_
  clear hy y0 g hx k
  refine st_fn ent43 (zulen4) sub0 (by kernel_rfl) ?_
  refine st_g ent106 (fa (p)) (subC 0 rfl sub0) (by kernel_rfl) (fun zq1 => ?_)
  refine st_round (by kernel_rfl) ?_
  refine st_fn ent43 (zulen4) sub0 (by kernel_rfl) ?_
  refine st_g ent42 (fzint (86400000000000) (by assumption)) sub0 (by kernel_rfl) (fun zq3 => ?_)
  refine st_g ent44 (d0 (zq1) (zq3)) (subC 1 rfl (subC 0 rfl sub0)) (by kernel_rfl) (fun zq4 => ?_)
  refine st_b 34 (show (p.n) = true by assumption) (by kernel_rfl) ?_
  refine st_g ent107 (n0 (zq4.fst)) (subC 0 rfl sub0) (by kernel_rfl) (fun zq5 => ?_)
  refine st_fn ent59 (f0 (zq5)) (subC 0 rfl sub0) (by kernel_rfl) ?_
  refine st_i 46 .i64 (x' := 4 - 1) (Go.IntWalk.i64_in _ (by omega)) (by kernel_rfl) ?_
  refine st_i 24 .i64 (x' := 4 + 1) (Go.IntWalk.i64_in _ (by omega)) (by kernel_rfl) ?_
  refine st_round (by kernel_rfl) ?_
  refine st_fn ent43 (zulen5) sub0 (by kernel_rfl) ?_
  refine st_g ent42 (fzint (3600000000000) (by assumption)) sub0 (by kernel_rfl) (fun zq8 => ?_)
  refine st_g ent44 (d1 (zq4.snd) (zq8)) (subC 3 rfl (subC 0 rfl sub0)) (by kernel_rfl) (fun zq9 => ?_)
  refine st_b 34 (show (p.n) = true by assumption) (by kernel_rfl) ?_
  refine st_g ent107 (n1 (zq9.fst)) (subC 0 rfl sub0) (by kernel_rfl) (fun zq10 => ?_)
  refine st_fn ent59 (f1 (zq10)) (subC 0 rfl sub0) (by kernel_rfl) ?_
  refine st_i 46 .i64 (x' := 4 + 1 - 1) (Go.IntWalk.i64_in _ (by omega)) (by kernel_rfl) ?_
  refine st_i 24 .i64 (x' := 4 + 1 + 1) (Go.IntWalk.i64_in _ (by omega)) (by kernel_rfl) ?_
  refine st_round (by kernel_rfl) ?_
  refine st_fn ent43 (zulen6) sub0 (by kernel_rfl) ?_
  refine st_g ent42 (fzint (60000000000) (by assumption)) sub0 (by kernel_rfl) (fun zq13 => ?_)
  refine st_g ent44 (d2 (zq9.snd) (zq13)) (subC 3 rfl (subC 0 rfl sub0)) (by kernel_rfl) (fun zq14 => ?_)
  refine st_b 34 (show (p.n) = true by assumption) (by kernel_rfl) ?_
  refine st_g ent107 (n2 (zq14.fst)) (subC 0 rfl sub0) (by kernel_rfl) (fun zq15 => ?_)
  refine st_fn ent59 (f2 (zq15)) (subC 0 rfl sub0) (by kernel_rfl) ?_
  refine st_i 46 .i64 (x' := 4 + 1 + 1 - 1) (Go.IntWalk.i64_in _ (by omega)) (by kernel_rfl) ?_
  refine st_i 24 .i64 (x' := 4 + 1 + 1 + 1) (Go.IntWalk.i64_in _ (by omega)) (by kernel_rfl) ?_
  refine st_round (by kernel_rfl) ?_
  refine st_fn ent43 (zulen7) sub0 (by kernel_rfl) ?_
  refine st_g ent42 (fzint (1000000000) (by assumption)) sub0 (by kernel_rfl) (fun zq18 => ?_)
  refine st_g ent44 (d3 (zq14.snd) (zq18)) (subC 3 rfl (subC 0 rfl sub0)) (by kernel_rfl) (fun zq19 => ?_)
  refine st_b 34 (show (p.n) = true by assumption) (by kernel_rfl) ?_
  refine st_g ent107 (n3 (zq19.fst)) (subC 0 rfl sub0) (by kernel_rfl) (fun zq20 => ?_)
  refine st_fn ent59 (f3 (zq20)) (subC 0 rfl sub0) (by kernel_rfl) ?_
  refine st_i 46 .i64 (x' := 4 + 1 + 1 + 1 - 1) (Go.IntWalk.i64_in _ (by omega)) (by kernel_rfl) ?_
  refine st_i 24 .i64 (x' := 4 + 1 + 1 + 1 + 1) (Go.IntWalk.i64_in _ (by omega)) (by kernel_rfl) ?_
  refine st_round (by kernel_rfl) ?_
  refine st_fn ent43 (zulen8) sub0 (by kernel_rfl) ?_
  refine st_g ent42 (fzint (1) (by assumption)) sub0 (by kernel_rfl) (fun zq23 => ?_)
  refine st_g ent44 (d4 (zq19.snd) (zq23)) (subC 3 rfl (subC 0 rfl sub0)) (by kernel_rfl) (fun zq24 => ?_)
  refine st_b 34 (show (p.n) = true by assumption) (by kernel_rfl) ?_
  refine st_g ent107 (n4 (zq24.fst)) (subC 0 rfl sub0) (by kernel_rfl) (fun zq25 => ?_)
  refine st_fn ent59 (f4 (zq25)) (subC 0 rfl sub0) (by kernel_rfl) ?_
  refine st_i 46 .i64 (x' := 4 + 1 + 1 + 1 + 1 - 1) (Go.IntWalk.i64_in _ (by omega)) (by kernel_rfl) ?_
  refine st_i 24 .i64 (x' := 4 + 1 + 1 + 1 + 1 + 1) (Go.IntWalk.i64_in _ (by omega)) (by kernel_rfl) ?_
  refine st_round (by kernel_rfl) ?_
  refine st_fn ent121 (zumade (0) (0) (0) (x.tdiv 86400000000000) ((x.tmod 86400000000000).tdiv 3600000000000) ((x.tmod 3600000000000).tdiv 60000000000) ((x.tmod 60000000000).tdiv 1000000000) (x.tmod 1000000000)) sub0 (by kernel_rfl) ?_
  refine st_fn ent119 (r) sub0 (by kernel_rfl) ?_
  exact st_ret Try.func65 (by kernel_rfl)
theorem zulay4n_o (p : ZQ) (x : Int) (hx : W128 x) (h0 : x < 0) (g : ¬ I64 (x.tdiv 86400000000000)) : Fn 65 [(p, x)] [zv p, .int .i64 4] (.tuple #[du0, .int .i64 4]) := by
  have hy : Bits 900 (-x) := (hx.bits.neg).mono (by decide)
  have y0 : 0 ≤ (-x) := by omega
  have bL4 : Bits 900 86400000000000 := Bits.mono (show W128 86400000000000 by unfold W128; omega).bits (by decide)
  have bL5 : Bits 900 3600000000000 := Bits.mono (show W128 3600000000000 by unfold W128; omega).bits (by decide)
  have bL6 : Bits 900 60000000000 := Bits.mono (show W128 60000000000 by unfold W128; omega).bits (by decide)
  have bL7 : Bits 900 1000000000 := Bits.mono (show W128 1000000000 by unfold W128; omega).bits (by decide)
  have bL8 : Bits 900 1 := Bits.mono (show W128 1 by unfold W128; omega).bits (by decide)
  have j1 : I64 86400000000000 := by unfold I64; omega
  have j2 : I64 3600000000000 := by unfold I64; omega
  have j3 : I64 60000000000 := by unfold I64; omega
  have j4 : I64 1000000000 := by unfold I64; omega
  have j5 : I64 1 := by unfold I64; omega
  have j0 : I64 0 := by unfold I64; omega
  have fa : ∀ p : ZQ, FnZ 106 [(p, x)] [zv p] zv (-x) := fun p => by
    have t := fzabs p x (hx.bits.fit (by decide))
    rwa [show ((x.natAbs : Nat) : Int) = -x by omega] at t
  have d0 : ∀ p q : ZQ, FnZZ 44 [(p, (-x)), (q, 86400000000000)] [zv p, zv q] (fun q => .tuple #[zv q.1, zv q.2]) ((-x).tdiv 86400000000000) ((-x).tmod 86400000000000) := fun p q => zdt p q (-x) 86400000000000 y0 hy (by omega) bL4
  have g5 : I64 ((x.tmod 86400000000000).tdiv 3600000000000) := by have := td2 x 86400000000000 3600000000000 24 (by decide) (by omega) (by omega); unfold I64; omega
  have g6 : I64 ((x.tmod 3600000000000).tdiv 60000000000) := by have := td2 x 3600000000000 60000000000 60 (by decide) (by omega) (by omega); unfold I64; omega
  have g7 : I64 ((x.tmod 60000000000).tdiv 1000000000) := by have := td2 x 60000000000 1000000000 60 (by decide) (by omega) (by omega); unfold I64; omega
  have g8 : I64 (x.tmod 1000000000) := by
    obtain ⟨e1, e2, e3⟩ := td x 1000000000 (by omega)
    by_cases z : 0 ≤ x
    · have := e2 z; unfold I64; omega
    · have := e3 (by omega); unfold I64; omega
  have n0 : ∀ p : ZQ, FnZ 107 [(p, (-x).tdiv 86400000000000)] [zv p] zv (x.tdiv 86400000000000) := fun p => by
    have t := zng p ((-x).tdiv 86400000000000) (tdvb (-x) 86400000000000 y0 hy (by omega))
    rwa [show -((-x).tdiv 86400000000000) = (x.tdiv 86400000000000) by rw [Int.neg_tdiv, Int.neg_neg]] at t
  have f0 : ∀ p : ZQ, Fn 59 [(p, (x.tdiv 86400000000000))] [zv p] (.tuple #[.int .i64 0, .bool false]) := fun p => by
    have t := fits_n p (x.tdiv 86400000000000) (by rw [show (x.tdiv 86400000000000) = -((-x).tdiv 86400000000000) by rw [Int.neg_tdiv, Int.neg_neg]]; exact ((tdvb (-x) 86400000000000 y0 hy (by omega)).neg).mono (by decide)) g
    exact t
  refine fn_of Try.func65 rfl fun ww => ?_
  refine st_know (p := p.n = true) (fun w hw => by rw [z_neg (hw (p, x) (by simp))]; simp; omega) fun hn => ?_
  clear hy y0 g hx
  refine st_fn ent43 (zulen4) sub0 (by kernel_rfl) ?_
  refine st_g ent106 (fa (p)) (subC 0 rfl sub0) (by kernel_rfl) (fun zq1 => ?_)
  refine st_round (by kernel_rfl) ?_
  refine st_fn ent43 (zulen4) sub0 (by kernel_rfl) ?_
  refine st_g ent42 (fzint (86400000000000) (by assumption)) sub0 (by kernel_rfl) (fun zq3 => ?_)
  refine st_g ent44 (d0 (zq1) (zq3)) (subC 1 rfl (subC 0 rfl sub0)) (by kernel_rfl) (fun zq4 => ?_)
  refine st_b 34 (show (p.n) = true by assumption) (by kernel_rfl) ?_
  refine st_g ent107 (n0 (zq4.fst)) (subC 0 rfl sub0) (by kernel_rfl) (fun zq5 => ?_)
  refine st_fn ent59 (f0 (zq5)) (subC 0 rfl sub0) (by kernel_rfl) ?_
  exact st_ret Try.func65 (by kernel_rfl)
theorem zulay5p_y (p : ZQ) (x : Int) (hx : W128 x) (h0 : 0 ≤ x) (g : I64 (x.tdiv 3600000000000)) (k : uOk 0 0 0 0 (x.tdiv 3600000000000) ((x.tmod 3600000000000).tdiv 60000000000) ((x.tmod 60000000000).tdiv 1000000000) (x.tmod 1000000000)) : Fn 65 [(p, x)] [zv p, .int .i64 5] (.tuple #[duv 0 0 0 0 (x.tdiv 3600000000000) ((x.tmod 3600000000000).tdiv 60000000000) ((x.tmod 60000000000).tdiv 1000000000) (x.tmod 1000000000), .int .i64 0]) := by
  have hy : Bits 900 x := hx.bits.mono (by decide)
  have y0 : 0 ≤ x := by omega
  have bL4 : Bits 900 86400000000000 := Bits.mono (show W128 86400000000000 by unfold W128; omega).bits (by decide)
  have bL5 : Bits 900 3600000000000 := Bits.mono (show W128 3600000000000 by unfold W128; omega).bits (by decide)
  have bL6 : Bits 900 60000000000 := Bits.mono (show W128 60000000000 by unfold W128; omega).bits (by decide)
  have bL7 : Bits 900 1000000000 := Bits.mono (show W128 1000000000 by unfold W128; omega).bits (by decide)
  have bL8 : Bits 900 1 := Bits.mono (show W128 1 by unfold W128; omega).bits (by decide)
  have j1 : I64 86400000000000 := by unfold I64; omega
  have j2 : I64 3600000000000 := by unfold I64; omega
  have j3 : I64 60000000000 := by unfold I64; omega
  have j4 : I64 1000000000 := by unfold I64; omega
  have j5 : I64 1 := by unfold I64; omega
  have j0 : I64 0 := by unfold I64; omega
  have fa : ∀ p : ZQ, FnZ 106 [(p, x)] [zv p] zv x := fun p => by
    have t := fzabs p x (hx.bits.fit (by decide))
    rwa [show ((x.natAbs : Nat) : Int) = x by omega] at t
  have d0 : ∀ p q : ZQ, FnZZ 44 [(p, x), (q, 3600000000000)] [zv p, zv q] (fun q => .tuple #[zv q.1, zv q.2]) (x.tdiv 3600000000000) (x.tmod 3600000000000) := fun p q => zdt p q x 3600000000000 y0 hy (by omega) bL5
  have d1 : ∀ p q : ZQ, FnZZ 44 [(p, x.tmod 3600000000000), (q, 60000000000)] [zv p, zv q] (fun q => .tuple #[zv q.1, zv q.2]) ((x.tmod 3600000000000).tdiv 60000000000) (x.tmod 60000000000) := fun p q => zdc p q x 3600000000000 60000000000 y0 (by omega) bL5 (by omega) bL6 (by decide)
  have d2 : ∀ p q : ZQ, FnZZ 44 [(p, x.tmod 60000000000), (q, 1000000000)] [zv p, zv q] (fun q => .tuple #[zv q.1, zv q.2]) ((x.tmod 60000000000).tdiv 1000000000) (x.tmod 1000000000) := fun p q => zdc p q x 60000000000 1000000000 y0 (by omega) bL6 (by omega) bL7 (by decide)
  have d3 : ∀ p q : ZQ, FnZZ 44 [(p, x.tmod 1000000000), (q, 1)] [zv p, zv q] (fun q => .tuple #[zv q.1, zv q.2]) ((x.tmod 1000000000).tdiv 1) (x.tmod 1) := fun p q => zdc p q x 1000000000 1 y0 (by omega) bL7 (by omega) bL8 (by decide)
  have g6 : I64 ((x.tmod 3600000000000).tdiv 60000000000) := by have := td2 x 3600000000000 60000000000 60 (by decide) (by omega) (by omega); unfold I64; omega
  have g7 : I64 ((x.tmod 60000000000).tdiv 1000000000) := by have := td2 x 60000000000 1000000000 60 (by decide) (by omega) (by omega); unfold I64; omega
  have g8 : I64 (x.tmod 1000000000) := by
    obtain ⟨e1, e2, e3⟩ := td x 1000000000 (by omega)
    by_cases z : 0 ≤ x
    · have := e2 z; unfold I64; omega
    · have := e3 (by omega); unfold I64; omega
  have f0 : ∀ p : ZQ, Fn 59 [(p, x.tdiv 3600000000000)] [zv p] (.tuple #[.int .i64 (x.tdiv 3600000000000), .bool true]) := fun p => by
    have t := fits_f p (x.tdiv 3600000000000) (g.w.bits.mono (by decide)) g
    exact t
  have f1 : ∀ p : ZQ, Fn 59 [(p, (x.tmod 3600000000000).tdiv 60000000000)] [zv p] (.tuple #[.int .i64 ((x.tmod 3600000000000).tdiv 60000000000), .bool true]) := fun p => by
    have t := fits_f p ((x.tmod 3600000000000).tdiv 60000000000) (g6.w.bits.mono (by decide)) g6
    exact t
  have f2 : ∀ p : ZQ, Fn 59 [(p, (x.tmod 60000000000).tdiv 1000000000)] [zv p] (.tuple #[.int .i64 ((x.tmod 60000000000).tdiv 1000000000), .bool true]) := fun p => by
    have t := fits_f p ((x.tmod 60000000000).tdiv 1000000000) (g7.w.bits.mono (by decide)) g7
    exact t
  have f3 : ∀ p : ZQ, Fn 59 [(p, (x.tmod 1000000000).tdiv 1)] [zv p] (.tuple #[.int .i64 (x.tmod 1000000000), .bool true]) := fun p => by
    have t := fits_f p (x.tmod 1000000000) (g8.w.bits.mono (by decide)) g8
    simpa only [tdiv_1] using t
  have r := zuright_y 0 0 0 0 (x.tdiv 3600000000000) ((x.tmod 3600000000000).tdiv 60000000000) ((x.tmod 60000000000).tdiv 1000000000) (x.tmod 1000000000) ⟨j0, j0, j0, j0, g, g6, g7, g8⟩ k
  refine fn_of Try.func65 rfl fun ww => ?_
  refine st_know (p := p.n = false) (fun w hw => by rw [z_neg (hw (p, x) (by simp))]; simp; omega) fun hn => ?_
  clear hy y0 g hx k
  refine st_fn ent43 (zulen5) sub0 (by kernel_rfl) ?_
  refine st_g ent106 (fa (p)) (subC 0 rfl sub0) (by kernel_rfl) (fun zq1 => ?_)
  refine st_round (by kernel_rfl) ?_
  refine st_fn ent43 (zulen5) sub0 (by kernel_rfl) ?_
  refine st_g ent42 (fzint (3600000000000) (by assumption)) sub0 (by kernel_rfl) (fun zq3 => ?_)
  refine st_g ent44 (d0 (zq1) (zq3)) (subC 1 rfl (subC 0 rfl sub0)) (by kernel_rfl) (fun zq4 => ?_)
  refine st_b 34 (show (p.n) = false by assumption) (by kernel_rfl) ?_
  refine st_fn ent59 (f0 (zq4.fst)) (subC 0 rfl sub0) (by kernel_rfl) ?_
  refine st_i 46 .i64 (x' := 5 - 1) (Go.IntWalk.i64_in _ (by omega)) (by kernel_rfl) ?_
  refine st_i 24 .i64 (x' := 5 + 1) (Go.IntWalk.i64_in _ (by omega)) (by kernel_rfl) ?_
  refine st_round (by kernel_rfl) ?_
  refine st_fn ent43 (zulen6) sub0 (by kernel_rfl) ?_
  refine st_g ent42 (fzint (60000000000) (by assumption)) sub0 (by kernel_rfl) (fun zq7 => ?_)
  refine st_g ent44 (d1 (zq4.snd) (zq7)) (subC 2 rfl (subC 0 rfl sub0)) (by kernel_rfl) (fun zq8 => ?_)
  refine st_b 34 (show (p.n) = false by assumption) (by kernel_rfl) ?_
  refine st_fn ent59 (f1 (zq8.fst)) (subC 0 rfl sub0) (by kernel_rfl) ?_
  refine st_i 46 .i64 (x' := 5 + 1 - 1) (Go.IntWalk.i64_in _ (by omega)) (by kernel_rfl) ?_
  refine st_i 24 .i64 (x' := 5 + 1 + 1) (Go.IntWalk.i64_in _ (by omega)) (by kernel_rfl) ?_
  refine st_round (by kernel_rfl) ?_
  refine st_fn ent43 (zulen7) sub0 (by kernel_rfl) ?_
  refine st_g ent42 (fzint (1000000000) (by assumption)) sub0 (by kernel_rfl) (fun zq11 => ?_)
  refine st_g ent44 (d2 (zq8.snd) (zq11)) (subC 2 rfl (subC 0 rfl sub0)) (by kernel_rfl) (fun zq12 => ?_)
  refine st_b 34 (show (p.n) = false by assumption) (by kernel_rfl) ?_
  refine st_fn ent59 (f2 (zq12.fst)) (subC 0 rfl sub0) (by kernel_rfl) ?_
  refine st_i 46 .i64 (x' := 5 + 1 + 1 - 1) (Go.IntWalk.i64_in _ (by omega)) (by kernel_rfl) ?_
  refine st_i 24 .i64 (x' := 5 + 1 + 1 + 1) (Go.IntWalk.i64_in _ (by omega)) (by kernel_rfl) ?_
  refine st_round (by kernel_rfl) ?_
  refine st_fn ent43 (zulen8) sub0 (by kernel_rfl) ?_
  refine st_g ent42 (fzint (1) (by assumption)) sub0 (by kernel_rfl) (fun zq15 => ?_)
  refine st_g ent44 (d3 (zq12.snd) (zq15)) (subC 2 rfl (subC 0 rfl sub0)) (by kernel_rfl) (fun zq16 => ?_)
  refine st_b 34 (show (p.n) = false by assumption) (by kernel_rfl) ?_
  refine st_fn ent59 (f3 (zq16.fst)) (subC 0 rfl sub0) (by kernel_rfl) ?_
  refine st_i 46 .i64 (x' := 5 + 1 + 1 + 1 - 1) (Go.IntWalk.i64_in _ (by omega)) (by kernel_rfl) ?_
  refine st_i 24 .i64 (x' := 5 + 1 + 1 + 1 + 1) (Go.IntWalk.i64_in _ (by omega)) (by kernel_rfl) ?_
  refine st_round (by kernel_rfl) ?_
  refine st_fn ent121 (zumade (0) (0) (0) (0) (x.tdiv 3600000000000) ((x.tmod 3600000000000).tdiv 60000000000) ((x.tmod 60000000000).tdiv 1000000000) (x.tmod 1000000000)) sub0 (by kernel_rfl) ?_
  refine st_fn ent119 (r) sub0 (by kernel_rfl) ?_
  exact st_ret Try.func65 (by kernel_rfl)
theorem zulay5p_r (p : ZQ) (x : Int) (hx : W128 x) (h0 : 0 ≤ x) (g : I64 (x.tdiv 3600000000000)) (k : ¬ uOk 0 0 0 0 (x.tdiv 3600000000000) ((x.tmod 3600000000000).tdiv 60000000000) ((x.tmod 60000000000).tdiv 1000000000) (x.tmod 1000000000)) : Fn 65 [(p, x)] [zv p, .int .i64 5] (.tuple #[du0, .int .i64 4]) := by
  have hy : Bits 900 x := hx.bits.mono (by decide)
  have y0 : 0 ≤ x := by omega
  have bL4 : Bits 900 86400000000000 := Bits.mono (show W128 86400000000000 by unfold W128; omega).bits (by decide)
  have bL5 : Bits 900 3600000000000 := Bits.mono (show W128 3600000000000 by unfold W128; omega).bits (by decide)
  have bL6 : Bits 900 60000000000 := Bits.mono (show W128 60000000000 by unfold W128; omega).bits (by decide)
  have bL7 : Bits 900 1000000000 := Bits.mono (show W128 1000000000 by unfold W128; omega).bits (by decide)
  have bL8 : Bits 900 1 := Bits.mono (show W128 1 by unfold W128; omega).bits (by decide)
  have j1 : I64 86400000000000 := by unfold I64; omega
  have j2 : I64 3600000000000 := by unfold I64; omega
  have j3 : I64 60000000000 := by unfold I64; omega
  have j4 : I64 1000000000 := by unfold I64; omega
  have j5 : I64 1 := by unfold I64; omega
  have j0 : I64 0 := by unfold I64; omega
  have fa : ∀ p : ZQ, FnZ 106 [(p, x)] [zv p] zv x := fun p => by
    have t := fzabs p x (hx.bits.fit (by decide))
    rwa [show ((x.natAbs : Nat) : Int) = x by omega] at t
  have d0 : ∀ p q : ZQ, FnZZ 44 [(p, x), (q, 3600000000000)] [zv p, zv q] (fun q => .tuple #[zv q.1, zv q.2]) (x.tdiv 3600000000000) (x.tmod 3600000000000) := fun p q => zdt p q x 3600000000000 y0 hy (by omega) bL5
  have d1 : ∀ p q : ZQ, FnZZ 44 [(p, x.tmod 3600000000000), (q, 60000000000)] [zv p, zv q] (fun q => .tuple #[zv q.1, zv q.2]) ((x.tmod 3600000000000).tdiv 60000000000) (x.tmod 60000000000) := fun p q => zdc p q x 3600000000000 60000000000 y0 (by omega) bL5 (by omega) bL6 (by decide)
  have d2 : ∀ p q : ZQ, FnZZ 44 [(p, x.tmod 60000000000), (q, 1000000000)] [zv p, zv q] (fun q => .tuple #[zv q.1, zv q.2]) ((x.tmod 60000000000).tdiv 1000000000) (x.tmod 1000000000) := fun p q => zdc p q x 60000000000 1000000000 y0 (by omega) bL6 (by omega) bL7 (by decide)
  have d3 : ∀ p q : ZQ, FnZZ 44 [(p, x.tmod 1000000000), (q, 1)] [zv p, zv q] (fun q => .tuple #[zv q.1, zv q.2]) ((x.tmod 1000000000).tdiv 1) (x.tmod 1) := fun p q => zdc p q x 1000000000 1 y0 (by omega) bL7 (by omega) bL8 (by decide)
  have g6 : I64 ((x.tmod 3600000000000).tdiv 60000000000) := by have := td2 x 3600000000000 60000000000 60 (by decide) (by omega) (by omega); unfold I64; omega
  have g7 : I64 ((x.tmod 60000000000).tdiv 1000000000) := by have := td2 x 60000000000 1000000000 60 (by decide) (by omega) (by omega); unfold I64; omega
  have g8 : I64 (x.tmod 1000000000) := by
    obtain ⟨e1, e2, e3⟩ := td x 1000000000 (by omega)
    by_cases z : 0 ≤ x
    · have := e2 z; unfold I64; omega
    · have := e3 (by omega); unfold I64; omega
  have f0 : ∀ p : ZQ, Fn 59 [(p, x.tdiv 3600000000000)] [zv p] (.tuple #[.int .i64 (x.tdiv 3600000000000), .bool true]) := fun p => by
    have t := fits_f p (x.tdiv 3600000000000) (g.w.bits.mono (by decide)) g
    exact t
  have f1 : ∀ p : ZQ, Fn 59 [(p, (x.tmod 3600000000000).tdiv 60000000000)] [zv p] (.tuple #[.int .i64 ((x.tmod 3600000000000).tdiv 60000000000), .bool true]) := fun p => by
    have t := fits_f p ((x.tmod 3600000000000).tdiv 60000000000) (g6.w.bits.mono (by decide)) g6
    exact t
  have f2 : ∀ p : ZQ, Fn 59 [(p, (x.tmod 60000000000).tdiv 1000000000)] [zv p] (.tuple #[.int .i64 ((x.tmod 60000000000).tdiv 1000000000), .bool true]) := fun p => by
    have t := fits_f p ((x.tmod 60000000000).tdiv 1000000000) (g7.w.bits.mono (by decide)) g7
    exact t
  have f3 : ∀ p : ZQ, Fn 59 [(p, (x.tmod 1000000000).tdiv 1)] [zv p] (.tuple #[.int .i64 (x.tmod 1000000000), .bool true]) := fun p => by
    have t := fits_f p (x.tmod 1000000000) (g8.w.bits.mono (by decide)) g8
    simpa only [tdiv_1] using t
  have r := zuright_f 0 0 0 0 (x.tdiv 3600000000000) ((x.tmod 3600000000000).tdiv 60000000000) ((x.tmod 60000000000).tdiv 1000000000) (x.tmod 1000000000) ⟨j0, j0, j0, j0, g, g6, g7, g8⟩ k
  refine fn_of Try.func65 rfl fun ww => ?_
  refine st_know (p := p.n = false) (fun w hw => by rw [z_neg (hw (p, x) (by simp))]; simp; omega) fun hn => ?_
  clear hy y0 g hx k
  refine st_fn ent43 (zulen5) sub0 (by kernel_rfl) ?_
  refine st_g ent106 (fa (p)) (subC 0 rfl sub0) (by kernel_rfl) (fun zq1 => ?_)
  refine st_round (by kernel_rfl) ?_
  refine st_fn ent43 (zulen5) sub0 (by kernel_rfl) ?_
  refine st_g ent42 (fzint (3600000000000) (by assumption)) sub0 (by kernel_rfl) (fun zq3 => ?_)
  refine st_g ent44 (d0 (zq1) (zq3)) (subC 1 rfl (subC 0 rfl sub0)) (by kernel_rfl) (fun zq4 => ?_)
  refine st_b 34 (show (p.n) = false by assumption) (by kernel_rfl) ?_
  refine st_fn ent59 (f0 (zq4.fst)) (subC 0 rfl sub0) (by kernel_rfl) ?_
  refine st_i 46 .i64 (x' := 5 - 1) (Go.IntWalk.i64_in _ (by omega)) (by kernel_rfl) ?_
  refine st_i 24 .i64 (x' := 5 + 1) (Go.IntWalk.i64_in _ (by omega)) (by kernel_rfl) ?_
  refine st_round (by kernel_rfl) ?_
  refine st_fn ent43 (zulen6) sub0 (by kernel_rfl) ?_
  refine st_g ent42 (fzint (60000000000) (by assumption)) sub0 (by kernel_rfl) (fun zq7 => ?_)
  refine st_g ent44 (d1 (zq4.snd) (zq7)) (subC 2 rfl (subC 0 rfl sub0)) (by kernel_rfl) (fun zq8 => ?_)
  refine st_b 34 (show (p.n) = false by assumption) (by kernel_rfl) ?_
  refine st_fn ent59 (f1 (zq8.fst)) (subC 0 rfl sub0) (by kernel_rfl) ?_
  refine st_i 46 .i64 (x' := 5 + 1 - 1) (Go.IntWalk.i64_in _ (by omega)) (by kernel_rfl) ?_
  refine st_i 24 .i64 (x' := 5 + 1 + 1) (Go.IntWalk.i64_in _ (by omega)) (by kernel_rfl) ?_
  refine st_round (by kernel_rfl) ?_
  refine st_fn ent43 (zulen7) sub0 (by kernel_rfl) ?_
  refine st_g ent42 (fzint (1000000000) (by assumption)) sub0 (by kernel_rfl) (fun zq11 => ?_)
  refine st_g ent44 (d2 (zq8.snd) (zq11)) (subC 2 rfl (subC 0 rfl sub0)) (by kernel_rfl) (fun zq12 => ?_)
  refine st_b 34 (show (p.n) = false by assumption) (by kernel_rfl) ?_
  refine st_fn ent59 (f2 (zq12.fst)) (subC 0 rfl sub0) (by kernel_rfl) ?_
  refine st_i 46 .i64 (x' := 5 + 1 + 1 - 1) (Go.IntWalk.i64_in _ (by omega)) (by kernel_rfl) ?_
  refine st_i 24 .i64 (x' := 5 + 1 + 1 + 1) (Go.IntWalk.i64_in _ (by omega)) (by kernel_rfl) ?_
  refine st_round (by kernel_rfl) ?_
  refine st_fn ent43 (zulen8) sub0 (by kernel_rfl) ?_
  refine st_g ent42 (fzint (1) (by assumption)) sub0 (by kernel_rfl) (fun zq15 => ?_)
  refine st_g ent44 (d3 (zq12.snd) (zq15)) (subC 2 rfl (subC 0 rfl sub0)) (by kernel_rfl) (fun zq16 => ?_)
  refine st_b 34 (show (p.n) = false by assumption) (by kernel_rfl) ?_
  refine st_fn ent59 (f3 (zq16.fst)) (subC 0 rfl sub0) (by kernel_rfl) ?_
  refine st_i 46 .i64 (x' := 5 + 1 + 1 + 1 - 1) (Go.IntWalk.i64_in _ (by omega)) (by kernel_rfl) ?_
  refine st_i 24 .i64 (x' := 5 + 1 + 1 + 1 + 1) (Go.IntWalk.i64_in _ (by omega)) (by kernel_rfl) ?_
  refine st_round (by kernel_rfl) ?_
  refine st_fn ent121 (zumade (0) (0) (0) (0) (x.tdiv 3600000000000) ((x.tmod 3600000000000).tdiv 60000000000) ((x.tmod 60000000000).tdiv 1000000000) (x.tmod 1000000000)) sub0 (by kernel_rfl) ?_
  refine st_fn ent119 (r) sub0 (by kernel_rfl) ?_
  exact st_ret Try.func65 (by kernel_rfl)
theorem zulay5p_o (p : ZQ) (x : Int) (hx : W128 x) (h0 : 0 ≤ x) (g : ¬ I64 (x.tdiv 3600000000000)) : Fn 65 [(p, x)] [zv p, .int .i64 5] (.tuple #[du0, .int .i64 4]) := by
  have hy : Bits 900 x := hx.bits.mono (by decide)
  have y0 : 0 ≤ x := by omega
  have bL4 : Bits 900 86400000000000 := Bits.mono (show W128 86400000000000 by unfold W128; omega).bits (by decide)
  have bL5 : Bits 900 3600000000000 := Bits.mono (show W128 3600000000000 by unfold W128; omega).bits (by decide)
  have bL6 : Bits 900 60000000000 := Bits.mono (show W128 60000000000 by unfold W128; omega).bits (by decide)
  have bL7 : Bits 900 1000000000 := Bits.mono (show W128 1000000000 by unfold W128; omega).bits (by decide)
  have bL8 : Bits 900 1 := Bits.mono (show W128 1 by unfold W128; omega).bits (by decide)
  have j1 : I64 86400000000000 := by unfold I64; omega
  have j2 : I64 3600000000000 := by unfold I64; omega
  have j3 : I64 60000000000 := by unfold I64; omega
  have j4 : I64 1000000000 := by unfold I64; omega
  have j5 : I64 1 := by unfold I64; omega
  have j0 : I64 0 := by unfold I64; omega
  have fa : ∀ p : ZQ, FnZ 106 [(p, x)] [zv p] zv x := fun p => by
    have t := fzabs p x (hx.bits.fit (by decide))
    rwa [show ((x.natAbs : Nat) : Int) = x by omega] at t
  have d0 : ∀ p q : ZQ, FnZZ 44 [(p, x), (q, 3600000000000)] [zv p, zv q] (fun q => .tuple #[zv q.1, zv q.2]) (x.tdiv 3600000000000) (x.tmod 3600000000000) := fun p q => zdt p q x 3600000000000 y0 hy (by omega) bL5
  have g6 : I64 ((x.tmod 3600000000000).tdiv 60000000000) := by have := td2 x 3600000000000 60000000000 60 (by decide) (by omega) (by omega); unfold I64; omega
  have g7 : I64 ((x.tmod 60000000000).tdiv 1000000000) := by have := td2 x 60000000000 1000000000 60 (by decide) (by omega) (by omega); unfold I64; omega
  have g8 : I64 (x.tmod 1000000000) := by
    obtain ⟨e1, e2, e3⟩ := td x 1000000000 (by omega)
    by_cases z : 0 ≤ x
    · have := e2 z; unfold I64; omega
    · have := e3 (by omega); unfold I64; omega
  have f0 : ∀ p : ZQ, Fn 59 [(p, x.tdiv 3600000000000)] [zv p] (.tuple #[.int .i64 0, .bool false]) := fun p => by
    have t := fits_n p (x.tdiv 3600000000000) ((tdvb x 3600000000000 y0 hy (by omega)).mono (by decide)) g
    exact t
  refine fn_of Try.func65 rfl fun ww => ?_
  refine st_know (p := p.n = false) (fun w hw => by rw [z_neg (hw (p, x) (by simp))]; simp; omega) fun hn => ?_
  clear hy y0 g hx
  refine st_fn ent43 (zulen5) sub0 (by kernel_rfl) ?_
  refine st_g ent106 (fa (p)) (subC 0 rfl sub0) (by kernel_rfl) (fun zq1 => ?_)
  refine st_round (by kernel_rfl) ?_
  refine st_fn ent43 (zulen5) sub0 (by kernel_rfl) ?_
  refine st_g ent42 (fzint (3600000000000) (by assumption)) sub0 (by kernel_rfl) (fun zq3 => ?_)
  refine st_g ent44 (d0 (zq1) (zq3)) (subC 1 rfl (subC 0 rfl sub0)) (by kernel_rfl) (fun zq4 => ?_)
  refine st_b 34 (show (p.n) = false by assumption) (by kernel_rfl) ?_
  refine st_fn ent59 (f0 (zq4.fst)) (subC 0 rfl sub0) (by kernel_rfl) ?_
  exact st_ret Try.func65 (by kernel_rfl)
theorem zulay5n_y (p : ZQ) (x : Int) (hx : W128 x) (h0 : x < 0) (g : I64 (x.tdiv 3600000000000)) (k : uOk 0 0 0 0 (x.tdiv 3600000000000) ((x.tmod 3600000000000).tdiv 60000000000) ((x.tmod 60000000000).tdiv 1000000000) (x.tmod 1000000000)) : Fn 65 [(p, x)] [zv p, .int .i64 5] (.tuple #[duv 0 0 0 0 (x.tdiv 3600000000000) ((x.tmod 3600000000000).tdiv 60000000000) ((x.tmod 60000000000).tdiv 1000000000) (x.tmod 1000000000), .int .i64 0]) := by
  have hy : Bits 900 (-x) := (hx.bits.neg).mono (by decide)
  have y0 : 0 ≤ (-x) := by omega
  have bL4 : Bits 900 86400000000000 := Bits.mono (show W128 86400000000000 by unfold W128; omega).bits (by decide)
  have bL5 : Bits 900 3600000000000 := Bits.mono (show W128 3600000000000 by unfold W128; omega).bits (by decide)
  have bL6 : Bits 900 60000000000 := Bits.mono (show W128 60000000000 by unfold W128; omega).bits (by decide)
  have bL7 : Bits 900 1000000000 := Bits.mono (show W128 1000000000 by unfold W128; omega).bits (by decide)
  have bL8 : Bits 900 1 := Bits.mono (show W128 1 by unfold W128; omega).bits (by decide)
  have j1 : I64 86400000000000 := by unfold I64; omega
  have j2 : I64 3600000000000 := by unfold I64; omega
  have j3 : I64 60000000000 := by unfold I64; omega
  have j4 : I64 1000000000 := by unfold I64; omega
  have j5 : I64 1 := by unfold I64; omega
  have j0 : I64 0 := by unfold I64; omega
  have fa : ∀ p : ZQ, FnZ 106 [(p, x)] [zv p] zv (-x) := fun p => by
    have t := fzabs p x (hx.bits.fit (by decide))
    rwa [show ((x.natAbs : Nat) : Int) = -x by omega] at t
  have d0 : ∀ p q : ZQ, FnZZ 44 [(p, (-x)), (q, 3600000000000)] [zv p, zv q] (fun q => .tuple #[zv q.1, zv q.2]) ((-x).tdiv 3600000000000) ((-x).tmod 3600000000000) := fun p q => zdt p q (-x) 3600000000000 y0 hy (by omega) bL5
  have d1 : ∀ p q : ZQ, FnZZ 44 [(p, (-x).tmod 3600000000000), (q, 60000000000)] [zv p, zv q] (fun q => .tuple #[zv q.1, zv q.2]) (((-x).tmod 3600000000000).tdiv 60000000000) ((-x).tmod 60000000000) := fun p q => zdc p q (-x) 3600000000000 60000000000 y0 (by omega) bL5 (by omega) bL6 (by decide)
  have d2 : ∀ p q : ZQ, FnZZ 44 [(p, (-x).tmod 60000000000), (q, 1000000000)] [zv p, zv q] (fun q => .tuple #[zv q.1, zv q.2]) (((-x).tmod 60000000000).tdiv 1000000000) ((-x).tmod 1000000000) := fun p q => zdc p q (-x) 60000000000 1000000000 y0 (by omega) bL6 (by omega) bL7 (by decide)
  have d3 : ∀ p q : ZQ, FnZZ 44 [(p, (-x).tmod 1000000000), (q, 1)] [zv p, zv q] (fun q => .tuple #[zv q.1, zv q.2]) (((-x).tmod 1000000000).tdiv 1) ((-x).tmod 1) := fun p q => zdc p q (-x) 1000000000 1 y0 (by omega) bL7 (by omega) bL8 (by decide)
  have g6 : I64 ((x.tmod 3600000000000).tdiv 60000000000) := by have := td2 x 3600000000000 60000000000 60 (by decide) (by omega) (by omega); unfold I64; omega
  have g7 : I64 ((x.tmod 60000000000).tdiv 1000000000) := by have := td2 x 60000000000 1000000000 60 (by decide) (by omega) (by omega); unfold I64; omega
  have g8 : I64 (x.tmod 1000000000) := by
    obtain ⟨e1, e2, e3⟩ := td x 1000000000 (by omega)
    by_cases z : 0 ≤ x
    · have := e2 z; unfold I64; omega
    · have := e3 (by omega); unfold I64; omega
  have n0 : ∀ p : ZQ, FnZ 107 [(p, (-x).tdiv 3600000000000)] [zv p] zv (x.tdiv 3600000000000) := fun p => by
    have t := zng p ((-x).tdiv 3600000000000) (tdvb (-x) 3600000000000 y0 hy (by omega))
    rwa [show -((-x).tdiv 3600000000000) = (x.tdiv 3600000000000) by rw [Int.neg_tdiv, Int.neg_neg]] at t
  have f0 : ∀ p : ZQ, Fn 59 [(p, (x.tdiv 3600000000000))] [zv p] (.tuple #[.int .i64 (x.tdiv 3600000000000), .bool true]) := fun p => by
    have t := fits_f p (x.tdiv 3600000000000) (g.w.bits.mono (by decide)) g
    exact t
  have n1 : ∀ p : ZQ, FnZ 107 [(p, ((-x).tmod 3600000000000).tdiv 60000000000)] [zv p] zv ((x.tmod 3600000000000).tdiv 60000000000) := fun p => by
    have t := zng p (((-x).tmod 3600000000000).tdiv 60000000000) (tdvb _ 60000000000 (tmod_nb (-x) 3600000000000 y0 (by omega) bL5).1 (tmod_nb (-x) 3600000000000 y0 (by omega) bL5).2 (by omega))
    rwa [show -(((-x).tmod 3600000000000).tdiv 60000000000) = ((x.tmod 3600000000000).tdiv 60000000000) by rw [Int.neg_tmod, Int.neg_tdiv, Int.neg_neg]] at t
  have f1 : ∀ p : ZQ, Fn 59 [(p, ((x.tmod 3600000000000).tdiv 60000000000))] [zv p] (.tuple #[.int .i64 ((x.tmod 3600000000000).tdiv 60000000000), .bool true]) := fun p => by
    have t := fits_f p ((x.tmod 3600000000000).tdiv 60000000000) (g6.w.bits.mono (by decide)) g6
    exact t
  have n2 : ∀ p : ZQ, FnZ 107 [(p, ((-x).tmod 60000000000).tdiv 1000000000)] [zv p] zv ((x.tmod 60000000000).tdiv 1000000000) := fun p => by
    have t := zng p (((-x).tmod 60000000000).tdiv 1000000000) (tdvb _ 1000000000 (tmod_nb (-x) 60000000000 y0 (by omega) bL6).1 (tmod_nb (-x) 60000000000 y0 (by omega) bL6).2 (by omega))
    rwa [show -(((-x).tmod 60000000000).tdiv 1000000000) = ((x.tmod 60000000000).tdiv 1000000000) by rw [Int.neg_tmod, Int.neg_tdiv, Int.neg_neg]] at t
  have f2 : ∀ p : ZQ, Fn 59 [(p, ((x.tmod 60000000000).tdiv 1000000000))] [zv p] (.tuple #[.int .i64 ((x.tmod 60000000000).tdiv 1000000000), .bool true]) := fun p => by
    have t := fits_f p ((x.tmod 60000000000).tdiv 1000000000) (g7.w.bits.mono (by decide)) g7
    exact t
  have n3 : ∀ p : ZQ, FnZ 107 [(p, ((-x).tmod 1000000000).tdiv 1)] [zv p] zv (x.tmod 1000000000) := fun p => by
    have t := zng p (((-x).tmod 1000000000).tdiv 1) (tdvb _ 1 (tmod_nb (-x) 1000000000 y0 (by omega) bL7).1 (tmod_nb (-x) 1000000000 y0 (by omega) bL7).2 (by omega))
    rwa [show -(((-x).tmod 1000000000).tdiv 1) = (x.tmod 1000000000) by rw [Int.neg_tmod, Int.neg_tdiv, Int.neg_neg, tdiv_1]] at t
  have f3 : ∀ p : ZQ, Fn 59 [(p, (x.tmod 1000000000))] [zv p] (.tuple #[.int .i64 (x.tmod 1000000000), .bool true]) := fun p => by
    have t := fits_f p (x.tmod 1000000000) (g8.w.bits.mono (by decide)) g8
    exact t
  have r := zuright_y 0 0 0 0 (x.tdiv 3600000000000) ((x.tmod 3600000000000).tdiv 60000000000) ((x.tmod 60000000000).tdiv 1000000000) (x.tmod 1000000000) ⟨j0, j0, j0, j0, g, g6, g7, g8⟩ k
  refine fn_of Try.func65 rfl fun ww => ?_
  refine st_know (p := p.n = true) (fun w hw => by rw [z_neg (hw (p, x) (by simp))]; simp; omega) fun hn => ?_
  clear hy y0 g hx k
  refine st_fn ent43 (zulen5) sub0 (by kernel_rfl) ?_
  refine st_g ent106 (fa (p)) (subC 0 rfl sub0) (by kernel_rfl) (fun zq1 => ?_)
  refine st_round (by kernel_rfl) ?_
  refine st_fn ent43 (zulen5) sub0 (by kernel_rfl) ?_
  refine st_g ent42 (fzint (3600000000000) (by assumption)) sub0 (by kernel_rfl) (fun zq3 => ?_)
  refine st_g ent44 (d0 (zq1) (zq3)) (subC 1 rfl (subC 0 rfl sub0)) (by kernel_rfl) (fun zq4 => ?_)
  refine st_b 34 (show (p.n) = true by assumption) (by kernel_rfl) ?_
  refine st_g ent107 (n0 (zq4.fst)) (subC 0 rfl sub0) (by kernel_rfl) (fun zq5 => ?_)
  refine st_fn ent59 (f0 (zq5)) (subC 0 rfl sub0) (by kernel_rfl) ?_
  refine st_i 46 .i64 (x' := 5 - 1) (Go.IntWalk.i64_in _ (by omega)) (by kernel_rfl) ?_
  refine st_i 24 .i64 (x' := 5 + 1) (Go.IntWalk.i64_in _ (by omega)) (by kernel_rfl) ?_
  refine st_round (by kernel_rfl) ?_
  refine st_fn ent43 (zulen6) sub0 (by kernel_rfl) ?_
  refine st_g ent42 (fzint (60000000000) (by assumption)) sub0 (by kernel_rfl) (fun zq8 => ?_)
  refine st_g ent44 (d1 (zq4.snd) (zq8)) (subC 3 rfl (subC 0 rfl sub0)) (by kernel_rfl) (fun zq9 => ?_)
  refine st_b 34 (show (p.n) = true by assumption) (by kernel_rfl) ?_
  refine st_g ent107 (n1 (zq9.fst)) (subC 0 rfl sub0) (by kernel_rfl) (fun zq10 => ?_)
  refine st_fn ent59 (f1 (zq10)) (subC 0 rfl sub0) (by kernel_rfl) ?_
  refine st_i 46 .i64 (x' := 5 + 1 - 1) (Go.IntWalk.i64_in _ (by omega)) (by kernel_rfl) ?_
  refine st_i 24 .i64 (x' := 5 + 1 + 1) (Go.IntWalk.i64_in _ (by omega)) (by kernel_rfl) ?_
  refine st_round (by kernel_rfl) ?_
  refine st_fn ent43 (zulen7) sub0 (by kernel_rfl) ?_
  refine st_g ent42 (fzint (1000000000) (by assumption)) sub0 (by kernel_rfl) (fun zq13 => ?_)
  refine st_g ent44 (d2 (zq9.snd) (zq13)) (subC 3 rfl (subC 0 rfl sub0)) (by kernel_rfl) (fun zq14 => ?_)
  refine st_b 34 (show (p.n) = true by assumption) (by kernel_rfl) ?_
  refine st_g ent107 (n2 (zq14.fst)) (subC 0 rfl sub0) (by kernel_rfl) (fun zq15 => ?_)
  refine st_fn ent59 (f2 (zq15)) (subC 0 rfl sub0) (by kernel_rfl) ?_
  refine st_i 46 .i64 (x' := 5 + 1 + 1 - 1) (Go.IntWalk.i64_in _ (by omega)) (by kernel_rfl) ?_
  refine st_i 24 .i64 (x' := 5 + 1 + 1 + 1) (Go.IntWalk.i64_in _ (by omega)) (by kernel_rfl) ?_
  refine st_round (by kernel_rfl) ?_
  refine st_fn ent43 (zulen8) sub0 (by kernel_rfl) ?_
  refine st_g ent42 (fzint (1) (by assumption)) sub0 (by kernel_rfl) (fun zq18 => ?_)
  refine st_g ent44 (d3 (zq14.snd) (zq18)) (subC 3 rfl (subC 0 rfl sub0)) (by kernel_rfl) (fun zq19 => ?_)
  refine st_b 34 (show (p.n) = true by assumption) (by kernel_rfl) ?_
  refine st_g ent107 (n3 (zq19.fst)) (subC 0 rfl sub0) (by kernel_rfl) (fun zq20 => ?_)
  refine st_fn ent59 (f3 (zq20)) (subC 0 rfl sub0) (by kernel_rfl) ?_
  refine st_i 46 .i64 (x' := 5 + 1 + 1 + 1 - 1) (Go.IntWalk.i64_in _ (by omega)) (by kernel_rfl) ?_
  refine st_i 24 .i64 (x' := 5 + 1 + 1 + 1 + 1) (Go.IntWalk.i64_in _ (by omega)) (by kernel_rfl) ?_
  refine st_round (by kernel_rfl) ?_
  refine st_fn ent121 (zumade (0) (0) (0) (0) (x.tdiv 3600000000000) ((x.tmod 3600000000000).tdiv 60000000000) ((x.tmod 60000000000).tdiv 1000000000) (x.tmod 1000000000)) sub0 (by kernel_rfl) ?_
  refine st_fn ent119 (r) sub0 (by kernel_rfl) ?_
  exact st_ret Try.func65 (by kernel_rfl)
theorem zulay5n_r (p : ZQ) (x : Int) (hx : W128 x) (h0 : x < 0) (g : I64 (x.tdiv 3600000000000)) (k : ¬ uOk 0 0 0 0 (x.tdiv 3600000000000) ((x.tmod 3600000000000).tdiv 60000000000) ((x.tmod 60000000000).tdiv 1000000000) (x.tmod 1000000000)) : Fn 65 [(p, x)] [zv p, .int .i64 5] (.tuple #[du0, .int .i64 4]) := by
  have hy : Bits 900 (-x) := (hx.bits.neg).mono (by decide)
  have y0 : 0 ≤ (-x) := by omega
  have bL4 : Bits 900 86400000000000 := Bits.mono (show W128 86400000000000 by unfold W128; omega).bits (by decide)
  have bL5 : Bits 900 3600000000000 := Bits.mono (show W128 3600000000000 by unfold W128; omega).bits (by decide)
  have bL6 : Bits 900 60000000000 := Bits.mono (show W128 60000000000 by unfold W128; omega).bits (by decide)
  have bL7 : Bits 900 1000000000 := Bits.mono (show W128 1000000000 by unfold W128; omega).bits (by decide)
  have bL8 : Bits 900 1 := Bits.mono (show W128 1 by unfold W128; omega).bits (by decide)
  have j1 : I64 86400000000000 := by unfold I64; omega
  have j2 : I64 3600000000000 := by unfold I64; omega
  have j3 : I64 60000000000 := by unfold I64; omega
  have j4 : I64 1000000000 := by unfold I64; omega
  have j5 : I64 1 := by unfold I64; omega
  have j0 : I64 0 := by unfold I64; omega
  have fa : ∀ p : ZQ, FnZ 106 [(p, x)] [zv p] zv (-x) := fun p => by
    have t := fzabs p x (hx.bits.fit (by decide))
    rwa [show ((x.natAbs : Nat) : Int) = -x by omega] at t
  have d0 : ∀ p q : ZQ, FnZZ 44 [(p, (-x)), (q, 3600000000000)] [zv p, zv q] (fun q => .tuple #[zv q.1, zv q.2]) ((-x).tdiv 3600000000000) ((-x).tmod 3600000000000) := fun p q => zdt p q (-x) 3600000000000 y0 hy (by omega) bL5
  have d1 : ∀ p q : ZQ, FnZZ 44 [(p, (-x).tmod 3600000000000), (q, 60000000000)] [zv p, zv q] (fun q => .tuple #[zv q.1, zv q.2]) (((-x).tmod 3600000000000).tdiv 60000000000) ((-x).tmod 60000000000) := fun p q => zdc p q (-x) 3600000000000 60000000000 y0 (by omega) bL5 (by omega) bL6 (by decide)
  have d2 : ∀ p q : ZQ, FnZZ 44 [(p, (-x).tmod 60000000000), (q, 1000000000)] [zv p, zv q] (fun q => .tuple #[zv q.1, zv q.2]) (((-x).tmod 60000000000).tdiv 1000000000) ((-x).tmod 1000000000) := fun p q => zdc p q (-x) 60000000000 1000000000 y0 (by omega) bL6 (by omega) bL7 (by decide)
  have d3 : ∀ p q : ZQ, FnZZ 44 [(p, (-x).tmod 1000000000), (q, 1)] [zv p, zv q] (fun q => .tuple #[zv q.1, zv q.2]) (((-x).tmod 1000000000).tdiv 1) ((-x).tmod 1) := fun p q => zdc p q (-x) 1000000000 1 y0 (by omega) bL7 (by omega) bL8 (by decide)
  have g6 : I64 ((x.tmod 3600000000000).tdiv 60000000000) := by have := td2 x 3600000000000 60000000000 60 (by decide) (by omega) (by omega); unfold I64; omega
  have g7 : I64 ((x.tmod 60000000000).tdiv 1000000000) := by have := td2 x 60000000000 1000000000 60 (by decide) (by omega) (by omega); unfold I64; omega
  have g8 : I64 (x.tmod 1000000000) := by
    obtain ⟨e1, e2, e3⟩ := td x 1000000000 (by omega)
    by_cases z : 0 ≤ x
    · have := e2 z; unfold I64; omega
    · have := e3 (by omega); unfold I64; omega
  have n0 : ∀ p : ZQ, FnZ 107 [(p, (-x).tdiv 3600000000000)] [zv p] zv (x.tdiv 3600000000000) := fun p => by
    have t := zng p ((-x).tdiv 3600000000000) (tdvb (-x) 3600000000000 y0 hy (by omega))
    rwa [show -((-x).tdiv 3600000000000) = (x.tdiv 3600000000000) by rw [Int.neg_tdiv, Int.neg_neg]] at t
  have f0 : ∀ p : ZQ, Fn 59 [(p, (x.tdiv 3600000000000))] [zv p] (.tuple #[.int .i64 (x.tdiv 3600000000000), .bool true]) := fun p => by
    have t := fits_f p (x.tdiv 3600000000000) (g.w.bits.mono (by decide)) g
    exact t
  have n1 : ∀ p : ZQ, FnZ 107 [(p, ((-x).tmod 3600000000000).tdiv 60000000000)] [zv p] zv ((x.tmod 3600000000000).tdiv 60000000000) := fun p => by
    have t := zng p (((-x).tmod 3600000000000).tdiv 60000000000) (tdvb _ 60000000000 (tmod_nb (-x) 3600000000000 y0 (by omega) bL5).1 (tmod_nb (-x) 3600000000000 y0 (by omega) bL5).2 (by omega))
    rwa [show -(((-x).tmod 3600000000000).tdiv 60000000000) = ((x.tmod 3600000000000).tdiv 60000000000) by rw [Int.neg_tmod, Int.neg_tdiv, Int.neg_neg]] at t
  have f1 : ∀ p : ZQ, Fn 59 [(p, ((x.tmod 3600000000000).tdiv 60000000000))] [zv p] (.tuple #[.int .i64 ((x.tmod 3600000000000).tdiv 60000000000), .bool true]) := fun p => by
    have t := fits_f p ((x.tmod 3600000000000).tdiv 60000000000) (g6.w.bits.mono (by decide)) g6
    exact t
  have n2 : ∀ p : ZQ, FnZ 107 [(p, ((-x).tmod 60000000000).tdiv 1000000000)] [zv p] zv ((x.tmod 60000000000).tdiv 1000000000) := fun p => by
    have t := zng p (((-x).tmod 60000000000).tdiv 1000000000) (tdvb _ 1000000000 (tmod_nb (-x) 60000000000 y0 (by omega) bL6).1 (tmod_nb (-x) 60000000000 y0 (by omega) bL6).2 (by omega))
    rwa [show -(((-x).tmod 60000000000).tdiv 1000000000) = ((x.tmod 60000000000).tdiv 1000000000) by rw [Int.neg_tmod, Int.neg_tdiv, Int.neg_neg]] at t
  have f2 : ∀ p : ZQ, Fn 59 [(p, ((x.tmod 60000000000).tdiv 1000000000))] [zv p] (.tuple #[.int .i64 ((x.tmod 60000000000).tdiv 1000000000), .bool true]) := fun p => by
    have t := fits_f p ((x.tmod 60000000000).tdiv 1000000000) (g7.w.bits.mono (by decide)) g7
    exact t
  have n3 : ∀ p : ZQ, FnZ 107 [(p, ((-x).tmod 1000000000).tdiv 1)] [zv p] zv (x.tmod 1000000000) := fun p => by
    have t := zng p (((-x).tmod 1000000000).tdiv 1) (tdvb _ 1 (tmod_nb (-x) 1000000000 y0 (by omega) bL7).1 (tmod_nb (-x) 1000000000 y0 (by omega) bL7).2 (by omega))
    rwa [show -(((-x).tmod 1000000000).tdiv 1) = (x.tmod 1000000000) by rw [Int.neg_tmod, Int.neg_tdiv, Int.neg_neg, tdiv_1]] at t
  have f3 : ∀ p : ZQ, Fn 59 [(p, (x.tmod 1000000000))] [zv p] (.tuple #[.int .i64 (x.tmod 1000000000), .bool true]) := fun p => by
    have t := fits_f p (x.tmod 1000000000) (g8.w.bits.mono (by decide)) g8
    exact t
  have r := zuright_f 0 0 0 0 (x.tdiv 3600000000000) ((x.tmod 3600000000000).tdiv 60000000000) ((x.tmod 60000000000).tdiv 1000000000) (x.tmod 1000000000) ⟨j0, j0, j0, j0, g, g6, g7, g8⟩ k
  refine fn_of Try.func65 rfl fun ww => ?_
  refine st_know (p := p.n = true) (fun w hw => by rw [z_neg (hw (p, x) (by simp))]; simp; omega) fun hn => ?_
  clear hy y0 g hx k
  refine st_fn ent43 (zulen5) sub0 (by kernel_rfl) ?_
  refine st_g ent106 (fa (p)) (subC 0 rfl sub0) (by kernel_rfl) (fun zq1 => ?_)
  refine st_round (by kernel_rfl) ?_
  refine st_fn ent43 (zulen5) sub0 (by kernel_rfl) ?_
  refine st_g ent42 (fzint (3600000000000) (by assumption)) sub0 (by kernel_rfl) (fun zq3 => ?_)
  refine st_g ent44 (d0 (zq1) (zq3)) (subC 1 rfl (subC 0 rfl sub0)) (by kernel_rfl) (fun zq4 => ?_)
  refine st_b 34 (show (p.n) = true by assumption) (by kernel_rfl) ?_
  refine st_g ent107 (n0 (zq4.fst)) (subC 0 rfl sub0) (by kernel_rfl) (fun zq5 => ?_)
  refine st_fn ent59 (f0 (zq5)) (subC 0 rfl sub0) (by kernel_rfl) ?_
  refine st_i 46 .i64 (x' := 5 - 1) (Go.IntWalk.i64_in _ (by omega)) (by kernel_rfl) ?_
  refine st_i 24 .i64 (x' := 5 + 1) (Go.IntWalk.i64_in _ (by omega)) (by kernel_rfl) ?_
  refine st_round (by kernel_rfl) ?_
  refine st_fn ent43 (zulen6) sub0 (by kernel_rfl) ?_
  refine st_g ent42 (fzint (60000000000) (by assumption)) sub0 (by kernel_rfl) (fun zq8 => ?_)
  refine st_g ent44 (d1 (zq4.snd) (zq8)) (subC 3 rfl (subC 0 rfl sub0)) (by kernel_rfl) (fun zq9 => ?_)
  refine st_b 34 (show (p.n) = true by assumption) (by kernel_rfl) ?_
  refine st_g ent107 (n1 (zq9.fst)) (subC 0 rfl sub0) (by kernel_rfl) (fun zq10 => ?_)
  refine st_fn ent59 (f1 (zq10)) (subC 0 rfl sub0) (by kernel_rfl) ?_
  refine st_i 46 .i64 (x' := 5 + 1 - 1) (Go.IntWalk.i64_in _ (by omega)) (by kernel_rfl) ?_
  refine st_i 24 .i64 (x' := 5 + 1 + 1) (Go.IntWalk.i64_in _ (by omega)) (by kernel_rfl) ?_
  refine st_round (by kernel_rfl) ?_
  refine st_fn ent43 (zulen7) sub0 (by kernel_rfl) ?_
  refine st_g ent42 (fzint (1000000000) (by assumption)) sub0 (by kernel_rfl) (fun zq13 => ?_)
  refine st_g ent44 (d2 (zq9.snd) (zq13)) (subC 3 rfl (subC 0 rfl sub0)) (by kernel_rfl) (fun zq14 => ?_)
  refine st_b 34 (show (p.n) = true by assumption) (by kernel_rfl) ?_
  refine st_g ent107 (n2 (zq14.fst)) (subC 0 rfl sub0) (by kernel_rfl) (fun zq15 => ?_)
  refine st_fn ent59 (f2 (zq15)) (subC 0 rfl sub0) (by kernel_rfl) ?_
  refine st_i 46 .i64 (x' := 5 + 1 + 1 - 1) (Go.IntWalk.i64_in _ (by omega)) (by kernel_rfl) ?_
  refine st_i 24 .i64 (x' := 5 + 1 + 1 + 1) (Go.IntWalk.i64_in _ (by omega)) (by kernel_rfl) ?_
  refine st_round (by kernel_rfl) ?_
  refine st_fn ent43 (zulen8) sub0 (by kernel_rfl) ?_
  refine st_g ent42 (fzint (1) (by assumption)) sub0 (by kernel_rfl) (fun zq18 => ?_)
  refine st_g ent44 (d3 (zq14.snd) (zq18)) (subC 3 rfl (subC 0 rfl sub0)) (by kernel_rfl) (fun zq19 => ?_)
  refine st_b 34 (show (p.n) = true by assumption) (by kernel_rfl) ?_
  refine st_g ent107 (n3 (zq19.fst)) (subC 0 rfl sub0) (by kernel_rfl) (fun zq20 => ?_)
  refine st_fn ent59 (f3 (zq20)) (subC 0 rfl sub0) (by kernel_rfl) ?_
  refine st_i 46 .i64 (x' := 5 + 1 + 1 + 1 - 1) (Go.IntWalk.i64_in _ (by omega)) (by kernel_rfl) ?_
  refine st_i 24 .i64 (x' := 5 + 1 + 1 + 1 + 1) (Go.IntWalk.i64_in _ (by omega)) (by kernel_rfl) ?_
  refine st_round (by kernel_rfl) ?_
  refine st_fn ent121 (zumade (0) (0) (0) (0) (x.tdiv 3600000000000) ((x.tmod 3600000000000).tdiv 60000000000) ((x.tmod 60000000000).tdiv 1000000000) (x.tmod 1000000000)) sub0 (by kernel_rfl) ?_
  refine st_fn ent119 (r) sub0 (by kernel_rfl) ?_
  exact st_ret Try.func65 (by kernel_rfl)
theorem zulay5n_o (p : ZQ) (x : Int) (hx : W128 x) (h0 : x < 0) (g : ¬ I64 (x.tdiv 3600000000000)) : Fn 65 [(p, x)] [zv p, .int .i64 5] (.tuple #[du0, .int .i64 4]) := by
  have hy : Bits 900 (-x) := (hx.bits.neg).mono (by decide)
  have y0 : 0 ≤ (-x) := by omega
  have bL4 : Bits 900 86400000000000 := Bits.mono (show W128 86400000000000 by unfold W128; omega).bits (by decide)
  have bL5 : Bits 900 3600000000000 := Bits.mono (show W128 3600000000000 by unfold W128; omega).bits (by decide)
  have bL6 : Bits 900 60000000000 := Bits.mono (show W128 60000000000 by unfold W128; omega).bits (by decide)
  have bL7 : Bits 900 1000000000 := Bits.mono (show W128 1000000000 by unfold W128; omega).bits (by decide)
  have bL8 : Bits 900 1 := Bits.mono (show W128 1 by unfold W128; omega).bits (by decide)
  have j1 : I64 86400000000000 := by unfold I64; omega
  have j2 : I64 3600000000000 := by unfold I64; omega
  have j3 : I64 60000000000 := by unfold I64; omega
  have j4 : I64 1000000000 := by unfold I64; omega
  have j5 : I64 1 := by unfold I64; omega
  have j0 : I64 0 := by unfold I64; omega
  have fa : ∀ p : ZQ, FnZ 106 [(p, x)] [zv p] zv (-x) := fun p => by
    have t := fzabs p x (hx.bits.fit (by decide))
    rwa [show ((x.natAbs : Nat) : Int) = -x by omega] at t
  have d0 : ∀ p q : ZQ, FnZZ 44 [(p, (-x)), (q, 3600000000000)] [zv p, zv q] (fun q => .tuple #[zv q.1, zv q.2]) ((-x).tdiv 3600000000000) ((-x).tmod 3600000000000) := fun p q => zdt p q (-x) 3600000000000 y0 hy (by omega) bL5
  have g6 : I64 ((x.tmod 3600000000000).tdiv 60000000000) := by have := td2 x 3600000000000 60000000000 60 (by decide) (by omega) (by omega); unfold I64; omega
  have g7 : I64 ((x.tmod 60000000000).tdiv 1000000000) := by have := td2 x 60000000000 1000000000 60 (by decide) (by omega) (by omega); unfold I64; omega
  have g8 : I64 (x.tmod 1000000000) := by
    obtain ⟨e1, e2, e3⟩ := td x 1000000000 (by omega)
    by_cases z : 0 ≤ x
    · have := e2 z; unfold I64; omega
    · have := e3 (by omega); unfold I64; omega
  have n0 : ∀ p : ZQ, FnZ 107 [(p, (-x).tdiv 3600000000000)] [zv p] zv (x.tdiv 3600000000000) := fun p => by
    have t := zng p ((-x).tdiv 3600000000000) (tdvb (-x) 3600000000000 y0 hy (by omega))
    rwa [show -((-x).tdiv 3600000000000) = (x.tdiv 3600000000000) by rw [Int.neg_tdiv, Int.neg_neg]] at t
  have f0 : ∀ p : ZQ, Fn 59 [(p, (x.tdiv 3600000000000))] [zv p] (.tuple #[.int .i64 0, .bool false]) := fun p => by
    have t := fits_n p (x.tdiv 3600000000000) (by rw [show (x.tdiv 3600000000000) = -((-x).tdiv 3600000000000) by rw [Int.neg_tdiv, Int.neg_neg]]; exact ((tdvb (-x) 3600000000000 y0 hy (by omega)).neg).mono (by decide)) g
    exact t
  refine fn_of Try.func65 rfl fun ww => ?_
  refine st_know (p := p.n = true) (fun w hw => by rw [z_neg (hw (p, x) (by simp))]; simp; omega) fun hn => ?_
  clear hy y0 g hx
  refine st_fn ent43 (zulen5) sub0 (by kernel_rfl) ?_
  refine st_g ent106 (fa (p)) (subC 0 rfl sub0) (by kernel_rfl) (fun zq1 => ?_)
  refine st_round (by kernel_rfl) ?_
  refine st_fn ent43 (zulen5) sub0 (by kernel_rfl) ?_
  refine st_g ent42 (fzint (3600000000000) (by assumption)) sub0 (by kernel_rfl) (fun zq3 => ?_)
  refine st_g ent44 (d0 (zq1) (zq3)) (subC 1 rfl (subC 0 rfl sub0)) (by kernel_rfl) (fun zq4 => ?_)
  refine st_b 34 (show (p.n) = true by assumption) (by kernel_rfl) ?_
  refine st_g ent107 (n0 (zq4.fst)) (subC 0 rfl sub0) (by kernel_rfl) (fun zq5 => ?_)
  refine st_fn ent59 (f0 (zq5)) (subC 0 rfl sub0) (by kernel_rfl) ?_
  exact st_ret Try.func65 (by kernel_rfl)
theorem zulay6p_y (p : ZQ) (x : Int) (hx : W128 x) (h0 : 0 ≤ x) (g : I64 (x.tdiv 60000000000)) (k : uOk 0 0 0 0 0 (x.tdiv 60000000000) ((x.tmod 60000000000).tdiv 1000000000) (x.tmod 1000000000)) : Fn 65 [(p, x)] [zv p, .int .i64 6] (.tuple #[duv 0 0 0 0 0 (x.tdiv 60000000000) ((x.tmod 60000000000).tdiv 1000000000) (x.tmod 1000000000), .int .i64 0]) := by
  have hy : Bits 900 x := hx.bits.mono (by decide)
  have y0 : 0 ≤ x := by omega
  have bL4 : Bits 900 86400000000000 := Bits.mono (show W128 86400000000000 by unfold W128; omega).bits (by decide)
  have bL5 : Bits 900 3600000000000 := Bits.mono (show W128 3600000000000 by unfold W128; omega).bits (by decide)
  have bL6 : Bits 900 60000000000 := Bits.mono (show W128 60000000000 by unfold W128; omega).bits (by decide)
  have bL7 : Bits 900 1000000000 := Bits.mono (show W128 1000000000 by unfold W128; omega).bits (by decide)
  have bL8 : Bits 900 1 := Bits.mono (show W128 1 by unfold W128; omega).bits (by decide)
  have j1 : I64 86400000000000 := by unfold I64; omega
  have j2 : I64 3600000000000 := by unfold I64; omega
  have j3 : I64 60000000000 := by unfold I64; omega
  have j4 : I64 1000000000 := by unfold I64; omega
  have j5 : I64 1 := by unfold I64; omega
  have j0 : I64 0 := by unfold I64; omega
  have fa : ∀ p : ZQ, FnZ 106 [(p, x)] [zv p] zv x := fun p => by
    have t := fzabs p x (hx.bits.fit (by decide))
    rwa [show ((x.natAbs : Nat) : Int) = x by omega] at t
  have d0 : ∀ p q : ZQ, FnZZ 44 [(p, x), (q, 60000000000)] [zv p, zv q] (fun q => .tuple #[zv q.1, zv q.2]) (x.tdiv 60000000000) (x.tmod 60000000000) := fun p q => zdt p q x 60000000000 y0 hy (by omega) bL6
  have d1 : ∀ p q : ZQ, FnZZ 44 [(p, x.tmod 60000000000), (q, 1000000000)] [zv p, zv q] (fun q => .tuple #[zv q.1, zv q.2]) ((x.tmod 60000000000).tdiv 1000000000) (x.tmod 1000000000) := fun p q => zdc p q x 60000000000 1000000000 y0 (by omega) bL6 (by omega) bL7 (by decide)
  have d2 : ∀ p q : ZQ, FnZZ 44 [(p, x.tmod 1000000000), (q, 1)] [zv p, zv q] (fun q => .tuple #[zv q.1, zv q.2]) ((x.tmod 1000000000).tdiv 1) (x.tmod 1) := fun p q => zdc p q x 1000000000 1 y0 (by omega) bL7 (by omega) bL8 (by decide)
  have g7 : I64 ((x.tmod 60000000000).tdiv 1000000000) := by have := td2 x 60000000000 1000000000 60 (by decide) (by omega) (by omega); unfold I64; omega
  have g8 : I64 (x.tmod 1000000000) := by
    obtain ⟨e1, e2, e3⟩ := td x 1000000000 (by omega)
    by_cases z : 0 ≤ x
    · have := e2 z; unfold I64; omega
    · have := e3 (by omega); unfold I64; omega
  have f0 : ∀ p : ZQ, Fn 59 [(p, x.tdiv 60000000000)] [zv p] (.tuple #[.int .i64 (x.tdiv 60000000000), .bool true]) := fun p => by
    have t := fits_f p (x.tdiv 60000000000) (g.w.bits.mono (by decide)) g
    exact t
  have f1 : ∀ p : ZQ, Fn 59 [(p, (x.tmod 60000000000).tdiv 1000000000)] [zv p] (.tuple #[.int .i64 ((x.tmod 60000000000).tdiv 1000000000), .bool true]) := fun p => by
    have t := fits_f p ((x.tmod 60000000000).tdiv 1000000000) (g7.w.bits.mono (by decide)) g7
    exact t
  have f2 : ∀ p : ZQ, Fn 59 [(p, (x.tmod 1000000000).tdiv 1)] [zv p] (.tuple #[.int .i64 (x.tmod 1000000000), .bool true]) := fun p => by
    have t := fits_f p (x.tmod 1000000000) (g8.w.bits.mono (by decide)) g8
    simpa only [tdiv_1] using t
  have r := zuright_y 0 0 0 0 0 (x.tdiv 60000000000) ((x.tmod 60000000000).tdiv 1000000000) (x.tmod 1000000000) ⟨j0, j0, j0, j0, j0, g, g7, g8⟩ k
  refine fn_of Try.func65 rfl fun ww => ?_
  refine st_know (p := p.n = false) (fun w hw => by rw [z_neg (hw (p, x) (by simp))]; simp; omega) fun hn => ?_
  clear hy y0 g hx k
  refine st_fn ent43 (zulen6) sub0 (by kernel_rfl) ?_
  refine st_g ent106 (fa (p)) (subC 0 rfl sub0) (by kernel_rfl) (fun zq1 => ?_)
  refine st_round (by kernel_rfl) ?_
  refine st_fn ent43 (zulen6) sub0 (by kernel_rfl) ?_
  refine st_g ent42 (fzint (60000000000) (by assumption)) sub0 (by kernel_rfl) (fun zq3 => ?_)
  refine st_g ent44 (d0 (zq1) (zq3)) (subC 1 rfl (subC 0 rfl sub0)) (by kernel_rfl) (fun zq4 => ?_)
  refine st_b 34 (show (p.n) = false by assumption) (by kernel_rfl) ?_
  refine st_fn ent59 (f0 (zq4.fst)) (subC 0 rfl sub0) (by kernel_rfl) ?_
  refine st_i 46 .i64 (x' := 6 - 1) (Go.IntWalk.i64_in _ (by omega)) (by kernel_rfl) ?_
  refine st_i 24 .i64 (x' := 6 + 1) (Go.IntWalk.i64_in _ (by omega)) (by kernel_rfl) ?_
  refine st_round (by kernel_rfl) ?_
  refine st_fn ent43 (zulen7) sub0 (by kernel_rfl) ?_
  refine st_g ent42 (fzint (1000000000) (by assumption)) sub0 (by kernel_rfl) (fun zq7 => ?_)
  refine st_g ent44 (d1 (zq4.snd) (zq7)) (subC 2 rfl (subC 0 rfl sub0)) (by kernel_rfl) (fun zq8 => ?_)
  refine st_b 34 (show (p.n) = false by assumption) (by kernel_rfl) ?_
  refine st_fn ent59 (f1 (zq8.fst)) (subC 0 rfl sub0) (by kernel_rfl) ?_
  refine st_i 46 .i64 (x' := 6 + 1 - 1) (Go.IntWalk.i64_in _ (by omega)) (by kernel_rfl) ?_
  refine st_i 24 .i64 (x' := 6 + 1 + 1) (Go.IntWalk.i64_in _ (by omega)) (by kernel_rfl) ?_
  refine st_round (by kernel_rfl) ?_
  refine st_fn ent43 (zulen8) sub0 (by kernel_rfl) ?_
  refine st_g ent42 (fzint (1) (by assumption)) sub0 (by kernel_rfl) (fun zq11 => ?_)
  refine st_g ent44 (d2 (zq8.snd) (zq11)) (subC 2 rfl (subC 0 rfl sub0)) (by kernel_rfl) (fun zq12 => ?_)
  refine st_b 34 (show (p.n) = false by assumption) (by kernel_rfl) ?_
  refine st_fn ent59 (f2 (zq12.fst)) (subC 0 rfl sub0) (by kernel_rfl) ?_
  refine st_i 46 .i64 (x' := 6 + 1 + 1 - 1) (Go.IntWalk.i64_in _ (by omega)) (by kernel_rfl) ?_
  refine st_i 24 .i64 (x' := 6 + 1 + 1 + 1) (Go.IntWalk.i64_in _ (by omega)) (by kernel_rfl) ?_
  refine st_round (by kernel_rfl) ?_
  refine st_fn ent121 (zumade (0) (0) (0) (0) (0) (x.tdiv 60000000000) ((x.tmod 60000000000).tdiv 1000000000) (x.tmod 1000000000)) sub0 (by kernel_rfl) ?_
  refine st_fn ent119 (r) sub0 (by kernel_rfl) ?_
  exact st_ret Try.func65 (by kernel_rfl)
theorem zulay6p_r (p : ZQ) (x : Int) (hx : W128 x) (h0 : 0 ≤ x) (g : I64 (x.tdiv 60000000000)) (k : ¬ uOk 0 0 0 0 0 (x.tdiv 60000000000) ((x.tmod 60000000000).tdiv 1000000000) (x.tmod 1000000000)) : Fn 65 [(p, x)] [zv p, .int .i64 6] (.tuple #[du0, .int .i64 4]) := by
  have hy : Bits 900 x := hx.bits.mono (by decide)
  have y0 : 0 ≤ x := by omega
  have bL4 : Bits 900 86400000000000 := Bits.mono (show W128 86400000000000 by unfold W128; omega).bits (by decide)
  have bL5 : Bits 900 3600000000000 := Bits.mono (show W128 3600000000000 by unfold W128; omega).bits (by decide)
  have bL6 : Bits 900 60000000000 := Bits.mono (show W128 60000000000 by unfold W128; omega).bits (by decide)
  have bL7 : Bits 900 1000000000 := Bits.mono (show W128 1000000000 by unfold W128; omega).bits (by decide)
  have bL8 : Bits 900 1 := Bits.mono (show W128 1 by unfold W128; omega).bits (by decide)
  have j1 : I64 86400000000000 := by unfold I64; omega
  have j2 : I64 3600000000000 := by unfold I64; omega
  have j3 : I64 60000000000 := by unfold I64; omega
  have j4 : I64 1000000000 := by unfold I64; omega
  have j5 : I64 1 := by unfold I64; omega
  have j0 : I64 0 := by unfold I64; omega
  have fa : ∀ p : ZQ, FnZ 106 [(p, x)] [zv p] zv x := fun p => by
    have t := fzabs p x (hx.bits.fit (by decide))
    rwa [show ((x.natAbs : Nat) : Int) = x by omega] at t
  have d0 : ∀ p q : ZQ, FnZZ 44 [(p, x), (q, 60000000000)] [zv p, zv q] (fun q => .tuple #[zv q.1, zv q.2]) (x.tdiv 60000000000) (x.tmod 60000000000) := fun p q => zdt p q x 60000000000 y0 hy (by omega) bL6
  have d1 : ∀ p q : ZQ, FnZZ 44 [(p, x.tmod 60000000000), (q, 1000000000)] [zv p, zv q] (fun q => .tuple #[zv q.1, zv q.2]) ((x.tmod 60000000000).tdiv 1000000000) (x.tmod 1000000000) := fun p q => zdc p q x 60000000000 1000000000 y0 (by omega) bL6 (by omega) bL7 (by decide)
  have d2 : ∀ p q : ZQ, FnZZ 44 [(p, x.tmod 1000000000), (q, 1)] [zv p, zv q] (fun q => .tuple #[zv q.1, zv q.2]) ((x.tmod 1000000000).tdiv 1) (x.tmod 1) := fun p q => zdc p q x 1000000000 1 y0 (by omega) bL7 (by omega) bL8 (by decide)
  have g7 : I64 ((x.tmod 60000000000).tdiv 1000000000) := by have := td2 x 60000000000 1000000000 60 (by decide) (by omega) (by omega); unfold I64; omega
  have g8 : I64 (x.tmod 1000000000) := by
    obtain ⟨e1, e2, e3⟩ := td x 1000000000 (by omega)
    by_cases z : 0 ≤ x
    · have := e2 z; unfold I64; omega
    · have := e3 (by omega); unfold I64; omega
  have f0 : ∀ p : ZQ, Fn 59 [(p, x.tdiv 60000000000)] [zv p] (.tuple #[.int .i64 (x.tdiv 60000000000), .bool true]) := fun p => by
    have t := fits_f p (x.tdiv 60000000000) (g.w.bits.mono (by decide)) g
    exact t
  have f1 : ∀ p : ZQ, Fn 59 [(p, (x.tmod 60000000000).tdiv 1000000000)] [zv p] (.tuple #[.int .i64 ((x.tmod 60000000000).tdiv 1000000000), .bool true]) := fun p => by
    have t := fits_f p ((x.tmod 60000000000).tdiv 1000000000) (g7.w.bits.mono (by decide)) g7
    exact t
  have f2 : ∀ p : ZQ, Fn 59 [(p, (x.tmod 1000000000).tdiv 1)] [zv p] (.tuple #[.int .i64 (x.tmod 1000000000), .bool true]) := fun p => by
    have t := fits_f p (x.tmod 1000000000) (g8.w.bits.mono (by decide)) g8
    simpa only [tdiv_1] using t
  have r := zuright_f 0 0 0 0 0 (x.tdiv 60000000000) ((x.tmod 60000000000).tdiv 1000000000) (x.tmod 1000000000) ⟨j0, j0, j0, j0, j0, g, g7, g8⟩ k
  refine fn_of Try.func65 rfl fun ww => ?_
  refine st_know (p := p.n = false) (fun w hw => by rw [z_neg (hw (p, x) (by simp))]; simp; omega) fun hn => ?_
  clear hy y0 g hx k
  refine st_fn ent43 (zulen6) sub0 (by kernel_rfl) ?_
  refine st_g ent106 (fa (p)) (subC 0 rfl sub0) (by kernel_rfl) (fun zq1 => ?_)
  refine st_round (by kernel_rfl) ?_
  refine st_fn ent43 (zulen6) sub0 (by kernel_rfl) ?_
  refine st_g ent42 (fzint (60000000000) (by assumption)) sub0 (by kernel_rfl) (fun zq3 => ?_)
  refine st_g ent44 (d0 (zq1) (zq3)) (subC 1 rfl (subC 0 rfl sub0)) (by kernel_rfl) (fun zq4 => ?_)
  refine st_b 34 (show (p.n) = false by assumption) (by kernel_rfl) ?_
  refine st_fn ent59 (f0 (zq4.fst)) (subC 0 rfl sub0) (by kernel_rfl) ?_
  refine st_i 46 .i64 (x' := 6 - 1) (Go.IntWalk.i64_in _ (by omega)) (by kernel_rfl) ?_
  refine st_i 24 .i64 (x' := 6 + 1) (Go.IntWalk.i64_in _ (by omega)) (by kernel_rfl) ?_
  refine st_round (by kernel_rfl) ?_
  refine st_fn ent43 (zulen7) sub0 (by kernel_rfl) ?_
  refine st_g ent42 (fzint (1000000000) (by assumption)) sub0 (by kernel_rfl) (fun zq7 => ?_)
  refine st_g ent44 (d1 (zq4.snd) (zq7)) (subC 2 rfl (subC 0 rfl sub0)) (by kernel_rfl) (fun zq8 => ?_)
  refine st_b 34 (show (p.n) = false by assumption) (by kernel_rfl) ?_
  refine st_fn ent59 (f1 (zq8.fst)) (subC 0 rfl sub0) (by kernel_rfl) ?_
  refine st_i 46 .i64 (x' := 6 + 1 - 1) (Go.IntWalk.i64_in _ (by omega)) (by kernel_rfl) ?_
  refine st_i 24 .i64 (x' := 6 + 1 + 1) (Go.IntWalk.i64_in _ (by omega)) (by kernel_rfl) ?_
  refine st_round (by kernel_rfl) ?_
  refine st_fn ent43 (zulen8) sub0 (by kernel_rfl) ?_
  refine st_g ent42 (fzint (1) (by assumption)) sub0 (by kernel_rfl) (fun zq11 => ?_)
  refine st_g ent44 (d2 (zq8.snd) (zq11)) (subC 2 rfl (subC 0 rfl sub0)) (by kernel_rfl) (fun zq12 => ?_)
  refine st_b 34 (show (p.n) = false by assumption) (by kernel_rfl) ?_
  refine st_fn ent59 (f2 (zq12.fst)) (subC 0 rfl sub0) (by kernel_rfl) ?_
  refine st_i 46 .i64 (x' := 6 + 1 + 1 - 1) (Go.IntWalk.i64_in _ (by omega)) (by kernel_rfl) ?_
  refine st_i 24 .i64 (x' := 6 + 1 + 1 + 1) (Go.IntWalk.i64_in _ (by omega)) (by kernel_rfl) ?_
  refine st_round (by kernel_rfl) ?_
  refine st_fn ent121 (zumade (0) (0) (0) (0) (0) (x.tdiv 60000000000) ((x.tmod 60000000000).tdiv 1000000000) (x.tmod 1000000000)) sub0 (by kernel_rfl) ?_
  refine st_fn ent119 (r) sub0 (by kernel_rfl) ?_
  exact st_ret Try.func65 (by kernel_rfl)
theorem zulay6p_o (p : ZQ) (x : Int) (hx : W128 x) (h0 : 0 ≤ x) (g : ¬ I64 (x.tdiv 60000000000)) : Fn 65 [(p, x)] [zv p, .int .i64 6] (.tuple #[du0, .int .i64 4]) := by
  have hy : Bits 900 x := hx.bits.mono (by decide)
  have y0 : 0 ≤ x := by omega
  have bL4 : Bits 900 86400000000000 := Bits.mono (show W128 86400000000000 by unfold W128; omega).bits (by decide)
  have bL5 : Bits 900 3600000000000 := Bits.mono (show W128 3600000000000 by unfold W128; omega).bits (by decide)
  have bL6 : Bits 900 60000000000 := Bits.mono (show W128 60000000000 by unfold W128; omega).bits (by decide)
  have bL7 : Bits 900 1000000000 := Bits.mono (show W128 1000000000 by unfold W128; omega).bits (by decide)
  have bL8 : Bits 900 1 := Bits.mono (show W128 1 by unfold W128; omega).bits (by decide)
  have j1 : I64 86400000000000 := by unfold I64; omega
  have j2 : I64 3600000000000 := by unfold I64; omega
  have j3 : I64 60000000000 := by unfold I64; omega
  have j4 : I64 1000000000 := by unfold I64; omega
  have j5 : I64 1 := by unfold I64; omega
  have j0 : I64 0 := by unfold I64; omega
  have fa : ∀ p : ZQ, FnZ 106 [(p, x)] [zv p] zv x := fun p => by
    have t := fzabs p x (hx.bits.fit (by decide))
    rwa [show ((x.natAbs : Nat) : Int) = x by omega] at t
  have d0 : ∀ p q : ZQ, FnZZ 44 [(p, x), (q, 60000000000)] [zv p, zv q] (fun q => .tuple #[zv q.1, zv q.2]) (x.tdiv 60000000000) (x.tmod 60000000000) := fun p q => zdt p q x 60000000000 y0 hy (by omega) bL6
  have g7 : I64 ((x.tmod 60000000000).tdiv 1000000000) := by have := td2 x 60000000000 1000000000 60 (by decide) (by omega) (by omega); unfold I64; omega
  have g8 : I64 (x.tmod 1000000000) := by
    obtain ⟨e1, e2, e3⟩ := td x 1000000000 (by omega)
    by_cases z : 0 ≤ x
    · have := e2 z; unfold I64; omega
    · have := e3 (by omega); unfold I64; omega
  have f0 : ∀ p : ZQ, Fn 59 [(p, x.tdiv 60000000000)] [zv p] (.tuple #[.int .i64 0, .bool false]) := fun p => by
    have t := fits_n p (x.tdiv 60000000000) ((tdvb x 60000000000 y0 hy (by omega)).mono (by decide)) g
    exact t
  refine fn_of Try.func65 rfl fun ww => ?_
  refine st_know (p := p.n = false) (fun w hw => by rw [z_neg (hw (p, x) (by simp))]; simp; omega) fun hn => ?_
  clear hy y0 g hx
  refine st_fn ent43 (zulen6) sub0 (by kernel_rfl) ?_
  refine st_g ent106 (fa (p)) (subC 0 rfl sub0) (by kernel_rfl) (fun zq1 => ?_)
  refine st_round (by kernel_rfl) ?_
  refine st_fn ent43 (zulen6) sub0 (by kernel_rfl) ?_
  refine st_g ent42 (fzint (60000000000) (by assumption)) sub0 (by kernel_rfl) (fun zq3 => ?_)
  refine st_g ent44 (d0 (zq1) (zq3)) (subC 1 rfl (subC 0 rfl sub0)) (by kernel_rfl) (fun zq4 => ?_)
  refine st_b 34 (show (p.n) = false by assumption) (by kernel_rfl) ?_
  refine st_fn ent59 (f0 (zq4.fst)) (subC 0 rfl sub0) (by kernel_rfl) ?_
  exact st_ret Try.func65 (by kernel_rfl)
theorem zulay6n_y (p : ZQ) (x : Int) (hx : W128 x) (h0 : x < 0) (g : I64 (x.tdiv 60000000000)) (k : uOk 0 0 0 0 0 (x.tdiv 60000000000) ((x.tmod 60000000000).tdiv 1000000000) (x.tmod 1000000000)) : Fn 65 [(p, x)] [zv p, .int .i64 6] (.tuple #[duv 0 0 0 0 0 (x.tdiv 60000000000) ((x.tmod 60000000000).tdiv 1000000000) (x.tmod 1000000000), .int .i64 0]) := by
  have hy : Bits 900 (-x) := (hx.bits.neg).mono (by decide)
  have y0 : 0 ≤ (-x) := by omega
  have bL4 : Bits 900 86400000000000 := Bits.mono (show W128 86400000000000 by unfold W128; omega).bits (by decide)
  have bL5 : Bits 900 3600000000000 := Bits.mono (show W128 3600000000000 by unfold W128; omega).bits (by decide)
  have bL6 : Bits 900 60000000000 := Bits.mono (show W128 60000000000 by unfold W128; omega).bits (by decide)
  have bL7 : Bits 900 1000000000 := Bits.mono (show W128 1000000000 by unfold W128; omega).bits (by decide)
  have bL8 : Bits 900 1 := Bits.mono (show W128 1 by unfold W128; omega).bits (by decide)
  have j1 : I64 86400000000000 := by unfold I64; omega
  have j2 : I64 3600000000000 := by unfold I64; omega
  have j3 : I64 60000000000 := by unfold I64; omega
  have j4 : I64 1000000000 := by unfold I64; omega
  have j5 : I64 1 := by unfold I64; omega
  have j0 : I64 0 := by unfold I64; omega
  have fa : ∀ p : ZQ, FnZ 106 [(p, x)] [zv p] zv (-x) := fun p => by
    have t := fzabs p x (hx.bits.fit (by decide))
    rwa [show ((x.natAbs : Nat) : Int) = -x by omega] at t
  have d0 : ∀ p q : ZQ, FnZZ 44 [(p, (-x)), (q, 60000000000)] [zv p, zv q] (fun q => .tuple #[zv q.1, zv q.2]) ((-x).tdiv 60000000000) ((-x).tmod 60000000000) := fun p q => zdt p q (-x) 60000000000 y0 hy (by omega) bL6
  have d1 : ∀ p q : ZQ, FnZZ 44 [(p, (-x).tmod 60000000000), (q, 1000000000)] [zv p, zv q] (fun q => .tuple #[zv q.1, zv q.2]) (((-x).tmod 60000000000).tdiv 1000000000) ((-x).tmod 1000000000) := fun p q => zdc p q (-x) 60000000000 1000000000 y0 (by omega) bL6 (by omega) bL7 (by decide)
  have d2 : ∀ p q : ZQ, FnZZ 44 [(p, (-x).tmod 1000000000), (q, 1)] [zv p, zv q] (fun q => .tuple #[zv q.1, zv q.2]) (((-x).tmod 1000000000).tdiv 1) ((-x).tmod 1) := fun p q => zdc p q (-x) 1000000000 1 y0 (by omega) bL7 (by omega) bL8 (by decide)
  have g7 : I64 ((x.tmod 60000000000).tdiv 1000000000) := by have := td2 x 60000000000 1000000000 60 (by decide) (by omega) (by omega); unfold I64; omega
  have g8 : I64 (x.tmod 1000000000) := by
    obtain ⟨e1, e2, e3⟩ := td x 1000000000 (by omega)
    by_cases z : 0 ≤ x
    · have := e2 z; unfold I64; omega
    · have := e3 (by omega); unfold I64; omega
  have n0 : ∀ p : ZQ, FnZ 107 [(p, (-x).tdiv 60000000000)] [zv p] zv (x.tdiv 60000000000) := fun p => by
    have t := zng p ((-x).tdiv 60000000000) (tdvb (-x) 60000000000 y0 hy (by omega))
    rwa [show -((-x).tdiv 60000000000) = (x.tdiv 60000000000) by rw [Int.neg_tdiv, Int.neg_neg]] at t
  have f0 : ∀ p : ZQ, Fn 59 [(p, (x.tdiv 60000000000))] [zv p] (.tuple #[.int .i64 (x.tdiv 60000000000), .bool true]) := fun p => by
    have t := fits_f p (x.tdiv 60000000000) (g.w.bits.mono (by decide)) g
    exact t
  have n1 : ∀ p : ZQ, FnZ 107 [(p, ((-x).tmod 60000000000).tdiv 1000000000)] [zv p] zv ((x.tmod 60000000000).tdiv 1000000000) := fun p => by
    have t := zng p (((-x).tmod 60000000000).tdiv 1000000000) (tdvb _ 1000000000 (tmod_nb (-x) 60000000000 y0 (by omega) bL6).1 (tmod_nb (-x) 60000000000 y0 (by omega) bL6).2 (by omega))
    rwa [show -(((-x).tmod 60000000000).tdiv 1000000000) = ((x.tmod 60000000000).tdiv 1000000000) by rw [Int.neg_tmod, Int.neg_tdiv, Int.neg_neg]] at t
  have f1 : ∀ p : ZQ, Fn 59 [(p, ((x.tmod 60000000000).tdiv 1000000000))] [zv p] (.tuple #[.int .i64 ((x.tmod 60000000000).tdiv 1000000000), .bool true]) := fun p => by
    have t := fits_f p ((x.tmod 60000000000).tdiv 1000000000) (g7.w.bits.mono (by decide)) g7
    exact t
  have n2 : ∀ p : ZQ, FnZ 107 [(p, ((-x).tmod 1000000000).tdiv 1)] [zv p] zv (x.tmod 1000000000) := fun p => by
    have t := zng p (((-x).tmod 1000000000).tdiv 1) (tdvb _ 1 (tmod_nb (-x) 1000000000 y0 (by omega) bL7).1 (tmod_nb (-x) 1000000000 y0 (by omega) bL7).2 (by omega))
    rwa [show -(((-x).tmod 1000000000).tdiv 1) = (x.tmod 1000000000) by rw [Int.neg_tmod, Int.neg_tdiv, Int.neg_neg, tdiv_1]] at t
  have f2 : ∀ p : ZQ, Fn 59 [(p, (x.tmod 1000000000))] [zv p] (.tuple #[.int .i64 (x.tmod 1000000000), .bool true]) := fun p => by
    have t := fits_f p (x.tmod 1000000000) (g8.w.bits.mono (by decide)) g8
    exact t
  have r := zuright_y 0 0 0 0 0 (x.tdiv 60000000000) ((x.tmod 60000000000).tdiv 1000000000) (x.tmod 1000000000) ⟨j0, j0, j0, j0, j0, g, g7, g8⟩ k
  refine fn_of Try.func65 rfl fun ww => ?_
  refine st_know (p := p.n = true) (fun w hw => by rw [z_neg (hw (p, x) (by simp))]; simp; omega) fun hn => ?_
  clear hy y0 g hx k
  refine st_fn ent43 (zulen6) sub0 (by kernel_rfl) ?_
  refine st_g ent106 (fa (p)) (subC 0 rfl sub0) (by kernel_rfl) (fun zq1 => ?_)
  refine st_round (by kernel_rfl) ?_
  refine st_fn ent43 (zulen6) sub0 (by kernel_rfl) ?_
  refine st_g ent42 (fzint (60000000000) (by assumption)) sub0 (by kernel_rfl) (fun zq3 => ?_)
  refine st_g ent44 (d0 (zq1) (zq3)) (subC 1 rfl (subC 0 rfl sub0)) (by kernel_rfl) (fun zq4 => ?_)
  refine st_b 34 (show (p.n) = true by assumption) (by kernel_rfl) ?_
  refine st_g ent107 (n0 (zq4.fst)) (subC 0 rfl sub0) (by kernel_rfl) (fun zq5 => ?_)
  refine st_fn ent59 (f0 (zq5)) (subC 0 rfl sub0) (by kernel_rfl) ?_
  refine st_i 46 .i64 (x' := 6 - 1) (Go.IntWalk.i64_in _ (by omega)) (by kernel_rfl) ?_
  refine st_i 24 .i64 (x' := 6 + 1) (Go.IntWalk.i64_in _ (by omega)) (by kernel_rfl) ?_
  refine st_round (by kernel_rfl) ?_
  refine st_fn ent43 (zulen7) sub0 (by kernel_rfl) ?_
  refine st_g ent42 (fzint (1000000000) (by assumption)) sub0 (by kernel_rfl) (fun zq8 => ?_)
  refine st_g ent44 (d1 (zq4.snd) (zq8)) (subC 3 rfl (subC 0 rfl sub0)) (by kernel_rfl) (fun zq9 => ?_)
  refine st_b 34 (show (p.n) = true by assumption) (by kernel_rfl) ?_
  refine st_g ent107 (n1 (zq9.fst)) (subC 0 rfl sub0) (by kernel_rfl) (fun zq10 => ?_)
  refine st_fn ent59 (f1 (zq10)) (subC 0 rfl sub0) (by kernel_rfl) ?_
  refine st_i 46 .i64 (x' := 6 + 1 - 1) (Go.IntWalk.i64_in _ (by omega)) (by kernel_rfl) ?_
  refine st_i 24 .i64 (x' := 6 + 1 + 1) (Go.IntWalk.i64_in _ (by omega)) (by kernel_rfl) ?_
  refine st_round (by kernel_rfl) ?_
  refine st_fn ent43 (zulen8) sub0 (by kernel_rfl) ?_
  refine st_g ent42 (fzint (1) (by assumption)) sub0 (by kernel_rfl) (fun zq13 => ?_)
  refine st_g ent44 (d2 (zq9.snd) (zq13)) (subC 3 rfl (subC 0 rfl sub0)) (by kernel_rfl) (fun zq14 => ?_)
  refine st_b 34 (show (p.n) = true by assumption) (by kernel_rfl) ?_
  refine st_g ent107 (n2 (zq14.fst)) (subC 0 rfl sub0) (by kernel_rfl) (fun zq15 => ?_)
  refine st_fn ent59 (f2 (zq15)) (subC 0 rfl sub0) (by kernel_rfl) ?_
  refine st_i 46 .i64 (x' := 6 + 1 + 1 - 1) (Go.IntWalk.i64_in _ (by omega)) (by kernel_rfl) ?_
  refine st_i 24 .i64 (x' := 6 + 1 + 1 + 1) (Go.IntWalk.i64_in _ (by omega)) (by kernel_rfl) ?_
  refine st_round (by kernel_rfl) ?_
  refine st_fn ent121 (zumade (0) (0) (0) (0) (0) (x.tdiv 60000000000) ((x.tmod 60000000000).tdiv 1000000000) (x.tmod 1000000000)) sub0 (by kernel_rfl) ?_
  refine st_fn ent119 (r) sub0 (by kernel_rfl) ?_
  exact st_ret Try.func65 (by kernel_rfl)
theorem zulay6n_r (p : ZQ) (x : Int) (hx : W128 x) (h0 : x < 0) (g : I64 (x.tdiv 60000000000)) (k : ¬ uOk 0 0 0 0 0 (x.tdiv 60000000000) ((x.tmod 60000000000).tdiv 1000000000) (x.tmod 1000000000)) : Fn 65 [(p, x)] [zv p, .int .i64 6] (.tuple #[du0, .int .i64 4]) := by
  have hy : Bits 900 (-x) := (hx.bits.neg).mono (by decide)
  have y0 : 0 ≤ (-x) := by omega
  have bL4 : Bits 900 86400000000000 := Bits.mono (show W128 86400000000000 by unfold W128; omega).bits (by decide)
  have bL5 : Bits 900 3600000000000 := Bits.mono (show W128 3600000000000 by unfold W128; omega).bits (by decide)
  have bL6 : Bits 900 60000000000 := Bits.mono (show W128 60000000000 by unfold W128; omega).bits (by decide)
  have bL7 : Bits 900 1000000000 := Bits.mono (show W128 1000000000 by unfold W128; omega).bits (by decide)
  have bL8 : Bits 900 1 := Bits.mono (show W128 1 by unfold W128; omega).bits (by decide)
  have j1 : I64 86400000000000 := by unfold I64; omega
  have j2 : I64 3600000000000 := by unfold I64; omega
  have j3 : I64 60000000000 := by unfold I64; omega
  have j4 : I64 1000000000 := by unfold I64; omega
  have j5 : I64 1 := by unfold I64; omega
  have j0 : I64 0 := by unfold I64; omega
  have fa : ∀ p : ZQ, FnZ 106 [(p, x)] [zv p] zv (-x) := fun p => by
    have t := fzabs p x (hx.bits.fit (by decide))
    rwa [show ((x.natAbs : Nat) : Int) = -x by omega] at t
  have d0 : ∀ p q : ZQ, FnZZ 44 [(p, (-x)), (q, 60000000000)] [zv p, zv q] (fun q => .tuple #[zv q.1, zv q.2]) ((-x).tdiv 60000000000) ((-x).tmod 60000000000) := fun p q => zdt p q (-x) 60000000000 y0 hy (by omega) bL6
  have d1 : ∀ p q : ZQ, FnZZ 44 [(p, (-x).tmod 60000000000), (q, 1000000000)] [zv p, zv q] (fun q => .tuple #[zv q.1, zv q.2]) (((-x).tmod 60000000000).tdiv 1000000000) ((-x).tmod 1000000000) := fun p q => zdc p q (-x) 60000000000 1000000000 y0 (by omega) bL6 (by omega) bL7 (by decide)
  have d2 : ∀ p q : ZQ, FnZZ 44 [(p, (-x).tmod 1000000000), (q, 1)] [zv p, zv q] (fun q => .tuple #[zv q.1, zv q.2]) (((-x).tmod 1000000000).tdiv 1) ((-x).tmod 1) := fun p q => zdc p q (-x) 1000000000 1 y0 (by omega) bL7 (by omega) bL8 (by decide)
  have g7 : I64 ((x.tmod 60000000000).tdiv 1000000000) := by have := td2 x 60000000000 1000000000 60 (by decide) (by omega) (by omega); unfold I64; omega
  have g8 : I64 (x.tmod 1000000000) := by
    obtain ⟨e1, e2, e3⟩ := td x 1000000000 (by omega)
    by_cases z : 0 ≤ x
    · have := e2 z; unfold I64; omega
    · have := e3 (by omega); unfold I64; omega
  have n0 : ∀ p : ZQ, FnZ 107 [(p, (-x).tdiv 60000000000)] [zv p] zv (x.tdiv 60000000000) := fun p => by
    have t := zng p ((-x).tdiv 60000000000) (tdvb (-x) 60000000000 y0 hy (by omega))
    rwa [show -((-x).tdiv 60000000000) = (x.tdiv 60000000000) by rw [Int.neg_tdiv, Int.neg_neg]] at t
  have f0 : ∀ p : ZQ, Fn 59 [(p, (x.tdiv 60000000000))] [zv p] (.tuple #[.int .i64 (x.tdiv 60000000000), .bool true]) := fun p => by
    have t := fits_f p (x.tdiv 60000000000) (g.w.bits.mono (by decide)) g
    exact t
  have n1 : ∀ p : ZQ, FnZ 107 [(p, ((-x).tmod 60000000000).tdiv 1000000000)] [zv p] zv ((x.tmod 60000000000).tdiv 1000000000) := fun p => by
    have t := zng p (((-x).tmod 60000000000).tdiv 1000000000) (tdvb _ 1000000000 (tmod_nb (-x) 60000000000 y0 (by omega) bL6).1 (tmod_nb (-x) 60000000000 y0 (by omega) bL6).2 (by omega))
    rwa [show -(((-x).tmod 60000000000).tdiv 1000000000) = ((x.tmod 60000000000).tdiv 1000000000) by rw [Int.neg_tmod, Int.neg_tdiv, Int.neg_neg]] at t
  have f1 : ∀ p : ZQ, Fn 59 [(p, ((x.tmod 60000000000).tdiv 1000000000))] [zv p] (.tuple #[.int .i64 ((x.tmod 60000000000).tdiv 1000000000), .bool true]) := fun p => by
    have t := fits_f p ((x.tmod 60000000000).tdiv 1000000000) (g7.w.bits.mono (by decide)) g7
    exact t
  have n2 : ∀ p : ZQ, FnZ 107 [(p, ((-x).tmod 1000000000).tdiv 1)] [zv p] zv (x.tmod 1000000000) := fun p => by
    have t := zng p (((-x).tmod 1000000000).tdiv 1) (tdvb _ 1 (tmod_nb (-x) 1000000000 y0 (by omega) bL7).1 (tmod_nb (-x) 1000000000 y0 (by omega) bL7).2 (by omega))
    rwa [show -(((-x).tmod 1000000000).tdiv 1) = (x.tmod 1000000000) by rw [Int.neg_tmod, Int.neg_tdiv, Int.neg_neg, tdiv_1]] at t
  have f2 : ∀ p : ZQ, Fn 59 [(p, (x.tmod 1000000000))] [zv p] (.tuple #[.int .i64 (x.tmod 1000000000), .bool true]) := fun p => by
    have t := fits_f p (x.tmod 1000000000) (g8.w.bits.mono (by decide)) g8
    exact t
  have r := zuright_f 0 0 0 0 0 (x.tdiv 60000000000) ((x.tmod 60000000000).tdiv 1000000000) (x.tmod 1000000000) ⟨j0, j0, j0, j0, j0, g, g7, g8⟩ k
  refine fn_of Try.func65 rfl fun ww => ?_
  refine st_know (p := p.n = true) (fun w hw => by rw [z_neg (hw (p, x) (by simp))]; simp; omega) fun hn => ?_
  clear hy y0 g hx k
  refine st_fn ent43 (zulen6) sub0 (by kernel_rfl) ?_
  refine st_g ent106 (fa (p)) (subC 0 rfl sub0) (by kernel_rfl) (fun zq1 => ?_)
  refine st_round (by kernel_rfl) ?_
  refine st_fn ent43 (zulen6) sub0 (by kernel_rfl) ?_
  refine st_g ent42 (fzint (60000000000) (by assumption)) sub0 (by kernel_rfl) (fun zq3 => ?_)
  refine st_g ent44 (d0 (zq1) (zq3)) (subC 1 rfl (subC 0 rfl sub0)) (by kernel_rfl) (fun zq4 => ?_)
  refine st_b 34 (show (p.n) = true by assumption) (by kernel_rfl) ?_
  refine st_g ent107 (n0 (zq4.fst)) (subC 0 rfl sub0) (by kernel_rfl) (fun zq5 => ?_)
  refine st_fn ent59 (f0 (zq5)) (subC 0 rfl sub0) (by kernel_rfl) ?_
  refine st_i 46 .i64 (x' := 6 - 1) (Go.IntWalk.i64_in _ (by omega)) (by kernel_rfl) ?_
  refine st_i 24 .i64 (x' := 6 + 1) (Go.IntWalk.i64_in _ (by omega)) (by kernel_rfl) ?_
  refine st_round (by kernel_rfl) ?_
  refine st_fn ent43 (zulen7) sub0 (by kernel_rfl) ?_
  refine st_g ent42 (fzint (1000000000) (by assumption)) sub0 (by kernel_rfl) (fun zq8 => ?_)
  refine st_g ent44 (d1 (zq4.snd) (zq8)) (subC 3 rfl (subC 0 rfl sub0)) (by kernel_rfl) (fun zq9 => ?_)
  refine st_b 34 (show (p.n) = true by assumption) (by kernel_rfl) ?_
  refine st_g ent107 (n1 (zq9.fst)) (subC 0 rfl sub0) (by kernel_rfl) (fun zq10 => ?_)
  refine st_fn ent59 (f1 (zq10)) (subC 0 rfl sub0) (by kernel_rfl) ?_
  refine st_i 46 .i64 (x' := 6 + 1 - 1) (Go.IntWalk.i64_in _ (by omega)) (by kernel_rfl) ?_
  refine st_i 24 .i64 (x' := 6 + 1 + 1) (Go.IntWalk.i64_in _ (by omega)) (by kernel_rfl) ?_
  refine st_round (by kernel_rfl) ?_
  refine st_fn ent43 (zulen8) sub0 (by kernel_rfl) ?_
  refine st_g ent42 (fzint (1) (by assumption)) sub0 (by kernel_rfl) (fun zq13 => ?_)
  refine st_g ent44 (d2 (zq9.snd) (zq13)) (subC 3 rfl (subC 0 rfl sub0)) (by kernel_rfl) (fun zq14 => ?_)
  refine st_b 34 (show (p.n) = true by assumption) (by kernel_rfl) ?_
  refine st_g ent107 (n2 (zq14.fst)) (subC 0 rfl sub0) (by kernel_rfl) (fun zq15 => ?_)
  refine st_fn ent59 (f2 (zq15)) (subC 0 rfl sub0) (by kernel_rfl) ?_
  refine st_i 46 .i64 (x' := 6 + 1 + 1 - 1) (Go.IntWalk.i64_in _ (by omega)) (by kernel_rfl) ?_
  refine st_i 24 .i64 (x' := 6 + 1 + 1 + 1) (Go.IntWalk.i64_in _ (by omega)) (by kernel_rfl) ?_
  refine st_round (by kernel_rfl) ?_
  refine st_fn ent121 (zumade (0) (0) (0) (0) (0) (x.tdiv 60000000000) ((x.tmod 60000000000).tdiv 1000000000) (x.tmod 1000000000)) sub0 (by kernel_rfl) ?_
  refine st_fn ent119 (r) sub0 (by kernel_rfl) ?_
  exact st_ret Try.func65 (by kernel_rfl)
theorem zulay6n_o (p : ZQ) (x : Int) (hx : W128 x) (h0 : x < 0) (g : ¬ I64 (x.tdiv 60000000000)) : Fn 65 [(p, x)] [zv p, .int .i64 6] (.tuple #[du0, .int .i64 4]) := by
  have hy : Bits 900 (-x) := (hx.bits.neg).mono (by decide)
  have y0 : 0 ≤ (-x) := by omega
  have bL4 : Bits 900 86400000000000 := Bits.mono (show W128 86400000000000 by unfold W128; omega).bits (by decide)
  have bL5 : Bits 900 3600000000000 := Bits.mono (show W128 3600000000000 by unfold W128; omega).bits (by decide)
  have bL6 : Bits 900 60000000000 := Bits.mono (show W128 60000000000 by unfold W128; omega).bits (by decide)
  have bL7 : Bits 900 1000000000 := Bits.mono (show W128 1000000000 by unfold W128; omega).bits (by decide)
  have bL8 : Bits 900 1 := Bits.mono (show W128 1 by unfold W128; omega).bits (by decide)
  have j1 : I64 86400000000000 := by unfold I64; omega
  have j2 : I64 3600000000000 := by unfold I64; omega
  have j3 : I64 60000000000 := by unfold I64; omega
  have j4 : I64 1000000000 := by unfold I64; omega
  have j5 : I64 1 := by unfold I64; omega
  have j0 : I64 0 := by unfold I64; omega
  have fa : ∀ p : ZQ, FnZ 106 [(p, x)] [zv p] zv (-x) := fun p => by
    have t := fzabs p x (hx.bits.fit (by decide))
    rwa [show ((x.natAbs : Nat) : Int) = -x by omega] at t
  have d0 : ∀ p q : ZQ, FnZZ 44 [(p, (-x)), (q, 60000000000)] [zv p, zv q] (fun q => .tuple #[zv q.1, zv q.2]) ((-x).tdiv 60000000000) ((-x).tmod 60000000000) := fun p q => zdt p q (-x) 60000000000 y0 hy (by omega) bL6
  have g7 : I64 ((x.tmod 60000000000).tdiv 1000000000) := by have := td2 x 60000000000 1000000000 60 (by decide) (by omega) (by omega); unfold I64; omega
  have g8 : I64 (x.tmod 1000000000) := by
    obtain ⟨e1, e2, e3⟩ := td x 1000000000 (by omega)
    by_cases z : 0 ≤ x
    · have := e2 z; unfold I64; omega
    · have := e3 (by omega); unfold I64; omega
  have n0 : ∀ p : ZQ, FnZ 107 [(p, (-x).tdiv 60000000000)] [zv p] zv (x.tdiv 60000000000) := fun p => by
    have t := zng p ((-x).tdiv 60000000000) (tdvb (-x) 60000000000 y0 hy (by omega))
    rwa [show -((-x).tdiv 60000000000) = (x.tdiv 60000000000) by rw [Int.neg_tdiv, Int.neg_neg]] at t
  have f0 : ∀ p : ZQ, Fn 59 [(p, (x.tdiv 60000000000))] [zv p] (.tuple #[.int .i64 0, .bool false]) := fun p => by
    have t := fits_n p (x.tdiv 60000000000) (by rw [show (x.tdiv 60000000000) = -((-x).tdiv 60000000000) by rw [Int.neg_tdiv, Int.neg_neg]]; exact ((tdvb (-x) 60000000000 y0 hy (by omega)).neg).mono (by decide)) g
    exact t
  refine fn_of Try.func65 rfl fun ww => ?_
  refine st_know (p := p.n = true) (fun w hw => by rw [z_neg (hw (p, x) (by simp))]; simp; omega) fun hn => ?_
  clear hy y0 g hx
  refine st_fn ent43 (zulen6) sub0 (by kernel_rfl) ?_
  refine st_g ent106 (fa (p)) (subC 0 rfl sub0) (by kernel_rfl) (fun zq1 => ?_)
  refine st_round (by kernel_rfl) ?_
  refine st_fn ent43 (zulen6) sub0 (by kernel_rfl) ?_
  refine st_g ent42 (fzint (60000000000) (by assumption)) sub0 (by kernel_rfl) (fun zq3 => ?_)
  refine st_g ent44 (d0 (zq1) (zq3)) (subC 1 rfl (subC 0 rfl sub0)) (by kernel_rfl) (fun zq4 => ?_)
  refine st_b 34 (show (p.n) = true by assumption) (by kernel_rfl) ?_
  refine st_g ent107 (n0 (zq4.fst)) (subC 0 rfl sub0) (by kernel_rfl) (fun zq5 => ?_)
  refine st_fn ent59 (f0 (zq5)) (subC 0 rfl sub0) (by kernel_rfl) ?_
  exact st_ret Try.func65 (by kernel_rfl)
theorem zulay7p_y (p : ZQ) (x : Int) (hx : W128 x) (h0 : 0 ≤ x) (g : I64 (x.tdiv 1000000000)) (k : uOk 0 0 0 0 0 0 (x.tdiv 1000000000) (x.tmod 1000000000)) : Fn 65 [(p, x)] [zv p, .int .i64 7] (.tuple #[duv 0 0 0 0 0 0 (x.tdiv 1000000000) (x.tmod 1000000000), .int .i64 0]) := by
  have hy : Bits 900 x := hx.bits.mono (by decide)
  have y0 : 0 ≤ x := by omega
  have bL4 : Bits 900 86400000000000 := Bits.mono (show W128 86400000000000 by unfold W128; omega).bits (by decide)
  have bL5 : Bits 900 3600000000000 := Bits.mono (show W128 3600000000000 by unfold W128; omega).bits (by decide)
  have bL6 : Bits 900 60000000000 := Bits.mono (show W128 60000000000 by unfold W128; omega).bits (by decide)
  have bL7 : Bits 900 1000000000 := Bits.mono (show W128 1000000000 by unfold W128; omega).bits (by decide)
  have bL8 : Bits 900 1 := Bits.mono (show W128 1 by unfold W128; omega).bits (by decide)
  have j1 : I64 86400000000000 := by unfold I64; omega
  have j2 : I64 3600000000000 := by unfold I64; omega
  have j3 : I64 60000000000 := by unfold I64; omega
  have j4 : I64 1000000000 := by unfold I64; omega
  have j5 : I64 1 := by unfold I64; omega
  have j0 : I64 0 := by unfold I64; omega
  have fa : ∀ p : ZQ, FnZ 106 [(p, x)] [zv p] zv x := fun p => by
    have t := fzabs p x (hx.bits.fit (by decide))
    rwa [show ((x.natAbs : Nat) : Int) = x by omega] at t
  have d0 : ∀ p q : ZQ, FnZZ 44 [(p, x), (q, 1000000000)] [zv p, zv q] (fun q => .tuple #[zv q.1, zv q.2]) (x.tdiv 1000000000) (x.tmod 1000000000) := fun p q => zdt p q x 1000000000 y0 hy (by omega) bL7
  have d1 : ∀ p q : ZQ, FnZZ 44 [(p, x.tmod 1000000000), (q, 1)] [zv p, zv q] (fun q => .tuple #[zv q.1, zv q.2]) ((x.tmod 1000000000).tdiv 1) (x.tmod 1) := fun p q => zdc p q x 1000000000 1 y0 (by omega) bL7 (by omega) bL8 (by decide)
  have g8 : I64 (x.tmod 1000000000) := by
    obtain ⟨e1, e2, e3⟩ := td x 1000000000 (by omega)
    by_cases z : 0 ≤ x
    · have := e2 z; unfold I64; omega
    · have := e3 (by omega); unfold I64; omega
  have f0 : ∀ p : ZQ, Fn 59 [(p, x.tdiv 1000000000)] [zv p] (.tuple #[.int .i64 (x.tdiv 1000000000), .bool true]) := fun p => by
    have t := fits_f p (x.tdiv 1000000000) (g.w.bits.mono (by decide)) g
    exact t
  have f1 : ∀ p : ZQ, Fn 59 [(p, (x.tmod 1000000000).tdiv 1)] [zv p] (.tuple #[.int .i64 (x.tmod 1000000000), .bool true]) := fun p => by
    have t := fits_f p (x.tmod 1000000000) (g8.w.bits.mono (by decide)) g8
    simpa only [tdiv_1] using t
  have r := zuright_y 0 0 0 0 0 0 (x.tdiv 1000000000) (x.tmod 1000000000) ⟨j0, j0, j0, j0, j0, j0, g, g8⟩ k
  refine fn_of Try.func65 rfl fun ww => ?_
  refine st_know (p := p.n = false) (fun w hw => by rw [z_neg (hw (p, x) (by simp))]; simp; omega) fun hn => ?_
  clear hy y0 g hx k
  refine st_fn ent43 (zulen7) sub0 (by kernel_rfl) ?_
  refine st_g ent106 (fa (p)) (subC 0 rfl sub0) (by kernel_rfl) (fun zq1 => ?_)
  refine st_round (by kernel_rfl) ?_
  refine st_fn ent43 (zulen7) sub0 (by kernel_rfl) ?_
  refine st_g ent42 (fzint (1000000000) (by assumption)) sub0 (by kernel_rfl) (fun zq3 => ?_)
  refine st_g ent44 (d0 (zq1) (zq3)) (subC 1 rfl (subC 0 rfl sub0)) (by kernel_rfl) (fun zq4 => ?_)
  refine st_b 34 (show (p.n) = false by assumption) (by kernel_rfl) ?_
  refine st_fn ent59 (f0 (zq4.fst)) (subC 0 rfl sub0) (by kernel_rfl) ?_
  refine st_i 46 .i64 (x' := 7 - 1) (Go.IntWalk.i64_in _ (by omega)) (by kernel_rfl) ?_
  refine st_i 24 .i64 (x' := 7 + 1) (Go.IntWalk.i64_in _ (by omega)) (by kernel_rfl) ?_
  refine st_round (by kernel_rfl) ?_
  refine st_fn ent43 (zulen8) sub0 (by kernel_rfl) ?_
  refine st_g ent42 (fzint (1) (by assumption)) sub0 (by kernel_rfl) (fun zq7 => ?_)
  refine st_g ent44 (d1 (zq4.snd) (zq7)) (subC 2 rfl (subC 0 rfl sub0)) (by kernel_rfl) (fun zq8 => ?_)
  refine st_b 34 (show (p.n) = false by assumption) (by kernel_rfl) ?_
  refine st_fn ent59 (f1 (zq8.fst)) (subC 0 rfl sub0) (by kernel_rfl) ?_
  refine st_i 46 .i64 (x' := 7 + 1 - 1) (Go.IntWalk.i64_in _ (by omega)) (by kernel_rfl) ?_
  refine st_i 24 .i64 (x' := 7 + 1 + 1) (Go.IntWalk.i64_in _ (by omega)) (by kernel_rfl) ?_
  refine st_round (by kernel_rfl) ?_
  refine st_fn ent121 (zumade (0) (0) (0) (0) (0) (0) (x.tdiv 1000000000) (x.tmod 1000000000)) sub0 (by kernel_rfl) ?_
  refine st_fn ent119 (r) sub0 (by kernel_rfl) ?_
  exact st_ret Try.func65 (by kernel_rfl)
theorem zulay7p_r (p : ZQ) (x : Int) (hx : W128 x) (h0 : 0 ≤ x) (g : I64 (x.tdiv 1000000000)) (k : ¬ uOk 0 0 0 0 0 0 (x.tdiv 1000000000) (x.tmod 1000000000)) : Fn 65 [(p, x)] [zv p, .int .i64 7] (.tuple #[du0, .int .i64 4]) := by
  have hy : Bits 900 x := hx.bits.mono (by decide)
  have y0 : 0 ≤ x := by omega
  have bL4 : Bits 900 86400000000000 := Bits.mono (show W128 86400000000000 by unfold W128; omega).bits (by decide)
  have bL5 : Bits 900 3600000000000 := Bits.mono (show W128 3600000000000 by unfold W128; omega).bits (by decide)
  have bL6 : Bits 900 60000000000 := Bits.mono (show W128 60000000000 by unfold W128; omega).bits (by decide)
  have bL7 : Bits 900 1000000000 := Bits.mono (show W128 1000000000 by unfold W128; omega).bits (by decide)
  have bL8 : Bits 900 1 := Bits.mono (show W128 1 by unfold W128; omega).bits (by decide)
  have j1 : I64 86400000000000 := by unfold I64; omega
  have j2 : I64 3600000000000 := by unfold I64; omega
  have j3 : I64 60000000000 := by unfold I64; omega
  have j4 : I64 1000000000 := by unfold I64; omega
  have j5 : I64 1 := by unfold I64; omega
  have j0 : I64 0 := by unfold I64; omega
  have fa : ∀ p : ZQ, FnZ 106 [(p, x)] [zv p] zv x := fun p => by
    have t := fzabs p x (hx.bits.fit (by decide))
    rwa [show ((x.natAbs : Nat) : Int) = x by omega] at t
  have d0 : ∀ p q : ZQ, FnZZ 44 [(p, x), (q, 1000000000)] [zv p, zv q] (fun q => .tuple #[zv q.1, zv q.2]) (x.tdiv 1000000000) (x.tmod 1000000000) := fun p q => zdt p q x 1000000000 y0 hy (by omega) bL7
  have d1 : ∀ p q : ZQ, FnZZ 44 [(p, x.tmod 1000000000), (q, 1)] [zv p, zv q] (fun q => .tuple #[zv q.1, zv q.2]) ((x.tmod 1000000000).tdiv 1) (x.tmod 1) := fun p q => zdc p q x 1000000000 1 y0 (by omega) bL7 (by omega) bL8 (by decide)
  have g8 : I64 (x.tmod 1000000000) := by
    obtain ⟨e1, e2, e3⟩ := td x 1000000000 (by omega)
    by_cases z : 0 ≤ x
    · have := e2 z; unfold I64; omega
    · have := e3 (by omega); unfold I64; omega
  have f0 : ∀ p : ZQ, Fn 59 [(p, x.tdiv 1000000000)] [zv p] (.tuple #[.int .i64 (x.tdiv 1000000000), .bool true]) := fun p => by
    have t := fits_f p (x.tdiv 1000000000) (g.w.bits.mono (by decide)) g
    exact t
  have f1 : ∀ p : ZQ, Fn 59 [(p, (x.tmod 1000000000).tdiv 1)] [zv p] (.tuple #[.int .i64 (x.tmod 1000000000), .bool true]) := fun p => by
    have t := fits_f p (x.tmod 1000000000) (g8.w.bits.mono (by decide)) g8
    simpa only [tdiv_1] using t
  have r := zuright_f 0 0 0 0 0 0 (x.tdiv 1000000000) (x.tmod 1000000000) ⟨j0, j0, j0, j0, j0, j0, g, g8⟩ k
  refine fn_of Try.func65 rfl fun ww => ?_
  refine st_know (p := p.n = false) (fun w hw => by rw [z_neg (hw (p, x) (by simp))]; simp; omega) fun hn => ?_
  clear hy y0 g hx k
  refine st_fn ent43 (zulen7) sub0 (by kernel_rfl) ?_
  refine st_g ent106 (fa (p)) (subC 0 rfl sub0) (by kernel_rfl) (fun zq1 => ?_)
  refine st_round (by kernel_rfl) ?_
  refine st_fn ent43 (zulen7) sub0 (by kernel_rfl) ?_
  refine st_g ent42 (fzint (1000000000) (by assumption)) sub0 (by kernel_rfl) (fun zq3 => ?_)
  refine st_g ent44 (d0 (zq1) (zq3)) (subC 1 rfl (subC 0 rfl sub0)) (by kernel_rfl) (fun zq4 => ?_)
  refine st_b 34 (show (p.n) = false by assumption) (by kernel_rfl) ?_
  refine st_fn ent59 (f0 (zq4.fst)) (subC 0 rfl sub0) (by kernel_rfl) ?_
  refine st_i 46 .i64 (x' := 7 - 1) (Go.IntWalk.i64_in _ (by omega)) (by kernel_rfl) ?_
  refine st_i 24 .i64 (x' := 7 + 1) (Go.IntWalk.i64_in _ (by omega)) (by kernel_rfl) ?_
  refine st_round (by kernel_rfl) ?_
  refine st_fn ent43 (zulen8) sub0 (by kernel_rfl) ?_
  refine st_g ent42 (fzint (1) (by assumption)) sub0 (by kernel_rfl) (fun zq7 => ?_)
  refine st_g ent44 (d1 (zq4.snd) (zq7)) (subC 2 rfl (subC 0 rfl sub0)) (by kernel_rfl) (fun zq8 => ?_)
  refine st_b 34 (show (p.n) = false by assumption) (by kernel_rfl) ?_
  refine st_fn ent59 (f1 (zq8.fst)) (subC 0 rfl sub0) (by kernel_rfl) ?_
  refine st_i 46 .i64 (x' := 7 + 1 - 1) (Go.IntWalk.i64_in _ (by omega)) (by kernel_rfl) ?_
  refine st_i 24 .i64 (x' := 7 + 1 + 1) (Go.IntWalk.i64_in _ (by omega)) (by kernel_rfl) ?_
  refine st_round (by kernel_rfl) ?_
  refine st_fn ent121 (zumade (0) (0) (0) (0) (0) (0) (x.tdiv 1000000000) (x.tmod 1000000000)) sub0 (by kernel_rfl) ?_
  refine st_fn ent119 (r) sub0 (by kernel_rfl) ?_
  exact st_ret Try.func65 (by kernel_rfl)
theorem zulay7p_o (p : ZQ) (x : Int) (hx : W128 x) (h0 : 0 ≤ x) (g : ¬ I64 (x.tdiv 1000000000)) : Fn 65 [(p, x)] [zv p, .int .i64 7] (.tuple #[du0, .int .i64 4]) := by
  have hy : Bits 900 x := hx.bits.mono (by decide)
  have y0 : 0 ≤ x := by omega
  have bL4 : Bits 900 86400000000000 := Bits.mono (show W128 86400000000000 by unfold W128; omega).bits (by decide)
  have bL5 : Bits 900 3600000000000 := Bits.mono (show W128 3600000000000 by unfold W128; omega).bits (by decide)
  have bL6 : Bits 900 60000000000 := Bits.mono (show W128 60000000000 by unfold W128; omega).bits (by decide)
  have bL7 : Bits 900 1000000000 := Bits.mono (show W128 1000000000 by unfold W128; omega).bits (by decide)
  have bL8 : Bits 900 1 := Bits.mono (show W128 1 by unfold W128; omega).bits (by decide)
  have j1 : I64 86400000000000 := by unfold I64; omega
  have j2 : I64 3600000000000 := by unfold I64; omega
  have j3 : I64 60000000000 := by unfold I64; omega
  have j4 : I64 1000000000 := by unfold I64; omega
  have j5 : I64 1 := by unfold I64; omega
  have j0 : I64 0 := by unfold I64; omega
  have fa : ∀ p : ZQ, FnZ 106 [(p, x)] [zv p] zv x := fun p => by
    have t := fzabs p x (hx.bits.fit (by decide))
    rwa [show ((x.natAbs : Nat) : Int) = x by omega] at t
  have d0 : ∀ p q : ZQ, FnZZ 44 [(p, x), (q, 1000000000)] [zv p, zv q] (fun q => .tuple #[zv q.1, zv q.2]) (x.tdiv 1000000000) (x.tmod 1000000000) := fun p q => zdt p q x 1000000000 y0 hy (by omega) bL7
  have g8 : I64 (x.tmod 1000000000) := by
    obtain ⟨e1, e2, e3⟩ := td x 1000000000 (by omega)
    by_cases z : 0 ≤ x
    · have := e2 z; unfold I64; omega
    · have := e3 (by omega); unfold I64; omega
  have f0 : ∀ p : ZQ, Fn 59 [(p, x.tdiv 1000000000)] [zv p] (.tuple #[.int .i64 0, .bool false]) := fun p => by
    have t := fits_n p (x.tdiv 1000000000) ((tdvb x 1000000000 y0 hy (by omega)).mono (by decide)) g
    exact t
  refine fn_of Try.func65 rfl fun ww => ?_
  refine st_know (p := p.n = false) (fun w hw => by rw [z_neg (hw (p, x) (by simp))]; simp; omega) fun hn => ?_
  clear hy y0 g hx
  refine st_fn ent43 (zulen7) sub0 (by kernel_rfl) ?_
  refine st_g ent106 (fa (p)) (subC 0 rfl sub0) (by kernel_rfl) (fun zq1 => ?_)
  refine st_round (by kernel_rfl) ?_
  refine st_fn ent43 (zulen7) sub0 (by kernel_rfl) ?_
  refine st_g ent42 (fzint (1000000000) (by assumption)) sub0 (by kernel_rfl) (fun zq3 => ?_)
  refine st_g ent44 (d0 (zq1) (zq3)) (subC 1 rfl (subC 0 rfl sub0)) (by kernel_rfl) (fun zq4 => ?_)
  refine st_b 34 (show (p.n) = false by assumption) (by kernel_rfl) ?_
  refine st_fn ent59 (f0 (zq4.fst)) (subC 0 rfl sub0) (by kernel_rfl) ?_
  exact st_ret Try.func65 (by kernel_rfl)
theorem zulay7n_y (p : ZQ) (x : Int) (hx : W128 x) (h0 : x < 0) (g : I64 (x.tdiv 1000000000)) (k : uOk 0 0 0 0 0 0 (x.tdiv 1000000000) (x.tmod 1000000000)) : Fn 65 [(p, x)] [zv p, .int .i64 7] (.tuple #[duv 0 0 0 0 0 0 (x.tdiv 1000000000) (x.tmod 1000000000), .int .i64 0]) := by
  have hy : Bits 900 (-x) := (hx.bits.neg).mono (by decide)
  have y0 : 0 ≤ (-x) := by omega
  have bL4 : Bits 900 86400000000000 := Bits.mono (show W128 86400000000000 by unfold W128; omega).bits (by decide)
  have bL5 : Bits 900 3600000000000 := Bits.mono (show W128 3600000000000 by unfold W128; omega).bits (by decide)
  have bL6 : Bits 900 60000000000 := Bits.mono (show W128 60000000000 by unfold W128; omega).bits (by decide)
  have bL7 : Bits 900 1000000000 := Bits.mono (show W128 1000000000 by unfold W128; omega).bits (by decide)
  have bL8 : Bits 900 1 := Bits.mono (show W128 1 by unfold W128; omega).bits (by decide)
  have j1 : I64 86400000000000 := by unfold I64; omega
  have j2 : I64 3600000000000 := by unfold I64; omega
  have j3 : I64 60000000000 := by unfold I64; omega
  have j4 : I64 1000000000 := by unfold I64; omega
  have j5 : I64 1 := by unfold I64; omega
  have j0 : I64 0 := by unfold I64; omega
  have fa : ∀ p : ZQ, FnZ 106 [(p, x)] [zv p] zv (-x) := fun p => by
    have t := fzabs p x (hx.bits.fit (by decide))
    rwa [show ((x.natAbs : Nat) : Int) = -x by omega] at t
  have d0 : ∀ p q : ZQ, FnZZ 44 [(p, (-x)), (q, 1000000000)] [zv p, zv q] (fun q => .tuple #[zv q.1, zv q.2]) ((-x).tdiv 1000000000) ((-x).tmod 1000000000) := fun p q => zdt p q (-x) 1000000000 y0 hy (by omega) bL7
  have d1 : ∀ p q : ZQ, FnZZ 44 [(p, (-x).tmod 1000000000), (q, 1)] [zv p, zv q] (fun q => .tuple #[zv q.1, zv q.2]) (((-x).tmod 1000000000).tdiv 1) ((-x).tmod 1) := fun p q => zdc p q (-x) 1000000000 1 y0 (by omega) bL7 (by omega) bL8 (by decide)
  have g8 : I64 (x.tmod 1000000000) := by
    obtain ⟨e1, e2, e3⟩ := td x 1000000000 (by omega)
    by_cases z : 0 ≤ x
    · have := e2 z; unfold I64; omega
    · have := e3 (by omega); unfold I64; omega
  have n0 : ∀ p : ZQ, FnZ 107 [(p, (-x).tdiv 1000000000)] [zv p] zv (x.tdiv 1000000000) := fun p => by
    have t := zng p ((-x).tdiv 1000000000) (tdvb (-x) 1000000000 y0 hy (by omega))
    rwa [show -((-x).tdiv 1000000000) = (x.tdiv 1000000000) by rw [Int.neg_tdiv, Int.neg_neg]] at t
  have f0 : ∀ p : ZQ, Fn 59 [(p, (x.tdiv 1000000000))] [zv p] (.tuple #[.int .i64 (x.tdiv 1000000000), .bool true]) := fun p => by
    have t := fits_f p (x.tdiv 1000000000) (g.w.bits.mono (by decide)) g
    exact t
  have n1 : ∀ p : ZQ, FnZ 107 [(p, ((-x).tmod 1000000000).tdiv 1)] [zv p] zv (x.tmod 1000000000) := fun p => by
    have t := zng p (((-x).tmod 1000000000).tdiv 1) (tdvb _ 1 (tmod_nb (-x) 1000000000 y0 (by omega) bL7).1 (tmod_nb (-x) 1000000000 y0 (by omega) bL7).2 (by omega))
    rwa [show -(((-x).tmod 1000000000).tdiv 1) = (x.tmod 1000000000) by rw [Int.neg_tmod, Int.neg_tdiv, Int.neg_neg, tdiv_1]] at t
  have f1 : ∀ p : ZQ, Fn 59 [(p, (x.tmod 1000000000))] [zv p] (.tuple #[.int .i64 (x.tmod 1000000000), .bool true]) := fun p => by
    have t := fits_f p (x.tmod 1000000000) (g8.w.bits.mono (by decide)) g8
    exact t
  have r := zuright_y 0 0 0 0 0 0 (x.tdiv 1000000000) (x.tmod 1000000000) ⟨j0, j0, j0, j0, j0, j0, g, g8⟩ k
  refine fn_of Try.func65 rfl fun ww => ?_
  refine st_know (p := p.n = true) (fun w hw => by rw [z_neg (hw (p, x) (by simp))]; simp; omega) fun hn => ?_
  clear hy y0 g hx k
  refine st_fn ent43 (zulen7) sub0 (by kernel_rfl) ?_
  refine st_g ent106 (fa (p)) (subC 0 rfl sub0) (by kernel_rfl) (fun zq1 => ?_)
  refine st_round (by kernel_rfl) ?_
  refine st_fn ent43 (zulen7) sub0 (by kernel_rfl) ?_
  refine st_g ent42 (fzint (1000000000) (by assumption)) sub0 (by kernel_rfl) (fun zq3 => ?_)
  refine st_g ent44 (d0 (zq1) (zq3)) (subC 1 rfl (subC 0 rfl sub0)) (by kernel_rfl) (fun zq4 => ?_)
  refine st_b 34 (show (p.n) = true by assumption) (by kernel_rfl) ?_
  refine st_g ent107 (n0 (zq4.fst)) (subC 0 rfl sub0) (by kernel_rfl) (fun zq5 => ?_)
  refine st_fn ent59 (f0 (zq5)) (subC 0 rfl sub0) (by kernel_rfl) ?_
  refine st_i 46 .i64 (x' := 7 - 1) (Go.IntWalk.i64_in _ (by omega)) (by kernel_rfl) ?_
  refine st_i 24 .i64 (x' := 7 + 1) (Go.IntWalk.i64_in _ (by omega)) (by kernel_rfl) ?_
  refine st_round (by kernel_rfl) ?_
  refine st_fn ent43 (zulen8) sub0 (by kernel_rfl) ?_
  refine st_g ent42 (fzint (1) (by assumption)) sub0 (by kernel_rfl) (fun zq8 => ?_)
  refine st_g ent44 (d1 (zq4.snd) (zq8)) (subC 3 rfl (subC 0 rfl sub0)) (by kernel_rfl) (fun zq9 => ?_)
  refine st_b 34 (show (p.n) = true by assumption) (by kernel_rfl) ?_
  refine st_g ent107 (n1 (zq9.fst)) (subC 0 rfl sub0) (by kernel_rfl) (fun zq10 => ?_)
  refine st_fn ent59 (f1 (zq10)) (subC 0 rfl sub0) (by kernel_rfl) ?_
  refine st_i 46 .i64 (x' := 7 + 1 - 1) (Go.IntWalk.i64_in _ (by omega)) (by kernel_rfl) ?_
  refine st_i 24 .i64 (x' := 7 + 1 + 1) (Go.IntWalk.i64_in _ (by omega)) (by kernel_rfl) ?_
  refine st_round (by kernel_rfl) ?_
  refine st_fn ent121 (zumade (0) (0) (0) (0) (0) (0) (x.tdiv 1000000000) (x.tmod 1000000000)) sub0 (by kernel_rfl) ?_
  refine st_fn ent119 (r) sub0 (by kernel_rfl) ?_
  exact st_ret Try.func65 (by kernel_rfl)
theorem zulay7n_r (p : ZQ) (x : Int) (hx : W128 x) (h0 : x < 0) (g : I64 (x.tdiv 1000000000)) (k : ¬ uOk 0 0 0 0 0 0 (x.tdiv 1000000000) (x.tmod 1000000000)) : Fn 65 [(p, x)] [zv p, .int .i64 7] (.tuple #[du0, .int .i64 4]) := by
  have hy : Bits 900 (-x) := (hx.bits.neg).mono (by decide)
  have y0 : 0 ≤ (-x) := by omega
  have bL4 : Bits 900 86400000000000 := Bits.mono (show W128 86400000000000 by unfold W128; omega).bits (by decide)
  have bL5 : Bits 900 3600000000000 := Bits.mono (show W128 3600000000000 by unfold W128; omega).bits (by decide)
  have bL6 : Bits 900 60000000000 := Bits.mono (show W128 60000000000 by unfold W128; omega).bits (by decide)
  have bL7 : Bits 900 1000000000 := Bits.mono (show W128 1000000000 by unfold W128; omega).bits (by decide)
  have bL8 : Bits 900 1 := Bits.mono (show W128 1 by unfold W128; omega).bits (by decide)
  have j1 : I64 86400000000000 := by unfold I64; omega
  have j2 : I64 3600000000000 := by unfold I64; omega
  have j3 : I64 60000000000 := by unfold I64; omega
  have j4 : I64 1000000000 := by unfold I64; omega
  have j5 : I64 1 := by unfold I64; omega
  have j0 : I64 0 := by unfold I64; omega
  have fa : ∀ p : ZQ, FnZ 106 [(p, x)] [zv p] zv (-x) := fun p => by
    have t := fzabs p x (hx.bits.fit (by decide))
    rwa [show ((x.natAbs : Nat) : Int) = -x by omega] at t
  have d0 : ∀ p q : ZQ, FnZZ 44 [(p, (-x)), (q, 1000000000)] [zv p, zv q] (fun q => .tuple #[zv q.1, zv q.2]) ((-x).tdiv 1000000000) ((-x).tmod 1000000000) := fun p q => zdt p q (-x) 1000000000 y0 hy (by omega) bL7
  have d1 : ∀ p q : ZQ, FnZZ 44 [(p, (-x).tmod 1000000000), (q, 1)] [zv p, zv q] (fun q => .tuple #[zv q.1, zv q.2]) (((-x).tmod 1000000000).tdiv 1) ((-x).tmod 1) := fun p q => zdc p q (-x) 1000000000 1 y0 (by omega) bL7 (by omega) bL8 (by decide)
  have g8 : I64 (x.tmod 1000000000) := by
    obtain ⟨e1, e2, e3⟩ := td x 1000000000 (by omega)
    by_cases z : 0 ≤ x
    · have := e2 z; unfold I64; omega
    · have := e3 (by omega); unfold I64; omega
  have n0 : ∀ p : ZQ, FnZ 107 [(p, (-x).tdiv 1000000000)] [zv p] zv (x.tdiv 1000000000) := fun p => by
    have t := zng p ((-x).tdiv 1000000000) (tdvb (-x) 1000000000 y0 hy (by omega))
    rwa [show -((-x).tdiv 1000000000) = (x.tdiv 1000000000) by rw [Int.neg_tdiv, Int.neg_neg]] at t
  have f0 : ∀ p : ZQ, Fn 59 [(p, (x.tdiv 1000000000))] [zv p] (.tuple #[.int .i64 (x.tdiv 1000000000), .bool true]) := fun p => by
    have t := fits_f p (x.tdiv 1000000000) (g.w.bits.mono (by decide)) g
    exact t
  have n1 : ∀ p : ZQ, FnZ 107 [(p, ((-x).tmod 1000000000).tdiv 1)] [zv p] zv (x.tmod 1000000000) := fun p => by
    have t := zng p (((-x).tmod 1000000000).tdiv 1) (tdvb _ 1 (tmod_nb (-x) 1000000000 y0 (by omega) bL7).1 (tmod_nb (-x) 1000000000 y0 (by omega) bL7).2 (by omega))
    rwa [show -(((-x).tmod 1000000000).tdiv 1) = (x.tmod 1000000000) by rw [Int.neg_tmod, Int.neg_tdiv, Int.neg_neg, tdiv_1]] at t
  have f1 : ∀ p : ZQ, Fn 59 [(p, (x.tmod 1000000000))] [zv p] (.tuple #[.int .i64 (x.tmod 1000000000), .bool true]) := fun p => by
    have t := fits_f p (x.tmod 1000000000) (g8.w.bits.mono (by decide)) g8
    exact t
  have r := zuright_f 0 0 0 0 0 0 (x.tdiv 1000000000) (x.tmod 1000000000) ⟨j0, j0, j0, j0, j0, j0, g, g8⟩ k
  refine fn_of Try.func65 rfl fun ww => ?_
  refine st_know (p := p.n = true) (fun w hw => by rw [z_neg (hw (p, x) (by simp))]; simp; omega) fun hn => ?_
  clear hy y0 g hx k
  refine st_fn ent43 (zulen7) sub0 (by kernel_rfl) ?_
  refine st_g ent106 (fa (p)) (subC 0 rfl sub0) (by kernel_rfl) (fun zq1 => ?_)
  refine st_round (by kernel_rfl) ?_
  refine st_fn ent43 (zulen7) sub0 (by kernel_rfl) ?_
  refine st_g ent42 (fzint (1000000000) (by assumption)) sub0 (by kernel_rfl) (fun zq3 => ?_)
  refine st_g ent44 (d0 (zq1) (zq3)) (subC 1 rfl (subC 0 rfl sub0)) (by kernel_rfl) (fun zq4 => ?_)
  refine st_b 34 (show (p.n) = true by assumption) (by kernel_rfl) ?_
  refine st_g ent107 (n0 (zq4.fst)) (subC 0 rfl sub0) (by kernel_rfl) (fun zq5 => ?_)
  refine st_fn ent59 (f0 (zq5)) (subC 0 rfl sub0) (by kernel_rfl) ?_
  refine st_i 46 .i64 (x' := 7 - 1) (Go.IntWalk.i64_in _ (by omega)) (by kernel_rfl) ?_
  refine st_i 24 .i64 (x' := 7 + 1) (Go.IntWalk.i64_in _ (by omega)) (by kernel_rfl) ?_
  refine st_round (by kernel_rfl) ?_
  refine st_fn ent43 (zulen8) sub0 (by kernel_rfl) ?_
  refine st_g ent42 (fzint (1) (by assumption)) sub0 (by kernel_rfl) (fun zq8 => ?_)
  refine st_g ent44 (d1 (zq4.snd) (zq8)) (subC 3 rfl (subC 0 rfl sub0)) (by kernel_rfl) (fun zq9 => ?_)
  refine st_b 34 (show (p.n) = true by assumption) (by kernel_rfl) ?_
  refine st_g ent107 (n1 (zq9.fst)) (subC 0 rfl sub0) (by kernel_rfl) (fun zq10 => ?_)
  refine st_fn ent59 (f1 (zq10)) (subC 0 rfl sub0) (by kernel_rfl) ?_
  refine st_i 46 .i64 (x' := 7 + 1 - 1) (Go.IntWalk.i64_in _ (by omega)) (by kernel_rfl) ?_
  refine st_i 24 .i64 (x' := 7 + 1 + 1) (Go.IntWalk.i64_in _ (by omega)) (by kernel_rfl) ?_
  refine st_round (by kernel_rfl) ?_
  refine st_fn ent121 (zumade (0) (0) (0) (0) (0) (0) (x.tdiv 1000000000) (x.tmod 1000000000)) sub0 (by kernel_rfl) ?_
  refine st_fn ent119 (r) sub0 (by kernel_rfl) ?_
  exact st_ret Try.func65 (by kernel_rfl)
theorem zulay7n_o (p : ZQ) (x : Int) (hx : W128 x) (h0 : x < 0) (g : ¬ I64 (x.tdiv 1000000000)) : Fn 65 [(p, x)] [zv p, .int .i64 7] (.tuple #[du0, .int .i64 4]) := by
  have hy : Bits 900 (-x) := (hx.bits.neg).mono (by decide)
  have y0 : 0 ≤ (-x) := by omega
  have bL4 : Bits 900 86400000000000 := Bits.mono (show W128 86400000000000 by unfold W128; omega).bits (by decide)
  have bL5 : Bits 900 3600000000000 := Bits.mono (show W128 3600000000000 by unfold W128; omega).bits (by decide)
  have bL6 : Bits 900 60000000000 := Bits.mono (show W128 60000000000 by unfold W128; omega).bits (by decide)
  have bL7 : Bits 900 1000000000 := Bits.mono (show W128 1000000000 by unfold W128; omega).bits (by decide)
  have bL8 : Bits 900 1 := Bits.mono (show W128 1 by unfold W128; omega).bits (by decide)
  have j1 : I64 86400000000000 := by unfold I64; omega
  have j2 : I64 3600000000000 := by unfold I64; omega
  have j3 : I64 60000000000 := by unfold I64; omega
  have j4 : I64 1000000000 := by unfold I64; omega
  have j5 : I64 1 := by unfold I64; omega
  have j0 : I64 0 := by unfold I64; omega
  have fa : ∀ p : ZQ, FnZ 106 [(p, x)] [zv p] zv (-x) := fun p => by
    have t := fzabs p x (hx.bits.fit (by decide))
    rwa [show ((x.natAbs : Nat) : Int) = -x by omega] at t
  have d0 : ∀ p q : ZQ, FnZZ 44 [(p, (-x)), (q, 1000000000)] [zv p, zv q] (fun q => .tuple #[zv q.1, zv q.2]) ((-x).tdiv 1000000000) ((-x).tmod 1000000000) := fun p q => zdt p q (-x) 1000000000 y0 hy (by omega) bL7
  have g8 : I64 (x.tmod 1000000000) := by
    obtain ⟨e1, e2, e3⟩ := td x 1000000000 (by omega)
    by_cases z : 0 ≤ x
    · have := e2 z; unfold I64; omega
    · have := e3 (by omega); unfold I64; omega
  have n0 : ∀ p : ZQ, FnZ 107 [(p, (-x).tdiv 1000000000)] [zv p] zv (x.tdiv 1000000000) := fun p => by
    have t := zng p ((-x).tdiv 1000000000) (tdvb (-x) 1000000000 y0 hy (by omega))
    rwa [show -((-x).tdiv 1000000000) = (x.tdiv 1000000000) by rw [Int.neg_tdiv, Int.neg_neg]] at t
  have f0 : ∀ p : ZQ, Fn 59 [(p, (x.tdiv 1000000000))] [zv p] (.tuple #[.int .i64 0, .bool false]) := fun p => by
    have t := fits_n p (x.tdiv 1000000000) (by rw [show (x.tdiv 1000000000) = -((-x).tdiv 1000000000) by rw [Int.neg_tdiv, Int.neg_neg]]; exact ((tdvb (-x) 1000000000 y0 hy (by omega)).neg).mono (by decide)) g
    exact t
  refine fn_of Try.func65 rfl fun ww => ?_
  refine st_know (p := p.n = true) (fun w hw => by rw [z_neg (hw (p, x) (by simp))]; simp; omega) fun hn => ?_
  clear hy y0 g hx
  refine st_fn ent43 (zulen7) sub0 (by kernel_rfl) ?_
  refine st_g ent106 (fa (p)) (subC 0 rfl sub0) (by kernel_rfl) (fun zq1 => ?_)
  refine st_round (by kernel_rfl) ?_
  refine st_fn ent43 (zulen7) sub0 (by kernel_rfl) ?_
  refine st_g ent42 (fzint (1000000000) (by assumption)) sub0 (by kernel_rfl) (fun zq3 => ?_)
  refine st_g ent44 (d0 (zq1) (zq3)) (subC 1 rfl (subC 0 rfl sub0)) (by kernel_rfl) (fun zq4 => ?_)
  refine st_b 34 (show (p.n) = true by assumption) (by kernel_rfl) ?_
  refine st_g ent107 (n0 (zq4.fst)) (subC 0 rfl sub0) (by kernel_rfl) (fun zq5 => ?_)
  refine st_fn ent59 (f0 (zq5)) (subC 0 rfl sub0) (by kernel_rfl) ?_
  exact st_ret Try.func65 (by kernel_rfl)
theorem zulay8p_y (p : ZQ) (x : Int) (hx : W128 x) (h0 : 0 ≤ x) (g : I64 x) (k : uOk 0 0 0 0 0 0 0 x) : Fn 65 [(p, x)] [zv p, .int .i64 8] (.tuple #[duv 0 0 0 0 0 0 0 x, .int .i64 0]) := by
  have hy : Bits 900 x := hx.bits.mono (by decide)
  have y0 : 0 ≤ x := by omega
  have bL4 : Bits 900 86400000000000 := Bits.mono (show W128 86400000000000 by unfold W128; omega).bits (by decide)
  have bL5 : Bits 900 3600000000000 := Bits.mono (show W128 3600000000000 by unfold W128; omega).bits (by decide)
  have bL6 : Bits 900 60000000000 := Bits.mono (show W128 60000000000 by unfold W128; omega).bits (by decide)
  have bL7 : Bits 900 1000000000 := Bits.mono (show W128 1000000000 by unfold W128; omega).bits (by decide)
  have bL8 : Bits 900 1 := Bits.mono (show W128 1 by unfold W128; omega).bits (by decide)
  have j1 : I64 86400000000000 := by unfold I64; omega
  have j2 : I64 3600000000000 := by unfold I64; omega
  have j3 : I64 60000000000 := by unfold I64; omega
  have j4 : I64 1000000000 := by unfold I64; omega
  have j5 : I64 1 := by unfold I64; omega
  have j0 : I64 0 := by unfold I64; omega
  have fa : ∀ p : ZQ, FnZ 106 [(p, x)] [zv p] zv x := fun p => by
    have t := fzabs p x (hx.bits.fit (by decide))
    rwa [show ((x.natAbs : Nat) : Int) = x by omega] at t
  have d0 : ∀ p q : ZQ, FnZZ 44 [(p, x), (q, 1)] [zv p, zv q] (fun q => .tuple #[zv q.1, zv q.2]) (x.tdiv 1) (x.tmod 1) := fun p q => zdt p q x 1 y0 hy (by omega) bL8
  have f0 : ∀ p : ZQ, Fn 59 [(p, x.tdiv 1)] [zv p] (.tuple #[.int .i64 x, .bool true]) := fun p => by
    have t := fits_f p x (g.w.bits.mono (by decide)) g
    simpa only [tdiv_1] using t
  have r := zuright_y 0 0 0 0 0 0 0 x ⟨j0, j0, j0, j0, j0, j0, j0, g⟩ k
  refine fn_of Try.func65 rfl fun ww => ?_
  refine st_know (p := p.n = false) (fun w hw => by rw [z_neg (hw (p, x) (by simp))]; simp; omega) fun hn => ?_
  clear hy y0 g hx k
  refine st_fn ent43 (zulen8) sub0 (by kernel_rfl) ?_
  refine st_g ent106 (fa (p)) (subC 0 rfl sub0) (by kernel_rfl) (fun zq1 => ?_)
  refine st_round (by kernel_rfl) ?_
  refine st_fn ent43 (zulen8) sub0 (by kernel_rfl) ?_
  refine st_g ent42 (fzint (1) (by assumption)) sub0 (by kernel_rfl) (fun zq3 => ?_)
  refine st_g ent44 (d0 (zq1) (zq3)) (subC 1 rfl (subC 0 rfl sub0)) (by kernel_rfl) (fun zq4 => ?_)
  refine st_b 34 (show (p.n) = false by assumption) (by kernel_rfl) ?_
  refine st_fn ent59 (f0 (zq4.fst)) (subC 0 rfl sub0) (by kernel_rfl) ?_
  refine st_i 46 .i64 (x' := 8 - 1) (Go.IntWalk.i64_in _ (by omega)) (by kernel_rfl) ?_
  refine st_i 24 .i64 (x' := 8 + 1) (Go.IntWalk.i64_in _ (by omega)) (by kernel_rfl) ?_
  refine st_round (by kernel_rfl) ?_
  refine st_fn ent121 (zumade (0) (0) (0) (0) (0) (0) (0) (x)) sub0 (by kernel_rfl) ?_
  refine st_fn ent119 (r) sub0 (by kernel_rfl) ?_
  exact st_ret Try.func65 (by kernel_rfl)
theorem zulay8p_r (p : ZQ) (x : Int) (hx : W128 x) (h0 : 0 ≤ x) (g : I64 x) (k : ¬ uOk 0 0 0 0 0 0 0 x) : Fn 65 [(p, x)] [zv p, .int .i64 8] (.tuple #[du0, .int .i64 4]) := by
  have hy : Bits 900 x := hx.bits.mono (by decide)
  have y0 : 0 ≤ x := by omega
  have bL4 : Bits 900 86400000000000 := Bits.mono (show W128 86400000000000 by unfold W128; omega).bits (by decide)
  have bL5 : Bits 900 3600000000000 := Bits.mono (show W128 3600000000000 by unfold W128; omega).bits (by decide)
  have bL6 : Bits 900 60000000000 := Bits.mono (show W128 60000000000 by unfold W128; omega).bits (by decide)
  have bL7 : Bits 900 1000000000 := Bits.mono (show W128 1000000000 by unfold W128; omega).bits (by decide)
  have bL8 : Bits 900 1 := Bits.mono (show W128 1 by unfold W128; omega).bits (by decide)
  have j1 : I64 86400000000000 := by unfold I64; omega
  have j2 : I64 3600000000000 := by unfold I64; omega
  have j3 : I64 60000000000 := by unfold I64; omega
  have j4 : I64 1000000000 := by unfold I64; omega
  have j5 : I64 1 := by unfold I64; omega
  have j0 : I64 0 := by unfold I64; omega
  have fa : ∀ p : ZQ, FnZ 106 [(p, x)] [zv p] zv x := fun p => by
    have t := fzabs p x (hx.bits.fit (by decide))
    rwa [show ((x.natAbs : Nat) : Int) = x by omega] at t
  have d0 : ∀ p q : ZQ, FnZZ 44 [(p, x), (q, 1)] [zv p, zv q] (fun q => .tuple #[zv q.1, zv q.2]) (x.tdiv 1) (x.tmod 1) := fun p q => zdt p q x 1 y0 hy (by omega) bL8
  have f0 : ∀ p : ZQ, Fn 59 [(p, x.tdiv 1)] [zv p] (.tuple #[.int .i64 x, .bool true]) := fun p => by
    have t := fits_f p x (g.w.bits.mono (by decide)) g
    simpa only [tdiv_1] using t
  have r := zuright_f 0 0 0 0 0 0 0 x ⟨j0, j0, j0, j0, j0, j0, j0, g⟩ k
  refine fn_of Try.func65 rfl fun ww => ?_
  refine st_know (p := p.n = false) (fun w hw => by rw [z_neg (hw (p, x) (by simp))]; simp; omega) fun hn => ?_
  clear hy y0 g hx k
  refine st_fn ent43 (zulen8) sub0 (by kernel_rfl) ?_
  refine st_g ent106 (fa (p)) (subC 0 rfl sub0) (by kernel_rfl) (fun zq1 => ?_)
  refine st_round (by kernel_rfl) ?_
  refine st_fn ent43 (zulen8) sub0 (by kernel_rfl) ?_
  refine st_g ent42 (fzint (1) (by assumption)) sub0 (by kernel_rfl) (fun zq3 => ?_)
  refine st_g ent44 (d0 (zq1) (zq3)) (subC 1 rfl (subC 0 rfl sub0)) (by kernel_rfl) (fun zq4 => ?_)
  refine st_b 34 (show (p.n) = false by assumption) (by kernel_rfl) ?_
  refine st_fn ent59 (f0 (zq4.fst)) (subC 0 rfl sub0) (by kernel_rfl) ?_
  refine st_i 46 .i64 (x' := 8 - 1) (Go.IntWalk.i64_in _ (by omega)) (by kernel_rfl) ?_
  refine st_i 24 .i64 (x' := 8 + 1) (Go.IntWalk.i64_in _ (by omega)) (by kernel_rfl) ?_
  refine st_round (by kernel_rfl) ?_
  refine st_fn ent121 (zumade (0) (0) (0) (0) (0) (0) (0) (x)) sub0 (by kernel_rfl) ?_
  refine st_fn ent119 (r) sub0 (by kernel_rfl) ?_
  exact st_ret Try.func65 (by kernel_rfl)
theorem zulay8p_o (p : ZQ) (x : Int) (hx : W128 x) (h0 : 0 ≤ x) (g : ¬ I64 x) : Fn 65 [(p, x)] [zv p, .int .i64 8] (.tuple #[du0, .int .i64 4]) := by
  have hy : Bits 900 x := hx.bits.mono (by decide)
  have y0 : 0 ≤ x := by omega
  have bL4 : Bits 900 86400000000000 := Bits.mono (show W128 86400000000000 by unfold W128; omega).bits (by decide)
  have bL5 : Bits 900 3600000000000 := Bits.mono (show W128 3600000000000 by unfold W128; omega).bits (by decide)
  have bL6 : Bits 900 60000000000 := Bits.mono (show W128 60000000000 by unfold W128; omega).bits (by decide)
  have bL7 : Bits 900 1000000000 := Bits.mono (show W128 1000000000 by unfold W128; omega).bits (by decide)
  have bL8 : Bits 900 1 := Bits.mono (show W128 1 by unfold W128; omega).bits (by decide)
  have j1 : I64 86400000000000 := by unfold I64; omega
  have j2 : I64 3600000000000 := by unfold I64; omega
  have j3 : I64 60000000000 := by unfold I64; omega
  have j4 : I64 1000000000 := by unfold I64; omega
  have j5 : I64 1 := by unfold I64; omega
  have j0 : I64 0 := by unfold I64; omega
  have fa : ∀ p : ZQ, FnZ 106 [(p, x)] [zv p] zv x := fun p => by
    have t := fzabs p x (hx.bits.fit (by decide))
    rwa [show ((x.natAbs : Nat) : Int) = x by omega] at t
  have d0 : ∀ p q : ZQ, FnZZ 44 [(p, x), (q, 1)] [zv p, zv q] (fun q => .tuple #[zv q.1, zv q.2]) (x.tdiv 1) (x.tmod 1) := fun p q => zdt p q x 1 y0 hy (by omega) bL8
  have f0 : ∀ p : ZQ, Fn 59 [(p, x.tdiv 1)] [zv p] (.tuple #[.int .i64 0, .bool false]) := fun p => by
    have t := fits_n p x (hy.mono (by decide)) g
    simpa only [tdiv_1] using t
  refine fn_of Try.func65 rfl fun ww => ?_
  refine st_know (p := p.n = false) (fun w hw => by rw [z_neg (hw (p, x) (by simp))]; simp; omega) fun hn => ?_
  clear hy y0 g hx
  refine st_fn ent43 (zulen8) sub0 (by kernel_rfl) ?_
  refine st_g ent106 (fa (p)) (subC 0 rfl sub0) (by kernel_rfl) (fun zq1 => ?_)
  refine st_round (by kernel_rfl) ?_
  refine st_fn ent43 (zulen8) sub0 (by kernel_rfl) ?_
  refine st_g ent42 (fzint (1) (by assumption)) sub0 (by kernel_rfl) (fun zq3 => ?_)
  refine st_g ent44 (d0 (zq1) (zq3)) (subC 1 rfl (subC 0 rfl sub0)) (by kernel_rfl) (fun zq4 => ?_)
  refine st_b 34 (show (p.n) = false by assumption) (by kernel_rfl) ?_
  refine st_fn ent59 (f0 (zq4.fst)) (subC 0 rfl sub0) (by kernel_rfl) ?_
  exact st_ret Try.func65 (by kernel_rfl)
theorem zulay8n_y (p : ZQ) (x : Int) (hx : W128 x) (h0 : x < 0) (g : I64 x) (k : uOk 0 0 0 0 0 0 0 x) : Fn 65 [(p, x)] [zv p, .int .i64 8] (.tuple #[duv 0 0 0 0 0 0 0 x, .int .i64 0]) := by
  have hy : Bits 900 (-x) := (hx.bits.neg).mono (by decide)
  have y0 : 0 ≤ (-x) := by omega
  have bL4 : Bits 900 86400000000000 := Bits.mono (show W128 86400000000000 by unfold W128; omega).bits (by decide)
  have bL5 : Bits 900 3600000000000 := Bits.mono (show W128 3600000000000 by unfold W128; omega).bits (by decide)
  have bL6 : Bits 900 60000000000 := Bits.mono (show W128 60000000000 by unfold W128; omega).bits (by decide)
  have bL7 : Bits 900 1000000000 := Bits.mono (show W128 1000000000 by unfold W128; omega).bits (by decide)
  have bL8 : Bits 900 1 := Bits.mono (show W128 1 by unfold W128; omega).bits (by decide)
  have j1 : I64 86400000000000 := by unfold I64; omega
  have j2 : I64 3600000000000 := by unfold I64; omega
  have j3 : I64 60000000000 := by unfold I64; omega
  have j4 : I64 1000000000 := by unfold I64; omega
  have j5 : I64 1 := by unfold I64; omega
  have j0 : I64 0 := by unfold I64; omega
  have fa : ∀ p : ZQ, FnZ 106 [(p, x)] [zv p] zv (-x) := fun p => by
    have t := fzabs p x (hx.bits.fit (by decide))
    rwa [show ((x.natAbs : Nat) : Int) = -x by omega] at t
  have d0 : ∀ p q : ZQ, FnZZ 44 [(p, (-x)), (q, 1)] [zv p, zv q] (fun q => .tuple #[zv q.1, zv q.2]) ((-x).tdiv 1) ((-x).tmod 1) := fun p q => zdt p q (-x) 1 y0 hy (by omega) bL8
  have n0 : ∀ p : ZQ, FnZ 107 [(p, (-x).tdiv 1)] [zv p] zv x := fun p => by
    have t := zng p ((-x).tdiv 1) (tdvb (-x) 1 y0 hy (by omega))
    rwa [show -((-x).tdiv 1) = x by rw [Int.neg_tdiv, Int.neg_neg, tdiv_1]] at t
  have f0 : ∀ p : ZQ, Fn 59 [(p, x)] [zv p] (.tuple #[.int .i64 x, .bool true]) := fun p => by
    have t := fits_f p x (g.w.bits.mono (by decide)) g
    exact t
  have r := zuright_y 0 0 0 0 0 0 0 x ⟨j0, j0, j0, j0, j0, j0, j0, g⟩ k
  refine fn_of Try.func65 rfl fun ww => ?_
  refine st_know (p := p.n = true) (fun w hw => by rw [z_neg (hw (p, x) (by simp))]; simp; omega) fun hn => ?_
  clear hy y0 g hx k
  refine st_fn ent43 (zulen8) sub0 (by kernel_rfl) ?_
  refine st_g ent106 (fa (p)) (subC 0 rfl sub0) (by kernel_rfl) (fun zq1 => ?_)
  refine st_round (by kernel_rfl) ?_
  refine st_fn ent43 (zulen8) sub0 (by kernel_rfl) ?_
  refine st_g ent42 (fzint (1) (by assumption)) sub0 (by kernel_rfl) (fun zq3 => ?_)
  refine st_g ent44 (d0 (zq1) (zq3)) (subC 1 rfl (subC 0 rfl sub0)) (by kernel_rfl) (fun zq4 => ?_)
  refine st_b 34 (show (p.n) = true by assumption) (by kernel_rfl) ?_
  refine st_g ent107 (n0 (zq4.fst)) (subC 0 rfl sub0) (by kernel_rfl) (fun zq5 => ?_)
  refine st_fn ent59 (f0 (zq5)) (subC 0 rfl sub0) (by kernel_rfl) ?_
  refine st_i 46 .i64 (x' := 8 - 1) (Go.IntWalk.i64_in _ (by omega)) (by kernel_rfl) ?_
  refine st_i 24 .i64 (x' := 8 + 1) (Go.IntWalk.i64_in _ (by omega)) (by kernel_rfl) ?_
  refine st_round (by kernel_rfl) ?_
  refine st_fn ent121 (zumade (0) (0) (0) (0) (0) (0) (0) (x)) sub0 (by kernel_rfl) ?_
  refine st_fn ent119 (r) sub0 (by kernel_rfl) ?_
  exact st_ret Try.func65 (by kernel_rfl)
theorem zulay8n_r (p : ZQ) (x : Int) (hx : W128 x) (h0 : x < 0) (g : I64 x) (k : ¬ uOk 0 0 0 0 0 0 0 x) : Fn 65 [(p, x)] [zv p, .int .i64 8] (.tuple #[du0, .int .i64 4]) := by
  have hy : Bits 900 (-x) := (hx.bits.neg).mono (by decide)
  have y0 : 0 ≤ (-x) := by omega
  have bL4 : Bits 900 86400000000000 := Bits.mono (show W128 86400000000000 by unfold W128; omega).bits (by decide)
  have bL5 : Bits 900 3600000000000 := Bits.mono (show W128 3600000000000 by unfold W128; omega).bits (by decide)
  have bL6 : Bits 900 60000000000 := Bits.mono (show W128 60000000000 by unfold W128; omega).bits (by decide)
  have bL7 : Bits 900 1000000000 := Bits.mono (show W128 1000000000 by unfold W128; omega).bits (by decide)
  have bL8 : Bits 900 1 := Bits.mono (show W128 1 by unfold W128; omega).bits (by decide)
  have j1 : I64 86400000000000 := by unfold I64; omega
  have j2 : I64 3600000000000 := by unfold I64; omega
  have j3 : I64 60000000000 := by unfold I64; omega
  have j4 : I64 1000000000 := by unfold I64; omega
  have j5 : I64 1 := by unfold I64; omega
  have j0 : I64 0 := by unfold I64; omega
  have fa : ∀ p : ZQ, FnZ 106 [(p, x)] [zv p] zv (-x) := fun p => by
    have t := fzabs p x (hx.bits.fit (by decide))
    rwa [show ((x.natAbs : Nat) : Int) = -x by omega] at t
  have d0 : ∀ p q : ZQ, FnZZ 44 [(p, (-x)), (q, 1)] [zv p, zv q] (fun q => .tuple #[zv q.1, zv q.2]) ((-x).tdiv 1) ((-x).tmod 1) := fun p q => zdt p q (-x) 1 y0 hy (by omega) bL8
  have n0 : ∀ p : ZQ, FnZ 107 [(p, (-x).tdiv 1)] [zv p] zv x := fun p => by
    have t := zng p ((-x).tdiv 1) (tdvb (-x) 1 y0 hy (by omega))
    rwa [show -((-x).tdiv 1) = x by rw [Int.neg_tdiv, Int.neg_neg, tdiv_1]] at t
  have f0 : ∀ p : ZQ, Fn 59 [(p, x)] [zv p] (.tuple #[.int .i64 x, .bool true]) := fun p => by
    have t := fits_f p x (g.w.bits.mono (by decide)) g
    exact t
  have r := zuright_f 0 0 0 0 0 0 0 x ⟨j0, j0, j0, j0, j0, j0, j0, g⟩ k
  refine fn_of Try.func65 rfl fun ww => ?_
  refine st_know (p := p.n = true) (fun w hw => by rw [z_neg (hw (p, x) (by simp))]; simp; omega) fun hn => ?_
  clear hy y0 g hx k
  refine st_fn ent43 (zulen8) sub0 (by kernel_rfl) ?_
  refine st_g ent106 (fa (p)) (subC 0 rfl sub0) (by kernel_rfl) (fun zq1 => ?_)
  refine st_round (by kernel_rfl) ?_
  refine st_fn ent43 (zulen8) sub0 (by kernel_rfl) ?_
  refine st_g ent42 (fzint (1) (by assumption)) sub0 (by kernel_rfl) (fun zq3 => ?_)
  refine st_g ent44 (d0 (zq1) (zq3)) (subC 1 rfl (subC 0 rfl sub0)) (by kernel_rfl) (fun zq4 => ?_)
  refine st_b 34 (show (p.n) = true by assumption) (by kernel_rfl) ?_
  refine st_g ent107 (n0 (zq4.fst)) (subC 0 rfl sub0) (by kernel_rfl) (fun zq5 => ?_)
  refine st_fn ent59 (f0 (zq5)) (subC 0 rfl sub0) (by kernel_rfl) ?_
  refine st_i 46 .i64 (x' := 8 - 1) (Go.IntWalk.i64_in _ (by omega)) (by kernel_rfl) ?_
  refine st_i 24 .i64 (x' := 8 + 1) (Go.IntWalk.i64_in _ (by omega)) (by kernel_rfl) ?_
  refine st_round (by kernel_rfl) ?_
  refine st_fn ent121 (zumade (0) (0) (0) (0) (0) (0) (0) (x)) sub0 (by kernel_rfl) ?_
  refine st_fn ent119 (r) sub0 (by kernel_rfl) ?_
  exact st_ret Try.func65 (by kernel_rfl)
theorem zulay8n_o (p : ZQ) (x : Int) (hx : W128 x) (h0 : x < 0) (g : ¬ I64 x) : Fn 65 [(p, x)] [zv p, .int .i64 8] (.tuple #[du0, .int .i64 4]) := by
  have hy : Bits 900 (-x) := (hx.bits.neg).mono (by decide)
  have y0 : 0 ≤ (-x) := by omega
  have bL4 : Bits 900 86400000000000 := Bits.mono (show W128 86400000000000 by unfold W128; omega).bits (by decide)
  have bL5 : Bits 900 3600000000000 := Bits.mono (show W128 3600000000000 by unfold W128; omega).bits (by decide)
  have bL6 : Bits 900 60000000000 := Bits.mono (show W128 60000000000 by unfold W128; omega).bits (by decide)
  have bL7 : Bits 900 1000000000 := Bits.mono (show W128 1000000000 by unfold W128; omega).bits (by decide)
  have bL8 : Bits 900 1 := Bits.mono (show W128 1 by unfold W128; omega).bits (by decide)
  have j1 : I64 86400000000000 := by unfold I64; omega
  have j2 : I64 3600000000000 := by unfold I64; omega
  have j3 : I64 60000000000 := by unfold I64; omega
  have j4 : I64 1000000000 := by unfold I64; omega
  have j5 : I64 1 := by unfold I64; omega
  have j0 : I64 0 := by unfold I64; omega
  have fa : ∀ p : ZQ, FnZ 106 [(p, x)] [zv p] zv (-x) := fun p => by
    have t := fzabs p x (hx.bits.fit (by decide))
    rwa [show ((x.natAbs : Nat) : Int) = -x by omega] at t
  have d0 : ∀ p q : ZQ, FnZZ 44 [(p, (-x)), (q, 1)] [zv p, zv q] (fun q => .tuple #[zv q.1, zv q.2]) ((-x).tdiv 1) ((-x).tmod 1) := fun p q => zdt p q (-x) 1 y0 hy (by omega) bL8
  have n0 : ∀ p : ZQ, FnZ 107 [(p, (-x).tdiv 1)] [zv p] zv x := fun p => by
    have t := zng p ((-x).tdiv 1) (tdvb (-x) 1 y0 hy (by omega))
    rwa [show -((-x).tdiv 1) = x by rw [Int.neg_tdiv, Int.neg_neg, tdiv_1]] at t
  have f0 : ∀ p : ZQ, Fn 59 [(p, x)] [zv p] (.tuple #[.int .i64 0, .bool false]) := fun p => by
    have t := fits_n p x (by rw [show x = -((-x).tdiv 1) by rw [Int.neg_tdiv, Int.neg_neg, tdiv_1]]; exact ((tdvb (-x) 1 y0 hy (by omega)).neg).mono (by decide)) g
    exact t
  refine fn_of Try.func65 rfl fun ww => ?_
  refine st_know (p := p.n = true) (fun w hw => by rw [z_neg (hw (p, x) (by simp))]; simp; omega) fun hn => ?_
  clear hy y0 g hx
  refine st_fn ent43 (zulen8) sub0 (by kernel_rfl) ?_
  refine st_g ent106 (fa (p)) (subC 0 rfl sub0) (by kernel_rfl) (fun zq1 => ?_)
  refine st_round (by kernel_rfl) ?_
  refine st_fn ent43 (zulen8) sub0 (by kernel_rfl) ?_
  refine st_g ent42 (fzint (1) (by assumption)) sub0 (by kernel_rfl) (fun zq3 => ?_)
  refine st_g ent44 (d0 (zq1) (zq3)) (subC 1 rfl (subC 0 rfl sub0)) (by kernel_rfl) (fun zq4 => ?_)
  refine st_b 34 (show (p.n) = true by assumption) (by kernel_rfl) ?_
  refine st_g ent107 (n0 (zq4.fst)) (subC 0 rfl sub0) (by kernel_rfl) (fun zq5 => ?_)
  refine st_fn ent59 (f0 (zq5)) (subC 0 rfl sub0) (by kernel_rfl) ?_
  exact st_ret Try.func65 (by kernel_rfl)
end Go.Proofs.Ytccllfegnijpiaa
end
section
/-
  Durations: a total laid out; the other sign; sums; increments; rounding.
-/
set_option linter.unusedVariables false
set_option linter.unusedSimpArgs false
set_option maxRecDepth 100000
namespace Go.Proofs.Ytccllfegnijpiaa
open Go Go.RowKit Go.Ev

section
variable (u x : Int)
abbrev lav (u x : Int) : Value := .tuple #[duv 0 0 0 (l4 u x) (l5 u x) (l6 u x) (l7 u x) (l8 u x), .int .i64 0]
abbrev la4 : Value := .tuple #[du0, .int .i64 4]
theorem ulay_y (hx : W128 x) (k : layOk u x) : Fn 64 [] [wv x, .int .i64 u] (lav u x) := by
  have r := lay_ok k
  obtain ⟨⟨k1, k2⟩, k3, k4⟩ := k
  have r := r.1
  rcases units k1 k2 with rfl | rfl | rfl | rfl | rfl <;> simp only [l4, l5, l6, l7, l8, ulen, lav, Int.reduceEq, Int.reduceLE, if_true, if_false, tdiv_1] at r k4 ⊢
  · exact ulay4_y x hx k4 r
  · exact ulay5_y x hx k4 r
  · exact ulay6_y x hx k4 r
  · exact ulay7_y x hx k4 r
  · exact ulay8_y x hx k4 r
theorem lay_not {u x : Int} (k1 : 4 ≤ u) (k2 : u ≤ 8) (k : ¬ layOk u x) (g : I64 (x.tdiv (ulen u))) : ¬ uOk 0 0 0 (l4 u x) (l5 u x) (l6 u x) (l7 u x) (l8 u x) := fun q => by
  have t := (lay_tot (x := x) k1 k2).1
  have q2 := q.2.2
  rw [t] at q2
  exact k ⟨⟨k1, k2⟩, q2, g⟩
theorem ulay_n (hx : W128 x) (k1 : 4 ≤ u) (k2 : u ≤ 8) (k : ¬ layOk u x) : Fn 64 [] [wv x, .int .i64 u] la4 := by
  by_cases g : I64 (x.tdiv (ulen u))
  · have r := lay_not k1 k2 k g
    rcases units k1 k2 with rfl | rfl | rfl | rfl | rfl <;> simp only [l4, l5, l6, l7, l8, ulen, Int.reduceEq, Int.reduceLE, if_true, if_false, tdiv_1] at r g
    · exact ulay4_r x hx g r
    · exact ulay5_r x hx g r
    · exact ulay6_r x hx g r
    · exact ulay7_r x hx g r
    · exact ulay8_r x hx g r
  · rcases units k1 k2 with rfl | rfl | rfl | rfl | rfl <;> simp only [ulen, Int.reduceEq, if_true, if_false, tdiv_1] at g
    · exact ulay4_o x hx g
    · exact ulay5_o x hx g
    · exact ulay6_o x hx g
    · exact ulay7_o x hx g
    · exact ulay8_o x hx g
variable (p : ZQ)
theorem zulay_y (hx : W128 x) (k : layOk u x) : Fn 65 [(p, x)] [zv p, .int .i64 u] (lav u x) := by
  have r := lay_ok k
  obtain ⟨⟨k1, k2⟩, k3, k4⟩ := k
  have r := r.1
  by_cases h0 : 0 ≤ x
  · rcases units k1 k2 with rfl | rfl | rfl | rfl | rfl <;> simp only [l4, l5, l6, l7, l8, ulen, lav, Int.reduceEq, Int.reduceLE, if_true, if_false, tdiv_1] at r k4 ⊢
    · exact zulay4p_y p x hx h0 k4 r
    · exact zulay5p_y p x hx h0 k4 r
    · exact zulay6p_y p x hx h0 k4 r
    · exact zulay7p_y p x hx h0 k4 r
    · exact zulay8p_y p x hx h0 k4 r
  · have h0 : x < 0 := by omega
    rcases units k1 k2 with rfl | rfl | rfl | rfl | rfl <;> simp only [l4, l5, l6, l7, l8, ulen, lav, Int.reduceEq, Int.reduceLE, if_true, if_false, tdiv_1] at r k4 ⊢
    · exact zulay4n_y p x hx h0 k4 r
    · exact zulay5n_y p x hx h0 k4 r
    · exact zulay6n_y p x hx h0 k4 r
    · exact zulay7n_y p x hx h0 k4 r
    · exact zulay8n_y p x hx h0 k4 r
theorem zulay_n (hx : W128 x) (k1 : 4 ≤ u) (k2 : u ≤ 8) (k : ¬ layOk u x) : Fn 65 [(p, x)] [zv p, .int .i64 u] la4 := by
  by_cases g : I64 (x.tdiv (ulen u))
  · have r := lay_not k1 k2 k g
    by_cases h0 : 0 ≤ x
    · rcases units k1 k2 with rfl | rfl | rfl | rfl | rfl <;> simp only [l4, l5, l6, l7, l8, ulen, Int.reduceEq, Int.reduceLE, if_true, if_false, tdiv_1] at r g
      · exact zulay4p_r p x hx h0 g r
      · exact zulay5p_r p x hx h0 g r
      · exact zulay6p_r p x hx h0 g r
      · exact zulay7p_r p x hx h0 g r
      · exact zulay8p_r p x hx h0 g r
    · have h0 : x < 0 := by omega
      rcases units k1 k2 with rfl | rfl | rfl | rfl | rfl <;> simp only [l4, l5, l6, l7, l8, ulen, Int.reduceEq, Int.reduceLE, if_true, if_false, tdiv_1] at r g
      · exact zulay4n_r p x hx h0 g r
      · exact zulay5n_r p x hx h0 g r
      · exact zulay6n_r p x hx h0 g r
      · exact zulay7n_r p x hx h0 g r
      · exact zulay8n_r p x hx h0 g r
  · by_cases h0 : 0 ≤ x
    · rcases units k1 k2 with rfl | rfl | rfl | rfl | rfl <;> simp only [ulen, Int.reduceEq, if_true, if_false, tdiv_1] at g
      · exact zulay4p_o p x hx h0 g
      · exact zulay5p_o p x hx h0 g
      · exact zulay6p_o p x hx h0 g
      · exact zulay7p_o p x hx h0 g
      · exact zulay8p_o p x hx h0 g
    · have h0 : x < 0 := by omega
      rcases units k1 k2 with rfl | rfl | rfl | rfl | rfl <;> simp only [ulen, Int.reduceEq, if_true, if_false, tdiv_1] at g
      · exact zulay4n_o p x hx h0 g
      · exact zulay5n_o p x hx h0 g
      · exact zulay6n_o p x hx h0 g
      · exact zulay7n_o p x hx h0 g
      · exact zulay8n_o p x hx h0 g
end
end Go.Proofs.Ytccllfegnijpiaa
end
section
/-
  Durations: increments, sums, rounding; the laws DurationUnits, DurationLays, DurationTotals.
-/
set_option linter.unusedVariables false
set_option linter.unusedSimpArgs false
set_option maxRecDepth 100000
namespace Go.Proofs.Ytccllfegnijpiaa
open Go Go.RowKit Go.Ev

section
variable (u i : Int)
theorem i64_0 : I64 0 := by unfold I64; omega
theorem l_i64 {u x : Int} (k : layOk u x) : I64 (l4 u x) ∧ I64 (l5 u x) ∧ I64 (l6 u x) ∧ I64 (l7 u x) ∧ I64 (l8 u x) := by
  have s := lay_small (x := x) k.1.1 k.1.2
  obtain ⟨⟨k1, k2⟩, k3, k4⟩ := k
  rcases units k1 k2 with rfl | rfl | rfl | rfl | rfl <;> unfold I64 <;> simp only [l4, l5, l6, l7, l8, ulen, Int.reduceEq, Int.reduceLE, Int.reduceLT, if_true, if_false, tdiv_1, true_implies, false_implies, true_and, and_true, and_self] at s k4 ⊢ <;> omega
theorem lay_64 {u x : Int} (k : layOk u x) : all64 0 0 0 (l4 u x) (l5 u x) (l6 u x) (l7 u x) (l8 u x) := by
  obtain ⟨a, b, c, d, e⟩ := l_i64 k
  exact ⟨i64_0, i64_0, i64_0, a, b, c, d, e⟩
theorem I64.w' {x : Int} (h : I64 x) : W128 x := h.w
end
end Go.Proofs.Ytccllfegnijpiaa
end
section
/-
  The laws DurationRights, DurationAdds, DurationBack, DurationRounds, walked.
-/
set_option linter.unusedVariables false
set_option linter.unusedSimpArgs false
set_option maxRecDepth 100000
namespace Go.Proofs.Ytccllfegnijpiaa
open Go Go.RowKit Go.Ev

theorem ex_tot {a b c d h mi s n : Int} (k : uEx a b c d h mi s n) : -9007199254740992000000000 < dtot d h mi s n ∧ dtot d h mi s n < 9007199254740992000000000 := k.1.2.2
section
variable (a b c d h mi s n a' b' c' d' h' mi' s' n' : Int)
variable (A B C D H M S T e u : Int)
/-! what was added is taken away again -/
end
end Go.Proofs.Ytccllfegnijpiaa
end
section
/-
  The law DurationRounds, walked.
-/
set_option linter.unusedVariables false
set_option linter.unusedSimpArgs false
set_option maxRecDepth 100000
namespace Go.Proofs.Ytccllfegnijpiaa
open Go Go.RowKit Go.Ev

theorem ulen_64 (u : Int) : I64 (ulen u) := by
  by_cases h : 4 ≤ u ∧ u ≤ 8
  · have := ulen_pos h.1 h.2; unfold I64; omega
  · rw [ulen_no (by omega)]; exact i64_0
end Go.Proofs.Ytccllfegnijpiaa
end
section
/-
  Calls where some blocks of the memory are known; what is read of them.
-/
set_option linter.unusedVariables false
namespace Go.Proofs.Ytccllfegnijpiaa
open Go Go.RowKit Go.Ev

/-- These blocks hold these values. -/
def Mem (l : List (Nat × List Value × TypeId)) (w : World) : Prop := ∀ p ∈ l, w.heap[p.1]? = some (.cells p.2.1.toArray p.2.2 (0, 0))
theorem Mem.stable {E : List TypeId} {l : List (Nat × List Value × TypeId)} (h : ∀ p ∈ l, p.2.2 ∈ E) : Stable E (Mem l) := fun w w' hk hw p hp => hk _ _ _ _ (h p hp) (hw p hp)
section
variable {f0 : FuncId} {E : List TypeId} {w0 : World} {R : Ending → World → Prop} {L : ZL} {G : World → Prop} {c : Cf}
/-- What a round may use: the loop from a later round on. -/
structure BackG (C : Cx) (c : Cf) {X : Type} (I : X → List SV × List Bk) (G : World → Prop) (p : X → Prop) (m : X → Nat) (x : X) : Prop where
  h : ∀ x' (G' : World → Prop), m x' < m x → p x' → (∀ w, G' w → G w) → Run C G' (backL c (I x'))
end
end Go.Proofs.Ytccllfegnijpiaa
end
section
/-
  Calls that are given pointers into blocks of their caller's.
-/
set_option linter.unusedVariables false
namespace Go.Ev
open Go Go.RowKit

end Go.Ev
namespace Go.Proofs.Ytccllfegnijpiaa
open Go Go.RowKit Go.Ev

section
variable {f0 : FuncId} {E : List TypeId} {w0 : World} {R : Ending → World → Prop} {G : World → Prop} {c : Cf}
/-- A quotient or a rest that stands next. -/
theorem st_div0 {q : Bool} {T : TypeId} {xv yv v : Value} (h : ∀ w, (binOp (if q = true then .quo else .rem) T xv yv).run Try.prog w = .ok v w) (hc : divAt c = some (q, T, xv, yv)) (hk : Ru ⟨Try.prog, f0, E, w0, R⟩ G (resume c (.val v))) : Ru ⟨Try.prog, f0, E, w0, R⟩ G c :=
  ⟨run_div hc h hk.h⟩
end
end Go.Proofs.Ytccllfegnijpiaa
end
section
/-
  Points of time: durations put to them, what lies between, rounding.
-/
set_option linter.unusedVariables false
set_option linter.unusedSimpArgs false
set_option maxRecDepth 100000
namespace Go.Proofs.Ytccllfegnijpiaa
open Go Go.RowKit Go.Ev

/-- A duration that may be put to a point of time. -/
def uTm (a b c d h mi s n : Int) : Prop := uEx a b c d h mi s n ∧ d = 0
instance (a b c d h mi s n : Int) : Decidable (uTm a b c d h mi s n) := by unfold uTm; infer_instance
section
variable (w a b c d h mi s n : Int)
theorem iadd_r (k : ¬ nIn w) : Fn 19 [] [wv w, duv a b c d h mi s n] (.tuple #[wz, .int .i64 4]) := by
  refine fn_of Try.func19 rfl fun ww => ?_
  refine st_fn ent16 (iright_no (w) (by assumption)) sub0 (by kernel_rfl) ?_
  exact st_ret Try.func19 (by kernel_rfl)
theorem iadd_a (k : nIn w) (i : all64 a b c d h mi s n) (l : ¬ uTm a b c d h mi s n) : Fn 19 [] [wv w, duv a b c d h mi s n] (.tuple #[wz, .int .i64 1]) := by
  by_cases r : uOk a b c d h mi s n
  · have r1 := uright_y a b c d h mi s n i r
    by_cases ka : a = 0
    · by_cases kb : b = 0
      · by_cases kc : c = 0
        · have kd : d ≠ 0 := fun q => l ⟨⟨r, ka, kb, kc⟩, q⟩
          clear i r l
          refine fn_of Try.func19 rfl fun ww => ?_
          refine st_fn ent16 (iright_yes (w) (by assumption)) sub0 (by kernel_rfl) ?_
          refine st_fn ent31 (r1) sub0 (by kernel_rfl) ?_
          refine st_b 20 (show (a != 0) = false by exact bne_eq_false_iff_eq.2 (by omega)) (by kernel_rfl) ?_
          refine st_b 25 (show (b != 0) = false by exact bne_eq_false_iff_eq.2 (by omega)) (by kernel_rfl) ?_
          refine st_b 30 (show (c != 0) = false by exact bne_eq_false_iff_eq.2 (by omega)) (by kernel_rfl) ?_
          refine st_b 35 (show (d != 0) = true by exact bne_iff_ne.2 (by omega)) (by kernel_rfl) ?_
          exact st_ret Try.func19 (by kernel_rfl)
        · clear i r l
          refine fn_of Try.func19 rfl fun ww => ?_
          refine st_fn ent16 (iright_yes (w) (by assumption)) sub0 (by kernel_rfl) ?_
          refine st_fn ent31 (r1) sub0 (by kernel_rfl) ?_
          refine st_b 20 (show (a != 0) = false by exact bne_eq_false_iff_eq.2 (by omega)) (by kernel_rfl) ?_
          refine st_b 25 (show (b != 0) = false by exact bne_eq_false_iff_eq.2 (by omega)) (by kernel_rfl) ?_
          refine st_b 30 (show (c != 0) = true by exact bne_iff_ne.2 (by omega)) (by kernel_rfl) ?_
          exact st_ret Try.func19 (by kernel_rfl)
      · clear i r l
        refine fn_of Try.func19 rfl fun ww => ?_
        refine st_fn ent16 (iright_yes (w) (by assumption)) sub0 (by kernel_rfl) ?_
        refine st_fn ent31 (r1) sub0 (by kernel_rfl) ?_
        refine st_b 20 (show (a != 0) = false by exact bne_eq_false_iff_eq.2 (by omega)) (by kernel_rfl) ?_
        refine st_b 25 (show (b != 0) = true by exact bne_iff_ne.2 (by omega)) (by kernel_rfl) ?_
        exact st_ret Try.func19 (by kernel_rfl)
    · clear i r l
      refine fn_of Try.func19 rfl fun ww => ?_
      refine st_fn ent16 (iright_yes (w) (by assumption)) sub0 (by kernel_rfl) ?_
      refine st_fn ent31 (r1) sub0 (by kernel_rfl) ?_
      refine st_b 20 (show (a != 0) = true by exact bne_iff_ne.2 (by omega)) (by kernel_rfl) ?_
      exact st_ret Try.func19 (by kernel_rfl)
  · have r1 := uright_f a b c d h mi s n i r
    clear i r l
    refine fn_of Try.func19 rfl fun ww => ?_
    refine st_fn ent16 (iright_yes (w) (by assumption)) sub0 (by kernel_rfl) ?_
    refine st_fn ent31 (r1) sub0 (by kernel_rfl) ?_
    exact st_ret Try.func19 (by kernel_rfl)
theorem iadd_v (x e : Int) (k : nIn w) (i : all64 a b c d h mi s n) (l : uTm a b c d h mi s n) (hc : Fn 40 [] [wv (w + dtot d h mi s n), .int .i64 0] (.tuple #[wv x, .int .i64 e])) : Fn 19 [] [wv w, duv a b c d h mi s n] (.tuple #[wv x, .int .i64 e]) := by
  have r1 := uright_y a b c d h mi s n i l.1.1
  have t1 := utotal_y a b c d h mi s n i l.1.1
  have bb := ex_tot l.1
  have hw := nIn_W k
  have k' := k
  unfold nIn at k'
  have wa := wadd_yes w (dtot d h mi s n) hw (by unfold W128; omega) (by unfold W128; omega)
  obtain ⟨⟨-, rfl, rfl, rfl⟩, rfl⟩ := l
  clear i k' bb
  refine fn_of Try.func19 rfl fun ww => ?_
  refine st_fn ent16 (iright_yes (w) (by assumption)) sub0 (by kernel_rfl) ?_
  refine st_fn ent31 (r1) sub0 (by kernel_rfl) ?_
  refine st_fn ent60 (t1) sub0 (by kernel_rfl) ?_
  refine st_fn ent51 (wa) sub0 (by kernel_rfl) ?_
  refine st_fn ent40 (hc) sub0 (by kernel_rfl) ?_
  exact st_ret Try.func19 (by kernel_rfl)
theorem zadd21_r (hw : W128 w) (k : ¬ nIn w) : Fn 20 [] [wv w, duv a b c d h mi s n] (.tuple #[wz, .int .i64 4]) := by
  refine fn_of Try.func20 rfl fun ww => ?_
  refine st_fn ent17 (zright21_no (w) (by assumption) (by assumption)) sub0 (by kernel_rfl) ?_
  exact st_ret Try.func20 (by kernel_rfl)
theorem zadd21_a (k : nIn w) (i : all64 a b c d h mi s n) (l : ¬ uTm a b c d h mi s n) : Fn 20 [] [wv w, duv a b c d h mi s n] (.tuple #[wz, .int .i64 1]) := by
  have hw := nIn_W k
  by_cases r : uEx a b c d h mi s n
  · have r1 := zuexact_y a b c d h mi s n i r
    have kd : d ≠ 0 := fun q => l ⟨r, q⟩
    clear i r l
    refine fn_of Try.func20 rfl fun ww => ?_
    refine st_fn ent17 (zright21_yes (w) (by assumption) (by assumption)) sub0 (by kernel_rfl) ?_
    refine st_fn ent61 (r1) sub0 (by kernel_rfl) ?_
    refine st_b 16 (show (d != 0) = true by exact bne_iff_ne.2 (by omega)) (by kernel_rfl) ?_
    exact st_ret Try.func20 (by kernel_rfl)
  · have r1 := zuexact_f a b c d h mi s n i r
    clear i r l
    refine fn_of Try.func20 rfl fun ww => ?_
    refine st_fn ent17 (zright21_yes (w) (by assumption) (by assumption)) sub0 (by kernel_rfl) ?_
    refine st_fn ent61 (r1) sub0 (by kernel_rfl) ?_
    exact st_ret Try.func20 (by kernel_rfl)
theorem zadd21_v (x e : Int) (k : nIn w) (i : all64 a b c d h mi s n) (l : uTm a b c d h mi s n) (hc : ∀ p : ZQ, Fn 48 [(p, w + dtot d h mi s n)] [zv p] (.tuple #[wv x, .int .i64 e])) : Fn 20 [] [wv w, duv a b c d h mi s n] (.tuple #[wv x, .int .i64 e]) := by
  have r1 := zuexact_y a b c d h mi s n i l.1
  have t1 := zutot a b c d h mi s n i.2.2.2.1 i.2.2.2.2.1 i.2.2.2.2.2.1 i.2.2.2.2.2.2.1 i.2.2.2.2.2.2.2
  have bb := ex_tot l.1
  have hw := nIn_W k
  have w2 : W128 (dtot d h mi s n) := by unfold W128; omega
  obtain ⟨-, rfl⟩ := l
  clear i bb
  refine fn_of Try.func20 rfl fun ww => ?_
  refine st_fn ent17 (zright21_yes (w) (by assumption) (by assumption)) sub0 (by kernel_rfl) ?_
  refine st_fn ent61 (r1) sub0 (by kernel_rfl) ?_
  refine st_g ent47 (frof (w) (by assumption)) sub0 (by kernel_rfl) (fun zq2 => ?_)
  refine st_g ent62 (t1) sub0 (by kernel_rfl) (fun zq3 => ?_)
  refine st_g ent53 (fzadd (zq2) (zq3) (w) (dtot 0 h mi s n) (by exact Bits.fit hw.bits (by decide)) (by exact Bits.fit w2.bits (by decide))) (subC 1 rfl (subC 0 rfl sub0)) (by kernel_rfl) (fun zq4 => ?_)
  refine st_fn ent48 (hc (zq4)) (subC 0 rfl sub0) (by kernel_rfl) ?_
  exact st_ret Try.func20 (by kernel_rfl)
end
section
variable (a b L : Int)
theorem iunt_r (k : ¬ (nIn a ∧ nIn b)) : Fn 21 [] [wv a, wv b, .int .i64 L] (.tuple #[du0, .int .i64 4]) := by
  by_cases k1 : nIn a
  · have k2 : ¬ nIn b := fun q => k ⟨k1, q⟩
    refine fn_of Try.func21 rfl fun ww => ?_
    refine st_fn ent16 (iright_yes (a) (by assumption)) sub0 (by kernel_rfl) ?_
    refine st_fn ent16 (iright_no (b) (by assumption)) sub0 (by kernel_rfl) ?_
    exact st_ret Try.func21 (by kernel_rfl)
  · refine fn_of Try.func21 rfl fun ww => ?_
    refine st_fn ent16 (iright_no (a) (by assumption)) sub0 (by kernel_rfl) ?_
    exact st_ret Try.func21 (by kernel_rfl)
theorem iunt_a (k : nIn a) (k' : nIn b) (l : L < 5 ∨ 8 < L) : Fn 21 [] [wv a, wv b, .int .i64 L] (.tuple #[du0, .int .i64 1]) := by
  by_cases l1 : L < 5
  · refine fn_of Try.func21 rfl fun ww => ?_
    refine st_fn ent16 (iright_yes (a) (by assumption)) sub0 (by kernel_rfl) ?_
    refine st_fn ent16 (iright_yes (b) (by assumption)) sub0 (by kernel_rfl) ?_
    refine st_b 22 (show (decide (L < 5)) = true by exact decide_eq_true (by omega)) (by kernel_rfl) ?_
    exact st_ret Try.func21 (by kernel_rfl)
  · have l2 : 8 < L := by omega
    refine fn_of Try.func21 rfl fun ww => ?_
    refine st_fn ent16 (iright_yes (a) (by assumption)) sub0 (by kernel_rfl) ?_
    refine st_fn ent16 (iright_yes (b) (by assumption)) sub0 (by kernel_rfl) ?_
    refine st_b 22 (show (decide (L < 5)) = false by exact decide_eq_false (by omega)) (by kernel_rfl) ?_
    refine st_b 25 (show (decide (L > 8)) = true by exact decide_eq_true (by omega)) (by kernel_rfl) ?_
    exact st_ret Try.func21 (by kernel_rfl)
theorem iunt_v (A B C D H M S T e : Int) (k : nIn a) (k' : nIn b) (l : 5 ≤ L) (l2 : L ≤ 8) (hl : Fn 64 [] [wv (b - a), .int .i64 L] (.tuple #[duv A B C D H M S T, .int .i64 e])) : Fn 21 [] [wv a, wv b, .int .i64 L] (.tuple #[duv A B C D H M S T, .int .i64 e]) := by
  have ws : W128 (b - a) := by unfold nIn at k k'; unfold W128; omega
  have wa := nIn_W k
  have wb := nIn_W k'
  refine fn_of Try.func21 rfl fun ww => ?_
  refine st_fn ent16 (iright_yes (a) (by assumption)) sub0 (by kernel_rfl) ?_
  refine st_fn ent16 (iright_yes (b) (by assumption)) sub0 (by kernel_rfl) ?_
  refine st_b 22 (show (decide (L < 5)) = false by exact decide_eq_false (by omega)) (by kernel_rfl) ?_
  refine st_b 25 (show (decide (L > 8)) = false by exact decide_eq_false (by omega)) (by kernel_rfl) ?_
  refine st_fn ent63 (wsub_yes (b) (a) (by assumption) (by assumption) (by assumption)) sub0 (by kernel_rfl) ?_
  refine st_fn ent64 (hl) sub0 (by kernel_rfl) ?_
  exact st_ret Try.func21 (by kernel_rfl)
theorem zunt_r (wa : W128 a) (wb : W128 b) (k : ¬ (nIn a ∧ nIn b)) : Fn 22 [] [wv a, wv b, .int .i64 L] (.tuple #[du0, .int .i64 4]) := by
  by_cases k1 : nIn a
  · have k2 : ¬ nIn b := fun q => k ⟨k1, q⟩
    refine fn_of Try.func22 rfl fun ww => ?_
    refine st_fn ent17 (zright21_yes (a) (by assumption) (by assumption)) sub0 (by kernel_rfl) ?_
    refine st_fn ent17 (zright21_no (b) (by assumption) (by assumption)) sub0 (by kernel_rfl) ?_
    exact st_ret Try.func22 (by kernel_rfl)
  · refine fn_of Try.func22 rfl fun ww => ?_
    refine st_fn ent17 (zright21_no (a) (by assumption) (by assumption)) sub0 (by kernel_rfl) ?_
    exact st_ret Try.func22 (by kernel_rfl)
theorem zunt_a (k : nIn a) (k' : nIn b) (l : L < 5 ∨ 8 < L) : Fn 22 [] [wv a, wv b, .int .i64 L] (.tuple #[du0, .int .i64 1]) := by
  have wa := nIn_W k
  have wb := nIn_W k'
  by_cases l1 : L < 5
  · refine fn_of Try.func22 rfl fun ww => ?_
    refine st_fn ent17 (zright21_yes (a) (by assumption) (by assumption)) sub0 (by kernel_rfl) ?_
    refine st_fn ent17 (zright21_yes (b) (by assumption) (by assumption)) sub0 (by kernel_rfl) ?_
    refine st_b 18 (show (decide (L < 5)) = true by exact decide_eq_true (by omega)) (by kernel_rfl) ?_
    exact st_ret Try.func22 (by kernel_rfl)
  · have l2 : 8 < L := by omega
    refine fn_of Try.func22 rfl fun ww => ?_
    refine st_fn ent17 (zright21_yes (a) (by assumption) (by assumption)) sub0 (by kernel_rfl) ?_
    refine st_fn ent17 (zright21_yes (b) (by assumption) (by assumption)) sub0 (by kernel_rfl) ?_
    refine st_b 18 (show (decide (L < 5)) = false by exact decide_eq_false (by omega)) (by kernel_rfl) ?_
    refine st_b 21 (show (decide (L > 8)) = true by exact decide_eq_true (by omega)) (by kernel_rfl) ?_
    exact st_ret Try.func22 (by kernel_rfl)
theorem zunt_v (A B C D H M S T e : Int) (k : nIn a) (k' : nIn b) (l : 5 ≤ L) (l2 : L ≤ 8) (hl : ∀ p : ZQ, Fn 65 [(p, b - a)] [zv p, .int .i64 L] (.tuple #[duv A B C D H M S T, .int .i64 e])) : Fn 22 [] [wv a, wv b, .int .i64 L] (.tuple #[duv A B C D H M S T, .int .i64 e]) := by
  have wa := nIn_W k
  have wb := nIn_W k'
  refine fn_of Try.func22 rfl fun ww => ?_
  refine st_fn ent17 (zright21_yes (a) (by assumption) (by assumption)) sub0 (by kernel_rfl) ?_
  refine st_fn ent17 (zright21_yes (b) (by assumption) (by assumption)) sub0 (by kernel_rfl) ?_
  refine st_b 18 (show (decide (L < 5)) = false by exact decide_eq_false (by omega)) (by kernel_rfl) ?_
  refine st_b 21 (show (decide (L > 8)) = false by exact decide_eq_false (by omega)) (by kernel_rfl) ?_
  refine st_g ent47 (frof (b) (by assumption)) sub0 (by kernel_rfl) (fun zq2 => ?_)
  refine st_g ent47 (frof (a) (by assumption)) sub0 (by kernel_rfl) (fun zq3 => ?_)
  refine st_g ent66 (fzsub (zq2) (zq3) (b) (a) (by exact Bits.fit wb.bits (by decide)) (by exact Bits.fit wa.bits (by decide))) (subC 1 rfl (subC 0 rfl sub0)) (by kernel_rfl) (fun zq4 => ?_)
  refine st_fn ent65 (hl (zq4)) (subC 0 rfl sub0) (by kernel_rfl) ?_
  exact st_ret Try.func22 (by kernel_rfl)
end
section
variable (w u i m : Int)
theorem irnd_r (k : ¬ nIn w) : Fn 10 [] [wv w, .int .i64 u, .int .i64 i, .int .i64 m] (.tuple #[wz, .int .i64 4]) := by
  refine fn_of Try.func10 rfl fun ww => ?_
  refine st_fn ent16 (iright_no (w) (by assumption)) sub0 (by kernel_rfl) ?_
  exact st_ret Try.func10 (by kernel_rfl)
theorem irnd_u (k : nIn w) (l : u < 5 ∨ 8 < u) : Fn 10 [] [wv w, .int .i64 u, .int .i64 i, .int .i64 m] (.tuple #[wz, .int .i64 1]) := by
  by_cases q : u = 4
  · subst q
    refine fn_of Try.func10 rfl fun ww => ?_
    refine st_fn ent16 (iright_yes (w) (by assumption)) sub0 (by kernel_rfl) ?_
    refine st_fn ent37 (ulen4) sub0 (by kernel_rfl) ?_
    exact st_ret Try.func10 (by kernel_rfl)
  · have g := ulen_o u (by omega)
    refine fn_of Try.func10 rfl fun ww => ?_
    refine st_fn ent16 (iright_yes (w) (by assumption)) sub0 (by kernel_rfl) ?_
    refine st_fn ent37 (g) sub0 (by kernel_rfl) ?_
    refine st_b 20 (show (u == 4) = false by exact decide_eq_false (by omega)) (by kernel_rfl) ?_
    exact st_ret Try.func10 (by kernel_rfl)
theorem irnd_i (k : nIn w) (l : 5 ≤ u) (l2 : u ≤ 8) (hi : i < 1) : Fn 10 [] [wv w, .int .i64 u, .int .i64 i, .int .i64 m] (.tuple #[wz, .int .i64 1]) := by
  have g := ulen_pos (show 4 ≤ u by omega) l2
  refine fn_of Try.func10 rfl fun ww => ?_
  refine st_fn ent16 (iright_yes (w) (by assumption)) sub0 (by kernel_rfl) ?_
  refine st_fn ent37 (ulen_fn (u)) sub0 (by kernel_rfl) ?_
  refine st_b 20 (show (u == 4) = false by exact decide_eq_false (by omega)) (by kernel_rfl) ?_
  refine st_b 23 (show (ulen u == 0) = false by exact decide_eq_false (by omega)) (by kernel_rfl) ?_
  refine st_b 27 (show (decide (i < 1)) = true by exact decide_eq_true (by omega)) (by kernel_rfl) ?_
  exact st_ret Try.func10 (by kernel_rfl)
theorem ulen_day {u : Int} (l : 5 ≤ u) (l2 : u ≤ 8) : (86400000000000 : Int).tdiv (ulen u) * ulen u = 86400000000000 ∧ 24 ≤ (86400000000000 : Int).tdiv (ulen u) ∧ (86400000000000 : Int).tdiv (ulen u) ≤ 86400000000000 := by
  have h : u = 5 ∨ u = 6 ∨ u = 7 ∨ u = 8 := by omega
  rcases h with rfl | rfl | rfl | rfl <;> decide
theorem irnd_b (k : nIn w) (l : 5 ≤ u) (l2 : u ≤ 8) (hi : 1 ≤ i) (hb : (86400000000000 : Int).tdiv (ulen u) < i) : Fn 10 [] [wv w, .int .i64 u, .int .i64 i, .int .i64 m] (.tuple #[wz, .int .i64 1]) := by
  have g := ulen_pos (show 4 ≤ u by omega) l2
  have g2 := ulen_day l l2
  refine fn_of Try.func10 rfl fun ww => ?_
  refine st_fn ent16 (iright_yes (w) (by assumption)) sub0 (by kernel_rfl) ?_
  refine st_fn ent37 (ulen_fn (u)) sub0 (by kernel_rfl) ?_
  refine st_b 20 (show (u == 4) = false by exact decide_eq_false (by omega)) (by kernel_rfl) ?_
  refine st_b 23 (show (ulen u == 0) = false by exact decide_eq_false (by omega)) (by kernel_rfl) ?_
  refine st_b 27 (show (decide (i < 1)) = false by exact decide_eq_false (by omega)) (by kernel_rfl) ?_
  refine st_div 31 (fun w => quo_run64 (T := 2) (x := 86400000000000) (y := ulen u) (by omega) w (by omega) (by omega)) (by kernel_rfl) ?_
  refine st_b 33 (show (decide (i > Int.tdiv 86400000000000 (ulen u))) = true by exact decide_eq_true (by omega)) (by kernel_rfl) ?_
  exact st_ret Try.func10 (by kernel_rfl)
theorem step_b {u i : Int} (l : 5 ≤ u) (l2 : u ≤ 8) (hi : 1 ≤ i) (hb : i ≤ (86400000000000 : Int).tdiv (ulen u)) : 1 ≤ i * ulen u ∧ i * ulen u ≤ 86400000000000 := by
  have g := ulen_pos (show 4 ≤ u by omega) l2
  have g2 := ulen_day l l2
  have a := Int.mul_le_mul_of_nonneg_right hb (show 0 ≤ ulen u by omega)
  have b := Int.mul_le_mul_of_nonneg_right hi (show 0 ≤ ulen u by omega)
  omega
theorem irnd_m (st : Int) (hst : i * ulen u = st) (k : nIn w) (l : 5 ≤ u) (l2 : u ≤ 8) (hi : 1 ≤ i) (hb : i ≤ (86400000000000 : Int).tdiv (ulen u)) (ht : (86400000000000 : Int).tmod st ≠ 0) : Fn 10 [] [wv w, .int .i64 u, .int .i64 i, .int .i64 m] (.tuple #[wz, .int .i64 1]) := by
  have g := ulen_pos (show 4 ≤ u by omega) l2
  have g2 := ulen_day l l2
  have sb := step_b l l2 hi hb
  rw [hst] at sb
  refine fn_of Try.func10 rfl fun ww => ?_
  refine st_fn ent16 (iright_yes (w) (by assumption)) sub0 (by kernel_rfl) ?_
  refine st_fn ent37 (ulen_fn (u)) sub0 (by kernel_rfl) ?_
  refine st_b 20 (show (u == 4) = false by exact decide_eq_false (by omega)) (by kernel_rfl) ?_
  refine st_b 23 (show (ulen u == 0) = false by exact decide_eq_false (by omega)) (by kernel_rfl) ?_
  refine st_b 27 (show (decide (i < 1)) = false by exact decide_eq_false (by omega)) (by kernel_rfl) ?_
  refine st_div 31 (fun w => quo_run64 (T := 2) (x := 86400000000000) (y := ulen u) (by omega) w (by omega) (by omega)) (by kernel_rfl) ?_
  refine st_b 33 (show (decide (i > Int.tdiv 86400000000000 (ulen u))) = false by exact decide_eq_false (by omega)) (by kernel_rfl) ?_
  refine st_i 38 IntKind.i64 (x := IntKind.i64.wrap (i * ulen u)) ((Go.IntWalk.i64_in (i * ulen u) (by omega)).trans (hst)) (by kernel_rfl) ?_
  refine st_div0 (fun w => rem_run (T := 2) (k := IntKind.i64) (x := 86400000000000) (y := st) (by omega) w) (by kernel_rfl) ?_
  refine st_b 40 (show (Int.tmod 86400000000000 st != 0) = true by exact bne_iff_ne.2 (by omega)) (by kernel_rfl) ?_
  exact st_ret Try.func10 (by kernel_rfl)
theorem irnd_o (st : Int) (hst : i * ulen u = st) (k : nIn w) (l : 5 ≤ u) (l2 : u ≤ 8) (hi : 1 ≤ i) (hb : i ≤ (86400000000000 : Int).tdiv (ulen u)) (ht : (86400000000000 : Int).tmod st = 0) (x e : Int) (hr : Fn 38 [] [wv w, wv st, .int .i64 m] (.tuple #[wv x, .int .i64 e])) (he : e ≠ 0) : Fn 10 [] [wv w, .int .i64 u, .int .i64 i, .int .i64 m] (.tuple #[wz, .int .i64 e]) := by
  have g := ulen_pos (show 4 ≤ u by omega) l2
  have g2 := ulen_day l l2
  have sb := step_b l l2 hi hb
  rw [hst] at sb
  have i1 : I64 st := by unfold I64; omega
  refine fn_of Try.func10 rfl fun ww => ?_
  refine st_fn ent16 (iright_yes (w) (by assumption)) sub0 (by kernel_rfl) ?_
  refine st_fn ent37 (ulen_fn (u)) sub0 (by kernel_rfl) ?_
  refine st_b 20 (show (u == 4) = false by exact decide_eq_false (by omega)) (by kernel_rfl) ?_
  refine st_b 23 (show (ulen u == 0) = false by exact decide_eq_false (by omega)) (by kernel_rfl) ?_
  refine st_b 27 (show (decide (i < 1)) = false by exact decide_eq_false (by omega)) (by kernel_rfl) ?_
  refine st_div 31 (fun w => quo_run64 (T := 2) (x := 86400000000000) (y := ulen u) (by omega) w (by omega) (by omega)) (by kernel_rfl) ?_
  refine st_b 33 (show (decide (i > Int.tdiv 86400000000000 (ulen u))) = false by exact decide_eq_false (by omega)) (by kernel_rfl) ?_
  refine st_i 38 IntKind.i64 (x := IntKind.i64.wrap (i * ulen u)) ((Go.IntWalk.i64_in (i * ulen u) (by omega)).trans (hst)) (by kernel_rfl) ?_
  refine st_div0 (fun w => rem_run (T := 2) (k := IntKind.i64) (x := 86400000000000) (y := st) (by omega) w) (by kernel_rfl) ?_
  refine st_b 40 (show (Int.tmod 86400000000000 st != 0) = false by exact bne_eq_false_iff_eq.2 (by omega)) (by kernel_rfl) ?_
  refine st_i 47 IntKind.i64 (x := IntKind.i64.wrap (i * ulen u)) ((Go.IntWalk.i64_in (i * ulen u) (by omega)).trans (hst)) (by kernel_rfl) ?_
  refine st_fn ent39 (wof_fn (st) (by assumption)) sub0 (by kernel_rfl) ?_
  refine st_fn ent38 (hr) sub0 (by kernel_rfl) ?_
  refine st_b 54 (show (e != 0) = true by exact bne_iff_ne.2 (by omega)) (by kernel_rfl) ?_
  exact st_ret Try.func10 (by kernel_rfl)
theorem irnd_v (st : Int) (hst : i * ulen u = st) (k : nIn w) (l : 5 ≤ u) (l2 : u ≤ 8) (hi : 1 ≤ i) (hb : i ≤ (86400000000000 : Int).tdiv (ulen u)) (ht : (86400000000000 : Int).tmod st = 0) (x y e : Int) (hr : Fn 38 [] [wv w, wv st, .int .i64 m] (.tuple #[wv x, .int .i64 0])) (hc : Fn 40 [] [wv x, .int .i64 0] (.tuple #[wv y, .int .i64 e])) : Fn 10 [] [wv w, .int .i64 u, .int .i64 i, .int .i64 m] (.tuple #[wv y, .int .i64 e]) := by
  have g := ulen_pos (show 4 ≤ u by omega) l2
  have g2 := ulen_day l l2
  have sb := step_b l l2 hi hb
  rw [hst] at sb
  have i1 : I64 st := by unfold I64; omega
  refine fn_of Try.func10 rfl fun ww => ?_
  refine st_fn ent16 (iright_yes (w) (by assumption)) sub0 (by kernel_rfl) ?_
  refine st_fn ent37 (ulen_fn (u)) sub0 (by kernel_rfl) ?_
  refine st_b 20 (show (u == 4) = false by exact decide_eq_false (by omega)) (by kernel_rfl) ?_
  refine st_b 23 (show (ulen u == 0) = false by exact decide_eq_false (by omega)) (by kernel_rfl) ?_
  refine st_b 27 (show (decide (i < 1)) = false by exact decide_eq_false (by omega)) (by kernel_rfl) ?_
  refine st_div 31 (fun w => quo_run64 (T := 2) (x := 86400000000000) (y := ulen u) (by omega) w (by omega) (by omega)) (by kernel_rfl) ?_
  refine st_b 33 (show (decide (i > Int.tdiv 86400000000000 (ulen u))) = false by exact decide_eq_false (by omega)) (by kernel_rfl) ?_
  refine st_i 38 IntKind.i64 (x := IntKind.i64.wrap (i * ulen u)) ((Go.IntWalk.i64_in (i * ulen u) (by omega)).trans (hst)) (by kernel_rfl) ?_
  refine st_div0 (fun w => rem_run (T := 2) (k := IntKind.i64) (x := 86400000000000) (y := st) (by omega) w) (by kernel_rfl) ?_
  refine st_b 40 (show (Int.tmod 86400000000000 st != 0) = false by exact bne_eq_false_iff_eq.2 (by omega)) (by kernel_rfl) ?_
  refine st_i 47 IntKind.i64 (x := IntKind.i64.wrap (i * ulen u)) ((Go.IntWalk.i64_in (i * ulen u) (by omega)).trans (hst)) (by kernel_rfl) ?_
  refine st_fn ent39 (wof_fn (st) (by assumption)) sub0 (by kernel_rfl) ?_
  refine st_fn ent38 (hr) sub0 (by kernel_rfl) ?_
  refine st_fn ent40 (hc) sub0 (by kernel_rfl) ?_
  exact st_ret Try.func10 (by kernel_rfl)
/-! the reference -/
theorem zrnd21_r (hw : W128 w) (k : ¬ nIn w) : Fn 11 [] [wv w, .int .i64 u, .int .i64 i, .int .i64 m] (.tuple #[wz, .int .i64 4]) := by
  refine fn_of Try.func11 rfl fun ww => ?_
  refine st_fn ent17 (zright21_no (w) (by assumption) (by assumption)) sub0 (by kernel_rfl) ?_
  exact st_ret Try.func11 (by kernel_rfl)
theorem zrnd21_u (k : nIn w) (l : u < 5 ∨ 8 < u ∨ i < 1) : Fn 11 [] [wv w, .int .i64 u, .int .i64 i, .int .i64 m] (.tuple #[wz, .int .i64 1]) := by
  have hw := nIn_W k
  by_cases q1 : u < 5
  · refine fn_of Try.func11 rfl fun ww => ?_
    refine st_fn ent17 (zright21_yes (w) (by assumption) (by assumption)) sub0 (by kernel_rfl) ?_
    refine st_b 20 (show (decide (u < 5)) = true by exact decide_eq_true (by omega)) (by kernel_rfl) ?_
    exact st_ret Try.func11 (by kernel_rfl)
  · by_cases q2 : 8 < u
    · refine fn_of Try.func11 rfl fun ww => ?_
      refine st_fn ent17 (zright21_yes (w) (by assumption) (by assumption)) sub0 (by kernel_rfl) ?_
      refine st_b 20 (show (decide (u < 5)) = false by exact decide_eq_false (by omega)) (by kernel_rfl) ?_
      refine st_b 23 (show (decide (u > 8)) = true by exact decide_eq_true (by omega)) (by kernel_rfl) ?_
      exact st_ret Try.func11 (by kernel_rfl)
    · have q3 : i < 1 := by omega
      refine fn_of Try.func11 rfl fun ww => ?_
      refine st_fn ent17 (zright21_yes (w) (by assumption) (by assumption)) sub0 (by kernel_rfl) ?_
      refine st_b 20 (show (decide (u < 5)) = false by exact decide_eq_false (by omega)) (by kernel_rfl) ?_
      refine st_b 23 (show (decide (u > 8)) = false by exact decide_eq_false (by omega)) (by kernel_rfl) ?_
      refine st_b 27 (show (decide (i < 1)) = true by exact decide_eq_true (by omega)) (by kernel_rfl) ?_
      exact st_ret Try.func11 (by kernel_rfl)
theorem zrnd21_m (k : nIn w) (l : 5 ≤ u) (l2 : u ≤ 8) (hi : 1 ≤ i) (i1 : I64 i) (ht : cmpI (Int.fmod 86400000000000 (i * ulen u)) 0 ≠ 0) : Fn 11 [] [wv w, .int .i64 u, .int .i64 i, .int .i64 m] (.tuple #[wz, .int .i64 1]) := by
  have hw := nIn_W k
  have g := (ulen_pos (show 4 ≤ u by omega) l2).1
  have i2 := ulen_64 u
  have i3 : I64 86400000000000 := by unfold I64; omega
  have hne : i * ulen u ≠ 0 := by
    have : 1 * 1 ≤ i * ulen u := Int.mul_le_mul hi g (by omega) (by omega)
    omega
  have b1 : Bits 900 (i * ulen u) := Bits.mono (Bits.mul i1.w.bits i2.w.bits) (by decide)
  refine fn_of Try.func11 rfl fun ww => ?_
  refine st_fn ent17 (zright21_yes (w) (by assumption) (by assumption)) sub0 (by kernel_rfl) ?_
  refine st_b 20 (show (decide (u < 5)) = false by exact decide_eq_false (by omega)) (by kernel_rfl) ?_
  refine st_b 23 (show (decide (u > 8)) = false by exact decide_eq_false (by omega)) (by kernel_rfl) ?_
  refine st_b 27 (show (decide (i < 1)) = false by exact decide_eq_false (by omega)) (by kernel_rfl) ?_
  refine st_g ent42 (fzint (i) (by assumption)) sub0 (by kernel_rfl) (fun zq1 => ?_)
  refine st_fn ent43 (zulen_fn (u)) sub0 (by kernel_rfl) ?_
  refine st_g ent42 (fzint (ulen u) (by assumption)) sub0 (by kernel_rfl) (fun zq3 => ?_)
  refine st_g ent41 (fzmul (zq1) (zq3) (i) (ulen u) (by exact Bits.fit i1.w.bits (by decide)) (by exact Bits.fit i2.w.bits (by decide))) (subC 1 rfl (subC 0 rfl sub0)) (by kernel_rfl) (fun zq4 => ?_)
  refine st_g ent42 (fzint (86400000000000) (by assumption)) sub0 (by kernel_rfl) (fun zq5 => ?_)
  refine st_g ent44 (fzdiv (zq5) (zq4) (86400000000000) (i * ulen u) (by exact Bits.mono i3.w.bits (by decide)) (by exact Bits.mono b1 (by decide)) (by assumption)) (subC 0 rfl (subC 1 rfl sub0)) (by kernel_rfl) (fun zq6 => ?_)
  refine st_fn ent45 (fzsign (zq6.snd) (Int.fmod 86400000000000 (i * ulen u)) (by exact Bits.fit (fmod_b b1 (by first | assumption | omega)) (by decide))) (subC 1 rfl sub0) (by kernel_rfl) ?_
  refine st_b 44 (show (cmpI (Int.fmod 86400000000000 (i * ulen u)) 0 != 0) = true by exact bne_iff_ne.2 (by omega)) (by kernel_rfl) ?_
  exact st_ret Try.func11 (by kernel_rfl)
theorem zrnd21_o (k : nIn w) (l : 5 ≤ u) (l2 : u ≤ 8) (hi : 1 ≤ i) (i1 : I64 i) (ht : cmpI (Int.fmod 86400000000000 (i * ulen u)) 0 = 0) (hm : m < 1 ∨ 9 < m) : Fn 11 [] [wv w, .int .i64 u, .int .i64 i, .int .i64 m] (.tuple #[wz, .int .i64 1]) := by
  have hw := nIn_W k
  have g := (ulen_pos (show 4 ≤ u by omega) l2).1
  have i2 := ulen_64 u
  have i3 : I64 86400000000000 := by unfold I64; omega
  have hne : i * ulen u ≠ 0 := by
    have : 1 * 1 ≤ i * ulen u := Int.mul_le_mul hi g (by omega) (by omega)
    omega
  have b1 : Bits 900 (i * ulen u) := Bits.mono (Bits.mul i1.w.bits i2.w.bits) (by decide)
  refine fn_of Try.func11 rfl fun ww => ?_
  refine st_fn ent17 (zright21_yes (w) (by assumption) (by assumption)) sub0 (by kernel_rfl) ?_
  refine st_b 20 (show (decide (u < 5)) = false by exact decide_eq_false (by omega)) (by kernel_rfl) ?_
  refine st_b 23 (show (decide (u > 8)) = false by exact decide_eq_false (by omega)) (by kernel_rfl) ?_
  refine st_b 27 (show (decide (i < 1)) = false by exact decide_eq_false (by omega)) (by kernel_rfl) ?_
  refine st_g ent42 (fzint (i) (by assumption)) sub0 (by kernel_rfl) (fun zq1 => ?_)
  refine st_fn ent43 (zulen_fn (u)) sub0 (by kernel_rfl) ?_
  refine st_g ent42 (fzint (ulen u) (by assumption)) sub0 (by kernel_rfl) (fun zq3 => ?_)
  refine st_g ent41 (fzmul (zq1) (zq3) (i) (ulen u) (by exact Bits.fit i1.w.bits (by decide)) (by exact Bits.fit i2.w.bits (by decide))) (subC 1 rfl (subC 0 rfl sub0)) (by kernel_rfl) (fun zq4 => ?_)
  refine st_g ent42 (fzint (86400000000000) (by assumption)) sub0 (by kernel_rfl) (fun zq5 => ?_)
  refine st_g ent44 (fzdiv (zq5) (zq4) (86400000000000) (i * ulen u) (by exact Bits.mono i3.w.bits (by decide)) (by exact Bits.mono b1 (by decide)) (by assumption)) (subC 0 rfl (subC 1 rfl sub0)) (by kernel_rfl) (fun zq6 => ?_)
  refine st_fn ent45 (fzsign (zq6.snd) (Int.fmod 86400000000000 (i * ulen u)) (by exact Bits.fit (fmod_b b1 (by first | assumption | omega)) (by decide))) (subC 1 rfl sub0) (by kernel_rfl) ?_
  refine st_b 44 (show (cmpI (Int.fmod 86400000000000 (i * ulen u)) 0 != 0) = false by exact bne_eq_false_iff_eq.2 (by omega)) (by kernel_rfl) ?_
  refine st_g ent47 (frof (w) (by assumption)) sub0 (by kernel_rfl) (fun zq8 => ?_)
  refine st_fn ent46 (near_bad (zq8) (zq4) (m) (by assumption)) sub0 (by kernel_rfl) ?_
  exact st_ret Try.func11 (by kernel_rfl)
theorem zrnd21_v (k : nIn w) (l : 5 ≤ u) (l2 : u ≤ 8) (hi : 1 ≤ i) (i1 : I64 i) (ht : cmpI (Int.fmod 86400000000000 (i * ulen u)) 0 = 0) (h1 : 1 ≤ m) (h2 : m ≤ 9) (x y e : Int) (ex : x = nearQ w (i * ulen u) m * (i * ulen u)) (hc : ∀ p : ZQ, Fn 48 [(p, x)] [zv p] (.tuple #[wv y, .int .i64 e])) : Fn 11 [] [wv w, .int .i64 u, .int .i64 i, .int .i64 m] (.tuple #[wv y, .int .i64 e]) := by
  have hw := nIn_W k
  have g := (ulen_pos (show 4 ≤ u by omega) l2).1
  have i2 := ulen_64 u
  have i3 : I64 86400000000000 := by unfold I64; omega
  have hp : 0 < i * ulen u := by
    have : 1 * 1 ≤ i * ulen u := Int.mul_le_mul hi g (by omega) (by omega)
    omega
  have hne : i * ulen u ≠ 0 := by omega
  have b1 : Bits 900 (i * ulen u) := Bits.mono (Bits.mul i1.w.bits i2.w.bits) (by decide)
  have b2 : Bits 129 (i * ulen u) := by
    have := ulen_pos (show 4 ≤ u by omega) l2
    have i1' := i1
    unfold I64 at i1'
    have q : i * ulen u ≤ 9223372036854775807 * 86400000000000 := Int.mul_le_mul i1'.2 this.2 (by omega) (by omega)
    exact Bits.mono (show W128 (i * ulen u) by unfold W128; omega).bits (by decide)
  have q1 : Bits 200 w := hw.bits.mono (by decide)
  have q2 : Bits 200 (i * ulen u) := b2.mono (by decide)
  have bn := nearQ_bits (mode := m) (show Bits 200 w from hw.bits.mono (by decide)) hp
  subst ex
  refine fn_of Try.func11 rfl fun ww => ?_
  refine st_fn ent17 (zright21_yes (w) (by assumption) (by assumption)) sub0 (by kernel_rfl) ?_
  refine st_b 20 (show (decide (u < 5)) = false by exact decide_eq_false (by omega)) (by kernel_rfl) ?_
  refine st_b 23 (show (decide (u > 8)) = false by exact decide_eq_false (by omega)) (by kernel_rfl) ?_
  refine st_b 27 (show (decide (i < 1)) = false by exact decide_eq_false (by omega)) (by kernel_rfl) ?_
  refine st_g ent42 (fzint (i) (by assumption)) sub0 (by kernel_rfl) (fun zq1 => ?_)
  refine st_fn ent43 (zulen_fn (u)) sub0 (by kernel_rfl) ?_
  refine st_g ent42 (fzint (ulen u) (by assumption)) sub0 (by kernel_rfl) (fun zq3 => ?_)
  refine st_g ent41 (fzmul (zq1) (zq3) (i) (ulen u) (by exact Bits.fit i1.w.bits (by decide)) (by exact Bits.fit i2.w.bits (by decide))) (subC 1 rfl (subC 0 rfl sub0)) (by kernel_rfl) (fun zq4 => ?_)
  refine st_g ent42 (fzint (86400000000000) (by assumption)) sub0 (by kernel_rfl) (fun zq5 => ?_)
  refine st_g ent44 (fzdiv (zq5) (zq4) (86400000000000) (i * ulen u) (by exact Bits.mono i3.w.bits (by decide)) (by exact Bits.mono b1 (by decide)) (by assumption)) (subC 0 rfl (subC 1 rfl sub0)) (by kernel_rfl) (fun zq6 => ?_)
  refine st_fn ent45 (fzsign (zq6.snd) (Int.fmod 86400000000000 (i * ulen u)) (by exact Bits.fit (fmod_b b1 (by first | assumption | omega)) (by decide))) (subC 1 rfl sub0) (by kernel_rfl) ?_
  refine st_b 44 (show (cmpI (Int.fmod 86400000000000 (i * ulen u)) 0 != 0) = false by exact bne_eq_false_iff_eq.2 (by omega)) (by kernel_rfl) ?_
  refine st_g ent47 (frof (w) (by assumption)) sub0 (by kernel_rfl) (fun zq8 => ?_)
  refine st_g ent46 (near_ok (zq8) (zq4) (w) (i * ulen u) (m) (by exact Bits.mono hw.bits (by decide)) (by assumption) (by assumption) (by assumption) (by assumption)) (subC 0 rfl (subC 4 rfl sub0)) (by kernel_rfl) (fun zq9 => ?_)
  refine st_g ent41 (fzmul (zq9) (zq4) (nearQ w (i * ulen u) m) (i * ulen u) (by exact Bits.fit bn (by decide)) (by exact Bits.fit b1 (by decide))) (subC 0 rfl (subC 5 rfl sub0)) (by kernel_rfl) (fun zq10 => ?_)
  refine st_fn ent48 (hc (zq10)) (subC 0 rfl sub0) (by kernel_rfl) ?_
  exact st_ret Try.func11 (by kernel_rfl)
end
end Go.Proofs.Ytccllfegnijpiaa
end
section
/-
  The laws InstantSplits, InstantRounds, InstantAdds, InstantBack, walked.
-/
set_option linter.unusedVariables false
set_option linter.unusedSimpArgs false
set_option maxRecDepth 100000
namespace Go.Proofs.Ytccllfegnijpiaa
open Go Go.RowKit Go.Ev

theorem alive21 : Fn 12 [] [] (.bool true) := by
  have i1 : I64 (-1) := by unfold I64; omega
  have i2 : I64 5400000000000 := by unfold I64; omega
  have i3 : I64 7200000000000 := by unfold I64; omega
  have alvA := isplit_yes (-1) (by decide)
  rw [show sQ (-1) = -1 by decide, show sR (-1) = 999999999 by decide] at alvA
  have alvB : Fn 23 [] [wz, .int .i64 3600] (.tuple #[ptN (0 + 3600 * 1000000000), .int .i64 0]) := ilocal_y 0 3600 (by decide) (by decide)
  rw [show (0 : Int) + 3600 * 1000000000 = 3600000000000 by decide, show ptN 3600000000000 = ptv 1970 1 1 1 0 0 0 from rfl] at alvB
  have t1 := to_yes 5400000000000 3600000000000 9 (by decide) (by decide) (by decide) (by decide) (by decide) 7200000000000 (by decide) (by decide)
  have alvC := irnd_v 5400000000000 5 1 9 3600000000000 (by decide) (by decide) (by decide) (by decide) (by decide) (by decide) (by decide) 7200000000000 7200000000000 0 t1 (ichk_yes 7200000000000 (by decide))
  clear t1
  refine fn_of Try.func12 rfl fun ww => ?_
  refine st_fn ent39 (wof_fn (-1) (by assumption)) sub0 (by kernel_rfl) ?_
  refine st_fn ent13 (alvA) sub0 (by kernel_rfl) ?_
  refine st_fn ent23 (alvB) sub0 (by kernel_rfl) ?_
  refine st_fn ent39 (wof_fn (5400000000000) (by assumption)) sub0 (by kernel_rfl) ?_
  refine st_fn ent10 (alvC) sub0 (by kernel_rfl) ?_
  refine st_fn ent39 (wof_fn (7200000000000) (by assumption)) sub0 (by kernel_rfl) ?_
  exact st_ret Try.func12 (by kernel_rfl)
section
variable (w y e at_ rest : Int)
theorem isplits_y (k : nIn w) (h1 : Fn 14 [] [.int .i64 at_, .int .i64 rest] (.tuple #[wv y, .int .i64 e])) (h2 : Fn 15 [] [.int .i64 at_, .int .i64 rest] (.tuple #[wv y, .int .i64 e])) : Fn 4 [] [wv w, .int .i64 at_, .int .i64 rest] (.bool true) := by
  have hw := nIn_W k
  refine fn_of Try.func4 rfl fun ww => ?_
  refine st_fn ent13 (isplit_yes (w) (by assumption)) sub0 (by kernel_rfl) ?_
  refine st_fn ent14 (h1) sub0 (by kernel_rfl) ?_
  refine st_fn ent15 (h2) sub0 (by kernel_rfl) ?_
  refine st_fn ent12 (alive21) sub0 (by kernel_rfl) ?_
  refine st_fn ent16 (iright_yes (w) (by assumption)) sub0 (by kernel_rfl) ?_
  refine st_fn ent17 (zright21_yes (w) (by assumption) (by assumption)) sub0 (by kernel_rfl) ?_
  refine st_b 46 (show (!(hi y == hi y && (lo y == lo y && true))) = false by simp_all) (by kernel_rfl) ?_
  refine st_b 51 (show (e != e) = false by exact bne_eq_false_iff_eq.2 (by omega)) (by kernel_rfl) ?_
  refine st_fn ent17 (zright21_yes (w) (by assumption) (by assumption)) sub0 (by kernel_rfl) ?_
  refine st_fn ent18 (zsplit (w) (by assumption)) sub0 (by kernel_rfl) ?_
  refine st_b 73 (show (sQ w == sQ w) = true by exact decide_eq_true (by omega)) (by kernel_rfl) ?_
  refine st_b 77 (show (sR w == sR w) = true by exact decide_eq_true (by omega)) (by kernel_rfl) ?_
  exact st_ret Try.func4 (by kernel_rfl)
theorem isplits_n (hw : W128 w) (k : ¬ nIn w) (h1 : Fn 14 [] [.int .i64 at_, .int .i64 rest] (.tuple #[wv y, .int .i64 e])) (h2 : Fn 15 [] [.int .i64 at_, .int .i64 rest] (.tuple #[wv y, .int .i64 e])) : Fn 4 [] [wv w, .int .i64 at_, .int .i64 rest] (.bool true) := by
  refine fn_of Try.func4 rfl fun ww => ?_
  refine st_fn ent13 (isplit_no (w) (by assumption)) sub0 (by kernel_rfl) ?_
  refine st_fn ent14 (h1) sub0 (by kernel_rfl) ?_
  refine st_fn ent15 (h2) sub0 (by kernel_rfl) ?_
  refine st_fn ent12 (alive21) sub0 (by kernel_rfl) ?_
  refine st_fn ent16 (iright_no (w) (by assumption)) sub0 (by kernel_rfl) ?_
  refine st_fn ent17 (zright21_no (w) (by assumption) (by assumption)) sub0 (by kernel_rfl) ?_
  refine st_b 46 (show (!(hi y == hi y && (lo y == lo y && true))) = false by simp_all) (by kernel_rfl) ?_
  refine st_b 51 (show (e != e) = false by exact bne_eq_false_iff_eq.2 (by omega)) (by kernel_rfl) ?_
  refine st_fn ent17 (zright21_no (w) (by assumption) (by assumption)) sub0 (by kernel_rfl) ?_
  exact st_ret Try.func4 (by kernel_rfl)
end
section
variable (w at_ rest : Int)
theorem isplits_j (W : World) (hw : W128 w) (y e : Int) (h1 : Fn 14 [] [.int .i64 at_, .int .i64 rest] (.tuple #[wv y, .int .i64 e])) (h2 : Fn 15 [] [.int .i64 at_, .int .i64 rest] (.tuple #[wv y, .int .i64 e])) : Calls Try.prog 4 #[wv w, .int .i64 at_, .int .i64 rest] W (fun e w' => e = .returned (.bool true) ∧ Ext W w') := by
  by_cases k : nIn w
  · exact isplits_y w y e at_ rest k h1 h2 W (zall_nil W)
  · exact isplits_n w y e at_ rest hw k h1 h2 W (zall_nil W)
theorem law_isplits (W : World) (hw : W128 w) (hi : I64 at_) : Calls Try.prog 4 #[wv w, .int .i64 at_, .int .i64 rest] W (fun e w' => e = .returned (.bool true) ∧ Ext W w') := by
  by_cases r : rest < 0 ∨ 1000000000 ≤ rest
  · exact isplits_j w at_ rest W hw 0 1 (ijoin_arg at_ rest r) (zjoin_arg at_ rest r)
  · by_cases k : nIn (at_ * 1000000000 + rest)
    · exact isplits_j w at_ rest W hw _ 0 (ijoin_yes at_ rest hi (by omega) (by omega) k) (zjoin_yes at_ rest hi (by omega) (by omega) k)
    · exact isplits_j w at_ rest W hw 0 4 (ijoin_no at_ rest hi (by omega) (by omega) k) (zjoin_no at_ rest hi (by omega) (by omega) k)
end
section
variable (w u i m : Int)
theorem irounds_v (y e : Int) (h1 : Fn 10 [] [wv w, .int .i64 u, .int .i64 i, .int .i64 m] (.tuple #[wv y, .int .i64 e])) (h2 : Fn 11 [] [wv w, .int .i64 u, .int .i64 i, .int .i64 m] (.tuple #[wv y, .int .i64 e])) : Fn 3 [] [wv w, .int .i64 u, .int .i64 i, .int .i64 m] (.bool true) := by
  refine fn_of Try.func3 rfl fun ww => ?_
  refine st_fn ent10 (h1) sub0 (by kernel_rfl) ?_
  refine st_fn ent11 (h2) sub0 (by kernel_rfl) ?_
  refine st_fn ent12 (alive21) sub0 (by kernel_rfl) ?_
  refine st_b 33 (show (hi y == hi y && (lo y == lo y && true)) = true by simp_all) (by kernel_rfl) ?_
  exact st_retv Try.func3 (show Value.bool (e == e) = _ by simp) (by kernel_rfl)
theorem fmod_nn {a b : Int} (ha : 0 ≤ a) (hb : 0 ≤ b) : a.fmod b = a.tmod b := by
  rw [Int.fmod_eq_emod_of_nonneg _ hb, Int.tmod_eq_emod_of_nonneg ha]
theorem day_big {st : Int} (h : 86400000000000 < st) : cmpI (Int.fmod 86400000000000 st) 0 ≠ 0 := by
  rw [Int.fmod_eq_emod_of_nonneg _ (by omega), Int.emod_eq_of_lt (by omega) h]; decide
theorem law_irounds (W : World) (hw : W128 w) (hi : I64 i) : Calls Try.prog 3 #[wv w, .int .i64 u, .int .i64 i, .int .i64 m] W (fun e w' => e = .returned (.bool true) ∧ Ext W w') := by
  by_cases k : nIn w
  · by_cases l : 5 ≤ u ∧ u ≤ 8
    · obtain ⟨l1, l2⟩ := l
      by_cases i1 : 1 ≤ i
      · have g2 := ulen_day l1 l2
        have g := ulen_pos (show 4 ≤ u by omega) l2
        by_cases hb : i ≤ (86400000000000 : Int).tdiv (ulen u)
        · have sb := step_b l1 l2 i1 hb
          have fm : (86400000000000 : Int).fmod (i * ulen u) = (86400000000000 : Int).tmod (i * ulen u) := fmod_nn (by omega) (by omega)
          by_cases ht : (86400000000000 : Int).tmod (i * ulen u) = 0
          · have hc : cmpI ((86400000000000 : Int).fmod (i * ulen u)) 0 = 0 := by rw [fm, ht]; decide
            have w2 : W128 (i * ulen u) := by clear fm ht hc; unfold W128; omega
            by_cases hm : 1 ≤ m ∧ m ≤ 9
            · have nr := (nearQ_near (w := w) (d := i * ulen u) (mode := m) (by omega) hm.1 hm.2).1
              obtain ⟨y, ey⟩ : ∃ y, y = i * ulen u * nearQ w (i * ulen u) m := ⟨_, rfl⟩
              rw [← ey] at nr
              have wy : W128 y := by
                have k' := k
                clear fm ht hc w2 ey
                unfold nIn at k'; unfold W128; omega
              have bW := wy
              have ty := to_yes w (i * ulen u) m hw w2 (by omega) hm.1 hm.2 y ey.symm wy
              have ey2 : y = nearQ w (i * ulen u) m * (i * ulen u) := by rw [ey, Int.mul_comm]
              by_cases q : nIn y
              · exact irounds_v w u i m y 0 (irnd_v w u i m _ rfl k l1 l2 i1 hb ht y y 0 ty (ichk_yes y q)) (zrnd21_v w u i m k l1 l2 i1 hi hc hm.1 hm.2 y y 0 ey2 (fun p => ztold21_yes y p (wy.bits.mono (by decide)) q)) W (zall_nil W)
              · exact irounds_v w u i m 0 4 (irnd_v w u i m _ rfl k l1 l2 i1 hb ht y 0 4 ty (ichk_no y q)) (zrnd21_v w u i m k l1 l2 i1 hi hc hm.1 hm.2 y 0 4 ey2 (fun p => ztold21_no y p (wy.bits.mono (by decide)) q)) W (zall_nil W)
            · exact irounds_v w u i m 0 1 (irnd_o w u i m _ rfl k l1 l2 i1 hb ht 0 1 (to_arg2 w (i * ulen u) m hw w2 (by omega) (cmpI_gt (by omega)) (by omega)) (by omega)) (zrnd21_o w u i m k l1 l2 i1 hi hc (by omega)) W (zall_nil W)
          · exact irounds_v w u i m 0 1 (irnd_m w u i m _ rfl k l1 l2 i1 hb ht) (zrnd21_m w u i m k l1 l2 i1 hi (by rw [fm]; intro q; exact ht (cmpI_0.1 q))) W (zall_nil W)
        · have big : 86400000000000 < i * ulen u := by
            have a := Int.mul_le_mul_of_nonneg_right (show (86400000000000 : Int).tdiv (ulen u) + 1 ≤ i by omega) (show 0 ≤ ulen u by omega)
            rw [Int.add_mul, g2.1] at a
            omega
          exact irounds_v w u i m 0 1 (irnd_b w u i m k l1 l2 i1 (by omega)) (zrnd21_m w u i m k l1 l2 i1 hi (day_big big)) W (zall_nil W)
      · exact irounds_v w u i m 0 1 (irnd_i w u i m k l1 l2 (by omega)) (zrnd21_u w u i m k (by omega)) W (zall_nil W)
    · exact irounds_v w u i m 0 1 (irnd_u w u i m k (by omega)) (zrnd21_u w u i m k (by omega)) W (zall_nil W)
  · exact irounds_v w u i m 0 4 (irnd_r w u i m k) (zrnd21_r w u i m hw k) W (zall_nil W)
end
section
variable (v z a b c d h mi s n L : Int)
theorem iadds_v (y e A B C D H M S T f : Int) (h1 : Fn 19 [] [wv v, duv a b c d h mi s n] (.tuple #[wv y, .int .i64 e])) (h2 : Fn 20 [] [wv v, duv a b c d h mi s n] (.tuple #[wv y, .int .i64 e])) (h3 : Fn 21 [] [wv v, wv z, .int .i64 L] (.tuple #[duv A B C D H M S T, .int .i64 f])) (h4 : Fn 22 [] [wv v, wv z, .int .i64 L] (.tuple #[duv A B C D H M S T, .int .i64 f])) : Fn 5 [] [wv v, wv z, duv a b c d h mi s n, .int .i64 L] (.bool true) := by
  refine fn_of Try.func5 rfl fun ww => ?_
  refine st_fn ent19 (h1) sub0 (by kernel_rfl) ?_
  refine st_fn ent20 (h2) sub0 (by kernel_rfl) ?_
  refine st_fn ent21 (h3) sub0 (by kernel_rfl) ?_
  refine st_fn ent22 (h4) sub0 (by kernel_rfl) ?_
  refine st_fn ent12 (alive21) sub0 (by kernel_rfl) ?_
  refine st_b 47 (show (hi y == hi y && (lo y == lo y && true)) = true by simp_all) (by kernel_rfl) ?_
  refine st_b 52 (show (e == e) = true by exact decide_eq_true (by omega)) (by kernel_rfl) ?_
  refine st_b 57 (show (A == A && (B == B && (C == C && (D == D && (H == H && (M == M && (S == S && (T == T && true)))))))) = true by simp_all) (by kernel_rfl) ?_
  exact st_retv Try.func5 (show Value.bool (f == f) = _ by simp) (by kernel_rfl)
theorem iadds_1 (hv : W128 v) (j : all64 a b c d h mi s n) : ∃ y e, Fn 19 [] [wv v, duv a b c d h mi s n] (.tuple #[wv y, .int .i64 e]) ∧ Fn 20 [] [wv v, duv a b c d h mi s n] (.tuple #[wv y, .int .i64 e]) := by
  by_cases k : nIn v
  · by_cases l : uTm a b c d h mi s n
    · have bb := ex_tot l.1
      have k' := k
      unfold nIn at k'
      have wy : W128 (v + dtot d h mi s n) := by unfold W128; omega
      have by_ : Bits 900 (v + dtot d h mi s n) := wy.bits.mono (by decide)
      by_cases q : nIn (v + dtot d h mi s n)
      · exact ⟨_, 0, iadd_v v a b c d h mi s n _ 0 k j l (ichk_yes _ q), zadd21_v v a b c d h mi s n _ 0 k j l (fun p => ztold21_yes _ p by_ q)⟩
      · exact ⟨0, 4, iadd_v v a b c d h mi s n 0 4 k j l (ichk_no _ q), zadd21_v v a b c d h mi s n 0 4 k j l (fun p => ztold21_no _ p by_ q)⟩
    · exact ⟨0, 1, iadd_a v a b c d h mi s n k j l, zadd21_a v a b c d h mi s n k j l⟩
  · exact ⟨0, 4, iadd_r v a b c d h mi s n k, zadd21_r v a b c d h mi s n hv k⟩
theorem iunts_1 (hv : W128 v) (hz : W128 z) : ∃ A B C D H M S T f, Fn 21 [] [wv v, wv z, .int .i64 L] (.tuple #[duv A B C D H M S T, .int .i64 f]) ∧ Fn 22 [] [wv v, wv z, .int .i64 L] (.tuple #[duv A B C D H M S T, .int .i64 f]) := by
  by_cases k : nIn v ∧ nIn z
  · obtain ⟨k1, k2⟩ := k
    by_cases l : 5 ≤ L ∧ L ≤ 8
    · have wy : W128 (z - v) := by
        have q1 := k1
        have q2 := k2
        unfold nIn at q1 q2; unfold W128; omega
      by_cases q : layOk L (z - v)
      · exact ⟨0, 0, 0, _, _, _, _, _, 0, iunt_v v z L 0 0 0 _ _ _ _ _ 0 k1 k2 l.1 l.2 (ulay_y L _ wy q), zunt_v v z L 0 0 0 _ _ _ _ _ 0 k1 k2 l.1 l.2 (fun p => zulay_y L _ p wy q)⟩
      · exact ⟨0, 0, 0, 0, 0, 0, 0, 0, 4, iunt_v v z L 0 0 0 0 0 0 0 0 4 k1 k2 l.1 l.2 (ulay_n L _ wy (by omega) l.2 q), zunt_v v z L 0 0 0 0 0 0 0 0 4 k1 k2 l.1 l.2 (fun p => zulay_n L _ p wy (by omega) l.2 q)⟩
    · exact ⟨0, 0, 0, 0, 0, 0, 0, 0, 1, iunt_a v z L k1 k2 (by omega), zunt_a v z L k1 k2 (by omega)⟩
  · exact ⟨0, 0, 0, 0, 0, 0, 0, 0, 4, iunt_r v z L k, zunt_r v z L hv hz k⟩
theorem law_iadds (W : World) (hv : W128 v) (hz : W128 z) (j : all64 a b c d h mi s n) : Calls Try.prog 5 #[wv v, wv z, duv a b c d h mi s n, .int .i64 L] W (fun e w' => e = .returned (.bool true) ∧ Ext W w') := by
  obtain ⟨y, e, h1, h2⟩ := iadds_1 v a b c d h mi s n hv j
  obtain ⟨A, B, C, D, H, M, S, T, f, h3, h4⟩ := iunts_1 v z L hv hz
  exact iadds_v v z a b c d h mi s n L y e A B C D H M S T f h1 h2 h3 h4 W (zall_nil W)
end
section
variable (v z L o : Int)
/-- What Until answers: an error, or what brings the first one to the second one. -/
theorem iunt_e (hv : W128 v) (hz : W128 z) : (∃ A B C D H M S T f, f ≠ 0 ∧ Fn 21 [] [wv v, wv z, .int .i64 L] (.tuple #[duv A B C D H M S T, .int .i64 f])) ∨
    ∃ H M S T, Fn 21 [] [wv v, wv z, .int .i64 L] (.tuple #[duv 0 0 0 0 H M S T, .int .i64 0]) ∧ Fn 19 [] [wv v, duv 0 0 0 0 H M S T] (.tuple #[wv z, .int .i64 0]) := by
  by_cases k : nIn v ∧ nIn z
  · obtain ⟨k1, k2⟩ := k
    by_cases l : 5 ≤ L ∧ L ≤ 8
    · have wy : W128 (z - v) := by
        have q1 := k1
        have q2 := k2
        unfold nIn at q1 q2; unfold W128; omega
      by_cases q : layOk L (z - v)
      · have o := lay_ok q
        have a := lay_64 q
        have t := (lay_tot (x := z - v) q.1.1 q.1.2).1
        have z4 : l4 L (z - v) = 0 := by unfold l4; rw [if_neg (by omega)]
        have u1 := iunt_v v z L 0 0 0 _ _ _ _ _ 0 k1 k2 l.1 l.2 (ulay_y L _ wy q)
        rw [z4] at o a t u1
        have e : v + dtot 0 (l5 L (z - v)) (l6 L (z - v)) (l7 L (z - v)) (l8 L (z - v)) = z := by rw [t]; omega
        exact .inr ⟨_, _, _, _, u1, iadd_v v 0 0 0 0 _ _ _ _ z 0 k1 a ⟨o, rfl⟩ (by rw [e]; exact ichk_yes z k2)⟩
      · exact .inl ⟨0, 0, 0, 0, 0, 0, 0, 0, 4, by omega, iunt_v v z L 0 0 0 0 0 0 0 0 4 k1 k2 l.1 l.2 (ulay_n L _ wy (by omega) l.2 q)⟩
    · exact .inl ⟨0, 0, 0, 0, 0, 0, 0, 0, 1, by omega, iunt_a v z L k1 k2 (by omega)⟩
  · exact .inl ⟨0, 0, 0, 0, 0, 0, 0, 0, 4, by omega, iunt_r v z L k⟩
theorem iloc_e : (∃ y mo d h m s n f, f ≠ 0 ∧ Fn 23 [] [wv v, .int .i64 o] (.tuple #[ptv y mo d h m s n, .int .i64 f])) ∨
    ∃ y mo d h m s n, Fn 23 [] [wv v, .int .i64 o] (.tuple #[ptv y mo d h m s n, .int .i64 0]) ∧ Fn 24 [] [ptv y mo d h m s n, .int .i64 o] (.tuple #[wv v, .int .i64 0]) := by
  by_cases k : nIn v
  · by_cases q : oOk o
    · have hp := loc_in k q
      obtain ⟨r1, r2⟩ := of_pOk hp
      have e : v + o * 1000000000 - o * 1000000000 = v := by omega
      have f := ifrom_y o _ _ _ _ _ _ _ r1 q (by rw [r2, e]; exact k)
      rw [r2, e] at f
      exact .inr ⟨_, _, _, _, _, _, _, ilocal_y v o k q, f⟩
    · exact .inl ⟨0, 0, 0, 0, 0, 0, 0, 1, by omega, ilocal_a v o k q⟩
  · exact .inl ⟨0, 0, 0, 0, 0, 0, 0, 4, by omega, ilocal_r v o k⟩
theorem ispl_e : (∃ q r f, f ≠ 0 ∧ Fn 13 [] [wv v] (.tuple #[.int .i64 q, .int .i64 r, .int .i64 f])) ∨
    ∃ q r, Fn 13 [] [wv v] (.tuple #[.int .i64 q, .int .i64 r, .int .i64 0]) ∧ Fn 14 [] [.int .i64 q, .int .i64 r] (.tuple #[wv v, .int .i64 0]) := by
  by_cases k : nIn v
  · obtain ⟨e, q2, q3, q4, q5⟩ := sQ_in k
    have f := ijoin_yes (sQ v) (sR v) (by unfold I64; omega) q2 q3 (by rw [e]; exact k)
    rw [e] at f
    exact .inr ⟨_, _, isplit_yes v k, f⟩
  · exact .inl ⟨0, 0, 4, by omega, isplit_no v k⟩
theorem iback_v (A B C D H M S T f y mo d h m s n g q r p : Int) (h1 : Fn 21 [] [wv v, wv z, .int .i64 L] (.tuple #[duv A B C D H M S T, .int .i64 f])) (h2 : f ≠ 0 ∨ f = 0 ∧ Fn 19 [] [wv v, duv A B C D H M S T] (.tuple #[wv z, .int .i64 0]))
    (h3 : Fn 23 [] [wv v, .int .i64 o] (.tuple #[ptv y mo d h m s n, .int .i64 g])) (h4 : g ≠ 0 ∨ g = 0 ∧ Fn 24 [] [ptv y mo d h m s n, .int .i64 o] (.tuple #[wv v, .int .i64 0]))
    (h5 : Fn 13 [] [wv v] (.tuple #[.int .i64 q, .int .i64 r, .int .i64 p])) (h6 : p ≠ 0 ∨ p = 0 ∧ Fn 14 [] [.int .i64 q, .int .i64 r] (.tuple #[wv v, .int .i64 0])) : Fn 6 [] [wv v, wv z, .int .i64 L, .int .i64 o] (.bool true) := by
  rcases h2 with n2 | ⟨rfl, kon2⟩
  · rcases h4 with n4 | ⟨rfl, kon4⟩
    · rcases h6 with n6 | ⟨rfl, kon6⟩
      · refine fn_of Try.func6 rfl fun ww => ?_
        refine st_fn ent21 (h1) sub0 (by kernel_rfl) ?_
        refine st_b 29 (show (f == 0) = false by exact decide_eq_false (by omega)) (by kernel_rfl) ?_
        refine st_fn ent23 (h3) sub0 (by kernel_rfl) ?_
        refine st_b 50 (show (g == 0) = false by exact decide_eq_false (by omega)) (by kernel_rfl) ?_
        refine st_fn ent13 (h5) sub0 (by kernel_rfl) ?_
        refine st_b 71 (show (p == 0) = false by exact decide_eq_false (by omega)) (by kernel_rfl) ?_
        refine st_fn ent12 (alive21) sub0 (by kernel_rfl) ?_
        exact st_ret Try.func6 (by kernel_rfl)
      · refine fn_of Try.func6 rfl fun ww => ?_
        refine st_fn ent21 (h1) sub0 (by kernel_rfl) ?_
        refine st_b 29 (show (f == 0) = false by exact decide_eq_false (by omega)) (by kernel_rfl) ?_
        refine st_fn ent23 (h3) sub0 (by kernel_rfl) ?_
        refine st_b 50 (show (g == 0) = false by exact decide_eq_false (by omega)) (by kernel_rfl) ?_
        refine st_fn ent13 (h5) sub0 (by kernel_rfl) ?_
        refine st_fn ent14 (kon6) sub0 (by kernel_rfl) ?_
        refine st_b 83 (show (!(hi v == hi v && (lo v == lo v && true))) = false by simp_all) (by kernel_rfl) ?_
        refine st_fn ent12 (alive21) sub0 (by kernel_rfl) ?_
        exact st_ret Try.func6 (by kernel_rfl)
    · rcases h6 with n6 | ⟨rfl, kon6⟩
      · refine fn_of Try.func6 rfl fun ww => ?_
        refine st_fn ent21 (h1) sub0 (by kernel_rfl) ?_
        refine st_b 29 (show (f == 0) = false by exact decide_eq_false (by omega)) (by kernel_rfl) ?_
        refine st_fn ent23 (h3) sub0 (by kernel_rfl) ?_
        refine st_fn ent24 (kon4) sub0 (by kernel_rfl) ?_
        refine st_b 62 (show (!(hi v == hi v && (lo v == lo v && true))) = false by simp_all) (by kernel_rfl) ?_
        refine st_fn ent13 (h5) sub0 (by kernel_rfl) ?_
        refine st_b 71 (show (p == 0) = false by exact decide_eq_false (by omega)) (by kernel_rfl) ?_
        refine st_fn ent12 (alive21) sub0 (by kernel_rfl) ?_
        exact st_ret Try.func6 (by kernel_rfl)
      · refine fn_of Try.func6 rfl fun ww => ?_
        refine st_fn ent21 (h1) sub0 (by kernel_rfl) ?_
        refine st_b 29 (show (f == 0) = false by exact decide_eq_false (by omega)) (by kernel_rfl) ?_
        refine st_fn ent23 (h3) sub0 (by kernel_rfl) ?_
        refine st_fn ent24 (kon4) sub0 (by kernel_rfl) ?_
        refine st_b 62 (show (!(hi v == hi v && (lo v == lo v && true))) = false by simp_all) (by kernel_rfl) ?_
        refine st_fn ent13 (h5) sub0 (by kernel_rfl) ?_
        refine st_fn ent14 (kon6) sub0 (by kernel_rfl) ?_
        refine st_b 83 (show (!(hi v == hi v && (lo v == lo v && true))) = false by simp_all) (by kernel_rfl) ?_
        refine st_fn ent12 (alive21) sub0 (by kernel_rfl) ?_
        exact st_ret Try.func6 (by kernel_rfl)
  · rcases h4 with n4 | ⟨rfl, kon4⟩
    · rcases h6 with n6 | ⟨rfl, kon6⟩
      · refine fn_of Try.func6 rfl fun ww => ?_
        refine st_fn ent21 (h1) sub0 (by kernel_rfl) ?_
        refine st_fn ent19 (kon2) sub0 (by kernel_rfl) ?_
        refine st_b 41 (show (!(hi z == hi z && (lo z == lo z && true))) = false by simp_all) (by kernel_rfl) ?_
        refine st_fn ent23 (h3) sub0 (by kernel_rfl) ?_
        refine st_b 50 (show (g == 0) = false by exact decide_eq_false (by omega)) (by kernel_rfl) ?_
        refine st_fn ent13 (h5) sub0 (by kernel_rfl) ?_
        refine st_b 71 (show (p == 0) = false by exact decide_eq_false (by omega)) (by kernel_rfl) ?_
        refine st_fn ent12 (alive21) sub0 (by kernel_rfl) ?_
        exact st_ret Try.func6 (by kernel_rfl)
      · refine fn_of Try.func6 rfl fun ww => ?_
        refine st_fn ent21 (h1) sub0 (by kernel_rfl) ?_
        refine st_fn ent19 (kon2) sub0 (by kernel_rfl) ?_
        refine st_b 41 (show (!(hi z == hi z && (lo z == lo z && true))) = false by simp_all) (by kernel_rfl) ?_
        refine st_fn ent23 (h3) sub0 (by kernel_rfl) ?_
        refine st_b 50 (show (g == 0) = false by exact decide_eq_false (by omega)) (by kernel_rfl) ?_
        refine st_fn ent13 (h5) sub0 (by kernel_rfl) ?_
        refine st_fn ent14 (kon6) sub0 (by kernel_rfl) ?_
        refine st_b 83 (show (!(hi v == hi v && (lo v == lo v && true))) = false by simp_all) (by kernel_rfl) ?_
        refine st_fn ent12 (alive21) sub0 (by kernel_rfl) ?_
        exact st_ret Try.func6 (by kernel_rfl)
    · rcases h6 with n6 | ⟨rfl, kon6⟩
      · refine fn_of Try.func6 rfl fun ww => ?_
        refine st_fn ent21 (h1) sub0 (by kernel_rfl) ?_
        refine st_fn ent19 (kon2) sub0 (by kernel_rfl) ?_
        refine st_b 41 (show (!(hi z == hi z && (lo z == lo z && true))) = false by simp_all) (by kernel_rfl) ?_
        refine st_fn ent23 (h3) sub0 (by kernel_rfl) ?_
        refine st_fn ent24 (kon4) sub0 (by kernel_rfl) ?_
        refine st_b 62 (show (!(hi v == hi v && (lo v == lo v && true))) = false by simp_all) (by kernel_rfl) ?_
        refine st_fn ent13 (h5) sub0 (by kernel_rfl) ?_
        refine st_b 71 (show (p == 0) = false by exact decide_eq_false (by omega)) (by kernel_rfl) ?_
        refine st_fn ent12 (alive21) sub0 (by kernel_rfl) ?_
        exact st_ret Try.func6 (by kernel_rfl)
      · refine fn_of Try.func6 rfl fun ww => ?_
        refine st_fn ent21 (h1) sub0 (by kernel_rfl) ?_
        refine st_fn ent19 (kon2) sub0 (by kernel_rfl) ?_
        refine st_b 41 (show (!(hi z == hi z && (lo z == lo z && true))) = false by simp_all) (by kernel_rfl) ?_
        refine st_fn ent23 (h3) sub0 (by kernel_rfl) ?_
        refine st_fn ent24 (kon4) sub0 (by kernel_rfl) ?_
        refine st_b 62 (show (!(hi v == hi v && (lo v == lo v && true))) = false by simp_all) (by kernel_rfl) ?_
        refine st_fn ent13 (h5) sub0 (by kernel_rfl) ?_
        refine st_fn ent14 (kon6) sub0 (by kernel_rfl) ?_
        refine st_b 83 (show (!(hi v == hi v && (lo v == lo v && true))) = false by simp_all) (by kernel_rfl) ?_
        refine st_fn ent12 (alive21) sub0 (by kernel_rfl) ?_
        exact st_ret Try.func6 (by kernel_rfl)
theorem law_iback (W : World) (hv : W128 v) (hz : W128 z) : Calls Try.prog 6 #[wv v, wv z, .int .i64 L, .int .i64 o] W (fun e w' => e = .returned (.bool true) ∧ Ext W w') := by
  obtain ⟨A, B, C, D, H, M, S, T, f, h1, h2⟩ : ∃ A B C D H M S T f, Fn 21 [] [wv v, wv z, .int .i64 L] (.tuple #[duv A B C D H M S T, .int .i64 f]) ∧ (f ≠ 0 ∨ f = 0 ∧ Fn 19 [] [wv v, duv A B C D H M S T] (.tuple #[wv z, .int .i64 0])) := by
    rcases iunt_e v z L hv hz with ⟨A, B, C, D, H, M, S, T, f, q, x⟩ | ⟨H, M, S, T, x, x2⟩
    · exact ⟨A, B, C, D, H, M, S, T, f, x, .inl q⟩
    · exact ⟨0, 0, 0, 0, H, M, S, T, 0, x, .inr ⟨rfl, x2⟩⟩
  obtain ⟨y, mo, d, h, m, s, n, g, h3, h4⟩ : ∃ y mo d h m s n g, Fn 23 [] [wv v, .int .i64 o] (.tuple #[ptv y mo d h m s n, .int .i64 g]) ∧ (g ≠ 0 ∨ g = 0 ∧ Fn 24 [] [ptv y mo d h m s n, .int .i64 o] (.tuple #[wv v, .int .i64 0])) := by
    rcases iloc_e v o with ⟨y, mo, d, h, m, s, n, f, q, x⟩ | ⟨y, mo, d, h, m, s, n, x, x2⟩
    · exact ⟨y, mo, d, h, m, s, n, f, x, .inl q⟩
    · exact ⟨y, mo, d, h, m, s, n, 0, x, .inr ⟨rfl, x2⟩⟩
  obtain ⟨q, r, p, h5, h6⟩ : ∃ q r p, Fn 13 [] [wv v] (.tuple #[.int .i64 q, .int .i64 r, .int .i64 p]) ∧ (p ≠ 0 ∨ p = 0 ∧ Fn 14 [] [.int .i64 q, .int .i64 r] (.tuple #[wv v, .int .i64 0])) := by
    rcases ispl_e v with ⟨q, r, f, g, x⟩ | ⟨q, r, x, x2⟩
    · exact ⟨q, r, f, x, .inl g⟩
    · exact ⟨q, r, 0, x, .inr ⟨rfl, x2⟩⟩
  exact iback_v v z L o A B C D H M S T f y mo d h m s n g q r p h1 h2 h3 h4 h5 h6 W (zall_nil W)
end
end Go.Proofs.Ytccllfegnijpiaa
end
section
/-
  What comes in: a wide number by its two halves, numbers by their bounds.
-/
namespace Go.Proofs.Ytccllfegnijpiaa
open Go Go.RowKit

theorem i64_in {n : Int} (h : (Lit.int .i64 n).wf = true) : I64 n := bounds_i64 h
theorem wide_in {a b : Int} (h : (Lit.int .i64 a).wf = true) (h' : (Lit.int .u64 b).wf = true) : ∃ n, W128 n ∧ a = hi n ∧ b = lo n := by
  obtain ⟨h1, h2⟩ := bounds_i64 h
  obtain ⟨h3, h4⟩ := bounds_u64 h'
  obtain ⟨e1, e2⟩ := of_hi_lo a b h3 (by omega)
  exact ⟨a * 18446744073709551616 + b, by unfold W128; omega, e1.symm, e2.symm⟩
end Go.Proofs.Ytccllfegnijpiaa
end
section
/-
  Eight numbers that come in have room in 64 bits.
-/
namespace Go.Proofs.Ytccllfegnijpiaa

theorem all64_of {a b c d h mi s n : Int} (k : ∀ x ∈ [a, b, c, d, h, mi, s, n], I64 x) : all64 a b c d h mi s n :=
  ⟨k a (by simp), k b (by simp), k c (by simp), k d (by simp), k h (by simp), k mi (by simp), k s (by simp), k n (by simp)⟩
end Go.Proofs.Ytccllfegnijpiaa
end
section
/-
  A struct of so many 64-bit numbers that comes in.
-/
namespace Go.Proofs.Ytccllfegnijpiaa
open Go Go.RowKit

def intRow (P : Program) (t : TypeId) (n : Nat) : Bool := (match P.underlying t with
  | some (.struct _) => true
  | some (.array _ _) => true
  | _ => false) && decide (P.cellsOf t = n) && match P.cellTypes P.depth t with
  | some ts => decide (ts.length = n) && ts.all fun u => match P.underlying u with
    | some (.int .i64) => true
    | _ => false
  | none => false
theorem cells_in {P : Program} {w : World} {r : Reach} {b : Nat} {ts : List TypeId} (ha : ∀ u, u ∈ ts → P.underlying u = some (.int .i64)) (hne : 0 < ts.length) : ∀ (l : List Value),
    (∀ (i : Nat) (v : Value), l[i]? = some v → ∃ (j : Nat) (u : TypeId), ts[j]? = some u ∧ Cell.okWide P w r b u v) → ∃ xs : List Int, l = xs.map (Value.int .i64) ∧ ∀ x ∈ xs, I64 x
  | [], _ => ⟨[], rfl, fun x h => by cases h⟩
  | v :: l, h => by
    obtain ⟨xs, h1, h2⟩ := cells_in ha hne l fun i v hv => h (i + 1) v (by simpa using hv)
    obtain ⟨j, u, hu, hc⟩ := h 0 v rfl
    have hU := ha u (List.mem_of_getElem? hu)
    obtain ⟨x, rfl, hx⟩ : ∃ x, v = .int .i64 x ∧ I64 x := by
      simp only [Cell.okWide, hU] at hc
      cases v <;> simp [Cell.ok, hU] at hc
      rename_i k x
      obtain ⟨rfl, hk⟩ := hc
      refine ⟨x, rfl, ?_⟩
      have m0 : IntKind.i64.min = -9223372036854775808 := by decide
      have m1 : IntKind.i64.max = 9223372036854775807 := by decide
      unfold IntKind.has at hk
      rw [m0, m1] at hk
      exact hk
    exact ⟨x :: xs, by rw [h1]; rfl, fun y hy => by
      rcases List.mem_cons.1 hy with rfl | hy
      · exact hx
      · exact h2 y hy⟩
theorem ints_in {P : Program} {w : World} {r : Reach} {b : Nat} {t : TypeId} {n : Nat} {v : Value} (hn : 0 < n) (ht : intRow P t n = true) (hv : Value.okWide P w r b t v) : ∃ xs : List Int, v = .agg (xs.map (Value.int .i64)).toArray ∧ xs.length = n ∧ ∀ x ∈ xs, I64 x := by
  unfold intRow at ht
  rw [Bool.and_eq_true, Bool.and_eq_true] at ht
  obtain ⟨⟨hs, hc⟩, hl⟩ := ht
  obtain ⟨cs, rfl, hsz, ts, hts, -, hcell⟩ : ∃ cs, v = .agg cs ∧ cs.size = P.cellsOf t ∧ Row.okWide P w r b t cs := by
    unfold Value.okWide at hv
    split at hv
    · exact hv
    · exact hv
    · rename_i h1 h2
      split at hs
      · rename_i fs h; exact absurd h (h1 fs)
      · rename_i m e h; exact absurd h (h2 m e)
      · cases hs
  rw [hts] at hl
  simp only [Bool.and_eq_true, decide_eq_true_eq, List.all_eq_true] at hl hc
  have ha : ∀ u ∈ ts, P.underlying u = some (.int .i64) := fun u hu => by
    have := hl.2 u hu
    split at this
    · assumption
    · cases this
  obtain ⟨xs, h1, h2⟩ := cells_in (P := P) (w := w) (r := r) (b := b) ha (by omega) cs.toList fun i v hv => by
    obtain ⟨u, h3, h4⟩ := hcell i v (by simpa using hv)
    exact ⟨_, u, h3, h4⟩
  have e : cs = (xs.map (Value.int .i64)).toArray := by rw [← h1]
  refine ⟨xs, by rw [e], ?_, h2⟩
  have := congrArg Array.size e
  simp at this; omega
theorem list8 {α : Type} {l : List α} (h : l.length = 8) : ∃ a b c d e f g i, l = [a, b, c, d, e, f, g, i] := by
  match l, h with
  | [a, b, c, d, e, f, g, i], _ => exact ⟨a, b, c, d, e, f, g, i, rfl⟩
end Go.Proofs.Ytccllfegnijpiaa
end
