/-
  Texts joined: Duf, Dul, Duh, Cav, Cuv, Cbk, Enz, Plz, Cay, In, Inn. Each says at its head what it shows.
-/
import Derived.OpenShut
import Derived.WideShapes
import Derived.Test.YtccllfegnijpiaaGreatPEe
section
/-
  A total laid out, as the reference does it.
-/
set_option linter.unusedVariables false
set_option maxRecDepth 100000
namespace Go.Proofs.YtccllfegnijpiaaGreat
open Go Go.RowKit Go.Ev

section
variable (p q : ZQ) (y A B : Int)
theorem zdt (h0 : 0 ≤ y) (hy : Bits 900 y) (hB : 0 < B) (hB2 : Bits 900 B) : FnZZ 59 [(p, y), (q, B)] [zv p, zv q] (fun q => .tuple #[zv q.1, zv q.2]) (y.tdiv B) (y.tmod B) := by
  have t := fzdiv p q y B (hy.mono (by decide)) (hB2.mono (by decide)) (by omega)
  rwa [Int.fdiv_eq_ediv_of_nonneg _ (by omega), Int.fmod_eq_emod_of_nonneg _ (by omega), ← Int.tdiv_eq_ediv_of_nonneg h0, ← Int.tmod_eq_emod_of_nonneg h0] at t
theorem tmod_nb (h0 : 0 ≤ y) (hA : 0 < A) (hA2 : Bits 900 A) : 0 ≤ y.tmod A ∧ Bits 900 (y.tmod A) := by
  have e := (td y A hA).2.1 h0
  exact ⟨e.2.1, hA2.le (by omega)⟩
theorem zdc (h0 : 0 ≤ y) (hA : 0 < A) (hA2 : Bits 900 A) (hB : 0 < B) (hB2 : Bits 900 B) (hd : B ∣ A) : FnZZ 59 [(p, y.tmod A), (q, B)] [zv p, zv q] (fun q => .tuple #[zv q.1, zv q.2]) ((y.tmod A).tdiv B) (y.tmod B) := by
  obtain ⟨a, b⟩ := tmod_nb y A h0 hA hA2
  have t := zdt p q (y.tmod A) B a b hB hB2
  rwa [Int.tmod_tmod_of_dvd y hd] at t
theorem tdvb (h0 : 0 ≤ y) (hy : Bits 900 y) (hB : 0 < B) : Bits 900 (y.tdiv B) := by
  obtain ⟨e1, e2, e3⟩ := td y B hB
  have g := e2 h0
  have : y.tdiv B ≤ y.tdiv B * B := by have := Int.mul_le_mul_of_nonneg_left (show 1 ≤ B by omega) g.1; omega
  exact hy.le (by omega)
theorem zng (hy : Bits 900 y) : FnZ 95 [(p, y)] [zv p] zv (-y) := fzneg p y (hy.fit (by decide))
end
theorem zulay4p_y (p : ZQ) (x : Int) (hx : W128 x) (h0 : 0 ≤ x) (g : I64 (x.tdiv 86400000000000)) (k : uOk 0 0 0 (x.tdiv 86400000000000) ((x.tmod 86400000000000).tdiv 3600000000000) ((x.tmod 3600000000000).tdiv 60000000000) ((x.tmod 60000000000).tdiv 1000000000) (x.tmod 1000000000)) : Fn 67 [(p, x)] [zv p, .int .i64 4] (.tuple #[duv 0 0 0 (x.tdiv 86400000000000) ((x.tmod 86400000000000).tdiv 3600000000000) ((x.tmod 3600000000000).tdiv 60000000000) ((x.tmod 60000000000).tdiv 1000000000) (x.tmod 1000000000), .int .i64 0]) := by
  have hy : Bits 900 x := hx.bits.mono (by decide)
  have y0 : 0 ≤ x := by omega
  have bL4 : Bits 900 86400000000000 := Bits.mono (show W128 86400000000000 by unfold W128; omega).bits (by decide)
  have bL5 : Bits 900 3600000000000 := Bits.mono (show W128 3600000000000 by unfold W128; omega).bits (by decide)
  have bL6 : Bits 900 60000000000 := Bits.mono (show W128 60000000000 by unfold W128; omega).bits (by decide)
  have bL7 : Bits 900 1000000000 := Bits.mono (show W128 1000000000 by unfold W128; omega).bits (by decide)
  have bL8 : Bits 900 1 := Bits.mono (show W128 1 by unfold W128; omega).bits (by decide)
  have j1 : I64 86400000000000 := by unfold I64; omega
  have j2 : I64 3600000000000 := by unfold I64; omega
  have j3 : I64 60000000000 := by unfold I64; omega
  have j4 : I64 1000000000 := by unfold I64; omega
  have j5 : I64 1 := by unfold I64; omega
  have j0 : I64 0 := by unfold I64; omega
  have fa : ∀ p : ZQ, FnZ 112 [(p, x)] [zv p] zv x := fun p => by
    have t := fzabs p x (hx.bits.fit (by decide))
    rwa [show ((x.natAbs : Nat) : Int) = x by omega] at t
  have d0 : ∀ p q : ZQ, FnZZ 59 [(p, x), (q, 86400000000000)] [zv p, zv q] (fun q => .tuple #[zv q.1, zv q.2]) (x.tdiv 86400000000000) (x.tmod 86400000000000) := fun p q => zdt p q x 86400000000000 y0 hy (by omega) bL4
  have d1 : ∀ p q : ZQ, FnZZ 59 [(p, x.tmod 86400000000000), (q, 3600000000000)] [zv p, zv q] (fun q => .tuple #[zv q.1, zv q.2]) ((x.tmod 86400000000000).tdiv 3600000000000) (x.tmod 3600000000000) := fun p q => zdc p q x 86400000000000 3600000000000 y0 (by omega) bL4 (by omega) bL5 (by decide)
  have d2 : ∀ p q : ZQ, FnZZ 59 [(p, x.tmod 3600000000000), (q, 60000000000)] [zv p, zv q] (fun q => .tuple #[zv q.1, zv q.2]) ((x.tmod 3600000000000).tdiv 60000000000) (x.tmod 60000000000) := fun p q => zdc p q x 3600000000000 60000000000 y0 (by omega) bL5 (by omega) bL6 (by decide)
  have d3 : ∀ p q : ZQ, FnZZ 59 [(p, x.tmod 60000000000), (q, 1000000000)] [zv p, zv q] (fun q => .tuple #[zv q.1, zv q.2]) ((x.tmod 60000000000).tdiv 1000000000) (x.tmod 1000000000) := fun p q => zdc p q x 60000000000 1000000000 y0 (by omega) bL6 (by omega) bL7 (by decide)
  have d4 : ∀ p q : ZQ, FnZZ 59 [(p, x.tmod 1000000000), (q, 1)] [zv p, zv q] (fun q => .tuple #[zv q.1, zv q.2]) ((x.tmod 1000000000).tdiv 1) (x.tmod 1) := fun p q => zdc p q x 1000000000 1 y0 (by omega) bL7 (by omega) bL8 (by decide)
  have g5 : I64 ((x.tmod 86400000000000).tdiv 3600000000000) := by have := td2 x 86400000000000 3600000000000 24 (by decide) (by omega) (by omega); unfold I64; omega
  have g6 : I64 ((x.tmod 3600000000000).tdiv 60000000000) := by have := td2 x 3600000000000 60000000000 60 (by decide) (by omega) (by omega); unfold I64; omega
  have g7 : I64 ((x.tmod 60000000000).tdiv 1000000000) := by have := td2 x 60000000000 1000000000 60 (by decide) (by omega) (by omega); unfold I64; omega
  have g8 : I64 (x.tmod 1000000000) := by
    obtain ⟨e1, e2, e3⟩ := td x 1000000000 (by omega)
    by_cases z : 0 ≤ x
    · have := e2 z; unfold I64; omega
    · have := e3 (by omega); unfold I64; omega
  have f0 : ∀ p : ZQ, Fn 54 [(p, x.tdiv 86400000000000)] [zv p] (.tuple #[.int .i64 (x.tdiv 86400000000000), .bool true]) := fun p => by
    have t := fits_f p (x.tdiv 86400000000000) (g.w.bits.mono (by decide)) g
    exact t
  have f1 : ∀ p : ZQ, Fn 54 [(p, (x.tmod 86400000000000).tdiv 3600000000000)] [zv p] (.tuple #[.int .i64 ((x.tmod 86400000000000).tdiv 3600000000000), .bool true]) := fun p => by
    have t := fits_f p ((x.tmod 86400000000000).tdiv 3600000000000) (g5.w.bits.mono (by decide)) g5
    exact t
  have f2 : ∀ p : ZQ, Fn 54 [(p, (x.tmod 3600000000000).tdiv 60000000000)] [zv p] (.tuple #[.int .i64 ((x.tmod 3600000000000).tdiv 60000000000), .bool true]) := fun p => by
    have t := fits_f p ((x.tmod 3600000000000).tdiv 60000000000) (g6.w.bits.mono (by decide)) g6
    exact t
  have f3 : ∀ p : ZQ, Fn 54 [(p, (x.tmod 60000000000).tdiv 1000000000)] [zv p] (.tuple #[.int .i64 ((x.tmod 60000000000).tdiv 1000000000), .bool true]) := fun p => by
    have t := fits_f p ((x.tmod 60000000000).tdiv 1000000000) (g7.w.bits.mono (by decide)) g7
    exact t
  have f4 : ∀ p : ZQ, Fn 54 [(p, (x.tmod 1000000000).tdiv 1)] [zv p] (.tuple #[.int .i64 (x.tmod 1000000000), .bool true]) := fun p => by
    have t := fits_f p (x.tmod 1000000000) (g8.w.bits.mono (by decide)) g8
    simpa only [tdiv_1] using t
  have r := zuright_y 0 0 0 (x.tdiv 86400000000000) ((x.tmod 86400000000000).tdiv 3600000000000) ((x.tmod 3600000000000).tdiv 60000000000) ((x.tmod 60000000000).tdiv 1000000000) (x.tmod 1000000000) ⟨j0, j0, j0, g, g5, g6, g7, g8⟩ k
  refine fn_of Tryz.func67 rfl fun ww => ?_
  refine st_know (p := p.n = false) (fun w hw => by rw [z_neg (hw (p, x) (by simp))]; simp; omega) fun hn => ?_
  clear hy y0 g hx k
  refine st_fn ent126 (zulen4) sub0 (by kernel_rfl) ?_
  refine st_g ent112 (fa (p)) (subC 0 rfl sub0) (by kernel_rfl) (fun zq1 => ?_)
  refine st_round (by kernel_rfl) ?_
  refine st_fn ent126 (zulen4) sub0 (by kernel_rfl) ?_
  refine st_g ent30 (fzint (86400000000000) (by assumption)) sub0 (by kernel_rfl) (fun zq3 => ?_)
  refine st_g ent59 (d0 (zq1) (zq3)) (subC 1 rfl (subC 0 rfl sub0)) (by kernel_rfl) (fun zq4 => ?_)
  refine st_b 34 (show (p.n) = false by assumption) (by kernel_rfl) ?_
  refine st_fn ent54 (f0 (zq4.fst)) (subC 0 rfl sub0) (by kernel_rfl) ?_
  refine st_i 46 .i64 (x' := 4 - 1) (Go.IntWalk.i64_in _ (by omega)) (by kernel_rfl) ?_
  refine st_i 24 .i64 (x' := 4 + 1) (Go.IntWalk.i64_in _ (by omega)) (by kernel_rfl) ?_
  refine st_round (by kernel_rfl) ?_
  refine st_fn ent126 (zulen5) sub0 (by kernel_rfl) ?_
  refine st_g ent30 (fzint (3600000000000) (by assumption)) sub0 (by kernel_rfl) (fun zq7 => ?_)
  refine st_g ent59 (d1 (zq4.snd) (zq7)) (subC 2 rfl (subC 0 rfl sub0)) (by kernel_rfl) (fun zq8 => ?_)
  refine st_b 34 (show (p.n) = false by assumption) (by kernel_rfl) ?_
  refine st_fn ent54 (f1 (zq8.fst)) (subC 0 rfl sub0) (by kernel_rfl) ?_
  refine st_i 46 .i64 (x' := 4 + 1 - 1) (Go.IntWalk.i64_in _ (by omega)) (by kernel_rfl) ?_
  refine st_i 24 .i64 (x' := 4 + 1 + 1) (Go.IntWalk.i64_in _ (by omega)) (by kernel_rfl) ?_
  refine st_round (by kernel_rfl) ?_
  refine st_fn ent126 (zulen6) sub0 (by kernel_rfl) ?_
  refine st_g ent30 (fzint (60000000000) (by assumption)) sub0 (by kernel_rfl) (fun zq11 => ?_)
  refine st_g ent59 (d2 (zq8.snd) (zq11)) (subC 2 rfl (subC 0 rfl sub0)) (by kernel_rfl) (fun zq12 => ?_)
  refine st_b 34 (show (p.n) = false by assumption) (by kernel_rfl) ?_
  refine st_fn ent54 (f2 (zq12.fst)) (subC 0 rfl sub0) (by kernel_rfl) ?_
  refine st_i 46 .i64 (x' := 4 + 1 + 1 - 1) (Go.IntWalk.i64_in _ (by omega)) (by kernel_rfl) ?_
  refine st_i 24 .i64 (x' := 4 + 1 + 1 + 1) (Go.IntWalk.i64_in _ (by omega)) (by kernel_rfl) ?_
  refine st_round (by kernel_rfl) ?_
  refine st_fn ent126 (zulen7) sub0 (by kernel_rfl) ?_
  refine st_g ent30 (fzint (1000000000) (by assumption)) sub0 (by kernel_rfl) (fun zq15 => ?_)
  refine st_g ent59 (d3 (zq12.snd) (zq15)) (subC 2 rfl (subC 0 rfl sub0)) (by kernel_rfl) (fun zq16 => ?_)
  refine st_b 34 (show (p.n) = false by assumption) (by kernel_rfl) ?_
  refine st_fn ent54 (f3 (zq16.fst)) (subC 0 rfl sub0) (by kernel_rfl) ?_
  refine st_i 46 .i64 (x' := 4 + 1 + 1 + 1 - 1) (Go.IntWalk.i64_in _ (by omega)) (by kernel_rfl) ?_
  refine st_i 24 .i64 (x' := 4 + 1 + 1 + 1 + 1) (Go.IntWalk.i64_in _ (by omega)) (by kernel_rfl) ?_
  refine st_round (by kernel_rfl) ?_
  refine st_fn ent126 (zulen8) sub0 (by kernel_rfl) ?_
  refine st_g ent30 (fzint (1) (by assumption)) sub0 (by kernel_rfl) (fun zq19 => ?_)
  refine st_g ent59 (d4 (zq16.snd) (zq19)) (subC 2 rfl (subC 0 rfl sub0)) (by kernel_rfl) (fun zq20 => ?_)
  refine st_b 34 (show (p.n) = false by assumption) (by kernel_rfl) ?_
  refine st_fn ent54 (f4 (zq20.fst)) (subC 0 rfl sub0) (by kernel_rfl) ?_
  refine st_i 46 .i64 (x' := 4 + 1 + 1 + 1 + 1 - 1) (Go.IntWalk.i64_in _ (by omega)) (by kernel_rfl) ?_
  refine st_i 24 .i64 (x' := 4 + 1 + 1 + 1 + 1 + 1) (Go.IntWalk.i64_in _ (by omega)) (by kernel_rfl) ?_
  refine st_round (by kernel_rfl) ?_
  refine st_fn ent127 (zumade (0) (0) (0) (x.tdiv 86400000000000) ((x.tmod 86400000000000).tdiv 3600000000000) ((x.tmod 3600000000000).tdiv 60000000000) ((x.tmod 60000000000).tdiv 1000000000) (x.tmod 1000000000)) sub0 (by kernel_rfl) ?_
  refine st_fn ent50 (r) sub0 (by kernel_rfl) ?_
  exact st_ret Tryz.func67 (by kernel_rfl)
theorem zulay4p_r (p : ZQ) (x : Int) (hx : W128 x) (h0 : 0 ≤ x) (g : I64 (x.tdiv 86400000000000)) (k : ¬ uOk 0 0 0 (x.tdiv 86400000000000) ((x.tmod 86400000000000).tdiv 3600000000000) ((x.tmod 3600000000000).tdiv 60000000000) ((x.tmod 60000000000).tdiv 1000000000) (x.tmod 1000000000)) : Fn 67 [(p, x)] [zv p, .int .i64 4] (.tuple #[du0, .int .i64 4]) := by
  have hy : Bits 900 x := hx.bits.mono (by decide)
  have y0 : 0 ≤ x := by omega
  have bL4 : Bits 900 86400000000000 := Bits.mono (show W128 86400000000000 by unfold W128; omega).bits (by decide)
  have bL5 : Bits 900 3600000000000 := Bits.mono (show W128 3600000000000 by unfold W128; omega).bits (by decide)
  have bL6 : Bits 900 60000000000 := Bits.mono (show W128 60000000000 by unfold W128; omega).bits (by decide)
  have bL7 : Bits 900 1000000000 := Bits.mono (show W128 1000000000 by unfold W128; omega).bits (by decide)
  have bL8 : Bits 900 1 := Bits.mono (show W128 1 by unfold W128; omega).bits (by decide)
  have j1 : I64 86400000000000 := by unfold I64; omega
  have j2 : I64 3600000000000 := by unfold I64; omega
  have j3 : I64 60000000000 := by unfold I64; omega
  have j4 : I64 1000000000 := by unfold I64; omega
  have j5 : I64 1 := by unfold I64; omega
  have j0 : I64 0 := by unfold I64; omega
  have fa : ∀ p : ZQ, FnZ 112 [(p, x)] [zv p] zv x := fun p => by
    have t := fzabs p x (hx.bits.fit (by decide))
    rwa [show ((x.natAbs : Nat) : Int) = x by omega] at t
  have d0 : ∀ p q : ZQ, FnZZ 59 [(p, x), (q, 86400000000000)] [zv p, zv q] (fun q => .tuple #[zv q.1, zv q.2]) (x.tdiv 86400000000000) (x.tmod 86400000000000) := fun p q => zdt p q x 86400000000000 y0 hy (by omega) bL4
  have d1 : ∀ p q : ZQ, FnZZ 59 [(p, x.tmod 86400000000000), (q, 3600000000000)] [zv p, zv q] (fun q => .tuple #[zv q.1, zv q.2]) ((x.tmod 86400000000000).tdiv 3600000000000) (x.tmod 3600000000000) := fun p q => zdc p q x 86400000000000 3600000000000 y0 (by omega) bL4 (by omega) bL5 (by decide)
  have d2 : ∀ p q : ZQ, FnZZ 59 [(p, x.tmod 3600000000000), (q, 60000000000)] [zv p, zv q] (fun q => .tuple #[zv q.1, zv q.2]) ((x.tmod 3600000000000).tdiv 60000000000) (x.tmod 60000000000) := fun p q => zdc p q x 3600000000000 60000000000 y0 (by omega) bL5 (by omega) bL6 (by decide)
  have d3 : ∀ p q : ZQ, FnZZ 59 [(p, x.tmod 60000000000), (q, 1000000000)] [zv p, zv q] (fun q => .tuple #[zv q.1, zv q.2]) ((x.tmod 60000000000).tdiv 1000000000) (x.tmod 1000000000) := fun p q => zdc p q x 60000000000 1000000000 y0 (by omega) bL6 (by omega) bL7 (by decide)
  have d4 : ∀ p q : ZQ, FnZZ 59 [(p, x.tmod 1000000000), (q, 1)] [zv p, zv q] (fun q => .tuple #[zv q.1, zv q.2]) ((x.tmod 1000000000).tdiv 1) (x.tmod 1) := fun p q => zdc p q x 1000000000 1 y0 (by omega) bL7 (by omega) bL8 (by decide)
  have g5 : I64 ((x.tmod 86400000000000).tdiv 3600000000000) := by have := td2 x 86400000000000 3600000000000 24 (by decide) (by omega) (by omega); unfold I64; omega
  have g6 : I64 ((x.tmod 3600000000000).tdiv 60000000000) := by have := td2 x 3600000000000 60000000000 60 (by decide) (by omega) (by omega); unfold I64; omega
  have g7 : I64 ((x.tmod 60000000000).tdiv 1000000000) := by have := td2 x 60000000000 1000000000 60 (by decide) (by omega) (by omega); unfold I64; omega
  have g8 : I64 (x.tmod 1000000000) := by
    obtain ⟨e1, e2, e3⟩ := td x 1000000000 (by omega)
    by_cases z : 0 ≤ x
    · have := e2 z; unfold I64; omega
    · have := e3 (by omega); unfold I64; omega
  have f0 : ∀ p : ZQ, Fn 54 [(p, x.tdiv 86400000000000)] [zv p] (.tuple #[.int .i64 (x.tdiv 86400000000000), .bool true]) := fun p => by
    have t := fits_f p (x.tdiv 86400000000000) (g.w.bits.mono (by decide)) g
    exact t
  have f1 : ∀ p : ZQ, Fn 54 [(p, (x.tmod 86400000000000).tdiv 3600000000000)] [zv p] (.tuple #[.int .i64 ((x.tmod 86400000000000).tdiv 3600000000000), .bool true]) := fun p => by
    have t := fits_f p ((x.tmod 86400000000000).tdiv 3600000000000) (g5.w.bits.mono (by decide)) g5
    exact t
  have f2 : ∀ p : ZQ, Fn 54 [(p, (x.tmod 3600000000000).tdiv 60000000000)] [zv p] (.tuple #[.int .i64 ((x.tmod 3600000000000).tdiv 60000000000), .bool true]) := fun p => by
    have t := fits_f p ((x.tmod 3600000000000).tdiv 60000000000) (g6.w.bits.mono (by decide)) g6
    exact t
  have f3 : ∀ p : ZQ, Fn 54 [(p, (x.tmod 60000000000).tdiv 1000000000)] [zv p] (.tuple #[.int .i64 ((x.tmod 60000000000).tdiv 1000000000), .bool true]) := fun p => by
    have t := fits_f p ((x.tmod 60000000000).tdiv 1000000000) (g7.w.bits.mono (by decide)) g7
    exact t
  have f4 : ∀ p : ZQ, Fn 54 [(p, (x.tmod 1000000000).tdiv 1)] [zv p] (.tuple #[.int .i64 (x.tmod 1000000000), .bool true]) := fun p => by
    have t := fits_f p (x.tmod 1000000000) (g8.w.bits.mono (by decide)) g8
    simpa only [tdiv_1] using t
  have r := zuright_f 0 0 0 (x.tdiv 86400000000000) ((x.tmod 86400000000000).tdiv 3600000000000) ((x.tmod 3600000000000).tdiv 60000000000) ((x.tmod 60000000000).tdiv 1000000000) (x.tmod 1000000000) ⟨j0, j0, j0, g, g5, g6, g7, g8⟩ k
  refine fn_of Tryz.func67 rfl fun ww => ?_
  refine st_know (p := p.n = false) (fun w hw => by rw [z_neg (hw (p, x) (by simp))]; simp; omega) fun hn => ?_
  clear hy y0 g hx k
  refine st_fn ent126 (zulen4) sub0 (by kernel_rfl) ?_
  refine st_g ent112 (fa (p)) (subC 0 rfl sub0) (by kernel_rfl) (fun zq1 => ?_)
  refine st_round (by kernel_rfl) ?_
  refine st_fn ent126 (zulen4) sub0 (by kernel_rfl) ?_
  refine st_g ent30 (fzint (86400000000000) (by assumption)) sub0 (by kernel_rfl) (fun zq3 => ?_)
  refine st_g ent59 (d0 (zq1) (zq3)) (subC 1 rfl (subC 0 rfl sub0)) (by kernel_rfl) (fun zq4 => ?_)
  refine st_b 34 (show (p.n) = false by assumption) (by kernel_rfl) ?_
  refine st_fn ent54 (f0 (zq4.fst)) (subC 0 rfl sub0) (by kernel_rfl) ?_
  refine st_i 46 .i64 (x' := 4 - 1) (Go.IntWalk.i64_in _ (by omega)) (by kernel_rfl) ?_
  refine st_i 24 .i64 (x' := 4 + 1) (Go.IntWalk.i64_in _ (by omega)) (by kernel_rfl) ?_
  refine st_round (by kernel_rfl) ?_
  refine st_fn ent126 (zulen5) sub0 (by kernel_rfl) ?_
  refine st_g ent30 (fzint (3600000000000) (by assumption)) sub0 (by kernel_rfl) (fun zq7 => ?_)
  refine st_g ent59 (d1 (zq4.snd) (zq7)) (subC 2 rfl (subC 0 rfl sub0)) (by kernel_rfl) (fun zq8 => ?_)
  refine st_b 34 (show (p.n) = false by assumption) (by kernel_rfl) ?_
  refine st_fn ent54 (f1 (zq8.fst)) (subC 0 rfl sub0) (by kernel_rfl) ?_
  refine st_i 46 .i64 (x' := 4 + 1 - 1) (Go.IntWalk.i64_in _ (by omega)) (by kernel_rfl) ?_
  refine st_i 24 .i64 (x' := 4 + 1 + 1) (Go.IntWalk.i64_in _ (by omega)) (by kernel_rfl) ?_
  refine st_round (by kernel_rfl) ?_
  refine st_fn ent126 (zulen6) sub0 (by kernel_rfl) ?_
  refine st_g ent30 (fzint (60000000000) (by assumption)) sub0 (by kernel_rfl) (fun zq11 => ?_)
  refine st_g ent59 (d2 (zq8.snd) (zq11)) (subC 2 rfl (subC 0 rfl sub0)) (by kernel_rfl) (fun zq12 => ?_)
  refine st_b 34 (show (p.n) = false by assumption) (by kernel_rfl) ?_
  refine st_fn ent54 (f2 (zq12.fst)) (subC 0 rfl sub0) (by kernel_rfl) ?_
  refine st_i 46 .i64 (x' := 4 + 1 + 1 - 1) (Go.IntWalk.i64_in _ (by omega)) (by kernel_rfl) ?_
  refine st_i 24 .i64 (x' := 4 + 1 + 1 + 1) (Go.IntWalk.i64_in _ (by omega)) (by kernel_rfl) ?_
  refine st_round (by kernel_rfl) ?_
  refine st_fn ent126 (zulen7) sub0 (by kernel_rfl) ?_
  refine st_g ent30 (fzint (1000000000) (by assumption)) sub0 (by kernel_rfl) (fun zq15 => ?_)
  refine st_g ent59 (d3 (zq12.snd) (zq15)) (subC 2 rfl (subC 0 rfl sub0)) (by kernel_rfl) (fun zq16 => ?_)
  refine st_b 34 (show (p.n) = false by assumption) (by kernel_rfl) ?_
  refine st_fn ent54 (f3 (zq16.fst)) (subC 0 rfl sub0) (by kernel_rfl) ?_
  refine st_i 46 .i64 (x' := 4 + 1 + 1 + 1 - 1) (Go.IntWalk.i64_in _ (by omega)) (by kernel_rfl) ?_
  refine st_i 24 .i64 (x' := 4 + 1 + 1 + 1 + 1) (Go.IntWalk.i64_in _ (by omega)) (by kernel_rfl) ?_
  refine st_round (by kernel_rfl) ?_
  refine st_fn ent126 (zulen8) sub0 (by kernel_rfl) ?_
  refine st_g ent30 (fzint (1) (by assumption)) sub0 (by kernel_rfl) (fun zq19 => ?_)
  refine st_g ent59 (d4 (zq16.snd) (zq19)) (subC 2 rfl (subC 0 rfl sub0)) (by kernel_rfl) (fun zq20 => ?_)
  refine st_b 34 (show (p.n) = false by assumption) (by kernel_rfl) ?_
  refine st_fn ent54 (f4 (zq20.fst)) (subC 0 rfl sub0) (by kernel_rfl) ?_
  refine st_i 46 .i64 (x' := 4 + 1 + 1 + 1 + 1 - 1) (Go.IntWalk.i64_in _ (by omega)) (by kernel_rfl) ?_
  refine st_i 24 .i64 (x' := 4 + 1 + 1 + 1 + 1 + 1) (Go.IntWalk.i64_in _ (by omega)) (by kernel_rfl) ?_
  refine st_round (by kernel_rfl) ?_
  refine st_fn ent127 (zumade (0) (0) (0) (x.tdiv 86400000000000) ((x.tmod 86400000000000).tdiv 3600000000000) ((x.tmod 3600000000000).tdiv 60000000000) ((x.tmod 60000000000).tdiv 1000000000) (x.tmod 1000000000)) sub0 (by kernel_rfl) ?_
  refine st_fn ent50 (r) sub0 (by kernel_rfl) ?_
  exact st_ret Tryz.func67 (by kernel_rfl)
theorem zulay4p_o (p : ZQ) (x : Int) (hx : W128 x) (h0 : 0 ≤ x) (g : ¬ I64 (x.tdiv 86400000000000)) : Fn 67 [(p, x)] [zv p, .int .i64 4] (.tuple #[du0, .int .i64 4]) := by
  have hy : Bits 900 x := hx.bits.mono (by decide)
  have y0 : 0 ≤ x := by omega
  have bL4 : Bits 900 86400000000000 := Bits.mono (show W128 86400000000000 by unfold W128; omega).bits (by decide)
  have bL5 : Bits 900 3600000000000 := Bits.mono (show W128 3600000000000 by unfold W128; omega).bits (by decide)
  have bL6 : Bits 900 60000000000 := Bits.mono (show W128 60000000000 by unfold W128; omega).bits (by decide)
  have bL7 : Bits 900 1000000000 := Bits.mono (show W128 1000000000 by unfold W128; omega).bits (by decide)
  have bL8 : Bits 900 1 := Bits.mono (show W128 1 by unfold W128; omega).bits (by decide)
  have j1 : I64 86400000000000 := by unfold I64; omega
  have j2 : I64 3600000000000 := by unfold I64; omega
  have j3 : I64 60000000000 := by unfold I64; omega
  have j4 : I64 1000000000 := by unfold I64; omega
  have j5 : I64 1 := by unfold I64; omega
  have j0 : I64 0 := by unfold I64; omega
  have fa : ∀ p : ZQ, FnZ 112 [(p, x)] [zv p] zv x := fun p => by
    have t := fzabs p x (hx.bits.fit (by decide))
    rwa [show ((x.natAbs : Nat) : Int) = x by omega] at t
  have d0 : ∀ p q : ZQ, FnZZ 59 [(p, x), (q, 86400000000000)] [zv p, zv q] (fun q => .tuple #[zv q.1, zv q.2]) (x.tdiv 86400000000000) (x.tmod 86400000000000) := fun p q => zdt p q x 86400000000000 y0 hy (by omega) bL4
  have g5 : I64 ((x.tmod 86400000000000).tdiv 3600000000000) := by have := td2 x 86400000000000 3600000000000 24 (by decide) (by omega) (by omega); unfold I64; omega
  have g6 : I64 ((x.tmod 3600000000000).tdiv 60000000000) := by have := td2 x 3600000000000 60000000000 60 (by decide) (by omega) (by omega); unfold I64; omega
  have g7 : I64 ((x.tmod 60000000000).tdiv 1000000000) := by have := td2 x 60000000000 1000000000 60 (by decide) (by omega) (by omega); unfold I64; omega
  have g8 : I64 (x.tmod 1000000000) := by
    obtain ⟨e1, e2, e3⟩ := td x 1000000000 (by omega)
    by_cases z : 0 ≤ x
    · have := e2 z; unfold I64; omega
    · have := e3 (by omega); unfold I64; omega
  have f0 : ∀ p : ZQ, Fn 54 [(p, x.tdiv 86400000000000)] [zv p] (.tuple #[.int .i64 0, .bool false]) := fun p => by
    have t := fits_n p (x.tdiv 86400000000000) ((tdvb x 86400000000000 y0 hy (by omega)).mono (by decide)) g
    exact t
  refine fn_of Tryz.func67 rfl fun ww => ?_
  refine st_know (p := p.n = false) (fun w hw => by rw [z_neg (hw (p, x) (by simp))]; simp; omega) fun hn => ?_
  clear hy y0 g hx
  refine st_fn ent126 (zulen4) sub0 (by kernel_rfl) ?_
  refine st_g ent112 (fa (p)) (subC 0 rfl sub0) (by kernel_rfl) (fun zq1 => ?_)
  refine st_round (by kernel_rfl) ?_
  refine st_fn ent126 (zulen4) sub0 (by kernel_rfl) ?_
  refine st_g ent30 (fzint (86400000000000) (by assumption)) sub0 (by kernel_rfl) (fun zq3 => ?_)
  refine st_g ent59 (d0 (zq1) (zq3)) (subC 1 rfl (subC 0 rfl sub0)) (by kernel_rfl) (fun zq4 => ?_)
  refine st_b 34 (show (p.n) = false by assumption) (by kernel_rfl) ?_
  refine st_fn ent54 (f0 (zq4.fst)) (subC 0 rfl sub0) (by kernel_rfl) ?_
  exact st_ret Tryz.func67 (by kernel_rfl)
theorem zulay4n_y (p : ZQ) (x : Int) (hx : W128 x) (h0 : x < 0) (g : I64 (x.tdiv 86400000000000)) (k : uOk 0 0 0 (x.tdiv 86400000000000) ((x.tmod 86400000000000).tdiv 3600000000000) ((x.tmod 3600000000000).tdiv 60000000000) ((x.tmod 60000000000).tdiv 1000000000) (x.tmod 1000000000)) : Fn 67 [(p, x)] [zv p, .int .i64 4] (.tuple #[duv 0 0 0 (x.tdiv 86400000000000) ((x.tmod 86400000000000).tdiv 3600000000000) ((x.tmod 3600000000000).tdiv 60000000000) ((x.tmod 60000000000).tdiv 1000000000) (x.tmod 1000000000), .int .i64 0]) := by
  have hy : Bits 900 (-x) := (hx.bits.neg).mono (by decide)
  have y0 : 0 ≤ (-x) := by omega
  have bL4 : Bits 900 86400000000000 := Bits.mono (show W128 86400000000000 by unfold W128; omega).bits (by decide)
  have bL5 : Bits 900 3600000000000 := Bits.mono (show W128 3600000000000 by unfold W128; omega).bits (by decide)
  have bL6 : Bits 900 60000000000 := Bits.mono (show W128 60000000000 by unfold W128; omega).bits (by decide)
  have bL7 : Bits 900 1000000000 := Bits.mono (show W128 1000000000 by unfold W128; omega).bits (by decide)
  have bL8 : Bits 900 1 := Bits.mono (show W128 1 by unfold W128; omega).bits (by decide)
  have j1 : I64 86400000000000 := by unfold I64; omega
  have j2 : I64 3600000000000 := by unfold I64; omega
  have j3 : I64 60000000000 := by unfold I64; omega
  have j4 : I64 1000000000 := by unfold I64; omega
  have j5 : I64 1 := by unfold I64; omega
  have j0 : I64 0 := by unfold I64; omega
  have fa : ∀ p : ZQ, FnZ 112 [(p, x)] [zv p] zv (-x) := fun p => by
    have t := fzabs p x (hx.bits.fit (by decide))
    rwa [show ((x.natAbs : Nat) : Int) = -x by omega] at t
  have d0 : ∀ p q : ZQ, FnZZ 59 [(p, (-x)), (q, 86400000000000)] [zv p, zv q] (fun q => .tuple #[zv q.1, zv q.2]) ((-x).tdiv 86400000000000) ((-x).tmod 86400000000000) := fun p q => zdt p q (-x) 86400000000000 y0 hy (by omega) bL4
  have d1 : ∀ p q : ZQ, FnZZ 59 [(p, (-x).tmod 86400000000000), (q, 3600000000000)] [zv p, zv q] (fun q => .tuple #[zv q.1, zv q.2]) (((-x).tmod 86400000000000).tdiv 3600000000000) ((-x).tmod 3600000000000) := fun p q => zdc p q (-x) 86400000000000 3600000000000 y0 (by omega) bL4 (by omega) bL5 (by decide)
  have d2 : ∀ p q : ZQ, FnZZ 59 [(p, (-x).tmod 3600000000000), (q, 60000000000)] [zv p, zv q] (fun q => .tuple #[zv q.1, zv q.2]) (((-x).tmod 3600000000000).tdiv 60000000000) ((-x).tmod 60000000000) := fun p q => zdc p q (-x) 3600000000000 60000000000 y0 (by omega) bL5 (by omega) bL6 (by decide)
  have d3 : ∀ p q : ZQ, FnZZ 59 [(p, (-x).tmod 60000000000), (q, 1000000000)] [zv p, zv q] (fun q => .tuple #[zv q.1, zv q.2]) (((-x).tmod 60000000000).tdiv 1000000000) ((-x).tmod 1000000000) := fun p q => zdc p q (-x) 60000000000 1000000000 y0 (by omega) bL6 (by omega) bL7 (by decide)
  have d4 : ∀ p q : ZQ, FnZZ 59 [(p, (-x).tmod 1000000000), (q, 1)] [zv p, zv q] (fun q => .tuple #[zv q.1, zv q.2]) (((-x).tmod 1000000000).tdiv 1) ((-x).tmod 1) := fun p q => zdc p q (-x) 1000000000 1 y0 (by omega) bL7 (by omega) bL8 (by decide)
  have g5 : I64 ((x.tmod 86400000000000).tdiv 3600000000000) := by have := td2 x 86400000000000 3600000000000 24 (by decide) (by omega) (by omega); unfold I64; omega
  have g6 : I64 ((x.tmod 3600000000000).tdiv 60000000000) := by have := td2 x 3600000000000 60000000000 60 (by decide) (by omega) (by omega); unfold I64; omega
  have g7 : I64 ((x.tmod 60000000000).tdiv 1000000000) := by have := td2 x 60000000000 1000000000 60 (by decide) (by omega) (by omega); unfold I64; omega
  have g8 : I64 (x.tmod 1000000000) := by
    obtain ⟨e1, e2, e3⟩ := td x 1000000000 (by omega)
    by_cases z : 0 ≤ x
    · have := e2 z; unfold I64; omega
    · have := e3 (by omega); unfold I64; omega
  have n0 : ∀ p : ZQ, FnZ 95 [(p, (-x).tdiv 86400000000000)] [zv p] zv (x.tdiv 86400000000000) := fun p => by
    have t := zng p ((-x).tdiv 86400000000000) (tdvb (-x) 86400000000000 y0 hy (by omega))
    rwa [show -((-x).tdiv 86400000000000) = (x.tdiv 86400000000000) by rw [Int.neg_tdiv, Int.neg_neg]] at t
  have f0 : ∀ p : ZQ, Fn 54 [(p, (x.tdiv 86400000000000))] [zv p] (.tuple #[.int .i64 (x.tdiv 86400000000000), .bool true]) := fun p => by
    have t := fits_f p (x.tdiv 86400000000000) (g.w.bits.mono (by decide)) g
    exact t
  have n1 : ∀ p : ZQ, FnZ 95 [(p, ((-x).tmod 86400000000000).tdiv 3600000000000)] [zv p] zv ((x.tmod 86400000000000).tdiv 3600000000000) := fun p => by
    have t := zng p (((-x).tmod 86400000000000).tdiv 3600000000000) (tdvb _ 3600000000000 (tmod_nb (-x) 86400000000000 y0 (by omega) bL4).1 (tmod_nb (-x) 86400000000000 y0 (by omega) bL4).2 (by omega))
    rwa [show -(((-x).tmod 86400000000000).tdiv 3600000000000) = ((x.tmod 86400000000000).tdiv 3600000000000) by rw [Int.neg_tmod, Int.neg_tdiv, Int.neg_neg]] at t
  have f1 : ∀ p : ZQ, Fn 54 [(p, ((x.tmod 86400000000000).tdiv 3600000000000))] [zv p] (.tuple #[.int .i64 ((x.tmod 86400000000000).tdiv 3600000000000), .bool true]) := fun p => by
    have t := fits_f p ((x.tmod 86400000000000).tdiv 3600000000000) (g5.w.bits.mono (by decide)) g5
    exact t
  have n2 : ∀ p : ZQ, FnZ 95 [(p, ((-x).tmod 3600000000000).tdiv 60000000000)] [zv p] zv ((x.tmod 3600000000000).tdiv 60000000000) := fun p => by
    have t := zng p (((-x).tmod 3600000000000).tdiv 60000000000) (tdvb _ 60000000000 (tmod_nb (-x) 3600000000000 y0 (by omega) bL5).1 (tmod_nb (-x) 3600000000000 y0 (by omega) bL5).2 (by omega))
    rwa [show -(((-x).tmod 3600000000000).tdiv 60000000000) = ((x.tmod 3600000000000).tdiv 60000000000) by rw [Int.neg_tmod, Int.neg_tdiv, Int.neg_neg]] at t
  have f2 : ∀ p : ZQ, Fn 54 [(p, ((x.tmod 3600000000000).tdiv 60000000000))] [zv p] (.tuple #[.int .i64 ((x.tmod 3600000000000).tdiv 60000000000), .bool true]) := fun p => by
    have t := fits_f p ((x.tmod 3600000000000).tdiv 60000000000) (g6.w.bits.mono (by decide)) g6
    exact t
  have n3 : ∀ p : ZQ, FnZ 95 [(p, ((-x).tmod 60000000000).tdiv 1000000000)] [zv p] zv ((x.tmod 60000000000).tdiv 1000000000) := fun p => by
    have t := zng p (((-x).tmod 60000000000).tdiv 1000000000) (tdvb _ 1000000000 (tmod_nb (-x) 60000000000 y0 (by omega) bL6).1 (tmod_nb (-x) 60000000000 y0 (by omega) bL6).2 (by omega))
    rwa [show -(((-x).tmod 60000000000).tdiv 1000000000) = ((x.tmod 60000000000).tdiv 1000000000) by rw [Int.neg_tmod, Int.neg_tdiv, Int.neg_neg]] at t
  have f3 : ∀ p : ZQ, Fn 54 [(p, ((x.tmod 60000000000).tdiv 1000000000))] [zv p] (.tuple #[.int .i64 ((x.tmod 60000000000).tdiv 1000000000), .bool true]) := fun p => by
    have t := fits_f p ((x.tmod 60000000000).tdiv 1000000000) (g7.w.bits.mono (by decide)) g7
    exact t
  have n4 : ∀ p : ZQ, FnZ 95 [(p, ((-x).tmod 1000000000).tdiv 1)] [zv p] zv (x.tmod 1000000000) := fun p => by
    have t := zng p (((-x).tmod 1000000000).tdiv 1) (tdvb _ 1 (tmod_nb (-x) 1000000000 y0 (by omega) bL7).1 (tmod_nb (-x) 1000000000 y0 (by omega) bL7).2 (by omega))
    rwa [show -(((-x).tmod 1000000000).tdiv 1) = (x.tmod 1000000000) by rw [Int.neg_tmod, Int.neg_tdiv, Int.neg_neg, tdiv_1]] at t
  have f4 : ∀ p : ZQ, Fn 54 [(p, (x.tmod 1000000000))] [zv p] (.tuple #[.int .i64 (x.tmod 1000000000), .bool true]) := fun p => by
    have t := fits_f p (x.tmod 1000000000) (g8.w.bits.mono (by decide)) g8
    exact t
  have r := zuright_y 0 0 0 (x.tdiv 86400000000000) ((x.tmod 86400000000000).tdiv 3600000000000) ((x.tmod 3600000000000).tdiv 60000000000) ((x.tmod 60000000000).tdiv 1000000000) (x.tmod 1000000000) ⟨j0, j0, j0, g, g5, g6, g7, g8⟩ k
  refine fn_of Tryz.func67 rfl fun ww => ?_
  refine st_know (p := p.n = true) (fun w hw => by rw [z_neg (hw (p, x) (by simp))]; simp; omega) fun hn => ?_
  clear hy y0 g hx k
  refine st_fn ent126 (zulen4) sub0 (by kernel_rfl) ?_
  refine st_g ent112 (fa (p)) (subC 0 rfl sub0) (by kernel_rfl) (fun zq1 => ?_)
  refine st_round (by kernel_rfl) ?_
  refine st_fn ent126 (zulen4) sub0 (by kernel_rfl) ?_
  refine st_g ent30 (fzint (86400000000000) (by assumption)) sub0 (by kernel_rfl) (fun zq3 => ?_)
  refine st_g ent59 (d0 (zq1) (zq3)) (subC 1 rfl (subC 0 rfl sub0)) (by kernel_rfl) (fun zq4 => ?_)
  refine st_b 34 (show (p.n) = true by assumption) (by kernel_rfl) ?_
  refine st_g ent95 (n0 (zq4.fst)) (subC 0 rfl sub0) (by kernel_rfl) (fun zq5 => ?_)
  refine st_fn ent54 (f0 (zq5)) (subC 0 rfl sub0) (by kernel_rfl) ?_
  refine st_i 46 .i64 (x' := 4 - 1) (Go.IntWalk.i64_in _ (by omega)) (by kernel_rfl) ?_
  refine st_i 24 .i64 (x' := 4 + 1) (Go.IntWalk.i64_in _ (by omega)) (by kernel_rfl) ?_
  refine st_round (by kernel_rfl) ?_
  refine st_fn ent126 (zulen5) sub0 (by kernel_rfl) ?_
  refine st_g ent30 (fzint (3600000000000) (by assumption)) sub0 (by kernel_rfl) (fun zq8 => ?_)
  refine st_g ent59 (d1 (zq4.snd) (zq8)) (subC 3 rfl (subC 0 rfl sub0)) (by kernel_rfl) (fun zq9 => ?_)
  refine st_b 34 (show (p.n) = true by assumption) (by kernel_rfl) ?_
  refine st_g ent95 (n1 (zq9.fst)) (subC 0 rfl sub0) (by kernel_rfl) (fun zq10 => ?_)
  refine st_fn ent54 (f1 (zq10)) (subC 0 rfl sub0) (by kernel_rfl) ?_
  refine st_i 46 .i64 (x' := 4 + 1 - 1) (Go.IntWalk.i64_in _ (by omega)) (by kernel_rfl) ?_
  refine st_i 24 .i64 (x' := 4 + 1 + 1) (Go.IntWalk.i64_in _ (by omega)) (by kernel_rfl) ?_
  refine st_round (by kernel_rfl) ?_
  refine st_fn ent126 (zulen6) sub0 (by kernel_rfl) ?_
  refine st_g ent30 (fzint (60000000000) (by assumption)) sub0 (by kernel_rfl) (fun zq13 => ?_)
  refine st_g ent59 (d2 (zq9.snd) (zq13)) (subC 3 rfl (subC 0 rfl sub0)) (by kernel_rfl) (fun zq14 => ?_)
  refine st_b 34 (show (p.n) = true by assumption) (by kernel_rfl) ?_
  refine st_g ent95 (n2 (zq14.fst)) (subC 0 rfl sub0) (by kernel_rfl) (fun zq15 => ?_)
  refine st_fn ent54 (f2 (zq15)) (subC 0 rfl sub0) (by kernel_rfl) ?_
  refine st_i 46 .i64 (x' := 4 + 1 + 1 - 1) (Go.IntWalk.i64_in _ (by omega)) (by kernel_rfl) ?_
  refine st_i 24 .i64 (x' := 4 + 1 + 1 + 1) (Go.IntWalk.i64_in _ (by omega)) (by kernel_rfl) ?_
  refine st_round (by kernel_rfl) ?_
  refine st_fn ent126 (zulen7) sub0 (by kernel_rfl) ?_
  refine st_g ent30 (fzint (1000000000) (by assumption)) sub0 (by kernel_rfl) (fun zq18 => ?_)
  refine st_g ent59 (d3 (zq14.snd) (zq18)) (subC 3 rfl (subC 0 rfl sub0)) (by kernel_rfl) (fun zq19 => ?_)
  refine st_b 34 (show (p.n) = true by assumption) (by kernel_rfl) ?_
  refine st_g ent95 (n3 (zq19.fst)) (subC 0 rfl sub0) (by kernel_rfl) (fun zq20 => ?_)
  refine st_fn ent54 (f3 (zq20)) (subC 0 rfl sub0) (by kernel_rfl) ?_
  refine st_i 46 .i64 (x' := 4 + 1 + 1 + 1 - 1) (Go.IntWalk.i64_in _ (by omega)) (by kernel_rfl) ?_
  refine st_i 24 .i64 (x' := 4 + 1 + 1 + 1 + 1) (Go.IntWalk.i64_in _ (by omega)) (by kernel_rfl) ?_
  refine st_round (by kernel_rfl) ?_
  refine st_fn ent126 (zulen8) sub0 (by kernel_rfl) ?_
  refine st_g ent30 (fzint (1) (by assumption)) sub0 (by kernel_rfl) (fun zq23 => ?_)
  refine st_g ent59 (d4 (zq19.snd) (zq23)) (subC 3 rfl (subC 0 rfl sub0)) (by kernel_rfl) (fun zq24 => ?_)
  refine st_b 34 (show (p.n) = true by assumption) (by kernel_rfl) ?_
  refine st_g ent95 (n4 (zq24.fst)) (subC 0 rfl sub0) (by kernel_rfl) (fun zq25 => ?_)
  refine st_fn ent54 (f4 (zq25)) (subC 0 rfl sub0) (by kernel_rfl) ?_
  refine st_i 46 .i64 (x' := 4 + 1 + 1 + 1 + 1 - 1) (Go.IntWalk.i64_in _ (by omega)) (by kernel_rfl) ?_
  refine st_i 24 .i64 (x' := 4 + 1 + 1 + 1 + 1 + 1) (Go.IntWalk.i64_in _ (by omega)) (by kernel_rfl) ?_
  refine st_round (by kernel_rfl) ?_
  refine st_fn ent127 (zumade (0) (0) (0) (x.tdiv 86400000000000) ((x.tmod 86400000000000).tdiv 3600000000000) ((x.tmod 3600000000000).tdiv 60000000000) ((x.tmod 60000000000).tdiv 1000000000) (x.tmod 1000000000)) sub0 (by kernel_rfl) ?_
  refine st_fn ent50 (r) sub0 (by kernel_rfl) ?_
  exact st_ret Tryz.func67 (by kernel_rfl)
theorem zulay4n_r (p : ZQ) (x : Int) (hx : W128 x) (h0 : x < 0) (g : I64 (x.tdiv 86400000000000)) (k : ¬ uOk 0 0 0 (x.tdiv 86400000000000) ((x.tmod 86400000000000).tdiv 3600000000000) ((x.tmod 3600000000000).tdiv 60000000000) ((x.tmod 60000000000).tdiv 1000000000) (x.tmod 1000000000)) : Fn 67 [(p, x)] [zv p, .int .i64 4] (.tuple #[du0, .int .i64 4]) := by
  have hy : Bits 900 (-x) := (hx.bits.neg).mono (by decide)
  have y0 : 0 ≤ (-x) := by omega
  have bL4 : Bits 900 86400000000000 := Bits.mono (show W128 86400000000000 by unfold W128; omega).bits (by decide)
  have bL5 : Bits 900 3600000000000 := Bits.mono (show W128 3600000000000 by unfold W128; omega).bits (by decide)
  have bL6 : Bits 900 60000000000 := Bits.mono (show W128 60000000000 by unfold W128; omega).bits (by decide)
  have bL7 : Bits 900 1000000000 := Bits.mono (show W128 1000000000 by unfold W128; omega).bits (by decide)
  have bL8 : Bits 900 1 := Bits.mono (show W128 1 by unfold W128; omega).bits (by decide)
  have j1 : I64 86400000000000 := by unfold I64; omega
  have j2 : I64 3600000000000 := by unfold I64; omega
  have j3 : I64 60000000000 := by unfold I64; omega
  have j4 : I64 1000000000 := by unfold I64; omega
  have j5 : I64 1 := by unfold I64; omega
  have j0 : I64 0 := by unfold I64; omega
  have fa : ∀ p : ZQ, FnZ 112 [(p, x)] [zv p] zv (-x) := fun p => by
    have t := fzabs p x (hx.bits.fit (by decide))
    rwa [show ((x.natAbs : Nat) : Int) = -x by omega] at t
  have d0 : ∀ p q : ZQ, FnZZ 59 [(p, (-x)), (q, 86400000000000)] [zv p, zv q] (fun q => .tuple #[zv q.1, zv q.2]) ((-x).tdiv 86400000000000) ((-x).tmod 86400000000000) := fun p q => zdt p q (-x) 86400000000000 y0 hy (by omega) bL4
  have d1 : ∀ p q : ZQ, FnZZ 59 [(p, (-x).tmod 86400000000000), (q, 3600000000000)] [zv p, zv q] (fun q => .tuple #[zv q.1, zv q.2]) (((-x).tmod 86400000000000).tdiv 3600000000000) ((-x).tmod 3600000000000) := fun p q => zdc p q (-x) 86400000000000 3600000000000 y0 (by omega) bL4 (by omega) bL5 (by decide)
  have d2 : ∀ p q : ZQ, FnZZ 59 [(p, (-x).tmod 3600000000000), (q, 60000000000)] [zv p, zv q] (fun q => .tuple #[zv q.1, zv q.2]) (((-x).tmod 3600000000000).tdiv 60000000000) ((-x).tmod 60000000000) := fun p q => zdc p q (-x) 3600000000000 60000000000 y0 (by omega) bL5 (by omega) bL6 (by decide)
  have d3 : ∀ p q : ZQ, FnZZ 59 [(p, (-x).tmod 60000000000), (q, 1000000000)] [zv p, zv q] (fun q => .tuple #[zv q.1, zv q.2]) (((-x).tmod 60000000000).tdiv 1000000000) ((-x).tmod 1000000000) := fun p q => zdc p q (-x) 60000000000 1000000000 y0 (by omega) bL6 (by omega) bL7 (by decide)
  have d4 : ∀ p q : ZQ, FnZZ 59 [(p, (-x).tmod 1000000000), (q, 1)] [zv p, zv q] (fun q => .tuple #[zv q.1, zv q.2]) (((-x).tmod 1000000000).tdiv 1) ((-x).tmod 1) := fun p q => zdc p q (-x) 1000000000 1 y0 (by omega) bL7 (by omega) bL8 (by decide)
  have g5 : I64 ((x.tmod 86400000000000).tdiv 3600000000000) := by have := td2 x 86400000000000 3600000000000 24 (by decide) (by omega) (by omega); unfold I64; omega
  have g6 : I64 ((x.tmod 3600000000000).tdiv 60000000000) := by have := td2 x 3600000000000 60000000000 60 (by decide) (by omega) (by omega); unfold I64; omega
  have g7 : I64 ((x.tmod 60000000000).tdiv 1000000000) := by have := td2 x 60000000000 1000000000 60 (by decide) (by omega) (by omega); unfold I64; omega
  have g8 : I64 (x.tmod 1000000000) := by
    obtain ⟨e1, e2, e3⟩ := td x 1000000000 (by omega)
    by_cases z : 0 ≤ x
    · have := e2 z; unfold I64; omega
    · have := e3 (by omega); unfold I64; omega
  have n0 : ∀ p : ZQ, FnZ 95 [(p, (-x).tdiv 86400000000000)] [zv p] zv (x.tdiv 86400000000000) := fun p => by
    have t := zng p ((-x).tdiv 86400000000000) (tdvb (-x) 86400000000000 y0 hy (by omega))
    rwa [show -((-x).tdiv 86400000000000) = (x.tdiv 86400000000000) by rw [Int.neg_tdiv, Int.neg_neg]] at t
  have f0 : ∀ p : ZQ, Fn 54 [(p, (x.tdiv 86400000000000))] [zv p] (.tuple #[.int .i64 (x.tdiv 86400000000000), .bool true]) := fun p => by
    have t := fits_f p (x.tdiv 86400000000000) (g.w.bits.mono (by decide)) g
    exact t
  have n1 : ∀ p : ZQ, FnZ 95 [(p, ((-x).tmod 86400000000000).tdiv 3600000000000)] [zv p] zv ((x.tmod 86400000000000).tdiv 3600000000000) := fun p => by
    have t := zng p (((-x).tmod 86400000000000).tdiv 3600000000000) (tdvb _ 3600000000000 (tmod_nb (-x) 86400000000000 y0 (by omega) bL4).1 (tmod_nb (-x) 86400000000000 y0 (by omega) bL4).2 (by omega))
    rwa [show -(((-x).tmod 86400000000000).tdiv 3600000000000) = ((x.tmod 86400000000000).tdiv 3600000000000) by rw [Int.neg_tmod, Int.neg_tdiv, Int.neg_neg]] at t
  have f1 : ∀ p : ZQ, Fn 54 [(p, ((x.tmod 86400000000000).tdiv 3600000000000))] [zv p] (.tuple #[.int .i64 ((x.tmod 86400000000000).tdiv 3600000000000), .bool true]) := fun p => by
    have t := fits_f p ((x.tmod 86400000000000).tdiv 3600000000000) (g5.w.bits.mono (by decide)) g5
    exact t
  have n2 : ∀ p : ZQ, FnZ 95 [(p, ((-x).tmod 3600000000000).tdiv 60000000000)] [zv p] zv ((x.tmod 3600000000000).tdiv 60000000000) := fun p => by
    have t := zng p (((-x).tmod 3600000000000).tdiv 60000000000) (tdvb _ 60000000000 (tmod_nb (-x) 3600000000000 y0 (by omega) bL5).1 (tmod_nb (-x) 3600000000000 y0 (by omega) bL5).2 (by omega))
    rwa [show -(((-x).tmod 3600000000000).tdiv 60000000000) = ((x.tmod 3600000000000).tdiv 60000000000) by rw [Int.neg_tmod, Int.neg_tdiv, Int.neg_neg]] at t
  have f2 : ∀ p : ZQ, Fn 54 [(p, ((x.tmod 3600000000000).tdiv 60000000000))] [zv p] (.tuple #[.int .i64 ((x.tmod 3600000000000).tdiv 60000000000), .bool true]) := fun p => by
    have t := fits_f p ((x.tmod 3600000000000).tdiv 60000000000) (g6.w.bits.mono (by decide)) g6
    exact t
  have n3 : ∀ p : ZQ, FnZ 95 [(p, ((-x).tmod 60000000000).tdiv 1000000000)] [zv p] zv ((x.tmod 60000000000).tdiv 1000000000) := fun p => by
    have t := zng p (((-x).tmod 60000000000).tdiv 1000000000) (tdvb _ 1000000000 (tmod_nb (-x) 60000000000 y0 (by omega) bL6).1 (tmod_nb (-x) 60000000000 y0 (by omega) bL6).2 (by omega))
    rwa [show -(((-x).tmod 60000000000).tdiv 1000000000) = ((x.tmod 60000000000).tdiv 1000000000) by rw [Int.neg_tmod, Int.neg_tdiv, Int.neg_neg]] at t
  have f3 : ∀ p : ZQ, Fn 54 [(p, ((x.tmod 60000000000).tdiv 1000000000))] [zv p] (.tuple #[.int .i64 ((x.tmod 60000000000).tdiv 1000000000), .bool true]) := fun p => by
    have t := fits_f p ((x.tmod 60000000000).tdiv 1000000000) (g7.w.bits.mono (by decide)) g7
    exact t
  have n4 : ∀ p : ZQ, FnZ 95 [(p, ((-x).tmod 1000000000).tdiv 1)] [zv p] zv (x.tmod 1000000000) := fun p => by
    have t := zng p (((-x).tmod 1000000000).tdiv 1) (tdvb _ 1 (tmod_nb (-x) 1000000000 y0 (by omega) bL7).1 (tmod_nb (-x) 1000000000 y0 (by omega) bL7).2 (by omega))
    rwa [show -(((-x).tmod 1000000000).tdiv 1) = (x.tmod 1000000000) by rw [Int.neg_tmod, Int.neg_tdiv, Int.neg_neg, tdiv_1]] at t
  have f4 : ∀ p : ZQ, Fn 54 [(p, (x.tmod 1000000000))] [zv p] (.tuple #[.int .i64 (x.tmod 1000000000), .bool true]) := fun p => by
    have t := fits_f p (x.tmod 1000000000) (g8.w.bits.mono (by decide)) g8
    exact t
  have r := zuright_f 0 0 0 (x.tdiv 86400000000000) ((x.tmod 86400000000000).tdiv 3600000000000) ((x.tmod 3600000000000).tdiv 60000000000) ((x.tmod 60000000000).tdiv 1000000000) (x.tmod 1000000000) ⟨j0, j0, j0, g, g5, g6, g7, g8⟩ k
  refine fn_of Tryz.func67 rfl fun ww => ?_
  refine st_know (p := p.n = true) (fun w hw => by rw [z_neg (hw (p, x) (by simp))]; simp; omega) fun hn => ?_
  clear hy y0 g hx k
  refine st_fn ent126 (zulen4) sub0 (by kernel_rfl) ?_
  refine st_g ent112 (fa (p)) (subC 0 rfl sub0) (by kernel_rfl) (fun zq1 => ?_)
  refine st_round (by kernel_rfl) ?_
  refine st_fn ent126 (zulen4) sub0 (by kernel_rfl) ?_
  refine st_g ent30 (fzint (86400000000000) (by assumption)) sub0 (by kernel_rfl) (fun zq3 => ?_)
  refine st_g ent59 (d0 (zq1) (zq3)) (subC 1 rfl (subC 0 rfl sub0)) (by kernel_rfl) (fun zq4 => ?_)
  refine st_b 34 (show (p.n) = true by assumption) (by kernel_rfl) ?_
  refine st_g ent95 (n0 (zq4.fst)) (subC 0 rfl sub0) (by kernel_rfl) (fun zq5 => ?_)
  refine st_fn ent54 (f0 (zq5)) (subC 0 rfl sub0) (by kernel_rfl) ?_
  refine st_i 46 .i64 (x' := 4 - 1) (Go.IntWalk.i64_in _ (by omega)) (by kernel_rfl) ?_
  refine st_i 24 .i64 (x' := 4 + 1) (Go.IntWalk.i64_in _ (by omega)) (by kernel_rfl) ?_
  refine st_round (by kernel_rfl) ?_
  refine st_fn ent126 (zulen5) sub0 (by kernel_rfl) ?_
  refine st_g ent30 (fzint (3600000000000) (by assumption)) sub0 (by kernel_rfl) (fun zq8 => ?_)
  refine st_g ent59 (d1 (zq4.snd) (zq8)) (subC 3 rfl (subC 0 rfl sub0)) (by kernel_rfl) (fun zq9 => ?_)
  refine st_b 34 (show (p.n) = true by assumption) (by kernel_rfl) ?_
  refine st_g ent95 (n1 (zq9.fst)) (subC 0 rfl sub0) (by kernel_rfl) (fun zq10 => ?_)
  refine st_fn ent54 (f1 (zq10)) (subC 0 rfl sub0) (by kernel_rfl) ?_
  refine st_i 46 .i64 (x' := 4 + 1 - 1) (Go.IntWalk.i64_in _ (by omega)) (by kernel_rfl) ?_
  refine st_i 24 .i64 (x' := 4 + 1 + 1) (Go.IntWalk.i64_in _ (by omega)) (by kernel_rfl) ?_
  refine st_round (by kernel_rfl) ?_
  refine st_fn ent126 (zulen6) sub0 (by kernel_rfl) ?_
  refine st_g ent30 (fzint (60000000000) (by assumption)) sub0 (by kernel_rfl) (fun zq13 => ?_)
  refine st_g ent59 (d2 (zq9.snd) (zq13)) (subC 3 rfl (subC 0 rfl sub0)) (by kernel_rfl) (fun zq14 => ?_)
  refine st_b 34 (show (p.n) = true by assumption) (by kernel_rfl) ?_
  refine st_g ent95 (n2 (zq14.fst)) (subC 0 rfl sub0) (by kernel_rfl) (fun zq15 => ?_)
  refine st_fn ent54 (f2 (zq15)) (subC 0 rfl sub0) (by kernel_rfl) ?_
  refine st_i 46 .i64 (x' := 4 + 1 + 1 - 1) (Go.IntWalk.i64_in _ (by omega)) (by kernel_rfl) ?_
  refine st_i 24 .i64 (x' := 4 + 1 + 1 + 1) (Go.IntWalk.i64_in _ (by omega)) (by kernel_rfl) ?_
  refine st_round (by kernel_rfl) ?_
  refine st_fn ent126 (zulen7) sub0 (by kernel_rfl) ?_
  refine st_g ent30 (fzint (1000000000) (by assumption)) sub0 (by kernel_rfl) (fun zq18 => ?_)
  refine st_g ent59 (d3 (zq14.snd) (zq18)) (subC 3 rfl (subC 0 rfl sub0)) (by kernel_rfl) (fun zq19 => ?_)
  refine st_b 34 (show (p.n) = true by assumption) (by kernel_rfl) ?_
  refine st_g ent95 (n3 (zq19.fst)) (subC 0 rfl sub0) (by kernel_rfl) (fun zq20 => ?_)
  refine st_fn ent54 (f3 (zq20)) (subC 0 rfl sub0) (by kernel_rfl) ?_
  refine st_i 46 .i64 (x' := 4 + 1 + 1 + 1 - 1) (Go.IntWalk.i64_in _ (by omega)) (by kernel_rfl) ?_
  refine st_i 24 .i64 (x' := 4 + 1 + 1 + 1 + 1) (Go.IntWalk.i64_in _ (by omega)) (by kernel_rfl) ?_
  refine st_round (by kernel_rfl) ?_
  refine st_fn ent126 (zulen8) sub0 (by kernel_rfl) ?_
  refine st_g ent30 (fzint (1) (by assumption)) sub0 (by kernel_rfl) (fun zq23 => ?_)
  refine st_g ent59 (d4 (zq19.snd) (zq23)) (subC 3 rfl (subC 0 rfl sub0)) (by kernel_rfl) (fun zq24 => ?_)
  refine st_b 34 (show (p.n) = true by assumption) (by kernel_rfl) ?_
  refine st_g ent95 (n4 (zq24.fst)) (subC 0 rfl sub0) (by kernel_rfl) (fun zq25 => ?_)
  refine st_fn ent54 (f4 (zq25)) (subC 0 rfl sub0) (by kernel_rfl) ?_
  refine st_i 46 .i64 (x' := 4 + 1 + 1 + 1 + 1 - 1) (Go.IntWalk.i64_in _ (by omega)) (by kernel_rfl) ?_
  refine st_i 24 .i64 (x' := 4 + 1 + 1 + 1 + 1 + 1) (Go.IntWalk.i64_in _ (by omega)) (by kernel_rfl) ?_
  refine st_round (by kernel_rfl) ?_
  refine st_fn ent127 (zumade (0) (0) (0) (x.tdiv 86400000000000) ((x.tmod 86400000000000).tdiv 3600000000000) ((x.tmod 3600000000000).tdiv 60000000000) ((x.tmod 60000000000).tdiv 1000000000) (x.tmod 1000000000)) sub0 (by kernel_rfl) ?_
  refine st_fn ent50 (r) sub0 (by kernel_rfl) ?_
  exact st_ret Tryz.func67 (by kernel_rfl)
theorem zulay4n_o (p : ZQ) (x : Int) (hx : W128 x) (h0 : x < 0) (g : ¬ I64 (x.tdiv 86400000000000)) : Fn 67 [(p, x)] [zv p, .int .i64 4] (.tuple #[du0, .int .i64 4]) := by
  have hy : Bits 900 (-x) := (hx.bits.neg).mono (by decide)
  have y0 : 0 ≤ (-x) := by omega
  have bL4 : Bits 900 86400000000000 := Bits.mono (show W128 86400000000000 by unfold W128; omega).bits (by decide)
  have bL5 : Bits 900 3600000000000 := Bits.mono (show W128 3600000000000 by unfold W128; omega).bits (by decide)
  have bL6 : Bits 900 60000000000 := Bits.mono (show W128 60000000000 by unfold W128; omega).bits (by decide)
  have bL7 : Bits 900 1000000000 := Bits.mono (show W128 1000000000 by unfold W128; omega).bits (by decide)
  have bL8 : Bits 900 1 := Bits.mono (show W128 1 by unfold W128; omega).bits (by decide)
  have j1 : I64 86400000000000 := by unfold I64; omega
  have j2 : I64 3600000000000 := by unfold I64; omega
  have j3 : I64 60000000000 := by unfold I64; omega
  have j4 : I64 1000000000 := by unfold I64; omega
  have j5 : I64 1 := by unfold I64; omega
  have j0 : I64 0 := by unfold I64; omega
  have fa : ∀ p : ZQ, FnZ 112 [(p, x)] [zv p] zv (-x) := fun p => by
    have t := fzabs p x (hx.bits.fit (by decide))
    rwa [show ((x.natAbs : Nat) : Int) = -x by omega] at t
  have d0 : ∀ p q : ZQ, FnZZ 59 [(p, (-x)), (q, 86400000000000)] [zv p, zv q] (fun q => .tuple #[zv q.1, zv q.2]) ((-x).tdiv 86400000000000) ((-x).tmod 86400000000000) := fun p q => zdt p q (-x) 86400000000000 y0 hy (by omega) bL4
  have g5 : I64 ((x.tmod 86400000000000).tdiv 3600000000000) := by have := td2 x 86400000000000 3600000000000 24 (by decide) (by omega) (by omega); unfold I64; omega
  have g6 : I64 ((x.tmod 3600000000000).tdiv 60000000000) := by have := td2 x 3600000000000 60000000000 60 (by decide) (by omega) (by omega); unfold I64; omega
  have g7 : I64 ((x.tmod 60000000000).tdiv 1000000000) := by have := td2 x 60000000000 1000000000 60 (by decide) (by omega) (by omega); unfold I64; omega
  have g8 : I64 (x.tmod 1000000000) := by
    obtain ⟨e1, e2, e3⟩ := td x 1000000000 (by omega)
    by_cases z : 0 ≤ x
    · have := e2 z; unfold I64; omega
    · have := e3 (by omega); unfold I64; omega
  have n0 : ∀ p : ZQ, FnZ 95 [(p, (-x).tdiv 86400000000000)] [zv p] zv (x.tdiv 86400000000000) := fun p => by
    have t := zng p ((-x).tdiv 86400000000000) (tdvb (-x) 86400000000000 y0 hy (by omega))
    rwa [show -((-x).tdiv 86400000000000) = (x.tdiv 86400000000000) by rw [Int.neg_tdiv, Int.neg_neg]] at t
  have f0 : ∀ p : ZQ, Fn 54 [(p, (x.tdiv 86400000000000))] [zv p] (.tuple #[.int .i64 0, .bool false]) := fun p => by
    have t := fits_n p (x.tdiv 86400000000000) (by rw [show (x.tdiv 86400000000000) = -((-x).tdiv 86400000000000) by rw [Int.neg_tdiv, Int.neg_neg]]; exact ((tdvb (-x) 86400000000000 y0 hy (by omega)).neg).mono (by decide)) g
    exact t
  refine fn_of Tryz.func67 rfl fun ww => ?_
  refine st_know (p := p.n = true) (fun w hw => by rw [z_neg (hw (p, x) (by simp))]; simp; omega) fun hn => ?_
  clear hy y0 g hx
  refine st_fn ent126 (zulen4) sub0 (by kernel_rfl) ?_
  refine st_g ent112 (fa (p)) (subC 0 rfl sub0) (by kernel_rfl) (fun zq1 => ?_)
  refine st_round (by kernel_rfl) ?_
  refine st_fn ent126 (zulen4) sub0 (by kernel_rfl) ?_
  refine st_g ent30 (fzint (86400000000000) (by assumption)) sub0 (by kernel_rfl) (fun zq3 => ?_)
  refine st_g ent59 (d0 (zq1) (zq3)) (subC 1 rfl (subC 0 rfl sub0)) (by kernel_rfl) (fun zq4 => ?_)
  refine st_b 34 (show (p.n) = true by assumption) (by kernel_rfl) ?_
  refine st_g ent95 (n0 (zq4.fst)) (subC 0 rfl sub0) (by kernel_rfl) (fun zq5 => ?_)
  refine st_fn ent54 (f0 (zq5)) (subC 0 rfl sub0) (by kernel_rfl) ?_
  exact st_ret Tryz.func67 (by kernel_rfl)
theorem zulay5p_y (p : ZQ) (x : Int) (hx : W128 x) (h0 : 0 ≤ x) (g : I64 (x.tdiv 3600000000000)) (k : uOk 0 0 0 0 (x.tdiv 3600000000000) ((x.tmod 3600000000000).tdiv 60000000000) ((x.tmod 60000000000).tdiv 1000000000) (x.tmod 1000000000)) : Fn 67 [(p, x)] [zv p, .int .i64 5] (.tuple #[duv 0 0 0 0 (x.tdiv 3600000000000) ((x.tmod 3600000000000).tdiv 60000000000) ((x.tmod 60000000000).tdiv 1000000000) (x.tmod 1000000000), .int .i64 0]) := by
  have hy : Bits 900 x := hx.bits.mono (by decide)
  have y0 : 0 ≤ x := by omega
  have bL4 : Bits 900 86400000000000 := Bits.mono (show W128 86400000000000 by unfold W128; omega).bits (by decide)
  have bL5 : Bits 900 3600000000000 := Bits.mono (show W128 3600000000000 by unfold W128; omega).bits (by decide)
  have bL6 : Bits 900 60000000000 := Bits.mono (show W128 60000000000 by unfold W128; omega).bits (by decide)
  have bL7 : Bits 900 1000000000 := Bits.mono (show W128 1000000000 by unfold W128; omega).bits (by decide)
  have bL8 : Bits 900 1 := Bits.mono (show W128 1 by unfold W128; omega).bits (by decide)
  have j1 : I64 86400000000000 := by unfold I64; omega
  have j2 : I64 3600000000000 := by unfold I64; omega
  have j3 : I64 60000000000 := by unfold I64; omega
  have j4 : I64 1000000000 := by unfold I64; omega
  have j5 : I64 1 := by unfold I64; omega
  have j0 : I64 0 := by unfold I64; omega
  have fa : ∀ p : ZQ, FnZ 112 [(p, x)] [zv p] zv x := fun p => by
    have t := fzabs p x (hx.bits.fit (by decide))
    rwa [show ((x.natAbs : Nat) : Int) = x by omega] at t
  have d0 : ∀ p q : ZQ, FnZZ 59 [(p, x), (q, 3600000000000)] [zv p, zv q] (fun q => .tuple #[zv q.1, zv q.2]) (x.tdiv 3600000000000) (x.tmod 3600000000000) := fun p q => zdt p q x 3600000000000 y0 hy (by omega) bL5
  have d1 : ∀ p q : ZQ, FnZZ 59 [(p, x.tmod 3600000000000), (q, 60000000000)] [zv p, zv q] (fun q => .tuple #[zv q.1, zv q.2]) ((x.tmod 3600000000000).tdiv 60000000000) (x.tmod 60000000000) := fun p q => zdc p q x 3600000000000 60000000000 y0 (by omega) bL5 (by omega) bL6 (by decide)
  have d2 : ∀ p q : ZQ, FnZZ 59 [(p, x.tmod 60000000000), (q, 1000000000)] [zv p, zv q] (fun q => .tuple #[zv q.1, zv q.2]) ((x.tmod 60000000000).tdiv 1000000000) (x.tmod 1000000000) := fun p q => zdc p q x 60000000000 1000000000 y0 (by omega) bL6 (by omega) bL7 (by decide)
  have d3 : ∀ p q : ZQ, FnZZ 59 [(p, x.tmod 1000000000), (q, 1)] [zv p, zv q] (fun q => .tuple #[zv q.1, zv q.2]) ((x.tmod 1000000000).tdiv 1) (x.tmod 1) := fun p q => zdc p q x 1000000000 1 y0 (by omega) bL7 (by omega) bL8 (by decide)
  have g6 : I64 ((x.tmod 3600000000000).tdiv 60000000000) := by have := td2 x 3600000000000 60000000000 60 (by decide) (by omega) (by omega); unfold I64; omega
  have g7 : I64 ((x.tmod 60000000000).tdiv 1000000000) := by have := td2 x 60000000000 1000000000 60 (by decide) (by omega) (by omega); unfold I64; omega
  have g8 : I64 (x.tmod 1000000000) := by
    obtain ⟨e1, e2, e3⟩ := td x 1000000000 (by omega)
    by_cases z : 0 ≤ x
    · have := e2 z; unfold I64; omega
    · have := e3 (by omega); unfold I64; omega
  have f0 : ∀ p : ZQ, Fn 54 [(p, x.tdiv 3600000000000)] [zv p] (.tuple #[.int .i64 (x.tdiv 3600000000000), .bool true]) := fun p => by
    have t := fits_f p (x.tdiv 3600000000000) (g.w.bits.mono (by decide)) g
    exact t
  have f1 : ∀ p : ZQ, Fn 54 [(p, (x.tmod 3600000000000).tdiv 60000000000)] [zv p] (.tuple #[.int .i64 ((x.tmod 3600000000000).tdiv 60000000000), .bool true]) := fun p => by
    have t := fits_f p ((x.tmod 3600000000000).tdiv 60000000000) (g6.w.bits.mono (by decide)) g6
    exact t
  have f2 : ∀ p : ZQ, Fn 54 [(p, (x.tmod 60000000000).tdiv 1000000000)] [zv p] (.tuple #[.int .i64 ((x.tmod 60000000000).tdiv 1000000000), .bool true]) := fun p => by
    have t := fits_f p ((x.tmod 60000000000).tdiv 1000000000) (g7.w.bits.mono (by decide)) g7
    exact t
  have f3 : ∀ p : ZQ, Fn 54 [(p, (x.tmod 1000000000).tdiv 1)] [zv p] (.tuple #[.int .i64 (x.tmod 1000000000), .bool true]) := fun p => by
    have t := fits_f p (x.tmod 1000000000) (g8.w.bits.mono (by decide)) g8
    simpa only [tdiv_1] using t
  have r := zuright_y 0 0 0 0 (x.tdiv 3600000000000) ((x.tmod 3600000000000).tdiv 60000000000) ((x.tmod 60000000000).tdiv 1000000000) (x.tmod 1000000000) ⟨j0, j0, j0, j0, g, g6, g7, g8⟩ k
  refine fn_of Tryz.func67 rfl fun ww => ?_
  refine st_know (p := p.n = false) (fun w hw => by rw [z_neg (hw (p, x) (by simp))]; simp; omega) fun hn => ?_
  clear hy y0 g hx k
  refine st_fn ent126 (zulen5) sub0 (by kernel_rfl) ?_
  refine st_g ent112 (fa (p)) (subC 0 rfl sub0) (by kernel_rfl) (fun zq1 => ?_)
  refine st_round (by kernel_rfl) ?_
  refine st_fn ent126 (zulen5) sub0 (by kernel_rfl) ?_
  refine st_g ent30 (fzint (3600000000000) (by assumption)) sub0 (by kernel_rfl) (fun zq3 => ?_)
  refine st_g ent59 (d0 (zq1) (zq3)) (subC 1 rfl (subC 0 rfl sub0)) (by kernel_rfl) (fun zq4 => ?_)
  refine st_b 34 (show (p.n) = false by assumption) (by kernel_rfl) ?_
  refine st_fn ent54 (f0 (zq4.fst)) (subC 0 rfl sub0) (by kernel_rfl) ?_
  refine st_i 46 .i64 (x' := 5 - 1) (Go.IntWalk.i64_in _ (by omega)) (by kernel_rfl) ?_
  refine st_i 24 .i64 (x' := 5 + 1) (Go.IntWalk.i64_in _ (by omega)) (by kernel_rfl) ?_
  refine st_round (by kernel_rfl) ?_
  refine st_fn ent126 (zulen6) sub0 (by kernel_rfl) ?_
  refine st_g ent30 (fzint (60000000000) (by assumption)) sub0 (by kernel_rfl) (fun zq7 => ?_)
  refine st_g ent59 (d1 (zq4.snd) (zq7)) (subC 2 rfl (subC 0 rfl sub0)) (by kernel_rfl) (fun zq8 => ?_)
  refine st_b 34 (show (p.n) = false by assumption) (by kernel_rfl) ?_
  refine st_fn ent54 (f1 (zq8.fst)) (subC 0 rfl sub0) (by kernel_rfl) ?_
  refine st_i 46 .i64 (x' := 5 + 1 - 1) (Go.IntWalk.i64_in _ (by omega)) (by kernel_rfl) ?_
  refine st_i 24 .i64 (x' := 5 + 1 + 1) (Go.IntWalk.i64_in _ (by omega)) (by kernel_rfl) ?_
  refine st_round (by kernel_rfl) ?_
  refine st_fn ent126 (zulen7) sub0 (by kernel_rfl) ?_
  refine st_g ent30 (fzint (1000000000) (by assumption)) sub0 (by kernel_rfl) (fun zq11 => ?_)
  refine st_g ent59 (d2 (zq8.snd) (zq11)) (subC 2 rfl (subC 0 rfl sub0)) (by kernel_rfl) (fun zq12 => ?_)
  refine st_b 34 (show (p.n) = false by assumption) (by kernel_rfl) ?_
  refine st_fn ent54 (f2 (zq12.fst)) (subC 0 rfl sub0) (by kernel_rfl) ?_
  refine st_i 46 .i64 (x' := 5 + 1 + 1 - 1) (Go.IntWalk.i64_in _ (by omega)) (by kernel_rfl) ?_
  refine st_i 24 .i64 (x' := 5 + 1 + 1 + 1) (Go.IntWalk.i64_in _ (by omega)) (by kernel_rfl) ?_
  refine st_round (by kernel_rfl) ?_
  refine st_fn ent126 (zulen8) sub0 (by kernel_rfl) ?_
  refine st_g ent30 (fzint (1) (by assumption)) sub0 (by kernel_rfl) (fun zq15 => ?_)
  refine st_g ent59 (d3 (zq12.snd) (zq15)) (subC 2 rfl (subC 0 rfl sub0)) (by kernel_rfl) (fun zq16 => ?_)
  refine st_b 34 (show (p.n) = false by assumption) (by kernel_rfl) ?_
  refine st_fn ent54 (f3 (zq16.fst)) (subC 0 rfl sub0) (by kernel_rfl) ?_
  refine st_i 46 .i64 (x' := 5 + 1 + 1 + 1 - 1) (Go.IntWalk.i64_in _ (by omega)) (by kernel_rfl) ?_
  refine st_i 24 .i64 (x' := 5 + 1 + 1 + 1 + 1) (Go.IntWalk.i64_in _ (by omega)) (by kernel_rfl) ?_
  refine st_round (by kernel_rfl) ?_
  refine st_fn ent127 (zumade (0) (0) (0) (0) (x.tdiv 3600000000000) ((x.tmod 3600000000000).tdiv 60000000000) ((x.tmod 60000000000).tdiv 1000000000) (x.tmod 1000000000)) sub0 (by kernel_rfl) ?_
  refine st_fn ent50 (r) sub0 (by kernel_rfl) ?_
  exact st_ret Tryz.func67 (by kernel_rfl)
theorem zulay5p_r (p : ZQ) (x : Int) (hx : W128 x) (h0 : 0 ≤ x) (g : I64 (x.tdiv 3600000000000)) (k : ¬ uOk 0 0 0 0 (x.tdiv 3600000000000) ((x.tmod 3600000000000).tdiv 60000000000) ((x.tmod 60000000000).tdiv 1000000000) (x.tmod 1000000000)) : Fn 67 [(p, x)] [zv p, .int .i64 5] (.tuple #[du0, .int .i64 4]) := by
  have hy : Bits 900 x := hx.bits.mono (by decide)
  have y0 : 0 ≤ x := by omega
  have bL4 : Bits 900 86400000000000 := Bits.mono (show W128 86400000000000 by unfold W128; omega).bits (by decide)
  have bL5 : Bits 900 3600000000000 := Bits.mono (show W128 3600000000000 by unfold W128; omega).bits (by decide)
  have bL6 : Bits 900 60000000000 := Bits.mono (show W128 60000000000 by unfold W128; omega).bits (by decide)
  have bL7 : Bits 900 1000000000 := Bits.mono (show W128 1000000000 by unfold W128; omega).bits (by decide)
  have bL8 : Bits 900 1 := Bits.mono (show W128 1 by unfold W128; omega).bits (by decide)
  have j1 : I64 86400000000000 := by unfold I64; omega
  have j2 : I64 3600000000000 := by unfold I64; omega
  have j3 : I64 60000000000 := by unfold I64; omega
  have j4 : I64 1000000000 := by unfold I64; omega
  have j5 : I64 1 := by unfold I64; omega
  have j0 : I64 0 := by unfold I64; omega
  have fa : ∀ p : ZQ, FnZ 112 [(p, x)] [zv p] zv x := fun p => by
    have t := fzabs p x (hx.bits.fit (by decide))
    rwa [show ((x.natAbs : Nat) : Int) = x by omega] at t
  have d0 : ∀ p q : ZQ, FnZZ 59 [(p, x), (q, 3600000000000)] [zv p, zv q] (fun q => .tuple #[zv q.1, zv q.2]) (x.tdiv 3600000000000) (x.tmod 3600000000000) := fun p q => zdt p q x 3600000000000 y0 hy (by omega) bL5
  have d1 : ∀ p q : ZQ, FnZZ 59 [(p, x.tmod 3600000000000), (q, 60000000000)] [zv p, zv q] (fun q => .tuple #[zv q.1, zv q.2]) ((x.tmod 3600000000000).tdiv 60000000000) (x.tmod 60000000000) := fun p q => zdc p q x 3600000000000 60000000000 y0 (by omega) bL5 (by omega) bL6 (by decide)
  have d2 : ∀ p q : ZQ, FnZZ 59 [(p, x.tmod 60000000000), (q, 1000000000)] [zv p, zv q] (fun q => .tuple #[zv q.1, zv q.2]) ((x.tmod 60000000000).tdiv 1000000000) (x.tmod 1000000000) := fun p q => zdc p q x 60000000000 1000000000 y0 (by omega) bL6 (by omega) bL7 (by decide)
  have d3 : ∀ p q : ZQ, FnZZ 59 [(p, x.tmod 1000000000), (q, 1)] [zv p, zv q] (fun q => .tuple #[zv q.1, zv q.2]) ((x.tmod 1000000000).tdiv 1) (x.tmod 1) := fun p q => zdc p q x 1000000000 1 y0 (by omega) bL7 (by omega) bL8 (by decide)
  have g6 : I64 ((x.tmod 3600000000000).tdiv 60000000000) := by have := td2 x 3600000000000 60000000000 60 (by decide) (by omega) (by omega); unfold I64; omega
  have g7 : I64 ((x.tmod 60000000000).tdiv 1000000000) := by have := td2 x 60000000000 1000000000 60 (by decide) (by omega) (by omega); unfold I64; omega
  have g8 : I64 (x.tmod 1000000000) := by
    obtain ⟨e1, e2, e3⟩ := td x 1000000000 (by omega)
    by_cases z : 0 ≤ x
    · have := e2 z; unfold I64; omega
    · have := e3 (by omega); unfold I64; omega
  have f0 : ∀ p : ZQ, Fn 54 [(p, x.tdiv 3600000000000)] [zv p] (.tuple #[.int .i64 (x.tdiv 3600000000000), .bool true]) := fun p => by
    have t := fits_f p (x.tdiv 3600000000000) (g.w.bits.mono (by decide)) g
    exact t
  have f1 : ∀ p : ZQ, Fn 54 [(p, (x.tmod 3600000000000).tdiv 60000000000)] [zv p] (.tuple #[.int .i64 ((x.tmod 3600000000000).tdiv 60000000000), .bool true]) := fun p => by
    have t := fits_f p ((x.tmod 3600000000000).tdiv 60000000000) (g6.w.bits.mono (by decide)) g6
    exact t
  have f2 : ∀ p : ZQ, Fn 54 [(p, (x.tmod 60000000000).tdiv 1000000000)] [zv p] (.tuple #[.int .i64 ((x.tmod 60000000000).tdiv 1000000000), .bool true]) := fun p => by
    have t := fits_f p ((x.tmod 60000000000).tdiv 1000000000) (g7.w.bits.mono (by decide)) g7
    exact t
  have f3 : ∀ p : ZQ, Fn 54 [(p, (x.tmod 1000000000).tdiv 1)] [zv p] (.tuple #[.int .i64 (x.tmod 1000000000), .bool true]) := fun p => by
    have t := fits_f p (x.tmod 1000000000) (g8.w.bits.mono (by decide)) g8
    simpa only [tdiv_1] using t
  have r := zuright_f 0 0 0 0 (x.tdiv 3600000000000) ((x.tmod 3600000000000).tdiv 60000000000) ((x.tmod 60000000000).tdiv 1000000000) (x.tmod 1000000000) ⟨j0, j0, j0, j0, g, g6, g7, g8⟩ k
  refine fn_of Tryz.func67 rfl fun ww => ?_
  refine st_know (p := p.n = false) (fun w hw => by rw [z_neg (hw (p, x) (by simp))]; simp; omega) fun hn => ?_
  clear hy y0 g hx k
  refine st_fn ent126 (zulen5) sub0 (by kernel_rfl) ?_
  refine st_g ent112 (fa (p)) (subC 0 rfl sub0) (by kernel_rfl) (fun zq1 => ?_)
  refine st_round (by kernel_rfl) ?_
  refine st_fn ent126 (zulen5) sub0 (by kernel_rfl) ?_
  refine st_g ent30 (fzint (3600000000000) (by assumption)) sub0 (by kernel_rfl) (fun zq3 => ?_)
  refine st_g ent59 (d0 (zq1) (zq3)) (subC 1 rfl (subC 0 rfl sub0)) (by kernel_rfl) (fun zq4 => ?_)
  refine st_b 34 (show (p.n) = false by assumption) (by kernel_rfl) ?_
  refine st_fn ent54 (f0 (zq4.fst)) (subC 0 rfl sub0) (by kernel_rfl) ?_
  refine st_i 46 .i64 (x' := 5 - 1) (Go.IntWalk.i64_in _ (by omega)) (by kernel_rfl) ?_
  refine st_i 24 .i64 (x' := 5 + 1) (Go.IntWalk.i64_in _ (by omega)) (by kernel_rfl) ?_
  refine st_round (by kernel_rfl) ?_
  refine st_fn ent126 (zulen6) sub0 (by kernel_rfl) ?_
  refine st_g ent30 (fzint (60000000000) (by assumption)) sub0 (by kernel_rfl) (fun zq7 => ?_)
  refine st_g ent59 (d1 (zq4.snd) (zq7)) (subC 2 rfl (subC 0 rfl sub0)) (by kernel_rfl) (fun zq8 => ?_)
  refine st_b 34 (show (p.n) = false by assumption) (by kernel_rfl) ?_
  refine st_fn ent54 (f1 (zq8.fst)) (subC 0 rfl sub0) (by kernel_rfl) ?_
  refine st_i 46 .i64 (x' := 5 + 1 - 1) (Go.IntWalk.i64_in _ (by omega)) (by kernel_rfl) ?_
  refine st_i 24 .i64 (x' := 5 + 1 + 1) (Go.IntWalk.i64_in _ (by omega)) (by kernel_rfl) ?_
  refine st_round (by kernel_rfl) ?_
  refine st_fn ent126 (zulen7) sub0 (by kernel_rfl) ?_
  refine st_g ent30 (fzint (1000000000) (by assumption)) sub0 (by kernel_rfl) (fun zq11 => ?_)
  refine st_g ent59 (d2 (zq8.snd) (zq11)) (subC 2 rfl (subC 0 rfl sub0)) (by kernel_rfl) (fun zq12 => ?_)
  refine st_b 34 (show (p.n) = false by assumption) (by kernel_rfl) ?_
  refine st_fn ent54 (f2 (zq12.fst)) (subC 0 rfl sub0) (by kernel_rfl) ?_
  refine st_i 46 .i64 (x' := 5 + 1 + 1 - 1) (Go.IntWalk.i64_in _ (by omega)) (by kernel_rfl) ?_
  refine st_i 24 .i64 (x' := 5 + 1 + 1 + 1) (Go.IntWalk.i64_in _ (by omega)) (by kernel_rfl) ?_
  refine st_round (by kernel_rfl) ?_
  refine st_fn ent126 (zulen8) sub0 (by kernel_rfl) ?_
  refine st_g ent30 (fzint (1) (by assumption)) sub0 (by kernel_rfl) (fun zq15 => ?_)
  refine st_g ent59 (d3 (zq12.snd) (zq15)) (subC 2 rfl (subC 0 rfl sub0)) (by kernel_rfl) (fun zq16 => ?_)
  refine st_b 34 (show (p.n) = false by assumption) (by kernel_rfl) ?_
  refine st_fn ent54 (f3 (zq16.fst)) (subC 0 rfl sub0) (by kernel_rfl) ?_
  refine st_i 46 .i64 (x' := 5 + 1 + 1 + 1 - 1) (Go.IntWalk.i64_in _ (by omega)) (by kernel_rfl) ?_
  refine st_i 24 .i64 (x' := 5 + 1 + 1 + 1 + 1) (Go.IntWalk.i64_in _ (by omega)) (by kernel_rfl) ?_
  refine st_round (by kernel_rfl) ?_
  refine st_fn ent127 (zumade (0) (0) (0) (0) (x.tdiv 3600000000000) ((x.tmod 3600000000000).tdiv 60000000000) ((x.tmod 60000000000).tdiv 1000000000) (x.tmod 1000000000)) sub0 (by kernel_rfl) ?_
  refine st_fn ent50 (r) sub0 (by kernel_rfl) ?_
  exact st_ret Tryz.func67 (by kernel_rfl)
theorem zulay5p_o (p : ZQ) (x : Int) (hx : W128 x) (h0 : 0 ≤ x) (g : ¬ I64 (x.tdiv 3600000000000)) : Fn 67 [(p, x)] [zv p, .int .i64 5] (.tuple #[du0, .int .i64 4]) := by
  have hy : Bits 900 x := hx.bits.mono (by decide)
  have y0 : 0 ≤ x := by omega
  have bL4 : Bits 900 86400000000000 := Bits.mono (show W128 86400000000000 by unfold W128; omega).bits (by decide)
  have bL5 : Bits 900 3600000000000 := Bits.mono (show W128 3600000000000 by unfold W128; omega).bits (by decide)
  have bL6 : Bits 900 60000000000 := Bits.mono (show W128 60000000000 by unfold W128; omega).bits (by decide)
  have bL7 : Bits 900 1000000000 := Bits.mono (show W128 1000000000 by unfold W128; omega).bits (by decide)
  have bL8 : Bits 900 1 := Bits.mono (show W128 1 by unfold W128; omega).bits (by decide)
  have j1 : I64 86400000000000 := by unfold I64; omega
  have j2 : I64 3600000000000 := by unfold I64; omega
  have j3 : I64 60000000000 := by unfold I64; omega
  have j4 : I64 1000000000 := by unfold I64; omega
  have j5 : I64 1 := by unfold I64; omega
  have j0 : I64 0 := by unfold I64; omega
  have fa : ∀ p : ZQ, FnZ 112 [(p, x)] [zv p] zv x := fun p => by
    have t := fzabs p x (hx.bits.fit (by decide))
    rwa [show ((x.natAbs : Nat) : Int) = x by omega] at t
  have d0 : ∀ p q : ZQ, FnZZ 59 [(p, x), (q, 3600000000000)] [zv p, zv q] (fun q => .tuple #[zv q.1, zv q.2]) (x.tdiv 3600000000000) (x.tmod 3600000000000) := fun p q => zdt p q x 3600000000000 y0 hy (by omega) bL5
  have g6 : I64 ((x.tmod 3600000000000).tdiv 60000000000) := by have := td2 x 3600000000000 60000000000 60 (by decide) (by omega) (by omega); unfold I64; omega
  have g7 : I64 ((x.tmod 60000000000).tdiv 1000000000) := by have := td2 x 60000000000 1000000000 60 (by decide) (by omega) (by omega); unfold I64; omega
  have g8 : I64 (x.tmod 1000000000) := by
    obtain ⟨e1, e2, e3⟩ := td x 1000000000 (by omega)
    by_cases z : 0 ≤ x
    · have := e2 z; unfold I64; omega
    · have := e3 (by omega); unfold I64; omega
  have f0 : ∀ p : ZQ, Fn 54 [(p, x.tdiv 3600000000000)] [zv p] (.tuple #[.int .i64 0, .bool false]) := fun p => by
    have t := fits_n p (x.tdiv 3600000000000) ((tdvb x 3600000000000 y0 hy (by omega)).mono (by decide)) g
    exact t
  refine fn_of Tryz.func67 rfl fun ww => ?_
  refine st_know (p := p.n = false) (fun w hw => by rw [z_neg (hw (p, x) (by simp))]; simp; omega) fun hn => ?_
  clear hy y0 g hx
  refine st_fn ent126 (zulen5) sub0 (by kernel_rfl) ?_
  refine st_g ent112 (fa (p)) (subC 0 rfl sub0) (by kernel_rfl) (fun zq1 => ?_)
  refine st_round (by kernel_rfl) ?_
  refine st_fn ent126 (zulen5) sub0 (by kernel_rfl) ?_
  refine st_g ent30 (fzint (3600000000000) (by assumption)) sub0 (by kernel_rfl) (fun zq3 => ?_)
  refine st_g ent59 (d0 (zq1) (zq3)) (subC 1 rfl (subC 0 rfl sub0)) (by kernel_rfl) (fun zq4 => ?_)
  refine st_b 34 (show (p.n) = false by assumption) (by kernel_rfl) ?_
  refine st_fn ent54 (f0 (zq4.fst)) (subC 0 rfl sub0) (by kernel_rfl) ?_
  exact st_ret Tryz.func67 (by kernel_rfl)
theorem zulay5n_y (p : ZQ) (x : Int) (hx : W128 x) (h0 : x < 0) (g : I64 (x.tdiv 3600000000000)) (k : uOk 0 0 0 0 (x.tdiv 3600000000000) ((x.tmod 3600000000000).tdiv 60000000000) ((x.tmod 60000000000).tdiv 1000000000) (x.tmod 1000000000)) : Fn 67 [(p, x)] [zv p, .int .i64 5] (.tuple #[duv 0 0 0 0 (x.tdiv 3600000000000) ((x.tmod 3600000000000).tdiv 60000000000) ((x.tmod 60000000000).tdiv 1000000000) (x.tmod 1000000000), .int .i64 0]) := by
  have hy : Bits 900 (-x) := (hx.bits.neg).mono (by decide)
  have y0 : 0 ≤ (-x) := by omega
  have bL4 : Bits 900 86400000000000 := Bits.mono (show W128 86400000000000 by unfold W128; omega).bits (by decide)
  have bL5 : Bits 900 3600000000000 := Bits.mono (show W128 3600000000000 by unfold W128; omega).bits (by decide)
  have bL6 : Bits 900 60000000000 := Bits.mono (show W128 60000000000 by unfold W128; omega).bits (by decide)
  have bL7 : Bits 900 1000000000 := Bits.mono (show W128 1000000000 by unfold W128; omega).bits (by decide)
  have bL8 : Bits 900 1 := Bits.mono (show W128 1 by unfold W128; omega).bits (by decide)
  have j1 : I64 86400000000000 := by unfold I64; omega
  have j2 : I64 3600000000000 := by unfold I64; omega
  have j3 : I64 60000000000 := by unfold I64; omega
  have j4 : I64 1000000000 := by unfold I64; omega
  have j5 : I64 1 := by unfold I64; omega
  have j0 : I64 0 := by unfold I64; omega
  have fa : ∀ p : ZQ, FnZ 112 [(p, x)] [zv p] zv (-x) := fun p => by
    have t := fzabs p x (hx.bits.fit (by decide))
    rwa [show ((x.natAbs : Nat) : Int) = -x by omega] at t
  have d0 : ∀ p q : ZQ, FnZZ 59 [(p, (-x)), (q, 3600000000000)] [zv p, zv q] (fun q => .tuple #[zv q.1, zv q.2]) ((-x).tdiv 3600000000000) ((-x).tmod 3600000000000) := fun p q => zdt p q (-x) 3600000000000 y0 hy (by omega) bL5
  have d1 : ∀ p q : ZQ, FnZZ 59 [(p, (-x).tmod 3600000000000), (q, 60000000000)] [zv p, zv q] (fun q => .tuple #[zv q.1, zv q.2]) (((-x).tmod 3600000000000).tdiv 60000000000) ((-x).tmod 60000000000) := fun p q => zdc p q (-x) 3600000000000 60000000000 y0 (by omega) bL5 (by omega) bL6 (by decide)
  have d2 : ∀ p q : ZQ, FnZZ 59 [(p, (-x).tmod 60000000000), (q, 1000000000)] [zv p, zv q] (fun q => .tuple #[zv q.1, zv q.2]) (((-x).tmod 60000000000).tdiv 1000000000) ((-x).tmod 1000000000) := fun p q => zdc p q (-x) 60000000000 1000000000 y0 (by omega) bL6 (by omega) bL7 (by decide)
  have d3 : ∀ p q : ZQ, FnZZ 59 [(p, (-x).tmod 1000000000), (q, 1)] [zv p, zv q] (fun q => .tuple #[zv q.1, zv q.2]) (((-x).tmod 1000000000).tdiv 1) ((-x).tmod 1) := fun p q => zdc p q (-x) 1000000000 1 y0 (by omega) bL7 (by omega) bL8 (by decide)
  have g6 : I64 ((x.tmod 3600000000000).tdiv 60000000000) := by have := td2 x 3600000000000 60000000000 60 (by decide) (by omega) (by omega); unfold I64; omega
  have g7 : I64 ((x.tmod 60000000000).tdiv 1000000000) := by have := td2 x 60000000000 1000000000 60 (by decide) (by omega) (by omega); unfold I64; omega
  have g8 : I64 (x.tmod 1000000000) := by
    obtain ⟨e1, e2, e3⟩ := td x 1000000000 (by omega)
    by_cases z : 0 ≤ x
    · have := e2 z; unfold I64; omega
    · have := e3 (by omega); unfold I64; omega
  have n0 : ∀ p : ZQ, FnZ 95 [(p, (-x).tdiv 3600000000000)] [zv p] zv (x.tdiv 3600000000000) := fun p => by
    have t := zng p ((-x).tdiv 3600000000000) (tdvb (-x) 3600000000000 y0 hy (by omega))
    rwa [show -((-x).tdiv 3600000000000) = (x.tdiv 3600000000000) by rw [Int.neg_tdiv, Int.neg_neg]] at t
  have f0 : ∀ p : ZQ, Fn 54 [(p, (x.tdiv 3600000000000))] [zv p] (.tuple #[.int .i64 (x.tdiv 3600000000000), .bool true]) := fun p => by
    have t := fits_f p (x.tdiv 3600000000000) (g.w.bits.mono (by decide)) g
    exact t
  have n1 : ∀ p : ZQ, FnZ 95 [(p, ((-x).tmod 3600000000000).tdiv 60000000000)] [zv p] zv ((x.tmod 3600000000000).tdiv 60000000000) := fun p => by
    have t := zng p (((-x).tmod 3600000000000).tdiv 60000000000) (tdvb _ 60000000000 (tmod_nb (-x) 3600000000000 y0 (by omega) bL5).1 (tmod_nb (-x) 3600000000000 y0 (by omega) bL5).2 (by omega))
    rwa [show -(((-x).tmod 3600000000000).tdiv 60000000000) = ((x.tmod 3600000000000).tdiv 60000000000) by rw [Int.neg_tmod, Int.neg_tdiv, Int.neg_neg]] at t
  have f1 : ∀ p : ZQ, Fn 54 [(p, ((x.tmod 3600000000000).tdiv 60000000000))] [zv p] (.tuple #[.int .i64 ((x.tmod 3600000000000).tdiv 60000000000), .bool true]) := fun p => by
    have t := fits_f p ((x.tmod 3600000000000).tdiv 60000000000) (g6.w.bits.mono (by decide)) g6
    exact t
  have n2 : ∀ p : ZQ, FnZ 95 [(p, ((-x).tmod 60000000000).tdiv 1000000000)] [zv p] zv ((x.tmod 60000000000).tdiv 1000000000) := fun p => by
    have t := zng p (((-x).tmod 60000000000).tdiv 1000000000) (tdvb _ 1000000000 (tmod_nb (-x) 60000000000 y0 (by omega) bL6).1 (tmod_nb (-x) 60000000000 y0 (by omega) bL6).2 (by omega))
    rwa [show -(((-x).tmod 60000000000).tdiv 1000000000) = ((x.tmod 60000000000).tdiv 1000000000) by rw [Int.neg_tmod, Int.neg_tdiv, Int.neg_neg]] at t
  have f2 : ∀ p : ZQ, Fn 54 [(p, ((x.tmod 60000000000).tdiv 1000000000))] [zv p] (.tuple #[.int .i64 ((x.tmod 60000000000).tdiv 1000000000), .bool true]) := fun p => by
    have t := fits_f p ((x.tmod 60000000000).tdiv 1000000000) (g7.w.bits.mono (by decide)) g7
    exact t
  have n3 : ∀ p : ZQ, FnZ 95 [(p, ((-x).tmod 1000000000).tdiv 1)] [zv p] zv (x.tmod 1000000000) := fun p => by
    have t := zng p (((-x).tmod 1000000000).tdiv 1) (tdvb _ 1 (tmod_nb (-x) 1000000000 y0 (by omega) bL7).1 (tmod_nb (-x) 1000000000 y0 (by omega) bL7).2 (by omega))
    rwa [show -(((-x).tmod 1000000000).tdiv 1) = (x.tmod 1000000000) by rw [Int.neg_tmod, Int.neg_tdiv, Int.neg_neg, tdiv_1]] at t
  have f3 : ∀ p : ZQ, Fn 54 [(p, (x.tmod 1000000000))] [zv p] (.tuple #[.int .i64 (x.tmod 1000000000), .bool true]) := fun p => by
    have t := fits_f p (x.tmod 1000000000) (g8.w.bits.mono (by decide)) g8
    exact t
  have r := zuright_y 0 0 0 0 (x.tdiv 3600000000000) ((x.tmod 3600000000000).tdiv 60000000000) ((x.tmod 60000000000).tdiv 1000000000) (x.tmod 1000000000) ⟨j0, j0, j0, j0, g, g6, g7, g8⟩ k
  refine fn_of Tryz.func67 rfl fun ww => ?_
  refine st_know (p := p.n = true) (fun w hw => by rw [z_neg (hw (p, x) (by simp))]; simp; omega) fun hn => ?_
  clear hy y0 g hx k
  refine st_fn ent126 (zulen5) sub0 (by kernel_rfl) ?_
  refine st_g ent112 (fa (p)) (subC 0 rfl sub0) (by kernel_rfl) (fun zq1 => ?_)
  refine st_round (by kernel_rfl) ?_
  refine st_fn ent126 (zulen5) sub0 (by kernel_rfl) ?_
  refine st_g ent30 (fzint (3600000000000) (by assumption)) sub0 (by kernel_rfl) (fun zq3 => ?_)
  refine st_g ent59 (d0 (zq1) (zq3)) (subC 1 rfl (subC 0 rfl sub0)) (by kernel_rfl) (fun zq4 => ?_)
  refine st_b 34 (show (p.n) = true by assumption) (by kernel_rfl) ?_
  refine st_g ent95 (n0 (zq4.fst)) (subC 0 rfl sub0) (by kernel_rfl) (fun zq5 => ?_)
  refine st_fn ent54 (f0 (zq5)) (subC 0 rfl sub0) (by kernel_rfl) ?_
  refine st_i 46 .i64 (x' := 5 - 1) (Go.IntWalk.i64_in _ (by omega)) (by kernel_rfl) ?_
  refine st_i 24 .i64 (x' := 5 + 1) (Go.IntWalk.i64_in _ (by omega)) (by kernel_rfl) ?_
  refine st_round (by kernel_rfl) ?_
  refine st_fn ent126 (zulen6) sub0 (by kernel_rfl) ?_
  refine st_g ent30 (fzint (60000000000) (by assumption)) sub0 (by kernel_rfl) (fun zq8 => ?_)
  refine st_g ent59 (d1 (zq4.snd) (zq8)) (subC 3 rfl (subC 0 rfl sub0)) (by kernel_rfl) (fun zq9 => ?_)
  refine st_b 34 (show (p.n) = true by assumption) (by kernel_rfl) ?_
  refine st_g ent95 (n1 (zq9.fst)) (subC 0 rfl sub0) (by kernel_rfl) (fun zq10 => ?_)
  refine st_fn ent54 (f1 (zq10)) (subC 0 rfl sub0) (by kernel_rfl) ?_
  refine st_i 46 .i64 (x' := 5 + 1 - 1) (Go.IntWalk.i64_in _ (by omega)) (by kernel_rfl) ?_
  refine st_i 24 .i64 (x' := 5 + 1 + 1) (Go.IntWalk.i64_in _ (by omega)) (by kernel_rfl) ?_
  refine st_round (by kernel_rfl) ?_
  refine st_fn ent126 (zulen7) sub0 (by kernel_rfl) ?_
  refine st_g ent30 (fzint (1000000000) (by assumption)) sub0 (by kernel_rfl) (fun zq13 => ?_)
  refine st_g ent59 (d2 (zq9.snd) (zq13)) (subC 3 rfl (subC 0 rfl sub0)) (by kernel_rfl) (fun zq14 => ?_)
  refine st_b 34 (show (p.n) = true by assumption) (by kernel_rfl) ?_
  refine st_g ent95 (n2 (zq14.fst)) (subC 0 rfl sub0) (by kernel_rfl) (fun zq15 => ?_)
  refine st_fn ent54 (f2 (zq15)) (subC 0 rfl sub0) (by kernel_rfl) ?_
  refine st_i 46 .i64 (x' := 5 + 1 + 1 - 1) (Go.IntWalk.i64_in _ (by omega)) (by kernel_rfl) ?_
  refine st_i 24 .i64 (x' := 5 + 1 + 1 + 1) (Go.IntWalk.i64_in _ (by omega)) (by kernel_rfl) ?_
  refine st_round (by kernel_rfl) ?_
  refine st_fn ent126 (zulen8) sub0 (by kernel_rfl) ?_
  refine st_g ent30 (fzint (1) (by assumption)) sub0 (by kernel_rfl) (fun zq18 => ?_)
  refine st_g ent59 (d3 (zq14.snd) (zq18)) (subC 3 rfl (subC 0 rfl sub0)) (by kernel_rfl) (fun zq19 => ?_)
  refine st_b 34 (show (p.n) = true by assumption) (by kernel_rfl) ?_
  refine st_g ent95 (n3 (zq19.fst)) (subC 0 rfl sub0) (by kernel_rfl) (fun zq20 => ?_)
  refine st_fn ent54 (f3 (zq20)) (subC 0 rfl sub0) (by kernel_rfl) ?_
  refine st_i 46 .i64 (x' := 5 + 1 + 1 + 1 - 1) (Go.IntWalk.i64_in _ (by omega)) (by kernel_rfl) ?_
  refine st_i 24 .i64 (x' := 5 + 1 + 1 + 1 + 1) (Go.IntWalk.i64_in _ (by omega)) (by kernel_rfl) ?_
  refine st_round (by kernel_rfl) ?_
  refine st_fn ent127 (zumade (0) (0) (0) (0) (x.tdiv 3600000000000) ((x.tmod 3600000000000).tdiv 60000000000) ((x.tmod 60000000000).tdiv 1000000000) (x.tmod 1000000000)) sub0 (by kernel_rfl) ?_
  refine st_fn ent50 (r) sub0 (by kernel_rfl) ?_
  exact st_ret Tryz.func67 (by kernel_rfl)
theorem zulay5n_r (p : ZQ) (x : Int) (hx : W128 x) (h0 : x < 0) (g : I64 (x.tdiv 3600000000000)) (k : ¬ uOk 0 0 0 0 (x.tdiv 3600000000000) ((x.tmod 3600000000000).tdiv 60000000000) ((x.tmod 60000000000).tdiv 1000000000) (x.tmod 1000000000)) : Fn 67 [(p, x)] [zv p, .int .i64 5] (.tuple #[du0, .int .i64 4]) := by
  have hy : Bits 900 (-x) := (hx.bits.neg).mono (by decide)
  have y0 : 0 ≤ (-x) := by omega
  have bL4 : Bits 900 86400000000000 := Bits.mono (show W128 86400000000000 by unfold W128; omega).bits (by decide)
  have bL5 : Bits 900 3600000000000 := Bits.mono (show W128 3600000000000 by unfold W128; omega).bits (by decide)
  have bL6 : Bits 900 60000000000 := Bits.mono (show W128 60000000000 by unfold W128; omega).bits (by decide)
  have bL7 : Bits 900 1000000000 := Bits.mono (show W128 1000000000 by unfold W128; omega).bits (by decide)
  have bL8 : Bits 900 1 := Bits.mono (show W128 1 by unfold W128; omega).bits (by decide)
  have j1 : I64 86400000000000 := by unfold I64; omega
  have j2 : I64 3600000000000 := by unfold I64; omega
  have j3 : I64 60000000000 := by unfold I64; omega
  have j4 : I64 1000000000 := by unfold I64; omega
  have j5 : I64 1 := by unfold I64; omega
  have j0 : I64 0 := by unfold I64; omega
  have fa : ∀ p : ZQ, FnZ 112 [(p, x)] [zv p] zv (-x) := fun p => by
    have t := fzabs p x (hx.bits.fit (by decide))
    rwa [show ((x.natAbs : Nat) : Int) = -x by omega] at t
  have d0 : ∀ p q : ZQ, FnZZ 59 [(p, (-x)), (q, 3600000000000)] [zv p, zv q] (fun q => .tuple #[zv q.1, zv q.2]) ((-x).tdiv 3600000000000) ((-x).tmod 3600000000000) := fun p q => zdt p q (-x) 3600000000000 y0 hy (by omega) bL5
  have d1 : ∀ p q : ZQ, FnZZ 59 [(p, (-x).tmod 3600000000000), (q, 60000000000)] [zv p, zv q] (fun q => .tuple #[zv q.1, zv q.2]) (((-x).tmod 3600000000000).tdiv 60000000000) ((-x).tmod 60000000000) := fun p q => zdc p q (-x) 3600000000000 60000000000 y0 (by omega) bL5 (by omega) bL6 (by decide)
  have d2 : ∀ p q : ZQ, FnZZ 59 [(p, (-x).tmod 60000000000), (q, 1000000000)] [zv p, zv q] (fun q => .tuple #[zv q.1, zv q.2]) (((-x).tmod 60000000000).tdiv 1000000000) ((-x).tmod 1000000000) := fun p q => zdc p q (-x) 60000000000 1000000000 y0 (by omega) bL6 (by omega) bL7 (by decide)
  have d3 : ∀ p q : ZQ, FnZZ 59 [(p, (-x).tmod 1000000000), (q, 1)] [zv p, zv q] (fun q => .tuple #[zv q.1, zv q.2]) (((-x).tmod 1000000000).tdiv 1) ((-x).tmod 1) := fun p q => zdc p q (-x) 1000000000 1 y0 (by omega) bL7 (by omega) bL8 (by decide)
  have g6 : I64 ((x.tmod 3600000000000).tdiv 60000000000) := by have := td2 x 3600000000000 60000000000 60 (by decide) (by omega) (by omega); unfold I64; omega
  have g7 : I64 ((x.tmod 60000000000).tdiv 1000000000) := by have := td2 x 60000000000 1000000000 60 (by decide) (by omega) (by omega); unfold I64; omega
  have g8 : I64 (x.tmod 1000000000) := by
    obtain ⟨e1, e2, e3⟩ := td x 1000000000 (by omega)
    by_cases z : 0 ≤ x
    · have := e2 z; unfold I64; omega
    · have := e3 (by omega); unfold I64; omega
  have n0 : ∀ p : ZQ, FnZ 95 [(p, (-x).tdiv 3600000000000)] [zv p] zv (x.tdiv 3600000000000) := fun p => by
    have t := zng p ((-x).tdiv 3600000000000) (tdvb (-x) 3600000000000 y0 hy (by omega))
    rwa [show -((-x).tdiv 3600000000000) = (x.tdiv 3600000000000) by rw [Int.neg_tdiv, Int.neg_neg]] at t
  have f0 : ∀ p : ZQ, Fn 54 [(p, (x.tdiv 3600000000000))] [zv p] (.tuple #[.int .i64 (x.tdiv 3600000000000), .bool true]) := fun p => by
    have t := fits_f p (x.tdiv 3600000000000) (g.w.bits.mono (by decide)) g
    exact t
  have n1 : ∀ p : ZQ, FnZ 95 [(p, ((-x).tmod 3600000000000).tdiv 60000000000)] [zv p] zv ((x.tmod 3600000000000).tdiv 60000000000) := fun p => by
    have t := zng p (((-x).tmod 3600000000000).tdiv 60000000000) (tdvb _ 60000000000 (tmod_nb (-x) 3600000000000 y0 (by omega) bL5).1 (tmod_nb (-x) 3600000000000 y0 (by omega) bL5).2 (by omega))
    rwa [show -(((-x).tmod 3600000000000).tdiv 60000000000) = ((x.tmod 3600000000000).tdiv 60000000000) by rw [Int.neg_tmod, Int.neg_tdiv, Int.neg_neg]] at t
  have f1 : ∀ p : ZQ, Fn 54 [(p, ((x.tmod 3600000000000).tdiv 60000000000))] [zv p] (.tuple #[.int .i64 ((x.tmod 3600000000000).tdiv 60000000000), .bool true]) := fun p => by
    have t := fits_f p ((x.tmod 3600000000000).tdiv 60000000000) (g6.w.bits.mono (by decide)) g6
    exact t
  have n2 : ∀ p : ZQ, FnZ 95 [(p, ((-x).tmod 60000000000).tdiv 1000000000)] [zv p] zv ((x.tmod 60000000000).tdiv 1000000000) := fun p => by
    have t := zng p (((-x).tmod 60000000000).tdiv 1000000000) (tdvb _ 1000000000 (tmod_nb (-x) 60000000000 y0 (by omega) bL6).1 (tmod_nb (-x) 60000000000 y0 (by omega) bL6).2 (by omega))
    rwa [show -(((-x).tmod 60000000000).tdiv 1000000000) = ((x.tmod 60000000000).tdiv 1000000000) by rw [Int.neg_tmod, Int.neg_tdiv, Int.neg_neg]] at t
  have f2 : ∀ p : ZQ, Fn 54 [(p, ((x.tmod 60000000000).tdiv 1000000000))] [zv p] (.tuple #[.int .i64 ((x.tmod 60000000000).tdiv 1000000000), .bool true]) := fun p => by
    have t := fits_f p ((x.tmod 60000000000).tdiv 1000000000) (g7.w.bits.mono (by decide)) g7
    exact t
  have n3 : ∀ p : ZQ, FnZ 95 [(p, ((-x).tmod 1000000000).tdiv 1)] [zv p] zv (x.tmod 1000000000) := fun p => by
    have t := zng p (((-x).tmod 1000000000).tdiv 1) (tdvb _ 1 (tmod_nb (-x) 1000000000 y0 (by omega) bL7).1 (tmod_nb (-x) 1000000000 y0 (by omega) bL7).2 (by omega))
    rwa [show -(((-x).tmod 1000000000).tdiv 1) = (x.tmod 1000000000) by rw [Int.neg_tmod, Int.neg_tdiv, Int.neg_neg, tdiv_1]] at t
  have f3 : ∀ p : ZQ, Fn 54 [(p, (x.tmod 1000000000))] [zv p] (.tuple #[.int .i64 (x.tmod 1000000000), .bool true]) := fun p => by
    have t := fits_f p (x.tmod 1000000000) (g8.w.bits.mono (by decide)) g8
    exact t
  have r := zuright_f 0 0 0 0 (x.tdiv 3600000000000) ((x.tmod 3600000000000).tdiv 60000000000) ((x.tmod 60000000000).tdiv 1000000000) (x.tmod 1000000000) ⟨j0, j0, j0, j0, g, g6, g7, g8⟩ k
  refine fn_of Tryz.func67 rfl fun ww => ?_
  refine st_know (p := p.n = true) (fun w hw => by rw [z_neg (hw (p, x) (by simp))]; simp; omega) fun hn => ?_
  clear hy y0 g hx k
  refine st_fn ent126 (zulen5) sub0 (by kernel_rfl) ?_
  refine st_g ent112 (fa (p)) (subC 0 rfl sub0) (by kernel_rfl) (fun zq1 => ?_)
  refine st_round (by kernel_rfl) ?_
  refine st_fn ent126 (zulen5) sub0 (by kernel_rfl) ?_
  refine st_g ent30 (fzint (3600000000000) (by assumption)) sub0 (by kernel_rfl) (fun zq3 => ?_)
  refine st_g ent59 (d0 (zq1) (zq3)) (subC 1 rfl (subC 0 rfl sub0)) (by kernel_rfl) (fun zq4 => ?_)
  refine st_b 34 (show (p.n) = true by assumption) (by kernel_rfl) ?_
  refine st_g ent95 (n0 (zq4.fst)) (subC 0 rfl sub0) (by kernel_rfl) (fun zq5 => ?_)
  refine st_fn ent54 (f0 (zq5)) (subC 0 rfl sub0) (by kernel_rfl) ?_
  refine st_i 46 .i64 (x' := 5 - 1) (Go.IntWalk.i64_in _ (by omega)) (by kernel_rfl) ?_
  refine st_i 24 .i64 (x' := 5 + 1) (Go.IntWalk.i64_in _ (by omega)) (by kernel_rfl) ?_
  refine st_round (by kernel_rfl) ?_
  refine st_fn ent126 (zulen6) sub0 (by kernel_rfl) ?_
  refine st_g ent30 (fzint (60000000000) (by assumption)) sub0 (by kernel_rfl) (fun zq8 => ?_)
  refine st_g ent59 (d1 (zq4.snd) (zq8)) (subC 3 rfl (subC 0 rfl sub0)) (by kernel_rfl) (fun zq9 => ?_)
  refine st_b 34 (show (p.n) = true by assumption) (by kernel_rfl) ?_
  refine st_g ent95 (n1 (zq9.fst)) (subC 0 rfl sub0) (by kernel_rfl) (fun zq10 => ?_)
  refine st_fn ent54 (f1 (zq10)) (subC 0 rfl sub0) (by kernel_rfl) ?_
  refine st_i 46 .i64 (x' := 5 + 1 - 1) (Go.IntWalk.i64_in _ (by omega)) (by kernel_rfl) ?_
  refine st_i 24 .i64 (x' := 5 + 1 + 1) (Go.IntWalk.i64_in _ (by omega)) (by kernel_rfl) ?_
  refine st_round (by kernel_rfl) ?_
  refine st_fn ent126 (zulen7) sub0 (by kernel_rfl) ?_
  refine st_g ent30 (fzint (1000000000) (by assumption)) sub0 (by kernel_rfl) (fun zq13 => ?_)
  refine st_g ent59 (d2 (zq9.snd) (zq13)) (subC 3 rfl (subC 0 rfl sub0)) (by kernel_rfl) (fun zq14 => ?_)
  refine st_b 34 (show (p.n) = true by assumption) (by kernel_rfl) ?_
  refine st_g ent95 (n2 (zq14.fst)) (subC 0 rfl sub0) (by kernel_rfl) (fun zq15 => ?_)
  refine st_fn ent54 (f2 (zq15)) (subC 0 rfl sub0) (by kernel_rfl) ?_
  refine st_i 46 .i64 (x' := 5 + 1 + 1 - 1) (Go.IntWalk.i64_in _ (by omega)) (by kernel_rfl) ?_
  refine st_i 24 .i64 (x' := 5 + 1 + 1 + 1) (Go.IntWalk.i64_in _ (by omega)) (by kernel_rfl) ?_
  refine st_round (by kernel_rfl) ?_
  refine st_fn ent126 (zulen8) sub0 (by kernel_rfl) ?_
  refine st_g ent30 (fzint (1) (by assumption)) sub0 (by kernel_rfl) (fun zq18 => ?_)
  refine st_g ent59 (d3 (zq14.snd) (zq18)) (subC 3 rfl (subC 0 rfl sub0)) (by kernel_rfl) (fun zq19 => ?_)
  refine st_b 34 (show (p.n) = true by assumption) (by kernel_rfl) ?_
  refine st_g ent95 (n3 (zq19.fst)) (subC 0 rfl sub0) (by kernel_rfl) (fun zq20 => ?_)
  refine st_fn ent54 (f3 (zq20)) (subC 0 rfl sub0) (by kernel_rfl) ?_
  refine st_i 46 .i64 (x' := 5 + 1 + 1 + 1 - 1) (Go.IntWalk.i64_in _ (by omega)) (by kernel_rfl) ?_
  refine st_i 24 .i64 (x' := 5 + 1 + 1 + 1 + 1) (Go.IntWalk.i64_in _ (by omega)) (by kernel_rfl) ?_
  refine st_round (by kernel_rfl) ?_
  refine st_fn ent127 (zumade (0) (0) (0) (0) (x.tdiv 3600000000000) ((x.tmod 3600000000000).tdiv 60000000000) ((x.tmod 60000000000).tdiv 1000000000) (x.tmod 1000000000)) sub0 (by kernel_rfl) ?_
  refine st_fn ent50 (r) sub0 (by kernel_rfl) ?_
  exact st_ret Tryz.func67 (by kernel_rfl)
theorem zulay5n_o (p : ZQ) (x : Int) (hx : W128 x) (h0 : x < 0) (g : ¬ I64 (x.tdiv 3600000000000)) : Fn 67 [(p, x)] [zv p, .int .i64 5] (.tuple #[du0, .int .i64 4]) := by
  have hy : Bits 900 (-x) := (hx.bits.neg).mono (by decide)
  have y0 : 0 ≤ (-x) := by omega
  have bL4 : Bits 900 86400000000000 := Bits.mono (show W128 86400000000000 by unfold W128; omega).bits (by decide)
  have bL5 : Bits 900 3600000000000 := Bits.mono (show W128 3600000000000 by unfold W128; omega).bits (by decide)
  have bL6 : Bits 900 60000000000 := Bits.mono (show W128 60000000000 by unfold W128; omega).bits (by decide)
  have bL7 : Bits 900 1000000000 := Bits.mono (show W128 1000000000 by unfold W128; omega).bits (by decide)
  have bL8 : Bits 900 1 := Bits.mono (show W128 1 by unfold W128; omega).bits (by decide)
  have j1 : I64 86400000000000 := by unfold I64; omega
  have j2 : I64 3600000000000 := by unfold I64; omega
  have j3 : I64 60000000000 := by unfold I64; omega
  have j4 : I64 1000000000 := by unfold I64; omega
  have j5 : I64 1 := by unfold I64; omega
  have j0 : I64 0 := by unfold I64; omega
  have fa : ∀ p : ZQ, FnZ 112 [(p, x)] [zv p] zv (-x) := fun p => by
    have t := fzabs p x (hx.bits.fit (by decide))
    rwa [show ((x.natAbs : Nat) : Int) = -x by omega] at t
  have d0 : ∀ p q : ZQ, FnZZ 59 [(p, (-x)), (q, 3600000000000)] [zv p, zv q] (fun q => .tuple #[zv q.1, zv q.2]) ((-x).tdiv 3600000000000) ((-x).tmod 3600000000000) := fun p q => zdt p q (-x) 3600000000000 y0 hy (by omega) bL5
  have g6 : I64 ((x.tmod 3600000000000).tdiv 60000000000) := by have := td2 x 3600000000000 60000000000 60 (by decide) (by omega) (by omega); unfold I64; omega
  have g7 : I64 ((x.tmod 60000000000).tdiv 1000000000) := by have := td2 x 60000000000 1000000000 60 (by decide) (by omega) (by omega); unfold I64; omega
  have g8 : I64 (x.tmod 1000000000) := by
    obtain ⟨e1, e2, e3⟩ := td x 1000000000 (by omega)
    by_cases z : 0 ≤ x
    · have := e2 z; unfold I64; omega
    · have := e3 (by omega); unfold I64; omega
  have n0 : ∀ p : ZQ, FnZ 95 [(p, (-x).tdiv 3600000000000)] [zv p] zv (x.tdiv 3600000000000) := fun p => by
    have t := zng p ((-x).tdiv 3600000000000) (tdvb (-x) 3600000000000 y0 hy (by omega))
    rwa [show -((-x).tdiv 3600000000000) = (x.tdiv 3600000000000) by rw [Int.neg_tdiv, Int.neg_neg]] at t
  have f0 : ∀ p : ZQ, Fn 54 [(p, (x.tdiv 3600000000000))] [zv p] (.tuple #[.int .i64 0, .bool false]) := fun p => by
    have t := fits_n p (x.tdiv 3600000000000) (by rw [show (x.tdiv 3600000000000) = -((-x).tdiv 3600000000000) by rw [Int.neg_tdiv, Int.neg_neg]]; exact ((tdvb (-x) 3600000000000 y0 hy (by omega)).neg).mono (by decide)) g
    exact t
  refine fn_of Tryz.func67 rfl fun ww => ?_
  refine st_know (p := p.n = true) (fun w hw => by rw [z_neg (hw (p, x) (by simp))]; simp; omega) fun hn => ?_
  clear hy y0 g hx
  refine st_fn ent126 (zulen5) sub0 (by kernel_rfl) ?_
  refine st_g ent112 (fa (p)) (subC 0 rfl sub0) (by kernel_rfl) (fun zq1 => ?_)
  refine st_round (by kernel_rfl) ?_
  refine st_fn ent126 (zulen5) sub0 (by kernel_rfl) ?_
  refine st_g ent30 (fzint (3600000000000) (by assumption)) sub0 (by kernel_rfl) (fun zq3 => ?_)
  refine st_g ent59 (d0 (zq1) (zq3)) (subC 1 rfl (subC 0 rfl sub0)) (by kernel_rfl) (fun zq4 => ?_)
  refine st_b 34 (show (p.n) = true by assumption) (by kernel_rfl) ?_
  refine st_g ent95 (n0 (zq4.fst)) (subC 0 rfl sub0) (by kernel_rfl) (fun zq5 => ?_)
  refine st_fn ent54 (f0 (zq5)) (subC 0 rfl sub0) (by kernel_rfl) ?_
  exact st_ret Tryz.func67 (by kernel_rfl)
theorem zulay6p_y (p : ZQ) (x : Int) (hx : W128 x) (h0 : 0 ≤ x) (g : I64 (x.tdiv 60000000000)) (k : uOk 0 0 0 0 0 (x.tdiv 60000000000) ((x.tmod 60000000000).tdiv 1000000000) (x.tmod 1000000000)) : Fn 67 [(p, x)] [zv p, .int .i64 6] (.tuple #[duv 0 0 0 0 0 (x.tdiv 60000000000) ((x.tmod 60000000000).tdiv 1000000000) (x.tmod 1000000000), .int .i64 0]) := by
  have hy : Bits 900 x := hx.bits.mono (by decide)
  have y0 : 0 ≤ x := by omega
  have bL4 : Bits 900 86400000000000 := Bits.mono (show W128 86400000000000 by unfold W128; omega).bits (by decide)
  have bL5 : Bits 900 3600000000000 := Bits.mono (show W128 3600000000000 by unfold W128; omega).bits (by decide)
  have bL6 : Bits 900 60000000000 := Bits.mono (show W128 60000000000 by unfold W128; omega).bits (by decide)
  have bL7 : Bits 900 1000000000 := Bits.mono (show W128 1000000000 by unfold W128; omega).bits (by decide)
  have bL8 : Bits 900 1 := Bits.mono (show W128 1 by unfold W128; omega).bits (by decide)
  have j1 : I64 86400000000000 := by unfold I64; omega
  have j2 : I64 3600000000000 := by unfold I64; omega
  have j3 : I64 60000000000 := by unfold I64; omega
  have j4 : I64 1000000000 := by unfold I64; omega
  have j5 : I64 1 := by unfold I64; omega
  have j0 : I64 0 := by unfold I64; omega
  have fa : ∀ p : ZQ, FnZ 112 [(p, x)] [zv p] zv x := fun p => by
    have t := fzabs p x (hx.bits.fit (by decide))
    rwa [show ((x.natAbs : Nat) : Int) = x by omega] at t
  have d0 : ∀ p q : ZQ, FnZZ 59 [(p, x), (q, 60000000000)] [zv p, zv q] (fun q => .tuple #[zv q.1, zv q.2]) (x.tdiv 60000000000) (x.tmod 60000000000) := fun p q => zdt p q x 60000000000 y0 hy (by omega) bL6
  have d1 : ∀ p q : ZQ, FnZZ 59 [(p, x.tmod 60000000000), (q, 1000000000)] [zv p, zv q] (fun q => .tuple #[zv q.1, zv q.2]) ((x.tmod 60000000000).tdiv 1000000000) (x.tmod 1000000000) := fun p q => zdc p q x 60000000000 1000000000 y0 (by omega) bL6 (by omega) bL7 (by decide)
  have d2 : ∀ p q : ZQ, FnZZ 59 [(p, x.tmod 1000000000), (q, 1)] [zv p, zv q] (fun q => .tuple #[zv q.1, zv q.2]) ((x.tmod 1000000000).tdiv 1) (x.tmod 1) := fun p q => zdc p q x 1000000000 1 y0 (by omega) bL7 (by omega) bL8 (by decide)
  have g7 : I64 ((x.tmod 60000000000).tdiv 1000000000) := by have := td2 x 60000000000 1000000000 60 (by decide) (by omega) (by omega); unfold I64; omega
  have g8 : I64 (x.tmod 1000000000) := by
    obtain ⟨e1, e2, e3⟩ := td x 1000000000 (by omega)
    by_cases z : 0 ≤ x
    · have := e2 z; unfold I64; omega
    · have := e3 (by omega); unfold I64; omega
  have f0 : ∀ p : ZQ, Fn 54 [(p, x.tdiv 60000000000)] [zv p] (.tuple #[.int .i64 (x.tdiv 60000000000), .bool true]) := fun p => by
    have t := fits_f p (x.tdiv 60000000000) (g.w.bits.mono (by decide)) g
    exact t
  have f1 : ∀ p : ZQ, Fn 54 [(p, (x.tmod 60000000000).tdiv 1000000000)] [zv p] (.tuple #[.int .i64 ((x.tmod 60000000000).tdiv 1000000000), .bool true]) := fun p => by
    have t := fits_f p ((x.tmod 60000000000).tdiv 1000000000) (g7.w.bits.mono (by decide)) g7
    exact t
  have f2 : ∀ p : ZQ, Fn 54 [(p, (x.tmod 1000000000).tdiv 1)] [zv p] (.tuple #[.int .i64 (x.tmod 1000000000), .bool true]) := fun p => by
    have t := fits_f p (x.tmod 1000000000) (g8.w.bits.mono (by decide)) g8
    simpa only [tdiv_1] using t
  have r := zuright_y 0 0 0 0 0 (x.tdiv 60000000000) ((x.tmod 60000000000).tdiv 1000000000) (x.tmod 1000000000) ⟨j0, j0, j0, j0, j0, g, g7, g8⟩ k
  refine fn_of Tryz.func67 rfl fun ww => ?_
  refine st_know (p := p.n = false) (fun w hw => by rw [z_neg (hw (p, x) (by simp))]; simp; omega) fun hn => ?_
  clear hy y0 g hx k
  refine st_fn ent126 (zulen6) sub0 (by kernel_rfl) ?_
  refine st_g ent112 (fa (p)) (subC 0 rfl sub0) (by kernel_rfl) (fun zq1 => ?_)
  refine st_round (by kernel_rfl) ?_
  refine st_fn ent126 (zulen6) sub0 (by kernel_rfl) ?_
  refine st_g ent30 (fzint (60000000000) (by assumption)) sub0 (by kernel_rfl) (fun zq3 => ?_)
  refine st_g ent59 (d0 (zq1) (zq3)) (subC 1 rfl (subC 0 rfl sub0)) (by kernel_rfl) (fun zq4 => ?_)
  refine st_b 34 (show (p.n) = false by assumption) (by kernel_rfl) ?_
  refine st_fn ent54 (f0 (zq4.fst)) (subC 0 rfl sub0) (by kernel_rfl) ?_
  refine st_i 46 .i64 (x' := 6 - 1) (Go.IntWalk.i64_in _ (by omega)) (by kernel_rfl) ?_
  refine st_i 24 .i64 (x' := 6 + 1) (Go.IntWalk.i64_in _ (by omega)) (by kernel_rfl) ?_
  refine st_round (by kernel_rfl) ?_
  refine st_fn ent126 (zulen7) sub0 (by kernel_rfl) ?_
  refine st_g ent30 (fzint (1000000000) (by assumption)) sub0 (by kernel_rfl) (fun zq7 => ?_)
  refine st_g ent59 (d1 (zq4.snd) (zq7)) (subC 2 rfl (subC 0 rfl sub0)) (by kernel_rfl) (fun zq8 => ?_)
  refine st_b 34 (show (p.n) = false by assumption) (by kernel_rfl) ?_
  refine st_fn ent54 (f1 (zq8.fst)) (subC 0 rfl sub0) (by kernel_rfl) ?_
  refine st_i 46 .i64 (x' := 6 + 1 - 1) (Go.IntWalk.i64_in _ (by omega)) (by kernel_rfl) ?_
  refine st_i 24 .i64 (x' := 6 + 1 + 1) (Go.IntWalk.i64_in _ (by omega)) (by kernel_rfl) ?_
  refine st_round (by kernel_rfl) ?_
  refine st_fn ent126 (zulen8) sub0 (by kernel_rfl) ?_
  refine st_g ent30 (fzint (1) (by assumption)) sub0 (by kernel_rfl) (fun zq11 => ?_)
  refine st_g ent59 (d2 (zq8.snd) (zq11)) (subC 2 rfl (subC 0 rfl sub0)) (by kernel_rfl) (fun zq12 => ?_)
  refine st_b 34 (show (p.n) = false by assumption) (by kernel_rfl) ?_
  refine st_fn ent54 (f2 (zq12.fst)) (subC 0 rfl sub0) (by kernel_rfl) ?_
  refine st_i 46 .i64 (x' := 6 + 1 + 1 - 1) (Go.IntWalk.i64_in _ (by omega)) (by kernel_rfl) ?_
  refine st_i 24 .i64 (x' := 6 + 1 + 1 + 1) (Go.IntWalk.i64_in _ (by omega)) (by kernel_rfl) ?_
  refine st_round (by kernel_rfl) ?_
  refine st_fn ent127 (zumade (0) (0) (0) (0) (0) (x.tdiv 60000000000) ((x.tmod 60000000000).tdiv 1000000000) (x.tmod 1000000000)) sub0 (by kernel_rfl) ?_
  refine st_fn ent50 (r) sub0 (by kernel_rfl) ?_
  exact st_ret Tryz.func67 (by kernel_rfl)
theorem zulay6p_r (p : ZQ) (x : Int) (hx : W128 x) (h0 : 0 ≤ x) (g : I64 (x.tdiv 60000000000)) (k : ¬ uOk 0 0 0 0 0 (x.tdiv 60000000000) ((x.tmod 60000000000).tdiv 1000000000) (x.tmod 1000000000)) : Fn 67 [(p, x)] [zv p, .int .i64 6] (.tuple #[du0, .int .i64 4]) := by
  have hy : Bits 900 x := hx.bits.mono (by decide)
  have y0 : 0 ≤ x := by omega
  have bL4 : Bits 900 86400000000000 := Bits.mono (show W128 86400000000000 by unfold W128; omega).bits (by decide)
  have bL5 : Bits 900 3600000000000 := Bits.mono (show W128 3600000000000 by unfold W128; omega).bits (by decide)
  have bL6 : Bits 900 60000000000 := Bits.mono (show W128 60000000000 by unfold W128; omega).bits (by decide)
  have bL7 : Bits 900 1000000000 := Bits.mono (show W128 1000000000 by unfold W128; omega).bits (by decide)
  have bL8 : Bits 900 1 := Bits.mono (show W128 1 by unfold W128; omega).bits (by decide)
  have j1 : I64 86400000000000 := by unfold I64; omega
  have j2 : I64 3600000000000 := by unfold I64; omega
  have j3 : I64 60000000000 := by unfold I64; omega
  have j4 : I64 1000000000 := by unfold I64; omega
  have j5 : I64 1 := by unfold I64; omega
  have j0 : I64 0 := by unfold I64; omega
  have fa : ∀ p : ZQ, FnZ 112 [(p, x)] [zv p] zv x := fun p => by
    have t := fzabs p x (hx.bits.fit (by decide))
    rwa [show ((x.natAbs : Nat) : Int) = x by omega] at t
  have d0 : ∀ p q : ZQ, FnZZ 59 [(p, x), (q, 60000000000)] [zv p, zv q] (fun q => .tuple #[zv q.1, zv q.2]) (x.tdiv 60000000000) (x.tmod 60000000000) := fun p q => zdt p q x 60000000000 y0 hy (by omega) bL6
  have d1 : ∀ p q : ZQ, FnZZ 59 [(p, x.tmod 60000000000), (q, 1000000000)] [zv p, zv q] (fun q => .tuple #[zv q.1, zv q.2]) ((x.tmod 60000000000).tdiv 1000000000) (x.tmod 1000000000) := fun p q => zdc p q x 60000000000 1000000000 y0 (by omega) bL6 (by omega) bL7 (by decide)
  have d2 : ∀ p q : ZQ, FnZZ 59 [(p, x.tmod 1000000000), (q, 1)] [zv p, zv q] (fun q => .tuple #[zv q.1, zv q.2]) ((x.tmod 1000000000).tdiv 1) (x.tmod 1) := fun p q => zdc p q x 1000000000 1 y0 (by omega) bL7 (by omega) bL8 (by decide)
  have g7 : I64 ((x.tmod 60000000000).tdiv 1000000000) := by have := td2 x 60000000000 1000000000 60 (by decide) (by omega) (by omega); unfold I64; omega
  have g8 : I64 (x.tmod 1000000000) := by
    obtain ⟨e1, e2, e3⟩ := td x 1000000000 (by omega)
    by_cases z : 0 ≤ x
    · have := e2 z; unfold I64; omega
    · have := e3 (by omega); unfold I64; omega
  have f0 : ∀ p : ZQ, Fn 54 [(p, x.tdiv 60000000000)] [zv p] (.tuple #[.int .i64 (x.tdiv 60000000000), .bool true]) := fun p => by
    have t := fits_f p (x.tdiv 60000000000) (g.w.bits.mono (by decide)) g
    exact t
  have f1 : ∀ p : ZQ, Fn 54 [(p, (x.tmod 60000000000).tdiv 1000000000)] [zv p] (.tuple #[.int .i64 ((x.tmod 60000000000).tdiv 1000000000), .bool true]) := fun p => by
    have t := fits_f p ((x.tmod 60000000000).tdiv 1000000000) (g7.w.bits.mono (by decide)) g7
    exact t
  have f2 : ∀ p : ZQ, Fn 54 [(p, (x.tmod 1000000000).tdiv 1)] [zv p] (.tuple #[.int .i64 (x.tmod 1000000000), .bool true]) := fun p => by
    have t := fits_f p (x.tmod 1000000000) (g8.w.bits.mono (by decide)) g8
    simpa only [tdiv_1] using t
  have r := zuright_f 0 0 0 0 0 (x.tdiv 60000000000) ((x.tmod 60000000000).tdiv 1000000000) (x.tmod 1000000000) ⟨j0, j0, j0, j0, j0, g, g7, g8⟩ k
  refine fn_of Tryz.func67 rfl fun ww => ?_
  refine st_know (p := p.n = false) (fun w hw => by rw [z_neg (hw (p, x) (by simp))]; simp; omega) fun hn => ?_
  clear hy y0 g hx k
  refine st_fn ent126 (zulen6) sub0 (by kernel_rfl) ?_
  refine st_g ent112 (fa (p)) (subC 0 rfl sub0) (by kernel_rfl) (fun zq1 => ?_)
  refine st_round (by kernel_rfl) ?_
  refine st_fn ent126 (zulen6) sub0 (by kernel_rfl) ?_
  refine st_g ent30 (fzint (60000000000) (by assumption)) sub0 (by kernel_rfl) (fun zq3 => ?_)
  refine st_g ent59 (d0 (zq1) (zq3)) (subC 1 rfl (subC 0 rfl sub0)) (by kernel_rfl) (fun zq4 => ?_)
  refine st_b 34 (show (p.n) = false by assumption) (by kernel_rfl) ?_
  refine st_fn ent54 (f0 (zq4.fst)) (subC 0 rfl sub0) (by kernel_rfl) ?_
  refine st_i 46 .i64 (x' := 6 - 1) (Go.IntWalk.i64_in _ (by omega)) (by kernel_rfl) ?_
  refine st_i 24 .i64 (x' := 6 + 1) (Go.IntWalk.i64_in _ (by omega)) (by kernel_rfl) ?_
  refine st_round (by kernel_rfl) ?_
  refine st_fn ent126 (zulen7) sub0 (by kernel_rfl) ?_
  refine st_g ent30 (fzint (1000000000) (by assumption)) sub0 (by kernel_rfl) (fun zq7 => ?_)
  refine st_g ent59 (d1 (zq4.snd) (zq7)) (subC 2 rfl (subC 0 rfl sub0)) (by kernel_rfl) (fun zq8 => ?_)
  refine st_b 34 (show (p.n) = false by assumption) (by kernel_rfl) ?_
  refine st_fn ent54 (f1 (zq8.fst)) (subC 0 rfl sub0) (by kernel_rfl) ?_
  refine st_i 46 .i64 (x' := 6 + 1 - 1) (Go.IntWalk.i64_in _ (by omega)) (by kernel_rfl) ?_
  refine st_i 24 .i64 (x' := 6 + 1 + 1) (Go.IntWalk.i64_in _ (by omega)) (by kernel_rfl) ?_
  refine st_round (by kernel_rfl) ?_
  refine st_fn ent126 (zulen8) sub0 (by kernel_rfl) ?_
  refine st_g ent30 (fzint (1) (by assumption)) sub0 (by kernel_rfl) (fun zq11 => ?_)
  refine st_g ent59 (d2 (zq8.snd) (zq11)) (subC 2 rfl (subC 0 rfl sub0)) (by kernel_rfl) (fun zq12 => ?_)
  refine st_b 34 (show (p.n) = false by assumption) (by kernel_rfl) ?_
  refine st_fn ent54 (f2 (zq12.fst)) (subC 0 rfl sub0) (by kernel_rfl) ?_
  refine st_i 46 .i64 (x' := 6 + 1 + 1 - 1) (Go.IntWalk.i64_in _ (by omega)) (by kernel_rfl) ?_
  refine st_i 24 .i64 (x' := 6 + 1 + 1 + 1) (Go.IntWalk.i64_in _ (by omega)) (by kernel_rfl) ?_
  refine st_round (by kernel_rfl) ?_
  refine st_fn ent127 (zumade (0) (0) (0) (0) (0) (x.tdiv 60000000000) ((x.tmod 60000000000).tdiv 1000000000) (x.tmod 1000000000)) sub0 (by kernel_rfl) ?_
  refine st_fn ent50 (r) sub0 (by kernel_rfl) ?_
  exact st_ret Tryz.func67 (by kernel_rfl)
theorem zulay6p_o (p : ZQ) (x : Int) (hx : W128 x) (h0 : 0 ≤ x) (g : ¬ I64 (x.tdiv 60000000000)) : Fn 67 [(p, x)] [zv p, .int .i64 6] (.tuple #[du0, .int .i64 4]) := by
  have hy : Bits 900 x := hx.bits.mono (by decide)
  have y0 : 0 ≤ x := by omega
  have bL4 : Bits 900 86400000000000 := Bits.mono (show W128 86400000000000 by unfold W128; omega).bits (by decide)
  have bL5 : Bits 900 3600000000000 := Bits.mono (show W128 3600000000000 by unfold W128; omega).bits (by decide)
  have bL6 : Bits 900 60000000000 := Bits.mono (show W128 60000000000 by unfold W128; omega).bits (by decide)
  have bL7 : Bits 900 1000000000 := Bits.mono (show W128 1000000000 by unfold W128; omega).bits (by decide)
  have bL8 : Bits 900 1 := Bits.mono (show W128 1 by unfold W128; omega).bits (by decide)
  have j1 : I64 86400000000000 := by unfold I64; omega
  have j2 : I64 3600000000000 := by unfold I64; omega
  have j3 : I64 60000000000 := by unfold I64; omega
  have j4 : I64 1000000000 := by unfold I64; omega
  have j5 : I64 1 := by unfold I64; omega
  have j0 : I64 0 := by unfold I64; omega
  have fa : ∀ p : ZQ, FnZ 112 [(p, x)] [zv p] zv x := fun p => by
    have t := fzabs p x (hx.bits.fit (by decide))
    rwa [show ((x.natAbs : Nat) : Int) = x by omega] at t
  have d0 : ∀ p q : ZQ, FnZZ 59 [(p, x), (q, 60000000000)] [zv p, zv q] (fun q => .tuple #[zv q.1, zv q.2]) (x.tdiv 60000000000) (x.tmod 60000000000) := fun p q => zdt p q x 60000000000 y0 hy (by omega) bL6
  have g7 : I64 ((x.tmod 60000000000).tdiv 1000000000) := by have := td2 x 60000000000 1000000000 60 (by decide) (by omega) (by omega); unfold I64; omega
  have g8 : I64 (x.tmod 1000000000) := by
    obtain ⟨e1, e2, e3⟩ := td x 1000000000 (by omega)
    by_cases z : 0 ≤ x
    · have := e2 z; unfold I64; omega
    · have := e3 (by omega); unfold I64; omega
  have f0 : ∀ p : ZQ, Fn 54 [(p, x.tdiv 60000000000)] [zv p] (.tuple #[.int .i64 0, .bool false]) := fun p => by
    have t := fits_n p (x.tdiv 60000000000) ((tdvb x 60000000000 y0 hy (by omega)).mono (by decide)) g
    exact t
  refine fn_of Tryz.func67 rfl fun ww => ?_
  refine st_know (p := p.n = false) (fun w hw => by rw [z_neg (hw (p, x) (by simp))]; simp; omega) fun hn => ?_
  clear hy y0 g hx
  refine st_fn ent126 (zulen6) sub0 (by kernel_rfl) ?_
  refine st_g ent112 (fa (p)) (subC 0 rfl sub0) (by kernel_rfl) (fun zq1 => ?_)
  refine st_round (by kernel_rfl) ?_
  refine st_fn ent126 (zulen6) sub0 (by kernel_rfl) ?_
  refine st_g ent30 (fzint (60000000000) (by assumption)) sub0 (by kernel_rfl) (fun zq3 => ?_)
  refine st_g ent59 (d0 (zq1) (zq3)) (subC 1 rfl (subC 0 rfl sub0)) (by kernel_rfl) (fun zq4 => ?_)
  refine st_b 34 (show (p.n) = false by assumption) (by kernel_rfl) ?_
  refine st_fn ent54 (f0 (zq4.fst)) (subC 0 rfl sub0) (by kernel_rfl) ?_
  exact st_ret Tryz.func67 (by kernel_rfl)
theorem zulay6n_y (p : ZQ) (x : Int) (hx : W128 x) (h0 : x < 0) (g : I64 (x.tdiv 60000000000)) (k : uOk 0 0 0 0 0 (x.tdiv 60000000000) ((x.tmod 60000000000).tdiv 1000000000) (x.tmod 1000000000)) : Fn 67 [(p, x)] [zv p, .int .i64 6] (.tuple #[duv 0 0 0 0 0 (x.tdiv 60000000000) ((x.tmod 60000000000).tdiv 1000000000) (x.tmod 1000000000), .int .i64 0]) := by
  have hy : Bits 900 (-x) := (hx.bits.neg).mono (by decide)
  have y0 : 0 ≤ (-x) := by omega
  have bL4 : Bits 900 86400000000000 := Bits.mono (show W128 86400000000000 by unfold W128; omega).bits (by decide)
  have bL5 : Bits 900 3600000000000 := Bits.mono (show W128 3600000000000 by unfold W128; omega).bits (by decide)
  have bL6 : Bits 900 60000000000 := Bits.mono (show W128 60000000000 by unfold W128; omega).bits (by decide)
  have bL7 : Bits 900 1000000000 := Bits.mono (show W128 1000000000 by unfold W128; omega).bits (by decide)
  have bL8 : Bits 900 1 := Bits.mono (show W128 1 by unfold W128; omega).bits (by decide)
  have j1 : I64 86400000000000 := by unfold I64; omega
  have j2 : I64 3600000000000 := by unfold I64; omega
  have j3 : I64 60000000000 := by unfold I64; omega
  have j4 : I64 1000000000 := by unfold I64; omega
  have j5 : I64 1 := by unfold I64; omega
  have j0 : I64 0 := by unfold I64; omega
  have fa : ∀ p : ZQ, FnZ 112 [(p, x)] [zv p] zv (-x) := fun p => by
    have t := fzabs p x (hx.bits.fit (by decide))
    rwa [show ((x.natAbs : Nat) : Int) = -x by omega] at t
  have d0 : ∀ p q : ZQ, FnZZ 59 [(p, (-x)), (q, 60000000000)] [zv p, zv q] (fun q => .tuple #[zv q.1, zv q.2]) ((-x).tdiv 60000000000) ((-x).tmod 60000000000) := fun p q => zdt p q (-x) 60000000000 y0 hy (by omega) bL6
  have d1 : ∀ p q : ZQ, FnZZ 59 [(p, (-x).tmod 60000000000), (q, 1000000000)] [zv p, zv q] (fun q => .tuple #[zv q.1, zv q.2]) (((-x).tmod 60000000000).tdiv 1000000000) ((-x).tmod 1000000000) := fun p q => zdc p q (-x) 60000000000 1000000000 y0 (by omega) bL6 (by omega) bL7 (by decide)
  have d2 : ∀ p q : ZQ, FnZZ 59 [(p, (-x).tmod 1000000000), (q, 1)] [zv p, zv q] (fun q => .tuple #[zv q.1, zv q.2]) (((-x).tmod 1000000000).tdiv 1) ((-x).tmod 1) := fun p q => zdc p q (-x) 1000000000 1 y0 (by omega) bL7 (by omega) bL8 (by decide)
  have g7 : I64 ((x.tmod 60000000000).tdiv 1000000000) := by have := td2 x 60000000000 1000000000 60 (by decide) (by omega) (by omega); unfold I64; omega
  have g8 : I64 (x.tmod 1000000000) := by
    obtain ⟨e1, e2, e3⟩ := td x 1000000000 (by omega)
    by_cases z : 0 ≤ x
    · have := e2 z; unfold I64; omega
    · have := e3 (by omega); unfold I64; omega
  have n0 : ∀ p : ZQ, FnZ 95 [(p, (-x).tdiv 60000000000)] [zv p] zv (x.tdiv 60000000000) := fun p => by
    have t := zng p ((-x).tdiv 60000000000) (tdvb (-x) 60000000000 y0 hy (by omega))
    rwa [show -((-x).tdiv 60000000000) = (x.tdiv 60000000000) by rw [Int.neg_tdiv, Int.neg_neg]] at t
  have f0 : ∀ p : ZQ, Fn 54 [(p, (x.tdiv 60000000000))] [zv p] (.tuple #[.int .i64 (x.tdiv 60000000000), .bool true]) := fun p => by
    have t := fits_f p (x.tdiv 60000000000) (g.w.bits.mono (by decide)) g
    exact t
  have n1 : ∀ p : ZQ, FnZ 95 [(p, ((-x).tmod 60000000000).tdiv 1000000000)] [zv p] zv ((x.tmod 60000000000).tdiv 1000000000) := fun p => by
    have t := zng p (((-x).tmod 60000000000).tdiv 1000000000) (tdvb _ 1000000000 (tmod_nb (-x) 60000000000 y0 (by omega) bL6).1 (tmod_nb (-x) 60000000000 y0 (by omega) bL6).2 (by omega))
    rwa [show -(((-x).tmod 60000000000).tdiv 1000000000) = ((x.tmod 60000000000).tdiv 1000000000) by rw [Int.neg_tmod, Int.neg_tdiv, Int.neg_neg]] at t
  have f1 : ∀ p : ZQ, Fn 54 [(p, ((x.tmod 60000000000).tdiv 1000000000))] [zv p] (.tuple #[.int .i64 ((x.tmod 60000000000).tdiv 1000000000), .bool true]) := fun p => by
    have t := fits_f p ((x.tmod 60000000000).tdiv 1000000000) (g7.w.bits.mono (by decide)) g7
    exact t
  have n2 : ∀ p : ZQ, FnZ 95 [(p, ((-x).tmod 1000000000).tdiv 1)] [zv p] zv (x.tmod 1000000000) := fun p => by
    have t := zng p (((-x).tmod 1000000000).tdiv 1) (tdvb _ 1 (tmod_nb (-x) 1000000000 y0 (by omega) bL7).1 (tmod_nb (-x) 1000000000 y0 (by omega) bL7).2 (by omega))
    rwa [show -(((-x).tmod 1000000000).tdiv 1) = (x.tmod 1000000000) by rw [Int.neg_tmod, Int.neg_tdiv, Int.neg_neg, tdiv_1]] at t
  have f2 : ∀ p : ZQ, Fn 54 [(p, (x.tmod 1000000000))] [zv p] (.tuple #[.int .i64 (x.tmod 1000000000), .bool true]) := fun p => by
    have t := fits_f p (x.tmod 1000000000) (g8.w.bits.mono (by decide)) g8
    exact t
  have r := zuright_y 0 0 0 0 0 (x.tdiv 60000000000) ((x.tmod 60000000000).tdiv 1000000000) (x.tmod 1000000000) ⟨j0, j0, j0, j0, j0, g, g7, g8⟩ k
  refine fn_of Tryz.func67 rfl fun ww => ?_
  refine st_know (p := p.n = true) (fun w hw => by rw [z_neg (hw (p, x) (by simp))]; simp; omega) fun hn => ?_
  clear hy y0 g hx k
  refine st_fn ent126 (zulen6) sub0 (by kernel_rfl) ?_
  refine st_g ent112 (fa (p)) (subC 0 rfl sub0) (by kernel_rfl) (fun zq1 => ?_)
  refine st_round (by kernel_rfl) ?_
  refine st_fn ent126 (zulen6) sub0 (by kernel_rfl) ?_
  refine st_g ent30 (fzint (60000000000) (by assumption)) sub0 (by kernel_rfl) (fun zq3 => ?_)
  refine st_g ent59 (d0 (zq1) (zq3)) (subC 1 rfl (subC 0 rfl sub0)) (by kernel_rfl) (fun zq4 => ?_)
  refine st_b 34 (show (p.n) = true by assumption) (by kernel_rfl) ?_
  refine st_g ent95 (n0 (zq4.fst)) (subC 0 rfl sub0) (by kernel_rfl) (fun zq5 => ?_)
  refine st_fn ent54 (f0 (zq5)) (subC 0 rfl sub0) (by kernel_rfl) ?_
  refine st_i 46 .i64 (x' := 6 - 1) (Go.IntWalk.i64_in _ (by omega)) (by kernel_rfl) ?_
  refine st_i 24 .i64 (x' := 6 + 1) (Go.IntWalk.i64_in _ (by omega)) (by kernel_rfl) ?_
  refine st_round (by kernel_rfl) ?_
  refine st_fn ent126 (zulen7) sub0 (by kernel_rfl) ?_
  refine st_g ent30 (fzint (1000000000) (by assumption)) sub0 (by kernel_rfl) (fun zq8 => ?_)
  refine st_g ent59 (d1 (zq4.snd) (zq8)) (subC 3 rfl (subC 0 rfl sub0)) (by kernel_rfl) (fun zq9 => ?_)
  refine st_b 34 (show (p.n) = true by assumption) (by kernel_rfl) ?_
  refine st_g ent95 (n1 (zq9.fst)) (subC 0 rfl sub0) (by kernel_rfl) (fun zq10 => ?_)
  refine st_fn ent54 (f1 (zq10)) (subC 0 rfl sub0) (by kernel_rfl) ?_
  refine st_i 46 .i64 (x' := 6 + 1 - 1) (Go.IntWalk.i64_in _ (by omega)) (by kernel_rfl) ?_
  refine st_i 24 .i64 (x' := 6 + 1 + 1) (Go.IntWalk.i64_in _ (by omega)) (by kernel_rfl) ?_
  refine st_round (by kernel_rfl) ?_
  refine st_fn ent126 (zulen8) sub0 (by kernel_rfl) ?_
  refine st_g ent30 (fzint (1) (by assumption)) sub0 (by kernel_rfl) (fun zq13 => ?_)
  refine st_g ent59 (d2 (zq9.snd) (zq13)) (subC 3 rfl (subC 0 rfl sub0)) (by kernel_rfl) (fun zq14 => ?_)
  refine st_b 34 (show (p.n) = true by assumption) (by kernel_rfl) ?_
  refine st_g ent95 (n2 (zq14.fst)) (subC 0 rfl sub0) (by kernel_rfl) (fun zq15 => ?_)
  refine st_fn ent54 (f2 (zq15)) (subC 0 rfl sub0) (by kernel_rfl) ?_
  refine st_i 46 .i64 (x' := 6 + 1 + 1 - 1) (Go.IntWalk.i64_in _ (by omega)) (by kernel_rfl) ?_
  refine st_i 24 .i64 (x' := 6 + 1 + 1 + 1) (Go.IntWalk.i64_in _ (by omega)) (by kernel_rfl) ?_
  refine st_round (by kernel_rfl) ?_
  refine st_fn ent127 (zumade (0) (0) (0) (0) (0) (x.tdiv 60000000000) ((x.tmod 60000000000).tdiv 1000000000) (x.tmod 1000000000)) sub0 (by kernel_rfl) ?_
  refine st_fn ent50 (r) sub0 (by kernel_rfl) ?_
  exact st_ret Tryz.func67 (by kernel_rfl)
theorem zulay6n_r (p : ZQ) (x : Int) (hx : W128 x) (h0 : x < 0) (g : I64 (x.tdiv 60000000000)) (k : ¬ uOk 0 0 0 0 0 (x.tdiv 60000000000) ((x.tmod 60000000000).tdiv 1000000000) (x.tmod 1000000000)) : Fn 67 [(p, x)] [zv p, .int .i64 6] (.tuple #[du0, .int .i64 4]) := by
  have hy : Bits 900 (-x) := (hx.bits.neg).mono (by decide)
  have y0 : 0 ≤ (-x) := by omega
  have bL4 : Bits 900 86400000000000 := Bits.mono (show W128 86400000000000 by unfold W128; omega).bits (by decide)
  have bL5 : Bits 900 3600000000000 := Bits.mono (show W128 3600000000000 by unfold W128; omega).bits (by decide)
  have bL6 : Bits 900 60000000000 := Bits.mono (show W128 60000000000 by unfold W128; omega).bits (by decide)
  have bL7 : Bits 900 1000000000 := Bits.mono (show W128 1000000000 by unfold W128; omega).bits (by decide)
  have bL8 : Bits 900 1 := Bits.mono (show W128 1 by unfold W128; omega).bits (by decide)
  have j1 : I64 86400000000000 := by unfold I64; omega
  have j2 : I64 3600000000000 := by unfold I64; omega
  have j3 : I64 60000000000 := by unfold I64; omega
  have j4 : I64 1000000000 := by unfold I64; omega
  have j5 : I64 1 := by unfold I64; omega
  have j0 : I64 0 := by unfold I64; omega
  have fa : ∀ p : ZQ, FnZ 112 [(p, x)] [zv p] zv (-x) := fun p => by
    have t := fzabs p x (hx.bits.fit (by decide))
    rwa [show ((x.natAbs : Nat) : Int) = -x by omega] at t
  have d0 : ∀ p q : ZQ, FnZZ 59 [(p, (-x)), (q, 60000000000)] [zv p, zv q] (fun q => .tuple #[zv q.1, zv q.2]) ((-x).tdiv 60000000000) ((-x).tmod 60000000000) := fun p q => zdt p q (-x) 60000000000 y0 hy (by omega) bL6
  have d1 : ∀ p q : ZQ, FnZZ 59 [(p, (-x).tmod 60000000000), (q, 1000000000)] [zv p, zv q] (fun q => .tuple #[zv q.1, zv q.2]) (((-x).tmod 60000000000).tdiv 1000000000) ((-x).tmod 1000000000) := fun p q => zdc p q (-x) 60000000000 1000000000 y0 (by omega) bL6 (by omega) bL7 (by decide)
  have d2 : ∀ p q : ZQ, FnZZ 59 [(p, (-x).tmod 1000000000), (q, 1)] [zv p, zv q] (fun q => .tuple #[zv q.1, zv q.2]) (((-x).tmod 1000000000).tdiv 1) ((-x).tmod 1) := fun p q => zdc p q (-x) 1000000000 1 y0 (by omega) bL7 (by omega) bL8 (by decide)
  have g7 : I64 ((x.tmod 60000000000).tdiv 1000000000) := by have := td2 x 60000000000 1000000000 60 (by decide) (by omega) (by omega); unfold I64; omega
  have g8 : I64 (x.tmod 1000000000) := by
    obtain ⟨e1, e2, e3⟩ := td x 1000000000 (by omega)
    by_cases z : 0 ≤ x
    · have := e2 z; unfold I64; omega
    · have := e3 (by omega); unfold I64; omega
  have n0 : ∀ p : ZQ, FnZ 95 [(p, (-x).tdiv 60000000000)] [zv p] zv (x.tdiv 60000000000) := fun p => by
    have t := zng p ((-x).tdiv 60000000000) (tdvb (-x) 60000000000 y0 hy (by omega))
    rwa [show -((-x).tdiv 60000000000) = (x.tdiv 60000000000) by rw [Int.neg_tdiv, Int.neg_neg]] at t
  have f0 : ∀ p : ZQ, Fn 54 [(p, (x.tdiv 60000000000))] [zv p] (.tuple #[.int .i64 (x.tdiv 60000000000), .bool true]) := fun p => by
    have t := fits_f p (x.tdiv 60000000000) (g.w.bits.mono (by decide)) g
    exact t
  have n1 : ∀ p : ZQ, FnZ 95 [(p, ((-x).tmod 60000000000).tdiv 1000000000)] [zv p] zv ((x.tmod 60000000000).tdiv 1000000000) := fun p => by
    have t := zng p (((-x).tmod 60000000000).tdiv 1000000000) (tdvb _ 1000000000 (tmod_nb (-x) 60000000000 y0 (by omega) bL6).1 (tmod_nb (-x) 60000000000 y0 (by omega) bL6).2 (by omega))
    rwa [show -(((-x).tmod 60000000000).tdiv 1000000000) = ((x.tmod 60000000000).tdiv 1000000000) by rw [Int.neg_tmod, Int.neg_tdiv, Int.neg_neg]] at t
  have f1 : ∀ p : ZQ, Fn 54 [(p, ((x.tmod 60000000000).tdiv 1000000000))] [zv p] (.tuple #[.int .i64 ((x.tmod 60000000000).tdiv 1000000000), .bool true]) := fun p => by
    have t := fits_f p ((x.tmod 60000000000).tdiv 1000000000) (g7.w.bits.mono (by decide)) g7
    exact t
  have n2 : ∀ p : ZQ, FnZ 95 [(p, ((-x).tmod 1000000000).tdiv 1)] [zv p] zv (x.tmod 1000000000) := fun p => by
    have t := zng p (((-x).tmod 1000000000).tdiv 1) (tdvb _ 1 (tmod_nb (-x) 1000000000 y0 (by omega) bL7).1 (tmod_nb (-x) 1000000000 y0 (by omega) bL7).2 (by omega))
    rwa [show -(((-x).tmod 1000000000).tdiv 1) = (x.tmod 1000000000) by rw [Int.neg_tmod, Int.neg_tdiv, Int.neg_neg, tdiv_1]] at t
  have f2 : ∀ p : ZQ, Fn 54 [(p, (x.tmod 1000000000))] [zv p] (.tuple #[.int .i64 (x.tmod 1000000000), .bool true]) := fun p => by
    have t := fits_f p (x.tmod 1000000000) (g8.w.bits.mono (by decide)) g8
    exact t
  have r := zuright_f 0 0 0 0 0 (x.tdiv 60000000000) ((x.tmod 60000000000).tdiv 1000000000) (x.tmod 1000000000) ⟨j0, j0, j0, j0, j0, g, g7, g8⟩ k
  refine fn_of Tryz.func67 rfl fun ww => ?_
  refine st_know (p := p.n = true) (fun w hw => by rw [z_neg (hw (p, x) (by simp))]; simp; omega) fun hn => ?_
  clear hy y0 g hx k
  refine st_fn ent126 (zulen6) sub0 (by kernel_rfl) ?_
  refine st_g ent112 (fa (p)) (subC 0 rfl sub0) (by kernel_rfl) (fun zq1 => ?_)
  refine st_round (by kernel_rfl) ?_
  refine st_fn ent126 (zulen6) sub0 (by kernel_rfl) ?_
  refine st_g ent30 (fzint (60000000000) (by assumption)) sub0 (by kernel_rfl) (fun zq3 => ?_)
  refine st_g ent59 (d0 (zq1) (zq3)) (subC 1 rfl (subC 0 rfl sub0)) (by kernel_rfl) (fun zq4 => ?_)
  refine st_b 34 (show (p.n) = true by assumption) (by kernel_rfl) ?_
  refine st_g ent95 (n0 (zq4.fst)) (subC 0 rfl sub0) (by kernel_rfl) (fun zq5 => ?_)
  refine st_fn ent54 (f0 (zq5)) (subC 0 rfl sub0) (by kernel_rfl) ?_
  refine st_i 46 .i64 (x' := 6 - 1) (Go.IntWalk.i64_in _ (by omega)) (by kernel_rfl) ?_
  refine st_i 24 .i64 (x' := 6 + 1) (Go.IntWalk.i64_in _ (by omega)) (by kernel_rfl) ?_
  refine st_round (by kernel_rfl) ?_
  refine st_fn ent126 (zulen7) sub0 (by kernel_rfl) ?_
  refine st_g ent30 (fzint (1000000000) (by assumption)) sub0 (by kernel_rfl) (fun zq8 => ?_)
  refine st_g ent59 (d1 (zq4.snd) (zq8)) (subC 3 rfl (subC 0 rfl sub0)) (by kernel_rfl) (fun zq9 => ?_)
  refine st_b 34 (show (p.n) = true by assumption) (by kernel_rfl) ?_
  refine st_g ent95 (n1 (zq9.fst)) (subC 0 rfl sub0) (by kernel_rfl) (fun zq10 => ?_)
  refine st_fn ent54 (f1 (zq10)) (subC 0 rfl sub0) (by kernel_rfl) ?_
  refine st_i 46 .i64 (x' := 6 + 1 - 1) (Go.IntWalk.i64_in _ (by omega)) (by kernel_rfl) ?_
  refine st_i 24 .i64 (x' := 6 + 1 + 1) (Go.IntWalk.i64_in _ (by omega)) (by kernel_rfl) ?_
  refine st_round (by kernel_rfl) ?_
  refine st_fn ent126 (zulen8) sub0 (by kernel_rfl) ?_
  refine st_g ent30 (fzint (1) (by assumption)) sub0 (by kernel_rfl) (fun zq13 => ?_)
  refine st_g ent59 (d2 (zq9.snd) (zq13)) (subC 3 rfl (subC 0 rfl sub0)) (by kernel_rfl) (fun zq14 => ?_)
  refine st_b 34 (show (p.n) = true by assumption) (by kernel_rfl) ?_
  refine st_g ent95 (n2 (zq14.fst)) (subC 0 rfl sub0) (by kernel_rfl) (fun zq15 => ?_)
  refine st_fn ent54 (f2 (zq15)) (subC 0 rfl sub0) (by kernel_rfl) ?_
  refine st_i 46 .i64 (x' := 6 + 1 + 1 - 1) (Go.IntWalk.i64_in _ (by omega)) (by kernel_rfl) ?_
  refine st_i 24 .i64 (x' := 6 + 1 + 1 + 1) (Go.IntWalk.i64_in _ (by omega)) (by kernel_rfl) ?_
  refine st_round (by kernel_rfl) ?_
  refine st_fn ent127 (zumade (0) (0) (0) (0) (0) (x.tdiv 60000000000) ((x.tmod 60000000000).tdiv 1000000000) (x.tmod 1000000000)) sub0 (by kernel_rfl) ?_
  refine st_fn ent50 (r) sub0 (by kernel_rfl) ?_
  exact st_ret Tryz.func67 (by kernel_rfl)
theorem zulay6n_o (p : ZQ) (x : Int) (hx : W128 x) (h0 : x < 0) (g : ¬ I64 (x.tdiv 60000000000)) : Fn 67 [(p, x)] [zv p, .int .i64 6] (.tuple #[du0, .int .i64 4]) := by
  have hy : Bits 900 (-x) := (hx.bits.neg).mono (by decide)
  have y0 : 0 ≤ (-x) := by omega
  have bL4 : Bits 900 86400000000000 := Bits.mono (show W128 86400000000000 by unfold W128; omega).bits (by decide)
  have bL5 : Bits 900 3600000000000 := Bits.mono (show W128 3600000000000 by unfold W128; omega).bits (by decide)
  have bL6 : Bits 900 60000000000 := Bits.mono (show W128 60000000000 by unfold W128; omega).bits (by decide)
  have bL7 : Bits 900 1000000000 := Bits.mono (show W128 1000000000 by unfold W128; omega).bits (by decide)
  have bL8 : Bits 900 1 := Bits.mono (show W128 1 by unfold W128; omega).bits (by decide)
  have j1 : I64 86400000000000 := by unfold I64; omega
  have j2 : I64 3600000000000 := by unfold I64; omega
  have j3 : I64 60000000000 := by unfold I64; omega
  have j4 : I64 1000000000 := by unfold I64; omega
  have j5 : I64 1 := by unfold I64; omega
  have j0 : I64 0 := by unfold I64; omega
  have fa : ∀ p : ZQ, FnZ 112 [(p, x)] [zv p] zv (-x) := fun p => by
    have t := fzabs p x (hx.bits.fit (by decide))
    rwa [show ((x.natAbs : Nat) : Int) = -x by omega] at t
  have d0 : ∀ p q : ZQ, FnZZ 59 [(p, (-x)), (q, 60000000000)] [zv p, zv q] (fun q => .tuple #[zv q.1, zv q.2]) ((-x).tdiv 60000000000) ((-x).tmod 60000000000) := fun p q => zdt p q (-x) 60000000000 y0 hy (by omega) bL6
  have g7 : I64 ((x.tmod 60000000000).tdiv 1000000000) := by have := td2 x 60000000000 1000000000 60 (by decide) (by omega) (by omega); unfold I64; omega
  have g8 : I64 (x.tmod 1000000000) := by
    obtain ⟨e1, e2, e3⟩ := td x 1000000000 (by omega)
    by_cases z : 0 ≤ x
    · have := e2 z; unfold I64; omega
    · have := e3 (by omega); unfold I64; omega
  have n0 : ∀ p : ZQ, FnZ 95 [(p, (-x).tdiv 60000000000)] [zv p] zv (x.tdiv 60000000000) := fun p => by
    have t := zng p ((-x).tdiv 60000000000) (tdvb (-x) 60000000000 y0 hy (by omega))
    rwa [show -((-x).tdiv 60000000000) = (x.tdiv 60000000000) by rw [Int.neg_tdiv, Int.neg_neg]] at t
  have f0 : ∀ p : ZQ, Fn 54 [(p, (x.tdiv 60000000000))] [zv p] (.tuple #[.int .i64 0, .bool false]) := fun p => by
    have t := fits_n p (x.tdiv 60000000000) (by rw [show (x.tdiv 60000000000) = -((-x).tdiv 60000000000) by rw [Int.neg_tdiv, Int.neg_neg]]; exact ((tdvb (-x) 60000000000 y0 hy (by omega)).neg).mono (by decide)) g
    exact t
  refine fn_of Tryz.func67 rfl fun ww => ?_
  refine st_know (p := p.n = true) (fun w hw => by rw [z_neg (hw (p, x) (by simp))]; simp; omega) fun hn => ?_
  clear hy y0 g hx
  refine st_fn ent126 (zulen6) sub0 (by kernel_rfl) ?_
  refine st_g ent112 (fa (p)) (subC 0 rfl sub0) (by kernel_rfl) (fun zq1 => ?_)
  refine st_round (by kernel_rfl) ?_
  refine st_fn ent126 (zulen6) sub0 (by kernel_rfl) ?_
  refine st_g ent30 (fzint (60000000000) (by assumption)) sub0 (by kernel_rfl) (fun zq3 => ?_)
  refine st_g ent59 (d0 (zq1) (zq3)) (subC 1 rfl (subC 0 rfl sub0)) (by kernel_rfl) (fun zq4 => ?_)
  refine st_b 34 (show (p.n) = true by assumption) (by kernel_rfl) ?_
  refine st_g ent95 (n0 (zq4.fst)) (subC 0 rfl sub0) (by kernel_rfl) (fun zq5 => ?_)
  refine st_fn ent54 (f0 (zq5)) (subC 0 rfl sub0) (by kernel_rfl) ?_
  exact st_ret Tryz.func67 (by kernel_rfl)
theorem zulay7p_y (p : ZQ) (x : Int) (hx : W128 x) (h0 : 0 ≤ x) (g : I64 (x.tdiv 1000000000)) (k : uOk 0 0 0 0 0 0 (x.tdiv 1000000000) (x.tmod 1000000000)) : Fn 67 [(p, x)] [zv p, .int .i64 7] (.tuple #[duv 0 0 0 0 0 0 (x.tdiv 1000000000) (x.tmod 1000000000), .int .i64 0]) := by
  have hy : Bits 900 x := hx.bits.mono (by decide)
  have y0 : 0 ≤ x := by omega
  have bL4 : Bits 900 86400000000000 := Bits.mono (show W128 86400000000000 by unfold W128; omega).bits (by decide)
  have bL5 : Bits 900 3600000000000 := Bits.mono (show W128 3600000000000 by unfold W128; omega).bits (by decide)
  have bL6 : Bits 900 60000000000 := Bits.mono (show W128 60000000000 by unfold W128; omega).bits (by decide)
  have bL7 : Bits 900 1000000000 := Bits.mono (show W128 1000000000 by unfold W128; omega).bits (by decide)
  have bL8 : Bits 900 1 := Bits.mono (show W128 1 by unfold W128; omega).bits (by decide)
  have j1 : I64 86400000000000 := by unfold I64; omega
  have j2 : I64 3600000000000 := by unfold I64; omega
  have j3 : I64 60000000000 := by unfold I64; omega
  have j4 : I64 1000000000 := by unfold I64; omega
  have j5 : I64 1 := by unfold I64; omega
  have j0 : I64 0 := by unfold I64; omega
  have fa : ∀ p : ZQ, FnZ 112 [(p, x)] [zv p] zv x := fun p => by
    have t := fzabs p x (hx.bits.fit (by decide))
    rwa [show ((x.natAbs : Nat) : Int) = x by omega] at t
  have d0 : ∀ p q : ZQ, FnZZ 59 [(p, x), (q, 1000000000)] [zv p, zv q] (fun q => .tuple #[zv q.1, zv q.2]) (x.tdiv 1000000000) (x.tmod 1000000000) := fun p q => zdt p q x 1000000000 y0 hy (by omega) bL7
  have d1 : ∀ p q : ZQ, FnZZ 59 [(p, x.tmod 1000000000), (q, 1)] [zv p, zv q] (fun q => .tuple #[zv q.1, zv q.2]) ((x.tmod 1000000000).tdiv 1) (x.tmod 1) := fun p q => zdc p q x 1000000000 1 y0 (by omega) bL7 (by omega) bL8 (by decide)
  have g8 : I64 (x.tmod 1000000000) := by
    obtain ⟨e1, e2, e3⟩ := td x 1000000000 (by omega)
    by_cases z : 0 ≤ x
    · have := e2 z; unfold I64; omega
    · have := e3 (by omega); unfold I64; omega
  have f0 : ∀ p : ZQ, Fn 54 [(p, x.tdiv 1000000000)] [zv p] (.tuple #[.int .i64 (x.tdiv 1000000000), .bool true]) := fun p => by
    have t := fits_f p (x.tdiv 1000000000) (g.w.bits.mono (by decide)) g
    exact t
  have f1 : ∀ p : ZQ, Fn 54 [(p, (x.tmod 1000000000).tdiv 1)] [zv p] (.tuple #[.int .i64 (x.tmod 1000000000), .bool true]) := fun p => by
    have t := fits_f p (x.tmod 1000000000) (g8.w.bits.mono (by decide)) g8
    simpa only [tdiv_1] using t
  have r := zuright_y 0 0 0 0 0 0 (x.tdiv 1000000000) (x.tmod 1000000000) ⟨j0, j0, j0, j0, j0, j0, g, g8⟩ k
  refine fn_of Tryz.func67 rfl fun ww => ?_
  refine st_know (p := p.n = false) (fun w hw => by rw [z_neg (hw (p, x) (by simp))]; simp; omega) fun hn => ?_
  clear hy y0 g hx k
  refine st_fn ent126 (zulen7) sub0 (by kernel_rfl) ?_
  refine st_g ent112 (fa (p)) (subC 0 rfl sub0) (by kernel_rfl) (fun zq1 => ?_)
  refine st_round (by kernel_rfl) ?_
  refine st_fn ent126 (zulen7) sub0 (by kernel_rfl) ?_
  refine st_g ent30 (fzint (1000000000) (by assumption)) sub0 (by kernel_rfl) (fun zq3 => ?_)
  refine st_g ent59 (d0 (zq1) (zq3)) (subC 1 rfl (subC 0 rfl sub0)) (by kernel_rfl) (fun zq4 => ?_)
  refine st_b 34 (show (p.n) = false by assumption) (by kernel_rfl) ?_
  refine st_fn ent54 (f0 (zq4.fst)) (subC 0 rfl sub0) (by kernel_rfl) ?_
  refine st_i 46 .i64 (x' := 7 - 1) (Go.IntWalk.i64_in _ (by omega)) (by kernel_rfl) ?_
  refine st_i 24 .i64 (x' := 7 + 1) (Go.IntWalk.i64_in _ (by omega)) (by kernel_rfl) ?_
  refine st_round (by kernel_rfl) ?_
  refine st_fn ent126 (zulen8) sub0 (by kernel_rfl) ?_
  refine st_g ent30 (fzint (1) (by assumption)) sub0 (by kernel_rfl) (fun zq7 => ?_)
  refine st_g ent59 (d1 (zq4.snd) (zq7)) (subC 2 rfl (subC 0 rfl sub0)) (by kernel_rfl) (fun zq8 => ?_)
  refine st_b 34 (show (p.n) = false by assumption) (by kernel_rfl) ?_
  refine st_fn ent54 (f1 (zq8.fst)) (subC 0 rfl sub0) (by kernel_rfl) ?_
  refine st_i 46 .i64 (x' := 7 + 1 - 1) (Go.IntWalk.i64_in _ (by omega)) (by kernel_rfl) ?_
  refine st_i 24 .i64 (x' := 7 + 1 + 1) (Go.IntWalk.i64_in _ (by omega)) (by kernel_rfl) ?_
  refine st_round (by kernel_rfl) ?_
  refine st_fn ent127 (zumade (0) (0) (0) (0) (0) (0) (x.tdiv 1000000000) (x.tmod 1000000000)) sub0 (by kernel_rfl) ?_
  refine st_fn ent50 (r) sub0 (by kernel_rfl) ?_
  exact st_ret Tryz.func67 (by kernel_rfl)
theorem zulay7p_r (p : ZQ) (x : Int) (hx : W128 x) (h0 : 0 ≤ x) (g : I64 (x.tdiv 1000000000)) (k : ¬ uOk 0 0 0 0 0 0 (x.tdiv 1000000000) (x.tmod 1000000000)) : Fn 67 [(p, x)] [zv p, .int .i64 7] (.tuple #[du0, .int .i64 4]) := by
  have hy : Bits 900 x := hx.bits.mono (by decide)
  have y0 : 0 ≤ x := by omega
  have bL4 : Bits 900 86400000000000 := Bits.mono (show W128 86400000000000 by unfold W128; omega).bits (by decide)
  have bL5 : Bits 900 3600000000000 := Bits.mono (show W128 3600000000000 by unfold W128; omega).bits (by decide)
  have bL6 : Bits 900 60000000000 := Bits.mono (show W128 60000000000 by unfold W128; omega).bits (by decide)
  have bL7 : Bits 900 1000000000 := Bits.mono (show W128 1000000000 by unfold W128; omega).bits (by decide)
  have bL8 : Bits 900 1 := Bits.mono (show W128 1 by unfold W128; omega).bits (by decide)
  have j1 : I64 86400000000000 := by unfold I64; omega
  have j2 : I64 3600000000000 := by unfold I64; omega
  have j3 : I64 60000000000 := by unfold I64; omega
  have j4 : I64 1000000000 := by unfold I64; omega
  have j5 : I64 1 := by unfold I64; omega
  have j0 : I64 0 := by unfold I64; omega
  have fa : ∀ p : ZQ, FnZ 112 [(p, x)] [zv p] zv x := fun p => by
    have t := fzabs p x (hx.bits.fit (by decide))
    rwa [show ((x.natAbs : Nat) : Int) = x by omega] at t
  have d0 : ∀ p q : ZQ, FnZZ 59 [(p, x), (q, 1000000000)] [zv p, zv q] (fun q => .tuple #[zv q.1, zv q.2]) (x.tdiv 1000000000) (x.tmod 1000000000) := fun p q => zdt p q x 1000000000 y0 hy (by omega) bL7
  have d1 : ∀ p q : ZQ, FnZZ 59 [(p, x.tmod 1000000000), (q, 1)] [zv p, zv q] (fun q => .tuple #[zv q.1, zv q.2]) ((x.tmod 1000000000).tdiv 1) (x.tmod 1) := fun p q => zdc p q x 1000000000 1 y0 (by omega) bL7 (by omega) bL8 (by decide)
  have g8 : I64 (x.tmod 1000000000) := by
    obtain ⟨e1, e2, e3⟩ := td x 1000000000 (by omega)
    by_cases z : 0 ≤ x
    · have := e2 z; unfold I64; omega
    · have := e3 (by omega); unfold I64; omega
  have f0 : ∀ p : ZQ, Fn 54 [(p, x.tdiv 1000000000)] [zv p] (.tuple #[.int .i64 (x.tdiv 1000000000), .bool true]) := fun p => by
    have t := fits_f p (x.tdiv 1000000000) (g.w.bits.mono (by decide)) g
    exact t
  have f1 : ∀ p : ZQ, Fn 54 [(p, (x.tmod 1000000000).tdiv 1)] [zv p] (.tuple #[.int .i64 (x.tmod 1000000000), .bool true]) := fun p => by
    have t := fits_f p (x.tmod 1000000000) (g8.w.bits.mono (by decide)) g8
    simpa only [tdiv_1] using t
  have r := zuright_f 0 0 0 0 0 0 (x.tdiv 1000000000) (x.tmod 1000000000) ⟨j0, j0, j0, j0, j0, j0, g, g8⟩ k
  refine fn_of Tryz.func67 rfl fun ww => ?_
  refine st_know (p := p.n = false) (fun w hw => by rw [z_neg (hw (p, x) (by simp))]; simp; omega) fun hn => ?_
  clear hy y0 g hx k
  refine st_fn ent126 (zulen7) sub0 (by kernel_rfl) ?_
  refine st_g ent112 (fa (p)) (subC 0 rfl sub0) (by kernel_rfl) (fun zq1 => ?_)
  refine st_round (by kernel_rfl) ?_
  refine st_fn ent126 (zulen7) sub0 (by kernel_rfl) ?_
  refine st_g ent30 (fzint (1000000000) (by assumption)) sub0 (by kernel_rfl) (fun zq3 => ?_)
  refine st_g ent59 (d0 (zq1) (zq3)) (subC 1 rfl (subC 0 rfl sub0)) (by kernel_rfl) (fun zq4 => ?_)
  refine st_b 34 (show (p.n) = false by assumption) (by kernel_rfl) ?_
  refine st_fn ent54 (f0 (zq4.fst)) (subC 0 rfl sub0) (by kernel_rfl) ?_
  refine st_i 46 .i64 (x' := 7 - 1) (Go.IntWalk.i64_in _ (by omega)) (by kernel_rfl) ?_
  refine st_i 24 .i64 (x' := 7 + 1) (Go.IntWalk.i64_in _ (by omega)) (by kernel_rfl) ?_
  refine st_round (by kernel_rfl) ?_
  refine st_fn ent126 (zulen8) sub0 (by kernel_rfl) ?_
  refine st_g ent30 (fzint (1) (by assumption)) sub0 (by kernel_rfl) (fun zq7 => ?_)
  refine st_g ent59 (d1 (zq4.snd) (zq7)) (subC 2 rfl (subC 0 rfl sub0)) (by kernel_rfl) (fun zq8 => ?_)
  refine st_b 34 (show (p.n) = false by assumption) (by kernel_rfl) ?_
  refine st_fn ent54 (f1 (zq8.fst)) (subC 0 rfl sub0) (by kernel_rfl) ?_
  refine st_i 46 .i64 (x' := 7 + 1 - 1) (Go.IntWalk.i64_in _ (by omega)) (by kernel_rfl) ?_
  refine st_i 24 .i64 (x' := 7 + 1 + 1) (Go.IntWalk.i64_in _ (by omega)) (by kernel_rfl) ?_
  refine st_round (by kernel_rfl) ?_
  refine st_fn ent127 (zumade (0) (0) (0) (0) (0) (0) (x.tdiv 1000000000) (x.tmod 1000000000)) sub0 (by kernel_rfl) ?_
  refine st_fn ent50 (r) sub0 (by kernel_rfl) ?_
  exact st_ret Tryz.func67 (by kernel_rfl)
theorem zulay7p_o (p : ZQ) (x : Int) (hx : W128 x) (h0 : 0 ≤ x) (g : ¬ I64 (x.tdiv 1000000000)) : Fn 67 [(p, x)] [zv p, .int .i64 7] (.tuple #[du0, .int .i64 4]) := by
  have hy : Bits 900 x := hx.bits.mono (by decide)
  have y0 : 0 ≤ x := by omega
  have bL4 : Bits 900 86400000000000 := Bits.mono (show W128 86400000000000 by unfold W128; omega).bits (by decide)
  have bL5 : Bits 900 3600000000000 := Bits.mono (show W128 3600000000000 by unfold W128; omega).bits (by decide)
  have bL6 : Bits 900 60000000000 := Bits.mono (show W128 60000000000 by unfold W128; omega).bits (by decide)
  have bL7 : Bits 900 1000000000 := Bits.mono (show W128 1000000000 by unfold W128; omega).bits (by decide)
  have bL8 : Bits 900 1 := Bits.mono (show W128 1 by unfold W128; omega).bits (by decide)
  have j1 : I64 86400000000000 := by unfold I64; omega
  have j2 : I64 3600000000000 := by unfold I64; omega
  have j3 : I64 60000000000 := by unfold I64; omega
  have j4 : I64 1000000000 := by unfold I64; omega
  have j5 : I64 1 := by unfold I64; omega
  have j0 : I64 0 := by unfold I64; omega
  have fa : ∀ p : ZQ, FnZ 112 [(p, x)] [zv p] zv x := fun p => by
    have t := fzabs p x (hx.bits.fit (by decide))
    rwa [show ((x.natAbs : Nat) : Int) = x by omega] at t
  have d0 : ∀ p q : ZQ, FnZZ 59 [(p, x), (q, 1000000000)] [zv p, zv q] (fun q => .tuple #[zv q.1, zv q.2]) (x.tdiv 1000000000) (x.tmod 1000000000) := fun p q => zdt p q x 1000000000 y0 hy (by omega) bL7
  have g8 : I64 (x.tmod 1000000000) := by
    obtain ⟨e1, e2, e3⟩ := td x 1000000000 (by omega)
    by_cases z : 0 ≤ x
    · have := e2 z; unfold I64; omega
    · have := e3 (by omega); unfold I64; omega
  have f0 : ∀ p : ZQ, Fn 54 [(p, x.tdiv 1000000000)] [zv p] (.tuple #[.int .i64 0, .bool false]) := fun p => by
    have t := fits_n p (x.tdiv 1000000000) ((tdvb x 1000000000 y0 hy (by omega)).mono (by decide)) g
    exact t
  refine fn_of Tryz.func67 rfl fun ww => ?_
  refine st_know (p := p.n = false) (fun w hw => by rw [z_neg (hw (p, x) (by simp))]; simp; omega) fun hn => ?_
  clear hy y0 g hx
  refine st_fn ent126 (zulen7) sub0 (by kernel_rfl) ?_
  refine st_g ent112 (fa (p)) (subC 0 rfl sub0) (by kernel_rfl) (fun zq1 => ?_)
  refine st_round (by kernel_rfl) ?_
  refine st_fn ent126 (zulen7) sub0 (by kernel_rfl) ?_
  refine st_g ent30 (fzint (1000000000) (by assumption)) sub0 (by kernel_rfl) (fun zq3 => ?_)
  refine st_g ent59 (d0 (zq1) (zq3)) (subC 1 rfl (subC 0 rfl sub0)) (by kernel_rfl) (fun zq4 => ?_)
  refine st_b 34 (show (p.n) = false by assumption) (by kernel_rfl) ?_
  refine st_fn ent54 (f0 (zq4.fst)) (subC 0 rfl sub0) (by kernel_rfl) ?_
  exact st_ret Tryz.func67 (by kernel_rfl)
theorem zulay7n_y (p : ZQ) (x : Int) (hx : W128 x) (h0 : x < 0) (g : I64 (x.tdiv 1000000000)) (k : uOk 0 0 0 0 0 0 (x.tdiv 1000000000) (x.tmod 1000000000)) : Fn 67 [(p, x)] [zv p, .int .i64 7] (.tuple #[duv 0 0 0 0 0 0 (x.tdiv 1000000000) (x.tmod 1000000000), .int .i64 0]) := by
  have hy : Bits 900 (-x) := (hx.bits.neg).mono (by decide)
  have y0 : 0 ≤ (-x) := by omega
  have bL4 : Bits 900 86400000000000 := Bits.mono (show W128 86400000000000 by unfold W128; omega).bits (by decide)
  have bL5 : Bits 900 3600000000000 := Bits.mono (show W128 3600000000000 by unfold W128; omega).bits (by decide)
  have bL6 : Bits 900 60000000000 := Bits.mono (show W128 60000000000 by unfold W128; omega).bits (by decide)
  have bL7 : Bits 900 1000000000 := Bits.mono (show W128 1000000000 by unfold W128; omega).bits (by decide)
  have bL8 : Bits 900 1 := Bits.mono (show W128 1 by unfold W128; omega).bits (by decide)
  have j1 : I64 86400000000000 := by unfold I64; omega
  have j2 : I64 3600000000000 := by unfold I64; omega
  have j3 : I64 60000000000 := by unfold I64; omega
  have j4 : I64 1000000000 := by unfold I64; omega
  have j5 : I64 1 := by unfold I64; omega
  have j0 : I64 0 := by unfold I64; omega
  have fa : ∀ p : ZQ, FnZ 112 [(p, x)] [zv p] zv (-x) := fun p => by
    have t := fzabs p x (hx.bits.fit (by decide))
    rwa [show ((x.natAbs : Nat) : Int) = -x by omega] at t
  have d0 : ∀ p q : ZQ, FnZZ 59 [(p, (-x)), (q, 1000000000)] [zv p, zv q] (fun q => .tuple #[zv q.1, zv q.2]) ((-x).tdiv 1000000000) ((-x).tmod 1000000000) := fun p q => zdt p q (-x) 1000000000 y0 hy (by omega) bL7
  have d1 : ∀ p q : ZQ, FnZZ 59 [(p, (-x).tmod 1000000000), (q, 1)] [zv p, zv q] (fun q => .tuple #[zv q.1, zv q.2]) (((-x).tmod 1000000000).tdiv 1) ((-x).tmod 1) := fun p q => zdc p q (-x) 1000000000 1 y0 (by omega) bL7 (by omega) bL8 (by decide)
  have g8 : I64 (x.tmod 1000000000) := by
    obtain ⟨e1, e2, e3⟩ := td x 1000000000 (by omega)
    by_cases z : 0 ≤ x
    · have := e2 z; unfold I64; omega
    · have := e3 (by omega); unfold I64; omega
  have n0 : ∀ p : ZQ, FnZ 95 [(p, (-x).tdiv 1000000000)] [zv p] zv (x.tdiv 1000000000) := fun p => by
    have t := zng p ((-x).tdiv 1000000000) (tdvb (-x) 1000000000 y0 hy (by omega))
    rwa [show -((-x).tdiv 1000000000) = (x.tdiv 1000000000) by rw [Int.neg_tdiv, Int.neg_neg]] at t
  have f0 : ∀ p : ZQ, Fn 54 [(p, (x.tdiv 1000000000))] [zv p] (.tuple #[.int .i64 (x.tdiv 1000000000), .bool true]) := fun p => by
    have t := fits_f p (x.tdiv 1000000000) (g.w.bits.mono (by decide)) g
    exact t
  have n1 : ∀ p : ZQ, FnZ 95 [(p, ((-x).tmod 1000000000).tdiv 1)] [zv p] zv (x.tmod 1000000000) := fun p => by
    have t := zng p (((-x).tmod 1000000000).tdiv 1) (tdvb _ 1 (tmod_nb (-x) 1000000000 y0 (by omega) bL7).1 (tmod_nb (-x) 1000000000 y0 (by omega) bL7).2 (by omega))
    rwa [show -(((-x).tmod 1000000000).tdiv 1) = (x.tmod 1000000000) by rw [Int.neg_tmod, Int.neg_tdiv, Int.neg_neg, tdiv_1]] at t
  have f1 : ∀ p : ZQ, Fn 54 [(p, (x.tmod 1000000000))] [zv p] (.tuple #[.int .i64 (x.tmod 1000000000), .bool true]) := fun p => by
    have t := fits_f p (x.tmod 1000000000) (g8.w.bits.mono (by decide)) g8
    exact t
  have r := zuright_y 0 0 0 0 0 0 (x.tdiv 1000000000) (x.tmod 1000000000) ⟨j0, j0, j0, j0, j0, j0, g, g8⟩ k
  refine fn_of Tryz.func67 rfl fun ww => ?_
  refine st_know (p := p.n = true) (fun w hw => by rw [z_neg (hw (p, x) (by simp))]; simp; omega) fun hn => ?_
  clear hy y0 g hx k
  refine st_fn ent126 (zulen7) sub0 (by kernel_rfl) ?_
  refine st_g ent112 (fa (p)) (subC 0 rfl sub0) (by kernel_rfl) (fun zq1 => ?_)
  refine st_round (by kernel_rfl) ?_
  refine st_fn ent126 (zulen7) sub0 (by kernel_rfl) ?_
  refine st_g ent30 (fzint (1000000000) (by assumption)) sub0 (by kernel_rfl) (fun zq3 => ?_)
  refine st_g ent59 (d0 (zq1) (zq3)) (subC 1 rfl (subC 0 rfl sub0)) (by kernel_rfl) (fun zq4 => ?_)
  refine st_b 34 (show (p.n) = true by assumption) (by kernel_rfl) ?_
  refine st_g ent95 (n0 (zq4.fst)) (subC 0 rfl sub0) (by kernel_rfl) (fun zq5 => ?_)
  refine st_fn ent54 (f0 (zq5)) (subC 0 rfl sub0) (by kernel_rfl) ?_
  refine st_i 46 .i64 (x' := 7 - 1) (Go.IntWalk.i64_in _ (by omega)) (by kernel_rfl) ?_
  refine st_i 24 .i64 (x' := 7 + 1) (Go.IntWalk.i64_in _ (by omega)) (by kernel_rfl) ?_
  refine st_round (by kernel_rfl) ?_
  refine st_fn ent126 (zulen8) sub0 (by kernel_rfl) ?_
  refine st_g ent30 (fzint (1) (by assumption)) sub0 (by kernel_rfl) (fun zq8 => ?_)
  refine st_g ent59 (d1 (zq4.snd) (zq8)) (subC 3 rfl (subC 0 rfl sub0)) (by kernel_rfl) (fun zq9 => ?_)
  refine st_b 34 (show (p.n) = true by assumption) (by kernel_rfl) ?_
  refine st_g ent95 (n1 (zq9.fst)) (subC 0 rfl sub0) (by kernel_rfl) (fun zq10 => ?_)
  refine st_fn ent54 (f1 (zq10)) (subC 0 rfl sub0) (by kernel_rfl) ?_
  refine st_i 46 .i64 (x' := 7 + 1 - 1) (Go.IntWalk.i64_in _ (by omega)) (by kernel_rfl) ?_
  refine st_i 24 .i64 (x' := 7 + 1 + 1) (Go.IntWalk.i64_in _ (by omega)) (by kernel_rfl) ?_
  refine st_round (by kernel_rfl) ?_
  refine st_fn ent127 (zumade (0) (0) (0) (0) (0) (0) (x.tdiv 1000000000) (x.tmod 1000000000)) sub0 (by kernel_rfl) ?_
  refine st_fn ent50 (r) sub0 (by kernel_rfl) ?_
  exact st_ret Tryz.func67 (by kernel_rfl)
theorem zulay7n_r (p : ZQ) (x : Int) (hx : W128 x) (h0 : x < 0) (g : I64 (x.tdiv 1000000000)) (k : ¬ uOk 0 0 0 0 0 0 (x.tdiv 1000000000) (x.tmod 1000000000)) : Fn 67 [(p, x)] [zv p, .int .i64 7] (.tuple #[du0, .int .i64 4]) := by
  have hy : Bits 900 (-x) := (hx.bits.neg).mono (by decide)
  have y0 : 0 ≤ (-x) := by omega
  have bL4 : Bits 900 86400000000000 := Bits.mono (show W128 86400000000000 by unfold W128; omega).bits (by decide)
  have bL5 : Bits 900 3600000000000 := Bits.mono (show W128 3600000000000 by unfold W128; omega).bits (by decide)
  have bL6 : Bits 900 60000000000 := Bits.mono (show W128 60000000000 by unfold W128; omega).bits (by decide)
  have bL7 : Bits 900 1000000000 := Bits.mono (show W128 1000000000 by unfold W128; omega).bits (by decide)
  have bL8 : Bits 900 1 := Bits.mono (show W128 1 by unfold W128; omega).bits (by decide)
  have j1 : I64 86400000000000 := by unfold I64; omega
  have j2 : I64 3600000000000 := by unfold I64; omega
  have j3 : I64 60000000000 := by unfold I64; omega
  have j4 : I64 1000000000 := by unfold I64; omega
  have j5 : I64 1 := by unfold I64; omega
  have j0 : I64 0 := by unfold I64; omega
  have fa : ∀ p : ZQ, FnZ 112 [(p, x)] [zv p] zv (-x) := fun p => by
    have t := fzabs p x (hx.bits.fit (by decide))
    rwa [show ((x.natAbs : Nat) : Int) = -x by omega] at t
  have d0 : ∀ p q : ZQ, FnZZ 59 [(p, (-x)), (q, 1000000000)] [zv p, zv q] (fun q => .tuple #[zv q.1, zv q.2]) ((-x).tdiv 1000000000) ((-x).tmod 1000000000) := fun p q => zdt p q (-x) 1000000000 y0 hy (by omega) bL7
  have d1 : ∀ p q : ZQ, FnZZ 59 [(p, (-x).tmod 1000000000), (q, 1)] [zv p, zv q] (fun q => .tuple #[zv q.1, zv q.2]) (((-x).tmod 1000000000).tdiv 1) ((-x).tmod 1) := fun p q => zdc p q (-x) 1000000000 1 y0 (by omega) bL7 (by omega) bL8 (by decide)
  have g8 : I64 (x.tmod 1000000000) := by
    obtain ⟨e1, e2, e3⟩ := td x 1000000000 (by omega)
    by_cases z : 0 ≤ x
    · have := e2 z; unfold I64; omega
    · have := e3 (by omega); unfold I64; omega
  have n0 : ∀ p : ZQ, FnZ 95 [(p, (-x).tdiv 1000000000)] [zv p] zv (x.tdiv 1000000000) := fun p => by
    have t := zng p ((-x).tdiv 1000000000) (tdvb (-x) 1000000000 y0 hy (by omega))
    rwa [show -((-x).tdiv 1000000000) = (x.tdiv 1000000000) by rw [Int.neg_tdiv, Int.neg_neg]] at t
  have f0 : ∀ p : ZQ, Fn 54 [(p, (x.tdiv 1000000000))] [zv p] (.tuple #[.int .i64 (x.tdiv 1000000000), .bool true]) := fun p => by
    have t := fits_f p (x.tdiv 1000000000) (g.w.bits.mono (by decide)) g
    exact t
  have n1 : ∀ p : ZQ, FnZ 95 [(p, ((-x).tmod 1000000000).tdiv 1)] [zv p] zv (x.tmod 1000000000) := fun p => by
    have t := zng p (((-x).tmod 1000000000).tdiv 1) (tdvb _ 1 (tmod_nb (-x) 1000000000 y0 (by omega) bL7).1 (tmod_nb (-x) 1000000000 y0 (by omega) bL7).2 (by omega))
    rwa [show -(((-x).tmod 1000000000).tdiv 1) = (x.tmod 1000000000) by rw [Int.neg_tmod, Int.neg_tdiv, Int.neg_neg, tdiv_1]] at t
  have f1 : ∀ p : ZQ, Fn 54 [(p, (x.tmod 1000000000))] [zv p] (.tuple #[.int .i64 (x.tmod 1000000000), .bool true]) := fun p => by
    have t := fits_f p (x.tmod 1000000000) (g8.w.bits.mono (by decide)) g8
    exact t
  have r := zuright_f 0 0 0 0 0 0 (x.tdiv 1000000000) (x.tmod 1000000000) ⟨j0, j0, j0, j0, j0, j0, g, g8⟩ k
  refine fn_of Tryz.func67 rfl fun ww => ?_
  refine st_know (p := p.n = true) (fun w hw => by rw [z_neg (hw (p, x) (by simp))]; simp; omega) fun hn => ?_
  clear hy y0 g hx k
  refine st_fn ent126 (zulen7) sub0 (by kernel_rfl) ?_
  refine st_g ent112 (fa (p)) (subC 0 rfl sub0) (by kernel_rfl) (fun zq1 => ?_)
  refine st_round (by kernel_rfl) ?_
  refine st_fn ent126 (zulen7) sub0 (by kernel_rfl) ?_
  refine st_g ent30 (fzint (1000000000) (by assumption)) sub0 (by kernel_rfl) (fun zq3 => ?_)
  refine st_g ent59 (d0 (zq1) (zq3)) (subC 1 rfl (subC 0 rfl sub0)) (by kernel_rfl) (fun zq4 => ?_)
  refine st_b 34 (show (p.n) = true by assumption) (by kernel_rfl) ?_
  refine st_g ent95 (n0 (zq4.fst)) (subC 0 rfl sub0) (by kernel_rfl) (fun zq5 => ?_)
  refine st_fn ent54 (f0 (zq5)) (subC 0 rfl sub0) (by kernel_rfl) ?_
  refine st_i 46 .i64 (x' := 7 - 1) (Go.IntWalk.i64_in _ (by omega)) (by kernel_rfl) ?_
  refine st_i 24 .i64 (x' := 7 + 1) (Go.IntWalk.i64_in _ (by omega)) (by kernel_rfl) ?_
  refine st_round (by kernel_rfl) ?_
  refine st_fn ent126 (zulen8) sub0 (by kernel_rfl) ?_
  refine st_g ent30 (fzint (1) (by assumption)) sub0 (by kernel_rfl) (fun zq8 => ?_)
  refine st_g ent59 (d1 (zq4.snd) (zq8)) (subC 3 rfl (subC 0 rfl sub0)) (by kernel_rfl) (fun zq9 => ?_)
  refine st_b 34 (show (p.n) = true by assumption) (by kernel_rfl) ?_
  refine st_g ent95 (n1 (zq9.fst)) (subC 0 rfl sub0) (by kernel_rfl) (fun zq10 => ?_)
  refine st_fn ent54 (f1 (zq10)) (subC 0 rfl sub0) (by kernel_rfl) ?_
  refine st_i 46 .i64 (x' := 7 + 1 - 1) (Go.IntWalk.i64_in _ (by omega)) (by kernel_rfl) ?_
  refine st_i 24 .i64 (x' := 7 + 1 + 1) (Go.IntWalk.i64_in _ (by omega)) (by kernel_rfl) ?_
  refine st_round (by kernel_rfl) ?_
  refine st_fn ent127 (zumade (0) (0) (0) (0) (0) (0) (x.tdiv 1000000000) (x.tmod 1000000000)) sub0 (by kernel_rfl) ?_
  refine st_fn ent50 (r) sub0 (by kernel_rfl) ?_
  exact st_ret Tryz.func67 (by kernel_rfl)
theorem zulay7n_o (p : ZQ) (x : Int) (hx : W128 x) (h0 : x < 0) (g : ¬ I64 (x.tdiv 1000000000)) : Fn 67 [(p, x)] [zv p, .int .i64 7] (.tuple #[du0, .int .i64 4]) := by
  have hy : Bits 900 (-x) := (hx.bits.neg).mono (by decide)
  have y0 : 0 ≤ (-x) := by omega
  have bL4 : Bits 900 86400000000000 := Bits.mono (show W128 86400000000000 by unfold W128; omega).bits (by decide)
  have bL5 : Bits 900 3600000000000 := Bits.mono (show W128 3600000000000 by unfold W128; omega).bits (by decide)
  have bL6 : Bits 900 60000000000 := Bits.mono (show W128 60000000000 by unfold W128; omega).bits (by decide)
  have bL7 : Bits 900 1000000000 := Bits.mono (show W128 1000000000 by unfold W128; omega).bits (by decide)
  have bL8 : Bits 900 1 := Bits.mono (show W128 1 by unfold W128; omega).bits (by decide)
  have j1 : I64 86400000000000 := by unfold I64; omega
  have j2 : I64 3600000000000 := by unfold I64; omega
  have j3 : I64 60000000000 := by unfold I64; omega
  have j4 : I64 1000000000 := by unfold I64; omega
  have j5 : I64 1 := by unfold I64; omega
  have j0 : I64 0 := by unfold I64; omega
  have fa : ∀ p : ZQ, FnZ 112 [(p, x)] [zv p] zv (-x) := fun p => by
    have t := fzabs p x (hx.bits.fit (by decide))
    rwa [show ((x.natAbs : Nat) : Int) = -x by omega] at t
  have d0 : ∀ p q : ZQ, FnZZ 59 [(p, (-x)), (q, 1000000000)] [zv p, zv q] (fun q => .tuple #[zv q.1, zv q.2]) ((-x).tdiv 1000000000) ((-x).tmod 1000000000) := fun p q => zdt p q (-x) 1000000000 y0 hy (by omega) bL7
  have g8 : I64 (x.tmod 1000000000) := by
    obtain ⟨e1, e2, e3⟩ := td x 1000000000 (by omega)
    by_cases z : 0 ≤ x
    · have := e2 z; unfold I64; omega
    · have := e3 (by omega); unfold I64; omega
  have n0 : ∀ p : ZQ, FnZ 95 [(p, (-x).tdiv 1000000000)] [zv p] zv (x.tdiv 1000000000) := fun p => by
    have t := zng p ((-x).tdiv 1000000000) (tdvb (-x) 1000000000 y0 hy (by omega))
    rwa [show -((-x).tdiv 1000000000) = (x.tdiv 1000000000) by rw [Int.neg_tdiv, Int.neg_neg]] at t
  have f0 : ∀ p : ZQ, Fn 54 [(p, (x.tdiv 1000000000))] [zv p] (.tuple #[.int .i64 0, .bool false]) := fun p => by
    have t := fits_n p (x.tdiv 1000000000) (by rw [show (x.tdiv 1000000000) = -((-x).tdiv 1000000000) by rw [Int.neg_tdiv, Int.neg_neg]]; exact ((tdvb (-x) 1000000000 y0 hy (by omega)).neg).mono (by decide)) g
    exact t
  refine fn_of Tryz.func67 rfl fun ww => ?_
  refine st_know (p := p.n = true) (fun w hw => by rw [z_neg (hw (p, x) (by simp))]; simp; omega) fun hn => ?_
  clear hy y0 g hx
  refine st_fn ent126 (zulen7) sub0 (by kernel_rfl) ?_
  refine st_g ent112 (fa (p)) (subC 0 rfl sub0) (by kernel_rfl) (fun zq1 => ?_)
  refine st_round (by kernel_rfl) ?_
  refine st_fn ent126 (zulen7) sub0 (by kernel_rfl) ?_
  refine st_g ent30 (fzint (1000000000) (by assumption)) sub0 (by kernel_rfl) (fun zq3 => ?_)
  refine st_g ent59 (d0 (zq1) (zq3)) (subC 1 rfl (subC 0 rfl sub0)) (by kernel_rfl) (fun zq4 => ?_)
  refine st_b 34 (show (p.n) = true by assumption) (by kernel_rfl) ?_
  refine st_g ent95 (n0 (zq4.fst)) (subC 0 rfl sub0) (by kernel_rfl) (fun zq5 => ?_)
  refine st_fn ent54 (f0 (zq5)) (subC 0 rfl sub0) (by kernel_rfl) ?_
  exact st_ret Tryz.func67 (by kernel_rfl)
theorem zulay8p_y (p : ZQ) (x : Int) (hx : W128 x) (h0 : 0 ≤ x) (g : I64 x) (k : uOk 0 0 0 0 0 0 0 x) : Fn 67 [(p, x)] [zv p, .int .i64 8] (.tuple #[duv 0 0 0 0 0 0 0 x, .int .i64 0]) := by
  have hy : Bits 900 x := hx.bits.mono (by decide)
  have y0 : 0 ≤ x := by omega
  have bL4 : Bits 900 86400000000000 := Bits.mono (show W128 86400000000000 by unfold W128; omega).bits (by decide)
  have bL5 : Bits 900 3600000000000 := Bits.mono (show W128 3600000000000 by unfold W128; omega).bits (by decide)
  have bL6 : Bits 900 60000000000 := Bits.mono (show W128 60000000000 by unfold W128; omega).bits (by decide)
  have bL7 : Bits 900 1000000000 := Bits.mono (show W128 1000000000 by unfold W128; omega).bits (by decide)
  have bL8 : Bits 900 1 := Bits.mono (show W128 1 by unfold W128; omega).bits (by decide)
  have j1 : I64 86400000000000 := by unfold I64; omega
  have j2 : I64 3600000000000 := by unfold I64; omega
  have j3 : I64 60000000000 := by unfold I64; omega
  have j4 : I64 1000000000 := by unfold I64; omega
  have j5 : I64 1 := by unfold I64; omega
  have j0 : I64 0 := by unfold I64; omega
  have fa : ∀ p : ZQ, FnZ 112 [(p, x)] [zv p] zv x := fun p => by
    have t := fzabs p x (hx.bits.fit (by decide))
    rwa [show ((x.natAbs : Nat) : Int) = x by omega] at t
  have d0 : ∀ p q : ZQ, FnZZ 59 [(p, x), (q, 1)] [zv p, zv q] (fun q => .tuple #[zv q.1, zv q.2]) (x.tdiv 1) (x.tmod 1) := fun p q => zdt p q x 1 y0 hy (by omega) bL8
  have f0 : ∀ p : ZQ, Fn 54 [(p, x.tdiv 1)] [zv p] (.tuple #[.int .i64 x, .bool true]) := fun p => by
    have t := fits_f p x (g.w.bits.mono (by decide)) g
    simpa only [tdiv_1] using t
  have r := zuright_y 0 0 0 0 0 0 0 x ⟨j0, j0, j0, j0, j0, j0, j0, g⟩ k
  refine fn_of Tryz.func67 rfl fun ww => ?_
  refine st_know (p := p.n = false) (fun w hw => by rw [z_neg (hw (p, x) (by simp))]; simp; omega) fun hn => ?_
  clear hy y0 g hx k
  refine st_fn ent126 (zulen8) sub0 (by kernel_rfl) ?_
  refine st_g ent112 (fa (p)) (subC 0 rfl sub0) (by kernel_rfl) (fun zq1 => ?_)
  refine st_round (by kernel_rfl) ?_
  refine st_fn ent126 (zulen8) sub0 (by kernel_rfl) ?_
  refine st_g ent30 (fzint (1) (by assumption)) sub0 (by kernel_rfl) (fun zq3 => ?_)
  refine st_g ent59 (d0 (zq1) (zq3)) (subC 1 rfl (subC 0 rfl sub0)) (by kernel_rfl) (fun zq4 => ?_)
  refine st_b 34 (show (p.n) = false by assumption) (by kernel_rfl) ?_
  refine st_fn ent54 (f0 (zq4.fst)) (subC 0 rfl sub0) (by kernel_rfl) ?_
  refine st_i 46 .i64 (x' := 8 - 1) (Go.IntWalk.i64_in _ (by omega)) (by kernel_rfl) ?_
  refine st_i 24 .i64 (x' := 8 + 1) (Go.IntWalk.i64_in _ (by omega)) (by kernel_rfl) ?_
  refine st_round (by kernel_rfl) ?_
  refine st_fn ent127 (zumade (0) (0) (0) (0) (0) (0) (0) (x)) sub0 (by kernel_rfl) ?_
  refine st_fn ent50 (r) sub0 (by kernel_rfl) ?_
  exact st_ret Tryz.func67 (by kernel_rfl)
theorem zulay8p_r (p : ZQ) (x : Int) (hx : W128 x) (h0 : 0 ≤ x) (g : I64 x) (k : ¬ uOk 0 0 0 0 0 0 0 x) : Fn 67 [(p, x)] [zv p, .int .i64 8] (.tuple #[du0, .int .i64 4]) := by
  have hy : Bits 900 x := hx.bits.mono (by decide)
  have y0 : 0 ≤ x := by omega
  have bL4 : Bits 900 86400000000000 := Bits.mono (show W128 86400000000000 by unfold W128; omega).bits (by decide)
  have bL5 : Bits 900 3600000000000 := Bits.mono (show W128 3600000000000 by unfold W128; omega).bits (by decide)
  have bL6 : Bits 900 60000000000 := Bits.mono (show W128 60000000000 by unfold W128; omega).bits (by decide)
  have bL7 : Bits 900 1000000000 := Bits.mono (show W128 1000000000 by unfold W128; omega).bits (by decide)
  have bL8 : Bits 900 1 := Bits.mono (show W128 1 by unfold W128; omega).bits (by decide)
  have j1 : I64 86400000000000 := by unfold I64; omega
  have j2 : I64 3600000000000 := by unfold I64; omega
  have j3 : I64 60000000000 := by unfold I64; omega
  have j4 : I64 1000000000 := by unfold I64; omega
  have j5 : I64 1 := by unfold I64; omega
  have j0 : I64 0 := by unfold I64; omega
  have fa : ∀ p : ZQ, FnZ 112 [(p, x)] [zv p] zv x := fun p => by
    have t := fzabs p x (hx.bits.fit (by decide))
    rwa [show ((x.natAbs : Nat) : Int) = x by omega] at t
  have d0 : ∀ p q : ZQ, FnZZ 59 [(p, x), (q, 1)] [zv p, zv q] (fun q => .tuple #[zv q.1, zv q.2]) (x.tdiv 1) (x.tmod 1) := fun p q => zdt p q x 1 y0 hy (by omega) bL8
  have f0 : ∀ p : ZQ, Fn 54 [(p, x.tdiv 1)] [zv p] (.tuple #[.int .i64 x, .bool true]) := fun p => by
    have t := fits_f p x (g.w.bits.mono (by decide)) g
    simpa only [tdiv_1] using t
  have r := zuright_f 0 0 0 0 0 0 0 x ⟨j0, j0, j0, j0, j0, j0, j0, g⟩ k
  refine fn_of Tryz.func67 rfl fun ww => ?_
  refine st_know (p := p.n = false) (fun w hw => by rw [z_neg (hw (p, x) (by simp))]; simp; omega) fun hn => ?_
  clear hy y0 g hx k
  refine st_fn ent126 (zulen8) sub0 (by kernel_rfl) ?_
  refine st_g ent112 (fa (p)) (subC 0 rfl sub0) (by kernel_rfl) (fun zq1 => ?_)
  refine st_round (by kernel_rfl) ?_
  refine st_fn ent126 (zulen8) sub0 (by kernel_rfl) ?_
  refine st_g ent30 (fzint (1) (by assumption)) sub0 (by kernel_rfl) (fun zq3 => ?_)
  refine st_g ent59 (d0 (zq1) (zq3)) (subC 1 rfl (subC 0 rfl sub0)) (by kernel_rfl) (fun zq4 => ?_)
  refine st_b 34 (show (p.n) = false by assumption) (by kernel_rfl) ?_
  refine st_fn ent54 (f0 (zq4.fst)) (subC 0 rfl sub0) (by kernel_rfl) ?_
  refine st_i 46 .i64 (x' := 8 - 1) (Go.IntWalk.i64_in _ (by omega)) (by kernel_rfl) ?_
  refine st_i 24 .i64 (x' := 8 + 1) (Go.IntWalk.i64_in _ (by omega)) (by kernel_rfl) ?_
  refine st_round (by kernel_rfl) ?_
  refine st_fn ent127 (zumade (0) (0) (0) (0) (0) (0) (0) (x)) sub0 (by kernel_rfl) ?_
  refine st_fn ent50 (r) sub0 (by kernel_rfl) ?_
  exact st_ret Tryz.func67 (by kernel_rfl)
theorem zulay8p_o (p : ZQ) (x : Int) (hx : W128 x) (h0 : 0 ≤ x) (g : ¬ I64 x) : Fn 67 [(p, x)] [zv p, .int .i64 8] (.tuple #[du0, .int .i64 4]) := by
  have hy : Bits 900 x := hx.bits.mono (by decide)
  have y0 : 0 ≤ x := by omega
  have bL4 : Bits 900 86400000000000 := Bits.mono (show W128 86400000000000 by unfold W128; omega).bits (by decide)
  have bL5 : Bits 900 3600000000000 := Bits.mono (show W128 3600000000000 by unfold W128; omega).bits (by decide)
  have bL6 : Bits 900 60000000000 := Bits.mono (show W128 60000000000 by unfold W128; omega).bits (by decide)
  have bL7 : Bits 900 1000000000 := Bits.mono (show W128 1000000000 by unfold W128; omega).bits (by decide)
  have bL8 : Bits 900 1 := Bits.mono (show W128 1 by unfold W128; omega).bits (by decide)
  have j1 : I64 86400000000000 := by unfold I64; omega
  have j2 : I64 3600000000000 := by unfold I64; omega
  have j3 : I64 60000000000 := by unfold I64; omega
  have j4 : I64 1000000000 := by unfold I64; omega
  have j5 : I64 1 := by unfold I64; omega
  have j0 : I64 0 := by unfold I64; omega
  have fa : ∀ p : ZQ, FnZ 112 [(p, x)] [zv p] zv x := fun p => by
    have t := fzabs p x (hx.bits.fit (by decide))
    rwa [show ((x.natAbs : Nat) : Int) = x by omega] at t
  have d0 : ∀ p q : ZQ, FnZZ 59 [(p, x), (q, 1)] [zv p, zv q] (fun q => .tuple #[zv q.1, zv q.2]) (x.tdiv 1) (x.tmod 1) := fun p q => zdt p q x 1 y0 hy (by omega) bL8
  have f0 : ∀ p : ZQ, Fn 54 [(p, x.tdiv 1)] [zv p] (.tuple #[.int .i64 0, .bool false]) := fun p => by
    have t := fits_n p x (hy.mono (by decide)) g
    simpa only [tdiv_1] using t
  refine fn_of Tryz.func67 rfl fun ww => ?_
  refine st_know (p := p.n = false) (fun w hw => by rw [z_neg (hw (p, x) (by simp))]; simp; omega) fun hn => ?_
  clear hy y0 g hx
  refine st_fn ent126 (zulen8) sub0 (by kernel_rfl) ?_
  refine st_g ent112 (fa (p)) (subC 0 rfl sub0) (by kernel_rfl) (fun zq1 => ?_)
  refine st_round (by kernel_rfl) ?_
  refine st_fn ent126 (zulen8) sub0 (by kernel_rfl) ?_
  refine st_g ent30 (fzint (1) (by assumption)) sub0 (by kernel_rfl) (fun zq3 => ?_)
  refine st_g ent59 (d0 (zq1) (zq3)) (subC 1 rfl (subC 0 rfl sub0)) (by kernel_rfl) (fun zq4 => ?_)
  refine st_b 34 (show (p.n) = false by assumption) (by kernel_rfl) ?_
  refine st_fn ent54 (f0 (zq4.fst)) (subC 0 rfl sub0) (by kernel_rfl) ?_
  exact st_ret Tryz.func67 (by kernel_rfl)
theorem zulay8n_y (p : ZQ) (x : Int) (hx : W128 x) (h0 : x < 0) (g : I64 x) (k : uOk 0 0 0 0 0 0 0 x) : Fn 67 [(p, x)] [zv p, .int .i64 8] (.tuple #[duv 0 0 0 0 0 0 0 x, .int .i64 0]) := by
  have hy : Bits 900 (-x) := (hx.bits.neg).mono (by decide)
  have y0 : 0 ≤ (-x) := by omega
  have bL4 : Bits 900 86400000000000 := Bits.mono (show W128 86400000000000 by unfold W128; omega).bits (by decide)
  have bL5 : Bits 900 3600000000000 := Bits.mono (show W128 3600000000000 by unfold W128; omega).bits (by decide)
  have bL6 : Bits 900 60000000000 := Bits.mono (show W128 60000000000 by unfold W128; omega).bits (by decide)
  have bL7 : Bits 900 1000000000 := Bits.mono (show W128 1000000000 by unfold W128; omega).bits (by decide)
  have bL8 : Bits 900 1 := Bits.mono (show W128 1 by unfold W128; omega).bits (by decide)
  have j1 : I64 86400000000000 := by unfold I64; omega
  have j2 : I64 3600000000000 := by unfold I64; omega
  have j3 : I64 60000000000 := by unfold I64; omega
  have j4 : I64 1000000000 := by unfold I64; omega
  have j5 : I64 1 := by unfold I64; omega
  have j0 : I64 0 := by unfold I64; omega
  have fa : ∀ p : ZQ, FnZ 112 [(p, x)] [zv p] zv (-x) := fun p => by
    have t := fzabs p x (hx.bits.fit (by decide))
    rwa [show ((x.natAbs : Nat) : Int) = -x by omega] at t
  have d0 : ∀ p q : ZQ, FnZZ 59 [(p, (-x)), (q, 1)] [zv p, zv q] (fun q => .tuple #[zv q.1, zv q.2]) ((-x).tdiv 1) ((-x).tmod 1) := fun p q => zdt p q (-x) 1 y0 hy (by omega) bL8
  have n0 : ∀ p : ZQ, FnZ 95 [(p, (-x).tdiv 1)] [zv p] zv x := fun p => by
    have t := zng p ((-x).tdiv 1) (tdvb (-x) 1 y0 hy (by omega))
    rwa [show -((-x).tdiv 1) = x by rw [Int.neg_tdiv, Int.neg_neg, tdiv_1]] at t
  have f0 : ∀ p : ZQ, Fn 54 [(p, x)] [zv p] (.tuple #[.int .i64 x, .bool true]) := fun p => by
    have t := fits_f p x (g.w.bits.mono (by decide)) g
    exact t
  have r := zuright_y 0 0 0 0 0 0 0 x ⟨j0, j0, j0, j0, j0, j0, j0, g⟩ k
  refine fn_of Tryz.func67 rfl fun ww => ?_
  refine st_know (p := p.n = true) (fun w hw => by rw [z_neg (hw (p, x) (by simp))]; simp; omega) fun hn => ?_
  clear hy y0 g hx k
  refine st_fn ent126 (zulen8) sub0 (by kernel_rfl) ?_
  refine st_g ent112 (fa (p)) (subC 0 rfl sub0) (by kernel_rfl) (fun zq1 => ?_)
  refine st_round (by kernel_rfl) ?_
  refine st_fn ent126 (zulen8) sub0 (by kernel_rfl) ?_
  refine st_g ent30 (fzint (1) (by assumption)) sub0 (by kernel_rfl) (fun zq3 => ?_)
  refine st_g ent59 (d0 (zq1) (zq3)) (subC 1 rfl (subC 0 rfl sub0)) (by kernel_rfl) (fun zq4 => ?_)
  refine st_b 34 (show (p.n) = true by assumption) (by kernel_rfl) ?_
  refine st_g ent95 (n0 (zq4.fst)) (subC 0 rfl sub0) (by kernel_rfl) (fun zq5 => ?_)
  refine st_fn ent54 (f0 (zq5)) (subC 0 rfl sub0) (by kernel_rfl) ?_
  refine st_i 46 .i64 (x' := 8 - 1) (Go.IntWalk.i64_in _ (by omega)) (by kernel_rfl) ?_
  refine st_i 24 .i64 (x' := 8 + 1) (Go.IntWalk.i64_in _ (by omega)) (by kernel_rfl) ?_
  refine st_round (by kernel_rfl) ?_
  refine st_fn ent127 (zumade (0) (0) (0) (0) (0) (0) (0) (x)) sub0 (by kernel_rfl) ?_
  refine st_fn ent50 (r) sub0 (by kernel_rfl) ?_
  exact st_ret Tryz.func67 (by kernel_rfl)
theorem zulay8n_r (p : ZQ) (x : Int) (hx : W128 x) (h0 : x < 0) (g : I64 x) (k : ¬ uOk 0 0 0 0 0 0 0 x) : Fn 67 [(p, x)] [zv p, .int .i64 8] (.tuple #[du0, .int .i64 4]) := by
  have hy : Bits 900 (-x) := (hx.bits.neg).mono (by decide)
  have y0 : 0 ≤ (-x) := by omega
  have bL4 : Bits 900 86400000000000 := Bits.mono (show W128 86400000000000 by unfold W128; omega).bits (by decide)
  have bL5 : Bits 900 3600000000000 := Bits.mono (show W128 3600000000000 by unfold W128; omega).bits (by decide)
  have bL6 : Bits 900 60000000000 := Bits.mono (show W128 60000000000 by unfold W128; omega).bits (by decide)
  have bL7 : Bits 900 1000000000 := Bits.mono (show W128 1000000000 by unfold W128; omega).bits (by decide)
  have bL8 : Bits 900 1 := Bits.mono (show W128 1 by unfold W128; omega).bits (by decide)
  have j1 : I64 86400000000000 := by unfold I64; omega
  have j2 : I64 3600000000000 := by unfold I64; omega
  have j3 : I64 60000000000 := by unfold I64; omega
  have j4 : I64 1000000000 := by unfold I64; omega
  have j5 : I64 1 := by unfold I64; omega
  have j0 : I64 0 := by unfold I64; omega
  have fa : ∀ p : ZQ, FnZ 112 [(p, x)] [zv p] zv (-x) := fun p => by
    have t := fzabs p x (hx.bits.fit (by decide))
    rwa [show ((x.natAbs : Nat) : Int) = -x by omega] at t
  have d0 : ∀ p q : ZQ, FnZZ 59 [(p, (-x)), (q, 1)] [zv p, zv q] (fun q => .tuple #[zv q.1, zv q.2]) ((-x).tdiv 1) ((-x).tmod 1) := fun p q => zdt p q (-x) 1 y0 hy (by omega) bL8
  have n0 : ∀ p : ZQ, FnZ 95 [(p, (-x).tdiv 1)] [zv p] zv x := fun p => by
    have t := zng p ((-x).tdiv 1) (tdvb (-x) 1 y0 hy (by omega))
    rwa [show -((-x).tdiv 1) = x by rw [Int.neg_tdiv, Int.neg_neg, tdiv_1]] at t
  have f0 : ∀ p : ZQ, Fn 54 [(p, x)] [zv p] (.tuple #[.int .i64 x, .bool true]) := fun p => by
    have t := fits_f p x (g.w.bits.mono (by decide)) g
    exact t
  have r := zuright_f 0 0 0 0 0 0 0 x ⟨j0, j0, j0, j0, j0, j0, j0, g⟩ k
  refine fn_of Tryz.func67 rfl fun ww => ?_
  refine st_know (p := p.n = true) (fun w hw => by rw [z_neg (hw (p, x) (by simp))]; simp; omega) fun hn => ?_
  clear hy y0 g hx k
  refine st_fn ent126 (zulen8) sub0 (by kernel_rfl) ?_
  refine st_g ent112 (fa (p)) (subC 0 rfl sub0) (by kernel_rfl) (fun zq1 => ?_)
  refine st_round (by kernel_rfl) ?_
  refine st_fn ent126 (zulen8) sub0 (by kernel_rfl) ?_
  refine st_g ent30 (fzint (1) (by assumption)) sub0 (by kernel_rfl) (fun zq3 => ?_)
  refine st_g ent59 (d0 (zq1) (zq3)) (subC 1 rfl (subC 0 rfl sub0)) (by kernel_rfl) (fun zq4 => ?_)
  refine st_b 34 (show (p.n) = true by assumption) (by kernel_rfl) ?_
  refine st_g ent95 (n0 (zq4.fst)) (subC 0 rfl sub0) (by kernel_rfl) (fun zq5 => ?_)
  refine st_fn ent54 (f0 (zq5)) (subC 0 rfl sub0) (by kernel_rfl) ?_
  refine st_i 46 .i64 (x' := 8 - 1) (Go.IntWalk.i64_in _ (by omega)) (by kernel_rfl) ?_
  refine st_i 24 .i64 (x' := 8 + 1) (Go.IntWalk.i64_in _ (by omega)) (by kernel_rfl) ?_
  refine st_round (by kernel_rfl) ?_
  refine st_fn ent127 (zumade (0) (0) (0) (0) (0) (0) (0) (x)) sub0 (by kernel_rfl) ?_
  refine st_fn ent50 (r) sub0 (by kernel_rfl) ?_
  exact st_ret Tryz.func67 (by kernel_rfl)
theorem zulay8n_o (p : ZQ) (x : Int) (hx : W128 x) (h0 : x < 0) (g : ¬ I64 x) : Fn 67 [(p, x)] [zv p, .int .i64 8] (.tuple #[du0, .int .i64 4]) := by
  have hy : Bits 900 (-x) := (hx.bits.neg).mono (by decide)
  have y0 : 0 ≤ (-x) := by omega
  have bL4 : Bits 900 86400000000000 := Bits.mono (show W128 86400000000000 by unfold W128; omega).bits (by decide)
  have bL5 : Bits 900 3600000000000 := Bits.mono (show W128 3600000000000 by unfold W128; omega).bits (by decide)
  have bL6 : Bits 900 60000000000 := Bits.mono (show W128 60000000000 by unfold W128; omega).bits (by decide)
  have bL7 : Bits 900 1000000000 := Bits.mono (show W128 1000000000 by unfold W128; omega).bits (by decide)
  have bL8 : Bits 900 1 := Bits.mono (show W128 1 by unfold W128; omega).bits (by decide)
  have j1 : I64 86400000000000 := by unfold I64; omega
  have j2 : I64 3600000000000 := by unfold I64; omega
  have j3 : I64 60000000000 := by unfold I64; omega
  have j4 : I64 1000000000 := by unfold I64; omega
  have j5 : I64 1 := by unfold I64; omega
  have j0 : I64 0 := by unfold I64; omega
  have fa : ∀ p : ZQ, FnZ 112 [(p, x)] [zv p] zv (-x) := fun p => by
    have t := fzabs p x (hx.bits.fit (by decide))
    rwa [show ((x.natAbs : Nat) : Int) = -x by omega] at t
  have d0 : ∀ p q : ZQ, FnZZ 59 [(p, (-x)), (q, 1)] [zv p, zv q] (fun q => .tuple #[zv q.1, zv q.2]) ((-x).tdiv 1) ((-x).tmod 1) := fun p q => zdt p q (-x) 1 y0 hy (by omega) bL8
  have n0 : ∀ p : ZQ, FnZ 95 [(p, (-x).tdiv 1)] [zv p] zv x := fun p => by
    have t := zng p ((-x).tdiv 1) (tdvb (-x) 1 y0 hy (by omega))
    rwa [show -((-x).tdiv 1) = x by rw [Int.neg_tdiv, Int.neg_neg, tdiv_1]] at t
  have f0 : ∀ p : ZQ, Fn 54 [(p, x)] [zv p] (.tuple #[.int .i64 0, .bool false]) := fun p => by
    have t := fits_n p x (by rw [show x = -((-x).tdiv 1) by rw [Int.neg_tdiv, Int.neg_neg, tdiv_1]]; exact ((tdvb (-x) 1 y0 hy (by omega)).neg).mono (by decide)) g
    exact t
  refine fn_of Tryz.func67 rfl fun ww => ?_
  refine st_know (p := p.n = true) (fun w hw => by rw [z_neg (hw (p, x) (by simp))]; simp; omega) fun hn => ?_
  clear hy y0 g hx
  refine st_fn ent126 (zulen8) sub0 (by kernel_rfl) ?_
  refine st_g ent112 (fa (p)) (subC 0 rfl sub0) (by kernel_rfl) (fun zq1 => ?_)
  refine st_round (by kernel_rfl) ?_
  refine st_fn ent126 (zulen8) sub0 (by kernel_rfl) ?_
  refine st_g ent30 (fzint (1) (by assumption)) sub0 (by kernel_rfl) (fun zq3 => ?_)
  refine st_g ent59 (d0 (zq1) (zq3)) (subC 1 rfl (subC 0 rfl sub0)) (by kernel_rfl) (fun zq4 => ?_)
  refine st_b 34 (show (p.n) = true by assumption) (by kernel_rfl) ?_
  refine st_g ent95 (n0 (zq4.fst)) (subC 0 rfl sub0) (by kernel_rfl) (fun zq5 => ?_)
  refine st_fn ent54 (f0 (zq5)) (subC 0 rfl sub0) (by kernel_rfl) ?_
  exact st_ret Tryz.func67 (by kernel_rfl)
end Go.Proofs.YtccllfegnijpiaaGreat
end
section
/-
  Durations: a total laid out; the other sign; sums; increments; rounding.
-/
set_option linter.unusedVariables false
set_option linter.unusedSimpArgs false
set_option maxRecDepth 100000
namespace Go.Proofs.YtccllfegnijpiaaGreat
open Go Go.RowKit Go.Ev

section
variable (u x : Int)
abbrev lav (u x : Int) : Value := .tuple #[duv 0 0 0 (l4 u x) (l5 u x) (l6 u x) (l7 u x) (l8 u x), .int .i64 0]
abbrev la4 : Value := .tuple #[du0, .int .i64 4]
theorem ulay_y (hx : W128 x) (k : layOk u x) : Fn 63 [] [wv x, .int .i64 u] (lav u x) := by
  have r := lay_ok k
  obtain ⟨⟨k1, k2⟩, k3, k4⟩ := k
  have r := r.1
  rcases units k1 k2 with rfl | rfl | rfl | rfl | rfl <;> simp only [l4, l5, l6, l7, l8, ulen, lav, Int.reduceEq, Int.reduceLE, if_true, if_false, tdiv_1] at r k4 ⊢
  · exact ulay4_y x hx k4 r
  · exact ulay5_y x hx k4 r
  · exact ulay6_y x hx k4 r
  · exact ulay7_y x hx k4 r
  · exact ulay8_y x hx k4 r
theorem lay_not {u x : Int} (k1 : 4 ≤ u) (k2 : u ≤ 8) (k : ¬ layOk u x) (g : I64 (x.tdiv (ulen u))) : ¬ uOk 0 0 0 (l4 u x) (l5 u x) (l6 u x) (l7 u x) (l8 u x) := fun q => by
  have t := (lay_tot (x := x) k1 k2).1
  have q2 := q.2.2
  rw [t] at q2
  exact k ⟨⟨k1, k2⟩, q2, g⟩
theorem ulay_n (hx : W128 x) (k1 : 4 ≤ u) (k2 : u ≤ 8) (k : ¬ layOk u x) : Fn 63 [] [wv x, .int .i64 u] la4 := by
  by_cases g : I64 (x.tdiv (ulen u))
  · have r := lay_not k1 k2 k g
    rcases units k1 k2 with rfl | rfl | rfl | rfl | rfl <;> simp only [l4, l5, l6, l7, l8, ulen, Int.reduceEq, Int.reduceLE, if_true, if_false, tdiv_1] at r g
    · exact ulay4_r x hx g r
    · exact ulay5_r x hx g r
    · exact ulay6_r x hx g r
    · exact ulay7_r x hx g r
    · exact ulay8_r x hx g r
  · rcases units k1 k2 with rfl | rfl | rfl | rfl | rfl <;> simp only [ulen, Int.reduceEq, if_true, if_false, tdiv_1] at g
    · exact ulay4_o x hx g
    · exact ulay5_o x hx g
    · exact ulay6_o x hx g
    · exact ulay7_o x hx g
    · exact ulay8_o x hx g
variable (p : ZQ)
theorem zulay_y (hx : W128 x) (k : layOk u x) : Fn 67 [(p, x)] [zv p, .int .i64 u] (lav u x) := by
  have r := lay_ok k
  obtain ⟨⟨k1, k2⟩, k3, k4⟩ := k
  have r := r.1
  by_cases h0 : 0 ≤ x
  · rcases units k1 k2 with rfl | rfl | rfl | rfl | rfl <;> simp only [l4, l5, l6, l7, l8, ulen, lav, Int.reduceEq, Int.reduceLE, if_true, if_false, tdiv_1] at r k4 ⊢
    · exact zulay4p_y p x hx h0 k4 r
    · exact zulay5p_y p x hx h0 k4 r
    · exact zulay6p_y p x hx h0 k4 r
    · exact zulay7p_y p x hx h0 k4 r
    · exact zulay8p_y p x hx h0 k4 r
  · have h0 : x < 0 := by omega
    rcases units k1 k2 with rfl | rfl | rfl | rfl | rfl <;> simp only [l4, l5, l6, l7, l8, ulen, lav, Int.reduceEq, Int.reduceLE, if_true, if_false, tdiv_1] at r k4 ⊢
    · exact zulay4n_y p x hx h0 k4 r
    · exact zulay5n_y p x hx h0 k4 r
    · exact zulay6n_y p x hx h0 k4 r
    · exact zulay7n_y p x hx h0 k4 r
    · exact zulay8n_y p x hx h0 k4 r
theorem zulay_n (hx : W128 x) (k1 : 4 ≤ u) (k2 : u ≤ 8) (k : ¬ layOk u x) : Fn 67 [(p, x)] [zv p, .int .i64 u] la4 := by
  by_cases g : I64 (x.tdiv (ulen u))
  · have r := lay_not k1 k2 k g
    by_cases h0 : 0 ≤ x
    · rcases units k1 k2 with rfl | rfl | rfl | rfl | rfl <;> simp only [l4, l5, l6, l7, l8, ulen, Int.reduceEq, Int.reduceLE, if_true, if_false, tdiv_1] at r g
      · exact zulay4p_r p x hx h0 g r
      · exact zulay5p_r p x hx h0 g r
      · exact zulay6p_r p x hx h0 g r
      · exact zulay7p_r p x hx h0 g r
      · exact zulay8p_r p x hx h0 g r
    · have h0 : x < 0 := by omega
      rcases units k1 k2 with rfl | rfl | rfl | rfl | rfl <;> simp only [l4, l5, l6, l7, l8, ulen, Int.reduceEq, Int.reduceLE, if_true, if_false, tdiv_1] at r g
      · exact zulay4n_r p x hx h0 g r
      · exact zulay5n_r p x hx h0 g r
      · exact zulay6n_r p x hx h0 g r
      · exact zulay7n_r p x hx h0 g r
      · exact zulay8n_r p x hx h0 g r
  · by_cases h0 : 0 ≤ x
    · rcases units k1 k2 with rfl | rfl | rfl | rfl | rfl <;> simp only [ulen, Int.reduceEq, if_true, if_false, tdiv_1] at g
      · exact zulay4p_o p x hx h0 g
      · exact zulay5p_o p x hx h0 g
      · exact zulay6p_o p x hx h0 g
      · exact zulay7p_o p x hx h0 g
      · exact zulay8p_o p x hx h0 g
    · have h0 : x < 0 := by omega
      rcases units k1 k2 with rfl | rfl | rfl | rfl | rfl <;> simp only [ulen, Int.reduceEq, if_true, if_false, tdiv_1] at g
      · exact zulay4n_o p x hx h0 g
      · exact zulay5n_o p x hx h0 g
      · exact zulay6n_o p x hx h0 g
      · exact zulay7n_o p x hx h0 g
      · exact zulay8n_o p x hx h0 g
end
end Go.Proofs.YtccllfegnijpiaaGreat
end
section
/-
  Durations: increments, sums, rounding; the laws DurationUnits, DurationLays, DurationTotals.
-/
set_option linter.unusedVariables false
set_option linter.unusedSimpArgs false
set_option maxRecDepth 100000
namespace Go.Proofs.YtccllfegnijpiaaGreat
open Go Go.RowKit Go.Ev

section
variable (u i : Int)
theorem i64_0 : I64 0 := by unfold I64; omega
theorem I64.w' {x : Int} (h : I64 x) : W128 x := h.w
end
end Go.Proofs.YtccllfegnijpiaaGreat
end
section
/-
  Durations put to days and to date-times: what the program answers of layer 19.
-/
set_option linter.unusedVariables false
set_option linter.unusedSimpArgs false
set_option maxRecDepth 100000
namespace Go.Proofs.YtccllfegnijpiaaGreat
open Go Go.RowKit Go.Ev

section
variable (y m d n T : Int)
theorem creg_cy (m1 : 1 ≤ m) (m2 : m ≤ 12) (d1 : 1 ≤ d) (k : dOk y m (cD y m d)) : Fn 109 [] [.int .i64 y, .int .i64 m, .int .i64 d, .int .i64 1] (.tuple #[dv y m (cD y m d), .int .i64 0]) := by
  have c1 := cmonth y m
  obtain ⟨l, hl⟩ : ∃ l, l = mlen y m := ⟨_, rfl⟩
  have hc : cD y m d = if l < d then l else d := by rw [hl]; rfl
  rw [hc] at k ⊢
  rw [← hl] at c1
  by_cases q : l < d
  · rw [if_pos q] at k ⊢
    refine fn_of Tryz.func109 rfl fun ww => ?_
    refine st_i 16 IntKind.i64 (x := if 1 > m then 1 else m) (if_neg (by omega)) (by kernel_rfl) ?_
    refine st_i 17 IntKind.i64 (x := if 12 < m then 12 else m) (if_neg (by omega)) (by kernel_rfl) ?_
    refine st_i 19 IntKind.i64 (x := if 1 > d then 1 else d) (if_neg (by omega)) (by kernel_rfl) ?_
    refine st_fn ent121 (c1) sub0 (by kernel_rfl) ?_
    refine st_i 23 IntKind.i64 (x := if l < d then l else d) (if_pos q) (by kernel_rfl) ?_
    refine st_fn ent42 (cright5_yes (y) (m) (l) (by assumption)) sub0 (by kernel_rfl) ?_
    exact st_ret Tryz.func109 (by kernel_rfl)
  · rw [if_neg q] at k ⊢
    refine fn_of Tryz.func109 rfl fun ww => ?_
    refine st_i 16 IntKind.i64 (x := if 1 > m then 1 else m) (if_neg (by omega)) (by kernel_rfl) ?_
    refine st_i 17 IntKind.i64 (x := if 12 < m then 12 else m) (if_neg (by omega)) (by kernel_rfl) ?_
    refine st_i 19 IntKind.i64 (x := if 1 > d then 1 else d) (if_neg (by omega)) (by kernel_rfl) ?_
    refine st_fn ent121 (c1) sub0 (by kernel_rfl) ?_
    refine st_i 23 IntKind.i64 (x := if l < d then l else d) (if_neg q) (by kernel_rfl) ?_
    refine st_fn ent42 (cright5_yes (y) (m) (d) (by assumption)) sub0 (by kernel_rfl) ?_
    exact st_ret Tryz.func109 (by kernel_rfl)
theorem creg_ry (m1 : 1 ≤ m) (m2 : m ≤ 12) (d1 : 1 ≤ d) (q : d ≤ mlen y m) (k : dOk y m d) : Fn 109 [] [.int .i64 y, .int .i64 m, .int .i64 d, .int .i64 2] (.tuple #[dv y m d, .int .i64 0]) := by
  refine fn_of Tryz.func109 rfl fun ww => ?_
  refine st_b 27 (show (decide (d < 1)) = false by exact decide_eq_false (by omega)) (by kernel_rfl) ?_
  refine st_fn ent121 (cmonth (y) (m)) sub0 (by kernel_rfl) ?_
  refine st_b 33 (show (decide (d > mlen y m)) = false by exact decide_eq_false (by omega)) (by kernel_rfl) ?_
  refine st_fn ent42 (cright5_yes (y) (m) (d) (by assumption)) sub0 (by kernel_rfl) ?_
  exact st_ret Tryz.func109 (by kernel_rfl)
variable (o k A B C e : Int)
theorem cknown_y (h : o = 1 ∨ o = 2) : Fn 44 [] [.int .i64 o] (.bool true) := by
  rcases h with rfl | rfl
  · refine fn_of Tryz.func44 rfl fun ww => ?_
    exact st_ret Tryz.func44 (by kernel_rfl)
  · refine fn_of Tryz.func44 rfl fun ww => ?_
    exact st_ret Tryz.func44 (by kernel_rfl)
theorem cmov_v (Y M D : Int) (hl : Fn 108 [] [dv y m d, .int .i64 k] (dv (lY T) (lM T) d)) (hr : Fn 109 [] [.int .i64 (lY T), .int .i64 (lM T), .int .i64 d, .int .i64 o] (.tuple #[dv Y M D, .int .i64 0])) (ha : Fn 66 [] [dv Y M D, .int .i64 n] (.tuple #[dv A B C, .int .i64 e])) :
    Fn 48 [] [dv y m d, .int .i64 k, .int .i64 n, .int .i64 o] (.tuple #[dv A B C, .int .i64 e]) := by
  refine fn_of Tryz.func48 rfl fun ww => ?_
  refine st_fn ent108 (hl) sub0 (by kernel_rfl) ?_
  refine st_fn ent109 (hr) sub0 (by kernel_rfl) ?_
  refine st_fn ent66 (ha) sub0 (by kernel_rfl) ?_
  exact st_ret Tryz.func48 (by kernel_rfl)
end
theorem uOk_bd {a b c d h mi s n : Int} (k : uOk a b c d h mi s n) : (-4294967295 ≤ a ∧ a ≤ 4294967295) ∧ (-4294967295 ≤ b ∧ b ≤ 4294967295) ∧ (-4294967295 ≤ c ∧ c ≤ 4294967295) ∧ (-104249991400 ≤ d ∧ d ≤ 104249991400) ∧ (-9007199254740992000000000 < dtot 0 h mi s n ∧ dtot 0 h mi s n < 9007199254740992000000000) := by
  unfold uOk pos8 neg8 cnt1 dtot LIM at k; unfold dtot; omega
theorem uOk_part {a b c d h mi s n : Int} (k : uOk a b c d h mi s n) : uOk 0 0 0 0 h mi s n := by
  unfold uOk pos8 neg8 cnt1 dtot LIM at *; omega
theorem all64_part {a b c d h mi s n : Int} (i : all64 a b c d h mi s n) : all64 0 0 0 0 h mi s n := ⟨i64_0, i64_0, i64_0, i64_0, i.2.2.2.2.1, i.2.2.2.2.2.1, i.2.2.2.2.2.2.1, i.2.2.2.2.2.2.2⟩
section
variable (a b c d h mi s n : Int)
theorem cpart (i : all64 a b c d h mi s n) (k : uOk a b c d h mi s n) : Fn 46 [] [duv a b c d h mi s n] (wv (dtot 0 h mi s n)) := by
  have t := utotal_y 0 0 0 0 h mi s n (all64_part i) (uOk_part k)
  clear i k
  refine fn_of Tryz.func46 rfl fun ww => ?_
  refine st_fn ent107 (t) sub0 (by kernel_rfl) ?_
  exact st_ret Tryz.func46 (by kernel_rfl)
variable (Y M D o A B C e : Int)
theorem cadt_v (i : all64 a b c d h mi s n) (k1 : dOk Y M D) (k2 : uOk a b c d h mi s n) (k3 : o = 1 ∨ o = 2) (q : Int) (hq : (dtot 0 h mi s n).tdiv 86400000000000 = q) (hm : Fn 48 [] [dv Y M D, .int .i64 (12 * a + b), .int .i64 (d + 7 * c + q), .int .i64 o] (.tuple #[dv A B C, .int .i64 e])) :
    Fn 12 [] [dv Y M D, duv a b c d h mi s n, .int .i64 o] (.tuple #[dv A B C, .int .i64 e]) := by
  have r1 := cright5_yes Y M D k1
  have r2 := uright_y a b c d h mi s n i k2
  have r3 := cknown_y o k3
  have r4 := cpart a b c d h mi s n i k2
  obtain ⟨b1, b2, b3, b4, b5⟩ := uOk_bd k2
  have tt := td (dtot 0 h mi s n) 86400000000000 (by omega)
  have qb : -104249991400 ≤ q ∧ q ≤ 104249991400 := by rw [← hq]; omega
  have iq : I64 q := by unfold I64; omega
  have r5 := dtrunc_yes (dtot 0 h mi s n) 86400000000000 (by unfold W128; omega) (by unfold W128; omega) (by omega) (by rw [hq]; exact iq.w)
  rw [hq] at r5
  have i8 : I64 86400000000000 := by unfold I64; omega
  clear i k1 k2 k3 hq tt b5
  refine fn_of Tryz.func12 rfl fun ww => ?_
  refine st_fn ent42 (r1) sub0 (by kernel_rfl) ?_
  refine st_fn ent43 (r2) sub0 (by kernel_rfl) ?_
  refine st_fn ent44 (r3) sub0 (by kernel_rfl) ?_
  refine st_fn ent46 (r4) sub0 (by kernel_rfl) ?_
  refine st_fn ent40 (wof_fn (86400000000000) (by assumption)) sub0 (by kernel_rfl) ?_
  refine st_fn ent45 (r5) sub0 (by kernel_rfl) ?_
  refine st_fn ent47 (wint_f (q) (by assumption)) sub0 (by kernel_rfl) ?_
  refine st_i 43 .i64 (x' := 12 * a) (Go.IntWalk.i64_in _ (by omega)) (by kernel_rfl) ?_
  refine st_i 46 .i64 (x' := 12 * a + b) (Go.IntWalk.i64_in _ (by omega)) (by kernel_rfl) ?_
  refine st_i 51 .i64 (x' := 7 * c) (Go.IntWalk.i64_in _ (by omega)) (by kernel_rfl) ?_
  refine st_i 52 .i64 (x' := d + 7 * c) (Go.IntWalk.i64_in _ (by omega)) (by kernel_rfl) ?_
  refine st_i 54 .i64 (x' := d + 7 * c + q) (Go.IntWalk.i64_in _ (by omega)) (by kernel_rfl) ?_
  refine st_fn ent48 (hm) sub0 (by kernel_rfl) ?_
  exact st_ret Tryz.func12 (by kernel_rfl)
end
/-! date-times -/
theorem fcadd (h m s n w Q R : Int) (k : tOk h m s n) (hb : -9007199254740992000000000 < w ∧ w < 9007199254740992000000000) (hQ : (tnan h m s n + w).fdiv 86400000000000 = Q) (hR : (tnan h m s n + w).fmod 86400000000000 = R) :
    Fn 58 [] [tv h m s n, wv w] (.tuple #[tv (tH R) (tM R) (tS R) (tN R), .int .i64 Q, .int .i64 0]) := by
  have hw : W128 w := by unfold W128; omega
  have b := tnan_bd k
  have db := dby_f w 86400000000000 hw (by omega) (by unfold I64; omega)
  have e1 : w.fdiv 86400000000000 * 86400000000000 + w.fmod 86400000000000 = w ∧ 0 ≤ w.fmod 86400000000000 ∧ w.fmod 86400000000000 < 86400000000000 := x_split w
  have e2 : Q * 86400000000000 + R = tnan h m s n + w ∧ 0 ≤ R ∧ R < 86400000000000 := by rw [← hQ, ← hR]; exact x_split _
  generalize w.fdiv 86400000000000 = q at *
  generalize w.fmod 86400000000000 = r at *
  have nn := fcnanos_yes h m s n k
  generalize tnan h m s n = t at *
  clear hQ hR k
  obtain ⟨e1, e3, e4⟩ := e1
  obtain ⟨e2, e5, e6⟩ := e2
  by_cases c : t + r < 86400000000000
  · obtain rfl : Q = q := by omega
    obtain rfl : R = t + r := by omega
    have iq : I64 Q := by unfold I64; omega
    refine fn_of Tryz.func58 rfl fun ww => ?_
    refine st_fn ent64 (nn) sub0 (by kernel_rfl) ?_
    refine st_fn ent78 (db) sub0 (by kernel_rfl) ?_
    refine st_i 31 .i64 (x' := t + r) (Go.IntWalk.i64_in _ (by omega)) (by kernel_rfl) ?_
    refine st_b 33 (show (decide (t + r ≥ 86400000000000)) = false by exact decide_eq_false (by omega)) (by kernel_rfl) ?_
    refine st_fn ent47 (wint_f (Q) (by assumption)) sub0 (by kernel_rfl) ?_
    refine st_fn ent80 (fcof_yes (t + r) (by assumption) (by assumption)) sub0 (by kernel_rfl) ?_
    exact st_ret Tryz.func58 (by kernel_rfl)
  · obtain rfl : Q = q + 1 := by omega
    obtain rfl : R = t + r - 86400000000000 := by omega
    have iq : I64 (q + 1) := by unfold I64; omega
    have w1 : W128 q := by unfold W128; omega
    have w2 : W128 (q + 1) := iq.w
    have i1 : I64 1 := by unfold I64; omega
    refine fn_of Tryz.func58 rfl fun ww => ?_
    refine st_fn ent64 (nn) sub0 (by kernel_rfl) ?_
    refine st_fn ent78 (db) sub0 (by kernel_rfl) ?_
    refine st_i 31 .i64 (x' := t + r) (Go.IntWalk.i64_in _ (by omega)) (by kernel_rfl) ?_
    refine st_b 33 (show (decide (t + r ≥ 86400000000000)) = true by exact decide_eq_true (by omega)) (by kernel_rfl) ?_
    refine st_i 35 .i64 (x' := t + r - 86400000000000) (Go.IntWalk.i64_in _ (by omega)) (by kernel_rfl) ?_
    refine st_fn ent40 (wof_fn (1) (by assumption)) sub0 (by kernel_rfl) ?_
    refine st_fn ent21 (wadd_yes (q) (1) (by assumption) (by (unfold W128; omega)) (by assumption)) sub0 (by kernel_rfl) ?_
    refine st_fn ent47 (wint_f (q + 1) (by assumption)) sub0 (by kernel_rfl) ?_
    refine st_fn ent80 (fcof_yes (t + r - 86400000000000) (by assumption) (by assumption)) sub0 (by kernel_rfl) ?_
    exact st_ret Tryz.func58 (by kernel_rfl)
section
variable (y mo D h m s n a b c d hh mi ss nn o A B C e : Int)
variable (Q R : Int)
theorem cad_y (i : all64 a b c d hh mi ss nn) (k1 : pOk y mo D h m s n) (k2 : uOk a b c d hh mi ss nn) (k3 : o = 1 ∨ o = 2) (hQ : (tnan h m s n + dtot 0 hh mi ss nn).fdiv 86400000000000 = Q) (hR : (tnan h m s n + dtot 0 hh mi ss nn).fmod 86400000000000 = R) (qb : -200000000000 ≤ Q ∧ Q ≤ 200000000000)
    (hm : Fn 48 [] [dv y mo D, .int .i64 (12 * a + b), .int .i64 (d + 7 * c + Q), .int .i64 o] (.tuple #[dv A B C, .int .i64 0])) (hp : pOk A B C (tH R) (tM R) (tS R) (tN R)) : Fn 15 [] [ptv y mo D h m s n, duv a b c d hh mi ss nn, .int .i64 o] (.tuple #[ptv A B C (tH R) (tM R) (tS R) (tN R), .int .i64 0]) := by
  have r1 := pright_yes y mo D h m s n k1
  have r2 := uright_y a b c d hh mi ss nn i k2
  have r3 := cknown_y o k3
  have r4 := cpart a b c d hh mi ss nn i k2
  obtain ⟨b1, b2, b3, b4, b5⟩ := uOk_bd k2
  have r5 := fcadd h m s n _ Q R k1.2.1 b5 hQ hR
  have r6 := pright_yes _ _ _ _ _ _ _ hp
  clear i k1 k2 k3 hQ hR b5 hp
  refine fn_of Tryz.func15 rfl fun ww => ?_
  refine st_fn ent57 (r1) sub0 (by kernel_rfl) ?_
  refine st_fn ent43 (r2) sub0 (by kernel_rfl) ?_
  refine st_fn ent44 (r3) sub0 (by kernel_rfl) ?_
  refine st_fn ent46 (r4) sub0 (by kernel_rfl) ?_
  refine st_fn ent58 (r5) sub0 (by kernel_rfl) ?_
  refine st_i 45 .i64 (x' := 12 * a) (Go.IntWalk.i64_in _ (by omega)) (by kernel_rfl) ?_
  refine st_i 48 .i64 (x' := 12 * a + b) (Go.IntWalk.i64_in _ (by omega)) (by kernel_rfl) ?_
  refine st_i 53 .i64 (x' := 7 * c) (Go.IntWalk.i64_in _ (by omega)) (by kernel_rfl) ?_
  refine st_i 54 .i64 (x' := d + 7 * c) (Go.IntWalk.i64_in _ (by omega)) (by kernel_rfl) ?_
  refine st_i 56 .i64 (x' := d + 7 * c + Q) (Go.IntWalk.i64_in _ (by omega)) (by kernel_rfl) ?_
  refine st_fn ent48 (hm) sub0 (by kernel_rfl) ?_
  refine st_fn ent57 (r6) sub0 (by kernel_rfl) ?_
  exact st_ret Tryz.func15 (by kernel_rfl)
end
end Go.Proofs.YtccllfegnijpiaaGreat
end
section
/-
  What lies between two days, by every unit; what every right program answers of layer 19; the law CalendarUntils.
-/
set_option linter.unusedVariables false
set_option linter.unusedSimpArgs false
set_option maxRecDepth 100000
namespace Go.Proofs.YtccllfegnijpiaaGreat
open Go Go.RowKit Go.Ev

section
variable (L y m d y' m' d' : Int)
abbrev uvd : Value := .tuple #[duv (uY L y m d y' m' d') (uMo L y m d y' m' d') (uW L y m d y' m' d') (uD L y m d y' m' d') 0 0 0 0, .int .i64 0]
theorem duv_eq {a b c d a' b' c' d' : Int} (e1 : a = a') (e2 : b = b') (e3 : c = c') (e4 : d = d') : Value.tuple #[duv a b c d 0 0 0 0, .int .i64 0] = .tuple #[duv a' b' c' d' 0 0 0 0, .int .i64 0] := by rw [e1, e2, e3, e4]
theorem unt_all {f : FuncId} (h : dOk y m d) (h' : dOk y' m' d') (hL : 1 ≤ L) (hL' : L ≤ 4)
    (f0 : ∀ L : Int, (L = 1 ∨ L = 2) → cmp3 y' m' d' y m d = 0 → Fn f [] [dv y m d, dv y' m' d', .int .i64 L] (.tuple #[du0, .int .i64 0]))
    (f1 : ∀ s N T : Int, (s = 1 ∨ s = -1) → cmp3 y' m' d' y m d = s → mM s y m d y' m' d' = N → ymi y m + s * N = T → Fn f [] [dv y m d, dv y' m' d', .int .i64 1] (.tuple #[duv (s * (N / 12)) (s * (N - 12 * (N / 12))) 0 (dnum y' m' d' - dnum (lY T) (lM T) (cD (lY T) (lM T) d)) 0 0 0 0, .int .i64 0]))
    (f2 : ∀ s N T : Int, (s = 1 ∨ s = -1) → cmp3 y' m' d' y m d = s → mM s y m d y' m' d' = N → ymi y m + s * N = T → Fn f [] [dv y m d, dv y' m' d', .int .i64 2] (.tuple #[duv 0 (s * N) 0 (dnum y' m' d' - dnum (lY T) (lM T) (cD (lY T) (lM T) d)) 0 0 0 0, .int .i64 0]))
    (f3 : Fn f [] [dv y m d, dv y' m' d', .int .i64 3] (.tuple #[duv 0 0 ((dnum y' m' d' - dnum y m d).tdiv 7) ((dnum y' m' d' - dnum y m d).tmod 7) 0 0 0 0, .int .i64 0]))
    (f4 : Fn f [] [dv y m d, dv y' m' d', .int .i64 4] (.tuple #[duv 0 0 0 (dnum y' m' d' - dnum y m d) 0 0 0 0, .int .i64 0])) : Fn f [] [dv y m d, dv y' m' d', .int .i64 L] (uvd L y m d y' m' d') := by
  have l : L = 1 ∨ L = 2 ∨ L = 3 ∨ L = 4 := by omega
  have us := until_sign h h' hL hL' _ rfl
  by_cases z : uS y m d y' m' d' = 0
  · obtain ⟨z1, z2, z3, z4⟩ := us.2.2.2.2.2.2.2.2.1 z
    rcases l with rfl | rfl | rfl | rfl
    · have := f0 1 (.inl rfl) z; rwa [show uvd 1 y m d y' m' d' = _ from duv_eq z1 z2 z3 z4]
    · have := f0 2 (.inr rfl) z; rwa [show uvd 2 y m d y' m' d' = _ from duv_eq z1 z2 z3 z4]
    · exact f3
    · exact f4
  · have hs : uS y m d y' m' d' = 1 ∨ uS y m d y' m' d' = -1 := by
      rcases cmp3_tri y' m' d' y m d with k | k | k
      · exact .inr k
      · exact absurd k z
      · exact .inl k
    rcases l with rfl | rfl | rfl | rfl
    · have := f1 (uS y m d y' m' d') (uMM y m d y' m' d') _ hs rfl rfl rfl
      rw [show uMM y m d y' m' d' - 12 * (uMM y m d y' m' d' / 12) = uMM y m d y' m' d' % 12 by omega] at this
      exact this
    · exact f2 (uS y m d y' m' d') (uMM y m d y' m' d') _ hs rfl rfl rfl
    · exact f3
    · exact f4
theorem cunt (h : dOk y m d) (h' : dOk y' m' d') (hL : 1 ≤ L) (hL' : L ≤ 4) : Fn 56 [] [dv y m d, dv y' m' d', .int .i64 L] (uvd L y m d y' m' d') :=
  unt_all L y m d y' m' d' h h' hL hL' (fun L l e => cunt_0 y m d y' m' d' L l h h' e) (fun s N T a b c e => cunt_1 y m d y' m' d' s N T h h' a b c e) (fun s N T a b c e => cunt_2 y m d y' m' d' s N T h h' a b c e) (cunt_3 y m d y' m' d' h h') (cunt_4 y m d y' m' d' h h')
theorem zunt (h : dOk y m d) (h' : dOk y' m' d') (hL : 1 ≤ L) (hL' : L ≤ 4) : Fn 70 [] [dv y m d, dv y' m' d', .int .i64 L] (uvd L y m d y' m' d') :=
  unt_all L y m d y' m' d' h h' hL hL' (fun L l e => zunt_0 y m d y' m' d' L l h h' e) (fun s N T a b c e => zunt_1 y m d y' m' d' s N T h h' a b c e) (fun s N T a b c e => zunt_2 y m d y' m' d' s N T h h' a b c e) (zunt_3 y m d y' m' d' h h') (zunt_4 y m d y' m' d' h h')
end
/-- Months, then days, put to a day, that lead to a right one. -/
theorem cmoved_c (y m d k n T S : Int) (hT : ymi y m + k = T) (y0 : -10000000 ≤ y) (y1 : y ≤ 10000000) (m1 : 1 ≤ m) (m2 : m ≤ 12) (k0 : -1000000000000 ≤ k) (k1 : k ≤ 1000000000000) (d1 : 1 ≤ d) (q : dOk (lY T) (lM T) (cD (lY T) (lM T) d)) (hS : dnum (lY T) (lM T) (cD (lY T) (lM T) d) + n = S) (S0 : -100000001 ≤ S) (S1 : S ≤ 100000000) :
    Fn 48 [] [dv y m d, .int .i64 k, .int .i64 n, .int .i64 1] (.tuple #[dv (dY S) (dM S) (dD S), .int .i64 0]) := by
  have ad := caddd_yes (lY T) (lM T) (cD (lY T) (lM T) d) n q (by omega) (by omega)
  rw [hS] at ad
  exact cmov_v y m d n T 1 k _ _ _ 0 _ _ _ (clater y m d k T (by unfold ymi at hT; omega) y0 y1 m1 m2 k0 k1) (creg_cy (lY T) (lM T) d (ymi_l T).2.1 (ymi_l T).2.2 d1 q) ad
theorem alive19 : Fn 14 [] [] (.bool true) := by
  have am := cmoved_c 2020 1 31 1 0 24241 (dnum 2020 2 29) (by decide +kernel) (by decide +kernel) (by decide +kernel) (by decide +kernel) (by decide +kernel) (by decide +kernel) (by decide +kernel) (by decide +kernel) (by decide +kernel) (by decide +kernel) (by decide +kernel) (by decide +kernel)
  have av1 := cadt_v 0 1 0 0 0 0 0 0 2020 1 31 1 _ _ _ 0 (by refine ⟨?_, ?_, ?_, ?_, ?_, ?_, ?_, ?_⟩ <;> (unfold I64; omega)) (by decide +kernel) (by decide +kernel) (.inl rfl) 0 (by decide +kernel) am
  rw [show dY (dnum 2020 2 29) = 2020 by decide +kernel, show dM (dnum 2020 2 29) = 2 by decide +kernel, show dD (dnum 2020 2 29) = 29 by decide +kernel] at av1
  have av2 := cunt 1 2020 1 31 2021 3 1 (by decide +kernel) (by decide +kernel) (by decide +kernel) (by decide +kernel)
  rw [show uvd 1 2020 1 31 2021 3 1 = .tuple #[duv 1 1 0 1 0 0 0 0, .int .i64 0] from duv_eq (by decide +kernel) (by decide +kernel) (by decide +kernel) (by decide +kernel)] at av2
  have ad := caddd_yes 2020 2 1 (-1) (by decide +kernel) (by decide +kernel) (by decide +kernel)
  rw [show dnum 2020 2 1 + -1 = dnum 2020 1 31 by decide +kernel, show dY (dnum 2020 1 31) = 2020 by decide +kernel, show dM (dnum 2020 1 31) = 1 by decide +kernel, show dD (dnum 2020 1 31) = 31 by decide +kernel] at ad
  have au := cunt 4 2020 1 31 2020 1 31 (by decide +kernel) (by decide +kernel) (by decide +kernel) (by decide +kernel)
  rw [show uvd 4 2020 1 31 2020 1 31 = .tuple #[duv 0 0 0 0 0 0 0 0, .int .i64 0] from duv_eq (by decide +kernel) (by decide +kernel) (by decide +kernel) (by decide +kernel)] at au
  have al := ulay_y 5 (-79200000000000 + 1 * 86400000000000) (by decide +kernel) (by decide +kernel)
  have av3 := cbet_s 2020 1 31 23 0 0 0 2020 2 1 1 0 0 0 4 0 0 0 0 _ _ _ _ 0 (by decide +kernel) (by decide +kernel) (by decide +kernel) (by decide +kernel) 1 (-79200000000000) (.inr rfl) (by decide +kernel) (by decide +kernel) (by decide +kernel) _ _ _ _ _ _ _ 0 ad au al
  rw [show l5 5 (-79200000000000 + 1 * 86400000000000) = 2 by decide +kernel, show l6 5 (-79200000000000 + 1 * 86400000000000) = 0 by decide +kernel, show l7 5 (-79200000000000 + 1 * 86400000000000) = 0 by decide +kernel, show l8 5 (-79200000000000 + 1 * 86400000000000) = 0 by decide +kernel] at av3
  have bm := cmov_v 2020 2 29 0 24241 2 0 _ _ _ 0 _ _ _ (clater 2020 2 29 0 24241 (by decide +kernel) (by decide +kernel) (by decide +kernel) (by decide +kernel) (by decide +kernel) (by decide +kernel) (by decide +kernel)) (creg_ry 2020 2 29 (by decide +kernel) (by decide +kernel) (by decide +kernel) (by decide +kernel) (by decide +kernel)) (caddd_yes 2020 2 29 0 (by decide +kernel) (by decide +kernel) (by decide +kernel))
  rw [show dnum 2020 2 29 + 0 = dnum 2020 2 29 by decide +kernel, show dY (dnum 2020 2 29) = 2020 by decide +kernel, show dM (dnum 2020 2 29) = 2 by decide +kernel, show dD (dnum 2020 2 29) = 29 by decide +kernel] at bm
  have av4 := cad_y 2020 2 29 0 0 0 0 0 0 0 0 2 0 0 0 2 2020 2 29 0 7200000000000 (by refine ⟨?_, ?_, ?_, ?_, ?_, ?_, ?_, ?_⟩ <;> (unfold I64; omega)) (by decide +kernel) (by decide +kernel) (.inr rfl) (by decide +kernel) (by decide +kernel) (by decide +kernel) bm (by decide +kernel)
  rw [show tH 7200000000000 = 2 by decide +kernel] at av4
  clear am ad au al bm
  refine fn_of Tryz.func14 rfl fun ww => ?_
  refine st_fn ent12 (av1) sub0 (by kernel_rfl) ?_
  refine st_fn ent56 (av2) sub0 (by kernel_rfl) ?_
  refine st_fn ent17 (av3) sub0 (by kernel_rfl) ?_
  refine st_fn ent15 (av4) sub0 (by kernel_rfl) ?_
  exact st_ret Tryz.func14 (by kernel_rfl)
end Go.Proofs.YtccllfegnijpiaaGreat
end
section
/-
  What lies between date-times, put to the first one; the law CalendarBack.
-/
set_option linter.unusedVariables false
set_option linter.unusedSimpArgs false
set_option maxRecDepth 100000
namespace Go.Proofs.YtccllfegnijpiaaGreat
open Go Go.RowKit Go.Ev

section
variable {A B C D z : Int}
theorem lay5_ok (hz : -86400000000000 < z ∧ z < 86400000000000) : layOk 5 z := by
  have := td z 3600000000000 (by omega)
  refine ⟨⟨by omega, by omega⟩, ⟨by unfold LIM; omega, by unfold LIM; omega⟩, ?_⟩
  show -9223372036854775808 ≤ z.tdiv 3600000000000 ∧ z.tdiv 3600000000000 ≤ 9223372036854775807
  omega
end
section
variable (y mo d h m s n y' mo' d' h' m' s' n' L E Z : Int)
theorem cbet (k : pOk y mo d h m s n) (k' : pOk y' mo' d' h' m' s' n') (l1 : 1 ≤ L) (l2 : L ≤ 4) (hE : bD y mo d h m s n y' mo' d' h' m' s' n' = E) (hZ : bZ y mo d h m s n y' mo' d' h' m' s' n' = Z) :
    Fn 17 [] [ptv y mo d h m s n, ptv y' mo' d' h' m' s' n', .int .i64 L] (.tuple #[duv (uY L y mo d (dY E) (dM E) (dD E)) (uMo L y mo d (dY E) (dM E) (dD E)) (uW L y mo d (dY E) (dM E) (dD E)) (uD L y mo d (dY E) (dM E) (dD E)) (l5 5 Z) (l6 5 Z) (l7 5 Z) (l8 5 Z), .int .i64 0]) := by
  obtain ⟨i1, i2, -⟩ := bt_in k k'
  obtain ⟨d1, d2⟩ := bt_date k k'
  rw [hE] at i1 d1 d2
  rw [hZ] at i2
  have la := ulay_y 5 Z (by unfold W128; omega) (lay5_ok i2)
  unfold bD at hE
  unfold bZ at hZ
  by_cases c : (tnan h' m' s' n' - tnan h m s n) * uS y mo d y' mo' d' < 0
  · have hX : bX y mo d h m s n y' mo' d' h' m' s' n' = uS y mo d y' mo' d' := if_pos c
    rw [hX] at hE hZ
    have hv : uS y mo d y' mo' d' = -1 ∨ uS y mo d y' mo' d' = 1 := by
      rcases cmp3_tri y' mo' d' y mo d with q | q | q
      · exact .inl q
      · have q' : uS y mo d y' mo' d' = 0 := q
        rw [q'] at c; omega
      · exact .inr q
    have ad := caddd_yes y' mo' d' (-(uS y mo d y' mo' d')) k'.1 (by omega) (by omega)
    rw [show dnum y' mo' d' + -(uS y mo d y' mo' d') = E by omega] at ad
    rw [← hZ] at la
    have := cbet_s y mo d h m s n y' mo' d' h' m' s' n' L _ _ _ _ _ _ _ _ 0 k k' l1 l2 (uS y mo d y' mo' d') (tnan h' m' s' n' - tnan h m s n) hv rfl rfl c (dY E) (dM E) (dD E) _ _ _ _ 0 ad (cunt L y mo d (dY E) (dM E) (dD E) k.1 d1 l1 l2) la
    rw [hZ] at this
    exact this
  · have hX : bX y mo d h m s n y' mo' d' h' m' s' n' = 0 := if_neg c
    rw [hX] at hE hZ
    obtain rfl : E = dnum y' mo' d' := by omega
    have z' : tnan h' m' s' n' - tnan h m s n = Z := by omega
    have hv : uS y mo d y' mo' d' = -1 ∨ uS y mo d y' mo' d' = 0 ∨ uS y mo d y' mo' d' = 1 := cmp3_tri y' mo' d' y mo d
    rw [z'] at c
    rw [(date_of k'.1.1).1, (date_of k'.1.1).2.1, (date_of k'.1.1).2.2]
    exact cbet_n y mo d h m s n y' mo' d' h' m' s' n' L _ _ _ _ _ _ _ _ 0 k k' l1 l2 (uS y mo d y' mo' d') Z hv rfl z' c _ _ _ _ 0 (cunt L y mo d y' mo' d' k.1 k'.1 l1 l2) la
variable (A B C D H M S T e A' B' C' D' H' M' S' T' g : Int)
end
end Go.Proofs.YtccllfegnijpiaaGreat
end
section
/-
  Functions that are entered when they are called (those that only some seats have).
-/
namespace Go.Proofs.YtccllfegnijpiaaGreat
open Go Go.Ev
theorem ent18 : Enters Tryz.prog 18 := enters_of Tryz.func18 (by kernel_rfl) rfl
end Go.Proofs.YtccllfegnijpiaaGreat
end
section
/-
  Date-times: what the reference answers of layer 7.
-/
set_option linter.unusedVariables false
set_option maxRecDepth 100000
namespace Go.Proofs.YtccllfegnijpiaaGreat
open Go Go.RowKit Go.Ev

theorem fzday : FnZ 53 [] [] zv 86400000000000 := by
  have i : I64 86400000000000 := by unfold I64; omega
  refine fnG_of Tryz.func53 rfl fun ww => ?_
  refine st_g ent30 (fzint (86400000000000) (by assumption)) sub0 (by kernel_rfl) (fun zq0 => ?_)
  exact st_retG (zq0) Tryz.func53 (subE 0 rfl (by rfl) sub0) (by kernel_rfl)
theorem time0_no {h m s n : Int} (k : tOk h m s n) (q : tnan h m s n ≠ 0) : (h == 0 && (m == 0 && (s == 0 && (n == 0 && true)))) = false := by
  have := tnan_0 k
  rw [Bool.eq_false_iff]
  intro z
  simp at z
  omega
section
variable (y mo d h m s n : Int)
theorem zright7_yes (k : pOk y mo d h m s n) : Fn 35 [] [ptv y mo d h m s n] (.bool true) := by
  obtain ⟨k1, k2, k3⟩ := k
  by_cases q : dnum y mo d = -100000001
  · have q2 := time0_no k2 fun z => k3 ⟨q, z⟩
    clear k3
    refine fn_of Tryz.func35 rfl fun ww => ?_
    refine st_fn ent92 (zdays_yes (y) (mo) (d) (by assumption)) sub0 (by kernel_rfl) ?_
    refine st_fn ent93 (fzright_yes (h) (m) (s) (n) (by assumption)) sub0 (by kernel_rfl) ?_
    refine st_b 19 (show (dnum y mo d != -100000001) = false by exact bne_eq_false_iff_eq.2 (by omega)) (by kernel_rfl) ?_
    exact st_retv Tryz.func35 (show Value.bool (!(h == 0 && (m == 0 && (s == 0 && (n == 0 && true))))) = _ by (rw [q2]; rfl)) (by kernel_rfl)
  · clear k3
    refine fn_of Tryz.func35 rfl fun ww => ?_
    refine st_fn ent92 (zdays_yes (y) (mo) (d) (by assumption)) sub0 (by kernel_rfl) ?_
    refine st_fn ent93 (fzright_yes (h) (m) (s) (n) (by assumption)) sub0 (by kernel_rfl) ?_
    refine st_b 19 (show (dnum y mo d != -100000001) = true by exact bne_iff_ne.2 (by omega)) (by kernel_rfl) ?_
    exact st_ret Tryz.func35 (by kernel_rfl)
theorem zright7_no (k : ¬ pOk y mo d h m s n) : Fn 35 [] [ptv y mo d h m s n] (.bool false) := by
  by_cases k1 : dOk y mo d
  · by_cases k2 : tOk h m s n
    · have k3 : dnum y mo d = -100000001 ∧ tnan h m s n = 0 := Classical.byContradiction fun q => k ⟨k1, k2, q⟩
      obtain ⟨k4, k5⟩ := k3
      obtain ⟨rfl, rfl, rfl, rfl⟩ := (tnan_0 k2).1 k5
      clear k
      refine fn_of Tryz.func35 rfl fun ww => ?_
      refine st_fn ent92 (zdays_yes (y) (mo) (d) (by assumption)) sub0 (by kernel_rfl) ?_
      refine st_fn ent93 (fzright_yes (0) (0) (0) (0) (by assumption)) sub0 (by kernel_rfl) ?_
      refine st_b 19 (show (dnum y mo d != -100000001) = false by exact bne_eq_false_iff_eq.2 (by omega)) (by kernel_rfl) ?_
      exact st_ret Tryz.func35 (by kernel_rfl)
    · clear k
      refine fn_of Tryz.func35 rfl fun ww => ?_
      refine st_fn ent92 (zdays_yes (y) (mo) (d) (by assumption)) sub0 (by kernel_rfl) ?_
      refine st_fn ent93 (fzright_no (h) (m) (s) (n) (by assumption)) sub0 (by kernel_rfl) ?_
      exact st_ret Tryz.func35 (by kernel_rfl)
  · clear k
    refine fn_of Tryz.func35 rfl fun ww => ?_
    refine st_fn ent92 (zdays_no (y) (mo) (d) (by assumption)) sub0 (by kernel_rfl) ?_
    exact st_ret Tryz.func35 (by kernel_rfl)
theorem znanos7 (k : pOk y mo d h m s n) : FnZ 38 [] [ptv y mo d h m s n] zv (pnum y mo d h m s n) := by
  obtain ⟨k1, k2, k3⟩ := k
  have b := tnan_bd k2
  obtain ⟨k4, k5, k6⟩ := k1
  have k1 : dOk y mo d := ⟨k4, k5, k6⟩
  have i1 : I64 (dnum y mo d) := by unfold I64; omega
  have i2 : I64 (tnan h m s n) := by unfold I64; omega
  have i3 : I64 86400000000000 := by unfold I64; omega
  unfold pnum
  clear k3 k4
  refine fnG_of Tryz.func38 rfl fun ww => ?_
  refine st_fn ent92 (zdays_yes (y) (mo) (d) (by assumption)) sub0 (by kernel_rfl) ?_
  refine st_g ent30 (fzint (dnum y mo d) (by assumption)) sub0 (by kernel_rfl) (fun zq1 => ?_)
  refine st_g ent53 (fzday) sub0 (by kernel_rfl) (fun zq2 => ?_)
  refine st_g ent29 (fzmul (zq1) (zq2) (dnum y mo d) (86400000000000) (by exact Bits.fit i1.w.bits (by decide)) (by exact Bits.fit i3.w.bits (by decide))) (subC 1 rfl (subC 0 rfl sub0)) (by kernel_rfl) (fun zq3 => ?_)
  refine st_fn ent60 (fznanos (h) (m) (s) (n) (by assumption)) sub0 (by kernel_rfl) ?_
  refine st_g ent30 (fzint (tnan h m s n) (by assumption)) sub0 (by kernel_rfl) (fun zq5 => ?_)
  refine st_g ent27 (fzadd (zq3) (zq5) (dnum y mo d * 86400000000000) (tnan h m s n) (by exact Bits.fit (Bits.mul i1.w.bits i3.w.bits) (by decide)) (by exact Bits.fit i2.w.bits (by decide))) (subC 1 rfl (subC 0 rfl sub0)) (by kernel_rfl) (fun zq6 => ?_)
  exact st_retG (zq6) Tryz.func38 (subE 0 rfl (by rfl) sub0) (by kernel_rfl)
end
end Go.Proofs.YtccllfegnijpiaaGreat
end
section
/-
  Durations put to date-times, and what lies between date-times: what the reference answers of layer 19; the laws CalendarAdds, CalendarBetweens.
-/
set_option linter.unusedVariables false
set_option linter.unusedSimpArgs false
set_option maxRecDepth 100000
namespace Go.Proofs.YtccllfegnijpiaaGreat
open Go Go.RowKit Go.Ev

section
variable (y mo d h m s n y' mo' d' h' m' s' n' L : Int)
theorem zbet_a (k : ¬ (pOk y mo d h m s n ∧ pOk y' mo' d' h' m' s' n' ∧ 1 ≤ L ∧ L ≤ 8)) : Fn 18 [] [ptv y mo d h m s n, ptv y' mo' d' h' m' s' n', .int .i64 L] (.tuple #[du0, .int .i64 1]) := by
  by_cases k1 : pOk y mo d h m s n
  · have kr1 := zright7_yes y mo d h m s n k1
    by_cases k2 : pOk y' mo' d' h' m' s' n'
    · have kr2 := zright7_yes y' mo' d' h' m' s' n' k2
      by_cases l : L < 1
      · clear k k1 k2
        refine fn_of Tryz.func18 rfl fun ww => ?_
        refine st_fn ent35 (kr1) sub0 (by kernel_rfl) ?_
        refine st_fn ent35 (kr2) sub0 (by kernel_rfl) ?_
        refine st_b 25 (show (decide (L < 1)) = true by exact decide_eq_true (by omega)) (by kernel_rfl) ?_
        exact st_ret Tryz.func18 (by kernel_rfl)
      · have l2 : 8 < L := by
          rcases Int.lt_or_le 8 L with q | q
          · exact q
          · exact absurd ⟨k1, k2, by omega, q⟩ k
        clear k k1 k2
        refine fn_of Tryz.func18 rfl fun ww => ?_
        refine st_fn ent35 (kr1) sub0 (by kernel_rfl) ?_
        refine st_fn ent35 (kr2) sub0 (by kernel_rfl) ?_
        refine st_b 25 (show (decide (L < 1)) = false by exact decide_eq_false (by omega)) (by kernel_rfl) ?_
        refine st_b 29 (show (decide (L > 8)) = true by exact decide_eq_true (by omega)) (by kernel_rfl) ?_
        exact st_ret Tryz.func18 (by kernel_rfl)
    · have kr2 := zright7_no y' mo' d' h' m' s' n' k2
      clear k k1 k2
      refine fn_of Tryz.func18 rfl fun ww => ?_
      refine st_fn ent35 (kr1) sub0 (by kernel_rfl) ?_
      refine st_fn ent35 (kr2) sub0 (by kernel_rfl) ?_
      exact st_ret Tryz.func18 (by kernel_rfl)
  · have kr1 := zright7_no y mo d h m s n k1
    clear k k1
    refine fn_of Tryz.func18 rfl fun ww => ?_
    refine st_fn ent35 (kr1) sub0 (by kernel_rfl) ?_
    exact st_ret Tryz.func18 (by kernel_rfl)
variable (A B C D H M S N e : Int)
theorem zbet_5 (k : pOk y mo d h m s n) (k' : pOk y' mo' d' h' m' s' n') (l1 : 5 ≤ L) (l2 : L ≤ 8) (hl : ∀ p : ZQ, Fn 67 [(p, pnum y' mo' d' h' m' s' n' - pnum y mo d h m s n)] [zv p, .int .i64 L] (.tuple #[duv A B C D H M S N, .int .i64 e])) :
    Fn 18 [] [ptv y mo d h m s n, ptv y' mo' d' h' m' s' n', .int .i64 L] (.tuple #[duv A B C D H M S N, .int .i64 e]) := by
  have kr1 := zright7_yes y mo d h m s n k
  have kr2 := zright7_yes y' mo' d' h' m' s' n' k'
  have kn1 := znanos7 y mo d h m s n k
  have kn2 := znanos7 y' mo' d' h' m' s' n' k'
  have w1 : W128 (pnum y mo d h m s n) := by have := pOk_in k; unfold pIn at this; unfold W128; omega
  have w2 : W128 (pnum y' mo' d' h' m' s' n') := by have := pOk_in k'; unfold pIn at this; unfold W128; omega
  generalize pnum y mo d h m s n = p1 at *
  generalize pnum y' mo' d' h' m' s' n' = p2 at *
  clear k k'
  refine fn_of Tryz.func18 rfl fun ww => ?_
  refine st_fn ent35 (kr1) sub0 (by kernel_rfl) ?_
  refine st_fn ent35 (kr2) sub0 (by kernel_rfl) ?_
  refine st_b 25 (show (decide (L < 1)) = false by exact decide_eq_false (by omega)) (by kernel_rfl) ?_
  refine st_b 29 (show (decide (L > 8)) = false by exact decide_eq_false (by omega)) (by kernel_rfl) ?_
  refine st_b 33 (show (decide (L > 4)) = true by exact decide_eq_true (by omega)) (by kernel_rfl) ?_
  refine st_g ent38 (kn2) sub0 (by kernel_rfl) (fun zq2 => ?_)
  refine st_g ent38 (kn1) sub0 (by kernel_rfl) (fun zq3 => ?_)
  refine st_g ent37 (fzsub (zq2) (zq3) (p2) (p1) (by exact Bits.fit w2.bits (by decide)) (by exact Bits.fit w1.bits (by decide))) (subC 1 rfl (subC 0 rfl sub0)) (by kernel_rfl) (fun zq4 => ?_)
  refine st_fn ent67 (hl (zq4)) (subC 0 rfl sub0) (by kernel_rfl) ?_
  exact st_ret Tryz.func18 (by kernel_rfl)
theorem zbet_n (k : pOk y mo d h m s n) (k' : pOk y' mo' d' h' m' s' n') (l1 : 1 ≤ L) (l2 : L ≤ 4) (v z : Int) (hv : v = -1 ∨ v = 0 ∨ v = 1) (ev : cmp3 y' mo' d' y mo d = v) (ez : tnan h' m' s' n' - tnan h m s n = z) (hz : ¬ z * v < 0) (F1 F2 F3 F4 e' : Int)
    (hu : Fn 70 [] [dv y mo d, dv y' mo' d', .int .i64 L] (.tuple #[duv A B C D 0 0 0 0, .int .i64 e])) (hl : ∀ p : ZQ, Fn 67 [(p, z)] [zv p, .int .i64 5] (.tuple #[duv F1 F2 F3 F4 H M S N, .int .i64 e'])) :
    Fn 18 [] [ptv y mo d h m s n, ptv y' mo' d' h' m' s' n', .int .i64 L] (.tuple #[duv A B C D H M S N, .int .i64 e]) := by
  have kr1 := zright7_yes y mo d h m s n k
  have kr2 := zright7_yes y' mo' d' h' m' s' n' k'
  have kn1 := fznanos h m s n k.2.1
  have kn2 := fznanos h' m' s' n' k'.2.1
  have b1 := tnan_bd k.2.1
  have b2 := tnan_bd k'.2.1
  have cc := zcmp5 y' mo' d' y mo d
  rw [ev] at cc
  generalize tnan h m s n = t at *
  generalize tnan h' m' s' n' = t' at *
  have iz : I64 z := by unfold I64; omega
  clear k k' ev
  rcases hv with rfl | rfl | rfl
  · have hz' : z ≤ 0 := by omega
    clear hz
    refine fn_of Tryz.func18 rfl fun ww => ?_
    refine st_fn ent35 (kr1) sub0 (by kernel_rfl) ?_
    refine st_fn ent35 (kr2) sub0 (by kernel_rfl) ?_
    refine st_b 25 (show (decide (L < 1)) = false by exact decide_eq_false (by omega)) (by kernel_rfl) ?_
    refine st_b 29 (show (decide (L > 8)) = false by exact decide_eq_false (by omega)) (by kernel_rfl) ?_
    refine st_b 33 (show (decide (L > 4)) = false by exact decide_eq_false (by omega)) (by kernel_rfl) ?_
    refine st_fn ent60 (kn2) sub0 (by kernel_rfl) ?_
    refine st_fn ent60 (kn1) sub0 (by kernel_rfl) ?_
    refine st_i 49 IntKind.i64 (x := IntKind.i64.wrap (t' - t)) ((Go.IntWalk.i64_in (t' - t) (by omega)).trans (ez)) (by kernel_rfl) ?_
    refine st_fn ent68 (cc) sub0 (by kernel_rfl) ?_
    refine st_b 74 (show (decide (z > 0)) = false by exact decide_eq_false (by omega)) (by kernel_rfl) ?_
    refine st_fn ent70 (hu) sub0 (by kernel_rfl) ?_
    refine st_g ent30 (fzint (z) (by assumption)) sub0 (by kernel_rfl) (fun zq6 => ?_)
    refine st_fn ent67 (hl (zq6)) (subC 0 rfl sub0) (by kernel_rfl) ?_
    exact st_ret Tryz.func18 (by kernel_rfl)
  · clear hz
    refine fn_of Tryz.func18 rfl fun ww => ?_
    refine st_fn ent35 (kr1) sub0 (by kernel_rfl) ?_
    refine st_fn ent35 (kr2) sub0 (by kernel_rfl) ?_
    refine st_b 25 (show (decide (L < 1)) = false by exact decide_eq_false (by omega)) (by kernel_rfl) ?_
    refine st_b 29 (show (decide (L > 8)) = false by exact decide_eq_false (by omega)) (by kernel_rfl) ?_
    refine st_b 33 (show (decide (L > 4)) = false by exact decide_eq_false (by omega)) (by kernel_rfl) ?_
    refine st_fn ent60 (kn2) sub0 (by kernel_rfl) ?_
    refine st_fn ent60 (kn1) sub0 (by kernel_rfl) ?_
    refine st_i 49 IntKind.i64 (x := IntKind.i64.wrap (t' - t)) ((Go.IntWalk.i64_in (t' - t) (by omega)).trans (ez)) (by kernel_rfl) ?_
    refine st_fn ent68 (cc) sub0 (by kernel_rfl) ?_
    refine st_fn ent70 (hu) sub0 (by kernel_rfl) ?_
    refine st_g ent30 (fzint (z) (by assumption)) sub0 (by kernel_rfl) (fun zq6 => ?_)
    refine st_fn ent67 (hl (zq6)) (subC 0 rfl sub0) (by kernel_rfl) ?_
    exact st_ret Tryz.func18 (by kernel_rfl)
  · have hz' : 0 ≤ z := by omega
    clear hz
    refine fn_of Tryz.func18 rfl fun ww => ?_
    refine st_fn ent35 (kr1) sub0 (by kernel_rfl) ?_
    refine st_fn ent35 (kr2) sub0 (by kernel_rfl) ?_
    refine st_b 25 (show (decide (L < 1)) = false by exact decide_eq_false (by omega)) (by kernel_rfl) ?_
    refine st_b 29 (show (decide (L > 8)) = false by exact decide_eq_false (by omega)) (by kernel_rfl) ?_
    refine st_b 33 (show (decide (L > 4)) = false by exact decide_eq_false (by omega)) (by kernel_rfl) ?_
    refine st_fn ent60 (kn2) sub0 (by kernel_rfl) ?_
    refine st_fn ent60 (kn1) sub0 (by kernel_rfl) ?_
    refine st_i 49 IntKind.i64 (x := IntKind.i64.wrap (t' - t)) ((Go.IntWalk.i64_in (t' - t) (by omega)).trans (ez)) (by kernel_rfl) ?_
    refine st_fn ent68 (cc) sub0 (by kernel_rfl) ?_
    refine st_b 61 (show (decide (z < 0)) = false by exact decide_eq_false (by omega)) (by kernel_rfl) ?_
    refine st_fn ent70 (hu) sub0 (by kernel_rfl) ?_
    refine st_g ent30 (fzint (z) (by assumption)) sub0 (by kernel_rfl) (fun zq6 => ?_)
    refine st_fn ent67 (hl (zq6)) (subC 0 rfl sub0) (by kernel_rfl) ?_
    exact st_ret Tryz.func18 (by kernel_rfl)
theorem zbet_s (k : pOk y mo d h m s n) (k' : pOk y' mo' d' h' m' s' n') (l1 : 1 ≤ L) (l2 : L ≤ 4) (v z : Int) (hv : v = -1 ∨ v = 1) (ev : cmp3 y' mo' d' y mo d = v) (ez : tnan h' m' s' n' - tnan h m s n = z) (hz : z * v < 0) (Y X W F1 F2 F3 F4 e' : Int)
    (hd : Fn 69 [] [dv y' mo' d', .int .i64 (-v)] (.tuple #[dv Y X W, .int .i64 0]))
    (hu : Fn 70 [] [dv y mo d, dv Y X W, .int .i64 L] (.tuple #[duv A B C D 0 0 0 0, .int .i64 e])) (hl : ∀ p : ZQ, Fn 67 [(p, z + v * 86400000000000)] [zv p, .int .i64 5] (.tuple #[duv F1 F2 F3 F4 H M S N, .int .i64 e'])) :
    Fn 18 [] [ptv y mo d h m s n, ptv y' mo' d' h' m' s' n', .int .i64 L] (.tuple #[duv A B C D H M S N, .int .i64 e]) := by
  have kr1 := zright7_yes y mo d h m s n k
  have kr2 := zright7_yes y' mo' d' h' m' s' n' k'
  have kn1 := fznanos h m s n k.2.1
  have kn2 := fznanos h' m' s' n' k'.2.1
  have b1 := tnan_bd k.2.1
  have b2 := tnan_bd k'.2.1
  have cc := zcmp5 y' mo' d' y mo d
  rw [ev] at cc
  generalize tnan h m s n = t at *
  generalize tnan h' m' s' n' = t' at *
  clear k k' ev
  rcases hv with rfl | rfl
  · have hz' : 0 < z := by omega
    have iz : I64 (z - 86400000000000) := by unfold I64; omega
    rw [show z + -1 * 86400000000000 = z - 86400000000000 by omega] at hl
    rw [show -(-1 : Int) = 1 by omega] at hd
    clear hz
    refine fn_of Tryz.func18 rfl fun ww => ?_
    refine st_fn ent35 (kr1) sub0 (by kernel_rfl) ?_
    refine st_fn ent35 (kr2) sub0 (by kernel_rfl) ?_
    refine st_b 25 (show (decide (L < 1)) = false by exact decide_eq_false (by omega)) (by kernel_rfl) ?_
    refine st_b 29 (show (decide (L > 8)) = false by exact decide_eq_false (by omega)) (by kernel_rfl) ?_
    refine st_b 33 (show (decide (L > 4)) = false by exact decide_eq_false (by omega)) (by kernel_rfl) ?_
    refine st_fn ent60 (kn2) sub0 (by kernel_rfl) ?_
    refine st_fn ent60 (kn1) sub0 (by kernel_rfl) ?_
    refine st_i 49 IntKind.i64 (x := IntKind.i64.wrap (t' - t)) ((Go.IntWalk.i64_in (t' - t) (by omega)).trans (ez)) (by kernel_rfl) ?_
    refine st_fn ent68 (cc) sub0 (by kernel_rfl) ?_
    refine st_b 74 (show (decide (z > 0)) = true by exact decide_eq_true (by omega)) (by kernel_rfl) ?_
    refine st_fn ent69 (hd) sub0 (by kernel_rfl) ?_
    refine st_i 82 .i64 (x' := z - 86400000000000) (Go.IntWalk.i64_in _ (by omega)) (by kernel_rfl) ?_
    refine st_fn ent70 (hu) sub0 (by kernel_rfl) ?_
    refine st_g ent30 (fzint (z - 86400000000000) (by assumption)) sub0 (by kernel_rfl) (fun zq7 => ?_)
    refine st_fn ent67 (hl (zq7)) (subC 0 rfl sub0) (by kernel_rfl) ?_
    exact st_ret Tryz.func18 (by kernel_rfl)
  · have hz' : z < 0 := by omega
    have iz : I64 (z + 86400000000000) := by unfold I64; omega
    rw [show z + 1 * 86400000000000 = z + 86400000000000 by omega] at hl
    clear hz
    refine fn_of Tryz.func18 rfl fun ww => ?_
    refine st_fn ent35 (kr1) sub0 (by kernel_rfl) ?_
    refine st_fn ent35 (kr2) sub0 (by kernel_rfl) ?_
    refine st_b 25 (show (decide (L < 1)) = false by exact decide_eq_false (by omega)) (by kernel_rfl) ?_
    refine st_b 29 (show (decide (L > 8)) = false by exact decide_eq_false (by omega)) (by kernel_rfl) ?_
    refine st_b 33 (show (decide (L > 4)) = false by exact decide_eq_false (by omega)) (by kernel_rfl) ?_
    refine st_fn ent60 (kn2) sub0 (by kernel_rfl) ?_
    refine st_fn ent60 (kn1) sub0 (by kernel_rfl) ?_
    refine st_i 49 IntKind.i64 (x := IntKind.i64.wrap (t' - t)) ((Go.IntWalk.i64_in (t' - t) (by omega)).trans (ez)) (by kernel_rfl) ?_
    refine st_fn ent68 (cc) sub0 (by kernel_rfl) ?_
    refine st_b 61 (show (decide (z < 0)) = true by exact decide_eq_true (by omega)) (by kernel_rfl) ?_
    refine st_fn ent69 (hd) sub0 (by kernel_rfl) ?_
    refine st_i 69 .i64 (x' := z + 86400000000000) (Go.IntWalk.i64_in _ (by omega)) (by kernel_rfl) ?_
    refine st_fn ent70 (hu) sub0 (by kernel_rfl) ?_
    refine st_g ent30 (fzint (z + 86400000000000) (by assumption)) sub0 (by kernel_rfl) (fun zq7 => ?_)
    refine st_fn ent67 (hl (zq7)) (subC 0 rfl sub0) (by kernel_rfl) ?_
    exact st_ret Tryz.func18 (by kernel_rfl)
theorem zbet (E Z : Int) (k : pOk y mo d h m s n) (k' : pOk y' mo' d' h' m' s' n') (l1 : 1 ≤ L) (l2 : L ≤ 4) (hE : bD y mo d h m s n y' mo' d' h' m' s' n' = E) (hZ : bZ y mo d h m s n y' mo' d' h' m' s' n' = Z) :
    Fn 18 [] [ptv y mo d h m s n, ptv y' mo' d' h' m' s' n', .int .i64 L] (.tuple #[duv (uY L y mo d (dY E) (dM E) (dD E)) (uMo L y mo d (dY E) (dM E) (dD E)) (uW L y mo d (dY E) (dM E) (dD E)) (uD L y mo d (dY E) (dM E) (dD E)) (l5 5 Z) (l6 5 Z) (l7 5 Z) (l8 5 Z), .int .i64 0]) := by
  obtain ⟨i1, i2, -⟩ := bt_in k k'
  obtain ⟨d1, d2⟩ := bt_date k k'
  rw [hE] at i1 d1 d2
  rw [hZ] at i2
  have la := fun p : ZQ => zulay_y 5 Z p (by unfold W128; omega) (lay5_ok i2)
  unfold bD at hE
  unfold bZ at hZ
  by_cases c : (tnan h' m' s' n' - tnan h m s n) * uS y mo d y' mo' d' < 0
  · have hX : bX y mo d h m s n y' mo' d' h' m' s' n' = uS y mo d y' mo' d' := if_pos c
    rw [hX] at hE hZ
    have hv : uS y mo d y' mo' d' = -1 ∨ uS y mo d y' mo' d' = 1 := by
      rcases cmp3_tri y' mo' d' y mo d with q | q | q
      · exact .inl q
      · have q' : uS y mo d y' mo' d' = 0 := q
        rw [q'] at c; omega
      · exact .inr q
    have ad := zaddd_yes y' mo' d' (-(uS y mo d y' mo' d')) k'.1 (by omega) (by omega)
    rw [show dnum y' mo' d' + -(uS y mo d y' mo' d') = E by omega] at ad
    rw [← hZ] at la
    have := zbet_s y mo d h m s n y' mo' d' h' m' s' n' L _ _ _ _ _ _ _ _ 0 k k' l1 l2 (uS y mo d y' mo' d') (tnan h' m' s' n' - tnan h m s n) hv rfl rfl c (dY E) (dM E) (dD E) _ _ _ _ 0 ad (zunt L y mo d (dY E) (dM E) (dD E) k.1 d1 l1 l2) la
    rw [hZ] at this
    exact this
  · have hX : bX y mo d h m s n y' mo' d' h' m' s' n' = 0 := if_neg c
    rw [hX] at hE hZ
    obtain rfl : E = dnum y' mo' d' := by omega
    have z' : tnan h' m' s' n' - tnan h m s n = Z := by omega
    have hv : uS y mo d y' mo' d' = -1 ∨ uS y mo d y' mo' d' = 0 ∨ uS y mo d y' mo' d' = 1 := cmp3_tri y' mo' d' y mo d
    rw [z'] at c
    rw [(date_of k'.1.1).1, (date_of k'.1.1).2.1, (date_of k'.1.1).2.2]
    exact zbet_n y mo d h m s n y' mo' d' h' m' s' n' L _ _ _ _ _ _ _ _ 0 k k' l1 l2 (uS y mo d y' mo' d') Z hv rfl z' c _ _ _ _ 0 (zunt L y mo d y' mo' d' k.1 k'.1 l1 l2) la
theorem cbets_v (kh1 : Fn 17 [] [ptv y mo d h m s n, ptv y' mo' d' h' m' s' n', .int .i64 L] (.tuple #[duv A B C D H M S N, .int .i64 e])) (kh2 : Fn 18 [] [ptv y mo d h m s n, ptv y' mo' d' h' m' s' n', .int .i64 L] (.tuple #[duv A B C D H M S N, .int .i64 e])) :
    Fn 6 [] [ptv y mo d h m s n, ptv y' mo' d' h' m' s' n', .int .i64 L] (.bool true) := by
  refine fn_of Tryz.func6 rfl fun ww => ?_
  refine st_fn ent17 (kh1) sub0 (by kernel_rfl) ?_
  refine st_fn ent18 (kh2) sub0 (by kernel_rfl) ?_
  refine st_fn ent14 (alive19) sub0 (by kernel_rfl) ?_
  refine st_b 29 (show (A == A && (B == B && (C == C && (D == D && (H == H && (M == M && (S == S && (N == N && true)))))))) = true by simp_all) (by kernel_rfl) ?_
  exact st_retv Tryz.func6 (show Value.bool (e == e) = _ by simp) (by kernel_rfl)
end
section
variable (y mo d h m s n y' mo' d' h' m' s' n' L : Int)
theorem bet_both : ∃ A B C D H M S N e : Int, Fn 17 [] [ptv y mo d h m s n, ptv y' mo' d' h' m' s' n', .int .i64 L] (.tuple #[duv A B C D H M S N, .int .i64 e]) ∧ Fn 18 [] [ptv y mo d h m s n, ptv y' mo' d' h' m' s' n', .int .i64 L] (.tuple #[duv A B C D H M S N, .int .i64 e]) := by
  by_cases k : pOk y mo d h m s n ∧ pOk y' mo' d' h' m' s' n' ∧ 1 ≤ L ∧ L ≤ 8
  · obtain ⟨k1, k2, l1, lq8⟩ := k
    by_cases lq4 : L ≤ 4
    · exact ⟨_, _, _, _, _, _, _, _, _, cbet y mo d h m s n y' mo' d' h' m' s' n' L _ _ k1 k2 l1 lq4 rfl rfl, zbet y mo d h m s n y' mo' d' h' m' s' n' L _ _ k1 k2 l1 lq4 rfl rfl⟩
    · have w : W128 (pnum y' mo' d' h' m' s' n' - pnum y mo d h m s n) := by
        have a := pOk_in k1
        have b := pOk_in k2
        unfold pIn at a b; unfold W128; omega
      by_cases q : layOk L (pnum y' mo' d' h' m' s' n' - pnum y mo d h m s n)
      · exact ⟨_, _, _, _, _, _, _, _, _, cbet_5 y mo d h m s n y' mo' d' h' m' s' n' L _ _ _ _ _ _ _ _ _ k1 k2 (by omega) lq8 (ulay_y L _ w q), zbet_5 y mo d h m s n y' mo' d' h' m' s' n' L _ _ _ _ _ _ _ _ _ k1 k2 (by omega) lq8 (fun p => zulay_y L _ p w q)⟩
      · exact ⟨_, _, _, _, _, _, _, _, _, cbet_5 y mo d h m s n y' mo' d' h' m' s' n' L _ _ _ _ _ _ _ _ _ k1 k2 (by omega) lq8 (ulay_n L _ w (by omega) lq8 q), zbet_5 y mo d h m s n y' mo' d' h' m' s' n' L _ _ _ _ _ _ _ _ _ k1 k2 (by omega) lq8 (fun p => zulay_n L _ p w (by omega) lq8 q)⟩
  · exact ⟨_, _, _, _, _, _, _, _, _, cbet_a y mo d h m s n y' mo' d' h' m' s' n' L k, zbet_a y mo d h m s n y' mo' d' h' m' s' n' L k⟩
theorem law_cbets (W : World) : Calls Tryz.prog 6 #[ptv y mo d h m s n, ptv y' mo' d' h' m' s' n', .int .i64 L] W (fun e w' => e = .returned (.bool true) ∧ Ext W w') := by
  obtain ⟨A, B, C, D, H, M, S, N, e, h1, h2⟩ := bet_both y mo d h m s n y' mo' d' h' m' s' n' L
  exact cbets_v y mo d h m s n y' mo' d' h' m' s' n' L A B C D H M S N e h1 h2 W (zall_nil W)
end
end Go.Proofs.YtccllfegnijpiaaGreat
end
section
/-
  What comes in: a wide number by its two halves, numbers by their bounds.
-/
namespace Go.Proofs.YtccllfegnijpiaaGreat
open Go Go.RowKit

theorem i64_in {n : Int} (h : (Lit.int .i64 n).wf = true) : I64 n := bounds_i64 h
end Go.Proofs.YtccllfegnijpiaaGreat
end
section
/-
  A struct of so many 64-bit numbers that comes in.
-/
namespace Go.Proofs.YtccllfegnijpiaaGreat
open Go Go.RowKit

def intRow (P : Program) (t : TypeId) (n : Nat) : Bool := (match P.underlying t with
  | some (.struct _) => true
  | some (.array _ _) => true
  | _ => false) && decide (P.cellsOf t = n) && match P.cellTypes P.depth t with
  | some ts => decide (ts.length = n) && ts.all fun u => match P.underlying u with
    | some (.int .i64) => true
    | _ => false
  | none => false
theorem cells_in {P : Program} {w : World} {r : Reach} {b : Nat} {ts : List TypeId} (ha : ∀ u, u ∈ ts → P.underlying u = some (.int .i64)) (hne : 0 < ts.length) : ∀ (l : List Value),
    (∀ (i : Nat) (v : Value), l[i]? = some v → ∃ (j : Nat) (u : TypeId), ts[j]? = some u ∧ Cell.okWide P w r b u v) → ∃ xs : List Int, l = xs.map (Value.int .i64) ∧ ∀ x ∈ xs, I64 x
  | [], _ => ⟨[], rfl, fun x h => by cases h⟩
  | v :: l, h => by
    obtain ⟨xs, h1, h2⟩ := cells_in ha hne l fun i v hv => h (i + 1) v (by simpa using hv)
    obtain ⟨j, u, hu, hc⟩ := h 0 v rfl
    have hU := ha u (List.mem_of_getElem? hu)
    obtain ⟨x, rfl, hx⟩ : ∃ x, v = .int .i64 x ∧ I64 x := by
      simp only [Cell.okWide, hU] at hc
      cases v <;> simp [Cell.ok, hU] at hc
      rename_i k x
      obtain ⟨rfl, hk⟩ := hc
      refine ⟨x, rfl, ?_⟩
      have m0 : IntKind.i64.min = -9223372036854775808 := by decide
      have m1 : IntKind.i64.max = 9223372036854775807 := by decide
      unfold IntKind.has at hk
      rw [m0, m1] at hk
      exact hk
    exact ⟨x :: xs, by rw [h1]; rfl, fun y hy => by
      rcases List.mem_cons.1 hy with rfl | hy
      · exact hx
      · exact h2 y hy⟩
theorem ints_in {P : Program} {w : World} {r : Reach} {b : Nat} {t : TypeId} {n : Nat} {v : Value} (hn : 0 < n) (ht : intRow P t n = true) (hv : Value.okWide P w r b t v) : ∃ xs : List Int, v = .agg (xs.map (Value.int .i64)).toArray ∧ xs.length = n ∧ ∀ x ∈ xs, I64 x := by
  unfold intRow at ht
  rw [Bool.and_eq_true, Bool.and_eq_true] at ht
  obtain ⟨⟨hs, hc⟩, hl⟩ := ht
  obtain ⟨cs, rfl, hsz, ts, hts, -, hcell⟩ : ∃ cs, v = .agg cs ∧ cs.size = P.cellsOf t ∧ Row.okWide P w r b t cs := by
    unfold Value.okWide at hv
    split at hv
    · exact hv
    · exact hv
    · rename_i h1 h2
      split at hs
      · rename_i fs h; exact absurd h (h1 fs)
      · rename_i m e h; exact absurd h (h2 m e)
      · cases hs
  rw [hts] at hl
  simp only [Bool.and_eq_true, decide_eq_true_eq, List.all_eq_true] at hl hc
  have ha : ∀ u ∈ ts, P.underlying u = some (.int .i64) := fun u hu => by
    have := hl.2 u hu
    split at this
    · assumption
    · cases this
  obtain ⟨xs, h1, h2⟩ := cells_in (P := P) (w := w) (r := r) (b := b) ha (by omega) cs.toList fun i v hv => by
    obtain ⟨u, h3, h4⟩ := hcell i v (by simpa using hv)
    exact ⟨_, u, h3, h4⟩
  have e : cs = (xs.map (Value.int .i64)).toArray := by rw [← h1]
  refine ⟨xs, by rw [e], ?_, h2⟩
  have := congrArg Array.size e
  simp at this; omega
theorem list7 {α : Type} {l : List α} (h : l.length = 7) : ∃ a b c d e f g, l = [a, b, c, d, e, f, g] := by
  match l, h with
  | [a, b, c, d, e, f, g], _ => exact ⟨a, b, c, d, e, f, g, rfl⟩
end Go.Proofs.YtccllfegnijpiaaGreat
end
