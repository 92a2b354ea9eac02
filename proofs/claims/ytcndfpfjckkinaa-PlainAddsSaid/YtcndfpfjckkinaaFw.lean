/-
  The contracts of the first layers, as the reckoner wants them.
-/
import Derived.Test.YtcndfpfjckkinaaEnt
import Derived.Test.YtcndfpfjckkinaaGg
import Derived.Test.YtcndfpfjckkinaaGd
import Derived.Test.YtcndfpfjckkinaaZh
set_option linter.unusedVariables false
namespace Go.Proofs.Ytcndfpfjckkinaa
open Go Go.RowKit Go.Ev

theorem fn1 {f : FuncId} {args : List Value} {v : Value} (h : ∀ w, Calls Try.prog f args.toArray w fun e w' => e = .returned v ∧ Ext w w') : Fn f [] args v := fun w _ => h w
theorem wcmp_fn (m n : Int) : Fn 47 [] [wv m, wv n] (.int .i64 (cmpI m n)) := fn1 (wcmp m n)
theorem wsign_fn (n : Int) : Fn 48 [] [wv n] (.int .i64 (cmpI n 0)) := fn1 (wsign n)
theorem wof_fn (n : Int) (h : I64 n) : Fn 51 [] [.int .i64 n] (wv n) := fn1 fun w => liv_of n w h
theorem wsub_yes (m n : Int) (hm : W128 m) (hn : W128 n) (h : W128 (m - n)) : Fn 130 [] [wv m, wv n] (.tuple #[wv (m - n), .int .i64 0]) := fun w _ => (wsub m n w hm hn).mono fun e w' ⟨h1, h2⟩ => ⟨by rw [h1, thi_yes h, tlo_yes h, ter_yes h], h2⟩
theorem wsub_no (m n : Int) (hm : W128 m) (hn : W128 n) (h : ¬ W128 (m - n)) : Fn 130 [] [wv m, wv n] (.tuple #[.agg #[.int .i64 0, .int .u64 0], .int .i64 2]) := fun w _ => (wsub m n w hm hn).mono fun e w' ⟨h1, h2⟩ => ⟨by rw [h1, thi_no h, tlo_no h, ter_no h], h2⟩
theorem wsub_any (m n : Int) (hm : W128 m) (hn : W128 n) : Fn 130 [] [wv m, wv n] (.tuple #[.agg #[.int .i64 (thi (m - n)), .int .u64 (tlo (m - n))], .int .i64 (ter (m - n))]) := fun w _ => wsub m n w hm hn
theorem wadd_yes (m n : Int) (hm : W128 m) (hn : W128 n) (h : W128 (m + n)) : Fn 129 [] [wv m, wv n] (.tuple #[wv (m + n), .int .i64 0]) := fun w _ => (wadd m n w hm hn).mono fun e w' ⟨h1, h2⟩ => ⟨by rw [h1, thi_yes h, tlo_yes h, ter_yes h], h2⟩
theorem wadd_no (m n : Int) (hm : W128 m) (hn : W128 n) (h : ¬ W128 (m + n)) : Fn 129 [] [wv m, wv n] (.tuple #[.agg #[.int .i64 0, .int .u64 0], .int .i64 2]) := fun w _ => (wadd m n w hm hn).mono fun e w' ⟨h1, h2⟩ => ⟨by rw [h1, thi_no h, tlo_no h, ter_no h], h2⟩
theorem wadd_any (m n : Int) (hm : W128 m) (hn : W128 n) : Fn 129 [] [wv m, wv n] (.tuple #[.agg #[.int .i64 (thi (m + n)), .int .u64 (tlo (m + n))], .int .i64 (ter (m + n))]) := fun w _ => wadd m n w hm hn
theorem wneg_yes (n : Int) (hn : W128 n) (h : W128 (-n)) : Fn 140 [] [wv n] (.tuple #[wv (-n), .int .i64 0]) := fun w _ => (wneg n w hn).mono fun e w' ⟨h1, h2⟩ => ⟨by rw [h1, thi_yes h, tlo_yes h, ter_yes h], h2⟩
theorem wneg_no (n : Int) (hn : W128 n) (h : ¬ W128 (-n)) : Fn 140 [] [wv n] (.tuple #[.agg #[.int .i64 0, .int .u64 0], .int .i64 2]) := fun w _ => (wneg n w hn).mono fun e w' ⟨h1, h2⟩ => ⟨by rw [h1, thi_no h, tlo_no h, ter_no h], h2⟩
theorem retF_yes {w w' : World} {b q r : Int} {e : Ending} (h0 : b ≠ 0) (h : W128 q) (k : RetF w b q r e w') : e = .returned (.tuple #[wv q, wv r, .int .i64 0]) ∧ Below w.heap.size w w' := by
  obtain ⟨h1, h2⟩ := k
  refine ⟨?_, h2⟩
  rw [h1, thi_yes h, tlo_yes h]; unfold z0 qh ql er; rw [ter_yes h]; simp only [if_neg h0, if_pos h]
theorem retF_no {w w' : World} {b q r : Int} {e : Ending} (h0 : b ≠ 0) (h : ¬ W128 q) (k : RetF w b q r e w') : e = .returned (.tuple #[.agg #[.int .i64 0, .int .u64 0], .agg #[.int .i64 0, .int .u64 0], .int .i64 2]) ∧ Below w.heap.size w w' := by
  obtain ⟨h1, h2⟩ := k
  refine ⟨?_, h2⟩
  rw [h1, thi_no h, tlo_no h]; unfold z0 qh ql er; rw [ter_no h]; simp only [if_neg h0, if_neg h]
theorem retF_zero {w w' : World} {q r : Int} {e : Ending} (k : RetF w 0 q r e w') : e = .returned (.tuple #[.agg #[.int .i64 0, .int .u64 0], .agg #[.int .i64 0, .int .u64 0], .int .i64 3]) ∧ Below w.heap.size w w' := by
  obtain ⟨h1, h2⟩ := k
  exact ⟨h1, h2⟩
theorem dfloor_yes (a b : Int) (ha : W128 a) (hb : W128 b) (h0 : b ≠ 0) (h : W128 (a.fdiv b)) : Fn 178 [] [wv a, wv b] (.tuple #[wv (a.fdiv b), wv (a.fmod b), .int .i64 0]) := fun w _ => (dfloor_any a b w ha hb).mono fun e w' k => retF_yes h0 h k
theorem dfloor_no (a b : Int) (ha : W128 a) (hb : W128 b) (h0 : b ≠ 0) (h : ¬ W128 (a.fdiv b)) : Fn 178 [] [wv a, wv b] (.tuple #[.agg #[.int .i64 0, .int .u64 0], .agg #[.int .i64 0, .int .u64 0], .int .i64 2]) := fun w _ => (dfloor_any a b w ha hb).mono fun e w' k => retF_no h0 h k
theorem dfloor_zero (a : Int) (ha : W128 a) : Fn 178 [] [wv a, wv 0] (.tuple #[.agg #[.int .i64 0, .int .u64 0], .agg #[.int .i64 0, .int .u64 0], .int .i64 3]) := fun w _ => (dfloor_any a 0 w ha (by unfold W128; omega)).mono fun e w' k => retF_zero k
theorem dtrunc_yes (a b : Int) (ha : W128 a) (hb : W128 b) (h0 : b ≠ 0) (h : W128 (a.tdiv b)) : Fn 135 [] [wv a, wv b] (.tuple #[wv (a.tdiv b), wv (a.tmod b), .int .i64 0]) := fun w _ => (dtrunc_any a b w ha hb).mono fun e w' k => retF_yes h0 h k
theorem dtrunc_no (a b : Int) (ha : W128 a) (hb : W128 b) (h0 : b ≠ 0) (h : ¬ W128 (a.tdiv b)) : Fn 135 [] [wv a, wv b] (.tuple #[.agg #[.int .i64 0, .int .u64 0], .agg #[.int .i64 0, .int .u64 0], .int .i64 2]) := fun w _ => (dtrunc_any a b w ha hb).mono fun e w' k => retF_no h0 h k
theorem dtrunc_zero (a : Int) (ha : W128 a) : Fn 135 [] [wv a, wv 0] (.tuple #[.agg #[.int .i64 0, .int .u64 0], .agg #[.int .i64 0, .int .u64 0], .int .i64 3]) := fun w _ => (dtrunc_any a 0 w ha (by unfold W128; omega)).mono fun e w' k => retF_zero k
/-! the reference's numbers -/
theorem zret {w w' : World} {n : Int} {e : Ending} (h : RetZ w n e w') : ∃ q : ZQ, e = .returned (zv q) ∧ Below w.heap.size w w' ∧ ZAll [(q, n)] w' := by
  obtain ⟨s, a, l, c, he, hz, hb⟩ := h
  exact ⟨⟨s, a, l, c⟩, he, hb, zall_one hz⟩
theorem zretZ {w w' : World} {m n : Int} {e : Ending} (h : RetZZ w m n e w') : ∃ q : ZQ × ZQ, e = .returned (.tuple #[zv q.1, zv q.2]) ∧ Below w.heap.size w w' ∧ ZAll [(q.1, m), (q.2, n)] w' := by
  obtain ⟨s, a, l, c, s2, a2, l2, c2, he, hz, hz2, hb⟩ := h
  exact ⟨(⟨s, a, l, c⟩, ⟨s2, a2, l2, c2⟩), he, hb, zall_two hz hz2⟩
section
variable {w : World} {p q : ZQ} {x y : Int}
theorem one_z (h : ZAll [(p, x)] w) : IsZ w p.n (.slice p.a p.l p.c) x := h (p, x) (by simp)
theorem two_z (h : ZAll [(p, x), (q, y)] w) : IsZ w p.n (.slice p.a p.l p.c) x ∧ IsZ w q.n (.slice q.a q.l q.c) y := ⟨h (p, x) (by simp), h (q, y) (by simp)⟩
end
theorem fzadd (p q : ZQ) (x y : Int) (hx : Fit x) (hy : Fit y) : FnZ 125 [(p, x), (q, y)] [zv p, zv q] zv (x + y) := fun w h => (add_z _ _ _ _ _ _ _ _ x y w (two_z h).1 (two_z h).2 hx hy).mono fun _ _ => zret
theorem fzsub (p q : ZQ) (x y : Int) (hx : Fit x) (hy : Fit y) : FnZ 46 [(p, x), (q, y)] [zv p, zv q] zv (x - y) := fun w h => (sub_z _ _ _ _ _ _ _ _ x y w (two_z h).1 (two_z h).2 hx hy).mono fun _ _ => zret
theorem fzmul (p q : ZQ) (x y : Int) (hx : Fit x) (hy : Fit y) : FnZ 112 [(p, x), (q, y)] [zv p, zv q] zv (x * y) := fun w h => (mul_z _ _ _ _ _ _ _ _ x y w (two_z h).1 (two_z h).2 hx hy).mono fun _ _ => zret
theorem fzneg (p : ZQ) (x : Int) (hx : Fit x) : FnZ 128 [(p, x)] [zv p] zv (-x) := fun w h => (neg_any _ _ _ _ x w (one_z h) hx).mono fun _ _ => zret
theorem fzabs (p : ZQ) (x : Int) (hx : Fit x) : FnZ 136 [(p, x)] [zv p] zv (x.natAbs : Int) := fun w h => (abs_any _ _ _ _ x w (one_z h) hx).mono fun _ _ => zret
theorem fzcmp (p q : ZQ) (x y : Int) (hx : Fit x) (hy : Fit y) : Fn 45 [(p, x), (q, y)] [zv p, zv q] (.int .i64 (cmpI x y)) := fun w h => cmp_z _ _ _ _ _ _ _ _ x y w (two_z h).1 (two_z h).2 hx hy
theorem fzsign (p : ZQ) (x : Int) (hx : Fit x) : Fn 146 [(p, x)] [zv p] (.int .i64 (cmpI x 0)) := fun w h => sign_z _ _ _ _ x w (one_z h) hx
theorem fzdiv (p q : ZQ) (x y : Int) (hx : Bits 1000 x) (hy : Bits 1000 y) (h0 : y ≠ 0) : FnZZ 122 [(p, x), (q, y)] [zv p, zv q] (fun q => .tuple #[zv q.1, zv q.2]) (x.fdiv y) (x.fmod y) := fun w h => (div_z _ _ _ _ _ _ _ _ x y w (two_z h).1 (two_z h).2 1000 (by omega) hx hy h0).mono fun _ _ => zretZ
theorem fzofu (n : Int) (h0 : 0 ≤ n) (h1 : n < 18446744073709551616) : FnZ 127 [] [.int .u64 n] zv n := fun w h => (ofu_any n w h0 h1).mono fun _ _ => zret
theorem fzint (n : Int) (h : I64 n) : FnZ 109 [] [.int .i64 n] zv n := fun w _ => (of_any n w h.1 h.2).mono fun _ _ => zret
theorem frof (n : Int) (h : W128 n) : FnZ 35 [] [wv n] zv n := fun w _ => (ofw n w h).mono fun _ _ => zret
theorem frtold_yes (p : ZQ) (x : Int) (hx : Bits 1000 x) (h : W128 x) : Fn 203 [(p, x)] [zv p] (.tuple #[wv x, .int .i64 0]) := fun w k => (told_any _ _ _ _ x w (one_z k) hx).mono fun e w' ⟨h1, h2⟩ => ⟨by rw [h1, thi_yes h, tlo_yes h, ter_yes h], h2⟩
theorem frtold_no (p : ZQ) (x : Int) (hx : Bits 1000 x) (h : ¬ W128 x) : Fn 203 [(p, x)] [zv p] (.tuple #[.agg #[.int .i64 0, .int .u64 0], .int .i64 2]) := fun w k => (told_any _ _ _ _ x w (one_z k) hx).mono fun e w' ⟨h1, h2⟩ => ⟨by rw [h1, thi_no h, tlo_no h, ter_no h], h2⟩
theorem frtold_any (p : ZQ) (x : Int) (hx : Bits 1000 x) : Fn 203 [(p, x)] [zv p] (.tuple #[.agg #[.int .i64 (thi x), .int .u64 (tlo x)], .int .i64 (ter x)]) := fun w k => told_any _ _ _ _ x w (one_z k) hx
end Go.Proofs.Ytcndfpfjckkinaa
