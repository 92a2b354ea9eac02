/-
  The reference's Near: a fraction rounded, by definition.
-/
import Derived.Test.YtcndfpfjckkinaaRnd
set_option linter.unusedVariables false
set_option maxRecDepth 100000
namespace Go.Proofs.Ytcndfpfjckkinaa
open Go Go.RowKit Go.Ev

theorem z_zero {w : World} {q : ZQ} {x : Int} (h : ZOf q x w) : q.l = 0 ↔ x = 0 := (isZ_sign h).1
theorem z_dig {w : World} {q : ZQ} {x : Int} (h : ZOf q x w) (hx : x ≠ 0) : ∃ b off, q.a = some ⟨b, off, none⟩ ∧ w.cell? ⟨b, off, none⟩ = some (.int .i64 ((x.natAbs : Int) % 65536)) ∧ 0 < q.l := by
  have hz := z_zero h
  obtain ⟨ds, ⟨a, cap, b, off, e, h1, h2, h3⟩, hd, ht, hn, hneg⟩ := h
  simp only [Value.slice.injEq] at e
  obtain ⟨ea, el, ec⟩ := e
  have hl : 0 < ds.length := by
    rcases Nat.eq_zero_or_pos ds.length with h0 | h0
    · exact absurd (hz.1 (by rw [el]; exact h0)) hx
    · exact h0
  obtain ⟨e1, -⟩ := h2 hl
  refine ⟨b, off, by rw [ea, e1], ?_, by omega⟩
  have h4 := h3 0 hl
  rw [Nat.add_zero] at h4
  rw [h4]
  congr 2
  have hv := val_nonneg hd
  have hab : (x.natAbs : Int) = val ds := by
    rw [hn]; unfold sgn; split <;> omega
  rw [hab]
  cases ds with
  | nil => simp at hl
  | cons d ds =>
    have h0 := hd 0
    simp only [dg_eq, List.getD_cons_zero] at h0 ⊢
    simp only [val]
    omega
theorem idx0 {a : Option Addr} {l c b off : Nat} (ha : a = some ⟨b, off, none⟩) (hl : 0 < l) (w : World) : (Instr.indexAt 45 (.slice a l c) (.int .i64 0)).run Try.prog w = .ok (.pointer (some ⟨b, off, none⟩)) w := by
  have hu : Try.prog.underlying 45 = some (.slice 3) := by kernel_rfl
  have hs : (sizeOf 3).run Try.prog w = .ok 1 w := pureOf_run (P := Try.prog) (by kernel_rfl) w
  have h1 : (0 : Int) ≤ 0 ∧ (0 : Int) < (l : Int) := ⟨Int.le_refl 0, by omega⟩
  subst ha
  simp only [Instr.indexAt, asIntOf, Sem.run_bind, Sem.run_pure, Result.andThen_ok, run_underlying hu w, h1, and_self, if_true, hs]
  rfl
theorem cell_of {w : World} {q : ZQ} {x : Int} {b off : Nat} (h : ZOf q x w) (hx : x ≠ 0) (ha : q.a = some ⟨b, off, none⟩) : w.cell? ⟨b, off, none⟩ = some (.int .i64 ((x.natAbs : Int) % 65536)) := by
  obtain ⟨b', off', e, hc, -⟩ := z_dig h hx
  rw [ha] at e
  simp only [Option.some.injEq, Addr.mk.injEq] at e
  obtain ⟨rfl, rfl, -⟩ := e
  exact hc
theorem z_pure {w : World} {q : ZQ} {x : Int} (h : ZOf q x w) : (x = 0 → (q.l : Int) = 0) ∧ (x ≠ 0 → (q.l : Int) ≠ 0 ∧ ∃ b off, q.a = some ⟨b, off, none⟩ ∧ 0 < q.l) := by
  refine ⟨fun k => by have := (z_zero h).2 k; omega, fun k => ?_⟩
  obtain ⟨b, off, e, _, hl⟩ := z_dig h k
  exact ⟨by omega, b, off, e, hl⟩
theorem dig_even {x : Int} (h : x % 2 = 0) : (((x.natAbs : Int) % 65536).tmod 2 == 0) = true := by
  rw [Int.tmod_eq_emod_of_nonneg (by omega), beq_iff_eq]; omega
theorem dig_odd {x : Int} (h : ¬ x % 2 = 0) : (((x.natAbs : Int) % 65536).tmod 2 == 0) = false := by
  rw [Int.tmod_eq_emod_of_nonneg (by omega), beq_eq_false_iff_ne]; omega
theorem half_cmp (r d : Int) : cmpI (r + r) d = cmpI r (d - r) := by unfold cmpI; split <;> split <;> (try split) <;> (try split) <;> omega
theorem near_zero (p q : ZQ) (x y mode : Int) (hx : Bits 200 x) (hy : Bits 200 y) (h0 : 0 < y) (h1 : 1 ≤ mode) (h2 : mode ≤ 9) (hr : x.fmod y = 0) (e : x.fdiv y = nearQ x y mode) :
    FnZ 108 [(p, x), (q, y)] [zv p, zv q, .int .i64 mode] (fun z => .tuple #[zv z, .bool true]) (nearQ x y mode) := by
  have hc : cmpI (x.fmod y) 0 = 0 := by rw [hr]; rfl
  have hne : y ≠ 0 := by omega
  refine fnG_of Try.func108 rfl fun ww => ?_
  refine st_b 15 (show (decide (mode < 1)) = false by exact decide_eq_false (by omega)) (by kernel_rfl) ?_
  refine st_b 18 (show (decide (mode > 9)) = false by exact decide_eq_false (by omega)) (by kernel_rfl) ?_
  refine st_g ent122 (fzdiv (p) (q) (x) (y) (by exact Bits.mono hx (by decide)) (by exact Bits.mono hy (by decide)) (by assumption)) (subC 0 rfl (subC 1 rfl sub0)) (by kernel_rfl) (fun zq0 => ?_)
  refine st_fn ent146 (fzsign (zq0.snd) (x.fmod y) (by exact Bits.fit (fmod_b hy (by first | assumption | omega)) (by decide))) (subC 1 rfl sub0) (by kernel_rfl) ?_
  refine st_b 29 (show (cmpI (x.fmod y) 0 == 0) = true by exact decide_eq_true (by omega)) (by kernel_rfl) ?_
  exact st_retG (zq0.fst) Try.func108 (subE 0 rfl (by omega) sub0) (by kernel_rfl)
theorem near_no (p q : ZQ) (x y mode : Int) (h : mode < 1 ∨ 9 < mode) : Fn 108 [] [zv p, zv q, .int .i64 mode] (.tuple #[.agg #[.bool false, .slice none 0 0], .bool false]) := by
  by_cases k : mode < 1
  · refine fn_of Try.func108 rfl fun ww => ?_
    refine st_b 15 (show (decide (mode < 1)) = true by exact decide_eq_true (by omega)) (by kernel_rfl) ?_
    exact st_ret Try.func108 (by kernel_rfl)
  · refine fn_of Try.func108 rfl fun ww => ?_
    refine st_b 15 (show (decide (mode < 1)) = false by exact decide_eq_false (by omega)) (by kernel_rfl) ?_
    refine st_b 18 (show (decide (mode > 9)) = true by exact decide_eq_true (by omega)) (by kernel_rfl) ?_
    exact st_ret Try.func108 (by kernel_rfl)
theorem near_1n (p q : ZQ) (x y : Int) (hx : Bits 200 x) (hy : Bits 200 y) (h0 : 0 < y) (hne : y ≠ 0) (hc : cmpI (x.fmod y) 0 = 1) (hs : cmpI x 0 = -1)  (e : x.fdiv y + 1 = nearQ x y 1) :
    FnZ 108 [(p, x), (q, y)] [zv p, zv q, .int .i64 1] (fun z => .tuple #[zv z, .bool true]) (nearQ x y 1) := by
  refine fnG_of Try.func108 rfl fun ww => ?_
  refine st_g ent122 (fzdiv (p) (q) (x) (y) (by exact Bits.mono hx (by decide)) (by exact Bits.mono hy (by decide)) (by assumption)) (subC 0 rfl (subC 1 rfl sub0)) (by kernel_rfl) (fun zq0 => ?_)
  refine st_fn ent146 (fzsign (zq0.snd) (x.fmod y) (by exact Bits.fit (fmod_b hy (by first | assumption | omega)) (by decide))) (subC 1 rfl sub0) (by kernel_rfl) ?_
  refine st_b 29 (show (cmpI (x.fmod y) 0 == 0) = false by exact decide_eq_false (by omega)) (by kernel_rfl) ?_
  refine st_g ent127 (fzofu (1) (by omega) (by omega)) sub0 (by kernel_rfl) (fun zq2 => ?_)
  refine st_g ent125 (fzadd (zq0.fst) (zq2) (x.fdiv y) (1) (by exact Bits.fit (fdiv_b hx (by first | assumption | omega)) (by decide)) (by exact Bits.fit (show Bits 64 (1) from (by unfold Bits; decide)) (by decide))) (subC 1 rfl (subC 0 rfl sub0)) (by kernel_rfl) (fun zq3 => ?_)
  refine st_fn ent146 (fzsign (p) (x) (by exact Bits.fit hx (by decide))) (subC 4 rfl sub0) (by kernel_rfl) ?_
  refine st_b 38 (show (decide (cmpI x 0 < 0)) = true by exact decide_eq_true (by omega)) (by kernel_rfl) ?_
  refine st_g ent125 (fzadd (zq0.snd) (zq0.snd) (x.fmod y) (x.fmod y) (by exact Bits.fit (fmod_b hy (by first | assumption | omega)) (by decide)) (by exact Bits.fit (fmod_b hy (by first | assumption | omega)) (by decide))) (subC 3 rfl (subC 3 rfl sub0)) (by kernel_rfl) (fun zq5 => ?_)
  refine st_fn ent45 (fzcmp (zq5) (q) (x.fmod y + x.fmod y) (y) (by exact Bits.fit (Bits.add (Bits.mono (l := 200) (fmod_b hy (by first | assumption | omega)) (by decide)) (Bits.mono (l := 200) (fmod_b hy (by first | assumption | omega)) (by decide))) (by decide)) (by exact Bits.fit hy (by decide))) (subC 0 rfl (subC 6 rfl sub0)) (by kernel_rfl) ?_
  exact st_retG (zq3) Try.func108 (subE 1 rfl (by omega) sub0) (by kernel_rfl)
theorem near_1p (p q : ZQ) (x y : Int) (hx : Bits 200 x) (hy : Bits 200 y) (h0 : 0 < y) (hne : y ≠ 0) (hc : cmpI (x.fmod y) 0 = 1) (hs : 0 ≤ cmpI x 0)  (e : x.fdiv y + 1 = nearQ x y 1) :
    FnZ 108 [(p, x), (q, y)] [zv p, zv q, .int .i64 1] (fun z => .tuple #[zv z, .bool true]) (nearQ x y 1) := by
  refine fnG_of Try.func108 rfl fun ww => ?_
  refine st_g ent122 (fzdiv (p) (q) (x) (y) (by exact Bits.mono hx (by decide)) (by exact Bits.mono hy (by decide)) (by assumption)) (subC 0 rfl (subC 1 rfl sub0)) (by kernel_rfl) (fun zq0 => ?_)
  refine st_fn ent146 (fzsign (zq0.snd) (x.fmod y) (by exact Bits.fit (fmod_b hy (by first | assumption | omega)) (by decide))) (subC 1 rfl sub0) (by kernel_rfl) ?_
  refine st_b 29 (show (cmpI (x.fmod y) 0 == 0) = false by exact decide_eq_false (by omega)) (by kernel_rfl) ?_
  refine st_g ent127 (fzofu (1) (by omega) (by omega)) sub0 (by kernel_rfl) (fun zq2 => ?_)
  refine st_g ent125 (fzadd (zq0.fst) (zq2) (x.fdiv y) (1) (by exact Bits.fit (fdiv_b hx (by first | assumption | omega)) (by decide)) (by exact Bits.fit (show Bits 64 (1) from (by unfold Bits; decide)) (by decide))) (subC 1 rfl (subC 0 rfl sub0)) (by kernel_rfl) (fun zq3 => ?_)
  refine st_fn ent146 (fzsign (p) (x) (by exact Bits.fit hx (by decide))) (subC 4 rfl sub0) (by kernel_rfl) ?_
  refine st_b 38 (show (decide (cmpI x 0 < 0)) = false by exact decide_eq_false (by omega)) (by kernel_rfl) ?_
  refine st_g ent125 (fzadd (zq0.snd) (zq0.snd) (x.fmod y) (x.fmod y) (by exact Bits.fit (fmod_b hy (by first | assumption | omega)) (by decide)) (by exact Bits.fit (fmod_b hy (by first | assumption | omega)) (by decide))) (subC 3 rfl (subC 3 rfl sub0)) (by kernel_rfl) (fun zq5 => ?_)
  refine st_fn ent45 (fzcmp (zq5) (q) (x.fmod y + x.fmod y) (y) (by exact Bits.fit (Bits.add (Bits.mono (l := 200) (fmod_b hy (by first | assumption | omega)) (by decide)) (Bits.mono (l := 200) (fmod_b hy (by first | assumption | omega)) (by decide))) (by decide)) (by exact Bits.fit hy (by decide))) (subC 0 rfl (subC 6 rfl sub0)) (by kernel_rfl) ?_
  exact st_retG (zq3) Try.func108 (subE 1 rfl (by omega) sub0) (by kernel_rfl)
theorem near_2n (p q : ZQ) (x y : Int) (hx : Bits 200 x) (hy : Bits 200 y) (h0 : 0 < y) (hne : y ≠ 0) (hc : cmpI (x.fmod y) 0 = 1) (hs : cmpI x 0 = -1)  (e : x.fdiv y = nearQ x y 2) :
    FnZ 108 [(p, x), (q, y)] [zv p, zv q, .int .i64 2] (fun z => .tuple #[zv z, .bool true]) (nearQ x y 2) := by
  refine fnG_of Try.func108 rfl fun ww => ?_
  refine st_g ent122 (fzdiv (p) (q) (x) (y) (by exact Bits.mono hx (by decide)) (by exact Bits.mono hy (by decide)) (by assumption)) (subC 0 rfl (subC 1 rfl sub0)) (by kernel_rfl) (fun zq0 => ?_)
  refine st_fn ent146 (fzsign (zq0.snd) (x.fmod y) (by exact Bits.fit (fmod_b hy (by first | assumption | omega)) (by decide))) (subC 1 rfl sub0) (by kernel_rfl) ?_
  refine st_b 29 (show (cmpI (x.fmod y) 0 == 0) = false by exact decide_eq_false (by omega)) (by kernel_rfl) ?_
  refine st_g ent127 (fzofu (1) (by omega) (by omega)) sub0 (by kernel_rfl) (fun zq2 => ?_)
  refine st_g ent125 (fzadd (zq0.fst) (zq2) (x.fdiv y) (1) (by exact Bits.fit (fdiv_b hx (by first | assumption | omega)) (by decide)) (by exact Bits.fit (show Bits 64 (1) from (by unfold Bits; decide)) (by decide))) (subC 1 rfl (subC 0 rfl sub0)) (by kernel_rfl) (fun zq3 => ?_)
  refine st_fn ent146 (fzsign (p) (x) (by exact Bits.fit hx (by decide))) (subC 4 rfl sub0) (by kernel_rfl) ?_
  refine st_b 38 (show (decide (cmpI x 0 < 0)) = true by exact decide_eq_true (by omega)) (by kernel_rfl) ?_
  refine st_g ent125 (fzadd (zq0.snd) (zq0.snd) (x.fmod y) (x.fmod y) (by exact Bits.fit (fmod_b hy (by first | assumption | omega)) (by decide)) (by exact Bits.fit (fmod_b hy (by first | assumption | omega)) (by decide))) (subC 3 rfl (subC 3 rfl sub0)) (by kernel_rfl) (fun zq5 => ?_)
  refine st_fn ent45 (fzcmp (zq5) (q) (x.fmod y + x.fmod y) (y) (by exact Bits.fit (Bits.add (Bits.mono (l := 200) (fmod_b hy (by first | assumption | omega)) (by decide)) (Bits.mono (l := 200) (fmod_b hy (by first | assumption | omega)) (by decide))) (by decide)) (by exact Bits.fit hy (by decide))) (subC 0 rfl (subC 6 rfl sub0)) (by kernel_rfl) ?_
  exact st_retG (zq0.fst) Try.func108 (subE 3 rfl (by omega) sub0) (by kernel_rfl)
theorem near_2p (p q : ZQ) (x y : Int) (hx : Bits 200 x) (hy : Bits 200 y) (h0 : 0 < y) (hne : y ≠ 0) (hc : cmpI (x.fmod y) 0 = 1) (hs : 0 ≤ cmpI x 0)  (e : x.fdiv y = nearQ x y 2) :
    FnZ 108 [(p, x), (q, y)] [zv p, zv q, .int .i64 2] (fun z => .tuple #[zv z, .bool true]) (nearQ x y 2) := by
  refine fnG_of Try.func108 rfl fun ww => ?_
  refine st_g ent122 (fzdiv (p) (q) (x) (y) (by exact Bits.mono hx (by decide)) (by exact Bits.mono hy (by decide)) (by assumption)) (subC 0 rfl (subC 1 rfl sub0)) (by kernel_rfl) (fun zq0 => ?_)
  refine st_fn ent146 (fzsign (zq0.snd) (x.fmod y) (by exact Bits.fit (fmod_b hy (by first | assumption | omega)) (by decide))) (subC 1 rfl sub0) (by kernel_rfl) ?_
  refine st_b 29 (show (cmpI (x.fmod y) 0 == 0) = false by exact decide_eq_false (by omega)) (by kernel_rfl) ?_
  refine st_g ent127 (fzofu (1) (by omega) (by omega)) sub0 (by kernel_rfl) (fun zq2 => ?_)
  refine st_g ent125 (fzadd (zq0.fst) (zq2) (x.fdiv y) (1) (by exact Bits.fit (fdiv_b hx (by first | assumption | omega)) (by decide)) (by exact Bits.fit (show Bits 64 (1) from (by unfold Bits; decide)) (by decide))) (subC 1 rfl (subC 0 rfl sub0)) (by kernel_rfl) (fun zq3 => ?_)
  refine st_fn ent146 (fzsign (p) (x) (by exact Bits.fit hx (by decide))) (subC 4 rfl sub0) (by kernel_rfl) ?_
  refine st_b 38 (show (decide (cmpI x 0 < 0)) = false by exact decide_eq_false (by omega)) (by kernel_rfl) ?_
  refine st_g ent125 (fzadd (zq0.snd) (zq0.snd) (x.fmod y) (x.fmod y) (by exact Bits.fit (fmod_b hy (by first | assumption | omega)) (by decide)) (by exact Bits.fit (fmod_b hy (by first | assumption | omega)) (by decide))) (subC 3 rfl (subC 3 rfl sub0)) (by kernel_rfl) (fun zq5 => ?_)
  refine st_fn ent45 (fzcmp (zq5) (q) (x.fmod y + x.fmod y) (y) (by exact Bits.fit (Bits.add (Bits.mono (l := 200) (fmod_b hy (by first | assumption | omega)) (by decide)) (Bits.mono (l := 200) (fmod_b hy (by first | assumption | omega)) (by decide))) (by decide)) (by exact Bits.fit hy (by decide))) (subC 0 rfl (subC 6 rfl sub0)) (by kernel_rfl) ?_
  exact st_retG (zq0.fst) Try.func108 (subE 3 rfl (by omega) sub0) (by kernel_rfl)
theorem near_3n (p q : ZQ) (x y : Int) (hx : Bits 200 x) (hy : Bits 200 y) (h0 : 0 < y) (hne : y ≠ 0) (hc : cmpI (x.fmod y) 0 = 1) (hs : cmpI x 0 = -1)  (e : x.fdiv y = nearQ x y 3) :
    FnZ 108 [(p, x), (q, y)] [zv p, zv q, .int .i64 3] (fun z => .tuple #[zv z, .bool true]) (nearQ x y 3) := by
  refine fnG_of Try.func108 rfl fun ww => ?_
  refine st_g ent122 (fzdiv (p) (q) (x) (y) (by exact Bits.mono hx (by decide)) (by exact Bits.mono hy (by decide)) (by assumption)) (subC 0 rfl (subC 1 rfl sub0)) (by kernel_rfl) (fun zq0 => ?_)
  refine st_fn ent146 (fzsign (zq0.snd) (x.fmod y) (by exact Bits.fit (fmod_b hy (by first | assumption | omega)) (by decide))) (subC 1 rfl sub0) (by kernel_rfl) ?_
  refine st_b 29 (show (cmpI (x.fmod y) 0 == 0) = false by exact decide_eq_false (by omega)) (by kernel_rfl) ?_
  refine st_g ent127 (fzofu (1) (by omega) (by omega)) sub0 (by kernel_rfl) (fun zq2 => ?_)
  refine st_g ent125 (fzadd (zq0.fst) (zq2) (x.fdiv y) (1) (by exact Bits.fit (fdiv_b hx (by first | assumption | omega)) (by decide)) (by exact Bits.fit (show Bits 64 (1) from (by unfold Bits; decide)) (by decide))) (subC 1 rfl (subC 0 rfl sub0)) (by kernel_rfl) (fun zq3 => ?_)
  refine st_fn ent146 (fzsign (p) (x) (by exact Bits.fit hx (by decide))) (subC 4 rfl sub0) (by kernel_rfl) ?_
  refine st_b 38 (show (decide (cmpI x 0 < 0)) = true by exact decide_eq_true (by omega)) (by kernel_rfl) ?_
  refine st_g ent125 (fzadd (zq0.snd) (zq0.snd) (x.fmod y) (x.fmod y) (by exact Bits.fit (fmod_b hy (by first | assumption | omega)) (by decide)) (by exact Bits.fit (fmod_b hy (by first | assumption | omega)) (by decide))) (subC 3 rfl (subC 3 rfl sub0)) (by kernel_rfl) (fun zq5 => ?_)
  refine st_fn ent45 (fzcmp (zq5) (q) (x.fmod y + x.fmod y) (y) (by exact Bits.fit (Bits.add (Bits.mono (l := 200) (fmod_b hy (by first | assumption | omega)) (by decide)) (Bits.mono (l := 200) (fmod_b hy (by first | assumption | omega)) (by decide))) (by decide)) (by exact Bits.fit hy (by decide))) (subC 0 rfl (subC 6 rfl sub0)) (by kernel_rfl) ?_
  exact st_retG (zq0.fst) Try.func108 (subE 3 rfl (by omega) sub0) (by kernel_rfl)
theorem near_3p (p q : ZQ) (x y : Int) (hx : Bits 200 x) (hy : Bits 200 y) (h0 : 0 < y) (hne : y ≠ 0) (hc : cmpI (x.fmod y) 0 = 1) (hs : 0 ≤ cmpI x 0)  (e : x.fdiv y + 1 = nearQ x y 3) :
    FnZ 108 [(p, x), (q, y)] [zv p, zv q, .int .i64 3] (fun z => .tuple #[zv z, .bool true]) (nearQ x y 3) := by
  refine fnG_of Try.func108 rfl fun ww => ?_
  refine st_g ent122 (fzdiv (p) (q) (x) (y) (by exact Bits.mono hx (by decide)) (by exact Bits.mono hy (by decide)) (by assumption)) (subC 0 rfl (subC 1 rfl sub0)) (by kernel_rfl) (fun zq0 => ?_)
  refine st_fn ent146 (fzsign (zq0.snd) (x.fmod y) (by exact Bits.fit (fmod_b hy (by first | assumption | omega)) (by decide))) (subC 1 rfl sub0) (by kernel_rfl) ?_
  refine st_b 29 (show (cmpI (x.fmod y) 0 == 0) = false by exact decide_eq_false (by omega)) (by kernel_rfl) ?_
  refine st_g ent127 (fzofu (1) (by omega) (by omega)) sub0 (by kernel_rfl) (fun zq2 => ?_)
  refine st_g ent125 (fzadd (zq0.fst) (zq2) (x.fdiv y) (1) (by exact Bits.fit (fdiv_b hx (by first | assumption | omega)) (by decide)) (by exact Bits.fit (show Bits 64 (1) from (by unfold Bits; decide)) (by decide))) (subC 1 rfl (subC 0 rfl sub0)) (by kernel_rfl) (fun zq3 => ?_)
  refine st_fn ent146 (fzsign (p) (x) (by exact Bits.fit hx (by decide))) (subC 4 rfl sub0) (by kernel_rfl) ?_
  refine st_b 38 (show (decide (cmpI x 0 < 0)) = false by exact decide_eq_false (by omega)) (by kernel_rfl) ?_
  refine st_g ent125 (fzadd (zq0.snd) (zq0.snd) (x.fmod y) (x.fmod y) (by exact Bits.fit (fmod_b hy (by first | assumption | omega)) (by decide)) (by exact Bits.fit (fmod_b hy (by first | assumption | omega)) (by decide))) (subC 3 rfl (subC 3 rfl sub0)) (by kernel_rfl) (fun zq5 => ?_)
  refine st_fn ent45 (fzcmp (zq5) (q) (x.fmod y + x.fmod y) (y) (by exact Bits.fit (Bits.add (Bits.mono (l := 200) (fmod_b hy (by first | assumption | omega)) (by decide)) (Bits.mono (l := 200) (fmod_b hy (by first | assumption | omega)) (by decide))) (by decide)) (by exact Bits.fit hy (by decide))) (subC 0 rfl (subC 6 rfl sub0)) (by kernel_rfl) ?_
  exact st_retG (zq3) Try.func108 (subE 1 rfl (by omega) sub0) (by kernel_rfl)
theorem near_4n (p q : ZQ) (x y : Int) (hx : Bits 200 x) (hy : Bits 200 y) (h0 : 0 < y) (hne : y ≠ 0) (hc : cmpI (x.fmod y) 0 = 1) (hs : cmpI x 0 = -1)  (e : x.fdiv y + 1 = nearQ x y 4) :
    FnZ 108 [(p, x), (q, y)] [zv p, zv q, .int .i64 4] (fun z => .tuple #[zv z, .bool true]) (nearQ x y 4) := by
  refine fnG_of Try.func108 rfl fun ww => ?_
  refine st_g ent122 (fzdiv (p) (q) (x) (y) (by exact Bits.mono hx (by decide)) (by exact Bits.mono hy (by decide)) (by assumption)) (subC 0 rfl (subC 1 rfl sub0)) (by kernel_rfl) (fun zq0 => ?_)
  refine st_fn ent146 (fzsign (zq0.snd) (x.fmod y) (by exact Bits.fit (fmod_b hy (by first | assumption | omega)) (by decide))) (subC 1 rfl sub0) (by kernel_rfl) ?_
  refine st_b 29 (show (cmpI (x.fmod y) 0 == 0) = false by exact decide_eq_false (by omega)) (by kernel_rfl) ?_
  refine st_g ent127 (fzofu (1) (by omega) (by omega)) sub0 (by kernel_rfl) (fun zq2 => ?_)
  refine st_g ent125 (fzadd (zq0.fst) (zq2) (x.fdiv y) (1) (by exact Bits.fit (fdiv_b hx (by first | assumption | omega)) (by decide)) (by exact Bits.fit (show Bits 64 (1) from (by unfold Bits; decide)) (by decide))) (subC 1 rfl (subC 0 rfl sub0)) (by kernel_rfl) (fun zq3 => ?_)
  refine st_fn ent146 (fzsign (p) (x) (by exact Bits.fit hx (by decide))) (subC 4 rfl sub0) (by kernel_rfl) ?_
  refine st_b 38 (show (decide (cmpI x 0 < 0)) = true by exact decide_eq_true (by omega)) (by kernel_rfl) ?_
  refine st_g ent125 (fzadd (zq0.snd) (zq0.snd) (x.fmod y) (x.fmod y) (by exact Bits.fit (fmod_b hy (by first | assumption | omega)) (by decide)) (by exact Bits.fit (fmod_b hy (by first | assumption | omega)) (by decide))) (subC 3 rfl (subC 3 rfl sub0)) (by kernel_rfl) (fun zq5 => ?_)
  refine st_fn ent45 (fzcmp (zq5) (q) (x.fmod y + x.fmod y) (y) (by exact Bits.fit (Bits.add (Bits.mono (l := 200) (fmod_b hy (by first | assumption | omega)) (by decide)) (Bits.mono (l := 200) (fmod_b hy (by first | assumption | omega)) (by decide))) (by decide)) (by exact Bits.fit hy (by decide))) (subC 0 rfl (subC 6 rfl sub0)) (by kernel_rfl) ?_
  exact st_retG (zq3) Try.func108 (subE 1 rfl (by omega) sub0) (by kernel_rfl)
theorem near_4p (p q : ZQ) (x y : Int) (hx : Bits 200 x) (hy : Bits 200 y) (h0 : 0 < y) (hne : y ≠ 0) (hc : cmpI (x.fmod y) 0 = 1) (hs : 0 ≤ cmpI x 0)  (e : x.fdiv y = nearQ x y 4) :
    FnZ 108 [(p, x), (q, y)] [zv p, zv q, .int .i64 4] (fun z => .tuple #[zv z, .bool true]) (nearQ x y 4) := by
  refine fnG_of Try.func108 rfl fun ww => ?_
  refine st_g ent122 (fzdiv (p) (q) (x) (y) (by exact Bits.mono hx (by decide)) (by exact Bits.mono hy (by decide)) (by assumption)) (subC 0 rfl (subC 1 rfl sub0)) (by kernel_rfl) (fun zq0 => ?_)
  refine st_fn ent146 (fzsign (zq0.snd) (x.fmod y) (by exact Bits.fit (fmod_b hy (by first | assumption | omega)) (by decide))) (subC 1 rfl sub0) (by kernel_rfl) ?_
  refine st_b 29 (show (cmpI (x.fmod y) 0 == 0) = false by exact decide_eq_false (by omega)) (by kernel_rfl) ?_
  refine st_g ent127 (fzofu (1) (by omega) (by omega)) sub0 (by kernel_rfl) (fun zq2 => ?_)
  refine st_g ent125 (fzadd (zq0.fst) (zq2) (x.fdiv y) (1) (by exact Bits.fit (fdiv_b hx (by first | assumption | omega)) (by decide)) (by exact Bits.fit (show Bits 64 (1) from (by unfold Bits; decide)) (by decide))) (subC 1 rfl (subC 0 rfl sub0)) (by kernel_rfl) (fun zq3 => ?_)
  refine st_fn ent146 (fzsign (p) (x) (by exact Bits.fit hx (by decide))) (subC 4 rfl sub0) (by kernel_rfl) ?_
  refine st_b 38 (show (decide (cmpI x 0 < 0)) = false by exact decide_eq_false (by omega)) (by kernel_rfl) ?_
  refine st_g ent125 (fzadd (zq0.snd) (zq0.snd) (x.fmod y) (x.fmod y) (by exact Bits.fit (fmod_b hy (by first | assumption | omega)) (by decide)) (by exact Bits.fit (fmod_b hy (by first | assumption | omega)) (by decide))) (subC 3 rfl (subC 3 rfl sub0)) (by kernel_rfl) (fun zq5 => ?_)
  refine st_fn ent45 (fzcmp (zq5) (q) (x.fmod y + x.fmod y) (y) (by exact Bits.fit (Bits.add (Bits.mono (l := 200) (fmod_b hy (by first | assumption | omega)) (by decide)) (Bits.mono (l := 200) (fmod_b hy (by first | assumption | omega)) (by decide))) (by decide)) (by exact Bits.fit hy (by decide))) (subC 0 rfl (subC 6 rfl sub0)) (by kernel_rfl) ?_
  exact st_retG (zq0.fst) Try.func108 (subE 3 rfl (by omega) sub0) (by kernel_rfl)
theorem near_5nl (p q : ZQ) (x y : Int) (hx : Bits 200 x) (hy : Bits 200 y) (h0 : 0 < y) (hne : y ≠ 0) (hc : cmpI (x.fmod y) 0 = 1) (hs : cmpI x 0 = -1) (hh : cmpI (x.fmod y + x.fmod y) y = -1) (e : x.fdiv y = nearQ x y 5) :
    FnZ 108 [(p, x), (q, y)] [zv p, zv q, .int .i64 5] (fun z => .tuple #[zv z, .bool true]) (nearQ x y 5) := by
  refine fnG_of Try.func108 rfl fun ww => ?_
  refine st_g ent122 (fzdiv (p) (q) (x) (y) (by exact Bits.mono hx (by decide)) (by exact Bits.mono hy (by decide)) (by assumption)) (subC 0 rfl (subC 1 rfl sub0)) (by kernel_rfl) (fun zq0 => ?_)
  refine st_fn ent146 (fzsign (zq0.snd) (x.fmod y) (by exact Bits.fit (fmod_b hy (by first | assumption | omega)) (by decide))) (subC 1 rfl sub0) (by kernel_rfl) ?_
  refine st_b 29 (show (cmpI (x.fmod y) 0 == 0) = false by exact decide_eq_false (by omega)) (by kernel_rfl) ?_
  refine st_g ent127 (fzofu (1) (by omega) (by omega)) sub0 (by kernel_rfl) (fun zq2 => ?_)
  refine st_g ent125 (fzadd (zq0.fst) (zq2) (x.fdiv y) (1) (by exact Bits.fit (fdiv_b hx (by first | assumption | omega)) (by decide)) (by exact Bits.fit (show Bits 64 (1) from (by unfold Bits; decide)) (by decide))) (subC 1 rfl (subC 0 rfl sub0)) (by kernel_rfl) (fun zq3 => ?_)
  refine st_fn ent146 (fzsign (p) (x) (by exact Bits.fit hx (by decide))) (subC 4 rfl sub0) (by kernel_rfl) ?_
  refine st_b 38 (show (decide (cmpI x 0 < 0)) = true by exact decide_eq_true (by omega)) (by kernel_rfl) ?_
  refine st_g ent125 (fzadd (zq0.snd) (zq0.snd) (x.fmod y) (x.fmod y) (by exact Bits.fit (fmod_b hy (by first | assumption | omega)) (by decide)) (by exact Bits.fit (fmod_b hy (by first | assumption | omega)) (by decide))) (subC 3 rfl (subC 3 rfl sub0)) (by kernel_rfl) (fun zq5 => ?_)
  refine st_fn ent45 (fzcmp (zq5) (q) (x.fmod y + x.fmod y) (y) (by exact Bits.fit (Bits.add (Bits.mono (l := 200) (fmod_b hy (by first | assumption | omega)) (by decide)) (Bits.mono (l := 200) (fmod_b hy (by first | assumption | omega)) (by decide))) (by decide)) (by exact Bits.fit hy (by decide))) (subC 0 rfl (subC 6 rfl sub0)) (by kernel_rfl) ?_
  refine st_b 50 (show (decide (cmpI (x.fmod y + x.fmod y) y < 0)) = true by exact decide_eq_true (by omega)) (by kernel_rfl) ?_
  exact st_retG (zq0.fst) Try.func108 (subE 3 rfl (by omega) sub0) (by kernel_rfl)
theorem near_5ng (p q : ZQ) (x y : Int) (hx : Bits 200 x) (hy : Bits 200 y) (h0 : 0 < y) (hne : y ≠ 0) (hc : cmpI (x.fmod y) 0 = 1) (hs : cmpI x 0 = -1) (hh : cmpI (x.fmod y + x.fmod y) y = 1) (e : x.fdiv y + 1 = nearQ x y 5) :
    FnZ 108 [(p, x), (q, y)] [zv p, zv q, .int .i64 5] (fun z => .tuple #[zv z, .bool true]) (nearQ x y 5) := by
  refine fnG_of Try.func108 rfl fun ww => ?_
  refine st_g ent122 (fzdiv (p) (q) (x) (y) (by exact Bits.mono hx (by decide)) (by exact Bits.mono hy (by decide)) (by assumption)) (subC 0 rfl (subC 1 rfl sub0)) (by kernel_rfl) (fun zq0 => ?_)
  refine st_fn ent146 (fzsign (zq0.snd) (x.fmod y) (by exact Bits.fit (fmod_b hy (by first | assumption | omega)) (by decide))) (subC 1 rfl sub0) (by kernel_rfl) ?_
  refine st_b 29 (show (cmpI (x.fmod y) 0 == 0) = false by exact decide_eq_false (by omega)) (by kernel_rfl) ?_
  refine st_g ent127 (fzofu (1) (by omega) (by omega)) sub0 (by kernel_rfl) (fun zq2 => ?_)
  refine st_g ent125 (fzadd (zq0.fst) (zq2) (x.fdiv y) (1) (by exact Bits.fit (fdiv_b hx (by first | assumption | omega)) (by decide)) (by exact Bits.fit (show Bits 64 (1) from (by unfold Bits; decide)) (by decide))) (subC 1 rfl (subC 0 rfl sub0)) (by kernel_rfl) (fun zq3 => ?_)
  refine st_fn ent146 (fzsign (p) (x) (by exact Bits.fit hx (by decide))) (subC 4 rfl sub0) (by kernel_rfl) ?_
  refine st_b 38 (show (decide (cmpI x 0 < 0)) = true by exact decide_eq_true (by omega)) (by kernel_rfl) ?_
  refine st_g ent125 (fzadd (zq0.snd) (zq0.snd) (x.fmod y) (x.fmod y) (by exact Bits.fit (fmod_b hy (by first | assumption | omega)) (by decide)) (by exact Bits.fit (fmod_b hy (by first | assumption | omega)) (by decide))) (subC 3 rfl (subC 3 rfl sub0)) (by kernel_rfl) (fun zq5 => ?_)
  refine st_fn ent45 (fzcmp (zq5) (q) (x.fmod y + x.fmod y) (y) (by exact Bits.fit (Bits.add (Bits.mono (l := 200) (fmod_b hy (by first | assumption | omega)) (by decide)) (Bits.mono (l := 200) (fmod_b hy (by first | assumption | omega)) (by decide))) (by decide)) (by exact Bits.fit hy (by decide))) (subC 0 rfl (subC 6 rfl sub0)) (by kernel_rfl) ?_
  refine st_b 50 (show (decide (cmpI (x.fmod y + x.fmod y) y < 0)) = false by exact decide_eq_false (by omega)) (by kernel_rfl) ?_
  refine st_b 57 (show (decide (cmpI (x.fmod y + x.fmod y) y > 0)) = true by exact decide_eq_true (by omega)) (by kernel_rfl) ?_
  exact st_retG (zq3) Try.func108 (subE 1 rfl (by omega) sub0) (by kernel_rfl)
theorem near_5ne (p q : ZQ) (x y : Int) (hx : Bits 200 x) (hy : Bits 200 y) (h0 : 0 < y) (hne : y ≠ 0) (hc : cmpI (x.fmod y) 0 = 1) (hs : cmpI x 0 = -1) (hh : cmpI (x.fmod y + x.fmod y) y = 0) (e : x.fdiv y + 1 = nearQ x y 5) :
    FnZ 108 [(p, x), (q, y)] [zv p, zv q, .int .i64 5] (fun z => .tuple #[zv z, .bool true]) (nearQ x y 5) := by
  refine fnG_of Try.func108 rfl fun ww => ?_
  refine st_g ent122 (fzdiv (p) (q) (x) (y) (by exact Bits.mono hx (by decide)) (by exact Bits.mono hy (by decide)) (by assumption)) (subC 0 rfl (subC 1 rfl sub0)) (by kernel_rfl) (fun zq0 => ?_)
  refine st_fn ent146 (fzsign (zq0.snd) (x.fmod y) (by exact Bits.fit (fmod_b hy (by first | assumption | omega)) (by decide))) (subC 1 rfl sub0) (by kernel_rfl) ?_
  refine st_b 29 (show (cmpI (x.fmod y) 0 == 0) = false by exact decide_eq_false (by omega)) (by kernel_rfl) ?_
  refine st_g ent127 (fzofu (1) (by omega) (by omega)) sub0 (by kernel_rfl) (fun zq2 => ?_)
  refine st_g ent125 (fzadd (zq0.fst) (zq2) (x.fdiv y) (1) (by exact Bits.fit (fdiv_b hx (by first | assumption | omega)) (by decide)) (by exact Bits.fit (show Bits 64 (1) from (by unfold Bits; decide)) (by decide))) (subC 1 rfl (subC 0 rfl sub0)) (by kernel_rfl) (fun zq3 => ?_)
  refine st_fn ent146 (fzsign (p) (x) (by exact Bits.fit hx (by decide))) (subC 4 rfl sub0) (by kernel_rfl) ?_
  refine st_b 38 (show (decide (cmpI x 0 < 0)) = true by exact decide_eq_true (by omega)) (by kernel_rfl) ?_
  refine st_g ent125 (fzadd (zq0.snd) (zq0.snd) (x.fmod y) (x.fmod y) (by exact Bits.fit (fmod_b hy (by first | assumption | omega)) (by decide)) (by exact Bits.fit (fmod_b hy (by first | assumption | omega)) (by decide))) (subC 3 rfl (subC 3 rfl sub0)) (by kernel_rfl) (fun zq5 => ?_)
  refine st_fn ent45 (fzcmp (zq5) (q) (x.fmod y + x.fmod y) (y) (by exact Bits.fit (Bits.add (Bits.mono (l := 200) (fmod_b hy (by first | assumption | omega)) (by decide)) (Bits.mono (l := 200) (fmod_b hy (by first | assumption | omega)) (by decide))) (by decide)) (by exact Bits.fit hy (by decide))) (subC 0 rfl (subC 6 rfl sub0)) (by kernel_rfl) ?_
  refine st_b 50 (show (decide (cmpI (x.fmod y + x.fmod y) y < 0)) = false by exact decide_eq_false (by omega)) (by kernel_rfl) ?_
  refine st_b 57 (show (decide (cmpI (x.fmod y + x.fmod y) y > 0)) = false by exact decide_eq_false (by omega)) (by kernel_rfl) ?_
  exact st_retG (zq3) Try.func108 (subE 1 rfl (by omega) sub0) (by kernel_rfl)
theorem near_5pl (p q : ZQ) (x y : Int) (hx : Bits 200 x) (hy : Bits 200 y) (h0 : 0 < y) (hne : y ≠ 0) (hc : cmpI (x.fmod y) 0 = 1) (hs : 0 ≤ cmpI x 0) (hh : cmpI (x.fmod y + x.fmod y) y = -1) (e : x.fdiv y = nearQ x y 5) :
    FnZ 108 [(p, x), (q, y)] [zv p, zv q, .int .i64 5] (fun z => .tuple #[zv z, .bool true]) (nearQ x y 5) := by
  refine fnG_of Try.func108 rfl fun ww => ?_
  refine st_g ent122 (fzdiv (p) (q) (x) (y) (by exact Bits.mono hx (by decide)) (by exact Bits.mono hy (by decide)) (by assumption)) (subC 0 rfl (subC 1 rfl sub0)) (by kernel_rfl) (fun zq0 => ?_)
  refine st_fn ent146 (fzsign (zq0.snd) (x.fmod y) (by exact Bits.fit (fmod_b hy (by first | assumption | omega)) (by decide))) (subC 1 rfl sub0) (by kernel_rfl) ?_
  refine st_b 29 (show (cmpI (x.fmod y) 0 == 0) = false by exact decide_eq_false (by omega)) (by kernel_rfl) ?_
  refine st_g ent127 (fzofu (1) (by omega) (by omega)) sub0 (by kernel_rfl) (fun zq2 => ?_)
  refine st_g ent125 (fzadd (zq0.fst) (zq2) (x.fdiv y) (1) (by exact Bits.fit (fdiv_b hx (by first | assumption | omega)) (by decide)) (by exact Bits.fit (show Bits 64 (1) from (by unfold Bits; decide)) (by decide))) (subC 1 rfl (subC 0 rfl sub0)) (by kernel_rfl) (fun zq3 => ?_)
  refine st_fn ent146 (fzsign (p) (x) (by exact Bits.fit hx (by decide))) (subC 4 rfl sub0) (by kernel_rfl) ?_
  refine st_b 38 (show (decide (cmpI x 0 < 0)) = false by exact decide_eq_false (by omega)) (by kernel_rfl) ?_
  refine st_g ent125 (fzadd (zq0.snd) (zq0.snd) (x.fmod y) (x.fmod y) (by exact Bits.fit (fmod_b hy (by first | assumption | omega)) (by decide)) (by exact Bits.fit (fmod_b hy (by first | assumption | omega)) (by decide))) (subC 3 rfl (subC 3 rfl sub0)) (by kernel_rfl) (fun zq5 => ?_)
  refine st_fn ent45 (fzcmp (zq5) (q) (x.fmod y + x.fmod y) (y) (by exact Bits.fit (Bits.add (Bits.mono (l := 200) (fmod_b hy (by first | assumption | omega)) (by decide)) (Bits.mono (l := 200) (fmod_b hy (by first | assumption | omega)) (by decide))) (by decide)) (by exact Bits.fit hy (by decide))) (subC 0 rfl (subC 6 rfl sub0)) (by kernel_rfl) ?_
  refine st_b 50 (show (decide (cmpI (x.fmod y + x.fmod y) y < 0)) = true by exact decide_eq_true (by omega)) (by kernel_rfl) ?_
  exact st_retG (zq0.fst) Try.func108 (subE 3 rfl (by omega) sub0) (by kernel_rfl)
theorem near_5pg (p q : ZQ) (x y : Int) (hx : Bits 200 x) (hy : Bits 200 y) (h0 : 0 < y) (hne : y ≠ 0) (hc : cmpI (x.fmod y) 0 = 1) (hs : 0 ≤ cmpI x 0) (hh : cmpI (x.fmod y + x.fmod y) y = 1) (e : x.fdiv y + 1 = nearQ x y 5) :
    FnZ 108 [(p, x), (q, y)] [zv p, zv q, .int .i64 5] (fun z => .tuple #[zv z, .bool true]) (nearQ x y 5) := by
  refine fnG_of Try.func108 rfl fun ww => ?_
  refine st_g ent122 (fzdiv (p) (q) (x) (y) (by exact Bits.mono hx (by decide)) (by exact Bits.mono hy (by decide)) (by assumption)) (subC 0 rfl (subC 1 rfl sub0)) (by kernel_rfl) (fun zq0 => ?_)
  refine st_fn ent146 (fzsign (zq0.snd) (x.fmod y) (by exact Bits.fit (fmod_b hy (by first | assumption | omega)) (by decide))) (subC 1 rfl sub0) (by kernel_rfl) ?_
  refine st_b 29 (show (cmpI (x.fmod y) 0 == 0) = false by exact decide_eq_false (by omega)) (by kernel_rfl) ?_
  refine st_g ent127 (fzofu (1) (by omega) (by omega)) sub0 (by kernel_rfl) (fun zq2 => ?_)
  refine st_g ent125 (fzadd (zq0.fst) (zq2) (x.fdiv y) (1) (by exact Bits.fit (fdiv_b hx (by first | assumption | omega)) (by decide)) (by exact Bits.fit (show Bits 64 (1) from (by unfold Bits; decide)) (by decide))) (subC 1 rfl (subC 0 rfl sub0)) (by kernel_rfl) (fun zq3 => ?_)
  refine st_fn ent146 (fzsign (p) (x) (by exact Bits.fit hx (by decide))) (subC 4 rfl sub0) (by kernel_rfl) ?_
  refine st_b 38 (show (decide (cmpI x 0 < 0)) = false by exact decide_eq_false (by omega)) (by kernel_rfl) ?_
  refine st_g ent125 (fzadd (zq0.snd) (zq0.snd) (x.fmod y) (x.fmod y) (by exact Bits.fit (fmod_b hy (by first | assumption | omega)) (by decide)) (by exact Bits.fit (fmod_b hy (by first | assumption | omega)) (by decide))) (subC 3 rfl (subC 3 rfl sub0)) (by kernel_rfl) (fun zq5 => ?_)
  refine st_fn ent45 (fzcmp (zq5) (q) (x.fmod y + x.fmod y) (y) (by exact Bits.fit (Bits.add (Bits.mono (l := 200) (fmod_b hy (by first | assumption | omega)) (by decide)) (Bits.mono (l := 200) (fmod_b hy (by first | assumption | omega)) (by decide))) (by decide)) (by exact Bits.fit hy (by decide))) (subC 0 rfl (subC 6 rfl sub0)) (by kernel_rfl) ?_
  refine st_b 50 (show (decide (cmpI (x.fmod y + x.fmod y) y < 0)) = false by exact decide_eq_false (by omega)) (by kernel_rfl) ?_
  refine st_b 57 (show (decide (cmpI (x.fmod y + x.fmod y) y > 0)) = true by exact decide_eq_true (by omega)) (by kernel_rfl) ?_
  exact st_retG (zq3) Try.func108 (subE 1 rfl (by omega) sub0) (by kernel_rfl)
theorem near_5pe (p q : ZQ) (x y : Int) (hx : Bits 200 x) (hy : Bits 200 y) (h0 : 0 < y) (hne : y ≠ 0) (hc : cmpI (x.fmod y) 0 = 1) (hs : 0 ≤ cmpI x 0) (hh : cmpI (x.fmod y + x.fmod y) y = 0) (e : x.fdiv y + 1 = nearQ x y 5) :
    FnZ 108 [(p, x), (q, y)] [zv p, zv q, .int .i64 5] (fun z => .tuple #[zv z, .bool true]) (nearQ x y 5) := by
  refine fnG_of Try.func108 rfl fun ww => ?_
  refine st_g ent122 (fzdiv (p) (q) (x) (y) (by exact Bits.mono hx (by decide)) (by exact Bits.mono hy (by decide)) (by assumption)) (subC 0 rfl (subC 1 rfl sub0)) (by kernel_rfl) (fun zq0 => ?_)
  refine st_fn ent146 (fzsign (zq0.snd) (x.fmod y) (by exact Bits.fit (fmod_b hy (by first | assumption | omega)) (by decide))) (subC 1 rfl sub0) (by kernel_rfl) ?_
  refine st_b 29 (show (cmpI (x.fmod y) 0 == 0) = false by exact decide_eq_false (by omega)) (by kernel_rfl) ?_
  refine st_g ent127 (fzofu (1) (by omega) (by omega)) sub0 (by kernel_rfl) (fun zq2 => ?_)
  refine st_g ent125 (fzadd (zq0.fst) (zq2) (x.fdiv y) (1) (by exact Bits.fit (fdiv_b hx (by first | assumption | omega)) (by decide)) (by exact Bits.fit (show Bits 64 (1) from (by unfold Bits; decide)) (by decide))) (subC 1 rfl (subC 0 rfl sub0)) (by kernel_rfl) (fun zq3 => ?_)
  refine st_fn ent146 (fzsign (p) (x) (by exact Bits.fit hx (by decide))) (subC 4 rfl sub0) (by kernel_rfl) ?_
  refine st_b 38 (show (decide (cmpI x 0 < 0)) = false by exact decide_eq_false (by omega)) (by kernel_rfl) ?_
  refine st_g ent125 (fzadd (zq0.snd) (zq0.snd) (x.fmod y) (x.fmod y) (by exact Bits.fit (fmod_b hy (by first | assumption | omega)) (by decide)) (by exact Bits.fit (fmod_b hy (by first | assumption | omega)) (by decide))) (subC 3 rfl (subC 3 rfl sub0)) (by kernel_rfl) (fun zq5 => ?_)
  refine st_fn ent45 (fzcmp (zq5) (q) (x.fmod y + x.fmod y) (y) (by exact Bits.fit (Bits.add (Bits.mono (l := 200) (fmod_b hy (by first | assumption | omega)) (by decide)) (Bits.mono (l := 200) (fmod_b hy (by first | assumption | omega)) (by decide))) (by decide)) (by exact Bits.fit hy (by decide))) (subC 0 rfl (subC 6 rfl sub0)) (by kernel_rfl) ?_
  refine st_b 50 (show (decide (cmpI (x.fmod y + x.fmod y) y < 0)) = false by exact decide_eq_false (by omega)) (by kernel_rfl) ?_
  refine st_b 57 (show (decide (cmpI (x.fmod y + x.fmod y) y > 0)) = false by exact decide_eq_false (by omega)) (by kernel_rfl) ?_
  exact st_retG (zq3) Try.func108 (subE 1 rfl (by omega) sub0) (by kernel_rfl)
theorem near_6nl (p q : ZQ) (x y : Int) (hx : Bits 200 x) (hy : Bits 200 y) (h0 : 0 < y) (hne : y ≠ 0) (hc : cmpI (x.fmod y) 0 = 1) (hs : cmpI x 0 = -1) (hh : cmpI (x.fmod y + x.fmod y) y = -1) (e : x.fdiv y = nearQ x y 6) :
    FnZ 108 [(p, x), (q, y)] [zv p, zv q, .int .i64 6] (fun z => .tuple #[zv z, .bool true]) (nearQ x y 6) := by
  refine fnG_of Try.func108 rfl fun ww => ?_
  refine st_g ent122 (fzdiv (p) (q) (x) (y) (by exact Bits.mono hx (by decide)) (by exact Bits.mono hy (by decide)) (by assumption)) (subC 0 rfl (subC 1 rfl sub0)) (by kernel_rfl) (fun zq0 => ?_)
  refine st_fn ent146 (fzsign (zq0.snd) (x.fmod y) (by exact Bits.fit (fmod_b hy (by first | assumption | omega)) (by decide))) (subC 1 rfl sub0) (by kernel_rfl) ?_
  refine st_b 29 (show (cmpI (x.fmod y) 0 == 0) = false by exact decide_eq_false (by omega)) (by kernel_rfl) ?_
  refine st_g ent127 (fzofu (1) (by omega) (by omega)) sub0 (by kernel_rfl) (fun zq2 => ?_)
  refine st_g ent125 (fzadd (zq0.fst) (zq2) (x.fdiv y) (1) (by exact Bits.fit (fdiv_b hx (by first | assumption | omega)) (by decide)) (by exact Bits.fit (show Bits 64 (1) from (by unfold Bits; decide)) (by decide))) (subC 1 rfl (subC 0 rfl sub0)) (by kernel_rfl) (fun zq3 => ?_)
  refine st_fn ent146 (fzsign (p) (x) (by exact Bits.fit hx (by decide))) (subC 4 rfl sub0) (by kernel_rfl) ?_
  refine st_b 38 (show (decide (cmpI x 0 < 0)) = true by exact decide_eq_true (by omega)) (by kernel_rfl) ?_
  refine st_g ent125 (fzadd (zq0.snd) (zq0.snd) (x.fmod y) (x.fmod y) (by exact Bits.fit (fmod_b hy (by first | assumption | omega)) (by decide)) (by exact Bits.fit (fmod_b hy (by first | assumption | omega)) (by decide))) (subC 3 rfl (subC 3 rfl sub0)) (by kernel_rfl) (fun zq5 => ?_)
  refine st_fn ent45 (fzcmp (zq5) (q) (x.fmod y + x.fmod y) (y) (by exact Bits.fit (Bits.add (Bits.mono (l := 200) (fmod_b hy (by first | assumption | omega)) (by decide)) (Bits.mono (l := 200) (fmod_b hy (by first | assumption | omega)) (by decide))) (by decide)) (by exact Bits.fit hy (by decide))) (subC 0 rfl (subC 6 rfl sub0)) (by kernel_rfl) ?_
  refine st_b 50 (show (decide (cmpI (x.fmod y + x.fmod y) y < 0)) = true by exact decide_eq_true (by omega)) (by kernel_rfl) ?_
  exact st_retG (zq0.fst) Try.func108 (subE 3 rfl (by omega) sub0) (by kernel_rfl)
theorem near_6ng (p q : ZQ) (x y : Int) (hx : Bits 200 x) (hy : Bits 200 y) (h0 : 0 < y) (hne : y ≠ 0) (hc : cmpI (x.fmod y) 0 = 1) (hs : cmpI x 0 = -1) (hh : cmpI (x.fmod y + x.fmod y) y = 1) (e : x.fdiv y + 1 = nearQ x y 6) :
    FnZ 108 [(p, x), (q, y)] [zv p, zv q, .int .i64 6] (fun z => .tuple #[zv z, .bool true]) (nearQ x y 6) := by
  refine fnG_of Try.func108 rfl fun ww => ?_
  refine st_g ent122 (fzdiv (p) (q) (x) (y) (by exact Bits.mono hx (by decide)) (by exact Bits.mono hy (by decide)) (by assumption)) (subC 0 rfl (subC 1 rfl sub0)) (by kernel_rfl) (fun zq0 => ?_)
  refine st_fn ent146 (fzsign (zq0.snd) (x.fmod y) (by exact Bits.fit (fmod_b hy (by first | assumption | omega)) (by decide))) (subC 1 rfl sub0) (by kernel_rfl) ?_
  refine st_b 29 (show (cmpI (x.fmod y) 0 == 0) = false by exact decide_eq_false (by omega)) (by kernel_rfl) ?_
  refine st_g ent127 (fzofu (1) (by omega) (by omega)) sub0 (by kernel_rfl) (fun zq2 => ?_)
  refine st_g ent125 (fzadd (zq0.fst) (zq2) (x.fdiv y) (1) (by exact Bits.fit (fdiv_b hx (by first | assumption | omega)) (by decide)) (by exact Bits.fit (show Bits 64 (1) from (by unfold Bits; decide)) (by decide))) (subC 1 rfl (subC 0 rfl sub0)) (by kernel_rfl) (fun zq3 => ?_)
  refine st_fn ent146 (fzsign (p) (x) (by exact Bits.fit hx (by decide))) (subC 4 rfl sub0) (by kernel_rfl) ?_
  refine st_b 38 (show (decide (cmpI x 0 < 0)) = true by exact decide_eq_true (by omega)) (by kernel_rfl) ?_
  refine st_g ent125 (fzadd (zq0.snd) (zq0.snd) (x.fmod y) (x.fmod y) (by exact Bits.fit (fmod_b hy (by first | assumption | omega)) (by decide)) (by exact Bits.fit (fmod_b hy (by first | assumption | omega)) (by decide))) (subC 3 rfl (subC 3 rfl sub0)) (by kernel_rfl) (fun zq5 => ?_)
  refine st_fn ent45 (fzcmp (zq5) (q) (x.fmod y + x.fmod y) (y) (by exact Bits.fit (Bits.add (Bits.mono (l := 200) (fmod_b hy (by first | assumption | omega)) (by decide)) (Bits.mono (l := 200) (fmod_b hy (by first | assumption | omega)) (by decide))) (by decide)) (by exact Bits.fit hy (by decide))) (subC 0 rfl (subC 6 rfl sub0)) (by kernel_rfl) ?_
  refine st_b 50 (show (decide (cmpI (x.fmod y + x.fmod y) y < 0)) = false by exact decide_eq_false (by omega)) (by kernel_rfl) ?_
  refine st_b 57 (show (decide (cmpI (x.fmod y + x.fmod y) y > 0)) = true by exact decide_eq_true (by omega)) (by kernel_rfl) ?_
  exact st_retG (zq3) Try.func108 (subE 1 rfl (by omega) sub0) (by kernel_rfl)
theorem near_6ne (p q : ZQ) (x y : Int) (hx : Bits 200 x) (hy : Bits 200 y) (h0 : 0 < y) (hne : y ≠ 0) (hc : cmpI (x.fmod y) 0 = 1) (hs : cmpI x 0 = -1) (hh : cmpI (x.fmod y + x.fmod y) y = 0) (e : x.fdiv y = nearQ x y 6) :
    FnZ 108 [(p, x), (q, y)] [zv p, zv q, .int .i64 6] (fun z => .tuple #[zv z, .bool true]) (nearQ x y 6) := by
  refine fnG_of Try.func108 rfl fun ww => ?_
  refine st_g ent122 (fzdiv (p) (q) (x) (y) (by exact Bits.mono hx (by decide)) (by exact Bits.mono hy (by decide)) (by assumption)) (subC 0 rfl (subC 1 rfl sub0)) (by kernel_rfl) (fun zq0 => ?_)
  refine st_fn ent146 (fzsign (zq0.snd) (x.fmod y) (by exact Bits.fit (fmod_b hy (by first | assumption | omega)) (by decide))) (subC 1 rfl sub0) (by kernel_rfl) ?_
  refine st_b 29 (show (cmpI (x.fmod y) 0 == 0) = false by exact decide_eq_false (by omega)) (by kernel_rfl) ?_
  refine st_g ent127 (fzofu (1) (by omega) (by omega)) sub0 (by kernel_rfl) (fun zq2 => ?_)
  refine st_g ent125 (fzadd (zq0.fst) (zq2) (x.fdiv y) (1) (by exact Bits.fit (fdiv_b hx (by first | assumption | omega)) (by decide)) (by exact Bits.fit (show Bits 64 (1) from (by unfold Bits; decide)) (by decide))) (subC 1 rfl (subC 0 rfl sub0)) (by kernel_rfl) (fun zq3 => ?_)
  refine st_fn ent146 (fzsign (p) (x) (by exact Bits.fit hx (by decide))) (subC 4 rfl sub0) (by kernel_rfl) ?_
  refine st_b 38 (show (decide (cmpI x 0 < 0)) = true by exact decide_eq_true (by omega)) (by kernel_rfl) ?_
  refine st_g ent125 (fzadd (zq0.snd) (zq0.snd) (x.fmod y) (x.fmod y) (by exact Bits.fit (fmod_b hy (by first | assumption | omega)) (by decide)) (by exact Bits.fit (fmod_b hy (by first | assumption | omega)) (by decide))) (subC 3 rfl (subC 3 rfl sub0)) (by kernel_rfl) (fun zq5 => ?_)
  refine st_fn ent45 (fzcmp (zq5) (q) (x.fmod y + x.fmod y) (y) (by exact Bits.fit (Bits.add (Bits.mono (l := 200) (fmod_b hy (by first | assumption | omega)) (by decide)) (Bits.mono (l := 200) (fmod_b hy (by first | assumption | omega)) (by decide))) (by decide)) (by exact Bits.fit hy (by decide))) (subC 0 rfl (subC 6 rfl sub0)) (by kernel_rfl) ?_
  refine st_b 50 (show (decide (cmpI (x.fmod y + x.fmod y) y < 0)) = false by exact decide_eq_false (by omega)) (by kernel_rfl) ?_
  refine st_b 57 (show (decide (cmpI (x.fmod y + x.fmod y) y > 0)) = false by exact decide_eq_false (by omega)) (by kernel_rfl) ?_
  exact st_retG (zq0.fst) Try.func108 (subE 3 rfl (by omega) sub0) (by kernel_rfl)
theorem near_6pl (p q : ZQ) (x y : Int) (hx : Bits 200 x) (hy : Bits 200 y) (h0 : 0 < y) (hne : y ≠ 0) (hc : cmpI (x.fmod y) 0 = 1) (hs : 0 ≤ cmpI x 0) (hh : cmpI (x.fmod y + x.fmod y) y = -1) (e : x.fdiv y = nearQ x y 6) :
    FnZ 108 [(p, x), (q, y)] [zv p, zv q, .int .i64 6] (fun z => .tuple #[zv z, .bool true]) (nearQ x y 6) := by
  refine fnG_of Try.func108 rfl fun ww => ?_
  refine st_g ent122 (fzdiv (p) (q) (x) (y) (by exact Bits.mono hx (by decide)) (by exact Bits.mono hy (by decide)) (by assumption)) (subC 0 rfl (subC 1 rfl sub0)) (by kernel_rfl) (fun zq0 => ?_)
  refine st_fn ent146 (fzsign (zq0.snd) (x.fmod y) (by exact Bits.fit (fmod_b hy (by first | assumption | omega)) (by decide))) (subC 1 rfl sub0) (by kernel_rfl) ?_
  refine st_b 29 (show (cmpI (x.fmod y) 0 == 0) = false by exact decide_eq_false (by omega)) (by kernel_rfl) ?_
  refine st_g ent127 (fzofu (1) (by omega) (by omega)) sub0 (by kernel_rfl) (fun zq2 => ?_)
  refine st_g ent125 (fzadd (zq0.fst) (zq2) (x.fdiv y) (1) (by exact Bits.fit (fdiv_b hx (by first | assumption | omega)) (by decide)) (by exact Bits.fit (show Bits 64 (1) from (by unfold Bits; decide)) (by decide))) (subC 1 rfl (subC 0 rfl sub0)) (by kernel_rfl) (fun zq3 => ?_)
  refine st_fn ent146 (fzsign (p) (x) (by exact Bits.fit hx (by decide))) (subC 4 rfl sub0) (by kernel_rfl) ?_
  refine st_b 38 (show (decide (cmpI x 0 < 0)) = false by exact decide_eq_false (by omega)) (by kernel_rfl) ?_
  refine st_g ent125 (fzadd (zq0.snd) (zq0.snd) (x.fmod y) (x.fmod y) (by exact Bits.fit (fmod_b hy (by first | assumption | omega)) (by decide)) (by exact Bits.fit (fmod_b hy (by first | assumption | omega)) (by decide))) (subC 3 rfl (subC 3 rfl sub0)) (by kernel_rfl) (fun zq5 => ?_)
  refine st_fn ent45 (fzcmp (zq5) (q) (x.fmod y + x.fmod y) (y) (by exact Bits.fit (Bits.add (Bits.mono (l := 200) (fmod_b hy (by first | assumption | omega)) (by decide)) (Bits.mono (l := 200) (fmod_b hy (by first | assumption | omega)) (by decide))) (by decide)) (by exact Bits.fit hy (by decide))) (subC 0 rfl (subC 6 rfl sub0)) (by kernel_rfl) ?_
  refine st_b 50 (show (decide (cmpI (x.fmod y + x.fmod y) y < 0)) = true by exact decide_eq_true (by omega)) (by kernel_rfl) ?_
  exact st_retG (zq0.fst) Try.func108 (subE 3 rfl (by omega) sub0) (by kernel_rfl)
theorem near_6pg (p q : ZQ) (x y : Int) (hx : Bits 200 x) (hy : Bits 200 y) (h0 : 0 < y) (hne : y ≠ 0) (hc : cmpI (x.fmod y) 0 = 1) (hs : 0 ≤ cmpI x 0) (hh : cmpI (x.fmod y + x.fmod y) y = 1) (e : x.fdiv y + 1 = nearQ x y 6) :
    FnZ 108 [(p, x), (q, y)] [zv p, zv q, .int .i64 6] (fun z => .tuple #[zv z, .bool true]) (nearQ x y 6) := by
  refine fnG_of Try.func108 rfl fun ww => ?_
  refine st_g ent122 (fzdiv (p) (q) (x) (y) (by exact Bits.mono hx (by decide)) (by exact Bits.mono hy (by decide)) (by assumption)) (subC 0 rfl (subC 1 rfl sub0)) (by kernel_rfl) (fun zq0 => ?_)
  refine st_fn ent146 (fzsign (zq0.snd) (x.fmod y) (by exact Bits.fit (fmod_b hy (by first | assumption | omega)) (by decide))) (subC 1 rfl sub0) (by kernel_rfl) ?_
  refine st_b 29 (show (cmpI (x.fmod y) 0 == 0) = false by exact decide_eq_false (by omega)) (by kernel_rfl) ?_
  refine st_g ent127 (fzofu (1) (by omega) (by omega)) sub0 (by kernel_rfl) (fun zq2 => ?_)
  refine st_g ent125 (fzadd (zq0.fst) (zq2) (x.fdiv y) (1) (by exact Bits.fit (fdiv_b hx (by first | assumption | omega)) (by decide)) (by exact Bits.fit (show Bits 64 (1) from (by unfold Bits; decide)) (by decide))) (subC 1 rfl (subC 0 rfl sub0)) (by kernel_rfl) (fun zq3 => ?_)
  refine st_fn ent146 (fzsign (p) (x) (by exact Bits.fit hx (by decide))) (subC 4 rfl sub0) (by kernel_rfl) ?_
  refine st_b 38 (show (decide (cmpI x 0 < 0)) = false by exact decide_eq_false (by omega)) (by kernel_rfl) ?_
  refine st_g ent125 (fzadd (zq0.snd) (zq0.snd) (x.fmod y) (x.fmod y) (by exact Bits.fit (fmod_b hy (by first | assumption | omega)) (by decide)) (by exact Bits.fit (fmod_b hy (by first | assumption | omega)) (by decide))) (subC 3 rfl (subC 3 rfl sub0)) (by kernel_rfl) (fun zq5 => ?_)
  refine st_fn ent45 (fzcmp (zq5) (q) (x.fmod y + x.fmod y) (y) (by exact Bits.fit (Bits.add (Bits.mono (l := 200) (fmod_b hy (by first | assumption | omega)) (by decide)) (Bits.mono (l := 200) (fmod_b hy (by first | assumption | omega)) (by decide))) (by decide)) (by exact Bits.fit hy (by decide))) (subC 0 rfl (subC 6 rfl sub0)) (by kernel_rfl) ?_
  refine st_b 50 (show (decide (cmpI (x.fmod y + x.fmod y) y < 0)) = false by exact decide_eq_false (by omega)) (by kernel_rfl) ?_
  refine st_b 57 (show (decide (cmpI (x.fmod y + x.fmod y) y > 0)) = true by exact decide_eq_true (by omega)) (by kernel_rfl) ?_
  exact st_retG (zq3) Try.func108 (subE 1 rfl (by omega) sub0) (by kernel_rfl)
theorem near_6pe (p q : ZQ) (x y : Int) (hx : Bits 200 x) (hy : Bits 200 y) (h0 : 0 < y) (hne : y ≠ 0) (hc : cmpI (x.fmod y) 0 = 1) (hs : 0 ≤ cmpI x 0) (hh : cmpI (x.fmod y + x.fmod y) y = 0) (e : x.fdiv y = nearQ x y 6) :
    FnZ 108 [(p, x), (q, y)] [zv p, zv q, .int .i64 6] (fun z => .tuple #[zv z, .bool true]) (nearQ x y 6) := by
  refine fnG_of Try.func108 rfl fun ww => ?_
  refine st_g ent122 (fzdiv (p) (q) (x) (y) (by exact Bits.mono hx (by decide)) (by exact Bits.mono hy (by decide)) (by assumption)) (subC 0 rfl (subC 1 rfl sub0)) (by kernel_rfl) (fun zq0 => ?_)
  refine st_fn ent146 (fzsign (zq0.snd) (x.fmod y) (by exact Bits.fit (fmod_b hy (by first | assumption | omega)) (by decide))) (subC 1 rfl sub0) (by kernel_rfl) ?_
  refine st_b 29 (show (cmpI (x.fmod y) 0 == 0) = false by exact decide_eq_false (by omega)) (by kernel_rfl) ?_
  refine st_g ent127 (fzofu (1) (by omega) (by omega)) sub0 (by kernel_rfl) (fun zq2 => ?_)
  refine st_g ent125 (fzadd (zq0.fst) (zq2) (x.fdiv y) (1) (by exact Bits.fit (fdiv_b hx (by first | assumption | omega)) (by decide)) (by exact Bits.fit (show Bits 64 (1) from (by unfold Bits; decide)) (by decide))) (subC 1 rfl (subC 0 rfl sub0)) (by kernel_rfl) (fun zq3 => ?_)
  refine st_fn ent146 (fzsign (p) (x) (by exact Bits.fit hx (by decide))) (subC 4 rfl sub0) (by kernel_rfl) ?_
  refine st_b 38 (show (decide (cmpI x 0 < 0)) = false by exact decide_eq_false (by omega)) (by kernel_rfl) ?_
  refine st_g ent125 (fzadd (zq0.snd) (zq0.snd) (x.fmod y) (x.fmod y) (by exact Bits.fit (fmod_b hy (by first | assumption | omega)) (by decide)) (by exact Bits.fit (fmod_b hy (by first | assumption | omega)) (by decide))) (subC 3 rfl (subC 3 rfl sub0)) (by kernel_rfl) (fun zq5 => ?_)
  refine st_fn ent45 (fzcmp (zq5) (q) (x.fmod y + x.fmod y) (y) (by exact Bits.fit (Bits.add (Bits.mono (l := 200) (fmod_b hy (by first | assumption | omega)) (by decide)) (Bits.mono (l := 200) (fmod_b hy (by first | assumption | omega)) (by decide))) (by decide)) (by exact Bits.fit hy (by decide))) (subC 0 rfl (subC 6 rfl sub0)) (by kernel_rfl) ?_
  refine st_b 50 (show (decide (cmpI (x.fmod y + x.fmod y) y < 0)) = false by exact decide_eq_false (by omega)) (by kernel_rfl) ?_
  refine st_b 57 (show (decide (cmpI (x.fmod y + x.fmod y) y > 0)) = false by exact decide_eq_false (by omega)) (by kernel_rfl) ?_
  exact st_retG (zq0.fst) Try.func108 (subE 3 rfl (by omega) sub0) (by kernel_rfl)
theorem near_7nl (p q : ZQ) (x y : Int) (hx : Bits 200 x) (hy : Bits 200 y) (h0 : 0 < y) (hne : y ≠ 0) (hc : cmpI (x.fmod y) 0 = 1) (hs : cmpI x 0 = -1) (hh : cmpI (x.fmod y + x.fmod y) y = -1) (e : x.fdiv y = nearQ x y 7) :
    FnZ 108 [(p, x), (q, y)] [zv p, zv q, .int .i64 7] (fun z => .tuple #[zv z, .bool true]) (nearQ x y 7) := by
  refine fnG_of Try.func108 rfl fun ww => ?_
  refine st_g ent122 (fzdiv (p) (q) (x) (y) (by exact Bits.mono hx (by decide)) (by exact Bits.mono hy (by decide)) (by assumption)) (subC 0 rfl (subC 1 rfl sub0)) (by kernel_rfl) (fun zq0 => ?_)
  refine st_fn ent146 (fzsign (zq0.snd) (x.fmod y) (by exact Bits.fit (fmod_b hy (by first | assumption | omega)) (by decide))) (subC 1 rfl sub0) (by kernel_rfl) ?_
  refine st_b 29 (show (cmpI (x.fmod y) 0 == 0) = false by exact decide_eq_false (by omega)) (by kernel_rfl) ?_
  refine st_g ent127 (fzofu (1) (by omega) (by omega)) sub0 (by kernel_rfl) (fun zq2 => ?_)
  refine st_g ent125 (fzadd (zq0.fst) (zq2) (x.fdiv y) (1) (by exact Bits.fit (fdiv_b hx (by first | assumption | omega)) (by decide)) (by exact Bits.fit (show Bits 64 (1) from (by unfold Bits; decide)) (by decide))) (subC 1 rfl (subC 0 rfl sub0)) (by kernel_rfl) (fun zq3 => ?_)
  refine st_fn ent146 (fzsign (p) (x) (by exact Bits.fit hx (by decide))) (subC 4 rfl sub0) (by kernel_rfl) ?_
  refine st_b 38 (show (decide (cmpI x 0 < 0)) = true by exact decide_eq_true (by omega)) (by kernel_rfl) ?_
  refine st_g ent125 (fzadd (zq0.snd) (zq0.snd) (x.fmod y) (x.fmod y) (by exact Bits.fit (fmod_b hy (by first | assumption | omega)) (by decide)) (by exact Bits.fit (fmod_b hy (by first | assumption | omega)) (by decide))) (subC 3 rfl (subC 3 rfl sub0)) (by kernel_rfl) (fun zq5 => ?_)
  refine st_fn ent45 (fzcmp (zq5) (q) (x.fmod y + x.fmod y) (y) (by exact Bits.fit (Bits.add (Bits.mono (l := 200) (fmod_b hy (by first | assumption | omega)) (by decide)) (Bits.mono (l := 200) (fmod_b hy (by first | assumption | omega)) (by decide))) (by decide)) (by exact Bits.fit hy (by decide))) (subC 0 rfl (subC 6 rfl sub0)) (by kernel_rfl) ?_
  refine st_b 50 (show (decide (cmpI (x.fmod y + x.fmod y) y < 0)) = true by exact decide_eq_true (by omega)) (by kernel_rfl) ?_
  exact st_retG (zq0.fst) Try.func108 (subE 3 rfl (by omega) sub0) (by kernel_rfl)
theorem near_7ng (p q : ZQ) (x y : Int) (hx : Bits 200 x) (hy : Bits 200 y) (h0 : 0 < y) (hne : y ≠ 0) (hc : cmpI (x.fmod y) 0 = 1) (hs : cmpI x 0 = -1) (hh : cmpI (x.fmod y + x.fmod y) y = 1) (e : x.fdiv y + 1 = nearQ x y 7) :
    FnZ 108 [(p, x), (q, y)] [zv p, zv q, .int .i64 7] (fun z => .tuple #[zv z, .bool true]) (nearQ x y 7) := by
  refine fnG_of Try.func108 rfl fun ww => ?_
  refine st_g ent122 (fzdiv (p) (q) (x) (y) (by exact Bits.mono hx (by decide)) (by exact Bits.mono hy (by decide)) (by assumption)) (subC 0 rfl (subC 1 rfl sub0)) (by kernel_rfl) (fun zq0 => ?_)
  refine st_fn ent146 (fzsign (zq0.snd) (x.fmod y) (by exact Bits.fit (fmod_b hy (by first | assumption | omega)) (by decide))) (subC 1 rfl sub0) (by kernel_rfl) ?_
  refine st_b 29 (show (cmpI (x.fmod y) 0 == 0) = false by exact decide_eq_false (by omega)) (by kernel_rfl) ?_
  refine st_g ent127 (fzofu (1) (by omega) (by omega)) sub0 (by kernel_rfl) (fun zq2 => ?_)
  refine st_g ent125 (fzadd (zq0.fst) (zq2) (x.fdiv y) (1) (by exact Bits.fit (fdiv_b hx (by first | assumption | omega)) (by decide)) (by exact Bits.fit (show Bits 64 (1) from (by unfold Bits; decide)) (by decide))) (subC 1 rfl (subC 0 rfl sub0)) (by kernel_rfl) (fun zq3 => ?_)
  refine st_fn ent146 (fzsign (p) (x) (by exact Bits.fit hx (by decide))) (subC 4 rfl sub0) (by kernel_rfl) ?_
  refine st_b 38 (show (decide (cmpI x 0 < 0)) = true by exact decide_eq_true (by omega)) (by kernel_rfl) ?_
  refine st_g ent125 (fzadd (zq0.snd) (zq0.snd) (x.fmod y) (x.fmod y) (by exact Bits.fit (fmod_b hy (by first | assumption | omega)) (by decide)) (by exact Bits.fit (fmod_b hy (by first | assumption | omega)) (by decide))) (subC 3 rfl (subC 3 rfl sub0)) (by kernel_rfl) (fun zq5 => ?_)
  refine st_fn ent45 (fzcmp (zq5) (q) (x.fmod y + x.fmod y) (y) (by exact Bits.fit (Bits.add (Bits.mono (l := 200) (fmod_b hy (by first | assumption | omega)) (by decide)) (Bits.mono (l := 200) (fmod_b hy (by first | assumption | omega)) (by decide))) (by decide)) (by exact Bits.fit hy (by decide))) (subC 0 rfl (subC 6 rfl sub0)) (by kernel_rfl) ?_
  refine st_b 50 (show (decide (cmpI (x.fmod y + x.fmod y) y < 0)) = false by exact decide_eq_false (by omega)) (by kernel_rfl) ?_
  refine st_b 57 (show (decide (cmpI (x.fmod y + x.fmod y) y > 0)) = true by exact decide_eq_true (by omega)) (by kernel_rfl) ?_
  exact st_retG (zq3) Try.func108 (subE 1 rfl (by omega) sub0) (by kernel_rfl)
theorem near_7ne (p q : ZQ) (x y : Int) (hx : Bits 200 x) (hy : Bits 200 y) (h0 : 0 < y) (hne : y ≠ 0) (hc : cmpI (x.fmod y) 0 = 1) (hs : cmpI x 0 = -1) (hh : cmpI (x.fmod y + x.fmod y) y = 0) (e : x.fdiv y = nearQ x y 7) :
    FnZ 108 [(p, x), (q, y)] [zv p, zv q, .int .i64 7] (fun z => .tuple #[zv z, .bool true]) (nearQ x y 7) := by
  refine fnG_of Try.func108 rfl fun ww => ?_
  refine st_g ent122 (fzdiv (p) (q) (x) (y) (by exact Bits.mono hx (by decide)) (by exact Bits.mono hy (by decide)) (by assumption)) (subC 0 rfl (subC 1 rfl sub0)) (by kernel_rfl) (fun zq0 => ?_)
  refine st_fn ent146 (fzsign (zq0.snd) (x.fmod y) (by exact Bits.fit (fmod_b hy (by first | assumption | omega)) (by decide))) (subC 1 rfl sub0) (by kernel_rfl) ?_
  refine st_b 29 (show (cmpI (x.fmod y) 0 == 0) = false by exact decide_eq_false (by omega)) (by kernel_rfl) ?_
  refine st_g ent127 (fzofu (1) (by omega) (by omega)) sub0 (by kernel_rfl) (fun zq2 => ?_)
  refine st_g ent125 (fzadd (zq0.fst) (zq2) (x.fdiv y) (1) (by exact Bits.fit (fdiv_b hx (by first | assumption | omega)) (by decide)) (by exact Bits.fit (show Bits 64 (1) from (by unfold Bits; decide)) (by decide))) (subC 1 rfl (subC 0 rfl sub0)) (by kernel_rfl) (fun zq3 => ?_)
  refine st_fn ent146 (fzsign (p) (x) (by exact Bits.fit hx (by decide))) (subC 4 rfl sub0) (by kernel_rfl) ?_
  refine st_b 38 (show (decide (cmpI x 0 < 0)) = true by exact decide_eq_true (by omega)) (by kernel_rfl) ?_
  refine st_g ent125 (fzadd (zq0.snd) (zq0.snd) (x.fmod y) (x.fmod y) (by exact Bits.fit (fmod_b hy (by first | assumption | omega)) (by decide)) (by exact Bits.fit (fmod_b hy (by first | assumption | omega)) (by decide))) (subC 3 rfl (subC 3 rfl sub0)) (by kernel_rfl) (fun zq5 => ?_)
  refine st_fn ent45 (fzcmp (zq5) (q) (x.fmod y + x.fmod y) (y) (by exact Bits.fit (Bits.add (Bits.mono (l := 200) (fmod_b hy (by first | assumption | omega)) (by decide)) (Bits.mono (l := 200) (fmod_b hy (by first | assumption | omega)) (by decide))) (by decide)) (by exact Bits.fit hy (by decide))) (subC 0 rfl (subC 6 rfl sub0)) (by kernel_rfl) ?_
  refine st_b 50 (show (decide (cmpI (x.fmod y + x.fmod y) y < 0)) = false by exact decide_eq_false (by omega)) (by kernel_rfl) ?_
  refine st_b 57 (show (decide (cmpI (x.fmod y + x.fmod y) y > 0)) = false by exact decide_eq_false (by omega)) (by kernel_rfl) ?_
  exact st_retG (zq0.fst) Try.func108 (subE 3 rfl (by omega) sub0) (by kernel_rfl)
theorem near_7pl (p q : ZQ) (x y : Int) (hx : Bits 200 x) (hy : Bits 200 y) (h0 : 0 < y) (hne : y ≠ 0) (hc : cmpI (x.fmod y) 0 = 1) (hs : 0 ≤ cmpI x 0) (hh : cmpI (x.fmod y + x.fmod y) y = -1) (e : x.fdiv y = nearQ x y 7) :
    FnZ 108 [(p, x), (q, y)] [zv p, zv q, .int .i64 7] (fun z => .tuple #[zv z, .bool true]) (nearQ x y 7) := by
  refine fnG_of Try.func108 rfl fun ww => ?_
  refine st_g ent122 (fzdiv (p) (q) (x) (y) (by exact Bits.mono hx (by decide)) (by exact Bits.mono hy (by decide)) (by assumption)) (subC 0 rfl (subC 1 rfl sub0)) (by kernel_rfl) (fun zq0 => ?_)
  refine st_fn ent146 (fzsign (zq0.snd) (x.fmod y) (by exact Bits.fit (fmod_b hy (by first | assumption | omega)) (by decide))) (subC 1 rfl sub0) (by kernel_rfl) ?_
  refine st_b 29 (show (cmpI (x.fmod y) 0 == 0) = false by exact decide_eq_false (by omega)) (by kernel_rfl) ?_
  refine st_g ent127 (fzofu (1) (by omega) (by omega)) sub0 (by kernel_rfl) (fun zq2 => ?_)
  refine st_g ent125 (fzadd (zq0.fst) (zq2) (x.fdiv y) (1) (by exact Bits.fit (fdiv_b hx (by first | assumption | omega)) (by decide)) (by exact Bits.fit (show Bits 64 (1) from (by unfold Bits; decide)) (by decide))) (subC 1 rfl (subC 0 rfl sub0)) (by kernel_rfl) (fun zq3 => ?_)
  refine st_fn ent146 (fzsign (p) (x) (by exact Bits.fit hx (by decide))) (subC 4 rfl sub0) (by kernel_rfl) ?_
  refine st_b 38 (show (decide (cmpI x 0 < 0)) = false by exact decide_eq_false (by omega)) (by kernel_rfl) ?_
  refine st_g ent125 (fzadd (zq0.snd) (zq0.snd) (x.fmod y) (x.fmod y) (by exact Bits.fit (fmod_b hy (by first | assumption | omega)) (by decide)) (by exact Bits.fit (fmod_b hy (by first | assumption | omega)) (by decide))) (subC 3 rfl (subC 3 rfl sub0)) (by kernel_rfl) (fun zq5 => ?_)
  refine st_fn ent45 (fzcmp (zq5) (q) (x.fmod y + x.fmod y) (y) (by exact Bits.fit (Bits.add (Bits.mono (l := 200) (fmod_b hy (by first | assumption | omega)) (by decide)) (Bits.mono (l := 200) (fmod_b hy (by first | assumption | omega)) (by decide))) (by decide)) (by exact Bits.fit hy (by decide))) (subC 0 rfl (subC 6 rfl sub0)) (by kernel_rfl) ?_
  refine st_b 50 (show (decide (cmpI (x.fmod y + x.fmod y) y < 0)) = true by exact decide_eq_true (by omega)) (by kernel_rfl) ?_
  exact st_retG (zq0.fst) Try.func108 (subE 3 rfl (by omega) sub0) (by kernel_rfl)
theorem near_7pg (p q : ZQ) (x y : Int) (hx : Bits 200 x) (hy : Bits 200 y) (h0 : 0 < y) (hne : y ≠ 0) (hc : cmpI (x.fmod y) 0 = 1) (hs : 0 ≤ cmpI x 0) (hh : cmpI (x.fmod y + x.fmod y) y = 1) (e : x.fdiv y + 1 = nearQ x y 7) :
    FnZ 108 [(p, x), (q, y)] [zv p, zv q, .int .i64 7] (fun z => .tuple #[zv z, .bool true]) (nearQ x y 7) := by
  refine fnG_of Try.func108 rfl fun ww => ?_
  refine st_g ent122 (fzdiv (p) (q) (x) (y) (by exact Bits.mono hx (by decide)) (by exact Bits.mono hy (by decide)) (by assumption)) (subC 0 rfl (subC 1 rfl sub0)) (by kernel_rfl) (fun zq0 => ?_)
  refine st_fn ent146 (fzsign (zq0.snd) (x.fmod y) (by exact Bits.fit (fmod_b hy (by first | assumption | omega)) (by decide))) (subC 1 rfl sub0) (by kernel_rfl) ?_
  refine st_b 29 (show (cmpI (x.fmod y) 0 == 0) = false by exact decide_eq_false (by omega)) (by kernel_rfl) ?_
  refine st_g ent127 (fzofu (1) (by omega) (by omega)) sub0 (by kernel_rfl) (fun zq2 => ?_)
  refine st_g ent125 (fzadd (zq0.fst) (zq2) (x.fdiv y) (1) (by exact Bits.fit (fdiv_b hx (by first | assumption | omega)) (by decide)) (by exact Bits.fit (show Bits 64 (1) from (by unfold Bits; decide)) (by decide))) (subC 1 rfl (subC 0 rfl sub0)) (by kernel_rfl) (fun zq3 => ?_)
  refine st_fn ent146 (fzsign (p) (x) (by exact Bits.fit hx (by decide))) (subC 4 rfl sub0) (by kernel_rfl) ?_
  refine st_b 38 (show (decide (cmpI x 0 < 0)) = false by exact decide_eq_false (by omega)) (by kernel_rfl) ?_
  refine st_g ent125 (fzadd (zq0.snd) (zq0.snd) (x.fmod y) (x.fmod y) (by exact Bits.fit (fmod_b hy (by first | assumption | omega)) (by decide)) (by exact Bits.fit (fmod_b hy (by first | assumption | omega)) (by decide))) (subC 3 rfl (subC 3 rfl sub0)) (by kernel_rfl) (fun zq5 => ?_)
  refine st_fn ent45 (fzcmp (zq5) (q) (x.fmod y + x.fmod y) (y) (by exact Bits.fit (Bits.add (Bits.mono (l := 200) (fmod_b hy (by first | assumption | omega)) (by decide)) (Bits.mono (l := 200) (fmod_b hy (by first | assumption | omega)) (by decide))) (by decide)) (by exact Bits.fit hy (by decide))) (subC 0 rfl (subC 6 rfl sub0)) (by kernel_rfl) ?_
  refine st_b 50 (show (decide (cmpI (x.fmod y + x.fmod y) y < 0)) = false by exact decide_eq_false (by omega)) (by kernel_rfl) ?_
  refine st_b 57 (show (decide (cmpI (x.fmod y + x.fmod y) y > 0)) = true by exact decide_eq_true (by omega)) (by kernel_rfl) ?_
  exact st_retG (zq3) Try.func108 (subE 1 rfl (by omega) sub0) (by kernel_rfl)
theorem near_7pe (p q : ZQ) (x y : Int) (hx : Bits 200 x) (hy : Bits 200 y) (h0 : 0 < y) (hne : y ≠ 0) (hc : cmpI (x.fmod y) 0 = 1) (hs : 0 ≤ cmpI x 0) (hh : cmpI (x.fmod y + x.fmod y) y = 0) (e : x.fdiv y + 1 = nearQ x y 7) :
    FnZ 108 [(p, x), (q, y)] [zv p, zv q, .int .i64 7] (fun z => .tuple #[zv z, .bool true]) (nearQ x y 7) := by
  refine fnG_of Try.func108 rfl fun ww => ?_
  refine st_g ent122 (fzdiv (p) (q) (x) (y) (by exact Bits.mono hx (by decide)) (by exact Bits.mono hy (by decide)) (by assumption)) (subC 0 rfl (subC 1 rfl sub0)) (by kernel_rfl) (fun zq0 => ?_)
  refine st_fn ent146 (fzsign (zq0.snd) (x.fmod y) (by exact Bits.fit (fmod_b hy (by first | assumption | omega)) (by decide))) (subC 1 rfl sub0) (by kernel_rfl) ?_
  refine st_b 29 (show (cmpI (x.fmod y) 0 == 0) = false by exact decide_eq_false (by omega)) (by kernel_rfl) ?_
  refine st_g ent127 (fzofu (1) (by omega) (by omega)) sub0 (by kernel_rfl) (fun zq2 => ?_)
  refine st_g ent125 (fzadd (zq0.fst) (zq2) (x.fdiv y) (1) (by exact Bits.fit (fdiv_b hx (by first | assumption | omega)) (by decide)) (by exact Bits.fit (show Bits 64 (1) from (by unfold Bits; decide)) (by decide))) (subC 1 rfl (subC 0 rfl sub0)) (by kernel_rfl) (fun zq3 => ?_)
  refine st_fn ent146 (fzsign (p) (x) (by exact Bits.fit hx (by decide))) (subC 4 rfl sub0) (by kernel_rfl) ?_
  refine st_b 38 (show (decide (cmpI x 0 < 0)) = false by exact decide_eq_false (by omega)) (by kernel_rfl) ?_
  refine st_g ent125 (fzadd (zq0.snd) (zq0.snd) (x.fmod y) (x.fmod y) (by exact Bits.fit (fmod_b hy (by first | assumption | omega)) (by decide)) (by exact Bits.fit (fmod_b hy (by first | assumption | omega)) (by decide))) (subC 3 rfl (subC 3 rfl sub0)) (by kernel_rfl) (fun zq5 => ?_)
  refine st_fn ent45 (fzcmp (zq5) (q) (x.fmod y + x.fmod y) (y) (by exact Bits.fit (Bits.add (Bits.mono (l := 200) (fmod_b hy (by first | assumption | omega)) (by decide)) (Bits.mono (l := 200) (fmod_b hy (by first | assumption | omega)) (by decide))) (by decide)) (by exact Bits.fit hy (by decide))) (subC 0 rfl (subC 6 rfl sub0)) (by kernel_rfl) ?_
  refine st_b 50 (show (decide (cmpI (x.fmod y + x.fmod y) y < 0)) = false by exact decide_eq_false (by omega)) (by kernel_rfl) ?_
  refine st_b 57 (show (decide (cmpI (x.fmod y + x.fmod y) y > 0)) = false by exact decide_eq_false (by omega)) (by kernel_rfl) ?_
  exact st_retG (zq3) Try.func108 (subE 1 rfl (by omega) sub0) (by kernel_rfl)
theorem near_8nl (p q : ZQ) (x y : Int) (hx : Bits 200 x) (hy : Bits 200 y) (h0 : 0 < y) (hne : y ≠ 0) (hc : cmpI (x.fmod y) 0 = 1) (hs : cmpI x 0 = -1) (hh : cmpI (x.fmod y + x.fmod y) y = -1) (e : x.fdiv y = nearQ x y 8) :
    FnZ 108 [(p, x), (q, y)] [zv p, zv q, .int .i64 8] (fun z => .tuple #[zv z, .bool true]) (nearQ x y 8) := by
  refine fnG_of Try.func108 rfl fun ww => ?_
  refine st_g ent122 (fzdiv (p) (q) (x) (y) (by exact Bits.mono hx (by decide)) (by exact Bits.mono hy (by decide)) (by assumption)) (subC 0 rfl (subC 1 rfl sub0)) (by kernel_rfl) (fun zq0 => ?_)
  refine st_fn ent146 (fzsign (zq0.snd) (x.fmod y) (by exact Bits.fit (fmod_b hy (by first | assumption | omega)) (by decide))) (subC 1 rfl sub0) (by kernel_rfl) ?_
  refine st_b 29 (show (cmpI (x.fmod y) 0 == 0) = false by exact decide_eq_false (by omega)) (by kernel_rfl) ?_
  refine st_g ent127 (fzofu (1) (by omega) (by omega)) sub0 (by kernel_rfl) (fun zq2 => ?_)
  refine st_g ent125 (fzadd (zq0.fst) (zq2) (x.fdiv y) (1) (by exact Bits.fit (fdiv_b hx (by first | assumption | omega)) (by decide)) (by exact Bits.fit (show Bits 64 (1) from (by unfold Bits; decide)) (by decide))) (subC 1 rfl (subC 0 rfl sub0)) (by kernel_rfl) (fun zq3 => ?_)
  refine st_fn ent146 (fzsign (p) (x) (by exact Bits.fit hx (by decide))) (subC 4 rfl sub0) (by kernel_rfl) ?_
  refine st_b 38 (show (decide (cmpI x 0 < 0)) = true by exact decide_eq_true (by omega)) (by kernel_rfl) ?_
  refine st_g ent125 (fzadd (zq0.snd) (zq0.snd) (x.fmod y) (x.fmod y) (by exact Bits.fit (fmod_b hy (by first | assumption | omega)) (by decide)) (by exact Bits.fit (fmod_b hy (by first | assumption | omega)) (by decide))) (subC 3 rfl (subC 3 rfl sub0)) (by kernel_rfl) (fun zq5 => ?_)
  refine st_fn ent45 (fzcmp (zq5) (q) (x.fmod y + x.fmod y) (y) (by exact Bits.fit (Bits.add (Bits.mono (l := 200) (fmod_b hy (by first | assumption | omega)) (by decide)) (Bits.mono (l := 200) (fmod_b hy (by first | assumption | omega)) (by decide))) (by decide)) (by exact Bits.fit hy (by decide))) (subC 0 rfl (subC 6 rfl sub0)) (by kernel_rfl) ?_
  refine st_b 50 (show (decide (cmpI (x.fmod y + x.fmod y) y < 0)) = true by exact decide_eq_true (by omega)) (by kernel_rfl) ?_
  exact st_retG (zq0.fst) Try.func108 (subE 3 rfl (by omega) sub0) (by kernel_rfl)
theorem near_8ng (p q : ZQ) (x y : Int) (hx : Bits 200 x) (hy : Bits 200 y) (h0 : 0 < y) (hne : y ≠ 0) (hc : cmpI (x.fmod y) 0 = 1) (hs : cmpI x 0 = -1) (hh : cmpI (x.fmod y + x.fmod y) y = 1) (e : x.fdiv y + 1 = nearQ x y 8) :
    FnZ 108 [(p, x), (q, y)] [zv p, zv q, .int .i64 8] (fun z => .tuple #[zv z, .bool true]) (nearQ x y 8) := by
  refine fnG_of Try.func108 rfl fun ww => ?_
  refine st_g ent122 (fzdiv (p) (q) (x) (y) (by exact Bits.mono hx (by decide)) (by exact Bits.mono hy (by decide)) (by assumption)) (subC 0 rfl (subC 1 rfl sub0)) (by kernel_rfl) (fun zq0 => ?_)
  refine st_fn ent146 (fzsign (zq0.snd) (x.fmod y) (by exact Bits.fit (fmod_b hy (by first | assumption | omega)) (by decide))) (subC 1 rfl sub0) (by kernel_rfl) ?_
  refine st_b 29 (show (cmpI (x.fmod y) 0 == 0) = false by exact decide_eq_false (by omega)) (by kernel_rfl) ?_
  refine st_g ent127 (fzofu (1) (by omega) (by omega)) sub0 (by kernel_rfl) (fun zq2 => ?_)
  refine st_g ent125 (fzadd (zq0.fst) (zq2) (x.fdiv y) (1) (by exact Bits.fit (fdiv_b hx (by first | assumption | omega)) (by decide)) (by exact Bits.fit (show Bits 64 (1) from (by unfold Bits; decide)) (by decide))) (subC 1 rfl (subC 0 rfl sub0)) (by kernel_rfl) (fun zq3 => ?_)
  refine st_fn ent146 (fzsign (p) (x) (by exact Bits.fit hx (by decide))) (subC 4 rfl sub0) (by kernel_rfl) ?_
  refine st_b 38 (show (decide (cmpI x 0 < 0)) = true by exact decide_eq_true (by omega)) (by kernel_rfl) ?_
  refine st_g ent125 (fzadd (zq0.snd) (zq0.snd) (x.fmod y) (x.fmod y) (by exact Bits.fit (fmod_b hy (by first | assumption | omega)) (by decide)) (by exact Bits.fit (fmod_b hy (by first | assumption | omega)) (by decide))) (subC 3 rfl (subC 3 rfl sub0)) (by kernel_rfl) (fun zq5 => ?_)
  refine st_fn ent45 (fzcmp (zq5) (q) (x.fmod y + x.fmod y) (y) (by exact Bits.fit (Bits.add (Bits.mono (l := 200) (fmod_b hy (by first | assumption | omega)) (by decide)) (Bits.mono (l := 200) (fmod_b hy (by first | assumption | omega)) (by decide))) (by decide)) (by exact Bits.fit hy (by decide))) (subC 0 rfl (subC 6 rfl sub0)) (by kernel_rfl) ?_
  refine st_b 50 (show (decide (cmpI (x.fmod y + x.fmod y) y < 0)) = false by exact decide_eq_false (by omega)) (by kernel_rfl) ?_
  refine st_b 57 (show (decide (cmpI (x.fmod y + x.fmod y) y > 0)) = true by exact decide_eq_true (by omega)) (by kernel_rfl) ?_
  exact st_retG (zq3) Try.func108 (subE 1 rfl (by omega) sub0) (by kernel_rfl)
theorem near_8ne (p q : ZQ) (x y : Int) (hx : Bits 200 x) (hy : Bits 200 y) (h0 : 0 < y) (hne : y ≠ 0) (hc : cmpI (x.fmod y) 0 = 1) (hs : cmpI x 0 = -1) (hh : cmpI (x.fmod y + x.fmod y) y = 0) (e : x.fdiv y + 1 = nearQ x y 8) :
    FnZ 108 [(p, x), (q, y)] [zv p, zv q, .int .i64 8] (fun z => .tuple #[zv z, .bool true]) (nearQ x y 8) := by
  refine fnG_of Try.func108 rfl fun ww => ?_
  refine st_g ent122 (fzdiv (p) (q) (x) (y) (by exact Bits.mono hx (by decide)) (by exact Bits.mono hy (by decide)) (by assumption)) (subC 0 rfl (subC 1 rfl sub0)) (by kernel_rfl) (fun zq0 => ?_)
  refine st_fn ent146 (fzsign (zq0.snd) (x.fmod y) (by exact Bits.fit (fmod_b hy (by first | assumption | omega)) (by decide))) (subC 1 rfl sub0) (by kernel_rfl) ?_
  refine st_b 29 (show (cmpI (x.fmod y) 0 == 0) = false by exact decide_eq_false (by omega)) (by kernel_rfl) ?_
  refine st_g ent127 (fzofu (1) (by omega) (by omega)) sub0 (by kernel_rfl) (fun zq2 => ?_)
  refine st_g ent125 (fzadd (zq0.fst) (zq2) (x.fdiv y) (1) (by exact Bits.fit (fdiv_b hx (by first | assumption | omega)) (by decide)) (by exact Bits.fit (show Bits 64 (1) from (by unfold Bits; decide)) (by decide))) (subC 1 rfl (subC 0 rfl sub0)) (by kernel_rfl) (fun zq3 => ?_)
  refine st_fn ent146 (fzsign (p) (x) (by exact Bits.fit hx (by decide))) (subC 4 rfl sub0) (by kernel_rfl) ?_
  refine st_b 38 (show (decide (cmpI x 0 < 0)) = true by exact decide_eq_true (by omega)) (by kernel_rfl) ?_
  refine st_g ent125 (fzadd (zq0.snd) (zq0.snd) (x.fmod y) (x.fmod y) (by exact Bits.fit (fmod_b hy (by first | assumption | omega)) (by decide)) (by exact Bits.fit (fmod_b hy (by first | assumption | omega)) (by decide))) (subC 3 rfl (subC 3 rfl sub0)) (by kernel_rfl) (fun zq5 => ?_)
  refine st_fn ent45 (fzcmp (zq5) (q) (x.fmod y + x.fmod y) (y) (by exact Bits.fit (Bits.add (Bits.mono (l := 200) (fmod_b hy (by first | assumption | omega)) (by decide)) (Bits.mono (l := 200) (fmod_b hy (by first | assumption | omega)) (by decide))) (by decide)) (by exact Bits.fit hy (by decide))) (subC 0 rfl (subC 6 rfl sub0)) (by kernel_rfl) ?_
  refine st_b 50 (show (decide (cmpI (x.fmod y + x.fmod y) y < 0)) = false by exact decide_eq_false (by omega)) (by kernel_rfl) ?_
  refine st_b 57 (show (decide (cmpI (x.fmod y + x.fmod y) y > 0)) = false by exact decide_eq_false (by omega)) (by kernel_rfl) ?_
  exact st_retG (zq3) Try.func108 (subE 1 rfl (by omega) sub0) (by kernel_rfl)
theorem near_8pl (p q : ZQ) (x y : Int) (hx : Bits 200 x) (hy : Bits 200 y) (h0 : 0 < y) (hne : y ≠ 0) (hc : cmpI (x.fmod y) 0 = 1) (hs : 0 ≤ cmpI x 0) (hh : cmpI (x.fmod y + x.fmod y) y = -1) (e : x.fdiv y = nearQ x y 8) :
    FnZ 108 [(p, x), (q, y)] [zv p, zv q, .int .i64 8] (fun z => .tuple #[zv z, .bool true]) (nearQ x y 8) := by
  refine fnG_of Try.func108 rfl fun ww => ?_
  refine st_g ent122 (fzdiv (p) (q) (x) (y) (by exact Bits.mono hx (by decide)) (by exact Bits.mono hy (by decide)) (by assumption)) (subC 0 rfl (subC 1 rfl sub0)) (by kernel_rfl) (fun zq0 => ?_)
  refine st_fn ent146 (fzsign (zq0.snd) (x.fmod y) (by exact Bits.fit (fmod_b hy (by first | assumption | omega)) (by decide))) (subC 1 rfl sub0) (by kernel_rfl) ?_
  refine st_b 29 (show (cmpI (x.fmod y) 0 == 0) = false by exact decide_eq_false (by omega)) (by kernel_rfl) ?_
  refine st_g ent127 (fzofu (1) (by omega) (by omega)) sub0 (by kernel_rfl) (fun zq2 => ?_)
  refine st_g ent125 (fzadd (zq0.fst) (zq2) (x.fdiv y) (1) (by exact Bits.fit (fdiv_b hx (by first | assumption | omega)) (by decide)) (by exact Bits.fit (show Bits 64 (1) from (by unfold Bits; decide)) (by decide))) (subC 1 rfl (subC 0 rfl sub0)) (by kernel_rfl) (fun zq3 => ?_)
  refine st_fn ent146 (fzsign (p) (x) (by exact Bits.fit hx (by decide))) (subC 4 rfl sub0) (by kernel_rfl) ?_
  refine st_b 38 (show (decide (cmpI x 0 < 0)) = false by exact decide_eq_false (by omega)) (by kernel_rfl) ?_
  refine st_g ent125 (fzadd (zq0.snd) (zq0.snd) (x.fmod y) (x.fmod y) (by exact Bits.fit (fmod_b hy (by first | assumption | omega)) (by decide)) (by exact Bits.fit (fmod_b hy (by first | assumption | omega)) (by decide))) (subC 3 rfl (subC 3 rfl sub0)) (by kernel_rfl) (fun zq5 => ?_)
  refine st_fn ent45 (fzcmp (zq5) (q) (x.fmod y + x.fmod y) (y) (by exact Bits.fit (Bits.add (Bits.mono (l := 200) (fmod_b hy (by first | assumption | omega)) (by decide)) (Bits.mono (l := 200) (fmod_b hy (by first | assumption | omega)) (by decide))) (by decide)) (by exact Bits.fit hy (by decide))) (subC 0 rfl (subC 6 rfl sub0)) (by kernel_rfl) ?_
  refine st_b 50 (show (decide (cmpI (x.fmod y + x.fmod y) y < 0)) = true by exact decide_eq_true (by omega)) (by kernel_rfl) ?_
  exact st_retG (zq0.fst) Try.func108 (subE 3 rfl (by omega) sub0) (by kernel_rfl)
theorem near_8pg (p q : ZQ) (x y : Int) (hx : Bits 200 x) (hy : Bits 200 y) (h0 : 0 < y) (hne : y ≠ 0) (hc : cmpI (x.fmod y) 0 = 1) (hs : 0 ≤ cmpI x 0) (hh : cmpI (x.fmod y + x.fmod y) y = 1) (e : x.fdiv y + 1 = nearQ x y 8) :
    FnZ 108 [(p, x), (q, y)] [zv p, zv q, .int .i64 8] (fun z => .tuple #[zv z, .bool true]) (nearQ x y 8) := by
  refine fnG_of Try.func108 rfl fun ww => ?_
  refine st_g ent122 (fzdiv (p) (q) (x) (y) (by exact Bits.mono hx (by decide)) (by exact Bits.mono hy (by decide)) (by assumption)) (subC 0 rfl (subC 1 rfl sub0)) (by kernel_rfl) (fun zq0 => ?_)
  refine st_fn ent146 (fzsign (zq0.snd) (x.fmod y) (by exact Bits.fit (fmod_b hy (by first | assumption | omega)) (by decide))) (subC 1 rfl sub0) (by kernel_rfl) ?_
  refine st_b 29 (show (cmpI (x.fmod y) 0 == 0) = false by exact decide_eq_false (by omega)) (by kernel_rfl) ?_
  refine st_g ent127 (fzofu (1) (by omega) (by omega)) sub0 (by kernel_rfl) (fun zq2 => ?_)
  refine st_g ent125 (fzadd (zq0.fst) (zq2) (x.fdiv y) (1) (by exact Bits.fit (fdiv_b hx (by first | assumption | omega)) (by decide)) (by exact Bits.fit (show Bits 64 (1) from (by unfold Bits; decide)) (by decide))) (subC 1 rfl (subC 0 rfl sub0)) (by kernel_rfl) (fun zq3 => ?_)
  refine st_fn ent146 (fzsign (p) (x) (by exact Bits.fit hx (by decide))) (subC 4 rfl sub0) (by kernel_rfl) ?_
  refine st_b 38 (show (decide (cmpI x 0 < 0)) = false by exact decide_eq_false (by omega)) (by kernel_rfl) ?_
  refine st_g ent125 (fzadd (zq0.snd) (zq0.snd) (x.fmod y) (x.fmod y) (by exact Bits.fit (fmod_b hy (by first | assumption | omega)) (by decide)) (by exact Bits.fit (fmod_b hy (by first | assumption | omega)) (by decide))) (subC 3 rfl (subC 3 rfl sub0)) (by kernel_rfl) (fun zq5 => ?_)
  refine st_fn ent45 (fzcmp (zq5) (q) (x.fmod y + x.fmod y) (y) (by exact Bits.fit (Bits.add (Bits.mono (l := 200) (fmod_b hy (by first | assumption | omega)) (by decide)) (Bits.mono (l := 200) (fmod_b hy (by first | assumption | omega)) (by decide))) (by decide)) (by exact Bits.fit hy (by decide))) (subC 0 rfl (subC 6 rfl sub0)) (by kernel_rfl) ?_
  refine st_b 50 (show (decide (cmpI (x.fmod y + x.fmod y) y < 0)) = false by exact decide_eq_false (by omega)) (by kernel_rfl) ?_
  refine st_b 57 (show (decide (cmpI (x.fmod y + x.fmod y) y > 0)) = true by exact decide_eq_true (by omega)) (by kernel_rfl) ?_
  exact st_retG (zq3) Try.func108 (subE 1 rfl (by omega) sub0) (by kernel_rfl)
theorem near_8pe (p q : ZQ) (x y : Int) (hx : Bits 200 x) (hy : Bits 200 y) (h0 : 0 < y) (hne : y ≠ 0) (hc : cmpI (x.fmod y) 0 = 1) (hs : 0 ≤ cmpI x 0) (hh : cmpI (x.fmod y + x.fmod y) y = 0) (e : x.fdiv y = nearQ x y 8) :
    FnZ 108 [(p, x), (q, y)] [zv p, zv q, .int .i64 8] (fun z => .tuple #[zv z, .bool true]) (nearQ x y 8) := by
  refine fnG_of Try.func108 rfl fun ww => ?_
  refine st_g ent122 (fzdiv (p) (q) (x) (y) (by exact Bits.mono hx (by decide)) (by exact Bits.mono hy (by decide)) (by assumption)) (subC 0 rfl (subC 1 rfl sub0)) (by kernel_rfl) (fun zq0 => ?_)
  refine st_fn ent146 (fzsign (zq0.snd) (x.fmod y) (by exact Bits.fit (fmod_b hy (by first | assumption | omega)) (by decide))) (subC 1 rfl sub0) (by kernel_rfl) ?_
  refine st_b 29 (show (cmpI (x.fmod y) 0 == 0) = false by exact decide_eq_false (by omega)) (by kernel_rfl) ?_
  refine st_g ent127 (fzofu (1) (by omega) (by omega)) sub0 (by kernel_rfl) (fun zq2 => ?_)
  refine st_g ent125 (fzadd (zq0.fst) (zq2) (x.fdiv y) (1) (by exact Bits.fit (fdiv_b hx (by first | assumption | omega)) (by decide)) (by exact Bits.fit (show Bits 64 (1) from (by unfold Bits; decide)) (by decide))) (subC 1 rfl (subC 0 rfl sub0)) (by kernel_rfl) (fun zq3 => ?_)
  refine st_fn ent146 (fzsign (p) (x) (by exact Bits.fit hx (by decide))) (subC 4 rfl sub0) (by kernel_rfl) ?_
  refine st_b 38 (show (decide (cmpI x 0 < 0)) = false by exact decide_eq_false (by omega)) (by kernel_rfl) ?_
  refine st_g ent125 (fzadd (zq0.snd) (zq0.snd) (x.fmod y) (x.fmod y) (by exact Bits.fit (fmod_b hy (by first | assumption | omega)) (by decide)) (by exact Bits.fit (fmod_b hy (by first | assumption | omega)) (by decide))) (subC 3 rfl (subC 3 rfl sub0)) (by kernel_rfl) (fun zq5 => ?_)
  refine st_fn ent45 (fzcmp (zq5) (q) (x.fmod y + x.fmod y) (y) (by exact Bits.fit (Bits.add (Bits.mono (l := 200) (fmod_b hy (by first | assumption | omega)) (by decide)) (Bits.mono (l := 200) (fmod_b hy (by first | assumption | omega)) (by decide))) (by decide)) (by exact Bits.fit hy (by decide))) (subC 0 rfl (subC 6 rfl sub0)) (by kernel_rfl) ?_
  refine st_b 50 (show (decide (cmpI (x.fmod y + x.fmod y) y < 0)) = false by exact decide_eq_false (by omega)) (by kernel_rfl) ?_
  refine st_b 57 (show (decide (cmpI (x.fmod y + x.fmod y) y > 0)) = false by exact decide_eq_false (by omega)) (by kernel_rfl) ?_
  exact st_retG (zq0.fst) Try.func108 (subE 3 rfl (by omega) sub0) (by kernel_rfl)
theorem near_9nl (p q : ZQ) (x y : Int) (hx : Bits 200 x) (hy : Bits 200 y) (h0 : 0 < y) (hne : y ≠ 0) (hc : cmpI (x.fmod y) 0 = 1) (hs : cmpI x 0 = -1) (hh : cmpI (x.fmod y + x.fmod y) y = -1) (e : x.fdiv y = nearQ x y 9) :
    FnZ 108 [(p, x), (q, y)] [zv p, zv q, .int .i64 9] (fun z => .tuple #[zv z, .bool true]) (nearQ x y 9) := by
  refine fnG_of Try.func108 rfl fun ww => ?_
  refine st_g ent122 (fzdiv (p) (q) (x) (y) (by exact Bits.mono hx (by decide)) (by exact Bits.mono hy (by decide)) (by assumption)) (subC 0 rfl (subC 1 rfl sub0)) (by kernel_rfl) (fun zq0 => ?_)
  refine st_fn ent146 (fzsign (zq0.snd) (x.fmod y) (by exact Bits.fit (fmod_b hy (by first | assumption | omega)) (by decide))) (subC 1 rfl sub0) (by kernel_rfl) ?_
  refine st_b 29 (show (cmpI (x.fmod y) 0 == 0) = false by exact decide_eq_false (by omega)) (by kernel_rfl) ?_
  refine st_g ent127 (fzofu (1) (by omega) (by omega)) sub0 (by kernel_rfl) (fun zq2 => ?_)
  refine st_g ent125 (fzadd (zq0.fst) (zq2) (x.fdiv y) (1) (by exact Bits.fit (fdiv_b hx (by first | assumption | omega)) (by decide)) (by exact Bits.fit (show Bits 64 (1) from (by unfold Bits; decide)) (by decide))) (subC 1 rfl (subC 0 rfl sub0)) (by kernel_rfl) (fun zq3 => ?_)
  refine st_fn ent146 (fzsign (p) (x) (by exact Bits.fit hx (by decide))) (subC 4 rfl sub0) (by kernel_rfl) ?_
  refine st_b 38 (show (decide (cmpI x 0 < 0)) = true by exact decide_eq_true (by omega)) (by kernel_rfl) ?_
  refine st_g ent125 (fzadd (zq0.snd) (zq0.snd) (x.fmod y) (x.fmod y) (by exact Bits.fit (fmod_b hy (by first | assumption | omega)) (by decide)) (by exact Bits.fit (fmod_b hy (by first | assumption | omega)) (by decide))) (subC 3 rfl (subC 3 rfl sub0)) (by kernel_rfl) (fun zq5 => ?_)
  refine st_fn ent45 (fzcmp (zq5) (q) (x.fmod y + x.fmod y) (y) (by exact Bits.fit (Bits.add (Bits.mono (l := 200) (fmod_b hy (by first | assumption | omega)) (by decide)) (Bits.mono (l := 200) (fmod_b hy (by first | assumption | omega)) (by decide))) (by decide)) (by exact Bits.fit hy (by decide))) (subC 0 rfl (subC 6 rfl sub0)) (by kernel_rfl) ?_
  refine st_b 50 (show (decide (cmpI (x.fmod y + x.fmod y) y < 0)) = true by exact decide_eq_true (by omega)) (by kernel_rfl) ?_
  exact st_retG (zq0.fst) Try.func108 (subE 3 rfl (by omega) sub0) (by kernel_rfl)
theorem near_9ng (p q : ZQ) (x y : Int) (hx : Bits 200 x) (hy : Bits 200 y) (h0 : 0 < y) (hne : y ≠ 0) (hc : cmpI (x.fmod y) 0 = 1) (hs : cmpI x 0 = -1) (hh : cmpI (x.fmod y + x.fmod y) y = 1) (e : x.fdiv y + 1 = nearQ x y 9) :
    FnZ 108 [(p, x), (q, y)] [zv p, zv q, .int .i64 9] (fun z => .tuple #[zv z, .bool true]) (nearQ x y 9) := by
  refine fnG_of Try.func108 rfl fun ww => ?_
  refine st_g ent122 (fzdiv (p) (q) (x) (y) (by exact Bits.mono hx (by decide)) (by exact Bits.mono hy (by decide)) (by assumption)) (subC 0 rfl (subC 1 rfl sub0)) (by kernel_rfl) (fun zq0 => ?_)
  refine st_fn ent146 (fzsign (zq0.snd) (x.fmod y) (by exact Bits.fit (fmod_b hy (by first | assumption | omega)) (by decide))) (subC 1 rfl sub0) (by kernel_rfl) ?_
  refine st_b 29 (show (cmpI (x.fmod y) 0 == 0) = false by exact decide_eq_false (by omega)) (by kernel_rfl) ?_
  refine st_g ent127 (fzofu (1) (by omega) (by omega)) sub0 (by kernel_rfl) (fun zq2 => ?_)
  refine st_g ent125 (fzadd (zq0.fst) (zq2) (x.fdiv y) (1) (by exact Bits.fit (fdiv_b hx (by first | assumption | omega)) (by decide)) (by exact Bits.fit (show Bits 64 (1) from (by unfold Bits; decide)) (by decide))) (subC 1 rfl (subC 0 rfl sub0)) (by kernel_rfl) (fun zq3 => ?_)
  refine st_fn ent146 (fzsign (p) (x) (by exact Bits.fit hx (by decide))) (subC 4 rfl sub0) (by kernel_rfl) ?_
  refine st_b 38 (show (decide (cmpI x 0 < 0)) = true by exact decide_eq_true (by omega)) (by kernel_rfl) ?_
  refine st_g ent125 (fzadd (zq0.snd) (zq0.snd) (x.fmod y) (x.fmod y) (by exact Bits.fit (fmod_b hy (by first | assumption | omega)) (by decide)) (by exact Bits.fit (fmod_b hy (by first | assumption | omega)) (by decide))) (subC 3 rfl (subC 3 rfl sub0)) (by kernel_rfl) (fun zq5 => ?_)
  refine st_fn ent45 (fzcmp (zq5) (q) (x.fmod y + x.fmod y) (y) (by exact Bits.fit (Bits.add (Bits.mono (l := 200) (fmod_b hy (by first | assumption | omega)) (by decide)) (Bits.mono (l := 200) (fmod_b hy (by first | assumption | omega)) (by decide))) (by decide)) (by exact Bits.fit hy (by decide))) (subC 0 rfl (subC 6 rfl sub0)) (by kernel_rfl) ?_
  refine st_b 50 (show (decide (cmpI (x.fmod y + x.fmod y) y < 0)) = false by exact decide_eq_false (by omega)) (by kernel_rfl) ?_
  refine st_b 57 (show (decide (cmpI (x.fmod y + x.fmod y) y > 0)) = true by exact decide_eq_true (by omega)) (by kernel_rfl) ?_
  exact st_retG (zq3) Try.func108 (subE 1 rfl (by omega) sub0) (by kernel_rfl)
theorem near_9pl (p q : ZQ) (x y : Int) (hx : Bits 200 x) (hy : Bits 200 y) (h0 : 0 < y) (hne : y ≠ 0) (hc : cmpI (x.fmod y) 0 = 1) (hs : 0 ≤ cmpI x 0) (hh : cmpI (x.fmod y + x.fmod y) y = -1) (e : x.fdiv y = nearQ x y 9) :
    FnZ 108 [(p, x), (q, y)] [zv p, zv q, .int .i64 9] (fun z => .tuple #[zv z, .bool true]) (nearQ x y 9) := by
  refine fnG_of Try.func108 rfl fun ww => ?_
  refine st_g ent122 (fzdiv (p) (q) (x) (y) (by exact Bits.mono hx (by decide)) (by exact Bits.mono hy (by decide)) (by assumption)) (subC 0 rfl (subC 1 rfl sub0)) (by kernel_rfl) (fun zq0 => ?_)
  refine st_fn ent146 (fzsign (zq0.snd) (x.fmod y) (by exact Bits.fit (fmod_b hy (by first | assumption | omega)) (by decide))) (subC 1 rfl sub0) (by kernel_rfl) ?_
  refine st_b 29 (show (cmpI (x.fmod y) 0 == 0) = false by exact decide_eq_false (by omega)) (by kernel_rfl) ?_
  refine st_g ent127 (fzofu (1) (by omega) (by omega)) sub0 (by kernel_rfl) (fun zq2 => ?_)
  refine st_g ent125 (fzadd (zq0.fst) (zq2) (x.fdiv y) (1) (by exact Bits.fit (fdiv_b hx (by first | assumption | omega)) (by decide)) (by exact Bits.fit (show Bits 64 (1) from (by unfold Bits; decide)) (by decide))) (subC 1 rfl (subC 0 rfl sub0)) (by kernel_rfl) (fun zq3 => ?_)
  refine st_fn ent146 (fzsign (p) (x) (by exact Bits.fit hx (by decide))) (subC 4 rfl sub0) (by kernel_rfl) ?_
  refine st_b 38 (show (decide (cmpI x 0 < 0)) = false by exact decide_eq_false (by omega)) (by kernel_rfl) ?_
  refine st_g ent125 (fzadd (zq0.snd) (zq0.snd) (x.fmod y) (x.fmod y) (by exact Bits.fit (fmod_b hy (by first | assumption | omega)) (by decide)) (by exact Bits.fit (fmod_b hy (by first | assumption | omega)) (by decide))) (subC 3 rfl (subC 3 rfl sub0)) (by kernel_rfl) (fun zq5 => ?_)
  refine st_fn ent45 (fzcmp (zq5) (q) (x.fmod y + x.fmod y) (y) (by exact Bits.fit (Bits.add (Bits.mono (l := 200) (fmod_b hy (by first | assumption | omega)) (by decide)) (Bits.mono (l := 200) (fmod_b hy (by first | assumption | omega)) (by decide))) (by decide)) (by exact Bits.fit hy (by decide))) (subC 0 rfl (subC 6 rfl sub0)) (by kernel_rfl) ?_
  refine st_b 50 (show (decide (cmpI (x.fmod y + x.fmod y) y < 0)) = true by exact decide_eq_true (by omega)) (by kernel_rfl) ?_
  exact st_retG (zq0.fst) Try.func108 (subE 3 rfl (by omega) sub0) (by kernel_rfl)
theorem near_9pg (p q : ZQ) (x y : Int) (hx : Bits 200 x) (hy : Bits 200 y) (h0 : 0 < y) (hne : y ≠ 0) (hc : cmpI (x.fmod y) 0 = 1) (hs : 0 ≤ cmpI x 0) (hh : cmpI (x.fmod y + x.fmod y) y = 1) (e : x.fdiv y + 1 = nearQ x y 9) :
    FnZ 108 [(p, x), (q, y)] [zv p, zv q, .int .i64 9] (fun z => .tuple #[zv z, .bool true]) (nearQ x y 9) := by
  refine fnG_of Try.func108 rfl fun ww => ?_
  refine st_g ent122 (fzdiv (p) (q) (x) (y) (by exact Bits.mono hx (by decide)) (by exact Bits.mono hy (by decide)) (by assumption)) (subC 0 rfl (subC 1 rfl sub0)) (by kernel_rfl) (fun zq0 => ?_)
  refine st_fn ent146 (fzsign (zq0.snd) (x.fmod y) (by exact Bits.fit (fmod_b hy (by first | assumption | omega)) (by decide))) (subC 1 rfl sub0) (by kernel_rfl) ?_
  refine st_b 29 (show (cmpI (x.fmod y) 0 == 0) = false by exact decide_eq_false (by omega)) (by kernel_rfl) ?_
  refine st_g ent127 (fzofu (1) (by omega) (by omega)) sub0 (by kernel_rfl) (fun zq2 => ?_)
  refine st_g ent125 (fzadd (zq0.fst) (zq2) (x.fdiv y) (1) (by exact Bits.fit (fdiv_b hx (by first | assumption | omega)) (by decide)) (by exact Bits.fit (show Bits 64 (1) from (by unfold Bits; decide)) (by decide))) (subC 1 rfl (subC 0 rfl sub0)) (by kernel_rfl) (fun zq3 => ?_)
  refine st_fn ent146 (fzsign (p) (x) (by exact Bits.fit hx (by decide))) (subC 4 rfl sub0) (by kernel_rfl) ?_
  refine st_b 38 (show (decide (cmpI x 0 < 0)) = false by exact decide_eq_false (by omega)) (by kernel_rfl) ?_
  refine st_g ent125 (fzadd (zq0.snd) (zq0.snd) (x.fmod y) (x.fmod y) (by exact Bits.fit (fmod_b hy (by first | assumption | omega)) (by decide)) (by exact Bits.fit (fmod_b hy (by first | assumption | omega)) (by decide))) (subC 3 rfl (subC 3 rfl sub0)) (by kernel_rfl) (fun zq5 => ?_)
  refine st_fn ent45 (fzcmp (zq5) (q) (x.fmod y + x.fmod y) (y) (by exact Bits.fit (Bits.add (Bits.mono (l := 200) (fmod_b hy (by first | assumption | omega)) (by decide)) (Bits.mono (l := 200) (fmod_b hy (by first | assumption | omega)) (by decide))) (by decide)) (by exact Bits.fit hy (by decide))) (subC 0 rfl (subC 6 rfl sub0)) (by kernel_rfl) ?_
  refine st_b 50 (show (decide (cmpI (x.fmod y + x.fmod y) y < 0)) = false by exact decide_eq_false (by omega)) (by kernel_rfl) ?_
  refine st_b 57 (show (decide (cmpI (x.fmod y + x.fmod y) y > 0)) = true by exact decide_eq_true (by omega)) (by kernel_rfl) ?_
  exact st_retG (zq3) Try.func108 (subE 1 rfl (by omega) sub0) (by kernel_rfl)
theorem near_9nez (p q : ZQ) (x y : Int) (hx : Bits 200 x) (hy : Bits 200 y) (h0 : 0 < y) (hne : y ≠ 0) (hc : cmpI (x.fmod y) 0 = 1) (hs : cmpI x 0 = -1) (hh : cmpI (x.fmod y + x.fmod y) y = 0) (hl : x.fdiv y = 0) (e : x.fdiv y = nearQ x y 9) :
    FnZ 108 [(p, x), (q, y)] [zv p, zv q, .int .i64 9] (fun z => .tuple #[zv z, .bool true]) (nearQ x y 9) := by
  refine fnG_of Try.func108 rfl fun ww => ?_
  refine st_g ent122 (fzdiv p q x y (by exact Bits.mono hx (by decide)) (by exact Bits.mono hy (by decide)) hne) (subC 0 rfl (subC 1 rfl sub0)) (by kernel_rfl) (fun zd => ?_)
  refine st_know (fun w h => z_pure (q := zd.1) (x := x.fdiv y) (h (zd.1, x.fdiv y) (List.mem_append_left _ (by simp)))) fun hk => ?_
  have hl0 := hk.1 hl
  clear hk
  refine st_fn ent146 (fzsign (zd.snd) (x.fmod y) (by exact Bits.fit (fmod_b hy (by first | assumption | omega)) (by decide))) (subC 1 rfl sub0) (by kernel_rfl) ?_
  refine st_b 29 (show (cmpI (x.fmod y) 0 == 0) = false by exact decide_eq_false (by omega)) (by kernel_rfl) ?_
  refine st_g ent127 (fzofu (1) (by omega) (by omega)) sub0 (by kernel_rfl) (fun zq1 => ?_)
  refine st_g ent125 (fzadd (zd.fst) (zq1) (x.fdiv y) (1) (by exact Bits.fit (fdiv_b hx (by first | assumption | omega)) (by decide)) (by exact Bits.fit (show Bits 64 (1) from (by unfold Bits; decide)) (by decide))) (subC 1 rfl (subC 0 rfl sub0)) (by kernel_rfl) (fun zq2 => ?_)
  refine st_fn ent146 (fzsign (p) (x) (by exact Bits.fit hx (by decide))) (subC 4 rfl sub0) (by kernel_rfl) ?_
  refine st_b 38 (show (decide (cmpI x 0 < 0)) = true by exact decide_eq_true (by omega)) (by kernel_rfl) ?_
  refine st_g ent125 (fzadd (zd.snd) (zd.snd) (x.fmod y) (x.fmod y) (by exact Bits.fit (fmod_b hy (by first | assumption | omega)) (by decide)) (by exact Bits.fit (fmod_b hy (by first | assumption | omega)) (by decide))) (subC 3 rfl (subC 3 rfl sub0)) (by kernel_rfl) (fun zq4 => ?_)
  refine st_fn ent45 (fzcmp (zq4) (q) (x.fmod y + x.fmod y) (y) (by exact Bits.fit (Bits.add (Bits.mono (l := 200) (fmod_b hy (by first | assumption | omega)) (by decide)) (Bits.mono (l := 200) (fmod_b hy (by first | assumption | omega)) (by decide))) (by decide)) (by exact Bits.fit hy (by decide))) (subC 0 rfl (subC 6 rfl sub0)) (by kernel_rfl) ?_
  refine st_b 50 (show (decide (cmpI (x.fmod y + x.fmod y) y < 0)) = false by exact decide_eq_false (by omega)) (by kernel_rfl) ?_
  refine st_b 57 (show (decide (cmpI (x.fmod y + x.fmod y) y > 0)) = false by exact decide_eq_false (by omega)) (by kernel_rfl) ?_
  refine st_b 80 (show ((↑zd.fst.l : Int) == 0) = true by exact decide_eq_true (by omega)) (by kernel_rfl) ?_
  exact st_retG (zd.fst) Try.func108 (subE 3 rfl (by omega) sub0) (by kernel_rfl)
theorem near_9nee (p q : ZQ) (x y : Int) (hx : Bits 200 x) (hy : Bits 200 y) (h0 : 0 < y) (hne : y ≠ 0) (hc : cmpI (x.fmod y) 0 = 1) (hs : cmpI x 0 = -1) (hh : cmpI (x.fmod y + x.fmod y) y = 0) (hl : x.fdiv y ≠ 0) (hp : x.fdiv y % 2 = 0) (e : x.fdiv y = nearQ x y 9) :
    FnZ 108 [(p, x), (q, y)] [zv p, zv q, .int .i64 9] (fun z => .tuple #[zv z, .bool true]) (nearQ x y 9) := by
  refine fnG_of Try.func108 rfl fun ww => ?_
  refine st_g ent122 (fzdiv p q x y (by exact Bits.mono hx (by decide)) (by exact Bits.mono hy (by decide)) hne) (subC 0 rfl (subC 1 rfl sub0)) (by kernel_rfl) (fun zd => ?_)
  refine st_know (fun w h => z_pure (q := zd.1) (x := x.fdiv y) (h (zd.1, x.fdiv y) (List.mem_append_left _ (by simp)))) fun hk => ?_
  obtain ⟨hl0, b, off, ha, hl1⟩ := hk.2 hl
  clear hk
  refine st_fn ent146 (fzsign (zd.snd) (x.fmod y) (by exact Bits.fit (fmod_b hy (by first | assumption | omega)) (by decide))) (subC 1 rfl sub0) (by kernel_rfl) ?_
  refine st_b 29 (show (cmpI (x.fmod y) 0 == 0) = false by exact decide_eq_false (by omega)) (by kernel_rfl) ?_
  refine st_g ent127 (fzofu (1) (by omega) (by omega)) sub0 (by kernel_rfl) (fun zq1 => ?_)
  refine st_g ent125 (fzadd (zd.fst) (zq1) (x.fdiv y) (1) (by exact Bits.fit (fdiv_b hx (by first | assumption | omega)) (by decide)) (by exact Bits.fit (show Bits 64 (1) from (by unfold Bits; decide)) (by decide))) (subC 1 rfl (subC 0 rfl sub0)) (by kernel_rfl) (fun zq2 => ?_)
  refine st_fn ent146 (fzsign (p) (x) (by exact Bits.fit hx (by decide))) (subC 4 rfl sub0) (by kernel_rfl) ?_
  refine st_b 38 (show (decide (cmpI x 0 < 0)) = true by exact decide_eq_true (by omega)) (by kernel_rfl) ?_
  refine st_g ent125 (fzadd (zd.snd) (zd.snd) (x.fmod y) (x.fmod y) (by exact Bits.fit (fmod_b hy (by first | assumption | omega)) (by decide)) (by exact Bits.fit (fmod_b hy (by first | assumption | omega)) (by decide))) (subC 3 rfl (subC 3 rfl sub0)) (by kernel_rfl) (fun zq4 => ?_)
  refine st_fn ent45 (fzcmp (zq4) (q) (x.fmod y + x.fmod y) (y) (by exact Bits.fit (Bits.add (Bits.mono (l := 200) (fmod_b hy (by first | assumption | omega)) (by decide)) (Bits.mono (l := 200) (fmod_b hy (by first | assumption | omega)) (by decide))) (by decide)) (by exact Bits.fit hy (by decide))) (subC 0 rfl (subC 6 rfl sub0)) (by kernel_rfl) ?_
  refine st_b 50 (show (decide (cmpI (x.fmod y + x.fmod y) y < 0)) = false by exact decide_eq_false (by omega)) (by kernel_rfl) ?_
  refine st_b 57 (show (decide (cmpI (x.fmod y + x.fmod y) y > 0)) = false by exact decide_eq_false (by omega)) (by kernel_rfl) ?_
  refine st_b 80 (show ((↑zd.fst.l : Int) == 0) = false by exact decide_eq_false (by omega)) (by kernel_rfl) ?_
  refine st_idx (fun w _ => idx0 (c := zd.1.c) ha hl1 w) (by kernel_rfl) ?_
  refine st_ldv (fun w h => load_int (cell_of (q := zd.1) (x := x.fdiv y) (h (zd.1, x.fdiv y) (by simp)) hl ha)) (by kernel_rfl) ?_
  refine st_b 87 (dig_even hp) (by kernel_rfl) ?_
  exact st_retG (zd.fst) Try.func108 (subE 3 rfl (by omega) sub0) (by kernel_rfl)
theorem near_9neo (p q : ZQ) (x y : Int) (hx : Bits 200 x) (hy : Bits 200 y) (h0 : 0 < y) (hne : y ≠ 0) (hc : cmpI (x.fmod y) 0 = 1) (hs : cmpI x 0 = -1) (hh : cmpI (x.fmod y + x.fmod y) y = 0) (hl : x.fdiv y ≠ 0) (hp : ¬ x.fdiv y % 2 = 0) (e : x.fdiv y + 1 = nearQ x y 9) :
    FnZ 108 [(p, x), (q, y)] [zv p, zv q, .int .i64 9] (fun z => .tuple #[zv z, .bool true]) (nearQ x y 9) := by
  refine fnG_of Try.func108 rfl fun ww => ?_
  refine st_g ent122 (fzdiv p q x y (by exact Bits.mono hx (by decide)) (by exact Bits.mono hy (by decide)) hne) (subC 0 rfl (subC 1 rfl sub0)) (by kernel_rfl) (fun zd => ?_)
  refine st_know (fun w h => z_pure (q := zd.1) (x := x.fdiv y) (h (zd.1, x.fdiv y) (List.mem_append_left _ (by simp)))) fun hk => ?_
  obtain ⟨hl0, b, off, ha, hl1⟩ := hk.2 hl
  clear hk
  refine st_fn ent146 (fzsign (zd.snd) (x.fmod y) (by exact Bits.fit (fmod_b hy (by first | assumption | omega)) (by decide))) (subC 1 rfl sub0) (by kernel_rfl) ?_
  refine st_b 29 (show (cmpI (x.fmod y) 0 == 0) = false by exact decide_eq_false (by omega)) (by kernel_rfl) ?_
  refine st_g ent127 (fzofu (1) (by omega) (by omega)) sub0 (by kernel_rfl) (fun zq1 => ?_)
  refine st_g ent125 (fzadd (zd.fst) (zq1) (x.fdiv y) (1) (by exact Bits.fit (fdiv_b hx (by first | assumption | omega)) (by decide)) (by exact Bits.fit (show Bits 64 (1) from (by unfold Bits; decide)) (by decide))) (subC 1 rfl (subC 0 rfl sub0)) (by kernel_rfl) (fun zq2 => ?_)
  refine st_fn ent146 (fzsign (p) (x) (by exact Bits.fit hx (by decide))) (subC 4 rfl sub0) (by kernel_rfl) ?_
  refine st_b 38 (show (decide (cmpI x 0 < 0)) = true by exact decide_eq_true (by omega)) (by kernel_rfl) ?_
  refine st_g ent125 (fzadd (zd.snd) (zd.snd) (x.fmod y) (x.fmod y) (by exact Bits.fit (fmod_b hy (by first | assumption | omega)) (by decide)) (by exact Bits.fit (fmod_b hy (by first | assumption | omega)) (by decide))) (subC 3 rfl (subC 3 rfl sub0)) (by kernel_rfl) (fun zq4 => ?_)
  refine st_fn ent45 (fzcmp (zq4) (q) (x.fmod y + x.fmod y) (y) (by exact Bits.fit (Bits.add (Bits.mono (l := 200) (fmod_b hy (by first | assumption | omega)) (by decide)) (Bits.mono (l := 200) (fmod_b hy (by first | assumption | omega)) (by decide))) (by decide)) (by exact Bits.fit hy (by decide))) (subC 0 rfl (subC 6 rfl sub0)) (by kernel_rfl) ?_
  refine st_b 50 (show (decide (cmpI (x.fmod y + x.fmod y) y < 0)) = false by exact decide_eq_false (by omega)) (by kernel_rfl) ?_
  refine st_b 57 (show (decide (cmpI (x.fmod y + x.fmod y) y > 0)) = false by exact decide_eq_false (by omega)) (by kernel_rfl) ?_
  refine st_b 80 (show ((↑zd.fst.l : Int) == 0) = false by exact decide_eq_false (by omega)) (by kernel_rfl) ?_
  refine st_idx (fun w _ => idx0 (c := zd.1.c) ha hl1 w) (by kernel_rfl) ?_
  refine st_ldv (fun w h => load_int (cell_of (q := zd.1) (x := x.fdiv y) (h (zd.1, x.fdiv y) (by simp)) hl ha)) (by kernel_rfl) ?_
  refine st_b 87 (dig_odd hp) (by kernel_rfl) ?_
  exact st_retG (zq2) Try.func108 (subE 1 rfl (by omega) sub0) (by kernel_rfl)
theorem near_9pez (p q : ZQ) (x y : Int) (hx : Bits 200 x) (hy : Bits 200 y) (h0 : 0 < y) (hne : y ≠ 0) (hc : cmpI (x.fmod y) 0 = 1) (hs : 0 ≤ cmpI x 0) (hh : cmpI (x.fmod y + x.fmod y) y = 0) (hl : x.fdiv y = 0) (e : x.fdiv y = nearQ x y 9) :
    FnZ 108 [(p, x), (q, y)] [zv p, zv q, .int .i64 9] (fun z => .tuple #[zv z, .bool true]) (nearQ x y 9) := by
  refine fnG_of Try.func108 rfl fun ww => ?_
  refine st_g ent122 (fzdiv p q x y (by exact Bits.mono hx (by decide)) (by exact Bits.mono hy (by decide)) hne) (subC 0 rfl (subC 1 rfl sub0)) (by kernel_rfl) (fun zd => ?_)
  refine st_know (fun w h => z_pure (q := zd.1) (x := x.fdiv y) (h (zd.1, x.fdiv y) (List.mem_append_left _ (by simp)))) fun hk => ?_
  have hl0 := hk.1 hl
  clear hk
  refine st_fn ent146 (fzsign (zd.snd) (x.fmod y) (by exact Bits.fit (fmod_b hy (by first | assumption | omega)) (by decide))) (subC 1 rfl sub0) (by kernel_rfl) ?_
  refine st_b 29 (show (cmpI (x.fmod y) 0 == 0) = false by exact decide_eq_false (by omega)) (by kernel_rfl) ?_
  refine st_g ent127 (fzofu (1) (by omega) (by omega)) sub0 (by kernel_rfl) (fun zq1 => ?_)
  refine st_g ent125 (fzadd (zd.fst) (zq1) (x.fdiv y) (1) (by exact Bits.fit (fdiv_b hx (by first | assumption | omega)) (by decide)) (by exact Bits.fit (show Bits 64 (1) from (by unfold Bits; decide)) (by decide))) (subC 1 rfl (subC 0 rfl sub0)) (by kernel_rfl) (fun zq2 => ?_)
  refine st_fn ent146 (fzsign (p) (x) (by exact Bits.fit hx (by decide))) (subC 4 rfl sub0) (by kernel_rfl) ?_
  refine st_b 38 (show (decide (cmpI x 0 < 0)) = false by exact decide_eq_false (by omega)) (by kernel_rfl) ?_
  refine st_g ent125 (fzadd (zd.snd) (zd.snd) (x.fmod y) (x.fmod y) (by exact Bits.fit (fmod_b hy (by first | assumption | omega)) (by decide)) (by exact Bits.fit (fmod_b hy (by first | assumption | omega)) (by decide))) (subC 3 rfl (subC 3 rfl sub0)) (by kernel_rfl) (fun zq4 => ?_)
  refine st_fn ent45 (fzcmp (zq4) (q) (x.fmod y + x.fmod y) (y) (by exact Bits.fit (Bits.add (Bits.mono (l := 200) (fmod_b hy (by first | assumption | omega)) (by decide)) (Bits.mono (l := 200) (fmod_b hy (by first | assumption | omega)) (by decide))) (by decide)) (by exact Bits.fit hy (by decide))) (subC 0 rfl (subC 6 rfl sub0)) (by kernel_rfl) ?_
  refine st_b 50 (show (decide (cmpI (x.fmod y + x.fmod y) y < 0)) = false by exact decide_eq_false (by omega)) (by kernel_rfl) ?_
  refine st_b 57 (show (decide (cmpI (x.fmod y + x.fmod y) y > 0)) = false by exact decide_eq_false (by omega)) (by kernel_rfl) ?_
  refine st_b 80 (show ((↑zd.fst.l : Int) == 0) = true by exact decide_eq_true (by omega)) (by kernel_rfl) ?_
  exact st_retG (zd.fst) Try.func108 (subE 3 rfl (by omega) sub0) (by kernel_rfl)
theorem near_9pee (p q : ZQ) (x y : Int) (hx : Bits 200 x) (hy : Bits 200 y) (h0 : 0 < y) (hne : y ≠ 0) (hc : cmpI (x.fmod y) 0 = 1) (hs : 0 ≤ cmpI x 0) (hh : cmpI (x.fmod y + x.fmod y) y = 0) (hl : x.fdiv y ≠ 0) (hp : x.fdiv y % 2 = 0) (e : x.fdiv y = nearQ x y 9) :
    FnZ 108 [(p, x), (q, y)] [zv p, zv q, .int .i64 9] (fun z => .tuple #[zv z, .bool true]) (nearQ x y 9) := by
  refine fnG_of Try.func108 rfl fun ww => ?_
  refine st_g ent122 (fzdiv p q x y (by exact Bits.mono hx (by decide)) (by exact Bits.mono hy (by decide)) hne) (subC 0 rfl (subC 1 rfl sub0)) (by kernel_rfl) (fun zd => ?_)
  refine st_know (fun w h => z_pure (q := zd.1) (x := x.fdiv y) (h (zd.1, x.fdiv y) (List.mem_append_left _ (by simp)))) fun hk => ?_
  obtain ⟨hl0, b, off, ha, hl1⟩ := hk.2 hl
  clear hk
  refine st_fn ent146 (fzsign (zd.snd) (x.fmod y) (by exact Bits.fit (fmod_b hy (by first | assumption | omega)) (by decide))) (subC 1 rfl sub0) (by kernel_rfl) ?_
  refine st_b 29 (show (cmpI (x.fmod y) 0 == 0) = false by exact decide_eq_false (by omega)) (by kernel_rfl) ?_
  refine st_g ent127 (fzofu (1) (by omega) (by omega)) sub0 (by kernel_rfl) (fun zq1 => ?_)
  refine st_g ent125 (fzadd (zd.fst) (zq1) (x.fdiv y) (1) (by exact Bits.fit (fdiv_b hx (by first | assumption | omega)) (by decide)) (by exact Bits.fit (show Bits 64 (1) from (by unfold Bits; decide)) (by decide))) (subC 1 rfl (subC 0 rfl sub0)) (by kernel_rfl) (fun zq2 => ?_)
  refine st_fn ent146 (fzsign (p) (x) (by exact Bits.fit hx (by decide))) (subC 4 rfl sub0) (by kernel_rfl) ?_
  refine st_b 38 (show (decide (cmpI x 0 < 0)) = false by exact decide_eq_false (by omega)) (by kernel_rfl) ?_
  refine st_g ent125 (fzadd (zd.snd) (zd.snd) (x.fmod y) (x.fmod y) (by exact Bits.fit (fmod_b hy (by first | assumption | omega)) (by decide)) (by exact Bits.fit (fmod_b hy (by first | assumption | omega)) (by decide))) (subC 3 rfl (subC 3 rfl sub0)) (by kernel_rfl) (fun zq4 => ?_)
  refine st_fn ent45 (fzcmp (zq4) (q) (x.fmod y + x.fmod y) (y) (by exact Bits.fit (Bits.add (Bits.mono (l := 200) (fmod_b hy (by first | assumption | omega)) (by decide)) (Bits.mono (l := 200) (fmod_b hy (by first | assumption | omega)) (by decide))) (by decide)) (by exact Bits.fit hy (by decide))) (subC 0 rfl (subC 6 rfl sub0)) (by kernel_rfl) ?_
  refine st_b 50 (show (decide (cmpI (x.fmod y + x.fmod y) y < 0)) = false by exact decide_eq_false (by omega)) (by kernel_rfl) ?_
  refine st_b 57 (show (decide (cmpI (x.fmod y + x.fmod y) y > 0)) = false by exact decide_eq_false (by omega)) (by kernel_rfl) ?_
  refine st_b 80 (show ((↑zd.fst.l : Int) == 0) = false by exact decide_eq_false (by omega)) (by kernel_rfl) ?_
  refine st_idx (fun w _ => idx0 (c := zd.1.c) ha hl1 w) (by kernel_rfl) ?_
  refine st_ldv (fun w h => load_int (cell_of (q := zd.1) (x := x.fdiv y) (h (zd.1, x.fdiv y) (by simp)) hl ha)) (by kernel_rfl) ?_
  refine st_b 87 (dig_even hp) (by kernel_rfl) ?_
  exact st_retG (zd.fst) Try.func108 (subE 3 rfl (by omega) sub0) (by kernel_rfl)
theorem near_9peo (p q : ZQ) (x y : Int) (hx : Bits 200 x) (hy : Bits 200 y) (h0 : 0 < y) (hne : y ≠ 0) (hc : cmpI (x.fmod y) 0 = 1) (hs : 0 ≤ cmpI x 0) (hh : cmpI (x.fmod y + x.fmod y) y = 0) (hl : x.fdiv y ≠ 0) (hp : ¬ x.fdiv y % 2 = 0) (e : x.fdiv y + 1 = nearQ x y 9) :
    FnZ 108 [(p, x), (q, y)] [zv p, zv q, .int .i64 9] (fun z => .tuple #[zv z, .bool true]) (nearQ x y 9) := by
  refine fnG_of Try.func108 rfl fun ww => ?_
  refine st_g ent122 (fzdiv p q x y (by exact Bits.mono hx (by decide)) (by exact Bits.mono hy (by decide)) hne) (subC 0 rfl (subC 1 rfl sub0)) (by kernel_rfl) (fun zd => ?_)
  refine st_know (fun w h => z_pure (q := zd.1) (x := x.fdiv y) (h (zd.1, x.fdiv y) (List.mem_append_left _ (by simp)))) fun hk => ?_
  obtain ⟨hl0, b, off, ha, hl1⟩ := hk.2 hl
  clear hk
  refine st_fn ent146 (fzsign (zd.snd) (x.fmod y) (by exact Bits.fit (fmod_b hy (by first | assumption | omega)) (by decide))) (subC 1 rfl sub0) (by kernel_rfl) ?_
  refine st_b 29 (show (cmpI (x.fmod y) 0 == 0) = false by exact decide_eq_false (by omega)) (by kernel_rfl) ?_
  refine st_g ent127 (fzofu (1) (by omega) (by omega)) sub0 (by kernel_rfl) (fun zq1 => ?_)
  refine st_g ent125 (fzadd (zd.fst) (zq1) (x.fdiv y) (1) (by exact Bits.fit (fdiv_b hx (by first | assumption | omega)) (by decide)) (by exact Bits.fit (show Bits 64 (1) from (by unfold Bits; decide)) (by decide))) (subC 1 rfl (subC 0 rfl sub0)) (by kernel_rfl) (fun zq2 => ?_)
  refine st_fn ent146 (fzsign (p) (x) (by exact Bits.fit hx (by decide))) (subC 4 rfl sub0) (by kernel_rfl) ?_
  refine st_b 38 (show (decide (cmpI x 0 < 0)) = false by exact decide_eq_false (by omega)) (by kernel_rfl) ?_
  refine st_g ent125 (fzadd (zd.snd) (zd.snd) (x.fmod y) (x.fmod y) (by exact Bits.fit (fmod_b hy (by first | assumption | omega)) (by decide)) (by exact Bits.fit (fmod_b hy (by first | assumption | omega)) (by decide))) (subC 3 rfl (subC 3 rfl sub0)) (by kernel_rfl) (fun zq4 => ?_)
  refine st_fn ent45 (fzcmp (zq4) (q) (x.fmod y + x.fmod y) (y) (by exact Bits.fit (Bits.add (Bits.mono (l := 200) (fmod_b hy (by first | assumption | omega)) (by decide)) (Bits.mono (l := 200) (fmod_b hy (by first | assumption | omega)) (by decide))) (by decide)) (by exact Bits.fit hy (by decide))) (subC 0 rfl (subC 6 rfl sub0)) (by kernel_rfl) ?_
  refine st_b 50 (show (decide (cmpI (x.fmod y + x.fmod y) y < 0)) = false by exact decide_eq_false (by omega)) (by kernel_rfl) ?_
  refine st_b 57 (show (decide (cmpI (x.fmod y + x.fmod y) y > 0)) = false by exact decide_eq_false (by omega)) (by kernel_rfl) ?_
  refine st_b 80 (show ((↑zd.fst.l : Int) == 0) = false by exact decide_eq_false (by omega)) (by kernel_rfl) ?_
  refine st_idx (fun w _ => idx0 (c := zd.1.c) ha hl1 w) (by kernel_rfl) ?_
  refine st_ldv (fun w h => load_int (cell_of (q := zd.1) (x := x.fdiv y) (h (zd.1, x.fdiv y) (by simp)) hl ha)) (by kernel_rfl) ?_
  refine st_b 87 (dig_odd hp) (by kernel_rfl) ?_
  exact st_retG (zq2) Try.func108 (subE 1 rfl (by omega) sub0) (by kernel_rfl)
end Go.Proofs.Ytcndfpfjckkinaa
