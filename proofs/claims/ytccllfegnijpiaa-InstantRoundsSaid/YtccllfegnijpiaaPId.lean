/-
  Texts joined: Near, Nea, Dfr, Mir, Nrr, Dur, Ins, App, Wsum, Dus, Duc, Btw, Btt, Dud. Each says at its head what it shows.
-/
import Derived.ArgAppend
import Derived.Test.YtccllfegnijpiaaPIc
section
/-
  The reference's Near: a fraction rounded, by definition.
-/
set_option linter.unusedVariables false
set_option maxRecDepth 100000
namespace Go.Proofs.Ytccllfegnijpiaa
open Go Go.RowKit Go.Ev

theorem z_zero {w : World} {q : ZQ} {x : Int} (h : ZOf q x w) : q.l = 0 ↔ x = 0 := (isZ_sign h).1
theorem z_dig {w : World} {q : ZQ} {x : Int} (h : ZOf q x w) (hx : x ≠ 0) : ∃ b off, q.a = some ⟨b, off, none⟩ ∧ w.cell? ⟨b, off, none⟩ = some (.int .i64 ((x.natAbs : Int) % 65536)) ∧ 0 < q.l := by
  have hz := z_zero h
  obtain ⟨ds, ⟨a, cap, b, off, e, h1, h2, h3⟩, hd, ht, hn, hneg⟩ := h
  simp only [Value.slice.injEq] at e
  obtain ⟨ea, el, ec⟩ := e
  have hl : 0 < ds.length := by
    rcases Nat.eq_zero_or_pos ds.length with h0 | h0
    · exact absurd (hz.1 (by rw [el]; exact h0)) hx
    · exact h0
  obtain ⟨e1, -⟩ := h2 hl
  refine ⟨b, off, by rw [ea, e1], ?_, by omega⟩
  have h4 := h3 0 hl
  rw [Nat.add_zero] at h4
  rw [h4]
  congr 2
  have hv := val_nonneg hd
  have hab : (x.natAbs : Int) = val ds := by
    rw [hn]; unfold sgn; split <;> omega
  rw [hab]
  cases ds with
  | nil => simp at hl
  | cons d ds =>
    have h0 := hd 0
    simp only [dg_eq, List.getD_cons_zero] at h0 ⊢
    simp only [val]
    omega
theorem idx0 {a : Option Addr} {l c b off : Nat} (ha : a = some ⟨b, off, none⟩) (hl : 0 < l) (w : World) : (Instr.indexAt 77 (.slice a l c) (.int .i64 0)).run Try.prog w = .ok (.pointer (some ⟨b, off, none⟩)) w := by
  have hu : Try.prog.underlying 77 = some (.slice 3) := by kernel_rfl
  have hs : (sizeOf 3).run Try.prog w = .ok 1 w := pureOf_run (P := Try.prog) (by kernel_rfl) w
  have h1 : (0 : Int) ≤ 0 ∧ (0 : Int) < (l : Int) := ⟨Int.le_refl 0, by omega⟩
  subst ha
  simp only [Instr.indexAt, asIntOf, Sem.run_bind, Sem.run_pure, Result.andThen_ok, run_underlying hu w, h1, and_self, if_true, hs]
  rfl
theorem cell_of {w : World} {q : ZQ} {x : Int} {b off : Nat} (h : ZOf q x w) (hx : x ≠ 0) (ha : q.a = some ⟨b, off, none⟩) : w.cell? ⟨b, off, none⟩ = some (.int .i64 ((x.natAbs : Int) % 65536)) := by
  obtain ⟨b', off', e, hc, -⟩ := z_dig h hx
  rw [ha] at e
  simp only [Option.some.injEq, Addr.mk.injEq] at e
  obtain ⟨rfl, rfl, -⟩ := e
  exact hc
theorem z_pure {w : World} {q : ZQ} {x : Int} (h : ZOf q x w) : (x = 0 → (q.l : Int) = 0) ∧ (x ≠ 0 → (q.l : Int) ≠ 0 ∧ ∃ b off, q.a = some ⟨b, off, none⟩ ∧ 0 < q.l) := by
  refine ⟨fun k => by have := (z_zero h).2 k; omega, fun k => ?_⟩
  obtain ⟨b, off, e, _, hl⟩ := z_dig h k
  exact ⟨by omega, b, off, e, hl⟩
theorem dig_even {x : Int} (h : x % 2 = 0) : (((x.natAbs : Int) % 65536).tmod 2 == 0) = true := by
  rw [Int.tmod_eq_emod_of_nonneg (by omega), beq_iff_eq]; omega
theorem dig_odd {x : Int} (h : ¬ x % 2 = 0) : (((x.natAbs : Int) % 65536).tmod 2 == 0) = false := by
  rw [Int.tmod_eq_emod_of_nonneg (by omega), beq_eq_false_iff_ne]; omega
theorem half_cmp (r d : Int) : cmpI (r + r) d = cmpI r (d - r) := by unfold cmpI; split <;> split <;> (try split) <;> (try split) <;> omega
theorem near_zero (p q : ZQ) (x y mode : Int) (hx : Bits 200 x) (hy : Bits 200 y) (h0 : 0 < y) (h1 : 1 ≤ mode) (h2 : mode ≤ 9) (hr : x.fmod y = 0) (e : x.fdiv y = nearQ x y mode) :
    FnZ 46 [(p, x), (q, y)] [zv p, zv q, .int .i64 mode] (fun z => .tuple #[zv z, .bool true]) (nearQ x y mode) := by
  have hc : cmpI (x.fmod y) 0 = 0 := by rw [hr]; rfl
  have hne : y ≠ 0 := by omega
  refine fnG_of Try.func46 rfl fun ww => ?_
  refine st_b 15 (show (decide (mode < 1)) = false by exact decide_eq_false (by omega)) (by kernel_rfl) ?_
  refine st_b 18 (show (decide (mode > 9)) = false by exact decide_eq_false (by omega)) (by kernel_rfl) ?_
  refine st_g ent44 (fzdiv (p) (q) (x) (y) (by exact Bits.mono hx (by decide)) (by exact Bits.mono hy (by decide)) (by assumption)) (subC 0 rfl (subC 1 rfl sub0)) (by kernel_rfl) (fun zq0 => ?_)
  refine st_fn ent45 (fzsign (zq0.snd) (x.fmod y) (by exact Bits.fit (fmod_b hy (by first | assumption | omega)) (by decide))) (subC 1 rfl sub0) (by kernel_rfl) ?_
  refine st_b 29 (show (cmpI (x.fmod y) 0 == 0) = true by exact decide_eq_true (by omega)) (by kernel_rfl) ?_
  exact st_retG (zq0.fst) Try.func46 (subE 0 rfl (by omega) sub0) (by kernel_rfl)
theorem near_no (p q : ZQ) (x y mode : Int) (h : mode < 1 ∨ 9 < mode) : Fn 46 [] [zv p, zv q, .int .i64 mode] (.tuple #[.agg #[.bool false, .slice none 0 0], .bool false]) := by
  by_cases k : mode < 1
  · refine fn_of Try.func46 rfl fun ww => ?_
    refine st_b 15 (show (decide (mode < 1)) = true by exact decide_eq_true (by omega)) (by kernel_rfl) ?_
    exact st_ret Try.func46 (by kernel_rfl)
  · refine fn_of Try.func46 rfl fun ww => ?_
    refine st_b 15 (show (decide (mode < 1)) = false by exact decide_eq_false (by omega)) (by kernel_rfl) ?_
    refine st_b 18 (show (decide (mode > 9)) = true by exact decide_eq_true (by omega)) (by kernel_rfl) ?_
    exact st_ret Try.func46 (by kernel_rfl)
theorem near_1n (p q : ZQ) (x y : Int) (hx : Bits 200 x) (hy : Bits 200 y) (h0 : 0 < y) (hne : y ≠ 0) (hc : cmpI (x.fmod y) 0 = 1) (hs : cmpI x 0 = -1)  (e : x.fdiv y + 1 = nearQ x y 1) :
    FnZ 46 [(p, x), (q, y)] [zv p, zv q, .int .i64 1] (fun z => .tuple #[zv z, .bool true]) (nearQ x y 1) := by
  refine fnG_of Try.func46 rfl fun ww => ?_
  refine st_g ent44 (fzdiv (p) (q) (x) (y) (by exact Bits.mono hx (by decide)) (by exact Bits.mono hy (by decide)) (by assumption)) (subC 0 rfl (subC 1 rfl sub0)) (by kernel_rfl) (fun zq0 => ?_)
  refine st_fn ent45 (fzsign (zq0.snd) (x.fmod y) (by exact Bits.fit (fmod_b hy (by first | assumption | omega)) (by decide))) (subC 1 rfl sub0) (by kernel_rfl) ?_
  refine st_b 29 (show (cmpI (x.fmod y) 0 == 0) = false by exact decide_eq_false (by omega)) (by kernel_rfl) ?_
  refine st_g ent104 (fzofu (1) (by omega) (by omega)) sub0 (by kernel_rfl) (fun zq2 => ?_)
  refine st_g ent53 (fzadd (zq0.fst) (zq2) (x.fdiv y) (1) (by exact Bits.fit (fdiv_b hx (by first | assumption | omega)) (by decide)) (by exact Bits.fit (show Bits 64 (1) from (by unfold Bits; decide)) (by decide))) (subC 1 rfl (subC 0 rfl sub0)) (by kernel_rfl) (fun zq3 => ?_)
  refine st_fn ent45 (fzsign (p) (x) (by exact Bits.fit hx (by decide))) (subC 4 rfl sub0) (by kernel_rfl) ?_
  refine st_b 38 (show (decide (cmpI x 0 < 0)) = true by exact decide_eq_true (by omega)) (by kernel_rfl) ?_
  refine st_g ent53 (fzadd (zq0.snd) (zq0.snd) (x.fmod y) (x.fmod y) (by exact Bits.fit (fmod_b hy (by first | assumption | omega)) (by decide)) (by exact Bits.fit (fmod_b hy (by first | assumption | omega)) (by decide))) (subC 3 rfl (subC 3 rfl sub0)) (by kernel_rfl) (fun zq5 => ?_)
  refine st_fn ent108 (fzcmp (zq5) (q) (x.fmod y + x.fmod y) (y) (by exact Bits.fit (Bits.add (Bits.mono (l := 200) (fmod_b hy (by first | assumption | omega)) (by decide)) (Bits.mono (l := 200) (fmod_b hy (by first | assumption | omega)) (by decide))) (by decide)) (by exact Bits.fit hy (by decide))) (subC 0 rfl (subC 6 rfl sub0)) (by kernel_rfl) ?_
  exact st_retG (zq3) Try.func46 (subE 1 rfl (by omega) sub0) (by kernel_rfl)
theorem near_1p (p q : ZQ) (x y : Int) (hx : Bits 200 x) (hy : Bits 200 y) (h0 : 0 < y) (hne : y ≠ 0) (hc : cmpI (x.fmod y) 0 = 1) (hs : 0 ≤ cmpI x 0)  (e : x.fdiv y + 1 = nearQ x y 1) :
    FnZ 46 [(p, x), (q, y)] [zv p, zv q, .int .i64 1] (fun z => .tuple #[zv z, .bool true]) (nearQ x y 1) := by
  refine fnG_of Try.func46 rfl fun ww => ?_
  refine st_g ent44 (fzdiv (p) (q) (x) (y) (by exact Bits.mono hx (by decide)) (by exact Bits.mono hy (by decide)) (by assumption)) (subC 0 rfl (subC 1 rfl sub0)) (by kernel_rfl) (fun zq0 => ?_)
  refine st_fn ent45 (fzsign (zq0.snd) (x.fmod y) (by exact Bits.fit (fmod_b hy (by first | assumption | omega)) (by decide))) (subC 1 rfl sub0) (by kernel_rfl) ?_
  refine st_b 29 (show (cmpI (x.fmod y) 0 == 0) = false by exact decide_eq_false (by omega)) (by kernel_rfl) ?_
  refine st_g ent104 (fzofu (1) (by omega) (by omega)) sub0 (by kernel_rfl) (fun zq2 => ?_)
  refine st_g ent53 (fzadd (zq0.fst) (zq2) (x.fdiv y) (1) (by exact Bits.fit (fdiv_b hx (by first | assumption | omega)) (by decide)) (by exact Bits.fit (show Bits 64 (1) from (by unfold Bits; decide)) (by decide))) (subC 1 rfl (subC 0 rfl sub0)) (by kernel_rfl) (fun zq3 => ?_)
  refine st_fn ent45 (fzsign (p) (x) (by exact Bits.fit hx (by decide))) (subC 4 rfl sub0) (by kernel_rfl) ?_
  refine st_b 38 (show (decide (cmpI x 0 < 0)) = false by exact decide_eq_false (by omega)) (by kernel_rfl) ?_
  refine st_g ent53 (fzadd (zq0.snd) (zq0.snd) (x.fmod y) (x.fmod y) (by exact Bits.fit (fmod_b hy (by first | assumption | omega)) (by decide)) (by exact Bits.fit (fmod_b hy (by first | assumption | omega)) (by decide))) (subC 3 rfl (subC 3 rfl sub0)) (by kernel_rfl) (fun zq5 => ?_)
  refine st_fn ent108 (fzcmp (zq5) (q) (x.fmod y + x.fmod y) (y) (by exact Bits.fit (Bits.add (Bits.mono (l := 200) (fmod_b hy (by first | assumption | omega)) (by decide)) (Bits.mono (l := 200) (fmod_b hy (by first | assumption | omega)) (by decide))) (by decide)) (by exact Bits.fit hy (by decide))) (subC 0 rfl (subC 6 rfl sub0)) (by kernel_rfl) ?_
  exact st_retG (zq3) Try.func46 (subE 1 rfl (by omega) sub0) (by kernel_rfl)
theorem near_2n (p q : ZQ) (x y : Int) (hx : Bits 200 x) (hy : Bits 200 y) (h0 : 0 < y) (hne : y ≠ 0) (hc : cmpI (x.fmod y) 0 = 1) (hs : cmpI x 0 = -1)  (e : x.fdiv y = nearQ x y 2) :
    FnZ 46 [(p, x), (q, y)] [zv p, zv q, .int .i64 2] (fun z => .tuple #[zv z, .bool true]) (nearQ x y 2) := by
  refine fnG_of Try.func46 rfl fun ww => ?_
  refine st_g ent44 (fzdiv (p) (q) (x) (y) (by exact Bits.mono hx (by decide)) (by exact Bits.mono hy (by decide)) (by assumption)) (subC 0 rfl (subC 1 rfl sub0)) (by kernel_rfl) (fun zq0 => ?_)
  refine st_fn ent45 (fzsign (zq0.snd) (x.fmod y) (by exact Bits.fit (fmod_b hy (by first | assumption | omega)) (by decide))) (subC 1 rfl sub0) (by kernel_rfl) ?_
  refine st_b 29 (show (cmpI (x.fmod y) 0 == 0) = false by exact decide_eq_false (by omega)) (by kernel_rfl) ?_
  refine st_g ent104 (fzofu (1) (by omega) (by omega)) sub0 (by kernel_rfl) (fun zq2 => ?_)
  refine st_g ent53 (fzadd (zq0.fst) (zq2) (x.fdiv y) (1) (by exact Bits.fit (fdiv_b hx (by first | assumption | omega)) (by decide)) (by exact Bits.fit (show Bits 64 (1) from (by unfold Bits; decide)) (by decide))) (subC 1 rfl (subC 0 rfl sub0)) (by kernel_rfl) (fun zq3 => ?_)
  refine st_fn ent45 (fzsign (p) (x) (by exact Bits.fit hx (by decide))) (subC 4 rfl sub0) (by kernel_rfl) ?_
  refine st_b 38 (show (decide (cmpI x 0 < 0)) = true by exact decide_eq_true (by omega)) (by kernel_rfl) ?_
  refine st_g ent53 (fzadd (zq0.snd) (zq0.snd) (x.fmod y) (x.fmod y) (by exact Bits.fit (fmod_b hy (by first | assumption | omega)) (by decide)) (by exact Bits.fit (fmod_b hy (by first | assumption | omega)) (by decide))) (subC 3 rfl (subC 3 rfl sub0)) (by kernel_rfl) (fun zq5 => ?_)
  refine st_fn ent108 (fzcmp (zq5) (q) (x.fmod y + x.fmod y) (y) (by exact Bits.fit (Bits.add (Bits.mono (l := 200) (fmod_b hy (by first | assumption | omega)) (by decide)) (Bits.mono (l := 200) (fmod_b hy (by first | assumption | omega)) (by decide))) (by decide)) (by exact Bits.fit hy (by decide))) (subC 0 rfl (subC 6 rfl sub0)) (by kernel_rfl) ?_
  exact st_retG (zq0.fst) Try.func46 (subE 3 rfl (by omega) sub0) (by kernel_rfl)
theorem near_2p (p q : ZQ) (x y : Int) (hx : Bits 200 x) (hy : Bits 200 y) (h0 : 0 < y) (hne : y ≠ 0) (hc : cmpI (x.fmod y) 0 = 1) (hs : 0 ≤ cmpI x 0)  (e : x.fdiv y = nearQ x y 2) :
    FnZ 46 [(p, x), (q, y)] [zv p, zv q, .int .i64 2] (fun z => .tuple #[zv z, .bool true]) (nearQ x y 2) := by
  refine fnG_of Try.func46 rfl fun ww => ?_
  refine st_g ent44 (fzdiv (p) (q) (x) (y) (by exact Bits.mono hx (by decide)) (by exact Bits.mono hy (by decide)) (by assumption)) (subC 0 rfl (subC 1 rfl sub0)) (by kernel_rfl) (fun zq0 => ?_)
  refine st_fn ent45 (fzsign (zq0.snd) (x.fmod y) (by exact Bits.fit (fmod_b hy (by first | assumption | omega)) (by decide))) (subC 1 rfl sub0) (by kernel_rfl) ?_
  refine st_b 29 (show (cmpI (x.fmod y) 0 == 0) = false by exact decide_eq_false (by omega)) (by kernel_rfl) ?_
  refine st_g ent104 (fzofu (1) (by omega) (by omega)) sub0 (by kernel_rfl) (fun zq2 => ?_)
  refine st_g ent53 (fzadd (zq0.fst) (zq2) (x.fdiv y) (1) (by exact Bits.fit (fdiv_b hx (by first | assumption | omega)) (by decide)) (by exact Bits.fit (show Bits 64 (1) from (by unfold Bits; decide)) (by decide))) (subC 1 rfl (subC 0 rfl sub0)) (by kernel_rfl) (fun zq3 => ?_)
  refine st_fn ent45 (fzsign (p) (x) (by exact Bits.fit hx (by decide))) (subC 4 rfl sub0) (by kernel_rfl) ?_
  refine st_b 38 (show (decide (cmpI x 0 < 0)) = false by exact decide_eq_false (by omega)) (by kernel_rfl) ?_
  refine st_g ent53 (fzadd (zq0.snd) (zq0.snd) (x.fmod y) (x.fmod y) (by exact Bits.fit (fmod_b hy (by first | assumption | omega)) (by decide)) (by exact Bits.fit (fmod_b hy (by first | assumption | omega)) (by decide))) (subC 3 rfl (subC 3 rfl sub0)) (by kernel_rfl) (fun zq5 => ?_)
  refine st_fn ent108 (fzcmp (zq5) (q) (x.fmod y + x.fmod y) (y) (by exact Bits.fit (Bits.add (Bits.mono (l := 200) (fmod_b hy (by first | assumption | omega)) (by decide)) (Bits.mono (l := 200) (fmod_b hy (by first | assumption | omega)) (by decide))) (by decide)) (by exact Bits.fit hy (by decide))) (subC 0 rfl (subC 6 rfl sub0)) (by kernel_rfl) ?_
  exact st_retG (zq0.fst) Try.func46 (subE 3 rfl (by omega) sub0) (by kernel_rfl)
theorem near_3n (p q : ZQ) (x y : Int) (hx : Bits 200 x) (hy : Bits 200 y) (h0 : 0 < y) (hne : y ≠ 0) (hc : cmpI (x.fmod y) 0 = 1) (hs : cmpI x 0 = -1)  (e : x.fdiv y = nearQ x y 3) :
    FnZ 46 [(p, x), (q, y)] [zv p, zv q, .int .i64 3] (fun z => .tuple #[zv z, .bool true]) (nearQ x y 3) := by
  refine fnG_of Try.func46 rfl fun ww => ?_
  refine st_g ent44 (fzdiv (p) (q) (x) (y) (by exact Bits.mono hx (by decide)) (by exact Bits.mono hy (by decide)) (by assumption)) (subC 0 rfl (subC 1 rfl sub0)) (by kernel_rfl) (fun zq0 => ?_)
  refine st_fn ent45 (fzsign (zq0.snd) (x.fmod y) (by exact Bits.fit (fmod_b hy (by first | assumption | omega)) (by decide))) (subC 1 rfl sub0) (by kernel_rfl) ?_
  refine st_b 29 (show (cmpI (x.fmod y) 0 == 0) = false by exact decide_eq_false (by omega)) (by kernel_rfl) ?_
  refine st_g ent104 (fzofu (1) (by omega) (by omega)) sub0 (by kernel_rfl) (fun zq2 => ?_)
  refine st_g ent53 (fzadd (zq0.fst) (zq2) (x.fdiv y) (1) (by exact Bits.fit (fdiv_b hx (by first | assumption | omega)) (by decide)) (by exact Bits.fit (show Bits 64 (1) from (by unfold Bits; decide)) (by decide))) (subC 1 rfl (subC 0 rfl sub0)) (by kernel_rfl) (fun zq3 => ?_)
  refine st_fn ent45 (fzsign (p) (x) (by exact Bits.fit hx (by decide))) (subC 4 rfl sub0) (by kernel_rfl) ?_
  refine st_b 38 (show (decide (cmpI x 0 < 0)) = true by exact decide_eq_true (by omega)) (by kernel_rfl) ?_
  refine st_g ent53 (fzadd (zq0.snd) (zq0.snd) (x.fmod y) (x.fmod y) (by exact Bits.fit (fmod_b hy (by first | assumption | omega)) (by decide)) (by exact Bits.fit (fmod_b hy (by first | assumption | omega)) (by decide))) (subC 3 rfl (subC 3 rfl sub0)) (by kernel_rfl) (fun zq5 => ?_)
  refine st_fn ent108 (fzcmp (zq5) (q) (x.fmod y + x.fmod y) (y) (by exact Bits.fit (Bits.add (Bits.mono (l := 200) (fmod_b hy (by first | assumption | omega)) (by decide)) (Bits.mono (l := 200) (fmod_b hy (by first | assumption | omega)) (by decide))) (by decide)) (by exact Bits.fit hy (by decide))) (subC 0 rfl (subC 6 rfl sub0)) (by kernel_rfl) ?_
  exact st_retG (zq0.fst) Try.func46 (subE 3 rfl (by omega) sub0) (by kernel_rfl)
theorem near_3p (p q : ZQ) (x y : Int) (hx : Bits 200 x) (hy : Bits 200 y) (h0 : 0 < y) (hne : y ≠ 0) (hc : cmpI (x.fmod y) 0 = 1) (hs : 0 ≤ cmpI x 0)  (e : x.fdiv y + 1 = nearQ x y 3) :
    FnZ 46 [(p, x), (q, y)] [zv p, zv q, .int .i64 3] (fun z => .tuple #[zv z, .bool true]) (nearQ x y 3) := by
  refine fnG_of Try.func46 rfl fun ww => ?_
  refine st_g ent44 (fzdiv (p) (q) (x) (y) (by exact Bits.mono hx (by decide)) (by exact Bits.mono hy (by decide)) (by assumption)) (subC 0 rfl (subC 1 rfl sub0)) (by kernel_rfl) (fun zq0 => ?_)
  refine st_fn ent45 (fzsign (zq0.snd) (x.fmod y) (by exact Bits.fit (fmod_b hy (by first | assumption | omega)) (by decide))) (subC 1 rfl sub0) (by kernel_rfl) ?_
  refine st_b 29 (show (cmpI (x.fmod y) 0 == 0) = false by exact decide_eq_false (by omega)) (by kernel_rfl) ?_
  refine st_g ent104 (fzofu (1) (by omega) (by omega)) sub0 (by kernel_rfl) (fun zq2 => ?_)
  refine st_g ent53 (fzadd (zq0.fst) (zq2) (x.fdiv y) (1) (by exact Bits.fit (fdiv_b hx (by first | assumption | omega)) (by decide)) (by exact Bits.fit (show Bits 64 (1) from (by unfold Bits; decide)) (by decide))) (subC 1 rfl (subC 0 rfl sub0)) (by kernel_rfl) (fun zq3 => ?_)
  refine st_fn ent45 (fzsign (p) (x) (by exact Bits.fit hx (by decide))) (subC 4 rfl sub0) (by kernel_rfl) ?_
  refine st_b 38 (show (decide (cmpI x 0 < 0)) = false by exact decide_eq_false (by omega)) (by kernel_rfl) ?_
  refine st_g ent53 (fzadd (zq0.snd) (zq0.snd) (x.fmod y) (x.fmod y) (by exact Bits.fit (fmod_b hy (by first | assumption | omega)) (by decide)) (by exact Bits.fit (fmod_b hy (by first | assumption | omega)) (by decide))) (subC 3 rfl (subC 3 rfl sub0)) (by kernel_rfl) (fun zq5 => ?_)
  refine st_fn ent108 (fzcmp (zq5) (q) (x.fmod y + x.fmod y) (y) (by exact Bits.fit (Bits.add (Bits.mono (l := 200) (fmod_b hy (by first | assumption | omega)) (by decide)) (Bits.mono (l := 200) (fmod_b hy (by first | assumption | omega)) (by decide))) (by decide)) (by exact Bits.fit hy (by decide))) (subC 0 rfl (subC 6 rfl sub0)) (by kernel_rfl) ?_
  exact st_retG (zq3) Try.func46 (subE 1 rfl (by omega) sub0) (by kernel_rfl)
theorem near_4n (p q : ZQ) (x y : Int) (hx : Bits 200 x) (hy : Bits 200 y) (h0 : 0 < y) (hne : y ≠ 0) (hc : cmpI (x.fmod y) 0 = 1) (hs : cmpI x 0 = -1)  (e : x.fdiv y + 1 = nearQ x y 4) :
    FnZ 46 [(p, x), (q, y)] [zv p, zv q, .int .i64 4] (fun z => .tuple #[zv z, .bool true]) (nearQ x y 4) := by
  refine fnG_of Try.func46 rfl fun ww => ?_
  refine st_g ent44 (fzdiv (p) (q) (x) (y) (by exact Bits.mono hx (by decide)) (by exact Bits.mono hy (by decide)) (by assumption)) (subC 0 rfl (subC 1 rfl sub0)) (by kernel_rfl) (fun zq0 => ?_)
  refine st_fn ent45 (fzsign (zq0.snd) (x.fmod y) (by exact Bits.fit (fmod_b hy (by first | assumption | omega)) (by decide))) (subC 1 rfl sub0) (by kernel_rfl) ?_
  refine st_b 29 (show (cmpI (x.fmod y) 0 == 0) = false by exact decide_eq_false (by omega)) (by kernel_rfl) ?_
  refine st_g ent104 (fzofu (1) (by omega) (by omega)) sub0 (by kernel_rfl) (fun zq2 => ?_)
  refine st_g ent53 (fzadd (zq0.fst) (zq2) (x.fdiv y) (1) (by exact Bits.fit (fdiv_b hx (by first | assumption | omega)) (by decide)) (by exact Bits.fit (show Bits 64 (1) from (by unfold Bits; decide)) (by decide))) (subC 1 rfl (subC 0 rfl sub0)) (by kernel_rfl) (fun zq3 => ?_)
  refine st_fn ent45 (fzsign (p) (x) (by exact Bits.fit hx (by decide))) (subC 4 rfl sub0) (by kernel_rfl) ?_
  refine st_b 38 (show (decide (cmpI x 0 < 0)) = true by exact decide_eq_true (by omega)) (by kernel_rfl) ?_
  refine st_g ent53 (fzadd (zq0.snd) (zq0.snd) (x.fmod y) (x.fmod y) (by exact Bits.fit (fmod_b hy (by first | assumption | omega)) (by decide)) (by exact Bits.fit (fmod_b hy (by first | assumption | omega)) (by decide))) (subC 3 rfl (subC 3 rfl sub0)) (by kernel_rfl) (fun zq5 => ?_)
  refine st_fn ent108 (fzcmp (zq5) (q) (x.fmod y + x.fmod y) (y) (by exact Bits.fit (Bits.add (Bits.mono (l := 200) (fmod_b hy (by first | assumption | omega)) (by decide)) (Bits.mono (l := 200) (fmod_b hy (by first | assumption | omega)) (by decide))) (by decide)) (by exact Bits.fit hy (by decide))) (subC 0 rfl (subC 6 rfl sub0)) (by kernel_rfl) ?_
  exact st_retG (zq3) Try.func46 (subE 1 rfl (by omega) sub0) (by kernel_rfl)
theorem near_4p (p q : ZQ) (x y : Int) (hx : Bits 200 x) (hy : Bits 200 y) (h0 : 0 < y) (hne : y ≠ 0) (hc : cmpI (x.fmod y) 0 = 1) (hs : 0 ≤ cmpI x 0)  (e : x.fdiv y = nearQ x y 4) :
    FnZ 46 [(p, x), (q, y)] [zv p, zv q, .int .i64 4] (fun z => .tuple #[zv z, .bool true]) (nearQ x y 4) := by
  refine fnG_of Try.func46 rfl fun ww => ?_
  refine st_g ent44 (fzdiv (p) (q) (x) (y) (by exact Bits.mono hx (by decide)) (by exact Bits.mono hy (by decide)) (by assumption)) (subC 0 rfl (subC 1 rfl sub0)) (by kernel_rfl) (fun zq0 => ?_)
  refine st_fn ent45 (fzsign (zq0.snd) (x.fmod y) (by exact Bits.fit (fmod_b hy (by first | assumption | omega)) (by decide))) (subC 1 rfl sub0) (by kernel_rfl) ?_
  refine st_b 29 (show (cmpI (x.fmod y) 0 == 0) = false by exact decide_eq_false (by omega)) (by kernel_rfl) ?_
  refine st_g ent104 (fzofu (1) (by omega) (by omega)) sub0 (by kernel_rfl) (fun zq2 => ?_)
  refine st_g ent53 (fzadd (zq0.fst) (zq2) (x.fdiv y) (1) (by exact Bits.fit (fdiv_b hx (by first | assumption | omega)) (by decide)) (by exact Bits.fit (show Bits 64 (1) from (by unfold Bits; decide)) (by decide))) (subC 1 rfl (subC 0 rfl sub0)) (by kernel_rfl) (fun zq3 => ?_)
  refine st_fn ent45 (fzsign (p) (x) (by exact Bits.fit hx (by decide))) (subC 4 rfl sub0) (by kernel_rfl) ?_
  refine st_b 38 (show (decide (cmpI x 0 < 0)) = false by exact decide_eq_false (by omega)) (by kernel_rfl) ?_
  refine st_g ent53 (fzadd (zq0.snd) (zq0.snd) (x.fmod y) (x.fmod y) (by exact Bits.fit (fmod_b hy (by first | assumption | omega)) (by decide)) (by exact Bits.fit (fmod_b hy (by first | assumption | omega)) (by decide))) (subC 3 rfl (subC 3 rfl sub0)) (by kernel_rfl) (fun zq5 => ?_)
  refine st_fn ent108 (fzcmp (zq5) (q) (x.fmod y + x.fmod y) (y) (by exact Bits.fit (Bits.add (Bits.mono (l := 200) (fmod_b hy (by first | assumption | omega)) (by decide)) (Bits.mono (l := 200) (fmod_b hy (by first | assumption | omega)) (by decide))) (by decide)) (by exact Bits.fit hy (by decide))) (subC 0 rfl (subC 6 rfl sub0)) (by kernel_rfl) ?_
  exact st_retG (zq0.fst) Try.func46 (subE 3 rfl (by omega) sub0) (by kernel_rfl)
theorem near_5nl (p q : ZQ) (x y : Int) (hx : Bits 200 x) (hy : Bits 200 y) (h0 : 0 < y) (hne : y ≠ 0) (hc : cmpI (x.fmod y) 0 = 1) (hs : cmpI x 0 = -1) (hh : cmpI (x.fmod y + x.fmod y) y = -1) (e : x.fdiv y = nearQ x y 5) :
    FnZ 46 [(p, x), (q, y)] [zv p, zv q, .int .i64 5] (fun z => .tuple #[zv z, .bool true]) (nearQ x y 5) := by
  refine fnG_of Try.func46 rfl fun ww => ?_
  refine st_g ent44 (fzdiv (p) (q) (x) (y) (by exact Bits.mono hx (by decide)) (by exact Bits.mono hy (by decide)) (by assumption)) (subC 0 rfl (subC 1 rfl sub0)) (by kernel_rfl) (fun zq0 => ?_)
  refine st_fn ent45 (fzsign (zq0.snd) (x.fmod y) (by exact Bits.fit (fmod_b hy (by first | assumption | omega)) (by decide))) (subC 1 rfl sub0) (by kernel_rfl) ?_
  refine st_b 29 (show (cmpI (x.fmod y) 0 == 0) = false by exact decide_eq_false (by omega)) (by kernel_rfl) ?_
  refine st_g ent104 (fzofu (1) (by omega) (by omega)) sub0 (by kernel_rfl) (fun zq2 => ?_)
  refine st_g ent53 (fzadd (zq0.fst) (zq2) (x.fdiv y) (1) (by exact Bits.fit (fdiv_b hx (by first | assumption | omega)) (by decide)) (by exact Bits.fit (show Bits 64 (1) from (by unfold Bits; decide)) (by decide))) (subC 1 rfl (subC 0 rfl sub0)) (by kernel_rfl) (fun zq3 => ?_)
  refine st_fn ent45 (fzsign (p) (x) (by exact Bits.fit hx (by decide))) (subC 4 rfl sub0) (by kernel_rfl) ?_
  refine st_b 38 (show (decide (cmpI x 0 < 0)) = true by exact decide_eq_true (by omega)) (by kernel_rfl) ?_
  refine st_g ent53 (fzadd (zq0.snd) (zq0.snd) (x.fmod y) (x.fmod y) (by exact Bits.fit (fmod_b hy (by first | assumption | omega)) (by decide)) (by exact Bits.fit (fmod_b hy (by first | assumption | omega)) (by decide))) (subC 3 rfl (subC 3 rfl sub0)) (by kernel_rfl) (fun zq5 => ?_)
  refine st_fn ent108 (fzcmp (zq5) (q) (x.fmod y + x.fmod y) (y) (by exact Bits.fit (Bits.add (Bits.mono (l := 200) (fmod_b hy (by first | assumption | omega)) (by decide)) (Bits.mono (l := 200) (fmod_b hy (by first | assumption | omega)) (by decide))) (by decide)) (by exact Bits.fit hy (by decide))) (subC 0 rfl (subC 6 rfl sub0)) (by kernel_rfl) ?_
  refine st_b 50 (show (decide (cmpI (x.fmod y + x.fmod y) y < 0)) = true by exact decide_eq_true (by omega)) (by kernel_rfl) ?_
  exact st_retG (zq0.fst) Try.func46 (subE 3 rfl (by omega) sub0) (by kernel_rfl)
theorem near_5ng (p q : ZQ) (x y : Int) (hx : Bits 200 x) (hy : Bits 200 y) (h0 : 0 < y) (hne : y ≠ 0) (hc : cmpI (x.fmod y) 0 = 1) (hs : cmpI x 0 = -1) (hh : cmpI (x.fmod y + x.fmod y) y = 1) (e : x.fdiv y + 1 = nearQ x y 5) :
    FnZ 46 [(p, x), (q, y)] [zv p, zv q, .int .i64 5] (fun z => .tuple #[zv z, .bool true]) (nearQ x y 5) := by
  refine fnG_of Try.func46 rfl fun ww => ?_
  refine st_g ent44 (fzdiv (p) (q) (x) (y) (by exact Bits.mono hx (by decide)) (by exact Bits.mono hy (by decide)) (by assumption)) (subC 0 rfl (subC 1 rfl sub0)) (by kernel_rfl) (fun zq0 => ?_)
  refine st_fn ent45 (fzsign (zq0.snd) (x.fmod y) (by exact Bits.fit (fmod_b hy (by first | assumption | omega)) (by decide))) (subC 1 rfl sub0) (by kernel_rfl) ?_
  refine st_b 29 (show (cmpI (x.fmod y) 0 == 0) = false by exact decide_eq_false (by omega)) (by kernel_rfl) ?_
  refine st_g ent104 (fzofu (1) (by omega) (by omega)) sub0 (by kernel_rfl) (fun zq2 => ?_)
  refine st_g ent53 (fzadd (zq0.fst) (zq2) (x.fdiv y) (1) (by exact Bits.fit (fdiv_b hx (by first | assumption | omega)) (by decide)) (by exact Bits.fit (show Bits 64 (1) from (by unfold Bits; decide)) (by decide))) (subC 1 rfl (subC 0 rfl sub0)) (by kernel_rfl) (fun zq3 => ?_)
  refine st_fn ent45 (fzsign (p) (x) (by exact Bits.fit hx (by decide))) (subC 4 rfl sub0) (by kernel_rfl) ?_
  refine st_b 38 (show (decide (cmpI x 0 < 0)) = true by exact decide_eq_true (by omega)) (by kernel_rfl) ?_
  refine st_g ent53 (fzadd (zq0.snd) (zq0.snd) (x.fmod y) (x.fmod y) (by exact Bits.fit (fmod_b hy (by first | assumption | omega)) (by decide)) (by exact Bits.fit (fmod_b hy (by first | assumption | omega)) (by decide))) (subC 3 rfl (subC 3 rfl sub0)) (by kernel_rfl) (fun zq5 => ?_)
  refine st_fn ent108 (fzcmp (zq5) (q) (x.fmod y + x.fmod y) (y) (by exact Bits.fit (Bits.add (Bits.mono (l := 200) (fmod_b hy (by first | assumption | omega)) (by decide)) (Bits.mono (l := 200) (fmod_b hy (by first | assumption | omega)) (by decide))) (by decide)) (by exact Bits.fit hy (by decide))) (subC 0 rfl (subC 6 rfl sub0)) (by kernel_rfl) ?_
  refine st_b 50 (show (decide (cmpI (x.fmod y + x.fmod y) y < 0)) = false by exact decide_eq_false (by omega)) (by kernel_rfl) ?_
  refine st_b 57 (show (decide (cmpI (x.fmod y + x.fmod y) y > 0)) = true by exact decide_eq_true (by omega)) (by kernel_rfl) ?_
  exact st_retG (zq3) Try.func46 (subE 1 rfl (by omega) sub0) (by kernel_rfl)
theorem near_5ne (p q : ZQ) (x y : Int) (hx : Bits 200 x) (hy : Bits 200 y) (h0 : 0 < y) (hne : y ≠ 0) (hc : cmpI (x.fmod y) 0 = 1) (hs : cmpI x 0 = -1) (hh : cmpI (x.fmod y + x.fmod y) y = 0) (e : x.fdiv y + 1 = nearQ x y 5) :
    FnZ 46 [(p, x), (q, y)] [zv p, zv q, .int .i64 5] (fun z => .tuple #[zv z, .bool true]) (nearQ x y 5) := by
  refine fnG_of Try.func46 rfl fun ww => ?_
  refine st_g ent44 (fzdiv (p) (q) (x) (y) (by exact Bits.mono hx (by decide)) (by exact Bits.mono hy (by decide)) (by assumption)) (subC 0 rfl (subC 1 rfl sub0)) (by kernel_rfl) (fun zq0 => ?_)
  refine st_fn ent45 (fzsign (zq0.snd) (x.fmod y) (by exact Bits.fit (fmod_b hy (by first | assumption | omega)) (by decide))) (subC 1 rfl sub0) (by kernel_rfl) ?_
  refine st_b 29 (show (cmpI (x.fmod y) 0 == 0) = false by exact decide_eq_false (by omega)) (by kernel_rfl) ?_
  refine st_g ent104 (fzofu (1) (by omega) (by omega)) sub0 (by kernel_rfl) (fun zq2 => ?_)
  refine st_g ent53 (fzadd (zq0.fst) (zq2) (x.fdiv y) (1) (by exact Bits.fit (fdiv_b hx (by first | assumption | omega)) (by decide)) (by exact Bits.fit (show Bits 64 (1) from (by unfold Bits; decide)) (by decide))) (subC 1 rfl (subC 0 rfl sub0)) (by kernel_rfl) (fun zq3 => ?_)
  refine st_fn ent45 (fzsign (p) (x) (by exact Bits.fit hx (by decide))) (subC 4 rfl sub0) (by kernel_rfl) ?_
  refine st_b 38 (show (decide (cmpI x 0 < 0)) = true by exact decide_eq_true (by omega)) (by kernel_rfl) ?_
  refine st_g ent53 (fzadd (zq0.snd) (zq0.snd) (x.fmod y) (x.fmod y) (by exact Bits.fit (fmod_b hy (by first | assumption | omega)) (by decide)) (by exact Bits.fit (fmod_b hy (by first | assumption | omega)) (by decide))) (subC 3 rfl (subC 3 rfl sub0)) (by kernel_rfl) (fun zq5 => ?_)
  refine st_fn ent108 (fzcmp (zq5) (q) (x.fmod y + x.fmod y) (y) (by exact Bits.fit (Bits.add (Bits.mono (l := 200) (fmod_b hy (by first | assumption | omega)) (by decide)) (Bits.mono (l := 200) (fmod_b hy (by first | assumption | omega)) (by decide))) (by decide)) (by exact Bits.fit hy (by decide))) (subC 0 rfl (subC 6 rfl sub0)) (by kernel_rfl) ?_
  refine st_b 50 (show (decide (cmpI (x.fmod y + x.fmod y) y < 0)) = false by exact decide_eq_false (by omega)) (by kernel_rfl) ?_
  refine st_b 57 (show (decide (cmpI (x.fmod y + x.fmod y) y > 0)) = false by exact decide_eq_false (by omega)) (by kernel_rfl) ?_
  exact st_retG (zq3) Try.func46 (subE 1 rfl (by omega) sub0) (by kernel_rfl)
theorem near_5pl (p q : ZQ) (x y : Int) (hx : Bits 200 x) (hy : Bits 200 y) (h0 : 0 < y) (hne : y ≠ 0) (hc : cmpI (x.fmod y) 0 = 1) (hs : 0 ≤ cmpI x 0) (hh : cmpI (x.fmod y + x.fmod y) y = -1) (e : x.fdiv y = nearQ x y 5) :
    FnZ 46 [(p, x), (q, y)] [zv p, zv q, .int .i64 5] (fun z => .tuple #[zv z, .bool true]) (nearQ x y 5) := by
  refine fnG_of Try.func46 rfl fun ww => ?_
  refine st_g ent44 (fzdiv (p) (q) (x) (y) (by exact Bits.mono hx (by decide)) (by exact Bits.mono hy (by decide)) (by assumption)) (subC 0 rfl (subC 1 rfl sub0)) (by kernel_rfl) (fun zq0 => ?_)
  refine st_fn ent45 (fzsign (zq0.snd) (x.fmod y) (by exact Bits.fit (fmod_b hy (by first | assumption | omega)) (by decide))) (subC 1 rfl sub0) (by kernel_rfl) ?_
  refine st_b 29 (show (cmpI (x.fmod y) 0 == 0) = false by exact decide_eq_false (by omega)) (by kernel_rfl) ?_
  refine st_g ent104 (fzofu (1) (by omega) (by omega)) sub0 (by kernel_rfl) (fun zq2 => ?_)
  refine st_g ent53 (fzadd (zq0.fst) (zq2) (x.fdiv y) (1) (by exact Bits.fit (fdiv_b hx (by first | assumption | omega)) (by decide)) (by exact Bits.fit (show Bits 64 (1) from (by unfold Bits; decide)) (by decide))) (subC 1 rfl (subC 0 rfl sub0)) (by kernel_rfl) (fun zq3 => ?_)
  refine st_fn ent45 (fzsign (p) (x) (by exact Bits.fit hx (by decide))) (subC 4 rfl sub0) (by kernel_rfl) ?_
  refine st_b 38 (show (decide (cmpI x 0 < 0)) = false by exact decide_eq_false (by omega)) (by kernel_rfl) ?_
  refine st_g ent53 (fzadd (zq0.snd) (zq0.snd) (x.fmod y) (x.fmod y) (by exact Bits.fit (fmod_b hy (by first | assumption | omega)) (by decide)) (by exact Bits.fit (fmod_b hy (by first | assumption | omega)) (by decide))) (subC 3 rfl (subC 3 rfl sub0)) (by kernel_rfl) (fun zq5 => ?_)
  refine st_fn ent108 (fzcmp (zq5) (q) (x.fmod y + x.fmod y) (y) (by exact Bits.fit (Bits.add (Bits.mono (l := 200) (fmod_b hy (by first | assumption | omega)) (by decide)) (Bits.mono (l := 200) (fmod_b hy (by first | assumption | omega)) (by decide))) (by decide)) (by exact Bits.fit hy (by decide))) (subC 0 rfl (subC 6 rfl sub0)) (by kernel_rfl) ?_
  refine st_b 50 (show (decide (cmpI (x.fmod y + x.fmod y) y < 0)) = true by exact decide_eq_true (by omega)) (by kernel_rfl) ?_
  exact st_retG (zq0.fst) Try.func46 (subE 3 rfl (by omega) sub0) (by kernel_rfl)
theorem near_5pg (p q : ZQ) (x y : Int) (hx : Bits 200 x) (hy : Bits 200 y) (h0 : 0 < y) (hne : y ≠ 0) (hc : cmpI (x.fmod y) 0 = 1) (hs : 0 ≤ cmpI x 0) (hh : cmpI (x.fmod y + x.fmod y) y = 1) (e : x.fdiv y + 1 = nearQ x y 5) :
    FnZ 46 [(p, x), (q, y)] [zv p, zv q, .int .i64 5] (fun z => .tuple #[zv z, .bool true]) (nearQ x y 5) := by
  refine fnG_of Try.func46 rfl fun ww => ?_
  refine st_g ent44 (fzdiv (p) (q) (x) (y) (by exact Bits.mono hx (by decide)) (by exact Bits.mono hy (by decide)) (by assumption)) (subC 0 rfl (subC 1 rfl sub0)) (by kernel_rfl) (fun zq0 => ?_)
  refine st_fn ent45 (fzsign (zq0.snd) (x.fmod y) (by exact Bits.fit (fmod_b hy (by first | assumption | omega)) (by decide))) (subC 1 rfl sub0) (by kernel_rfl) ?_
  refine st_b 29 (show (cmpI (x.fmod y) 0 == 0) = false by exact decide_eq_false (by omega)) (by kernel_rfl) ?_
  refine st_g ent104 (fzofu (1) (by omega) (by omega)) sub0 (by kernel_rfl) (fun zq2 => ?_)
  refine st_g ent53 (fzadd (zq0.fst) (zq2) (x.fdiv y) (1) (by exact Bits.fit (fdiv_b hx (by first | assumption | omega)) (by decide)) (by exact Bits.fit (show Bits 64 (1) from (by unfold Bits; decide)) (by decide))) (subC 1 rfl (subC 0 rfl sub0)) (by kernel_rfl) (fun zq3 => ?_)
  refine st_fn ent45 (fzsign (p) (x) (by exact Bits.fit hx (by decide))) (subC 4 rfl sub0) (by kernel_rfl) ?_
  refine st_b 38 (show (decide (cmpI x 0 < 0)) = false by exact decide_eq_false (by omega)) (by kernel_rfl) ?_
  refine st_g ent53 (fzadd (zq0.snd) (zq0.snd) (x.fmod y) (x.fmod y) (by exact Bits.fit (fmod_b hy (by first | assumption | omega)) (by decide)) (by exact Bits.fit (fmod_b hy (by first | assumption | omega)) (by decide))) (subC 3 rfl (subC 3 rfl sub0)) (by kernel_rfl) (fun zq5 => ?_)
  refine st_fn ent108 (fzcmp (zq5) (q) (x.fmod y + x.fmod y) (y) (by exact Bits.fit (Bits.add (Bits.mono (l := 200) (fmod_b hy (by first | assumption | omega)) (by decide)) (Bits.mono (l := 200) (fmod_b hy (by first | assumption | omega)) (by decide))) (by decide)) (by exact Bits.fit hy (by decide))) (subC 0 rfl (subC 6 rfl sub0)) (by kernel_rfl) ?_
  refine st_b 50 (show (decide (cmpI (x.fmod y + x.fmod y) y < 0)) = false by exact decide_eq_false (by omega)) (by kernel_rfl) ?_
  refine st_b 57 (show (decide (cmpI (x.fmod y + x.fmod y) y > 0)) = true by exact decide_eq_true (by omega)) (by kernel_rfl) ?_
  exact st_retG (zq3) Try.func46 (subE 1 rfl (by omega) sub0) (by kernel_rfl)
theorem near_5pe (p q : ZQ) (x y : Int) (hx : Bits 200 x) (hy : Bits 200 y) (h0 : 0 < y) (hne : y ≠ 0) (hc : cmpI (x.fmod y) 0 = 1) (hs : 0 ≤ cmpI x 0) (hh : cmpI (x.fmod y + x.fmod y) y = 0) (e : x.fdiv y + 1 = nearQ x y 5) :
    FnZ 46 [(p, x), (q, y)] [zv p, zv q, .int .i64 5] (fun z => .tuple #[zv z, .bool true]) (nearQ x y 5) := by
  refine fnG_of Try.func46 rfl fun ww => ?_
  refine st_g ent44 (fzdiv (p) (q) (x) (y) (by exact Bits.mono hx (by decide)) (by exact Bits.mono hy (by decide)) (by assumption)) (subC 0 rfl (subC 1 rfl sub0)) (by kernel_rfl) (fun zq0 => ?_)
  refine st_fn ent45 (fzsign (zq0.snd) (x.fmod y) (by exact Bits.fit (fmod_b hy (by first | assumption | omega)) (by decide))) (subC 1 rfl sub0) (by kernel_rfl) ?_
  refine st_b 29 (show (cmpI (x.fmod y) 0 == 0) = false by exact decide_eq_false (by omega)) (by kernel_rfl) ?_
  refine st_g ent104 (fzofu (1) (by omega) (by omega)) sub0 (by kernel_rfl) (fun zq2 => ?_)
  refine st_g ent53 (fzadd (zq0.fst) (zq2) (x.fdiv y) (1) (by exact Bits.fit (fdiv_b hx (by first | assumption | omega)) (by decide)) (by exact Bits.fit (show Bits 64 (1) from (by unfold Bits; decide)) (by decide))) (subC 1 rfl (subC 0 rfl sub0)) (by kernel_rfl) (fun zq3 => ?_)
  refine st_fn ent45 (fzsign (p) (x) (by exact Bits.fit hx (by decide))) (subC 4 rfl sub0) (by kernel_rfl) ?_
  refine st_b 38 (show (decide (cmpI x 0 < 0)) = false by exact decide_eq_false (by omega)) (by kernel_rfl) ?_
  refine st_g ent53 (fzadd (zq0.snd) (zq0.snd) (x.fmod y) (x.fmod y) (by exact Bits.fit (fmod_b hy (by first | assumption | omega)) (by decide)) (by exact Bits.fit (fmod_b hy (by first | assumption | omega)) (by decide))) (subC 3 rfl (subC 3 rfl sub0)) (by kernel_rfl) (fun zq5 => ?_)
  refine st_fn ent108 (fzcmp (zq5) (q) (x.fmod y + x.fmod y) (y) (by exact Bits.fit (Bits.add (Bits.mono (l := 200) (fmod_b hy (by first | assumption | omega)) (by decide)) (Bits.mono (l := 200) (fmod_b hy (by first | assumption | omega)) (by decide))) (by decide)) (by exact Bits.fit hy (by decide))) (subC 0 rfl (subC 6 rfl sub0)) (by kernel_rfl) ?_
  refine st_b 50 (show (decide (cmpI (x.fmod y + x.fmod y) y < 0)) = false by exact decide_eq_false (by omega)) (by kernel_rfl) ?_
  refine st_b 57 (show (decide (cmpI (x.fmod y + x.fmod y) y > 0)) = false by exact decide_eq_false (by omega)) (by kernel_rfl) ?_
  exact st_retG (zq3) Try.func46 (subE 1 rfl (by omega) sub0) (by kernel_rfl)
theorem near_6nl (p q : ZQ) (x y : Int) (hx : Bits 200 x) (hy : Bits 200 y) (h0 : 0 < y) (hne : y ≠ 0) (hc : cmpI (x.fmod y) 0 = 1) (hs : cmpI x 0 = -1) (hh : cmpI (x.fmod y + x.fmod y) y = -1) (e : x.fdiv y = nearQ x y 6) :
    FnZ 46 [(p, x), (q, y)] [zv p, zv q, .int .i64 6] (fun z => .tuple #[zv z, .bool true]) (nearQ x y 6) := by
  refine fnG_of Try.func46 rfl fun ww => ?_
  refine st_g ent44 (fzdiv (p) (q) (x) (y) (by exact Bits.mono hx (by decide)) (by exact Bits.mono hy (by decide)) (by assumption)) (subC 0 rfl (subC 1 rfl sub0)) (by kernel_rfl) (fun zq0 => ?_)
  refine st_fn ent45 (fzsign (zq0.snd) (x.fmod y) (by exact Bits.fit (fmod_b hy (by first | assumption | omega)) (by decide))) (subC 1 rfl sub0) (by kernel_rfl) ?_
  refine st_b 29 (show (cmpI (x.fmod y) 0 == 0) = false by exact decide_eq_false (by omega)) (by kernel_rfl) ?_
  refine st_g ent104 (fzofu (1) (by omega) (by omega)) sub0 (by kernel_rfl) (fun zq2 => ?_)
  refine st_g ent53 (fzadd (zq0.fst) (zq2) (x.fdiv y) (1) (by exact Bits.fit (fdiv_b hx (by first | assumption | omega)) (by decide)) (by exact Bits.fit (show Bits 64 (1) from (by unfold Bits; decide)) (by decide))) (subC 1 rfl (subC 0 rfl sub0)) (by kernel_rfl) (fun zq3 => ?_)
  refine st_fn ent45 (fzsign (p) (x) (by exact Bits.fit hx (by decide))) (subC 4 rfl sub0) (by kernel_rfl) ?_
  refine st_b 38 (show (decide (cmpI x 0 < 0)) = true by exact decide_eq_true (by omega)) (by kernel_rfl) ?_
  refine st_g ent53 (fzadd (zq0.snd) (zq0.snd) (x.fmod y) (x.fmod y) (by exact Bits.fit (fmod_b hy (by first | assumption | omega)) (by decide)) (by exact Bits.fit (fmod_b hy (by first | assumption | omega)) (by decide))) (subC 3 rfl (subC 3 rfl sub0)) (by kernel_rfl) (fun zq5 => ?_)
  refine st_fn ent108 (fzcmp (zq5) (q) (x.fmod y + x.fmod y) (y) (by exact Bits.fit (Bits.add (Bits.mono (l := 200) (fmod_b hy (by first | assumption | omega)) (by decide)) (Bits.mono (l := 200) (fmod_b hy (by first | assumption | omega)) (by decide))) (by decide)) (by exact Bits.fit hy (by decide))) (subC 0 rfl (subC 6 rfl sub0)) (by kernel_rfl) ?_
  refine st_b 50 (show (decide (cmpI (x.fmod y + x.fmod y) y < 0)) = true by exact decide_eq_true (by omega)) (by kernel_rfl) ?_
  exact st_retG (zq0.fst) Try.func46 (subE 3 rfl (by omega) sub0) (by kernel_rfl)
theorem near_6ng (p q : ZQ) (x y : Int) (hx : Bits 200 x) (hy : Bits 200 y) (h0 : 0 < y) (hne : y ≠ 0) (hc : cmpI (x.fmod y) 0 = 1) (hs : cmpI x 0 = -1) (hh : cmpI (x.fmod y + x.fmod y) y = 1) (e : x.fdiv y + 1 = nearQ x y 6) :
    FnZ 46 [(p, x), (q, y)] [zv p, zv q, .int .i64 6] (fun z => .tuple #[zv z, .bool true]) (nearQ x y 6) := by
  refine fnG_of Try.func46 rfl fun ww => ?_
  refine st_g ent44 (fzdiv (p) (q) (x) (y) (by exact Bits.mono hx (by decide)) (by exact Bits.mono hy (by decide)) (by assumption)) (subC 0 rfl (subC 1 rfl sub0)) (by kernel_rfl) (fun zq0 => ?_)
  refine st_fn ent45 (fzsign (zq0.snd) (x.fmod y) (by exact Bits.fit (fmod_b hy (by first | assumption | omega)) (by decide))) (subC 1 rfl sub0) (by kernel_rfl) ?_
  refine st_b 29 (show (cmpI (x.fmod y) 0 == 0) = false by exact decide_eq_false (by omega)) (by kernel_rfl) ?_
  refine st_g ent104 (fzofu (1) (by omega) (by omega)) sub0 (by kernel_rfl) (fun zq2 => ?_)
  refine st_g ent53 (fzadd (zq0.fst) (zq2) (x.fdiv y) (1) (by exact Bits.fit (fdiv_b hx (by first | assumption | omega)) (by decide)) (by exact Bits.fit (show Bits 64 (1) from (by unfold Bits; decide)) (by decide))) (subC 1 rfl (subC 0 rfl sub0)) (by kernel_rfl) (fun zq3 => ?_)
  refine st_fn ent45 (fzsign (p) (x) (by exact Bits.fit hx (by decide))) (subC 4 rfl sub0) (by kernel_rfl) ?_
  refine st_b 38 (show (decide (cmpI x 0 < 0)) = true by exact decide_eq_true (by omega)) (by kernel_rfl) ?_
  refine st_g ent53 (fzadd (zq0.snd) (zq0.snd) (x.fmod y) (x.fmod y) (by exact Bits.fit (fmod_b hy (by first | assumption | omega)) (by decide)) (by exact Bits.fit (fmod_b hy (by first | assumption | omega)) (by decide))) (subC 3 rfl (subC 3 rfl sub0)) (by kernel_rfl) (fun zq5 => ?_)
  refine st_fn ent108 (fzcmp (zq5) (q) (x.fmod y + x.fmod y) (y) (by exact Bits.fit (Bits.add (Bits.mono (l := 200) (fmod_b hy (by first | assumption | omega)) (by decide)) (Bits.mono (l := 200) (fmod_b hy (by first | assumption | omega)) (by decide))) (by decide)) (by exact Bits.fit hy (by decide))) (subC 0 rfl (subC 6 rfl sub0)) (by kernel_rfl) ?_
  refine st_b 50 (show (decide (cmpI (x.fmod y + x.fmod y) y < 0)) = false by exact decide_eq_false (by omega)) (by kernel_rfl) ?_
  refine st_b 57 (show (decide (cmpI (x.fmod y + x.fmod y) y > 0)) = true by exact decide_eq_true (by omega)) (by kernel_rfl) ?_
  exact st_retG (zq3) Try.func46 (subE 1 rfl (by omega) sub0) (by kernel_rfl)
theorem near_6ne (p q : ZQ) (x y : Int) (hx : Bits 200 x) (hy : Bits 200 y) (h0 : 0 < y) (hne : y ≠ 0) (hc : cmpI (x.fmod y) 0 = 1) (hs : cmpI x 0 = -1) (hh : cmpI (x.fmod y + x.fmod y) y = 0) (e : x.fdiv y = nearQ x y 6) :
    FnZ 46 [(p, x), (q, y)] [zv p, zv q, .int .i64 6] (fun z => .tuple #[zv z, .bool true]) (nearQ x y 6) := by
  refine fnG_of Try.func46 rfl fun ww => ?_
  refine st_g ent44 (fzdiv (p) (q) (x) (y) (by exact Bits.mono hx (by decide)) (by exact Bits.mono hy (by decide)) (by assumption)) (subC 0 rfl (subC 1 rfl sub0)) (by kernel_rfl) (fun zq0 => ?_)
  refine st_fn ent45 (fzsign (zq0.snd) (x.fmod y) (by exact Bits.fit (fmod_b hy (by first | assumption | omega)) (by decide))) (subC 1 rfl sub0) (by kernel_rfl) ?_
  refine st_b 29 (show (cmpI (x.fmod y) 0 == 0) = false by exact decide_eq_false (by omega)) (by kernel_rfl) ?_
  refine st_g ent104 (fzofu (1) (by omega) (by omega)) sub0 (by kernel_rfl) (fun zq2 => ?_)
  refine st_g ent53 (fzadd (zq0.fst) (zq2) (x.fdiv y) (1) (by exact Bits.fit (fdiv_b hx (by first | assumption | omega)) (by decide)) (by exact Bits.fit (show Bits 64 (1) from (by unfold Bits; decide)) (by decide))) (subC 1 rfl (subC 0 rfl sub0)) (by kernel_rfl) (fun zq3 => ?_)
  refine st_fn ent45 (fzsign (p) (x) (by exact Bits.fit hx (by decide))) (subC 4 rfl sub0) (by kernel_rfl) ?_
  refine st_b 38 (show (decide (cmpI x 0 < 0)) = true by exact decide_eq_true (by omega)) (by kernel_rfl) ?_
  refine st_g ent53 (fzadd (zq0.snd) (zq0.snd) (x.fmod y) (x.fmod y) (by exact Bits.fit (fmod_b hy (by first | assumption | omega)) (by decide)) (by exact Bits.fit (fmod_b hy (by first | assumption | omega)) (by decide))) (subC 3 rfl (subC 3 rfl sub0)) (by kernel_rfl) (fun zq5 => ?_)
  refine st_fn ent108 (fzcmp (zq5) (q) (x.fmod y + x.fmod y) (y) (by exact Bits.fit (Bits.add (Bits.mono (l := 200) (fmod_b hy (by first | assumption | omega)) (by decide)) (Bits.mono (l := 200) (fmod_b hy (by first | assumption | omega)) (by decide))) (by decide)) (by exact Bits.fit hy (by decide))) (subC 0 rfl (subC 6 rfl sub0)) (by kernel_rfl) ?_
  refine st_b 50 (show (decide (cmpI (x.fmod y + x.fmod y) y < 0)) = false by exact decide_eq_false (by omega)) (by kernel_rfl) ?_
  refine st_b 57 (show (decide (cmpI (x.fmod y + x.fmod y) y > 0)) = false by exact decide_eq_false (by omega)) (by kernel_rfl) ?_
  exact st_retG (zq0.fst) Try.func46 (subE 3 rfl (by omega) sub0) (by kernel_rfl)
theorem near_6pl (p q : ZQ) (x y : Int) (hx : Bits 200 x) (hy : Bits 200 y) (h0 : 0 < y) (hne : y ≠ 0) (hc : cmpI (x.fmod y) 0 = 1) (hs : 0 ≤ cmpI x 0) (hh : cmpI (x.fmod y + x.fmod y) y = -1) (e : x.fdiv y = nearQ x y 6) :
    FnZ 46 [(p, x), (q, y)] [zv p, zv q, .int .i64 6] (fun z => .tuple #[zv z, .bool true]) (nearQ x y 6) := by
  refine fnG_of Try.func46 rfl fun ww => ?_
  refine st_g ent44 (fzdiv (p) (q) (x) (y) (by exact Bits.mono hx (by decide)) (by exact Bits.mono hy (by decide)) (by assumption)) (subC 0 rfl (subC 1 rfl sub0)) (by kernel_rfl) (fun zq0 => ?_)
  refine st_fn ent45 (fzsign (zq0.snd) (x.fmod y) (by exact Bits.fit (fmod_b hy (by first | assumption | omega)) (by decide))) (subC 1 rfl sub0) (by kernel_rfl) ?_
  refine st_b 29 (show (cmpI (x.fmod y) 0 == 0) = false by exact decide_eq_false (by omega)) (by kernel_rfl) ?_
  refine st_g ent104 (fzofu (1) (by omega) (by omega)) sub0 (by kernel_rfl) (fun zq2 => ?_)
  refine st_g ent53 (fzadd (zq0.fst) (zq2) (x.fdiv y) (1) (by exact Bits.fit (fdiv_b hx (by first | assumption | omega)) (by decide)) (by exact Bits.fit (show Bits 64 (1) from (by unfold Bits; decide)) (by decide))) (subC 1 rfl (subC 0 rfl sub0)) (by kernel_rfl) (fun zq3 => ?_)
  refine st_fn ent45 (fzsign (p) (x) (by exact Bits.fit hx (by decide))) (subC 4 rfl sub0) (by kernel_rfl) ?_
  refine st_b 38 (show (decide (cmpI x 0 < 0)) = false by exact decide_eq_false (by omega)) (by kernel_rfl) ?_
  refine st_g ent53 (fzadd (zq0.snd) (zq0.snd) (x.fmod y) (x.fmod y) (by exact Bits.fit (fmod_b hy (by first | assumption | omega)) (by decide)) (by exact Bits.fit (fmod_b hy (by first | assumption | omega)) (by decide))) (subC 3 rfl (subC 3 rfl sub0)) (by kernel_rfl) (fun zq5 => ?_)
  refine st_fn ent108 (fzcmp (zq5) (q) (x.fmod y + x.fmod y) (y) (by exact Bits.fit (Bits.add (Bits.mono (l := 200) (fmod_b hy (by first | assumption | omega)) (by decide)) (Bits.mono (l := 200) (fmod_b hy (by first | assumption | omega)) (by decide))) (by decide)) (by exact Bits.fit hy (by decide))) (subC 0 rfl (subC 6 rfl sub0)) (by kernel_rfl) ?_
  refine st_b 50 (show (decide (cmpI (x.fmod y + x.fmod y) y < 0)) = true by exact decide_eq_true (by omega)) (by kernel_rfl) ?_
  exact st_retG (zq0.fst) Try.func46 (subE 3 rfl (by omega) sub0) (by kernel_rfl)
theorem near_6pg (p q : ZQ) (x y : Int) (hx : Bits 200 x) (hy : Bits 200 y) (h0 : 0 < y) (hne : y ≠ 0) (hc : cmpI (x.fmod y) 0 = 1) (hs : 0 ≤ cmpI x 0) (hh : cmpI (x.fmod y + x.fmod y) y = 1) (e : x.fdiv y + 1 = nearQ x y 6) :
    FnZ 46 [(p, x), (q, y)] [zv p, zv q, .int .i64 6] (fun z => .tuple #[zv z, .bool true]) (nearQ x y 6) := by
  refine fnG_of Try.func46 rfl fun ww => ?_
  refine st_g ent44 (fzdiv (p) (q) (x) (y) (by exact Bits.mono hx (by decide)) (by exact Bits.mono hy (by decide)) (by assumption)) (subC 0 rfl (subC 1 rfl sub0)) (by kernel_rfl) (fun zq0 => ?_)
  refine st_fn ent45 (fzsign (zq0.snd) (x.fmod y) (by exact Bits.fit (fmod_b hy (by first | assumption | omega)) (by decide))) (subC 1 rfl sub0) (by kernel_rfl) ?_
  refine st_b 29 (show (cmpI (x.fmod y) 0 == 0) = false by exact decide_eq_false (by omega)) (by kernel_rfl) ?_
  refine st_g ent104 (fzofu (1) (by omega) (by omega)) sub0 (by kernel_rfl) (fun zq2 => ?_)
  refine st_g ent53 (fzadd (zq0.fst) (zq2) (x.fdiv y) (1) (by exact Bits.fit (fdiv_b hx (by first | assumption | omega)) (by decide)) (by exact Bits.fit (show Bits 64 (1) from (by unfold Bits; decide)) (by decide))) (subC 1 rfl (subC 0 rfl sub0)) (by kernel_rfl) (fun zq3 => ?_)
  refine st_fn ent45 (fzsign (p) (x) (by exact Bits.fit hx (by decide))) (subC 4 rfl sub0) (by kernel_rfl) ?_
  refine st_b 38 (show (decide (cmpI x 0 < 0)) = false by exact decide_eq_false (by omega)) (by kernel_rfl) ?_
  refine st_g ent53 (fzadd (zq0.snd) (zq0.snd) (x.fmod y) (x.fmod y) (by exact Bits.fit (fmod_b hy (by first | assumption | omega)) (by decide)) (by exact Bits.fit (fmod_b hy (by first | assumption | omega)) (by decide))) (subC 3 rfl (subC 3 rfl sub0)) (by kernel_rfl) (fun zq5 => ?_)
  refine st_fn ent108 (fzcmp (zq5) (q) (x.fmod y + x.fmod y) (y) (by exact Bits.fit (Bits.add (Bits.mono (l := 200) (fmod_b hy (by first | assumption | omega)) (by decide)) (Bits.mono (l := 200) (fmod_b hy (by first | assumption | omega)) (by decide))) (by decide)) (by exact Bits.fit hy (by decide))) (subC 0 rfl (subC 6 rfl sub0)) (by kernel_rfl) ?_
  refine st_b 50 (show (decide (cmpI (x.fmod y + x.fmod y) y < 0)) = false by exact decide_eq_false (by omega)) (by kernel_rfl) ?_
  refine st_b 57 (show (decide (cmpI (x.fmod y + x.fmod y) y > 0)) = true by exact decide_eq_true (by omega)) (by kernel_rfl) ?_
  exact st_retG (zq3) Try.func46 (subE 1 rfl (by omega) sub0) (by kernel_rfl)
theorem near_6pe (p q : ZQ) (x y : Int) (hx : Bits 200 x) (hy : Bits 200 y) (h0 : 0 < y) (hne : y ≠ 0) (hc : cmpI (x.fmod y) 0 = 1) (hs : 0 ≤ cmpI x 0) (hh : cmpI (x.fmod y + x.fmod y) y = 0) (e : x.fdiv y = nearQ x y 6) :
    FnZ 46 [(p, x), (q, y)] [zv p, zv q, .int .i64 6] (fun z => .tuple #[zv z, .bool true]) (nearQ x y 6) := by
  refine fnG_of Try.func46 rfl fun ww => ?_
  refine st_g ent44 (fzdiv (p) (q) (x) (y) (by exact Bits.mono hx (by decide)) (by exact Bits.mono hy (by decide)) (by assumption)) (subC 0 rfl (subC 1 rfl sub0)) (by kernel_rfl) (fun zq0 => ?_)
  refine st_fn ent45 (fzsign (zq0.snd) (x.fmod y) (by exact Bits.fit (fmod_b hy (by first | assumption | omega)) (by decide))) (subC 1 rfl sub0) (by kernel_rfl) ?_
  refine st_b 29 (show (cmpI (x.fmod y) 0 == 0) = false by exact decide_eq_false (by omega)) (by kernel_rfl) ?_
  refine st_g ent104 (fzofu (1) (by omega) (by omega)) sub0 (by kernel_rfl) (fun zq2 => ?_)
  refine st_g ent53 (fzadd (zq0.fst) (zq2) (x.fdiv y) (1) (by exact Bits.fit (fdiv_b hx (by first | assumption | omega)) (by decide)) (by exact Bits.fit (show Bits 64 (1) from (by unfold Bits; decide)) (by decide))) (subC 1 rfl (subC 0 rfl sub0)) (by kernel_rfl) (fun zq3 => ?_)
  refine st_fn ent45 (fzsign (p) (x) (by exact Bits.fit hx (by decide))) (subC 4 rfl sub0) (by kernel_rfl) ?_
  refine st_b 38 (show (decide (cmpI x 0 < 0)) = false by exact decide_eq_false (by omega)) (by kernel_rfl) ?_
  refine st_g ent53 (fzadd (zq0.snd) (zq0.snd) (x.fmod y) (x.fmod y) (by exact Bits.fit (fmod_b hy (by first | assumption | omega)) (by decide)) (by exact Bits.fit (fmod_b hy (by first | assumption | omega)) (by decide))) (subC 3 rfl (subC 3 rfl sub0)) (by kernel_rfl) (fun zq5 => ?_)
  refine st_fn ent108 (fzcmp (zq5) (q) (x.fmod y + x.fmod y) (y) (by exact Bits.fit (Bits.add (Bits.mono (l := 200) (fmod_b hy (by first | assumption | omega)) (by decide)) (Bits.mono (l := 200) (fmod_b hy (by first | assumption | omega)) (by decide))) (by decide)) (by exact Bits.fit hy (by decide))) (subC 0 rfl (subC 6 rfl sub0)) (by kernel_rfl) ?_
  refine st_b 50 (show (decide (cmpI (x.fmod y + x.fmod y) y < 0)) = false by exact decide_eq_false (by omega)) (by kernel_rfl) ?_
  refine st_b 57 (show (decide (cmpI (x.fmod y + x.fmod y) y > 0)) = false by exact decide_eq_false (by omega)) (by kernel_rfl) ?_
  exact st_retG (zq0.fst) Try.func46 (subE 3 rfl (by omega) sub0) (by kernel_rfl)
theorem near_7nl (p q : ZQ) (x y : Int) (hx : Bits 200 x) (hy : Bits 200 y) (h0 : 0 < y) (hne : y ≠ 0) (hc : cmpI (x.fmod y) 0 = 1) (hs : cmpI x 0 = -1) (hh : cmpI (x.fmod y + x.fmod y) y = -1) (e : x.fdiv y = nearQ x y 7) :
    FnZ 46 [(p, x), (q, y)] [zv p, zv q, .int .i64 7] (fun z => .tuple #[zv z, .bool true]) (nearQ x y 7) := by
  refine fnG_of Try.func46 rfl fun ww => ?_
  refine st_g ent44 (fzdiv (p) (q) (x) (y) (by exact Bits.mono hx (by decide)) (by exact Bits.mono hy (by decide)) (by assumption)) (subC 0 rfl (subC 1 rfl sub0)) (by kernel_rfl) (fun zq0 => ?_)
  refine st_fn ent45 (fzsign (zq0.snd) (x.fmod y) (by exact Bits.fit (fmod_b hy (by first | assumption | omega)) (by decide))) (subC 1 rfl sub0) (by kernel_rfl) ?_
  refine st_b 29 (show (cmpI (x.fmod y) 0 == 0) = false by exact decide_eq_false (by omega)) (by kernel_rfl) ?_
  refine st_g ent104 (fzofu (1) (by omega) (by omega)) sub0 (by kernel_rfl) (fun zq2 => ?_)
  refine st_g ent53 (fzadd (zq0.fst) (zq2) (x.fdiv y) (1) (by exact Bits.fit (fdiv_b hx (by first | assumption | omega)) (by decide)) (by exact Bits.fit (show Bits 64 (1) from (by unfold Bits; decide)) (by decide))) (subC 1 rfl (subC 0 rfl sub0)) (by kernel_rfl) (fun zq3 => ?_)
  refine st_fn ent45 (fzsign (p) (x) (by exact Bits.fit hx (by decide))) (subC 4 rfl sub0) (by kernel_rfl) ?_
  refine st_b 38 (show (decide (cmpI x 0 < 0)) = true by exact decide_eq_true (by omega)) (by kernel_rfl) ?_
  refine st_g ent53 (fzadd (zq0.snd) (zq0.snd) (x.fmod y) (x.fmod y) (by exact Bits.fit (fmod_b hy (by first | assumption | omega)) (by decide)) (by exact Bits.fit (fmod_b hy (by first | assumption | omega)) (by decide))) (subC 3 rfl (subC 3 rfl sub0)) (by kernel_rfl) (fun zq5 => ?_)
  refine st_fn ent108 (fzcmp (zq5) (q) (x.fmod y + x.fmod y) (y) (by exact Bits.fit (Bits.add (Bits.mono (l := 200) (fmod_b hy (by first | assumption | omega)) (by decide)) (Bits.mono (l := 200) (fmod_b hy (by first | assumption | omega)) (by decide))) (by decide)) (by exact Bits.fit hy (by decide))) (subC 0 rfl (subC 6 rfl sub0)) (by kernel_rfl) ?_
  refine st_b 50 (show (decide (cmpI (x.fmod y + x.fmod y) y < 0)) = true by exact decide_eq_true (by omega)) (by kernel_rfl) ?_
  exact st_retG (zq0.fst) Try.func46 (subE 3 rfl (by omega) sub0) (by kernel_rfl)
theorem near_7ng (p q : ZQ) (x y : Int) (hx : Bits 200 x) (hy : Bits 200 y) (h0 : 0 < y) (hne : y ≠ 0) (hc : cmpI (x.fmod y) 0 = 1) (hs : cmpI x 0 = -1) (hh : cmpI (x.fmod y + x.fmod y) y = 1) (e : x.fdiv y + 1 = nearQ x y 7) :
    FnZ 46 [(p, x), (q, y)] [zv p, zv q, .int .i64 7] (fun z => .tuple #[zv z, .bool true]) (nearQ x y 7) := by
  refine fnG_of Try.func46 rfl fun ww => ?_
  refine st_g ent44 (fzdiv (p) (q) (x) (y) (by exact Bits.mono hx (by decide)) (by exact Bits.mono hy (by decide)) (by assumption)) (subC 0 rfl (subC 1 rfl sub0)) (by kernel_rfl) (fun zq0 => ?_)
  refine st_fn ent45 (fzsign (zq0.snd) (x.fmod y) (by exact Bits.fit (fmod_b hy (by first | assumption | omega)) (by decide))) (subC 1 rfl sub0) (by kernel_rfl) ?_
  refine st_b 29 (show (cmpI (x.fmod y) 0 == 0) = false by exact decide_eq_false (by omega)) (by kernel_rfl) ?_
  refine st_g ent104 (fzofu (1) (by omega) (by omega)) sub0 (by kernel_rfl) (fun zq2 => ?_)
  refine st_g ent53 (fzadd (zq0.fst) (zq2) (x.fdiv y) (1) (by exact Bits.fit (fdiv_b hx (by first | assumption | omega)) (by decide)) (by exact Bits.fit (show Bits 64 (1) from (by unfold Bits; decide)) (by decide))) (subC 1 rfl (subC 0 rfl sub0)) (by kernel_rfl) (fun zq3 => ?_)
  refine st_fn ent45 (fzsign (p) (x) (by exact Bits.fit hx (by decide))) (subC 4 rfl sub0) (by kernel_rfl) ?_
  refine st_b 38 (show (decide (cmpI x 0 < 0)) = true by exact decide_eq_true (by omega)) (by kernel_rfl) ?_
  refine st_g ent53 (fzadd (zq0.snd) (zq0.snd) (x.fmod y) (x.fmod y) (by exact Bits.fit (fmod_b hy (by first | assumption | omega)) (by decide)) (by exact Bits.fit (fmod_b hy (by first | assumption | omega)) (by decide))) (subC 3 rfl (subC 3 rfl sub0)) (by kernel_rfl) (fun zq5 => ?_)
  refine st_fn ent108 (fzcmp (zq5) (q) (x.fmod y + x.fmod y) (y) (by exact Bits.fit (Bits.add (Bits.mono (l := 200) (fmod_b hy (by first | assumption | omega)) (by decide)) (Bits.mono (l := 200) (fmod_b hy (by first | assumption | omega)) (by decide))) (by decide)) (by exact Bits.fit hy (by decide))) (subC 0 rfl (subC 6 rfl sub0)) (by kernel_rfl) ?_
  refine st_b 50 (show (decide (cmpI (x.fmod y + x.fmod y) y < 0)) = false by exact decide_eq_false (by omega)) (by kernel_rfl) ?_
  refine st_b 57 (show (decide (cmpI (x.fmod y + x.fmod y) y > 0)) = true by exact decide_eq_true (by omega)) (by kernel_rfl) ?_
  exact st_retG (zq3) Try.func46 (subE 1 rfl (by omega) sub0) (by kernel_rfl)
theorem near_7ne (p q : ZQ) (x y : Int) (hx : Bits 200 x) (hy : Bits 200 y) (h0 : 0 < y) (hne : y ≠ 0) (hc : cmpI (x.fmod y) 0 = 1) (hs : cmpI x 0 = -1) (hh : cmpI (x.fmod y + x.fmod y) y = 0) (e : x.fdiv y = nearQ x y 7) :
    FnZ 46 [(p, x), (q, y)] [zv p, zv q, .int .i64 7] (fun z => .tuple #[zv z, .bool true]) (nearQ x y 7) := by
  refine fnG_of Try.func46 rfl fun ww => ?_
  refine st_g ent44 (fzdiv (p) (q) (x) (y) (by exact Bits.mono hx (by decide)) (by exact Bits.mono hy (by decide)) (by assumption)) (subC 0 rfl (subC 1 rfl sub0)) (by kernel_rfl) (fun zq0 => ?_)
  refine st_fn ent45 (fzsign (zq0.snd) (x.fmod y) (by exact Bits.fit (fmod_b hy (by first | assumption | omega)) (by decide))) (subC 1 rfl sub0) (by kernel_rfl) ?_
  refine st_b 29 (show (cmpI (x.fmod y) 0 == 0) = false by exact decide_eq_false (by omega)) (by kernel_rfl) ?_
  refine st_g ent104 (fzofu (1) (by omega) (by omega)) sub0 (by kernel_rfl) (fun zq2 => ?_)
  refine st_g ent53 (fzadd (zq0.fst) (zq2) (x.fdiv y) (1) (by exact Bits.fit (fdiv_b hx (by first | assumption | omega)) (by decide)) (by exact Bits.fit (show Bits 64 (1) from (by unfold Bits; decide)) (by decide))) (subC 1 rfl (subC 0 rfl sub0)) (by kernel_rfl) (fun zq3 => ?_)
  refine st_fn ent45 (fzsign (p) (x) (by exact Bits.fit hx (by decide))) (subC 4 rfl sub0) (by kernel_rfl) ?_
  refine st_b 38 (show (decide (cmpI x 0 < 0)) = true by exact decide_eq_true (by omega)) (by kernel_rfl) ?_
  refine st_g ent53 (fzadd (zq0.snd) (zq0.snd) (x.fmod y) (x.fmod y) (by exact Bits.fit (fmod_b hy (by first | assumption | omega)) (by decide)) (by exact Bits.fit (fmod_b hy (by first | assumption | omega)) (by decide))) (subC 3 rfl (subC 3 rfl sub0)) (by kernel_rfl) (fun zq5 => ?_)
  refine st_fn ent108 (fzcmp (zq5) (q) (x.fmod y + x.fmod y) (y) (by exact Bits.fit (Bits.add (Bits.mono (l := 200) (fmod_b hy (by first | assumption | omega)) (by decide)) (Bits.mono (l := 200) (fmod_b hy (by first | assumption | omega)) (by decide))) (by decide)) (by exact Bits.fit hy (by decide))) (subC 0 rfl (subC 6 rfl sub0)) (by kernel_rfl) ?_
  refine st_b 50 (show (decide (cmpI (x.fmod y + x.fmod y) y < 0)) = false by exact decide_eq_false (by omega)) (by kernel_rfl) ?_
  refine st_b 57 (show (decide (cmpI (x.fmod y + x.fmod y) y > 0)) = false by exact decide_eq_false (by omega)) (by kernel_rfl) ?_
  exact st_retG (zq0.fst) Try.func46 (subE 3 rfl (by omega) sub0) (by kernel_rfl)
theorem near_7pl (p q : ZQ) (x y : Int) (hx : Bits 200 x) (hy : Bits 200 y) (h0 : 0 < y) (hne : y ≠ 0) (hc : cmpI (x.fmod y) 0 = 1) (hs : 0 ≤ cmpI x 0) (hh : cmpI (x.fmod y + x.fmod y) y = -1) (e : x.fdiv y = nearQ x y 7) :
    FnZ 46 [(p, x), (q, y)] [zv p, zv q, .int .i64 7] (fun z => .tuple #[zv z, .bool true]) (nearQ x y 7) := by
  refine fnG_of Try.func46 rfl fun ww => ?_
  refine st_g ent44 (fzdiv (p) (q) (x) (y) (by exact Bits.mono hx (by decide)) (by exact Bits.mono hy (by decide)) (by assumption)) (subC 0 rfl (subC 1 rfl sub0)) (by kernel_rfl) (fun zq0 => ?_)
  refine st_fn ent45 (fzsign (zq0.snd) (x.fmod y) (by exact Bits.fit (fmod_b hy (by first | assumption | omega)) (by decide))) (subC 1 rfl sub0) (by kernel_rfl) ?_
  refine st_b 29 (show (cmpI (x.fmod y) 0 == 0) = false by exact decide_eq_false (by omega)) (by kernel_rfl) ?_
  refine st_g ent104 (fzofu (1) (by omega) (by omega)) sub0 (by kernel_rfl) (fun zq2 => ?_)
  refine st_g ent53 (fzadd (zq0.fst) (zq2) (x.fdiv y) (1) (by exact Bits.fit (fdiv_b hx (by first | assumption | omega)) (by decide)) (by exact Bits.fit (show Bits 64 (1) from (by unfold Bits; decide)) (by decide))) (subC 1 rfl (subC 0 rfl sub0)) (by kernel_rfl) (fun zq3 => ?_)
  refine st_fn ent45 (fzsign (p) (x) (by exact Bits.fit hx (by decide))) (subC 4 rfl sub0) (by kernel_rfl) ?_
  refine st_b 38 (show (decide (cmpI x 0 < 0)) = false by exact decide_eq_false (by omega)) (by kernel_rfl) ?_
  refine st_g ent53 (fzadd (zq0.snd) (zq0.snd) (x.fmod y) (x.fmod y) (by exact Bits.fit (fmod_b hy (by first | assumption | omega)) (by decide)) (by exact Bits.fit (fmod_b hy (by first | assumption | omega)) (by decide))) (subC 3 rfl (subC 3 rfl sub0)) (by kernel_rfl) (fun zq5 => ?_)
  refine st_fn ent108 (fzcmp (zq5) (q) (x.fmod y + x.fmod y) (y) (by exact Bits.fit (Bits.add (Bits.mono (l := 200) (fmod_b hy (by first | assumption | omega)) (by decide)) (Bits.mono (l := 200) (fmod_b hy (by first | assumption | omega)) (by decide))) (by decide)) (by exact Bits.fit hy (by decide))) (subC 0 rfl (subC 6 rfl sub0)) (by kernel_rfl) ?_
  refine st_b 50 (show (decide (cmpI (x.fmod y + x.fmod y) y < 0)) = true by exact decide_eq_true (by omega)) (by kernel_rfl) ?_
  exact st_retG (zq0.fst) Try.func46 (subE 3 rfl (by omega) sub0) (by kernel_rfl)
theorem near_7pg (p q : ZQ) (x y : Int) (hx : Bits 200 x) (hy : Bits 200 y) (h0 : 0 < y) (hne : y ≠ 0) (hc : cmpI (x.fmod y) 0 = 1) (hs : 0 ≤ cmpI x 0) (hh : cmpI (x.fmod y + x.fmod y) y = 1) (e : x.fdiv y + 1 = nearQ x y 7) :
    FnZ 46 [(p, x), (q, y)] [zv p, zv q, .int .i64 7] (fun z => .tuple #[zv z, .bool true]) (nearQ x y 7) := by
  refine fnG_of Try.func46 rfl fun ww => ?_
  refine st_g ent44 (fzdiv (p) (q) (x) (y) (by exact Bits.mono hx (by decide)) (by exact Bits.mono hy (by decide)) (by assumption)) (subC 0 rfl (subC 1 rfl sub0)) (by kernel_rfl) (fun zq0 => ?_)
  refine st_fn ent45 (fzsign (zq0.snd) (x.fmod y) (by exact Bits.fit (fmod_b hy (by first | assumption | omega)) (by decide))) (subC 1 rfl sub0) (by kernel_rfl) ?_
  refine st_b 29 (show (cmpI (x.fmod y) 0 == 0) = false by exact decide_eq_false (by omega)) (by kernel_rfl) ?_
  refine st_g ent104 (fzofu (1) (by omega) (by omega)) sub0 (by kernel_rfl) (fun zq2 => ?_)
  refine st_g ent53 (fzadd (zq0.fst) (zq2) (x.fdiv y) (1) (by exact Bits.fit (fdiv_b hx (by first | assumption | omega)) (by decide)) (by exact Bits.fit (show Bits 64 (1) from (by unfold Bits; decide)) (by decide))) (subC 1 rfl (subC 0 rfl sub0)) (by kernel_rfl) (fun zq3 => ?_)
  refine st_fn ent45 (fzsign (p) (x) (by exact Bits.fit hx (by decide))) (subC 4 rfl sub0) (by kernel_rfl) ?_
  refine st_b 38 (show (decide (cmpI x 0 < 0)) = false by exact decide_eq_false (by omega)) (by kernel_rfl) ?_
  refine st_g ent53 (fzadd (zq0.snd) (zq0.snd) (x.fmod y) (x.fmod y) (by exact Bits.fit (fmod_b hy (by first | assumption | omega)) (by decide)) (by exact Bits.fit (fmod_b hy (by first | assumption | omega)) (by decide))) (subC 3 rfl (subC 3 rfl sub0)) (by kernel_rfl) (fun zq5 => ?_)
  refine st_fn ent108 (fzcmp (zq5) (q) (x.fmod y + x.fmod y) (y) (by exact Bits.fit (Bits.add (Bits.mono (l := 200) (fmod_b hy (by first | assumption | omega)) (by decide)) (Bits.mono (l := 200) (fmod_b hy (by first | assumption | omega)) (by decide))) (by decide)) (by exact Bits.fit hy (by decide))) (subC 0 rfl (subC 6 rfl sub0)) (by kernel_rfl) ?_
  refine st_b 50 (show (decide (cmpI (x.fmod y + x.fmod y) y < 0)) = false by exact decide_eq_false (by omega)) (by kernel_rfl) ?_
  refine st_b 57 (show (decide (cmpI (x.fmod y + x.fmod y) y > 0)) = true by exact decide_eq_true (by omega)) (by kernel_rfl) ?_
  exact st_retG (zq3) Try.func46 (subE 1 rfl (by omega) sub0) (by kernel_rfl)
theorem near_7pe (p q : ZQ) (x y : Int) (hx : Bits 200 x) (hy : Bits 200 y) (h0 : 0 < y) (hne : y ≠ 0) (hc : cmpI (x.fmod y) 0 = 1) (hs : 0 ≤ cmpI x 0) (hh : cmpI (x.fmod y + x.fmod y) y = 0) (e : x.fdiv y + 1 = nearQ x y 7) :
    FnZ 46 [(p, x), (q, y)] [zv p, zv q, .int .i64 7] (fun z => .tuple #[zv z, .bool true]) (nearQ x y 7) := by
  refine fnG_of Try.func46 rfl fun ww => ?_
  refine st_g ent44 (fzdiv (p) (q) (x) (y) (by exact Bits.mono hx (by decide)) (by exact Bits.mono hy (by decide)) (by assumption)) (subC 0 rfl (subC 1 rfl sub0)) (by kernel_rfl) (fun zq0 => ?_)
  refine st_fn ent45 (fzsign (zq0.snd) (x.fmod y) (by exact Bits.fit (fmod_b hy (by first | assumption | omega)) (by decide))) (subC 1 rfl sub0) (by kernel_rfl) ?_
  refine st_b 29 (show (cmpI (x.fmod y) 0 == 0) = false by exact decide_eq_false (by omega)) (by kernel_rfl) ?_
  refine st_g ent104 (fzofu (1) (by omega) (by omega)) sub0 (by kernel_rfl) (fun zq2 => ?_)
  refine st_g ent53 (fzadd (zq0.fst) (zq2) (x.fdiv y) (1) (by exact Bits.fit (fdiv_b hx (by first | assumption | omega)) (by decide)) (by exact Bits.fit (show Bits 64 (1) from (by unfold Bits; decide)) (by decide))) (subC 1 rfl (subC 0 rfl sub0)) (by kernel_rfl) (fun zq3 => ?_)
  refine st_fn ent45 (fzsign (p) (x) (by exact Bits.fit hx (by decide))) (subC 4 rfl sub0) (by kernel_rfl) ?_
  refine st_b 38 (show (decide (cmpI x 0 < 0)) = false by exact decide_eq_false (by omega)) (by kernel_rfl) ?_
  refine st_g ent53 (fzadd (zq0.snd) (zq0.snd) (x.fmod y) (x.fmod y) (by exact Bits.fit (fmod_b hy (by first | assumption | omega)) (by decide)) (by exact Bits.fit (fmod_b hy (by first | assumption | omega)) (by decide))) (subC 3 rfl (subC 3 rfl sub0)) (by kernel_rfl) (fun zq5 => ?_)
  refine st_fn ent108 (fzcmp (zq5) (q) (x.fmod y + x.fmod y) (y) (by exact Bits.fit (Bits.add (Bits.mono (l := 200) (fmod_b hy (by first | assumption | omega)) (by decide)) (Bits.mono (l := 200) (fmod_b hy (by first | assumption | omega)) (by decide))) (by decide)) (by exact Bits.fit hy (by decide))) (subC 0 rfl (subC 6 rfl sub0)) (by kernel_rfl) ?_
  refine st_b 50 (show (decide (cmpI (x.fmod y + x.fmod y) y < 0)) = false by exact decide_eq_false (by omega)) (by kernel_rfl) ?_
  refine st_b 57 (show (decide (cmpI (x.fmod y + x.fmod y) y > 0)) = false by exact decide_eq_false (by omega)) (by kernel_rfl) ?_
  exact st_retG (zq3) Try.func46 (subE 1 rfl (by omega) sub0) (by kernel_rfl)
theorem near_8nl (p q : ZQ) (x y : Int) (hx : Bits 200 x) (hy : Bits 200 y) (h0 : 0 < y) (hne : y ≠ 0) (hc : cmpI (x.fmod y) 0 = 1) (hs : cmpI x 0 = -1) (hh : cmpI (x.fmod y + x.fmod y) y = -1) (e : x.fdiv y = nearQ x y 8) :
    FnZ 46 [(p, x), (q, y)] [zv p, zv q, .int .i64 8] (fun z => .tuple #[zv z, .bool true]) (nearQ x y 8) := by
  refine fnG_of Try.func46 rfl fun ww => ?_
  refine st_g ent44 (fzdiv (p) (q) (x) (y) (by exact Bits.mono hx (by decide)) (by exact Bits.mono hy (by decide)) (by assumption)) (subC 0 rfl (subC 1 rfl sub0)) (by kernel_rfl) (fun zq0 => ?_)
  refine st_fn ent45 (fzsign (zq0.snd) (x.fmod y) (by exact Bits.fit (fmod_b hy (by first | assumption | omega)) (by decide))) (subC 1 rfl sub0) (by kernel_rfl) ?_
  refine st_b 29 (show (cmpI (x.fmod y) 0 == 0) = false by exact decide_eq_false (by omega)) (by kernel_rfl) ?_
  refine st_g ent104 (fzofu (1) (by omega) (by omega)) sub0 (by kernel_rfl) (fun zq2 => ?_)
  refine st_g ent53 (fzadd (zq0.fst) (zq2) (x.fdiv y) (1) (by exact Bits.fit (fdiv_b hx (by first | assumption | omega)) (by decide)) (by exact Bits.fit (show Bits 64 (1) from (by unfold Bits; decide)) (by decide))) (subC 1 rfl (subC 0 rfl sub0)) (by kernel_rfl) (fun zq3 => ?_)
  refine st_fn ent45 (fzsign (p) (x) (by exact Bits.fit hx (by decide))) (subC 4 rfl sub0) (by kernel_rfl) ?_
  refine st_b 38 (show (decide (cmpI x 0 < 0)) = true by exact decide_eq_true (by omega)) (by kernel_rfl) ?_
  refine st_g ent53 (fzadd (zq0.snd) (zq0.snd) (x.fmod y) (x.fmod y) (by exact Bits.fit (fmod_b hy (by first | assumption | omega)) (by decide)) (by exact Bits.fit (fmod_b hy (by first | assumption | omega)) (by decide))) (subC 3 rfl (subC 3 rfl sub0)) (by kernel_rfl) (fun zq5 => ?_)
  refine st_fn ent108 (fzcmp (zq5) (q) (x.fmod y + x.fmod y) (y) (by exact Bits.fit (Bits.add (Bits.mono (l := 200) (fmod_b hy (by first | assumption | omega)) (by decide)) (Bits.mono (l := 200) (fmod_b hy (by first | assumption | omega)) (by decide))) (by decide)) (by exact Bits.fit hy (by decide))) (subC 0 rfl (subC 6 rfl sub0)) (by kernel_rfl) ?_
  refine st_b 50 (show (decide (cmpI (x.fmod y + x.fmod y) y < 0)) = true by exact decide_eq_true (by omega)) (by kernel_rfl) ?_
  exact st_retG (zq0.fst) Try.func46 (subE 3 rfl (by omega) sub0) (by kernel_rfl)
theorem near_8ng (p q : ZQ) (x y : Int) (hx : Bits 200 x) (hy : Bits 200 y) (h0 : 0 < y) (hne : y ≠ 0) (hc : cmpI (x.fmod y) 0 = 1) (hs : cmpI x 0 = -1) (hh : cmpI (x.fmod y + x.fmod y) y = 1) (e : x.fdiv y + 1 = nearQ x y 8) :
    FnZ 46 [(p, x), (q, y)] [zv p, zv q, .int .i64 8] (fun z => .tuple #[zv z, .bool true]) (nearQ x y 8) := by
  refine fnG_of Try.func46 rfl fun ww => ?_
  refine st_g ent44 (fzdiv (p) (q) (x) (y) (by exact Bits.mono hx (by decide)) (by exact Bits.mono hy (by decide)) (by assumption)) (subC 0 rfl (subC 1 rfl sub0)) (by kernel_rfl) (fun zq0 => ?_)
  refine st_fn ent45 (fzsign (zq0.snd) (x.fmod y) (by exact Bits.fit (fmod_b hy (by first | assumption | omega)) (by decide))) (subC 1 rfl sub0) (by kernel_rfl) ?_
  refine st_b 29 (show (cmpI (x.fmod y) 0 == 0) = false by exact decide_eq_false (by omega)) (by kernel_rfl) ?_
  refine st_g ent104 (fzofu (1) (by omega) (by omega)) sub0 (by kernel_rfl) (fun zq2 => ?_)
  refine st_g ent53 (fzadd (zq0.fst) (zq2) (x.fdiv y) (1) (by exact Bits.fit (fdiv_b hx (by first | assumption | omega)) (by decide)) (by exact Bits.fit (show Bits 64 (1) from (by unfold Bits; decide)) (by decide))) (subC 1 rfl (subC 0 rfl sub0)) (by kernel_rfl) (fun zq3 => ?_)
  refine st_fn ent45 (fzsign (p) (x) (by exact Bits.fit hx (by decide))) (subC 4 rfl sub0) (by kernel_rfl) ?_
  refine st_b 38 (show (decide (cmpI x 0 < 0)) = true by exact decide_eq_true (by omega)) (by kernel_rfl) ?_
  refine st_g ent53 (fzadd (zq0.snd) (zq0.snd) (x.fmod y) (x.fmod y) (by exact Bits.fit (fmod_b hy (by first | assumption | omega)) (by decide)) (by exact Bits.fit (fmod_b hy (by first | assumption | omega)) (by decide))) (subC 3 rfl (subC 3 rfl sub0)) (by kernel_rfl) (fun zq5 => ?_)
  refine st_fn ent108 (fzcmp (zq5) (q) (x.fmod y + x.fmod y) (y) (by exact Bits.fit (Bits.add (Bits.mono (l := 200) (fmod_b hy (by first | assumption | omega)) (by decide)) (Bits.mono (l := 200) (fmod_b hy (by first | assumption | omega)) (by decide))) (by decide)) (by exact Bits.fit hy (by decide))) (subC 0 rfl (subC 6 rfl sub0)) (by kernel_rfl) ?_
  refine st_b 50 (show (decide (cmpI (x.fmod y + x.fmod y) y < 0)) = false by exact decide_eq_false (by omega)) (by kernel_rfl) ?_
  refine st_b 57 (show (decide (cmpI (x.fmod y + x.fmod y) y > 0)) = true by exact decide_eq_true (by omega)) (by kernel_rfl) ?_
  exact st_retG (zq3) Try.func46 (subE 1 rfl (by omega) sub0) (by kernel_rfl)
theorem near_8ne (p q : ZQ) (x y : Int) (hx : Bits 200 x) (hy : Bits 200 y) (h0 : 0 < y) (hne : y ≠ 0) (hc : cmpI (x.fmod y) 0 = 1) (hs : cmpI x 0 = -1) (hh : cmpI (x.fmod y + x.fmod y) y = 0) (e : x.fdiv y + 1 = nearQ x y 8) :
    FnZ 46 [(p, x), (q, y)] [zv p, zv q, .int .i64 8] (fun z => .tuple #[zv z, .bool true]) (nearQ x y 8) := by
  refine fnG_of Try.func46 rfl fun ww => ?_
  refine st_g ent44 (fzdiv (p) (q) (x) (y) (by exact Bits.mono hx (by decide)) (by exact Bits.mono hy (by decide)) (by assumption)) (subC 0 rfl (subC 1 rfl sub0)) (by kernel_rfl) (fun zq0 => ?_)
  refine st_fn ent45 (fzsign (zq0.snd) (x.fmod y) (by exact Bits.fit (fmod_b hy (by first | assumption | omega)) (by decide))) (subC 1 rfl sub0) (by kernel_rfl) ?_
  refine st_b 29 (show (cmpI (x.fmod y) 0 == 0) = false by exact decide_eq_false (by omega)) (by kernel_rfl) ?_
  refine st_g ent104 (fzofu (1) (by omega) (by omega)) sub0 (by kernel_rfl) (fun zq2 => ?_)
  refine st_g ent53 (fzadd (zq0.fst) (zq2) (x.fdiv y) (1) (by exact Bits.fit (fdiv_b hx (by first | assumption | omega)) (by decide)) (by exact Bits.fit (show Bits 64 (1) from (by unfold Bits; decide)) (by decide))) (subC 1 rfl (subC 0 rfl sub0)) (by kernel_rfl) (fun zq3 => ?_)
  refine st_fn ent45 (fzsign (p) (x) (by exact Bits.fit hx (by decide))) (subC 4 rfl sub0) (by kernel_rfl) ?_
  refine st_b 38 (show (decide (cmpI x 0 < 0)) = true by exact decide_eq_true (by omega)) (by kernel_rfl) ?_
  refine st_g ent53 (fzadd (zq0.snd) (zq0.snd) (x.fmod y) (x.fmod y) (by exact Bits.fit (fmod_b hy (by first | assumption | omega)) (by decide)) (by exact Bits.fit (fmod_b hy (by first | assumption | omega)) (by decide))) (subC 3 rfl (subC 3 rfl sub0)) (by kernel_rfl) (fun zq5 => ?_)
  refine st_fn ent108 (fzcmp (zq5) (q) (x.fmod y + x.fmod y) (y) (by exact Bits.fit (Bits.add (Bits.mono (l := 200) (fmod_b hy (by first | assumption | omega)) (by decide)) (Bits.mono (l := 200) (fmod_b hy (by first | assumption | omega)) (by decide))) (by decide)) (by exact Bits.fit hy (by decide))) (subC 0 rfl (subC 6 rfl sub0)) (by kernel_rfl) ?_
  refine st_b 50 (show (decide (cmpI (x.fmod y + x.fmod y) y < 0)) = false by exact decide_eq_false (by omega)) (by kernel_rfl) ?_
  refine st_b 57 (show (decide (cmpI (x.fmod y + x.fmod y) y > 0)) = false by exact decide_eq_false (by omega)) (by kernel_rfl) ?_
  exact st_retG (zq3) Try.func46 (subE 1 rfl (by omega) sub0) (by kernel_rfl)
theorem near_8pl (p q : ZQ) (x y : Int) (hx : Bits 200 x) (hy : Bits 200 y) (h0 : 0 < y) (hne : y ≠ 0) (hc : cmpI (x.fmod y) 0 = 1) (hs : 0 ≤ cmpI x 0) (hh : cmpI (x.fmod y + x.fmod y) y = -1) (e : x.fdiv y = nearQ x y 8) :
    FnZ 46 [(p, x), (q, y)] [zv p, zv q, .int .i64 8] (fun z => .tuple #[zv z, .bool true]) (nearQ x y 8) := by
  refine fnG_of Try.func46 rfl fun ww => ?_
  refine st_g ent44 (fzdiv (p) (q) (x) (y) (by exact Bits.mono hx (by decide)) (by exact Bits.mono hy (by decide)) (by assumption)) (subC 0 rfl (subC 1 rfl sub0)) (by kernel_rfl) (fun zq0 => ?_)
  refine st_fn ent45 (fzsign (zq0.snd) (x.fmod y) (by exact Bits.fit (fmod_b hy (by first | assumption | omega)) (by decide))) (subC 1 rfl sub0) (by kernel_rfl) ?_
  refine st_b 29 (show (cmpI (x.fmod y) 0 == 0) = false by exact decide_eq_false (by omega)) (by kernel_rfl) ?_
  refine st_g ent104 (fzofu (1) (by omega) (by omega)) sub0 (by kernel_rfl) (fun zq2 => ?_)
  refine st_g ent53 (fzadd (zq0.fst) (zq2) (x.fdiv y) (1) (by exact Bits.fit (fdiv_b hx (by first | assumption | omega)) (by decide)) (by exact Bits.fit (show Bits 64 (1) from (by unfold Bits; decide)) (by decide))) (subC 1 rfl (subC 0 rfl sub0)) (by kernel_rfl) (fun zq3 => ?_)
  refine st_fn ent45 (fzsign (p) (x) (by exact Bits.fit hx (by decide))) (subC 4 rfl sub0) (by kernel_rfl) ?_
  refine st_b 38 (show (decide (cmpI x 0 < 0)) = false by exact decide_eq_false (by omega)) (by kernel_rfl) ?_
  refine st_g ent53 (fzadd (zq0.snd) (zq0.snd) (x.fmod y) (x.fmod y) (by exact Bits.fit (fmod_b hy (by first | assumption | omega)) (by decide)) (by exact Bits.fit (fmod_b hy (by first | assumption | omega)) (by decide))) (subC 3 rfl (subC 3 rfl sub0)) (by kernel_rfl) (fun zq5 => ?_)
  refine st_fn ent108 (fzcmp (zq5) (q) (x.fmod y + x.fmod y) (y) (by exact Bits.fit (Bits.add (Bits.mono (l := 200) (fmod_b hy (by first | assumption | omega)) (by decide)) (Bits.mono (l := 200) (fmod_b hy (by first | assumption | omega)) (by decide))) (by decide)) (by exact Bits.fit hy (by decide))) (subC 0 rfl (subC 6 rfl sub0)) (by kernel_rfl) ?_
  refine st_b 50 (show (decide (cmpI (x.fmod y + x.fmod y) y < 0)) = true by exact decide_eq_true (by omega)) (by kernel_rfl) ?_
  exact st_retG (zq0.fst) Try.func46 (subE 3 rfl (by omega) sub0) (by kernel_rfl)
theorem near_8pg (p q : ZQ) (x y : Int) (hx : Bits 200 x) (hy : Bits 200 y) (h0 : 0 < y) (hne : y ≠ 0) (hc : cmpI (x.fmod y) 0 = 1) (hs : 0 ≤ cmpI x 0) (hh : cmpI (x.fmod y + x.fmod y) y = 1) (e : x.fdiv y + 1 = nearQ x y 8) :
    FnZ 46 [(p, x), (q, y)] [zv p, zv q, .int .i64 8] (fun z => .tuple #[zv z, .bool true]) (nearQ x y 8) := by
  refine fnG_of Try.func46 rfl fun ww => ?_
  refine st_g ent44 (fzdiv (p) (q) (x) (y) (by exact Bits.mono hx (by decide)) (by exact Bits.mono hy (by decide)) (by assumption)) (subC 0 rfl (subC 1 rfl sub0)) (by kernel_rfl) (fun zq0 => ?_)
  refine st_fn ent45 (fzsign (zq0.snd) (x.fmod y) (by exact Bits.fit (fmod_b hy (by first | assumption | omega)) (by decide))) (subC 1 rfl sub0) (by kernel_rfl) ?_
  refine st_b 29 (show (cmpI (x.fmod y) 0 == 0) = false by exact decide_eq_false (by omega)) (by kernel_rfl) ?_
  refine st_g ent104 (fzofu (1) (by omega) (by omega)) sub0 (by kernel_rfl) (fun zq2 => ?_)
  refine st_g ent53 (fzadd (zq0.fst) (zq2) (x.fdiv y) (1) (by exact Bits.fit (fdiv_b hx (by first | assumption | omega)) (by decide)) (by exact Bits.fit (show Bits 64 (1) from (by unfold Bits; decide)) (by decide))) (subC 1 rfl (subC 0 rfl sub0)) (by kernel_rfl) (fun zq3 => ?_)
  refine st_fn ent45 (fzsign (p) (x) (by exact Bits.fit hx (by decide))) (subC 4 rfl sub0) (by kernel_rfl) ?_
  refine st_b 38 (show (decide (cmpI x 0 < 0)) = false by exact decide_eq_false (by omega)) (by kernel_rfl) ?_
  refine st_g ent53 (fzadd (zq0.snd) (zq0.snd) (x.fmod y) (x.fmod y) (by exact Bits.fit (fmod_b hy (by first | assumption | omega)) (by decide)) (by exact Bits.fit (fmod_b hy (by first | assumption | omega)) (by decide))) (subC 3 rfl (subC 3 rfl sub0)) (by kernel_rfl) (fun zq5 => ?_)
  refine st_fn ent108 (fzcmp (zq5) (q) (x.fmod y + x.fmod y) (y) (by exact Bits.fit (Bits.add (Bits.mono (l := 200) (fmod_b hy (by first | assumption | omega)) (by decide)) (Bits.mono (l := 200) (fmod_b hy (by first | assumption | omega)) (by decide))) (by decide)) (by exact Bits.fit hy (by decide))) (subC 0 rfl (subC 6 rfl sub0)) (by kernel_rfl) ?_
  refine st_b 50 (show (decide (cmpI (x.fmod y + x.fmod y) y < 0)) = false by exact decide_eq_false (by omega)) (by kernel_rfl) ?_
  refine st_b 57 (show (decide (cmpI (x.fmod y + x.fmod y) y > 0)) = true by exact decide_eq_true (by omega)) (by kernel_rfl) ?_
  exact st_retG (zq3) Try.func46 (subE 1 rfl (by omega) sub0) (by kernel_rfl)
theorem near_8pe (p q : ZQ) (x y : Int) (hx : Bits 200 x) (hy : Bits 200 y) (h0 : 0 < y) (hne : y ≠ 0) (hc : cmpI (x.fmod y) 0 = 1) (hs : 0 ≤ cmpI x 0) (hh : cmpI (x.fmod y + x.fmod y) y = 0) (e : x.fdiv y = nearQ x y 8) :
    FnZ 46 [(p, x), (q, y)] [zv p, zv q, .int .i64 8] (fun z => .tuple #[zv z, .bool true]) (nearQ x y 8) := by
  refine fnG_of Try.func46 rfl fun ww => ?_
  refine st_g ent44 (fzdiv (p) (q) (x) (y) (by exact Bits.mono hx (by decide)) (by exact Bits.mono hy (by decide)) (by assumption)) (subC 0 rfl (subC 1 rfl sub0)) (by kernel_rfl) (fun zq0 => ?_)
  refine st_fn ent45 (fzsign (zq0.snd) (x.fmod y) (by exact Bits.fit (fmod_b hy (by first | assumption | omega)) (by decide))) (subC 1 rfl sub0) (by kernel_rfl) ?_
  refine st_b 29 (show (cmpI (x.fmod y) 0 == 0) = false by exact decide_eq_false (by omega)) (by kernel_rfl) ?_
  refine st_g ent104 (fzofu (1) (by omega) (by omega)) sub0 (by kernel_rfl) (fun zq2 => ?_)
  refine st_g ent53 (fzadd (zq0.fst) (zq2) (x.fdiv y) (1) (by exact Bits.fit (fdiv_b hx (by first | assumption | omega)) (by decide)) (by exact Bits.fit (show Bits 64 (1) from (by unfold Bits; decide)) (by decide))) (subC 1 rfl (subC 0 rfl sub0)) (by kernel_rfl) (fun zq3 => ?_)
  refine st_fn ent45 (fzsign (p) (x) (by exact Bits.fit hx (by decide))) (subC 4 rfl sub0) (by kernel_rfl) ?_
  refine st_b 38 (show (decide (cmpI x 0 < 0)) = false by exact decide_eq_false (by omega)) (by kernel_rfl) ?_
  refine st_g ent53 (fzadd (zq0.snd) (zq0.snd) (x.fmod y) (x.fmod y) (by exact Bits.fit (fmod_b hy (by first | assumption | omega)) (by decide)) (by exact Bits.fit (fmod_b hy (by first | assumption | omega)) (by decide))) (subC 3 rfl (subC 3 rfl sub0)) (by kernel_rfl) (fun zq5 => ?_)
  refine st_fn ent108 (fzcmp (zq5) (q) (x.fmod y + x.fmod y) (y) (by exact Bits.fit (Bits.add (Bits.mono (l := 200) (fmod_b hy (by first | assumption | omega)) (by decide)) (Bits.mono (l := 200) (fmod_b hy (by first | assumption | omega)) (by decide))) (by decide)) (by exact Bits.fit hy (by decide))) (subC 0 rfl (subC 6 rfl sub0)) (by kernel_rfl) ?_
  refine st_b 50 (show (decide (cmpI (x.fmod y + x.fmod y) y < 0)) = false by exact decide_eq_false (by omega)) (by kernel_rfl) ?_
  refine st_b 57 (show (decide (cmpI (x.fmod y + x.fmod y) y > 0)) = false by exact decide_eq_false (by omega)) (by kernel_rfl) ?_
  exact st_retG (zq0.fst) Try.func46 (subE 3 rfl (by omega) sub0) (by kernel_rfl)
theorem near_9nl (p q : ZQ) (x y : Int) (hx : Bits 200 x) (hy : Bits 200 y) (h0 : 0 < y) (hne : y ≠ 0) (hc : cmpI (x.fmod y) 0 = 1) (hs : cmpI x 0 = -1) (hh : cmpI (x.fmod y + x.fmod y) y = -1) (e : x.fdiv y = nearQ x y 9) :
    FnZ 46 [(p, x), (q, y)] [zv p, zv q, .int .i64 9] (fun z => .tuple #[zv z, .bool true]) (nearQ x y 9) := by
  refine fnG_of Try.func46 rfl fun ww => ?_
  refine st_g ent44 (fzdiv (p) (q) (x) (y) (by exact Bits.mono hx (by decide)) (by exact Bits.mono hy (by decide)) (by assumption)) (subC 0 rfl (subC 1 rfl sub0)) (by kernel_rfl) (fun zq0 => ?_)
  refine st_fn ent45 (fzsign (zq0.snd) (x.fmod y) (by exact Bits.fit (fmod_b hy (by first | assumption | omega)) (by decide))) (subC 1 rfl sub0) (by kernel_rfl) ?_
  refine st_b 29 (show (cmpI (x.fmod y) 0 == 0) = false by exact decide_eq_false (by omega)) (by kernel_rfl) ?_
  refine st_g ent104 (fzofu (1) (by omega) (by omega)) sub0 (by kernel_rfl) (fun zq2 => ?_)
  refine st_g ent53 (fzadd (zq0.fst) (zq2) (x.fdiv y) (1) (by exact Bits.fit (fdiv_b hx (by first | assumption | omega)) (by decide)) (by exact Bits.fit (show Bits 64 (1) from (by unfold Bits; decide)) (by decide))) (subC 1 rfl (subC 0 rfl sub0)) (by kernel_rfl) (fun zq3 => ?_)
  refine st_fn ent45 (fzsign (p) (x) (by exact Bits.fit hx (by decide))) (subC 4 rfl sub0) (by kernel_rfl) ?_
  refine st_b 38 (show (decide (cmpI x 0 < 0)) = true by exact decide_eq_true (by omega)) (by kernel_rfl) ?_
  refine st_g ent53 (fzadd (zq0.snd) (zq0.snd) (x.fmod y) (x.fmod y) (by exact Bits.fit (fmod_b hy (by first | assumption | omega)) (by decide)) (by exact Bits.fit (fmod_b hy (by first | assumption | omega)) (by decide))) (subC 3 rfl (subC 3 rfl sub0)) (by kernel_rfl) (fun zq5 => ?_)
  refine st_fn ent108 (fzcmp (zq5) (q) (x.fmod y + x.fmod y) (y) (by exact Bits.fit (Bits.add (Bits.mono (l := 200) (fmod_b hy (by first | assumption | omega)) (by decide)) (Bits.mono (l := 200) (fmod_b hy (by first | assumption | omega)) (by decide))) (by decide)) (by exact Bits.fit hy (by decide))) (subC 0 rfl (subC 6 rfl sub0)) (by kernel_rfl) ?_
  refine st_b 50 (show (decide (cmpI (x.fmod y + x.fmod y) y < 0)) = true by exact decide_eq_true (by omega)) (by kernel_rfl) ?_
  exact st_retG (zq0.fst) Try.func46 (subE 3 rfl (by omega) sub0) (by kernel_rfl)
theorem near_9ng (p q : ZQ) (x y : Int) (hx : Bits 200 x) (hy : Bits 200 y) (h0 : 0 < y) (hne : y ≠ 0) (hc : cmpI (x.fmod y) 0 = 1) (hs : cmpI x 0 = -1) (hh : cmpI (x.fmod y + x.fmod y) y = 1) (e : x.fdiv y + 1 = nearQ x y 9) :
    FnZ 46 [(p, x), (q, y)] [zv p, zv q, .int .i64 9] (fun z => .tuple #[zv z, .bool true]) (nearQ x y 9) := by
  refine fnG_of Try.func46 rfl fun ww => ?_
  refine st_g ent44 (fzdiv (p) (q) (x) (y) (by exact Bits.mono hx (by decide)) (by exact Bits.mono hy (by decide)) (by assumption)) (subC 0 rfl (subC 1 rfl sub0)) (by kernel_rfl) (fun zq0 => ?_)
  refine st_fn ent45 (fzsign (zq0.snd) (x.fmod y) (by exact Bits.fit (fmod_b hy (by first | assumption | omega)) (by decide))) (subC 1 rfl sub0) (by kernel_rfl) ?_
  refine st_b 29 (show (cmpI (x.fmod y) 0 == 0) = false by exact decide_eq_false (by omega)) (by kernel_rfl) ?_
  refine st_g ent104 (fzofu (1) (by omega) (by omega)) sub0 (by kernel_rfl) (fun zq2 => ?_)
  refine st_g ent53 (fzadd (zq0.fst) (zq2) (x.fdiv y) (1) (by exact Bits.fit (fdiv_b hx (by first | assumption | omega)) (by decide)) (by exact Bits.fit (show Bits 64 (1) from (by unfold Bits; decide)) (by decide))) (subC 1 rfl (subC 0 rfl sub0)) (by kernel_rfl) (fun zq3 => ?_)
  refine st_fn ent45 (fzsign (p) (x) (by exact Bits.fit hx (by decide))) (subC 4 rfl sub0) (by kernel_rfl) ?_
  refine st_b 38 (show (decide (cmpI x 0 < 0)) = true by exact decide_eq_true (by omega)) (by kernel_rfl) ?_
  refine st_g ent53 (fzadd (zq0.snd) (zq0.snd) (x.fmod y) (x.fmod y) (by exact Bits.fit (fmod_b hy (by first | assumption | omega)) (by decide)) (by exact Bits.fit (fmod_b hy (by first | assumption | omega)) (by decide))) (subC 3 rfl (subC 3 rfl sub0)) (by kernel_rfl) (fun zq5 => ?_)
  refine st_fn ent108 (fzcmp (zq5) (q) (x.fmod y + x.fmod y) (y) (by exact Bits.fit (Bits.add (Bits.mono (l := 200) (fmod_b hy (by first | assumption | omega)) (by decide)) (Bits.mono (l := 200) (fmod_b hy (by first | assumption | omega)) (by decide))) (by decide)) (by exact Bits.fit hy (by decide))) (subC 0 rfl (subC 6 rfl sub0)) (by kernel_rfl) ?_
  refine st_b 50 (show (decide (cmpI (x.fmod y + x.fmod y) y < 0)) = false by exact decide_eq_false (by omega)) (by kernel_rfl) ?_
  refine st_b 57 (show (decide (cmpI (x.fmod y + x.fmod y) y > 0)) = true by exact decide_eq_true (by omega)) (by kernel_rfl) ?_
  exact st_retG (zq3) Try.func46 (subE 1 rfl (by omega) sub0) (by kernel_rfl)
theorem near_9pl (p q : ZQ) (x y : Int) (hx : Bits 200 x) (hy : Bits 200 y) (h0 : 0 < y) (hne : y ≠ 0) (hc : cmpI (x.fmod y) 0 = 1) (hs : 0 ≤ cmpI x 0) (hh : cmpI (x.fmod y + x.fmod y) y = -1) (e : x.fdiv y = nearQ x y 9) :
    FnZ 46 [(p, x), (q, y)] [zv p, zv q, .int .i64 9] (fun z => .tuple #[zv z, .bool true]) (nearQ x y 9) := by
  refine fnG_of Try.func46 rfl fun ww => ?_
  refine st_g ent44 (fzdiv (p) (q) (x) (y) (by exact Bits.mono hx (by decide)) (by exact Bits.mono hy (by decide)) (by assumption)) (subC 0 rfl (subC 1 rfl sub0)) (by kernel_rfl) (fun zq0 => ?_)
  refine st_fn ent45 (fzsign (zq0.snd) (x.fmod y) (by exact Bits.fit (fmod_b hy (by first | assumption | omega)) (by decide))) (subC 1 rfl sub0) (by kernel_rfl) ?_
  refine st_b 29 (show (cmpI (x.fmod y) 0 == 0) = false by exact decide_eq_false (by omega)) (by kernel_rfl) ?_
  refine st_g ent104 (fzofu (1) (by omega) (by omega)) sub0 (by kernel_rfl) (fun zq2 => ?_)
  refine st_g ent53 (fzadd (zq0.fst) (zq2) (x.fdiv y) (1) (by exact Bits.fit (fdiv_b hx (by first | assumption | omega)) (by decide)) (by exact Bits.fit (show Bits 64 (1) from (by unfold Bits; decide)) (by decide))) (subC 1 rfl (subC 0 rfl sub0)) (by kernel_rfl) (fun zq3 => ?_)
  refine st_fn ent45 (fzsign (p) (x) (by exact Bits.fit hx (by decide))) (subC 4 rfl sub0) (by kernel_rfl) ?_
  refine st_b 38 (show (decide (cmpI x 0 < 0)) = false by exact decide_eq_false (by omega)) (by kernel_rfl) ?_
  refine st_g ent53 (fzadd (zq0.snd) (zq0.snd) (x.fmod y) (x.fmod y) (by exact Bits.fit (fmod_b hy (by first | assumption | omega)) (by decide)) (by exact Bits.fit (fmod_b hy (by first | assumption | omega)) (by decide))) (subC 3 rfl (subC 3 rfl sub0)) (by kernel_rfl) (fun zq5 => ?_)
  refine st_fn ent108 (fzcmp (zq5) (q) (x.fmod y + x.fmod y) (y) (by exact Bits.fit (Bits.add (Bits.mono (l := 200) (fmod_b hy (by first | assumption | omega)) (by decide)) (Bits.mono (l := 200) (fmod_b hy (by first | assumption | omega)) (by decide))) (by decide)) (by exact Bits.fit hy (by decide))) (subC 0 rfl (subC 6 rfl sub0)) (by kernel_rfl) ?_
  refine st_b 50 (show (decide (cmpI (x.fmod y + x.fmod y) y < 0)) = true by exact decide_eq_true (by omega)) (by kernel_rfl) ?_
  exact st_retG (zq0.fst) Try.func46 (subE 3 rfl (by omega) sub0) (by kernel_rfl)
theorem near_9pg (p q : ZQ) (x y : Int) (hx : Bits 200 x) (hy : Bits 200 y) (h0 : 0 < y) (hne : y ≠ 0) (hc : cmpI (x.fmod y) 0 = 1) (hs : 0 ≤ cmpI x 0) (hh : cmpI (x.fmod y + x.fmod y) y = 1) (e : x.fdiv y + 1 = nearQ x y 9) :
    FnZ 46 [(p, x), (q, y)] [zv p, zv q, .int .i64 9] (fun z => .tuple #[zv z, .bool true]) (nearQ x y 9) := by
  refine fnG_of Try.func46 rfl fun ww => ?_
  refine st_g ent44 (fzdiv (p) (q) (x) (y) (by exact Bits.mono hx (by decide)) (by exact Bits.mono hy (by decide)) (by assumption)) (subC 0 rfl (subC 1 rfl sub0)) (by kernel_rfl) (fun zq0 => ?_)
  refine st_fn ent45 (fzsign (zq0.snd) (x.fmod y) (by exact Bits.fit (fmod_b hy (by first | assumption | omega)) (by decide))) (subC 1 rfl sub0) (by kernel_rfl) ?_
  refine st_b 29 (show (cmpI (x.fmod y) 0 == 0) = false by exact decide_eq_false (by omega)) (by kernel_rfl) ?_
  refine st_g ent104 (fzofu (1) (by omega) (by omega)) sub0 (by kernel_rfl) (fun zq2 => ?_)
  refine st_g ent53 (fzadd (zq0.fst) (zq2) (x.fdiv y) (1) (by exact Bits.fit (fdiv_b hx (by first | assumption | omega)) (by decide)) (by exact Bits.fit (show Bits 64 (1) from (by unfold Bits; decide)) (by decide))) (subC 1 rfl (subC 0 rfl sub0)) (by kernel_rfl) (fun zq3 => ?_)
  refine st_fn ent45 (fzsign (p) (x) (by exact Bits.fit hx (by decide))) (subC 4 rfl sub0) (by kernel_rfl) ?_
  refine st_b 38 (show (decide (cmpI x 0 < 0)) = false by exact decide_eq_false (by omega)) (by kernel_rfl) ?_
  refine st_g ent53 (fzadd (zq0.snd) (zq0.snd) (x.fmod y) (x.fmod y) (by exact Bits.fit (fmod_b hy (by first | assumption | omega)) (by decide)) (by exact Bits.fit (fmod_b hy (by first | assumption | omega)) (by decide))) (subC 3 rfl (subC 3 rfl sub0)) (by kernel_rfl) (fun zq5 => ?_)
  refine st_fn ent108 (fzcmp (zq5) (q) (x.fmod y + x.fmod y) (y) (by exact Bits.fit (Bits.add (Bits.mono (l := 200) (fmod_b hy (by first | assumption | omega)) (by decide)) (Bits.mono (l := 200) (fmod_b hy (by first | assumption | omega)) (by decide))) (by decide)) (by exact Bits.fit hy (by decide))) (subC 0 rfl (subC 6 rfl sub0)) (by kernel_rfl) ?_
  refine st_b 50 (show (decide (cmpI (x.fmod y + x.fmod y) y < 0)) = false by exact decide_eq_false (by omega)) (by kernel_rfl) ?_
  refine st_b 57 (show (decide (cmpI (x.fmod y + x.fmod y) y > 0)) = true by exact decide_eq_true (by omega)) (by kernel_rfl) ?_
  exact st_retG (zq3) Try.func46 (subE 1 rfl (by omega) sub0) (by kernel_rfl)
theorem near_9nez (p q : ZQ) (x y : Int) (hx : Bits 200 x) (hy : Bits 200 y) (h0 : 0 < y) (hne : y ≠ 0) (hc : cmpI (x.fmod y) 0 = 1) (hs : cmpI x 0 = -1) (hh : cmpI (x.fmod y + x.fmod y) y = 0) (hl : x.fdiv y = 0) (e : x.fdiv y = nearQ x y 9) :
    FnZ 46 [(p, x), (q, y)] [zv p, zv q, .int .i64 9] (fun z => .tuple #[zv z, .bool true]) (nearQ x y 9) := by
  refine fnG_of Try.func46 rfl fun ww => ?_
  refine st_g ent44 (fzdiv p q x y (by exact Bits.mono hx (by decide)) (by exact Bits.mono hy (by decide)) hne) (subC 0 rfl (subC 1 rfl sub0)) (by kernel_rfl) (fun zd => ?_)
  refine st_know (fun w h => z_pure (q := zd.1) (x := x.fdiv y) (h (zd.1, x.fdiv y) (List.mem_append_left _ (by simp)))) fun hk => ?_
  have hl0 := hk.1 hl
  clear hk
  refine st_fn ent45 (fzsign (zd.snd) (x.fmod y) (by exact Bits.fit (fmod_b hy (by first | assumption | omega)) (by decide))) (subC 1 rfl sub0) (by kernel_rfl) ?_
  refine st_b 29 (show (cmpI (x.fmod y) 0 == 0) = false by exact decide_eq_false (by omega)) (by kernel_rfl) ?_
  refine st_g ent104 (fzofu (1) (by omega) (by omega)) sub0 (by kernel_rfl) (fun zq1 => ?_)
  refine st_g ent53 (fzadd (zd.fst) (zq1) (x.fdiv y) (1) (by exact Bits.fit (fdiv_b hx (by first | assumption | omega)) (by decide)) (by exact Bits.fit (show Bits 64 (1) from (by unfold Bits; decide)) (by decide))) (subC 1 rfl (subC 0 rfl sub0)) (by kernel_rfl) (fun zq2 => ?_)
  refine st_fn ent45 (fzsign (p) (x) (by exact Bits.fit hx (by decide))) (subC 4 rfl sub0) (by kernel_rfl) ?_
  refine st_b 38 (show (decide (cmpI x 0 < 0)) = true by exact decide_eq_true (by omega)) (by kernel_rfl) ?_
  refine st_g ent53 (fzadd (zd.snd) (zd.snd) (x.fmod y) (x.fmod y) (by exact Bits.fit (fmod_b hy (by first | assumption | omega)) (by decide)) (by exact Bits.fit (fmod_b hy (by first | assumption | omega)) (by decide))) (subC 3 rfl (subC 3 rfl sub0)) (by kernel_rfl) (fun zq4 => ?_)
  refine st_fn ent108 (fzcmp (zq4) (q) (x.fmod y + x.fmod y) (y) (by exact Bits.fit (Bits.add (Bits.mono (l := 200) (fmod_b hy (by first | assumption | omega)) (by decide)) (Bits.mono (l := 200) (fmod_b hy (by first | assumption | omega)) (by decide))) (by decide)) (by exact Bits.fit hy (by decide))) (subC 0 rfl (subC 6 rfl sub0)) (by kernel_rfl) ?_
  refine st_b 50 (show (decide (cmpI (x.fmod y + x.fmod y) y < 0)) = false by exact decide_eq_false (by omega)) (by kernel_rfl) ?_
  refine st_b 57 (show (decide (cmpI (x.fmod y + x.fmod y) y > 0)) = false by exact decide_eq_false (by omega)) (by kernel_rfl) ?_
  refine st_b 80 (show ((↑zd.fst.l : Int) == 0) = true by exact decide_eq_true (by omega)) (by kernel_rfl) ?_
  exact st_retG (zd.fst) Try.func46 (subE 3 rfl (by omega) sub0) (by kernel_rfl)
theorem near_9nee (p q : ZQ) (x y : Int) (hx : Bits 200 x) (hy : Bits 200 y) (h0 : 0 < y) (hne : y ≠ 0) (hc : cmpI (x.fmod y) 0 = 1) (hs : cmpI x 0 = -1) (hh : cmpI (x.fmod y + x.fmod y) y = 0) (hl : x.fdiv y ≠ 0) (hp : x.fdiv y % 2 = 0) (e : x.fdiv y = nearQ x y 9) :
    FnZ 46 [(p, x), (q, y)] [zv p, zv q, .int .i64 9] (fun z => .tuple #[zv z, .bool true]) (nearQ x y 9) := by
  refine fnG_of Try.func46 rfl fun ww => ?_
  refine st_g ent44 (fzdiv p q x y (by exact Bits.mono hx (by decide)) (by exact Bits.mono hy (by decide)) hne) (subC 0 rfl (subC 1 rfl sub0)) (by kernel_rfl) (fun zd => ?_)
  refine st_know (fun w h => z_pure (q := zd.1) (x := x.fdiv y) (h (zd.1, x.fdiv y) (List.mem_append_left _ (by simp)))) fun hk => ?_
  obtain ⟨hl0, b, off, ha, hl1⟩ := hk.2 hl
  clear hk
  refine st_fn ent45 (fzsign (zd.snd) (x.fmod y) (by exact Bits.fit (fmod_b hy (by first | assumption | omega)) (by decide))) (subC 1 rfl sub0) (by kernel_rfl) ?_
  refine st_b 29 (show (cmpI (x.fmod y) 0 == 0) = false by exact decide_eq_false (by omega)) (by kernel_rfl) ?_
  refine st_g ent104 (fzofu (1) (by omega) (by omega)) sub0 (by kernel_rfl) (fun zq1 => ?_)
  refine st_g ent53 (fzadd (zd.fst) (zq1) (x.fdiv y) (1) (by exact Bits.fit (fdiv_b hx (by first | assumption | omega)) (by decide)) (by exact Bits.fit (show Bits 64 (1) from (by unfold Bits; decide)) (by decide))) (subC 1 rfl (subC 0 rfl sub0)) (by kernel_rfl) (fun zq2 => ?_)
  refine st_fn ent45 (fzsign (p) (x) (by exact Bits.fit hx (by decide))) (subC 4 rfl sub0) (by kernel_rfl) ?_
  refine st_b 38 (show (decide (cmpI x 0 < 0)) = true by exact decide_eq_true (by omega)) (by kernel_rfl) ?_
  refine st_g ent53 (fzadd (zd.snd) (zd.snd) (x.fmod y) (x.fmod y) (by exact Bits.fit (fmod_b hy (by first | assumption | omega)) (by decide)) (by exact Bits.fit (fmod_b hy (by first | assumption | omega)) (by decide))) (subC 3 rfl (subC 3 rfl sub0)) (by kernel_rfl) (fun zq4 => ?_)
  refine st_fn ent108 (fzcmp (zq4) (q) (x.fmod y + x.fmod y) (y) (by exact Bits.fit (Bits.add (Bits.mono (l := 200) (fmod_b hy (by first | assumption | omega)) (by decide)) (Bits.mono (l := 200) (fmod_b hy (by first | assumption | omega)) (by decide))) (by decide)) (by exact Bits.fit hy (by decide))) (subC 0 rfl (subC 6 rfl sub0)) (by kernel_rfl) ?_
  refine st_b 50 (show (decide (cmpI (x.fmod y + x.fmod y) y < 0)) = false by exact decide_eq_false (by omega)) (by kernel_rfl) ?_
  refine st_b 57 (show (decide (cmpI (x.fmod y + x.fmod y) y > 0)) = false by exact decide_eq_false (by omega)) (by kernel_rfl) ?_
  refine st_b 80 (show ((↑zd.fst.l : Int) == 0) = false by exact decide_eq_false (by omega)) (by kernel_rfl) ?_
  refine st_idx (fun w _ => idx0 (c := zd.1.c) ha hl1 w) (by kernel_rfl) ?_
  refine st_ldv (fun w h => load_int (cell_of (q := zd.1) (x := x.fdiv y) (h (zd.1, x.fdiv y) (by simp)) hl ha)) (by kernel_rfl) ?_
  refine st_b 87 (dig_even hp) (by kernel_rfl) ?_
  exact st_retG (zd.fst) Try.func46 (subE 3 rfl (by omega) sub0) (by kernel_rfl)
theorem near_9neo (p q : ZQ) (x y : Int) (hx : Bits 200 x) (hy : Bits 200 y) (h0 : 0 < y) (hne : y ≠ 0) (hc : cmpI (x.fmod y) 0 = 1) (hs : cmpI x 0 = -1) (hh : cmpI (x.fmod y + x.fmod y) y = 0) (hl : x.fdiv y ≠ 0) (hp : ¬ x.fdiv y % 2 = 0) (e : x.fdiv y + 1 = nearQ x y 9) :
    FnZ 46 [(p, x), (q, y)] [zv p, zv q, .int .i64 9] (fun z => .tuple #[zv z, .bool true]) (nearQ x y 9) := by
  refine fnG_of Try.func46 rfl fun ww => ?_
  refine st_g ent44 (fzdiv p q x y (by exact Bits.mono hx (by decide)) (by exact Bits.mono hy (by decide)) hne) (subC 0 rfl (subC 1 rfl sub0)) (by kernel_rfl) (fun zd => ?_)
  refine st_know (fun w h => z_pure (q := zd.1) (x := x.fdiv y) (h (zd.1, x.fdiv y) (List.mem_append_left _ (by simp)))) fun hk => ?_
  obtain ⟨hl0, b, off, ha, hl1⟩ := hk.2 hl
  clear hk
  refine st_fn ent45 (fzsign (zd.snd) (x.fmod y) (by exact Bits.fit (fmod_b hy (by first | assumption | omega)) (by decide))) (subC 1 rfl sub0) (by kernel_rfl) ?_
  refine st_b 29 (show (cmpI (x.fmod y) 0 == 0) = false by exact decide_eq_false (by omega)) (by kernel_rfl) ?_
  refine st_g ent104 (fzofu (1) (by omega) (by omega)) sub0 (by kernel_rfl) (fun zq1 => ?_)
  refine st_g ent53 (fzadd (zd.fst) (zq1) (x.fdiv y) (1) (by exact Bits.fit (fdiv_b hx (by first | assumption | omega)) (by decide)) (by exact Bits.fit (show Bits 64 (1) from (by unfold Bits; decide)) (by decide))) (subC 1 rfl (subC 0 rfl sub0)) (by kernel_rfl) (fun zq2 => ?_)
  refine st_fn ent45 (fzsign (p) (x) (by exact Bits.fit hx (by decide))) (subC 4 rfl sub0) (by kernel_rfl) ?_
  refine st_b 38 (show (decide (cmpI x 0 < 0)) = true by exact decide_eq_true (by omega)) (by kernel_rfl) ?_
  refine st_g ent53 (fzadd (zd.snd) (zd.snd) (x.fmod y) (x.fmod y) (by exact Bits.fit (fmod_b hy (by first | assumption | omega)) (by decide)) (by exact Bits.fit (fmod_b hy (by first | assumption | omega)) (by decide))) (subC 3 rfl (subC 3 rfl sub0)) (by kernel_rfl) (fun zq4 => ?_)
  refine st_fn ent108 (fzcmp (zq4) (q) (x.fmod y + x.fmod y) (y) (by exact Bits.fit (Bits.add (Bits.mono (l := 200) (fmod_b hy (by first | assumption | omega)) (by decide)) (Bits.mono (l := 200) (fmod_b hy (by first | assumption | omega)) (by decide))) (by decide)) (by exact Bits.fit hy (by decide))) (subC 0 rfl (subC 6 rfl sub0)) (by kernel_rfl) ?_
  refine st_b 50 (show (decide (cmpI (x.fmod y + x.fmod y) y < 0)) = false by exact decide_eq_false (by omega)) (by kernel_rfl) ?_
  refine st_b 57 (show (decide (cmpI (x.fmod y + x.fmod y) y > 0)) = false by exact decide_eq_false (by omega)) (by kernel_rfl) ?_
  refine st_b 80 (show ((↑zd.fst.l : Int) == 0) = false by exact decide_eq_false (by omega)) (by kernel_rfl) ?_
  refine st_idx (fun w _ => idx0 (c := zd.1.c) ha hl1 w) (by kernel_rfl) ?_
  refine st_ldv (fun w h => load_int (cell_of (q := zd.1) (x := x.fdiv y) (h (zd.1, x.fdiv y) (by simp)) hl ha)) (by kernel_rfl) ?_
  refine st_b 87 (dig_odd hp) (by kernel_rfl) ?_
  exact st_retG (zq2) Try.func46 (subE 1 rfl (by omega) sub0) (by kernel_rfl)
theorem near_9pez (p q : ZQ) (x y : Int) (hx : Bits 200 x) (hy : Bits 200 y) (h0 : 0 < y) (hne : y ≠ 0) (hc : cmpI (x.fmod y) 0 = 1) (hs : 0 ≤ cmpI x 0) (hh : cmpI (x.fmod y + x.fmod y) y = 0) (hl : x.fdiv y = 0) (e : x.fdiv y = nearQ x y 9) :
    FnZ 46 [(p, x), (q, y)] [zv p, zv q, .int .i64 9] (fun z => .tuple #[zv z, .bool true]) (nearQ x y 9) := by
  refine fnG_of Try.func46 rfl fun ww => ?_
  refine st_g ent44 (fzdiv p q x y (by exact Bits.mono hx (by decide)) (by exact Bits.mono hy (by decide)) hne) (subC 0 rfl (subC 1 rfl sub0)) (by kernel_rfl) (fun zd => ?_)
  refine st_know (fun w h => z_pure (q := zd.1) (x := x.fdiv y) (h (zd.1, x.fdiv y) (List.mem_append_left _ (by simp)))) fun hk => ?_
  have hl0 := hk.1 hl
  clear hk
  refine st_fn ent45 (fzsign (zd.snd) (x.fmod y) (by exact Bits.fit (fmod_b hy (by first | assumption | omega)) (by decide))) (subC 1 rfl sub0) (by kernel_rfl) ?_
  refine st_b 29 (show (cmpI (x.fmod y) 0 == 0) = false by exact decide_eq_false (by omega)) (by kernel_rfl) ?_
  refine st_g ent104 (fzofu (1) (by omega) (by omega)) sub0 (by kernel_rfl) (fun zq1 => ?_)
  refine st_g ent53 (fzadd (zd.fst) (zq1) (x.fdiv y) (1) (by exact Bits.fit (fdiv_b hx (by first | assumption | omega)) (by decide)) (by exact Bits.fit (show Bits 64 (1) from (by unfold Bits; decide)) (by decide))) (subC 1 rfl (subC 0 rfl sub0)) (by kernel_rfl) (fun zq2 => ?_)
  refine st_fn ent45 (fzsign (p) (x) (by exact Bits.fit hx (by decide))) (subC 4 rfl sub0) (by kernel_rfl) ?_
  refine st_b 38 (show (decide (cmpI x 0 < 0)) = false by exact decide_eq_false (by omega)) (by kernel_rfl) ?_
  refine st_g ent53 (fzadd (zd.snd) (zd.snd) (x.fmod y) (x.fmod y) (by exact Bits.fit (fmod_b hy (by first | assumption | omega)) (by decide)) (by exact Bits.fit (fmod_b hy (by first | assumption | omega)) (by decide))) (subC 3 rfl (subC 3 rfl sub0)) (by kernel_rfl) (fun zq4 => ?_)
  refine st_fn ent108 (fzcmp (zq4) (q) (x.fmod y + x.fmod y) (y) (by exact Bits.fit (Bits.add (Bits.mono (l := 200) (fmod_b hy (by first | assumption | omega)) (by decide)) (Bits.mono (l := 200) (fmod_b hy (by first | assumption | omega)) (by decide))) (by decide)) (by exact Bits.fit hy (by decide))) (subC 0 rfl (subC 6 rfl sub0)) (by kernel_rfl) ?_
  refine st_b 50 (show (decide (cmpI (x.fmod y + x.fmod y) y < 0)) = false by exact decide_eq_false (by omega)) (by kernel_rfl) ?_
  refine st_b 57 (show (decide (cmpI (x.fmod y + x.fmod y) y > 0)) = false by exact decide_eq_false (by omega)) (by kernel_rfl) ?_
  refine st_b 80 (show ((↑zd.fst.l : Int) == 0) = true by exact decide_eq_true (by omega)) (by kernel_rfl) ?_
  exact st_retG (zd.fst) Try.func46 (subE 3 rfl (by omega) sub0) (by kernel_rfl)
theorem near_9pee (p q : ZQ) (x y : Int) (hx : Bits 200 x) (hy : Bits 200 y) (h0 : 0 < y) (hne : y ≠ 0) (hc : cmpI (x.fmod y) 0 = 1) (hs : 0 ≤ cmpI x 0) (hh : cmpI (x.fmod y + x.fmod y) y = 0) (hl : x.fdiv y ≠ 0) (hp : x.fdiv y % 2 = 0) (e : x.fdiv y = nearQ x y 9) :
    FnZ 46 [(p, x), (q, y)] [zv p, zv q, .int .i64 9] (fun z => .tuple #[zv z, .bool true]) (nearQ x y 9) := by
  refine fnG_of Try.func46 rfl fun ww => ?_
  refine st_g ent44 (fzdiv p q x y (by exact Bits.mono hx (by decide)) (by exact Bits.mono hy (by decide)) hne) (subC 0 rfl (subC 1 rfl sub0)) (by kernel_rfl) (fun zd => ?_)
  refine st_know (fun w h => z_pure (q := zd.1) (x := x.fdiv y) (h (zd.1, x.fdiv y) (List.mem_append_left _ (by simp)))) fun hk => ?_
  obtain ⟨hl0, b, off, ha, hl1⟩ := hk.2 hl
  clear hk
  refine st_fn ent45 (fzsign (zd.snd) (x.fmod y) (by exact Bits.fit (fmod_b hy (by first | assumption | omega)) (by decide))) (subC 1 rfl sub0) (by kernel_rfl) ?_
  refine st_b 29 (show (cmpI (x.fmod y) 0 == 0) = false by exact decide_eq_false (by omega)) (by kernel_rfl) ?_
  refine st_g ent104 (fzofu (1) (by omega) (by omega)) sub0 (by kernel_rfl) (fun zq1 => ?_)
  refine st_g ent53 (fzadd (zd.fst) (zq1) (x.fdiv y) (1) (by exact Bits.fit (fdiv_b hx (by first | assumption | omega)) (by decide)) (by exact Bits.fit (show Bits 64 (1) from (by unfold Bits; decide)) (by decide))) (subC 1 rfl (subC 0 rfl sub0)) (by kernel_rfl) (fun zq2 => ?_)
  refine st_fn ent45 (fzsign (p) (x) (by exact Bits.fit hx (by decide))) (subC 4 rfl sub0) (by kernel_rfl) ?_
  refine st_b 38 (show (decide (cmpI x 0 < 0)) = false by exact decide_eq_false (by omega)) (by kernel_rfl) ?_
  refine st_g ent53 (fzadd (zd.snd) (zd.snd) (x.fmod y) (x.fmod y) (by exact Bits.fit (fmod_b hy (by first | assumption | omega)) (by decide)) (by exact Bits.fit (fmod_b hy (by first | assumption | omega)) (by decide))) (subC 3 rfl (subC 3 rfl sub0)) (by kernel_rfl) (fun zq4 => ?_)
  refine st_fn ent108 (fzcmp (zq4) (q) (x.fmod y + x.fmod y) (y) (by exact Bits.fit (Bits.add (Bits.mono (l := 200) (fmod_b hy (by first | assumption | omega)) (by decide)) (Bits.mono (l := 200) (fmod_b hy (by first | assumption | omega)) (by decide))) (by decide)) (by exact Bits.fit hy (by decide))) (subC 0 rfl (subC 6 rfl sub0)) (by kernel_rfl) ?_
  refine st_b 50 (show (decide (cmpI (x.fmod y + x.fmod y) y < 0)) = false by exact decide_eq_false (by omega)) (by kernel_rfl) ?_
  refine st_b 57 (show (decide (cmpI (x.fmod y + x.fmod y) y > 0)) = false by exact decide_eq_false (by omega)) (by kernel_rfl) ?_
  refine st_b 80 (show ((↑zd.fst.l : Int) == 0) = false by exact decide_eq_false (by omega)) (by kernel_rfl) ?_
  refine st_idx (fun w _ => idx0 (c := zd.1.c) ha hl1 w) (by kernel_rfl) ?_
  refine st_ldv (fun w h => load_int (cell_of (q := zd.1) (x := x.fdiv y) (h (zd.1, x.fdiv y) (by simp)) hl ha)) (by kernel_rfl) ?_
  refine st_b 87 (dig_even hp) (by kernel_rfl) ?_
  exact st_retG (zd.fst) Try.func46 (subE 3 rfl (by omega) sub0) (by kernel_rfl)
theorem near_9peo (p q : ZQ) (x y : Int) (hx : Bits 200 x) (hy : Bits 200 y) (h0 : 0 < y) (hne : y ≠ 0) (hc : cmpI (x.fmod y) 0 = 1) (hs : 0 ≤ cmpI x 0) (hh : cmpI (x.fmod y + x.fmod y) y = 0) (hl : x.fdiv y ≠ 0) (hp : ¬ x.fdiv y % 2 = 0) (e : x.fdiv y + 1 = nearQ x y 9) :
    FnZ 46 [(p, x), (q, y)] [zv p, zv q, .int .i64 9] (fun z => .tuple #[zv z, .bool true]) (nearQ x y 9) := by
  refine fnG_of Try.func46 rfl fun ww => ?_
  refine st_g ent44 (fzdiv p q x y (by exact Bits.mono hx (by decide)) (by exact Bits.mono hy (by decide)) hne) (subC 0 rfl (subC 1 rfl sub0)) (by kernel_rfl) (fun zd => ?_)
  refine st_know (fun w h => z_pure (q := zd.1) (x := x.fdiv y) (h (zd.1, x.fdiv y) (List.mem_append_left _ (by simp)))) fun hk => ?_
  obtain ⟨hl0, b, off, ha, hl1⟩ := hk.2 hl
  clear hk
  refine st_fn ent45 (fzsign (zd.snd) (x.fmod y) (by exact Bits.fit (fmod_b hy (by first | assumption | omega)) (by decide))) (subC 1 rfl sub0) (by kernel_rfl) ?_
  refine st_b 29 (show (cmpI (x.fmod y) 0 == 0) = false by exact decide_eq_false (by omega)) (by kernel_rfl) ?_
  refine st_g ent104 (fzofu (1) (by omega) (by omega)) sub0 (by kernel_rfl) (fun zq1 => ?_)
  refine st_g ent53 (fzadd (zd.fst) (zq1) (x.fdiv y) (1) (by exact Bits.fit (fdiv_b hx (by first | assumption | omega)) (by decide)) (by exact Bits.fit (show Bits 64 (1) from (by unfold Bits; decide)) (by decide))) (subC 1 rfl (subC 0 rfl sub0)) (by kernel_rfl) (fun zq2 => ?_)
  refine st_fn ent45 (fzsign (p) (x) (by exact Bits.fit hx (by decide))) (subC 4 rfl sub0) (by kernel_rfl) ?_
  refine st_b 38 (show (decide (cmpI x 0 < 0)) = false by exact decide_eq_false (by omega)) (by kernel_rfl) ?_
  refine st_g ent53 (fzadd (zd.snd) (zd.snd) (x.fmod y) (x.fmod y) (by exact Bits.fit (fmod_b hy (by first | assumption | omega)) (by decide)) (by exact Bits.fit (fmod_b hy (by first | assumption | omega)) (by decide))) (subC 3 rfl (subC 3 rfl sub0)) (by kernel_rfl) (fun zq4 => ?_)
  refine st_fn ent108 (fzcmp (zq4) (q) (x.fmod y + x.fmod y) (y) (by exact Bits.fit (Bits.add (Bits.mono (l := 200) (fmod_b hy (by first | assumption | omega)) (by decide)) (Bits.mono (l := 200) (fmod_b hy (by first | assumption | omega)) (by decide))) (by decide)) (by exact Bits.fit hy (by decide))) (subC 0 rfl (subC 6 rfl sub0)) (by kernel_rfl) ?_
  refine st_b 50 (show (decide (cmpI (x.fmod y + x.fmod y) y < 0)) = false by exact decide_eq_false (by omega)) (by kernel_rfl) ?_
  refine st_b 57 (show (decide (cmpI (x.fmod y + x.fmod y) y > 0)) = false by exact decide_eq_false (by omega)) (by kernel_rfl) ?_
  refine st_b 80 (show ((↑zd.fst.l : Int) == 0) = false by exact decide_eq_false (by omega)) (by kernel_rfl) ?_
  refine st_idx (fun w _ => idx0 (c := zd.1.c) ha hl1 w) (by kernel_rfl) ?_
  refine st_ldv (fun w h => load_int (cell_of (q := zd.1) (x := x.fdiv y) (h (zd.1, x.fdiv y) (by simp)) hl ha)) (by kernel_rfl) ?_
  refine st_b 87 (dig_odd hp) (by kernel_rfl) ?_
  exact st_retG (zq2) Try.func46 (subE 1 rfl (by omega) sub0) (by kernel_rfl)
end Go.Proofs.Ytccllfegnijpiaa
end
section
/-
  The reference's Near for every mode; To of the reference; Mirror.
-/
set_option linter.unusedVariables false
set_option linter.unusedSimpArgs false
set_option maxRecDepth 100000
namespace Go.Proofs.Ytccllfegnijpiaa
open Go Go.RowKit Go.Ev

theorem near_ok (p q : ZQ) (x y mode : Int) (hx : Bits 200 x) (hy : Bits 200 y) (h0 : 0 < y) (h1 : 1 ≤ mode) (h2 : mode ≤ 9) :
    FnZ 46 [(p, x), (q, y)] [zv p, zv q, .int .i64 mode] (fun z => .tuple #[zv z, .bool true]) (nearQ x y mode) := by
  have hne : y ≠ 0 := by omega
  by_cases hr : x.fmod y = 0
  · exact near_zero p q x y mode hx hy h0 h1 h2 hr (by unfold nearQ; rw [if_pos hr])
  · have hp : 0 < x.fmod y := by
      have h3 := Int.fmod_eq_emod_of_nonneg x (show 0 ≤ y by omega)
      have h4 := Int.emod_nonneg x hne
      omega
    have hc : cmpI (x.fmod y) 0 = 1 := cmpI_gt hp
    have hm : mode = 1 ∨ mode = 2 ∨ mode = 3 ∨ mode = 4 ∨ mode = 5 ∨ mode = 6 ∨ mode = 7 ∨ mode = 8 ∨ mode = 9 := by omega
    have hH : cmpI (x.fmod y + x.fmod y) y = -1 ∨ cmpI (x.fmod y + x.fmod y) y = 1 ∨ cmpI (x.fmod y + x.fmod y) y = 0 := by unfold cmpI; split <;> (try split) <;> simp
    have hE := half_cmp (x.fmod y) y
    clear h1 h2
    by_cases hs : x < 0
    · have hs1 : cmpI x 0 = -1 := cmpI_lt hs
      rcases hm with rfl | rfl | rfl | rfl | rfl | rfl | rfl | rfl | rfl
      · exact near_1n p q x y hx hy h0 hne hc hs1 (by simp [nearQ, hr, upQ, upB, halfB, ← hE, hs])
      · exact near_2n p q x y hx hy h0 hne hc hs1 (by simp [nearQ, hr, upQ, upB, halfB, ← hE, hs])
      · exact near_3n p q x y hx hy h0 hne hc hs1 (by simp [nearQ, hr, upQ, upB, halfB, ← hE, hs])
      · exact near_4n p q x y hx hy h0 hne hc hs1 (by simp [nearQ, hr, upQ, upB, halfB, ← hE, hs])
      · rcases hH with hh | hh | hh
        · exact near_5nl p q x y hx hy h0 hne hc hs1 hh (by simp [nearQ, hr, upQ, upB, halfB, ← hE, hs, hh])
        · exact near_5ng p q x y hx hy h0 hne hc hs1 hh (by simp [nearQ, hr, upQ, upB, halfB, ← hE, hs, hh])
        · exact near_5ne p q x y hx hy h0 hne hc hs1 hh (by simp [nearQ, hr, upQ, upB, halfB, ← hE, hs, hh])
      · rcases hH with hh | hh | hh
        · exact near_6nl p q x y hx hy h0 hne hc hs1 hh (by simp [nearQ, hr, upQ, upB, halfB, ← hE, hs, hh])
        · exact near_6ng p q x y hx hy h0 hne hc hs1 hh (by simp [nearQ, hr, upQ, upB, halfB, ← hE, hs, hh])
        · exact near_6ne p q x y hx hy h0 hne hc hs1 hh (by simp [nearQ, hr, upQ, upB, halfB, ← hE, hs, hh])
      · rcases hH with hh | hh | hh
        · exact near_7nl p q x y hx hy h0 hne hc hs1 hh (by simp [nearQ, hr, upQ, upB, halfB, ← hE, hs, hh])
        · exact near_7ng p q x y hx hy h0 hne hc hs1 hh (by simp [nearQ, hr, upQ, upB, halfB, ← hE, hs, hh])
        · exact near_7ne p q x y hx hy h0 hne hc hs1 hh (by simp [nearQ, hr, upQ, upB, halfB, ← hE, hs, hh])
      · rcases hH with hh | hh | hh
        · exact near_8nl p q x y hx hy h0 hne hc hs1 hh (by simp [nearQ, hr, upQ, upB, halfB, ← hE, hs, hh])
        · exact near_8ng p q x y hx hy h0 hne hc hs1 hh (by simp [nearQ, hr, upQ, upB, halfB, ← hE, hs, hh])
        · exact near_8ne p q x y hx hy h0 hne hc hs1 hh (by simp [nearQ, hr, upQ, upB, halfB, ← hE, hs, hh])
      · rcases hH with hh | hh | hh
        · exact near_9nl p q x y hx hy h0 hne hc hs1 hh (by simp [nearQ, hr, upQ, upB, halfB, ← hE, hs, hh])
        · exact near_9ng p q x y hx hy h0 hne hc hs1 hh (by simp [nearQ, hr, upQ, upB, halfB, ← hE, hs, hh])
        · by_cases hl : x.fdiv y = 0
          · exact near_9nez p q x y hx hy h0 hne hc hs1 hh hl (by simp [nearQ, hr, upQ, upB, halfB, ← hE, hs, hh, hl])
          · by_cases hpar : x.fdiv y % 2 = 0
            · exact near_9nee p q x y hx hy h0 hne hc hs1 hh hl hpar (by simp [nearQ, hr, upQ, upB, halfB, ← hE, hs, hh, hpar])
            · exact near_9neo p q x y hx hy h0 hne hc hs1 hh hl hpar (by simp [nearQ, hr, upQ, upB, halfB, ← hE, hs, hh, hpar])
    · have hs1 : 0 ≤ cmpI x 0 := by unfold cmpI; rw [if_neg hs]; split <;> omega
      rcases hm with rfl | rfl | rfl | rfl | rfl | rfl | rfl | rfl | rfl
      · exact near_1p p q x y hx hy h0 hne hc hs1 (by simp [nearQ, hr, upQ, upB, halfB, ← hE, hs])
      · exact near_2p p q x y hx hy h0 hne hc hs1 (by simp [nearQ, hr, upQ, upB, halfB, ← hE, hs])
      · exact near_3p p q x y hx hy h0 hne hc hs1 (by simp [nearQ, hr, upQ, upB, halfB, ← hE, hs])
      · exact near_4p p q x y hx hy h0 hne hc hs1 (by simp [nearQ, hr, upQ, upB, halfB, ← hE, hs])
      · rcases hH with hh | hh | hh
        · exact near_5pl p q x y hx hy h0 hne hc hs1 hh (by simp [nearQ, hr, upQ, upB, halfB, ← hE, hs, hh])
        · exact near_5pg p q x y hx hy h0 hne hc hs1 hh (by simp [nearQ, hr, upQ, upB, halfB, ← hE, hs, hh])
        · exact near_5pe p q x y hx hy h0 hne hc hs1 hh (by simp [nearQ, hr, upQ, upB, halfB, ← hE, hs, hh])
      · rcases hH with hh | hh | hh
        · exact near_6pl p q x y hx hy h0 hne hc hs1 hh (by simp [nearQ, hr, upQ, upB, halfB, ← hE, hs, hh])
        · exact near_6pg p q x y hx hy h0 hne hc hs1 hh (by simp [nearQ, hr, upQ, upB, halfB, ← hE, hs, hh])
        · exact near_6pe p q x y hx hy h0 hne hc hs1 hh (by simp [nearQ, hr, upQ, upB, halfB, ← hE, hs, hh])
      · rcases hH with hh | hh | hh
        · exact near_7pl p q x y hx hy h0 hne hc hs1 hh (by simp [nearQ, hr, upQ, upB, halfB, ← hE, hs, hh])
        · exact near_7pg p q x y hx hy h0 hne hc hs1 hh (by simp [nearQ, hr, upQ, upB, halfB, ← hE, hs, hh])
        · exact near_7pe p q x y hx hy h0 hne hc hs1 hh (by simp [nearQ, hr, upQ, upB, halfB, ← hE, hs, hh])
      · rcases hH with hh | hh | hh
        · exact near_8pl p q x y hx hy h0 hne hc hs1 hh (by simp [nearQ, hr, upQ, upB, halfB, ← hE, hs, hh])
        · exact near_8pg p q x y hx hy h0 hne hc hs1 hh (by simp [nearQ, hr, upQ, upB, halfB, ← hE, hs, hh])
        · exact near_8pe p q x y hx hy h0 hne hc hs1 hh (by simp [nearQ, hr, upQ, upB, halfB, ← hE, hs, hh])
      · rcases hH with hh | hh | hh
        · exact near_9pl p q x y hx hy h0 hne hc hs1 hh (by simp [nearQ, hr, upQ, upB, halfB, ← hE, hs, hh])
        · exact near_9pg p q x y hx hy h0 hne hc hs1 hh (by simp [nearQ, hr, upQ, upB, halfB, ← hE, hs, hh])
        · by_cases hl : x.fdiv y = 0
          · exact near_9pez p q x y hx hy h0 hne hc hs1 hh hl (by simp [nearQ, hr, upQ, upB, halfB, ← hE, hs, hh, hl])
          · by_cases hpar : x.fdiv y % 2 = 0
            · exact near_9pee p q x y hx hy h0 hne hc hs1 hh hl hpar (by simp [nearQ, hr, upQ, upB, halfB, ← hE, hs, hh, hpar])
            · exact near_9peo p q x y hx hy h0 hne hc hs1 hh hl hpar (by simp [nearQ, hr, upQ, upB, halfB, ← hE, hs, hh, hpar])
theorem nearQ_bits {x y mode : Int} (hx : Bits 200 x) (h0 : 0 < y) : Bits 202 (nearQ x y mode) := by
  have h1 : Bits 201 (x.fdiv y) := fdiv_b hx (by omega)
  have h2 : Bits 202 (x.fdiv y + 1) := h1.add (Bits.mono (l := 201) (show Bits 64 1 from (by unfold Bits; decide)) (by decide))
  unfold nearQ
  split
  · exact h1.mono (by decide)
  · split
    · exact h2
    · exact h1.mono (by decide)
theorem near_bad (p q : ZQ) (mode : Int) (h : mode < 1 ∨ 9 < mode) : Fn 46 [] [zv p, zv q, .int .i64 mode] (.tuple #[.agg #[.bool false, .slice none 0 0], .bool false]) := near_no p q 0 0 mode h
end Go.Proofs.Ytccllfegnijpiaa
end
section
/-
  divide.Fraction.
-/
set_option linter.unusedSimpArgs false
set_option linter.unusedVariables false
namespace Go.Proofs.Ytccllfegnijpiaa
open Go Go.RowKit

/-- The fraction has room. -/
def fOk (n d : Int) : Prop := d ≠ 0 ∧ W128 (frP n d) ∧ W128 (frQ n d)
instance (n d : Int) : Decidable (fOk n d) := by unfold fOk; exact inferInstance
end Go.Proofs.Ytccllfegnijpiaa
end
section
/-
  The law RoundMirrors, walked.
-/
set_option linter.unusedVariables false
set_option maxRecDepth 100000
namespace Go.Proofs.Ytccllfegnijpiaa
open Go Go.RowKit Go.Ev

theorem to_yes (w d mode : Int) (hw : W128 w) (hd : W128 d) (h0 : 0 < d) (h1 : 1 ≤ mode) (h2 : mode ≤ 9) (y : Int) (hy : d * nearQ w d mode = y) (h : W128 y) : Fn 38 [] [wv w, wv d, .int .i64 mode] (.tuple #[wv y, .int .i64 0]) := by
  have := to_ok w d mode hw hd h0 h1 h2
  rw [hy, rtv_yes h] at this
  exact this
end Go.Proofs.Ytccllfegnijpiaa
end
section
/-
  The law RoundNear, walked.
-/
set_option linter.unusedVariables false
set_option maxRecDepth 100000
namespace Go.Proofs.Ytccllfegnijpiaa
open Go Go.RowKit Go.Ev

/-- What is rounded lies near; it is a multiple; rounded again it stays. -/
theorem nearQ_near {w d mode : Int} (h0 : 0 < d) (h1 : 1 ≤ mode) (h2 : mode ≤ 9) : (d * nearQ w d mode - w).natAbs < d.natAbs ∧ (5 ≤ mode → (d * nearQ w d mode - w).natAbs + (d * nearQ w d mode - w).natAbs ≤ d.natAbs) := by
  have ew := Int.mul_fdiv_add_fmod w d
  have w1 := Int.fmod_eq_emod_of_nonneg w (show 0 ≤ d by omega)
  have w2 := Int.emod_nonneg w (show d ≠ 0 by omega)
  have w3 := Int.emod_lt_of_pos w h0
  by_cases hz : w.fmod d = 0
  · have e : d * nearQ w d mode = w := by unfold nearQ; rw [if_pos hz]; omega
    rw [e]
    omega
  · by_cases hu : upQ w d mode = true
    · have e : d * nearQ w d mode = w + (d - w.fmod d) := by unfold nearQ; rw [if_neg hz, if_pos hu, Int.mul_add]; omega
      rw [e]
      refine ⟨by omega, fun h5 => ?_⟩
      have hx : 0 ≤ cmpI (w.fmod d) (d - w.fmod d) := by
        have hm : mode = 5 ∨ mode = 6 ∨ mode = 7 ∨ mode = 8 ∨ mode = 9 := by omega
        unfold upQ at hu
        generalize cmpI (w.fmod d) (d - w.fmod d) = x at *
        apply Classical.byContradiction
        intro hneg
        have a1 : ¬ 0 < x := by omega
        have a2 : ¬ x = 0 := by omega
        rcases hm with rfl | rfl | rfl | rfl | rfl <;> simp [upB, halfB, a1, a2] at hu
      have : ¬ w.fmod d < d - w.fmod d := fun h => by rw [cmpI_lt h] at hx; omega
      omega
    · have e : d * nearQ w d mode = w - w.fmod d := by unfold nearQ; rw [if_neg hz, if_neg hu]; omega
      rw [e]
      refine ⟨by omega, fun h5 => ?_⟩
      have hx : cmpI (w.fmod d) (d - w.fmod d) ≤ 0 := by
        have hm : mode = 5 ∨ mode = 6 ∨ mode = 7 ∨ mode = 8 ∨ mode = 9 := by omega
        unfold upQ at hu
        generalize cmpI (w.fmod d) (d - w.fmod d) = x at *
        apply Classical.byContradiction
        intro hneg
        have a1 : 0 < x := by omega
        rcases hm with rfl | rfl | rfl | rfl | rfl <;> simp [upB, halfB, a1] at hu
      have : ¬ d - w.fmod d < w.fmod d := fun h => by rw [cmpI_gt h] at hx; omega
      omega
end Go.Proofs.Ytccllfegnijpiaa
end
section
/-
  Durations: totals, signs, what may be, and how a total is laid out; no program in sight.
-/
set_option linter.unusedVariables false
namespace Go.Proofs.Ytccllfegnijpiaa

abbrev LIM : Int := 9007199254740992000000000
def dtot (d h mi s n : Int) : Int := d * 86400000000000 + h * 3600000000000 + mi * 60000000000 + s * 1000000000 + n
/-- The sign of the first field that isn't 0. -/
def sg8 (a b c d h mi s n : Int) : Int := if a ≠ 0 then cmpI a 0 else if b ≠ 0 then cmpI b 0 else if c ≠ 0 then cmpI c 0 else if d ≠ 0 then cmpI d 0 else if h ≠ 0 then cmpI h 0 else if mi ≠ 0 then cmpI mi 0 else if s ≠ 0 then cmpI s 0 else cmpI n 0
def pos8 (a b c d h mi s n : Int) : Prop := 0 ≤ a ∧ 0 ≤ b ∧ 0 ≤ c ∧ 0 ≤ d ∧ 0 ≤ h ∧ 0 ≤ mi ∧ 0 ≤ s ∧ 0 ≤ n
def neg8 (a b c d h mi s n : Int) : Prop := a ≤ 0 ∧ b ≤ 0 ∧ c ≤ 0 ∧ d ≤ 0 ∧ h ≤ 0 ∧ mi ≤ 0 ∧ s ≤ 0 ∧ n ≤ 0
instance (a b c d h mi s n : Int) : Decidable (pos8 a b c d h mi s n) := by unfold pos8; infer_instance
instance (a b c d h mi s n : Int) : Decidable (neg8 a b c d h mi s n) := by unfold neg8; infer_instance
def cnt1 (a : Int) : Prop := -4294967295 ≤ a ∧ a ≤ 4294967295
instance (a : Int) : Decidable (cnt1 a) := by unfold cnt1; infer_instance
/-- A duration that may be. -/
def uOk (a b c d h mi s n : Int) : Prop := (pos8 a b c d h mi s n ∨ neg8 a b c d h mi s n) ∧ (cnt1 a ∧ cnt1 b ∧ cnt1 c) ∧ -LIM < dtot d h mi s n ∧ dtot d h mi s n < LIM
instance (a b c d h mi s n : Int) : Decidable (uOk a b c d h mi s n) := by unfold uOk; infer_instance
/-- One without years, months, weeks. -/
def uEx (a b c d h mi s n : Int) : Prop := uOk a b c d h mi s n ∧ a = 0 ∧ b = 0 ∧ c = 0
instance (a b c d h mi s n : Int) : Decidable (uEx a b c d h mi s n) := by unfold uEx; infer_instance
/-- A unit's length. -/
def ulen (u : Int) : Int := if u = 4 then 86400000000000 else if u = 5 then 3600000000000 else if u = 6 then 60000000000 else if u = 7 then 1000000000 else if u = 8 then 1 else 0
theorem ulen_no {u : Int} (h : u < 4 ∨ 8 < u) : ulen u = 0 := by unfold ulen; split <;> (try split) <;> (try split) <;> (try split) <;> (try split) <;> omega
theorem ulen_pos {u : Int} (h : 4 ≤ u) (k : u ≤ 8) : 1 ≤ ulen u ∧ ulen u ≤ 86400000000000 := by unfold ulen; split <;> (try split) <;> (try split) <;> (try split) <;> (try split) <;> omega
/-- The fields of a total x that is laid out from the unit u on. -/
def l4 (u x : Int) : Int := if u = 4 then x.tdiv 86400000000000 else 0
def l5 (u x : Int) : Int := if u = 4 then (x.tmod 86400000000000).tdiv 3600000000000 else if u = 5 then x.tdiv 3600000000000 else 0
def l6 (u x : Int) : Int := if u ≤ 5 then (x.tmod 3600000000000).tdiv 60000000000 else if u = 6 then x.tdiv 60000000000 else 0
def l7 (u x : Int) : Int := if u ≤ 6 then (x.tmod 60000000000).tdiv 1000000000 else if u = 7 then x.tdiv 1000000000 else 0
def l8 (u x : Int) : Int := if u ≤ 7 then x.tmod 1000000000 else x
theorem td (x L : Int) (hL : 0 < L) : x.tdiv L * L + x.tmod L = x ∧ (0 ≤ x → 0 ≤ x.tdiv L ∧ 0 ≤ x.tmod L ∧ x.tmod L < L) ∧ (x ≤ 0 → x.tdiv L ≤ 0 ∧ x.tmod L ≤ 0 ∧ -L < x.tmod L) := by
  have a := Int.tdiv_mul_add_tmod x L
  refine ⟨a, fun h => ⟨Int.tdiv_nonneg h (by omega), Int.tmod_nonneg L h, Int.tmod_lt_of_pos x hL⟩, fun h => ?_⟩
  have b := Int.tdiv_nonneg (a := -x) (b := L) (by omega) (by omega)
  have c := Int.tmod_nonneg (a := -x) L (by omega)
  have d := Int.tmod_lt_of_pos (-x) hL
  rw [Int.neg_tdiv] at b
  rw [Int.neg_tmod] at c d
  omega
/-- What is laid out has its total; its fields have one sign and aren't too great. -/
theorem lay_tot {u x : Int} (h : 4 ≤ u) (k : u ≤ 8) : dtot (l4 u x) (l5 u x) (l6 u x) (l7 u x) (l8 u x) = x ∧
    (0 ≤ x → pos8 0 0 0 (l4 u x) (l5 u x) (l6 u x) (l7 u x) (l8 u x)) ∧ (x ≤ 0 → neg8 0 0 0 (l4 u x) (l5 u x) (l6 u x) (l7 u x) (l8 u x)) := by
  obtain ⟨e1, e1p, e1n⟩ := td x 86400000000000 (by omega)
  obtain ⟨e2, e2p, e2n⟩ := td x 3600000000000 (by omega)
  obtain ⟨e3, e3p, e3n⟩ := td x 60000000000 (by omega)
  obtain ⟨e4, e4p, e4n⟩ := td x 1000000000 (by omega)
  obtain ⟨f2, f2p, f2n⟩ := td (x.tmod 86400000000000) 3600000000000 (by omega)
  obtain ⟨f3, f3p, f3n⟩ := td (x.tmod 3600000000000) 60000000000 (by omega)
  obtain ⟨f4, f4p, f4n⟩ := td (x.tmod 60000000000) 1000000000 (by omega)
  rw [Int.tmod_tmod_of_dvd x (by decide)] at f2 f3 f4
  have hu : u = 4 ∨ u = 5 ∨ u = 6 ∨ u = 7 ∨ u = 8 := by omega
  refine ⟨?_, fun hx => ?_, fun hx => ?_⟩
  · clear e1p e1n e2p e2n e3p e3n e4p e4n f2p f2n f3p f3n f4p f4n
    unfold dtot l4 l5 l6 l7 l8
    rcases hu with rfl | rfl | rfl | rfl | rfl <;> simp only [Int.reduceEq, Int.reduceLE, if_true, if_false] <;> omega
  · have p1 := e1p hx; have p2 := e2p hx; have p3 := e3p hx; have p4 := e4p hx
    have q2 := f2p p1.2.1; have q3 := f3p p2.2.1; have q4 := f4p p3.2.1
    unfold pos8 l4 l5 l6 l7 l8
    rcases hu with rfl | rfl | rfl | rfl | rfl <;> simp only [Int.reduceEq, Int.reduceLE, if_true, if_false] <;> refine ⟨trivial, trivial, trivial, ?_, ?_, ?_, ?_, ?_⟩ <;> first | trivial | omega
  · have p1 := e1n hx; have p2 := e2n hx; have p3 := e3n hx; have p4 := e4n hx
    have q2 := f2n p1.2.1; have q3 := f3n p2.2.1; have q4 := f4n p3.2.1
    unfold neg8 l4 l5 l6 l7 l8
    rcases hu with rfl | rfl | rfl | rfl | rfl <;> simp only [Int.reduceEq, Int.reduceLE, if_true, if_false] <;> refine ⟨trivial, trivial, trivial, ?_, ?_, ?_, ?_, ?_⟩ <;> first | trivial | omega
/-- It may be, where its total may be, and its first field has room. -/
def layOk (u x : Int) : Prop := (4 ≤ u ∧ u ≤ 8) ∧ (-LIM < x ∧ x < LIM) ∧ (-9223372036854775808 ≤ x.tdiv (ulen u) ∧ x.tdiv (ulen u) ≤ 9223372036854775807)
instance (u x : Int) : Decidable (layOk u x) := by unfold layOk; infer_instance
theorem lay_ok {u x : Int} (k : layOk u x) : uEx 0 0 0 (l4 u x) (l5 u x) (l6 u x) (l7 u x) (l8 u x) := by
  obtain ⟨⟨k1, k2⟩, ⟨k3, k4⟩, k5⟩ := k
  obtain ⟨a, b, c⟩ := lay_tot (x := x) k1 k2
  refine ⟨⟨?_, ⟨by unfold cnt1; omega, by unfold cnt1; omega, by unfold cnt1; omega⟩, by rw [a]; exact ⟨k3, k4⟩⟩, rfl, rfl, rfl⟩
  by_cases h : 0 ≤ x
  · exact .inl (b h)
  · exact .inr (c (by omega))
theorem td2 (x A B k : Int) (hA : A = k * B) (hB : 0 < B) (hk : 0 < k) : -k < (x.tmod A).tdiv B ∧ (x.tmod A).tdiv B < k := by
  have a0 : 0 < A := by rw [hA]; exact Int.mul_pos hk hB
  obtain ⟨e1, e2, e3⟩ := td x A a0
  obtain ⟨f1, f2, f3⟩ := td (x.tmod A) B hB
  have key : ∀ q : Int, q * B < k * B → q < k := fun q h => Int.lt_of_mul_lt_mul_right h (by omega)
  by_cases h : 0 ≤ x
  · have := e2 h
    have := f2 this.2.1
    have := key ((x.tmod A).tdiv B) (by omega)
    omega
  · have := e3 (by omega)
    have := f3 this.2.1
    have := key (-((x.tmod A).tdiv B)) (by rw [Int.neg_mul]; omega)
    omega
theorem lay_small {u x : Int} (h : 4 ≤ u) (k : u ≤ 8) : (u < 5 → -24 < l5 u x ∧ l5 u x < 24) ∧ (u < 6 → -60 < l6 u x ∧ l6 u x < 60) ∧ (u < 7 → -60 < l7 u x ∧ l7 u x < 60) ∧ (u < 8 → -1000000000 < l8 u x ∧ l8 u x < 1000000000) := by
  have e4 := td x 1000000000 (by omega)
  have f2 := td2 x 86400000000000 3600000000000 24 (by decide) (by omega) (by omega)
  have f3 := td2 x 3600000000000 60000000000 60 (by decide) (by omega) (by omega)
  have f4 := td2 x 60000000000 1000000000 60 (by decide) (by omega) (by omega)
  refine ⟨fun q => ?_, fun q => ?_, fun q => ?_, fun q => ?_⟩
  · obtain rfl : u = 4 := by omega
    exact f2
  · unfold l6; rw [if_pos (by omega)]; exact f3
  · unfold l7; rw [if_pos (by omega)]; exact f4
  · unfold l8; rw [if_pos (by omega)]
    by_cases hx : 0 ≤ x
    · have := e4.2.1 hx; omega
    · have := e4.2.2 (by omega); omega
/-- An increment of a unit. -/
def incOk (u i : Int) : Prop := 1 ≤ i ∧ (u = 4 ∧ i ≤ 1000000000 ∨ u = 5 ∧ i < 24 ∧ Int.tmod 24 i = 0 ∨ (u = 6 ∨ u = 7) ∧ i < 60 ∧ Int.tmod 60 i = 0 ∨ u = 8 ∧ i < 1000000000 ∧ Int.tmod 1000000000 i = 0)
instance (u i : Int) : Decidable (incOk u i) := by unfold incOk; infer_instance
end Go.Proofs.Ytccllfegnijpiaa
end
section
/-
  Points of time: what the program and the reference answer of layer 21.
-/
set_option linter.unusedVariables false
set_option maxRecDepth 100000
namespace Go.Proofs.Ytccllfegnijpiaa
open Go Go.RowKit Go.Ev

def nIn (x : Int) : Prop := -8640000000000000000000 ≤ x ∧ x ≤ 8640000000000000000000
instance (x : Int) : Decidable (nIn x) := by unfold nIn; infer_instance
theorem nIn_W {x : Int} (k : nIn x) : W128 x := by unfold nIn at k; unfold W128; omega
theorem cmpI_le {a b : Int} (h : a ≤ b) : cmpI a b ≤ 0 := by unfold cmpI; split <;> (try split) <;> omega
theorem imost : Fn 56 [] [] (wv 8640000000000000000000) := by
  have i1 : I64 100000000 := by unfold I64; omega
  have i2 : I64 86400000000000 := by unfold I64; omega
  refine fn_of Try.func56 rfl fun ww => ?_
  refine st_fn ent52 (wmul_f (100000000) (86400000000000) (by assumption) (by assumption)) sub0 (by kernel_rfl) ?_
  exact st_retv Try.func56 (show Value.agg #[Value.int IntKind.i64 (hi (100000000 * 86400000000000)), Value.int IntKind.u64 (lo (100000000 * 86400000000000))] = _ by rfl) (by kernel_rfl)
section
variable (x : Int)
theorem iright_yes (k : nIn x) : Fn 16 [] [wv x] (.bool true) := by
  have w1 : W128 8640000000000000000000 := by unfold W128; omega
  have w2 : W128 (-8640000000000000000000) := by unfold W128; omega
  have c1 : cmpI x 8640000000000000000000 ≤ 0 := cmpI_le k.2
  have c2 : 0 ≤ cmpI x (-8640000000000000000000) := (cmpI_ge _ _).2 k.1
  refine fn_of Try.func16 rfl fun ww => ?_
  refine st_fn ent56 (imost) sub0 (by kernel_rfl) ?_
  refine st_fn ent55 (wneg_yes (8640000000000000000000) (by assumption) (by assumption)) sub0 (by kernel_rfl) ?_
  refine st_fn ent56 (imost) sub0 (by kernel_rfl) ?_
  refine st_fn ent57 (wcmp_fn (x) (8640000000000000000000)) sub0 (by kernel_rfl) ?_
  refine st_b 13 (show (decide (cmpI x 8640000000000000000000 ≤ 0)) = true by exact decide_eq_true (by omega)) (by kernel_rfl) ?_
  refine st_fn ent57 (wcmp_fn (x) (-8640000000000000000000)) sub0 (by kernel_rfl) ?_
  exact st_retv Try.func16 (show Value.bool (decide (cmpI x (-8640000000000000000000) ≥ 0)) = _ by simp_all) (by kernel_rfl)
theorem iright_no (k : ¬ nIn x) : Fn 16 [] [wv x] (.bool false) := by
  have w1 : W128 8640000000000000000000 := by unfold W128; omega
  have w2 : W128 (-8640000000000000000000) := by unfold W128; omega
  by_cases h : 8640000000000000000000 < x
  · have c1 : cmpI x 8640000000000000000000 = 1 := cmpI_gt h
    refine fn_of Try.func16 rfl fun ww => ?_
    refine st_fn ent56 (imost) sub0 (by kernel_rfl) ?_
    refine st_fn ent55 (wneg_yes (8640000000000000000000) (by assumption) (by assumption)) sub0 (by kernel_rfl) ?_
    refine st_fn ent56 (imost) sub0 (by kernel_rfl) ?_
    refine st_fn ent57 (wcmp_fn (x) (8640000000000000000000)) sub0 (by kernel_rfl) ?_
    refine st_b 13 (show (decide (cmpI x 8640000000000000000000 ≤ 0)) = false by exact decide_eq_false (by omega)) (by kernel_rfl) ?_
    exact st_ret Try.func16 (by kernel_rfl)
  · have c1 : cmpI x 8640000000000000000000 ≤ 0 := cmpI_le (by omega)
    have c2 : cmpI x (-8640000000000000000000) = -1 := cmpI_lt (by unfold nIn at k; omega)
    refine fn_of Try.func16 rfl fun ww => ?_
    refine st_fn ent56 (imost) sub0 (by kernel_rfl) ?_
    refine st_fn ent55 (wneg_yes (8640000000000000000000) (by assumption) (by assumption)) sub0 (by kernel_rfl) ?_
    refine st_fn ent56 (imost) sub0 (by kernel_rfl) ?_
    refine st_fn ent57 (wcmp_fn (x) (8640000000000000000000)) sub0 (by kernel_rfl) ?_
    refine st_b 13 (show (decide (cmpI x 8640000000000000000000 ≤ 0)) = true by exact decide_eq_true (by omega)) (by kernel_rfl) ?_
    refine st_fn ent57 (wcmp_fn (x) (-8640000000000000000000)) sub0 (by kernel_rfl) ?_
    exact st_retv Try.func16 (show Value.bool (decide (cmpI x (-8640000000000000000000) ≥ 0)) = _ by simp_all) (by kernel_rfl)
theorem ichk_yes (k : nIn x) : Fn 40 [] [wv x, .int .i64 0] (.tuple #[wv x, .int .i64 0]) := by
  refine fn_of Try.func40 rfl fun ww => ?_
  refine st_fn ent16 (iright_yes (x) (by assumption)) sub0 (by kernel_rfl) ?_
  exact st_ret Try.func40 (by kernel_rfl)
theorem ichk_no (k : ¬ nIn x) : Fn 40 [] [wv x, .int .i64 0] (.tuple #[wz, .int .i64 4]) := by
  refine fn_of Try.func40 rfl fun ww => ?_
  refine st_fn ent16 (iright_no (x) (by assumption)) sub0 (by kernel_rfl) ?_
  exact st_ret Try.func40 (by kernel_rfl)
theorem zmost : FnZ 118 [] [] zv 8640000000000000000000 := by
  have i1 : I64 100000000 := by unfold I64; omega
  have i2 : I64 86400000000000 := by unfold I64; omega
  refine fnG_of Try.func118 rfl fun ww => ?_
  refine st_g ent42 (fzint (100000000) (by assumption)) sub0 (by kernel_rfl) (fun zq0 => ?_)
  refine st_g ent42 (fzint (86400000000000) (by assumption)) sub0 (by kernel_rfl) (fun zq1 => ?_)
  refine st_g ent41 (fzmul (zq0) (zq1) (100000000) (86400000000000) (by exact Bits.fit i1.w.bits (by decide)) (by exact Bits.fit i2.w.bits (by decide))) (subC 1 rfl (subC 0 rfl sub0)) (by kernel_rfl) (fun zq2 => ?_)
  exact st_retG (zq2) Try.func118 (subE 0 rfl (by rfl) sub0) (by kernel_rfl)
theorem zbillion : FnZ 54 [] [] zv 1000000000 := by
  have i1 : I64 1000000000 := by unfold I64; omega
  refine fnG_of Try.func54 rfl fun ww => ?_
  refine st_g ent42 (fzint (1000000000) (by assumption)) sub0 (by kernel_rfl) (fun zq0 => ?_)
  exact st_retG (zq0) Try.func54 (subE 0 rfl (by rfl) sub0) (by kernel_rfl)
variable (p : ZQ)
theorem zin_yes (hx : Bits 900 x) (k : nIn x) : Fn 58 [(p, x)] [zv p] (.bool true) := by
  have hm : Bits 900 8640000000000000000000 := Bits.mono (show W128 8640000000000000000000 by unfold W128; omega).bits (by decide)
  obtain ⟨X, hX⟩ : ∃ X : Int, X = (x.natAbs : Int) := ⟨_, rfl⟩
  have c1 : cmpI X 8640000000000000000000 ≤ 0 := cmpI_le (by unfold nIn at k; omega)
  have bX : Bits 900 X := by rw [hX]; exact hx.abs
  have fa : FnZ 106 [(p, x)] [zv p] zv X := by rw [hX]; exact fzabs p x (hx.fit (by decide))
  clear hX
  refine fn_of Try.func58 rfl fun ww => ?_
  refine st_g ent106 (fa) (subC 0 rfl sub0) (by kernel_rfl) (fun zq0 => ?_)
  refine st_g ent118 (zmost) sub0 (by kernel_rfl) (fun zq1 => ?_)
  refine st_fn ent108 (fzcmp (zq0) (zq1) (X) (8640000000000000000000) (by exact Bits.fit bX (by decide)) (by exact Bits.fit hm (by decide))) (subC 1 rfl (subC 0 rfl sub0)) (by kernel_rfl) ?_
  exact st_retv Try.func58 (show Value.bool (decide (cmpI X 8640000000000000000000 ≤ 0)) = _ by simp_all) (by kernel_rfl)
theorem zin_no (hx : Bits 900 x) (k : ¬ nIn x) : Fn 58 [(p, x)] [zv p] (.bool false) := by
  have hm : Bits 900 8640000000000000000000 := Bits.mono (show W128 8640000000000000000000 by unfold W128; omega).bits (by decide)
  obtain ⟨X, hX⟩ : ∃ X : Int, X = (x.natAbs : Int) := ⟨_, rfl⟩
  have c1 : cmpI X 8640000000000000000000 = 1 := cmpI_gt (by unfold nIn at k; omega)
  have bX : Bits 900 X := by rw [hX]; exact hx.abs
  have fa : FnZ 106 [(p, x)] [zv p] zv X := by rw [hX]; exact fzabs p x (hx.fit (by decide))
  clear hX
  refine fn_of Try.func58 rfl fun ww => ?_
  refine st_g ent106 (fa) (subC 0 rfl sub0) (by kernel_rfl) (fun zq0 => ?_)
  refine st_g ent118 (zmost) sub0 (by kernel_rfl) (fun zq1 => ?_)
  refine st_fn ent108 (fzcmp (zq0) (zq1) (X) (8640000000000000000000) (by exact Bits.fit bX (by decide)) (by exact Bits.fit hm (by decide))) (subC 1 rfl (subC 0 rfl sub0)) (by kernel_rfl) ?_
  exact st_retv Try.func58 (show Value.bool (decide (cmpI X 8640000000000000000000 ≤ 0)) = _ by simp_all) (by kernel_rfl)
theorem zright21_yes (hw : W128 x) (k : nIn x) : Fn 17 [] [wv x] (.bool true) := by
  refine fn_of Try.func17 rfl fun ww => ?_
  refine st_g ent47 (frof (x) (by assumption)) sub0 (by kernel_rfl) (fun zq0 => ?_)
  refine st_fn ent58 (zin_yes (x) (zq0) (by exact Bits.mono hw.bits (by decide)) (by assumption)) (subC 0 rfl sub0) (by kernel_rfl) ?_
  exact st_ret Try.func17 (by kernel_rfl)
theorem zright21_no (hw : W128 x) (k : ¬ nIn x) : Fn 17 [] [wv x] (.bool false) := by
  refine fn_of Try.func17 rfl fun ww => ?_
  refine st_g ent47 (frof (x) (by assumption)) sub0 (by kernel_rfl) (fun zq0 => ?_)
  refine st_fn ent58 (zin_no (x) (zq0) (by exact Bits.mono hw.bits (by decide)) (by assumption)) (subC 0 rfl sub0) (by kernel_rfl) ?_
  exact st_ret Try.func17 (by kernel_rfl)
theorem ztold21_yes (hx : Bits 900 x) (k : nIn x) : Fn 48 [(p, x)] [zv p] (.tuple #[wv x, .int .i64 0]) := by
  have hw := nIn_W k
  refine fn_of Try.func48 rfl fun ww => ?_
  refine st_fn ent58 (zin_yes (x) (p) (by exact Bits.mono hx (by decide)) (by assumption)) (subC 0 rfl sub0) (by kernel_rfl) ?_
  refine st_fn ent110 (frtold_yes (p) (x) (by exact Bits.mono hx (by decide)) (by assumption)) (subC 0 rfl sub0) (by kernel_rfl) ?_
  exact st_ret Try.func48 (by kernel_rfl)
theorem ztold21_no (hx : Bits 900 x) (k : ¬ nIn x) : Fn 48 [(p, x)] [zv p] (.tuple #[wz, .int .i64 4]) := by
  refine fn_of Try.func48 rfl fun ww => ?_
  refine st_fn ent58 (zin_no (x) (p) (by exact Bits.mono hx (by decide)) (by assumption)) (subC 0 rfl sub0) (by kernel_rfl) ?_
  exact st_ret Try.func48 (by kernel_rfl)
end
/-! split and join -/
def sQ (x : Int) : Int := x.fdiv 1000000000
def sR (x : Int) : Int := x.fmod 1000000000
theorem sQ_in {x : Int} (k : nIn x) : sQ x * 1000000000 + sR x = x ∧ 0 ≤ sR x ∧ sR x < 1000000000 ∧ -8640000000000 ≤ sQ x ∧ sQ x ≤ 8640000000000 := by
  unfold nIn at k; unfold sQ sR
  rw [Int.fdiv_eq_ediv_of_nonneg _ (by omega), Int.fmod_eq_emod_of_nonneg _ (by omega)]; omega
section
variable (x at_ rest : Int)
theorem dby_sec (hx : W128 x) : Fn 49 [] [wv x, .int .i64 1000000000] (.tuple #[wv (sQ x), .int .i64 (sR x), .int .i64 0]) := dby_f x 1000000000 hx (by omega) (by unfold I64; omega)
theorem isplit_yes (k : nIn x) : Fn 13 [] [wv x] (.tuple #[.int .i64 (sQ x), .int .i64 (sR x), .int .i64 0]) := by
  have hw := nIn_W k
  obtain ⟨q1, q2, q3, q4, q5⟩ := sQ_in k
  have i1 : I64 (sQ x) := by unfold I64; omega
  refine fn_of Try.func13 rfl fun ww => ?_
  refine st_fn ent16 (iright_yes (x) (by assumption)) sub0 (by kernel_rfl) ?_
  refine st_fn ent49 (dby_sec (x) (by assumption)) sub0 (by kernel_rfl) ?_
  refine st_fn ent50 (wint_f (sQ x) (by assumption)) sub0 (by kernel_rfl) ?_
  exact st_ret Try.func13 (by kernel_rfl)
theorem isplit_no (k : ¬ nIn x) : Fn 13 [] [wv x] (.tuple #[.int .i64 0, .int .i64 0, .int .i64 4]) := by
  refine fn_of Try.func13 rfl fun ww => ?_
  refine st_fn ent16 (iright_no (x) (by assumption)) sub0 (by kernel_rfl) ?_
  exact st_ret Try.func13 (by kernel_rfl)
theorem zsplit (k : nIn x) : Fn 18 [] [wv x] (.tuple #[.int .i64 (sQ x), .int .i64 (sR x)]) := by
  have hw := nIn_W k
  obtain ⟨q1, q2, q3, q4, q5⟩ := sQ_in k
  have i1 : I64 (x.fdiv 1000000000) := by show I64 (sQ x); unfold I64; omega
  have i2 : I64 (x.fmod 1000000000) := by show I64 (sR x); unfold I64; omega
  have b1 : Bits 1000 (x.fdiv 1000000000) := i1.w.bits.mono (by decide)
  have b2 : Bits 1000 (x.fmod 1000000000) := i2.w.bits.mono (by decide)
  have hx : Bits 1000 x := hw.bits.mono (by decide)
  have hb : Bits 1000 1000000000 := Bits.mono (show W128 1000000000 by unfold W128; omega).bits (by decide)
  unfold sQ sR
  refine fn_of Try.func18 rfl fun ww => ?_
  refine st_g ent47 (frof (x) (by assumption)) sub0 (by kernel_rfl) (fun zq0 => ?_)
  refine st_g ent54 (zbillion) sub0 (by kernel_rfl) (fun zq1 => ?_)
  refine st_g ent44 (fzdiv (zq0) (zq1) (x) (1000000000) (by exact Bits.mono hw.bits (by decide)) (by exact Bits.mono hb (by decide)) (by omega)) (subC 1 rfl (subC 0 rfl sub0)) (by kernel_rfl) (fun zq2 => ?_)
  refine st_fn ent59 (fits_f (zq2.fst) (x.fdiv 1000000000) (by exact Bits.mono i1.w.bits (by decide)) (by assumption)) (subC 0 rfl sub0) (by kernel_rfl) ?_
  refine st_fn ent59 (fits_f (zq2.snd) (x.fmod 1000000000) (by exact Bits.mono i2.w.bits (by decide)) (by assumption)) (subC 1 rfl sub0) (by kernel_rfl) ?_
  exact st_ret Try.func18 (by kernel_rfl)
theorem ijoin_arg (k : rest < 0 ∨ 1000000000 ≤ rest) : Fn 14 [] [.int .i64 at_, .int .i64 rest] (.tuple #[wz, .int .i64 1]) := by
  by_cases h : rest < 0
  · refine fn_of Try.func14 rfl fun ww => ?_
    refine st_b 7 (show (decide (rest < 0)) = true by exact decide_eq_true (by omega)) (by kernel_rfl) ?_
    exact st_ret Try.func14 (by kernel_rfl)
  · have h' : 1000000000 ≤ rest := by omega
    refine fn_of Try.func14 rfl fun ww => ?_
    refine st_b 7 (show (decide (rest < 0)) = false by exact decide_eq_false (by omega)) (by kernel_rfl) ?_
    refine st_b 10 (show (decide (rest ≥ 1000000000)) = true by exact decide_eq_true (by omega)) (by kernel_rfl) ?_
    exact st_ret Try.func14 (by kernel_rfl)
theorem ijoin_yes (hi : I64 at_) (k0 : 0 ≤ rest) (k1 : rest < 1000000000) (k : nIn (at_ * 1000000000 + rest)) : Fn 14 [] [.int .i64 at_, .int .i64 rest] (.tuple #[wv (at_ * 1000000000 + rest), .int .i64 0]) := by
  have hi' := hi
  unfold I64 at hi'
  have i1 : I64 rest := by unfold I64; omega
  have i2 : I64 1000000000 := by unfold I64; omega
  have a1 : W128 (at_ * 1000000000) := by unfold W128; omega
  have a2 : W128 rest := by unfold W128; omega
  have a3 : W128 (at_ * 1000000000 + rest) := by unfold W128; omega
  refine fn_of Try.func14 rfl fun ww => ?_
  refine st_b 7 (show (decide (rest < 0)) = false by exact decide_eq_false (by omega)) (by kernel_rfl) ?_
  refine st_b 10 (show (decide (rest ≥ 1000000000)) = false by exact decide_eq_false (by omega)) (by kernel_rfl) ?_
  refine st_fn ent52 (wmul_f (at_) (1000000000) (by assumption) (by assumption)) sub0 (by kernel_rfl) ?_
  refine st_fn ent39 (wof_fn (rest) (by assumption)) sub0 (by kernel_rfl) ?_
  refine st_fn ent51 (wadd_yes (at_ * 1000000000) (rest) (by assumption) (by assumption) (by assumption)) sub0 (by kernel_rfl) ?_
  refine st_fn ent40 (ichk_yes (at_ * 1000000000 + rest) (by assumption)) sub0 (by kernel_rfl) ?_
  exact st_ret Try.func14 (by kernel_rfl)
theorem ijoin_no (hi : I64 at_) (k0 : 0 ≤ rest) (k1 : rest < 1000000000) (k : ¬ nIn (at_ * 1000000000 + rest)) : Fn 14 [] [.int .i64 at_, .int .i64 rest] (.tuple #[wz, .int .i64 4]) := by
  have hi' := hi
  unfold I64 at hi'
  have i1 : I64 rest := by unfold I64; omega
  have i2 : I64 1000000000 := by unfold I64; omega
  have a1 : W128 (at_ * 1000000000) := by unfold W128; omega
  have a2 : W128 rest := by unfold W128; omega
  have a3 : W128 (at_ * 1000000000 + rest) := by unfold W128; omega
  refine fn_of Try.func14 rfl fun ww => ?_
  refine st_b 7 (show (decide (rest < 0)) = false by exact decide_eq_false (by omega)) (by kernel_rfl) ?_
  refine st_b 10 (show (decide (rest ≥ 1000000000)) = false by exact decide_eq_false (by omega)) (by kernel_rfl) ?_
  refine st_fn ent52 (wmul_f (at_) (1000000000) (by assumption) (by assumption)) sub0 (by kernel_rfl) ?_
  refine st_fn ent39 (wof_fn (rest) (by assumption)) sub0 (by kernel_rfl) ?_
  refine st_fn ent51 (wadd_yes (at_ * 1000000000) (rest) (by assumption) (by assumption) (by assumption)) sub0 (by kernel_rfl) ?_
  refine st_fn ent40 (ichk_no (at_ * 1000000000 + rest) (by assumption)) sub0 (by kernel_rfl) ?_
  exact st_ret Try.func14 (by kernel_rfl)
theorem zjoin_arg (k : rest < 0 ∨ 1000000000 ≤ rest) : Fn 15 [] [.int .i64 at_, .int .i64 rest] (.tuple #[wz, .int .i64 1]) := by
  by_cases h : rest < 0
  · refine fn_of Try.func15 rfl fun ww => ?_
    refine st_b 7 (show (decide (rest < 0)) = true by exact decide_eq_true (by omega)) (by kernel_rfl) ?_
    exact st_ret Try.func15 (by kernel_rfl)
  · have h' : 1000000000 ≤ rest := by omega
    refine fn_of Try.func15 rfl fun ww => ?_
    refine st_b 7 (show (decide (rest < 0)) = false by exact decide_eq_false (by omega)) (by kernel_rfl) ?_
    refine st_b 10 (show (decide (rest > 999999999)) = true by exact decide_eq_true (by omega)) (by kernel_rfl) ?_
    exact st_ret Try.func15 (by kernel_rfl)
theorem zjoin_yes (hi : I64 at_) (k0 : 0 ≤ rest) (k1 : rest < 1000000000) (k : nIn (at_ * 1000000000 + rest)) : Fn 15 [] [.int .i64 at_, .int .i64 rest] (.tuple #[wv (at_ * 1000000000 + rest), .int .i64 0]) := by
  have i1 : I64 rest := by unfold I64; omega
  have i2 : I64 1000000000 := by unfold I64; omega
  refine fn_of Try.func15 rfl fun ww => ?_
  refine st_b 7 (show (decide (rest < 0)) = false by exact decide_eq_false (by omega)) (by kernel_rfl) ?_
  refine st_b 10 (show (decide (rest > 999999999)) = false by exact decide_eq_false (by omega)) (by kernel_rfl) ?_
  refine st_g ent42 (fzint (at_) (by assumption)) sub0 (by kernel_rfl) (fun zq0 => ?_)
  refine st_g ent54 (zbillion) sub0 (by kernel_rfl) (fun zq1 => ?_)
  refine st_g ent41 (fzmul (zq0) (zq1) (at_) (1000000000) (by exact Bits.fit hi.w.bits (by decide)) (by exact Bits.fit i2.w.bits (by decide))) (subC 1 rfl (subC 0 rfl sub0)) (by kernel_rfl) (fun zq2 => ?_)
  refine st_g ent42 (fzint (rest) (by assumption)) sub0 (by kernel_rfl) (fun zq3 => ?_)
  refine st_g ent53 (fzadd (zq2) (zq3) (at_ * 1000000000) (rest) (by exact Bits.fit (Bits.mul hi.w.bits i2.w.bits) (by decide)) (by exact Bits.fit i1.w.bits (by decide))) (subC 1 rfl (subC 0 rfl sub0)) (by kernel_rfl) (fun zq4 => ?_)
  refine st_fn ent48 (ztold21_yes (at_ * 1000000000 + rest) (zq4) (by exact Bits.mono (Bits.add (Bits.mono (l := 256) (Bits.mul hi.w.bits i2.w.bits) (by decide)) (Bits.mono (l := 256) i1.w.bits (by decide))) (by decide)) (by assumption)) (subC 0 rfl sub0) (by kernel_rfl) ?_
  exact st_ret Try.func15 (by kernel_rfl)
theorem zjoin_no (hi : I64 at_) (k0 : 0 ≤ rest) (k1 : rest < 1000000000) (k : ¬ nIn (at_ * 1000000000 + rest)) : Fn 15 [] [.int .i64 at_, .int .i64 rest] (.tuple #[wz, .int .i64 4]) := by
  have i1 : I64 rest := by unfold I64; omega
  have i2 : I64 1000000000 := by unfold I64; omega
  refine fn_of Try.func15 rfl fun ww => ?_
  refine st_b 7 (show (decide (rest < 0)) = false by exact decide_eq_false (by omega)) (by kernel_rfl) ?_
  refine st_b 10 (show (decide (rest > 999999999)) = false by exact decide_eq_false (by omega)) (by kernel_rfl) ?_
  refine st_g ent42 (fzint (at_) (by assumption)) sub0 (by kernel_rfl) (fun zq0 => ?_)
  refine st_g ent54 (zbillion) sub0 (by kernel_rfl) (fun zq1 => ?_)
  refine st_g ent41 (fzmul (zq0) (zq1) (at_) (1000000000) (by exact Bits.fit hi.w.bits (by decide)) (by exact Bits.fit i2.w.bits (by decide))) (subC 1 rfl (subC 0 rfl sub0)) (by kernel_rfl) (fun zq2 => ?_)
  refine st_g ent42 (fzint (rest) (by assumption)) sub0 (by kernel_rfl) (fun zq3 => ?_)
  refine st_g ent53 (fzadd (zq2) (zq3) (at_ * 1000000000) (rest) (by exact Bits.fit (Bits.mul hi.w.bits i2.w.bits) (by decide)) (by exact Bits.fit i1.w.bits (by decide))) (subC 1 rfl (subC 0 rfl sub0)) (by kernel_rfl) (fun zq4 => ?_)
  refine st_fn ent48 (ztold21_no (at_ * 1000000000 + rest) (zq4) (by exact Bits.mono (Bits.add (Bits.mono (l := 256) (Bits.mul hi.w.bits i2.w.bits) (by decide)) (Bits.mono (l := 256) i1.w.bits (by decide))) (by decide)) (by assumption)) (subC 0 rfl sub0) (by kernel_rfl) ?_
  exact st_ret Try.func15 (by kernel_rfl)
end
/-! rounded -/
section
variable (x at_ off : Int) (y mo d h m s n : Int)
theorem ilocal_r (k : ¬ nIn x) : Fn 23 [] [wv x, .int .i64 off] (.tuple #[pt0, .int .i64 4]) := by
  refine fn_of Try.func23 rfl fun ww => ?_
  refine st_fn ent16 (iright_no (x) (by assumption)) sub0 (by kernel_rfl) ?_
  exact st_ret Try.func23 (by kernel_rfl)
def oOk (o : Int) : Prop := -86400 < o ∧ o < 86400
instance (o : Int) : Decidable (oOk o) := by unfold oOk; infer_instance
theorem iday_yes (k : oOk off) : Fn 67 [] [.int .i64 off] (.bool true) := by
  unfold oOk at k
  refine fn_of Try.func67 rfl fun ww => ?_
  refine st_b 4 (show (decide (off > -86400)) = true by exact decide_eq_true (by omega)) (by kernel_rfl) ?_
  exact st_retv Try.func67 (show Value.bool (decide (off < 86400)) = _ by simp_all) (by kernel_rfl)
theorem iday_no (k : ¬ oOk off) : Fn 67 [] [.int .i64 off] (.bool false) := by
  unfold oOk at k
  by_cases h : off ≤ -86400
  · refine fn_of Try.func67 rfl fun ww => ?_
    refine st_b 4 (show (decide (off > -86400)) = false by exact decide_eq_false (by omega)) (by kernel_rfl) ?_
    exact st_ret Try.func67 (by kernel_rfl)
  · have h' : 86400 ≤ off := by omega
    refine fn_of Try.func67 rfl fun ww => ?_
    refine st_b 4 (show (decide (off > -86400)) = true by exact decide_eq_true (by omega)) (by kernel_rfl) ?_
    exact st_retv Try.func67 (show Value.bool (decide (off < 86400)) = _ by simp_all) (by kernel_rfl)
theorem ilocal_a (k : nIn x) (o : ¬ oOk off) : Fn 23 [] [wv x, .int .i64 off] (.tuple #[pt0, .int .i64 1]) := by
  refine fn_of Try.func23 rfl fun ww => ?_
  refine st_fn ent16 (iright_yes (x) (by assumption)) sub0 (by kernel_rfl) ?_
  refine st_fn ent67 (iday_no (off) (by assumption)) sub0 (by kernel_rfl) ?_
  exact st_ret Try.func23 (by kernel_rfl)
theorem loc_in {x off : Int} (k : nIn x) (o : oOk off) : pIn (x + off * 1000000000) := by unfold nIn at k; unfold oOk at o; unfold pIn; omega
theorem ilocal_y (k : nIn x) (o : oOk off) : Fn 23 [] [wv x, .int .i64 off] (.tuple #[ptN (x + off * 1000000000), .int .i64 0]) := by
  have o' := o
  unfold oOk at o'
  have hp := loc_in k o
  have hw := nIn_W k
  have i1 : I64 off := by unfold I64; omega
  have i2 : I64 1000000000 := by unfold I64; omega
  have a1 : W128 (off * 1000000000) := by unfold W128; omega
  have a2 : W128 (x + off * 1000000000) := by unfold pIn at hp; unfold W128; omega
  refine fn_of Try.func23 rfl fun ww => ?_
  refine st_fn ent16 (iright_yes (x) (by assumption)) sub0 (by kernel_rfl) ?_
  refine st_fn ent67 (iday_yes (off) (by assumption)) sub0 (by kernel_rfl) ?_
  refine st_fn ent52 (wmul_f (off) (1000000000) (by assumption) (by assumption)) sub0 (by kernel_rfl) ?_
  refine st_fn ent51 (wadd_yes (x) (off * 1000000000) (by assumption) (by assumption) (by assumption)) sub0 (by kernel_rfl) ?_
  refine st_fn ent68 (pof_yes (x + off * 1000000000) (by assumption)) sub0 (by kernel_rfl) ?_
  exact st_ret Try.func23 (by kernel_rfl)
theorem ifrom_y (k : pOk y mo d h m s n) (o : oOk off) (l : nIn (pnum y mo d h m s n - off * 1000000000)) : Fn 24 [] [ptv y mo d h m s n, .int .i64 off] (.tuple #[wv (pnum y mo d h m s n - off * 1000000000), .int .i64 0]) := by
  have i := pOk_in k
  have hx : W128 (pnum y mo d h m s n) := by unfold pIn at i; unfold W128; omega
  have o' := o
  unfold oOk at o'
  have i1 : I64 off := by unfold I64; omega
  have i2 : I64 1000000000 := by unfold I64; omega
  have a1 : W128 (off * 1000000000) := by unfold W128; omega
  have a2 := nIn_W l
  refine fn_of Try.func24 rfl fun ww => ?_
  refine st_fn ent69 (pnanos_yes (y) (mo) (d) (h) (m) (s) (n) (by assumption)) sub0 (by kernel_rfl) ?_
  refine st_fn ent67 (iday_yes (off) (by assumption)) sub0 (by kernel_rfl) ?_
  refine st_fn ent52 (wmul_f (off) (1000000000) (by assumption) (by assumption)) sub0 (by kernel_rfl) ?_
  refine st_fn ent63 (wsub_yes (pnum y mo d h m s n) (off * 1000000000) (by assumption) (by assumption) (by assumption)) sub0 (by kernel_rfl) ?_
  refine st_fn ent40 (ichk_yes (pnum y mo d h m s n - off * 1000000000) (by assumption)) sub0 (by kernel_rfl) ?_
  exact st_ret Try.func24 (by kernel_rfl)
end
end Go.Proofs.Ytccllfegnijpiaa
end
section
/-
  An element put to a row: a new row, or the old one written on. In both cases the walk goes on with a row that begins as told.
-/
set_option linter.unusedVariables false
namespace Go.Ev
open Go Go.RowKit

/-- An append of one row to another: the two, and their type. -/
def appAt (c : Cf) : Option (SV × SV × TypeId) := match opAt c with
  | some o => match o.op with
    | .call k => match k.callee with
      | .builtin .append => match k.args.toList with
        | [x, y] => match k.argTypes.toList with
          | [t, t'] => match Nat.beq t t' with
            | true => some (opS c.fr x, opS c.fr y, t)
            | false => none
          | _ => none
        | _ => none
      | _ => none
    | _ => none
  | none => none
theorem appAt_op {c : Cf} {s u : SV} {t : TypeId} (h : appAt c = some (s, u, t)) : ∃ o x y, opAt c = some o ∧ o.op = Op.call { callee := Callee.builtin Builtin.append, args := #[x, y], argTypes := #[t, t] } ∧ opS c.fr x = s ∧ opS c.fr y = u := by
  unfold appAt at h
  split at h
  · rename_i o ho
    split at h
    · rename_i k hk
      obtain ⟨cal, ags, ts⟩ := k
      simp only at h
      split at h
      · split at h
        · rename_i x y hxy
          split at h
          · rename_i t1 t2 htt
            split at h
            · rename_i hb
              simp only [Option.some.injEq, Prod.mk.injEq] at h
              obtain ⟨rfl, rfl, rfl⟩ := h
              have e1 : ags = #[x, y] := by cases ags; simp_all
              have e3 : t1 = t2 := Nat.eq_of_beq_eq_true hb
              subst e3
              have e2 : ts = #[t1, t1] := by cases ts; simp_all
              subst e1 e2
              exact ⟨o, x, y, ho, hk, rfl, rfl⟩
            · cases h
          · cases h
        · cases h
      · cases h
    · cases h
  · cases h
/-- On, with a row of the call's own that has become B. -/
def resumeX (c : Cf) (b : Nat) (B : Bk) (n m : Nat) : Cf := ⟨c.todo, match c.rg with
  | some (.plain ops (_ :: l)) => some (.plain ops l)
  | rg => resRg rg, putS c.fr (resDst c.rg) (.sl b 0 n m), c.bl.set b B⟩
section
variable {C : Cx} {G : World → Prop}
theorem cell_at {P : Program} {r : Nat → Nat} {N : Nat → Prop} {w : World} {k : Nat} {vs : List Value} {T : TypeId} (h : BkIs r N w k ⟨vs.map .val, T⟩) : w.heap[k]? = some (.cells vs.toArray T (0, 0)) := by
  obtain ⟨cs, h1, h2⟩ := h
  obtain rfl := cellsOk_eq h2
  exact h1
theorem setCells_row {g : Nat} {t : TypeId} {fr : Nat × Nat} : ∀ (vs : List Value) (o : Nat) (cur : Array Value) (w : World), w.heap[g]? = some (.cells cur t fr) → o + vs.length ≤ cur.size → w.setCells g o vs = w.setRow g (cur.toList.take o ++ vs ++ cur.toList.drop (o + vs.length)).toArray
  | [], o, cur, w, hg, _ => by
    have e : (cur.toList.take o ++ [] ++ cur.toList.drop (o + ([] : List Value).length)).toArray = cur := by simp
    rw [e]; exact (setRow_self w g cur t fr hg).symm
  | v :: r, o, cur, w, hg, h => by
    simp only [List.length_cons] at h
    rw [World.setCells, setCell_eq_setRow w g o cur t fr v hg]
    rw [setCells_row r (o + 1) (cur.setIfInBounds o v) _ (setRow_heap w g cur _ t fr hg) (by simp; omega), setRow_setRow]
    congr 2
    have e1 : (cur.setIfInBounds o v).toList = cur.toList.take o ++ v :: cur.toList.drop (o + 1) := by
      rw [Array.toList_setIfInBounds, List.set_eq_take_append_cons_drop, if_pos (by simp; omega)]
    have l1 : (cur.toList.take o).length = o := by simp; omega
    rw [e1]
    simp only [List.length_cons]
    rw [show cur.toList.take o ++ v :: cur.toList.drop (o + 1) = (cur.toList.take o ++ [v]) ++ cur.toList.drop (o + 1) by simp]
    have l2 : (cur.toList.take o ++ [v]).length = o + 1 := by simp; omega
    rw [List.take_left' l2, List.drop_append, l2]
    have : List.drop (o + 1 + r.length) (cur.toList.take o ++ [v]) = [] := List.drop_eq_nil_of_le (by omega)
    rw [this, List.drop_drop, List.nil_append]
    simp only [List.append_assoc, List.cons_append, List.nil_append]
    congr 4
    omega
theorem run_app0 {c : Cf} {t e : TypeId} {i : TypeInfo} {z : Value} {b2 sz by_ : Nat} {news : List Value} (hc : appAt c = some (.val (.slice none 0 0), .sl b2 0 1 1, t))
    (ht : C.P.underlying t = some (.slice e)) (hi : C.P.info? e = some i) (hz : i.zero = some z) (hsz : i.size = sz) (hby : i.bytes = by_) (hzs : z.cells.size = sz) (h0 : 0 < sz) (hb : by_ ≤ 4096)
    (hB2 : c.bl[b2]? = some ⟨news.map .val, e⟩) (hnews : news.length = 1 * sz) (h1 : ∀ u ∈ news, u.oneCell' = true)
    (grow : ∀ m' (rest' : List Value), 1 ≤ m' → rest'.length = (m' - 1) * sz → Run C G (resumeG c ⟨(news ++ rest').map .val, e⟩ 1 m')) : Run C G c := by
  obtain ⟨o, x, y, ho, hop, hx, hy⟩ := appAt_op hc
  refine run_grow ho (M := {q : Nat × List Value // 1 ≤ q.1 ∧ q.2.length = (q.1 - 1) * sz}) (fun q => ⟨(news ++ q.1.2).map .val, e⟩) 1 (fun q => q.1.1) (fun r N D a w hfr hD hbl hG => ?_) (fun q => grow q.1.1 q.1.2 q.2.1 q.2.2)
  have dx : ∀ s, x = .tmp s → ¬ D s := fun s hs => hD s (mem_opTmps (by rw [hop]; simp [Op.operands, Call.operands, hs]))
  have dy : ∀ s, y = .tmp s → ¬ D s := fun s hs => hD s (mem_opTmps (by rw [hop]; simp [Op.operands, Call.operands, hs]))
  have ex := opS_ok (x := x) hfr dx
  have ey := opS_ok (x := y) hfr dy
  rw [hx] at ex; rw [hy] at ey
  have ex : a.eval x = .slice none 0 0 := ex.1
  obtain ⟨ey, hN2⟩ := ey
  have ey : a.eval y = .slice (some ⟨r b2, 0, none⟩) 1 1 := ey
  have hc2 := cell_at (P := C.P) (hbl.is b2 _ hB2 hN2).2
  obtain ⟨v', w', hrun, r1, r2, -⟩ := run_append_own (P := C.P) w w.heap.size t o.type e i z sz by_ ht hi hz hsz hby hzs h0 (.slice none 0 0) 0 [] (World.ownsRow_nil w _ e sz) ⟨r b2, 0, none⟩ 1 1 news hnews (fun j u hj => by simp [World.cell?, hc2, Addr.add_lit, hj]) h1 (by simp [maxLen]) (by omega) (Nat.le_refl _)
  obtain ⟨hl, h⟩ := r1
  rcases h with ⟨-, h⟩ | ⟨g, cap, cur, rfl, hg, hcell, hcap, hml, hcs, htk⟩
  · omega
  · have hcur : cur.toList = news ++ cur.toList.drop sz := by
      have e4 : cur.toList.take ((0 + 1) * sz) = news := by simpa using htk
      rw [show (0 + 1) * sz = sz by omega] at e4
      conv => lhs; rw [← List.take_append_drop sz cur.toList, e4]
    refine ⟨⟨(cap, cur.toList.drop sz), by simpa using hcap, ?_⟩, g, cur, w', ?_, hg, hcell, ?_, ?_⟩
    · simp only [List.length_drop, Array.length_toList, hcs]
      rw [Nat.sub_mul]; omega
    · simp [execOp, hop, resolve, invoke, builtin, ex, ey, hrun, Result.andThen]
    · show CellsOk r N ((news ++ cur.toList.drop sz).map .val) cur
      rw [← hcur]
      exact cellsOk_vals cur
    · exact (Below.refl _ w).grown r2 (Nat.le_refl _) (fun k hk => by cases hk)
theorem run_app {c : Cf} {t e : TypeId} {i : TypeInfo} {z : Value} {b b2 n m sz by_ : Nat} {vs news rest : List Value} (hc : appAt c = some (.sl b 0 n m, .sl b2 0 1 1, t))
    (ht : C.P.underlying t = some (.slice e)) (hi : C.P.info? e = some i) (hz : i.zero = some z) (hsz : i.size = sz) (hby : i.bytes = by_) (hzs : z.cells.size = sz) (h0 : 0 < sz) (hb : by_ ≤ 4096)
    (hB : c.bl[b]? = some ⟨(vs ++ rest).map .val, e⟩) (hB2 : c.bl[b2]? = some ⟨news.map .val, e⟩) (hvs : vs.length = n * sz) (hnews : news.length = 1 * sz) (h1 : ∀ u ∈ news, u.oneCell' = true)
    (hrest : rest.length = (m - n) * sz) (hnm : n ≤ m) (hn : n ≤ 1000) (hE : eB C.E c.bl b = true) (hal : aloneB c b = true)
    (room : n + 1 ≤ m → ∀ rest' : List Value, rest'.length = (m - (n + 1)) * sz → Run C G (resumeX c b ⟨(vs ++ news ++ rest').map .val, e⟩ (n + 1) m))
    (grow : ∀ m' (rest' : List Value), n + 1 ≤ m' → rest'.length = (m' - (n + 1)) * sz → Run C G (resumeG c ⟨(vs ++ news ++ rest').map .val, e⟩ (n + 1) m')) : Run C G c := by
  obtain ⟨o, x, y, ho, hop, hx, hy⟩ := appAt_op hc
  have nl : news.length = sz := by omega
  by_cases hr : n + 1 ≤ m
  · have hrl : sz ≤ rest.length := by
      rw [hrest]
      calc sz = 1 * sz := by omega
        _ ≤ (m - n) * sz := Nat.mul_le_mul_right _ (by omega)
    have h3 := room hr (rest.drop sz) (by
      rw [List.length_drop, hrest, show m - n = (m - (n + 1)) + 1 by omega, Nat.add_mul]; omega)
    have eB' : setBl c.bl b (n * sz) (news.map .val) = c.bl.set b ⟨(vs ++ news ++ rest.drop sz).map .val, e⟩ := by
      have e9 : (vs ++ rest).map SV.val = vs.map SV.val ++ rest.map SV.val := List.map_append ..
      unfold setBl
      rw [hB]
      simp only
      congr 1
      unfold setCellsS
      simp only [Bk.mk.injEq, and_true]
      have l1 : (vs.map SV.val).length = n * sz := by simp [hvs]
      rw [e9, List.map_append, List.map_append, List.take_left' l1, ← l1, List.drop_append]
      congr 1
      rw [show (vs.map SV.val).length + (news.map SV.val).length - (vs.map SV.val).length = sz by simp [nl]]
      have : List.drop ((vs.map SV.val).length + (news.map SV.val).length) (vs.map SV.val) = [] := List.drop_eq_nil_of_le (by omega)
      rw [this, List.nil_append, List.map_drop]
    refine run_room ho b (n * sz) (news.map .val) (n + 1) m hE hal (fun r N D a w hfr hD hbl hG => ?_) ?_
    · have dx : ∀ s, x = .tmp s → ¬ D s := fun s hs => hD s (mem_opTmps (by rw [hop]; simp [Op.operands, Call.operands, hs]))
      have dy : ∀ s, y = .tmp s → ¬ D s := fun s hs => hD s (mem_opTmps (by rw [hop]; simp [Op.operands, Call.operands, hs]))
      have ex := opS_ok (x := x) hfr dx
      have ey := opS_ok (x := y) hfr dy
      rw [hx] at ex; rw [hy] at ey
      obtain ⟨ex, hN1⟩ := ex
      obtain ⟨ey, hN2⟩ := ey
      have ex : a.eval x = .slice (some ⟨r b, 0, none⟩) n m := ex
      have ey : a.eval y = .slice (some ⟨r b2, 0, none⟩) 1 1 := ey
      have hc1 := cell_at (P := C.P) (hbl.is b _ hB hN1).2
      have hc2 := cell_at (P := C.P) (hbl.is b2 _ hB2 hN2).2
      have hrun := run_append_room_cells (P := C.P) w t o.type e i ht hi (r b) 0 n m ⟨r b2, 0, none⟩ 1 1 news (by rw [hnews, hsz]) (fun j u hj => by simp [World.cell?, hc2, Addr.add_lit, hj]) h1 hr
        (fun j hj => by
          simp only [World.cell?, hc1, hsz]
          have : 0 + n * sz + j < (vs ++ rest).length := by simp only [List.length_append, hvs]; omega
          show ((vs ++ rest).toArray[0 + n * sz + j]?).isSome = true
          rw [List.getElem?_toArray, List.getElem?_eq_getElem this]; rfl)
        (fun j hj => by simp [World.frozen?, hc1])
      refine ⟨_, (vs ++ rest).toArray, news.toArray, hB, hN1, ?_, hc1, cellsOk_vals (vs ++ rest).toArray, cellsOk_vals news.toArray, ?_⟩
      · simp only [List.length_map, List.length_append, hvs]; omega
      · have e7 := setCells_row (g := r b) (t := e) (fr := (0, 0)) news (n * sz) (vs ++ rest).toArray w hc1 (by simp only [List.size_toArray, List.length_append, hvs]; omega)
        simp only [hsz, Nat.zero_add] at hrun
        rw [e7] at hrun
        simp [execOp, hop, resolve, invoke, builtin, ex, ey, hrun, Result.andThen]
    · have h4 := h3
      unfold resumeX at h4
      unfold resumeR
      rw [eB']; exact h4
  · refine run_grow ho (M := {q : Nat × List Value // n + 1 ≤ q.1 ∧ q.2.length = (q.1 - (n + 1)) * sz}) (fun q => ⟨(vs ++ news ++ q.1.2).map .val, e⟩) (n + 1) (fun q => q.1.1) (fun r N D a w hfr hD hbl hG => ?_) (fun q => grow q.1.1 q.1.2 q.2.1 q.2.2)
    have dx : ∀ s, x = .tmp s → ¬ D s := fun s hs => hD s (mem_opTmps (by rw [hop]; simp [Op.operands, Call.operands, hs]))
    have dy : ∀ s, y = .tmp s → ¬ D s := fun s hs => hD s (mem_opTmps (by rw [hop]; simp [Op.operands, Call.operands, hs]))
    have ex := opS_ok (x := x) hfr dx
    have ey := opS_ok (x := y) hfr dy
    rw [hx] at ex; rw [hy] at ey
    obtain ⟨ex, hN1⟩ := ex
    obtain ⟨ey, hN2⟩ := ey
    have ex : a.eval x = .slice (some ⟨r b, 0, none⟩) n m := ex
    have ey : a.eval y = .slice (some ⟨r b2, 0, none⟩) 1 1 := ey
    have hc1 := cell_at (P := C.P) (hbl.is b _ hB hN1).2
    have hc2 := cell_at (P := C.P) (hbl.is b2 _ hB2 hN2).2
    obtain ⟨v', w', hrun, r1, r2⟩ := run_append_arg_grows (P := C.P) w t o.type e i z sz by_ ht hi hz hsz hby hzs h0 ⟨r b, 0, none⟩ n m vs hvs
      (fun j u hj => by
        have : j < vs.length := (List.getElem?_eq_some_iff.1 hj).1
        simp [World.cell?, hc1, Addr.add_lit, List.getElem?_append_left this, hj]) ⟨r b2, 0, none⟩ 1 1 news hnews (fun j u hj => by simp [World.cell?, hc2, Addr.add_lit, hj]) (by omega) (by simp only [maxLen]; omega) (by
        have : (n + 1) * by_ ≤ 1001 * 4096 := Nat.mul_le_mul (by omega) hb
        omega)
    obtain ⟨hl, h⟩ := r1
    rcases h with ⟨-, h⟩ | ⟨g, cap, cur, rfl, hg, hcell, hcap, hml, hcs, htk⟩
    · omega
    · have hcur : cur.toList = vs ++ news ++ cur.toList.drop ((n + 1) * sz) := by
        conv => lhs; rw [← List.take_append_drop ((n + 1) * sz) cur.toList, htk]
      refine ⟨⟨(cap, cur.toList.drop ((n + 1) * sz)), hcap, ?_⟩, g, cur, w', ?_, hg, hcell, ?_, ?_⟩
      · simp only [List.length_drop, Array.length_toList, hcs]
        rw [Nat.sub_mul]
      · simp [execOp, hop, resolve, invoke, builtin, ex, ey, hrun, Result.andThen]
      · show CellsOk r N ((vs ++ news ++ cur.toList.drop ((n + 1) * sz)).map .val) cur
        rw [← hcur]
        exact cellsOk_vals cur
      · exact (Below.refl _ w).grown r2 (Nat.le_refl _) (fun k hk => by cases hk)
end
end Go.Ev
end
section
/-
  A slice of wide numbers that came in; wide.Sum.
-/
set_option linter.unusedSimpArgs false
namespace Go.Proofs.Ytccllfegnijpiaa
open Go Go.RowKit

/-- The i-th of some numbers. -/
def nth (ns : List Int) (i : Nat) : Int := ns.getD i 0
/-- The slice value v reads, in w, as the wide numbers ns; its cells lie in a block below B. -/
def WRow (B : Nat) (w : World) (v : Value) (ns : List Int) : Prop :=
  ∃ (a : Option Addr) (cap b off : Nat), v = .slice a ns.length cap ∧ (0 < ns.length → a = some ⟨b, off, none⟩ ∧ b < B) ∧
    ∀ i, i < ns.length → w.cell? ⟨b, off + 2 * i, none⟩ = some (.int .i64 (hi (nth ns i))) ∧ w.cell? ⟨b, off + 2 * i + 1, none⟩ = some (.int .u64 (lo (nth ns i)))
theorem WRow.ext {B : Nat} {w w' : World} {v : Value} {ns : List Int} (h : WRow B w v ns) (hB : B ≤ w.heap.size) (x : Ext w w') : WRow B w' v ns := by
  obtain ⟨a, cap, b, off, rfl, h2, h3⟩ := h
  refine ⟨a, cap, b, off, rfl, h2, fun i hi => ?_⟩
  have hb := (h2 (by omega)).2
  exact ⟨(Below.cell x (p := ⟨b, off + 2 * i, none⟩) (by show b < _; omega)).trans (h3 i hi).1, (Below.cell x (p := ⟨b, off + 2 * i + 1, none⟩) (by show b < _; omega)).trans (h3 i hi).2⟩
theorem at_wrow {len cap b off : Nat} {a : Option Addr} (h : 0 < len → a = some ⟨b, off, none⟩) (k : Nat) (h1 : k < len) (w : World) :
    (Instr.indexAt 176 (.slice a len cap) (.int .i64 (k : Int))).run Try.prog w = .ok (.pointer (some ⟨b, off + 2 * k, none⟩)) w := by
  rw [h (by omega)]
  have e : Try.prog.elem 176 = 24 := by kernel_rfl
  have s : ∀ w, (sizeOf 24).run Try.prog w = .ok 2 w := fun _ => by kernel_rfl
  rw [run_indexAt_slice w 176 ⟨b, off, none⟩ len cap .i64 k (by rw [e]; exact Try.underlying176), if_pos ⟨by omega, by omega⟩, e, s]
  simp [Result.andThen, Addr.add, Nat.mul_comm]

/-- The sum of numbers. -/
def tsum (ns : List Int) : Int := ns.sum
theorem tsum_take (ns : List Int) (k : Nat) (h : k < ns.length) : tsum (ns.take (k + 1)) = tsum (ns.take k) + nth ns k := by
  unfold tsum nth
  rw [List.take_succ_eq_append_getElem h, List.sum_append, List.getD, List.getElem?_eq_getElem h]
  simp

/-- What a round of the sum comes to. -/
def wt (s n : Int) : Int := hsum (hi s) (hi n) ((lo s + lo n) / 18446744073709551616) * 18446744073709551616 + (lo s + lo n) % 18446744073709551616
theorem wt_hi (s n : Int) : hi (wt s n) = hsum (hi s) (hi n) ((lo s + lo n) / 18446744073709551616) := (of_hi_lo _ _ (by omega) (by omega)).1
theorem wt_lo (s n : Int) : lo (wt s n) = (lo s + lo n) % 18446744073709551616 := (of_hi_lo _ _ (by omega) (by omega)).2
def T128 : Int := 340282366920938463463374607431768211456
theorem wt_W (s n : Int) : W128 (wt s n) := by
  rw [W128_iff, wt_hi, hsum_def]; omega
theorem wt_cases {s n : Int} (hs : W128 s) (hn : W128 n) :
    (hi s < 0 → hi n < 0 → 0 ≤ hi (wt s n) → s + n = wt s n - T128) ∧ (0 ≤ hi s → 0 ≤ hi n → hi (wt s n) < 0 → s + n = wt s n + T128) ∧
    (hi s < 0 → 0 ≤ hi n → s + n = wt s n) ∧ (0 ≤ hi s → hi n < 0 → s + n = wt s n) ∧ (hi s < 0 → hi (wt s n) < 0 → s + n = wt s n) ∧ (0 ≤ hi s → 0 ≤ hi (wt s n) → s + n = wt s n) := by
  rw [wt_hi]
  unfold wt T128
  rw [hsum_def]
  unfold W128 at hs hn
  unfold hi lo
  refine ⟨?_, ?_, ?_, ?_, ?_, ?_⟩ <;> intros <;> omega
theorem sum_end {s R t : Int} (hs : W128 s) (h : t = s + R * T128) : (R ≠ 0 → ¬ W128 t) ∧ (R = 0 → t = s ∧ W128 t) := by
  unfold T128 at h
  unfold W128 at *
  constructor <;> intros <;> omega

set_option maxRecDepth 100000 in
set_option maxHeartbeats 1600000 in
theorem wsum (v : Value) (ns : List Int) (w : World) (hr : WRow w.heap.size w v ns) (hl : ns.length ≤ 1000000) (hW : ∀ i, W128 (nth ns i)) :
    Calls Try.prog 135 #[v] w (RetT w (tsum ns)) := by
  obtain ⟨a, cap, b, off, rfl, ha, hc⟩ := hr
  have r98 := run_add64'
  go_enter Try.func135, Try.ntmps135
  go_wp2_with fail
  obtain ⟨V, hV⟩ : ∃ V, V = (w.alloc (.cells #[.int .i64 0, .int .u64 0] 24)).alloc (.cells #[.int .i64 0, .int .u64 0] 24) := ⟨_, rfl⟩
  rw [← hV]
  have hR : Box2 V w.heap.size (.int .i64 0) (.int .u64 0) 24 := by rw [hV]; exact (Box2.new rfl).alloc _
  have hS : Box2 V (w.heap.size + 1) (.int .i64 0) (.int .u64 0) 24 := by rw [hV]; exact Box2.new (by simp)
  have xw : Ext w V := by rw [hV]; exact (Ext.refl w).alloc.alloc
  clear hV
  go_loopw [5, 15] (fun s5 s15 wr => ∃ (k : Nat) (R s : Int), s5 = .int .i64 R ∧ s15 = .int .i64 k ∧ k ≤ ns.length ∧ -(k : Int) ≤ R ∧ R ≤ k ∧ W128 s ∧ tsum (ns.take k) = s + R * T128 ∧
      Box2 wr (w.heap.size + 1) (.int .i64 (hi s)) (.int .u64 (lo s)) 24 ∧ Box2 wr w.heap.size (.int .i64 0) (.int .u64 0) 24 ∧ Ext w wr)
    (fun _ s15 _ => ns.length - (intOf s15).toNat)
  case atStart => exact ⟨0, 0, 0, rfl, rfl, by omega, by omega, by omega, W128_zero, by simp [tsum], hS, hR, xw⟩
  case round =>
    clear hR hS xw
    obtain ⟨k, R, s, rfl, rfl, hk, hR0, hR1, hs, hT, hS, hR, xw⟩ := hrel
    have HT := Lib.hid hT
    clear hT
    have hS_0 := hS.c0; have hS_1 := hS.c1
    have hS_2 := hS.f0; have hS_3 := hS.f1
    have hz3 := hS.kind.lt
    have hz4 := hR.kind.lt
    by_cases hlt : k < ns.length
    · have hn := hW k
      have hix := fun w => at_wrow (cap := cap) (fun h => (ha h).1) k hlt w
      have hb := (ha (by omega)).2
      have hz := Ext.size xw
      have c0 := (Below.cell xw (p := ⟨b, off + 2 * k, none⟩) hb).trans (hc k hlt).1
      have c1 := (Below.cell xw (p := ⟨b, off + 2 * k + 1, none⟩) hb).trans (hc k hlt).2
      obtain ⟨l0, l1⟩ := lo_bd s
      obtain ⟨m0, m1⟩ := lo_bd (nth ns k)
      have u1 := u64_nonneg (hi s)
      have u2 := u64_nonneg (hi (nth ns k))
      have d0 : 0 ≤ (lo s + lo (nth ns k)) / 18446744073709551616 := by omega
      have d1 : (lo s + lo (nth ns k)) / 18446744073709551616 ≤ 1 := by omega
      clear ha hc
      go_wp2_with fail
      all_goals
        clear r98 u1 u2
        simp only [hsum_eq, ← wt_hi, ← wt_lo] at *
        go_roundw
        case measure => simp [intOf]; omega
      all_goals
        obtain ⟨q1, q2, q3, q4, q5, q6⟩ := wt_cases hs hn
        have hT := HT.out
        have hT2 := tsum_take ns k hlt
        have e1 := Int.sub_mul R 1 T128
        have e2 := Int.add_mul R 1 T128
        first
        | exact ⟨k + 1, R, wt s (nth ns k), rfl, by go_num, by omega, by omega, by omega, wt_W _ _, by rw [hT2, hT]; (first | omega | grind | (simp only [Bool.not_eq_eq_eq_not, Bool.not_false, Bool.not_true, beq_iff_eq, beq_eq_false_iff_ne, ne_eq, decide_eq_decide] at *; omega)), ((hS.set _ _).alloc _).alloc _, ((hR.other2 (by omega) _ _).alloc _).alloc _, (Ext.set (Ext.set xw (by omega)) (by omega)).alloc.alloc⟩
        | exact ⟨k + 1, R - 1, wt s (nth ns k), rfl, by go_num, by omega, by omega, by omega, wt_W _ _, by rw [hT2, hT]; (first | omega | grind | (simp only [Bool.not_eq_eq_eq_not, Bool.not_false, Bool.not_true, beq_iff_eq, beq_eq_false_iff_ne, ne_eq, decide_eq_decide] at *; omega)), ((hS.set _ _).alloc _).alloc _, ((hR.other2 (by omega) _ _).alloc _).alloc _, (Ext.set (Ext.set xw (by omega)) (by omega)).alloc.alloc⟩
        | exact ⟨k + 1, R + 1, wt s (nth ns k), rfl, by go_num, by omega, by omega, by omega, wt_W _ _, by rw [hT2, hT]; (first | omega | grind | (simp only [Bool.not_eq_eq_eq_not, Bool.not_false, Bool.not_true, beq_iff_eq, beq_eq_false_iff_ne, ne_eq, decide_eq_decide] at *; omega)), ((hS.set _ _).alloc _).alloc _, ((hR.other2 (by omega) _ _).alloc _).alloc _, (Ext.set (Ext.set xw (by omega)) (by omega)).alloc.alloc⟩
    · obtain rfl : k = ns.length := by omega
      have hTe : tsum (ns.take ns.length) = tsum ns := by rw [List.take_length]
      obtain ⟨g1, g2⟩ := sum_end hs HT.out
      rw [hTe] at g1 g2
      have HG1 := Lib.hid g1
      have HG2 := Lib.hid g2
      have r0 := hR.c0
      have r1 := hR.c1
      have r2 := hR.f0
      have r3 := hR.f1
      clear g1 g2 hTe ha hc r98
      by_cases h0 : R = 0
      · subst h0
        go_wp2_with fail
        obtain ⟨e1, e2⟩ := HG2.out (by trivial)
        refine bodyPost_ret (v := .tuple #[.agg #[.int .i64 (hi s), .int .u64 (lo s)], .int .i64 0]) (by simp [results, Try.results135, go_sem, r0, r1]) rfl (retT_yes e2 (by rw [e1]) (by rw [e1]) (Ext.set (Ext.set xw (by omega)) (by omega)))
      · go_wp2_with fail
        refine bodyPost_ret (v := .tuple #[.agg #[.int .i64 0, .int .u64 0], .int .i64 2]) (by simp [results, Try.results135, go_sem, r0, r1]) rfl (retT_no (HG1.out h0) (Ext.set (Ext.set xw (by omega)) (by omega)))
end Go.Proofs.Ytccllfegnijpiaa
end
section
/-
  A row of wide numbers of the call's own: what is put to it, and its sum.
-/
set_option linter.unusedVariables false
namespace Go.Proofs.Ytccllfegnijpiaa
open Go Go.RowKit Go.Ev

def infoOk (P : Program) (e : TypeId) (s b : Nat) : Bool := match P.info? e with
  | some i => match i.zero with
    | some z => Nat.beq i.size s && Nat.beq i.bytes b && Nat.beq z.cells.size s
    | none => false
  | none => false
theorem infoOk_ex {e : TypeId} {s b : Nat} (h : infoOk Try.prog e s b = true) : ∃ i z, Try.prog.info? e = some i ∧ i.zero = some z ∧ i.size = s ∧ i.bytes = b ∧ z.cells.size = s := by
  unfold infoOk at h
  split at h
  · rename_i i hi
    split at h
    · rename_i z hz
      simp only [Bool.and_eq_true] at h
      exact ⟨i, z, hi, hz, Nat.eq_of_beq_eq_true h.1.1, Nat.eq_of_beq_eq_true h.1.2, Nat.eq_of_beq_eq_true h.2⟩
    · cases h
  · cases h
theorem wide_info : infoOk Try.prog 24 2 16 = true := by kernel_rfl
section
variable {f0 : FuncId} {E : List TypeId} {w0 : World} {R : Ending → World → Prop} {L : ZL} {G : World → Prop} {c : Cf}
theorem st_app0w {b2 : Nat} {v1 v2 : Value} (hc : appAt (adv Try.prog E 9999 400 c) = some (.val (.slice none 0 0), .sl b2 0 1 1, 176)) (hB2 : (adv Try.prog E 9999 400 c).bl[b2]? = some ⟨[.val v1, .val v2], 24⟩) (h1 : v1.oneCell' = true) (h2 : v2.oneCell' = true)
    (hk : ∀ (m : Nat) (rest : List Value), 1 ≤ m → rest.length = (m - 1) * 2 → Ru ⟨Try.prog, f0, E, w0, R⟩ G (resumeG (adv Try.prog E 9999 400 c) ⟨([v1, v2] ++ rest).map .val, 24⟩ 1 m)) : Ru ⟨Try.prog, f0, E, w0, R⟩ G c := by
  obtain ⟨i, z, hi, hz, hs, hb, hzs⟩ := infoOk_ex wide_info
  exact ⟨run_adv mixed (run_app0 hc Try.underlying176 hi hz hs hb hzs (by omega) (by omega) (news := [v1, v2]) hB2 rfl (by simp [h1, h2]) fun m rest a b => (hk m rest a b).h)⟩
theorem st_appw {b b2 n m : Nat} {vs rest : List Value} {v1 v2 : Value} (hc : appAt (adv Try.prog E 9999 400 c) = some (.sl b 0 n m, .sl b2 0 1 1, 176)) (hB : (adv Try.prog E 9999 400 c).bl[b]? = some ⟨(vs ++ rest).map .val, 24⟩)
    (hB2 : (adv Try.prog E 9999 400 c).bl[b2]? = some ⟨[.val v1, .val v2], 24⟩) (h1 : v1.oneCell' = true) (h2 : v2.oneCell' = true) (hvs : vs.length = n * 2) (hrest : rest.length = (m - n) * 2) (hnm : n ≤ m) (hn : n ≤ 1000)
    (hE : eB E (adv Try.prog E 9999 400 c).bl b = true) (hal : aloneB (adv Try.prog E 9999 400 c) b = true)
    (room : n + 1 ≤ m → ∀ rest' : List Value, rest'.length = (m - (n + 1)) * 2 → Ru ⟨Try.prog, f0, E, w0, R⟩ G (resumeX (adv Try.prog E 9999 400 c) b ⟨(vs ++ [v1, v2] ++ rest').map .val, 24⟩ (n + 1) m))
    (grow : ∀ (m' : Nat) (rest' : List Value), n + 1 ≤ m' → rest'.length = (m' - (n + 1)) * 2 → Ru ⟨Try.prog, f0, E, w0, R⟩ G (resumeG (adv Try.prog E 9999 400 c) ⟨(vs ++ [v1, v2] ++ rest').map .val, 24⟩ (n + 1) m')) : Ru ⟨Try.prog, f0, E, w0, R⟩ G c := by
  obtain ⟨i, z, hi, hz, hs, hb, hzs⟩ := infoOk_ex wide_info
  exact ⟨run_adv mixed (run_app hc Try.underlying176 hi hz hs hb hzs (by omega) (by omega) hB (news := [v1, v2]) hB2 hvs rfl (by simp [h1, h2]) hrest hnm hn hE hal (fun a r q => (room a r q).h) fun m r a q => (grow m r a q).h)⟩
/-- The sum of five wide numbers. -/
theorem st_sum5 {b m : Nat} {n1 n2 n3 n4 n5 : Int} {rest : List Value} (s : Int) (hs : s = n1 + n2 + n3 + n4 + n5) (w1 : W128 n1) (w2 : W128 n2) (w3 : W128 n3) (w4 : W128 n4) (w5 : W128 n5) (ws : W128 s)
    (hc : callAt (adv Try.prog E 9999 400 c) = some (135, [.sl b 0 5 m]))
    (hB : (adv Try.prog E 9999 400 c).bl[b]? = some ⟨([Value.int .i64 (hi n1), .int .u64 (lo n1), .int .i64 (hi n2), .int .u64 (lo n2), .int .i64 (hi n3), .int .u64 (lo n3), .int .i64 (hi n4), .int .u64 (lo n4), .int .i64 (hi n5), .int .u64 (lo n5)] ++ rest).map .val, 24⟩)
    (hk : Ru ⟨Try.prog, f0, E, w0, R⟩ (ZAll L) (resume (adv Try.prog E 9999 400 c) (.val (.tuple #[wv s, .int .i64 0])))) : Ru ⟨Try.prog, f0, E, w0, R⟩ (ZAll L) c := by
  refine ⟨run_adv mixed fun hst => run_call hc ent135 (X := Unit) (fun _ => .val (.tuple #[wv s, .int .i64 0])) (fun _ _ => True) (fun _ _ _ _ _ => trivial) (fun _ _ => trivial) (fun r N w us ha hbl hG => ?_) (fun _ => hk.h.mono hst fun w hw => hw.1) hst⟩
  obtain ⟨u, rfl, hu, hfr⟩ : ∃ u, us = [u] ∧ u = Value.slice (some ⟨r b, 0, none⟩) 5 m ∧ ¬ N b := by
    match us, ha with
    | [u], h => exact ⟨u, rfl, h.1.1, h.1.2⟩
  subst hu
  have hb := (hbl.is b _ hB hfr).2
  have hcell := cell_at (P := Try.prog) hb
  have hlt := hbl.lt hB hfr
  have hrow : WRow w.heap.size w (.slice (some ⟨r b, 0, none⟩) 5 m) [n1, n2, n3, n4, n5] := by
    refine ⟨some ⟨r b, 0, none⟩, m, r b, 0, rfl, fun _ => ⟨rfl, hlt⟩, fun i hi => ?_⟩
    have hi' : i = 0 ∨ i = 1 ∨ i = 2 ∨ i = 3 ∨ i = 4 := by simp at hi; omega
    rcases hi' with rfl | rfl | rfl | rfl | rfl <;> simp [World.cell?, hcell, nth]
  have hw : ∀ i, W128 (nth [n1, n2, n3, n4, n5] i) := fun i => by
    by_cases h : i < 5
    · have hi' : i = 0 ∨ i = 1 ∨ i = 2 ∨ i = 3 ∨ i = 4 := by omega
      rcases hi' with rfl | rfl | rfl | rfl | rfl <;> assumption
    · have : nth [n1, n2, n3, n4, n5] i = 0 := by unfold nth; rw [List.getD_eq_getElem?_getD, List.getElem?_eq_none (by simp; omega)]; rfl
      rw [this]; unfold W128; omega
  have e : tsum [n1, n2, n3, n4, n5] = s := by rw [hs]; unfold tsum; simp; omega
  refine (wsum _ _ w hrow (by simp) hw).mono fun e' w' ⟨h1, h2⟩ => ⟨(), _, h1, ?_, h2, trivial⟩
  rw [e, thi_yes ws, tlo_yes ws, ter_yes ws]
  rfl
end
/-! a row out of a pointer -/
theorem cellsOk_nil {r : Nat → Nat} {N : Nat → Prop} : CellsOk r N [] #[] := ⟨rfl, fun i s h => by cases h⟩
theorem cellsOk_cons {r : Nat → Nat} {N : Nat → Prop} {s : SV} {u : Value} {ss : List SV} {us : List Value} (h : SV.Ok r N s u) (k : CellsOk r N ss us.toArray) : CellsOk r N (s :: ss) (u :: us).toArray := by
  obtain ⟨k1, k2⟩ := k
  refine ⟨by simpa using k1, fun i s' hi => ?_⟩
  cases i with
  | zero =>
    obtain rfl : s = s' := by simpa using hi
    exact ⟨u, by simp, h⟩
  | succ i =>
    obtain ⟨u', h1, h2⟩ := k2 i s' (by simpa using hi)
    exact ⟨u', by simpa using h1, h2⟩
section
variable {f0 : FuncId} {E : List TypeId} {w0 : World} {R : Ending → World → Prop} {L : ZL} {G : World → Prop} {c : Cf}
theorem st_rowP {f : FuncId} {vs : Nat → Nat → List Value} {T : TypeId} {n b o : Nat} (ss : List SV) (he : Enters Try.prog f) (h : ∀ b o, FnB f [.pointer (some ⟨b, o, none⟩)] (vs b o) T n) (hcs : ∀ (r : Nat → Nat) (N : Nat → Prop), ¬ N b → CellsOk r N ss (vs (r b) o).toArray) (hc : callAt (adv Try.prog E 9999 400 c) = some (f, [.ptr b o]))
    (hk : Ru ⟨Try.prog, f0, E, w0, R⟩ (ZAll L) (resumeB (adv Try.prog E 9999 400 c) ⟨ss, T⟩ n)) : Ru ⟨Try.prog, f0, E, w0, R⟩ (ZAll L) c := by
  refine ⟨run_adv mixed (run_callB hc he ⟨ss, T⟩ n (fun r N w us ha hbl hG => ?_) hk.h)⟩
  obtain ⟨u, rfl, hu, hfr⟩ : ∃ u, us = [u] ∧ u = Value.pointer (some ⟨r b, o, none⟩) ∧ ¬ N b := by
    match us, ha with
    | [u], h => exact ⟨u, rfl, h.1.1, h.1.2⟩
  subst hu
  exact (h (r b) o w).mono fun e w' ⟨k, h1, h2, h3, h4⟩ => ⟨k, _, h1, h2, h3, hcs r N hfr, h4⟩
end
end Go.Proofs.Ytccllfegnijpiaa
end
section
/-
  Durations: fields, signs, totals, as the program reckons them.
-/
set_option linter.unusedVariables false
set_option maxRecDepth 100000
namespace Go.Proofs.Ytccllfegnijpiaa
open Go Go.RowKit Go.Ev

abbrev duv (a b c d h mi s n : Int) : Value := .agg #[.int .i64 a, .int .i64 b, .int .i64 c, .int .i64 d, .int .i64 h, .int .i64 mi, .int .i64 s, .int .i64 n]
abbrev du0 : Value := duv 0 0 0 0 0 0 0 0
abbrev pA (b o : Nat) : Value := .pointer (some ⟨b, o, none⟩)
def fvs (b o : Nat) : List Value := [.pointer none, pA b (o + 0), pA b (o + 1), pA b (o + 2), pA b (o + 3), pA b (o + 4), pA b (o + 5), pA b (o + 6), pA b (o + 7)]
theorem ufields (b o : Nat) : FnB 92 [pA b o] (fvs b o) 134 9 := by
  refine fnB_of Try.func92 rfl fun ww => ?_
  exact st_retB Try.func92 (by kernel_rfl)
section
variable {f0 : FuncId} {E : List TypeId} {w0 : World} {R : Ending → World → Prop} {L : ZL} {c : Cf}
theorem ufields_row (b o : Nat) (hc : callAt (adv Try.prog E 9999 400 c) = some (92, [.ptr b o]))
    (hk : Ru ⟨Try.prog, f0, E, w0, R⟩ (ZAll L) (resumeB (adv Try.prog E 9999 400 c) ⟨[.val (.pointer none), .ptr b (o + 0), .ptr b (o + 1), .ptr b (o + 2), .ptr b (o + 3), .ptr b (o + 4), .ptr b (o + 5), .ptr b (o + 6), .ptr b (o + 7)], 134⟩ 9)) : Ru ⟨Try.prog, f0, E, w0, R⟩ (ZAll L) c :=
  st_rowP [.val (.pointer none), .ptr b (o + 0), .ptr b (o + 1), .ptr b (o + 2), .ptr b (o + 3), .ptr b (o + 4), .ptr b (o + 5), .ptr b (o + 6), .ptr b (o + 7)] ent92 ufields (fun r N hN => cellsOk_cons ⟨rfl, trivial⟩ (cellsOk_cons ⟨rfl, hN⟩ (cellsOk_cons ⟨rfl, hN⟩ (cellsOk_cons ⟨rfl, hN⟩ (cellsOk_cons ⟨rfl, hN⟩ (cellsOk_cons ⟨rfl, hN⟩ (cellsOk_cons ⟨rfl, hN⟩ (cellsOk_cons ⟨rfl, hN⟩ (cellsOk_cons ⟨rfl, hN⟩ cellsOk_nil))))))))) hc hk
end
theorem ulen4 : Fn 37 [] [.int .i64 4] (.int .i64 86400000000000) := by
  refine fn_of Try.func37 rfl fun ww => ?_
  refine st_i 11 .i64 (x' := 4 - 4) (Go.IntWalk.i64_in _ (by omega)) (by kernel_rfl) ?_
  exact st_ret Try.func37 (by kernel_rfl)
theorem ulen5 : Fn 37 [] [.int .i64 5] (.int .i64 3600000000000) := by
  refine fn_of Try.func37 rfl fun ww => ?_
  refine st_i 11 .i64 (x' := 5 - 4) (Go.IntWalk.i64_in _ (by omega)) (by kernel_rfl) ?_
  exact st_ret Try.func37 (by kernel_rfl)
theorem ulen6 : Fn 37 [] [.int .i64 6] (.int .i64 60000000000) := by
  refine fn_of Try.func37 rfl fun ww => ?_
  refine st_i 11 .i64 (x' := 6 - 4) (Go.IntWalk.i64_in _ (by omega)) (by kernel_rfl) ?_
  exact st_ret Try.func37 (by kernel_rfl)
theorem ulen7 : Fn 37 [] [.int .i64 7] (.int .i64 1000000000) := by
  refine fn_of Try.func37 rfl fun ww => ?_
  refine st_i 11 .i64 (x' := 7 - 4) (Go.IntWalk.i64_in _ (by omega)) (by kernel_rfl) ?_
  exact st_ret Try.func37 (by kernel_rfl)
theorem ulen8 : Fn 37 [] [.int .i64 8] (.int .i64 1) := by
  refine fn_of Try.func37 rfl fun ww => ?_
  refine st_i 11 .i64 (x' := 8 - 4) (Go.IntWalk.i64_in _ (by omega)) (by kernel_rfl) ?_
  exact st_ret Try.func37 (by kernel_rfl)
theorem ulen_o (u : Int) (h : u < 4 ∨ 8 < u) : Fn 37 [] [.int .i64 u] (.int .i64 0) := by
  by_cases k : u < 4
  · refine fn_of Try.func37 rfl fun ww => ?_
    refine st_b 4 (show (decide (u < 4)) = true by exact decide_eq_true (by omega)) (by kernel_rfl) ?_
    exact st_ret Try.func37 (by kernel_rfl)
  · have k' : 8 < u := by omega
    refine fn_of Try.func37 rfl fun ww => ?_
    refine st_b 4 (show (decide (u < 4)) = false by exact decide_eq_false (by omega)) (by kernel_rfl) ?_
    refine st_b 7 (show (decide (u > 8)) = true by exact decide_eq_true (by omega)) (by kernel_rfl) ?_
    exact st_ret Try.func37 (by kernel_rfl)
theorem units {u : Int} (h : 4 ≤ u) (k : u ≤ 8) : u = 4 ∨ u = 5 ∨ u = 6 ∨ u = 7 ∨ u = 8 := by omega
theorem ulen_fn (u : Int) : Fn 37 [] [.int .i64 u] (.int .i64 (ulen u)) := by
  by_cases h : 4 ≤ u ∧ u ≤ 8
  · rcases units h.1 h.2 with rfl | rfl | rfl | rfl | rfl
    · exact ulen4
    · exact ulen5
    · exact ulen6
    · exact ulen7
    · exact ulen8
  · rw [ulen_no (by omega)]
    exact ulen_o u (by omega)
theorem ulimit : Fn 95 [] [] (wv 9007199254740992000000000) := by
  have i1 : I64 9007199254740992 := by unfold I64; omega
  have i2 : I64 1000000000 := by unfold I64; omega
  refine fn_of Try.func95 rfl fun ww => ?_
  refine st_fn ent52 (wmul_f (9007199254740992) (1000000000) (by assumption) (by assumption)) sub0 (by kernel_rfl) ?_
  exact st_retv Try.func95 (show Value.agg #[Value.int IntKind.i64 (hi (9007199254740992 * 1000000000)), Value.int IntKind.u64 (lo (9007199254740992 * 1000000000))] = _ by rfl) (by kernel_rfl)
section
variable (a b c d h mi s n : Int)
theorem utot (i1 : I64 d) (i2 : I64 h) (i3 : I64 mi) (i4 : I64 s) (i5 : I64 n) : Fn 94 [] [duv a b c d h mi s n] (wv (dtot d h mi s n)) := by
  have j1 : I64 86400000000000 := by unfold I64; omega
  have j2 : I64 3600000000000 := by unfold I64; omega
  have j3 : I64 60000000000 := by unfold I64; omega
  have j4 : I64 1000000000 := by unfold I64; omega
  have j5 : I64 1 := by unfold I64; omega
  have k1 := i1; have k2 := i2; have k3 := i3; have k4 := i4; have k5 := i5
  unfold I64 at k1 k2 k3 k4 k5
  refine fn_of Try.func94 rfl fun ww => ?_
  refine ufields_row 0 0 (by kernel_rfl) ?_
  refine st_round (by kernel_rfl) ?_
  refine st_fn ent37 (ulen4) sub0 (by kernel_rfl) ?_
  refine st_fn ent52 (wmul_f (d) (86400000000000) (by assumption) (by assumption)) sub0 (by kernel_rfl) ?_
  refine st_app0w (b2 := 3) (v1 := Value.int IntKind.i64 (hi (d * 86400000000000))) (v2 := Value.int IntKind.u64 (lo (d * 86400000000000))) (by kernel_rfl) (by kernel_rfl) rfl rfl (fun m3 rest3 hm3 hr3 => ?_)
  refine st_i 12 .i64 (x' := 4 + 1) (Go.IntWalk.i64_in _ (by omega)) (by kernel_rfl) ?_
  refine st_round (by kernel_rfl) ?_
  refine st_fn ent37 (ulen5) sub0 (by kernel_rfl) ?_
  refine st_fn ent52 (wmul_f (h) (3600000000000) (by assumption) (by assumption)) sub0 (by kernel_rfl) ?_
  refine st_appw (b := 4) (b2 := 5) (n := 1) (m := m3) (vs := [Value.int IntKind.i64 (hi (d * 86400000000000)), Value.int IntKind.u64 (lo (d * 86400000000000))]) (rest := rest3) (v1 := Value.int IntKind.i64 (hi (h * 3600000000000))) (v2 := Value.int IntKind.u64 (lo (h * 3600000000000))) (by kernel_rfl) (by kernel_rfl) (by kernel_rfl) rfl rfl rfl hr3 hm3 (by omega) (by kernel_rfl) (by kernel_rfl) (fun hm6 rest6 hr6 => ?_) (fun m6 rest6 hm6 hr6 => ?_)
  · have _hh := True.intro
    refine st_i 12 .i64 (x' := 4 + 1 + 1) (Go.IntWalk.i64_in _ (by omega)) (by kernel_rfl) ?_
    refine st_round (by kernel_rfl) ?_
    refine st_fn ent37 (ulen6) sub0 (by kernel_rfl) ?_
    refine st_fn ent52 (wmul_f (mi) (60000000000) (by assumption) (by assumption)) sub0 (by kernel_rfl) ?_
    refine st_appw (b := 4) (b2 := 6) (n := 2) (m := m3) (vs := [Value.int IntKind.i64 (hi (d * 86400000000000)), Value.int IntKind.u64 (lo (d * 86400000000000)), Value.int IntKind.i64 (hi (h * 3600000000000)), Value.int IntKind.u64 (lo (h * 3600000000000))]) (rest := rest6) (v1 := Value.int IntKind.i64 (hi (mi * 60000000000))) (v2 := Value.int IntKind.u64 (lo (mi * 60000000000))) (by kernel_rfl) (by kernel_rfl) (by kernel_rfl) rfl rfl rfl hr6 hm6 (by omega) (by kernel_rfl) (by kernel_rfl) (fun hm9 rest9 hr9 => ?_) (fun m9 rest9 hm9 hr9 => ?_)
    · have _hh := True.intro
      refine st_i 12 .i64 (x' := 4 + 1 + 1 + 1) (Go.IntWalk.i64_in _ (by omega)) (by kernel_rfl) ?_
      refine st_round (by kernel_rfl) ?_
      refine st_fn ent37 (ulen7) sub0 (by kernel_rfl) ?_
      refine st_fn ent52 (wmul_f (s) (1000000000) (by assumption) (by assumption)) sub0 (by kernel_rfl) ?_
      refine st_appw (b := 4) (b2 := 7) (n := 3) (m := m3) (vs := [Value.int IntKind.i64 (hi (d * 86400000000000)), Value.int IntKind.u64 (lo (d * 86400000000000)), Value.int IntKind.i64 (hi (h * 3600000000000)), Value.int IntKind.u64 (lo (h * 3600000000000)), Value.int IntKind.i64 (hi (mi * 60000000000)), Value.int IntKind.u64 (lo (mi * 60000000000))]) (rest := rest9) (v1 := Value.int IntKind.i64 (hi (s * 1000000000))) (v2 := Value.int IntKind.u64 (lo (s * 1000000000))) (by kernel_rfl) (by kernel_rfl) (by kernel_rfl) rfl rfl rfl hr9 hm9 (by omega) (by kernel_rfl) (by kernel_rfl) (fun hm12 rest12 hr12 => ?_) (fun m12 rest12 hm12 hr12 => ?_)
      · have _hh := True.intro
        refine st_i 12 .i64 (x' := 4 + 1 + 1 + 1 + 1) (Go.IntWalk.i64_in _ (by omega)) (by kernel_rfl) ?_
        refine st_round (by kernel_rfl) ?_
        refine st_fn ent37 (ulen8) sub0 (by kernel_rfl) ?_
        refine st_fn ent52 (wmul_f (n) (1) (by assumption) (by assumption)) sub0 (by kernel_rfl) ?_
        refine st_appw (b := 4) (b2 := 8) (n := 4) (m := m3) (vs := [Value.int IntKind.i64 (hi (d * 86400000000000)), Value.int IntKind.u64 (lo (d * 86400000000000)), Value.int IntKind.i64 (hi (h * 3600000000000)), Value.int IntKind.u64 (lo (h * 3600000000000)), Value.int IntKind.i64 (hi (mi * 60000000000)), Value.int IntKind.u64 (lo (mi * 60000000000)), Value.int IntKind.i64 (hi (s * 1000000000)), Value.int IntKind.u64 (lo (s * 1000000000))]) (rest := rest12) (v1 := Value.int IntKind.i64 (hi (n * 1))) (v2 := Value.int IntKind.u64 (lo (n * 1))) (by kernel_rfl) (by kernel_rfl) (by kernel_rfl) rfl rfl rfl hr12 hm12 (by omega) (by kernel_rfl) (by kernel_rfl) (fun hm15 rest15 hr15 => ?_) (fun m15 rest15 hm15 hr15 => ?_)
        · have _hh := True.intro
          refine st_i 12 .i64 (x' := 4 + 1 + 1 + 1 + 1 + 1) (Go.IntWalk.i64_in _ (by omega)) (by kernel_rfl) ?_
          refine st_round (by kernel_rfl) ?_
          refine st_sum5 (b := 4) (m := m3) (n1 := (d * 86400000000000)) (n2 := (h * 3600000000000)) (n3 := (mi * 60000000000)) (n4 := (s * 1000000000)) (n5 := (n * 1)) (rest := rest15) ((d * 86400000000000) + (h * 3600000000000) + (mi * 60000000000) + (s * 1000000000) + (n * 1)) rfl (by first | assumption | (unfold W128; omega)) (by first | assumption | (unfold W128; omega)) (by first | assumption | (unfold W128; omega)) (by first | assumption | (unfold W128; omega)) (by first | assumption | (unfold W128; omega)) (by first | assumption | (unfold W128; omega)) (by kernel_rfl) (by kernel_rfl) ?_
          exact st_retv Try.func94 (show Value.agg #[Value.int IntKind.i64 (hi (d * 86400000000000 + h * 3600000000000 + mi * 60000000000 + s * 1000000000 + n * 1)), Value.int IntKind.u64 (lo (d * 86400000000000 + h * 3600000000000 + mi * 60000000000 + s * 1000000000 + n * 1))] = _ by (unfold dtot; rw [Int.mul_one])) (by kernel_rfl)
        · have _hh := True.intro
          refine st_i 12 .i64 (x' := 4 + 1 + 1 + 1 + 1 + 1) (Go.IntWalk.i64_in _ (by omega)) (by kernel_rfl) ?_
          refine st_round (by kernel_rfl) ?_
          refine st_sum5 (b := 9) (m := m15) (n1 := (d * 86400000000000)) (n2 := (h * 3600000000000)) (n3 := (mi * 60000000000)) (n4 := (s * 1000000000)) (n5 := (n * 1)) (rest := rest15) ((d * 86400000000000) + (h * 3600000000000) + (mi * 60000000000) + (s * 1000000000) + (n * 1)) rfl (by first | assumption | (unfold W128; omega)) (by first | assumption | (unfold W128; omega)) (by first | assumption | (unfold W128; omega)) (by first | assumption | (unfold W128; omega)) (by first | assumption | (unfold W128; omega)) (by first | assumption | (unfold W128; omega)) (by kernel_rfl) (by kernel_rfl) ?_
          exact st_retv Try.func94 (show Value.agg #[Value.int IntKind.i64 (hi (d * 86400000000000 + h * 3600000000000 + mi * 60000000000 + s * 1000000000 + n * 1)), Value.int IntKind.u64 (lo (d * 86400000000000 + h * 3600000000000 + mi * 60000000000 + s * 1000000000 + n * 1))] = _ by (unfold dtot; rw [Int.mul_one])) (by kernel_rfl)
      · have _hh := True.intro
        refine st_i 12 .i64 (x' := 4 + 1 + 1 + 1 + 1) (Go.IntWalk.i64_in _ (by omega)) (by kernel_rfl) ?_
        refine st_round (by kernel_rfl) ?_
        refine st_fn ent37 (ulen8) sub0 (by kernel_rfl) ?_
        refine st_fn ent52 (wmul_f (n) (1) (by assumption) (by assumption)) sub0 (by kernel_rfl) ?_
        refine st_appw (b := 8) (b2 := 9) (n := 4) (m := m12) (vs := [Value.int IntKind.i64 (hi (d * 86400000000000)), Value.int IntKind.u64 (lo (d * 86400000000000)), Value.int IntKind.i64 (hi (h * 3600000000000)), Value.int IntKind.u64 (lo (h * 3600000000000)), Value.int IntKind.i64 (hi (mi * 60000000000)), Value.int IntKind.u64 (lo (mi * 60000000000)), Value.int IntKind.i64 (hi (s * 1000000000)), Value.int IntKind.u64 (lo (s * 1000000000))]) (rest := rest12) (v1 := Value.int IntKind.i64 (hi (n * 1))) (v2 := Value.int IntKind.u64 (lo (n * 1))) (by kernel_rfl) (by kernel_rfl) (by kernel_rfl) rfl rfl rfl hr12 hm12 (by omega) (by kernel_rfl) (by kernel_rfl) (fun hm15 rest15 hr15 => ?_) (fun m15 rest15 hm15 hr15 => ?_)
        · have _hh := True.intro
          refine st_i 12 .i64 (x' := 4 + 1 + 1 + 1 + 1 + 1) (Go.IntWalk.i64_in _ (by omega)) (by kernel_rfl) ?_
          refine st_round (by kernel_rfl) ?_
          refine st_sum5 (b := 8) (m := m12) (n1 := (d * 86400000000000)) (n2 := (h * 3600000000000)) (n3 := (mi * 60000000000)) (n4 := (s * 1000000000)) (n5 := (n * 1)) (rest := rest15) ((d * 86400000000000) + (h * 3600000000000) + (mi * 60000000000) + (s * 1000000000) + (n * 1)) rfl (by first | assumption | (unfold W128; omega)) (by first | assumption | (unfold W128; omega)) (by first | assumption | (unfold W128; omega)) (by first | assumption | (unfold W128; omega)) (by first | assumption | (unfold W128; omega)) (by first | assumption | (unfold W128; omega)) (by kernel_rfl) (by kernel_rfl) ?_
          exact st_retv Try.func94 (show Value.agg #[Value.int IntKind.i64 (hi (d * 86400000000000 + h * 3600000000000 + mi * 60000000000 + s * 1000000000 + n * 1)), Value.int IntKind.u64 (lo (d * 86400000000000 + h * 3600000000000 + mi * 60000000000 + s * 1000000000 + n * 1))] = _ by (unfold dtot; rw [Int.mul_one])) (by kernel_rfl)
        · have _hh := True.intro
          refine st_i 12 .i64 (x' := 4 + 1 + 1 + 1 + 1 + 1) (Go.IntWalk.i64_in _ (by omega)) (by kernel_rfl) ?_
          refine st_round (by kernel_rfl) ?_
          refine st_sum5 (b := 10) (m := m15) (n1 := (d * 86400000000000)) (n2 := (h * 3600000000000)) (n3 := (mi * 60000000000)) (n4 := (s * 1000000000)) (n5 := (n * 1)) (rest := rest15) ((d * 86400000000000) + (h * 3600000000000) + (mi * 60000000000) + (s * 1000000000) + (n * 1)) rfl (by first | assumption | (unfold W128; omega)) (by first | assumption | (unfold W128; omega)) (by first | assumption | (unfold W128; omega)) (by first | assumption | (unfold W128; omega)) (by first | assumption | (unfold W128; omega)) (by first | assumption | (unfold W128; omega)) (by kernel_rfl) (by kernel_rfl) ?_
          exact st_retv Try.func94 (show Value.agg #[Value.int IntKind.i64 (hi (d * 86400000000000 + h * 3600000000000 + mi * 60000000000 + s * 1000000000 + n * 1)), Value.int IntKind.u64 (lo (d * 86400000000000 + h * 3600000000000 + mi * 60000000000 + s * 1000000000 + n * 1))] = _ by (unfold dtot; rw [Int.mul_one])) (by kernel_rfl)
    · have _hh := True.intro
      refine st_i 12 .i64 (x' := 4 + 1 + 1 + 1) (Go.IntWalk.i64_in _ (by omega)) (by kernel_rfl) ?_
      refine st_round (by kernel_rfl) ?_
      refine st_fn ent37 (ulen7) sub0 (by kernel_rfl) ?_
      refine st_fn ent52 (wmul_f (s) (1000000000) (by assumption) (by assumption)) sub0 (by kernel_rfl) ?_
      refine st_appw (b := 7) (b2 := 8) (n := 3) (m := m9) (vs := [Value.int IntKind.i64 (hi (d * 86400000000000)), Value.int IntKind.u64 (lo (d * 86400000000000)), Value.int IntKind.i64 (hi (h * 3600000000000)), Value.int IntKind.u64 (lo (h * 3600000000000)), Value.int IntKind.i64 (hi (mi * 60000000000)), Value.int IntKind.u64 (lo (mi * 60000000000))]) (rest := rest9) (v1 := Value.int IntKind.i64 (hi (s * 1000000000))) (v2 := Value.int IntKind.u64 (lo (s * 1000000000))) (by kernel_rfl) (by kernel_rfl) (by kernel_rfl) rfl rfl rfl hr9 hm9 (by omega) (by kernel_rfl) (by kernel_rfl) (fun hm12 rest12 hr12 => ?_) (fun m12 rest12 hm12 hr12 => ?_)
      · have _hh := True.intro
        refine st_i 12 .i64 (x' := 4 + 1 + 1 + 1 + 1) (Go.IntWalk.i64_in _ (by omega)) (by kernel_rfl) ?_
        refine st_round (by kernel_rfl) ?_
        refine st_fn ent37 (ulen8) sub0 (by kernel_rfl) ?_
        refine st_fn ent52 (wmul_f (n) (1) (by assumption) (by assumption)) sub0 (by kernel_rfl) ?_
        refine st_appw (b := 7) (b2 := 9) (n := 4) (m := m9) (vs := [Value.int IntKind.i64 (hi (d * 86400000000000)), Value.int IntKind.u64 (lo (d * 86400000000000)), Value.int IntKind.i64 (hi (h * 3600000000000)), Value.int IntKind.u64 (lo (h * 3600000000000)), Value.int IntKind.i64 (hi (mi * 60000000000)), Value.int IntKind.u64 (lo (mi * 60000000000)), Value.int IntKind.i64 (hi (s * 1000000000)), Value.int IntKind.u64 (lo (s * 1000000000))]) (rest := rest12) (v1 := Value.int IntKind.i64 (hi (n * 1))) (v2 := Value.int IntKind.u64 (lo (n * 1))) (by kernel_rfl) (by kernel_rfl) (by kernel_rfl) rfl rfl rfl hr12 hm12 (by omega) (by kernel_rfl) (by kernel_rfl) (fun hm15 rest15 hr15 => ?_) (fun m15 rest15 hm15 hr15 => ?_)
        · have _hh := True.intro
          refine st_i 12 .i64 (x' := 4 + 1 + 1 + 1 + 1 + 1) (Go.IntWalk.i64_in _ (by omega)) (by kernel_rfl) ?_
          refine st_round (by kernel_rfl) ?_
          refine st_sum5 (b := 7) (m := m9) (n1 := (d * 86400000000000)) (n2 := (h * 3600000000000)) (n3 := (mi * 60000000000)) (n4 := (s * 1000000000)) (n5 := (n * 1)) (rest := rest15) ((d * 86400000000000) + (h * 3600000000000) + (mi * 60000000000) + (s * 1000000000) + (n * 1)) rfl (by first | assumption | (unfold W128; omega)) (by first | assumption | (unfold W128; omega)) (by first | assumption | (unfold W128; omega)) (by first | assumption | (unfold W128; omega)) (by first | assumption | (unfold W128; omega)) (by first | assumption | (unfold W128; omega)) (by kernel_rfl) (by kernel_rfl) ?_
          exact st_retv Try.func94 (show Value.agg #[Value.int IntKind.i64 (hi (d * 86400000000000 + h * 3600000000000 + mi * 60000000000 + s * 1000000000 + n * 1)), Value.int IntKind.u64 (lo (d * 86400000000000 + h * 3600000000000 + mi * 60000000000 + s * 1000000000 + n * 1))] = _ by (unfold dtot; rw [Int.mul_one])) (by kernel_rfl)
        · have _hh := True.intro
          refine st_i 12 .i64 (x' := 4 + 1 + 1 + 1 + 1 + 1) (Go.IntWalk.i64_in _ (by omega)) (by kernel_rfl) ?_
          refine st_round (by kernel_rfl) ?_
          refine st_sum5 (b := 10) (m := m15) (n1 := (d * 86400000000000)) (n2 := (h * 3600000000000)) (n3 := (mi * 60000000000)) (n4 := (s * 1000000000)) (n5 := (n * 1)) (rest := rest15) ((d * 86400000000000) + (h * 3600000000000) + (mi * 60000000000) + (s * 1000000000) + (n * 1)) rfl (by first | assumption | (unfold W128; omega)) (by first | assumption | (unfold W128; omega)) (by first | assumption | (unfold W128; omega)) (by first | assumption | (unfold W128; omega)) (by first | assumption | (unfold W128; omega)) (by first | assumption | (unfold W128; omega)) (by kernel_rfl) (by kernel_rfl) ?_
          exact st_retv Try.func94 (show Value.agg #[Value.int IntKind.i64 (hi (d * 86400000000000 + h * 3600000000000 + mi * 60000000000 + s * 1000000000 + n * 1)), Value.int IntKind.u64 (lo (d * 86400000000000 + h * 3600000000000 + mi * 60000000000 + s * 1000000000 + n * 1))] = _ by (unfold dtot; rw [Int.mul_one])) (by kernel_rfl)
      · have _hh := True.intro
        refine st_i 12 .i64 (x' := 4 + 1 + 1 + 1 + 1) (Go.IntWalk.i64_in _ (by omega)) (by kernel_rfl) ?_
        refine st_round (by kernel_rfl) ?_
        refine st_fn ent37 (ulen8) sub0 (by kernel_rfl) ?_
        refine st_fn ent52 (wmul_f (n) (1) (by assumption) (by assumption)) sub0 (by kernel_rfl) ?_
        refine st_appw (b := 9) (b2 := 10) (n := 4) (m := m12) (vs := [Value.int IntKind.i64 (hi (d * 86400000000000)), Value.int IntKind.u64 (lo (d * 86400000000000)), Value.int IntKind.i64 (hi (h * 3600000000000)), Value.int IntKind.u64 (lo (h * 3600000000000)), Value.int IntKind.i64 (hi (mi * 60000000000)), Value.int IntKind.u64 (lo (mi * 60000000000)), Value.int IntKind.i64 (hi (s * 1000000000)), Value.int IntKind.u64 (lo (s * 1000000000))]) (rest := rest12) (v1 := Value.int IntKind.i64 (hi (n * 1))) (v2 := Value.int IntKind.u64 (lo (n * 1))) (by kernel_rfl) (by kernel_rfl) (by kernel_rfl) rfl rfl rfl hr12 hm12 (by omega) (by kernel_rfl) (by kernel_rfl) (fun hm15 rest15 hr15 => ?_) (fun m15 rest15 hm15 hr15 => ?_)
        · have _hh := True.intro
          refine st_i 12 .i64 (x' := 4 + 1 + 1 + 1 + 1 + 1) (Go.IntWalk.i64_in _ (by omega)) (by kernel_rfl) ?_
          refine st_round (by kernel_rfl) ?_
          refine st_sum5 (b := 9) (m := m12) (n1 := (d * 86400000000000)) (n2 := (h * 3600000000000)) (n3 := (mi * 60000000000)) (n4 := (s * 1000000000)) (n5 := (n * 1)) (rest := rest15) ((d * 86400000000000) + (h * 3600000000000) + (mi * 60000000000) + (s * 1000000000) + (n * 1)) rfl (by first | assumption | (unfold W128; omega)) (by first | assumption | (unfold W128; omega)) (by first | assumption | (unfold W128; omega)) (by first | assumption | (unfold W128; omega)) (by first | assumption | (unfold W128; omega)) (by first | assumption | (unfold W128; omega)) (by kernel_rfl) (by kernel_rfl) ?_
          exact st_retv Try.func94 (show Value.agg #[Value.int IntKind.i64 (hi (d * 86400000000000 + h * 3600000000000 + mi * 60000000000 + s * 1000000000 + n * 1)), Value.int IntKind.u64 (lo (d * 86400000000000 + h * 3600000000000 + mi * 60000000000 + s * 1000000000 + n * 1))] = _ by (unfold dtot; rw [Int.mul_one])) (by kernel_rfl)
        · have _hh := True.intro
          refine st_i 12 .i64 (x' := 4 + 1 + 1 + 1 + 1 + 1) (Go.IntWalk.i64_in _ (by omega)) (by kernel_rfl) ?_
          refine st_round (by kernel_rfl) ?_
          refine st_sum5 (b := 11) (m := m15) (n1 := (d * 86400000000000)) (n2 := (h * 3600000000000)) (n3 := (mi * 60000000000)) (n4 := (s * 1000000000)) (n5 := (n * 1)) (rest := rest15) ((d * 86400000000000) + (h * 3600000000000) + (mi * 60000000000) + (s * 1000000000) + (n * 1)) rfl (by first | assumption | (unfold W128; omega)) (by first | assumption | (unfold W128; omega)) (by first | assumption | (unfold W128; omega)) (by first | assumption | (unfold W128; omega)) (by first | assumption | (unfold W128; omega)) (by first | assumption | (unfold W128; omega)) (by kernel_rfl) (by kernel_rfl) ?_
          exact st_retv Try.func94 (show Value.agg #[Value.int IntKind.i64 (hi (d * 86400000000000 + h * 3600000000000 + mi * 60000000000 + s * 1000000000 + n * 1)), Value.int IntKind.u64 (lo (d * 86400000000000 + h * 3600000000000 + mi * 60000000000 + s * 1000000000 + n * 1))] = _ by (unfold dtot; rw [Int.mul_one])) (by kernel_rfl)
  · have _hh := True.intro
    refine st_i 12 .i64 (x' := 4 + 1 + 1) (Go.IntWalk.i64_in _ (by omega)) (by kernel_rfl) ?_
    refine st_round (by kernel_rfl) ?_
    refine st_fn ent37 (ulen6) sub0 (by kernel_rfl) ?_
    refine st_fn ent52 (wmul_f (mi) (60000000000) (by assumption) (by assumption)) sub0 (by kernel_rfl) ?_
    refine st_appw (b := 6) (b2 := 7) (n := 2) (m := m6) (vs := [Value.int IntKind.i64 (hi (d * 86400000000000)), Value.int IntKind.u64 (lo (d * 86400000000000)), Value.int IntKind.i64 (hi (h * 3600000000000)), Value.int IntKind.u64 (lo (h * 3600000000000))]) (rest := rest6) (v1 := Value.int IntKind.i64 (hi (mi * 60000000000))) (v2 := Value.int IntKind.u64 (lo (mi * 60000000000))) (by kernel_rfl) (by kernel_rfl) (by kernel_rfl) rfl rfl rfl hr6 hm6 (by omega) (by kernel_rfl) (by kernel_rfl) (fun hm9 rest9 hr9 => ?_) (fun m9 rest9 hm9 hr9 => ?_)
    · have _hh := True.intro
      refine st_i 12 .i64 (x' := 4 + 1 + 1 + 1) (Go.IntWalk.i64_in _ (by omega)) (by kernel_rfl) ?_
      refine st_round (by kernel_rfl) ?_
      refine st_fn ent37 (ulen7) sub0 (by kernel_rfl) ?_
      refine st_fn ent52 (wmul_f (s) (1000000000) (by assumption) (by assumption)) sub0 (by kernel_rfl) ?_
      refine st_appw (b := 6) (b2 := 8) (n := 3) (m := m6) (vs := [Value.int IntKind.i64 (hi (d * 86400000000000)), Value.int IntKind.u64 (lo (d * 86400000000000)), Value.int IntKind.i64 (hi (h * 3600000000000)), Value.int IntKind.u64 (lo (h * 3600000000000)), Value.int IntKind.i64 (hi (mi * 60000000000)), Value.int IntKind.u64 (lo (mi * 60000000000))]) (rest := rest9) (v1 := Value.int IntKind.i64 (hi (s * 1000000000))) (v2 := Value.int IntKind.u64 (lo (s * 1000000000))) (by kernel_rfl) (by kernel_rfl) (by kernel_rfl) rfl rfl rfl hr9 hm9 (by omega) (by kernel_rfl) (by kernel_rfl) (fun hm12 rest12 hr12 => ?_) (fun m12 rest12 hm12 hr12 => ?_)
      · have _hh := True.intro
        refine st_i 12 .i64 (x' := 4 + 1 + 1 + 1 + 1) (Go.IntWalk.i64_in _ (by omega)) (by kernel_rfl) ?_
        refine st_round (by kernel_rfl) ?_
        refine st_fn ent37 (ulen8) sub0 (by kernel_rfl) ?_
        refine st_fn ent52 (wmul_f (n) (1) (by assumption) (by assumption)) sub0 (by kernel_rfl) ?_
        refine st_appw (b := 6) (b2 := 9) (n := 4) (m := m6) (vs := [Value.int IntKind.i64 (hi (d * 86400000000000)), Value.int IntKind.u64 (lo (d * 86400000000000)), Value.int IntKind.i64 (hi (h * 3600000000000)), Value.int IntKind.u64 (lo (h * 3600000000000)), Value.int IntKind.i64 (hi (mi * 60000000000)), Value.int IntKind.u64 (lo (mi * 60000000000)), Value.int IntKind.i64 (hi (s * 1000000000)), Value.int IntKind.u64 (lo (s * 1000000000))]) (rest := rest12) (v1 := Value.int IntKind.i64 (hi (n * 1))) (v2 := Value.int IntKind.u64 (lo (n * 1))) (by kernel_rfl) (by kernel_rfl) (by kernel_rfl) rfl rfl rfl hr12 hm12 (by omega) (by kernel_rfl) (by kernel_rfl) (fun hm15 rest15 hr15 => ?_) (fun m15 rest15 hm15 hr15 => ?_)
        · have _hh := True.intro
          refine st_i 12 .i64 (x' := 4 + 1 + 1 + 1 + 1 + 1) (Go.IntWalk.i64_in _ (by omega)) (by kernel_rfl) ?_
          refine st_round (by kernel_rfl) ?_
          refine st_sum5 (b := 6) (m := m6) (n1 := (d * 86400000000000)) (n2 := (h * 3600000000000)) (n3 := (mi * 60000000000)) (n4 := (s * 1000000000)) (n5 := (n * 1)) (rest := rest15) ((d * 86400000000000) + (h * 3600000000000) + (mi * 60000000000) + (s * 1000000000) + (n * 1)) rfl (by first | assumption | (unfold W128; omega)) (by first | assumption | (unfold W128; omega)) (by first | assumption | (unfold W128; omega)) (by first | assumption | (unfold W128; omega)) (by first | assumption | (unfold W128; omega)) (by first | assumption | (unfold W128; omega)) (by kernel_rfl) (by kernel_rfl) ?_
          exact st_retv Try.func94 (show Value.agg #[Value.int IntKind.i64 (hi (d * 86400000000000 + h * 3600000000000 + mi * 60000000000 + s * 1000000000 + n * 1)), Value.int IntKind.u64 (lo (d * 86400000000000 + h * 3600000000000 + mi * 60000000000 + s * 1000000000 + n * 1))] = _ by (unfold dtot; rw [Int.mul_one])) (by kernel_rfl)
        · have _hh := True.intro
          refine st_i 12 .i64 (x' := 4 + 1 + 1 + 1 + 1 + 1) (Go.IntWalk.i64_in _ (by omega)) (by kernel_rfl) ?_
          refine st_round (by kernel_rfl) ?_
          refine st_sum5 (b := 10) (m := m15) (n1 := (d * 86400000000000)) (n2 := (h * 3600000000000)) (n3 := (mi * 60000000000)) (n4 := (s * 1000000000)) (n5 := (n * 1)) (rest := rest15) ((d * 86400000000000) + (h * 3600000000000) + (mi * 60000000000) + (s * 1000000000) + (n * 1)) rfl (by first | assumption | (unfold W128; omega)) (by first | assumption | (unfold W128; omega)) (by first | assumption | (unfold W128; omega)) (by first | assumption | (unfold W128; omega)) (by first | assumption | (unfold W128; omega)) (by first | assumption | (unfold W128; omega)) (by kernel_rfl) (by kernel_rfl) ?_
          exact st_retv Try.func94 (show Value.agg #[Value.int IntKind.i64 (hi (d * 86400000000000 + h * 3600000000000 + mi * 60000000000 + s * 1000000000 + n * 1)), Value.int IntKind.u64 (lo (d * 86400000000000 + h * 3600000000000 + mi * 60000000000 + s * 1000000000 + n * 1))] = _ by (unfold dtot; rw [Int.mul_one])) (by kernel_rfl)
      · have _hh := True.intro
        refine st_i 12 .i64 (x' := 4 + 1 + 1 + 1 + 1) (Go.IntWalk.i64_in _ (by omega)) (by kernel_rfl) ?_
        refine st_round (by kernel_rfl) ?_
        refine st_fn ent37 (ulen8) sub0 (by kernel_rfl) ?_
        refine st_fn ent52 (wmul_f (n) (1) (by assumption) (by assumption)) sub0 (by kernel_rfl) ?_
        refine st_appw (b := 9) (b2 := 10) (n := 4) (m := m12) (vs := [Value.int IntKind.i64 (hi (d * 86400000000000)), Value.int IntKind.u64 (lo (d * 86400000000000)), Value.int IntKind.i64 (hi (h * 3600000000000)), Value.int IntKind.u64 (lo (h * 3600000000000)), Value.int IntKind.i64 (hi (mi * 60000000000)), Value.int IntKind.u64 (lo (mi * 60000000000)), Value.int IntKind.i64 (hi (s * 1000000000)), Value.int IntKind.u64 (lo (s * 1000000000))]) (rest := rest12) (v1 := Value.int IntKind.i64 (hi (n * 1))) (v2 := Value.int IntKind.u64 (lo (n * 1))) (by kernel_rfl) (by kernel_rfl) (by kernel_rfl) rfl rfl rfl hr12 hm12 (by omega) (by kernel_rfl) (by kernel_rfl) (fun hm15 rest15 hr15 => ?_) (fun m15 rest15 hm15 hr15 => ?_)
        · have _hh := True.intro
          refine st_i 12 .i64 (x' := 4 + 1 + 1 + 1 + 1 + 1) (Go.IntWalk.i64_in _ (by omega)) (by kernel_rfl) ?_
          refine st_round (by kernel_rfl) ?_
          refine st_sum5 (b := 9) (m := m12) (n1 := (d * 86400000000000)) (n2 := (h * 3600000000000)) (n3 := (mi * 60000000000)) (n4 := (s * 1000000000)) (n5 := (n * 1)) (rest := rest15) ((d * 86400000000000) + (h * 3600000000000) + (mi * 60000000000) + (s * 1000000000) + (n * 1)) rfl (by first | assumption | (unfold W128; omega)) (by first | assumption | (unfold W128; omega)) (by first | assumption | (unfold W128; omega)) (by first | assumption | (unfold W128; omega)) (by first | assumption | (unfold W128; omega)) (by first | assumption | (unfold W128; omega)) (by kernel_rfl) (by kernel_rfl) ?_
          exact st_retv Try.func94 (show Value.agg #[Value.int IntKind.i64 (hi (d * 86400000000000 + h * 3600000000000 + mi * 60000000000 + s * 1000000000 + n * 1)), Value.int IntKind.u64 (lo (d * 86400000000000 + h * 3600000000000 + mi * 60000000000 + s * 1000000000 + n * 1))] = _ by (unfold dtot; rw [Int.mul_one])) (by kernel_rfl)
        · have _hh := True.intro
          refine st_i 12 .i64 (x' := 4 + 1 + 1 + 1 + 1 + 1) (Go.IntWalk.i64_in _ (by omega)) (by kernel_rfl) ?_
          refine st_round (by kernel_rfl) ?_
          refine st_sum5 (b := 11) (m := m15) (n1 := (d * 86400000000000)) (n2 := (h * 3600000000000)) (n3 := (mi * 60000000000)) (n4 := (s * 1000000000)) (n5 := (n * 1)) (rest := rest15) ((d * 86400000000000) + (h * 3600000000000) + (mi * 60000000000) + (s * 1000000000) + (n * 1)) rfl (by first | assumption | (unfold W128; omega)) (by first | assumption | (unfold W128; omega)) (by first | assumption | (unfold W128; omega)) (by first | assumption | (unfold W128; omega)) (by first | assumption | (unfold W128; omega)) (by first | assumption | (unfold W128; omega)) (by kernel_rfl) (by kernel_rfl) ?_
          exact st_retv Try.func94 (show Value.agg #[Value.int IntKind.i64 (hi (d * 86400000000000 + h * 3600000000000 + mi * 60000000000 + s * 1000000000 + n * 1)), Value.int IntKind.u64 (lo (d * 86400000000000 + h * 3600000000000 + mi * 60000000000 + s * 1000000000 + n * 1))] = _ by (unfold dtot; rw [Int.mul_one])) (by kernel_rfl)
    · have _hh := True.intro
      refine st_i 12 .i64 (x' := 4 + 1 + 1 + 1) (Go.IntWalk.i64_in _ (by omega)) (by kernel_rfl) ?_
      refine st_round (by kernel_rfl) ?_
      refine st_fn ent37 (ulen7) sub0 (by kernel_rfl) ?_
      refine st_fn ent52 (wmul_f (s) (1000000000) (by assumption) (by assumption)) sub0 (by kernel_rfl) ?_
      refine st_appw (b := 8) (b2 := 9) (n := 3) (m := m9) (vs := [Value.int IntKind.i64 (hi (d * 86400000000000)), Value.int IntKind.u64 (lo (d * 86400000000000)), Value.int IntKind.i64 (hi (h * 3600000000000)), Value.int IntKind.u64 (lo (h * 3600000000000)), Value.int IntKind.i64 (hi (mi * 60000000000)), Value.int IntKind.u64 (lo (mi * 60000000000))]) (rest := rest9) (v1 := Value.int IntKind.i64 (hi (s * 1000000000))) (v2 := Value.int IntKind.u64 (lo (s * 1000000000))) (by kernel_rfl) (by kernel_rfl) (by kernel_rfl) rfl rfl rfl hr9 hm9 (by omega) (by kernel_rfl) (by kernel_rfl) (fun hm12 rest12 hr12 => ?_) (fun m12 rest12 hm12 hr12 => ?_)
      · have _hh := True.intro
        refine st_i 12 .i64 (x' := 4 + 1 + 1 + 1 + 1) (Go.IntWalk.i64_in _ (by omega)) (by kernel_rfl) ?_
        refine st_round (by kernel_rfl) ?_
        refine st_fn ent37 (ulen8) sub0 (by kernel_rfl) ?_
        refine st_fn ent52 (wmul_f (n) (1) (by assumption) (by assumption)) sub0 (by kernel_rfl) ?_
        refine st_appw (b := 8) (b2 := 10) (n := 4) (m := m9) (vs := [Value.int IntKind.i64 (hi (d * 86400000000000)), Value.int IntKind.u64 (lo (d * 86400000000000)), Value.int IntKind.i64 (hi (h * 3600000000000)), Value.int IntKind.u64 (lo (h * 3600000000000)), Value.int IntKind.i64 (hi (mi * 60000000000)), Value.int IntKind.u64 (lo (mi * 60000000000)), Value.int IntKind.i64 (hi (s * 1000000000)), Value.int IntKind.u64 (lo (s * 1000000000))]) (rest := rest12) (v1 := Value.int IntKind.i64 (hi (n * 1))) (v2 := Value.int IntKind.u64 (lo (n * 1))) (by kernel_rfl) (by kernel_rfl) (by kernel_rfl) rfl rfl rfl hr12 hm12 (by omega) (by kernel_rfl) (by kernel_rfl) (fun hm15 rest15 hr15 => ?_) (fun m15 rest15 hm15 hr15 => ?_)
        · have _hh := True.intro
          refine st_i 12 .i64 (x' := 4 + 1 + 1 + 1 + 1 + 1) (Go.IntWalk.i64_in _ (by omega)) (by kernel_rfl) ?_
          refine st_round (by kernel_rfl) ?_
          refine st_sum5 (b := 8) (m := m9) (n1 := (d * 86400000000000)) (n2 := (h * 3600000000000)) (n3 := (mi * 60000000000)) (n4 := (s * 1000000000)) (n5 := (n * 1)) (rest := rest15) ((d * 86400000000000) + (h * 3600000000000) + (mi * 60000000000) + (s * 1000000000) + (n * 1)) rfl (by first | assumption | (unfold W128; omega)) (by first | assumption | (unfold W128; omega)) (by first | assumption | (unfold W128; omega)) (by first | assumption | (unfold W128; omega)) (by first | assumption | (unfold W128; omega)) (by first | assumption | (unfold W128; omega)) (by kernel_rfl) (by kernel_rfl) ?_
          exact st_retv Try.func94 (show Value.agg #[Value.int IntKind.i64 (hi (d * 86400000000000 + h * 3600000000000 + mi * 60000000000 + s * 1000000000 + n * 1)), Value.int IntKind.u64 (lo (d * 86400000000000 + h * 3600000000000 + mi * 60000000000 + s * 1000000000 + n * 1))] = _ by (unfold dtot; rw [Int.mul_one])) (by kernel_rfl)
        · have _hh := True.intro
          refine st_i 12 .i64 (x' := 4 + 1 + 1 + 1 + 1 + 1) (Go.IntWalk.i64_in _ (by omega)) (by kernel_rfl) ?_
          refine st_round (by kernel_rfl) ?_
          refine st_sum5 (b := 11) (m := m15) (n1 := (d * 86400000000000)) (n2 := (h * 3600000000000)) (n3 := (mi * 60000000000)) (n4 := (s * 1000000000)) (n5 := (n * 1)) (rest := rest15) ((d * 86400000000000) + (h * 3600000000000) + (mi * 60000000000) + (s * 1000000000) + (n * 1)) rfl (by first | assumption | (unfold W128; omega)) (by first | assumption | (unfold W128; omega)) (by first | assumption | (unfold W128; omega)) (by first | assumption | (unfold W128; omega)) (by first | assumption | (unfold W128; omega)) (by first | assumption | (unfold W128; omega)) (by kernel_rfl) (by kernel_rfl) ?_
          exact st_retv Try.func94 (show Value.agg #[Value.int IntKind.i64 (hi (d * 86400000000000 + h * 3600000000000 + mi * 60000000000 + s * 1000000000 + n * 1)), Value.int IntKind.u64 (lo (d * 86400000000000 + h * 3600000000000 + mi * 60000000000 + s * 1000000000 + n * 1))] = _ by (unfold dtot; rw [Int.mul_one])) (by kernel_rfl)
      · have _hh := True.intro
        refine st_i 12 .i64 (x' := 4 + 1 + 1 + 1 + 1) (Go.IntWalk.i64_in _ (by omega)) (by kernel_rfl) ?_
        refine st_round (by kernel_rfl) ?_
        refine st_fn ent37 (ulen8) sub0 (by kernel_rfl) ?_
        refine st_fn ent52 (wmul_f (n) (1) (by assumption) (by assumption)) sub0 (by kernel_rfl) ?_
        refine st_appw (b := 10) (b2 := 11) (n := 4) (m := m12) (vs := [Value.int IntKind.i64 (hi (d * 86400000000000)), Value.int IntKind.u64 (lo (d * 86400000000000)), Value.int IntKind.i64 (hi (h * 3600000000000)), Value.int IntKind.u64 (lo (h * 3600000000000)), Value.int IntKind.i64 (hi (mi * 60000000000)), Value.int IntKind.u64 (lo (mi * 60000000000)), Value.int IntKind.i64 (hi (s * 1000000000)), Value.int IntKind.u64 (lo (s * 1000000000))]) (rest := rest12) (v1 := Value.int IntKind.i64 (hi (n * 1))) (v2 := Value.int IntKind.u64 (lo (n * 1))) (by kernel_rfl) (by kernel_rfl) (by kernel_rfl) rfl rfl rfl hr12 hm12 (by omega) (by kernel_rfl) (by kernel_rfl) (fun hm15 rest15 hr15 => ?_) (fun m15 rest15 hm15 hr15 => ?_)
        · have _hh := True.intro
          refine st_i 12 .i64 (x' := 4 + 1 + 1 + 1 + 1 + 1) (Go.IntWalk.i64_in _ (by omega)) (by kernel_rfl) ?_
          refine st_round (by kernel_rfl) ?_
          refine st_sum5 (b := 10) (m := m12) (n1 := (d * 86400000000000)) (n2 := (h * 3600000000000)) (n3 := (mi * 60000000000)) (n4 := (s * 1000000000)) (n5 := (n * 1)) (rest := rest15) ((d * 86400000000000) + (h * 3600000000000) + (mi * 60000000000) + (s * 1000000000) + (n * 1)) rfl (by first | assumption | (unfold W128; omega)) (by first | assumption | (unfold W128; omega)) (by first | assumption | (unfold W128; omega)) (by first | assumption | (unfold W128; omega)) (by first | assumption | (unfold W128; omega)) (by first | assumption | (unfold W128; omega)) (by kernel_rfl) (by kernel_rfl) ?_
          exact st_retv Try.func94 (show Value.agg #[Value.int IntKind.i64 (hi (d * 86400000000000 + h * 3600000000000 + mi * 60000000000 + s * 1000000000 + n * 1)), Value.int IntKind.u64 (lo (d * 86400000000000 + h * 3600000000000 + mi * 60000000000 + s * 1000000000 + n * 1))] = _ by (unfold dtot; rw [Int.mul_one])) (by kernel_rfl)
        · have _hh := True.intro
          refine st_i 12 .i64 (x' := 4 + 1 + 1 + 1 + 1 + 1) (Go.IntWalk.i64_in _ (by omega)) (by kernel_rfl) ?_
          refine st_round (by kernel_rfl) ?_
          refine st_sum5 (b := 12) (m := m15) (n1 := (d * 86400000000000)) (n2 := (h * 3600000000000)) (n3 := (mi * 60000000000)) (n4 := (s * 1000000000)) (n5 := (n * 1)) (rest := rest15) ((d * 86400000000000) + (h * 3600000000000) + (mi * 60000000000) + (s * 1000000000) + (n * 1)) rfl (by first | assumption | (unfold W128; omega)) (by first | assumption | (unfold W128; omega)) (by first | assumption | (unfold W128; omega)) (by first | assumption | (unfold W128; omega)) (by first | assumption | (unfold W128; omega)) (by first | assumption | (unfold W128; omega)) (by kernel_rfl) (by kernel_rfl) ?_
          exact st_retv Try.func94 (show Value.agg #[Value.int IntKind.i64 (hi (d * 86400000000000 + h * 3600000000000 + mi * 60000000000 + s * 1000000000 + n * 1)), Value.int IntKind.u64 (lo (d * 86400000000000 + h * 3600000000000 + mi * 60000000000 + s * 1000000000 + n * 1))] = _ by (unfold dtot; rw [Int.mul_one])) (by kernel_rfl)
end
end Go.Proofs.Ytccllfegnijpiaa
end
section
/-
  What lies between two days, and between two date-times; no program in sight.
-/
set_option linter.unusedVariables false
namespace Go.Proofs.Ytccllfegnijpiaa

section
variable (L y m d y' m' d' : Int)
def uS : Int := cmp3 y' m' d' y m d
end
end Go.Proofs.Ytccllfegnijpiaa
end
section
/-
  What lies between two date-times; no program in sight.
-/
set_option linter.unusedVariables false
namespace Go.Proofs.Ytccllfegnijpiaa

section
variable (y mo d h m s n y' mo' d' h' m' s' n' : Int)
/-- A day more, where the times stand against the days. -/
def bX : Int := if (tnan h' m' s' n' - tnan h m s n) * uS y mo d y' mo' d' < 0 then uS y mo d y' mo' d' else 0
end
end Go.Proofs.Ytccllfegnijpiaa
end
section
/-
  Durations: signs, units, what may be, as the program and the reference reckon them.
-/
set_option linter.unusedVariables false
set_option maxRecDepth 100000
namespace Go.Proofs.Ytccllfegnijpiaa
open Go Go.RowKit Go.Ev

theorem cmpI_sg (x : Int) : (cmpI x 0 = 1 ∧ 0 < x) ∨ (cmpI x 0 = 0 ∧ x = 0) ∨ (cmpI x 0 = -1 ∧ x < 0) := by unfold cmpI; split <;> (try split) <;> omega
theorem cmpI_lt0 {a b : Int} : cmpI a b < 0 ↔ a < b := by unfold cmpI; split <;> (try split) <;> omega
/-- The k-th field. -/
def fl8 (a b c d h mi s n k : Int) : Int := if k = 1 then a else if k = 2 then b else if k = 3 then c else if k = 4 then d else if k = 5 then h else if k = 6 then mi else if k = 7 then s else n
def all64 (a b c d h mi s n : Int) : Prop := I64 a ∧ I64 b ∧ I64 c ∧ I64 d ∧ I64 h ∧ I64 mi ∧ I64 s ∧ I64 n
section
variable (a b c d h mi s n : Int)
theorem usign (i : all64 a b c d h mi s n) : Fn 32 [] [duv a b c d h mi s n] (.int .i64 (sg8 a b c d h mi s n)) := by
  obtain ⟨i1, i2, i3, i4, i5, i6, i7, i8⟩ := i
  refine fn_of Try.func32 rfl fun ww => ?_
  refine ufields_row 0 0 (by kernel_rfl) ?_
  refine st_round (by kernel_rfl) ?_
  by_cases k15 : a ≠ 0
  · refine st_b 15 (bne_iff_ne.2 k15) (by kernel_rfl) ?_
    refine st_fn ent39 (wof_fn (a) (by assumption)) sub0 (by kernel_rfl) ?_
    refine st_fn ent93 (wsign_fn (a)) sub0 (by kernel_rfl) ?_
    exact st_retv Try.func32 (show Value.int IntKind.i64 (cmpI a 0) = _ by (refine i_eq ?_; unfold sg8; simp_all)) (by kernel_rfl)
  · refine st_b 15 (bne_eq_false_iff_eq.2 (Classical.not_not.1 k15)) (by kernel_rfl) ?_
    refine st_i 21 .i64 (x' := 0 + 1) (Go.IntWalk.i64_in _ (by omega)) (by kernel_rfl) ?_
    refine st_round (by kernel_rfl) ?_
    by_cases k15 : b ≠ 0
    · refine st_b 15 (bne_iff_ne.2 k15) (by kernel_rfl) ?_
      refine st_fn ent39 (wof_fn (b) (by assumption)) sub0 (by kernel_rfl) ?_
      refine st_fn ent93 (wsign_fn (b)) sub0 (by kernel_rfl) ?_
      exact st_retv Try.func32 (show Value.int IntKind.i64 (cmpI b 0) = _ by (refine i_eq ?_; unfold sg8; simp_all)) (by kernel_rfl)
    · refine st_b 15 (bne_eq_false_iff_eq.2 (Classical.not_not.1 k15)) (by kernel_rfl) ?_
      refine st_i 21 .i64 (x' := 0 + 1 + 1) (Go.IntWalk.i64_in _ (by omega)) (by kernel_rfl) ?_
      refine st_round (by kernel_rfl) ?_
      by_cases k15 : c ≠ 0
      · refine st_b 15 (bne_iff_ne.2 k15) (by kernel_rfl) ?_
        refine st_fn ent39 (wof_fn (c) (by assumption)) sub0 (by kernel_rfl) ?_
        refine st_fn ent93 (wsign_fn (c)) sub0 (by kernel_rfl) ?_
        exact st_retv Try.func32 (show Value.int IntKind.i64 (cmpI c 0) = _ by (refine i_eq ?_; unfold sg8; simp_all)) (by kernel_rfl)
      · refine st_b 15 (bne_eq_false_iff_eq.2 (Classical.not_not.1 k15)) (by kernel_rfl) ?_
        refine st_i 21 .i64 (x' := 0 + 1 + 1 + 1) (Go.IntWalk.i64_in _ (by omega)) (by kernel_rfl) ?_
        refine st_round (by kernel_rfl) ?_
        by_cases k15 : d ≠ 0
        · refine st_b 15 (bne_iff_ne.2 k15) (by kernel_rfl) ?_
          refine st_fn ent39 (wof_fn (d) (by assumption)) sub0 (by kernel_rfl) ?_
          refine st_fn ent93 (wsign_fn (d)) sub0 (by kernel_rfl) ?_
          exact st_retv Try.func32 (show Value.int IntKind.i64 (cmpI d 0) = _ by (refine i_eq ?_; unfold sg8; simp_all)) (by kernel_rfl)
        · refine st_b 15 (bne_eq_false_iff_eq.2 (Classical.not_not.1 k15)) (by kernel_rfl) ?_
          refine st_i 21 .i64 (x' := 0 + 1 + 1 + 1 + 1) (Go.IntWalk.i64_in _ (by omega)) (by kernel_rfl) ?_
          refine st_round (by kernel_rfl) ?_
          by_cases k15 : h ≠ 0
          · refine st_b 15 (bne_iff_ne.2 k15) (by kernel_rfl) ?_
            refine st_fn ent39 (wof_fn (h) (by assumption)) sub0 (by kernel_rfl) ?_
            refine st_fn ent93 (wsign_fn (h)) sub0 (by kernel_rfl) ?_
            exact st_retv Try.func32 (show Value.int IntKind.i64 (cmpI h 0) = _ by (refine i_eq ?_; unfold sg8; simp_all)) (by kernel_rfl)
          · refine st_b 15 (bne_eq_false_iff_eq.2 (Classical.not_not.1 k15)) (by kernel_rfl) ?_
            refine st_i 21 .i64 (x' := 0 + 1 + 1 + 1 + 1 + 1) (Go.IntWalk.i64_in _ (by omega)) (by kernel_rfl) ?_
            refine st_round (by kernel_rfl) ?_
            by_cases k15 : mi ≠ 0
            · refine st_b 15 (bne_iff_ne.2 k15) (by kernel_rfl) ?_
              refine st_fn ent39 (wof_fn (mi) (by assumption)) sub0 (by kernel_rfl) ?_
              refine st_fn ent93 (wsign_fn (mi)) sub0 (by kernel_rfl) ?_
              exact st_retv Try.func32 (show Value.int IntKind.i64 (cmpI mi 0) = _ by (refine i_eq ?_; unfold sg8; simp_all)) (by kernel_rfl)
            · refine st_b 15 (bne_eq_false_iff_eq.2 (Classical.not_not.1 k15)) (by kernel_rfl) ?_
              refine st_i 21 .i64 (x' := 0 + 1 + 1 + 1 + 1 + 1 + 1) (Go.IntWalk.i64_in _ (by omega)) (by kernel_rfl) ?_
              refine st_round (by kernel_rfl) ?_
              by_cases k15 : s ≠ 0
              · refine st_b 15 (bne_iff_ne.2 k15) (by kernel_rfl) ?_
                refine st_fn ent39 (wof_fn (s) (by assumption)) sub0 (by kernel_rfl) ?_
                refine st_fn ent93 (wsign_fn (s)) sub0 (by kernel_rfl) ?_
                exact st_retv Try.func32 (show Value.int IntKind.i64 (cmpI s 0) = _ by (refine i_eq ?_; unfold sg8; simp_all)) (by kernel_rfl)
              · refine st_b 15 (bne_eq_false_iff_eq.2 (Classical.not_not.1 k15)) (by kernel_rfl) ?_
                refine st_i 21 .i64 (x' := 0 + 1 + 1 + 1 + 1 + 1 + 1 + 1) (Go.IntWalk.i64_in _ (by omega)) (by kernel_rfl) ?_
                refine st_round (by kernel_rfl) ?_
                by_cases k15 : n ≠ 0
                · refine st_b 15 (bne_iff_ne.2 k15) (by kernel_rfl) ?_
                  refine st_fn ent39 (wof_fn (n) (by assumption)) sub0 (by kernel_rfl) ?_
                  refine st_fn ent93 (wsign_fn (n)) sub0 (by kernel_rfl) ?_
                  exact st_retv Try.func32 (show Value.int IntKind.i64 (cmpI n 0) = _ by (refine i_eq ?_; unfold sg8; simp_all)) (by kernel_rfl)
                · refine st_b 15 (bne_eq_false_iff_eq.2 (Classical.not_not.1 k15)) (by kernel_rfl) ?_
                  refine st_i 21 .i64 (x' := 0 + 1 + 1 + 1 + 1 + 1 + 1 + 1 + 1) (Go.IntWalk.i64_in _ (by omega)) (by kernel_rfl) ?_
                  refine st_round (by kernel_rfl) ?_
                  exact st_retv Try.func32 (show Value.int IntKind.i64 0 = _ by (refine i_eq ?_; unfold sg8; simp_all [cmpI])) (by kernel_rfl)
theorem uright_p (i : all64 a b c d h mi s n) (hs : sg8 a b c d h mi s n = 1) (hk : 0 < a ∨ a = 0 ∧ (0 < b ∨ b = 0 ∧ (0 < c ∨ c = 0 ∧ (0 < d ∨ d = 0 ∧ (0 < h ∨ h = 0 ∧ (0 < mi ∨ mi = 0 ∧ (0 < s ∨ s = 0 ∧ 0 < n))))))) : Fn 31 [] [duv a b c d h mi s n] (.bool (decide (uOk a b c d h mi s n))) := by
  have us := usign a b c d h mi s n i
  rw [hs] at us
  obtain ⟨i1, i2, i3, i4, i5, i6, i7, i8⟩ := i
  have wt : W128 (dtot d h mi s n) ∧ W128 (-dtot d h mi s n) := by unfold I64 at *; unfold W128 dtot; omega
  obtain ⟨wt1, wt2⟩ := wt
  have ut := utot a b c d h mi s n i4 i5 i6 i7 i8
  have qt := cmpI_lt0 (a := dtot d h mi s n) (b := 9007199254740992000000000)
  refine fn_of Try.func31 rfl fun ww => ?_
  refine st_fn ent32 (us) sub0 (by kernel_rfl) ?_
  refine ufields_row 0 0 (by kernel_rfl) ?_
  refine st_forget [0, 1, 3, 7, 8, 9, 10, 11, 12, 46, 47, 48, 49, 50, 51, 52, 53, 54, 55, 56, 57, 58] (by kernel_rfl) ?_
  refine st_loop (X := Int) (fun x => ([SV.val (Value.agg #[Value.int IntKind.i64 a, Value.int IntKind.i64 b, Value.int IntKind.i64 c, Value.int IntKind.i64 d, Value.int IntKind.i64 h, Value.int IntKind.i64 mi, Value.int IntKind.i64 s, Value.int IntKind.i64 n]), SV.ptr 0 0, .any, SV.val (Value.int IntKind.i64 1), .any, .any, .any, SV.val (Value.tuple #[]), SV.val (Value.agg #[Value.int IntKind.i64 a, Value.int IntKind.i64 b, Value.int IntKind.i64 c, Value.int IntKind.i64 d, Value.int IntKind.i64 h, Value.int IntKind.i64 mi, Value.int IntKind.i64 s, Value.int IntKind.i64 n]), SV.val (Value.int IntKind.i64 1), SV.sl 1 0 9 9, SV.val (Value.int IntKind.i64 (↑9 : Int)), .val (.int .i64 x), .any, .any, .any, .any, .any, .any, .any, .any, .any, .any, .any, .any, .any, .any, .any, .any, .any, .any, .any, .any, .any, .any, .any, .any, .any, .any, .any, .any, .any, .any, .any, .any, .any, SV.val (Value.tuple #[]), SV.val (Value.tuple #[]), SV.val (Value.tuple #[]), SV.val (Value.tuple #[]), SV.val (Value.tuple #[]), SV.val (Value.tuple #[]), SV.val (Value.tuple #[]), SV.val (Value.tuple #[]), SV.val (Value.tuple #[]), SV.val (Value.tuple #[]), SV.val (Value.tuple #[]), SV.val (Value.tuple #[]), SV.val (Value.tuple #[])], [⟨[SV.val (Value.int IntKind.i64 a), SV.val (Value.int IntKind.i64 b), SV.val (Value.int IntKind.i64 c), SV.val (Value.int IntKind.i64 d), SV.val (Value.int IntKind.i64 h), SV.val (Value.int IntKind.i64 mi), SV.val (Value.int IntKind.i64 s), SV.val (Value.int IntKind.i64 n)], 41⟩, ⟨[SV.val (Value.pointer none), SV.ptr 0 0, SV.ptr 0 1, SV.ptr 0 2, SV.ptr 0 3, SV.ptr 0 4, SV.ptr 0 5, SV.ptr 0 6, SV.ptr 0 7], 134⟩])) (fun _ => _) (fun k => 0 ≤ k ∧ k ≤ 9 ∧ (1 < k → 0 ≤ a ∧ -4294967295 ≤ a ∧ a ≤ 4294967295) ∧ (2 < k → 0 ≤ b ∧ -4294967295 ≤ b ∧ b ≤ 4294967295) ∧ (3 < k → 0 ≤ c ∧ -4294967295 ≤ c ∧ c ≤ 4294967295) ∧ (4 < k → 0 ≤ d) ∧ (5 < k → 0 ≤ h) ∧ (6 < k → 0 ≤ mi) ∧ (7 < k → 0 ≤ s) ∧ (8 < k → 0 ≤ n)) (fun k => (9 - k).toNat) (0) (by kernel_rfl) (by kernel_rfl) Sub.refl (by first | omega | (simp; omega) | assumption | simp_all) (fun y0 px0 back0 => ?_)
  (have q := cmpI_sg (fl8 a b c d h mi s n y0); have hk0 : y0 = 0 ∨ y0 = 1 ∨ y0 = 2 ∨ y0 = 3 ∨ y0 = 4 ∨ y0 = 5 ∨ y0 = 6 ∨ y0 = 7 ∨ y0 = 8 ∨ y0 = 9 := (by omega); rcases hk0 with rfl | rfl | rfl | rfl | rfl | rfl | rfl | rfl | rfl | rfl <;> simp only [fl8, Int.reduceEq, if_true, if_false] at q)
  · have _hh := True.intro
    refine st_i 45 .i64 (x' := 0 + 1) (Go.IntWalk.i64_in _ (by omega)) (by kernel_rfl) ?_
    refine st_forget [0, 1, 2, 3, 6, 7, 8, 9, 10, 11, 12, 19, 20, 21, 22, 23, 24, 25, 26, 27, 28, 29, 30, 31, 32, 33, 34, 35, 36, 37, 38, 39, 40, 41, 42, 43, 44, 46, 47, 48, 49, 50, 51, 52, 53, 54, 55, 56, 57, 58] (by kernel_rfl) ?_
    exact st_back back0 (0 + 1) (by first | omega | (simp only []; omega) | (simp; omega)) (by first | (refine b_eq (decide_eq_false ?_).symm; unfold uOk pos8 neg8 cnt1 LIM; omega) | (refine b_eq (decide_eq_decide.2 ?_); unfold uOk pos8 neg8 cnt1 LIM; rw [qt]; unfold dtot; omega) | omega | (simp only []; omega) | (simp; omega) | assumption | simp_all) (fun p hp => by first | exact hp | simp_all) (by kernel_rfl) (by kernel_rfl) (by kernel_rfl)
  · have _hh := True.intro
    refine st_fn ent39 (wof_fn (a) (by assumption)) sub0 (by kernel_rfl) ?_
    refine st_fn ent93 (wsign_fn (a)) sub0 (by kernel_rfl) ?_
    by_cases k25 : cmpI a 0 ≠ 0
    · refine st_b 25 (bne_iff_ne.2 k25) (by kernel_rfl) ?_
      refine st_b 29 (show (cmpI a 0 != 1) = false by exact bne_eq_false_iff_eq.2 (by omega)) (by kernel_rfl) ?_
      by_cases k37 : a > 4294967295
      · refine st_b 37 (decide_eq_true k37) (by kernel_rfl) ?_
        exact st_retv Try.func31 (show Value.bool (false) = _ by (refine b_eq (decide_eq_false ?_).symm; unfold uOk pos8 neg8 cnt1 LIM; omega)) (by kernel_rfl)
      · refine st_b 37 (decide_eq_false k37) (by kernel_rfl) ?_
        refine st_b 42 (show (decide (a < -4294967295)) = false by exact decide_eq_false (by omega)) (by kernel_rfl) ?_
        refine st_i 45 .i64 (x' := 1 + 1) (Go.IntWalk.i64_in _ (by omega)) (by kernel_rfl) ?_
        refine st_forget [0, 1, 2, 3, 7, 8, 9, 10, 11, 12, 46, 47, 48, 49, 50, 51, 52, 53, 54, 55, 56, 57, 58] (by kernel_rfl) ?_
        exact st_back back0 (1 + 1) (by first | omega | (simp only []; omega) | (simp; omega)) (by first | (refine b_eq (decide_eq_false ?_).symm; unfold uOk pos8 neg8 cnt1 LIM; omega) | (refine b_eq (decide_eq_decide.2 ?_); unfold uOk pos8 neg8 cnt1 LIM; rw [qt]; unfold dtot; omega) | omega | (simp only []; omega) | (simp; omega) | assumption | simp_all) (fun p hp => by first | exact hp | simp_all) (by kernel_rfl) (by kernel_rfl) (by kernel_rfl)
    · refine st_b 25 (bne_eq_false_iff_eq.2 (Classical.not_not.1 k25)) (by kernel_rfl) ?_
      refine st_b 37 (show (decide (a > 4294967295)) = false by exact decide_eq_false (by omega)) (by kernel_rfl) ?_
      refine st_b 42 (show (decide (a < -4294967295)) = false by exact decide_eq_false (by omega)) (by kernel_rfl) ?_
      refine st_i 45 .i64 (x' := 1 + 1) (Go.IntWalk.i64_in _ (by omega)) (by kernel_rfl) ?_
      refine st_forget [0, 1, 2, 3, 7, 8, 9, 10, 11, 12, 46, 47, 48, 49, 50, 51, 52, 53, 54, 55, 56, 57, 58] (by kernel_rfl) ?_
      exact st_back back0 (1 + 1) (by first | omega | (simp only []; omega) | (simp; omega)) (by first | (refine b_eq (decide_eq_false ?_).symm; unfold uOk pos8 neg8 cnt1 LIM; omega) | (refine b_eq (decide_eq_decide.2 ?_); unfold uOk pos8 neg8 cnt1 LIM; rw [qt]; unfold dtot; omega) | omega | (simp only []; omega) | (simp; omega) | assumption | simp_all) (fun p hp => by first | exact hp | simp_all) (by kernel_rfl) (by kernel_rfl) (by kernel_rfl)
  · have _hh := True.intro
    refine st_fn ent39 (wof_fn (b) (by assumption)) sub0 (by kernel_rfl) ?_
    refine st_fn ent93 (wsign_fn (b)) sub0 (by kernel_rfl) ?_
    by_cases k25 : cmpI b 0 ≠ 0
    · refine st_b 25 (bne_iff_ne.2 k25) (by kernel_rfl) ?_
      by_cases k29 : cmpI b 0 ≠ 1
      · refine st_b 29 (bne_iff_ne.2 k29) (by kernel_rfl) ?_
        exact st_retv Try.func31 (show Value.bool (false) = _ by (refine b_eq (decide_eq_false ?_).symm; unfold uOk pos8 neg8 cnt1 LIM; omega)) (by kernel_rfl)
      · refine st_b 29 (bne_eq_false_iff_eq.2 (Classical.not_not.1 k29)) (by kernel_rfl) ?_
        by_cases k37 : b > 4294967295
        · refine st_b 37 (decide_eq_true k37) (by kernel_rfl) ?_
          exact st_retv Try.func31 (show Value.bool (false) = _ by (refine b_eq (decide_eq_false ?_).symm; unfold uOk pos8 neg8 cnt1 LIM; omega)) (by kernel_rfl)
        · refine st_b 37 (decide_eq_false k37) (by kernel_rfl) ?_
          refine st_b 42 (show (decide (b < -4294967295)) = false by exact decide_eq_false (by omega)) (by kernel_rfl) ?_
          refine st_i 45 .i64 (x' := 2 + 1) (Go.IntWalk.i64_in _ (by omega)) (by kernel_rfl) ?_
          refine st_forget [0, 1, 2, 3, 7, 8, 9, 10, 11, 12, 46, 47, 48, 49, 50, 51, 52, 53, 54, 55, 56, 57, 58] (by kernel_rfl) ?_
          exact st_back back0 (2 + 1) (by first | omega | (simp only []; omega) | (simp; omega)) (by first | (refine b_eq (decide_eq_false ?_).symm; unfold uOk pos8 neg8 cnt1 LIM; omega) | (refine b_eq (decide_eq_decide.2 ?_); unfold uOk pos8 neg8 cnt1 LIM; rw [qt]; unfold dtot; omega) | omega | (simp only []; omega) | (simp; omega) | assumption | simp_all) (fun p hp => by first | exact hp | simp_all) (by kernel_rfl) (by kernel_rfl) (by kernel_rfl)
    · refine st_b 25 (bne_eq_false_iff_eq.2 (Classical.not_not.1 k25)) (by kernel_rfl) ?_
      refine st_b 37 (show (decide (b > 4294967295)) = false by exact decide_eq_false (by omega)) (by kernel_rfl) ?_
      refine st_b 42 (show (decide (b < -4294967295)) = false by exact decide_eq_false (by omega)) (by kernel_rfl) ?_
      refine st_i 45 .i64 (x' := 2 + 1) (Go.IntWalk.i64_in _ (by omega)) (by kernel_rfl) ?_
      refine st_forget [0, 1, 2, 3, 7, 8, 9, 10, 11, 12, 46, 47, 48, 49, 50, 51, 52, 53, 54, 55, 56, 57, 58] (by kernel_rfl) ?_
      exact st_back back0 (2 + 1) (by first | omega | (simp only []; omega) | (simp; omega)) (by first | (refine b_eq (decide_eq_false ?_).symm; unfold uOk pos8 neg8 cnt1 LIM; omega) | (refine b_eq (decide_eq_decide.2 ?_); unfold uOk pos8 neg8 cnt1 LIM; rw [qt]; unfold dtot; omega) | omega | (simp only []; omega) | (simp; omega) | assumption | simp_all) (fun p hp => by first | exact hp | simp_all) (by kernel_rfl) (by kernel_rfl) (by kernel_rfl)
  · have _hh := True.intro
    refine st_fn ent39 (wof_fn (c) (by assumption)) sub0 (by kernel_rfl) ?_
    refine st_fn ent93 (wsign_fn (c)) sub0 (by kernel_rfl) ?_
    by_cases k25 : cmpI c 0 ≠ 0
    · refine st_b 25 (bne_iff_ne.2 k25) (by kernel_rfl) ?_
      by_cases k29 : cmpI c 0 ≠ 1
      · refine st_b 29 (bne_iff_ne.2 k29) (by kernel_rfl) ?_
        exact st_retv Try.func31 (show Value.bool (false) = _ by (refine b_eq (decide_eq_false ?_).symm; unfold uOk pos8 neg8 cnt1 LIM; omega)) (by kernel_rfl)
      · refine st_b 29 (bne_eq_false_iff_eq.2 (Classical.not_not.1 k29)) (by kernel_rfl) ?_
        by_cases k37 : c > 4294967295
        · refine st_b 37 (decide_eq_true k37) (by kernel_rfl) ?_
          exact st_retv Try.func31 (show Value.bool (false) = _ by (refine b_eq (decide_eq_false ?_).symm; unfold uOk pos8 neg8 cnt1 LIM; omega)) (by kernel_rfl)
        · refine st_b 37 (decide_eq_false k37) (by kernel_rfl) ?_
          refine st_b 42 (show (decide (c < -4294967295)) = false by exact decide_eq_false (by omega)) (by kernel_rfl) ?_
          refine st_i 45 .i64 (x' := 3 + 1) (Go.IntWalk.i64_in _ (by omega)) (by kernel_rfl) ?_
          refine st_forget [0, 1, 2, 3, 7, 8, 9, 10, 11, 12, 46, 47, 48, 49, 50, 51, 52, 53, 54, 55, 56, 57, 58] (by kernel_rfl) ?_
          exact st_back back0 (3 + 1) (by first | omega | (simp only []; omega) | (simp; omega)) (by first | (refine b_eq (decide_eq_false ?_).symm; unfold uOk pos8 neg8 cnt1 LIM; omega) | (refine b_eq (decide_eq_decide.2 ?_); unfold uOk pos8 neg8 cnt1 LIM; rw [qt]; unfold dtot; omega) | omega | (simp only []; omega) | (simp; omega) | assumption | simp_all) (fun p hp => by first | exact hp | simp_all) (by kernel_rfl) (by kernel_rfl) (by kernel_rfl)
    · refine st_b 25 (bne_eq_false_iff_eq.2 (Classical.not_not.1 k25)) (by kernel_rfl) ?_
      refine st_b 37 (show (decide (c > 4294967295)) = false by exact decide_eq_false (by omega)) (by kernel_rfl) ?_
      refine st_b 42 (show (decide (c < -4294967295)) = false by exact decide_eq_false (by omega)) (by kernel_rfl) ?_
      refine st_i 45 .i64 (x' := 3 + 1) (Go.IntWalk.i64_in _ (by omega)) (by kernel_rfl) ?_
      refine st_forget [0, 1, 2, 3, 7, 8, 9, 10, 11, 12, 46, 47, 48, 49, 50, 51, 52, 53, 54, 55, 56, 57, 58] (by kernel_rfl) ?_
      exact st_back back0 (3 + 1) (by first | omega | (simp only []; omega) | (simp; omega)) (by first | (refine b_eq (decide_eq_false ?_).symm; unfold uOk pos8 neg8 cnt1 LIM; omega) | (refine b_eq (decide_eq_decide.2 ?_); unfold uOk pos8 neg8 cnt1 LIM; rw [qt]; unfold dtot; omega) | omega | (simp only []; omega) | (simp; omega) | assumption | simp_all) (fun p hp => by first | exact hp | simp_all) (by kernel_rfl) (by kernel_rfl) (by kernel_rfl)
  · have _hh := True.intro
    refine st_fn ent39 (wof_fn (d) (by assumption)) sub0 (by kernel_rfl) ?_
    refine st_fn ent93 (wsign_fn (d)) sub0 (by kernel_rfl) ?_
    by_cases k25 : cmpI d 0 ≠ 0
    · refine st_b 25 (bne_iff_ne.2 k25) (by kernel_rfl) ?_
      by_cases k29 : cmpI d 0 ≠ 1
      · refine st_b 29 (bne_iff_ne.2 k29) (by kernel_rfl) ?_
        exact st_retv Try.func31 (show Value.bool (false) = _ by (refine b_eq (decide_eq_false ?_).symm; unfold uOk pos8 neg8 cnt1 LIM; omega)) (by kernel_rfl)
      · refine st_b 29 (bne_eq_false_iff_eq.2 (Classical.not_not.1 k29)) (by kernel_rfl) ?_
        refine st_i 45 .i64 (x' := 4 + 1) (Go.IntWalk.i64_in _ (by omega)) (by kernel_rfl) ?_
        refine st_forget [0, 1, 2, 3, 7, 8, 9, 10, 11, 12, 46, 47, 48, 49, 50, 51, 52, 53, 54, 55, 56, 57, 58] (by kernel_rfl) ?_
        exact st_back back0 (4 + 1) (by first | omega | (simp only []; omega) | (simp; omega)) (by first | (refine b_eq (decide_eq_false ?_).symm; unfold uOk pos8 neg8 cnt1 LIM; omega) | (refine b_eq (decide_eq_decide.2 ?_); unfold uOk pos8 neg8 cnt1 LIM; rw [qt]; unfold dtot; omega) | omega | (simp only []; omega) | (simp; omega) | assumption | simp_all) (fun p hp => by first | exact hp | simp_all) (by kernel_rfl) (by kernel_rfl) (by kernel_rfl)
    · refine st_b 25 (bne_eq_false_iff_eq.2 (Classical.not_not.1 k25)) (by kernel_rfl) ?_
      refine st_i 45 .i64 (x' := 4 + 1) (Go.IntWalk.i64_in _ (by omega)) (by kernel_rfl) ?_
      refine st_forget [0, 1, 2, 3, 7, 8, 9, 10, 11, 12, 46, 47, 48, 49, 50, 51, 52, 53, 54, 55, 56, 57, 58] (by kernel_rfl) ?_
      exact st_back back0 (4 + 1) (by first | omega | (simp only []; omega) | (simp; omega)) (by first | (refine b_eq (decide_eq_false ?_).symm; unfold uOk pos8 neg8 cnt1 LIM; omega) | (refine b_eq (decide_eq_decide.2 ?_); unfold uOk pos8 neg8 cnt1 LIM; rw [qt]; unfold dtot; omega) | omega | (simp only []; omega) | (simp; omega) | assumption | simp_all) (fun p hp => by first | exact hp | simp_all) (by kernel_rfl) (by kernel_rfl) (by kernel_rfl)
  · have _hh := True.intro
    refine st_fn ent39 (wof_fn (h) (by assumption)) sub0 (by kernel_rfl) ?_
    refine st_fn ent93 (wsign_fn (h)) sub0 (by kernel_rfl) ?_
    by_cases k25 : cmpI h 0 ≠ 0
    · refine st_b 25 (bne_iff_ne.2 k25) (by kernel_rfl) ?_
      by_cases k29 : cmpI h 0 ≠ 1
      · refine st_b 29 (bne_iff_ne.2 k29) (by kernel_rfl) ?_
        exact st_retv Try.func31 (show Value.bool (false) = _ by (refine b_eq (decide_eq_false ?_).symm; unfold uOk pos8 neg8 cnt1 LIM; omega)) (by kernel_rfl)
      · refine st_b 29 (bne_eq_false_iff_eq.2 (Classical.not_not.1 k29)) (by kernel_rfl) ?_
        refine st_i 45 .i64 (x' := 5 + 1) (Go.IntWalk.i64_in _ (by omega)) (by kernel_rfl) ?_
        refine st_forget [0, 1, 2, 3, 7, 8, 9, 10, 11, 12, 46, 47, 48, 49, 50, 51, 52, 53, 54, 55, 56, 57, 58] (by kernel_rfl) ?_
        exact st_back back0 (5 + 1) (by first | omega | (simp only []; omega) | (simp; omega)) (by first | (refine b_eq (decide_eq_false ?_).symm; unfold uOk pos8 neg8 cnt1 LIM; omega) | (refine b_eq (decide_eq_decide.2 ?_); unfold uOk pos8 neg8 cnt1 LIM; rw [qt]; unfold dtot; omega) | omega | (simp only []; omega) | (simp; omega) | assumption | simp_all) (fun p hp => by first | exact hp | simp_all) (by kernel_rfl) (by kernel_rfl) (by kernel_rfl)
    · refine st_b 25 (bne_eq_false_iff_eq.2 (Classical.not_not.1 k25)) (by kernel_rfl) ?_
      refine st_i 45 .i64 (x' := 5 + 1) (Go.IntWalk.i64_in _ (by omega)) (by kernel_rfl) ?_
      refine st_forget [0, 1, 2, 3, 7, 8, 9, 10, 11, 12, 46, 47, 48, 49, 50, 51, 52, 53, 54, 55, 56, 57, 58] (by kernel_rfl) ?_
      exact st_back back0 (5 + 1) (by first | omega | (simp only []; omega) | (simp; omega)) (by first | (refine b_eq (decide_eq_false ?_).symm; unfold uOk pos8 neg8 cnt1 LIM; omega) | (refine b_eq (decide_eq_decide.2 ?_); unfold uOk pos8 neg8 cnt1 LIM; rw [qt]; unfold dtot; omega) | omega | (simp only []; omega) | (simp; omega) | assumption | simp_all) (fun p hp => by first | exact hp | simp_all) (by kernel_rfl) (by kernel_rfl) (by kernel_rfl)
  · have _hh := True.intro
    refine st_fn ent39 (wof_fn (mi) (by assumption)) sub0 (by kernel_rfl) ?_
    refine st_fn ent93 (wsign_fn (mi)) sub0 (by kernel_rfl) ?_
    by_cases k25 : cmpI mi 0 ≠ 0
    · refine st_b 25 (bne_iff_ne.2 k25) (by kernel_rfl) ?_
      by_cases k29 : cmpI mi 0 ≠ 1
      · refine st_b 29 (bne_iff_ne.2 k29) (by kernel_rfl) ?_
        exact st_retv Try.func31 (show Value.bool (false) = _ by (refine b_eq (decide_eq_false ?_).symm; unfold uOk pos8 neg8 cnt1 LIM; omega)) (by kernel_rfl)
      · refine st_b 29 (bne_eq_false_iff_eq.2 (Classical.not_not.1 k29)) (by kernel_rfl) ?_
        refine st_i 45 .i64 (x' := 6 + 1) (Go.IntWalk.i64_in _ (by omega)) (by kernel_rfl) ?_
        refine st_forget [0, 1, 2, 3, 7, 8, 9, 10, 11, 12, 46, 47, 48, 49, 50, 51, 52, 53, 54, 55, 56, 57, 58] (by kernel_rfl) ?_
        exact st_back back0 (6 + 1) (by first | omega | (simp only []; omega) | (simp; omega)) (by first | (refine b_eq (decide_eq_false ?_).symm; unfold uOk pos8 neg8 cnt1 LIM; omega) | (refine b_eq (decide_eq_decide.2 ?_); unfold uOk pos8 neg8 cnt1 LIM; rw [qt]; unfold dtot; omega) | omega | (simp only []; omega) | (simp; omega) | assumption | simp_all) (fun p hp => by first | exact hp | simp_all) (by kernel_rfl) (by kernel_rfl) (by kernel_rfl)
    · refine st_b 25 (bne_eq_false_iff_eq.2 (Classical.not_not.1 k25)) (by kernel_rfl) ?_
      refine st_i 45 .i64 (x' := 6 + 1) (Go.IntWalk.i64_in _ (by omega)) (by kernel_rfl) ?_
      refine st_forget [0, 1, 2, 3, 7, 8, 9, 10, 11, 12, 46, 47, 48, 49, 50, 51, 52, 53, 54, 55, 56, 57, 58] (by kernel_rfl) ?_
      exact st_back back0 (6 + 1) (by first | omega | (simp only []; omega) | (simp; omega)) (by first | (refine b_eq (decide_eq_false ?_).symm; unfold uOk pos8 neg8 cnt1 LIM; omega) | (refine b_eq (decide_eq_decide.2 ?_); unfold uOk pos8 neg8 cnt1 LIM; rw [qt]; unfold dtot; omega) | omega | (simp only []; omega) | (simp; omega) | assumption | simp_all) (fun p hp => by first | exact hp | simp_all) (by kernel_rfl) (by kernel_rfl) (by kernel_rfl)
  · have _hh := True.intro
    refine st_fn ent39 (wof_fn (s) (by assumption)) sub0 (by kernel_rfl) ?_
    refine st_fn ent93 (wsign_fn (s)) sub0 (by kernel_rfl) ?_
    by_cases k25 : cmpI s 0 ≠ 0
    · refine st_b 25 (bne_iff_ne.2 k25) (by kernel_rfl) ?_
      by_cases k29 : cmpI s 0 ≠ 1
      · refine st_b 29 (bne_iff_ne.2 k29) (by kernel_rfl) ?_
        exact st_retv Try.func31 (show Value.bool (false) = _ by (refine b_eq (decide_eq_false ?_).symm; unfold uOk pos8 neg8 cnt1 LIM; omega)) (by kernel_rfl)
      · refine st_b 29 (bne_eq_false_iff_eq.2 (Classical.not_not.1 k29)) (by kernel_rfl) ?_
        refine st_i 45 .i64 (x' := 7 + 1) (Go.IntWalk.i64_in _ (by omega)) (by kernel_rfl) ?_
        refine st_forget [0, 1, 2, 3, 7, 8, 9, 10, 11, 12, 46, 47, 48, 49, 50, 51, 52, 53, 54, 55, 56, 57, 58] (by kernel_rfl) ?_
        exact st_back back0 (7 + 1) (by first | omega | (simp only []; omega) | (simp; omega)) (by first | (refine b_eq (decide_eq_false ?_).symm; unfold uOk pos8 neg8 cnt1 LIM; omega) | (refine b_eq (decide_eq_decide.2 ?_); unfold uOk pos8 neg8 cnt1 LIM; rw [qt]; unfold dtot; omega) | omega | (simp only []; omega) | (simp; omega) | assumption | simp_all) (fun p hp => by first | exact hp | simp_all) (by kernel_rfl) (by kernel_rfl) (by kernel_rfl)
    · refine st_b 25 (bne_eq_false_iff_eq.2 (Classical.not_not.1 k25)) (by kernel_rfl) ?_
      refine st_i 45 .i64 (x' := 7 + 1) (Go.IntWalk.i64_in _ (by omega)) (by kernel_rfl) ?_
      refine st_forget [0, 1, 2, 3, 7, 8, 9, 10, 11, 12, 46, 47, 48, 49, 50, 51, 52, 53, 54, 55, 56, 57, 58] (by kernel_rfl) ?_
      exact st_back back0 (7 + 1) (by first | omega | (simp only []; omega) | (simp; omega)) (by first | (refine b_eq (decide_eq_false ?_).symm; unfold uOk pos8 neg8 cnt1 LIM; omega) | (refine b_eq (decide_eq_decide.2 ?_); unfold uOk pos8 neg8 cnt1 LIM; rw [qt]; unfold dtot; omega) | omega | (simp only []; omega) | (simp; omega) | assumption | simp_all) (fun p hp => by first | exact hp | simp_all) (by kernel_rfl) (by kernel_rfl) (by kernel_rfl)
  · have _hh := True.intro
    refine st_fn ent39 (wof_fn (n) (by assumption)) sub0 (by kernel_rfl) ?_
    refine st_fn ent93 (wsign_fn (n)) sub0 (by kernel_rfl) ?_
    by_cases k25 : cmpI n 0 ≠ 0
    · refine st_b 25 (bne_iff_ne.2 k25) (by kernel_rfl) ?_
      by_cases k29 : cmpI n 0 ≠ 1
      · refine st_b 29 (bne_iff_ne.2 k29) (by kernel_rfl) ?_
        exact st_retv Try.func31 (show Value.bool (false) = _ by (refine b_eq (decide_eq_false ?_).symm; unfold uOk pos8 neg8 cnt1 LIM; omega)) (by kernel_rfl)
      · refine st_b 29 (bne_eq_false_iff_eq.2 (Classical.not_not.1 k29)) (by kernel_rfl) ?_
        refine st_i 45 .i64 (x' := 8 + 1) (Go.IntWalk.i64_in _ (by omega)) (by kernel_rfl) ?_
        refine st_forget [0, 1, 2, 3, 7, 8, 9, 10, 11, 12, 46, 47, 48, 49, 50, 51, 52, 53, 54, 55, 56, 57, 58] (by kernel_rfl) ?_
        exact st_back back0 (8 + 1) (by first | omega | (simp only []; omega) | (simp; omega)) (by first | (refine b_eq (decide_eq_false ?_).symm; unfold uOk pos8 neg8 cnt1 LIM; omega) | (refine b_eq (decide_eq_decide.2 ?_); unfold uOk pos8 neg8 cnt1 LIM; rw [qt]; unfold dtot; omega) | omega | (simp only []; omega) | (simp; omega) | assumption | simp_all) (fun p hp => by first | exact hp | simp_all) (by kernel_rfl) (by kernel_rfl) (by kernel_rfl)
    · refine st_b 25 (bne_eq_false_iff_eq.2 (Classical.not_not.1 k25)) (by kernel_rfl) ?_
      refine st_i 45 .i64 (x' := 8 + 1) (Go.IntWalk.i64_in _ (by omega)) (by kernel_rfl) ?_
      refine st_forget [0, 1, 2, 3, 7, 8, 9, 10, 11, 12, 46, 47, 48, 49, 50, 51, 52, 53, 54, 55, 56, 57, 58] (by kernel_rfl) ?_
      exact st_back back0 (8 + 1) (by first | omega | (simp only []; omega) | (simp; omega)) (by first | (refine b_eq (decide_eq_false ?_).symm; unfold uOk pos8 neg8 cnt1 LIM; omega) | (refine b_eq (decide_eq_decide.2 ?_); unfold uOk pos8 neg8 cnt1 LIM; rw [qt]; unfold dtot; omega) | omega | (simp only []; omega) | (simp; omega) | assumption | simp_all) (fun p hp => by first | exact hp | simp_all) (by kernel_rfl) (by kernel_rfl) (by kernel_rfl)
  · have _hh := True.intro
    refine st_fn ent94 (ut) sub0 (by kernel_rfl) ?_
    refine st_fn ent95 (ulimit) sub0 (by kernel_rfl) ?_
    refine st_fn ent57 (wcmp_fn (dtot d h mi s n) (9007199254740992000000000)) sub0 (by kernel_rfl) ?_
    exact st_retv Try.func31 (show Value.bool (decide (cmpI (dtot d h mi s n) 9007199254740992000000000 < 0)) = _ by (refine b_eq (decide_eq_decide.2 ?_); unfold uOk pos8 neg8 cnt1 LIM; rw [qt]; unfold dtot; omega)) (by kernel_rfl)
theorem uright_n (i : all64 a b c d h mi s n) (hs : sg8 a b c d h mi s n = -1) (hk : a < 0 ∨ a = 0 ∧ (b < 0 ∨ b = 0 ∧ (c < 0 ∨ c = 0 ∧ (d < 0 ∨ d = 0 ∧ (h < 0 ∨ h = 0 ∧ (mi < 0 ∨ mi = 0 ∧ (s < 0 ∨ s = 0 ∧ n < 0))))))) : Fn 31 [] [duv a b c d h mi s n] (.bool (decide (uOk a b c d h mi s n))) := by
  have us := usign a b c d h mi s n i
  rw [hs] at us
  obtain ⟨i1, i2, i3, i4, i5, i6, i7, i8⟩ := i
  have wt : W128 (dtot d h mi s n) ∧ W128 (-dtot d h mi s n) := by unfold I64 at *; unfold W128 dtot; omega
  obtain ⟨wt1, wt2⟩ := wt
  have ut := utot a b c d h mi s n i4 i5 i6 i7 i8
  have qt := cmpI_lt0 (a := -dtot d h mi s n) (b := 9007199254740992000000000)
  refine fn_of Try.func31 rfl fun ww => ?_
  refine st_fn ent32 (us) sub0 (by kernel_rfl) ?_
  refine ufields_row 0 0 (by kernel_rfl) ?_
  refine st_forget [0, 1, 3, 7, 8, 9, 10, 11, 12, 46, 47, 48, 49, 50, 51, 52, 53, 54, 55, 56, 57, 58] (by kernel_rfl) ?_
  refine st_loop (X := Int) (fun x => ([SV.val (Value.agg #[Value.int IntKind.i64 a, Value.int IntKind.i64 b, Value.int IntKind.i64 c, Value.int IntKind.i64 d, Value.int IntKind.i64 h, Value.int IntKind.i64 mi, Value.int IntKind.i64 s, Value.int IntKind.i64 n]), SV.ptr 0 0, .any, SV.val (Value.int IntKind.i64 (-1)), .any, .any, .any, SV.val (Value.tuple #[]), SV.val (Value.agg #[Value.int IntKind.i64 a, Value.int IntKind.i64 b, Value.int IntKind.i64 c, Value.int IntKind.i64 d, Value.int IntKind.i64 h, Value.int IntKind.i64 mi, Value.int IntKind.i64 s, Value.int IntKind.i64 n]), SV.val (Value.int IntKind.i64 (-1)), SV.sl 1 0 9 9, SV.val (Value.int IntKind.i64 (↑9 : Int)), .val (.int .i64 x), .any, .any, .any, .any, .any, .any, .any, .any, .any, .any, .any, .any, .any, .any, .any, .any, .any, .any, .any, .any, .any, .any, .any, .any, .any, .any, .any, .any, .any, .any, .any, .any, .any, SV.val (Value.tuple #[]), SV.val (Value.tuple #[]), SV.val (Value.tuple #[]), SV.val (Value.tuple #[]), SV.val (Value.tuple #[]), SV.val (Value.tuple #[]), SV.val (Value.tuple #[]), SV.val (Value.tuple #[]), SV.val (Value.tuple #[]), SV.val (Value.tuple #[]), SV.val (Value.tuple #[]), SV.val (Value.tuple #[]), SV.val (Value.tuple #[])], [⟨[SV.val (Value.int IntKind.i64 a), SV.val (Value.int IntKind.i64 b), SV.val (Value.int IntKind.i64 c), SV.val (Value.int IntKind.i64 d), SV.val (Value.int IntKind.i64 h), SV.val (Value.int IntKind.i64 mi), SV.val (Value.int IntKind.i64 s), SV.val (Value.int IntKind.i64 n)], 41⟩, ⟨[SV.val (Value.pointer none), SV.ptr 0 0, SV.ptr 0 1, SV.ptr 0 2, SV.ptr 0 3, SV.ptr 0 4, SV.ptr 0 5, SV.ptr 0 6, SV.ptr 0 7], 134⟩])) (fun _ => _) (fun k => 0 ≤ k ∧ k ≤ 9 ∧ (1 < k → a ≤ 0 ∧ -4294967295 ≤ a ∧ a ≤ 4294967295) ∧ (2 < k → b ≤ 0 ∧ -4294967295 ≤ b ∧ b ≤ 4294967295) ∧ (3 < k → c ≤ 0 ∧ -4294967295 ≤ c ∧ c ≤ 4294967295) ∧ (4 < k → d ≤ 0) ∧ (5 < k → h ≤ 0) ∧ (6 < k → mi ≤ 0) ∧ (7 < k → s ≤ 0) ∧ (8 < k → n ≤ 0)) (fun k => (9 - k).toNat) (0) (by kernel_rfl) (by kernel_rfl) Sub.refl (by first | omega | (simp; omega) | assumption | simp_all) (fun y0 px0 back0 => ?_)
  (have q := cmpI_sg (fl8 a b c d h mi s n y0); have hk0 : y0 = 0 ∨ y0 = 1 ∨ y0 = 2 ∨ y0 = 3 ∨ y0 = 4 ∨ y0 = 5 ∨ y0 = 6 ∨ y0 = 7 ∨ y0 = 8 ∨ y0 = 9 := (by omega); rcases hk0 with rfl | rfl | rfl | rfl | rfl | rfl | rfl | rfl | rfl | rfl <;> simp only [fl8, Int.reduceEq, if_true, if_false] at q)
  · have _hh := True.intro
    refine st_i 45 .i64 (x' := 0 + 1) (Go.IntWalk.i64_in _ (by omega)) (by kernel_rfl) ?_
    refine st_forget [0, 1, 2, 3, 6, 7, 8, 9, 10, 11, 12, 19, 20, 21, 22, 23, 24, 25, 26, 27, 28, 29, 30, 31, 32, 33, 34, 35, 36, 37, 38, 39, 40, 41, 42, 43, 44, 46, 47, 48, 49, 50, 51, 52, 53, 54, 55, 56, 57, 58] (by kernel_rfl) ?_
    exact st_back back0 (0 + 1) (by first | omega | (simp only []; omega) | (simp; omega)) (by first | (refine b_eq (decide_eq_false ?_).symm; unfold uOk pos8 neg8 cnt1 LIM; omega) | (refine b_eq (decide_eq_decide.2 ?_); unfold uOk pos8 neg8 cnt1 LIM; rw [qt]; unfold dtot; omega) | omega | (simp only []; omega) | (simp; omega) | assumption | simp_all) (fun p hp => by first | exact hp | simp_all) (by kernel_rfl) (by kernel_rfl) (by kernel_rfl)
  · have _hh := True.intro
    refine st_fn ent39 (wof_fn (a) (by assumption)) sub0 (by kernel_rfl) ?_
    refine st_fn ent93 (wsign_fn (a)) sub0 (by kernel_rfl) ?_
    by_cases k25 : cmpI a 0 ≠ 0
    · refine st_b 25 (bne_iff_ne.2 k25) (by kernel_rfl) ?_
      refine st_b 29 (show (cmpI a 0 != -1) = false by exact bne_eq_false_iff_eq.2 (by omega)) (by kernel_rfl) ?_
      refine st_b 37 (show (decide (a > 4294967295)) = false by exact decide_eq_false (by omega)) (by kernel_rfl) ?_
      by_cases k42 : a < -4294967295
      · refine st_b 42 (decide_eq_true k42) (by kernel_rfl) ?_
        exact st_retv Try.func31 (show Value.bool (false) = _ by (refine b_eq (decide_eq_false ?_).symm; unfold uOk pos8 neg8 cnt1 LIM; omega)) (by kernel_rfl)
      · refine st_b 42 (decide_eq_false k42) (by kernel_rfl) ?_
        refine st_i 45 .i64 (x' := 1 + 1) (Go.IntWalk.i64_in _ (by omega)) (by kernel_rfl) ?_
        refine st_forget [0, 1, 2, 3, 7, 8, 9, 10, 11, 12, 46, 47, 48, 49, 50, 51, 52, 53, 54, 55, 56, 57, 58] (by kernel_rfl) ?_
        exact st_back back0 (1 + 1) (by first | omega | (simp only []; omega) | (simp; omega)) (by first | (refine b_eq (decide_eq_false ?_).symm; unfold uOk pos8 neg8 cnt1 LIM; omega) | (refine b_eq (decide_eq_decide.2 ?_); unfold uOk pos8 neg8 cnt1 LIM; rw [qt]; unfold dtot; omega) | omega | (simp only []; omega) | (simp; omega) | assumption | simp_all) (fun p hp => by first | exact hp | simp_all) (by kernel_rfl) (by kernel_rfl) (by kernel_rfl)
    · refine st_b 25 (bne_eq_false_iff_eq.2 (Classical.not_not.1 k25)) (by kernel_rfl) ?_
      refine st_b 37 (show (decide (a > 4294967295)) = false by exact decide_eq_false (by omega)) (by kernel_rfl) ?_
      refine st_b 42 (show (decide (a < -4294967295)) = false by exact decide_eq_false (by omega)) (by kernel_rfl) ?_
      refine st_i 45 .i64 (x' := 1 + 1) (Go.IntWalk.i64_in _ (by omega)) (by kernel_rfl) ?_
      refine st_forget [0, 1, 2, 3, 7, 8, 9, 10, 11, 12, 46, 47, 48, 49, 50, 51, 52, 53, 54, 55, 56, 57, 58] (by kernel_rfl) ?_
      exact st_back back0 (1 + 1) (by first | omega | (simp only []; omega) | (simp; omega)) (by first | (refine b_eq (decide_eq_false ?_).symm; unfold uOk pos8 neg8 cnt1 LIM; omega) | (refine b_eq (decide_eq_decide.2 ?_); unfold uOk pos8 neg8 cnt1 LIM; rw [qt]; unfold dtot; omega) | omega | (simp only []; omega) | (simp; omega) | assumption | simp_all) (fun p hp => by first | exact hp | simp_all) (by kernel_rfl) (by kernel_rfl) (by kernel_rfl)
  · have _hh := True.intro
    refine st_fn ent39 (wof_fn (b) (by assumption)) sub0 (by kernel_rfl) ?_
    refine st_fn ent93 (wsign_fn (b)) sub0 (by kernel_rfl) ?_
    by_cases k25 : cmpI b 0 ≠ 0
    · refine st_b 25 (bne_iff_ne.2 k25) (by kernel_rfl) ?_
      by_cases k29 : cmpI b 0 ≠ -1
      · refine st_b 29 (bne_iff_ne.2 k29) (by kernel_rfl) ?_
        exact st_retv Try.func31 (show Value.bool (false) = _ by (refine b_eq (decide_eq_false ?_).symm; unfold uOk pos8 neg8 cnt1 LIM; omega)) (by kernel_rfl)
      · refine st_b 29 (bne_eq_false_iff_eq.2 (Classical.not_not.1 k29)) (by kernel_rfl) ?_
        refine st_b 37 (show (decide (b > 4294967295)) = false by exact decide_eq_false (by omega)) (by kernel_rfl) ?_
        by_cases k42 : b < -4294967295
        · refine st_b 42 (decide_eq_true k42) (by kernel_rfl) ?_
          exact st_retv Try.func31 (show Value.bool (false) = _ by (refine b_eq (decide_eq_false ?_).symm; unfold uOk pos8 neg8 cnt1 LIM; omega)) (by kernel_rfl)
        · refine st_b 42 (decide_eq_false k42) (by kernel_rfl) ?_
          refine st_i 45 .i64 (x' := 2 + 1) (Go.IntWalk.i64_in _ (by omega)) (by kernel_rfl) ?_
          refine st_forget [0, 1, 2, 3, 7, 8, 9, 10, 11, 12, 46, 47, 48, 49, 50, 51, 52, 53, 54, 55, 56, 57, 58] (by kernel_rfl) ?_
          exact st_back back0 (2 + 1) (by first | omega | (simp only []; omega) | (simp; omega)) (by first | (refine b_eq (decide_eq_false ?_).symm; unfold uOk pos8 neg8 cnt1 LIM; omega) | (refine b_eq (decide_eq_decide.2 ?_); unfold uOk pos8 neg8 cnt1 LIM; rw [qt]; unfold dtot; omega) | omega | (simp only []; omega) | (simp; omega) | assumption | simp_all) (fun p hp => by first | exact hp | simp_all) (by kernel_rfl) (by kernel_rfl) (by kernel_rfl)
    · refine st_b 25 (bne_eq_false_iff_eq.2 (Classical.not_not.1 k25)) (by kernel_rfl) ?_
      refine st_b 37 (show (decide (b > 4294967295)) = false by exact decide_eq_false (by omega)) (by kernel_rfl) ?_
      refine st_b 42 (show (decide (b < -4294967295)) = false by exact decide_eq_false (by omega)) (by kernel_rfl) ?_
      refine st_i 45 .i64 (x' := 2 + 1) (Go.IntWalk.i64_in _ (by omega)) (by kernel_rfl) ?_
      refine st_forget [0, 1, 2, 3, 7, 8, 9, 10, 11, 12, 46, 47, 48, 49, 50, 51, 52, 53, 54, 55, 56, 57, 58] (by kernel_rfl) ?_
      exact st_back back0 (2 + 1) (by first | omega | (simp only []; omega) | (simp; omega)) (by first | (refine b_eq (decide_eq_false ?_).symm; unfold uOk pos8 neg8 cnt1 LIM; omega) | (refine b_eq (decide_eq_decide.2 ?_); unfold uOk pos8 neg8 cnt1 LIM; rw [qt]; unfold dtot; omega) | omega | (simp only []; omega) | (simp; omega) | assumption | simp_all) (fun p hp => by first | exact hp | simp_all) (by kernel_rfl) (by kernel_rfl) (by kernel_rfl)
  · have _hh := True.intro
    refine st_fn ent39 (wof_fn (c) (by assumption)) sub0 (by kernel_rfl) ?_
    refine st_fn ent93 (wsign_fn (c)) sub0 (by kernel_rfl) ?_
    by_cases k25 : cmpI c 0 ≠ 0
    · refine st_b 25 (bne_iff_ne.2 k25) (by kernel_rfl) ?_
      by_cases k29 : cmpI c 0 ≠ -1
      · refine st_b 29 (bne_iff_ne.2 k29) (by kernel_rfl) ?_
        exact st_retv Try.func31 (show Value.bool (false) = _ by (refine b_eq (decide_eq_false ?_).symm; unfold uOk pos8 neg8 cnt1 LIM; omega)) (by kernel_rfl)
      · refine st_b 29 (bne_eq_false_iff_eq.2 (Classical.not_not.1 k29)) (by kernel_rfl) ?_
        refine st_b 37 (show (decide (c > 4294967295)) = false by exact decide_eq_false (by omega)) (by kernel_rfl) ?_
        by_cases k42 : c < -4294967295
        · refine st_b 42 (decide_eq_true k42) (by kernel_rfl) ?_
          exact st_retv Try.func31 (show Value.bool (false) = _ by (refine b_eq (decide_eq_false ?_).symm; unfold uOk pos8 neg8 cnt1 LIM; omega)) (by kernel_rfl)
        · refine st_b 42 (decide_eq_false k42) (by kernel_rfl) ?_
          refine st_i 45 .i64 (x' := 3 + 1) (Go.IntWalk.i64_in _ (by omega)) (by kernel_rfl) ?_
          refine st_forget [0, 1, 2, 3, 7, 8, 9, 10, 11, 12, 46, 47, 48, 49, 50, 51, 52, 53, 54, 55, 56, 57, 58] (by kernel_rfl) ?_
          exact st_back back0 (3 + 1) (by first | omega | (simp only []; omega) | (simp; omega)) (by first | (refine b_eq (decide_eq_false ?_).symm; unfold uOk pos8 neg8 cnt1 LIM; omega) | (refine b_eq (decide_eq_decide.2 ?_); unfold uOk pos8 neg8 cnt1 LIM; rw [qt]; unfold dtot; omega) | omega | (simp only []; omega) | (simp; omega) | assumption | simp_all) (fun p hp => by first | exact hp | simp_all) (by kernel_rfl) (by kernel_rfl) (by kernel_rfl)
    · refine st_b 25 (bne_eq_false_iff_eq.2 (Classical.not_not.1 k25)) (by kernel_rfl) ?_
      refine st_b 37 (show (decide (c > 4294967295)) = false by exact decide_eq_false (by omega)) (by kernel_rfl) ?_
      refine st_b 42 (show (decide (c < -4294967295)) = false by exact decide_eq_false (by omega)) (by kernel_rfl) ?_
      refine st_i 45 .i64 (x' := 3 + 1) (Go.IntWalk.i64_in _ (by omega)) (by kernel_rfl) ?_
      refine st_forget [0, 1, 2, 3, 7, 8, 9, 10, 11, 12, 46, 47, 48, 49, 50, 51, 52, 53, 54, 55, 56, 57, 58] (by kernel_rfl) ?_
      exact st_back back0 (3 + 1) (by first | omega | (simp only []; omega) | (simp; omega)) (by first | (refine b_eq (decide_eq_false ?_).symm; unfold uOk pos8 neg8 cnt1 LIM; omega) | (refine b_eq (decide_eq_decide.2 ?_); unfold uOk pos8 neg8 cnt1 LIM; rw [qt]; unfold dtot; omega) | omega | (simp only []; omega) | (simp; omega) | assumption | simp_all) (fun p hp => by first | exact hp | simp_all) (by kernel_rfl) (by kernel_rfl) (by kernel_rfl)
  · have _hh := True.intro
    refine st_fn ent39 (wof_fn (d) (by assumption)) sub0 (by kernel_rfl) ?_
    refine st_fn ent93 (wsign_fn (d)) sub0 (by kernel_rfl) ?_
    by_cases k25 : cmpI d 0 ≠ 0
    · refine st_b 25 (bne_iff_ne.2 k25) (by kernel_rfl) ?_
      by_cases k29 : cmpI d 0 ≠ -1
      · refine st_b 29 (bne_iff_ne.2 k29) (by kernel_rfl) ?_
        exact st_retv Try.func31 (show Value.bool (false) = _ by (refine b_eq (decide_eq_false ?_).symm; unfold uOk pos8 neg8 cnt1 LIM; omega)) (by kernel_rfl)
      · refine st_b 29 (bne_eq_false_iff_eq.2 (Classical.not_not.1 k29)) (by kernel_rfl) ?_
        refine st_i 45 .i64 (x' := 4 + 1) (Go.IntWalk.i64_in _ (by omega)) (by kernel_rfl) ?_
        refine st_forget [0, 1, 2, 3, 7, 8, 9, 10, 11, 12, 46, 47, 48, 49, 50, 51, 52, 53, 54, 55, 56, 57, 58] (by kernel_rfl) ?_
        exact st_back back0 (4 + 1) (by first | omega | (simp only []; omega) | (simp; omega)) (by first | (refine b_eq (decide_eq_false ?_).symm; unfold uOk pos8 neg8 cnt1 LIM; omega) | (refine b_eq (decide_eq_decide.2 ?_); unfold uOk pos8 neg8 cnt1 LIM; rw [qt]; unfold dtot; omega) | omega | (simp only []; omega) | (simp; omega) | assumption | simp_all) (fun p hp => by first | exact hp | simp_all) (by kernel_rfl) (by kernel_rfl) (by kernel_rfl)
    · refine st_b 25 (bne_eq_false_iff_eq.2 (Classical.not_not.1 k25)) (by kernel_rfl) ?_
      refine st_i 45 .i64 (x' := 4 + 1) (Go.IntWalk.i64_in _ (by omega)) (by kernel_rfl) ?_
      refine st_forget [0, 1, 2, 3, 7, 8, 9, 10, 11, 12, 46, 47, 48, 49, 50, 51, 52, 53, 54, 55, 56, 57, 58] (by kernel_rfl) ?_
      exact st_back back0 (4 + 1) (by first | omega | (simp only []; omega) | (simp; omega)) (by first | (refine b_eq (decide_eq_false ?_).symm; unfold uOk pos8 neg8 cnt1 LIM; omega) | (refine b_eq (decide_eq_decide.2 ?_); unfold uOk pos8 neg8 cnt1 LIM; rw [qt]; unfold dtot; omega) | omega | (simp only []; omega) | (simp; omega) | assumption | simp_all) (fun p hp => by first | exact hp | simp_all) (by kernel_rfl) (by kernel_rfl) (by kernel_rfl)
  · have _hh := True.intro
    refine st_fn ent39 (wof_fn (h) (by assumption)) sub0 (by kernel_rfl) ?_
    refine st_fn ent93 (wsign_fn (h)) sub0 (by kernel_rfl) ?_
    by_cases k25 : cmpI h 0 ≠ 0
    · refine st_b 25 (bne_iff_ne.2 k25) (by kernel_rfl) ?_
      by_cases k29 : cmpI h 0 ≠ -1
      · refine st_b 29 (bne_iff_ne.2 k29) (by kernel_rfl) ?_
        exact st_retv Try.func31 (show Value.bool (false) = _ by (refine b_eq (decide_eq_false ?_).symm; unfold uOk pos8 neg8 cnt1 LIM; omega)) (by kernel_rfl)
      · refine st_b 29 (bne_eq_false_iff_eq.2 (Classical.not_not.1 k29)) (by kernel_rfl) ?_
        refine st_i 45 .i64 (x' := 5 + 1) (Go.IntWalk.i64_in _ (by omega)) (by kernel_rfl) ?_
        refine st_forget [0, 1, 2, 3, 7, 8, 9, 10, 11, 12, 46, 47, 48, 49, 50, 51, 52, 53, 54, 55, 56, 57, 58] (by kernel_rfl) ?_
        exact st_back back0 (5 + 1) (by first | omega | (simp only []; omega) | (simp; omega)) (by first | (refine b_eq (decide_eq_false ?_).symm; unfold uOk pos8 neg8 cnt1 LIM; omega) | (refine b_eq (decide_eq_decide.2 ?_); unfold uOk pos8 neg8 cnt1 LIM; rw [qt]; unfold dtot; omega) | omega | (simp only []; omega) | (simp; omega) | assumption | simp_all) (fun p hp => by first | exact hp | simp_all) (by kernel_rfl) (by kernel_rfl) (by kernel_rfl)
    · refine st_b 25 (bne_eq_false_iff_eq.2 (Classical.not_not.1 k25)) (by kernel_rfl) ?_
      refine st_i 45 .i64 (x' := 5 + 1) (Go.IntWalk.i64_in _ (by omega)) (by kernel_rfl) ?_
      refine st_forget [0, 1, 2, 3, 7, 8, 9, 10, 11, 12, 46, 47, 48, 49, 50, 51, 52, 53, 54, 55, 56, 57, 58] (by kernel_rfl) ?_
      exact st_back back0 (5 + 1) (by first | omega | (simp only []; omega) | (simp; omega)) (by first | (refine b_eq (decide_eq_false ?_).symm; unfold uOk pos8 neg8 cnt1 LIM; omega) | (refine b_eq (decide_eq_decide.2 ?_); unfold uOk pos8 neg8 cnt1 LIM; rw [qt]; unfold dtot; omega) | omega | (simp only []; omega) | (simp; omega) | assumption | simp_all) (fun p hp => by first | exact hp | simp_all) (by kernel_rfl) (by kernel_rfl) (by kernel_rfl)
  · have _hh := True.intro
    refine st_fn ent39 (wof_fn (mi) (by assumption)) sub0 (by kernel_rfl) ?_
    refine st_fn ent93 (wsign_fn (mi)) sub0 (by kernel_rfl) ?_
    by_cases k25 : cmpI mi 0 ≠ 0
    · refine st_b 25 (bne_iff_ne.2 k25) (by kernel_rfl) ?_
      by_cases k29 : cmpI mi 0 ≠ -1
      · refine st_b 29 (bne_iff_ne.2 k29) (by kernel_rfl) ?_
        exact st_retv Try.func31 (show Value.bool (false) = _ by (refine b_eq (decide_eq_false ?_).symm; unfold uOk pos8 neg8 cnt1 LIM; omega)) (by kernel_rfl)
      · refine st_b 29 (bne_eq_false_iff_eq.2 (Classical.not_not.1 k29)) (by kernel_rfl) ?_
        refine st_i 45 .i64 (x' := 6 + 1) (Go.IntWalk.i64_in _ (by omega)) (by kernel_rfl) ?_
        refine st_forget [0, 1, 2, 3, 7, 8, 9, 10, 11, 12, 46, 47, 48, 49, 50, 51, 52, 53, 54, 55, 56, 57, 58] (by kernel_rfl) ?_
        exact st_back back0 (6 + 1) (by first | omega | (simp only []; omega) | (simp; omega)) (by first | (refine b_eq (decide_eq_false ?_).symm; unfold uOk pos8 neg8 cnt1 LIM; omega) | (refine b_eq (decide_eq_decide.2 ?_); unfold uOk pos8 neg8 cnt1 LIM; rw [qt]; unfold dtot; omega) | omega | (simp only []; omega) | (simp; omega) | assumption | simp_all) (fun p hp => by first | exact hp | simp_all) (by kernel_rfl) (by kernel_rfl) (by kernel_rfl)
    · refine st_b 25 (bne_eq_false_iff_eq.2 (Classical.not_not.1 k25)) (by kernel_rfl) ?_
      refine st_i 45 .i64 (x' := 6 + 1) (Go.IntWalk.i64_in _ (by omega)) (by kernel_rfl) ?_
      refine st_forget [0, 1, 2, 3, 7, 8, 9, 10, 11, 12, 46, 47, 48, 49, 50, 51, 52, 53, 54, 55, 56, 57, 58] (by kernel_rfl) ?_
      exact st_back back0 (6 + 1) (by first | omega | (simp only []; omega) | (simp; omega)) (by first | (refine b_eq (decide_eq_false ?_).symm; unfold uOk pos8 neg8 cnt1 LIM; omega) | (refine b_eq (decide_eq_decide.2 ?_); unfold uOk pos8 neg8 cnt1 LIM; rw [qt]; unfold dtot; omega) | omega | (simp only []; omega) | (simp; omega) | assumption | simp_all) (fun p hp => by first | exact hp | simp_all) (by kernel_rfl) (by kernel_rfl) (by kernel_rfl)
  · have _hh := True.intro
    refine st_fn ent39 (wof_fn (s) (by assumption)) sub0 (by kernel_rfl) ?_
    refine st_fn ent93 (wsign_fn (s)) sub0 (by kernel_rfl) ?_
    by_cases k25 : cmpI s 0 ≠ 0
    · refine st_b 25 (bne_iff_ne.2 k25) (by kernel_rfl) ?_
      by_cases k29 : cmpI s 0 ≠ -1
      · refine st_b 29 (bne_iff_ne.2 k29) (by kernel_rfl) ?_
        exact st_retv Try.func31 (show Value.bool (false) = _ by (refine b_eq (decide_eq_false ?_).symm; unfold uOk pos8 neg8 cnt1 LIM; omega)) (by kernel_rfl)
      · refine st_b 29 (bne_eq_false_iff_eq.2 (Classical.not_not.1 k29)) (by kernel_rfl) ?_
        refine st_i 45 .i64 (x' := 7 + 1) (Go.IntWalk.i64_in _ (by omega)) (by kernel_rfl) ?_
        refine st_forget [0, 1, 2, 3, 7, 8, 9, 10, 11, 12, 46, 47, 48, 49, 50, 51, 52, 53, 54, 55, 56, 57, 58] (by kernel_rfl) ?_
        exact st_back back0 (7 + 1) (by first | omega | (simp only []; omega) | (simp; omega)) (by first | (refine b_eq (decide_eq_false ?_).symm; unfold uOk pos8 neg8 cnt1 LIM; omega) | (refine b_eq (decide_eq_decide.2 ?_); unfold uOk pos8 neg8 cnt1 LIM; rw [qt]; unfold dtot; omega) | omega | (simp only []; omega) | (simp; omega) | assumption | simp_all) (fun p hp => by first | exact hp | simp_all) (by kernel_rfl) (by kernel_rfl) (by kernel_rfl)
    · refine st_b 25 (bne_eq_false_iff_eq.2 (Classical.not_not.1 k25)) (by kernel_rfl) ?_
      refine st_i 45 .i64 (x' := 7 + 1) (Go.IntWalk.i64_in _ (by omega)) (by kernel_rfl) ?_
      refine st_forget [0, 1, 2, 3, 7, 8, 9, 10, 11, 12, 46, 47, 48, 49, 50, 51, 52, 53, 54, 55, 56, 57, 58] (by kernel_rfl) ?_
      exact st_back back0 (7 + 1) (by first | omega | (simp only []; omega) | (simp; omega)) (by first | (refine b_eq (decide_eq_false ?_).symm; unfold uOk pos8 neg8 cnt1 LIM; omega) | (refine b_eq (decide_eq_decide.2 ?_); unfold uOk pos8 neg8 cnt1 LIM; rw [qt]; unfold dtot; omega) | omega | (simp only []; omega) | (simp; omega) | assumption | simp_all) (fun p hp => by first | exact hp | simp_all) (by kernel_rfl) (by kernel_rfl) (by kernel_rfl)
  · have _hh := True.intro
    refine st_fn ent39 (wof_fn (n) (by assumption)) sub0 (by kernel_rfl) ?_
    refine st_fn ent93 (wsign_fn (n)) sub0 (by kernel_rfl) ?_
    by_cases k25 : cmpI n 0 ≠ 0
    · refine st_b 25 (bne_iff_ne.2 k25) (by kernel_rfl) ?_
      by_cases k29 : cmpI n 0 ≠ -1
      · refine st_b 29 (bne_iff_ne.2 k29) (by kernel_rfl) ?_
        exact st_retv Try.func31 (show Value.bool (false) = _ by (refine b_eq (decide_eq_false ?_).symm; unfold uOk pos8 neg8 cnt1 LIM; omega)) (by kernel_rfl)
      · refine st_b 29 (bne_eq_false_iff_eq.2 (Classical.not_not.1 k29)) (by kernel_rfl) ?_
        refine st_i 45 .i64 (x' := 8 + 1) (Go.IntWalk.i64_in _ (by omega)) (by kernel_rfl) ?_
        refine st_forget [0, 1, 2, 3, 7, 8, 9, 10, 11, 12, 46, 47, 48, 49, 50, 51, 52, 53, 54, 55, 56, 57, 58] (by kernel_rfl) ?_
        exact st_back back0 (8 + 1) (by first | omega | (simp only []; omega) | (simp; omega)) (by first | (refine b_eq (decide_eq_false ?_).symm; unfold uOk pos8 neg8 cnt1 LIM; omega) | (refine b_eq (decide_eq_decide.2 ?_); unfold uOk pos8 neg8 cnt1 LIM; rw [qt]; unfold dtot; omega) | omega | (simp only []; omega) | (simp; omega) | assumption | simp_all) (fun p hp => by first | exact hp | simp_all) (by kernel_rfl) (by kernel_rfl) (by kernel_rfl)
    · refine st_b 25 (bne_eq_false_iff_eq.2 (Classical.not_not.1 k25)) (by kernel_rfl) ?_
      refine st_i 45 .i64 (x' := 8 + 1) (Go.IntWalk.i64_in _ (by omega)) (by kernel_rfl) ?_
      refine st_forget [0, 1, 2, 3, 7, 8, 9, 10, 11, 12, 46, 47, 48, 49, 50, 51, 52, 53, 54, 55, 56, 57, 58] (by kernel_rfl) ?_
      exact st_back back0 (8 + 1) (by first | omega | (simp only []; omega) | (simp; omega)) (by first | (refine b_eq (decide_eq_false ?_).symm; unfold uOk pos8 neg8 cnt1 LIM; omega) | (refine b_eq (decide_eq_decide.2 ?_); unfold uOk pos8 neg8 cnt1 LIM; rw [qt]; unfold dtot; omega) | omega | (simp only []; omega) | (simp; omega) | assumption | simp_all) (fun p hp => by first | exact hp | simp_all) (by kernel_rfl) (by kernel_rfl) (by kernel_rfl)
  · have _hh := True.intro
    refine st_fn ent94 (ut) sub0 (by kernel_rfl) ?_
    refine st_fn ent55 (wneg_yes (dtot d h mi s n) (by assumption) (by assumption)) sub0 (by kernel_rfl) ?_
    refine st_fn ent95 (ulimit) sub0 (by kernel_rfl) ?_
    refine st_fn ent57 (wcmp_fn (-dtot d h mi s n) (9007199254740992000000000)) sub0 (by kernel_rfl) ?_
    exact st_retv Try.func31 (show Value.bool (decide (cmpI (-dtot d h mi s n) 9007199254740992000000000 < 0)) = _ by (refine b_eq (decide_eq_decide.2 ?_); unfold uOk pos8 neg8 cnt1 LIM; rw [qt]; unfold dtot; omega)) (by kernel_rfl)
theorem uright_z (i : all64 a b c d h mi s n) (hs : sg8 a b c d h mi s n = 0) (hk : a = 0 ∧ b = 0 ∧ c = 0 ∧ d = 0 ∧ h = 0 ∧ mi = 0 ∧ s = 0 ∧ n = 0) : Fn 31 [] [duv a b c d h mi s n] (.bool (decide (uOk a b c d h mi s n))) := by
  have us := usign a b c d h mi s n i
  rw [hs] at us
  obtain ⟨i1, i2, i3, i4, i5, i6, i7, i8⟩ := i
  have wt : W128 (dtot d h mi s n) ∧ W128 (-dtot d h mi s n) := by unfold I64 at *; unfold W128 dtot; omega
  obtain ⟨wt1, wt2⟩ := wt
  have ut := utot a b c d h mi s n i4 i5 i6 i7 i8
  have qt := cmpI_lt0 (a := dtot d h mi s n) (b := 9007199254740992000000000)
  refine fn_of Try.func31 rfl fun ww => ?_
  refine st_fn ent32 (us) sub0 (by kernel_rfl) ?_
  refine ufields_row 0 0 (by kernel_rfl) ?_
  refine st_forget [0, 1, 3, 7, 8, 9, 10, 11, 12, 46, 47, 48, 49, 50, 51, 52, 53, 54, 55, 56, 57, 58] (by kernel_rfl) ?_
  refine st_loop (X := Int) (fun x => ([SV.val (Value.agg #[Value.int IntKind.i64 a, Value.int IntKind.i64 b, Value.int IntKind.i64 c, Value.int IntKind.i64 d, Value.int IntKind.i64 h, Value.int IntKind.i64 mi, Value.int IntKind.i64 s, Value.int IntKind.i64 n]), SV.ptr 0 0, .any, SV.val (Value.int IntKind.i64 0), .any, .any, .any, SV.val (Value.tuple #[]), SV.val (Value.agg #[Value.int IntKind.i64 a, Value.int IntKind.i64 b, Value.int IntKind.i64 c, Value.int IntKind.i64 d, Value.int IntKind.i64 h, Value.int IntKind.i64 mi, Value.int IntKind.i64 s, Value.int IntKind.i64 n]), SV.val (Value.int IntKind.i64 0), SV.sl 1 0 9 9, SV.val (Value.int IntKind.i64 (↑9 : Int)), .val (.int .i64 x), .any, .any, .any, .any, .any, .any, .any, .any, .any, .any, .any, .any, .any, .any, .any, .any, .any, .any, .any, .any, .any, .any, .any, .any, .any, .any, .any, .any, .any, .any, .any, .any, .any, SV.val (Value.tuple #[]), SV.val (Value.tuple #[]), SV.val (Value.tuple #[]), SV.val (Value.tuple #[]), SV.val (Value.tuple #[]), SV.val (Value.tuple #[]), SV.val (Value.tuple #[]), SV.val (Value.tuple #[]), SV.val (Value.tuple #[]), SV.val (Value.tuple #[]), SV.val (Value.tuple #[]), SV.val (Value.tuple #[]), SV.val (Value.tuple #[])], [⟨[SV.val (Value.int IntKind.i64 a), SV.val (Value.int IntKind.i64 b), SV.val (Value.int IntKind.i64 c), SV.val (Value.int IntKind.i64 d), SV.val (Value.int IntKind.i64 h), SV.val (Value.int IntKind.i64 mi), SV.val (Value.int IntKind.i64 s), SV.val (Value.int IntKind.i64 n)], 41⟩, ⟨[SV.val (Value.pointer none), SV.ptr 0 0, SV.ptr 0 1, SV.ptr 0 2, SV.ptr 0 3, SV.ptr 0 4, SV.ptr 0 5, SV.ptr 0 6, SV.ptr 0 7], 134⟩])) (fun _ => _) (fun k => 0 ≤ k ∧ k ≤ 9 ∧ (1 < k → a = 0 ∧ -4294967295 ≤ a ∧ a ≤ 4294967295) ∧ (2 < k → b = 0 ∧ -4294967295 ≤ b ∧ b ≤ 4294967295) ∧ (3 < k → c = 0 ∧ -4294967295 ≤ c ∧ c ≤ 4294967295) ∧ (4 < k → d = 0) ∧ (5 < k → h = 0) ∧ (6 < k → mi = 0) ∧ (7 < k → s = 0) ∧ (8 < k → n = 0)) (fun k => (9 - k).toNat) (0) (by kernel_rfl) (by kernel_rfl) Sub.refl (by first | omega | (simp; omega) | assumption | simp_all) (fun y0 px0 back0 => ?_)
  (have q := cmpI_sg (fl8 a b c d h mi s n y0); have hk0 : y0 = 0 ∨ y0 = 1 ∨ y0 = 2 ∨ y0 = 3 ∨ y0 = 4 ∨ y0 = 5 ∨ y0 = 6 ∨ y0 = 7 ∨ y0 = 8 ∨ y0 = 9 := (by omega); rcases hk0 with rfl | rfl | rfl | rfl | rfl | rfl | rfl | rfl | rfl | rfl <;> simp only [fl8, Int.reduceEq, if_true, if_false] at q)
  · have _hh := True.intro
    refine st_i 45 .i64 (x' := 0 + 1) (Go.IntWalk.i64_in _ (by omega)) (by kernel_rfl) ?_
    refine st_forget [0, 1, 2, 3, 6, 7, 8, 9, 10, 11, 12, 19, 20, 21, 22, 23, 24, 25, 26, 27, 28, 29, 30, 31, 32, 33, 34, 35, 36, 37, 38, 39, 40, 41, 42, 43, 44, 46, 47, 48, 49, 50, 51, 52, 53, 54, 55, 56, 57, 58] (by kernel_rfl) ?_
    exact st_back back0 (0 + 1) (by first | omega | (simp only []; omega) | (simp; omega)) (by first | (refine b_eq (decide_eq_false ?_).symm; unfold uOk pos8 neg8 cnt1 LIM; omega) | (refine b_eq (decide_eq_decide.2 ?_); unfold uOk pos8 neg8 cnt1 LIM; rw [qt]; unfold dtot; omega) | omega | (simp only []; omega) | (simp; omega) | assumption | simp_all) (fun p hp => by first | exact hp | simp_all) (by kernel_rfl) (by kernel_rfl) (by kernel_rfl)
  · have _hh := True.intro
    refine st_fn ent39 (wof_fn (a) (by assumption)) sub0 (by kernel_rfl) ?_
    refine st_fn ent93 (wsign_fn (a)) sub0 (by kernel_rfl) ?_
    refine st_b 25 (show (cmpI a 0 != 0) = false by exact bne_eq_false_iff_eq.2 (by omega)) (by kernel_rfl) ?_
    refine st_b 37 (show (decide (a > 4294967295)) = false by exact decide_eq_false (by omega)) (by kernel_rfl) ?_
    refine st_b 42 (show (decide (a < -4294967295)) = false by exact decide_eq_false (by omega)) (by kernel_rfl) ?_
    refine st_i 45 .i64 (x' := 1 + 1) (Go.IntWalk.i64_in _ (by omega)) (by kernel_rfl) ?_
    refine st_forget [0, 1, 2, 3, 7, 8, 9, 10, 11, 12, 46, 47, 48, 49, 50, 51, 52, 53, 54, 55, 56, 57, 58] (by kernel_rfl) ?_
    exact st_back back0 (1 + 1) (by first | omega | (simp only []; omega) | (simp; omega)) (by first | (refine b_eq (decide_eq_false ?_).symm; unfold uOk pos8 neg8 cnt1 LIM; omega) | (refine b_eq (decide_eq_decide.2 ?_); unfold uOk pos8 neg8 cnt1 LIM; rw [qt]; unfold dtot; omega) | omega | (simp only []; omega) | (simp; omega) | assumption | simp_all) (fun p hp => by first | exact hp | simp_all) (by kernel_rfl) (by kernel_rfl) (by kernel_rfl)
  · have _hh := True.intro
    refine st_fn ent39 (wof_fn (b) (by assumption)) sub0 (by kernel_rfl) ?_
    refine st_fn ent93 (wsign_fn (b)) sub0 (by kernel_rfl) ?_
    refine st_b 25 (show (cmpI b 0 != 0) = false by exact bne_eq_false_iff_eq.2 (by omega)) (by kernel_rfl) ?_
    refine st_b 37 (show (decide (b > 4294967295)) = false by exact decide_eq_false (by omega)) (by kernel_rfl) ?_
    refine st_b 42 (show (decide (b < -4294967295)) = false by exact decide_eq_false (by omega)) (by kernel_rfl) ?_
    refine st_i 45 .i64 (x' := 2 + 1) (Go.IntWalk.i64_in _ (by omega)) (by kernel_rfl) ?_
    refine st_forget [0, 1, 2, 3, 7, 8, 9, 10, 11, 12, 46, 47, 48, 49, 50, 51, 52, 53, 54, 55, 56, 57, 58] (by kernel_rfl) ?_
    exact st_back back0 (2 + 1) (by first | omega | (simp only []; omega) | (simp; omega)) (by first | (refine b_eq (decide_eq_false ?_).symm; unfold uOk pos8 neg8 cnt1 LIM; omega) | (refine b_eq (decide_eq_decide.2 ?_); unfold uOk pos8 neg8 cnt1 LIM; rw [qt]; unfold dtot; omega) | omega | (simp only []; omega) | (simp; omega) | assumption | simp_all) (fun p hp => by first | exact hp | simp_all) (by kernel_rfl) (by kernel_rfl) (by kernel_rfl)
  · have _hh := True.intro
    refine st_fn ent39 (wof_fn (c) (by assumption)) sub0 (by kernel_rfl) ?_
    refine st_fn ent93 (wsign_fn (c)) sub0 (by kernel_rfl) ?_
    refine st_b 25 (show (cmpI c 0 != 0) = false by exact bne_eq_false_iff_eq.2 (by omega)) (by kernel_rfl) ?_
    refine st_b 37 (show (decide (c > 4294967295)) = false by exact decide_eq_false (by omega)) (by kernel_rfl) ?_
    refine st_b 42 (show (decide (c < -4294967295)) = false by exact decide_eq_false (by omega)) (by kernel_rfl) ?_
    refine st_i 45 .i64 (x' := 3 + 1) (Go.IntWalk.i64_in _ (by omega)) (by kernel_rfl) ?_
    refine st_forget [0, 1, 2, 3, 7, 8, 9, 10, 11, 12, 46, 47, 48, 49, 50, 51, 52, 53, 54, 55, 56, 57, 58] (by kernel_rfl) ?_
    exact st_back back0 (3 + 1) (by first | omega | (simp only []; omega) | (simp; omega)) (by first | (refine b_eq (decide_eq_false ?_).symm; unfold uOk pos8 neg8 cnt1 LIM; omega) | (refine b_eq (decide_eq_decide.2 ?_); unfold uOk pos8 neg8 cnt1 LIM; rw [qt]; unfold dtot; omega) | omega | (simp only []; omega) | (simp; omega) | assumption | simp_all) (fun p hp => by first | exact hp | simp_all) (by kernel_rfl) (by kernel_rfl) (by kernel_rfl)
  · have _hh := True.intro
    refine st_fn ent39 (wof_fn (d) (by assumption)) sub0 (by kernel_rfl) ?_
    refine st_fn ent93 (wsign_fn (d)) sub0 (by kernel_rfl) ?_
    refine st_b 25 (show (cmpI d 0 != 0) = false by exact bne_eq_false_iff_eq.2 (by omega)) (by kernel_rfl) ?_
    refine st_i 45 .i64 (x' := 4 + 1) (Go.IntWalk.i64_in _ (by omega)) (by kernel_rfl) ?_
    refine st_forget [0, 1, 2, 3, 7, 8, 9, 10, 11, 12, 46, 47, 48, 49, 50, 51, 52, 53, 54, 55, 56, 57, 58] (by kernel_rfl) ?_
    exact st_back back0 (4 + 1) (by first | omega | (simp only []; omega) | (simp; omega)) (by first | (refine b_eq (decide_eq_false ?_).symm; unfold uOk pos8 neg8 cnt1 LIM; omega) | (refine b_eq (decide_eq_decide.2 ?_); unfold uOk pos8 neg8 cnt1 LIM; rw [qt]; unfold dtot; omega) | omega | (simp only []; omega) | (simp; omega) | assumption | simp_all) (fun p hp => by first | exact hp | simp_all) (by kernel_rfl) (by kernel_rfl) (by kernel_rfl)
  · have _hh := True.intro
    refine st_fn ent39 (wof_fn (h) (by assumption)) sub0 (by kernel_rfl) ?_
    refine st_fn ent93 (wsign_fn (h)) sub0 (by kernel_rfl) ?_
    refine st_b 25 (show (cmpI h 0 != 0) = false by exact bne_eq_false_iff_eq.2 (by omega)) (by kernel_rfl) ?_
    refine st_i 45 .i64 (x' := 5 + 1) (Go.IntWalk.i64_in _ (by omega)) (by kernel_rfl) ?_
    refine st_forget [0, 1, 2, 3, 7, 8, 9, 10, 11, 12, 46, 47, 48, 49, 50, 51, 52, 53, 54, 55, 56, 57, 58] (by kernel_rfl) ?_
    exact st_back back0 (5 + 1) (by first | omega | (simp only []; omega) | (simp; omega)) (by first | (refine b_eq (decide_eq_false ?_).symm; unfold uOk pos8 neg8 cnt1 LIM; omega) | (refine b_eq (decide_eq_decide.2 ?_); unfold uOk pos8 neg8 cnt1 LIM; rw [qt]; unfold dtot; omega) | omega | (simp only []; omega) | (simp; omega) | assumption | simp_all) (fun p hp => by first | exact hp | simp_all) (by kernel_rfl) (by kernel_rfl) (by kernel_rfl)
  · have _hh := True.intro
    refine st_fn ent39 (wof_fn (mi) (by assumption)) sub0 (by kernel_rfl) ?_
    refine st_fn ent93 (wsign_fn (mi)) sub0 (by kernel_rfl) ?_
    refine st_b 25 (show (cmpI mi 0 != 0) = false by exact bne_eq_false_iff_eq.2 (by omega)) (by kernel_rfl) ?_
    refine st_i 45 .i64 (x' := 6 + 1) (Go.IntWalk.i64_in _ (by omega)) (by kernel_rfl) ?_
    refine st_forget [0, 1, 2, 3, 7, 8, 9, 10, 11, 12, 46, 47, 48, 49, 50, 51, 52, 53, 54, 55, 56, 57, 58] (by kernel_rfl) ?_
    exact st_back back0 (6 + 1) (by first | omega | (simp only []; omega) | (simp; omega)) (by first | (refine b_eq (decide_eq_false ?_).symm; unfold uOk pos8 neg8 cnt1 LIM; omega) | (refine b_eq (decide_eq_decide.2 ?_); unfold uOk pos8 neg8 cnt1 LIM; rw [qt]; unfold dtot; omega) | omega | (simp only []; omega) | (simp; omega) | assumption | simp_all) (fun p hp => by first | exact hp | simp_all) (by kernel_rfl) (by kernel_rfl) (by kernel_rfl)
  · have _hh := True.intro
    refine st_fn ent39 (wof_fn (s) (by assumption)) sub0 (by kernel_rfl) ?_
    refine st_fn ent93 (wsign_fn (s)) sub0 (by kernel_rfl) ?_
    refine st_b 25 (show (cmpI s 0 != 0) = false by exact bne_eq_false_iff_eq.2 (by omega)) (by kernel_rfl) ?_
    refine st_i 45 .i64 (x' := 7 + 1) (Go.IntWalk.i64_in _ (by omega)) (by kernel_rfl) ?_
    refine st_forget [0, 1, 2, 3, 7, 8, 9, 10, 11, 12, 46, 47, 48, 49, 50, 51, 52, 53, 54, 55, 56, 57, 58] (by kernel_rfl) ?_
    exact st_back back0 (7 + 1) (by first | omega | (simp only []; omega) | (simp; omega)) (by first | (refine b_eq (decide_eq_false ?_).symm; unfold uOk pos8 neg8 cnt1 LIM; omega) | (refine b_eq (decide_eq_decide.2 ?_); unfold uOk pos8 neg8 cnt1 LIM; rw [qt]; unfold dtot; omega) | omega | (simp only []; omega) | (simp; omega) | assumption | simp_all) (fun p hp => by first | exact hp | simp_all) (by kernel_rfl) (by kernel_rfl) (by kernel_rfl)
  · have _hh := True.intro
    refine st_fn ent39 (wof_fn (n) (by assumption)) sub0 (by kernel_rfl) ?_
    refine st_fn ent93 (wsign_fn (n)) sub0 (by kernel_rfl) ?_
    refine st_b 25 (show (cmpI n 0 != 0) = false by exact bne_eq_false_iff_eq.2 (by omega)) (by kernel_rfl) ?_
    refine st_i 45 .i64 (x' := 8 + 1) (Go.IntWalk.i64_in _ (by omega)) (by kernel_rfl) ?_
    refine st_forget [0, 1, 2, 3, 7, 8, 9, 10, 11, 12, 46, 47, 48, 49, 50, 51, 52, 53, 54, 55, 56, 57, 58] (by kernel_rfl) ?_
    exact st_back back0 (8 + 1) (by first | omega | (simp only []; omega) | (simp; omega)) (by first | (refine b_eq (decide_eq_false ?_).symm; unfold uOk pos8 neg8 cnt1 LIM; omega) | (refine b_eq (decide_eq_decide.2 ?_); unfold uOk pos8 neg8 cnt1 LIM; rw [qt]; unfold dtot; omega) | omega | (simp only []; omega) | (simp; omega) | assumption | simp_all) (fun p hp => by first | exact hp | simp_all) (by kernel_rfl) (by kernel_rfl) (by kernel_rfl)
  · have _hh := True.intro
    refine st_fn ent94 (ut) sub0 (by kernel_rfl) ?_
    refine st_fn ent95 (ulimit) sub0 (by kernel_rfl) ?_
    refine st_fn ent57 (wcmp_fn (dtot d h mi s n) (9007199254740992000000000)) sub0 (by kernel_rfl) ?_
    exact st_retv Try.func31 (show Value.bool (decide (cmpI (dtot d h mi s n) 9007199254740992000000000 < 0)) = _ by (refine b_eq (decide_eq_decide.2 ?_); unfold uOk pos8 neg8 cnt1 LIM; rw [qt]; unfold dtot; omega)) (by kernel_rfl)
end
end Go.Proofs.Ytccllfegnijpiaa
end
