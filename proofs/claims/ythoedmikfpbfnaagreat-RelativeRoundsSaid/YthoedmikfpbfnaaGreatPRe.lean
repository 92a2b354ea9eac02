/-
  Texts joined: Near, Nea, Dfr, Due, Nrr, Rat, Duf, Dul, Duh, Cav, Cuv, Cbk, Rtm, Rea, Reb. Each says at its head what it shows.
-/
import Derived.Test.YthoedmikfpbfnaaGreatPRd
set_option linter.unusedVariables false
set_option linter.unusedSimpArgs false
section
set_option maxRecDepth 100000
namespace Go.Proofs.YthoedmikfpbfnaaGreat
open Go Go.RowKit Go.Ev

theorem z_zero {w : World} {q : ZQ} {x : Int} (h : ZOf q x w) : q.l = 0 ↔ x = 0 := (isZ_sign h).1
theorem z_dig {w : World} {q : ZQ} {x : Int} (h : ZOf q x w) (hx : x ≠ 0) : ∃ b off, q.a = some ⟨b, off, none⟩ ∧ w.cell? ⟨b, off, none⟩ = some (.int .i64 ((x.natAbs : Int) % 65536)) ∧ 0 < q.l := by
 have hz := z_zero h
 obtain ⟨ds, ⟨a, cap, b, off, e, h1, h2, h3⟩, hd, ht, hn, hneg⟩ := h
 simp only [Value.slice.injEq] at e
 obtain ⟨ea, el, ec⟩ := e
 have hl : 0 < ds.length := by
  rcases Nat.eq_zero_or_pos ds.length with h0 | h0
  ·exact absurd (hz.1 (by rw [el]; exact h0)) hx
  ·exact h0
 obtain ⟨e1, -⟩ := h2 hl
 refine ⟨b, off, by rw [ea, e1], ?_, by omega⟩
 have h4 := h3 0 hl
 rw [Nat.add_zero] at h4
 rw [h4]
 congr 2
 have hv := val_nonneg hd
 have hab : (x.natAbs : Int) = val ds := by
  rw [hn]; unfold sgn; split <;> omega
 rw [hab]
 cases ds with
 | nil => simp at hl
 | cons d ds =>
  have h0 := hd 0
  simp only [dg_eq, List.getD_cons_zero] at h0 ⊢
  simp only [val]
  omega
theorem idx0 {a : Option Addr} {l c b off : Nat} (ha : a = some ⟨b, off, none⟩) (hl : 0 < l) (w : World) : (Instr.indexAt 35 (.slice a l c) (.int .i64 0)).run Tryz.prog w = .ok (.pointer (some ⟨b, off, none⟩)) w := by
 have hu : Tryz.prog.underlying 35 = some (.slice 3) := by kernel_rfl
 have hs : (sizeOf 3).run Tryz.prog w = .ok 1 w := pureOf_run (P := Tryz.prog) (by kernel_rfl) w
 have h1 : (0 : Int) ≤ 0 ∧ (0 : Int) < (l : Int) := ⟨Int.le_refl 0, by omega⟩
 subst ha
 simp only [Instr.indexAt, asIntOf, Sem.run_bind, Sem.run_pure, Result.andThen_ok, run_underlying hu w, h1, and_self, if_true, hs]
 rfl
theorem cell_of {w : World} {q : ZQ} {x : Int} {b off : Nat} (h : ZOf q x w) (hx : x ≠ 0) (ha : q.a = some ⟨b, off, none⟩) : w.cell? ⟨b, off, none⟩ = some (.int .i64 ((x.natAbs : Int) % 65536)) := by
 obtain ⟨b', off', e, hc, -⟩ := z_dig h hx
 rw [ha] at e
 simp only [Option.some.injEq, Addr.mk.injEq] at e
 obtain ⟨rfl, rfl, -⟩ := e
 exact hc
theorem z_pure {w : World} {q : ZQ} {x : Int} (h : ZOf q x w) : (x = 0 → (q.l : Int) = 0) ∧ (x ≠ 0 → (q.l : Int) ≠ 0 ∧ ∃ b off, q.a = some ⟨b, off, none⟩ ∧ 0 < q.l) := by
 refine ⟨fun k => by have := (z_zero h).2 k; omega, fun k => ?_⟩
 obtain ⟨b, off, e, _, hl⟩ := z_dig h k
 exact ⟨by omega, b, off, e, hl⟩
theorem dig_even {x : Int} (h : x % 2 = 0) : (((x.natAbs : Int) % 65536).tmod 2 == 0) = true := by
 rw [Int.tmod_eq_emod_of_nonneg (by omega), beq_iff_eq]; omega
theorem dig_odd {x : Int} (h : ¬ x % 2 = 0) : (((x.natAbs : Int) % 65536).tmod 2 == 0) = false := by
 rw [Int.tmod_eq_emod_of_nonneg (by omega), beq_eq_false_iff_ne]; omega
theorem half_cmp (r d : Int) : cmpI (r + r) d = cmpI r (d - r) := by unfold cmpI; split <;> split <;> (try split) <;> (try split) <;> omega
theorem near_zero (p q : ZQ) (x y mode : Int) (hx : Bits 200 x) (hy : Bits 200 y) (h0 : 0 < y) (h1 : 1 ≤ mode) (h2 : mode ≤ 9) (hr : x.fmod y = 0) (e : x.fdiv y = nearQ x y mode) :
  FnZ 53 [(p, x), (q, y)] [zv p, zv q, .int .i64 mode] (fun z => .tuple #[zv z, .bool true]) (nearQ x y mode) := by
 have hc : cmpI (x.fmod y) 0 = 0 := by rw [hr]; rfl
 have hne : y ≠ 0 := by omega
 refine fnG_of Tryz.func53 rfl fun ww => ?_
 refine qN 15 (decide (mode < 1)) ?_
 refine qN 18 (decide (mode > 9)) ?_
 refine st_g ent75 (fzdiv (p) (q) (x) (y) (by exact Bits.mono hx (by decide)) (by exact Bits.mono hy (by decide)) (by assumption)) (subC 0 rfl (subC 1 rfl sub0)) (by kernel_rfl) (fun zq0 => ?_)
 refine st_fn ent103 (fzsign (zq0.snd) (x.fmod y) (by exact Bits.fit (fmod_b hy yF) (by decide))) (subC 1 rfl sub0) (by kernel_rfl) ?_
 refine qY 29 (cmpI (x.fmod y) 0 == 0) ?_
 exact st_retG (zq0.fst) Tryz.func53 (subE 0 rfl (by omega) sub0) (by kernel_rfl)
theorem near_1n (p q : ZQ) (x y : Int) (hx : Bits 200 x) (hy : Bits 200 y) (h0 : 0 < y) (hne : y ≠ 0) (hc : cmpI (x.fmod y) 0 = 1) (hs : cmpI x 0 = -1)  (e : x.fdiv y + 1 = nearQ x y 1) :
  FnZ 53 [(p, x), (q, y)] [zv p, zv q, .int .i64 1] (fun z => .tuple #[zv z, .bool true]) (nearQ x y 1) := by
 refine fnG_of Tryz.func53 rfl fun ww => ?_
 refine st_g ent75 (fzdiv (p) (q) (x) (y) (by exact Bits.mono hx (by decide)) (by exact Bits.mono hy (by decide)) (by assumption)) (subC 0 rfl (subC 1 rfl sub0)) (by kernel_rfl) (fun zq0 => ?_)
 refine st_fn ent103 (fzsign (zq0.snd) (x.fmod y) (by exact Bits.fit (fmod_b hy yF) (by decide))) (subC 1 rfl sub0) (by kernel_rfl) ?_
 refine qN 29 (cmpI (x.fmod y) 0 == 0) ?_
 refine qZ ent39 (fzofu (1) (by omega) (by omega)) fun zq2 => ?_
 refine st_g ent32 (fzadd (zq0.fst) (zq2) (x.fdiv y) (1) (by exact Bits.fit (fdiv_b hx yF) (by decide)) (by exact Bits.fit (yB : Bits 64 (1)) (by decide))) (subC 1 rfl (subC 0 rfl sub0)) (by kernel_rfl) (fun zq3 => ?_)
 refine st_fn ent103 (fzsign (p) (x) (by exact Bits.fit hx (by decide))) (subC 4 rfl sub0) (by kernel_rfl) ?_
 refine qY 38 (decide (cmpI x 0 < 0)) ?_
 refine st_g ent32 (fzadd (zq0.snd) (zq0.snd) (x.fmod y) (x.fmod y) (by exact Bits.fit (fmod_b hy yF) (by decide)) (by exact Bits.fit (fmod_b hy yF) (by decide))) (subC 3 rfl (subC 3 rfl sub0)) (by kernel_rfl) (fun zq5 => ?_)
 refine st_fn ent86 (fzcmp (zq5) (q) (x.fmod y + x.fmod y) (y) (by exact Bits.fit (Bits.add (Bits.mono (l := 200) (fmod_b hy yF) (by decide)) (Bits.mono (l := 200) (fmod_b hy yF) (by decide))) (by decide)) (by exact Bits.fit hy (by decide))) (subC 0 rfl (subC 6 rfl sub0)) (by kernel_rfl) ?_
 exact st_retG (zq3) Tryz.func53 (subE 1 rfl (by omega) sub0) (by kernel_rfl)
theorem near_1p (p q : ZQ) (x y : Int) (hx : Bits 200 x) (hy : Bits 200 y) (h0 : 0 < y) (hne : y ≠ 0) (hc : cmpI (x.fmod y) 0 = 1) (hs : 0 ≤ cmpI x 0)  (e : x.fdiv y + 1 = nearQ x y 1) :
  FnZ 53 [(p, x), (q, y)] [zv p, zv q, .int .i64 1] (fun z => .tuple #[zv z, .bool true]) (nearQ x y 1) := by
 refine fnG_of Tryz.func53 rfl fun ww => ?_
 refine st_g ent75 (fzdiv (p) (q) (x) (y) (by exact Bits.mono hx (by decide)) (by exact Bits.mono hy (by decide)) (by assumption)) (subC 0 rfl (subC 1 rfl sub0)) (by kernel_rfl) (fun zq0 => ?_)
 refine st_fn ent103 (fzsign (zq0.snd) (x.fmod y) (by exact Bits.fit (fmod_b hy yF) (by decide))) (subC 1 rfl sub0) (by kernel_rfl) ?_
 refine qN 29 (cmpI (x.fmod y) 0 == 0) ?_
 refine qZ ent39 (fzofu (1) (by omega) (by omega)) fun zq2 => ?_
 refine st_g ent32 (fzadd (zq0.fst) (zq2) (x.fdiv y) (1) (by exact Bits.fit (fdiv_b hx yF) (by decide)) (by exact Bits.fit (yB : Bits 64 (1)) (by decide))) (subC 1 rfl (subC 0 rfl sub0)) (by kernel_rfl) (fun zq3 => ?_)
 refine st_fn ent103 (fzsign (p) (x) (by exact Bits.fit hx (by decide))) (subC 4 rfl sub0) (by kernel_rfl) ?_
 refine qN 38 (decide (cmpI x 0 < 0)) ?_
 refine st_g ent32 (fzadd (zq0.snd) (zq0.snd) (x.fmod y) (x.fmod y) (by exact Bits.fit (fmod_b hy yF) (by decide)) (by exact Bits.fit (fmod_b hy yF) (by decide))) (subC 3 rfl (subC 3 rfl sub0)) (by kernel_rfl) (fun zq5 => ?_)
 refine st_fn ent86 (fzcmp (zq5) (q) (x.fmod y + x.fmod y) (y) (by exact Bits.fit (Bits.add (Bits.mono (l := 200) (fmod_b hy yF) (by decide)) (Bits.mono (l := 200) (fmod_b hy yF) (by decide))) (by decide)) (by exact Bits.fit hy (by decide))) (subC 0 rfl (subC 6 rfl sub0)) (by kernel_rfl) ?_
 exact st_retG (zq3) Tryz.func53 (subE 1 rfl (by omega) sub0) (by kernel_rfl)
theorem near_2n (p q : ZQ) (x y : Int) (hx : Bits 200 x) (hy : Bits 200 y) (h0 : 0 < y) (hne : y ≠ 0) (hc : cmpI (x.fmod y) 0 = 1) (hs : cmpI x 0 = -1)  (e : x.fdiv y = nearQ x y 2) :
  FnZ 53 [(p, x), (q, y)] [zv p, zv q, .int .i64 2] (fun z => .tuple #[zv z, .bool true]) (nearQ x y 2) := by
 refine fnG_of Tryz.func53 rfl fun ww => ?_
 refine st_g ent75 (fzdiv (p) (q) (x) (y) (by exact Bits.mono hx (by decide)) (by exact Bits.mono hy (by decide)) (by assumption)) (subC 0 rfl (subC 1 rfl sub0)) (by kernel_rfl) (fun zq0 => ?_)
 refine st_fn ent103 (fzsign (zq0.snd) (x.fmod y) (by exact Bits.fit (fmod_b hy yF) (by decide))) (subC 1 rfl sub0) (by kernel_rfl) ?_
 refine qN 29 (cmpI (x.fmod y) 0 == 0) ?_
 refine qZ ent39 (fzofu (1) (by omega) (by omega)) fun zq2 => ?_
 refine st_g ent32 (fzadd (zq0.fst) (zq2) (x.fdiv y) (1) (by exact Bits.fit (fdiv_b hx yF) (by decide)) (by exact Bits.fit (yB : Bits 64 (1)) (by decide))) (subC 1 rfl (subC 0 rfl sub0)) (by kernel_rfl) (fun zq3 => ?_)
 refine st_fn ent103 (fzsign (p) (x) (by exact Bits.fit hx (by decide))) (subC 4 rfl sub0) (by kernel_rfl) ?_
 refine qY 38 (decide (cmpI x 0 < 0)) ?_
 refine st_g ent32 (fzadd (zq0.snd) (zq0.snd) (x.fmod y) (x.fmod y) (by exact Bits.fit (fmod_b hy yF) (by decide)) (by exact Bits.fit (fmod_b hy yF) (by decide))) (subC 3 rfl (subC 3 rfl sub0)) (by kernel_rfl) (fun zq5 => ?_)
 refine st_fn ent86 (fzcmp (zq5) (q) (x.fmod y + x.fmod y) (y) (by exact Bits.fit (Bits.add (Bits.mono (l := 200) (fmod_b hy yF) (by decide)) (Bits.mono (l := 200) (fmod_b hy yF) (by decide))) (by decide)) (by exact Bits.fit hy (by decide))) (subC 0 rfl (subC 6 rfl sub0)) (by kernel_rfl) ?_
 exact st_retG (zq0.fst) Tryz.func53 (subE 3 rfl (by omega) sub0) (by kernel_rfl)
theorem near_2p (p q : ZQ) (x y : Int) (hx : Bits 200 x) (hy : Bits 200 y) (h0 : 0 < y) (hne : y ≠ 0) (hc : cmpI (x.fmod y) 0 = 1) (hs : 0 ≤ cmpI x 0)  (e : x.fdiv y = nearQ x y 2) :
  FnZ 53 [(p, x), (q, y)] [zv p, zv q, .int .i64 2] (fun z => .tuple #[zv z, .bool true]) (nearQ x y 2) := by
 refine fnG_of Tryz.func53 rfl fun ww => ?_
 refine st_g ent75 (fzdiv (p) (q) (x) (y) (by exact Bits.mono hx (by decide)) (by exact Bits.mono hy (by decide)) (by assumption)) (subC 0 rfl (subC 1 rfl sub0)) (by kernel_rfl) (fun zq0 => ?_)
 refine st_fn ent103 (fzsign (zq0.snd) (x.fmod y) (by exact Bits.fit (fmod_b hy yF) (by decide))) (subC 1 rfl sub0) (by kernel_rfl) ?_
 refine qN 29 (cmpI (x.fmod y) 0 == 0) ?_
 refine qZ ent39 (fzofu (1) (by omega) (by omega)) fun zq2 => ?_
 refine st_g ent32 (fzadd (zq0.fst) (zq2) (x.fdiv y) (1) (by exact Bits.fit (fdiv_b hx yF) (by decide)) (by exact Bits.fit (yB : Bits 64 (1)) (by decide))) (subC 1 rfl (subC 0 rfl sub0)) (by kernel_rfl) (fun zq3 => ?_)
 refine st_fn ent103 (fzsign (p) (x) (by exact Bits.fit hx (by decide))) (subC 4 rfl sub0) (by kernel_rfl) ?_
 refine qN 38 (decide (cmpI x 0 < 0)) ?_
 refine st_g ent32 (fzadd (zq0.snd) (zq0.snd) (x.fmod y) (x.fmod y) (by exact Bits.fit (fmod_b hy yF) (by decide)) (by exact Bits.fit (fmod_b hy yF) (by decide))) (subC 3 rfl (subC 3 rfl sub0)) (by kernel_rfl) (fun zq5 => ?_)
 refine st_fn ent86 (fzcmp (zq5) (q) (x.fmod y + x.fmod y) (y) (by exact Bits.fit (Bits.add (Bits.mono (l := 200) (fmod_b hy yF) (by decide)) (Bits.mono (l := 200) (fmod_b hy yF) (by decide))) (by decide)) (by exact Bits.fit hy (by decide))) (subC 0 rfl (subC 6 rfl sub0)) (by kernel_rfl) ?_
 exact st_retG (zq0.fst) Tryz.func53 (subE 3 rfl (by omega) sub0) (by kernel_rfl)
theorem near_3n (p q : ZQ) (x y : Int) (hx : Bits 200 x) (hy : Bits 200 y) (h0 : 0 < y) (hne : y ≠ 0) (hc : cmpI (x.fmod y) 0 = 1) (hs : cmpI x 0 = -1)  (e : x.fdiv y = nearQ x y 3) :
  FnZ 53 [(p, x), (q, y)] [zv p, zv q, .int .i64 3] (fun z => .tuple #[zv z, .bool true]) (nearQ x y 3) := by
 refine fnG_of Tryz.func53 rfl fun ww => ?_
 refine st_g ent75 (fzdiv (p) (q) (x) (y) (by exact Bits.mono hx (by decide)) (by exact Bits.mono hy (by decide)) (by assumption)) (subC 0 rfl (subC 1 rfl sub0)) (by kernel_rfl) (fun zq0 => ?_)
 refine st_fn ent103 (fzsign (zq0.snd) (x.fmod y) (by exact Bits.fit (fmod_b hy yF) (by decide))) (subC 1 rfl sub0) (by kernel_rfl) ?_
 refine qN 29 (cmpI (x.fmod y) 0 == 0) ?_
 refine qZ ent39 (fzofu (1) (by omega) (by omega)) fun zq2 => ?_
 refine st_g ent32 (fzadd (zq0.fst) (zq2) (x.fdiv y) (1) (by exact Bits.fit (fdiv_b hx yF) (by decide)) (by exact Bits.fit (yB : Bits 64 (1)) (by decide))) (subC 1 rfl (subC 0 rfl sub0)) (by kernel_rfl) (fun zq3 => ?_)
 refine st_fn ent103 (fzsign (p) (x) (by exact Bits.fit hx (by decide))) (subC 4 rfl sub0) (by kernel_rfl) ?_
 refine qY 38 (decide (cmpI x 0 < 0)) ?_
 refine st_g ent32 (fzadd (zq0.snd) (zq0.snd) (x.fmod y) (x.fmod y) (by exact Bits.fit (fmod_b hy yF) (by decide)) (by exact Bits.fit (fmod_b hy yF) (by decide))) (subC 3 rfl (subC 3 rfl sub0)) (by kernel_rfl) (fun zq5 => ?_)
 refine st_fn ent86 (fzcmp (zq5) (q) (x.fmod y + x.fmod y) (y) (by exact Bits.fit (Bits.add (Bits.mono (l := 200) (fmod_b hy yF) (by decide)) (Bits.mono (l := 200) (fmod_b hy yF) (by decide))) (by decide)) (by exact Bits.fit hy (by decide))) (subC 0 rfl (subC 6 rfl sub0)) (by kernel_rfl) ?_
 exact st_retG (zq0.fst) Tryz.func53 (subE 3 rfl (by omega) sub0) (by kernel_rfl)
theorem near_3p (p q : ZQ) (x y : Int) (hx : Bits 200 x) (hy : Bits 200 y) (h0 : 0 < y) (hne : y ≠ 0) (hc : cmpI (x.fmod y) 0 = 1) (hs : 0 ≤ cmpI x 0)  (e : x.fdiv y + 1 = nearQ x y 3) :
  FnZ 53 [(p, x), (q, y)] [zv p, zv q, .int .i64 3] (fun z => .tuple #[zv z, .bool true]) (nearQ x y 3) := by
 refine fnG_of Tryz.func53 rfl fun ww => ?_
 refine st_g ent75 (fzdiv (p) (q) (x) (y) (by exact Bits.mono hx (by decide)) (by exact Bits.mono hy (by decide)) (by assumption)) (subC 0 rfl (subC 1 rfl sub0)) (by kernel_rfl) (fun zq0 => ?_)
 refine st_fn ent103 (fzsign (zq0.snd) (x.fmod y) (by exact Bits.fit (fmod_b hy yF) (by decide))) (subC 1 rfl sub0) (by kernel_rfl) ?_
 refine qN 29 (cmpI (x.fmod y) 0 == 0) ?_
 refine qZ ent39 (fzofu (1) (by omega) (by omega)) fun zq2 => ?_
 refine st_g ent32 (fzadd (zq0.fst) (zq2) (x.fdiv y) (1) (by exact Bits.fit (fdiv_b hx yF) (by decide)) (by exact Bits.fit (yB : Bits 64 (1)) (by decide))) (subC 1 rfl (subC 0 rfl sub0)) (by kernel_rfl) (fun zq3 => ?_)
 refine st_fn ent103 (fzsign (p) (x) (by exact Bits.fit hx (by decide))) (subC 4 rfl sub0) (by kernel_rfl) ?_
 refine qN 38 (decide (cmpI x 0 < 0)) ?_
 refine st_g ent32 (fzadd (zq0.snd) (zq0.snd) (x.fmod y) (x.fmod y) (by exact Bits.fit (fmod_b hy yF) (by decide)) (by exact Bits.fit (fmod_b hy yF) (by decide))) (subC 3 rfl (subC 3 rfl sub0)) (by kernel_rfl) (fun zq5 => ?_)
 refine st_fn ent86 (fzcmp (zq5) (q) (x.fmod y + x.fmod y) (y) (by exact Bits.fit (Bits.add (Bits.mono (l := 200) (fmod_b hy yF) (by decide)) (Bits.mono (l := 200) (fmod_b hy yF) (by decide))) (by decide)) (by exact Bits.fit hy (by decide))) (subC 0 rfl (subC 6 rfl sub0)) (by kernel_rfl) ?_
 exact st_retG (zq3) Tryz.func53 (subE 1 rfl (by omega) sub0) (by kernel_rfl)
theorem near_4n (p q : ZQ) (x y : Int) (hx : Bits 200 x) (hy : Bits 200 y) (h0 : 0 < y) (hne : y ≠ 0) (hc : cmpI (x.fmod y) 0 = 1) (hs : cmpI x 0 = -1)  (e : x.fdiv y + 1 = nearQ x y 4) :
  FnZ 53 [(p, x), (q, y)] [zv p, zv q, .int .i64 4] (fun z => .tuple #[zv z, .bool true]) (nearQ x y 4) := by
 refine fnG_of Tryz.func53 rfl fun ww => ?_
 refine st_g ent75 (fzdiv (p) (q) (x) (y) (by exact Bits.mono hx (by decide)) (by exact Bits.mono hy (by decide)) (by assumption)) (subC 0 rfl (subC 1 rfl sub0)) (by kernel_rfl) (fun zq0 => ?_)
 refine st_fn ent103 (fzsign (zq0.snd) (x.fmod y) (by exact Bits.fit (fmod_b hy yF) (by decide))) (subC 1 rfl sub0) (by kernel_rfl) ?_
 refine qN 29 (cmpI (x.fmod y) 0 == 0) ?_
 refine qZ ent39 (fzofu (1) (by omega) (by omega)) fun zq2 => ?_
 refine st_g ent32 (fzadd (zq0.fst) (zq2) (x.fdiv y) (1) (by exact Bits.fit (fdiv_b hx yF) (by decide)) (by exact Bits.fit (yB : Bits 64 (1)) (by decide))) (subC 1 rfl (subC 0 rfl sub0)) (by kernel_rfl) (fun zq3 => ?_)
 refine st_fn ent103 (fzsign (p) (x) (by exact Bits.fit hx (by decide))) (subC 4 rfl sub0) (by kernel_rfl) ?_
 refine qY 38 (decide (cmpI x 0 < 0)) ?_
 refine st_g ent32 (fzadd (zq0.snd) (zq0.snd) (x.fmod y) (x.fmod y) (by exact Bits.fit (fmod_b hy yF) (by decide)) (by exact Bits.fit (fmod_b hy yF) (by decide))) (subC 3 rfl (subC 3 rfl sub0)) (by kernel_rfl) (fun zq5 => ?_)
 refine st_fn ent86 (fzcmp (zq5) (q) (x.fmod y + x.fmod y) (y) (by exact Bits.fit (Bits.add (Bits.mono (l := 200) (fmod_b hy yF) (by decide)) (Bits.mono (l := 200) (fmod_b hy yF) (by decide))) (by decide)) (by exact Bits.fit hy (by decide))) (subC 0 rfl (subC 6 rfl sub0)) (by kernel_rfl) ?_
 exact st_retG (zq3) Tryz.func53 (subE 1 rfl (by omega) sub0) (by kernel_rfl)
theorem near_4p (p q : ZQ) (x y : Int) (hx : Bits 200 x) (hy : Bits 200 y) (h0 : 0 < y) (hne : y ≠ 0) (hc : cmpI (x.fmod y) 0 = 1) (hs : 0 ≤ cmpI x 0)  (e : x.fdiv y = nearQ x y 4) :
  FnZ 53 [(p, x), (q, y)] [zv p, zv q, .int .i64 4] (fun z => .tuple #[zv z, .bool true]) (nearQ x y 4) := by
 refine fnG_of Tryz.func53 rfl fun ww => ?_
 refine st_g ent75 (fzdiv (p) (q) (x) (y) (by exact Bits.mono hx (by decide)) (by exact Bits.mono hy (by decide)) (by assumption)) (subC 0 rfl (subC 1 rfl sub0)) (by kernel_rfl) (fun zq0 => ?_)
 refine st_fn ent103 (fzsign (zq0.snd) (x.fmod y) (by exact Bits.fit (fmod_b hy yF) (by decide))) (subC 1 rfl sub0) (by kernel_rfl) ?_
 refine qN 29 (cmpI (x.fmod y) 0 == 0) ?_
 refine qZ ent39 (fzofu (1) (by omega) (by omega)) fun zq2 => ?_
 refine st_g ent32 (fzadd (zq0.fst) (zq2) (x.fdiv y) (1) (by exact Bits.fit (fdiv_b hx yF) (by decide)) (by exact Bits.fit (yB : Bits 64 (1)) (by decide))) (subC 1 rfl (subC 0 rfl sub0)) (by kernel_rfl) (fun zq3 => ?_)
 refine st_fn ent103 (fzsign (p) (x) (by exact Bits.fit hx (by decide))) (subC 4 rfl sub0) (by kernel_rfl) ?_
 refine qN 38 (decide (cmpI x 0 < 0)) ?_
 refine st_g ent32 (fzadd (zq0.snd) (zq0.snd) (x.fmod y) (x.fmod y) (by exact Bits.fit (fmod_b hy yF) (by decide)) (by exact Bits.fit (fmod_b hy yF) (by decide))) (subC 3 rfl (subC 3 rfl sub0)) (by kernel_rfl) (fun zq5 => ?_)
 refine st_fn ent86 (fzcmp (zq5) (q) (x.fmod y + x.fmod y) (y) (by exact Bits.fit (Bits.add (Bits.mono (l := 200) (fmod_b hy yF) (by decide)) (Bits.mono (l := 200) (fmod_b hy yF) (by decide))) (by decide)) (by exact Bits.fit hy (by decide))) (subC 0 rfl (subC 6 rfl sub0)) (by kernel_rfl) ?_
 exact st_retG (zq0.fst) Tryz.func53 (subE 3 rfl (by omega) sub0) (by kernel_rfl)
theorem near_5nl (p q : ZQ) (x y : Int) (hx : Bits 200 x) (hy : Bits 200 y) (h0 : 0 < y) (hne : y ≠ 0) (hc : cmpI (x.fmod y) 0 = 1) (hs : cmpI x 0 = -1) (hh : cmpI (x.fmod y + x.fmod y) y = -1) (e : x.fdiv y = nearQ x y 5) :
  FnZ 53 [(p, x), (q, y)] [zv p, zv q, .int .i64 5] (fun z => .tuple #[zv z, .bool true]) (nearQ x y 5) := by
 refine fnG_of Tryz.func53 rfl fun ww => ?_
 refine st_g ent75 (fzdiv (p) (q) (x) (y) (by exact Bits.mono hx (by decide)) (by exact Bits.mono hy (by decide)) (by assumption)) (subC 0 rfl (subC 1 rfl sub0)) (by kernel_rfl) (fun zq0 => ?_)
 refine st_fn ent103 (fzsign (zq0.snd) (x.fmod y) (by exact Bits.fit (fmod_b hy yF) (by decide))) (subC 1 rfl sub0) (by kernel_rfl) ?_
 refine qN 29 (cmpI (x.fmod y) 0 == 0) ?_
 refine qZ ent39 (fzofu (1) (by omega) (by omega)) fun zq2 => ?_
 refine st_g ent32 (fzadd (zq0.fst) (zq2) (x.fdiv y) (1) (by exact Bits.fit (fdiv_b hx yF) (by decide)) (by exact Bits.fit (yB : Bits 64 (1)) (by decide))) (subC 1 rfl (subC 0 rfl sub0)) (by kernel_rfl) (fun zq3 => ?_)
 refine st_fn ent103 (fzsign (p) (x) (by exact Bits.fit hx (by decide))) (subC 4 rfl sub0) (by kernel_rfl) ?_
 refine qY 38 (decide (cmpI x 0 < 0)) ?_
 refine st_g ent32 (fzadd (zq0.snd) (zq0.snd) (x.fmod y) (x.fmod y) (by exact Bits.fit (fmod_b hy yF) (by decide)) (by exact Bits.fit (fmod_b hy yF) (by decide))) (subC 3 rfl (subC 3 rfl sub0)) (by kernel_rfl) (fun zq5 => ?_)
 refine st_fn ent86 (fzcmp (zq5) (q) (x.fmod y + x.fmod y) (y) (by exact Bits.fit (Bits.add (Bits.mono (l := 200) (fmod_b hy yF) (by decide)) (Bits.mono (l := 200) (fmod_b hy yF) (by decide))) (by decide)) (by exact Bits.fit hy (by decide))) (subC 0 rfl (subC 6 rfl sub0)) (by kernel_rfl) ?_
 refine qY 50 (decide (cmpI (x.fmod y + x.fmod y) y < 0)) ?_
 exact st_retG (zq0.fst) Tryz.func53 (subE 3 rfl (by omega) sub0) (by kernel_rfl)
theorem near_5ng (p q : ZQ) (x y : Int) (hx : Bits 200 x) (hy : Bits 200 y) (h0 : 0 < y) (hne : y ≠ 0) (hc : cmpI (x.fmod y) 0 = 1) (hs : cmpI x 0 = -1) (hh : cmpI (x.fmod y + x.fmod y) y = 1) (e : x.fdiv y + 1 = nearQ x y 5) :
  FnZ 53 [(p, x), (q, y)] [zv p, zv q, .int .i64 5] (fun z => .tuple #[zv z, .bool true]) (nearQ x y 5) := by
 refine fnG_of Tryz.func53 rfl fun ww => ?_
 refine st_g ent75 (fzdiv (p) (q) (x) (y) (by exact Bits.mono hx (by decide)) (by exact Bits.mono hy (by decide)) (by assumption)) (subC 0 rfl (subC 1 rfl sub0)) (by kernel_rfl) (fun zq0 => ?_)
 refine st_fn ent103 (fzsign (zq0.snd) (x.fmod y) (by exact Bits.fit (fmod_b hy yF) (by decide))) (subC 1 rfl sub0) (by kernel_rfl) ?_
 refine qN 29 (cmpI (x.fmod y) 0 == 0) ?_
 refine qZ ent39 (fzofu (1) (by omega) (by omega)) fun zq2 => ?_
 refine st_g ent32 (fzadd (zq0.fst) (zq2) (x.fdiv y) (1) (by exact Bits.fit (fdiv_b hx yF) (by decide)) (by exact Bits.fit (yB : Bits 64 (1)) (by decide))) (subC 1 rfl (subC 0 rfl sub0)) (by kernel_rfl) (fun zq3 => ?_)
 refine st_fn ent103 (fzsign (p) (x) (by exact Bits.fit hx (by decide))) (subC 4 rfl sub0) (by kernel_rfl) ?_
 refine qY 38 (decide (cmpI x 0 < 0)) ?_
 refine st_g ent32 (fzadd (zq0.snd) (zq0.snd) (x.fmod y) (x.fmod y) (by exact Bits.fit (fmod_b hy yF) (by decide)) (by exact Bits.fit (fmod_b hy yF) (by decide))) (subC 3 rfl (subC 3 rfl sub0)) (by kernel_rfl) (fun zq5 => ?_)
 refine st_fn ent86 (fzcmp (zq5) (q) (x.fmod y + x.fmod y) (y) (by exact Bits.fit (Bits.add (Bits.mono (l := 200) (fmod_b hy yF) (by decide)) (Bits.mono (l := 200) (fmod_b hy yF) (by decide))) (by decide)) (by exact Bits.fit hy (by decide))) (subC 0 rfl (subC 6 rfl sub0)) (by kernel_rfl) ?_
 refine qN 50 (decide (cmpI (x.fmod y + x.fmod y) y < 0)) ?_
 refine qY 57 (decide (cmpI (x.fmod y + x.fmod y) y > 0)) ?_
 exact st_retG (zq3) Tryz.func53 (subE 1 rfl (by omega) sub0) (by kernel_rfl)
theorem near_5ne (p q : ZQ) (x y : Int) (hx : Bits 200 x) (hy : Bits 200 y) (h0 : 0 < y) (hne : y ≠ 0) (hc : cmpI (x.fmod y) 0 = 1) (hs : cmpI x 0 = -1) (hh : cmpI (x.fmod y + x.fmod y) y = 0) (e : x.fdiv y + 1 = nearQ x y 5) :
  FnZ 53 [(p, x), (q, y)] [zv p, zv q, .int .i64 5] (fun z => .tuple #[zv z, .bool true]) (nearQ x y 5) := by
 refine fnG_of Tryz.func53 rfl fun ww => ?_
 refine st_g ent75 (fzdiv (p) (q) (x) (y) (by exact Bits.mono hx (by decide)) (by exact Bits.mono hy (by decide)) (by assumption)) (subC 0 rfl (subC 1 rfl sub0)) (by kernel_rfl) (fun zq0 => ?_)
 refine st_fn ent103 (fzsign (zq0.snd) (x.fmod y) (by exact Bits.fit (fmod_b hy yF) (by decide))) (subC 1 rfl sub0) (by kernel_rfl) ?_
 refine qN 29 (cmpI (x.fmod y) 0 == 0) ?_
 refine qZ ent39 (fzofu (1) (by omega) (by omega)) fun zq2 => ?_
 refine st_g ent32 (fzadd (zq0.fst) (zq2) (x.fdiv y) (1) (by exact Bits.fit (fdiv_b hx yF) (by decide)) (by exact Bits.fit (yB : Bits 64 (1)) (by decide))) (subC 1 rfl (subC 0 rfl sub0)) (by kernel_rfl) (fun zq3 => ?_)
 refine st_fn ent103 (fzsign (p) (x) (by exact Bits.fit hx (by decide))) (subC 4 rfl sub0) (by kernel_rfl) ?_
 refine qY 38 (decide (cmpI x 0 < 0)) ?_
 refine st_g ent32 (fzadd (zq0.snd) (zq0.snd) (x.fmod y) (x.fmod y) (by exact Bits.fit (fmod_b hy yF) (by decide)) (by exact Bits.fit (fmod_b hy yF) (by decide))) (subC 3 rfl (subC 3 rfl sub0)) (by kernel_rfl) (fun zq5 => ?_)
 refine st_fn ent86 (fzcmp (zq5) (q) (x.fmod y + x.fmod y) (y) (by exact Bits.fit (Bits.add (Bits.mono (l := 200) (fmod_b hy yF) (by decide)) (Bits.mono (l := 200) (fmod_b hy yF) (by decide))) (by decide)) (by exact Bits.fit hy (by decide))) (subC 0 rfl (subC 6 rfl sub0)) (by kernel_rfl) ?_
 refine qN 50 (decide (cmpI (x.fmod y + x.fmod y) y < 0)) ?_
 refine qN 57 (decide (cmpI (x.fmod y + x.fmod y) y > 0)) ?_
 exact st_retG (zq3) Tryz.func53 (subE 1 rfl (by omega) sub0) (by kernel_rfl)
theorem near_5pl (p q : ZQ) (x y : Int) (hx : Bits 200 x) (hy : Bits 200 y) (h0 : 0 < y) (hne : y ≠ 0) (hc : cmpI (x.fmod y) 0 = 1) (hs : 0 ≤ cmpI x 0) (hh : cmpI (x.fmod y + x.fmod y) y = -1) (e : x.fdiv y = nearQ x y 5) :
  FnZ 53 [(p, x), (q, y)] [zv p, zv q, .int .i64 5] (fun z => .tuple #[zv z, .bool true]) (nearQ x y 5) := by
 refine fnG_of Tryz.func53 rfl fun ww => ?_
 refine st_g ent75 (fzdiv (p) (q) (x) (y) (by exact Bits.mono hx (by decide)) (by exact Bits.mono hy (by decide)) (by assumption)) (subC 0 rfl (subC 1 rfl sub0)) (by kernel_rfl) (fun zq0 => ?_)
 refine st_fn ent103 (fzsign (zq0.snd) (x.fmod y) (by exact Bits.fit (fmod_b hy yF) (by decide))) (subC 1 rfl sub0) (by kernel_rfl) ?_
 refine qN 29 (cmpI (x.fmod y) 0 == 0) ?_
 refine qZ ent39 (fzofu (1) (by omega) (by omega)) fun zq2 => ?_
 refine st_g ent32 (fzadd (zq0.fst) (zq2) (x.fdiv y) (1) (by exact Bits.fit (fdiv_b hx yF) (by decide)) (by exact Bits.fit (yB : Bits 64 (1)) (by decide))) (subC 1 rfl (subC 0 rfl sub0)) (by kernel_rfl) (fun zq3 => ?_)
 refine st_fn ent103 (fzsign (p) (x) (by exact Bits.fit hx (by decide))) (subC 4 rfl sub0) (by kernel_rfl) ?_
 refine qN 38 (decide (cmpI x 0 < 0)) ?_
 refine st_g ent32 (fzadd (zq0.snd) (zq0.snd) (x.fmod y) (x.fmod y) (by exact Bits.fit (fmod_b hy yF) (by decide)) (by exact Bits.fit (fmod_b hy yF) (by decide))) (subC 3 rfl (subC 3 rfl sub0)) (by kernel_rfl) (fun zq5 => ?_)
 refine st_fn ent86 (fzcmp (zq5) (q) (x.fmod y + x.fmod y) (y) (by exact Bits.fit (Bits.add (Bits.mono (l := 200) (fmod_b hy yF) (by decide)) (Bits.mono (l := 200) (fmod_b hy yF) (by decide))) (by decide)) (by exact Bits.fit hy (by decide))) (subC 0 rfl (subC 6 rfl sub0)) (by kernel_rfl) ?_
 refine qY 50 (decide (cmpI (x.fmod y + x.fmod y) y < 0)) ?_
 exact st_retG (zq0.fst) Tryz.func53 (subE 3 rfl (by omega) sub0) (by kernel_rfl)
theorem near_5pg (p q : ZQ) (x y : Int) (hx : Bits 200 x) (hy : Bits 200 y) (h0 : 0 < y) (hne : y ≠ 0) (hc : cmpI (x.fmod y) 0 = 1) (hs : 0 ≤ cmpI x 0) (hh : cmpI (x.fmod y + x.fmod y) y = 1) (e : x.fdiv y + 1 = nearQ x y 5) :
  FnZ 53 [(p, x), (q, y)] [zv p, zv q, .int .i64 5] (fun z => .tuple #[zv z, .bool true]) (nearQ x y 5) := by
 refine fnG_of Tryz.func53 rfl fun ww => ?_
 refine st_g ent75 (fzdiv (p) (q) (x) (y) (by exact Bits.mono hx (by decide)) (by exact Bits.mono hy (by decide)) (by assumption)) (subC 0 rfl (subC 1 rfl sub0)) (by kernel_rfl) (fun zq0 => ?_)
 refine st_fn ent103 (fzsign (zq0.snd) (x.fmod y) (by exact Bits.fit (fmod_b hy yF) (by decide))) (subC 1 rfl sub0) (by kernel_rfl) ?_
 refine qN 29 (cmpI (x.fmod y) 0 == 0) ?_
 refine qZ ent39 (fzofu (1) (by omega) (by omega)) fun zq2 => ?_
 refine st_g ent32 (fzadd (zq0.fst) (zq2) (x.fdiv y) (1) (by exact Bits.fit (fdiv_b hx yF) (by decide)) (by exact Bits.fit (yB : Bits 64 (1)) (by decide))) (subC 1 rfl (subC 0 rfl sub0)) (by kernel_rfl) (fun zq3 => ?_)
 refine st_fn ent103 (fzsign (p) (x) (by exact Bits.fit hx (by decide))) (subC 4 rfl sub0) (by kernel_rfl) ?_
 refine qN 38 (decide (cmpI x 0 < 0)) ?_
 refine st_g ent32 (fzadd (zq0.snd) (zq0.snd) (x.fmod y) (x.fmod y) (by exact Bits.fit (fmod_b hy yF) (by decide)) (by exact Bits.fit (fmod_b hy yF) (by decide))) (subC 3 rfl (subC 3 rfl sub0)) (by kernel_rfl) (fun zq5 => ?_)
 refine st_fn ent86 (fzcmp (zq5) (q) (x.fmod y + x.fmod y) (y) (by exact Bits.fit (Bits.add (Bits.mono (l := 200) (fmod_b hy yF) (by decide)) (Bits.mono (l := 200) (fmod_b hy yF) (by decide))) (by decide)) (by exact Bits.fit hy (by decide))) (subC 0 rfl (subC 6 rfl sub0)) (by kernel_rfl) ?_
 refine qN 50 (decide (cmpI (x.fmod y + x.fmod y) y < 0)) ?_
 refine qY 57 (decide (cmpI (x.fmod y + x.fmod y) y > 0)) ?_
 exact st_retG (zq3) Tryz.func53 (subE 1 rfl (by omega) sub0) (by kernel_rfl)
theorem near_5pe (p q : ZQ) (x y : Int) (hx : Bits 200 x) (hy : Bits 200 y) (h0 : 0 < y) (hne : y ≠ 0) (hc : cmpI (x.fmod y) 0 = 1) (hs : 0 ≤ cmpI x 0) (hh : cmpI (x.fmod y + x.fmod y) y = 0) (e : x.fdiv y + 1 = nearQ x y 5) :
  FnZ 53 [(p, x), (q, y)] [zv p, zv q, .int .i64 5] (fun z => .tuple #[zv z, .bool true]) (nearQ x y 5) := by
 refine fnG_of Tryz.func53 rfl fun ww => ?_
 refine st_g ent75 (fzdiv (p) (q) (x) (y) (by exact Bits.mono hx (by decide)) (by exact Bits.mono hy (by decide)) (by assumption)) (subC 0 rfl (subC 1 rfl sub0)) (by kernel_rfl) (fun zq0 => ?_)
 refine st_fn ent103 (fzsign (zq0.snd) (x.fmod y) (by exact Bits.fit (fmod_b hy yF) (by decide))) (subC 1 rfl sub0) (by kernel_rfl) ?_
 refine qN 29 (cmpI (x.fmod y) 0 == 0) ?_
 refine qZ ent39 (fzofu (1) (by omega) (by omega)) fun zq2 => ?_
 refine st_g ent32 (fzadd (zq0.fst) (zq2) (x.fdiv y) (1) (by exact Bits.fit (fdiv_b hx yF) (by decide)) (by exact Bits.fit (yB : Bits 64 (1)) (by decide))) (subC 1 rfl (subC 0 rfl sub0)) (by kernel_rfl) (fun zq3 => ?_)
 refine st_fn ent103 (fzsign (p) (x) (by exact Bits.fit hx (by decide))) (subC 4 rfl sub0) (by kernel_rfl) ?_
 refine qN 38 (decide (cmpI x 0 < 0)) ?_
 refine st_g ent32 (fzadd (zq0.snd) (zq0.snd) (x.fmod y) (x.fmod y) (by exact Bits.fit (fmod_b hy yF) (by decide)) (by exact Bits.fit (fmod_b hy yF) (by decide))) (subC 3 rfl (subC 3 rfl sub0)) (by kernel_rfl) (fun zq5 => ?_)
 refine st_fn ent86 (fzcmp (zq5) (q) (x.fmod y + x.fmod y) (y) (by exact Bits.fit (Bits.add (Bits.mono (l := 200) (fmod_b hy yF) (by decide)) (Bits.mono (l := 200) (fmod_b hy yF) (by decide))) (by decide)) (by exact Bits.fit hy (by decide))) (subC 0 rfl (subC 6 rfl sub0)) (by kernel_rfl) ?_
 refine qN 50 (decide (cmpI (x.fmod y + x.fmod y) y < 0)) ?_
 refine qN 57 (decide (cmpI (x.fmod y + x.fmod y) y > 0)) ?_
 exact st_retG (zq3) Tryz.func53 (subE 1 rfl (by omega) sub0) (by kernel_rfl)
theorem near_6nl (p q : ZQ) (x y : Int) (hx : Bits 200 x) (hy : Bits 200 y) (h0 : 0 < y) (hne : y ≠ 0) (hc : cmpI (x.fmod y) 0 = 1) (hs : cmpI x 0 = -1) (hh : cmpI (x.fmod y + x.fmod y) y = -1) (e : x.fdiv y = nearQ x y 6) :
  FnZ 53 [(p, x), (q, y)] [zv p, zv q, .int .i64 6] (fun z => .tuple #[zv z, .bool true]) (nearQ x y 6) := by
 refine fnG_of Tryz.func53 rfl fun ww => ?_
 refine st_g ent75 (fzdiv (p) (q) (x) (y) (by exact Bits.mono hx (by decide)) (by exact Bits.mono hy (by decide)) (by assumption)) (subC 0 rfl (subC 1 rfl sub0)) (by kernel_rfl) (fun zq0 => ?_)
 refine st_fn ent103 (fzsign (zq0.snd) (x.fmod y) (by exact Bits.fit (fmod_b hy yF) (by decide))) (subC 1 rfl sub0) (by kernel_rfl) ?_
 refine qN 29 (cmpI (x.fmod y) 0 == 0) ?_
 refine qZ ent39 (fzofu (1) (by omega) (by omega)) fun zq2 => ?_
 refine st_g ent32 (fzadd (zq0.fst) (zq2) (x.fdiv y) (1) (by exact Bits.fit (fdiv_b hx yF) (by decide)) (by exact Bits.fit (yB : Bits 64 (1)) (by decide))) (subC 1 rfl (subC 0 rfl sub0)) (by kernel_rfl) (fun zq3 => ?_)
 refine st_fn ent103 (fzsign (p) (x) (by exact Bits.fit hx (by decide))) (subC 4 rfl sub0) (by kernel_rfl) ?_
 refine qY 38 (decide (cmpI x 0 < 0)) ?_
 refine st_g ent32 (fzadd (zq0.snd) (zq0.snd) (x.fmod y) (x.fmod y) (by exact Bits.fit (fmod_b hy yF) (by decide)) (by exact Bits.fit (fmod_b hy yF) (by decide))) (subC 3 rfl (subC 3 rfl sub0)) (by kernel_rfl) (fun zq5 => ?_)
 refine st_fn ent86 (fzcmp (zq5) (q) (x.fmod y + x.fmod y) (y) (by exact Bits.fit (Bits.add (Bits.mono (l := 200) (fmod_b hy yF) (by decide)) (Bits.mono (l := 200) (fmod_b hy yF) (by decide))) (by decide)) (by exact Bits.fit hy (by decide))) (subC 0 rfl (subC 6 rfl sub0)) (by kernel_rfl) ?_
 refine qY 50 (decide (cmpI (x.fmod y + x.fmod y) y < 0)) ?_
 exact st_retG (zq0.fst) Tryz.func53 (subE 3 rfl (by omega) sub0) (by kernel_rfl)
theorem near_6ng (p q : ZQ) (x y : Int) (hx : Bits 200 x) (hy : Bits 200 y) (h0 : 0 < y) (hne : y ≠ 0) (hc : cmpI (x.fmod y) 0 = 1) (hs : cmpI x 0 = -1) (hh : cmpI (x.fmod y + x.fmod y) y = 1) (e : x.fdiv y + 1 = nearQ x y 6) :
  FnZ 53 [(p, x), (q, y)] [zv p, zv q, .int .i64 6] (fun z => .tuple #[zv z, .bool true]) (nearQ x y 6) := by
 refine fnG_of Tryz.func53 rfl fun ww => ?_
 refine st_g ent75 (fzdiv (p) (q) (x) (y) (by exact Bits.mono hx (by decide)) (by exact Bits.mono hy (by decide)) (by assumption)) (subC 0 rfl (subC 1 rfl sub0)) (by kernel_rfl) (fun zq0 => ?_)
 refine st_fn ent103 (fzsign (zq0.snd) (x.fmod y) (by exact Bits.fit (fmod_b hy yF) (by decide))) (subC 1 rfl sub0) (by kernel_rfl) ?_
 refine qN 29 (cmpI (x.fmod y) 0 == 0) ?_
 refine qZ ent39 (fzofu (1) (by omega) (by omega)) fun zq2 => ?_
 refine st_g ent32 (fzadd (zq0.fst) (zq2) (x.fdiv y) (1) (by exact Bits.fit (fdiv_b hx yF) (by decide)) (by exact Bits.fit (yB : Bits 64 (1)) (by decide))) (subC 1 rfl (subC 0 rfl sub0)) (by kernel_rfl) (fun zq3 => ?_)
 refine st_fn ent103 (fzsign (p) (x) (by exact Bits.fit hx (by decide))) (subC 4 rfl sub0) (by kernel_rfl) ?_
 refine qY 38 (decide (cmpI x 0 < 0)) ?_
 refine st_g ent32 (fzadd (zq0.snd) (zq0.snd) (x.fmod y) (x.fmod y) (by exact Bits.fit (fmod_b hy yF) (by decide)) (by exact Bits.fit (fmod_b hy yF) (by decide))) (subC 3 rfl (subC 3 rfl sub0)) (by kernel_rfl) (fun zq5 => ?_)
 refine st_fn ent86 (fzcmp (zq5) (q) (x.fmod y + x.fmod y) (y) (by exact Bits.fit (Bits.add (Bits.mono (l := 200) (fmod_b hy yF) (by decide)) (Bits.mono (l := 200) (fmod_b hy yF) (by decide))) (by decide)) (by exact Bits.fit hy (by decide))) (subC 0 rfl (subC 6 rfl sub0)) (by kernel_rfl) ?_
 refine qN 50 (decide (cmpI (x.fmod y + x.fmod y) y < 0)) ?_
 refine qY 57 (decide (cmpI (x.fmod y + x.fmod y) y > 0)) ?_
 exact st_retG (zq3) Tryz.func53 (subE 1 rfl (by omega) sub0) (by kernel_rfl)
theorem near_6ne (p q : ZQ) (x y : Int) (hx : Bits 200 x) (hy : Bits 200 y) (h0 : 0 < y) (hne : y ≠ 0) (hc : cmpI (x.fmod y) 0 = 1) (hs : cmpI x 0 = -1) (hh : cmpI (x.fmod y + x.fmod y) y = 0) (e : x.fdiv y = nearQ x y 6) :
  FnZ 53 [(p, x), (q, y)] [zv p, zv q, .int .i64 6] (fun z => .tuple #[zv z, .bool true]) (nearQ x y 6) := by
 refine fnG_of Tryz.func53 rfl fun ww => ?_
 refine st_g ent75 (fzdiv (p) (q) (x) (y) (by exact Bits.mono hx (by decide)) (by exact Bits.mono hy (by decide)) (by assumption)) (subC 0 rfl (subC 1 rfl sub0)) (by kernel_rfl) (fun zq0 => ?_)
 refine st_fn ent103 (fzsign (zq0.snd) (x.fmod y) (by exact Bits.fit (fmod_b hy yF) (by decide))) (subC 1 rfl sub0) (by kernel_rfl) ?_
 refine qN 29 (cmpI (x.fmod y) 0 == 0) ?_
 refine qZ ent39 (fzofu (1) (by omega) (by omega)) fun zq2 => ?_
 refine st_g ent32 (fzadd (zq0.fst) (zq2) (x.fdiv y) (1) (by exact Bits.fit (fdiv_b hx yF) (by decide)) (by exact Bits.fit (yB : Bits 64 (1)) (by decide))) (subC 1 rfl (subC 0 rfl sub0)) (by kernel_rfl) (fun zq3 => ?_)
 refine st_fn ent103 (fzsign (p) (x) (by exact Bits.fit hx (by decide))) (subC 4 rfl sub0) (by kernel_rfl) ?_
 refine qY 38 (decide (cmpI x 0 < 0)) ?_
 refine st_g ent32 (fzadd (zq0.snd) (zq0.snd) (x.fmod y) (x.fmod y) (by exact Bits.fit (fmod_b hy yF) (by decide)) (by exact Bits.fit (fmod_b hy yF) (by decide))) (subC 3 rfl (subC 3 rfl sub0)) (by kernel_rfl) (fun zq5 => ?_)
 refine st_fn ent86 (fzcmp (zq5) (q) (x.fmod y + x.fmod y) (y) (by exact Bits.fit (Bits.add (Bits.mono (l := 200) (fmod_b hy yF) (by decide)) (Bits.mono (l := 200) (fmod_b hy yF) (by decide))) (by decide)) (by exact Bits.fit hy (by decide))) (subC 0 rfl (subC 6 rfl sub0)) (by kernel_rfl) ?_
 refine qN 50 (decide (cmpI (x.fmod y + x.fmod y) y < 0)) ?_
 refine qN 57 (decide (cmpI (x.fmod y + x.fmod y) y > 0)) ?_
 exact st_retG (zq0.fst) Tryz.func53 (subE 3 rfl (by omega) sub0) (by kernel_rfl)
theorem near_6pl (p q : ZQ) (x y : Int) (hx : Bits 200 x) (hy : Bits 200 y) (h0 : 0 < y) (hne : y ≠ 0) (hc : cmpI (x.fmod y) 0 = 1) (hs : 0 ≤ cmpI x 0) (hh : cmpI (x.fmod y + x.fmod y) y = -1) (e : x.fdiv y = nearQ x y 6) :
  FnZ 53 [(p, x), (q, y)] [zv p, zv q, .int .i64 6] (fun z => .tuple #[zv z, .bool true]) (nearQ x y 6) := by
 refine fnG_of Tryz.func53 rfl fun ww => ?_
 refine st_g ent75 (fzdiv (p) (q) (x) (y) (by exact Bits.mono hx (by decide)) (by exact Bits.mono hy (by decide)) (by assumption)) (subC 0 rfl (subC 1 rfl sub0)) (by kernel_rfl) (fun zq0 => ?_)
 refine st_fn ent103 (fzsign (zq0.snd) (x.fmod y) (by exact Bits.fit (fmod_b hy yF) (by decide))) (subC 1 rfl sub0) (by kernel_rfl) ?_
 refine qN 29 (cmpI (x.fmod y) 0 == 0) ?_
 refine qZ ent39 (fzofu (1) (by omega) (by omega)) fun zq2 => ?_
 refine st_g ent32 (fzadd (zq0.fst) (zq2) (x.fdiv y) (1) (by exact Bits.fit (fdiv_b hx yF) (by decide)) (by exact Bits.fit (yB : Bits 64 (1)) (by decide))) (subC 1 rfl (subC 0 rfl sub0)) (by kernel_rfl) (fun zq3 => ?_)
 refine st_fn ent103 (fzsign (p) (x) (by exact Bits.fit hx (by decide))) (subC 4 rfl sub0) (by kernel_rfl) ?_
 refine qN 38 (decide (cmpI x 0 < 0)) ?_
 refine st_g ent32 (fzadd (zq0.snd) (zq0.snd) (x.fmod y) (x.fmod y) (by exact Bits.fit (fmod_b hy yF) (by decide)) (by exact Bits.fit (fmod_b hy yF) (by decide))) (subC 3 rfl (subC 3 rfl sub0)) (by kernel_rfl) (fun zq5 => ?_)
 refine st_fn ent86 (fzcmp (zq5) (q) (x.fmod y + x.fmod y) (y) (by exact Bits.fit (Bits.add (Bits.mono (l := 200) (fmod_b hy yF) (by decide)) (Bits.mono (l := 200) (fmod_b hy yF) (by decide))) (by decide)) (by exact Bits.fit hy (by decide))) (subC 0 rfl (subC 6 rfl sub0)) (by kernel_rfl) ?_
 refine qY 50 (decide (cmpI (x.fmod y + x.fmod y) y < 0)) ?_
 exact st_retG (zq0.fst) Tryz.func53 (subE 3 rfl (by omega) sub0) (by kernel_rfl)
theorem near_6pg (p q : ZQ) (x y : Int) (hx : Bits 200 x) (hy : Bits 200 y) (h0 : 0 < y) (hne : y ≠ 0) (hc : cmpI (x.fmod y) 0 = 1) (hs : 0 ≤ cmpI x 0) (hh : cmpI (x.fmod y + x.fmod y) y = 1) (e : x.fdiv y + 1 = nearQ x y 6) :
  FnZ 53 [(p, x), (q, y)] [zv p, zv q, .int .i64 6] (fun z => .tuple #[zv z, .bool true]) (nearQ x y 6) := by
 refine fnG_of Tryz.func53 rfl fun ww => ?_
 refine st_g ent75 (fzdiv (p) (q) (x) (y) (by exact Bits.mono hx (by decide)) (by exact Bits.mono hy (by decide)) (by assumption)) (subC 0 rfl (subC 1 rfl sub0)) (by kernel_rfl) (fun zq0 => ?_)
 refine st_fn ent103 (fzsign (zq0.snd) (x.fmod y) (by exact Bits.fit (fmod_b hy yF) (by decide))) (subC 1 rfl sub0) (by kernel_rfl) ?_
 refine qN 29 (cmpI (x.fmod y) 0 == 0) ?_
 refine qZ ent39 (fzofu (1) (by omega) (by omega)) fun zq2 => ?_
 refine st_g ent32 (fzadd (zq0.fst) (zq2) (x.fdiv y) (1) (by exact Bits.fit (fdiv_b hx yF) (by decide)) (by exact Bits.fit (yB : Bits 64 (1)) (by decide))) (subC 1 rfl (subC 0 rfl sub0)) (by kernel_rfl) (fun zq3 => ?_)
 refine st_fn ent103 (fzsign (p) (x) (by exact Bits.fit hx (by decide))) (subC 4 rfl sub0) (by kernel_rfl) ?_
 refine qN 38 (decide (cmpI x 0 < 0)) ?_
 refine st_g ent32 (fzadd (zq0.snd) (zq0.snd) (x.fmod y) (x.fmod y) (by exact Bits.fit (fmod_b hy yF) (by decide)) (by exact Bits.fit (fmod_b hy yF) (by decide))) (subC 3 rfl (subC 3 rfl sub0)) (by kernel_rfl) (fun zq5 => ?_)
 refine st_fn ent86 (fzcmp (zq5) (q) (x.fmod y + x.fmod y) (y) (by exact Bits.fit (Bits.add (Bits.mono (l := 200) (fmod_b hy yF) (by decide)) (Bits.mono (l := 200) (fmod_b hy yF) (by decide))) (by decide)) (by exact Bits.fit hy (by decide))) (subC 0 rfl (subC 6 rfl sub0)) (by kernel_rfl) ?_
 refine qN 50 (decide (cmpI (x.fmod y + x.fmod y) y < 0)) ?_
 refine qY 57 (decide (cmpI (x.fmod y + x.fmod y) y > 0)) ?_
 exact st_retG (zq3) Tryz.func53 (subE 1 rfl (by omega) sub0) (by kernel_rfl)
theorem near_6pe (p q : ZQ) (x y : Int) (hx : Bits 200 x) (hy : Bits 200 y) (h0 : 0 < y) (hne : y ≠ 0) (hc : cmpI (x.fmod y) 0 = 1) (hs : 0 ≤ cmpI x 0) (hh : cmpI (x.fmod y + x.fmod y) y = 0) (e : x.fdiv y = nearQ x y 6) :
  FnZ 53 [(p, x), (q, y)] [zv p, zv q, .int .i64 6] (fun z => .tuple #[zv z, .bool true]) (nearQ x y 6) := by
 refine fnG_of Tryz.func53 rfl fun ww => ?_
 refine st_g ent75 (fzdiv (p) (q) (x) (y) (by exact Bits.mono hx (by decide)) (by exact Bits.mono hy (by decide)) (by assumption)) (subC 0 rfl (subC 1 rfl sub0)) (by kernel_rfl) (fun zq0 => ?_)
 refine st_fn ent103 (fzsign (zq0.snd) (x.fmod y) (by exact Bits.fit (fmod_b hy yF) (by decide))) (subC 1 rfl sub0) (by kernel_rfl) ?_
 refine qN 29 (cmpI (x.fmod y) 0 == 0) ?_
 refine qZ ent39 (fzofu (1) (by omega) (by omega)) fun zq2 => ?_
 refine st_g ent32 (fzadd (zq0.fst) (zq2) (x.fdiv y) (1) (by exact Bits.fit (fdiv_b hx yF) (by decide)) (by exact Bits.fit (yB : Bits 64 (1)) (by decide))) (subC 1 rfl (subC 0 rfl sub0)) (by kernel_rfl) (fun zq3 => ?_)
 refine st_fn ent103 (fzsign (p) (x) (by exact Bits.fit hx (by decide))) (subC 4 rfl sub0) (by kernel_rfl) ?_
 refine qN 38 (decide (cmpI x 0 < 0)) ?_
 refine st_g ent32 (fzadd (zq0.snd) (zq0.snd) (x.fmod y) (x.fmod y) (by exact Bits.fit (fmod_b hy yF) (by decide)) (by exact Bits.fit (fmod_b hy yF) (by decide))) (subC 3 rfl (subC 3 rfl sub0)) (by kernel_rfl) (fun zq5 => ?_)
 refine st_fn ent86 (fzcmp (zq5) (q) (x.fmod y + x.fmod y) (y) (by exact Bits.fit (Bits.add (Bits.mono (l := 200) (fmod_b hy yF) (by decide)) (Bits.mono (l := 200) (fmod_b hy yF) (by decide))) (by decide)) (by exact Bits.fit hy (by decide))) (subC 0 rfl (subC 6 rfl sub0)) (by kernel_rfl) ?_
 refine qN 50 (decide (cmpI (x.fmod y + x.fmod y) y < 0)) ?_
 refine qN 57 (decide (cmpI (x.fmod y + x.fmod y) y > 0)) ?_
 exact st_retG (zq0.fst) Tryz.func53 (subE 3 rfl (by omega) sub0) (by kernel_rfl)
theorem near_7nl (p q : ZQ) (x y : Int) (hx : Bits 200 x) (hy : Bits 200 y) (h0 : 0 < y) (hne : y ≠ 0) (hc : cmpI (x.fmod y) 0 = 1) (hs : cmpI x 0 = -1) (hh : cmpI (x.fmod y + x.fmod y) y = -1) (e : x.fdiv y = nearQ x y 7) :
  FnZ 53 [(p, x), (q, y)] [zv p, zv q, .int .i64 7] (fun z => .tuple #[zv z, .bool true]) (nearQ x y 7) := by
 refine fnG_of Tryz.func53 rfl fun ww => ?_
 refine st_g ent75 (fzdiv (p) (q) (x) (y) (by exact Bits.mono hx (by decide)) (by exact Bits.mono hy (by decide)) (by assumption)) (subC 0 rfl (subC 1 rfl sub0)) (by kernel_rfl) (fun zq0 => ?_)
 refine st_fn ent103 (fzsign (zq0.snd) (x.fmod y) (by exact Bits.fit (fmod_b hy yF) (by decide))) (subC 1 rfl sub0) (by kernel_rfl) ?_
 refine qN 29 (cmpI (x.fmod y) 0 == 0) ?_
 refine qZ ent39 (fzofu (1) (by omega) (by omega)) fun zq2 => ?_
 refine st_g ent32 (fzadd (zq0.fst) (zq2) (x.fdiv y) (1) (by exact Bits.fit (fdiv_b hx yF) (by decide)) (by exact Bits.fit (yB : Bits 64 (1)) (by decide))) (subC 1 rfl (subC 0 rfl sub0)) (by kernel_rfl) (fun zq3 => ?_)
 refine st_fn ent103 (fzsign (p) (x) (by exact Bits.fit hx (by decide))) (subC 4 rfl sub0) (by kernel_rfl) ?_
 refine qY 38 (decide (cmpI x 0 < 0)) ?_
 refine st_g ent32 (fzadd (zq0.snd) (zq0.snd) (x.fmod y) (x.fmod y) (by exact Bits.fit (fmod_b hy yF) (by decide)) (by exact Bits.fit (fmod_b hy yF) (by decide))) (subC 3 rfl (subC 3 rfl sub0)) (by kernel_rfl) (fun zq5 => ?_)
 refine st_fn ent86 (fzcmp (zq5) (q) (x.fmod y + x.fmod y) (y) (by exact Bits.fit (Bits.add (Bits.mono (l := 200) (fmod_b hy yF) (by decide)) (Bits.mono (l := 200) (fmod_b hy yF) (by decide))) (by decide)) (by exact Bits.fit hy (by decide))) (subC 0 rfl (subC 6 rfl sub0)) (by kernel_rfl) ?_
 refine qY 50 (decide (cmpI (x.fmod y + x.fmod y) y < 0)) ?_
 exact st_retG (zq0.fst) Tryz.func53 (subE 3 rfl (by omega) sub0) (by kernel_rfl)
theorem near_7ng (p q : ZQ) (x y : Int) (hx : Bits 200 x) (hy : Bits 200 y) (h0 : 0 < y) (hne : y ≠ 0) (hc : cmpI (x.fmod y) 0 = 1) (hs : cmpI x 0 = -1) (hh : cmpI (x.fmod y + x.fmod y) y = 1) (e : x.fdiv y + 1 = nearQ x y 7) :
  FnZ 53 [(p, x), (q, y)] [zv p, zv q, .int .i64 7] (fun z => .tuple #[zv z, .bool true]) (nearQ x y 7) := by
 refine fnG_of Tryz.func53 rfl fun ww => ?_
 refine st_g ent75 (fzdiv (p) (q) (x) (y) (by exact Bits.mono hx (by decide)) (by exact Bits.mono hy (by decide)) (by assumption)) (subC 0 rfl (subC 1 rfl sub0)) (by kernel_rfl) (fun zq0 => ?_)
 refine st_fn ent103 (fzsign (zq0.snd) (x.fmod y) (by exact Bits.fit (fmod_b hy yF) (by decide))) (subC 1 rfl sub0) (by kernel_rfl) ?_
 refine qN 29 (cmpI (x.fmod y) 0 == 0) ?_
 refine qZ ent39 (fzofu (1) (by omega) (by omega)) fun zq2 => ?_
 refine st_g ent32 (fzadd (zq0.fst) (zq2) (x.fdiv y) (1) (by exact Bits.fit (fdiv_b hx yF) (by decide)) (by exact Bits.fit (yB : Bits 64 (1)) (by decide))) (subC 1 rfl (subC 0 rfl sub0)) (by kernel_rfl) (fun zq3 => ?_)
 refine st_fn ent103 (fzsign (p) (x) (by exact Bits.fit hx (by decide))) (subC 4 rfl sub0) (by kernel_rfl) ?_
 refine qY 38 (decide (cmpI x 0 < 0)) ?_
 refine st_g ent32 (fzadd (zq0.snd) (zq0.snd) (x.fmod y) (x.fmod y) (by exact Bits.fit (fmod_b hy yF) (by decide)) (by exact Bits.fit (fmod_b hy yF) (by decide))) (subC 3 rfl (subC 3 rfl sub0)) (by kernel_rfl) (fun zq5 => ?_)
 refine st_fn ent86 (fzcmp (zq5) (q) (x.fmod y + x.fmod y) (y) (by exact Bits.fit (Bits.add (Bits.mono (l := 200) (fmod_b hy yF) (by decide)) (Bits.mono (l := 200) (fmod_b hy yF) (by decide))) (by decide)) (by exact Bits.fit hy (by decide))) (subC 0 rfl (subC 6 rfl sub0)) (by kernel_rfl) ?_
 refine qN 50 (decide (cmpI (x.fmod y + x.fmod y) y < 0)) ?_
 refine qY 57 (decide (cmpI (x.fmod y + x.fmod y) y > 0)) ?_
 exact st_retG (zq3) Tryz.func53 (subE 1 rfl (by omega) sub0) (by kernel_rfl)
theorem near_7ne (p q : ZQ) (x y : Int) (hx : Bits 200 x) (hy : Bits 200 y) (h0 : 0 < y) (hne : y ≠ 0) (hc : cmpI (x.fmod y) 0 = 1) (hs : cmpI x 0 = -1) (hh : cmpI (x.fmod y + x.fmod y) y = 0) (e : x.fdiv y = nearQ x y 7) :
  FnZ 53 [(p, x), (q, y)] [zv p, zv q, .int .i64 7] (fun z => .tuple #[zv z, .bool true]) (nearQ x y 7) := by
 refine fnG_of Tryz.func53 rfl fun ww => ?_
 refine st_g ent75 (fzdiv (p) (q) (x) (y) (by exact Bits.mono hx (by decide)) (by exact Bits.mono hy (by decide)) (by assumption)) (subC 0 rfl (subC 1 rfl sub0)) (by kernel_rfl) (fun zq0 => ?_)
 refine st_fn ent103 (fzsign (zq0.snd) (x.fmod y) (by exact Bits.fit (fmod_b hy yF) (by decide))) (subC 1 rfl sub0) (by kernel_rfl) ?_
 refine qN 29 (cmpI (x.fmod y) 0 == 0) ?_
 refine qZ ent39 (fzofu (1) (by omega) (by omega)) fun zq2 => ?_
 refine st_g ent32 (fzadd (zq0.fst) (zq2) (x.fdiv y) (1) (by exact Bits.fit (fdiv_b hx yF) (by decide)) (by exact Bits.fit (yB : Bits 64 (1)) (by decide))) (subC 1 rfl (subC 0 rfl sub0)) (by kernel_rfl) (fun zq3 => ?_)
 refine st_fn ent103 (fzsign (p) (x) (by exact Bits.fit hx (by decide))) (subC 4 rfl sub0) (by kernel_rfl) ?_
 refine qY 38 (decide (cmpI x 0 < 0)) ?_
 refine st_g ent32 (fzadd (zq0.snd) (zq0.snd) (x.fmod y) (x.fmod y) (by exact Bits.fit (fmod_b hy yF) (by decide)) (by exact Bits.fit (fmod_b hy yF) (by decide))) (subC 3 rfl (subC 3 rfl sub0)) (by kernel_rfl) (fun zq5 => ?_)
 refine st_fn ent86 (fzcmp (zq5) (q) (x.fmod y + x.fmod y) (y) (by exact Bits.fit (Bits.add (Bits.mono (l := 200) (fmod_b hy yF) (by decide)) (Bits.mono (l := 200) (fmod_b hy yF) (by decide))) (by decide)) (by exact Bits.fit hy (by decide))) (subC 0 rfl (subC 6 rfl sub0)) (by kernel_rfl) ?_
 refine qN 50 (decide (cmpI (x.fmod y + x.fmod y) y < 0)) ?_
 refine qN 57 (decide (cmpI (x.fmod y + x.fmod y) y > 0)) ?_
 exact st_retG (zq0.fst) Tryz.func53 (subE 3 rfl (by omega) sub0) (by kernel_rfl)
theorem near_7pl (p q : ZQ) (x y : Int) (hx : Bits 200 x) (hy : Bits 200 y) (h0 : 0 < y) (hne : y ≠ 0) (hc : cmpI (x.fmod y) 0 = 1) (hs : 0 ≤ cmpI x 0) (hh : cmpI (x.fmod y + x.fmod y) y = -1) (e : x.fdiv y = nearQ x y 7) :
  FnZ 53 [(p, x), (q, y)] [zv p, zv q, .int .i64 7] (fun z => .tuple #[zv z, .bool true]) (nearQ x y 7) := by
 refine fnG_of Tryz.func53 rfl fun ww => ?_
 refine st_g ent75 (fzdiv (p) (q) (x) (y) (by exact Bits.mono hx (by decide)) (by exact Bits.mono hy (by decide)) (by assumption)) (subC 0 rfl (subC 1 rfl sub0)) (by kernel_rfl) (fun zq0 => ?_)
 refine st_fn ent103 (fzsign (zq0.snd) (x.fmod y) (by exact Bits.fit (fmod_b hy yF) (by decide))) (subC 1 rfl sub0) (by kernel_rfl) ?_
 refine qN 29 (cmpI (x.fmod y) 0 == 0) ?_
 refine qZ ent39 (fzofu (1) (by omega) (by omega)) fun zq2 => ?_
 refine st_g ent32 (fzadd (zq0.fst) (zq2) (x.fdiv y) (1) (by exact Bits.fit (fdiv_b hx yF) (by decide)) (by exact Bits.fit (yB : Bits 64 (1)) (by decide))) (subC 1 rfl (subC 0 rfl sub0)) (by kernel_rfl) (fun zq3 => ?_)
 refine st_fn ent103 (fzsign (p) (x) (by exact Bits.fit hx (by decide))) (subC 4 rfl sub0) (by kernel_rfl) ?_
 refine qN 38 (decide (cmpI x 0 < 0)) ?_
 refine st_g ent32 (fzadd (zq0.snd) (zq0.snd) (x.fmod y) (x.fmod y) (by exact Bits.fit (fmod_b hy yF) (by decide)) (by exact Bits.fit (fmod_b hy yF) (by decide))) (subC 3 rfl (subC 3 rfl sub0)) (by kernel_rfl) (fun zq5 => ?_)
 refine st_fn ent86 (fzcmp (zq5) (q) (x.fmod y + x.fmod y) (y) (by exact Bits.fit (Bits.add (Bits.mono (l := 200) (fmod_b hy yF) (by decide)) (Bits.mono (l := 200) (fmod_b hy yF) (by decide))) (by decide)) (by exact Bits.fit hy (by decide))) (subC 0 rfl (subC 6 rfl sub0)) (by kernel_rfl) ?_
 refine qY 50 (decide (cmpI (x.fmod y + x.fmod y) y < 0)) ?_
 exact st_retG (zq0.fst) Tryz.func53 (subE 3 rfl (by omega) sub0) (by kernel_rfl)
theorem near_7pg (p q : ZQ) (x y : Int) (hx : Bits 200 x) (hy : Bits 200 y) (h0 : 0 < y) (hne : y ≠ 0) (hc : cmpI (x.fmod y) 0 = 1) (hs : 0 ≤ cmpI x 0) (hh : cmpI (x.fmod y + x.fmod y) y = 1) (e : x.fdiv y + 1 = nearQ x y 7) :
  FnZ 53 [(p, x), (q, y)] [zv p, zv q, .int .i64 7] (fun z => .tuple #[zv z, .bool true]) (nearQ x y 7) := by
 refine fnG_of Tryz.func53 rfl fun ww => ?_
 refine st_g ent75 (fzdiv (p) (q) (x) (y) (by exact Bits.mono hx (by decide)) (by exact Bits.mono hy (by decide)) (by assumption)) (subC 0 rfl (subC 1 rfl sub0)) (by kernel_rfl) (fun zq0 => ?_)
 refine st_fn ent103 (fzsign (zq0.snd) (x.fmod y) (by exact Bits.fit (fmod_b hy yF) (by decide))) (subC 1 rfl sub0) (by kernel_rfl) ?_
 refine qN 29 (cmpI (x.fmod y) 0 == 0) ?_
 refine qZ ent39 (fzofu (1) (by omega) (by omega)) fun zq2 => ?_
 refine st_g ent32 (fzadd (zq0.fst) (zq2) (x.fdiv y) (1) (by exact Bits.fit (fdiv_b hx yF) (by decide)) (by exact Bits.fit (yB : Bits 64 (1)) (by decide))) (subC 1 rfl (subC 0 rfl sub0)) (by kernel_rfl) (fun zq3 => ?_)
 refine st_fn ent103 (fzsign (p) (x) (by exact Bits.fit hx (by decide))) (subC 4 rfl sub0) (by kernel_rfl) ?_
 refine qN 38 (decide (cmpI x 0 < 0)) ?_
 refine st_g ent32 (fzadd (zq0.snd) (zq0.snd) (x.fmod y) (x.fmod y) (by exact Bits.fit (fmod_b hy yF) (by decide)) (by exact Bits.fit (fmod_b hy yF) (by decide))) (subC 3 rfl (subC 3 rfl sub0)) (by kernel_rfl) (fun zq5 => ?_)
 refine st_fn ent86 (fzcmp (zq5) (q) (x.fmod y + x.fmod y) (y) (by exact Bits.fit (Bits.add (Bits.mono (l := 200) (fmod_b hy yF) (by decide)) (Bits.mono (l := 200) (fmod_b hy yF) (by decide))) (by decide)) (by exact Bits.fit hy (by decide))) (subC 0 rfl (subC 6 rfl sub0)) (by kernel_rfl) ?_
 refine qN 50 (decide (cmpI (x.fmod y + x.fmod y) y < 0)) ?_
 refine qY 57 (decide (cmpI (x.fmod y + x.fmod y) y > 0)) ?_
 exact st_retG (zq3) Tryz.func53 (subE 1 rfl (by omega) sub0) (by kernel_rfl)
theorem near_7pe (p q : ZQ) (x y : Int) (hx : Bits 200 x) (hy : Bits 200 y) (h0 : 0 < y) (hne : y ≠ 0) (hc : cmpI (x.fmod y) 0 = 1) (hs : 0 ≤ cmpI x 0) (hh : cmpI (x.fmod y + x.fmod y) y = 0) (e : x.fdiv y + 1 = nearQ x y 7) :
  FnZ 53 [(p, x), (q, y)] [zv p, zv q, .int .i64 7] (fun z => .tuple #[zv z, .bool true]) (nearQ x y 7) := by
 refine fnG_of Tryz.func53 rfl fun ww => ?_
 refine st_g ent75 (fzdiv (p) (q) (x) (y) (by exact Bits.mono hx (by decide)) (by exact Bits.mono hy (by decide)) (by assumption)) (subC 0 rfl (subC 1 rfl sub0)) (by kernel_rfl) (fun zq0 => ?_)
 refine st_fn ent103 (fzsign (zq0.snd) (x.fmod y) (by exact Bits.fit (fmod_b hy yF) (by decide))) (subC 1 rfl sub0) (by kernel_rfl) ?_
 refine qN 29 (cmpI (x.fmod y) 0 == 0) ?_
 refine qZ ent39 (fzofu (1) (by omega) (by omega)) fun zq2 => ?_
 refine st_g ent32 (fzadd (zq0.fst) (zq2) (x.fdiv y) (1) (by exact Bits.fit (fdiv_b hx yF) (by decide)) (by exact Bits.fit (yB : Bits 64 (1)) (by decide))) (subC 1 rfl (subC 0 rfl sub0)) (by kernel_rfl) (fun zq3 => ?_)
 refine st_fn ent103 (fzsign (p) (x) (by exact Bits.fit hx (by decide))) (subC 4 rfl sub0) (by kernel_rfl) ?_
 refine qN 38 (decide (cmpI x 0 < 0)) ?_
 refine st_g ent32 (fzadd (zq0.snd) (zq0.snd) (x.fmod y) (x.fmod y) (by exact Bits.fit (fmod_b hy yF) (by decide)) (by exact Bits.fit (fmod_b hy yF) (by decide))) (subC 3 rfl (subC 3 rfl sub0)) (by kernel_rfl) (fun zq5 => ?_)
 refine st_fn ent86 (fzcmp (zq5) (q) (x.fmod y + x.fmod y) (y) (by exact Bits.fit (Bits.add (Bits.mono (l := 200) (fmod_b hy yF) (by decide)) (Bits.mono (l := 200) (fmod_b hy yF) (by decide))) (by decide)) (by exact Bits.fit hy (by decide))) (subC 0 rfl (subC 6 rfl sub0)) (by kernel_rfl) ?_
 refine qN 50 (decide (cmpI (x.fmod y + x.fmod y) y < 0)) ?_
 refine qN 57 (decide (cmpI (x.fmod y + x.fmod y) y > 0)) ?_
 exact st_retG (zq3) Tryz.func53 (subE 1 rfl (by omega) sub0) (by kernel_rfl)
theorem near_8nl (p q : ZQ) (x y : Int) (hx : Bits 200 x) (hy : Bits 200 y) (h0 : 0 < y) (hne : y ≠ 0) (hc : cmpI (x.fmod y) 0 = 1) (hs : cmpI x 0 = -1) (hh : cmpI (x.fmod y + x.fmod y) y = -1) (e : x.fdiv y = nearQ x y 8) :
  FnZ 53 [(p, x), (q, y)] [zv p, zv q, .int .i64 8] (fun z => .tuple #[zv z, .bool true]) (nearQ x y 8) := by
 refine fnG_of Tryz.func53 rfl fun ww => ?_
 refine st_g ent75 (fzdiv (p) (q) (x) (y) (by exact Bits.mono hx (by decide)) (by exact Bits.mono hy (by decide)) (by assumption)) (subC 0 rfl (subC 1 rfl sub0)) (by kernel_rfl) (fun zq0 => ?_)
 refine st_fn ent103 (fzsign (zq0.snd) (x.fmod y) (by exact Bits.fit (fmod_b hy yF) (by decide))) (subC 1 rfl sub0) (by kernel_rfl) ?_
 refine qN 29 (cmpI (x.fmod y) 0 == 0) ?_
 refine qZ ent39 (fzofu (1) (by omega) (by omega)) fun zq2 => ?_
 refine st_g ent32 (fzadd (zq0.fst) (zq2) (x.fdiv y) (1) (by exact Bits.fit (fdiv_b hx yF) (by decide)) (by exact Bits.fit (yB : Bits 64 (1)) (by decide))) (subC 1 rfl (subC 0 rfl sub0)) (by kernel_rfl) (fun zq3 => ?_)
 refine st_fn ent103 (fzsign (p) (x) (by exact Bits.fit hx (by decide))) (subC 4 rfl sub0) (by kernel_rfl) ?_
 refine qY 38 (decide (cmpI x 0 < 0)) ?_
 refine st_g ent32 (fzadd (zq0.snd) (zq0.snd) (x.fmod y) (x.fmod y) (by exact Bits.fit (fmod_b hy yF) (by decide)) (by exact Bits.fit (fmod_b hy yF) (by decide))) (subC 3 rfl (subC 3 rfl sub0)) (by kernel_rfl) (fun zq5 => ?_)
 refine st_fn ent86 (fzcmp (zq5) (q) (x.fmod y + x.fmod y) (y) (by exact Bits.fit (Bits.add (Bits.mono (l := 200) (fmod_b hy yF) (by decide)) (Bits.mono (l := 200) (fmod_b hy yF) (by decide))) (by decide)) (by exact Bits.fit hy (by decide))) (subC 0 rfl (subC 6 rfl sub0)) (by kernel_rfl) ?_
 refine qY 50 (decide (cmpI (x.fmod y + x.fmod y) y < 0)) ?_
 exact st_retG (zq0.fst) Tryz.func53 (subE 3 rfl (by omega) sub0) (by kernel_rfl)
theorem near_8ng (p q : ZQ) (x y : Int) (hx : Bits 200 x) (hy : Bits 200 y) (h0 : 0 < y) (hne : y ≠ 0) (hc : cmpI (x.fmod y) 0 = 1) (hs : cmpI x 0 = -1) (hh : cmpI (x.fmod y + x.fmod y) y = 1) (e : x.fdiv y + 1 = nearQ x y 8) :
  FnZ 53 [(p, x), (q, y)] [zv p, zv q, .int .i64 8] (fun z => .tuple #[zv z, .bool true]) (nearQ x y 8) := by
 refine fnG_of Tryz.func53 rfl fun ww => ?_
 refine st_g ent75 (fzdiv (p) (q) (x) (y) (by exact Bits.mono hx (by decide)) (by exact Bits.mono hy (by decide)) (by assumption)) (subC 0 rfl (subC 1 rfl sub0)) (by kernel_rfl) (fun zq0 => ?_)
 refine st_fn ent103 (fzsign (zq0.snd) (x.fmod y) (by exact Bits.fit (fmod_b hy yF) (by decide))) (subC 1 rfl sub0) (by kernel_rfl) ?_
 refine qN 29 (cmpI (x.fmod y) 0 == 0) ?_
 refine qZ ent39 (fzofu (1) (by omega) (by omega)) fun zq2 => ?_
 refine st_g ent32 (fzadd (zq0.fst) (zq2) (x.fdiv y) (1) (by exact Bits.fit (fdiv_b hx yF) (by decide)) (by exact Bits.fit (yB : Bits 64 (1)) (by decide))) (subC 1 rfl (subC 0 rfl sub0)) (by kernel_rfl) (fun zq3 => ?_)
 refine st_fn ent103 (fzsign (p) (x) (by exact Bits.fit hx (by decide))) (subC 4 rfl sub0) (by kernel_rfl) ?_
 refine qY 38 (decide (cmpI x 0 < 0)) ?_
 refine st_g ent32 (fzadd (zq0.snd) (zq0.snd) (x.fmod y) (x.fmod y) (by exact Bits.fit (fmod_b hy yF) (by decide)) (by exact Bits.fit (fmod_b hy yF) (by decide))) (subC 3 rfl (subC 3 rfl sub0)) (by kernel_rfl) (fun zq5 => ?_)
 refine st_fn ent86 (fzcmp (zq5) (q) (x.fmod y + x.fmod y) (y) (by exact Bits.fit (Bits.add (Bits.mono (l := 200) (fmod_b hy yF) (by decide)) (Bits.mono (l := 200) (fmod_b hy yF) (by decide))) (by decide)) (by exact Bits.fit hy (by decide))) (subC 0 rfl (subC 6 rfl sub0)) (by kernel_rfl) ?_
 refine qN 50 (decide (cmpI (x.fmod y + x.fmod y) y < 0)) ?_
 refine qY 57 (decide (cmpI (x.fmod y + x.fmod y) y > 0)) ?_
 exact st_retG (zq3) Tryz.func53 (subE 1 rfl (by omega) sub0) (by kernel_rfl)
theorem near_8ne (p q : ZQ) (x y : Int) (hx : Bits 200 x) (hy : Bits 200 y) (h0 : 0 < y) (hne : y ≠ 0) (hc : cmpI (x.fmod y) 0 = 1) (hs : cmpI x 0 = -1) (hh : cmpI (x.fmod y + x.fmod y) y = 0) (e : x.fdiv y + 1 = nearQ x y 8) :
  FnZ 53 [(p, x), (q, y)] [zv p, zv q, .int .i64 8] (fun z => .tuple #[zv z, .bool true]) (nearQ x y 8) := by
 refine fnG_of Tryz.func53 rfl fun ww => ?_
 refine st_g ent75 (fzdiv (p) (q) (x) (y) (by exact Bits.mono hx (by decide)) (by exact Bits.mono hy (by decide)) (by assumption)) (subC 0 rfl (subC 1 rfl sub0)) (by kernel_rfl) (fun zq0 => ?_)
 refine st_fn ent103 (fzsign (zq0.snd) (x.fmod y) (by exact Bits.fit (fmod_b hy yF) (by decide))) (subC 1 rfl sub0) (by kernel_rfl) ?_
 refine qN 29 (cmpI (x.fmod y) 0 == 0) ?_
 refine qZ ent39 (fzofu (1) (by omega) (by omega)) fun zq2 => ?_
 refine st_g ent32 (fzadd (zq0.fst) (zq2) (x.fdiv y) (1) (by exact Bits.fit (fdiv_b hx yF) (by decide)) (by exact Bits.fit (yB : Bits 64 (1)) (by decide))) (subC 1 rfl (subC 0 rfl sub0)) (by kernel_rfl) (fun zq3 => ?_)
 refine st_fn ent103 (fzsign (p) (x) (by exact Bits.fit hx (by decide))) (subC 4 rfl sub0) (by kernel_rfl) ?_
 refine qY 38 (decide (cmpI x 0 < 0)) ?_
 refine st_g ent32 (fzadd (zq0.snd) (zq0.snd) (x.fmod y) (x.fmod y) (by exact Bits.fit (fmod_b hy yF) (by decide)) (by exact Bits.fit (fmod_b hy yF) (by decide))) (subC 3 rfl (subC 3 rfl sub0)) (by kernel_rfl) (fun zq5 => ?_)
 refine st_fn ent86 (fzcmp (zq5) (q) (x.fmod y + x.fmod y) (y) (by exact Bits.fit (Bits.add (Bits.mono (l := 200) (fmod_b hy yF) (by decide)) (Bits.mono (l := 200) (fmod_b hy yF) (by decide))) (by decide)) (by exact Bits.fit hy (by decide))) (subC 0 rfl (subC 6 rfl sub0)) (by kernel_rfl) ?_
 refine qN 50 (decide (cmpI (x.fmod y + x.fmod y) y < 0)) ?_
 refine qN 57 (decide (cmpI (x.fmod y + x.fmod y) y > 0)) ?_
 exact st_retG (zq3) Tryz.func53 (subE 1 rfl (by omega) sub0) (by kernel_rfl)
theorem near_8pl (p q : ZQ) (x y : Int) (hx : Bits 200 x) (hy : Bits 200 y) (h0 : 0 < y) (hne : y ≠ 0) (hc : cmpI (x.fmod y) 0 = 1) (hs : 0 ≤ cmpI x 0) (hh : cmpI (x.fmod y + x.fmod y) y = -1) (e : x.fdiv y = nearQ x y 8) :
  FnZ 53 [(p, x), (q, y)] [zv p, zv q, .int .i64 8] (fun z => .tuple #[zv z, .bool true]) (nearQ x y 8) := by
 refine fnG_of Tryz.func53 rfl fun ww => ?_
 refine st_g ent75 (fzdiv (p) (q) (x) (y) (by exact Bits.mono hx (by decide)) (by exact Bits.mono hy (by decide)) (by assumption)) (subC 0 rfl (subC 1 rfl sub0)) (by kernel_rfl) (fun zq0 => ?_)
 refine st_fn ent103 (fzsign (zq0.snd) (x.fmod y) (by exact Bits.fit (fmod_b hy yF) (by decide))) (subC 1 rfl sub0) (by kernel_rfl) ?_
 refine qN 29 (cmpI (x.fmod y) 0 == 0) ?_
 refine qZ ent39 (fzofu (1) (by omega) (by omega)) fun zq2 => ?_
 refine st_g ent32 (fzadd (zq0.fst) (zq2) (x.fdiv y) (1) (by exact Bits.fit (fdiv_b hx yF) (by decide)) (by exact Bits.fit (yB : Bits 64 (1)) (by decide))) (subC 1 rfl (subC 0 rfl sub0)) (by kernel_rfl) (fun zq3 => ?_)
 refine st_fn ent103 (fzsign (p) (x) (by exact Bits.fit hx (by decide))) (subC 4 rfl sub0) (by kernel_rfl) ?_
 refine qN 38 (decide (cmpI x 0 < 0)) ?_
 refine st_g ent32 (fzadd (zq0.snd) (zq0.snd) (x.fmod y) (x.fmod y) (by exact Bits.fit (fmod_b hy yF) (by decide)) (by exact Bits.fit (fmod_b hy yF) (by decide))) (subC 3 rfl (subC 3 rfl sub0)) (by kernel_rfl) (fun zq5 => ?_)
 refine st_fn ent86 (fzcmp (zq5) (q) (x.fmod y + x.fmod y) (y) (by exact Bits.fit (Bits.add (Bits.mono (l := 200) (fmod_b hy yF) (by decide)) (Bits.mono (l := 200) (fmod_b hy yF) (by decide))) (by decide)) (by exact Bits.fit hy (by decide))) (subC 0 rfl (subC 6 rfl sub0)) (by kernel_rfl) ?_
 refine qY 50 (decide (cmpI (x.fmod y + x.fmod y) y < 0)) ?_
 exact st_retG (zq0.fst) Tryz.func53 (subE 3 rfl (by omega) sub0) (by kernel_rfl)
theorem near_8pg (p q : ZQ) (x y : Int) (hx : Bits 200 x) (hy : Bits 200 y) (h0 : 0 < y) (hne : y ≠ 0) (hc : cmpI (x.fmod y) 0 = 1) (hs : 0 ≤ cmpI x 0) (hh : cmpI (x.fmod y + x.fmod y) y = 1) (e : x.fdiv y + 1 = nearQ x y 8) :
  FnZ 53 [(p, x), (q, y)] [zv p, zv q, .int .i64 8] (fun z => .tuple #[zv z, .bool true]) (nearQ x y 8) := by
 refine fnG_of Tryz.func53 rfl fun ww => ?_
 refine st_g ent75 (fzdiv (p) (q) (x) (y) (by exact Bits.mono hx (by decide)) (by exact Bits.mono hy (by decide)) (by assumption)) (subC 0 rfl (subC 1 rfl sub0)) (by kernel_rfl) (fun zq0 => ?_)
 refine st_fn ent103 (fzsign (zq0.snd) (x.fmod y) (by exact Bits.fit (fmod_b hy yF) (by decide))) (subC 1 rfl sub0) (by kernel_rfl) ?_
 refine qN 29 (cmpI (x.fmod y) 0 == 0) ?_
 refine qZ ent39 (fzofu (1) (by omega) (by omega)) fun zq2 => ?_
 refine st_g ent32 (fzadd (zq0.fst) (zq2) (x.fdiv y) (1) (by exact Bits.fit (fdiv_b hx yF) (by decide)) (by exact Bits.fit (yB : Bits 64 (1)) (by decide))) (subC 1 rfl (subC 0 rfl sub0)) (by kernel_rfl) (fun zq3 => ?_)
 refine st_fn ent103 (fzsign (p) (x) (by exact Bits.fit hx (by decide))) (subC 4 rfl sub0) (by kernel_rfl) ?_
 refine qN 38 (decide (cmpI x 0 < 0)) ?_
 refine st_g ent32 (fzadd (zq0.snd) (zq0.snd) (x.fmod y) (x.fmod y) (by exact Bits.fit (fmod_b hy yF) (by decide)) (by exact Bits.fit (fmod_b hy yF) (by decide))) (subC 3 rfl (subC 3 rfl sub0)) (by kernel_rfl) (fun zq5 => ?_)
 refine st_fn ent86 (fzcmp (zq5) (q) (x.fmod y + x.fmod y) (y) (by exact Bits.fit (Bits.add (Bits.mono (l := 200) (fmod_b hy yF) (by decide)) (Bits.mono (l := 200) (fmod_b hy yF) (by decide))) (by decide)) (by exact Bits.fit hy (by decide))) (subC 0 rfl (subC 6 rfl sub0)) (by kernel_rfl) ?_
 refine qN 50 (decide (cmpI (x.fmod y + x.fmod y) y < 0)) ?_
 refine qY 57 (decide (cmpI (x.fmod y + x.fmod y) y > 0)) ?_
 exact st_retG (zq3) Tryz.func53 (subE 1 rfl (by omega) sub0) (by kernel_rfl)
theorem near_8pe (p q : ZQ) (x y : Int) (hx : Bits 200 x) (hy : Bits 200 y) (h0 : 0 < y) (hne : y ≠ 0) (hc : cmpI (x.fmod y) 0 = 1) (hs : 0 ≤ cmpI x 0) (hh : cmpI (x.fmod y + x.fmod y) y = 0) (e : x.fdiv y = nearQ x y 8) :
  FnZ 53 [(p, x), (q, y)] [zv p, zv q, .int .i64 8] (fun z => .tuple #[zv z, .bool true]) (nearQ x y 8) := by
 refine fnG_of Tryz.func53 rfl fun ww => ?_
 refine st_g ent75 (fzdiv (p) (q) (x) (y) (by exact Bits.mono hx (by decide)) (by exact Bits.mono hy (by decide)) (by assumption)) (subC 0 rfl (subC 1 rfl sub0)) (by kernel_rfl) (fun zq0 => ?_)
 refine st_fn ent103 (fzsign (zq0.snd) (x.fmod y) (by exact Bits.fit (fmod_b hy yF) (by decide))) (subC 1 rfl sub0) (by kernel_rfl) ?_
 refine qN 29 (cmpI (x.fmod y) 0 == 0) ?_
 refine qZ ent39 (fzofu (1) (by omega) (by omega)) fun zq2 => ?_
 refine st_g ent32 (fzadd (zq0.fst) (zq2) (x.fdiv y) (1) (by exact Bits.fit (fdiv_b hx yF) (by decide)) (by exact Bits.fit (yB : Bits 64 (1)) (by decide))) (subC 1 rfl (subC 0 rfl sub0)) (by kernel_rfl) (fun zq3 => ?_)
 refine st_fn ent103 (fzsign (p) (x) (by exact Bits.fit hx (by decide))) (subC 4 rfl sub0) (by kernel_rfl) ?_
 refine qN 38 (decide (cmpI x 0 < 0)) ?_
 refine st_g ent32 (fzadd (zq0.snd) (zq0.snd) (x.fmod y) (x.fmod y) (by exact Bits.fit (fmod_b hy yF) (by decide)) (by exact Bits.fit (fmod_b hy yF) (by decide))) (subC 3 rfl (subC 3 rfl sub0)) (by kernel_rfl) (fun zq5 => ?_)
 refine st_fn ent86 (fzcmp (zq5) (q) (x.fmod y + x.fmod y) (y) (by exact Bits.fit (Bits.add (Bits.mono (l := 200) (fmod_b hy yF) (by decide)) (Bits.mono (l := 200) (fmod_b hy yF) (by decide))) (by decide)) (by exact Bits.fit hy (by decide))) (subC 0 rfl (subC 6 rfl sub0)) (by kernel_rfl) ?_
 refine qN 50 (decide (cmpI (x.fmod y + x.fmod y) y < 0)) ?_
 refine qN 57 (decide (cmpI (x.fmod y + x.fmod y) y > 0)) ?_
 exact st_retG (zq0.fst) Tryz.func53 (subE 3 rfl (by omega) sub0) (by kernel_rfl)
theorem near_9nl (p q : ZQ) (x y : Int) (hx : Bits 200 x) (hy : Bits 200 y) (h0 : 0 < y) (hne : y ≠ 0) (hc : cmpI (x.fmod y) 0 = 1) (hs : cmpI x 0 = -1) (hh : cmpI (x.fmod y + x.fmod y) y = -1) (e : x.fdiv y = nearQ x y 9) :
  FnZ 53 [(p, x), (q, y)] [zv p, zv q, .int .i64 9] (fun z => .tuple #[zv z, .bool true]) (nearQ x y 9) := by
 refine fnG_of Tryz.func53 rfl fun ww => ?_
 refine st_g ent75 (fzdiv (p) (q) (x) (y) (by exact Bits.mono hx (by decide)) (by exact Bits.mono hy (by decide)) (by assumption)) (subC 0 rfl (subC 1 rfl sub0)) (by kernel_rfl) (fun zq0 => ?_)
 refine st_fn ent103 (fzsign (zq0.snd) (x.fmod y) (by exact Bits.fit (fmod_b hy yF) (by decide))) (subC 1 rfl sub0) (by kernel_rfl) ?_
 refine qN 29 (cmpI (x.fmod y) 0 == 0) ?_
 refine qZ ent39 (fzofu (1) (by omega) (by omega)) fun zq2 => ?_
 refine st_g ent32 (fzadd (zq0.fst) (zq2) (x.fdiv y) (1) (by exact Bits.fit (fdiv_b hx yF) (by decide)) (by exact Bits.fit (yB : Bits 64 (1)) (by decide))) (subC 1 rfl (subC 0 rfl sub0)) (by kernel_rfl) (fun zq3 => ?_)
 refine st_fn ent103 (fzsign (p) (x) (by exact Bits.fit hx (by decide))) (subC 4 rfl sub0) (by kernel_rfl) ?_
 refine qY 38 (decide (cmpI x 0 < 0)) ?_
 refine st_g ent32 (fzadd (zq0.snd) (zq0.snd) (x.fmod y) (x.fmod y) (by exact Bits.fit (fmod_b hy yF) (by decide)) (by exact Bits.fit (fmod_b hy yF) (by decide))) (subC 3 rfl (subC 3 rfl sub0)) (by kernel_rfl) (fun zq5 => ?_)
 refine st_fn ent86 (fzcmp (zq5) (q) (x.fmod y + x.fmod y) (y) (by exact Bits.fit (Bits.add (Bits.mono (l := 200) (fmod_b hy yF) (by decide)) (Bits.mono (l := 200) (fmod_b hy yF) (by decide))) (by decide)) (by exact Bits.fit hy (by decide))) (subC 0 rfl (subC 6 rfl sub0)) (by kernel_rfl) ?_
 refine qY 50 (decide (cmpI (x.fmod y + x.fmod y) y < 0)) ?_
 exact st_retG (zq0.fst) Tryz.func53 (subE 3 rfl (by omega) sub0) (by kernel_rfl)
theorem near_9ng (p q : ZQ) (x y : Int) (hx : Bits 200 x) (hy : Bits 200 y) (h0 : 0 < y) (hne : y ≠ 0) (hc : cmpI (x.fmod y) 0 = 1) (hs : cmpI x 0 = -1) (hh : cmpI (x.fmod y + x.fmod y) y = 1) (e : x.fdiv y + 1 = nearQ x y 9) :
  FnZ 53 [(p, x), (q, y)] [zv p, zv q, .int .i64 9] (fun z => .tuple #[zv z, .bool true]) (nearQ x y 9) := by
 refine fnG_of Tryz.func53 rfl fun ww => ?_
 refine st_g ent75 (fzdiv (p) (q) (x) (y) (by exact Bits.mono hx (by decide)) (by exact Bits.mono hy (by decide)) (by assumption)) (subC 0 rfl (subC 1 rfl sub0)) (by kernel_rfl) (fun zq0 => ?_)
 refine st_fn ent103 (fzsign (zq0.snd) (x.fmod y) (by exact Bits.fit (fmod_b hy yF) (by decide))) (subC 1 rfl sub0) (by kernel_rfl) ?_
 refine qN 29 (cmpI (x.fmod y) 0 == 0) ?_
 refine qZ ent39 (fzofu (1) (by omega) (by omega)) fun zq2 => ?_
 refine st_g ent32 (fzadd (zq0.fst) (zq2) (x.fdiv y) (1) (by exact Bits.fit (fdiv_b hx yF) (by decide)) (by exact Bits.fit (yB : Bits 64 (1)) (by decide))) (subC 1 rfl (subC 0 rfl sub0)) (by kernel_rfl) (fun zq3 => ?_)
 refine st_fn ent103 (fzsign (p) (x) (by exact Bits.fit hx (by decide))) (subC 4 rfl sub0) (by kernel_rfl) ?_
 refine qY 38 (decide (cmpI x 0 < 0)) ?_
 refine st_g ent32 (fzadd (zq0.snd) (zq0.snd) (x.fmod y) (x.fmod y) (by exact Bits.fit (fmod_b hy yF) (by decide)) (by exact Bits.fit (fmod_b hy yF) (by decide))) (subC 3 rfl (subC 3 rfl sub0)) (by kernel_rfl) (fun zq5 => ?_)
 refine st_fn ent86 (fzcmp (zq5) (q) (x.fmod y + x.fmod y) (y) (by exact Bits.fit (Bits.add (Bits.mono (l := 200) (fmod_b hy yF) (by decide)) (Bits.mono (l := 200) (fmod_b hy yF) (by decide))) (by decide)) (by exact Bits.fit hy (by decide))) (subC 0 rfl (subC 6 rfl sub0)) (by kernel_rfl) ?_
 refine qN 50 (decide (cmpI (x.fmod y + x.fmod y) y < 0)) ?_
 refine qY 57 (decide (cmpI (x.fmod y + x.fmod y) y > 0)) ?_
 exact st_retG (zq3) Tryz.func53 (subE 1 rfl (by omega) sub0) (by kernel_rfl)
theorem near_9pl (p q : ZQ) (x y : Int) (hx : Bits 200 x) (hy : Bits 200 y) (h0 : 0 < y) (hne : y ≠ 0) (hc : cmpI (x.fmod y) 0 = 1) (hs : 0 ≤ cmpI x 0) (hh : cmpI (x.fmod y + x.fmod y) y = -1) (e : x.fdiv y = nearQ x y 9) :
  FnZ 53 [(p, x), (q, y)] [zv p, zv q, .int .i64 9] (fun z => .tuple #[zv z, .bool true]) (nearQ x y 9) := by
 refine fnG_of Tryz.func53 rfl fun ww => ?_
 refine st_g ent75 (fzdiv (p) (q) (x) (y) (by exact Bits.mono hx (by decide)) (by exact Bits.mono hy (by decide)) (by assumption)) (subC 0 rfl (subC 1 rfl sub0)) (by kernel_rfl) (fun zq0 => ?_)
 refine st_fn ent103 (fzsign (zq0.snd) (x.fmod y) (by exact Bits.fit (fmod_b hy yF) (by decide))) (subC 1 rfl sub0) (by kernel_rfl) ?_
 refine qN 29 (cmpI (x.fmod y) 0 == 0) ?_
 refine qZ ent39 (fzofu (1) (by omega) (by omega)) fun zq2 => ?_
 refine st_g ent32 (fzadd (zq0.fst) (zq2) (x.fdiv y) (1) (by exact Bits.fit (fdiv_b hx yF) (by decide)) (by exact Bits.fit (yB : Bits 64 (1)) (by decide))) (subC 1 rfl (subC 0 rfl sub0)) (by kernel_rfl) (fun zq3 => ?_)
 refine st_fn ent103 (fzsign (p) (x) (by exact Bits.fit hx (by decide))) (subC 4 rfl sub0) (by kernel_rfl) ?_
 refine qN 38 (decide (cmpI x 0 < 0)) ?_
 refine st_g ent32 (fzadd (zq0.snd) (zq0.snd) (x.fmod y) (x.fmod y) (by exact Bits.fit (fmod_b hy yF) (by decide)) (by exact Bits.fit (fmod_b hy yF) (by decide))) (subC 3 rfl (subC 3 rfl sub0)) (by kernel_rfl) (fun zq5 => ?_)
 refine st_fn ent86 (fzcmp (zq5) (q) (x.fmod y + x.fmod y) (y) (by exact Bits.fit (Bits.add (Bits.mono (l := 200) (fmod_b hy yF) (by decide)) (Bits.mono (l := 200) (fmod_b hy yF) (by decide))) (by decide)) (by exact Bits.fit hy (by decide))) (subC 0 rfl (subC 6 rfl sub0)) (by kernel_rfl) ?_
 refine qY 50 (decide (cmpI (x.fmod y + x.fmod y) y < 0)) ?_
 exact st_retG (zq0.fst) Tryz.func53 (subE 3 rfl (by omega) sub0) (by kernel_rfl)
theorem near_9pg (p q : ZQ) (x y : Int) (hx : Bits 200 x) (hy : Bits 200 y) (h0 : 0 < y) (hne : y ≠ 0) (hc : cmpI (x.fmod y) 0 = 1) (hs : 0 ≤ cmpI x 0) (hh : cmpI (x.fmod y + x.fmod y) y = 1) (e : x.fdiv y + 1 = nearQ x y 9) :
  FnZ 53 [(p, x), (q, y)] [zv p, zv q, .int .i64 9] (fun z => .tuple #[zv z, .bool true]) (nearQ x y 9) := by
 refine fnG_of Tryz.func53 rfl fun ww => ?_
 refine st_g ent75 (fzdiv (p) (q) (x) (y) (by exact Bits.mono hx (by decide)) (by exact Bits.mono hy (by decide)) (by assumption)) (subC 0 rfl (subC 1 rfl sub0)) (by kernel_rfl) (fun zq0 => ?_)
 refine st_fn ent103 (fzsign (zq0.snd) (x.fmod y) (by exact Bits.fit (fmod_b hy yF) (by decide))) (subC 1 rfl sub0) (by kernel_rfl) ?_
 refine qN 29 (cmpI (x.fmod y) 0 == 0) ?_
 refine qZ ent39 (fzofu (1) (by omega) (by omega)) fun zq2 => ?_
 refine st_g ent32 (fzadd (zq0.fst) (zq2) (x.fdiv y) (1) (by exact Bits.fit (fdiv_b hx yF) (by decide)) (by exact Bits.fit (yB : Bits 64 (1)) (by decide))) (subC 1 rfl (subC 0 rfl sub0)) (by kernel_rfl) (fun zq3 => ?_)
 refine st_fn ent103 (fzsign (p) (x) (by exact Bits.fit hx (by decide))) (subC 4 rfl sub0) (by kernel_rfl) ?_
 refine qN 38 (decide (cmpI x 0 < 0)) ?_
 refine st_g ent32 (fzadd (zq0.snd) (zq0.snd) (x.fmod y) (x.fmod y) (by exact Bits.fit (fmod_b hy yF) (by decide)) (by exact Bits.fit (fmod_b hy yF) (by decide))) (subC 3 rfl (subC 3 rfl sub0)) (by kernel_rfl) (fun zq5 => ?_)
 refine st_fn ent86 (fzcmp (zq5) (q) (x.fmod y + x.fmod y) (y) (by exact Bits.fit (Bits.add (Bits.mono (l := 200) (fmod_b hy yF) (by decide)) (Bits.mono (l := 200) (fmod_b hy yF) (by decide))) (by decide)) (by exact Bits.fit hy (by decide))) (subC 0 rfl (subC 6 rfl sub0)) (by kernel_rfl) ?_
 refine qN 50 (decide (cmpI (x.fmod y + x.fmod y) y < 0)) ?_
 refine qY 57 (decide (cmpI (x.fmod y + x.fmod y) y > 0)) ?_
 exact st_retG (zq3) Tryz.func53 (subE 1 rfl (by omega) sub0) (by kernel_rfl)
theorem near_9nez (p q : ZQ) (x y : Int) (hx : Bits 200 x) (hy : Bits 200 y) (h0 : 0 < y) (hne : y ≠ 0) (hc : cmpI (x.fmod y) 0 = 1) (hs : cmpI x 0 = -1) (hh : cmpI (x.fmod y + x.fmod y) y = 0) (hl : x.fdiv y = 0) (e : x.fdiv y = nearQ x y 9) :
  FnZ 53 [(p, x), (q, y)] [zv p, zv q, .int .i64 9] (fun z => .tuple #[zv z, .bool true]) (nearQ x y 9) := by
 refine fnG_of Tryz.func53 rfl fun ww => ?_
 refine st_g ent75 (fzdiv p q x y (by exact Bits.mono hx (by decide)) (by exact Bits.mono hy (by decide)) hne) (subC 0 rfl (subC 1 rfl sub0)) (by kernel_rfl) (fun zd => ?_)
 refine st_know (fun w h => z_pure (q := zd.1) (x := x.fdiv y) (h (zd.1, x.fdiv y) (List.mem_append_left _ (by simp)))) fun hk => ?_
 have hl0 := hk.1 hl
 clear hk
 refine st_fn ent103 (fzsign (zd.snd) (x.fmod y) (by exact Bits.fit (fmod_b hy yF) (by decide))) (subC 1 rfl sub0) (by kernel_rfl) ?_
 refine qN 29 (cmpI (x.fmod y) 0 == 0) ?_
 refine qZ ent39 (fzofu (1) (by omega) (by omega)) fun zq1 => ?_
 refine st_g ent32 (fzadd (zd.fst) (zq1) (x.fdiv y) (1) (by exact Bits.fit (fdiv_b hx yF) (by decide)) (by exact Bits.fit (yB : Bits 64 (1)) (by decide))) (subC 1 rfl (subC 0 rfl sub0)) (by kernel_rfl) (fun zq2 => ?_)
 refine st_fn ent103 (fzsign (p) (x) (by exact Bits.fit hx (by decide))) (subC 4 rfl sub0) (by kernel_rfl) ?_
 refine qY 38 (decide (cmpI x 0 < 0)) ?_
 refine st_g ent32 (fzadd (zd.snd) (zd.snd) (x.fmod y) (x.fmod y) (by exact Bits.fit (fmod_b hy yF) (by decide)) (by exact Bits.fit (fmod_b hy yF) (by decide))) (subC 3 rfl (subC 3 rfl sub0)) (by kernel_rfl) (fun zq4 => ?_)
 refine st_fn ent86 (fzcmp (zq4) (q) (x.fmod y + x.fmod y) (y) (by exact Bits.fit (Bits.add (Bits.mono (l := 200) (fmod_b hy yF) (by decide)) (Bits.mono (l := 200) (fmod_b hy yF) (by decide))) (by decide)) (by exact Bits.fit hy (by decide))) (subC 0 rfl (subC 6 rfl sub0)) (by kernel_rfl) ?_
 refine qN 50 (decide (cmpI (x.fmod y + x.fmod y) y < 0)) ?_
 refine qN 57 (decide (cmpI (x.fmod y + x.fmod y) y > 0)) ?_
 refine qY 80 ((↑zd.fst.l : Int) == 0) ?_
 exact st_retG (zd.fst) Tryz.func53 (subE 3 rfl (by omega) sub0) (by kernel_rfl)
theorem near_9nee (p q : ZQ) (x y : Int) (hx : Bits 200 x) (hy : Bits 200 y) (h0 : 0 < y) (hne : y ≠ 0) (hc : cmpI (x.fmod y) 0 = 1) (hs : cmpI x 0 = -1) (hh : cmpI (x.fmod y + x.fmod y) y = 0) (hl : x.fdiv y ≠ 0) (hp : x.fdiv y % 2 = 0) (e : x.fdiv y = nearQ x y 9) :
  FnZ 53 [(p, x), (q, y)] [zv p, zv q, .int .i64 9] (fun z => .tuple #[zv z, .bool true]) (nearQ x y 9) := by
 refine fnG_of Tryz.func53 rfl fun ww => ?_
 refine st_g ent75 (fzdiv p q x y (by exact Bits.mono hx (by decide)) (by exact Bits.mono hy (by decide)) hne) (subC 0 rfl (subC 1 rfl sub0)) (by kernel_rfl) (fun zd => ?_)
 refine st_know (fun w h => z_pure (q := zd.1) (x := x.fdiv y) (h (zd.1, x.fdiv y) (List.mem_append_left _ (by simp)))) fun hk => ?_
 obtain ⟨hl0, b, off, ha, hl1⟩ := hk.2 hl
 clear hk
 refine st_fn ent103 (fzsign (zd.snd) (x.fmod y) (by exact Bits.fit (fmod_b hy yF) (by decide))) (subC 1 rfl sub0) (by kernel_rfl) ?_
 refine qN 29 (cmpI (x.fmod y) 0 == 0) ?_
 refine qZ ent39 (fzofu (1) (by omega) (by omega)) fun zq1 => ?_
 refine st_g ent32 (fzadd (zd.fst) (zq1) (x.fdiv y) (1) (by exact Bits.fit (fdiv_b hx yF) (by decide)) (by exact Bits.fit (yB : Bits 64 (1)) (by decide))) (subC 1 rfl (subC 0 rfl sub0)) (by kernel_rfl) (fun zq2 => ?_)
 refine st_fn ent103 (fzsign (p) (x) (by exact Bits.fit hx (by decide))) (subC 4 rfl sub0) (by kernel_rfl) ?_
 refine qY 38 (decide (cmpI x 0 < 0)) ?_
 refine st_g ent32 (fzadd (zd.snd) (zd.snd) (x.fmod y) (x.fmod y) (by exact Bits.fit (fmod_b hy yF) (by decide)) (by exact Bits.fit (fmod_b hy yF) (by decide))) (subC 3 rfl (subC 3 rfl sub0)) (by kernel_rfl) (fun zq4 => ?_)
 refine st_fn ent86 (fzcmp (zq4) (q) (x.fmod y + x.fmod y) (y) (by exact Bits.fit (Bits.add (Bits.mono (l := 200) (fmod_b hy yF) (by decide)) (Bits.mono (l := 200) (fmod_b hy yF) (by decide))) (by decide)) (by exact Bits.fit hy (by decide))) (subC 0 rfl (subC 6 rfl sub0)) (by kernel_rfl) ?_
 refine qN 50 (decide (cmpI (x.fmod y + x.fmod y) y < 0)) ?_
 refine qN 57 (decide (cmpI (x.fmod y + x.fmod y) y > 0)) ?_
 refine qN 80 ((↑zd.fst.l : Int) == 0) ?_
 refine st_idx (fun w _ => idx0 (c := zd.1.c) ha hl1 w) (by kernel_rfl) ?_
 refine st_ldv (fun w h => load_int (cell_of (q := zd.1) (x := x.fdiv y) (h (zd.1, x.fdiv y) (by simp)) hl ha)) (by kernel_rfl) ?_
 refine qV 87 (dig_even hp) ?_
 exact st_retG (zd.fst) Tryz.func53 (subE 3 rfl (by omega) sub0) (by kernel_rfl)
theorem near_9neo (p q : ZQ) (x y : Int) (hx : Bits 200 x) (hy : Bits 200 y) (h0 : 0 < y) (hne : y ≠ 0) (hc : cmpI (x.fmod y) 0 = 1) (hs : cmpI x 0 = -1) (hh : cmpI (x.fmod y + x.fmod y) y = 0) (hl : x.fdiv y ≠ 0) (hp : ¬ x.fdiv y % 2 = 0) (e : x.fdiv y + 1 = nearQ x y 9) :
  FnZ 53 [(p, x), (q, y)] [zv p, zv q, .int .i64 9] (fun z => .tuple #[zv z, .bool true]) (nearQ x y 9) := by
 refine fnG_of Tryz.func53 rfl fun ww => ?_
 refine st_g ent75 (fzdiv p q x y (by exact Bits.mono hx (by decide)) (by exact Bits.mono hy (by decide)) hne) (subC 0 rfl (subC 1 rfl sub0)) (by kernel_rfl) (fun zd => ?_)
 refine st_know (fun w h => z_pure (q := zd.1) (x := x.fdiv y) (h (zd.1, x.fdiv y) (List.mem_append_left _ (by simp)))) fun hk => ?_
 obtain ⟨hl0, b, off, ha, hl1⟩ := hk.2 hl
 clear hk
 refine st_fn ent103 (fzsign (zd.snd) (x.fmod y) (by exact Bits.fit (fmod_b hy yF) (by decide))) (subC 1 rfl sub0) (by kernel_rfl) ?_
 refine qN 29 (cmpI (x.fmod y) 0 == 0) ?_
 refine qZ ent39 (fzofu (1) (by omega) (by omega)) fun zq1 => ?_
 refine st_g ent32 (fzadd (zd.fst) (zq1) (x.fdiv y) (1) (by exact Bits.fit (fdiv_b hx yF) (by decide)) (by exact Bits.fit (yB : Bits 64 (1)) (by decide))) (subC 1 rfl (subC 0 rfl sub0)) (by kernel_rfl) (fun zq2 => ?_)
 refine st_fn ent103 (fzsign (p) (x) (by exact Bits.fit hx (by decide))) (subC 4 rfl sub0) (by kernel_rfl) ?_
 refine qY 38 (decide (cmpI x 0 < 0)) ?_
 refine st_g ent32 (fzadd (zd.snd) (zd.snd) (x.fmod y) (x.fmod y) (by exact Bits.fit (fmod_b hy yF) (by decide)) (by exact Bits.fit (fmod_b hy yF) (by decide))) (subC 3 rfl (subC 3 rfl sub0)) (by kernel_rfl) (fun zq4 => ?_)
 refine st_fn ent86 (fzcmp (zq4) (q) (x.fmod y + x.fmod y) (y) (by exact Bits.fit (Bits.add (Bits.mono (l := 200) (fmod_b hy yF) (by decide)) (Bits.mono (l := 200) (fmod_b hy yF) (by decide))) (by decide)) (by exact Bits.fit hy (by decide))) (subC 0 rfl (subC 6 rfl sub0)) (by kernel_rfl) ?_
 refine qN 50 (decide (cmpI (x.fmod y + x.fmod y) y < 0)) ?_
 refine qN 57 (decide (cmpI (x.fmod y + x.fmod y) y > 0)) ?_
 refine qN 80 ((↑zd.fst.l : Int) == 0) ?_
 refine st_idx (fun w _ => idx0 (c := zd.1.c) ha hl1 w) (by kernel_rfl) ?_
 refine st_ldv (fun w h => load_int (cell_of (q := zd.1) (x := x.fdiv y) (h (zd.1, x.fdiv y) (by simp)) hl ha)) (by kernel_rfl) ?_
 refine qV 87 (dig_odd hp) ?_
 exact st_retG (zq2) Tryz.func53 (subE 1 rfl (by omega) sub0) (by kernel_rfl)
theorem near_9pez (p q : ZQ) (x y : Int) (hx : Bits 200 x) (hy : Bits 200 y) (h0 : 0 < y) (hne : y ≠ 0) (hc : cmpI (x.fmod y) 0 = 1) (hs : 0 ≤ cmpI x 0) (hh : cmpI (x.fmod y + x.fmod y) y = 0) (hl : x.fdiv y = 0) (e : x.fdiv y = nearQ x y 9) :
  FnZ 53 [(p, x), (q, y)] [zv p, zv q, .int .i64 9] (fun z => .tuple #[zv z, .bool true]) (nearQ x y 9) := by
 refine fnG_of Tryz.func53 rfl fun ww => ?_
 refine st_g ent75 (fzdiv p q x y (by exact Bits.mono hx (by decide)) (by exact Bits.mono hy (by decide)) hne) (subC 0 rfl (subC 1 rfl sub0)) (by kernel_rfl) (fun zd => ?_)
 refine st_know (fun w h => z_pure (q := zd.1) (x := x.fdiv y) (h (zd.1, x.fdiv y) (List.mem_append_left _ (by simp)))) fun hk => ?_
 have hl0 := hk.1 hl
 clear hk
 refine st_fn ent103 (fzsign (zd.snd) (x.fmod y) (by exact Bits.fit (fmod_b hy yF) (by decide))) (subC 1 rfl sub0) (by kernel_rfl) ?_
 refine qN 29 (cmpI (x.fmod y) 0 == 0) ?_
 refine qZ ent39 (fzofu (1) (by omega) (by omega)) fun zq1 => ?_
 refine st_g ent32 (fzadd (zd.fst) (zq1) (x.fdiv y) (1) (by exact Bits.fit (fdiv_b hx yF) (by decide)) (by exact Bits.fit (yB : Bits 64 (1)) (by decide))) (subC 1 rfl (subC 0 rfl sub0)) (by kernel_rfl) (fun zq2 => ?_)
 refine st_fn ent103 (fzsign (p) (x) (by exact Bits.fit hx (by decide))) (subC 4 rfl sub0) (by kernel_rfl) ?_
 refine qN 38 (decide (cmpI x 0 < 0)) ?_
 refine st_g ent32 (fzadd (zd.snd) (zd.snd) (x.fmod y) (x.fmod y) (by exact Bits.fit (fmod_b hy yF) (by decide)) (by exact Bits.fit (fmod_b hy yF) (by decide))) (subC 3 rfl (subC 3 rfl sub0)) (by kernel_rfl) (fun zq4 => ?_)
 refine st_fn ent86 (fzcmp (zq4) (q) (x.fmod y + x.fmod y) (y) (by exact Bits.fit (Bits.add (Bits.mono (l := 200) (fmod_b hy yF) (by decide)) (Bits.mono (l := 200) (fmod_b hy yF) (by decide))) (by decide)) (by exact Bits.fit hy (by decide))) (subC 0 rfl (subC 6 rfl sub0)) (by kernel_rfl) ?_
 refine qN 50 (decide (cmpI (x.fmod y + x.fmod y) y < 0)) ?_
 refine qN 57 (decide (cmpI (x.fmod y + x.fmod y) y > 0)) ?_
 refine qY 80 ((↑zd.fst.l : Int) == 0) ?_
 exact st_retG (zd.fst) Tryz.func53 (subE 3 rfl (by omega) sub0) (by kernel_rfl)
theorem near_9pee (p q : ZQ) (x y : Int) (hx : Bits 200 x) (hy : Bits 200 y) (h0 : 0 < y) (hne : y ≠ 0) (hc : cmpI (x.fmod y) 0 = 1) (hs : 0 ≤ cmpI x 0) (hh : cmpI (x.fmod y + x.fmod y) y = 0) (hl : x.fdiv y ≠ 0) (hp : x.fdiv y % 2 = 0) (e : x.fdiv y = nearQ x y 9) :
  FnZ 53 [(p, x), (q, y)] [zv p, zv q, .int .i64 9] (fun z => .tuple #[zv z, .bool true]) (nearQ x y 9) := by
 refine fnG_of Tryz.func53 rfl fun ww => ?_
 refine st_g ent75 (fzdiv p q x y (by exact Bits.mono hx (by decide)) (by exact Bits.mono hy (by decide)) hne) (subC 0 rfl (subC 1 rfl sub0)) (by kernel_rfl) (fun zd => ?_)
 refine st_know (fun w h => z_pure (q := zd.1) (x := x.fdiv y) (h (zd.1, x.fdiv y) (List.mem_append_left _ (by simp)))) fun hk => ?_
 obtain ⟨hl0, b, off, ha, hl1⟩ := hk.2 hl
 clear hk
 refine st_fn ent103 (fzsign (zd.snd) (x.fmod y) (by exact Bits.fit (fmod_b hy yF) (by decide))) (subC 1 rfl sub0) (by kernel_rfl) ?_
 refine qN 29 (cmpI (x.fmod y) 0 == 0) ?_
 refine qZ ent39 (fzofu (1) (by omega) (by omega)) fun zq1 => ?_
 refine st_g ent32 (fzadd (zd.fst) (zq1) (x.fdiv y) (1) (by exact Bits.fit (fdiv_b hx yF) (by decide)) (by exact Bits.fit (yB : Bits 64 (1)) (by decide))) (subC 1 rfl (subC 0 rfl sub0)) (by kernel_rfl) (fun zq2 => ?_)
 refine st_fn ent103 (fzsign (p) (x) (by exact Bits.fit hx (by decide))) (subC 4 rfl sub0) (by kernel_rfl) ?_
 refine qN 38 (decide (cmpI x 0 < 0)) ?_
 refine st_g ent32 (fzadd (zd.snd) (zd.snd) (x.fmod y) (x.fmod y) (by exact Bits.fit (fmod_b hy yF) (by decide)) (by exact Bits.fit (fmod_b hy yF) (by decide))) (subC 3 rfl (subC 3 rfl sub0)) (by kernel_rfl) (fun zq4 => ?_)
 refine st_fn ent86 (fzcmp (zq4) (q) (x.fmod y + x.fmod y) (y) (by exact Bits.fit (Bits.add (Bits.mono (l := 200) (fmod_b hy yF) (by decide)) (Bits.mono (l := 200) (fmod_b hy yF) (by decide))) (by decide)) (by exact Bits.fit hy (by decide))) (subC 0 rfl (subC 6 rfl sub0)) (by kernel_rfl) ?_
 refine qN 50 (decide (cmpI (x.fmod y + x.fmod y) y < 0)) ?_
 refine qN 57 (decide (cmpI (x.fmod y + x.fmod y) y > 0)) ?_
 refine qN 80 ((↑zd.fst.l : Int) == 0) ?_
 refine st_idx (fun w _ => idx0 (c := zd.1.c) ha hl1 w) (by kernel_rfl) ?_
 refine st_ldv (fun w h => load_int (cell_of (q := zd.1) (x := x.fdiv y) (h (zd.1, x.fdiv y) (by simp)) hl ha)) (by kernel_rfl) ?_
 refine qV 87 (dig_even hp) ?_
 exact st_retG (zd.fst) Tryz.func53 (subE 3 rfl (by omega) sub0) (by kernel_rfl)
theorem near_9peo (p q : ZQ) (x y : Int) (hx : Bits 200 x) (hy : Bits 200 y) (h0 : 0 < y) (hne : y ≠ 0) (hc : cmpI (x.fmod y) 0 = 1) (hs : 0 ≤ cmpI x 0) (hh : cmpI (x.fmod y + x.fmod y) y = 0) (hl : x.fdiv y ≠ 0) (hp : ¬ x.fdiv y % 2 = 0) (e : x.fdiv y + 1 = nearQ x y 9) :
  FnZ 53 [(p, x), (q, y)] [zv p, zv q, .int .i64 9] (fun z => .tuple #[zv z, .bool true]) (nearQ x y 9) := by
 refine fnG_of Tryz.func53 rfl fun ww => ?_
 refine st_g ent75 (fzdiv p q x y (by exact Bits.mono hx (by decide)) (by exact Bits.mono hy (by decide)) hne) (subC 0 rfl (subC 1 rfl sub0)) (by kernel_rfl) (fun zd => ?_)
 refine st_know (fun w h => z_pure (q := zd.1) (x := x.fdiv y) (h (zd.1, x.fdiv y) (List.mem_append_left _ (by simp)))) fun hk => ?_
 obtain ⟨hl0, b, off, ha, hl1⟩ := hk.2 hl
 clear hk
 refine st_fn ent103 (fzsign (zd.snd) (x.fmod y) (by exact Bits.fit (fmod_b hy yF) (by decide))) (subC 1 rfl sub0) (by kernel_rfl) ?_
 refine qN 29 (cmpI (x.fmod y) 0 == 0) ?_
 refine qZ ent39 (fzofu (1) (by omega) (by omega)) fun zq1 => ?_
 refine st_g ent32 (fzadd (zd.fst) (zq1) (x.fdiv y) (1) (by exact Bits.fit (fdiv_b hx yF) (by decide)) (by exact Bits.fit (yB : Bits 64 (1)) (by decide))) (subC 1 rfl (subC 0 rfl sub0)) (by kernel_rfl) (fun zq2 => ?_)
 refine st_fn ent103 (fzsign (p) (x) (by exact Bits.fit hx (by decide))) (subC 4 rfl sub0) (by kernel_rfl) ?_
 refine qN 38 (decide (cmpI x 0 < 0)) ?_
 refine st_g ent32 (fzadd (zd.snd) (zd.snd) (x.fmod y) (x.fmod y) (by exact Bits.fit (fmod_b hy yF) (by decide)) (by exact Bits.fit (fmod_b hy yF) (by decide))) (subC 3 rfl (subC 3 rfl sub0)) (by kernel_rfl) (fun zq4 => ?_)
 refine st_fn ent86 (fzcmp (zq4) (q) (x.fmod y + x.fmod y) (y) (by exact Bits.fit (Bits.add (Bits.mono (l := 200) (fmod_b hy yF) (by decide)) (Bits.mono (l := 200) (fmod_b hy yF) (by decide))) (by decide)) (by exact Bits.fit hy (by decide))) (subC 0 rfl (subC 6 rfl sub0)) (by kernel_rfl) ?_
 refine qN 50 (decide (cmpI (x.fmod y + x.fmod y) y < 0)) ?_
 refine qN 57 (decide (cmpI (x.fmod y + x.fmod y) y > 0)) ?_
 refine qN 80 ((↑zd.fst.l : Int) == 0) ?_
 refine st_idx (fun w _ => idx0 (c := zd.1.c) ha hl1 w) (by kernel_rfl) ?_
 refine st_ldv (fun w h => load_int (cell_of (q := zd.1) (x := x.fdiv y) (h (zd.1, x.fdiv y) (by simp)) hl ha)) (by kernel_rfl) ?_
 refine qV 87 (dig_odd hp) ?_
 exact st_retG (zq2) Tryz.func53 (subE 1 rfl (by omega) sub0) (by kernel_rfl)
end Go.Proofs.YthoedmikfpbfnaaGreat
end
section
set_option maxRecDepth 100000
namespace Go.Proofs.YthoedmikfpbfnaaGreat
open Go Go.RowKit Go.Ev

theorem near_ok (p q : ZQ) (x y mode : Int) (hx : Bits 200 x) (hy : Bits 200 y) (h0 : 0 < y) (h1 : 1 ≤ mode) (h2 : mode ≤ 9) :
  FnZ 53 [(p, x), (q, y)] [zv p, zv q, .int .i64 mode] (fun z => .tuple #[zv z, .bool true]) (nearQ x y mode) := by
 have hne : y ≠ 0 := by omega
 by_cases hr : x.fmod y = 0
 ·exact near_zero p q x y mode hx hy h0 h1 h2 hr (by unfold nearQ; rw [if_pos hr])
 ·have hp : 0 < x.fmod y := by
   have h3 := Int.fmod_eq_emod_of_nonneg x (show 0 ≤ y by omega)
   have h4 := Int.emod_nonneg x hne
   omega
  have hc : cmpI (x.fmod y) 0 = 1 := cmpI_gt hp
  have hm : mode = 1 ∨ mode = 2 ∨ mode = 3 ∨ mode = 4 ∨ mode = 5 ∨ mode = 6 ∨ mode = 7 ∨ mode = 8 ∨ mode = 9 := by omega
  have hH : cmpI (x.fmod y + x.fmod y) y = -1 ∨ cmpI (x.fmod y + x.fmod y) y = 1 ∨ cmpI (x.fmod y + x.fmod y) y = 0 := by unfold cmpI; split <;> (try split) <;> simp
  have hE := half_cmp (x.fmod y) y
  clear h1 h2
  by_cases hs : x < 0
  ·have hs1 : cmpI x 0 = -1 := cmpI_lt hs
   rcases hm with rfl | rfl | rfl | rfl | rfl | rfl | rfl | rfl | rfl
   ·exact near_1n p q x y hx hy h0 hne hc hs1 (by simp [nearQ, hr, upQ, upB, halfB, ← hE, hs])
   ·exact near_2n p q x y hx hy h0 hne hc hs1 (by simp [nearQ, hr, upQ, upB, halfB, ← hE, hs])
   ·exact near_3n p q x y hx hy h0 hne hc hs1 (by simp [nearQ, hr, upQ, upB, halfB, ← hE, hs])
   ·exact near_4n p q x y hx hy h0 hne hc hs1 (by simp [nearQ, hr, upQ, upB, halfB, ← hE, hs])
   ·rcases hH with hh | hh | hh
    ·exact near_5nl p q x y hx hy h0 hne hc hs1 hh (by simp [nearQ, hr, upQ, upB, halfB, ← hE, hs, hh])
    ·exact near_5ng p q x y hx hy h0 hne hc hs1 hh (by simp [nearQ, hr, upQ, upB, halfB, ← hE, hs, hh])
    ·exact near_5ne p q x y hx hy h0 hne hc hs1 hh (by simp [nearQ, hr, upQ, upB, halfB, ← hE, hs, hh])
   ·rcases hH with hh | hh | hh
    ·exact near_6nl p q x y hx hy h0 hne hc hs1 hh (by simp [nearQ, hr, upQ, upB, halfB, ← hE, hs, hh])
    ·exact near_6ng p q x y hx hy h0 hne hc hs1 hh (by simp [nearQ, hr, upQ, upB, halfB, ← hE, hs, hh])
    ·exact near_6ne p q x y hx hy h0 hne hc hs1 hh (by simp [nearQ, hr, upQ, upB, halfB, ← hE, hs, hh])
   ·rcases hH with hh | hh | hh
    ·exact near_7nl p q x y hx hy h0 hne hc hs1 hh (by simp [nearQ, hr, upQ, upB, halfB, ← hE, hs, hh])
    ·exact near_7ng p q x y hx hy h0 hne hc hs1 hh (by simp [nearQ, hr, upQ, upB, halfB, ← hE, hs, hh])
    ·exact near_7ne p q x y hx hy h0 hne hc hs1 hh (by simp [nearQ, hr, upQ, upB, halfB, ← hE, hs, hh])
   ·rcases hH with hh | hh | hh
    ·exact near_8nl p q x y hx hy h0 hne hc hs1 hh (by simp [nearQ, hr, upQ, upB, halfB, ← hE, hs, hh])
    ·exact near_8ng p q x y hx hy h0 hne hc hs1 hh (by simp [nearQ, hr, upQ, upB, halfB, ← hE, hs, hh])
    ·exact near_8ne p q x y hx hy h0 hne hc hs1 hh (by simp [nearQ, hr, upQ, upB, halfB, ← hE, hs, hh])
   ·rcases hH with hh | hh | hh
    ·exact near_9nl p q x y hx hy h0 hne hc hs1 hh (by simp [nearQ, hr, upQ, upB, halfB, ← hE, hs, hh])
    ·exact near_9ng p q x y hx hy h0 hne hc hs1 hh (by simp [nearQ, hr, upQ, upB, halfB, ← hE, hs, hh])
    ·by_cases hl : x.fdiv y = 0
     ·exact near_9nez p q x y hx hy h0 hne hc hs1 hh hl (by simp [nearQ, hr, upQ, upB, halfB, ← hE, hs, hh, hl])
     ·by_cases hpar : x.fdiv y % 2 = 0
      ·exact near_9nee p q x y hx hy h0 hne hc hs1 hh hl hpar (by simp [nearQ, hr, upQ, upB, halfB, ← hE, hs, hh, hpar])
      ·exact near_9neo p q x y hx hy h0 hne hc hs1 hh hl hpar (by simp [nearQ, hr, upQ, upB, halfB, ← hE, hs, hh, hpar])
  ·have hs1 : 0 ≤ cmpI x 0 := by unfold cmpI; rw [if_neg hs]; split <;> omega
   rcases hm with rfl | rfl | rfl | rfl | rfl | rfl | rfl | rfl | rfl
   ·exact near_1p p q x y hx hy h0 hne hc hs1 (by simp [nearQ, hr, upQ, upB, halfB, ← hE, hs])
   ·exact near_2p p q x y hx hy h0 hne hc hs1 (by simp [nearQ, hr, upQ, upB, halfB, ← hE, hs])
   ·exact near_3p p q x y hx hy h0 hne hc hs1 (by simp [nearQ, hr, upQ, upB, halfB, ← hE, hs])
   ·exact near_4p p q x y hx hy h0 hne hc hs1 (by simp [nearQ, hr, upQ, upB, halfB, ← hE, hs])
   ·rcases hH with hh | hh | hh
    ·exact near_5pl p q x y hx hy h0 hne hc hs1 hh (by simp [nearQ, hr, upQ, upB, halfB, ← hE, hs, hh])
    ·exact near_5pg p q x y hx hy h0 hne hc hs1 hh (by simp [nearQ, hr, upQ, upB, halfB, ← hE, hs, hh])
    ·exact near_5pe p q x y hx hy h0 hne hc hs1 hh (by simp [nearQ, hr, upQ, upB, halfB, ← hE, hs, hh])
   ·rcases hH with hh | hh | hh
    ·exact near_6pl p q x y hx hy h0 hne hc hs1 hh (by simp [nearQ, hr, upQ, upB, halfB, ← hE, hs, hh])
    ·exact near_6pg p q x y hx hy h0 hne hc hs1 hh (by simp [nearQ, hr, upQ, upB, halfB, ← hE, hs, hh])
    ·exact near_6pe p q x y hx hy h0 hne hc hs1 hh (by simp [nearQ, hr, upQ, upB, halfB, ← hE, hs, hh])
   ·rcases hH with hh | hh | hh
    ·exact near_7pl p q x y hx hy h0 hne hc hs1 hh (by simp [nearQ, hr, upQ, upB, halfB, ← hE, hs, hh])
    ·exact near_7pg p q x y hx hy h0 hne hc hs1 hh (by simp [nearQ, hr, upQ, upB, halfB, ← hE, hs, hh])
    ·exact near_7pe p q x y hx hy h0 hne hc hs1 hh (by simp [nearQ, hr, upQ, upB, halfB, ← hE, hs, hh])
   ·rcases hH with hh | hh | hh
    ·exact near_8pl p q x y hx hy h0 hne hc hs1 hh (by simp [nearQ, hr, upQ, upB, halfB, ← hE, hs, hh])
    ·exact near_8pg p q x y hx hy h0 hne hc hs1 hh (by simp [nearQ, hr, upQ, upB, halfB, ← hE, hs, hh])
    ·exact near_8pe p q x y hx hy h0 hne hc hs1 hh (by simp [nearQ, hr, upQ, upB, halfB, ← hE, hs, hh])
   ·rcases hH with hh | hh | hh
    ·exact near_9pl p q x y hx hy h0 hne hc hs1 hh (by simp [nearQ, hr, upQ, upB, halfB, ← hE, hs, hh])
    ·exact near_9pg p q x y hx hy h0 hne hc hs1 hh (by simp [nearQ, hr, upQ, upB, halfB, ← hE, hs, hh])
    ·by_cases hl : x.fdiv y = 0
     ·exact near_9pez p q x y hx hy h0 hne hc hs1 hh hl (by simp [nearQ, hr, upQ, upB, halfB, ← hE, hs, hh, hl])
     ·by_cases hpar : x.fdiv y % 2 = 0
      ·exact near_9pee p q x y hx hy h0 hne hc hs1 hh hl hpar (by simp [nearQ, hr, upQ, upB, halfB, ← hE, hs, hh, hpar])
      ·exact near_9peo p q x y hx hy h0 hne hc hs1 hh hl hpar (by simp [nearQ, hr, upQ, upB, halfB, ← hE, hs, hh, hpar])
theorem nearQ_bits {x y mode : Int} (hx : Bits 200 x) (h0 : 0 < y) : Bits 202 (nearQ x y mode) := by
 have h1 : Bits 201 (x.fdiv y) := fdiv_b hx (by omega)
 have h2 : Bits 202 (x.fdiv y + 1) := h1.add (Bits.mono (l := 201) (show Bits 64 1 from (by unfold Bits; decide)) (by decide))
 unfold nearQ
 split
 ·exact h1.mono (by decide)
 ·split
  ·exact h2
  ·exact h1.mono (by decide)
end Go.Proofs.YthoedmikfpbfnaaGreat
end
section
namespace Go.Proofs.YthoedmikfpbfnaaGreat
open Go Go.RowKit

def fOk (n d : Int) : Prop := d ≠ 0 ∧ W128 (frP n d) ∧ W128 (frQ n d)
instance (n d : Int) : Decidable (fOk n d) := by unfold fOk; exact inferInstance
def fv (n d x : Int) : Int := if fOk n d then x else 0
def fe (n d : Int) : Int := if d = 0 then 3 else if fOk n d then 0 else 2
def RetFr (w : World) (n d : Int) (e : Ending) (w' : World) : Prop :=
 e = .returned (.tuple #[.agg #[.int .i64 (fv n d (hi (frP n d))), .int .u64 (fv n d (lo (frP n d)))], .agg #[.int .i64 (fv n d (hi (frQ n d))), .int .u64 (fv n d (lo (frQ n d)))], .int .i64 (fe n d)]) ∧ Ext w w'
theorem fv_yes {n d x : Int} (h : fOk n d) : fv n d x = x := if_pos h
theorem fe_yes {n d : Int} (h : fOk n d) : fe n d = 0 := by unfold fe; rw [if_neg h.1, if_pos h]
theorem retFr_yes {w w' : World} {n d : Int} (h : fOk n d) (x : Ext w w') : RetFr w n d (.returned (.tuple #[.agg #[.int .i64 (hi (frP n d)), .int .u64 (lo (frP n d))], .agg #[.int .i64 (hi (frQ n d)), .int .u64 (lo (frQ n d))], .int .i64 0])) w' := by
 refine ⟨?_, x⟩
 rw [fv_yes h, fv_yes h, fv_yes h, fv_yes h, fe_yes h]
set_option maxRecDepth 100000 in
set_option maxHeartbeats 3200000 in
theorem dfrac_yes (n d : Int) (w : World) (hn : W128 n) (hd : W128 d) (h0 : d ≠ 0) (hP : W128 (frP n d)) (hQ : W128 (frQ n d)) :
  Calls Tryz.prog 41 #[.agg #[.int .i64 (hi n), .int .u64 (lo n)], .agg #[.int .i64 (hi d), .int .u64 (lo d)]] w (RetFr w n d) := by
 have HPar := Lib.hid dparts
 have HGc := Lib.hid dgcd
 have HSgd := Lib.hid dsigned
 have HOT := Lib.hid (overTo_all (M := 170141183460469231731687303715884105728) (Nat.le_refl _))
 have HBd := Lib.hid (show n.natAbs ≤ 170141183460469231731687303715884105728 ∧ d.natAbs ≤ 170141183460469231731687303715884105728 by unfold W128 at hn hd; omega)
 obtain ⟨A, hA⟩ : ∃ A : Nat, A = n.natAbs := ⟨_, rfl⟩
 obtain ⟨D, hD⟩ : ∃ D : Nat, D = d.natAbs := ⟨_, rfl⟩
 obtain ⟨G, hG⟩ : ∃ G : Nat, G = Nat.gcd A D := ⟨_, rfl⟩
 obtain ⟨X, hX⟩ : ∃ X : Nat, X = A / G := ⟨_, rfl⟩
 obtain ⟨Y, hY⟩ : ∃ Y : Nat, Y = D / G := ⟨_, rfl⟩
 have hg : 0 < G := by rw [hG, hA, hD]; exact gcd_pos h0
 have hg2 : G ≤ D := by rw [hG]; exact Nat.gcd_le_right _ (by omega)
 rw [← hA, ← hD] at HBd
 have HA := Lib.hid (show mag n = (A : Int) by rw [hA]; exact mag_abs n)
 have HD := Lib.hid (show mag d = (D : Int) by rw [hD]; exact mag_abs d)
 have HG := Lib.hid (show ((Nat.gcd A D : Nat) : Int) = (G : Int) by rw [hG])
 have HO1 := Lib.hid (show OverC (A : Int) (G : Int) from HOT.out A G HBd.out.1 hg (Nat.le_trans hg2 HBd.out.2))
 have HO2 := Lib.hid (show OverC (D : Int) (G : Int) from HOT.out D G HBd.out.2 hg (Nat.le_trans hg2 HBd.out.2))
 have HX := Lib.hid (show (A : Int) / (G : Int) = (X : Int) by rw [hX]; omega)
 have HY := Lib.hid (show (D : Int) / (G : Int) = (Y : Int) by rw [hY]; omega)
 have HUX := Lib.hid (show U128 (X : Int) by have := Nat.div_le_self A G; have := HBd.out.1; unfold U128; omega)
 have HUY := Lib.hid (show U128 (Y : Int) by have := Nat.div_le_self D G; have := HBd.out.2; unfold U128; omega)
 have HP := Lib.hid (show wsg (!(decide (n < 0) == decide (d < 0))) (X : Int) = frP n d by unfold frP; rw [hX, hG, hA, hD])
 have HQ := Lib.hid (show wsg false (Y : Int) = frQ n d by unfold frQ; rw [hY, hG, hA, hD]; rfl)
 obtain ⟨r1, e1⟩ : ∃ r, (A : Int) % (G : Int) = r := ⟨_, rfl⟩
 obtain ⟨r2, e2⟩ : ∃ r, (D : Int) % (G : Int) = r := ⟨_, rfl⟩
 have HR1 := Lib.hid e1
 have HR2 := Lib.hid e2
 obtain ⟨t1, e3⟩ : ∃ r, thi (frQ n d) = r := ⟨_, rfl⟩
 obtain ⟨t2, e4⟩ : ∃ r, tlo (frQ n d) = r := ⟨_, rfl⟩
 obtain ⟨t3, e5⟩ : ∃ r, ter (frQ n d) = r := ⟨_, rfl⟩
 have HT1 := Lib.hid e3
 have HT2 := Lib.hid e4
 have HT3 := Lib.hid e5
 have H0 := Lib.hid h0
 have hz : ¬ (hi d = 0 ∧ lo d = 0) := by rintro ⟨g1, g2⟩; have := hi_lo d; omega
 clear hA hD hG hX hY e1 e2 e3 e4 e5 h0 hg hg2
 by_cases hz1 : hi d = 0
 ·have g1 : (hi d == 0) = true := by simpa using hz1
  have g2 : (lo d == 0) = false := by simpa using fun h => hz ⟨hz1, h⟩
  clear hz hz1
  go_enter Tryz.func41, Tryz.ntmps41
  go_upto_region 1 with fail
  have xw := Ext.refl w
  refine wp_name ?_
  intro V1 hV
  replace xw : Ext w V1 := by rw [hV]; exact Ext.alloc (Ext.alloc (Ext.alloc (Ext.alloc (xw))))
  have b2 : Box2 V1 w.heap.size (.int .i64 (hi n)) (.int .u64 (lo n)) 42 := by rw [hV]; exact (((Box2.new rfl).alloc _).alloc _).alloc _
  have b3 : Box2 V1 (w.heap.size + 1) (.int .i64 (hi d)) (.int .u64 (lo d)) 42 := by rw [hV]; exact ((Box2.new (by simp)).alloc _).alloc _
  have b4 : Box2 V1 (w.heap.size + 1 + 1) (.int .i64 0) (.int .u64 0) 42 := by rw [hV]; exact (Box2.new (by simp)).alloc _
  have b5 : Box2 V1 (w.heap.size + 1 + 1 + 1) (.int .i64 0) (.int .u64 0) 42 := by rw [hV]; exact Box2.new (by simp)
  clear hV
  have b3_c0 := b3.c0
  have b3_c1 := b3.c1
  go_upto_region 3 with fail
  clear b3_c0 b3_c1
  have b2_c0 := b2.c0
  have b2_c1 := b2.c1
  go_wp2_with fail
  refine (HPar.out n _ hn).mono ?_
  rw [HA.out]
  rintro e w2 ⟨rfl, x2⟩
  clear b2_c0 b2_c1
  replace b2 := b2.ext x2
  replace b3 := b3.ext x2
  replace b4 := b4.ext x2
  replace b5 := b5.ext x2
  replace xw := Ext.trans xw x2
  go_upto_region 4 with fail
  have o4 := b2.kind.lt
  have o5 := b3.kind.lt
  have o6 := b4.kind.lt
  have o7 := b5.kind.lt
  have o8 := xw.size
  refine wp_name ?_
  intro V3 hV
  have b2N : Box2 V3 w.heap.size (.int .i64 (hi n)) (.int .u64 (lo n)) 42 := by rw [hV]; exact (b2).alloc _
  have b3N : Box2 V3 (w.heap.size + 1) (.int .i64 (hi d)) (.int .u64 (lo d)) 42 := by rw [hV]; exact (b3).alloc _
  have b4N : Box2 V3 (w.heap.size + 1 + 1) (.int .i64 0) (.int .u64 0) 42 := by rw [hV]; exact (b4).alloc _
  have b5N : Box2 V3 (w.heap.size + 1 + 1 + 1) (.int .i64 0) (.int .u64 0) 42 := by rw [hV]; exact (b5).alloc _
  replace xw : Ext w V3 := by rw [hV]; exact Ext.alloc (xw)
  replace b2 := b2N; clear b2N
  replace b3 := b3N; clear b3N
  replace b4 := b4N; clear b4N
  replace b5 := b5N; clear b5N
  have b7 : Box2 V3 w2.heap.size (.int .u64 (hi (A : Int))) (.int .u64 (lo (A : Int))) 139 := by rw [hV]; exact Box2.new rfl
  clear hV
  have b3_c0 := b3.c0
  have b3_c1 := b3.c1
  go_wp2_with fail
  refine (HPar.out d _ hd).mono ?_
  rw [HD.out]
  rintro e w9 ⟨rfl, x9⟩
  clear b3_c0 b3_c1
  replace b2 := b2.ext x9
  replace b3 := b3.ext x9
  replace b4 := b4.ext x9
  replace b5 := b5.ext x9
  replace b7 := b7.ext x9
  replace xw := Ext.trans xw x9
  go_upto_region 5 with fail
  have o11 := b7.kind.lt
  have o12 := xw.size
  refine wp_name ?_
  intro V10 hV
  have b2N : Box2 V10 w.heap.size (.int .i64 (hi n)) (.int .u64 (lo n)) 42 := by rw [hV]; exact (b2).alloc _
  have b3N : Box2 V10 (w.heap.size + 1) (.int .i64 (hi d)) (.int .u64 (lo d)) 42 := by rw [hV]; exact (b3).alloc _
  have b4N : Box2 V10 (w.heap.size + 1 + 1) (.int .i64 0) (.int .u64 0) 42 := by rw [hV]; exact (b4).alloc _
  have b5N : Box2 V10 (w.heap.size + 1 + 1 + 1) (.int .i64 0) (.int .u64 0) 42 := by rw [hV]; exact (b5).alloc _
  have b7N : Box2 V10 w2.heap.size (.int .u64 (hi (A : Int))) (.int .u64 (lo (A : Int))) 139 := by rw [hV]; exact (b7).alloc _
  replace xw : Ext w V10 := by rw [hV]; exact Ext.alloc (xw)
  replace b2 := b2N; clear b2N
  replace b3 := b3N; clear b3N
  replace b4 := b4N; clear b4N
  replace b5 := b5N; clear b5N
  replace b7 := b7N; clear b7N
  have b9 : Box2 V10 w9.heap.size (.int .u64 (hi (D : Int))) (.int .u64 (lo (D : Int))) 139 := by rw [hV]; exact Box2.new rfl
  clear hV
  have b7_c0 := b7.c0
  have b7_c1 := b7.c1
  have b9_c0 := b9.c0
  have b9_c1 := b9.c1
  go_wp2_with fail
  refine (HGc.out 170141183460469231731687303715884105728 A D _ HBd.out.1 HBd.out.2 HOT.out).mono ?_
  rw [HG.out]
  rintro e w13 ⟨rfl, x13⟩
  clear b7_c0 b7_c1 b9_c0 b9_c1
  replace b2 := b2.ext x13
  replace b3 := b3.ext x13
  replace b4 := b4.ext x13
  replace b5 := b5.ext x13
  replace b7 := b7.ext x13
  replace b9 := b9.ext x13
  replace xw := Ext.trans xw x13
  go_upto_region 6 with fail
  have o15 := b9.kind.lt
  have o16 := xw.size
  refine wp_name ?_
  intro V14 hV
  have b2N : Box2 V14 w.heap.size (.int .i64 (hi n)) (.int .u64 (lo n)) 42 := by rw [hV]; exact (b2).alloc _
  have b3N : Box2 V14 (w.heap.size + 1) (.int .i64 (hi d)) (.int .u64 (lo d)) 42 := by rw [hV]; exact (b3).alloc _
  have b4N : Box2 V14 (w.heap.size + 1 + 1) (.int .i64 0) (.int .u64 0) 42 := by rw [hV]; exact (b4).alloc _
  have b5N : Box2 V14 (w.heap.size + 1 + 1 + 1) (.int .i64 0) (.int .u64 0) 42 := by rw [hV]; exact (b5).alloc _
  have b7N : Box2 V14 w2.heap.size (.int .u64 (hi (A : Int))) (.int .u64 (lo (A : Int))) 139 := by rw [hV]; exact (b7).alloc _
  have b9N : Box2 V14 w9.heap.size (.int .u64 (hi (D : Int))) (.int .u64 (lo (D : Int))) 139 := by rw [hV]; exact (b9).alloc _
  replace xw : Ext w V14 := by rw [hV]; exact Ext.alloc (xw)
  replace b2 := b2N; clear b2N
  replace b3 := b3N; clear b3N
  replace b4 := b4N; clear b4N
  replace b5 := b5N; clear b5N
  replace b7 := b7N; clear b7N
  replace b9 := b9N; clear b9N
  have b11 : Box2 V14 w13.heap.size (.int .u64 (hi (G : Int))) (.int .u64 (lo (G : Int))) 139 := by rw [hV]; exact Box2.new rfl
  clear hV
  have b7_c0 := b7.c0
  have b7_c1 := b7.c1
  have b11_c0 := b11.c0
  have b11_c1 := b11.c1
  go_wp2_with fail
  refine (HO1.out _).mono ?_
  rw [HX.out, HR1.out]
  rintro e w17 ⟨rfl, x17⟩
  clear b7_c0 b7_c1 b11_c0 b11_c1
  replace b2 := b2.ext x17
  replace b3 := b3.ext x17
  replace b4 := b4.ext x17
  replace b5 := b5.ext x17
  replace b7 := b7.ext x17
  replace b9 := b9.ext x17
  replace b11 := b11.ext x17
  replace xw := Ext.trans xw x17
  have b7_c0 := b7.c0
  have b7_c1 := b7.c1
  have b7_f0 := b7.f0
  have b7_f1 := b7.f1
  go_upto_region 7 with fail
  clear b7_c0 b7_c1 b7_f0 b7_f1
  refine wp_name ?_
  intro V18 hV
  have b2N : Box2 V18 w.heap.size (.int .i64 (hi n)) (.int .u64 (lo n)) 42 := by rw [hV]; exact ((b2).other (b := w2.heap.size) (by omega) 0 (.int .u64 (hi (X : Int)))).other (b := w2.heap.size) (by omega) 1 (.int .u64 (lo (X : Int)))
  have b3N : Box2 V18 (w.heap.size + 1) (.int .i64 (hi d)) (.int .u64 (lo d)) 42 := by rw [hV]; exact ((b3).other (b := w2.heap.size) (by omega) 0 (.int .u64 (hi (X : Int)))).other (b := w2.heap.size) (by omega) 1 (.int .u64 (lo (X : Int)))
  have b4N : Box2 V18 (w.heap.size + 1 + 1) (.int .i64 0) (.int .u64 0) 42 := by rw [hV]; exact ((b4).other (b := w2.heap.size) (by omega) 0 (.int .u64 (hi (X : Int)))).other (b := w2.heap.size) (by omega) 1 (.int .u64 (lo (X : Int)))
  have b5N : Box2 V18 (w.heap.size + 1 + 1 + 1) (.int .i64 0) (.int .u64 0) 42 := by rw [hV]; exact ((b5).other (b := w2.heap.size) (by omega) 0 (.int .u64 (hi (X : Int)))).other (b := w2.heap.size) (by omega) 1 (.int .u64 (lo (X : Int)))
  have b7N : Box2 V18 w2.heap.size (.int .u64 (hi (X : Int))) (.int .u64 (lo (X : Int))) 139 := by rw [hV]; exact (b7).set (.int .u64 (hi (X : Int))) (.int .u64 (lo (X : Int)))
  have b9N : Box2 V18 w9.heap.size (.int .u64 (hi (D : Int))) (.int .u64 (lo (D : Int))) 139 := by rw [hV]; exact ((b9).other (b := w2.heap.size) (by omega) 0 (.int .u64 (hi (X : Int)))).other (b := w2.heap.size) (by omega) 1 (.int .u64 (lo (X : Int)))
  have b11N : Box2 V18 w13.heap.size (.int .u64 (hi (G : Int))) (.int .u64 (lo (G : Int))) 139 := by rw [hV]; exact ((b11).other (b := w2.heap.size) (by omega) 0 (.int .u64 (hi (X : Int)))).other (b := w2.heap.size) (by omega) 1 (.int .u64 (lo (X : Int)))
  replace xw : Ext w V18 := by rw [hV]; exact Ext.set (Ext.set (xw) (k := w2.heap.size) (o := 0) (u := .int .u64 (hi (X : Int))) (by omega)) (k := w2.heap.size) (o := 1) (u := .int .u64 (lo (X : Int))) (by omega)
  replace b2 := b2N; clear b2N
  replace b3 := b3N; clear b3N
  replace b4 := b4N; clear b4N
  replace b5 := b5N; clear b5N
  replace b7 := b7N; clear b7N
  replace b9 := b9N; clear b9N
  replace b11 := b11N; clear b11N
  clear hV
  have b9_c0 := b9.c0
  have b9_c1 := b9.c1
  have b11_c0 := b11.c0
  have b11_c1 := b11.c1
  go_wp2_with fail
  refine (HO2.out _).mono ?_
  rw [HY.out, HR2.out]
  rintro e w19 ⟨rfl, x19⟩
  clear b9_c0 b9_c1 b11_c0 b11_c1
  replace b2 := b2.ext x19
  replace b3 := b3.ext x19
  replace b4 := b4.ext x19
  replace b5 := b5.ext x19
  replace b7 := b7.ext x19
  replace b9 := b9.ext x19
  replace b11 := b11.ext x19
  replace xw := Ext.trans xw x19
  have b9_c0 := b9.c0
  have b9_c1 := b9.c1
  have b9_f0 := b9.f0
  have b9_f1 := b9.f1
  go_upto_region 8 with fail
  clear b9_c0 b9_c1 b9_f0 b9_f1
  refine wp_name ?_
  intro V20 hV
  have b2N : Box2 V20 w.heap.size (.int .i64 (hi n)) (.int .u64 (lo n)) 42 := by rw [hV]; exact ((b2).other (b := w9.heap.size) (by omega) 0 (.int .u64 (hi (Y : Int)))).other (b := w9.heap.size) (by omega) 1 (.int .u64 (lo (Y : Int)))
  have b3N : Box2 V20 (w.heap.size + 1) (.int .i64 (hi d)) (.int .u64 (lo d)) 42 := by rw [hV]; exact ((b3).other (b := w9.heap.size) (by omega) 0 (.int .u64 (hi (Y : Int)))).other (b := w9.heap.size) (by omega) 1 (.int .u64 (lo (Y : Int)))
  have b4N : Box2 V20 (w.heap.size + 1 + 1) (.int .i64 0) (.int .u64 0) 42 := by rw [hV]; exact ((b4).other (b := w9.heap.size) (by omega) 0 (.int .u64 (hi (Y : Int)))).other (b := w9.heap.size) (by omega) 1 (.int .u64 (lo (Y : Int)))
  have b5N : Box2 V20 (w.heap.size + 1 + 1 + 1) (.int .i64 0) (.int .u64 0) 42 := by rw [hV]; exact ((b5).other (b := w9.heap.size) (by omega) 0 (.int .u64 (hi (Y : Int)))).other (b := w9.heap.size) (by omega) 1 (.int .u64 (lo (Y : Int)))
  have b7N : Box2 V20 w2.heap.size (.int .u64 (hi (X : Int))) (.int .u64 (lo (X : Int))) 139 := by rw [hV]; exact ((b7).other (b := w9.heap.size) (by omega) 0 (.int .u64 (hi (Y : Int)))).other (b := w9.heap.size) (by omega) 1 (.int .u64 (lo (Y : Int)))
  have b9N : Box2 V20 w9.heap.size (.int .u64 (hi (Y : Int))) (.int .u64 (lo (Y : Int))) 139 := by rw [hV]; exact (b9).set (.int .u64 (hi (Y : Int))) (.int .u64 (lo (Y : Int)))
  have b11N : Box2 V20 w13.heap.size (.int .u64 (hi (G : Int))) (.int .u64 (lo (G : Int))) 139 := by rw [hV]; exact ((b11).other (b := w9.heap.size) (by omega) 0 (.int .u64 (hi (Y : Int)))).other (b := w9.heap.size) (by omega) 1 (.int .u64 (lo (Y : Int)))
  replace xw : Ext w V20 := by rw [hV]; exact Ext.set (Ext.set (xw) (k := w9.heap.size) (o := 0) (u := .int .u64 (hi (Y : Int))) (by omega)) (k := w9.heap.size) (o := 1) (u := .int .u64 (lo (Y : Int))) (by omega)
  replace b2 := b2N; clear b2N
  replace b3 := b3N; clear b3N
  replace b4 := b4N; clear b4N
  replace b5 := b5N; clear b5N
  replace b7 := b7N; clear b7N
  replace b9 := b9N; clear b9N
  replace b11 := b11N; clear b11N
  clear hV
  have b7_c0 := b7.c0
  have b7_c1 := b7.c1
  go_wp2_with fail
  refine (HSgd.out _ _ _ HUX.out).mono ?_
  rw [HP.out]
  rintro e w21 ⟨rfl, x21⟩
  rw [thi_yes hP, tlo_yes hP, ter_yes hP]
  clear b7_c0 b7_c1
  replace b2 := b2.ext x21
  replace b3 := b3.ext x21
  replace b4 := b4.ext x21
  replace b5 := b5.ext x21
  replace b7 := b7.ext x21
  replace b9 := b9.ext x21
  replace b11 := b11.ext x21
  replace xw := Ext.trans xw x21
  go_upto_region 9 with fail
  have o23 := b11.kind.lt
  have o24 := xw.size
  refine wp_name ?_
  intro V22 hV
  have b2N : Box2 V22 w.heap.size (.int .i64 (hi n)) (.int .u64 (lo n)) 42 := by rw [hV]; exact (b2).alloc _
  have b3N : Box2 V22 (w.heap.size + 1) (.int .i64 (hi d)) (.int .u64 (lo d)) 42 := by rw [hV]; exact (b3).alloc _
  have b4N : Box2 V22 (w.heap.size + 1 + 1) (.int .i64 0) (.int .u64 0) 42 := by rw [hV]; exact (b4).alloc _
  have b5N : Box2 V22 (w.heap.size + 1 + 1 + 1) (.int .i64 0) (.int .u64 0) 42 := by rw [hV]; exact (b5).alloc _
  have b7N : Box2 V22 w2.heap.size (.int .u64 (hi (X : Int))) (.int .u64 (lo (X : Int))) 139 := by rw [hV]; exact (b7).alloc _
  have b9N : Box2 V22 w9.heap.size (.int .u64 (hi (Y : Int))) (.int .u64 (lo (Y : Int))) 139 := by rw [hV]; exact (b9).alloc _
  have b11N : Box2 V22 w13.heap.size (.int .u64 (hi (G : Int))) (.int .u64 (lo (G : Int))) 139 := by rw [hV]; exact (b11).alloc _
  replace xw : Ext w V22 := by rw [hV]; exact Ext.alloc (xw)
  replace b2 := b2N; clear b2N
  replace b3 := b3N; clear b3N
  replace b4 := b4N; clear b4N
  replace b5 := b5N; clear b5N
  replace b7 := b7N; clear b7N
  replace b9 := b9N; clear b9N
  replace b11 := b11N; clear b11N
  have b12 : Box2 V22 w21.heap.size (.int .i64 (hi (frP n d))) (.int .u64 (lo (frP n d))) 42 := by rw [hV]; exact Box2.new rfl
  clear hV
  have b9_c0 := b9.c0
  have b9_c1 := b9.c1
  go_wp2_with fail
  refine (HSgd.out _ _ _ HUY.out).mono ?_
  rw [HQ.out]
  rintro e w25 ⟨rfl, x25⟩
  rw [thi_yes hQ, tlo_yes hQ, ter_yes hQ]
  clear b9_c0 b9_c1
  replace b2 := b2.ext x25
  replace b3 := b3.ext x25
  replace b4 := b4.ext x25
  replace b5 := b5.ext x25
  replace b7 := b7.ext x25
  replace b9 := b9.ext x25
  replace b11 := b11.ext x25
  replace b12 := b12.ext x25
  replace xw := Ext.trans xw x25
  go_upto_region 10 with fail
  have o27 := b12.kind.lt
  have o28 := xw.size
  refine wp_name ?_
  intro V26 hV
  have b2N : Box2 V26 w.heap.size (.int .i64 (hi n)) (.int .u64 (lo n)) 42 := by rw [hV]; exact (b2).alloc _
  have b3N : Box2 V26 (w.heap.size + 1) (.int .i64 (hi d)) (.int .u64 (lo d)) 42 := by rw [hV]; exact (b3).alloc _
  have b4N : Box2 V26 (w.heap.size + 1 + 1) (.int .i64 0) (.int .u64 0) 42 := by rw [hV]; exact (b4).alloc _
  have b5N : Box2 V26 (w.heap.size + 1 + 1 + 1) (.int .i64 0) (.int .u64 0) 42 := by rw [hV]; exact (b5).alloc _
  have b7N : Box2 V26 w2.heap.size (.int .u64 (hi (X : Int))) (.int .u64 (lo (X : Int))) 139 := by rw [hV]; exact (b7).alloc _
  have b9N : Box2 V26 w9.heap.size (.int .u64 (hi (Y : Int))) (.int .u64 (lo (Y : Int))) 139 := by rw [hV]; exact (b9).alloc _
  have b11N : Box2 V26 w13.heap.size (.int .u64 (hi (G : Int))) (.int .u64 (lo (G : Int))) 139 := by rw [hV]; exact (b11).alloc _
  have b12N : Box2 V26 w21.heap.size (.int .i64 (hi (frP n d))) (.int .u64 (lo (frP n d))) 42 := by rw [hV]; exact (b12).alloc _
  replace xw : Ext w V26 := by rw [hV]; exact Ext.alloc (xw)
  replace b2 := b2N; clear b2N
  replace b3 := b3N; clear b3N
  replace b4 := b4N; clear b4N
  replace b5 := b5N; clear b5N
  replace b7 := b7N; clear b7N
  replace b9 := b9N; clear b9N
  replace b11 := b11N; clear b11N
  replace b12 := b12N; clear b12N
  have b14 : Box2 V26 w25.heap.size (.int .i64 (hi (frQ n d))) (.int .u64 (lo (frQ n d))) 42 := by rw [hV]; exact Box2.new rfl
  clear hV
  go_upto_region 12 with fail
  have b12_c0 := b12.c0
  have b12_c1 := b12.c1
  have b14_c0 := b14.c0
  have b14_c1 := b14.c1
  have b4_c0 := b4.c0
  have b4_c1 := b4.c1
  have b4_f0 := b4.f0
  have b4_f1 := b4.f1
  have b5_c0 := b5.c0
  have b5_c1 := b5.c1
  have b5_f0 := b5.f0
  have b5_f1 := b5.f1
  have ne4_5 : ¬ w.heap.size + 1 + 1 = w.heap.size + 1 + 1 + 1 := by omega
  have ne5_4 : ¬ w.heap.size + 1 + 1 + 1 = w.heap.size + 1 + 1 := by omega
  have ne4_12 : ¬ w.heap.size + 1 + 1 = w21.heap.size := by omega
  have ne12_4 : ¬ w21.heap.size = w.heap.size + 1 + 1 := by omega
  have ne4_14 : ¬ w.heap.size + 1 + 1 = w25.heap.size := by omega
  have ne14_4 : ¬ w25.heap.size = w.heap.size + 1 + 1 := by omega
  have ne5_12 : ¬ w.heap.size + 1 + 1 + 1 = w21.heap.size := by omega
  have ne12_5 : ¬ w21.heap.size = w.heap.size + 1 + 1 + 1 := by omega
  have ne5_14 : ¬ w.heap.size + 1 + 1 + 1 = w25.heap.size := by omega
  have ne14_5 : ¬ w25.heap.size = w.heap.size + 1 + 1 + 1 := by omega
  go_region
  clear ne4_5 ne5_4 ne4_12 ne12_4 ne4_14 ne14_4 ne5_12 ne12_5 ne5_14 ne14_5
  have xr := Ext.drew (Ext.set (Ext.set (Ext.set (Ext.set (xw) (k := w.heap.size + 1 + 1) (o := 0) (u := .int .i64 (hi (frP n d))) (by omega)) (k := w.heap.size + 1 + 1) (o := 1) (u := .int .u64 (lo (frP n d))) (by omega)) (k := w.heap.size + 1 + 1 + 1) (o := 0) (u := .int .i64 (hi (frQ n d))) (by omega)) (k := w.heap.size + 1 + 1 + 1) (o := 1) (u := .int .u64 (lo (frQ n d))) (by omega))
  go_wp2_with fail
  refine bodyPost_ret (v := .tuple #[.agg #[.int .i64 (hi (frP n d)), .int .u64 (lo (frP n d))], .agg #[.int .i64 (hi (frQ n d)), .int .u64 (lo (frQ n d))], .int .i64 0]) (by simp [results, Tryz.results41, go_sem, b4_c0, b4_c1, b5_c0, b5_c1]) rfl (retFr_yes ⟨H0.out, hP, hQ⟩ xr)
 ·have g1 : (hi d == 0) = false := by simpa using hz1
  clear hz hz1
  go_enter Tryz.func41, Tryz.ntmps41
  go_upto_region 1 with fail
  have xw := Ext.refl w
  refine wp_name ?_
  intro V29 hV
  replace xw : Ext w V29 := by rw [hV]; exact Ext.alloc (Ext.alloc (Ext.alloc (Ext.alloc (xw))))
  have b2 : Box2 V29 w.heap.size (.int .i64 (hi n)) (.int .u64 (lo n)) 42 := by rw [hV]; exact (((Box2.new rfl).alloc _).alloc _).alloc _
  have b3 : Box2 V29 (w.heap.size + 1) (.int .i64 (hi d)) (.int .u64 (lo d)) 42 := by rw [hV]; exact ((Box2.new (by simp)).alloc _).alloc _
  have b4 : Box2 V29 (w.heap.size + 1 + 1) (.int .i64 0) (.int .u64 0) 42 := by rw [hV]; exact (Box2.new (by simp)).alloc _
  have b5 : Box2 V29 (w.heap.size + 1 + 1 + 1) (.int .i64 0) (.int .u64 0) 42 := by rw [hV]; exact Box2.new (by simp)
  clear hV
  have b3_c0 := b3.c0
  have b3_c1 := b3.c1
  go_upto_region 3 with fail
  clear b3_c0 b3_c1
  have b2_c0 := b2.c0
  have b2_c1 := b2.c1
  go_wp2_with fail
  refine (HPar.out n _ hn).mono ?_
  rw [HA.out]
  rintro e w30 ⟨rfl, x30⟩
  clear b2_c0 b2_c1
  replace b2 := b2.ext x30
  replace b3 := b3.ext x30
  replace b4 := b4.ext x30
  replace b5 := b5.ext x30
  replace xw := Ext.trans xw x30
  go_upto_region 4 with fail
  have o32 := b2.kind.lt
  have o33 := b3.kind.lt
  have o34 := b4.kind.lt
  have o35 := b5.kind.lt
  have o36 := xw.size
  refine wp_name ?_
  intro V31 hV
  have b2N : Box2 V31 w.heap.size (.int .i64 (hi n)) (.int .u64 (lo n)) 42 := by rw [hV]; exact (b2).alloc _
  have b3N : Box2 V31 (w.heap.size + 1) (.int .i64 (hi d)) (.int .u64 (lo d)) 42 := by rw [hV]; exact (b3).alloc _
  have b4N : Box2 V31 (w.heap.size + 1 + 1) (.int .i64 0) (.int .u64 0) 42 := by rw [hV]; exact (b4).alloc _
  have b5N : Box2 V31 (w.heap.size + 1 + 1 + 1) (.int .i64 0) (.int .u64 0) 42 := by rw [hV]; exact (b5).alloc _
  replace xw : Ext w V31 := by rw [hV]; exact Ext.alloc (xw)
  replace b2 := b2N; clear b2N
  replace b3 := b3N; clear b3N
  replace b4 := b4N; clear b4N
  replace b5 := b5N; clear b5N
  have b7 : Box2 V31 w30.heap.size (.int .u64 (hi (A : Int))) (.int .u64 (lo (A : Int))) 139 := by rw [hV]; exact Box2.new rfl
  clear hV
  have b3_c0 := b3.c0
  have b3_c1 := b3.c1
  go_wp2_with fail
  refine (HPar.out d _ hd).mono ?_
  rw [HD.out]
  rintro e w37 ⟨rfl, x37⟩
  clear b3_c0 b3_c1
  replace b2 := b2.ext x37
  replace b3 := b3.ext x37
  replace b4 := b4.ext x37
  replace b5 := b5.ext x37
  replace b7 := b7.ext x37
  replace xw := Ext.trans xw x37
  go_upto_region 5 with fail
  have o39 := b7.kind.lt
  have o40 := xw.size
  refine wp_name ?_
  intro V38 hV
  have b2N : Box2 V38 w.heap.size (.int .i64 (hi n)) (.int .u64 (lo n)) 42 := by rw [hV]; exact (b2).alloc _
  have b3N : Box2 V38 (w.heap.size + 1) (.int .i64 (hi d)) (.int .u64 (lo d)) 42 := by rw [hV]; exact (b3).alloc _
  have b4N : Box2 V38 (w.heap.size + 1 + 1) (.int .i64 0) (.int .u64 0) 42 := by rw [hV]; exact (b4).alloc _
  have b5N : Box2 V38 (w.heap.size + 1 + 1 + 1) (.int .i64 0) (.int .u64 0) 42 := by rw [hV]; exact (b5).alloc _
  have b7N : Box2 V38 w30.heap.size (.int .u64 (hi (A : Int))) (.int .u64 (lo (A : Int))) 139 := by rw [hV]; exact (b7).alloc _
  replace xw : Ext w V38 := by rw [hV]; exact Ext.alloc (xw)
  replace b2 := b2N; clear b2N
  replace b3 := b3N; clear b3N
  replace b4 := b4N; clear b4N
  replace b5 := b5N; clear b5N
  replace b7 := b7N; clear b7N
  have b9 : Box2 V38 w37.heap.size (.int .u64 (hi (D : Int))) (.int .u64 (lo (D : Int))) 139 := by rw [hV]; exact Box2.new rfl
  clear hV
  have b7_c0 := b7.c0
  have b7_c1 := b7.c1
  have b9_c0 := b9.c0
  have b9_c1 := b9.c1
  go_wp2_with fail
  refine (HGc.out 170141183460469231731687303715884105728 A D _ HBd.out.1 HBd.out.2 HOT.out).mono ?_
  rw [HG.out]
  rintro e w41 ⟨rfl, x41⟩
  clear b7_c0 b7_c1 b9_c0 b9_c1
  replace b2 := b2.ext x41
  replace b3 := b3.ext x41
  replace b4 := b4.ext x41
  replace b5 := b5.ext x41
  replace b7 := b7.ext x41
  replace b9 := b9.ext x41
  replace xw := Ext.trans xw x41
  go_upto_region 6 with fail
  have o43 := b9.kind.lt
  have o44 := xw.size
  refine wp_name ?_
  intro V42 hV
  have b2N : Box2 V42 w.heap.size (.int .i64 (hi n)) (.int .u64 (lo n)) 42 := by rw [hV]; exact (b2).alloc _
  have b3N : Box2 V42 (w.heap.size + 1) (.int .i64 (hi d)) (.int .u64 (lo d)) 42 := by rw [hV]; exact (b3).alloc _
  have b4N : Box2 V42 (w.heap.size + 1 + 1) (.int .i64 0) (.int .u64 0) 42 := by rw [hV]; exact (b4).alloc _
  have b5N : Box2 V42 (w.heap.size + 1 + 1 + 1) (.int .i64 0) (.int .u64 0) 42 := by rw [hV]; exact (b5).alloc _
  have b7N : Box2 V42 w30.heap.size (.int .u64 (hi (A : Int))) (.int .u64 (lo (A : Int))) 139 := by rw [hV]; exact (b7).alloc _
  have b9N : Box2 V42 w37.heap.size (.int .u64 (hi (D : Int))) (.int .u64 (lo (D : Int))) 139 := by rw [hV]; exact (b9).alloc _
  replace xw : Ext w V42 := by rw [hV]; exact Ext.alloc (xw)
  replace b2 := b2N; clear b2N
  replace b3 := b3N; clear b3N
  replace b4 := b4N; clear b4N
  replace b5 := b5N; clear b5N
  replace b7 := b7N; clear b7N
  replace b9 := b9N; clear b9N
  have b11 : Box2 V42 w41.heap.size (.int .u64 (hi (G : Int))) (.int .u64 (lo (G : Int))) 139 := by rw [hV]; exact Box2.new rfl
  clear hV
  have b7_c0 := b7.c0
  have b7_c1 := b7.c1
  have b11_c0 := b11.c0
  have b11_c1 := b11.c1
  go_wp2_with fail
  refine (HO1.out _).mono ?_
  rw [HX.out, HR1.out]
  rintro e w45 ⟨rfl, x45⟩
  clear b7_c0 b7_c1 b11_c0 b11_c1
  replace b2 := b2.ext x45
  replace b3 := b3.ext x45
  replace b4 := b4.ext x45
  replace b5 := b5.ext x45
  replace b7 := b7.ext x45
  replace b9 := b9.ext x45
  replace b11 := b11.ext x45
  replace xw := Ext.trans xw x45
  have b7_c0 := b7.c0
  have b7_c1 := b7.c1
  have b7_f0 := b7.f0
  have b7_f1 := b7.f1
  go_upto_region 7 with fail
  clear b7_c0 b7_c1 b7_f0 b7_f1
  refine wp_name ?_
  intro V46 hV
  have b2N : Box2 V46 w.heap.size (.int .i64 (hi n)) (.int .u64 (lo n)) 42 := by rw [hV]; exact ((b2).other (b := w30.heap.size) (by omega) 0 (.int .u64 (hi (X : Int)))).other (b := w30.heap.size) (by omega) 1 (.int .u64 (lo (X : Int)))
  have b3N : Box2 V46 (w.heap.size + 1) (.int .i64 (hi d)) (.int .u64 (lo d)) 42 := by rw [hV]; exact ((b3).other (b := w30.heap.size) (by omega) 0 (.int .u64 (hi (X : Int)))).other (b := w30.heap.size) (by omega) 1 (.int .u64 (lo (X : Int)))
  have b4N : Box2 V46 (w.heap.size + 1 + 1) (.int .i64 0) (.int .u64 0) 42 := by rw [hV]; exact ((b4).other (b := w30.heap.size) (by omega) 0 (.int .u64 (hi (X : Int)))).other (b := w30.heap.size) (by omega) 1 (.int .u64 (lo (X : Int)))
  have b5N : Box2 V46 (w.heap.size + 1 + 1 + 1) (.int .i64 0) (.int .u64 0) 42 := by rw [hV]; exact ((b5).other (b := w30.heap.size) (by omega) 0 (.int .u64 (hi (X : Int)))).other (b := w30.heap.size) (by omega) 1 (.int .u64 (lo (X : Int)))
  have b7N : Box2 V46 w30.heap.size (.int .u64 (hi (X : Int))) (.int .u64 (lo (X : Int))) 139 := by rw [hV]; exact (b7).set (.int .u64 (hi (X : Int))) (.int .u64 (lo (X : Int)))
  have b9N : Box2 V46 w37.heap.size (.int .u64 (hi (D : Int))) (.int .u64 (lo (D : Int))) 139 := by rw [hV]; exact ((b9).other (b := w30.heap.size) (by omega) 0 (.int .u64 (hi (X : Int)))).other (b := w30.heap.size) (by omega) 1 (.int .u64 (lo (X : Int)))
  have b11N : Box2 V46 w41.heap.size (.int .u64 (hi (G : Int))) (.int .u64 (lo (G : Int))) 139 := by rw [hV]; exact ((b11).other (b := w30.heap.size) (by omega) 0 (.int .u64 (hi (X : Int)))).other (b := w30.heap.size) (by omega) 1 (.int .u64 (lo (X : Int)))
  replace xw : Ext w V46 := by rw [hV]; exact Ext.set (Ext.set (xw) (k := w30.heap.size) (o := 0) (u := .int .u64 (hi (X : Int))) (by omega)) (k := w30.heap.size) (o := 1) (u := .int .u64 (lo (X : Int))) (by omega)
  replace b2 := b2N; clear b2N
  replace b3 := b3N; clear b3N
  replace b4 := b4N; clear b4N
  replace b5 := b5N; clear b5N
  replace b7 := b7N; clear b7N
  replace b9 := b9N; clear b9N
  replace b11 := b11N; clear b11N
  clear hV
  have b9_c0 := b9.c0
  have b9_c1 := b9.c1
  have b11_c0 := b11.c0
  have b11_c1 := b11.c1
  go_wp2_with fail
  refine (HO2.out _).mono ?_
  rw [HY.out, HR2.out]
  rintro e w47 ⟨rfl, x47⟩
  clear b9_c0 b9_c1 b11_c0 b11_c1
  replace b2 := b2.ext x47
  replace b3 := b3.ext x47
  replace b4 := b4.ext x47
  replace b5 := b5.ext x47
  replace b7 := b7.ext x47
  replace b9 := b9.ext x47
  replace b11 := b11.ext x47
  replace xw := Ext.trans xw x47
  have b9_c0 := b9.c0
  have b9_c1 := b9.c1
  have b9_f0 := b9.f0
  have b9_f1 := b9.f1
  go_upto_region 8 with fail
  clear b9_c0 b9_c1 b9_f0 b9_f1
  refine wp_name ?_
  intro V48 hV
  have b2N : Box2 V48 w.heap.size (.int .i64 (hi n)) (.int .u64 (lo n)) 42 := by rw [hV]; exact ((b2).other (b := w37.heap.size) (by omega) 0 (.int .u64 (hi (Y : Int)))).other (b := w37.heap.size) (by omega) 1 (.int .u64 (lo (Y : Int)))
  have b3N : Box2 V48 (w.heap.size + 1) (.int .i64 (hi d)) (.int .u64 (lo d)) 42 := by rw [hV]; exact ((b3).other (b := w37.heap.size) (by omega) 0 (.int .u64 (hi (Y : Int)))).other (b := w37.heap.size) (by omega) 1 (.int .u64 (lo (Y : Int)))
  have b4N : Box2 V48 (w.heap.size + 1 + 1) (.int .i64 0) (.int .u64 0) 42 := by rw [hV]; exact ((b4).other (b := w37.heap.size) (by omega) 0 (.int .u64 (hi (Y : Int)))).other (b := w37.heap.size) (by omega) 1 (.int .u64 (lo (Y : Int)))
  have b5N : Box2 V48 (w.heap.size + 1 + 1 + 1) (.int .i64 0) (.int .u64 0) 42 := by rw [hV]; exact ((b5).other (b := w37.heap.size) (by omega) 0 (.int .u64 (hi (Y : Int)))).other (b := w37.heap.size) (by omega) 1 (.int .u64 (lo (Y : Int)))
  have b7N : Box2 V48 w30.heap.size (.int .u64 (hi (X : Int))) (.int .u64 (lo (X : Int))) 139 := by rw [hV]; exact ((b7).other (b := w37.heap.size) (by omega) 0 (.int .u64 (hi (Y : Int)))).other (b := w37.heap.size) (by omega) 1 (.int .u64 (lo (Y : Int)))
  have b9N : Box2 V48 w37.heap.size (.int .u64 (hi (Y : Int))) (.int .u64 (lo (Y : Int))) 139 := by rw [hV]; exact (b9).set (.int .u64 (hi (Y : Int))) (.int .u64 (lo (Y : Int)))
  have b11N : Box2 V48 w41.heap.size (.int .u64 (hi (G : Int))) (.int .u64 (lo (G : Int))) 139 := by rw [hV]; exact ((b11).other (b := w37.heap.size) (by omega) 0 (.int .u64 (hi (Y : Int)))).other (b := w37.heap.size) (by omega) 1 (.int .u64 (lo (Y : Int)))
  replace xw : Ext w V48 := by rw [hV]; exact Ext.set (Ext.set (xw) (k := w37.heap.size) (o := 0) (u := .int .u64 (hi (Y : Int))) (by omega)) (k := w37.heap.size) (o := 1) (u := .int .u64 (lo (Y : Int))) (by omega)
  replace b2 := b2N; clear b2N
  replace b3 := b3N; clear b3N
  replace b4 := b4N; clear b4N
  replace b5 := b5N; clear b5N
  replace b7 := b7N; clear b7N
  replace b9 := b9N; clear b9N
  replace b11 := b11N; clear b11N
  clear hV
  have b7_c0 := b7.c0
  have b7_c1 := b7.c1
  go_wp2_with fail
  refine (HSgd.out _ _ _ HUX.out).mono ?_
  rw [HP.out]
  rintro e w49 ⟨rfl, x49⟩
  rw [thi_yes hP, tlo_yes hP, ter_yes hP]
  clear b7_c0 b7_c1
  replace b2 := b2.ext x49
  replace b3 := b3.ext x49
  replace b4 := b4.ext x49
  replace b5 := b5.ext x49
  replace b7 := b7.ext x49
  replace b9 := b9.ext x49
  replace b11 := b11.ext x49
  replace xw := Ext.trans xw x49
  go_upto_region 9 with fail
  have o51 := b11.kind.lt
  have o52 := xw.size
  refine wp_name ?_
  intro V50 hV
  have b2N : Box2 V50 w.heap.size (.int .i64 (hi n)) (.int .u64 (lo n)) 42 := by rw [hV]; exact (b2).alloc _
  have b3N : Box2 V50 (w.heap.size + 1) (.int .i64 (hi d)) (.int .u64 (lo d)) 42 := by rw [hV]; exact (b3).alloc _
  have b4N : Box2 V50 (w.heap.size + 1 + 1) (.int .i64 0) (.int .u64 0) 42 := by rw [hV]; exact (b4).alloc _
  have b5N : Box2 V50 (w.heap.size + 1 + 1 + 1) (.int .i64 0) (.int .u64 0) 42 := by rw [hV]; exact (b5).alloc _
  have b7N : Box2 V50 w30.heap.size (.int .u64 (hi (X : Int))) (.int .u64 (lo (X : Int))) 139 := by rw [hV]; exact (b7).alloc _
  have b9N : Box2 V50 w37.heap.size (.int .u64 (hi (Y : Int))) (.int .u64 (lo (Y : Int))) 139 := by rw [hV]; exact (b9).alloc _
  have b11N : Box2 V50 w41.heap.size (.int .u64 (hi (G : Int))) (.int .u64 (lo (G : Int))) 139 := by rw [hV]; exact (b11).alloc _
  replace xw : Ext w V50 := by rw [hV]; exact Ext.alloc (xw)
  replace b2 := b2N; clear b2N
  replace b3 := b3N; clear b3N
  replace b4 := b4N; clear b4N
  replace b5 := b5N; clear b5N
  replace b7 := b7N; clear b7N
  replace b9 := b9N; clear b9N
  replace b11 := b11N; clear b11N
  have b12 : Box2 V50 w49.heap.size (.int .i64 (hi (frP n d))) (.int .u64 (lo (frP n d))) 42 := by rw [hV]; exact Box2.new rfl
  clear hV
  have b9_c0 := b9.c0
  have b9_c1 := b9.c1
  go_wp2_with fail
  refine (HSgd.out _ _ _ HUY.out).mono ?_
  rw [HQ.out]
  rintro e w53 ⟨rfl, x53⟩
  rw [thi_yes hQ, tlo_yes hQ, ter_yes hQ]
  clear b9_c0 b9_c1
  replace b2 := b2.ext x53
  replace b3 := b3.ext x53
  replace b4 := b4.ext x53
  replace b5 := b5.ext x53
  replace b7 := b7.ext x53
  replace b9 := b9.ext x53
  replace b11 := b11.ext x53
  replace b12 := b12.ext x53
  replace xw := Ext.trans xw x53
  go_upto_region 10 with fail
  have o55 := b12.kind.lt
  have o56 := xw.size
  refine wp_name ?_
  intro V54 hV
  have b2N : Box2 V54 w.heap.size (.int .i64 (hi n)) (.int .u64 (lo n)) 42 := by rw [hV]; exact (b2).alloc _
  have b3N : Box2 V54 (w.heap.size + 1) (.int .i64 (hi d)) (.int .u64 (lo d)) 42 := by rw [hV]; exact (b3).alloc _
  have b4N : Box2 V54 (w.heap.size + 1 + 1) (.int .i64 0) (.int .u64 0) 42 := by rw [hV]; exact (b4).alloc _
  have b5N : Box2 V54 (w.heap.size + 1 + 1 + 1) (.int .i64 0) (.int .u64 0) 42 := by rw [hV]; exact (b5).alloc _
  have b7N : Box2 V54 w30.heap.size (.int .u64 (hi (X : Int))) (.int .u64 (lo (X : Int))) 139 := by rw [hV]; exact (b7).alloc _
  have b9N : Box2 V54 w37.heap.size (.int .u64 (hi (Y : Int))) (.int .u64 (lo (Y : Int))) 139 := by rw [hV]; exact (b9).alloc _
  have b11N : Box2 V54 w41.heap.size (.int .u64 (hi (G : Int))) (.int .u64 (lo (G : Int))) 139 := by rw [hV]; exact (b11).alloc _
  have b12N : Box2 V54 w49.heap.size (.int .i64 (hi (frP n d))) (.int .u64 (lo (frP n d))) 42 := by rw [hV]; exact (b12).alloc _
  replace xw : Ext w V54 := by rw [hV]; exact Ext.alloc (xw)
  replace b2 := b2N; clear b2N
  replace b3 := b3N; clear b3N
  replace b4 := b4N; clear b4N
  replace b5 := b5N; clear b5N
  replace b7 := b7N; clear b7N
  replace b9 := b9N; clear b9N
  replace b11 := b11N; clear b11N
  replace b12 := b12N; clear b12N
  have b14 : Box2 V54 w53.heap.size (.int .i64 (hi (frQ n d))) (.int .u64 (lo (frQ n d))) 42 := by rw [hV]; exact Box2.new rfl
  clear hV
  go_upto_region 12 with fail
  have b12_c0 := b12.c0
  have b12_c1 := b12.c1
  have b14_c0 := b14.c0
  have b14_c1 := b14.c1
  have b4_c0 := b4.c0
  have b4_c1 := b4.c1
  have b4_f0 := b4.f0
  have b4_f1 := b4.f1
  have b5_c0 := b5.c0
  have b5_c1 := b5.c1
  have b5_f0 := b5.f0
  have b5_f1 := b5.f1
  have ne4_5 : ¬ w.heap.size + 1 + 1 = w.heap.size + 1 + 1 + 1 := by omega
  have ne5_4 : ¬ w.heap.size + 1 + 1 + 1 = w.heap.size + 1 + 1 := by omega
  have ne4_12 : ¬ w.heap.size + 1 + 1 = w49.heap.size := by omega
  have ne12_4 : ¬ w49.heap.size = w.heap.size + 1 + 1 := by omega
  have ne4_14 : ¬ w.heap.size + 1 + 1 = w53.heap.size := by omega
  have ne14_4 : ¬ w53.heap.size = w.heap.size + 1 + 1 := by omega
  have ne5_12 : ¬ w.heap.size + 1 + 1 + 1 = w49.heap.size := by omega
  have ne12_5 : ¬ w49.heap.size = w.heap.size + 1 + 1 + 1 := by omega
  have ne5_14 : ¬ w.heap.size + 1 + 1 + 1 = w53.heap.size := by omega
  have ne14_5 : ¬ w53.heap.size = w.heap.size + 1 + 1 + 1 := by omega
  go_region
  clear ne4_5 ne5_4 ne4_12 ne12_4 ne4_14 ne14_4 ne5_12 ne12_5 ne5_14 ne14_5
  have xr := Ext.drew (Ext.set (Ext.set (Ext.set (Ext.set (xw) (k := w.heap.size + 1 + 1) (o := 0) (u := .int .i64 (hi (frP n d))) (by omega)) (k := w.heap.size + 1 + 1) (o := 1) (u := .int .u64 (lo (frP n d))) (by omega)) (k := w.heap.size + 1 + 1 + 1) (o := 0) (u := .int .i64 (hi (frQ n d))) (by omega)) (k := w.heap.size + 1 + 1 + 1) (o := 1) (u := .int .u64 (lo (frQ n d))) (by omega))
  go_wp2_with fail
  refine bodyPost_ret (v := .tuple #[.agg #[.int .i64 (hi (frP n d)), .int .u64 (lo (frP n d))], .agg #[.int .i64 (hi (frQ n d)), .int .u64 (lo (frQ n d))], .int .i64 0]) (by simp [results, Tryz.results41, go_sem, b4_c0, b4_c1, b5_c0, b5_c1]) rfl (retFr_yes ⟨H0.out, hP, hQ⟩ xr)
end Go.Proofs.YthoedmikfpbfnaaGreat
end
section
set_option maxRecDepth 100000
namespace Go.Proofs.YthoedmikfpbfnaaGreat
open Go Go.RowKit Go.Ev

section
variable (a b c d h mi s n : Int)
theorem uright (i : all64 a b c d h mi s n) : Fn 25 [] [duv a b c d h mi s n] (.bool (decide (uOk a b c d h mi s n))) := by
 by_cases ka : a = 0
 rotate_left
 ·by_cases z : 0 < a
  ·exact uright_p a b c d h mi s n i (sg8_1 (.inl z)) (.inl z)
  ·exact uright_n a b c d h mi s n i (sg8_m (.inl (by omega))) (.inl (by omega))
 by_cases kb : b = 0
 rotate_left
 ·by_cases z : 0 < b
  ·exact uright_p a b c d h mi s n i (sg8_1 (.inr ⟨ka, (.inl z)⟩)) (.inr ⟨ka, (.inl z)⟩)
  ·exact uright_n a b c d h mi s n i (sg8_m (.inr ⟨ka, (.inl (by omega))⟩)) (.inr ⟨ka, (.inl (by omega))⟩)
 by_cases kc : c = 0
 rotate_left
 ·by_cases z : 0 < c
  ·exact uright_p a b c d h mi s n i (sg8_1 (.inr ⟨ka, (.inr ⟨kb, (.inl z)⟩)⟩)) (.inr ⟨ka, (.inr ⟨kb, (.inl z)⟩)⟩)
  ·exact uright_n a b c d h mi s n i (sg8_m (.inr ⟨ka, (.inr ⟨kb, (.inl (by omega))⟩)⟩)) (.inr ⟨ka, (.inr ⟨kb, (.inl (by omega))⟩)⟩)
 by_cases kd : d = 0
 rotate_left
 ·by_cases z : 0 < d
  ·exact uright_p a b c d h mi s n i (sg8_1 (.inr ⟨ka, (.inr ⟨kb, (.inr ⟨kc, (.inl z)⟩)⟩)⟩)) (.inr ⟨ka, (.inr ⟨kb, (.inr ⟨kc, (.inl z)⟩)⟩)⟩)
  ·exact uright_n a b c d h mi s n i (sg8_m (.inr ⟨ka, (.inr ⟨kb, (.inr ⟨kc, (.inl (by omega))⟩)⟩)⟩)) (.inr ⟨ka, (.inr ⟨kb, (.inr ⟨kc, (.inl (by omega))⟩)⟩)⟩)
 by_cases kh : h = 0
 rotate_left
 ·by_cases z : 0 < h
  ·exact uright_p a b c d h mi s n i (sg8_1 (.inr ⟨ka, (.inr ⟨kb, (.inr ⟨kc, (.inr ⟨kd, (.inl z)⟩)⟩)⟩)⟩)) (.inr ⟨ka, (.inr ⟨kb, (.inr ⟨kc, (.inr ⟨kd, (.inl z)⟩)⟩)⟩)⟩)
  ·exact uright_n a b c d h mi s n i (sg8_m (.inr ⟨ka, (.inr ⟨kb, (.inr ⟨kc, (.inr ⟨kd, (.inl (by omega))⟩)⟩)⟩)⟩)) (.inr ⟨ka, (.inr ⟨kb, (.inr ⟨kc, (.inr ⟨kd, (.inl (by omega))⟩)⟩)⟩)⟩)
 by_cases kmi : mi = 0
 rotate_left
 ·by_cases z : 0 < mi
  ·exact uright_p a b c d h mi s n i (sg8_1 (.inr ⟨ka, (.inr ⟨kb, (.inr ⟨kc, (.inr ⟨kd, (.inr ⟨kh, (.inl z)⟩)⟩)⟩)⟩)⟩)) (.inr ⟨ka, (.inr ⟨kb, (.inr ⟨kc, (.inr ⟨kd, (.inr ⟨kh, (.inl z)⟩)⟩)⟩)⟩)⟩)
  ·exact uright_n a b c d h mi s n i (sg8_m (.inr ⟨ka, (.inr ⟨kb, (.inr ⟨kc, (.inr ⟨kd, (.inr ⟨kh, (.inl (by omega))⟩)⟩)⟩)⟩)⟩)) (.inr ⟨ka, (.inr ⟨kb, (.inr ⟨kc, (.inr ⟨kd, (.inr ⟨kh, (.inl (by omega))⟩)⟩)⟩)⟩)⟩)
 by_cases ks : s = 0
 rotate_left
 ·by_cases z : 0 < s
  ·exact uright_p a b c d h mi s n i (sg8_1 (.inr ⟨ka, (.inr ⟨kb, (.inr ⟨kc, (.inr ⟨kd, (.inr ⟨kh, (.inr ⟨kmi, (.inl z)⟩)⟩)⟩)⟩)⟩)⟩)) (.inr ⟨ka, (.inr ⟨kb, (.inr ⟨kc, (.inr ⟨kd, (.inr ⟨kh, (.inr ⟨kmi, (.inl z)⟩)⟩)⟩)⟩)⟩)⟩)
  ·exact uright_n a b c d h mi s n i (sg8_m (.inr ⟨ka, (.inr ⟨kb, (.inr ⟨kc, (.inr ⟨kd, (.inr ⟨kh, (.inr ⟨kmi, (.inl (by omega))⟩)⟩)⟩)⟩)⟩)⟩)) (.inr ⟨ka, (.inr ⟨kb, (.inr ⟨kc, (.inr ⟨kd, (.inr ⟨kh, (.inr ⟨kmi, (.inl (by omega))⟩)⟩)⟩)⟩)⟩)⟩)
 by_cases kn : n = 0
 rotate_left
 ·by_cases z : 0 < n
  ·exact uright_p a b c d h mi s n i (sg8_1 (.inr ⟨ka, (.inr ⟨kb, (.inr ⟨kc, (.inr ⟨kd, (.inr ⟨kh, (.inr ⟨kmi, (.inr ⟨ks, z⟩)⟩)⟩)⟩)⟩)⟩)⟩)) (.inr ⟨ka, (.inr ⟨kb, (.inr ⟨kc, (.inr ⟨kd, (.inr ⟨kh, (.inr ⟨kmi, (.inr ⟨ks, z⟩)⟩)⟩)⟩)⟩)⟩)⟩)
  ·exact uright_n a b c d h mi s n i (sg8_m (.inr ⟨ka, (.inr ⟨kb, (.inr ⟨kc, (.inr ⟨kd, (.inr ⟨kh, (.inr ⟨kmi, (.inr ⟨ks, (by omega)⟩)⟩)⟩)⟩)⟩)⟩)⟩)) (.inr ⟨ka, (.inr ⟨kb, (.inr ⟨kc, (.inr ⟨kd, (.inr ⟨kh, (.inr ⟨kmi, (.inr ⟨ks, (by omega)⟩)⟩)⟩)⟩)⟩)⟩)⟩)
 exact uright_z a b c d h mi s n i (sg8_0 ⟨ka, kb, kc, kd, kh, kmi, ks, kn⟩) ⟨ka, kb, kc, kd, kh, kmi, ks, kn⟩
theorem zuright (i : all64 a b c d h mi s n) : Fn 89 [] [duv a b c d h mi s n] (.bool (decide (uOk a b c d h mi s n))) := by
 by_cases hp : pos8 a b c d h mi s n
 ·exact zuright_p a b c d h mi s n i hp
 ·by_cases hn : neg8 a b c d h mi s n
  ·exact zuright_n a b c d h mi s n i hn
  ·exact zuright_m a b c d h mi s n i hp hn
theorem uright_y (i : all64 a b c d h mi s n) (k : uOk a b c d h mi s n) : Fn 25 [] [duv a b c d h mi s n] (.bool true) := by have := uright a b c d h mi s n i; rwa [decide_eq_true k] at this
theorem uright_f (i : all64 a b c d h mi s n) (k : ¬ uOk a b c d h mi s n) : Fn 25 [] [duv a b c d h mi s n] (.bool false) := by have := uright a b c d h mi s n i; rwa [decide_eq_false k] at this
theorem zuright_y (i : all64 a b c d h mi s n) (k : uOk a b c d h mi s n) : Fn 89 [] [duv a b c d h mi s n] (.bool true) := by have := zuright a b c d h mi s n i; rwa [decide_eq_true k] at this
theorem utotal_y (i : all64 a b c d h mi s n) (k : uOk a b c d h mi s n) : Fn 123 [] [duv a b c d h mi s n] (.tuple #[wv (dtot d h mi s n), .int .i64 0]) := by
 have r := uright_y a b c d h mi s n i k
 obtain ⟨i1, i2, i3, i4, i5, i6, i7, i8⟩ := i
 have t := utot a b c d h mi s n i4 i5 i6 i7 i8
 refine fn_of Tryz.func123 rfl fun ww => ?_
 refine qF ent25 (r) ?_
 refine qF ent66 (t) ?_
 exact qR Tryz.func123
end
/-! laid out -/
theorem tch (x A B : Int) (hx : W128 x) (hA : 0 < A) (hB : 0 < B) (hd : B ∣ A) (hAW : A ≤ 86400000000000) (hBW : B ≤ 86400000000000) : Fn 139 [] [wv (x.tmod A), wv B] (.tuple #[wv ((x.tmod A).tdiv B), wv (x.tmod B), .int .i64 0]) := by
 obtain ⟨e1, e2, e3⟩ := td x A hA
 have m1 : -A < x.tmod A ∧ x.tmod A < A := by
  by_cases h : 0 ≤ x
  ·have := e2 h; omega
  ·have := e3 (by omega); omega
 obtain ⟨f1, f2, f3⟩ := td (x.tmod A) B hB
 have q1 : W128 ((x.tmod A).tdiv B) := by
  have key : ∀ q : Int, 0 ≤ q → q ≤ q * B := fun q h => by
   have := Int.mul_le_mul_of_nonneg_left (show 1 ≤ B by omega) h; omega
  by_cases h : 0 ≤ x.tmod A
  ·have g := f2 h
   have := key _ g.1
   unfold W128; omega
  ·have g := f3 (by omega)
   have := key (-((x.tmod A).tdiv B)) (by omega)
   rw [Int.neg_mul] at this
   unfold W128; omega
 have t := dtrunc_yes (x.tmod A) B (by unfold W128; omega) (by unfold W128; omega) (by omega) q1
 rwa [Int.tmod_tmod_of_dvd x hd] at t
theorem ttop (x B : Int) (hx : W128 x) (hB : 0 < B) (hBW : B ≤ 86400000000000) : Fn 139 [] [wv x, wv B] (.tuple #[wv (x.tdiv B), wv (x.tmod B), .int .i64 0]) ∧ W128 (x.tmod B) := by
 obtain ⟨e1, e2, e3⟩ := td x B hB
 have key : ∀ q : Int, 0 ≤ q → q ≤ q * B := fun q h => by
  have := Int.mul_le_mul_of_nonneg_left (show 1 ≤ B by omega) h; omega
 unfold W128 at hx
 by_cases h : 0 ≤ x
 ·have g := e2 h
  have := key _ g.1
  exact ⟨dtrunc_yes x B (by unfold W128; omega) (by unfold W128; omega) (by omega) (by unfold W128; omega), by unfold W128; omega⟩
 ·have g := e3 (by omega)
  have := key (-(x.tdiv B)) (by omega)
  rw [Int.neg_mul] at this
  exact ⟨dtrunc_yes x B (by unfold W128; omega) (by unfold W128; omega) (by omega) (by unfold W128; omega), by unfold W128; omega⟩
theorem tdiv_1 (x : Int) : x.tdiv 1 = x := Int.tdiv_one x
theorem tmod_1 (x : Int) : x.tmod 1 = 0 := Int.tmod_one x
theorem ulay4_y (x : Int) (hx : W128 x) (g : I64 (x.tdiv 86400000000000)) (k : uOk 0 0 0 (x.tdiv 86400000000000) ((x.tmod 86400000000000).tdiv 3600000000000) ((x.tmod 3600000000000).tdiv 60000000000) ((x.tmod 60000000000).tdiv 1000000000) (x.tmod 1000000000)) : Fn 97 [] [wv x, .int .i64 4] (.tuple #[duv 0 0 0 (x.tdiv 86400000000000) ((x.tmod 86400000000000).tdiv 3600000000000) ((x.tmod 3600000000000).tdiv 60000000000) ((x.tmod 60000000000).tdiv 1000000000) (x.tmod 1000000000), .int .i64 0]) := by
 obtain ⟨t0, m0⟩ := ttop x 86400000000000 hx (by omega) (by omega)
 have t1 := tch x 86400000000000 3600000000000 hx (by omega) (by omega) (by decide) (by omega) (by omega)
 have t2 := tch x 3600000000000 60000000000 hx (by omega) (by omega) (by decide) (by omega) (by omega)
 have t3 := tch x 60000000000 1000000000 hx (by omega) (by omega) (by decide) (by omega) (by omega)
 have t4 := tch x 1000000000 1 hx (by omega) (by omega) (by decide) (by omega) (by omega)
 rw [tdiv_1, tmod_1] at t4
 have g5 : I64 ((x.tmod 86400000000000).tdiv 3600000000000) := by have := td2 x 86400000000000 3600000000000 24 (by decide) (by omega) (by omega); unfold I64; omega
 have g6 : I64 ((x.tmod 3600000000000).tdiv 60000000000) := by have := td2 x 3600000000000 60000000000 60 (by decide) (by omega) (by omega); unfold I64; omega
 have g7 : I64 ((x.tmod 60000000000).tdiv 1000000000) := by have := td2 x 60000000000 1000000000 60 (by decide) (by omega) (by omega); unfold I64; omega
 have g8 : I64 (x.tmod 1000000000) := by
  obtain ⟨e1, e2, e3⟩ := td x 1000000000 (by omega)
  by_cases z : 0 ≤ x
  ·have := e2 z; unfold I64; omega
  ·have := e3 (by omega); unfold I64; omega
 have j1 : I64 86400000000000 := by unfold I64; omega
 have j2 : I64 3600000000000 := by unfold I64; omega
 have j3 : I64 60000000000 := by unfold I64; omega
 have j4 : I64 1000000000 := by unfold I64; omega
 have j5 : I64 1 := by unfold I64; omega
 have j0 : I64 0 := by unfold I64; omega
 have r := uright_y 0 0 0 (x.tdiv 86400000000000) ((x.tmod 86400000000000).tdiv 3600000000000) ((x.tmod 3600000000000).tdiv 60000000000) ((x.tmod 60000000000).tdiv 1000000000) (x.tmod 1000000000) ⟨j0, j0, j0, g, g5, g6, g7, g8⟩ k
 refine fn_of Tryz.func97 rfl fun ww => ?_
 refine qF ent63 (ulen4) ?_
 refine ufields_row 2 0 (by kernel_rfl) ?_
 refine st_round (by kernel_rfl) ?_
 refine qF ent63 (ulen4) ?_
 refine qF ent30 (wof_fn (86400000000000) (by assumption)) ?_
 refine qF ent139 (t0) ?_
 refine qF ent50 (wint_f (x.tdiv 86400000000000) (by assumption)) ?_
 refine qI 21 (4 + 1) ?_
 refine st_round (by kernel_rfl) ?_
 refine qF ent63 (ulen5) ?_
 refine qF ent30 (wof_fn (3600000000000) (by assumption)) ?_
 refine qF ent139 (t1) ?_
 refine qF ent50 (wint_f ((x.tmod 86400000000000).tdiv 3600000000000) (by assumption)) ?_
 refine qI 21 (4 + 1 + 1) ?_
 refine st_round (by kernel_rfl) ?_
 refine qF ent63 (ulen6) ?_
 refine qF ent30 (wof_fn (60000000000) (by assumption)) ?_
 refine qF ent139 (t2) ?_
 refine qF ent50 (wint_f ((x.tmod 3600000000000).tdiv 60000000000) (by assumption)) ?_
 refine qI 21 (4 + 1 + 1 + 1) ?_
 refine st_round (by kernel_rfl) ?_
 refine qF ent63 (ulen7) ?_
 refine qF ent30 (wof_fn (1000000000) (by assumption)) ?_
 refine qF ent139 (t3) ?_
 refine qF ent50 (wint_f ((x.tmod 60000000000).tdiv 1000000000) (by assumption)) ?_
 refine qI 21 (4 + 1 + 1 + 1 + 1) ?_
 refine st_round (by kernel_rfl) ?_
 refine qF ent63 (ulen8) ?_
 refine qF ent30 (wof_fn (1) (by assumption)) ?_
 refine qF ent139 (t4) ?_
 refine qF ent50 (wint_f (x.tmod 1000000000) (by assumption)) ?_
 refine qI 21 (4 + 1 + 1 + 1 + 1 + 1) ?_
 refine st_round (by kernel_rfl) ?_
 refine qF ent25 (r) ?_
 exact qR Tryz.func97
theorem ulay5_y (x : Int) (hx : W128 x) (g : I64 (x.tdiv 3600000000000)) (k : uOk 0 0 0 0 (x.tdiv 3600000000000) ((x.tmod 3600000000000).tdiv 60000000000) ((x.tmod 60000000000).tdiv 1000000000) (x.tmod 1000000000)) : Fn 97 [] [wv x, .int .i64 5] (.tuple #[duv 0 0 0 0 (x.tdiv 3600000000000) ((x.tmod 3600000000000).tdiv 60000000000) ((x.tmod 60000000000).tdiv 1000000000) (x.tmod 1000000000), .int .i64 0]) := by
 obtain ⟨t0, m0⟩ := ttop x 3600000000000 hx (by omega) (by omega)
 have t1 := tch x 3600000000000 60000000000 hx (by omega) (by omega) (by decide) (by omega) (by omega)
 have t2 := tch x 60000000000 1000000000 hx (by omega) (by omega) (by decide) (by omega) (by omega)
 have t3 := tch x 1000000000 1 hx (by omega) (by omega) (by decide) (by omega) (by omega)
 rw [tdiv_1, tmod_1] at t3
 have g6 : I64 ((x.tmod 3600000000000).tdiv 60000000000) := by have := td2 x 3600000000000 60000000000 60 (by decide) (by omega) (by omega); unfold I64; omega
 have g7 : I64 ((x.tmod 60000000000).tdiv 1000000000) := by have := td2 x 60000000000 1000000000 60 (by decide) (by omega) (by omega); unfold I64; omega
 have g8 : I64 (x.tmod 1000000000) := by
  obtain ⟨e1, e2, e3⟩ := td x 1000000000 (by omega)
  by_cases z : 0 ≤ x
  ·have := e2 z; unfold I64; omega
  ·have := e3 (by omega); unfold I64; omega
 have j1 : I64 86400000000000 := by unfold I64; omega
 have j2 : I64 3600000000000 := by unfold I64; omega
 have j3 : I64 60000000000 := by unfold I64; omega
 have j4 : I64 1000000000 := by unfold I64; omega
 have j5 : I64 1 := by unfold I64; omega
 have j0 : I64 0 := by unfold I64; omega
 have r := uright_y 0 0 0 0 (x.tdiv 3600000000000) ((x.tmod 3600000000000).tdiv 60000000000) ((x.tmod 60000000000).tdiv 1000000000) (x.tmod 1000000000) ⟨j0, j0, j0, j0, g, g6, g7, g8⟩ k
 refine fn_of Tryz.func97 rfl fun ww => ?_
 refine qF ent63 (ulen5) ?_
 refine ufields_row 2 0 (by kernel_rfl) ?_
 refine st_round (by kernel_rfl) ?_
 refine qF ent63 (ulen5) ?_
 refine qF ent30 (wof_fn (3600000000000) (by assumption)) ?_
 refine qF ent139 (t0) ?_
 refine qF ent50 (wint_f (x.tdiv 3600000000000) (by assumption)) ?_
 refine qI 21 (5 + 1) ?_
 refine st_round (by kernel_rfl) ?_
 refine qF ent63 (ulen6) ?_
 refine qF ent30 (wof_fn (60000000000) (by assumption)) ?_
 refine qF ent139 (t1) ?_
 refine qF ent50 (wint_f ((x.tmod 3600000000000).tdiv 60000000000) (by assumption)) ?_
 refine qI 21 (5 + 1 + 1) ?_
 refine st_round (by kernel_rfl) ?_
 refine qF ent63 (ulen7) ?_
 refine qF ent30 (wof_fn (1000000000) (by assumption)) ?_
 refine qF ent139 (t2) ?_
 refine qF ent50 (wint_f ((x.tmod 60000000000).tdiv 1000000000) (by assumption)) ?_
 refine qI 21 (5 + 1 + 1 + 1) ?_
 refine st_round (by kernel_rfl) ?_
 refine qF ent63 (ulen8) ?_
 refine qF ent30 (wof_fn (1) (by assumption)) ?_
 refine qF ent139 (t3) ?_
 refine qF ent50 (wint_f (x.tmod 1000000000) (by assumption)) ?_
 refine qI 21 (5 + 1 + 1 + 1 + 1) ?_
 refine st_round (by kernel_rfl) ?_
 refine qF ent25 (r) ?_
 exact qR Tryz.func97
theorem ulay6_y (x : Int) (hx : W128 x) (g : I64 (x.tdiv 60000000000)) (k : uOk 0 0 0 0 0 (x.tdiv 60000000000) ((x.tmod 60000000000).tdiv 1000000000) (x.tmod 1000000000)) : Fn 97 [] [wv x, .int .i64 6] (.tuple #[duv 0 0 0 0 0 (x.tdiv 60000000000) ((x.tmod 60000000000).tdiv 1000000000) (x.tmod 1000000000), .int .i64 0]) := by
 obtain ⟨t0, m0⟩ := ttop x 60000000000 hx (by omega) (by omega)
 have t1 := tch x 60000000000 1000000000 hx (by omega) (by omega) (by decide) (by omega) (by omega)
 have t2 := tch x 1000000000 1 hx (by omega) (by omega) (by decide) (by omega) (by omega)
 rw [tdiv_1, tmod_1] at t2
 have g7 : I64 ((x.tmod 60000000000).tdiv 1000000000) := by have := td2 x 60000000000 1000000000 60 (by decide) (by omega) (by omega); unfold I64; omega
 have g8 : I64 (x.tmod 1000000000) := by
  obtain ⟨e1, e2, e3⟩ := td x 1000000000 (by omega)
  by_cases z : 0 ≤ x
  ·have := e2 z; unfold I64; omega
  ·have := e3 (by omega); unfold I64; omega
 have j1 : I64 86400000000000 := by unfold I64; omega
 have j2 : I64 3600000000000 := by unfold I64; omega
 have j3 : I64 60000000000 := by unfold I64; omega
 have j4 : I64 1000000000 := by unfold I64; omega
 have j5 : I64 1 := by unfold I64; omega
 have j0 : I64 0 := by unfold I64; omega
 have r := uright_y 0 0 0 0 0 (x.tdiv 60000000000) ((x.tmod 60000000000).tdiv 1000000000) (x.tmod 1000000000) ⟨j0, j0, j0, j0, j0, g, g7, g8⟩ k
 refine fn_of Tryz.func97 rfl fun ww => ?_
 refine qF ent63 (ulen6) ?_
 refine ufields_row 2 0 (by kernel_rfl) ?_
 refine st_round (by kernel_rfl) ?_
 refine qF ent63 (ulen6) ?_
 refine qF ent30 (wof_fn (60000000000) (by assumption)) ?_
 refine qF ent139 (t0) ?_
 refine qF ent50 (wint_f (x.tdiv 60000000000) (by assumption)) ?_
 refine qI 21 (6 + 1) ?_
 refine st_round (by kernel_rfl) ?_
 refine qF ent63 (ulen7) ?_
 refine qF ent30 (wof_fn (1000000000) (by assumption)) ?_
 refine qF ent139 (t1) ?_
 refine qF ent50 (wint_f ((x.tmod 60000000000).tdiv 1000000000) (by assumption)) ?_
 refine qI 21 (6 + 1 + 1) ?_
 refine st_round (by kernel_rfl) ?_
 refine qF ent63 (ulen8) ?_
 refine qF ent30 (wof_fn (1) (by assumption)) ?_
 refine qF ent139 (t2) ?_
 refine qF ent50 (wint_f (x.tmod 1000000000) (by assumption)) ?_
 refine qI 21 (6 + 1 + 1 + 1) ?_
 refine st_round (by kernel_rfl) ?_
 refine qF ent25 (r) ?_
 exact qR Tryz.func97
theorem ulay7_y (x : Int) (hx : W128 x) (g : I64 (x.tdiv 1000000000)) (k : uOk 0 0 0 0 0 0 (x.tdiv 1000000000) (x.tmod 1000000000)) : Fn 97 [] [wv x, .int .i64 7] (.tuple #[duv 0 0 0 0 0 0 (x.tdiv 1000000000) (x.tmod 1000000000), .int .i64 0]) := by
 obtain ⟨t0, m0⟩ := ttop x 1000000000 hx (by omega) (by omega)
 have t1 := tch x 1000000000 1 hx (by omega) (by omega) (by decide) (by omega) (by omega)
 rw [tdiv_1, tmod_1] at t1
 have g8 : I64 (x.tmod 1000000000) := by
  obtain ⟨e1, e2, e3⟩ := td x 1000000000 (by omega)
  by_cases z : 0 ≤ x
  ·have := e2 z; unfold I64; omega
  ·have := e3 (by omega); unfold I64; omega
 have j1 : I64 86400000000000 := by unfold I64; omega
 have j2 : I64 3600000000000 := by unfold I64; omega
 have j3 : I64 60000000000 := by unfold I64; omega
 have j4 : I64 1000000000 := by unfold I64; omega
 have j5 : I64 1 := by unfold I64; omega
 have j0 : I64 0 := by unfold I64; omega
 have r := uright_y 0 0 0 0 0 0 (x.tdiv 1000000000) (x.tmod 1000000000) ⟨j0, j0, j0, j0, j0, j0, g, g8⟩ k
 refine fn_of Tryz.func97 rfl fun ww => ?_
 refine qF ent63 (ulen7) ?_
 refine ufields_row 2 0 (by kernel_rfl) ?_
 refine st_round (by kernel_rfl) ?_
 refine qF ent63 (ulen7) ?_
 refine qF ent30 (wof_fn (1000000000) (by assumption)) ?_
 refine qF ent139 (t0) ?_
 refine qF ent50 (wint_f (x.tdiv 1000000000) (by assumption)) ?_
 refine qI 21 (7 + 1) ?_
 refine st_round (by kernel_rfl) ?_
 refine qF ent63 (ulen8) ?_
 refine qF ent30 (wof_fn (1) (by assumption)) ?_
 refine qF ent139 (t1) ?_
 refine qF ent50 (wint_f (x.tmod 1000000000) (by assumption)) ?_
 refine qI 21 (7 + 1 + 1) ?_
 refine st_round (by kernel_rfl) ?_
 refine qF ent25 (r) ?_
 exact qR Tryz.func97
theorem ulay8_y (x : Int) (hx : W128 x) (g : I64 x) (k : uOk 0 0 0 0 0 0 0 x) : Fn 97 [] [wv x, .int .i64 8] (.tuple #[duv 0 0 0 0 0 0 0 x, .int .i64 0]) := by
 obtain ⟨t0, m0⟩ := ttop x 1 hx (by omega) (by omega)
 rw [tdiv_1, tmod_1] at t0
 have j1 : I64 86400000000000 := by unfold I64; omega
 have j2 : I64 3600000000000 := by unfold I64; omega
 have j3 : I64 60000000000 := by unfold I64; omega
 have j4 : I64 1000000000 := by unfold I64; omega
 have j5 : I64 1 := by unfold I64; omega
 have j0 : I64 0 := by unfold I64; omega
 have r := uright_y 0 0 0 0 0 0 0 x ⟨j0, j0, j0, j0, j0, j0, j0, g⟩ k
 refine fn_of Tryz.func97 rfl fun ww => ?_
 refine qF ent63 (ulen8) ?_
 refine ufields_row 2 0 (by kernel_rfl) ?_
 refine st_round (by kernel_rfl) ?_
 refine qF ent63 (ulen8) ?_
 refine qF ent30 (wof_fn (1) (by assumption)) ?_
 refine qF ent139 (t0) ?_
 refine qF ent50 (wint_f (x) (by assumption)) ?_
 refine qI 21 (8 + 1) ?_
 refine st_round (by kernel_rfl) ?_
 refine qF ent25 (r) ?_
 exact qR Tryz.func97
theorem ulay8_o (x : Int) (hx : W128 x) (g : ¬ I64 x) : Fn 97 [] [wv x, .int .i64 8] (.tuple #[du0, .int .i64 4]) := by
 obtain ⟨t0, m0⟩ := ttop x 1 hx (by omega) (by omega)
 rw [tdiv_1, tmod_1] at t0
 have j1 : I64 86400000000000 := by unfold I64; omega
 have j2 : I64 3600000000000 := by unfold I64; omega
 have j3 : I64 60000000000 := by unfold I64; omega
 have j4 : I64 1000000000 := by unfold I64; omega
 have j5 : I64 1 := by unfold I64; omega
 have j0 : I64 0 := by unfold I64; omega
 refine fn_of Tryz.func97 rfl fun ww => ?_
 refine qF ent63 (ulen8) ?_
 refine ufields_row 2 0 (by kernel_rfl) ?_
 refine st_round (by kernel_rfl) ?_
 refine qF ent63 (ulen8) ?_
 refine qF ent30 (wof_fn (1) (by assumption)) ?_
 refine qF ent139 (t0) ?_
 refine qF ent50 (wint_n (x) (by assumption)) ?_
 exact qR Tryz.func97
end Go.Proofs.YthoedmikfpbfnaaGreat
end
section
set_option maxRecDepth 100000
namespace Go.Proofs.YthoedmikfpbfnaaGreat
open Go Go.RowKit Go.Ev

theorem nearQ_near {w d mode : Int} (h0 : 0 < d) (h1 : 1 ≤ mode) (h2 : mode ≤ 9) : (d * nearQ w d mode - w).natAbs < d.natAbs ∧ (5 ≤ mode → (d * nearQ w d mode - w).natAbs + (d * nearQ w d mode - w).natAbs ≤ d.natAbs) := by
 have ew := Int.mul_fdiv_add_fmod w d
 have w1 := Int.fmod_eq_emod_of_nonneg w (show 0 ≤ d by omega)
 have w2 := Int.emod_nonneg w (show d ≠ 0 by omega)
 have w3 := Int.emod_lt_of_pos w h0
 by_cases hz : w.fmod d = 0
 ·have e : d * nearQ w d mode = w := by unfold nearQ; rw [if_pos hz]; omega
  rw [e]
  omega
 ·by_cases hu : upQ w d mode = true
  ·have e : d * nearQ w d mode = w + (d - w.fmod d) := by unfold nearQ; rw [if_neg hz, if_pos hu, Int.mul_add]; omega
   rw [e]
   refine ⟨by omega, fun h5 => ?_⟩
   have hx : 0 ≤ cmpI (w.fmod d) (d - w.fmod d) := by
    have hm : mode = 5 ∨ mode = 6 ∨ mode = 7 ∨ mode = 8 ∨ mode = 9 := by omega
    unfold upQ at hu
    generalize cmpI (w.fmod d) (d - w.fmod d) = x at *
    apply Classical.byContradiction
    intro hneg
    have a1 : ¬ 0 < x := by omega
    have a2 : ¬ x = 0 := by omega
    rcases hm with rfl | rfl | rfl | rfl | rfl <;> simp [upB, halfB, a1, a2] at hu
   have : ¬ w.fmod d < d - w.fmod d := fun h => by rw [cmpI_lt h] at hx; omega
   omega
  ·have e : d * nearQ w d mode = w - w.fmod d := by unfold nearQ; rw [if_neg hz, if_neg hu]; omega
   rw [e]
   refine ⟨by omega, fun h5 => ?_⟩
   have hx : cmpI (w.fmod d) (d - w.fmod d) ≤ 0 := by
    have hm : mode = 5 ∨ mode = 6 ∨ mode = 7 ∨ mode = 8 ∨ mode = 9 := by omega
    unfold upQ at hu
    generalize cmpI (w.fmod d) (d - w.fmod d) = x at *
    apply Classical.byContradiction
    intro hneg
    have a1 : 0 < x := by omega
    rcases hm with rfl | rfl | rfl | rfl | rfl <;> simp [upB, halfB, a1] at hu
   have : ¬ d - w.fmod d < w.fmod d := fun h => by rw [cmpI_gt h] at hx; omega
   omega
end Go.Proofs.YthoedmikfpbfnaaGreat
end
section
set_option maxRecDepth 100000
namespace Go.Proofs.YthoedmikfpbfnaaGreat
open Go Go.RowKit Go.Ev

def nN (n d : Int) : Int := if d < 0 then -n else n
def nD (d : Int) : Int := if d < 0 then -d else d
theorem z_neg {w : World} {q : ZQ} {x : Int} (h : ZOf q x w) : q.n = decide (x < 0) := (isZ_sign h).2
theorem rat_ok (n d mode p q : Int) (h1 : 1 ≤ mode) (h2 : mode ≤ 9) (hf : Fn 41 [] [wv n, wv d] (.tuple #[wv p, wv q, .int .i64 0])) (hp : W128 p) (hq : W128 q) (h0 : 0 < q) :
  Fn 49 [] [wv n, wv d, .int .i64 mode] (rtv (nearQ p q mode)) := by
 obtain ⟨hd, r0, r1, e⟩ := fl_bd hp h0
 have hne : q ≠ 0 := by omega
 have hr : W128 (p.fmod q) := by unfold W128 at *; omega
 have hl : W128 (q - p.fmod q) := by unfold W128 at *; omega
 by_cases hz : p.fmod q = 0
 ·have hy : nearQ p q mode = p.fdiv q := by unfold nearQ; rw [if_pos hz]
  have hb := wz_yes hz
  rw [hy, rtv_yes hd]
  refine fn_of Tryz.func49 rfl fun ww => ?_
  refine qN 17 (decide (mode < 1)) ?_
  refine qN 20 (decide (mode > 9)) ?_
  refine qF ent41 (hf) ?_
  refine qF ent107 (dfloor_yes (p) (q) (by assumption) (by assumption) (by assumption) (by assumption)) ?_
  refine qV 53 (show (hi (p.fmod q) == 0 && (lo (p.fmod q) == 0 && true)) = true by assumption) ?_
  exact qR Tryz.func49
 ·have hb := wz_no hz
  by_cases hu : upQ p q mode = true
  ·have hu' : upB mode (decide (p < 0)) (cmpI (p.fmod q) (q - p.fmod q)) (decide (p.fdiv q % 2 = 0)) = true := hu
   have hy : nearQ p q mode = p.fdiv q + 1 := by unfold nearQ; rw [if_neg hz, if_pos hu]
   rw [hy]
   refine fn_of Tryz.func49 rfl fun ww => ?_
   refine qN 17 (decide (mode < 1)) ?_
   refine qN 20 (decide (mode > 9)) ?_
   refine qF ent41 (hf) ?_
   refine qF ent107 (dfloor_yes (p) (q) (by assumption) (by assumption) (by assumption) (by assumption)) ?_
   refine qV 53 (show (hi (p.fmod q) == 0 && (lo (p.fmod q) == 0 && true)) = false by assumption) ?_
   refine qV 62 (dec_hi p) ?_
   refine qF ent109 (between_fn (p.fdiv q) (p.fmod q) (q) (decide (p < 0)) (by assumption) (by assumption) (by assumption)) ?_
   refine qF ent108 (up_t (mode) (decide (p < 0)) (cmpI (p.fmod q) (q - p.fmod q)) (decide (p.fdiv q % 2 = 0)) (by assumption) (by assumption) (by assumption)) ?_
   refine qF ent30 (wof_fn (1) (by (unfold I64; omega))) ?_
   refine qF ent44 (wadd_any (p.fdiv q) (1) (by assumption) (by (unfold W128; omega))) ?_
   exact qR Tryz.func49
  ·have hu' : upB mode (decide (p < 0)) (cmpI (p.fmod q) (q - p.fmod q)) (decide (p.fdiv q % 2 = 0)) = false := (Bool.not_eq_true _).mp hu
   have hy : nearQ p q mode = p.fdiv q := by unfold nearQ; rw [if_neg hz, if_neg hu]
   rw [hy, rtv_yes hd]
   refine fn_of Tryz.func49 rfl fun ww => ?_
   refine qN 17 (decide (mode < 1)) ?_
   refine qN 20 (decide (mode > 9)) ?_
   refine qF ent41 (hf) ?_
   refine qF ent107 (dfloor_yes (p) (q) (by assumption) (by assumption) (by assumption) (by assumption)) ?_
   refine qV 53 (show (hi (p.fmod q) == 0 && (lo (p.fmod q) == 0 && true)) = false by assumption) ?_
   refine qV 62 (dec_hi p) ?_
   refine qF ent109 (between_fn (p.fdiv q) (p.fmod q) (q) (decide (p < 0)) (by assumption) (by assumption) (by assumption)) ?_
   refine qF ent108 (up_f (mode) (decide (p < 0)) (cmpI (p.fmod q) (q - p.fmod q)) (decide (p.fdiv q % 2 = 0)) (by assumption) (by assumption) (by assumption)) ?_
   exact qR Tryz.func49
end Go.Proofs.YthoedmikfpbfnaaGreat
end
section
set_option maxRecDepth 100000
namespace Go.Proofs.YthoedmikfpbfnaaGreat
open Go Go.RowKit Go.Ev

section
variable (p q : ZQ) (y A B : Int)
theorem zdt (h0 : 0 ≤ y) (hy : Bits 900 y) (hB : 0 < B) (hB2 : Bits 900 B) : FnZZ 75 [(p, y), (q, B)] [zv p, zv q] (fun q => .tuple #[zv q.1, zv q.2]) (y.tdiv B) (y.tmod B) := by
 have t := fzdiv p q y B (hy.mono (by decide)) (hB2.mono (by decide)) (by omega)
 rwa [Int.fdiv_eq_ediv_of_nonneg _ (by omega), Int.fmod_eq_emod_of_nonneg _ (by omega), ← Int.tdiv_eq_ediv_of_nonneg h0, ← Int.tmod_eq_emod_of_nonneg h0] at t
theorem tmod_nb (h0 : 0 ≤ y) (hA : 0 < A) (hA2 : Bits 900 A) : 0 ≤ y.tmod A ∧ Bits 900 (y.tmod A) := by
 have e := (td y A hA).2.1 h0
 exact ⟨e.2.1, hA2.le (by omega)⟩
theorem zdc (h0 : 0 ≤ y) (hA : 0 < A) (hA2 : Bits 900 A) (hB : 0 < B) (hB2 : Bits 900 B) (hd : B ∣ A) : FnZZ 75 [(p, y.tmod A), (q, B)] [zv p, zv q] (fun q => .tuple #[zv q.1, zv q.2]) ((y.tmod A).tdiv B) (y.tmod B) := by
 obtain ⟨a, b⟩ := tmod_nb y A h0 hA hA2
 have t := zdt p q (y.tmod A) B a b hB hB2
 rwa [Int.tmod_tmod_of_dvd y hd] at t
theorem tdvb (h0 : 0 ≤ y) (hy : Bits 900 y) (hB : 0 < B) : Bits 900 (y.tdiv B) := by
 obtain ⟨e1, e2, e3⟩ := td y B hB
 have g := e2 h0
 have : y.tdiv B ≤ y.tdiv B * B := by have := Int.mul_le_mul_of_nonneg_left (show 1 ≤ B by omega) g.1; omega
 exact hy.le (by omega)
theorem zng (hy : Bits 900 y) : FnZ 88 [(p, y)] [zv p] zv (-y) := fzneg p y (hy.fit (by decide))
end
theorem zulay4p_y (p : ZQ) (x : Int) (hx : W128 x) (h0 : 0 ≤ x) (g : I64 (x.tdiv 86400000000000)) (k : uOk 0 0 0 (x.tdiv 86400000000000) ((x.tmod 86400000000000).tdiv 3600000000000) ((x.tmod 3600000000000).tdiv 60000000000) ((x.tmod 60000000000).tdiv 1000000000) (x.tmod 1000000000)) : Fn 110 [(p, x)] [zv p, .int .i64 4] (.tuple #[duv 0 0 0 (x.tdiv 86400000000000) ((x.tmod 86400000000000).tdiv 3600000000000) ((x.tmod 3600000000000).tdiv 60000000000) ((x.tmod 60000000000).tdiv 1000000000) (x.tmod 1000000000), .int .i64 0]) := by
 have hy : Bits 900 x := hx.bits.mono (by decide)
 have y0 : 0 ≤ x := by omega
 have bL4 : Bits 900 86400000000000 := Bits.mono (show W128 86400000000000 by unfold W128; omega).bits (by decide)
 have bL5 : Bits 900 3600000000000 := Bits.mono (show W128 3600000000000 by unfold W128; omega).bits (by decide)
 have bL6 : Bits 900 60000000000 := Bits.mono (show W128 60000000000 by unfold W128; omega).bits (by decide)
 have bL7 : Bits 900 1000000000 := Bits.mono (show W128 1000000000 by unfold W128; omega).bits (by decide)
 have bL8 : Bits 900 1 := Bits.mono (show W128 1 by unfold W128; omega).bits (by decide)
 have j1 : I64 86400000000000 := by unfold I64; omega
 have j2 : I64 3600000000000 := by unfold I64; omega
 have j3 : I64 60000000000 := by unfold I64; omega
 have j4 : I64 1000000000 := by unfold I64; omega
 have j5 : I64 1 := by unfold I64; omega
 have j0 : I64 0 := by unfold I64; omega
 have fa : ∀ p : ZQ, FnZ 130 [(p, x)] [zv p] zv x := fun p => by
  have t := fzabs p x (hx.bits.fit (by decide))
  rwa [show ((x.natAbs : Nat) : Int) = x by omega] at t
 have d0 : ∀ p q : ZQ, FnZZ 75 [(p, x), (q, 86400000000000)] [zv p, zv q] (fun q => .tuple #[zv q.1, zv q.2]) (x.tdiv 86400000000000) (x.tmod 86400000000000) := fun p q => zdt p q x 86400000000000 y0 hy (by omega) bL4
 have d1 : ∀ p q : ZQ, FnZZ 75 [(p, x.tmod 86400000000000), (q, 3600000000000)] [zv p, zv q] (fun q => .tuple #[zv q.1, zv q.2]) ((x.tmod 86400000000000).tdiv 3600000000000) (x.tmod 3600000000000) := fun p q => zdc p q x 86400000000000 3600000000000 y0 (by omega) bL4 (by omega) bL5 (by decide)
 have d2 : ∀ p q : ZQ, FnZZ 75 [(p, x.tmod 3600000000000), (q, 60000000000)] [zv p, zv q] (fun q => .tuple #[zv q.1, zv q.2]) ((x.tmod 3600000000000).tdiv 60000000000) (x.tmod 60000000000) := fun p q => zdc p q x 3600000000000 60000000000 y0 (by omega) bL5 (by omega) bL6 (by decide)
 have d3 : ∀ p q : ZQ, FnZZ 75 [(p, x.tmod 60000000000), (q, 1000000000)] [zv p, zv q] (fun q => .tuple #[zv q.1, zv q.2]) ((x.tmod 60000000000).tdiv 1000000000) (x.tmod 1000000000) := fun p q => zdc p q x 60000000000 1000000000 y0 (by omega) bL6 (by omega) bL7 (by decide)
 have d4 : ∀ p q : ZQ, FnZZ 75 [(p, x.tmod 1000000000), (q, 1)] [zv p, zv q] (fun q => .tuple #[zv q.1, zv q.2]) ((x.tmod 1000000000).tdiv 1) (x.tmod 1) := fun p q => zdc p q x 1000000000 1 y0 (by omega) bL7 (by omega) bL8 (by decide)
 have g5 : I64 ((x.tmod 86400000000000).tdiv 3600000000000) := by have := td2 x 86400000000000 3600000000000 24 (by decide) (by omega) (by omega); unfold I64; omega
 have g6 : I64 ((x.tmod 3600000000000).tdiv 60000000000) := by have := td2 x 3600000000000 60000000000 60 (by decide) (by omega) (by omega); unfold I64; omega
 have g7 : I64 ((x.tmod 60000000000).tdiv 1000000000) := by have := td2 x 60000000000 1000000000 60 (by decide) (by omega) (by omega); unfold I64; omega
 have g8 : I64 (x.tmod 1000000000) := by
  obtain ⟨e1, e2, e3⟩ := td x 1000000000 (by omega)
  by_cases z : 0 ≤ x
  ·have := e2 z; unfold I64; omega
  ·have := e3 (by omega); unfold I64; omega
 have f0 : ∀ p : ZQ, Fn 36 [(p, x.tdiv 86400000000000)] [zv p] (.tuple #[.int .i64 (x.tdiv 86400000000000), .bool true]) := fun p => by
  have t := fits_f p (x.tdiv 86400000000000) (g.w.bits.mono (by decide)) g
  exact t
 have f1 : ∀ p : ZQ, Fn 36 [(p, (x.tmod 86400000000000).tdiv 3600000000000)] [zv p] (.tuple #[.int .i64 ((x.tmod 86400000000000).tdiv 3600000000000), .bool true]) := fun p => by
  have t := fits_f p ((x.tmod 86400000000000).tdiv 3600000000000) (g5.w.bits.mono (by decide)) g5
  exact t
 have f2 : ∀ p : ZQ, Fn 36 [(p, (x.tmod 3600000000000).tdiv 60000000000)] [zv p] (.tuple #[.int .i64 ((x.tmod 3600000000000).tdiv 60000000000), .bool true]) := fun p => by
  have t := fits_f p ((x.tmod 3600000000000).tdiv 60000000000) (g6.w.bits.mono (by decide)) g6
  exact t
 have f3 : ∀ p : ZQ, Fn 36 [(p, (x.tmod 60000000000).tdiv 1000000000)] [zv p] (.tuple #[.int .i64 ((x.tmod 60000000000).tdiv 1000000000), .bool true]) := fun p => by
  have t := fits_f p ((x.tmod 60000000000).tdiv 1000000000) (g7.w.bits.mono (by decide)) g7
  exact t
 have f4 : ∀ p : ZQ, Fn 36 [(p, (x.tmod 1000000000).tdiv 1)] [zv p] (.tuple #[.int .i64 (x.tmod 1000000000), .bool true]) := fun p => by
  have t := fits_f p (x.tmod 1000000000) (g8.w.bits.mono (by decide)) g8
  simpa only [tdiv_1] using t
 have r := zuright_y 0 0 0 (x.tdiv 86400000000000) ((x.tmod 86400000000000).tdiv 3600000000000) ((x.tmod 3600000000000).tdiv 60000000000) ((x.tmod 60000000000).tdiv 1000000000) (x.tmod 1000000000) ⟨j0, j0, j0, g, g5, g6, g7, g8⟩ k
 refine fn_of Tryz.func110 rfl fun ww => ?_
 refine st_know (p := p.n = false) (fun w hw => by rw [z_neg (hw (p, x) (by simp))]; simp; omega) fun hn => ?_
 clear hy y0 g hx k
 refine qF ent85 (zulen4) ?_
 refine st_g ent130 (fa (p)) (subC 0 rfl sub0) (by kernel_rfl) (fun zq1 => ?_)
 refine st_round (by kernel_rfl) ?_
 refine qF ent85 (zulen4) ?_
 refine qZ ent11 (fzint (86400000000000) (by assumption)) fun zq3 => ?_
 refine st_g ent75 (d0 (zq1) (zq3)) (subC 1 rfl (subC 0 rfl sub0)) (by kernel_rfl) (fun zq4 => ?_)
 refine qV 34 (show (p.n) = false by assumption) ?_
 refine st_fn ent36 (f0 (zq4.fst)) (subC 0 rfl sub0) (by kernel_rfl) ?_
 refine qI 46 (4 - 1) ?_
 refine qI 24 (4 + 1) ?_
 refine st_round (by kernel_rfl) ?_
 refine qF ent85 (zulen5) ?_
 refine qZ ent11 (fzint (3600000000000) (by assumption)) fun zq7 => ?_
 refine st_g ent75 (d1 (zq4.snd) (zq7)) (subC 2 rfl (subC 0 rfl sub0)) (by kernel_rfl) (fun zq8 => ?_)
 refine qV 34 (show (p.n) = false by assumption) ?_
 refine st_fn ent36 (f1 (zq8.fst)) (subC 0 rfl sub0) (by kernel_rfl) ?_
 refine qI 46 (4 + 1 - 1) ?_
 refine qI 24 (4 + 1 + 1) ?_
 refine st_round (by kernel_rfl) ?_
 refine qF ent85 (zulen6) ?_
 refine qZ ent11 (fzint (60000000000) (by assumption)) fun zq11 => ?_
 refine st_g ent75 (d2 (zq8.snd) (zq11)) (subC 2 rfl (subC 0 rfl sub0)) (by kernel_rfl) (fun zq12 => ?_)
 refine qV 34 (show (p.n) = false by assumption) ?_
 refine st_fn ent36 (f2 (zq12.fst)) (subC 0 rfl sub0) (by kernel_rfl) ?_
 refine qI 46 (4 + 1 + 1 - 1) ?_
 refine qI 24 (4 + 1 + 1 + 1) ?_
 refine st_round (by kernel_rfl) ?_
 refine qF ent85 (zulen7) ?_
 refine qZ ent11 (fzint (1000000000) (by assumption)) fun zq15 => ?_
 refine st_g ent75 (d3 (zq12.snd) (zq15)) (subC 2 rfl (subC 0 rfl sub0)) (by kernel_rfl) (fun zq16 => ?_)
 refine qV 34 (show (p.n) = false by assumption) ?_
 refine st_fn ent36 (f3 (zq16.fst)) (subC 0 rfl sub0) (by kernel_rfl) ?_
 refine qI 46 (4 + 1 + 1 + 1 - 1) ?_
 refine qI 24 (4 + 1 + 1 + 1 + 1) ?_
 refine st_round (by kernel_rfl) ?_
 refine qF ent85 (zulen8) ?_
 refine qZ ent11 (fzint (1) (by assumption)) fun zq19 => ?_
 refine st_g ent75 (d4 (zq16.snd) (zq19)) (subC 2 rfl (subC 0 rfl sub0)) (by kernel_rfl) (fun zq20 => ?_)
 refine qV 34 (show (p.n) = false by assumption) ?_
 refine st_fn ent36 (f4 (zq20.fst)) (subC 0 rfl sub0) (by kernel_rfl) ?_
 refine qI 46 (4 + 1 + 1 + 1 + 1 - 1) ?_
 refine qI 24 (4 + 1 + 1 + 1 + 1 + 1) ?_
 refine st_round (by kernel_rfl) ?_
 refine qF ent156 (zumade (0) (0) (0) (x.tdiv 86400000000000) ((x.tmod 86400000000000).tdiv 3600000000000) ((x.tmod 3600000000000).tdiv 60000000000) ((x.tmod 60000000000).tdiv 1000000000) (x.tmod 1000000000)) ?_
 refine qF ent89 (r) ?_
 exact qR Tryz.func110
theorem zulay4n_y (p : ZQ) (x : Int) (hx : W128 x) (h0 : x < 0) (g : I64 (x.tdiv 86400000000000)) (k : uOk 0 0 0 (x.tdiv 86400000000000) ((x.tmod 86400000000000).tdiv 3600000000000) ((x.tmod 3600000000000).tdiv 60000000000) ((x.tmod 60000000000).tdiv 1000000000) (x.tmod 1000000000)) : Fn 110 [(p, x)] [zv p, .int .i64 4] (.tuple #[duv 0 0 0 (x.tdiv 86400000000000) ((x.tmod 86400000000000).tdiv 3600000000000) ((x.tmod 3600000000000).tdiv 60000000000) ((x.tmod 60000000000).tdiv 1000000000) (x.tmod 1000000000), .int .i64 0]) := by
 have hy : Bits 900 (-x) := (hx.bits.neg).mono (by decide)
 have y0 : 0 ≤ (-x) := by omega
 have bL4 : Bits 900 86400000000000 := Bits.mono (show W128 86400000000000 by unfold W128; omega).bits (by decide)
 have bL5 : Bits 900 3600000000000 := Bits.mono (show W128 3600000000000 by unfold W128; omega).bits (by decide)
 have bL6 : Bits 900 60000000000 := Bits.mono (show W128 60000000000 by unfold W128; omega).bits (by decide)
 have bL7 : Bits 900 1000000000 := Bits.mono (show W128 1000000000 by unfold W128; omega).bits (by decide)
 have bL8 : Bits 900 1 := Bits.mono (show W128 1 by unfold W128; omega).bits (by decide)
 have j1 : I64 86400000000000 := by unfold I64; omega
 have j2 : I64 3600000000000 := by unfold I64; omega
 have j3 : I64 60000000000 := by unfold I64; omega
 have j4 : I64 1000000000 := by unfold I64; omega
 have j5 : I64 1 := by unfold I64; omega
 have j0 : I64 0 := by unfold I64; omega
 have fa : ∀ p : ZQ, FnZ 130 [(p, x)] [zv p] zv (-x) := fun p => by
  have t := fzabs p x (hx.bits.fit (by decide))
  rwa [show ((x.natAbs : Nat) : Int) = -x by omega] at t
 have d0 : ∀ p q : ZQ, FnZZ 75 [(p, (-x)), (q, 86400000000000)] [zv p, zv q] (fun q => .tuple #[zv q.1, zv q.2]) ((-x).tdiv 86400000000000) ((-x).tmod 86400000000000) := fun p q => zdt p q (-x) 86400000000000 y0 hy (by omega) bL4
 have d1 : ∀ p q : ZQ, FnZZ 75 [(p, (-x).tmod 86400000000000), (q, 3600000000000)] [zv p, zv q] (fun q => .tuple #[zv q.1, zv q.2]) (((-x).tmod 86400000000000).tdiv 3600000000000) ((-x).tmod 3600000000000) := fun p q => zdc p q (-x) 86400000000000 3600000000000 y0 (by omega) bL4 (by omega) bL5 (by decide)
 have d2 : ∀ p q : ZQ, FnZZ 75 [(p, (-x).tmod 3600000000000), (q, 60000000000)] [zv p, zv q] (fun q => .tuple #[zv q.1, zv q.2]) (((-x).tmod 3600000000000).tdiv 60000000000) ((-x).tmod 60000000000) := fun p q => zdc p q (-x) 3600000000000 60000000000 y0 (by omega) bL5 (by omega) bL6 (by decide)
 have d3 : ∀ p q : ZQ, FnZZ 75 [(p, (-x).tmod 60000000000), (q, 1000000000)] [zv p, zv q] (fun q => .tuple #[zv q.1, zv q.2]) (((-x).tmod 60000000000).tdiv 1000000000) ((-x).tmod 1000000000) := fun p q => zdc p q (-x) 60000000000 1000000000 y0 (by omega) bL6 (by omega) bL7 (by decide)
 have d4 : ∀ p q : ZQ, FnZZ 75 [(p, (-x).tmod 1000000000), (q, 1)] [zv p, zv q] (fun q => .tuple #[zv q.1, zv q.2]) (((-x).tmod 1000000000).tdiv 1) ((-x).tmod 1) := fun p q => zdc p q (-x) 1000000000 1 y0 (by omega) bL7 (by omega) bL8 (by decide)
 have g5 : I64 ((x.tmod 86400000000000).tdiv 3600000000000) := by have := td2 x 86400000000000 3600000000000 24 (by decide) (by omega) (by omega); unfold I64; omega
 have g6 : I64 ((x.tmod 3600000000000).tdiv 60000000000) := by have := td2 x 3600000000000 60000000000 60 (by decide) (by omega) (by omega); unfold I64; omega
 have g7 : I64 ((x.tmod 60000000000).tdiv 1000000000) := by have := td2 x 60000000000 1000000000 60 (by decide) (by omega) (by omega); unfold I64; omega
 have g8 : I64 (x.tmod 1000000000) := by
  obtain ⟨e1, e2, e3⟩ := td x 1000000000 (by omega)
  by_cases z : 0 ≤ x
  ·have := e2 z; unfold I64; omega
  ·have := e3 (by omega); unfold I64; omega
 have n0 : ∀ p : ZQ, FnZ 88 [(p, (-x).tdiv 86400000000000)] [zv p] zv (x.tdiv 86400000000000) := fun p => by
  have t := zng p ((-x).tdiv 86400000000000) (tdvb (-x) 86400000000000 y0 hy (by omega))
  rwa [show -((-x).tdiv 86400000000000) = (x.tdiv 86400000000000) by rw [Int.neg_tdiv, Int.neg_neg]] at t
 have f0 : ∀ p : ZQ, Fn 36 [(p, (x.tdiv 86400000000000))] [zv p] (.tuple #[.int .i64 (x.tdiv 86400000000000), .bool true]) := fun p => by
  have t := fits_f p (x.tdiv 86400000000000) (g.w.bits.mono (by decide)) g
  exact t
 have n1 : ∀ p : ZQ, FnZ 88 [(p, ((-x).tmod 86400000000000).tdiv 3600000000000)] [zv p] zv ((x.tmod 86400000000000).tdiv 3600000000000) := fun p => by
  have t := zng p (((-x).tmod 86400000000000).tdiv 3600000000000) (tdvb _ 3600000000000 (tmod_nb (-x) 86400000000000 y0 (by omega) bL4).1 (tmod_nb (-x) 86400000000000 y0 (by omega) bL4).2 (by omega))
  rwa [show -(((-x).tmod 86400000000000).tdiv 3600000000000) = ((x.tmod 86400000000000).tdiv 3600000000000) by rw [Int.neg_tmod, Int.neg_tdiv, Int.neg_neg]] at t
 have f1 : ∀ p : ZQ, Fn 36 [(p, ((x.tmod 86400000000000).tdiv 3600000000000))] [zv p] (.tuple #[.int .i64 ((x.tmod 86400000000000).tdiv 3600000000000), .bool true]) := fun p => by
  have t := fits_f p ((x.tmod 86400000000000).tdiv 3600000000000) (g5.w.bits.mono (by decide)) g5
  exact t
 have n2 : ∀ p : ZQ, FnZ 88 [(p, ((-x).tmod 3600000000000).tdiv 60000000000)] [zv p] zv ((x.tmod 3600000000000).tdiv 60000000000) := fun p => by
  have t := zng p (((-x).tmod 3600000000000).tdiv 60000000000) (tdvb _ 60000000000 (tmod_nb (-x) 3600000000000 y0 (by omega) bL5).1 (tmod_nb (-x) 3600000000000 y0 (by omega) bL5).2 (by omega))
  rwa [show -(((-x).tmod 3600000000000).tdiv 60000000000) = ((x.tmod 3600000000000).tdiv 60000000000) by rw [Int.neg_tmod, Int.neg_tdiv, Int.neg_neg]] at t
 have f2 : ∀ p : ZQ, Fn 36 [(p, ((x.tmod 3600000000000).tdiv 60000000000))] [zv p] (.tuple #[.int .i64 ((x.tmod 3600000000000).tdiv 60000000000), .bool true]) := fun p => by
  have t := fits_f p ((x.tmod 3600000000000).tdiv 60000000000) (g6.w.bits.mono (by decide)) g6
  exact t
 have n3 : ∀ p : ZQ, FnZ 88 [(p, ((-x).tmod 60000000000).tdiv 1000000000)] [zv p] zv ((x.tmod 60000000000).tdiv 1000000000) := fun p => by
  have t := zng p (((-x).tmod 60000000000).tdiv 1000000000) (tdvb _ 1000000000 (tmod_nb (-x) 60000000000 y0 (by omega) bL6).1 (tmod_nb (-x) 60000000000 y0 (by omega) bL6).2 (by omega))
  rwa [show -(((-x).tmod 60000000000).tdiv 1000000000) = ((x.tmod 60000000000).tdiv 1000000000) by rw [Int.neg_tmod, Int.neg_tdiv, Int.neg_neg]] at t
 have f3 : ∀ p : ZQ, Fn 36 [(p, ((x.tmod 60000000000).tdiv 1000000000))] [zv p] (.tuple #[.int .i64 ((x.tmod 60000000000).tdiv 1000000000), .bool true]) := fun p => by
  have t := fits_f p ((x.tmod 60000000000).tdiv 1000000000) (g7.w.bits.mono (by decide)) g7
  exact t
 have n4 : ∀ p : ZQ, FnZ 88 [(p, ((-x).tmod 1000000000).tdiv 1)] [zv p] zv (x.tmod 1000000000) := fun p => by
  have t := zng p (((-x).tmod 1000000000).tdiv 1) (tdvb _ 1 (tmod_nb (-x) 1000000000 y0 (by omega) bL7).1 (tmod_nb (-x) 1000000000 y0 (by omega) bL7).2 (by omega))
  rwa [show -(((-x).tmod 1000000000).tdiv 1) = (x.tmod 1000000000) by rw [Int.neg_tmod, Int.neg_tdiv, Int.neg_neg, tdiv_1]] at t
 have f4 : ∀ p : ZQ, Fn 36 [(p, (x.tmod 1000000000))] [zv p] (.tuple #[.int .i64 (x.tmod 1000000000), .bool true]) := fun p => by
  have t := fits_f p (x.tmod 1000000000) (g8.w.bits.mono (by decide)) g8
  exact t
 have r := zuright_y 0 0 0 (x.tdiv 86400000000000) ((x.tmod 86400000000000).tdiv 3600000000000) ((x.tmod 3600000000000).tdiv 60000000000) ((x.tmod 60000000000).tdiv 1000000000) (x.tmod 1000000000) ⟨j0, j0, j0, g, g5, g6, g7, g8⟩ k
 refine fn_of Tryz.func110 rfl fun ww => ?_
 refine st_know (p := p.n = true) (fun w hw => by rw [z_neg (hw (p, x) (by simp))]; simp; omega) fun hn => ?_
 clear hy y0 g hx k
 refine qF ent85 (zulen4) ?_
 refine st_g ent130 (fa (p)) (subC 0 rfl sub0) (by kernel_rfl) (fun zq1 => ?_)
 refine st_round (by kernel_rfl) ?_
 refine qF ent85 (zulen4) ?_
 refine qZ ent11 (fzint (86400000000000) (by assumption)) fun zq3 => ?_
 refine st_g ent75 (d0 (zq1) (zq3)) (subC 1 rfl (subC 0 rfl sub0)) (by kernel_rfl) (fun zq4 => ?_)
 refine qV 34 (show (p.n) = true by assumption) ?_
 refine st_g ent88 (n0 (zq4.fst)) (subC 0 rfl sub0) (by kernel_rfl) (fun zq5 => ?_)
 refine st_fn ent36 (f0 (zq5)) (subC 0 rfl sub0) (by kernel_rfl) ?_
 refine qI 46 (4 - 1) ?_
 refine qI 24 (4 + 1) ?_
 refine st_round (by kernel_rfl) ?_
 refine qF ent85 (zulen5) ?_
 refine qZ ent11 (fzint (3600000000000) (by assumption)) fun zq8 => ?_
 refine st_g ent75 (d1 (zq4.snd) (zq8)) (subC 3 rfl (subC 0 rfl sub0)) (by kernel_rfl) (fun zq9 => ?_)
 refine qV 34 (show (p.n) = true by assumption) ?_
 refine st_g ent88 (n1 (zq9.fst)) (subC 0 rfl sub0) (by kernel_rfl) (fun zq10 => ?_)
 refine st_fn ent36 (f1 (zq10)) (subC 0 rfl sub0) (by kernel_rfl) ?_
 refine qI 46 (4 + 1 - 1) ?_
 refine qI 24 (4 + 1 + 1) ?_
 refine st_round (by kernel_rfl) ?_
 refine qF ent85 (zulen6) ?_
 refine qZ ent11 (fzint (60000000000) (by assumption)) fun zq13 => ?_
 refine st_g ent75 (d2 (zq9.snd) (zq13)) (subC 3 rfl (subC 0 rfl sub0)) (by kernel_rfl) (fun zq14 => ?_)
 refine qV 34 (show (p.n) = true by assumption) ?_
 refine st_g ent88 (n2 (zq14.fst)) (subC 0 rfl sub0) (by kernel_rfl) (fun zq15 => ?_)
 refine st_fn ent36 (f2 (zq15)) (subC 0 rfl sub0) (by kernel_rfl) ?_
 refine qI 46 (4 + 1 + 1 - 1) ?_
 refine qI 24 (4 + 1 + 1 + 1) ?_
 refine st_round (by kernel_rfl) ?_
 refine qF ent85 (zulen7) ?_
 refine qZ ent11 (fzint (1000000000) (by assumption)) fun zq18 => ?_
 refine st_g ent75 (d3 (zq14.snd) (zq18)) (subC 3 rfl (subC 0 rfl sub0)) (by kernel_rfl) (fun zq19 => ?_)
 refine qV 34 (show (p.n) = true by assumption) ?_
 refine st_g ent88 (n3 (zq19.fst)) (subC 0 rfl sub0) (by kernel_rfl) (fun zq20 => ?_)
 refine st_fn ent36 (f3 (zq20)) (subC 0 rfl sub0) (by kernel_rfl) ?_
 refine qI 46 (4 + 1 + 1 + 1 - 1) ?_
 refine qI 24 (4 + 1 + 1 + 1 + 1) ?_
 refine st_round (by kernel_rfl) ?_
 refine qF ent85 (zulen8) ?_
 refine qZ ent11 (fzint (1) (by assumption)) fun zq23 => ?_
 refine st_g ent75 (d4 (zq19.snd) (zq23)) (subC 3 rfl (subC 0 rfl sub0)) (by kernel_rfl) (fun zq24 => ?_)
 refine qV 34 (show (p.n) = true by assumption) ?_
 refine st_g ent88 (n4 (zq24.fst)) (subC 0 rfl sub0) (by kernel_rfl) (fun zq25 => ?_)
 refine st_fn ent36 (f4 (zq25)) (subC 0 rfl sub0) (by kernel_rfl) ?_
 refine qI 46 (4 + 1 + 1 + 1 + 1 - 1) ?_
 refine qI 24 (4 + 1 + 1 + 1 + 1 + 1) ?_
 refine st_round (by kernel_rfl) ?_
 refine qF ent156 (zumade (0) (0) (0) (x.tdiv 86400000000000) ((x.tmod 86400000000000).tdiv 3600000000000) ((x.tmod 3600000000000).tdiv 60000000000) ((x.tmod 60000000000).tdiv 1000000000) (x.tmod 1000000000)) ?_
 refine qF ent89 (r) ?_
 exact qR Tryz.func110
theorem zulay5p_y (p : ZQ) (x : Int) (hx : W128 x) (h0 : 0 ≤ x) (g : I64 (x.tdiv 3600000000000)) (k : uOk 0 0 0 0 (x.tdiv 3600000000000) ((x.tmod 3600000000000).tdiv 60000000000) ((x.tmod 60000000000).tdiv 1000000000) (x.tmod 1000000000)) : Fn 110 [(p, x)] [zv p, .int .i64 5] (.tuple #[duv 0 0 0 0 (x.tdiv 3600000000000) ((x.tmod 3600000000000).tdiv 60000000000) ((x.tmod 60000000000).tdiv 1000000000) (x.tmod 1000000000), .int .i64 0]) := by
 have hy : Bits 900 x := hx.bits.mono (by decide)
 have y0 : 0 ≤ x := by omega
 have bL4 : Bits 900 86400000000000 := Bits.mono (show W128 86400000000000 by unfold W128; omega).bits (by decide)
 have bL5 : Bits 900 3600000000000 := Bits.mono (show W128 3600000000000 by unfold W128; omega).bits (by decide)
 have bL6 : Bits 900 60000000000 := Bits.mono (show W128 60000000000 by unfold W128; omega).bits (by decide)
 have bL7 : Bits 900 1000000000 := Bits.mono (show W128 1000000000 by unfold W128; omega).bits (by decide)
 have bL8 : Bits 900 1 := Bits.mono (show W128 1 by unfold W128; omega).bits (by decide)
 have j1 : I64 86400000000000 := by unfold I64; omega
 have j2 : I64 3600000000000 := by unfold I64; omega
 have j3 : I64 60000000000 := by unfold I64; omega
 have j4 : I64 1000000000 := by unfold I64; omega
 have j5 : I64 1 := by unfold I64; omega
 have j0 : I64 0 := by unfold I64; omega
 have fa : ∀ p : ZQ, FnZ 130 [(p, x)] [zv p] zv x := fun p => by
  have t := fzabs p x (hx.bits.fit (by decide))
  rwa [show ((x.natAbs : Nat) : Int) = x by omega] at t
 have d0 : ∀ p q : ZQ, FnZZ 75 [(p, x), (q, 3600000000000)] [zv p, zv q] (fun q => .tuple #[zv q.1, zv q.2]) (x.tdiv 3600000000000) (x.tmod 3600000000000) := fun p q => zdt p q x 3600000000000 y0 hy (by omega) bL5
 have d1 : ∀ p q : ZQ, FnZZ 75 [(p, x.tmod 3600000000000), (q, 60000000000)] [zv p, zv q] (fun q => .tuple #[zv q.1, zv q.2]) ((x.tmod 3600000000000).tdiv 60000000000) (x.tmod 60000000000) := fun p q => zdc p q x 3600000000000 60000000000 y0 (by omega) bL5 (by omega) bL6 (by decide)
 have d2 : ∀ p q : ZQ, FnZZ 75 [(p, x.tmod 60000000000), (q, 1000000000)] [zv p, zv q] (fun q => .tuple #[zv q.1, zv q.2]) ((x.tmod 60000000000).tdiv 1000000000) (x.tmod 1000000000) := fun p q => zdc p q x 60000000000 1000000000 y0 (by omega) bL6 (by omega) bL7 (by decide)
 have d3 : ∀ p q : ZQ, FnZZ 75 [(p, x.tmod 1000000000), (q, 1)] [zv p, zv q] (fun q => .tuple #[zv q.1, zv q.2]) ((x.tmod 1000000000).tdiv 1) (x.tmod 1) := fun p q => zdc p q x 1000000000 1 y0 (by omega) bL7 (by omega) bL8 (by decide)
 have g6 : I64 ((x.tmod 3600000000000).tdiv 60000000000) := by have := td2 x 3600000000000 60000000000 60 (by decide) (by omega) (by omega); unfold I64; omega
 have g7 : I64 ((x.tmod 60000000000).tdiv 1000000000) := by have := td2 x 60000000000 1000000000 60 (by decide) (by omega) (by omega); unfold I64; omega
 have g8 : I64 (x.tmod 1000000000) := by
  obtain ⟨e1, e2, e3⟩ := td x 1000000000 (by omega)
  by_cases z : 0 ≤ x
  ·have := e2 z; unfold I64; omega
  ·have := e3 (by omega); unfold I64; omega
 have f0 : ∀ p : ZQ, Fn 36 [(p, x.tdiv 3600000000000)] [zv p] (.tuple #[.int .i64 (x.tdiv 3600000000000), .bool true]) := fun p => by
  have t := fits_f p (x.tdiv 3600000000000) (g.w.bits.mono (by decide)) g
  exact t
 have f1 : ∀ p : ZQ, Fn 36 [(p, (x.tmod 3600000000000).tdiv 60000000000)] [zv p] (.tuple #[.int .i64 ((x.tmod 3600000000000).tdiv 60000000000), .bool true]) := fun p => by
  have t := fits_f p ((x.tmod 3600000000000).tdiv 60000000000) (g6.w.bits.mono (by decide)) g6
  exact t
 have f2 : ∀ p : ZQ, Fn 36 [(p, (x.tmod 60000000000).tdiv 1000000000)] [zv p] (.tuple #[.int .i64 ((x.tmod 60000000000).tdiv 1000000000), .bool true]) := fun p => by
  have t := fits_f p ((x.tmod 60000000000).tdiv 1000000000) (g7.w.bits.mono (by decide)) g7
  exact t
 have f3 : ∀ p : ZQ, Fn 36 [(p, (x.tmod 1000000000).tdiv 1)] [zv p] (.tuple #[.int .i64 (x.tmod 1000000000), .bool true]) := fun p => by
  have t := fits_f p (x.tmod 1000000000) (g8.w.bits.mono (by decide)) g8
  simpa only [tdiv_1] using t
 have r := zuright_y 0 0 0 0 (x.tdiv 3600000000000) ((x.tmod 3600000000000).tdiv 60000000000) ((x.tmod 60000000000).tdiv 1000000000) (x.tmod 1000000000) ⟨j0, j0, j0, j0, g, g6, g7, g8⟩ k
 refine fn_of Tryz.func110 rfl fun ww => ?_
 refine st_know (p := p.n = false) (fun w hw => by rw [z_neg (hw (p, x) (by simp))]; simp; omega) fun hn => ?_
 clear hy y0 g hx k
 refine qF ent85 (zulen5) ?_
 refine st_g ent130 (fa (p)) (subC 0 rfl sub0) (by kernel_rfl) (fun zq1 => ?_)
 refine st_round (by kernel_rfl) ?_
 refine qF ent85 (zulen5) ?_
 refine qZ ent11 (fzint (3600000000000) (by assumption)) fun zq3 => ?_
 refine st_g ent75 (d0 (zq1) (zq3)) (subC 1 rfl (subC 0 rfl sub0)) (by kernel_rfl) (fun zq4 => ?_)
 refine qV 34 (show (p.n) = false by assumption) ?_
 refine st_fn ent36 (f0 (zq4.fst)) (subC 0 rfl sub0) (by kernel_rfl) ?_
 refine qI 46 (5 - 1) ?_
 refine qI 24 (5 + 1) ?_
 refine st_round (by kernel_rfl) ?_
 refine qF ent85 (zulen6) ?_
 refine qZ ent11 (fzint (60000000000) (by assumption)) fun zq7 => ?_
 refine st_g ent75 (d1 (zq4.snd) (zq7)) (subC 2 rfl (subC 0 rfl sub0)) (by kernel_rfl) (fun zq8 => ?_)
 refine qV 34 (show (p.n) = false by assumption) ?_
 refine st_fn ent36 (f1 (zq8.fst)) (subC 0 rfl sub0) (by kernel_rfl) ?_
 refine qI 46 (5 + 1 - 1) ?_
 refine qI 24 (5 + 1 + 1) ?_
 refine st_round (by kernel_rfl) ?_
 refine qF ent85 (zulen7) ?_
 refine qZ ent11 (fzint (1000000000) (by assumption)) fun zq11 => ?_
 refine st_g ent75 (d2 (zq8.snd) (zq11)) (subC 2 rfl (subC 0 rfl sub0)) (by kernel_rfl) (fun zq12 => ?_)
 refine qV 34 (show (p.n) = false by assumption) ?_
 refine st_fn ent36 (f2 (zq12.fst)) (subC 0 rfl sub0) (by kernel_rfl) ?_
 refine qI 46 (5 + 1 + 1 - 1) ?_
 refine qI 24 (5 + 1 + 1 + 1) ?_
 refine st_round (by kernel_rfl) ?_
 refine qF ent85 (zulen8) ?_
 refine qZ ent11 (fzint (1) (by assumption)) fun zq15 => ?_
 refine st_g ent75 (d3 (zq12.snd) (zq15)) (subC 2 rfl (subC 0 rfl sub0)) (by kernel_rfl) (fun zq16 => ?_)
 refine qV 34 (show (p.n) = false by assumption) ?_
 refine st_fn ent36 (f3 (zq16.fst)) (subC 0 rfl sub0) (by kernel_rfl) ?_
 refine qI 46 (5 + 1 + 1 + 1 - 1) ?_
 refine qI 24 (5 + 1 + 1 + 1 + 1) ?_
 refine st_round (by kernel_rfl) ?_
 refine qF ent156 (zumade (0) (0) (0) (0) (x.tdiv 3600000000000) ((x.tmod 3600000000000).tdiv 60000000000) ((x.tmod 60000000000).tdiv 1000000000) (x.tmod 1000000000)) ?_
 refine qF ent89 (r) ?_
 exact qR Tryz.func110
theorem zulay5n_y (p : ZQ) (x : Int) (hx : W128 x) (h0 : x < 0) (g : I64 (x.tdiv 3600000000000)) (k : uOk 0 0 0 0 (x.tdiv 3600000000000) ((x.tmod 3600000000000).tdiv 60000000000) ((x.tmod 60000000000).tdiv 1000000000) (x.tmod 1000000000)) : Fn 110 [(p, x)] [zv p, .int .i64 5] (.tuple #[duv 0 0 0 0 (x.tdiv 3600000000000) ((x.tmod 3600000000000).tdiv 60000000000) ((x.tmod 60000000000).tdiv 1000000000) (x.tmod 1000000000), .int .i64 0]) := by
 have hy : Bits 900 (-x) := (hx.bits.neg).mono (by decide)
 have y0 : 0 ≤ (-x) := by omega
 have bL4 : Bits 900 86400000000000 := Bits.mono (show W128 86400000000000 by unfold W128; omega).bits (by decide)
 have bL5 : Bits 900 3600000000000 := Bits.mono (show W128 3600000000000 by unfold W128; omega).bits (by decide)
 have bL6 : Bits 900 60000000000 := Bits.mono (show W128 60000000000 by unfold W128; omega).bits (by decide)
 have bL7 : Bits 900 1000000000 := Bits.mono (show W128 1000000000 by unfold W128; omega).bits (by decide)
 have bL8 : Bits 900 1 := Bits.mono (show W128 1 by unfold W128; omega).bits (by decide)
 have j1 : I64 86400000000000 := by unfold I64; omega
 have j2 : I64 3600000000000 := by unfold I64; omega
 have j3 : I64 60000000000 := by unfold I64; omega
 have j4 : I64 1000000000 := by unfold I64; omega
 have j5 : I64 1 := by unfold I64; omega
 have j0 : I64 0 := by unfold I64; omega
 have fa : ∀ p : ZQ, FnZ 130 [(p, x)] [zv p] zv (-x) := fun p => by
  have t := fzabs p x (hx.bits.fit (by decide))
  rwa [show ((x.natAbs : Nat) : Int) = -x by omega] at t
 have d0 : ∀ p q : ZQ, FnZZ 75 [(p, (-x)), (q, 3600000000000)] [zv p, zv q] (fun q => .tuple #[zv q.1, zv q.2]) ((-x).tdiv 3600000000000) ((-x).tmod 3600000000000) := fun p q => zdt p q (-x) 3600000000000 y0 hy (by omega) bL5
 have d1 : ∀ p q : ZQ, FnZZ 75 [(p, (-x).tmod 3600000000000), (q, 60000000000)] [zv p, zv q] (fun q => .tuple #[zv q.1, zv q.2]) (((-x).tmod 3600000000000).tdiv 60000000000) ((-x).tmod 60000000000) := fun p q => zdc p q (-x) 3600000000000 60000000000 y0 (by omega) bL5 (by omega) bL6 (by decide)
 have d2 : ∀ p q : ZQ, FnZZ 75 [(p, (-x).tmod 60000000000), (q, 1000000000)] [zv p, zv q] (fun q => .tuple #[zv q.1, zv q.2]) (((-x).tmod 60000000000).tdiv 1000000000) ((-x).tmod 1000000000) := fun p q => zdc p q (-x) 60000000000 1000000000 y0 (by omega) bL6 (by omega) bL7 (by decide)
 have d3 : ∀ p q : ZQ, FnZZ 75 [(p, (-x).tmod 1000000000), (q, 1)] [zv p, zv q] (fun q => .tuple #[zv q.1, zv q.2]) (((-x).tmod 1000000000).tdiv 1) ((-x).tmod 1) := fun p q => zdc p q (-x) 1000000000 1 y0 (by omega) bL7 (by omega) bL8 (by decide)
 have g6 : I64 ((x.tmod 3600000000000).tdiv 60000000000) := by have := td2 x 3600000000000 60000000000 60 (by decide) (by omega) (by omega); unfold I64; omega
 have g7 : I64 ((x.tmod 60000000000).tdiv 1000000000) := by have := td2 x 60000000000 1000000000 60 (by decide) (by omega) (by omega); unfold I64; omega
 have g8 : I64 (x.tmod 1000000000) := by
  obtain ⟨e1, e2, e3⟩ := td x 1000000000 (by omega)
  by_cases z : 0 ≤ x
  ·have := e2 z; unfold I64; omega
  ·have := e3 (by omega); unfold I64; omega
 have n0 : ∀ p : ZQ, FnZ 88 [(p, (-x).tdiv 3600000000000)] [zv p] zv (x.tdiv 3600000000000) := fun p => by
  have t := zng p ((-x).tdiv 3600000000000) (tdvb (-x) 3600000000000 y0 hy (by omega))
  rwa [show -((-x).tdiv 3600000000000) = (x.tdiv 3600000000000) by rw [Int.neg_tdiv, Int.neg_neg]] at t
 have f0 : ∀ p : ZQ, Fn 36 [(p, (x.tdiv 3600000000000))] [zv p] (.tuple #[.int .i64 (x.tdiv 3600000000000), .bool true]) := fun p => by
  have t := fits_f p (x.tdiv 3600000000000) (g.w.bits.mono (by decide)) g
  exact t
 have n1 : ∀ p : ZQ, FnZ 88 [(p, ((-x).tmod 3600000000000).tdiv 60000000000)] [zv p] zv ((x.tmod 3600000000000).tdiv 60000000000) := fun p => by
  have t := zng p (((-x).tmod 3600000000000).tdiv 60000000000) (tdvb _ 60000000000 (tmod_nb (-x) 3600000000000 y0 (by omega) bL5).1 (tmod_nb (-x) 3600000000000 y0 (by omega) bL5).2 (by omega))
  rwa [show -(((-x).tmod 3600000000000).tdiv 60000000000) = ((x.tmod 3600000000000).tdiv 60000000000) by rw [Int.neg_tmod, Int.neg_tdiv, Int.neg_neg]] at t
 have f1 : ∀ p : ZQ, Fn 36 [(p, ((x.tmod 3600000000000).tdiv 60000000000))] [zv p] (.tuple #[.int .i64 ((x.tmod 3600000000000).tdiv 60000000000), .bool true]) := fun p => by
  have t := fits_f p ((x.tmod 3600000000000).tdiv 60000000000) (g6.w.bits.mono (by decide)) g6
  exact t
 have n2 : ∀ p : ZQ, FnZ 88 [(p, ((-x).tmod 60000000000).tdiv 1000000000)] [zv p] zv ((x.tmod 60000000000).tdiv 1000000000) := fun p => by
  have t := zng p (((-x).tmod 60000000000).tdiv 1000000000) (tdvb _ 1000000000 (tmod_nb (-x) 60000000000 y0 (by omega) bL6).1 (tmod_nb (-x) 60000000000 y0 (by omega) bL6).2 (by omega))
  rwa [show -(((-x).tmod 60000000000).tdiv 1000000000) = ((x.tmod 60000000000).tdiv 1000000000) by rw [Int.neg_tmod, Int.neg_tdiv, Int.neg_neg]] at t
 have f2 : ∀ p : ZQ, Fn 36 [(p, ((x.tmod 60000000000).tdiv 1000000000))] [zv p] (.tuple #[.int .i64 ((x.tmod 60000000000).tdiv 1000000000), .bool true]) := fun p => by
  have t := fits_f p ((x.tmod 60000000000).tdiv 1000000000) (g7.w.bits.mono (by decide)) g7
  exact t
 have n3 : ∀ p : ZQ, FnZ 88 [(p, ((-x).tmod 1000000000).tdiv 1)] [zv p] zv (x.tmod 1000000000) := fun p => by
  have t := zng p (((-x).tmod 1000000000).tdiv 1) (tdvb _ 1 (tmod_nb (-x) 1000000000 y0 (by omega) bL7).1 (tmod_nb (-x) 1000000000 y0 (by omega) bL7).2 (by omega))
  rwa [show -(((-x).tmod 1000000000).tdiv 1) = (x.tmod 1000000000) by rw [Int.neg_tmod, Int.neg_tdiv, Int.neg_neg, tdiv_1]] at t
 have f3 : ∀ p : ZQ, Fn 36 [(p, (x.tmod 1000000000))] [zv p] (.tuple #[.int .i64 (x.tmod 1000000000), .bool true]) := fun p => by
  have t := fits_f p (x.tmod 1000000000) (g8.w.bits.mono (by decide)) g8
  exact t
 have r := zuright_y 0 0 0 0 (x.tdiv 3600000000000) ((x.tmod 3600000000000).tdiv 60000000000) ((x.tmod 60000000000).tdiv 1000000000) (x.tmod 1000000000) ⟨j0, j0, j0, j0, g, g6, g7, g8⟩ k
 refine fn_of Tryz.func110 rfl fun ww => ?_
 refine st_know (p := p.n = true) (fun w hw => by rw [z_neg (hw (p, x) (by simp))]; simp; omega) fun hn => ?_
 clear hy y0 g hx k
 refine qF ent85 (zulen5) ?_
 refine st_g ent130 (fa (p)) (subC 0 rfl sub0) (by kernel_rfl) (fun zq1 => ?_)
 refine st_round (by kernel_rfl) ?_
 refine qF ent85 (zulen5) ?_
 refine qZ ent11 (fzint (3600000000000) (by assumption)) fun zq3 => ?_
 refine st_g ent75 (d0 (zq1) (zq3)) (subC 1 rfl (subC 0 rfl sub0)) (by kernel_rfl) (fun zq4 => ?_)
 refine qV 34 (show (p.n) = true by assumption) ?_
 refine st_g ent88 (n0 (zq4.fst)) (subC 0 rfl sub0) (by kernel_rfl) (fun zq5 => ?_)
 refine st_fn ent36 (f0 (zq5)) (subC 0 rfl sub0) (by kernel_rfl) ?_
 refine qI 46 (5 - 1) ?_
 refine qI 24 (5 + 1) ?_
 refine st_round (by kernel_rfl) ?_
 refine qF ent85 (zulen6) ?_
 refine qZ ent11 (fzint (60000000000) (by assumption)) fun zq8 => ?_
 refine st_g ent75 (d1 (zq4.snd) (zq8)) (subC 3 rfl (subC 0 rfl sub0)) (by kernel_rfl) (fun zq9 => ?_)
 refine qV 34 (show (p.n) = true by assumption) ?_
 refine st_g ent88 (n1 (zq9.fst)) (subC 0 rfl sub0) (by kernel_rfl) (fun zq10 => ?_)
 refine st_fn ent36 (f1 (zq10)) (subC 0 rfl sub0) (by kernel_rfl) ?_
 refine qI 46 (5 + 1 - 1) ?_
 refine qI 24 (5 + 1 + 1) ?_
 refine st_round (by kernel_rfl) ?_
 refine qF ent85 (zulen7) ?_
 refine qZ ent11 (fzint (1000000000) (by assumption)) fun zq13 => ?_
 refine st_g ent75 (d2 (zq9.snd) (zq13)) (subC 3 rfl (subC 0 rfl sub0)) (by kernel_rfl) (fun zq14 => ?_)
 refine qV 34 (show (p.n) = true by assumption) ?_
 refine st_g ent88 (n2 (zq14.fst)) (subC 0 rfl sub0) (by kernel_rfl) (fun zq15 => ?_)
 refine st_fn ent36 (f2 (zq15)) (subC 0 rfl sub0) (by kernel_rfl) ?_
 refine qI 46 (5 + 1 + 1 - 1) ?_
 refine qI 24 (5 + 1 + 1 + 1) ?_
 refine st_round (by kernel_rfl) ?_
 refine qF ent85 (zulen8) ?_
 refine qZ ent11 (fzint (1) (by assumption)) fun zq18 => ?_
 refine st_g ent75 (d3 (zq14.snd) (zq18)) (subC 3 rfl (subC 0 rfl sub0)) (by kernel_rfl) (fun zq19 => ?_)
 refine qV 34 (show (p.n) = true by assumption) ?_
 refine st_g ent88 (n3 (zq19.fst)) (subC 0 rfl sub0) (by kernel_rfl) (fun zq20 => ?_)
 refine st_fn ent36 (f3 (zq20)) (subC 0 rfl sub0) (by kernel_rfl) ?_
 refine qI 46 (5 + 1 + 1 + 1 - 1) ?_
 refine qI 24 (5 + 1 + 1 + 1 + 1) ?_
 refine st_round (by kernel_rfl) ?_
 refine qF ent156 (zumade (0) (0) (0) (0) (x.tdiv 3600000000000) ((x.tmod 3600000000000).tdiv 60000000000) ((x.tmod 60000000000).tdiv 1000000000) (x.tmod 1000000000)) ?_
 refine qF ent89 (r) ?_
 exact qR Tryz.func110
theorem zulay6p_y (p : ZQ) (x : Int) (hx : W128 x) (h0 : 0 ≤ x) (g : I64 (x.tdiv 60000000000)) (k : uOk 0 0 0 0 0 (x.tdiv 60000000000) ((x.tmod 60000000000).tdiv 1000000000) (x.tmod 1000000000)) : Fn 110 [(p, x)] [zv p, .int .i64 6] (.tuple #[duv 0 0 0 0 0 (x.tdiv 60000000000) ((x.tmod 60000000000).tdiv 1000000000) (x.tmod 1000000000), .int .i64 0]) := by
 have hy : Bits 900 x := hx.bits.mono (by decide)
 have y0 : 0 ≤ x := by omega
 have bL4 : Bits 900 86400000000000 := Bits.mono (show W128 86400000000000 by unfold W128; omega).bits (by decide)
 have bL5 : Bits 900 3600000000000 := Bits.mono (show W128 3600000000000 by unfold W128; omega).bits (by decide)
 have bL6 : Bits 900 60000000000 := Bits.mono (show W128 60000000000 by unfold W128; omega).bits (by decide)
 have bL7 : Bits 900 1000000000 := Bits.mono (show W128 1000000000 by unfold W128; omega).bits (by decide)
 have bL8 : Bits 900 1 := Bits.mono (show W128 1 by unfold W128; omega).bits (by decide)
 have j1 : I64 86400000000000 := by unfold I64; omega
 have j2 : I64 3600000000000 := by unfold I64; omega
 have j3 : I64 60000000000 := by unfold I64; omega
 have j4 : I64 1000000000 := by unfold I64; omega
 have j5 : I64 1 := by unfold I64; omega
 have j0 : I64 0 := by unfold I64; omega
 have fa : ∀ p : ZQ, FnZ 130 [(p, x)] [zv p] zv x := fun p => by
  have t := fzabs p x (hx.bits.fit (by decide))
  rwa [show ((x.natAbs : Nat) : Int) = x by omega] at t
 have d0 : ∀ p q : ZQ, FnZZ 75 [(p, x), (q, 60000000000)] [zv p, zv q] (fun q => .tuple #[zv q.1, zv q.2]) (x.tdiv 60000000000) (x.tmod 60000000000) := fun p q => zdt p q x 60000000000 y0 hy (by omega) bL6
 have d1 : ∀ p q : ZQ, FnZZ 75 [(p, x.tmod 60000000000), (q, 1000000000)] [zv p, zv q] (fun q => .tuple #[zv q.1, zv q.2]) ((x.tmod 60000000000).tdiv 1000000000) (x.tmod 1000000000) := fun p q => zdc p q x 60000000000 1000000000 y0 (by omega) bL6 (by omega) bL7 (by decide)
 have d2 : ∀ p q : ZQ, FnZZ 75 [(p, x.tmod 1000000000), (q, 1)] [zv p, zv q] (fun q => .tuple #[zv q.1, zv q.2]) ((x.tmod 1000000000).tdiv 1) (x.tmod 1) := fun p q => zdc p q x 1000000000 1 y0 (by omega) bL7 (by omega) bL8 (by decide)
 have g7 : I64 ((x.tmod 60000000000).tdiv 1000000000) := by have := td2 x 60000000000 1000000000 60 (by decide) (by omega) (by omega); unfold I64; omega
 have g8 : I64 (x.tmod 1000000000) := by
  obtain ⟨e1, e2, e3⟩ := td x 1000000000 (by omega)
  by_cases z : 0 ≤ x
  ·have := e2 z; unfold I64; omega
  ·have := e3 (by omega); unfold I64; omega
 have f0 : ∀ p : ZQ, Fn 36 [(p, x.tdiv 60000000000)] [zv p] (.tuple #[.int .i64 (x.tdiv 60000000000), .bool true]) := fun p => by
  have t := fits_f p (x.tdiv 60000000000) (g.w.bits.mono (by decide)) g
  exact t
 have f1 : ∀ p : ZQ, Fn 36 [(p, (x.tmod 60000000000).tdiv 1000000000)] [zv p] (.tuple #[.int .i64 ((x.tmod 60000000000).tdiv 1000000000), .bool true]) := fun p => by
  have t := fits_f p ((x.tmod 60000000000).tdiv 1000000000) (g7.w.bits.mono (by decide)) g7
  exact t
 have f2 : ∀ p : ZQ, Fn 36 [(p, (x.tmod 1000000000).tdiv 1)] [zv p] (.tuple #[.int .i64 (x.tmod 1000000000), .bool true]) := fun p => by
  have t := fits_f p (x.tmod 1000000000) (g8.w.bits.mono (by decide)) g8
  simpa only [tdiv_1] using t
 have r := zuright_y 0 0 0 0 0 (x.tdiv 60000000000) ((x.tmod 60000000000).tdiv 1000000000) (x.tmod 1000000000) ⟨j0, j0, j0, j0, j0, g, g7, g8⟩ k
 refine fn_of Tryz.func110 rfl fun ww => ?_
 refine st_know (p := p.n = false) (fun w hw => by rw [z_neg (hw (p, x) (by simp))]; simp; omega) fun hn => ?_
 clear hy y0 g hx k
 refine qF ent85 (zulen6) ?_
 refine st_g ent130 (fa (p)) (subC 0 rfl sub0) (by kernel_rfl) (fun zq1 => ?_)
 refine st_round (by kernel_rfl) ?_
 refine qF ent85 (zulen6) ?_
 refine qZ ent11 (fzint (60000000000) (by assumption)) fun zq3 => ?_
 refine st_g ent75 (d0 (zq1) (zq3)) (subC 1 rfl (subC 0 rfl sub0)) (by kernel_rfl) (fun zq4 => ?_)
 refine qV 34 (show (p.n) = false by assumption) ?_
 refine st_fn ent36 (f0 (zq4.fst)) (subC 0 rfl sub0) (by kernel_rfl) ?_
 refine qI 46 (6 - 1) ?_
 refine qI 24 (6 + 1) ?_
 refine st_round (by kernel_rfl) ?_
 refine qF ent85 (zulen7) ?_
 refine qZ ent11 (fzint (1000000000) (by assumption)) fun zq7 => ?_
 refine st_g ent75 (d1 (zq4.snd) (zq7)) (subC 2 rfl (subC 0 rfl sub0)) (by kernel_rfl) (fun zq8 => ?_)
 refine qV 34 (show (p.n) = false by assumption) ?_
 refine st_fn ent36 (f1 (zq8.fst)) (subC 0 rfl sub0) (by kernel_rfl) ?_
 refine qI 46 (6 + 1 - 1) ?_
 refine qI 24 (6 + 1 + 1) ?_
 refine st_round (by kernel_rfl) ?_
 refine qF ent85 (zulen8) ?_
 refine qZ ent11 (fzint (1) (by assumption)) fun zq11 => ?_
 refine st_g ent75 (d2 (zq8.snd) (zq11)) (subC 2 rfl (subC 0 rfl sub0)) (by kernel_rfl) (fun zq12 => ?_)
 refine qV 34 (show (p.n) = false by assumption) ?_
 refine st_fn ent36 (f2 (zq12.fst)) (subC 0 rfl sub0) (by kernel_rfl) ?_
 refine qI 46 (6 + 1 + 1 - 1) ?_
 refine qI 24 (6 + 1 + 1 + 1) ?_
 refine st_round (by kernel_rfl) ?_
 refine qF ent156 (zumade (0) (0) (0) (0) (0) (x.tdiv 60000000000) ((x.tmod 60000000000).tdiv 1000000000) (x.tmod 1000000000)) ?_
 refine qF ent89 (r) ?_
 exact qR Tryz.func110
theorem zulay6n_y (p : ZQ) (x : Int) (hx : W128 x) (h0 : x < 0) (g : I64 (x.tdiv 60000000000)) (k : uOk 0 0 0 0 0 (x.tdiv 60000000000) ((x.tmod 60000000000).tdiv 1000000000) (x.tmod 1000000000)) : Fn 110 [(p, x)] [zv p, .int .i64 6] (.tuple #[duv 0 0 0 0 0 (x.tdiv 60000000000) ((x.tmod 60000000000).tdiv 1000000000) (x.tmod 1000000000), .int .i64 0]) := by
 have hy : Bits 900 (-x) := (hx.bits.neg).mono (by decide)
 have y0 : 0 ≤ (-x) := by omega
 have bL4 : Bits 900 86400000000000 := Bits.mono (show W128 86400000000000 by unfold W128; omega).bits (by decide)
 have bL5 : Bits 900 3600000000000 := Bits.mono (show W128 3600000000000 by unfold W128; omega).bits (by decide)
 have bL6 : Bits 900 60000000000 := Bits.mono (show W128 60000000000 by unfold W128; omega).bits (by decide)
 have bL7 : Bits 900 1000000000 := Bits.mono (show W128 1000000000 by unfold W128; omega).bits (by decide)
 have bL8 : Bits 900 1 := Bits.mono (show W128 1 by unfold W128; omega).bits (by decide)
 have j1 : I64 86400000000000 := by unfold I64; omega
 have j2 : I64 3600000000000 := by unfold I64; omega
 have j3 : I64 60000000000 := by unfold I64; omega
 have j4 : I64 1000000000 := by unfold I64; omega
 have j5 : I64 1 := by unfold I64; omega
 have j0 : I64 0 := by unfold I64; omega
 have fa : ∀ p : ZQ, FnZ 130 [(p, x)] [zv p] zv (-x) := fun p => by
  have t := fzabs p x (hx.bits.fit (by decide))
  rwa [show ((x.natAbs : Nat) : Int) = -x by omega] at t
 have d0 : ∀ p q : ZQ, FnZZ 75 [(p, (-x)), (q, 60000000000)] [zv p, zv q] (fun q => .tuple #[zv q.1, zv q.2]) ((-x).tdiv 60000000000) ((-x).tmod 60000000000) := fun p q => zdt p q (-x) 60000000000 y0 hy (by omega) bL6
 have d1 : ∀ p q : ZQ, FnZZ 75 [(p, (-x).tmod 60000000000), (q, 1000000000)] [zv p, zv q] (fun q => .tuple #[zv q.1, zv q.2]) (((-x).tmod 60000000000).tdiv 1000000000) ((-x).tmod 1000000000) := fun p q => zdc p q (-x) 60000000000 1000000000 y0 (by omega) bL6 (by omega) bL7 (by decide)
 have d2 : ∀ p q : ZQ, FnZZ 75 [(p, (-x).tmod 1000000000), (q, 1)] [zv p, zv q] (fun q => .tuple #[zv q.1, zv q.2]) (((-x).tmod 1000000000).tdiv 1) ((-x).tmod 1) := fun p q => zdc p q (-x) 1000000000 1 y0 (by omega) bL7 (by omega) bL8 (by decide)
 have g7 : I64 ((x.tmod 60000000000).tdiv 1000000000) := by have := td2 x 60000000000 1000000000 60 (by decide) (by omega) (by omega); unfold I64; omega
 have g8 : I64 (x.tmod 1000000000) := by
  obtain ⟨e1, e2, e3⟩ := td x 1000000000 (by omega)
  by_cases z : 0 ≤ x
  ·have := e2 z; unfold I64; omega
  ·have := e3 (by omega); unfold I64; omega
 have n0 : ∀ p : ZQ, FnZ 88 [(p, (-x).tdiv 60000000000)] [zv p] zv (x.tdiv 60000000000) := fun p => by
  have t := zng p ((-x).tdiv 60000000000) (tdvb (-x) 60000000000 y0 hy (by omega))
  rwa [show -((-x).tdiv 60000000000) = (x.tdiv 60000000000) by rw [Int.neg_tdiv, Int.neg_neg]] at t
 have f0 : ∀ p : ZQ, Fn 36 [(p, (x.tdiv 60000000000))] [zv p] (.tuple #[.int .i64 (x.tdiv 60000000000), .bool true]) := fun p => by
  have t := fits_f p (x.tdiv 60000000000) (g.w.bits.mono (by decide)) g
  exact t
 have n1 : ∀ p : ZQ, FnZ 88 [(p, ((-x).tmod 60000000000).tdiv 1000000000)] [zv p] zv ((x.tmod 60000000000).tdiv 1000000000) := fun p => by
  have t := zng p (((-x).tmod 60000000000).tdiv 1000000000) (tdvb _ 1000000000 (tmod_nb (-x) 60000000000 y0 (by omega) bL6).1 (tmod_nb (-x) 60000000000 y0 (by omega) bL6).2 (by omega))
  rwa [show -(((-x).tmod 60000000000).tdiv 1000000000) = ((x.tmod 60000000000).tdiv 1000000000) by rw [Int.neg_tmod, Int.neg_tdiv, Int.neg_neg]] at t
 have f1 : ∀ p : ZQ, Fn 36 [(p, ((x.tmod 60000000000).tdiv 1000000000))] [zv p] (.tuple #[.int .i64 ((x.tmod 60000000000).tdiv 1000000000), .bool true]) := fun p => by
  have t := fits_f p ((x.tmod 60000000000).tdiv 1000000000) (g7.w.bits.mono (by decide)) g7
  exact t
 have n2 : ∀ p : ZQ, FnZ 88 [(p, ((-x).tmod 1000000000).tdiv 1)] [zv p] zv (x.tmod 1000000000) := fun p => by
  have t := zng p (((-x).tmod 1000000000).tdiv 1) (tdvb _ 1 (tmod_nb (-x) 1000000000 y0 (by omega) bL7).1 (tmod_nb (-x) 1000000000 y0 (by omega) bL7).2 (by omega))
  rwa [show -(((-x).tmod 1000000000).tdiv 1) = (x.tmod 1000000000) by rw [Int.neg_tmod, Int.neg_tdiv, Int.neg_neg, tdiv_1]] at t
 have f2 : ∀ p : ZQ, Fn 36 [(p, (x.tmod 1000000000))] [zv p] (.tuple #[.int .i64 (x.tmod 1000000000), .bool true]) := fun p => by
  have t := fits_f p (x.tmod 1000000000) (g8.w.bits.mono (by decide)) g8
  exact t
 have r := zuright_y 0 0 0 0 0 (x.tdiv 60000000000) ((x.tmod 60000000000).tdiv 1000000000) (x.tmod 1000000000) ⟨j0, j0, j0, j0, j0, g, g7, g8⟩ k
 refine fn_of Tryz.func110 rfl fun ww => ?_
 refine st_know (p := p.n = true) (fun w hw => by rw [z_neg (hw (p, x) (by simp))]; simp; omega) fun hn => ?_
 clear hy y0 g hx k
 refine qF ent85 (zulen6) ?_
 refine st_g ent130 (fa (p)) (subC 0 rfl sub0) (by kernel_rfl) (fun zq1 => ?_)
 refine st_round (by kernel_rfl) ?_
 refine qF ent85 (zulen6) ?_
 refine qZ ent11 (fzint (60000000000) (by assumption)) fun zq3 => ?_
 refine st_g ent75 (d0 (zq1) (zq3)) (subC 1 rfl (subC 0 rfl sub0)) (by kernel_rfl) (fun zq4 => ?_)
 refine qV 34 (show (p.n) = true by assumption) ?_
 refine st_g ent88 (n0 (zq4.fst)) (subC 0 rfl sub0) (by kernel_rfl) (fun zq5 => ?_)
 refine st_fn ent36 (f0 (zq5)) (subC 0 rfl sub0) (by kernel_rfl) ?_
 refine qI 46 (6 - 1) ?_
 refine qI 24 (6 + 1) ?_
 refine st_round (by kernel_rfl) ?_
 refine qF ent85 (zulen7) ?_
 refine qZ ent11 (fzint (1000000000) (by assumption)) fun zq8 => ?_
 refine st_g ent75 (d1 (zq4.snd) (zq8)) (subC 3 rfl (subC 0 rfl sub0)) (by kernel_rfl) (fun zq9 => ?_)
 refine qV 34 (show (p.n) = true by assumption) ?_
 refine st_g ent88 (n1 (zq9.fst)) (subC 0 rfl sub0) (by kernel_rfl) (fun zq10 => ?_)
 refine st_fn ent36 (f1 (zq10)) (subC 0 rfl sub0) (by kernel_rfl) ?_
 refine qI 46 (6 + 1 - 1) ?_
 refine qI 24 (6 + 1 + 1) ?_
 refine st_round (by kernel_rfl) ?_
 refine qF ent85 (zulen8) ?_
 refine qZ ent11 (fzint (1) (by assumption)) fun zq13 => ?_
 refine st_g ent75 (d2 (zq9.snd) (zq13)) (subC 3 rfl (subC 0 rfl sub0)) (by kernel_rfl) (fun zq14 => ?_)
 refine qV 34 (show (p.n) = true by assumption) ?_
 refine st_g ent88 (n2 (zq14.fst)) (subC 0 rfl sub0) (by kernel_rfl) (fun zq15 => ?_)
 refine st_fn ent36 (f2 (zq15)) (subC 0 rfl sub0) (by kernel_rfl) ?_
 refine qI 46 (6 + 1 + 1 - 1) ?_
 refine qI 24 (6 + 1 + 1 + 1) ?_
 refine st_round (by kernel_rfl) ?_
 refine qF ent156 (zumade (0) (0) (0) (0) (0) (x.tdiv 60000000000) ((x.tmod 60000000000).tdiv 1000000000) (x.tmod 1000000000)) ?_
 refine qF ent89 (r) ?_
 exact qR Tryz.func110
theorem zulay7p_y (p : ZQ) (x : Int) (hx : W128 x) (h0 : 0 ≤ x) (g : I64 (x.tdiv 1000000000)) (k : uOk 0 0 0 0 0 0 (x.tdiv 1000000000) (x.tmod 1000000000)) : Fn 110 [(p, x)] [zv p, .int .i64 7] (.tuple #[duv 0 0 0 0 0 0 (x.tdiv 1000000000) (x.tmod 1000000000), .int .i64 0]) := by
 have hy : Bits 900 x := hx.bits.mono (by decide)
 have y0 : 0 ≤ x := by omega
 have bL4 : Bits 900 86400000000000 := Bits.mono (show W128 86400000000000 by unfold W128; omega).bits (by decide)
 have bL5 : Bits 900 3600000000000 := Bits.mono (show W128 3600000000000 by unfold W128; omega).bits (by decide)
 have bL6 : Bits 900 60000000000 := Bits.mono (show W128 60000000000 by unfold W128; omega).bits (by decide)
 have bL7 : Bits 900 1000000000 := Bits.mono (show W128 1000000000 by unfold W128; omega).bits (by decide)
 have bL8 : Bits 900 1 := Bits.mono (show W128 1 by unfold W128; omega).bits (by decide)
 have j1 : I64 86400000000000 := by unfold I64; omega
 have j2 : I64 3600000000000 := by unfold I64; omega
 have j3 : I64 60000000000 := by unfold I64; omega
 have j4 : I64 1000000000 := by unfold I64; omega
 have j5 : I64 1 := by unfold I64; omega
 have j0 : I64 0 := by unfold I64; omega
 have fa : ∀ p : ZQ, FnZ 130 [(p, x)] [zv p] zv x := fun p => by
  have t := fzabs p x (hx.bits.fit (by decide))
  rwa [show ((x.natAbs : Nat) : Int) = x by omega] at t
 have d0 : ∀ p q : ZQ, FnZZ 75 [(p, x), (q, 1000000000)] [zv p, zv q] (fun q => .tuple #[zv q.1, zv q.2]) (x.tdiv 1000000000) (x.tmod 1000000000) := fun p q => zdt p q x 1000000000 y0 hy (by omega) bL7
 have d1 : ∀ p q : ZQ, FnZZ 75 [(p, x.tmod 1000000000), (q, 1)] [zv p, zv q] (fun q => .tuple #[zv q.1, zv q.2]) ((x.tmod 1000000000).tdiv 1) (x.tmod 1) := fun p q => zdc p q x 1000000000 1 y0 (by omega) bL7 (by omega) bL8 (by decide)
 have g8 : I64 (x.tmod 1000000000) := by
  obtain ⟨e1, e2, e3⟩ := td x 1000000000 (by omega)
  by_cases z : 0 ≤ x
  ·have := e2 z; unfold I64; omega
  ·have := e3 (by omega); unfold I64; omega
 have f0 : ∀ p : ZQ, Fn 36 [(p, x.tdiv 1000000000)] [zv p] (.tuple #[.int .i64 (x.tdiv 1000000000), .bool true]) := fun p => by
  have t := fits_f p (x.tdiv 1000000000) (g.w.bits.mono (by decide)) g
  exact t
 have f1 : ∀ p : ZQ, Fn 36 [(p, (x.tmod 1000000000).tdiv 1)] [zv p] (.tuple #[.int .i64 (x.tmod 1000000000), .bool true]) := fun p => by
  have t := fits_f p (x.tmod 1000000000) (g8.w.bits.mono (by decide)) g8
  simpa only [tdiv_1] using t
 have r := zuright_y 0 0 0 0 0 0 (x.tdiv 1000000000) (x.tmod 1000000000) ⟨j0, j0, j0, j0, j0, j0, g, g8⟩ k
 refine fn_of Tryz.func110 rfl fun ww => ?_
 refine st_know (p := p.n = false) (fun w hw => by rw [z_neg (hw (p, x) (by simp))]; simp; omega) fun hn => ?_
 clear hy y0 g hx k
 refine qF ent85 (zulen7) ?_
 refine st_g ent130 (fa (p)) (subC 0 rfl sub0) (by kernel_rfl) (fun zq1 => ?_)
 refine st_round (by kernel_rfl) ?_
 refine qF ent85 (zulen7) ?_
 refine qZ ent11 (fzint (1000000000) (by assumption)) fun zq3 => ?_
 refine st_g ent75 (d0 (zq1) (zq3)) (subC 1 rfl (subC 0 rfl sub0)) (by kernel_rfl) (fun zq4 => ?_)
 refine qV 34 (show (p.n) = false by assumption) ?_
 refine st_fn ent36 (f0 (zq4.fst)) (subC 0 rfl sub0) (by kernel_rfl) ?_
 refine qI 46 (7 - 1) ?_
 refine qI 24 (7 + 1) ?_
 refine st_round (by kernel_rfl) ?_
 refine qF ent85 (zulen8) ?_
 refine qZ ent11 (fzint (1) (by assumption)) fun zq7 => ?_
 refine st_g ent75 (d1 (zq4.snd) (zq7)) (subC 2 rfl (subC 0 rfl sub0)) (by kernel_rfl) (fun zq8 => ?_)
 refine qV 34 (show (p.n) = false by assumption) ?_
 refine st_fn ent36 (f1 (zq8.fst)) (subC 0 rfl sub0) (by kernel_rfl) ?_
 refine qI 46 (7 + 1 - 1) ?_
 refine qI 24 (7 + 1 + 1) ?_
 refine st_round (by kernel_rfl) ?_
 refine qF ent156 (zumade (0) (0) (0) (0) (0) (0) (x.tdiv 1000000000) (x.tmod 1000000000)) ?_
 refine qF ent89 (r) ?_
 exact qR Tryz.func110
theorem zulay7n_y (p : ZQ) (x : Int) (hx : W128 x) (h0 : x < 0) (g : I64 (x.tdiv 1000000000)) (k : uOk 0 0 0 0 0 0 (x.tdiv 1000000000) (x.tmod 1000000000)) : Fn 110 [(p, x)] [zv p, .int .i64 7] (.tuple #[duv 0 0 0 0 0 0 (x.tdiv 1000000000) (x.tmod 1000000000), .int .i64 0]) := by
 have hy : Bits 900 (-x) := (hx.bits.neg).mono (by decide)
 have y0 : 0 ≤ (-x) := by omega
 have bL4 : Bits 900 86400000000000 := Bits.mono (show W128 86400000000000 by unfold W128; omega).bits (by decide)
 have bL5 : Bits 900 3600000000000 := Bits.mono (show W128 3600000000000 by unfold W128; omega).bits (by decide)
 have bL6 : Bits 900 60000000000 := Bits.mono (show W128 60000000000 by unfold W128; omega).bits (by decide)
 have bL7 : Bits 900 1000000000 := Bits.mono (show W128 1000000000 by unfold W128; omega).bits (by decide)
 have bL8 : Bits 900 1 := Bits.mono (show W128 1 by unfold W128; omega).bits (by decide)
 have j1 : I64 86400000000000 := by unfold I64; omega
 have j2 : I64 3600000000000 := by unfold I64; omega
 have j3 : I64 60000000000 := by unfold I64; omega
 have j4 : I64 1000000000 := by unfold I64; omega
 have j5 : I64 1 := by unfold I64; omega
 have j0 : I64 0 := by unfold I64; omega
 have fa : ∀ p : ZQ, FnZ 130 [(p, x)] [zv p] zv (-x) := fun p => by
  have t := fzabs p x (hx.bits.fit (by decide))
  rwa [show ((x.natAbs : Nat) : Int) = -x by omega] at t
 have d0 : ∀ p q : ZQ, FnZZ 75 [(p, (-x)), (q, 1000000000)] [zv p, zv q] (fun q => .tuple #[zv q.1, zv q.2]) ((-x).tdiv 1000000000) ((-x).tmod 1000000000) := fun p q => zdt p q (-x) 1000000000 y0 hy (by omega) bL7
 have d1 : ∀ p q : ZQ, FnZZ 75 [(p, (-x).tmod 1000000000), (q, 1)] [zv p, zv q] (fun q => .tuple #[zv q.1, zv q.2]) (((-x).tmod 1000000000).tdiv 1) ((-x).tmod 1) := fun p q => zdc p q (-x) 1000000000 1 y0 (by omega) bL7 (by omega) bL8 (by decide)
 have g8 : I64 (x.tmod 1000000000) := by
  obtain ⟨e1, e2, e3⟩ := td x 1000000000 (by omega)
  by_cases z : 0 ≤ x
  ·have := e2 z; unfold I64; omega
  ·have := e3 (by omega); unfold I64; omega
 have n0 : ∀ p : ZQ, FnZ 88 [(p, (-x).tdiv 1000000000)] [zv p] zv (x.tdiv 1000000000) := fun p => by
  have t := zng p ((-x).tdiv 1000000000) (tdvb (-x) 1000000000 y0 hy (by omega))
  rwa [show -((-x).tdiv 1000000000) = (x.tdiv 1000000000) by rw [Int.neg_tdiv, Int.neg_neg]] at t
 have f0 : ∀ p : ZQ, Fn 36 [(p, (x.tdiv 1000000000))] [zv p] (.tuple #[.int .i64 (x.tdiv 1000000000), .bool true]) := fun p => by
  have t := fits_f p (x.tdiv 1000000000) (g.w.bits.mono (by decide)) g
  exact t
 have n1 : ∀ p : ZQ, FnZ 88 [(p, ((-x).tmod 1000000000).tdiv 1)] [zv p] zv (x.tmod 1000000000) := fun p => by
  have t := zng p (((-x).tmod 1000000000).tdiv 1) (tdvb _ 1 (tmod_nb (-x) 1000000000 y0 (by omega) bL7).1 (tmod_nb (-x) 1000000000 y0 (by omega) bL7).2 (by omega))
  rwa [show -(((-x).tmod 1000000000).tdiv 1) = (x.tmod 1000000000) by rw [Int.neg_tmod, Int.neg_tdiv, Int.neg_neg, tdiv_1]] at t
 have f1 : ∀ p : ZQ, Fn 36 [(p, (x.tmod 1000000000))] [zv p] (.tuple #[.int .i64 (x.tmod 1000000000), .bool true]) := fun p => by
  have t := fits_f p (x.tmod 1000000000) (g8.w.bits.mono (by decide)) g8
  exact t
 have r := zuright_y 0 0 0 0 0 0 (x.tdiv 1000000000) (x.tmod 1000000000) ⟨j0, j0, j0, j0, j0, j0, g, g8⟩ k
 refine fn_of Tryz.func110 rfl fun ww => ?_
 refine st_know (p := p.n = true) (fun w hw => by rw [z_neg (hw (p, x) (by simp))]; simp; omega) fun hn => ?_
 clear hy y0 g hx k
 refine qF ent85 (zulen7) ?_
 refine st_g ent130 (fa (p)) (subC 0 rfl sub0) (by kernel_rfl) (fun zq1 => ?_)
 refine st_round (by kernel_rfl) ?_
 refine qF ent85 (zulen7) ?_
 refine qZ ent11 (fzint (1000000000) (by assumption)) fun zq3 => ?_
 refine st_g ent75 (d0 (zq1) (zq3)) (subC 1 rfl (subC 0 rfl sub0)) (by kernel_rfl) (fun zq4 => ?_)
 refine qV 34 (show (p.n) = true by assumption) ?_
 refine st_g ent88 (n0 (zq4.fst)) (subC 0 rfl sub0) (by kernel_rfl) (fun zq5 => ?_)
 refine st_fn ent36 (f0 (zq5)) (subC 0 rfl sub0) (by kernel_rfl) ?_
 refine qI 46 (7 - 1) ?_
 refine qI 24 (7 + 1) ?_
 refine st_round (by kernel_rfl) ?_
 refine qF ent85 (zulen8) ?_
 refine qZ ent11 (fzint (1) (by assumption)) fun zq8 => ?_
 refine st_g ent75 (d1 (zq4.snd) (zq8)) (subC 3 rfl (subC 0 rfl sub0)) (by kernel_rfl) (fun zq9 => ?_)
 refine qV 34 (show (p.n) = true by assumption) ?_
 refine st_g ent88 (n1 (zq9.fst)) (subC 0 rfl sub0) (by kernel_rfl) (fun zq10 => ?_)
 refine st_fn ent36 (f1 (zq10)) (subC 0 rfl sub0) (by kernel_rfl) ?_
 refine qI 46 (7 + 1 - 1) ?_
 refine qI 24 (7 + 1 + 1) ?_
 refine st_round (by kernel_rfl) ?_
 refine qF ent156 (zumade (0) (0) (0) (0) (0) (0) (x.tdiv 1000000000) (x.tmod 1000000000)) ?_
 refine qF ent89 (r) ?_
 exact qR Tryz.func110
theorem zulay8p_y (p : ZQ) (x : Int) (hx : W128 x) (h0 : 0 ≤ x) (g : I64 x) (k : uOk 0 0 0 0 0 0 0 x) : Fn 110 [(p, x)] [zv p, .int .i64 8] (.tuple #[duv 0 0 0 0 0 0 0 x, .int .i64 0]) := by
 have hy : Bits 900 x := hx.bits.mono (by decide)
 have y0 : 0 ≤ x := by omega
 have bL4 : Bits 900 86400000000000 := Bits.mono (show W128 86400000000000 by unfold W128; omega).bits (by decide)
 have bL5 : Bits 900 3600000000000 := Bits.mono (show W128 3600000000000 by unfold W128; omega).bits (by decide)
 have bL6 : Bits 900 60000000000 := Bits.mono (show W128 60000000000 by unfold W128; omega).bits (by decide)
 have bL7 : Bits 900 1000000000 := Bits.mono (show W128 1000000000 by unfold W128; omega).bits (by decide)
 have bL8 : Bits 900 1 := Bits.mono (show W128 1 by unfold W128; omega).bits (by decide)
 have j1 : I64 86400000000000 := by unfold I64; omega
 have j2 : I64 3600000000000 := by unfold I64; omega
 have j3 : I64 60000000000 := by unfold I64; omega
 have j4 : I64 1000000000 := by unfold I64; omega
 have j5 : I64 1 := by unfold I64; omega
 have j0 : I64 0 := by unfold I64; omega
 have fa : ∀ p : ZQ, FnZ 130 [(p, x)] [zv p] zv x := fun p => by
  have t := fzabs p x (hx.bits.fit (by decide))
  rwa [show ((x.natAbs : Nat) : Int) = x by omega] at t
 have d0 : ∀ p q : ZQ, FnZZ 75 [(p, x), (q, 1)] [zv p, zv q] (fun q => .tuple #[zv q.1, zv q.2]) (x.tdiv 1) (x.tmod 1) := fun p q => zdt p q x 1 y0 hy (by omega) bL8
 have f0 : ∀ p : ZQ, Fn 36 [(p, x.tdiv 1)] [zv p] (.tuple #[.int .i64 x, .bool true]) := fun p => by
  have t := fits_f p x (g.w.bits.mono (by decide)) g
  simpa only [tdiv_1] using t
 have r := zuright_y 0 0 0 0 0 0 0 x ⟨j0, j0, j0, j0, j0, j0, j0, g⟩ k
 refine fn_of Tryz.func110 rfl fun ww => ?_
 refine st_know (p := p.n = false) (fun w hw => by rw [z_neg (hw (p, x) (by simp))]; simp; omega) fun hn => ?_
 clear hy y0 g hx k
 refine qF ent85 (zulen8) ?_
 refine st_g ent130 (fa (p)) (subC 0 rfl sub0) (by kernel_rfl) (fun zq1 => ?_)
 refine st_round (by kernel_rfl) ?_
 refine qF ent85 (zulen8) ?_
 refine qZ ent11 (fzint (1) (by assumption)) fun zq3 => ?_
 refine st_g ent75 (d0 (zq1) (zq3)) (subC 1 rfl (subC 0 rfl sub0)) (by kernel_rfl) (fun zq4 => ?_)
 refine qV 34 (show (p.n) = false by assumption) ?_
 refine st_fn ent36 (f0 (zq4.fst)) (subC 0 rfl sub0) (by kernel_rfl) ?_
 refine qI 46 (8 - 1) ?_
 refine qI 24 (8 + 1) ?_
 refine st_round (by kernel_rfl) ?_
 refine qF ent156 (zumade (0) (0) (0) (0) (0) (0) (0) (x)) ?_
 refine qF ent89 (r) ?_
 exact qR Tryz.func110
theorem zulay8p_o (p : ZQ) (x : Int) (hx : W128 x) (h0 : 0 ≤ x) (g : ¬ I64 x) : Fn 110 [(p, x)] [zv p, .int .i64 8] (.tuple #[du0, .int .i64 4]) := by
 have hy : Bits 900 x := hx.bits.mono (by decide)
 have y0 : 0 ≤ x := by omega
 have bL4 : Bits 900 86400000000000 := Bits.mono (show W128 86400000000000 by unfold W128; omega).bits (by decide)
 have bL5 : Bits 900 3600000000000 := Bits.mono (show W128 3600000000000 by unfold W128; omega).bits (by decide)
 have bL6 : Bits 900 60000000000 := Bits.mono (show W128 60000000000 by unfold W128; omega).bits (by decide)
 have bL7 : Bits 900 1000000000 := Bits.mono (show W128 1000000000 by unfold W128; omega).bits (by decide)
 have bL8 : Bits 900 1 := Bits.mono (show W128 1 by unfold W128; omega).bits (by decide)
 have j1 : I64 86400000000000 := by unfold I64; omega
 have j2 : I64 3600000000000 := by unfold I64; omega
 have j3 : I64 60000000000 := by unfold I64; omega
 have j4 : I64 1000000000 := by unfold I64; omega
 have j5 : I64 1 := by unfold I64; omega
 have j0 : I64 0 := by unfold I64; omega
 have fa : ∀ p : ZQ, FnZ 130 [(p, x)] [zv p] zv x := fun p => by
  have t := fzabs p x (hx.bits.fit (by decide))
  rwa [show ((x.natAbs : Nat) : Int) = x by omega] at t
 have d0 : ∀ p q : ZQ, FnZZ 75 [(p, x), (q, 1)] [zv p, zv q] (fun q => .tuple #[zv q.1, zv q.2]) (x.tdiv 1) (x.tmod 1) := fun p q => zdt p q x 1 y0 hy (by omega) bL8
 have f0 : ∀ p : ZQ, Fn 36 [(p, x.tdiv 1)] [zv p] (.tuple #[.int .i64 0, .bool false]) := fun p => by
  have t := fits_n p x (hy.mono (by decide)) g
  simpa only [tdiv_1] using t
 refine fn_of Tryz.func110 rfl fun ww => ?_
 refine st_know (p := p.n = false) (fun w hw => by rw [z_neg (hw (p, x) (by simp))]; simp; omega) fun hn => ?_
 clear hy y0 g hx
 refine qF ent85 (zulen8) ?_
 refine st_g ent130 (fa (p)) (subC 0 rfl sub0) (by kernel_rfl) (fun zq1 => ?_)
 refine st_round (by kernel_rfl) ?_
 refine qF ent85 (zulen8) ?_
 refine qZ ent11 (fzint (1) (by assumption)) fun zq3 => ?_
 refine st_g ent75 (d0 (zq1) (zq3)) (subC 1 rfl (subC 0 rfl sub0)) (by kernel_rfl) (fun zq4 => ?_)
 refine qV 34 (show (p.n) = false by assumption) ?_
 refine st_fn ent36 (f0 (zq4.fst)) (subC 0 rfl sub0) (by kernel_rfl) ?_
 exact qR Tryz.func110
theorem zulay8n_y (p : ZQ) (x : Int) (hx : W128 x) (h0 : x < 0) (g : I64 x) (k : uOk 0 0 0 0 0 0 0 x) : Fn 110 [(p, x)] [zv p, .int .i64 8] (.tuple #[duv 0 0 0 0 0 0 0 x, .int .i64 0]) := by
 have hy : Bits 900 (-x) := (hx.bits.neg).mono (by decide)
 have y0 : 0 ≤ (-x) := by omega
 have bL4 : Bits 900 86400000000000 := Bits.mono (show W128 86400000000000 by unfold W128; omega).bits (by decide)
 have bL5 : Bits 900 3600000000000 := Bits.mono (show W128 3600000000000 by unfold W128; omega).bits (by decide)
 have bL6 : Bits 900 60000000000 := Bits.mono (show W128 60000000000 by unfold W128; omega).bits (by decide)
 have bL7 : Bits 900 1000000000 := Bits.mono (show W128 1000000000 by unfold W128; omega).bits (by decide)
 have bL8 : Bits 900 1 := Bits.mono (show W128 1 by unfold W128; omega).bits (by decide)
 have j1 : I64 86400000000000 := by unfold I64; omega
 have j2 : I64 3600000000000 := by unfold I64; omega
 have j3 : I64 60000000000 := by unfold I64; omega
 have j4 : I64 1000000000 := by unfold I64; omega
 have j5 : I64 1 := by unfold I64; omega
 have j0 : I64 0 := by unfold I64; omega
 have fa : ∀ p : ZQ, FnZ 130 [(p, x)] [zv p] zv (-x) := fun p => by
  have t := fzabs p x (hx.bits.fit (by decide))
  rwa [show ((x.natAbs : Nat) : Int) = -x by omega] at t
 have d0 : ∀ p q : ZQ, FnZZ 75 [(p, (-x)), (q, 1)] [zv p, zv q] (fun q => .tuple #[zv q.1, zv q.2]) ((-x).tdiv 1) ((-x).tmod 1) := fun p q => zdt p q (-x) 1 y0 hy (by omega) bL8
 have n0 : ∀ p : ZQ, FnZ 88 [(p, (-x).tdiv 1)] [zv p] zv x := fun p => by
  have t := zng p ((-x).tdiv 1) (tdvb (-x) 1 y0 hy (by omega))
  rwa [show -((-x).tdiv 1) = x by rw [Int.neg_tdiv, Int.neg_neg, tdiv_1]] at t
 have f0 : ∀ p : ZQ, Fn 36 [(p, x)] [zv p] (.tuple #[.int .i64 x, .bool true]) := fun p => by
  have t := fits_f p x (g.w.bits.mono (by decide)) g
  exact t
 have r := zuright_y 0 0 0 0 0 0 0 x ⟨j0, j0, j0, j0, j0, j0, j0, g⟩ k
 refine fn_of Tryz.func110 rfl fun ww => ?_
 refine st_know (p := p.n = true) (fun w hw => by rw [z_neg (hw (p, x) (by simp))]; simp; omega) fun hn => ?_
 clear hy y0 g hx k
 refine qF ent85 (zulen8) ?_
 refine st_g ent130 (fa (p)) (subC 0 rfl sub0) (by kernel_rfl) (fun zq1 => ?_)
 refine st_round (by kernel_rfl) ?_
 refine qF ent85 (zulen8) ?_
 refine qZ ent11 (fzint (1) (by assumption)) fun zq3 => ?_
 refine st_g ent75 (d0 (zq1) (zq3)) (subC 1 rfl (subC 0 rfl sub0)) (by kernel_rfl) (fun zq4 => ?_)
 refine qV 34 (show (p.n) = true by assumption) ?_
 refine st_g ent88 (n0 (zq4.fst)) (subC 0 rfl sub0) (by kernel_rfl) (fun zq5 => ?_)
 refine st_fn ent36 (f0 (zq5)) (subC 0 rfl sub0) (by kernel_rfl) ?_
 refine qI 46 (8 - 1) ?_
 refine qI 24 (8 + 1) ?_
 refine st_round (by kernel_rfl) ?_
 refine qF ent156 (zumade (0) (0) (0) (0) (0) (0) (0) (x)) ?_
 refine qF ent89 (r) ?_
 exact qR Tryz.func110
theorem zulay8n_o (p : ZQ) (x : Int) (hx : W128 x) (h0 : x < 0) (g : ¬ I64 x) : Fn 110 [(p, x)] [zv p, .int .i64 8] (.tuple #[du0, .int .i64 4]) := by
 have hy : Bits 900 (-x) := (hx.bits.neg).mono (by decide)
 have y0 : 0 ≤ (-x) := by omega
 have bL4 : Bits 900 86400000000000 := Bits.mono (show W128 86400000000000 by unfold W128; omega).bits (by decide)
 have bL5 : Bits 900 3600000000000 := Bits.mono (show W128 3600000000000 by unfold W128; omega).bits (by decide)
 have bL6 : Bits 900 60000000000 := Bits.mono (show W128 60000000000 by unfold W128; omega).bits (by decide)
 have bL7 : Bits 900 1000000000 := Bits.mono (show W128 1000000000 by unfold W128; omega).bits (by decide)
 have bL8 : Bits 900 1 := Bits.mono (show W128 1 by unfold W128; omega).bits (by decide)
 have j1 : I64 86400000000000 := by unfold I64; omega
 have j2 : I64 3600000000000 := by unfold I64; omega
 have j3 : I64 60000000000 := by unfold I64; omega
 have j4 : I64 1000000000 := by unfold I64; omega
 have j5 : I64 1 := by unfold I64; omega
 have j0 : I64 0 := by unfold I64; omega
 have fa : ∀ p : ZQ, FnZ 130 [(p, x)] [zv p] zv (-x) := fun p => by
  have t := fzabs p x (hx.bits.fit (by decide))
  rwa [show ((x.natAbs : Nat) : Int) = -x by omega] at t
 have d0 : ∀ p q : ZQ, FnZZ 75 [(p, (-x)), (q, 1)] [zv p, zv q] (fun q => .tuple #[zv q.1, zv q.2]) ((-x).tdiv 1) ((-x).tmod 1) := fun p q => zdt p q (-x) 1 y0 hy (by omega) bL8
 have n0 : ∀ p : ZQ, FnZ 88 [(p, (-x).tdiv 1)] [zv p] zv x := fun p => by
  have t := zng p ((-x).tdiv 1) (tdvb (-x) 1 y0 hy (by omega))
  rwa [show -((-x).tdiv 1) = x by rw [Int.neg_tdiv, Int.neg_neg, tdiv_1]] at t
 have f0 : ∀ p : ZQ, Fn 36 [(p, x)] [zv p] (.tuple #[.int .i64 0, .bool false]) := fun p => by
  have t := fits_n p x (by rw [show x = -((-x).tdiv 1) by rw [Int.neg_tdiv, Int.neg_neg, tdiv_1]]; exact ((tdvb (-x) 1 y0 hy (by omega)).neg).mono (by decide)) g
  exact t
 refine fn_of Tryz.func110 rfl fun ww => ?_
 refine st_know (p := p.n = true) (fun w hw => by rw [z_neg (hw (p, x) (by simp))]; simp; omega) fun hn => ?_
 clear hy y0 g hx
 refine qF ent85 (zulen8) ?_
 refine st_g ent130 (fa (p)) (subC 0 rfl sub0) (by kernel_rfl) (fun zq1 => ?_)
 refine st_round (by kernel_rfl) ?_
 refine qF ent85 (zulen8) ?_
 refine qZ ent11 (fzint (1) (by assumption)) fun zq3 => ?_
 refine st_g ent75 (d0 (zq1) (zq3)) (subC 1 rfl (subC 0 rfl sub0)) (by kernel_rfl) (fun zq4 => ?_)
 refine qV 34 (show (p.n) = true by assumption) ?_
 refine st_g ent88 (n0 (zq4.fst)) (subC 0 rfl sub0) (by kernel_rfl) (fun zq5 => ?_)
 refine st_fn ent36 (f0 (zq5)) (subC 0 rfl sub0) (by kernel_rfl) ?_
 exact qR Tryz.func110
end Go.Proofs.YthoedmikfpbfnaaGreat
end
section
set_option maxRecDepth 100000
namespace Go.Proofs.YthoedmikfpbfnaaGreat
open Go Go.RowKit Go.Ev

section
variable (u x : Int)
abbrev lav (u x : Int) : Value := .tuple #[duv 0 0 0 (l4 u x) (l5 u x) (l6 u x) (l7 u x) (l8 u x), .int .i64 0]
abbrev la4 : Value := .tuple #[du0, .int .i64 4]
theorem ulay_y (hx : W128 x) (k : layOk u x) : Fn 97 [] [wv x, .int .i64 u] (lav u x) := by
 have r := lay_ok k
 obtain ⟨⟨k1, k2⟩, k3, k4⟩ := k
 have r := r.1
 rcases units k1 k2 with rfl | rfl | rfl | rfl | rfl <;> simp only [l4, l5, l6, l7, l8, ulen, lav, Int.reduceEq, Int.reduceLE, if_true, if_false, tdiv_1] at r k4 ⊢
 ·exact ulay4_y x hx k4 r
 ·exact ulay5_y x hx k4 r
 ·exact ulay6_y x hx k4 r
 ·exact ulay7_y x hx k4 r
 ·exact ulay8_y x hx k4 r
variable (p : ZQ)
theorem zulay_y (hx : W128 x) (k : layOk u x) : Fn 110 [(p, x)] [zv p, .int .i64 u] (lav u x) := by
 have r := lay_ok k
 obtain ⟨⟨k1, k2⟩, k3, k4⟩ := k
 have r := r.1
 by_cases h0 : 0 ≤ x
 ·rcases units k1 k2 with rfl | rfl | rfl | rfl | rfl <;> simp only [l4, l5, l6, l7, l8, ulen, lav, Int.reduceEq, Int.reduceLE, if_true, if_false, tdiv_1] at r k4 ⊢
  ·exact zulay4p_y p x hx h0 k4 r
  ·exact zulay5p_y p x hx h0 k4 r
  ·exact zulay6p_y p x hx h0 k4 r
  ·exact zulay7p_y p x hx h0 k4 r
  ·exact zulay8p_y p x hx h0 k4 r
 ·have h0 : x < 0 := by omega
  rcases units k1 k2 with rfl | rfl | rfl | rfl | rfl <;> simp only [l4, l5, l6, l7, l8, ulen, lav, Int.reduceEq, Int.reduceLE, if_true, if_false, tdiv_1] at r k4 ⊢
  ·exact zulay4n_y p x hx h0 k4 r
  ·exact zulay5n_y p x hx h0 k4 r
  ·exact zulay6n_y p x hx h0 k4 r
  ·exact zulay7n_y p x hx h0 k4 r
  ·exact zulay8n_y p x hx h0 k4 r
theorem tdv_ab (x : Int) (L : Nat) : (x.tdiv (L : Int)).natAbs = x.natAbs / L := by
 rw [Int.natAbs_tdiv, Int.natAbs_natCast]; rfl
theorem lay_far {u x : Int} (hs : -100000000000000000000000 ≤ x ∧ x ≤ 100000000000000000000000) (k1 : 4 ≤ u) (k2 : u ≤ 8) (k : ¬ layOk u x) : u = 8 ∧ ¬ I64 x := by
 have t4 : (x.tdiv 86400000000000).natAbs = x.natAbs / 86400000000000 := tdv_ab x 86400000000000
 have t5 : (x.tdiv 3600000000000).natAbs = x.natAbs / 3600000000000 := tdv_ab x 3600000000000
 have t6 : (x.tdiv 60000000000).natAbs = x.natAbs / 60000000000 := tdv_ab x 60000000000
 have t7 : (x.tdiv 1000000000).natAbs = x.natAbs / 1000000000 := tdv_ab x 1000000000
 have l : -LIM < x ∧ x < LIM := by unfold LIM; omega
 rcases units k1 k2 with rfl | rfl | rfl | rfl | rfl
 ·exact absurd ⟨⟨k1, k2⟩, l, by show -9223372036854775808 ≤ x.tdiv 86400000000000 ∧ x.tdiv 86400000000000 ≤ 9223372036854775807; omega⟩ k
 ·exact absurd ⟨⟨k1, k2⟩, l, by show -9223372036854775808 ≤ x.tdiv 3600000000000 ∧ x.tdiv 3600000000000 ≤ 9223372036854775807; omega⟩ k
 ·exact absurd ⟨⟨k1, k2⟩, l, by show -9223372036854775808 ≤ x.tdiv 60000000000 ∧ x.tdiv 60000000000 ≤ 9223372036854775807; omega⟩ k
 ·exact absurd ⟨⟨k1, k2⟩, l, by show -9223372036854775808 ≤ x.tdiv 1000000000 ∧ x.tdiv 1000000000 ≤ 9223372036854775807; omega⟩ k
 ·exact ⟨rfl, fun g => k ⟨⟨k1, k2⟩, l, by show -9223372036854775808 ≤ x.tdiv 1 ∧ x.tdiv 1 ≤ 9223372036854775807; rw [Int.tdiv_one]; exact g⟩⟩
theorem ulay_s (hs : -100000000000000000000000 ≤ x ∧ x ≤ 100000000000000000000000) (k1 : 4 ≤ u) (k2 : u ≤ 8) (k : ¬ layOk u x) : Fn 97 [] [wv x, .int .i64 u] la4 := by
 obtain ⟨rfl, g⟩ := lay_far hs k1 k2 k
 exact ulay8_o x (by unfold W128; omega) g
theorem zulay_s (hs : -100000000000000000000000 ≤ x ∧ x ≤ 100000000000000000000000) (k1 : 4 ≤ u) (k2 : u ≤ 8) (k : ¬ layOk u x) : Fn 110 [(p, x)] [zv p, .int .i64 u] la4 := by
 obtain ⟨rfl, g⟩ := lay_far hs k1 k2 k
 by_cases h0 : 0 ≤ x
 ·exact zulay8p_o p x (by unfold W128; omega) h0 g
 ·exact zulay8n_o p x (by unfold W128; omega) (by omega) g
end
end Go.Proofs.YthoedmikfpbfnaaGreat
end
section
set_option maxRecDepth 100000
namespace Go.Proofs.YthoedmikfpbfnaaGreat
open Go Go.RowKit Go.Ev

section
variable (u i : Int)
theorem uinc : Fn 105 [] [.int .i64 u, .int .i64 i] (.bool (decide (incOk u i))) := by
 by_cases h : 4 ≤ u ∧ u ≤ 8
 ·by_cases k : 1 ≤ i
  ·rcases units h.1 h.2 with rfl | rfl | rfl | rfl | rfl
   ·refine fn_of Tryz.func105 rfl fun ww => ?_
    refine qY 9 (decide (i ≥ 1)) ?_
    exact st_retv Tryz.func105 (show Value.bool (decide (i ≤ 1000000000)) = _ by (refine b_eq (decide_eq_decide.2 ?_); unfold incOk; omega)) (by kernel_rfl)
   ·by_cases l : i < 24
    ·refine fn_of Tryz.func105 rfl fun ww => ?_
     refine qI 22 (5 - 5) ?_
     refine qY 25 (decide (i ≥ 1)) ?_
     refine qY 29 (decide (i < 24)) ?_
     refine st_div 33 (fun w => rem_run (T := 2) (k := IntKind.i64) (x := 24) (y := i) (by omega) w) (by kernel_rfl) ?_
     exact st_retv Tryz.func105 (show Value.bool (Int.tmod 24 i == 0) = _ by (refine b_eq ?_; rw [Bool.eq_iff_iff, beq_iff_eq, decide_eq_true_iff]; unfold incOk; omega)) (by kernel_rfl)
    ·refine fn_of Tryz.func105 rfl fun ww => ?_
     refine qI 22 (5 - 5) ?_
     refine qY 25 (decide (i ≥ 1)) ?_
     refine qN 29 (decide (i < 24)) ?_
     exact st_retv Tryz.func105 (show Value.bool (false) = _ by (refine b_eq (decide_eq_false ?_).symm; unfold incOk; omega)) (by kernel_rfl)
   ·by_cases l : i < 60
    ·refine fn_of Tryz.func105 rfl fun ww => ?_
     refine qI 22 (6 - 5) ?_
     refine qY 25 (decide (i ≥ 1)) ?_
     refine qY 29 (decide (i < 60)) ?_
     refine st_div 33 (fun w => rem_run (T := 2) (k := IntKind.i64) (x := 60) (y := i) (by omega) w) (by kernel_rfl) ?_
     exact st_retv Tryz.func105 (show Value.bool (Int.tmod 60 i == 0) = _ by (refine b_eq ?_; rw [Bool.eq_iff_iff, beq_iff_eq, decide_eq_true_iff]; unfold incOk; omega)) (by kernel_rfl)
    ·refine fn_of Tryz.func105 rfl fun ww => ?_
     refine qI 22 (6 - 5) ?_
     refine qY 25 (decide (i ≥ 1)) ?_
     refine qN 29 (decide (i < 60)) ?_
     exact st_retv Tryz.func105 (show Value.bool (false) = _ by (refine b_eq (decide_eq_false ?_).symm; unfold incOk; omega)) (by kernel_rfl)
   ·by_cases l : i < 60
    ·refine fn_of Tryz.func105 rfl fun ww => ?_
     refine qI 22 (7 - 5) ?_
     refine qY 25 (decide (i ≥ 1)) ?_
     refine qY 29 (decide (i < 60)) ?_
     refine st_div 33 (fun w => rem_run (T := 2) (k := IntKind.i64) (x := 60) (y := i) (by omega) w) (by kernel_rfl) ?_
     exact st_retv Tryz.func105 (show Value.bool (Int.tmod 60 i == 0) = _ by (refine b_eq ?_; rw [Bool.eq_iff_iff, beq_iff_eq, decide_eq_true_iff]; unfold incOk; omega)) (by kernel_rfl)
    ·refine fn_of Tryz.func105 rfl fun ww => ?_
     refine qI 22 (7 - 5) ?_
     refine qY 25 (decide (i ≥ 1)) ?_
     refine qN 29 (decide (i < 60)) ?_
     exact st_retv Tryz.func105 (show Value.bool (false) = _ by (refine b_eq (decide_eq_false ?_).symm; unfold incOk; omega)) (by kernel_rfl)
   ·by_cases l : i < 1000000000
    ·refine fn_of Tryz.func105 rfl fun ww => ?_
     refine qI 22 (8 - 5) ?_
     refine qY 25 (decide (i ≥ 1)) ?_
     refine qY 29 (decide (i < 1000000000)) ?_
     refine st_div 33 (fun w => rem_run (T := 2) (k := IntKind.i64) (x := 1000000000) (y := i) (by omega) w) (by kernel_rfl) ?_
     exact st_retv Tryz.func105 (show Value.bool (Int.tmod 1000000000 i == 0) = _ by (refine b_eq ?_; rw [Bool.eq_iff_iff, beq_iff_eq, decide_eq_true_iff]; unfold incOk; omega)) (by kernel_rfl)
    ·refine fn_of Tryz.func105 rfl fun ww => ?_
     refine qI 22 (8 - 5) ?_
     refine qY 25 (decide (i ≥ 1)) ?_
     refine qN 29 (decide (i < 1000000000)) ?_
     exact st_retv Tryz.func105 (show Value.bool (false) = _ by (refine b_eq (decide_eq_false ?_).symm; unfold incOk; omega)) (by kernel_rfl)
  ·rcases units h.1 h.2 with rfl | rfl | rfl | rfl | rfl
   ·refine fn_of Tryz.func105 rfl fun ww => ?_
    refine qN 9 (decide (i ≥ 1)) ?_
    exact st_retv Tryz.func105 (show Value.bool (false) = _ by (refine b_eq (decide_eq_false ?_).symm; unfold incOk; omega)) (by kernel_rfl)
   ·refine fn_of Tryz.func105 rfl fun ww => ?_
    refine qI 22 (5 - 5) ?_
    refine qN 25 (decide (i ≥ 1)) ?_
    exact st_retv Tryz.func105 (show Value.bool (false) = _ by (refine b_eq (decide_eq_false ?_).symm; unfold incOk; omega)) (by kernel_rfl)
   ·refine fn_of Tryz.func105 rfl fun ww => ?_
    refine qI 22 (6 - 5) ?_
    refine qN 25 (decide (i ≥ 1)) ?_
    exact st_retv Tryz.func105 (show Value.bool (false) = _ by (refine b_eq (decide_eq_false ?_).symm; unfold incOk; omega)) (by kernel_rfl)
   ·refine fn_of Tryz.func105 rfl fun ww => ?_
    refine qI 22 (7 - 5) ?_
    refine qN 25 (decide (i ≥ 1)) ?_
    exact st_retv Tryz.func105 (show Value.bool (false) = _ by (refine b_eq (decide_eq_false ?_).symm; unfold incOk; omega)) (by kernel_rfl)
   ·refine fn_of Tryz.func105 rfl fun ww => ?_
    refine qI 22 (8 - 5) ?_
    refine qN 25 (decide (i ≥ 1)) ?_
    exact st_retv Tryz.func105 (show Value.bool (false) = _ by (refine b_eq (decide_eq_false ?_).symm; unfold incOk; omega)) (by kernel_rfl)
 ·by_cases k : u < 4
  ·refine fn_of Tryz.func105 rfl fun ww => ?_
   refine qN 7 (u == 4) ?_
   refine qY 15 (decide (u < 4)) ?_
   exact st_retv Tryz.func105 (show Value.bool (false) = _ by (refine b_eq (decide_eq_false ?_).symm; unfold incOk; omega)) (by kernel_rfl)
  ·have k' : 8 < u := by omega
   refine fn_of Tryz.func105 rfl fun ww => ?_
   refine qN 7 (u == 4) ?_
   refine qN 15 (decide (u < 4)) ?_
   refine qY 18 (decide (u > 8)) ?_
   exact st_retv Tryz.func105 (show Value.bool (false) = _ by (refine b_eq (decide_eq_false ?_).symm; unfold incOk; omega)) (by kernel_rfl)
theorem zuinc : Fn 52 [] [.int .i64 u, .int .i64 i] (.bool (decide (incOk u i))) := by
 by_cases h : 4 ≤ u ∧ u ≤ 8
 ·by_cases k : 1 ≤ i
  ·rcases units h.1 h.2 with rfl | rfl | rfl | rfl | rfl
   ·refine fn_of Tryz.func52 rfl fun ww => ?_
    refine qY 10 (decide (i ≥ 1)) ?_
    exact st_retv Tryz.func52 (show Value.bool (decide (i ≤ 1000000000)) = _ by (refine b_eq (decide_eq_decide.2 ?_); unfold incOk; omega)) (by kernel_rfl)
   ·by_cases l : i < 24
    ·refine fn_of Tryz.func52 rfl fun ww => ?_
     refine qY 23 (decide (i ≥ 1)) ?_
     refine qY 27 (decide (i < 24)) ?_
     refine st_div 31 (fun w => rem_run (T := 2) (k := IntKind.i64) (x := 24) (y := i) (by omega) w) (by kernel_rfl) ?_
     exact st_retv Tryz.func52 (show Value.bool (Int.tmod 24 i == 0) = _ by (refine b_eq ?_; rw [Bool.eq_iff_iff, beq_iff_eq, decide_eq_true_iff]; unfold incOk; omega)) (by kernel_rfl)
    ·refine fn_of Tryz.func52 rfl fun ww => ?_
     refine qY 23 (decide (i ≥ 1)) ?_
     refine qN 27 (decide (i < 24)) ?_
     exact st_retv Tryz.func52 (show Value.bool (false) = _ by (refine b_eq (decide_eq_false ?_).symm; unfold incOk; omega)) (by kernel_rfl)
   ·by_cases l : i < 60
    ·refine fn_of Tryz.func52 rfl fun ww => ?_
     refine qY 23 (decide (i ≥ 1)) ?_
     refine qY 27 (decide (i < 60)) ?_
     refine st_div 31 (fun w => rem_run (T := 2) (k := IntKind.i64) (x := 60) (y := i) (by omega) w) (by kernel_rfl) ?_
     exact st_retv Tryz.func52 (show Value.bool (Int.tmod 60 i == 0) = _ by (refine b_eq ?_; rw [Bool.eq_iff_iff, beq_iff_eq, decide_eq_true_iff]; unfold incOk; omega)) (by kernel_rfl)
    ·refine fn_of Tryz.func52 rfl fun ww => ?_
     refine qY 23 (decide (i ≥ 1)) ?_
     refine qN 27 (decide (i < 60)) ?_
     exact st_retv Tryz.func52 (show Value.bool (false) = _ by (refine b_eq (decide_eq_false ?_).symm; unfold incOk; omega)) (by kernel_rfl)
   ·by_cases l : i < 60
    ·refine fn_of Tryz.func52 rfl fun ww => ?_
     refine qY 23 (decide (i ≥ 1)) ?_
     refine qY 27 (decide (i < 60)) ?_
     refine st_div 31 (fun w => rem_run (T := 2) (k := IntKind.i64) (x := 60) (y := i) (by omega) w) (by kernel_rfl) ?_
     exact st_retv Tryz.func52 (show Value.bool (Int.tmod 60 i == 0) = _ by (refine b_eq ?_; rw [Bool.eq_iff_iff, beq_iff_eq, decide_eq_true_iff]; unfold incOk; omega)) (by kernel_rfl)
    ·refine fn_of Tryz.func52 rfl fun ww => ?_
     refine qY 23 (decide (i ≥ 1)) ?_
     refine qN 27 (decide (i < 60)) ?_
     exact st_retv Tryz.func52 (show Value.bool (false) = _ by (refine b_eq (decide_eq_false ?_).symm; unfold incOk; omega)) (by kernel_rfl)
   ·by_cases l : i < 1000000000
    ·refine fn_of Tryz.func52 rfl fun ww => ?_
     refine qY 23 (decide (i ≥ 1)) ?_
     refine qY 27 (decide (i < 1000000000)) ?_
     refine st_div 31 (fun w => rem_run (T := 2) (k := IntKind.i64) (x := 1000000000) (y := i) (by omega) w) (by kernel_rfl) ?_
     exact st_retv Tryz.func52 (show Value.bool (Int.tmod 1000000000 i == 0) = _ by (refine b_eq ?_; rw [Bool.eq_iff_iff, beq_iff_eq, decide_eq_true_iff]; unfold incOk; omega)) (by kernel_rfl)
    ·refine fn_of Tryz.func52 rfl fun ww => ?_
     refine qY 23 (decide (i ≥ 1)) ?_
     refine qN 27 (decide (i < 1000000000)) ?_
     exact st_retv Tryz.func52 (show Value.bool (false) = _ by (refine b_eq (decide_eq_false ?_).symm; unfold incOk; omega)) (by kernel_rfl)
  ·rcases units h.1 h.2 with rfl | rfl | rfl | rfl | rfl
   ·refine fn_of Tryz.func52 rfl fun ww => ?_
    refine qN 10 (decide (i ≥ 1)) ?_
    exact st_retv Tryz.func52 (show Value.bool (false) = _ by (refine b_eq (decide_eq_false ?_).symm; unfold incOk; omega)) (by kernel_rfl)
   ·refine fn_of Tryz.func52 rfl fun ww => ?_
    refine qN 23 (decide (i ≥ 1)) ?_
    exact st_retv Tryz.func52 (show Value.bool (false) = _ by (refine b_eq (decide_eq_false ?_).symm; unfold incOk; omega)) (by kernel_rfl)
   ·refine fn_of Tryz.func52 rfl fun ww => ?_
    refine qN 23 (decide (i ≥ 1)) ?_
    exact st_retv Tryz.func52 (show Value.bool (false) = _ by (refine b_eq (decide_eq_false ?_).symm; unfold incOk; omega)) (by kernel_rfl)
   ·refine fn_of Tryz.func52 rfl fun ww => ?_
    refine qN 23 (decide (i ≥ 1)) ?_
    exact st_retv Tryz.func52 (show Value.bool (false) = _ by (refine b_eq (decide_eq_false ?_).symm; unfold incOk; omega)) (by kernel_rfl)
   ·refine fn_of Tryz.func52 rfl fun ww => ?_
    refine qN 23 (decide (i ≥ 1)) ?_
    exact st_retv Tryz.func52 (show Value.bool (false) = _ by (refine b_eq (decide_eq_false ?_).symm; unfold incOk; omega)) (by kernel_rfl)
 ·by_cases k : u < 4
  ·by_cases k2 : 1 ≤ i
   ·refine fn_of Tryz.func52 rfl fun ww => ?_
    refine qN 8 (u == 4) ?_
    refine qN 16 (u == 5) ?_
    refine qN 18 (u == 6) ?_
    refine qN 19 (u == 7) ?_
    refine qN 21 (u == 8) ?_
    refine qY 23 (decide (i ≥ 1)) ?_
    refine qN 27 (decide (i < 0)) ?_
    exact st_retv Tryz.func52 (show Value.bool (false) = _ by (refine b_eq (decide_eq_false ?_).symm; unfold incOk; omega)) (by kernel_rfl)
   ·refine fn_of Tryz.func52 rfl fun ww => ?_
    refine qN 8 (u == 4) ?_
    refine qN 16 (u == 5) ?_
    refine qN 18 (u == 6) ?_
    refine qN 19 (u == 7) ?_
    refine qN 21 (u == 8) ?_
    refine qN 23 (decide (i ≥ 1)) ?_
    exact st_retv Tryz.func52 (show Value.bool (false) = _ by (refine b_eq (decide_eq_false ?_).symm; unfold incOk; omega)) (by kernel_rfl)
  ·have k' : 8 < u := by omega
   by_cases k2 : 1 ≤ i
   ·refine fn_of Tryz.func52 rfl fun ww => ?_
    refine qN 8 (u == 4) ?_
    refine qN 16 (u == 5) ?_
    refine qN 18 (u == 6) ?_
    refine qN 19 (u == 7) ?_
    refine qN 21 (u == 8) ?_
    refine qY 23 (decide (i ≥ 1)) ?_
    refine qN 27 (decide (i < 0)) ?_
    exact st_retv Tryz.func52 (show Value.bool (false) = _ by (refine b_eq (decide_eq_false ?_).symm; unfold incOk; omega)) (by kernel_rfl)
   ·refine fn_of Tryz.func52 rfl fun ww => ?_
    refine qN 8 (u == 4) ?_
    refine qN 16 (u == 5) ?_
    refine qN 18 (u == 6) ?_
    refine qN 19 (u == 7) ?_
    refine qN 21 (u == 8) ?_
    refine qN 23 (decide (i ≥ 1)) ?_
    exact st_retv Tryz.func52 (show Value.bool (false) = _ by (refine b_eq (decide_eq_false ?_).symm; unfold incOk; omega)) (by kernel_rfl)
theorem i64_0 : I64 0 := by unfold I64; omega
theorem I64.w' {x : Int} (h : I64 x) : W128 x := h.w
end
end Go.Proofs.YthoedmikfpbfnaaGreat
end
section
set_option maxRecDepth 100000
namespace Go.Proofs.YthoedmikfpbfnaaGreat
open Go Go.RowKit Go.Ev

abbrev dv0 : Value := dv 0 0 0
section
variable (y m d n T : Int)
theorem creg_cy (m1 : 1 ≤ m) (m2 : m ≤ 12) (d1 : 1 ≤ d) (k : dOk y m (cD y m d)) : Fn 125 [] [.int .i64 y, .int .i64 m, .int .i64 d, .int .i64 1] (.tuple #[dv y m (cD y m d), .int .i64 0]) := by
 have c1 := cmonth y m
 obtain ⟨l, hl⟩ : ∃ l, l = mlen y m := ⟨_, rfl⟩
 have hc : cD y m d = if l < d then l else d := by rw [hl]; rfl
 rw [hc] at k ⊢
 rw [← hl] at c1
 by_cases q : l < d
 ·rw [if_pos q] at k ⊢
  refine fn_of Tryz.func125 rfl fun ww => ?_
  refine st_i 16 IntKind.i64 (x := if 1 > m then 1 else m) (if_neg (by omega)) (by kernel_rfl) ?_
  refine st_i 17 IntKind.i64 (x := if 12 < m then 12 else m) (if_neg (by omega)) (by kernel_rfl) ?_
  refine st_i 19 IntKind.i64 (x := if 1 > d then 1 else d) (if_neg (by omega)) (by kernel_rfl) ?_
  refine qF ent145 (c1) ?_
  refine st_i 23 IntKind.i64 (x := if l < d then l else d) (if_pos q) (by kernel_rfl) ?_
  refine qF ent161 (cright5_yes (y) (m) (l) (by assumption)) ?_
  exact qR Tryz.func125
 ·rw [if_neg q] at k ⊢
  refine fn_of Tryz.func125 rfl fun ww => ?_
  refine st_i 16 IntKind.i64 (x := if 1 > m then 1 else m) (if_neg (by omega)) (by kernel_rfl) ?_
  refine st_i 17 IntKind.i64 (x := if 12 < m then 12 else m) (if_neg (by omega)) (by kernel_rfl) ?_
  refine st_i 19 IntKind.i64 (x := if 1 > d then 1 else d) (if_neg (by omega)) (by kernel_rfl) ?_
  refine qF ent145 (c1) ?_
  refine st_i 23 IntKind.i64 (x := if l < d then l else d) (if_neg q) (by kernel_rfl) ?_
  refine qF ent161 (cright5_yes (y) (m) (d) (by assumption)) ?_
  exact qR Tryz.func125
theorem creg_cn (m1 : 1 ≤ m) (m2 : m ≤ 12) (d1 : 1 ≤ d) (k : ¬ dOk y m (cD y m d)) : Fn 125 [] [.int .i64 y, .int .i64 m, .int .i64 d, .int .i64 1] (.tuple #[dv0, .int .i64 4]) := by
 have c1 := cmonth y m
 obtain ⟨l, hl⟩ : ∃ l, l = mlen y m := ⟨_, rfl⟩
 have hc : cD y m d = if l < d then l else d := by rw [hl]; rfl
 rw [hc] at k
 rw [← hl] at c1
 by_cases q : l < d
 ·rw [if_pos q] at k
  refine fn_of Tryz.func125 rfl fun ww => ?_
  refine st_i 16 IntKind.i64 (x := if 1 > m then 1 else m) (if_neg (by omega)) (by kernel_rfl) ?_
  refine st_i 17 IntKind.i64 (x := if 12 < m then 12 else m) (if_neg (by omega)) (by kernel_rfl) ?_
  refine st_i 19 IntKind.i64 (x := if 1 > d then 1 else d) (if_neg (by omega)) (by kernel_rfl) ?_
  refine qF ent145 (c1) ?_
  refine st_i 23 IntKind.i64 (x := if l < d then l else d) (if_pos q) (by kernel_rfl) ?_
  refine qF ent161 (cright5_no (y) (m) (l) (by assumption)) ?_
  exact qR Tryz.func125
 ·rw [if_neg q] at k
  refine fn_of Tryz.func125 rfl fun ww => ?_
  refine st_i 16 IntKind.i64 (x := if 1 > m then 1 else m) (if_neg (by omega)) (by kernel_rfl) ?_
  refine st_i 17 IntKind.i64 (x := if 12 < m then 12 else m) (if_neg (by omega)) (by kernel_rfl) ?_
  refine st_i 19 IntKind.i64 (x := if 1 > d then 1 else d) (if_neg (by omega)) (by kernel_rfl) ?_
  refine qF ent145 (c1) ?_
  refine st_i 23 IntKind.i64 (x := if l < d then l else d) (if_neg q) (by kernel_rfl) ?_
  refine qF ent161 (cright5_no (y) (m) (d) (by assumption)) ?_
  exact qR Tryz.func125
variable (o k A B C e : Int)
theorem cknown_y (h : o = 1 ∨ o = 2) : Fn 69 [] [.int .i64 o] (.bool true) := by
 rcases h with rfl | rfl
 ·refine fn_of Tryz.func69 rfl fun ww => ?_
  exact qR Tryz.func69
 ·refine fn_of Tryz.func69 rfl fun ww => ?_
  exact qR Tryz.func69
theorem cmov_e (hl : Fn 124 [] [dv y m d, .int .i64 k] (dv (lY T) (lM T) d)) (hr : Fn 125 [] [.int .i64 (lY T), .int .i64 (lM T), .int .i64 d, .int .i64 o] (.tuple #[dv0, .int .i64 e])) (he : e ≠ 0) :
  Fn 72 [] [dv y m d, .int .i64 k, .int .i64 n, .int .i64 o] (.tuple #[dv0, .int .i64 e]) := by
 refine fn_of Tryz.func72 rfl fun ww => ?_
 refine qF ent124 (hl) ?_
 refine qF ent125 (hr) ?_
 refine qV 27 (show (e != 0) = true by exact bne_iff_ne.2 (by omega)) ?_
 exact qR Tryz.func72
theorem cmov_v (Y M D : Int) (hl : Fn 124 [] [dv y m d, .int .i64 k] (dv (lY T) (lM T) d)) (hr : Fn 125 [] [.int .i64 (lY T), .int .i64 (lM T), .int .i64 d, .int .i64 o] (.tuple #[dv Y M D, .int .i64 0])) (ha : Fn 99 [] [dv Y M D, .int .i64 n] (.tuple #[dv A B C, .int .i64 e])) :
  Fn 72 [] [dv y m d, .int .i64 k, .int .i64 n, .int .i64 o] (.tuple #[dv A B C, .int .i64 e]) := by
 refine fn_of Tryz.func72 rfl fun ww => ?_
 refine qF ent124 (hl) ?_
 refine qF ent125 (hr) ?_
 refine qF ent99 (ha) ?_
 exact qR Tryz.func72
end
theorem uOk_bd {a b c d h mi s n : Int} (k : uOk a b c d h mi s n) : (-4294967295 ≤ a ∧ a ≤ 4294967295) ∧ (-4294967295 ≤ b ∧ b ≤ 4294967295) ∧ (-4294967295 ≤ c ∧ c ≤ 4294967295) ∧ (-104249991400 ≤ d ∧ d ≤ 104249991400) ∧ (-9007199254740992000000000 < dtot 0 h mi s n ∧ dtot 0 h mi s n < 9007199254740992000000000) := by
 unfold uOk pos8 neg8 cnt1 dtot LIM at k; unfold dtot; omega
theorem uOk_part {a b c d h mi s n : Int} (k : uOk a b c d h mi s n) : uOk 0 0 0 0 h mi s n := by
 unfold uOk pos8 neg8 cnt1 dtot LIM at *; omega
theorem all64_part {a b c d h mi s n : Int} (i : all64 a b c d h mi s n) : all64 0 0 0 0 h mi s n := ⟨i64_0, i64_0, i64_0, i64_0, i.2.2.2.2.1, i.2.2.2.2.2.1, i.2.2.2.2.2.2.1, i.2.2.2.2.2.2.2⟩
section
variable (a b c d h mi s n : Int)
theorem cpart (i : all64 a b c d h mi s n) (k : uOk a b c d h mi s n) : Fn 71 [] [duv a b c d h mi s n] (wv (dtot 0 h mi s n)) := by
 have t := utotal_y 0 0 0 0 h mi s n (all64_part i) (uOk_part k)
 clear i k
 refine fn_of Tryz.func71 rfl fun ww => ?_
 refine qF ent123 (t) ?_
 exact qR Tryz.func71
variable (Y M D o A B C e : Int)
end
/-! date-times -/
theorem fcadd (h m s n w Q R : Int) (k : tOk h m s n) (hb : -9007199254740992000000000 < w ∧ w < 9007199254740992000000000) (hQ : (tnan h m s n + w).fdiv 86400000000000 = Q) (hR : (tnan h m s n + w).fmod 86400000000000 = R) :
  Fn 70 [] [tv h m s n, wv w] (.tuple #[tv (tH R) (tM R) (tS R) (tN R), .int .i64 Q, .int .i64 0]) := by
 have hw : W128 w := by unfold W128; omega
 have b := tnan_bd k
 have db := dby_f w 86400000000000 hw (by omega) (by unfold I64; omega)
 have e1 : w.fdiv 86400000000000 * 86400000000000 + w.fmod 86400000000000 = w ∧ 0 ≤ w.fmod 86400000000000 ∧ w.fmod 86400000000000 < 86400000000000 := x_split w
 have e2 : Q * 86400000000000 + R = tnan h m s n + w ∧ 0 ≤ R ∧ R < 86400000000000 := by rw [← hQ, ← hR]; exact x_split _
 generalize w.fdiv 86400000000000 = q at *
 generalize w.fmod 86400000000000 = r at *
 have nn := fcnanos_yes h m s n k
 generalize tnan h m s n = t at *
 clear hQ hR k
 obtain ⟨e1, e3, e4⟩ := e1
 obtain ⟨e2, e5, e6⟩ := e2
 by_cases c : t + r < 86400000000000
 ·obtain rfl : Q = q := by omega
  obtain rfl : R = t + r := by omega
  have iq : I64 Q := by unfold I64; omega
  refine fn_of Tryz.func70 rfl fun ww => ?_
  refine qF ent98 (nn) ?_
  refine qF ent118 (db) ?_
  refine qI 31 (t + r) ?_
  refine qN 33 (decide (t + r ≥ 86400000000000)) ?_
  refine qF ent50 (wint_f (Q) (by assumption)) ?_
  refine qF ent120 (fcof_yes (t + r) (by assumption) (by assumption)) ?_
  exact qR Tryz.func70
 ·obtain rfl : Q = q + 1 := by omega
  obtain rfl : R = t + r - 86400000000000 := by omega
  have iq : I64 (q + 1) := by unfold I64; omega
  have w1 : W128 q := by unfold W128; omega
  have w2 : W128 (q + 1) := iq.w
  have i1 : I64 1 := by unfold I64; omega
  refine fn_of Tryz.func70 rfl fun ww => ?_
  refine qF ent98 (nn) ?_
  refine qF ent118 (db) ?_
  refine qI 31 (t + r) ?_
  refine qY 33 (decide (t + r ≥ 86400000000000)) ?_
  refine qI 35 (t + r - 86400000000000) ?_
  refine qF ent30 (wof_fn (1) (by assumption)) ?_
  refine qF ent44 (wadd_yes (q) (1) (by assumption) (by (unfold W128; omega)) (by assumption)) ?_
  refine qF ent50 (wint_f (q + 1) (by assumption)) ?_
  refine qF ent120 (fcof_yes (t + r - 86400000000000) (by assumption) (by assumption)) ?_
  exact qR Tryz.func70
section
variable (y mo D h m s n a b c d hh mi ss nn o A B C e : Int)
variable (Q R : Int)
theorem cad_e (i : all64 a b c d hh mi ss nn) (k1 : pOk y mo D h m s n) (k2 : uOk a b c d hh mi ss nn) (k3 : o = 1 ∨ o = 2) (hQ : (tnan h m s n + dtot 0 hh mi ss nn).fdiv 86400000000000 = Q) (hR : (tnan h m s n + dtot 0 hh mi ss nn).fmod 86400000000000 = R) (qb : -200000000000 ≤ Q ∧ Q ≤ 200000000000)
  (hm : Fn 72 [] [dv y mo D, .int .i64 (12 * a + b), .int .i64 (d + 7 * c + Q), .int .i64 o] (.tuple #[dv0, .int .i64 e])) (he : e ≠ 0) : Fn 26 [] [ptv y mo D h m s n, duv a b c d hh mi ss nn, .int .i64 o] (.tuple #[pt0, .int .i64 e]) := by
 have r1 := pright_yes y mo D h m s n k1
 have r2 := uright_y a b c d hh mi ss nn i k2
 have r3 := cknown_y o k3
 have r4 := cpart a b c d hh mi ss nn i k2
 obtain ⟨b1, b2, b3, b4, b5⟩ := uOk_bd k2
 have r5 := fcadd h m s n _ Q R k1.2.1 b5 hQ hR
 clear i k1 k2 k3 hQ hR b5
 refine fn_of Tryz.func26 rfl fun ww => ?_
 refine qF ent18 (r1) ?_
 refine qF ent25 (r2) ?_
 refine qF ent69 (r3) ?_
 refine qF ent71 (r4) ?_
 refine qF ent70 (r5) ?_
 refine qI 45 (12 * a) ?_
 refine qI 48 (12 * a + b) ?_
 refine qI 53 (7 * c) ?_
 refine qI 54 (d + 7 * c) ?_
 refine qI 56 (d + 7 * c + Q) ?_
 refine qF ent72 (hm) ?_
 refine qV 66 (show (e != 0) = true by exact bne_iff_ne.2 (by omega)) ?_
 exact qR Tryz.func26
theorem cad_n (i : all64 a b c d hh mi ss nn) (k1 : pOk y mo D h m s n) (k2 : uOk a b c d hh mi ss nn) (k3 : o = 1 ∨ o = 2) (hQ : (tnan h m s n + dtot 0 hh mi ss nn).fdiv 86400000000000 = Q) (hR : (tnan h m s n + dtot 0 hh mi ss nn).fmod 86400000000000 = R) (qb : -200000000000 ≤ Q ∧ Q ≤ 200000000000)
  (hm : Fn 72 [] [dv y mo D, .int .i64 (12 * a + b), .int .i64 (d + 7 * c + Q), .int .i64 o] (.tuple #[dv A B C, .int .i64 0])) (hp : ¬ pOk A B C (tH R) (tM R) (tS R) (tN R)) : Fn 26 [] [ptv y mo D h m s n, duv a b c d hh mi ss nn, .int .i64 o] (.tuple #[pt0, .int .i64 4]) := by
 have r1 := pright_yes y mo D h m s n k1
 have r2 := uright_y a b c d hh mi ss nn i k2
 have r3 := cknown_y o k3
 have r4 := cpart a b c d hh mi ss nn i k2
 obtain ⟨b1, b2, b3, b4, b5⟩ := uOk_bd k2
 have r5 := fcadd h m s n _ Q R k1.2.1 b5 hQ hR
 have r6 := pright_no _ _ _ _ _ _ _ hp
 clear i k1 k2 k3 hQ hR b5 hp
 refine fn_of Tryz.func26 rfl fun ww => ?_
 refine qF ent18 (r1) ?_
 refine qF ent25 (r2) ?_
 refine qF ent69 (r3) ?_
 refine qF ent71 (r4) ?_
 refine qF ent70 (r5) ?_
 refine qI 45 (12 * a) ?_
 refine qI 48 (12 * a + b) ?_
 refine qI 53 (7 * c) ?_
 refine qI 54 (d + 7 * c) ?_
 refine qI 56 (d + 7 * c + Q) ?_
 refine qF ent72 (hm) ?_
 refine qF ent18 (r6) ?_
 exact qR Tryz.func26
theorem cad_y (i : all64 a b c d hh mi ss nn) (k1 : pOk y mo D h m s n) (k2 : uOk a b c d hh mi ss nn) (k3 : o = 1 ∨ o = 2) (hQ : (tnan h m s n + dtot 0 hh mi ss nn).fdiv 86400000000000 = Q) (hR : (tnan h m s n + dtot 0 hh mi ss nn).fmod 86400000000000 = R) (qb : -200000000000 ≤ Q ∧ Q ≤ 200000000000)
  (hm : Fn 72 [] [dv y mo D, .int .i64 (12 * a + b), .int .i64 (d + 7 * c + Q), .int .i64 o] (.tuple #[dv A B C, .int .i64 0])) (hp : pOk A B C (tH R) (tM R) (tS R) (tN R)) : Fn 26 [] [ptv y mo D h m s n, duv a b c d hh mi ss nn, .int .i64 o] (.tuple #[ptv A B C (tH R) (tM R) (tS R) (tN R), .int .i64 0]) := by
 have r1 := pright_yes y mo D h m s n k1
 have r2 := uright_y a b c d hh mi ss nn i k2
 have r3 := cknown_y o k3
 have r4 := cpart a b c d hh mi ss nn i k2
 obtain ⟨b1, b2, b3, b4, b5⟩ := uOk_bd k2
 have r5 := fcadd h m s n _ Q R k1.2.1 b5 hQ hR
 have r6 := pright_yes _ _ _ _ _ _ _ hp
 clear i k1 k2 k3 hQ hR b5 hp
 refine fn_of Tryz.func26 rfl fun ww => ?_
 refine qF ent18 (r1) ?_
 refine qF ent25 (r2) ?_
 refine qF ent69 (r3) ?_
 refine qF ent71 (r4) ?_
 refine qF ent70 (r5) ?_
 refine qI 45 (12 * a) ?_
 refine qI 48 (12 * a + b) ?_
 refine qI 53 (7 * c) ?_
 refine qI 54 (d + 7 * c) ?_
 refine qI 56 (d + 7 * c + Q) ?_
 refine qF ent72 (hm) ?_
 refine qF ent18 (r6) ?_
 exact qR Tryz.func26
end
end Go.Proofs.YthoedmikfpbfnaaGreat
end
section
set_option maxRecDepth 100000
namespace Go.Proofs.YthoedmikfpbfnaaGreat
open Go Go.RowKit Go.Ev

section
variable (L y m d y' m' d' : Int)
abbrev uvd : Value := .tuple #[duv (uY L y m d y' m' d') (uMo L y m d y' m' d') (uW L y m d y' m' d') (uD L y m d y' m' d') 0 0 0 0, .int .i64 0]
theorem duv_eq {a b c d a' b' c' d' : Int} (e1 : a = a') (e2 : b = b') (e3 : c = c') (e4 : d = d') : Value.tuple #[duv a b c d 0 0 0 0, .int .i64 0] = .tuple #[duv a' b' c' d' 0 0 0 0, .int .i64 0] := by rw [e1, e2, e3, e4]
theorem unt_all {f : FuncId} (h : dOk y m d) (h' : dOk y' m' d') (hL : 1 ≤ L) (hL' : L ≤ 4)
  (f0 : ∀ L : Int, (L = 1 ∨ L = 2) → cmp3 y' m' d' y m d = 0 → Fn f [] [dv y m d, dv y' m' d', .int .i64 L] (.tuple #[du0, .int .i64 0]))
  (f1 : ∀ s N T : Int, (s = 1 ∨ s = -1) → cmp3 y' m' d' y m d = s → mM s y m d y' m' d' = N → ymi y m + s * N = T → Fn f [] [dv y m d, dv y' m' d', .int .i64 1] (.tuple #[duv (s * (N / 12)) (s * (N - 12 * (N / 12))) 0 (dnum y' m' d' - dnum (lY T) (lM T) (cD (lY T) (lM T) d)) 0 0 0 0, .int .i64 0]))
  (f2 : ∀ s N T : Int, (s = 1 ∨ s = -1) → cmp3 y' m' d' y m d = s → mM s y m d y' m' d' = N → ymi y m + s * N = T → Fn f [] [dv y m d, dv y' m' d', .int .i64 2] (.tuple #[duv 0 (s * N) 0 (dnum y' m' d' - dnum (lY T) (lM T) (cD (lY T) (lM T) d)) 0 0 0 0, .int .i64 0]))
  (f3 : Fn f [] [dv y m d, dv y' m' d', .int .i64 3] (.tuple #[duv 0 0 ((dnum y' m' d' - dnum y m d).tdiv 7) ((dnum y' m' d' - dnum y m d).tmod 7) 0 0 0 0, .int .i64 0]))
  (f4 : Fn f [] [dv y m d, dv y' m' d', .int .i64 4] (.tuple #[duv 0 0 0 (dnum y' m' d' - dnum y m d) 0 0 0 0, .int .i64 0])) : Fn f [] [dv y m d, dv y' m' d', .int .i64 L] (uvd L y m d y' m' d') := by
 have l : L = 1 ∨ L = 2 ∨ L = 3 ∨ L = 4 := by omega
 have us := until_sign h h' hL hL' _ rfl
 by_cases z : uS y m d y' m' d' = 0
 ·obtain ⟨z1, z2, z3, z4⟩ := us.2.2.2.2.2.2.2.2.1 z
  rcases l with rfl | rfl | rfl | rfl
  ·have := f0 1 (.inl rfl) z; rwa [show uvd 1 y m d y' m' d' = _ from duv_eq z1 z2 z3 z4]
  ·have := f0 2 (.inr rfl) z; rwa [show uvd 2 y m d y' m' d' = _ from duv_eq z1 z2 z3 z4]
  ·exact f3
  ·exact f4
 ·have hs : uS y m d y' m' d' = 1 ∨ uS y m d y' m' d' = -1 := by
   rcases cmp3_tri y' m' d' y m d with k | k | k
   ·exact .inr k
   ·exact absurd k z
   ·exact .inl k
  rcases l with rfl | rfl | rfl | rfl
  ·have := f1 (uS y m d y' m' d') (uMM y m d y' m' d') _ hs rfl rfl rfl
   rw [show uMM y m d y' m' d' - 12 * (uMM y m d y' m' d' / 12) = uMM y m d y' m' d' % 12 by omega] at this
   exact this
  ·exact f2 (uS y m d y' m' d') (uMM y m d y' m' d') _ hs rfl rfl rfl
  ·exact f3
  ·exact f4
theorem cunt (h : dOk y m d) (h' : dOk y' m' d') (hL : 1 ≤ L) (hL' : L ≤ 4) : Fn 100 [] [dv y m d, dv y' m' d', .int .i64 L] (uvd L y m d y' m' d') :=
 unt_all L y m d y' m' d' h h' hL hL' (fun L l e => cunt_0 y m d y' m' d' L l h h' e) (fun s N T a b c e => cunt_1 y m d y' m' d' s N T h h' a b c e) (fun s N T a b c e => cunt_2 y m d y' m' d' s N T h h' a b c e) (cunt_3 y m d y' m' d' h h') (cunt_4 y m d y' m' d' h h')
theorem zunt (h : dOk y m d) (h' : dOk y' m' d') (hL : 1 ≤ L) (hL' : L ≤ 4) : Fn 113 [] [dv y m d, dv y' m' d', .int .i64 L] (uvd L y m d y' m' d') :=
 unt_all L y m d y' m' d' h h' hL hL' (fun L l e => zunt_0 y m d y' m' d' L l h h' e) (fun s N T a b c e => zunt_1 y m d y' m' d' s N T h h' a b c e) (fun s N T a b c e => zunt_2 y m d y' m' d' s N T h h' a b c e) (zunt_3 y m d y' m' d' h h') (zunt_4 y m d y' m' d' h h')
end
theorem cmoved_c (y m d k n T S : Int) (hT : ymi y m + k = T) (y0 : -10000000 ≤ y) (y1 : y ≤ 10000000) (m1 : 1 ≤ m) (m2 : m ≤ 12) (k0 : -1000000000000 ≤ k) (k1 : k ≤ 1000000000000) (d1 : 1 ≤ d) (q : dOk (lY T) (lM T) (cD (lY T) (lM T) d)) (hS : dnum (lY T) (lM T) (cD (lY T) (lM T) d) + n = S) (S0 : -100000001 ≤ S) (S1 : S ≤ 100000000) :
  Fn 72 [] [dv y m d, .int .i64 k, .int .i64 n, .int .i64 1] (.tuple #[dv (dY S) (dM S) (dD S), .int .i64 0]) := by
 have ad := caddd_yes (lY T) (lM T) (cD (lY T) (lM T) d) n q (by omega) (by omega)
 rw [hS] at ad
 exact cmov_v y m d n T 1 k _ _ _ 0 _ _ _ (clater y m d k T (by unfold ymi at hT; omega) y0 y1 m1 m2 k0 k1) (creg_cy (lY T) (lM T) d (ymi_l T).2.1 (ymi_l T).2.2 d1 q) ad
end Go.Proofs.YthoedmikfpbfnaaGreat
end
section
set_option maxRecDepth 100000
namespace Go.Proofs.YthoedmikfpbfnaaGreat
open Go Go.RowKit Go.Ev

section
variable {L y m d y' m' d' : Int}
theorem uv_bd (h : dOk y m d) (h' : dOk y' m' d') (hL : 1 ≤ L) (hL' : L ≤ 4) :
    (-600000 ≤ uY L y m d y' m' d' ∧ uY L y m d y' m' d' ≤ 600000) ∧ (-7200000 ≤ uMo L y m d y' m' d' ∧ uMo L y m d y' m' d' ≤ 7200000) ∧ (-200000001 ≤ uW L y m d y' m' d' ∧ uW L y m d y' m' d' ≤ 200000001) ∧ (-200000001 ≤ uD L y m d y' m' d' ∧ uD L y m d y' m' d' ≤ 200000001) ∧
    (uS y m d y' m' d' = 1 ∧ 0 ≤ uY L y m d y' m' d' ∧ 0 ≤ uMo L y m d y' m' d' ∧ 0 ≤ uW L y m d y' m' d' ∧ 0 ≤ uD L y m d y' m' d' ∨
     uS y m d y' m' d' = -1 ∧ uY L y m d y' m' d' ≤ 0 ∧ uMo L y m d y' m' d' ≤ 0 ∧ uW L y m d y' m' d' ≤ 0 ∧ uD L y m d y' m' d' ≤ 0 ∨
     uS y m d y' m' d' = 0 ∧ uY L y m d y' m' d' = 0 ∧ uMo L y m d y' m' d' = 0 ∧ uW L y m d y' m' d' = 0 ∧ uD L y m d y' m' d' = 0) ∧
    (L = 1 → -12 < uMo L y m d y' m' d' ∧ uMo L y m d y' m' d' < 12) ∧ (L ≤ 2 → -31 < uD L y m d y' m' d' ∧ uD L y m d y' m' d' < 31) ∧ (L = 3 → -7 < uD L y m d y' m' d' ∧ uD L y m d y' m' d' < 7) := by
  have us := until_sign h h' hL hL' _ rfl
  have tr : uS y m d y' m' d' = -1 ∨ uS y m d y' m' d' = 0 ∨ uS y m d y' m' d' = 1 := cmp3_tri y' m' d' y m d
  generalize uS y m d y' m' d' = s at *
  generalize uY L y m d y' m' d' = A at *
  generalize uMo L y m d y' m' d' = B at *
  generalize uW L y m d y' m' d' = C at *
  generalize uD L y m d y' m' d' = D at *
  obtain ⟨u1, u2, u3, u4, u5, u6, u7, u8, u9, u10, u11, u12⟩ := us
  rcases tr with rfl | rfl | rfl
  · refine ⟨by omega, by omega, by omega, by omega, .inr (.inl ⟨rfl, by omega, by omega, by omega, by omega⟩), fun l => ?_, fun l => ?_, fun l => ?_⟩
    · have := u10 l; omega
    · have := u11 l; omega
    · have := u12 l; omega
  · obtain ⟨v1, v2, v3, v4⟩ := u9 rfl
    exact ⟨by omega, by omega, by omega, by omega, .inr (.inr ⟨rfl, v1, v2, v3, v4⟩), fun l => by omega, fun l => by omega, fun l => by omega⟩
  · refine ⟨by omega, by omega, by omega, by omega, .inl ⟨rfl, by omega, by omega, by omega, by omega⟩, fun l => ?_, fun l => ?_, fun l => ?_⟩
    · have := u10 l; omega
    · have := u11 l; omega
    · have := u12 l; omega
end
section
variable {A B C D z : Int}
theorem lay5_ok (hz : -86400000000000 < z ∧ z < 86400000000000) : layOk 5 z := by
 have := td z 3600000000000 (by omega)
 refine ⟨⟨by omega, by omega⟩, ⟨by unfold LIM; omega, by unfold LIM; omega⟩, ?_⟩
 show -9223372036854775808 ≤ z.tdiv 3600000000000 ∧ z.tdiv 3600000000000 ≤ 9223372036854775807
 omega
end
section
variable (y mo d h m s n y' mo' d' h' m' s' n' L E Z : Int)
theorem cbet (k : pOk y mo d h m s n) (k' : pOk y' mo' d' h' m' s' n') (l1 : 1 ≤ L) (l2 : L ≤ 4) (hE : bD y mo d h m s n y' mo' d' h' m' s' n' = E) (hZ : bZ y mo d h m s n y' mo' d' h' m' s' n' = Z) :
  Fn 42 [] [ptv y mo d h m s n, ptv y' mo' d' h' m' s' n', .int .i64 L] (.tuple #[duv (uY L y mo d (dY E) (dM E) (dD E)) (uMo L y mo d (dY E) (dM E) (dD E)) (uW L y mo d (dY E) (dM E) (dD E)) (uD L y mo d (dY E) (dM E) (dD E)) (l5 5 Z) (l6 5 Z) (l7 5 Z) (l8 5 Z), .int .i64 0]) := by
 obtain ⟨i1, i2, -⟩ := bt_in k k'
 obtain ⟨d1, d2⟩ := bt_date k k'
 rw [hE] at i1 d1 d2
 rw [hZ] at i2
 have la := ulay_y 5 Z (by unfold W128; omega) (lay5_ok i2)
 unfold bD at hE
 unfold bZ at hZ
 by_cases c : (tnan h' m' s' n' - tnan h m s n) * uS y mo d y' mo' d' < 0
 ·have hX : bX y mo d h m s n y' mo' d' h' m' s' n' = uS y mo d y' mo' d' := if_pos c
  rw [hX] at hE hZ
  have hv : uS y mo d y' mo' d' = -1 ∨ uS y mo d y' mo' d' = 1 := by
   rcases cmp3_tri y' mo' d' y mo d with q | q | q
   ·exact .inl q
   ·have q' : uS y mo d y' mo' d' = 0 := q
    rw [q'] at c; omega
   ·exact .inr q
  have ad := caddd_yes y' mo' d' (-(uS y mo d y' mo' d')) k'.1 (by omega) (by omega)
  rw [show dnum y' mo' d' + -(uS y mo d y' mo' d') = E by omega] at ad
  rw [← hZ] at la
  have := cbet_s y mo d h m s n y' mo' d' h' m' s' n' L _ _ _ _ _ _ _ _ 0 k k' l1 l2 (uS y mo d y' mo' d') (tnan h' m' s' n' - tnan h m s n) hv rfl rfl c (dY E) (dM E) (dD E) _ _ _ _ 0 ad (cunt L y mo d (dY E) (dM E) (dD E) k.1 d1 l1 l2) la
  rw [hZ] at this
  exact this
 ·have hX : bX y mo d h m s n y' mo' d' h' m' s' n' = 0 := if_neg c
  rw [hX] at hE hZ
  obtain rfl : E = dnum y' mo' d' := by omega
  have z' : tnan h' m' s' n' - tnan h m s n = Z := by omega
  have hv : uS y mo d y' mo' d' = -1 ∨ uS y mo d y' mo' d' = 0 ∨ uS y mo d y' mo' d' = 1 := cmp3_tri y' mo' d' y mo d
  rw [z'] at c
  rw [(date_of k'.1.1).1, (date_of k'.1.1).2.1, (date_of k'.1.1).2.2]
  exact cbet_n y mo d h m s n y' mo' d' h' m' s' n' L _ _ _ _ _ _ _ _ 0 k k' l1 l2 (uS y mo d y' mo' d') Z hv rfl z' c _ _ _ _ 0 (cunt L y mo d y' mo' d' k.1 k'.1 l1 l2) la
variable (A B C D H M S T e A' B' C' D' H' M' S' T' g : Int)
end
end Go.Proofs.YthoedmikfpbfnaaGreat
end
section
set_option maxRecDepth 100000
namespace Go.Proofs.YthoedmikfpbfnaaGreat
open Go Go.RowKit Go.Ev

theorem nearQ_scale {p q g mode : Int} (hg : 0 < g) (hq : 0 < q) : nearQ (g * p) (g * q) mode = nearQ p q mode := by
 have hgq : 0 < g * q := Int.mul_pos hg hq
 have e1 : (g * p).fdiv (g * q) = p.fdiv q := by
  rw [Int.fdiv_eq_ediv_of_nonneg _ (by omega), Int.fdiv_eq_ediv_of_nonneg _ (by omega), Int.mul_ediv_mul_of_pos _ _ hg]
 have e2 : (g * p).fmod (g * q) = g * p.fmod q := by
  rw [Int.fmod_eq_emod_of_nonneg _ (by omega), Int.fmod_eq_emod_of_nonneg _ (by omega), Int.mul_emod_mul_of_pos _ _ hg]
 have pos : ∀ x : Int, (g * x < 0 ↔ x < 0) := fun x => by
  constructor
  ·intro h
   apply Classical.byContradiction
   intro k
   have := Int.mul_nonneg (show 0 ≤ g by omega) (show 0 ≤ x by omega)
   omega
  ·intro h
   have := Int.mul_neg_of_pos_of_neg hg h
   exact this
 have zer : ∀ x : Int, (g * x = 0 ↔ x = 0) := fun x => by
  rw [Int.mul_eq_zero]; omega
 have e3 : ∀ a b : Int, cmpI (g * a) (g * b) = cmpI a b := fun a b => by
  have h1 : g * a < g * b ↔ a < b := by
   have := pos (a - b)
   rw [Int.mul_sub] at this
   omega
  have h2 : g * a = g * b ↔ a = b := by
   have := zer (a - b)
   rw [Int.mul_sub] at this
   omega
  unfold cmpI
  simp only [h1, h2]
 have e4 : decide (g * p < 0) = decide (p < 0) := by
  rw [Bool.eq_iff_iff]; simp only [decide_eq_true_eq]; exact pos p
 have hu : upQ (g * p) (g * q) mode = upQ p q mode := by
  unfold upQ
  rw [e1, e2, e4, ← Int.mul_sub, e3]
 unfold nearQ
 rw [hu, e1, e2]
 by_cases k : p.fmod q = 0
 ·rw [if_pos k, if_pos ((zer _).2 k)]
 ·rw [if_neg k, if_neg fun h => k ((zer _).1 h)]
theorem fr_scale (n : Int) {d : Int} (h0 : d ≠ 0) : ∃ G X Y : Nat, G = Nat.gcd n.natAbs d.natAbs ∧ 0 < G ∧ n.natAbs = G * X ∧ d.natAbs = G * Y ∧ 0 < Y ∧ frP n d = wsg (!(decide (n < 0) == decide (d < 0))) (X : Int) ∧ frQ n d = (Y : Int) := by
 have hG : 0 < Nat.gcd n.natAbs d.natAbs := gcd_pos h0
 have h1 := Nat.mul_div_cancel' (Nat.gcd_dvd_left n.natAbs d.natAbs)
 have h2 := Nat.mul_div_cancel' (Nat.gcd_dvd_right n.natAbs d.natAbs)
 refine ⟨_, n.natAbs / Nat.gcd n.natAbs d.natAbs, d.natAbs / Nat.gcd n.natAbs d.natAbs, rfl, hG, h1.symm, h2.symm, ?_, rfl, rfl⟩
 rcases Nat.eq_zero_or_pos (d.natAbs / Nat.gcd n.natAbs d.natAbs) with h | h
 ·rw [h] at h2; omega
 ·exact h
theorem near_fr (n mode : Int) {d : Int} (h0 : d ≠ 0) : nearQ (nN n d) (nD d) mode = nearQ (frP n d) (frQ n d) mode := by
 obtain ⟨G, X, Y, -, hG, hX, hY, hYp, hP, hQ⟩ := fr_scale n h0
 have a1 : (n.natAbs : Int) = (G : Int) * (X : Int) := by rw [hX]; simp
 have a2 : (d.natAbs : Int) = (G : Int) * (Y : Int) := by rw [hY]; simp
 have b1 : nN n d = (G : Int) * frP n d := by
  rw [hP]
  unfold nN wsg
  by_cases hn : n < 0 <;> by_cases hd : d < 0 <;> simp [hn, hd, Int.mul_neg] <;> omega
 have b2 : nD d = (G : Int) * frQ n d := by
  rw [hQ]; unfold nD; split <;> omega
 rw [b1, b2]
 exact nearQ_scale (by omega) (by rw [hQ]; omega)
end Go.Proofs.YthoedmikfpbfnaaGreat
end
section
set_option maxRecDepth 100000
namespace Go.Proofs.YthoedmikfpbfnaaGreat
open Go Go.RowKit Go.Ev

theorem wtimes_f (v n : Int) (hv : W128 v) (hn : I64 n) (h : W128 (v * n)) : Fn 43 [] [wv v, .int .i64 n] (.tuple #[wv (v * n), .int .i64 0]) := fun w _ => (wtimes v n w hv hn).mono fun e w' ⟨h1, h2⟩ => ⟨by rw [h1, thi_yes h, tlo_yes h, ter_yes h], h2⟩
def rlen (u : Int) : Int := if u = 3 then 604800000000000 else ulen u
theorem rlen_in {u : Int} (h : 3 ≤ u) (k : u ≤ 8) : 1 ≤ rlen u ∧ rlen u ≤ 604800000000000 := by
 unfold rlen
 split
 ·omega
 ·have := ulen_pos (show 4 ≤ u by omega) k; omega
section
variable (u i n : Int)
theorem rknown_y (h : 1 ≤ u) (k : u ≤ 8) : Fn 19 [] [.int .i64 u] (.bool true) := by
 refine fn_of Tryz.func19 rfl fun ww => ?_
 refine qY 4 (decide (u ≥ 1)) ?_
 exact st_retv Tryz.func19 (show Value.bool (decide (u ≤ 8)) = _ by simp_all) (by kernel_rfl)
theorem rknown_n (h : u < 1 ∨ 8 < u) : Fn 19 [] [.int .i64 u] (.bool false) := by
 by_cases q : u < 1
 ·refine fn_of Tryz.func19 rfl fun ww => ?_
  refine qN 4 (decide (u ≥ 1)) ?_
  exact qR Tryz.func19
 ·have q2 : 8 < u := by omega
  refine fn_of Tryz.func19 rfl fun ww => ?_
  refine qY 4 (decide (u ≥ 1)) ?_
  exact st_retv Tryz.func19 (show Value.bool (decide (u ≤ 8)) = _ by simp_all) (by kernel_rfl)
theorem rlength : Fn 24 [] [.int .i64 u] (.int .i64 (rlen u)) := by
 by_cases q : u = 3
 ·subst q
  refine fn_of Tryz.func24 rfl fun ww => ?_
  exact st_retv Tryz.func24 (show vI64 604800000000000 = _ by rfl) (by kernel_rfl)
 ·have e : rlen u = ulen u := if_neg q
  rw [e]
  have kl := ulen_fn u
  refine fn_of Tryz.func24 rfl fun ww => ?_
  refine qN 4 (u == 3) ?_
  refine qF ent63 (kl) ?_
  exact qR Tryz.func24
abbrev kN (n : Int) : List Bk := [⟨[.val (.int .i64 n)], 2⟩]
abbrev EN : List TypeId := [999999, 2]
theorem rmv1 : FnM 20 [.ptr 0 0] (kN n) (duv n 0 0 0 0 0 0 0) := by
 refine fnM_of EN Tryz.func20 rfl (by kernel_rfl) fun ww => ?_
 exact qR Tryz.func20
theorem rmv2 : FnM 21 [.ptr 0 0] (kN n) (duv 0 n 0 0 0 0 0 0) := by
 refine fnM_of EN Tryz.func21 rfl (by kernel_rfl) fun ww => ?_
 exact qR Tryz.func21
variable (y mo d h m s nn A B C H M S N e : Int)
theorem rmov_d (k : pOk y mo d h m s nn) (l1 : 3 ≤ u) (l2 : u ≤ 8) (hn : I64 n) (ha : Fn 22 [] [ptv y mo d h m s nn, wv (n * rlen u)] (.tuple #[ptv A B C H M S N, .int .i64 e])) : Fn 7 [] [ptv y mo d h m s nn, .int .i64 n, .int .i64 u] (.tuple #[ptv A B C H M S N, .int .i64 e]) := by
 have kr1 := pright_yes y mo d h m s nn k
 have kr2 := rknown_y u (by omega) l2
 have kr3 := rlength u
 have rl := rlen_in l1 l2
 have i1 : I64 (rlen u) := by unfold I64; omega
 have kr4 := wmul_f n (rlen u) hn i1
 clear k
 refine fn_of Tryz.func7 rfl fun ww => ?_
 refine qF ent18 (kr1) ?_
 refine qF ent19 (kr2) ?_
 refine qY 23 (decide (u > 2)) ?_
 refine qF ent24 (kr3) ?_
 refine qF ent23 (kr4) ?_
 refine qF ent22 (ha) ?_
 exact qR Tryz.func7
theorem rmov_r (hu : u = 1 ∨ u = 2) (k : pOk y mo d h m s nn) (hn : I64 n) (r : ¬ (-4294967295 ≤ n ∧ n ≤ 4294967295)) : Fn 7 [] [ptv y mo d h m s nn, .int .i64 n, .int .i64 u] (.tuple #[pt0, .int .i64 4]) := by
 have kr1 := pright_yes y mo d h m s nn k
 have kr2 := rknown_y u (by omega) (by omega)
 rcases hu with rfl | rfl
 ·have kr3 := rmv1 n
  have kr4 := uright_f n 0 0 0 0 0 0 0 ⟨hn, i64_0, i64_0, i64_0, i64_0, i64_0, i64_0, i64_0⟩ (fun q => by have := q.2.1.1; unfold cnt1 at this; omega)
  clear k r
  refine fn_of Tryz.func7 rfl fun ww => ?_
  refine qF ent18 (kr1) ?_
  refine qF ent19 (kr2) ?_
  refine st_fm [1] ent20 (kr3) (by kernel_rfl) (by kernel_rfl) (by kernel_rfl) ?_
  refine qF ent25 (kr4) ?_
  exact qR Tryz.func7
 ·have kr3 := rmv2 n
  have kr4 := uright_f 0 n 0 0 0 0 0 0 ⟨i64_0, hn, i64_0, i64_0, i64_0, i64_0, i64_0, i64_0⟩ (fun q => by have := q.2.1.2.1; unfold cnt1 at this; omega)
  clear k r
  refine fn_of Tryz.func7 rfl fun ww => ?_
  refine qF ent18 (kr1) ?_
  refine qF ent19 (kr2) ?_
  refine st_fm [1] ent21 (kr3) (by kernel_rfl) (by kernel_rfl) (by kernel_rfl) ?_
  refine qF ent25 (kr4) ?_
  exact qR Tryz.func7
theorem uOk_y (r : -4294967295 ≤ n ∧ n ≤ 4294967295) : uOk n 0 0 0 0 0 0 0 ∧ all64 n 0 0 0 0 0 0 0 := by
 refine ⟨⟨?_, ⟨by unfold cnt1; omega, by unfold cnt1; omega, by unfold cnt1; omega⟩, by unfold dtot LIM; omega⟩, by unfold I64; omega, i64_0, i64_0, i64_0, i64_0, i64_0, i64_0, i64_0⟩
 unfold pos8 neg8; omega
theorem uOk_m (r : -4294967295 ≤ n ∧ n ≤ 4294967295) : uOk 0 n 0 0 0 0 0 0 ∧ all64 0 n 0 0 0 0 0 0 := by
 refine ⟨⟨?_, ⟨by unfold cnt1; omega, by unfold cnt1; omega, by unfold cnt1; omega⟩, by unfold dtot LIM; omega⟩, i64_0, by unfold I64; omega, i64_0, i64_0, i64_0, i64_0, i64_0, i64_0⟩
 unfold pos8 neg8; omega
theorem rmov_1 (k : pOk y mo d h m s nn) (r : -4294967295 ≤ n ∧ n ≤ 4294967295) (ha : Fn 26 [] [ptv y mo d h m s nn, duv n 0 0 0 0 0 0 0, .int .i64 1] (.tuple #[ptv A B C H M S N, .int .i64 e])) : Fn 7 [] [ptv y mo d h m s nn, .int .i64 n, .int .i64 1] (.tuple #[ptv A B C H M S N, .int .i64 e]) := by
 have kr1 := pright_yes y mo d h m s nn k
 have kr2 := rknown_y 1 (by omega) (by omega)
 have kr3 := rmv1 n
 obtain ⟨o, i⟩ := uOk_y n r
 have kr4 := uright_y n 0 0 0 0 0 0 0 i o
 clear k r o i
 refine fn_of Tryz.func7 rfl fun ww => ?_
 refine qF ent18 (kr1) ?_
 refine qF ent19 (kr2) ?_
 refine st_fm [1] ent20 (kr3) (by kernel_rfl) (by kernel_rfl) (by kernel_rfl) ?_
 refine qF ent25 (kr4) ?_
 refine qF ent26 (ha) ?_
 exact qR Tryz.func7
theorem rmov_2 (k : pOk y mo d h m s nn) (r : -4294967295 ≤ n ∧ n ≤ 4294967295) (ha : Fn 26 [] [ptv y mo d h m s nn, duv 0 n 0 0 0 0 0 0, .int .i64 1] (.tuple #[ptv A B C H M S N, .int .i64 e])) : Fn 7 [] [ptv y mo d h m s nn, .int .i64 n, .int .i64 2] (.tuple #[ptv A B C H M S N, .int .i64 e]) := by
 have kr1 := pright_yes y mo d h m s nn k
 have kr2 := rknown_y 2 (by omega) (by omega)
 have kr3 := rmv2 n
 obtain ⟨o, i⟩ := uOk_m n r
 have kr4 := uright_y 0 n 0 0 0 0 0 0 i o
 clear k r o i
 refine fn_of Tryz.func7 rfl fun ww => ?_
 refine qF ent18 (kr1) ?_
 refine qF ent19 (kr2) ?_
 refine st_fm [1] ent21 (kr3) (by kernel_rfl) (by kernel_rfl) (by kernel_rfl) ?_
 refine qF ent25 (kr4) ?_
 refine qF ent26 (ha) ?_
 exact qR Tryz.func7
/-! totals -/
variable (y' mo' d' h' m' s' n' : Int)
theorem rtot_a (k : ¬ (pOk y mo d h m s nn ∧ pOk y' mo' d' h' m' s' n' ∧ 1 ≤ u ∧ u ≤ 8)) : Fn 12 [] [ptv y mo d h m s nn, ptv y' mo' d' h' m' s' n', .int .i64 u] (.tuple #[wz, wz, .int .i64 1]) := by
 by_cases k1 : pOk y mo d h m s nn ∧ pOk y' mo' d' h' m' s' n'
 ·have kr1 := psince_yes y mo d h m s nn y' mo' d' h' m' s' n' k1.1 k1.2
  have kr2 := rknown_n u (by
   rcases Int.lt_or_le u 1 with q | q
   ·exact .inl q
   ·rcases Int.lt_or_le 8 u with q' | q'
    ·exact .inr q'
    ·exact absurd ⟨k1.1, k1.2, q, q'⟩ k)
  clear k k1
  refine fn_of Tryz.func12 rfl fun ww => ?_
  refine qF ent40 (kr1) ?_
  refine qF ent19 (kr2) ?_
  exact qR Tryz.func12
 ·have kr1 := psince_no y mo d h m s nn y' mo' d' h' m' s' n' k1
  clear k k1
  refine fn_of Tryz.func12 rfl fun ww => ?_
  refine qF ent40 (kr1) ?_
  exact qR Tryz.func12
theorem rtot_d (k : pOk y mo d h m s nn) (k' : pOk y' mo' d' h' m' s' n') (l1 : 3 ≤ u) (l2 : u ≤ 8) (p q e : Int) (hf : Fn 41 [] [wv (pnum y' mo' d' h' m' s' n' - pnum y mo d h m s nn), wv (rlen u)] (.tuple #[wv p, wv q, .int .i64 e])) :
  Fn 12 [] [ptv y mo d h m s nn, ptv y' mo' d' h' m' s' n', .int .i64 u] (.tuple #[wv p, wv q, .int .i64 e]) := by
 have kr1 := psince_yes y mo d h m s nn y' mo' d' h' m' s' n' k k'
 have kr2 := rknown_y u (by omega) l2
 have kr3 := rlength u
 have rl := rlen_in l1 l2
 have i1 : I64 (rlen u) := by unfold I64; omega
 have kr4 := wof_fn (rlen u) i1
 generalize pnum y' mo' d' h' m' s' n' - pnum y mo d h m s nn = w at *
 clear k k'
 refine fn_of Tryz.func12 rfl fun ww => ?_
 refine qF ent40 (kr1) ?_
 refine qF ent19 (kr2) ?_
 refine qY 40 (decide (u > 2)) ?_
 refine qF ent24 (kr3) ?_
 refine qF ent30 (kr4) ?_
 refine qF ent41 (hf) ?_
 exact qR Tryz.func12
end
end Go.Proofs.YthoedmikfpbfnaaGreat
end
section
set_option maxRecDepth 100000
namespace Go.Proofs.YthoedmikfpbfnaaGreat
open Go Go.RowKit Go.Ev

section
variable (y mo d h m s nn y' mo' d' h' m' s' n' A B C D H M S N e0 v c f1 f2 f3 f4 f5 f6 f7 t1 t2 t3 t4 t5 t6 t7 x1 z1 x2 w2 x3 p q e : Int)
theorem rtot_0 (u : Int) (hu : u = 1 ∨ u = 2) (k : pOk y mo d h m s nn) (k' : pOk y' mo' d' h' m' s' n') (ev : pnum y' mo' d' h' m' s' n' - pnum y mo d h m s nn = 0) (hA : -9000000 ≤ A ∧ A ≤ 9000000) (hB : -9000000 ≤ B ∧ B ≤ 9000000)
  (kb : Fn 42 [] [ptv y mo d h m s nn, ptv y' mo' d' h' m' s' n', .int .i64 u] (.tuple #[duv A B C D H M S N, .int .i64 e0])) : Fn 12 [] [ptv y mo d h m s nn, ptv y' mo' d' h' m' s' n', .int .i64 u] (.tuple #[wz, wv 1, .int .i64 0]) := by
 have kr1 := psince_yes y mo d h m s nn y' mo' d' h' m' s' n' k k'
 rw [ev] at kr1
 have kr2 := rknown_y u (by omega) (by omega)
 have kr3 : Fn 16 [] [wv 0] (.int .i64 0) := wsign_fn 0
 have kr4 := wof_fn 1 (by unfold I64; omega)
 clear k k' ev
 rcases hu with rfl | rfl
 ·refine fn_of Tryz.func12 rfl fun ww => ?_
  refine qF ent40 (kr1) ?_
  refine qF ent19 (kr2) ?_
  refine qF ent42 (kb) ?_
  refine qI 60 (A + B) ?_
  refine qF ent16 (kr3) ?_
  refine qF ent30 (kr4) ?_
  exact qR Tryz.func12
 ·refine fn_of Tryz.func12 rfl fun ww => ?_
  refine qF ent40 (kr1) ?_
  refine qF ent19 (kr2) ?_
  refine qF ent42 (kb) ?_
  refine qI 60 (A + B) ?_
  refine qF ent16 (kr3) ?_
  refine qF ent30 (kr4) ?_
  exact qR Tryz.func12
theorem rtot_e (u : Int) (hu : u = 1 ∧ c = A ∨ u = 2 ∧ c = A + B) (k : pOk y mo d h m s nn) (k' : pOk y' mo' d' h' m' s' n') (hv : v = 1 ∨ v = -1) (ev : cmpI (pnum y' mo' d' h' m' s' n' - pnum y mo d h m s nn) 0 = v) (hA : -9000000 ≤ A ∧ A ≤ 9000000) (hB : -9000000 ≤ B ∧ B ≤ 9000000)
  (kb : Fn 42 [] [ptv y mo d h m s nn, ptv y' mo' d' h' m' s' n', .int .i64 u] (.tuple #[duv A B C D H M S N, .int .i64 e0]))
  (km1 : Fn 7 [] [ptv y mo d h m s nn, .int .i64 c, .int .i64 u] (.tuple #[ptv f1 f2 f3 f4 f5 f6 f7, .int .i64 q])) (km2 : Fn 7 [] [ptv y mo d h m s nn, .int .i64 (c + v), .int .i64 u] (.tuple #[ptv t1 t2 t3 t4 t5 t6 t7, .int .i64 e])) (he : e ≠ 0) :
  Fn 12 [] [ptv y mo d h m s nn, ptv y' mo' d' h' m' s' n', .int .i64 u] (.tuple #[wz, wz, .int .i64 e]) := by
 have kr1 := psince_yes y mo d h m s nn y' mo' d' h' m' s' n' k k'
 have kr2 := rknown_y u (by omega) (by omega)
 have kr3 := wsign_fn (pnum y' mo' d' h' m' s' n' - pnum y mo d h m s nn)
 rw [ev] at kr3
 generalize pnum y' mo' d' h' m' s' n' - pnum y mo d h m s nn = w at *
 clear k k' ev
 have hv0 : v ≠ 0 := by omega
 rcases hu with ⟨rfl, rfl⟩ | ⟨rfl, rfl⟩
 ·refine fn_of Tryz.func12 rfl fun ww => ?_
  refine qF ent40 (kr1) ?_
  refine qF ent19 (kr2) ?_
  refine qF ent42 (kb) ?_
  refine qI 60 (c + B) ?_
  refine qF ent16 (kr3) ?_
  refine qN 68 (v == 0) ?_
  refine qF ent7 (km1) ?_
  refine qI 82 (c + v) ?_
  refine qF ent7 (km2) ?_
  refine qV 88 (show (e != 0) = true by exact bne_iff_ne.2 (by omega)) ?_
  exact qR Tryz.func12
 ·refine fn_of Tryz.func12 rfl fun ww => ?_
  refine qF ent40 (kr1) ?_
  refine qF ent19 (kr2) ?_
  refine qF ent42 (kb) ?_
  refine qI 60 (A + B) ?_
  refine qF ent16 (kr3) ?_
  refine qN 68 (v == 0) ?_
  refine qF ent7 (km1) ?_
  refine qI 82 (A + B + v) ?_
  refine qF ent7 (km2) ?_
  refine qV 88 (show (e != 0) = true by exact bne_iff_ne.2 (by omega)) ?_
  exact qR Tryz.func12
theorem rtot_m (u : Int) (hu : u = 1 ∧ c = A ∨ u = 2 ∧ c = A + B) (k : pOk y mo d h m s nn) (k' : pOk y' mo' d' h' m' s' n') (hv : v = 1 ∨ v = -1) (ev : cmpI (pnum y' mo' d' h' m' s' n' - pnum y mo d h m s nn) 0 = v) (hA : -9000000 ≤ A ∧ A ≤ 9000000) (hB : -9000000 ≤ B ∧ B ≤ 9000000)
  (kb : Fn 42 [] [ptv y mo d h m s nn, ptv y' mo' d' h' m' s' n', .int .i64 u] (.tuple #[duv A B C D H M S N, .int .i64 e0]))
  (km1 : Fn 7 [] [ptv y mo d h m s nn, .int .i64 c, .int .i64 u] (.tuple #[ptv f1 f2 f3 f4 f5 f6 f7, .int .i64 0])) (km2 : Fn 7 [] [ptv y mo d h m s nn, .int .i64 (c + v), .int .i64 u] (.tuple #[ptv t1 t2 t3 t4 t5 t6 t7, .int .i64 0]))
  (ks1 : Fn 40 [] [ptv f1 f2 f3 f4 f5 f6 f7, ptv y' mo' d' h' m' s' n'] (.tuple #[wv x1, .int .i64 0])) (ks2 : Fn 40 [] [ptv f1 f2 f3 f4 f5 f6 f7, ptv t1 t2 t3 t4 t5 t6 t7] (.tuple #[wv z1, .int .i64 0]))
  (kt1 : Fn 43 [] [wv x1, .int .i64 v] (.tuple #[wv x2, .int .i64 0])) (kt2 : Fn 43 [] [wv z1, .int .i64 c] (.tuple #[wv w2, .int .i64 0])) (kd : Fn 44 [] [wv w2, wv x2] (.tuple #[wv x3, .int .i64 0])) (kf : Fn 41 [] [wv x3, wv z1] (.tuple #[wv p, wv q, .int .i64 e])) :
  Fn 12 [] [ptv y mo d h m s nn, ptv y' mo' d' h' m' s' n', .int .i64 u] (.tuple #[wv p, wv q, .int .i64 e]) := by
 have kr1 := psince_yes y mo d h m s nn y' mo' d' h' m' s' n' k k'
 have kr2 := rknown_y u (by omega) (by omega)
 have kr3 := wsign_fn (pnum y' mo' d' h' m' s' n' - pnum y mo d h m s nn)
 rw [ev] at kr3
 generalize pnum y' mo' d' h' m' s' n' - pnum y mo d h m s nn = w at *
 clear k k' ev
 have hv0 : v ≠ 0 := by omega
 rcases hu with ⟨rfl, rfl⟩ | ⟨rfl, rfl⟩
 ·refine fn_of Tryz.func12 rfl fun ww => ?_
  refine qF ent40 (kr1) ?_
  refine qF ent19 (kr2) ?_
  refine qF ent42 (kb) ?_
  refine qI 60 (c + B) ?_
  refine qF ent16 (kr3) ?_
  refine qN 68 (v == 0) ?_
  refine qF ent7 (km1) ?_
  refine qI 82 (c + v) ?_
  refine qF ent7 (km2) ?_
  refine qF ent40 (ks1) ?_
  refine qF ent40 (ks2) ?_
  refine qF ent43 (kt1) ?_
  refine qF ent43 (kt2) ?_
  refine qF ent44 (kd) ?_
  refine qF ent41 (kf) ?_
  exact qR Tryz.func12
 ·refine fn_of Tryz.func12 rfl fun ww => ?_
  refine qF ent40 (kr1) ?_
  refine qF ent19 (kr2) ?_
  refine qF ent42 (kb) ?_
  refine qI 60 (A + B) ?_
  refine qF ent16 (kr3) ?_
  refine qN 68 (v == 0) ?_
  refine qF ent7 (km1) ?_
  refine qI 82 (A + B + v) ?_
  refine qF ent7 (km2) ?_
  refine qF ent40 (ks1) ?_
  refine qF ent40 (ks2) ?_
  refine qF ent43 (kt1) ?_
  refine qF ent43 (kt2) ?_
  refine qF ent44 (kd) ?_
  refine qF ent41 (kf) ?_
  exact qR Tryz.func12
end
section
variable (u i a b : Int)
theorem rinc_c (h : u ≤ 4) : Fn 48 [] [.int .i64 u, .int .i64 i] (.bool (decide (1 ≤ i ∧ i ≤ 1000000000))) := by
 by_cases q1 : 1 ≤ i
 ·by_cases q2 : i ≤ 1000000000
  ·rw [decide_eq_true ⟨q1, q2⟩]
   refine fn_of Tryz.func48 rfl fun ww => ?_
   refine qY 6 (decide (u ≤ 4)) ?_
   refine qY 8 (decide (i ≥ 1)) ?_
   exact st_retv Tryz.func48 (show Value.bool (decide (i ≤ 1000000000)) = _ by simp_all) (by kernel_rfl)
  ·rw [decide_eq_false (fun q => q2 q.2)]
   refine fn_of Tryz.func48 rfl fun ww => ?_
   refine qY 6 (decide (u ≤ 4)) ?_
   refine qY 8 (decide (i ≥ 1)) ?_
   exact st_retv Tryz.func48 (show Value.bool (decide (i ≤ 1000000000)) = _ by simp_all) (by kernel_rfl)
 ·rw [decide_eq_false (fun q => q1 q.1)]
  refine fn_of Tryz.func48 rfl fun ww => ?_
  refine qY 6 (decide (u ≤ 4)) ?_
  refine qN 8 (decide (i ≥ 1)) ?_
  exact qR Tryz.func48
theorem rinc_t (h : 4 < u) : Fn 48 [] [.int .i64 u, .int .i64 i] (.bool (decide (incOk u i))) := by
 have kr1 := uinc u i
 refine fn_of Tryz.func48 rfl fun ww => ?_
 refine qN 6 (decide (u ≤ 4)) ?_
 refine qF ent105 (kr1) ?_
 exact qR Tryz.func48
variable (y mo d h m s n y' mo' d' h' m' s' n' L S' md e A B C D H M S N : Int)
theorem rrnd_l (q : L < 1 ∨ 8 < L) : Fn 14 [] [ptv y mo d h m s n, ptv y' mo' d' h' m' s' n', .int .i64 L, .int .i64 S', .int .i64 i, .int .i64 md] (.tuple #[du0, .int .i64 1]) := by
 have kr1 := rknown_n L q
 clear q
 refine fn_of Tryz.func14 rfl fun ww => ?_
 refine qF ent19 (kr1) ?_
 exact qR Tryz.func14
theorem rrnd_s (l1 : 1 ≤ L) (l2 : L ≤ 8) (q : S' < 1 ∨ 8 < S') : Fn 14 [] [ptv y mo d h m s n, ptv y' mo' d' h' m' s' n', .int .i64 L, .int .i64 S', .int .i64 i, .int .i64 md] (.tuple #[du0, .int .i64 1]) := by
 have kr1 := rknown_y L l1 l2
 have kr2 := rknown_n S' q
 clear q
 refine fn_of Tryz.func14 rfl fun ww => ?_
 refine qF ent19 (kr1) ?_
 refine qF ent19 (kr2) ?_
 exact qR Tryz.func14
theorem rrnd_o (l1 : 1 ≤ L) (l2 : S' < L) (l3 : 1 ≤ S') (l4 : L ≤ 8) : Fn 14 [] [ptv y mo d h m s n, ptv y' mo' d' h' m' s' n', .int .i64 L, .int .i64 S', .int .i64 i, .int .i64 md] (.tuple #[du0, .int .i64 1]) := by
 have kr1 := rknown_y L l1 l4
 have kr2 := rknown_y S' l3 (by omega)
 refine fn_of Tryz.func14 rfl fun ww => ?_
 refine qF ent19 (kr1) ?_
 refine qF ent19 (kr2) ?_
 refine qY 33 (decide (L > S')) ?_
 exact qR Tryz.func14
theorem rrnd_i (l1 : 1 ≤ L) (l2 : L ≤ S') (l3 : S' ≤ 8) (kinc : Fn 48 [] [.int .i64 S', .int .i64 i] (.bool false)) : Fn 14 [] [ptv y mo d h m s n, ptv y' mo' d' h' m' s' n', .int .i64 L, .int .i64 S', .int .i64 i, .int .i64 md] (.tuple #[du0, .int .i64 1]) := by
 have kr1 := rknown_y L l1 (by omega)
 have kr2 := rknown_y S' (by omega) l3
 refine fn_of Tryz.func14 rfl fun ww => ?_
 refine qF ent19 (kr1) ?_
 refine qF ent19 (kr2) ?_
 refine qN 33 (decide (L > S')) ?_
 refine qF ent48 (kinc) ?_
 exact qR Tryz.func14
theorem rrnd_m (l1 : 1 ≤ L) (l2 : L ≤ S') (l3 : S' ≤ 8) (kinc : Fn 48 [] [.int .i64 S', .int .i64 i] (.bool true)) (hm : md < 1 ∨ 9 < md) : Fn 14 [] [ptv y mo d h m s n, ptv y' mo' d' h' m' s' n', .int .i64 L, .int .i64 S', .int .i64 i, .int .i64 md] (.tuple #[du0, .int .i64 1]) := by
 have kr1 := rknown_y L l1 (by omega)
 have kr2 := rknown_y S' (by omega) l3
 by_cases q : md < 1
 ·refine fn_of Tryz.func14 rfl fun ww => ?_
  refine qF ent19 (kr1) ?_
  refine qF ent19 (kr2) ?_
  refine qN 33 (decide (L > S')) ?_
  refine qF ent48 (kinc) ?_
  refine qY 43 (decide (md < 1)) ?_
  exact qR Tryz.func14
 ·have q2 : 9 < md := by omega
  refine fn_of Tryz.func14 rfl fun ww => ?_
  refine qF ent19 (kr1) ?_
  refine qF ent19 (kr2) ?_
  refine qN 33 (decide (L > S')) ?_
  refine qF ent48 (kinc) ?_
  refine qN 43 (decide (md < 1)) ?_
  refine qY 47 (decide (md > 9)) ?_
  exact qR Tryz.func14
theorem rrnd_e (l1 : 1 ≤ L) (l2 : L ≤ S') (l3 : S' ≤ 8) (kinc : Fn 48 [] [.int .i64 S', .int .i64 i] (.bool true)) (m1 : 1 ≤ md) (m2 : md ≤ 9) (ht : Fn 12 [] [ptv y mo d h m s n, ptv y' mo' d' h' m' s' n', .int .i64 S'] (.tuple #[wz, wz, .int .i64 e])) (he : e ≠ 0) :
  Fn 14 [] [ptv y mo d h m s n, ptv y' mo' d' h' m' s' n', .int .i64 L, .int .i64 S', .int .i64 i, .int .i64 md] (.tuple #[du0, .int .i64 e]) := by
 have kr1 := rknown_y L l1 (by omega)
 have kr2 := rknown_y S' (by omega) l3
 refine fn_of Tryz.func14 rfl fun ww => ?_
 refine qF ent19 (kr1) ?_
 refine qF ent19 (kr2) ?_
 refine qN 33 (decide (L > S')) ?_
 refine qF ent48 (kinc) ?_
 refine qN 43 (decide (md < 1)) ?_
 refine qN 47 (decide (md > 9)) ?_
 refine qF ent12 (ht) ?_
 refine qV 59 (show (e != 0) = true by exact bne_iff_ne.2 (by omega)) ?_
 exact qR Tryz.func14
variable (p q d2 w w2 t1 t2 t3 t4 t5 t6 t7 : Int)
theorem rrnd_v (l1 : 1 ≤ L) (l2 : L ≤ S') (l3 : S' ≤ 8) (kinc : Fn 48 [] [.int .i64 S', .int .i64 i] (.bool true)) (m1 : 1 ≤ md) (m2 : md ≤ 9) (ht : Fn 12 [] [ptv y mo d h m s n, ptv y' mo' d' h' m' s' n', .int .i64 S'] (.tuple #[wv p, wv q, .int .i64 0]))
  (hd : Fn 43 [] [wv q, .int .i64 i] (.tuple #[wv d2, .int .i64 0])) (hr : Fn 49 [] [wv p, wv d2, .int .i64 md] (.tuple #[wv w, .int .i64 0])) (hw : Fn 43 [] [wv w, .int .i64 i] (.tuple #[wv w2, .int .i64 0])) (hk : Fn 50 [] [wv w2] (.tuple #[.int .i64 w2, .bool true]))
  (hm : Fn 7 [] [ptv y mo d h m s n, .int .i64 w2, .int .i64 S'] (.tuple #[ptv t1 t2 t3 t4 t5 t6 t7, .int .i64 0])) (hb : Fn 42 [] [ptv y mo d h m s n, ptv t1 t2 t3 t4 t5 t6 t7, .int .i64 L] (.tuple #[duv A B C D H M S N, .int .i64 e])) :
  Fn 14 [] [ptv y mo d h m s n, ptv y' mo' d' h' m' s' n', .int .i64 L, .int .i64 S', .int .i64 i, .int .i64 md] (.tuple #[duv A B C D H M S N, .int .i64 e]) := by
 have kr1 := rknown_y L l1 (by omega)
 have kr2 := rknown_y S' (by omega) l3
 refine fn_of Tryz.func14 rfl fun ww => ?_
 refine qF ent19 (kr1) ?_
 refine qF ent19 (kr2) ?_
 refine qN 33 (decide (L > S')) ?_
 refine qF ent48 (kinc) ?_
 refine qN 43 (decide (md < 1)) ?_
 refine qN 47 (decide (md > 9)) ?_
 refine qF ent12 (ht) ?_
 refine qF ent43 (hd) ?_
 refine qF ent49 (hr) ?_
 refine qF ent43 (hw) ?_
 refine qF ent50 (hk) ?_
 refine qF ent7 (hm) ?_
 refine qF ent42 (hb) ?_
 exact qR Tryz.func14
theorem rrnd_ve (l1 : 1 ≤ L) (l2 : L ≤ S') (l3 : S' ≤ 8) (kinc : Fn 48 [] [.int .i64 S', .int .i64 i] (.bool true)) (m1 : 1 ≤ md) (m2 : md ≤ 9) (ht : Fn 12 [] [ptv y mo d h m s n, ptv y' mo' d' h' m' s' n', .int .i64 S'] (.tuple #[wv p, wv q, .int .i64 0]))
  (hd : Fn 43 [] [wv q, .int .i64 i] (.tuple #[wv d2, .int .i64 0])) (hr : Fn 49 [] [wv p, wv d2, .int .i64 md] (.tuple #[wv w, .int .i64 0])) (hw : Fn 43 [] [wv w, .int .i64 i] (.tuple #[wv w2, .int .i64 0])) (hk : Fn 50 [] [wv w2] (.tuple #[.int .i64 w2, .bool true]))
  (hm : Fn 7 [] [ptv y mo d h m s n, .int .i64 w2, .int .i64 S'] (.tuple #[ptv t1 t2 t3 t4 t5 t6 t7, .int .i64 e])) (he : e ≠ 0) :
  Fn 14 [] [ptv y mo d h m s n, ptv y' mo' d' h' m' s' n', .int .i64 L, .int .i64 S', .int .i64 i, .int .i64 md] (.tuple #[du0, .int .i64 4]) := by
 have kr1 := rknown_y L l1 (by omega)
 have kr2 := rknown_y S' (by omega) l3
 refine fn_of Tryz.func14 rfl fun ww => ?_
 refine qF ent19 (kr1) ?_
 refine qF ent19 (kr2) ?_
 refine qN 33 (decide (L > S')) ?_
 refine qF ent48 (kinc) ?_
 refine qN 43 (decide (md < 1)) ?_
 refine qN 47 (decide (md > 9)) ?_
 refine qF ent12 (ht) ?_
 refine qF ent43 (hd) ?_
 refine qF ent49 (hr) ?_
 refine qF ent43 (hw) ?_
 refine qF ent50 (hk) ?_
 refine qF ent7 (hm) ?_
 refine qV 103 (show (e != 0) = true by exact bne_iff_ne.2 (by omega)) ?_
 exact qR Tryz.func14
theorem rfar_n (ho : Fn 43 [] [wv w2, .int .i64 (rlen S')] (.tuple #[wv p, .int .i64 0])) (ha : Fn 22 [] [ptv y mo d h m s n, wv p] (.tuple #[ptv t1 t2 t3 t4 t5 t6 t7, .int .i64 e])) (he : e ≠ 0) : Fn 51 [] [ptv y mo d h m s n, wv w2, .int .i64 L, .int .i64 S'] (.tuple #[du0, .int .i64 4]) := by
 have kr1 := rlength S'
 refine fn_of Tryz.func51 rfl fun ww => ?_
 refine qF ent24 (kr1) ?_
 refine qF ent43 (ho) ?_
 refine qF ent22 (ha) ?_
 refine qV 30 (show (e != 0) = true by exact bne_iff_ne.2 (by omega)) ?_
 exact qR Tryz.func51
theorem rfar_y (ho : Fn 43 [] [wv w2, .int .i64 (rlen S')] (.tuple #[wv p, .int .i64 0])) (ha : Fn 22 [] [ptv y mo d h m s n, wv p] (.tuple #[ptv t1 t2 t3 t4 t5 t6 t7, .int .i64 0])) (hb : Fn 42 [] [ptv y mo d h m s n, ptv t1 t2 t3 t4 t5 t6 t7, .int .i64 L] (.tuple #[duv A B C D H M S N, .int .i64 e])) :
  Fn 51 [] [ptv y mo d h m s n, wv w2, .int .i64 L, .int .i64 S'] (.tuple #[duv A B C D H M S N, .int .i64 e]) := by
 have kr1 := rlength S'
 refine fn_of Tryz.func51 rfl fun ww => ?_
 refine qF ent24 (kr1) ?_
 refine qF ent43 (ho) ?_
 refine qF ent22 (ha) ?_
 refine qF ent42 (hb) ?_
 exact qR Tryz.func51
theorem rrnd_f (l1 : 1 ≤ L) (l2 : L ≤ S') (l3 : S' ≤ 8) (kinc : Fn 48 [] [.int .i64 S', .int .i64 i] (.bool true)) (m1 : 1 ≤ md) (m2 : md ≤ 9) (ht : Fn 12 [] [ptv y mo d h m s n, ptv y' mo' d' h' m' s' n', .int .i64 S'] (.tuple #[wv p, wv q, .int .i64 0]))
  (hd : Fn 43 [] [wv q, .int .i64 i] (.tuple #[wv d2, .int .i64 0])) (hr : Fn 49 [] [wv p, wv d2, .int .i64 md] (.tuple #[wv w, .int .i64 0])) (hw : Fn 43 [] [wv w, .int .i64 i] (.tuple #[wv w2, .int .i64 0])) (hk : Fn 50 [] [wv w2] (.tuple #[.int .i64 0, .bool false]))
  (hf : Fn 51 [] [ptv y mo d h m s n, wv w2, .int .i64 L, .int .i64 S'] (.tuple #[duv A B C D H M S N, .int .i64 e])) :
  Fn 14 [] [ptv y mo d h m s n, ptv y' mo' d' h' m' s' n', .int .i64 L, .int .i64 S', .int .i64 i, .int .i64 md] (.tuple #[duv A B C D H M S N, .int .i64 e]) := by
 have kr1 := rknown_y L l1 (by omega)
 have kr2 := rknown_y S' (by omega) l3
 refine fn_of Tryz.func14 rfl fun ww => ?_
 refine qF ent19 (kr1) ?_
 refine qF ent19 (kr2) ?_
 refine qN 33 (decide (L > S')) ?_
 refine qF ent48 (kinc) ?_
 refine qN 43 (decide (md < 1)) ?_
 refine qN 47 (decide (md > 9)) ?_
 refine qF ent12 (ht) ?_
 refine qF ent43 (hd) ?_
 refine qF ent49 (hr) ?_
 refine qF ent43 (hw) ?_
 refine qF ent50 (hk) ?_
 refine qF ent51 (hf) ?_
 exact qR Tryz.func14
end
end Go.Proofs.YthoedmikfpbfnaaGreat
end
