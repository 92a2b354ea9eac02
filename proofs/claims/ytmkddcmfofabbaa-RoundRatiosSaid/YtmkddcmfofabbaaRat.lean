/-
  Ratio, by the program and by the reference.
-/
import Derived.Test.YtmkddcmfofabbaaNrr
set_option linter.unusedVariables false
set_option maxRecDepth 100000
namespace Go.Proofs.Ytmkddcmfofabbaa
open Go Go.RowKit Go.Ev

/-- The fraction's numbers with the one below above 0. -/
def nN (n d : Int) : Int := if d < 0 then -n else n
def nD (d : Int) : Int := if d < 0 then -d else d
theorem z_neg {w : World} {q : ZQ} {x : Int} (h : ZOf q x w) : q.n = decide (x < 0) := (isZ_sign h).2
theorem zrat_bad (n d mode : Int) (hn : W128 n) (hd : W128 d) (hm : mode < 1 ∨ 9 < mode) : Fn 83 [] [wv n, wv d, .int .i64 mode] (.tuple #[.agg #[.int .i64 0, .int .u64 0], .int .i64 1]) := by
  by_cases k : mode < 1
  · refine fn_of Try.func83 rfl fun ww => ?_
    refine st_g ent35 (frof (n) (by assumption)) sub0 (by kernel_rfl) (fun zq0 => ?_)
    refine st_g ent35 (frof (d) (by assumption)) sub0 (by kernel_rfl) (fun zq1 => ?_)
    refine st_b 17 (show (decide (mode < 1)) = true by exact decide_eq_true (by omega)) (by kernel_rfl) ?_
    exact st_ret Try.func83 (by kernel_rfl)
  · refine fn_of Try.func83 rfl fun ww => ?_
    refine st_g ent35 (frof (n) (by assumption)) sub0 (by kernel_rfl) (fun zq0 => ?_)
    refine st_g ent35 (frof (d) (by assumption)) sub0 (by kernel_rfl) (fun zq1 => ?_)
    refine st_b 17 (show (decide (mode < 1)) = false by exact decide_eq_false (by omega)) (by kernel_rfl) ?_
    refine st_b 20 (show (decide (mode > 9)) = true by exact decide_eq_true (by omega)) (by kernel_rfl) ?_
    exact st_ret Try.func83 (by kernel_rfl)
theorem zrat_zero (n mode : Int) (hn : W128 n) (h0 : W128 0) (h1 : 1 ≤ mode) (h2 : mode ≤ 9) : Fn 83 [] [wv n, wv 0, .int .i64 mode] (.tuple #[.agg #[.int .i64 0, .int .u64 0], .int .i64 3]) := by
  refine fn_of Try.func83 rfl fun ww => ?_
  refine st_g ent35 (frof (n) (by assumption)) sub0 (by kernel_rfl) (fun zq0 => ?_)
  refine st_g ent35 (frof (0) (by assumption)) sub0 (by kernel_rfl) (fun zq1 => ?_)
  refine st_b 17 (show (decide (mode < 1)) = false by exact decide_eq_false (by omega)) (by kernel_rfl) ?_
  refine st_b 20 (show (decide (mode > 9)) = false by exact decide_eq_false (by omega)) (by kernel_rfl) ?_
  refine st_fn ent39 (fzsign (zq1) (0) (by exact Bits.fit h0.bits (by decide))) (subC 0 rfl sub0) (by kernel_rfl) ?_
  exact st_ret Try.func83 (by kernel_rfl)
theorem zrat_pos (n d mode : Int) (hn : W128 n) (hd : W128 d) (h0 : 0 < d) (h1 : 1 ≤ mode) (h2 : mode ≤ 9) (hx : Bits 200 n) (hy : Bits 200 d) (hc : cmpI d 0 = 1) (hb : Bits 202 (nearQ n d mode)) : Fn 83 [] [wv n, wv d, .int .i64 mode] (rtv (nearQ n d mode)) := by
  refine fn_of Try.func83 rfl fun ww => ?_
  refine st_g ent35 (frof n hn) sub0 (by kernel_rfl) (fun za => ?_)
  refine st_g ent35 (frof d hd) sub0 (by kernel_rfl) (fun zb => ?_)
  refine st_know (fun w h => z_neg (q := zb) (x := d) (h (zb, d) (List.mem_append_left _ (by simp)))) fun hk => ?_
  have hk' : zb.n = false := by rw [hk]; exact decide_eq_false (by omega)
  clear hk
  refine st_b 17 (show (decide (mode < 1)) = false by exact decide_eq_false (by omega)) (by kernel_rfl) ?_
  refine st_b 20 (show (decide (mode > 9)) = false by exact decide_eq_false (by omega)) (by kernel_rfl) ?_
  refine st_fn ent39 (fzsign (zb) (d) (by exact Bits.fit hd.bits (by decide))) (subC 0 rfl sub0) (by kernel_rfl) ?_
  refine st_b 25 (show (cmpI d 0 == 0) = false by exact decide_eq_false (by omega)) (by kernel_rfl) ?_
  refine st_b 28 (show (zb.n) = false by assumption) (by kernel_rfl) ?_
  refine st_g ent118 (near_ok (za) (zb) (n) (d) (mode) (by exact Bits.mono hn.bits (by decide)) (by exact Bits.mono hd.bits (by decide)) (by assumption) (by assumption) (by assumption)) (subC 1 rfl (subC 0 rfl sub0)) (by kernel_rfl) (fun zq1 => ?_)
  refine st_fn ent44 (frtold_any (zq1) (nearQ n d mode) (by exact Bits.mono hb (by decide))) (subC 0 rfl sub0) (by kernel_rfl) ?_
  exact st_ret Try.func83 (by kernel_rfl)
theorem zrat_neg (n d mode : Int) (hn : W128 n) (hd : W128 d) (h0 : d < 0) (h00 : 0 < -d) (h1 : 1 ≤ mode) (h2 : mode ≤ 9) (hx : Bits 200 (-n)) (hy : Bits 200 (-d)) (hc : cmpI d 0 = -1) (hb : Bits 202 (nearQ (-n) (-d) mode)) : Fn 83 [] [wv n, wv d, .int .i64 mode] (rtv (nearQ (-n) (-d) mode)) := by
  refine fn_of Try.func83 rfl fun ww => ?_
  refine st_g ent35 (frof n hn) sub0 (by kernel_rfl) (fun za => ?_)
  refine st_g ent35 (frof d hd) sub0 (by kernel_rfl) (fun zb => ?_)
  refine st_know (fun w h => z_neg (q := zb) (x := d) (h (zb, d) (List.mem_append_left _ (by simp)))) fun hk => ?_
  have hk' : zb.n = true := by rw [hk]; exact decide_eq_true (by omega)
  clear hk
  refine st_b 17 (show (decide (mode < 1)) = false by exact decide_eq_false (by omega)) (by kernel_rfl) ?_
  refine st_b 20 (show (decide (mode > 9)) = false by exact decide_eq_false (by omega)) (by kernel_rfl) ?_
  refine st_fn ent39 (fzsign (zb) (d) (by exact Bits.fit hd.bits (by decide))) (subC 0 rfl sub0) (by kernel_rfl) ?_
  refine st_b 25 (show (cmpI d 0 == 0) = false by exact decide_eq_false (by omega)) (by kernel_rfl) ?_
  refine st_b 28 (show (zb.n) = true by assumption) (by kernel_rfl) ?_
  refine st_g ent50 (fzneg (za) (n) (by exact Bits.fit hn.bits (by decide))) (subC 1 rfl sub0) (by kernel_rfl) (fun zq1 => ?_)
  refine st_g ent50 (fzneg (zb) (d) (by exact Bits.fit hd.bits (by decide))) (subC 1 rfl sub0) (by kernel_rfl) (fun zq2 => ?_)
  refine st_g ent118 (near_ok (zq1) (zq2) (-n) (-d) (mode) (by exact Bits.mono hx (by decide)) (by exact Bits.mono hy (by decide)) (by assumption) (by assumption) (by assumption)) (subC 1 rfl (subC 0 rfl sub0)) (by kernel_rfl) (fun zq3 => ?_)
  refine st_fn ent44 (frtold_any (zq3) (nearQ (-n) (-d) mode) (by exact Bits.mono hb (by decide))) (subC 0 rfl sub0) (by kernel_rfl) ?_
  exact st_ret Try.func83 (by kernel_rfl)
theorem rat_bad (n d mode : Int) (hm : mode < 1 ∨ 9 < mode) : Fn 82 [] [wv n, wv d, .int .i64 mode] (.tuple #[.agg #[.int .i64 0, .int .u64 0], .int .i64 1]) := by
  by_cases k : mode < 1
  · refine fn_of Try.func82 rfl fun ww => ?_
    refine st_b 17 (show (decide (mode < 1)) = true by exact decide_eq_true (by omega)) (by kernel_rfl) ?_
    exact st_ret Try.func82 (by kernel_rfl)
  · refine fn_of Try.func82 rfl fun ww => ?_
    refine st_b 17 (show (decide (mode < 1)) = false by exact decide_eq_false (by omega)) (by kernel_rfl) ?_
    refine st_b 20 (show (decide (mode > 9)) = true by exact decide_eq_true (by omega)) (by kernel_rfl) ?_
    exact st_ret Try.func82 (by kernel_rfl)
theorem rat_zero (n mode : Int) (h1 : 1 ≤ mode) (h2 : mode ≤ 9) (hf : Fn 65 [] [wv n, wv 0] (.tuple #[.agg #[.int .i64 0, .int .u64 0], .agg #[.int .i64 0, .int .u64 0], .int .i64 3])) : Fn 82 [] [wv n, wv 0, .int .i64 mode] (.tuple #[.agg #[.int .i64 0, .int .u64 0], .int .i64 3]) := by
  refine fn_of Try.func82 rfl fun ww => ?_
  refine st_b 17 (show (decide (mode < 1)) = false by exact decide_eq_false (by omega)) (by kernel_rfl) ?_
  refine st_b 20 (show (decide (mode > 9)) = false by exact decide_eq_false (by omega)) (by kernel_rfl) ?_
  refine st_fn ent65 (hf) sub0 (by kernel_rfl) ?_
  exact st_ret Try.func82 (by kernel_rfl)
theorem rat_ext (n d mode : Int) (v : Value) (a b c : Int) (h1 : 1 ≤ mode) (h2 : mode ≤ 9) (hf : Fn 65 [] [wv n, wv d] (.tuple #[.agg #[.int .i64 0, .int .u64 0], .agg #[.int .i64 0, .int .u64 0], .int .i64 2]))
    (he : Fn 119 [] [wv n, wv d, .int .i64 mode] (.tuple #[.agg #[.int .i64 a, .int .u64 b], .int .i64 c])) : Fn 82 [] [wv n, wv d, .int .i64 mode] (.tuple #[.agg #[.int .i64 a, .int .u64 b], .int .i64 c]) := by
  refine fn_of Try.func82 rfl fun ww => ?_
  refine st_b 17 (show (decide (mode < 1)) = false by exact decide_eq_false (by omega)) (by kernel_rfl) ?_
  refine st_b 20 (show (decide (mode > 9)) = false by exact decide_eq_false (by omega)) (by kernel_rfl) ?_
  refine st_fn ent65 (hf) sub0 (by kernel_rfl) ?_
  refine st_fn ent119 (he) sub0 (by kernel_rfl) ?_
  exact st_ret Try.func82 (by kernel_rfl)
theorem rat_ok (n d mode p q : Int) (h1 : 1 ≤ mode) (h2 : mode ≤ 9) (hf : Fn 65 [] [wv n, wv d] (.tuple #[wv p, wv q, .int .i64 0])) (hp : W128 p) (hq : W128 q) (h0 : 0 < q) :
    Fn 82 [] [wv n, wv d, .int .i64 mode] (rtv (nearQ p q mode)) := by
  obtain ⟨hd, r0, r1, e⟩ := fl_bd hp h0
  have hne : q ≠ 0 := by omega
  have hr : W128 (p.fmod q) := by unfold W128 at *; omega
  have hl : W128 (q - p.fmod q) := by unfold W128 at *; omega
  by_cases hz : p.fmod q = 0
  · have hy : nearQ p q mode = p.fdiv q := by unfold nearQ; rw [if_pos hz]
    have hb := wz_yes hz
    rw [hy, rtv_yes hd]
    refine fn_of Try.func82 rfl fun ww => ?_
    refine st_b 17 (show (decide (mode < 1)) = false by exact decide_eq_false (by omega)) (by kernel_rfl) ?_
    refine st_b 20 (show (decide (mode > 9)) = false by exact decide_eq_false (by omega)) (by kernel_rfl) ?_
    refine st_fn ent65 (hf) sub0 (by kernel_rfl) ?_
    refine st_fn ent56 (dfloor_yes (p) (q) (by assumption) (by assumption) (by assumption) (by assumption)) sub0 (by kernel_rfl) ?_
    refine st_b 53 (show (hi (p.fmod q) == 0 && (lo (p.fmod q) == 0 && true)) = true by assumption) (by kernel_rfl) ?_
    exact st_ret Try.func82 (by kernel_rfl)
  · have hb := wz_no hz
    by_cases hu : upQ p q mode = true
    · have hu' : upB mode (decide (p < 0)) (cmpI (p.fmod q) (q - p.fmod q)) (decide (p.fdiv q % 2 = 0)) = true := hu
      have hy : nearQ p q mode = p.fdiv q + 1 := by unfold nearQ; rw [if_neg hz, if_pos hu]
      rw [hy]
      refine fn_of Try.func82 rfl fun ww => ?_
      refine st_b 17 (show (decide (mode < 1)) = false by exact decide_eq_false (by omega)) (by kernel_rfl) ?_
      refine st_b 20 (show (decide (mode > 9)) = false by exact decide_eq_false (by omega)) (by kernel_rfl) ?_
      refine st_fn ent65 (hf) sub0 (by kernel_rfl) ?_
      refine st_fn ent56 (dfloor_yes (p) (q) (by assumption) (by assumption) (by assumption) (by assumption)) sub0 (by kernel_rfl) ?_
      refine st_b 53 (show (hi (p.fmod q) == 0 && (lo (p.fmod q) == 0 && true)) = false by assumption) (by kernel_rfl) ?_
      refine st_b 62 (dec_hi p) (by kernel_rfl) ?_
      refine st_fn ent117 (between_fn (p.fdiv q) (p.fmod q) (q) (decide (p < 0)) (by assumption) (by assumption) (by assumption)) sub0 (by kernel_rfl) ?_
      refine st_fn ent116 (up_t (mode) (decide (p < 0)) (cmpI (p.fmod q) (q - p.fmod q)) (decide (p.fdiv q % 2 = 0)) (by assumption) (by assumption) (by assumption)) sub0 (by kernel_rfl) ?_
      refine st_fn ent32 (wof_fn (1) (by (unfold I64; omega))) sub0 (by kernel_rfl) ?_
      refine st_fn ent45 (wadd_any (p.fdiv q) (1) (by assumption) (by (unfold W128; omega))) sub0 (by kernel_rfl) ?_
      exact st_ret Try.func82 (by kernel_rfl)
    · have hu' : upB mode (decide (p < 0)) (cmpI (p.fmod q) (q - p.fmod q)) (decide (p.fdiv q % 2 = 0)) = false := (Bool.not_eq_true _).mp hu
      have hy : nearQ p q mode = p.fdiv q := by unfold nearQ; rw [if_neg hz, if_neg hu]
      rw [hy, rtv_yes hd]
      refine fn_of Try.func82 rfl fun ww => ?_
      refine st_b 17 (show (decide (mode < 1)) = false by exact decide_eq_false (by omega)) (by kernel_rfl) ?_
      refine st_b 20 (show (decide (mode > 9)) = false by exact decide_eq_false (by omega)) (by kernel_rfl) ?_
      refine st_fn ent65 (hf) sub0 (by kernel_rfl) ?_
      refine st_fn ent56 (dfloor_yes (p) (q) (by assumption) (by assumption) (by assumption) (by assumption)) sub0 (by kernel_rfl) ?_
      refine st_b 53 (show (hi (p.fmod q) == 0 && (lo (p.fmod q) == 0 && true)) = false by assumption) (by kernel_rfl) ?_
      refine st_b 62 (dec_hi p) (by kernel_rfl) ?_
      refine st_fn ent117 (between_fn (p.fdiv q) (p.fmod q) (q) (decide (p < 0)) (by assumption) (by assumption) (by assumption)) sub0 (by kernel_rfl) ?_
      refine st_fn ent116 (up_f (mode) (decide (p < 0)) (cmpI (p.fmod q) (q - p.fmod q)) (decide (p.fdiv q % 2 = 0)) (by assumption) (by assumption) (by assumption)) sub0 (by kernel_rfl) ?_
      exact st_ret Try.func82 (by kernel_rfl)
end Go.Proofs.Ytmkddcmfofabbaa
