/-
  Texts joined: Btw, Btt, Cau, Fx, Duc, Cuu, Cur, Cur2, Ckc, Chainy, Fc, Plc, Cub, Dud, Duz, Duzp, Duzn, Duzm, Upa, Upb, Rnd. Each says at its head what it shows.
-/
import Derived.Test.YthoedmikfpbfnaaGreatPRc
set_option linter.unusedVariables false
set_option linter.unusedSimpArgs false
section
namespace Go.Proofs.YthoedmikfpbfnaaGreat

section
variable (L y m d y' m' d' : Int)
def uS : Int := cmp3 y' m' d' y m d
def uMM : Int := mM (uS y m d y' m' d') y m d y' m' d'
def uY : Int := if L = 1 then uS y m d y' m' d' * (uMM y m d y' m' d' / 12) else 0
def uMo : Int := if L = 1 then uS y m d y' m' d' * (uMM y m d y' m' d' % 12) else if L = 2 then uS y m d y' m' d' * uMM y m d y' m' d' else 0
def uW : Int := if L = 3 then (dnum y' m' d' - dnum y m d).tdiv 7 else 0
def uD : Int := if L = 3 then (dnum y' m' d' - dnum y m d).tmod 7 else if L = 4 then dnum y' m' d' - dnum y m d else fL (uS y m d y' m' d') y m d y' m' d'
end
section
variable {y m d y' m' d' : Int}
theorem uS_tri : uS y m d y' m' d' = -1 ∧ dnum y' m' d' < dnum y m d ∨ uS y m d y' m' d' = 0 ∧ y' = y ∧ m' = m ∧ d' = d ∨ uS y m d y' m' d' = 1 ∧ dnum y m d < dnum y' m' d' ∨ ¬ (dIn y m d ∧ dIn y' m' d') := by
 by_cases h : dIn y m d ∧ dIn y' m' d'
 ·rcases cmp3_tri y' m' d' y m d with k | k | k
  ·refine .inl ⟨k, ?_⟩
   rw [cmp3_num h.2 h.1] at k; exact cmpI_n.1 k
  ·exact .inr (.inl ⟨k, cmp3_0.1 k⟩)
  ·refine .inr (.inr (.inl ⟨k, ?_⟩))
   rw [cmp3_num h.2 h.1] at k; exact cmpI_p.1 k
 ·exact .inr (.inr (.inr h))
theorem uS_num (h : dIn y m d) (h' : dIn y' m' d') : uS y m d y' m' d' = cmpI (dnum y' m' d') (dnum y m d) := cmp3_num h' h
theorem mM_same (h : dIn y m d) : mM 0 y m d y m d = 0 := by unfold mM; rw [if_neg (by omega), if_neg (by omega)]; omega
theorem cD_same (h : dIn y m d) : cD y m d = d := by unfold cD; rw [if_neg (by have := h.2.2.2; omega)]
theorem fL_same (h : dIn y m d) : fL 0 y m d y m d = 0 := by
 unfold fL fD' fY' fM'
 rw [mM_same h, show ymi y m + 0 * 0 = ymi y m by omega, (l_ymi h.1 h.2.1).1, (l_ymi h.1 h.2.1).2, cD_same h]; omega
theorem until_back {L : Int} (h : dOk y m d) (h' : dOk y' m' d') (hL : 1 ≤ L) (hL' : L ≤ 4) :
  dOk (lY (ymi y m + (12 * uY L y m d y' m' d' + uMo L y m d y' m' d'))) (lM (ymi y m + (12 * uY L y m d y' m' d' + uMo L y m d y' m' d'))) (cD (lY (ymi y m + (12 * uY L y m d y' m' d' + uMo L y m d y' m' d'))) (lM (ymi y m + (12 * uY L y m d y' m' d' + uMo L y m d y' m' d'))) d) ∧
  dnum (lY (ymi y m + (12 * uY L y m d y' m' d' + uMo L y m d y' m' d'))) (lM (ymi y m + (12 * uY L y m d y' m' d' + uMo L y m d y' m' d'))) (cD (lY (ymi y m + (12 * uY L y m d y' m' d' + uMo L y m d y' m' d'))) (lM (ymi y m + (12 * uY L y m d y' m' d' + uMo L y m d y' m' d'))) d) + (uD L y m d y' m' d' + 7 * uW L y m d y' m' d') = dnum y' m' d' := by
 by_cases k3 : L ≤ 2
 ·have e : 12 * uY L y m d y' m' d' + uMo L y m d y' m' d' = uS y m d y' m' d' * uMM y m d y' m' d' := by
   unfold uY uMo
   by_cases k : L = 1
   ·rw [if_pos k, if_pos k]
    have := Int.mul_ediv_add_emod (uMM y m d y' m' d') 12
    rw [← Int.mul_assoc, Int.mul_comm 12, Int.mul_assoc, ← Int.mul_add, this]
   ·rw [if_neg k, if_neg k, if_pos (by omega)]; omega
  rw [e]
  have e2 : uD L y m d y' m' d' = fL (uS y m d y' m' d') y m d y' m' d' := by unfold uD; rw [if_neg (by omega), if_neg (by omega)]
  have e3 : uW L y m d y' m' d' = 0 := by unfold uW; rw [if_neg (by omega)]
  rw [e2, e3]
  rcases uS_tri (y := y) (m := m) (d := d) (y' := y') (m' := m') (d' := d') with ⟨k, -⟩ | ⟨k, rfl, rfl, rfl⟩ | ⟨k, -⟩ | k
  ·have f := (from_ok h h' (s := -1) (by omega) k).1
   unfold uMM
   rw [k]
   exact ⟨f, by unfold fL fD' fY' fM'; omega⟩
  ·rw [k, show ymi y' m' + 0 * uMM y' m' d' y' m' d' = ymi y' m' by omega, (l_ymi h.1.1 h.1.2.1).1, (l_ymi h.1.1 h.1.2.1).2, cD_same h.1, fL_same h.1]
   exact ⟨h, by omega⟩
  ·have f := (from_ok h h' (s := 1) (by omega) k).1
   unfold uMM
   rw [k]
   exact ⟨f, by unfold fL fD' fY' fM'; omega⟩
  ·exact absurd ⟨h.1, h'.1⟩ k
 ·have e : 12 * uY L y m d y' m' d' + uMo L y m d y' m' d' = 0 := by
   unfold uY uMo; rw [if_neg (by omega), if_neg (by omega), if_neg (by omega)]; omega
  rw [e, show ymi y m + 0 = ymi y m by omega, (l_ymi h.1.1 h.1.2.1).1, (l_ymi h.1.1 h.1.2.1).2, cD_same h.1]
  refine ⟨h, ?_⟩
  have t := (td (dnum y' m' d' - dnum y m d) 7 (by omega)).1
  unfold uD uW
  by_cases k : L = 3
  ·rw [if_pos k, if_pos k]; omega
  ·rw [if_neg k, if_pos (by omega), if_neg k]; omega
theorem until_sign {L : Int} (h : dOk y m d) (h' : dOk y' m' d') (hL : 1 ≤ L) (hL' : L ≤ 4) (s : Int) (e : uS y m d y' m' d' = s) :
  0 ≤ s * uY L y m d y' m' d' ∧ 0 ≤ s * uMo L y m d y' m' d' ∧ 0 ≤ s * uW L y m d y' m' d' ∧ 0 ≤ s * uD L y m d y' m' d' ∧
  s * uY L y m d y' m' d' ≤ 600000 ∧ s * uMo L y m d y' m' d' ≤ 7200000 ∧ s * uW L y m d y' m' d' ≤ 200000001 ∧ s * uD L y m d y' m' d' ≤ 200000001 ∧
  (s = 0 → uY L y m d y' m' d' = 0 ∧ uMo L y m d y' m' d' = 0 ∧ uW L y m d y' m' d' = 0 ∧ uD L y m d y' m' d' = 0) ∧
  (L = 1 → s * uMo L y m d y' m' d' < 12) ∧ (L ≤ 2 → s * uD L y m d y' m' d' < 31) ∧ (L = 3 → s * uD L y m d y' m' d' < 7) := by
 have yy := dOk_year h
 have yy' := dOk_year h'
 have t := td (dnum y' m' d' - dnum y m d) 7 (by omega)
 rcases uS_tri (y := y) (m := m) (d := d) (y' := y') (m' := m') (d' := d') with ⟨k, lt⟩ | ⟨k, rfl, rfl, rfl⟩ | ⟨k, lt⟩ | k
 ·obtain rfl : s = -1 := by omega
  obtain ⟨f1, f2, f3⟩ := from_ok h h' (s := -1) (by omega) k
  have p := mM_pos h.1.1 h.1.2.1 h'.1.1 h'.1.2.1 (s := -1) (by omega) k
  have q := mM_le (y := y) (y' := y') (d := d) (d' := d') h.1.1 h.1.2.1 h'.1.1 h'.1.2.1 (s := -1) (.inr rfl)
  rw [if_neg (by omega)] at q
  have t2 := t.2.2 (by omega)
  have h2 := h.2; have h2' := h'.2
  unfold uY uMo uW uD uMM
  rw [k]
  generalize mM (-1) y m d y' m' d' = M at *
  generalize fL (-1) y m d y' m' d' = F at *
  have hLL : L = 1 ∨ L = 2 ∨ L = 3 ∨ L = 4 := by omega
  rcases hLL with rfl | rfl | rfl | rfl <;> simp only [Int.reduceEq, if_true, if_false] <;> refine ⟨by omega, by omega, by omega, by omega, by omega, by omega, by omega, by omega, fun z => by first | exact z.elim | omega, fun z => by first | exact z.elim | omega, fun z => by first | exact z.elim | omega, fun z => by first | exact z.elim | omega⟩
 ·obtain rfl : s = 0 := by omega
  have a1 := mM_same h.1
  have a2 := fL_same h.1
  unfold uY uMo uW uD uMM
  rw [k, a1, a2]
  have hLL : L = 1 ∨ L = 2 ∨ L = 3 ∨ L = 4 := by omega
  rcases hLL with rfl | rfl | rfl | rfl <;> simp
 ·obtain rfl : s = 1 := by omega
  obtain ⟨f1, f2, f3⟩ := from_ok h h' (s := 1) (by omega) k
  have p := mM_pos h.1.1 h.1.2.1 h'.1.1 h'.1.2.1 (s := 1) (by omega) k
  have q := mM_le (y := y) (y' := y') (d := d) (d' := d') h.1.1 h.1.2.1 h'.1.1 h'.1.2.1 (s := 1) (.inl rfl)
  rw [if_pos rfl] at q
  have t2 := t.2.1 (by omega)
  have h2 := h.2; have h2' := h'.2
  unfold uY uMo uW uD uMM
  rw [k]
  generalize mM 1 y m d y' m' d' = M at *
  generalize fL 1 y m d y' m' d' = F at *
  have hLL : L = 1 ∨ L = 2 ∨ L = 3 ∨ L = 4 := by omega
  rcases hLL with rfl | rfl | rfl | rfl <;> simp only [Int.reduceEq, if_true, if_false] <;> refine ⟨by omega, by omega, by omega, by omega, by omega, by omega, by omega, by omega, fun z => by first | exact z.elim | omega, fun z => by first | exact z.elim | omega, fun z => by first | exact z.elim | omega, fun z => by first | exact z.elim | omega⟩
 ·exact absurd ⟨h.1, h'.1⟩ k
end
end Go.Proofs.YthoedmikfpbfnaaGreat
end
section
namespace Go.Proofs.YthoedmikfpbfnaaGreat

section
variable (y mo d h m s n y' mo' d' h' m' s' n' : Int)
def bX : Int := if (tnan h' m' s' n' - tnan h m s n) * uS y mo d y' mo' d' < 0 then uS y mo d y' mo' d' else 0
def bD : Int := dnum y' mo' d' - bX y mo d h m s n y' mo' d' h' m' s' n'
def bZ : Int := tnan h' m' s' n' - tnan h m s n + bX y mo d h m s n y' mo' d' h' m' s' n' * 86400000000000
end
section
variable {y mo d h m s n y' mo' d' h' m' s' n' : Int}
theorem bt_in (k : pOk y mo d h m s n) (k' : pOk y' mo' d' h' m' s' n') :
    (-100000001 ≤ bD y mo d h m s n y' mo' d' h' m' s' n' ∧ bD y mo d h m s n y' mo' d' h' m' s' n' ≤ 100000000) ∧
    (-86400000000000 < bZ y mo d h m s n y' mo' d' h' m' s' n' ∧ bZ y mo d h m s n y' mo' d' h' m' s' n' < 86400000000000) ∧
    pnum y' mo' d' h' m' s' n' - pnum y mo d h m s n = (bD y mo d h m s n y' mo' d' h' m' s' n' - dnum y mo d) * 86400000000000 + bZ y mo d h m s n y' mo' d' h' m' s' n' ∧
    (uS y mo d y' mo' d' = 1 ∧ dnum y mo d ≤ bD y mo d h m s n y' mo' d' h' m' s' n' ∧ 0 ≤ bZ y mo d h m s n y' mo' d' h' m' s' n' ∨
     uS y mo d y' mo' d' = -1 ∧ bD y mo d h m s n y' mo' d' h' m' s' n' ≤ dnum y mo d ∧ bZ y mo d h m s n y' mo' d' h' m' s' n' ≤ 0 ∨
     uS y mo d y' mo' d' = 0 ∧ bX y mo d h m s n y' mo' d' h' m' s' n' = 0 ∧ bD y mo d h m s n y' mo' d' h' m' s' n' = dnum y mo d) ∧
    (bX y mo d h m s n y' mo' d' h' m' s' n' = 0 ∨ bX y mo d h m s n y' mo' d' h' m' s' n' = 1 ∨ bX y mo d h m s n y' mo' d' h' m' s' n' = -1) := by
  have t := tnan_bd k.2.1
  have t' := tnan_bd k'.2.1
  have d1 := k.1.2
  have d2 := k'.1.2
  unfold bD bZ bX pnum
  rcases uS_tri (y := y) (m := mo) (d := d) (y' := y') (m' := mo') (d' := d') with ⟨e, lt⟩ | ⟨e, rfl, rfl, rfl⟩ | ⟨e, lt⟩ | e
  · rw [e]
    split <;> refine ⟨by omega, by omega, by omega, .inr (.inl ⟨rfl, by omega, by omega⟩), by omega⟩
  · rw [e, if_neg (by omega)]
    refine ⟨by omega, by omega, by omega, .inr (.inr ⟨rfl, rfl, by omega⟩), by omega⟩
  · rw [e]
    split <;> refine ⟨by omega, by omega, by omega, .inl ⟨rfl, by omega, by omega⟩, by omega⟩
  · exact absurd ⟨k.1.1, k'.1.1⟩ e
theorem bt_date (k : pOk y mo d h m s n) (k' : pOk y' mo' d' h' m' s' n') : dOk (dY (bD y mo d h m s n y' mo' d' h' m' s' n')) (dM (bD y mo d h m s n y' mo' d' h' m' s' n')) (dD (bD y mo d h m s n y' mo' d' h' m' s' n')) ∧
  dnum (dY (bD y mo d h m s n y' mo' d' h' m' s' n')) (dM (bD y mo d h m s n y' mo' d' h' m' s' n')) (dD (bD y mo d h m s n y' mo' d' h' m' s' n')) = bD y mo d h m s n y' mo' d' h' m' s' n' := by
 have a := (bt_in k k').1
 have b := date_ok (bD y mo d h m s n y' mo' d' h' m' s' n')
 exact ⟨⟨b.1, by rw [b.2]; exact a⟩, b.2⟩
end
end Go.Proofs.YthoedmikfpbfnaaGreat
end
section
set_option maxRecDepth 100000
namespace Go.Proofs.YthoedmikfpbfnaaGreat
open Go Go.RowKit Go.Ev

section
variable (y m d k T : Int)
theorem clater (hT : y * 12 + (m - 1) + k = T) (y0 : -10000000 ≤ y) (y1 : y ≤ 10000000) (m1 : 1 ≤ m) (m2 : m ≤ 12) (k0 : -1000000000000 ≤ k) (k1 : k ≤ 1000000000000) : Fn 124 [] [dv y m d, .int .i64 k] (dv (lY T) (lM T) d) := by
 have hb : -10000000000000 ≤ T ∧ T ≤ 10000000000000 := by omega
 by_cases h : 0 ≤ T
 ·have e1 : T.tdiv 12 = T / 12 := tdiv_nn h
  have e2 : T.tmod 12 = T % 12 := tmod_nn h
  refine fn_of Tryz.func124 rfl fun ww => ?_
  refine qI 10 (y * 12) ?_
  refine qI 13 (m - 1) ?_
  refine qI 14 (y * 12 + (m - 1)) ?_
  refine st_i 16 IntKind.i64 (x := IntKind.i64.wrap (y * 12 + (m - 1) + k)) ((Go.IntWalk.i64_in (y * 12 + (m - 1) + k) (by omega)).trans (hT)) (by kernel_rfl) ?_
  refine qI 18 (T.tdiv 12) ?_
  refine qN 22 (decide (T.tmod 12 < 0)) ?_
  refine qI 29 (T.tmod 12 + 1) ?_
  exact st_retv Tryz.func124 (show Value.agg #[vI64 (T.tdiv 12), vI64 (T.tmod 12 + 1), vI64 d] = _ by (refine d_eq ?_ ?_ rfl <;> simp only [lY, lM] <;> omega)) (by kernel_rfl)
 ·have e1 : T.tdiv 12 = -((-T) / 12) := tdiv_lit (by omega)
  have e2 : T.tmod 12 = -((-T) % 12) := tmod_lit (by omega)
  refine fn_of Tryz.func124 rfl fun ww => ?_
  refine qI 10 (y * 12) ?_
  refine qI 13 (m - 1) ?_
  refine qI 14 (y * 12 + (m - 1)) ?_
  refine st_i 16 IntKind.i64 (x := IntKind.i64.wrap (y * 12 + (m - 1) + k)) ((Go.IntWalk.i64_in (y * 12 + (m - 1) + k) (by omega)).trans (hT)) (by kernel_rfl) ?_
  refine qI 18 (T.tdiv 12) ?_
  by_cases k22 : T.tmod 12 < 0
  ·refine qV 22 (decide_eq_true k22) ?_
   refine qI 24 (T.tdiv 12 - 1) ?_
   refine qI 26 (T.tmod 12 + 12) ?_
   refine qI 29 (T.tmod 12 + 12 + 1) ?_
   exact st_retv Tryz.func124 (show Value.agg #[vI64 (T.tdiv 12 - 1), vI64 (T.tmod 12 + 12 + 1), vI64 d] = _ by (refine d_eq ?_ ?_ rfl <;> simp only [lY, lM] <;> omega)) (by kernel_rfl)
  ·refine qV 22 (decide_eq_false k22) ?_
   refine qI 29 (T.tmod 12 + 1) ?_
   exact st_retv Tryz.func124 (show Value.agg #[vI64 (T.tdiv 12), vI64 (T.tmod 12 + 1), vI64 d] = _ by (refine d_eq ?_ ?_ rfl <;> simp only [lY, lM] <;> omega)) (by kernel_rfl)
end
abbrev dC (y m d : Int) : List SV := [.val (.int .i64 y), .val (.int .i64 m), .val (.int .i64 d)]
abbrev bkF (i : Nat) : Bk := ⟨[.clo 141 [.ptr i 0, .ptr (i + 1) 0, .ptr (i + 2) 0]], 183⟩
abbrev bkU (s y m d y' m' d' : Int) : List Bk := [⟨dC y m d, 23⟩, ⟨[.val (.int .i64 s)], 2⟩, ⟨dC y' m' d', 23⟩]
abbrev bkX (Y : Int) : Bk := ⟨[.val (.int .i64 Y), .val (.int .i64 0), .val (.int .i64 0), .val (.int .i64 0), .val (.int .i64 0), .val (.int .i64 0), .val (.int .i64 0), .val (.int .i64 0)], 51⟩
abbrev EU : List TypeId := [999999, 23, 2, 183, 51]
section
variable (s y m d y' m' d' k Y : Int)
theorem cfit (hs : s = 1 ∨ s = -1) (y0 : -300000 ≤ y) (y1 : y ≤ 300000) (m1 : 1 ≤ m) (m2 : m ≤ 12) (m1' : 1 ≤ m') (m2' : m' ≤ 12) (k0 : 0 ≤ k) (k1 : k ≤ 100000000000) :
  FnM 141 [.val (.int .i64 k), .ptr 0 0, .ptr 1 0, .ptr 2 0] (bkU s y m d y' m' d') (.bool (decide (k ≤ mM s y m d y' m' d'))) := by
 have fi := fits_iff (s := s) (y := y) (m := m) (d := d) (y' := y') (m' := m') (d' := d') m1 m2 m1' m2' hs k
 have hb : -100000000000 ≤ s * k ∧ s * k ≤ 100000000000 := by rcases hs with rfl | rfl <;> omega
 have cl := clater y m d (s * k) (ymi y m + s * k) (by unfold ymi; omega) (by omega) (by omega) m1 m2 (by omega) (by omega)
 refine fnM_of EU Tryz.func141 rfl (by kernel_rfl) fun ww => ?_
 refine qI 9 (s * k) ?_
 refine qF ent124 (cl) ?_
 refine qF ent56 (ccmp5 (lY (ymi y m + s * k)) (lM (ymi y m + s * k)) (d) (y') (m') (d')) ?_
 exact st_retv Tryz.func141 (show Value.bool (cmp3 (lY (ymi y m + s * k)) (lM (ymi y m + s * k)) d y' m' d' != s) = _ by (refine b_eq ?_; rw [Bool.eq_iff_iff, bne_iff_ne, decide_eq_true_iff]; exact fi)) (by kernel_rfl)
theorem cfit2 (hs : s = 1 ∨ s = -1) (y0 : -300000 ≤ y) (y1 : y ≤ 300000) (m1 : 1 ≤ m) (m2 : m ≤ 12) (m1' : 1 ≤ m') (m2' : m' ≤ 12) (k0 : 0 ≤ k) (k1 : k ≤ 5000000000) :
  FnM 143 [.val (.int .i64 k), .ptr 0 0] (bkF 1 :: bkU s y m d y' m' d') (.bool (decide (k ≤ mM s y m d y' m' d' / 12))) := by
 have c1 := cfit s y m d y' m' d' (12 * k) hs y0 y1 m1 m2 m1' m2' (by omega) (by omega)
 refine fnM_of EU Tryz.func143 rfl (by kernel_rfl) fun ww => ?_
 refine qI 6 (12 * k) ?_
 refine st_fm [1, 2, 3] ent141 (c1) (by kernel_rfl) (by kernel_rfl) (by kernel_rfl) ?_
 exact st_retv Tryz.func143 (show Value.bool (decide (12 * k ≤ mM s y m d y' m' d')) = _ by (refine b_eq (decide_eq_decide.2 ?_); omega)) (by kernel_rfl)
theorem cfit3 (hs : s = 1 ∨ s = -1) (y0 : -300000 ≤ y) (y1 : y ≤ 300000) (m1 : 1 ≤ m) (m2 : m ≤ 12) (m1' : 1 ≤ m') (m2' : m' ≤ 12) (hY : 0 ≤ Y) (hY1 : Y ≤ 1000000) (k0 : 0 ≤ k) (k1 : k ≤ 5000000000) :
  FnM 144 [.val (.int .i64 k), .ptr 0 0, .ptr 1 0] (bkF 2 :: bkX Y :: bkU s y m d y' m' d') (.bool (decide (k ≤ mM s y m d y' m' d' - 12 * Y))) := by
 have c1 := cfit s y m d y' m' d' (12 * Y + k) hs y0 y1 m1 m2 m1' m2' (by omega) (by omega)
 refine fnM_of EU Tryz.func144 rfl (by kernel_rfl) fun ww => ?_
 refine qI 8 (12 * Y) ?_
 refine qI 10 (12 * Y + k) ?_
 refine st_fm [2, 3, 4] ent141 (c1) (by kernel_rfl) (by kernel_rfl) (by kernel_rfl) ?_
 exact st_retv Tryz.func144 (show Value.bool (decide (12 * Y + k ≤ mM s y m d y' m' d')) = _ by (refine b_eq (decide_eq_decide.2 ?_); omega)) (by kernel_rfl)
theorem cmost2 (N : Int) (hN : 0 ≤ N) (hN1 : N ≤ 100000000) (c : ∀ k : Int, 0 ≤ k → k ≤ 5000000000 → FnM 143 [.val (.int .i64 k), .ptr 0 0] (bkF 1 :: bkU s y m d y' m' d') (.bool (decide (k ≤ N)))) :
  FnM 142 [.clo 143 [.ptr 0 0]] (bkF 1 :: bkU s y m d y' m' d') (.int .i64 N) := by
 have hst := zall_any EU
 have cy : ∀ k : Int, 0 ≤ k → k ≤ N → FnM 143 [.val (.int .i64 k), .ptr 0 0] (bkF 1 :: bkU s y m d y' m' d') (.bool true) := fun k k0 k1 => by have := c k k0 (by omega); rwa [decide_eq_true k1] at this
 have cn : ∀ k : Int, N < k → k ≤ 5000000000 → FnM 143 [.val (.int .i64 k), .ptr 0 0] (bkF 1 :: bkU s y m d y' m' d') (.bool false) := fun k k0 k1 => by have := c k (by omega) k1; rwa [decide_eq_false (by omega)] at this
 refine fnM_of EU Tryz.func142 rfl (by kernel_rfl) fun ww => ?_
 refine qG [0,1,2,3,4,5,11,12,13,14,15,16,17,18,19,20,21,22,23,24,25,26,27,28] ?_
 refine st_loopG (X := Int) (fun x => ([SV.clo 143 [Cp.ptr 0 0],svZ,SV.val (vI64 0),.val (.int .i64 x),svZ,svZ,.any,.any,.any,.any,.any,svZ,svZ,svZ,svZ,svZ,svZ,svZ,svZ,svZ,svZ,svZ,svZ,svZ,svZ,svZ,svZ,svZ,svZ],[⟨[SV.clo 141 [Cp.ptr 1 0,Cp.ptr 2 0,Cp.ptr 3 0]],183⟩,⟨[SV.val (vI64 y),SV.val (vI64 m),SV.val (vI64 d)],23⟩,⟨[SV.val (vI64 s)],2⟩,⟨[SV.val (vI64 y'),SV.val (vI64 m'),SV.val (vI64 d')],23⟩])) (fun n => 1 ≤ n ∧ n ≤ 2 * N + 2 ∧ n / 2 ≤ N) (fun n => (N + 1 - n).toNat) (1) (by kernel_rfl) (by kernel_rfl) hst (by first | omega | (simp; omega) | assumption | simp_all) (fun y0 px0 back0 => ?_)
 ((by_cases q0 : y0 ≤ N) <;> have td0 : y0.tdiv 2 = y0 / 2 := tdiv_nn (by omega))
 ·have _hh := True.intro
  refine st_fm [0, 1, 2, 3] ent143 (cy (y0) (by omega) (by assumption)) (by kernel_rfl) (by kernel_rfl) (by kernel_rfl) ?_
  refine qI 10 (y0 * 2) ?_
  refine qG [0,1,2,3,4,5,11,12,13,14,15,16,17,18,19,20,21,22,23,24,25,26,27,28] ?_
  exact st_backG back0 (y0 * 2) (by first | omega | (simp only []; omega) | (simp; omega)) (by first | (refine i_eq ?_; omega) | omega | (simp only []; omega) | (simp; omega) | assumption | simp_all) (by kernel_rfl) (by kernel_rfl) (by kernel_rfl)
 ·have _hh := True.intro
  refine st_fm [0, 1, 2, 3] ent143 (cn (y0) (by omega) (by omega)) (by kernel_rfl) (by kernel_rfl) (by kernel_rfl) ?_
  refine st_i 12 IntKind.i64 (x := IntKind.i64.wrap (y0.tdiv 2)) ((Go.IntWalk.i64_in (y0.tdiv 2) (by omega)).trans (td0)) (by kernel_rfl) ?_
  refine qG [0,1,2,3,4,6,7,8,9,10,11,12,28] ?_
  refine st_loopG (X := Int × Int) (fun x => ([SV.clo 143 [Cp.ptr 0 0],svZ,SV.val (vI64 0),.val (.int .i64 x.1),.val (.int .i64 x.2),.any,SV.clo 143 [Cp.ptr 0 0],SV.val (vI64 y0),svF,SV.any,SV.any,SV.val (vI64 y0),SV.val (vI64 (y0 / 2)),.any,.any,.any,.any,.any,.any,.any,.any,.any,.any,.any,.any,.any,.any,.any,svZ],[⟨[SV.clo 141 [Cp.ptr 1 0,Cp.ptr 2 0,Cp.ptr 3 0]],183⟩,⟨[SV.val (vI64 y),SV.val (vI64 m),SV.val (vI64 d)],23⟩,⟨[SV.val (vI64 s)],2⟩,⟨[SV.val (vI64 y'),SV.val (vI64 m'),SV.val (vI64 d')],23⟩])) (fun n => 0 ≤ n.2 ∧ n.2 ≤ N ∧ N < n.1 ∧ n.1 ≤ 2 * N + 2) (fun n => (n.1 - n.2).toNat) ((y0,y0 / 2)) (by kernel_rfl) (by kernel_rfl) hst (by first | omega | (simp; omega) | assumption | simp_all) (fun x px1 back1 => ?_)
  rcases x with ⟨y1_0, y1_1⟩
  simp only at px1
  ((by_cases q1 : y1_0 - y1_1 > 1) <;> (by_cases q2 : y1_1 + (y1_0 - y1_1) / 2 ≤ N) <;> have td1 : (y1_0 - y1_1).tdiv 2 = (y1_0 - y1_1) / 2 := tdiv_nn (by omega))
  ·have _hh := True.intro
   refine qI 15 (y1_0 - y1_1) ?_
   refine qY 16 (decide (y1_0 - y1_1 > 1)) ?_
   refine qI 20 (y1_0 - y1_1) ?_
   refine st_i 21 IntKind.i64 (x := IntKind.i64.wrap ((y1_0 - y1_1).tdiv 2)) ((Go.IntWalk.i64_in ((y1_0 - y1_1).tdiv 2) (by omega)).trans (td1)) (by kernel_rfl) ?_
   refine qI 22 (y1_1 + (y1_0 - y1_1) / 2) ?_
   refine st_fm [0, 1, 2, 3] ent143 (cy (y1_1 + (y1_0 - y1_1) / 2) (by omega) (by assumption)) (by kernel_rfl) (by kernel_rfl) (by kernel_rfl) ?_
   refine qG [0,1,2,3,4,6,7,8,9,10,11,12,27,28] ?_
   exact st_backG back1 ((y1_0, y1_1 + (y1_0 - y1_1) / 2)) (by first | omega | (simp only []; omega) | (simp; omega)) (by first | (refine i_eq ?_; omega) | omega | (simp only []; omega) | (simp; omega) | assumption | simp_all) (by kernel_rfl) (by kernel_rfl) (by kernel_rfl)
  ·have _hh := True.intro
   refine qI 15 (y1_0 - y1_1) ?_
   refine qY 16 (decide (y1_0 - y1_1 > 1)) ?_
   refine qI 20 (y1_0 - y1_1) ?_
   refine st_i 21 IntKind.i64 (x := IntKind.i64.wrap ((y1_0 - y1_1).tdiv 2)) ((Go.IntWalk.i64_in ((y1_0 - y1_1).tdiv 2) (by omega)).trans (td1)) (by kernel_rfl) ?_
   refine qI 22 (y1_1 + (y1_0 - y1_1) / 2) ?_
   refine st_fm [0, 1, 2, 3] ent143 (cn (y1_1 + (y1_0 - y1_1) / 2) (by omega) (by omega)) (by kernel_rfl) (by kernel_rfl) (by kernel_rfl) ?_
   refine qG [0,1,2,3,4,6,7,8,9,10,11,12,26,28] ?_
   exact st_backG back1 ((y1_1 + (y1_0 - y1_1) / 2, y1_1)) (by first | omega | (simp only []; omega) | (simp; omega)) (by first | (refine i_eq ?_; omega) | omega | (simp only []; omega) | (simp; omega) | assumption | simp_all) (by kernel_rfl) (by kernel_rfl) (by kernel_rfl)
  ·have _hh := True.intro
   refine qI 15 (y1_0 - y1_1) ?_
   refine qN 16 (decide (y1_0 - y1_1 > 1)) ?_
   exact st_retv Tryz.func142 (show vI64 y1_1 = _ by (refine i_eq ?_; omega)) (by kernel_rfl)
  ·have _hh := True.intro
   refine qI 15 (y1_0 - y1_1) ?_
   refine qY 16 (decide (y1_0 - y1_1 > 1)) ?_
   refine qI 20 (y1_0 - y1_1) ?_
   refine st_i 21 IntKind.i64 (x := IntKind.i64.wrap ((y1_0 - y1_1).tdiv 2)) ((Go.IntWalk.i64_in ((y1_0 - y1_1).tdiv 2) (by omega)).trans (td1)) (by kernel_rfl) ?_
   refine qI 22 (y1_1 + (y1_0 - y1_1) / 2) ?_
   refine st_fm [0, 1, 2, 3] ent143 (cy (y1_1 + (y1_0 - y1_1) / 2) (by omega) (by omega)) (by kernel_rfl) (by kernel_rfl) (by kernel_rfl) ?_
   refine qG [0,1,2,3,4,6,7,8,9,10,11,12,27,28] ?_
   exact st_backG back1 ((y1_0, y1_1 + (y1_0 - y1_1) / 2)) (by first | omega | (simp only []; omega) | (simp; omega)) (by first | (refine i_eq ?_; omega) | omega | (simp only []; omega) | (simp; omega) | assumption | simp_all) (by kernel_rfl) (by kernel_rfl) (by kernel_rfl)
theorem cmost3 (N : Int) (hN : 0 ≤ N) (hN1 : N ≤ 100000000) (c : ∀ k : Int, 0 ≤ k → k ≤ 5000000000 → FnM 144 [.val (.int .i64 k), .ptr 0 0, .ptr 1 0] (bkF 2 :: bkX Y :: bkU s y m d y' m' d') (.bool (decide (k ≤ N)))) :
  FnM 142 [.clo 144 [.ptr 0 0, .ptr 1 0]] (bkF 2 :: bkX Y :: bkU s y m d y' m' d') (.int .i64 N) := by
 have hst := zall_any EU
 have cy : ∀ k : Int, 0 ≤ k → k ≤ N → FnM 144 [.val (.int .i64 k), .ptr 0 0, .ptr 1 0] (bkF 2 :: bkX Y :: bkU s y m d y' m' d') (.bool true) := fun k k0 k1 => by have := c k k0 (by omega); rwa [decide_eq_true k1] at this
 have cn : ∀ k : Int, N < k → k ≤ 5000000000 → FnM 144 [.val (.int .i64 k), .ptr 0 0, .ptr 1 0] (bkF 2 :: bkX Y :: bkU s y m d y' m' d') (.bool false) := fun k k0 k1 => by have := c k (by omega) k1; rwa [decide_eq_false (by omega)] at this
 refine fnM_of EU Tryz.func142 rfl (by kernel_rfl) fun ww => ?_
 refine qG [0,1,2,3,4,5,11,12,13,14,15,16,17,18,19,20,21,22,23,24,25,26,27,28] ?_
 refine st_loopG (X := Int) (fun x => ([SV.clo 144 [Cp.ptr 0 0,Cp.ptr 1 0],svZ,SV.val (vI64 0),.val (.int .i64 x),svZ,svZ,.any,.any,.any,.any,.any,svZ,svZ,svZ,svZ,svZ,svZ,svZ,svZ,svZ,svZ,svZ,svZ,svZ,svZ,svZ,svZ,svZ,svZ],[⟨[SV.clo 141 [Cp.ptr 2 0,Cp.ptr 3 0,Cp.ptr 4 0]],183⟩,⟨[SV.val (vI64 Y),SV.val (vI64 0),SV.val (vI64 0),SV.val (vI64 0),SV.val (vI64 0),SV.val (vI64 0),SV.val (vI64 0),SV.val (vI64 0)],51⟩,⟨[SV.val (vI64 y),SV.val (vI64 m),SV.val (vI64 d)],23⟩,⟨[SV.val (vI64 s)],2⟩,⟨[SV.val (vI64 y'),SV.val (vI64 m'),SV.val (vI64 d')],23⟩])) (fun n => 1 ≤ n ∧ n ≤ 2 * N + 2 ∧ n / 2 ≤ N) (fun n => (N + 1 - n).toNat) (1) (by kernel_rfl) (by kernel_rfl) hst (by first | omega | (simp; omega) | assumption | simp_all) (fun y0 px0 back0 => ?_)
 ((by_cases q0 : y0 ≤ N) <;> have td0 : y0.tdiv 2 = y0 / 2 := tdiv_nn (by omega))
 ·have _hh := True.intro
  refine st_fm [0, 1, 2, 3, 4] ent144 (cy (y0) (by omega) (by assumption)) (by kernel_rfl) (by kernel_rfl) (by kernel_rfl) ?_
  refine qI 10 (y0 * 2) ?_
  refine qG [0,1,2,3,4,5,11,12,13,14,15,16,17,18,19,20,21,22,23,24,25,26,27,28] ?_
  exact st_backG back0 (y0 * 2) (by first | omega | (simp only []; omega) | (simp; omega)) (by first | (refine i_eq ?_; omega) | omega | (simp only []; omega) | (simp; omega) | assumption | simp_all) (by kernel_rfl) (by kernel_rfl) (by kernel_rfl)
 ·have _hh := True.intro
  refine st_fm [0, 1, 2, 3, 4] ent144 (cn (y0) (by omega) (by omega)) (by kernel_rfl) (by kernel_rfl) (by kernel_rfl) ?_
  refine st_i 12 IntKind.i64 (x := IntKind.i64.wrap (y0.tdiv 2)) ((Go.IntWalk.i64_in (y0.tdiv 2) (by omega)).trans (td0)) (by kernel_rfl) ?_
  refine qG [0,1,2,3,4,6,7,8,9,10,11,12,28] ?_
  refine st_loopG (X := Int × Int) (fun x => ([SV.clo 144 [Cp.ptr 0 0,Cp.ptr 1 0],svZ,SV.val (vI64 0),.val (.int .i64 x.1),.val (.int .i64 x.2),.any,SV.clo 144 [Cp.ptr 0 0,Cp.ptr 1 0],SV.val (vI64 y0),svF,SV.any,SV.any,SV.val (vI64 y0),SV.val (vI64 (y0 / 2)),.any,.any,.any,.any,.any,.any,.any,.any,.any,.any,.any,.any,.any,.any,.any,svZ],[⟨[SV.clo 141 [Cp.ptr 2 0,Cp.ptr 3 0,Cp.ptr 4 0]],183⟩,⟨[SV.val (vI64 Y),SV.val (vI64 0),SV.val (vI64 0),SV.val (vI64 0),SV.val (vI64 0),SV.val (vI64 0),SV.val (vI64 0),SV.val (vI64 0)],51⟩,⟨[SV.val (vI64 y),SV.val (vI64 m),SV.val (vI64 d)],23⟩,⟨[SV.val (vI64 s)],2⟩,⟨[SV.val (vI64 y'),SV.val (vI64 m'),SV.val (vI64 d')],23⟩])) (fun n => 0 ≤ n.2 ∧ n.2 ≤ N ∧ N < n.1 ∧ n.1 ≤ 2 * N + 2) (fun n => (n.1 - n.2).toNat) ((y0,y0 / 2)) (by kernel_rfl) (by kernel_rfl) hst (by first | omega | (simp; omega) | assumption | simp_all) (fun x px1 back1 => ?_)
  rcases x with ⟨y1_0, y1_1⟩
  simp only at px1
  ((by_cases q1 : y1_0 - y1_1 > 1) <;> (by_cases q2 : y1_1 + (y1_0 - y1_1) / 2 ≤ N) <;> have td1 : (y1_0 - y1_1).tdiv 2 = (y1_0 - y1_1) / 2 := tdiv_nn (by omega))
  ·have _hh := True.intro
   refine qI 15 (y1_0 - y1_1) ?_
   refine qY 16 (decide (y1_0 - y1_1 > 1)) ?_
   refine qI 20 (y1_0 - y1_1) ?_
   refine st_i 21 IntKind.i64 (x := IntKind.i64.wrap ((y1_0 - y1_1).tdiv 2)) ((Go.IntWalk.i64_in ((y1_0 - y1_1).tdiv 2) (by omega)).trans (td1)) (by kernel_rfl) ?_
   refine qI 22 (y1_1 + (y1_0 - y1_1) / 2) ?_
   refine st_fm [0, 1, 2, 3, 4] ent144 (cy (y1_1 + (y1_0 - y1_1) / 2) (by omega) (by assumption)) (by kernel_rfl) (by kernel_rfl) (by kernel_rfl) ?_
   refine qG [0,1,2,3,4,6,7,8,9,10,11,12,27,28] ?_
   exact st_backG back1 ((y1_0, y1_1 + (y1_0 - y1_1) / 2)) (by first | omega | (simp only []; omega) | (simp; omega)) (by first | (refine i_eq ?_; omega) | omega | (simp only []; omega) | (simp; omega) | assumption | simp_all) (by kernel_rfl) (by kernel_rfl) (by kernel_rfl)
  ·have _hh := True.intro
   refine qI 15 (y1_0 - y1_1) ?_
   refine qY 16 (decide (y1_0 - y1_1 > 1)) ?_
   refine qI 20 (y1_0 - y1_1) ?_
   refine st_i 21 IntKind.i64 (x := IntKind.i64.wrap ((y1_0 - y1_1).tdiv 2)) ((Go.IntWalk.i64_in ((y1_0 - y1_1).tdiv 2) (by omega)).trans (td1)) (by kernel_rfl) ?_
   refine qI 22 (y1_1 + (y1_0 - y1_1) / 2) ?_
   refine st_fm [0, 1, 2, 3, 4] ent144 (cn (y1_1 + (y1_0 - y1_1) / 2) (by omega) (by omega)) (by kernel_rfl) (by kernel_rfl) (by kernel_rfl) ?_
   refine qG [0,1,2,3,4,6,7,8,9,10,11,12,26,28] ?_
   exact st_backG back1 ((y1_1 + (y1_0 - y1_1) / 2, y1_1)) (by first | omega | (simp only []; omega) | (simp; omega)) (by first | (refine i_eq ?_; omega) | omega | (simp only []; omega) | (simp; omega) | assumption | simp_all) (by kernel_rfl) (by kernel_rfl) (by kernel_rfl)
  ·have _hh := True.intro
   refine qI 15 (y1_0 - y1_1) ?_
   refine qN 16 (decide (y1_0 - y1_1 > 1)) ?_
   exact st_retv Tryz.func142 (show vI64 y1_1 = _ by (refine i_eq ?_; omega)) (by kernel_rfl)
  ·have _hh := True.intro
   refine qI 15 (y1_0 - y1_1) ?_
   refine qY 16 (decide (y1_0 - y1_1 > 1)) ?_
   refine qI 20 (y1_0 - y1_1) ?_
   refine st_i 21 IntKind.i64 (x := IntKind.i64.wrap ((y1_0 - y1_1).tdiv 2)) ((Go.IntWalk.i64_in ((y1_0 - y1_1).tdiv 2) (by omega)).trans (td1)) (by kernel_rfl) ?_
   refine qI 22 (y1_1 + (y1_0 - y1_1) / 2) ?_
   refine st_fm [0, 1, 2, 3, 4] ent144 (cy (y1_1 + (y1_0 - y1_1) / 2) (by omega) (by omega)) (by kernel_rfl) (by kernel_rfl) (by kernel_rfl) ?_
   refine qG [0,1,2,3,4,6,7,8,9,10,11,12,27,28] ?_
   exact st_backG back1 ((y1_0, y1_1 + (y1_0 - y1_1) / 2)) (by first | omega | (simp only []; omega) | (simp; omega)) (by first | (refine i_eq ?_; omega) | omega | (simp only []; omega) | (simp; omega) | assumption | simp_all) (by kernel_rfl) (by kernel_rfl) (by kernel_rfl)
end
end Go.Proofs.YthoedmikfpbfnaaGreat
end
section
namespace Go.Proofs.YthoedmikfpbfnaaGreat
open Go Go.RowKit Go.Ev

theorem wmul_f (m n : Int) (hm : I64 m) (hn : I64 n) : Fn 23 [] [.int .i64 m, .int .i64 n] (wv (m * n)) := fn1 fun w => wmul m n w hm hn
theorem dby_f (a n : Int) (ha : W128 a) (hn : 0 < n) (hI : I64 n) : Fn 118 [] [wv a, .int .i64 n] (.tuple #[wv (a.fdiv n), .int .i64 (a.fmod n), .int .i64 0]) := fn1 fun w => dby a n w ha hn hI
theorem wint_f (n : Int) (h : I64 n) : Fn 50 [] [wv n] (.tuple #[.int .i64 n, .bool true]) := fn1 fun w => (wint n w).mono fun e w' q => ⟨by rw [q.1, show t64 n = n from if_pos h, decide_eq_true h], q.2⟩
theorem wint_n (n : Int) (h : ¬ I64 n) : Fn 50 [] [wv n] (.tuple #[.int .i64 0, .bool false]) := fn1 fun w => (wint n w).mono fun e w' q => ⟨by rw [q.1, show t64 n = 0 from if_neg h, decide_eq_false h], q.2⟩
theorem fits_f (p : ZQ) (x : Int) (hb : Bits 1000 x) (h : I64 x) : Fn 36 [(p, x)] [zv p] (.tuple #[.int .i64 x, .bool true]) := fun w k => (fits_any _ _ _ _ x w (one_z k) hb).mono fun e w' q => ⟨by rw [q.1, show t64 x = x from if_pos h, decide_eq_true h], q.2⟩
theorem fits_n (p : ZQ) (x : Int) (hb : Bits 1000 x) (h : ¬ I64 x) : Fn 36 [(p, x)] [zv p] (.tuple #[.int .i64 0, .bool false]) := fun w k => (fits_any _ _ _ _ x w (one_z k) hb).mono fun e w' q => ⟨by rw [q.1, show t64 x = 0 from if_neg h, decide_eq_false h], q.2⟩
end Go.Proofs.YthoedmikfpbfnaaGreat
end
section
set_option maxRecDepth 100000
namespace Go.Proofs.YthoedmikfpbfnaaGreat
open Go Go.RowKit Go.Ev

abbrev duv (a b c d h mi s n : Int) : Value := .agg #[.int .i64 a, .int .i64 b, .int .i64 c, .int .i64 d, .int .i64 h, .int .i64 mi, .int .i64 s, .int .i64 n]
abbrev du0 : Value := duv 0 0 0 0 0 0 0 0
abbrev pA (b o : Nat) : Value := .pointer (some ⟨b, o, none⟩)
def fvs (b o : Nat) : List Value := [.pointer none, pA b (o + 0), pA b (o + 1), pA b (o + 2), pA b (o + 3), pA b (o + 4), pA b (o + 5), pA b (o + 6), pA b (o + 7)]
theorem ufields (b o : Nat) : FnB 65 [pA b o] (fvs b o) 113 9 := by
 refine fnB_of Tryz.func65 rfl fun ww => ?_
 exact st_retB Tryz.func65 (by kernel_rfl)
section
variable {f0 : FuncId} {E : List TypeId} {w0 : World} {R : Ending → World → Prop} {L : ZL} {c : Cf}
theorem ufields_row (b o : Nat) (hc : callAt (adv Tryz.prog E 9999 400 c) = some (65, [.ptr b o]))
  (hk : Ru ⟨Tryz.prog, f0, E, w0, R⟩ (ZAll L) (resumeB (adv Tryz.prog E 9999 400 c) ⟨[.val (.pointer none), .ptr b (o + 0), .ptr b (o + 1), .ptr b (o + 2), .ptr b (o + 3), .ptr b (o + 4), .ptr b (o + 5), .ptr b (o + 6), .ptr b (o + 7)], 113⟩ 9)) : Ru ⟨Tryz.prog, f0, E, w0, R⟩ (ZAll L) c :=
 st_rowP [.val (.pointer none), .ptr b (o + 0), .ptr b (o + 1), .ptr b (o + 2), .ptr b (o + 3), .ptr b (o + 4), .ptr b (o + 5), .ptr b (o + 6), .ptr b (o + 7)] ent65 ufields (fun r N hN => cellsOk_cons ⟨rfl, trivial⟩ (cellsOk_cons ⟨rfl, hN⟩ (cellsOk_cons ⟨rfl, hN⟩ (cellsOk_cons ⟨rfl, hN⟩ (cellsOk_cons ⟨rfl, hN⟩ (cellsOk_cons ⟨rfl, hN⟩ (cellsOk_cons ⟨rfl, hN⟩ (cellsOk_cons ⟨rfl, hN⟩ (cellsOk_cons ⟨rfl, hN⟩ cellsOk_nil))))))))) hc hk
end
theorem ulen4 : Fn 63 [] [.int .i64 4] (.int .i64 86400000000000) := by
 refine fn_of Tryz.func63 rfl fun ww => ?_
 refine qI 11 (4 - 4) ?_
 exact qR Tryz.func63
theorem ulen5 : Fn 63 [] [.int .i64 5] (.int .i64 3600000000000) := by
 refine fn_of Tryz.func63 rfl fun ww => ?_
 refine qI 11 (5 - 4) ?_
 exact qR Tryz.func63
theorem ulen6 : Fn 63 [] [.int .i64 6] (.int .i64 60000000000) := by
 refine fn_of Tryz.func63 rfl fun ww => ?_
 refine qI 11 (6 - 4) ?_
 exact qR Tryz.func63
theorem ulen7 : Fn 63 [] [.int .i64 7] (.int .i64 1000000000) := by
 refine fn_of Tryz.func63 rfl fun ww => ?_
 refine qI 11 (7 - 4) ?_
 exact qR Tryz.func63
theorem ulen8 : Fn 63 [] [.int .i64 8] (.int .i64 1) := by
 refine fn_of Tryz.func63 rfl fun ww => ?_
 refine qI 11 (8 - 4) ?_
 exact qR Tryz.func63
theorem ulen_o (u : Int) (h : u < 4 ∨ 8 < u) : Fn 63 [] [.int .i64 u] (.int .i64 0) := by
 by_cases k : u < 4
 ·refine fn_of Tryz.func63 rfl fun ww => ?_
  refine qY 4 (decide (u < 4)) ?_
  exact qR Tryz.func63
 ·have k' : 8 < u := by omega
  refine fn_of Tryz.func63 rfl fun ww => ?_
  refine qN 4 (decide (u < 4)) ?_
  refine qY 7 (decide (u > 8)) ?_
  exact qR Tryz.func63
theorem units {u : Int} (h : 4 ≤ u) (k : u ≤ 8) : u = 4 ∨ u = 5 ∨ u = 6 ∨ u = 7 ∨ u = 8 := by omega
theorem ulen_fn (u : Int) : Fn 63 [] [.int .i64 u] (.int .i64 (ulen u)) := by
 by_cases h : 4 ≤ u ∧ u ≤ 8
 ·rcases units h.1 h.2 with rfl | rfl | rfl | rfl | rfl
  ·exact ulen4
  ·exact ulen5
  ·exact ulen6
  ·exact ulen7
  ·exact ulen8
 ·rw [ulen_no (by omega)]
  exact ulen_o u (by omega)
theorem ulimit : Fn 68 [] [] (wv 9007199254740992000000000) := by
 have i1 : I64 9007199254740992 := by unfold I64; omega
 have i2 : I64 1000000000 := by unfold I64; omega
 refine fn_of Tryz.func68 rfl fun ww => ?_
 refine qF ent23 (wmul_f (9007199254740992) (1000000000) (by assumption) (by assumption)) ?_
 exact st_retv Tryz.func68 (show Value.agg #[vI64 (hi (9007199254740992 * 1000000000)), Value.int IntKind.u64 (lo (9007199254740992 * 1000000000))] = _ by rfl) (by kernel_rfl)
section
variable (a b c d h mi s n : Int)
theorem utot (i1 : I64 d) (i2 : I64 h) (i3 : I64 mi) (i4 : I64 s) (i5 : I64 n) : Fn 66 [] [duv a b c d h mi s n] (wv (dtot d h mi s n)) := by
 have j1 : I64 86400000000000 := by unfold I64; omega
 have j2 : I64 3600000000000 := by unfold I64; omega
 have j3 : I64 60000000000 := by unfold I64; omega
 have j4 : I64 1000000000 := by unfold I64; omega
 have j5 : I64 1 := by unfold I64; omega
 have k1 := i1; have k2 := i2; have k3 := i3; have k4 := i4; have k5 := i5
 unfold I64 at k1 k2 k3 k4 k5
 refine fn_of Tryz.func66 rfl fun ww => ?_
 refine ufields_row 0 0 (by kernel_rfl) ?_
 refine st_round (by kernel_rfl) ?_
 refine qF ent63 (ulen4) ?_
 refine qF ent23 (wmul_f (d) (86400000000000) (by assumption) (by assumption)) ?_
 refine st_app0w (b2 := 3) (v1 := vI64 (hi (d * 86400000000000))) (v2 := Value.int IntKind.u64 (lo (d * 86400000000000))) (by kernel_rfl) (by kernel_rfl) rfl rfl (fun m3 rest3 hm3 hr3 => ?_)
 refine qI 12 (4 + 1) ?_
 refine st_round (by kernel_rfl) ?_
 refine qF ent63 (ulen5) ?_
 refine qF ent23 (wmul_f (h) (3600000000000) (by assumption) (by assumption)) ?_
 refine st_appw (b := 4) (b2 := 5) (n := 1) (m := m3) (vs := [vI64 (hi (d * 86400000000000)), Value.int IntKind.u64 (lo (d * 86400000000000))]) (rest := rest3) (v1 := vI64 (hi (h * 3600000000000))) (v2 := Value.int IntKind.u64 (lo (h * 3600000000000))) (by kernel_rfl) (by kernel_rfl) (by kernel_rfl) rfl rfl rfl hr3 hm3 (by omega) (by kernel_rfl) (by kernel_rfl) (fun hm6 rest6 hr6 => ?_) (fun m6 rest6 hm6 hr6 => ?_)
 ·have _hh := True.intro
  refine qI 12 (4 + 1 + 1) ?_
  refine st_round (by kernel_rfl) ?_
  refine qF ent63 (ulen6) ?_
  refine qF ent23 (wmul_f (mi) (60000000000) (by assumption) (by assumption)) ?_
  refine st_appw (b := 4) (b2 := 6) (n := 2) (m := m3) (vs := [vI64 (hi (d * 86400000000000)), Value.int IntKind.u64 (lo (d * 86400000000000)), vI64 (hi (h * 3600000000000)), Value.int IntKind.u64 (lo (h * 3600000000000))]) (rest := rest6) (v1 := vI64 (hi (mi * 60000000000))) (v2 := Value.int IntKind.u64 (lo (mi * 60000000000))) (by kernel_rfl) (by kernel_rfl) (by kernel_rfl) rfl rfl rfl hr6 hm6 (by omega) (by kernel_rfl) (by kernel_rfl) (fun hm9 rest9 hr9 => ?_) (fun m9 rest9 hm9 hr9 => ?_)
  ·have _hh := True.intro
   refine qI 12 (4 + 1 + 1 + 1) ?_
   refine st_round (by kernel_rfl) ?_
   refine qF ent63 (ulen7) ?_
   refine qF ent23 (wmul_f (s) (1000000000) (by assumption) (by assumption)) ?_
   refine st_appw (b := 4) (b2 := 7) (n := 3) (m := m3) (vs := [vI64 (hi (d * 86400000000000)), Value.int IntKind.u64 (lo (d * 86400000000000)), vI64 (hi (h * 3600000000000)), Value.int IntKind.u64 (lo (h * 3600000000000)), vI64 (hi (mi * 60000000000)), Value.int IntKind.u64 (lo (mi * 60000000000))]) (rest := rest9) (v1 := vI64 (hi (s * 1000000000))) (v2 := Value.int IntKind.u64 (lo (s * 1000000000))) (by kernel_rfl) (by kernel_rfl) (by kernel_rfl) rfl rfl rfl hr9 hm9 (by omega) (by kernel_rfl) (by kernel_rfl) (fun hm12 rest12 hr12 => ?_) (fun m12 rest12 hm12 hr12 => ?_)
   ·have _hh := True.intro
    refine qI 12 (4 + 1 + 1 + 1 + 1) ?_
    refine st_round (by kernel_rfl) ?_
    refine qF ent63 (ulen8) ?_
    refine qF ent23 (wmul_f (n) (1) (by assumption) (by assumption)) ?_
    refine st_appw (b := 4) (b2 := 8) (n := 4) (m := m3) (vs := [vI64 (hi (d * 86400000000000)), Value.int IntKind.u64 (lo (d * 86400000000000)), vI64 (hi (h * 3600000000000)), Value.int IntKind.u64 (lo (h * 3600000000000)), vI64 (hi (mi * 60000000000)), Value.int IntKind.u64 (lo (mi * 60000000000)), vI64 (hi (s * 1000000000)), Value.int IntKind.u64 (lo (s * 1000000000))]) (rest := rest12) (v1 := vI64 (hi (n * 1))) (v2 := Value.int IntKind.u64 (lo (n * 1))) (by kernel_rfl) (by kernel_rfl) (by kernel_rfl) rfl rfl rfl hr12 hm12 (by omega) (by kernel_rfl) (by kernel_rfl) (fun hm15 rest15 hr15 => ?_) (fun m15 rest15 hm15 hr15 => ?_)
    ·have _hh := True.intro
     refine qI 12 (4 + 1 + 1 + 1 + 1 + 1) ?_
     refine st_round (by kernel_rfl) ?_
     refine st_sum5 (b := 4) (m := m3) (n1 := (d * 86400000000000)) (n2 := (h * 3600000000000)) (n3 := (mi * 60000000000)) (n4 := (s * 1000000000)) (n5 := (n * 1)) (rest := rest15) ((d * 86400000000000) + (h * 3600000000000) + (mi * 60000000000) + (s * 1000000000) + (n * 1)) rfl yW yW yW yW yW yW (by kernel_rfl) (by kernel_rfl) ?_
     exact st_retv Tryz.func66 (show Value.agg #[vI64 (hi (d * 86400000000000 + h * 3600000000000 + mi * 60000000000 + s * 1000000000 + n * 1)), Value.int IntKind.u64 (lo (d * 86400000000000 + h * 3600000000000 + mi * 60000000000 + s * 1000000000 + n * 1))] = _ by (unfold dtot; rw [Int.mul_one])) (by kernel_rfl)
    ·have _hh := True.intro
     refine qI 12 (4 + 1 + 1 + 1 + 1 + 1) ?_
     refine st_round (by kernel_rfl) ?_
     refine st_sum5 (b := 9) (m := m15) (n1 := (d * 86400000000000)) (n2 := (h * 3600000000000)) (n3 := (mi * 60000000000)) (n4 := (s * 1000000000)) (n5 := (n * 1)) (rest := rest15) ((d * 86400000000000) + (h * 3600000000000) + (mi * 60000000000) + (s * 1000000000) + (n * 1)) rfl yW yW yW yW yW yW (by kernel_rfl) (by kernel_rfl) ?_
     exact st_retv Tryz.func66 (show Value.agg #[vI64 (hi (d * 86400000000000 + h * 3600000000000 + mi * 60000000000 + s * 1000000000 + n * 1)), Value.int IntKind.u64 (lo (d * 86400000000000 + h * 3600000000000 + mi * 60000000000 + s * 1000000000 + n * 1))] = _ by (unfold dtot; rw [Int.mul_one])) (by kernel_rfl)
   ·have _hh := True.intro
    refine qI 12 (4 + 1 + 1 + 1 + 1) ?_
    refine st_round (by kernel_rfl) ?_
    refine qF ent63 (ulen8) ?_
    refine qF ent23 (wmul_f (n) (1) (by assumption) (by assumption)) ?_
    refine st_appw (b := 8) (b2 := 9) (n := 4) (m := m12) (vs := [vI64 (hi (d * 86400000000000)), Value.int IntKind.u64 (lo (d * 86400000000000)), vI64 (hi (h * 3600000000000)), Value.int IntKind.u64 (lo (h * 3600000000000)), vI64 (hi (mi * 60000000000)), Value.int IntKind.u64 (lo (mi * 60000000000)), vI64 (hi (s * 1000000000)), Value.int IntKind.u64 (lo (s * 1000000000))]) (rest := rest12) (v1 := vI64 (hi (n * 1))) (v2 := Value.int IntKind.u64 (lo (n * 1))) (by kernel_rfl) (by kernel_rfl) (by kernel_rfl) rfl rfl rfl hr12 hm12 (by omega) (by kernel_rfl) (by kernel_rfl) (fun hm15 rest15 hr15 => ?_) (fun m15 rest15 hm15 hr15 => ?_)
    ·have _hh := True.intro
     refine qI 12 (4 + 1 + 1 + 1 + 1 + 1) ?_
     refine st_round (by kernel_rfl) ?_
     refine st_sum5 (b := 8) (m := m12) (n1 := (d * 86400000000000)) (n2 := (h * 3600000000000)) (n3 := (mi * 60000000000)) (n4 := (s * 1000000000)) (n5 := (n * 1)) (rest := rest15) ((d * 86400000000000) + (h * 3600000000000) + (mi * 60000000000) + (s * 1000000000) + (n * 1)) rfl yW yW yW yW yW yW (by kernel_rfl) (by kernel_rfl) ?_
     exact st_retv Tryz.func66 (show Value.agg #[vI64 (hi (d * 86400000000000 + h * 3600000000000 + mi * 60000000000 + s * 1000000000 + n * 1)), Value.int IntKind.u64 (lo (d * 86400000000000 + h * 3600000000000 + mi * 60000000000 + s * 1000000000 + n * 1))] = _ by (unfold dtot; rw [Int.mul_one])) (by kernel_rfl)
    ·have _hh := True.intro
     refine qI 12 (4 + 1 + 1 + 1 + 1 + 1) ?_
     refine st_round (by kernel_rfl) ?_
     refine st_sum5 (b := 10) (m := m15) (n1 := (d * 86400000000000)) (n2 := (h * 3600000000000)) (n3 := (mi * 60000000000)) (n4 := (s * 1000000000)) (n5 := (n * 1)) (rest := rest15) ((d * 86400000000000) + (h * 3600000000000) + (mi * 60000000000) + (s * 1000000000) + (n * 1)) rfl yW yW yW yW yW yW (by kernel_rfl) (by kernel_rfl) ?_
     exact st_retv Tryz.func66 (show Value.agg #[vI64 (hi (d * 86400000000000 + h * 3600000000000 + mi * 60000000000 + s * 1000000000 + n * 1)), Value.int IntKind.u64 (lo (d * 86400000000000 + h * 3600000000000 + mi * 60000000000 + s * 1000000000 + n * 1))] = _ by (unfold dtot; rw [Int.mul_one])) (by kernel_rfl)
  ·have _hh := True.intro
   refine qI 12 (4 + 1 + 1 + 1) ?_
   refine st_round (by kernel_rfl) ?_
   refine qF ent63 (ulen7) ?_
   refine qF ent23 (wmul_f (s) (1000000000) (by assumption) (by assumption)) ?_
   refine st_appw (b := 7) (b2 := 8) (n := 3) (m := m9) (vs := [vI64 (hi (d * 86400000000000)), Value.int IntKind.u64 (lo (d * 86400000000000)), vI64 (hi (h * 3600000000000)), Value.int IntKind.u64 (lo (h * 3600000000000)), vI64 (hi (mi * 60000000000)), Value.int IntKind.u64 (lo (mi * 60000000000))]) (rest := rest9) (v1 := vI64 (hi (s * 1000000000))) (v2 := Value.int IntKind.u64 (lo (s * 1000000000))) (by kernel_rfl) (by kernel_rfl) (by kernel_rfl) rfl rfl rfl hr9 hm9 (by omega) (by kernel_rfl) (by kernel_rfl) (fun hm12 rest12 hr12 => ?_) (fun m12 rest12 hm12 hr12 => ?_)
   ·have _hh := True.intro
    refine qI 12 (4 + 1 + 1 + 1 + 1) ?_
    refine st_round (by kernel_rfl) ?_
    refine qF ent63 (ulen8) ?_
    refine qF ent23 (wmul_f (n) (1) (by assumption) (by assumption)) ?_
    refine st_appw (b := 7) (b2 := 9) (n := 4) (m := m9) (vs := [vI64 (hi (d * 86400000000000)), Value.int IntKind.u64 (lo (d * 86400000000000)), vI64 (hi (h * 3600000000000)), Value.int IntKind.u64 (lo (h * 3600000000000)), vI64 (hi (mi * 60000000000)), Value.int IntKind.u64 (lo (mi * 60000000000)), vI64 (hi (s * 1000000000)), Value.int IntKind.u64 (lo (s * 1000000000))]) (rest := rest12) (v1 := vI64 (hi (n * 1))) (v2 := Value.int IntKind.u64 (lo (n * 1))) (by kernel_rfl) (by kernel_rfl) (by kernel_rfl) rfl rfl rfl hr12 hm12 (by omega) (by kernel_rfl) (by kernel_rfl) (fun hm15 rest15 hr15 => ?_) (fun m15 rest15 hm15 hr15 => ?_)
    ·have _hh := True.intro
     refine qI 12 (4 + 1 + 1 + 1 + 1 + 1) ?_
     refine st_round (by kernel_rfl) ?_
     refine st_sum5 (b := 7) (m := m9) (n1 := (d * 86400000000000)) (n2 := (h * 3600000000000)) (n3 := (mi * 60000000000)) (n4 := (s * 1000000000)) (n5 := (n * 1)) (rest := rest15) ((d * 86400000000000) + (h * 3600000000000) + (mi * 60000000000) + (s * 1000000000) + (n * 1)) rfl yW yW yW yW yW yW (by kernel_rfl) (by kernel_rfl) ?_
     exact st_retv Tryz.func66 (show Value.agg #[vI64 (hi (d * 86400000000000 + h * 3600000000000 + mi * 60000000000 + s * 1000000000 + n * 1)), Value.int IntKind.u64 (lo (d * 86400000000000 + h * 3600000000000 + mi * 60000000000 + s * 1000000000 + n * 1))] = _ by (unfold dtot; rw [Int.mul_one])) (by kernel_rfl)
    ·have _hh := True.intro
     refine qI 12 (4 + 1 + 1 + 1 + 1 + 1) ?_
     refine st_round (by kernel_rfl) ?_
     refine st_sum5 (b := 10) (m := m15) (n1 := (d * 86400000000000)) (n2 := (h * 3600000000000)) (n3 := (mi * 60000000000)) (n4 := (s * 1000000000)) (n5 := (n * 1)) (rest := rest15) ((d * 86400000000000) + (h * 3600000000000) + (mi * 60000000000) + (s * 1000000000) + (n * 1)) rfl yW yW yW yW yW yW (by kernel_rfl) (by kernel_rfl) ?_
     exact st_retv Tryz.func66 (show Value.agg #[vI64 (hi (d * 86400000000000 + h * 3600000000000 + mi * 60000000000 + s * 1000000000 + n * 1)), Value.int IntKind.u64 (lo (d * 86400000000000 + h * 3600000000000 + mi * 60000000000 + s * 1000000000 + n * 1))] = _ by (unfold dtot; rw [Int.mul_one])) (by kernel_rfl)
   ·have _hh := True.intro
    refine qI 12 (4 + 1 + 1 + 1 + 1) ?_
    refine st_round (by kernel_rfl) ?_
    refine qF ent63 (ulen8) ?_
    refine qF ent23 (wmul_f (n) (1) (by assumption) (by assumption)) ?_
    refine st_appw (b := 9) (b2 := 10) (n := 4) (m := m12) (vs := [vI64 (hi (d * 86400000000000)), Value.int IntKind.u64 (lo (d * 86400000000000)), vI64 (hi (h * 3600000000000)), Value.int IntKind.u64 (lo (h * 3600000000000)), vI64 (hi (mi * 60000000000)), Value.int IntKind.u64 (lo (mi * 60000000000)), vI64 (hi (s * 1000000000)), Value.int IntKind.u64 (lo (s * 1000000000))]) (rest := rest12) (v1 := vI64 (hi (n * 1))) (v2 := Value.int IntKind.u64 (lo (n * 1))) (by kernel_rfl) (by kernel_rfl) (by kernel_rfl) rfl rfl rfl hr12 hm12 (by omega) (by kernel_rfl) (by kernel_rfl) (fun hm15 rest15 hr15 => ?_) (fun m15 rest15 hm15 hr15 => ?_)
    ·have _hh := True.intro
     refine qI 12 (4 + 1 + 1 + 1 + 1 + 1) ?_
     refine st_round (by kernel_rfl) ?_
     refine st_sum5 (b := 9) (m := m12) (n1 := (d * 86400000000000)) (n2 := (h * 3600000000000)) (n3 := (mi * 60000000000)) (n4 := (s * 1000000000)) (n5 := (n * 1)) (rest := rest15) ((d * 86400000000000) + (h * 3600000000000) + (mi * 60000000000) + (s * 1000000000) + (n * 1)) rfl yW yW yW yW yW yW (by kernel_rfl) (by kernel_rfl) ?_
     exact st_retv Tryz.func66 (show Value.agg #[vI64 (hi (d * 86400000000000 + h * 3600000000000 + mi * 60000000000 + s * 1000000000 + n * 1)), Value.int IntKind.u64 (lo (d * 86400000000000 + h * 3600000000000 + mi * 60000000000 + s * 1000000000 + n * 1))] = _ by (unfold dtot; rw [Int.mul_one])) (by kernel_rfl)
    ·have _hh := True.intro
     refine qI 12 (4 + 1 + 1 + 1 + 1 + 1) ?_
     refine st_round (by kernel_rfl) ?_
     refine st_sum5 (b := 11) (m := m15) (n1 := (d * 86400000000000)) (n2 := (h * 3600000000000)) (n3 := (mi * 60000000000)) (n4 := (s * 1000000000)) (n5 := (n * 1)) (rest := rest15) ((d * 86400000000000) + (h * 3600000000000) + (mi * 60000000000) + (s * 1000000000) + (n * 1)) rfl yW yW yW yW yW yW (by kernel_rfl) (by kernel_rfl) ?_
     exact st_retv Tryz.func66 (show Value.agg #[vI64 (hi (d * 86400000000000 + h * 3600000000000 + mi * 60000000000 + s * 1000000000 + n * 1)), Value.int IntKind.u64 (lo (d * 86400000000000 + h * 3600000000000 + mi * 60000000000 + s * 1000000000 + n * 1))] = _ by (unfold dtot; rw [Int.mul_one])) (by kernel_rfl)
 ·have _hh := True.intro
  refine qI 12 (4 + 1 + 1) ?_
  refine st_round (by kernel_rfl) ?_
  refine qF ent63 (ulen6) ?_
  refine qF ent23 (wmul_f (mi) (60000000000) (by assumption) (by assumption)) ?_
  refine st_appw (b := 6) (b2 := 7) (n := 2) (m := m6) (vs := [vI64 (hi (d * 86400000000000)), Value.int IntKind.u64 (lo (d * 86400000000000)), vI64 (hi (h * 3600000000000)), Value.int IntKind.u64 (lo (h * 3600000000000))]) (rest := rest6) (v1 := vI64 (hi (mi * 60000000000))) (v2 := Value.int IntKind.u64 (lo (mi * 60000000000))) (by kernel_rfl) (by kernel_rfl) (by kernel_rfl) rfl rfl rfl hr6 hm6 (by omega) (by kernel_rfl) (by kernel_rfl) (fun hm9 rest9 hr9 => ?_) (fun m9 rest9 hm9 hr9 => ?_)
  ·have _hh := True.intro
   refine qI 12 (4 + 1 + 1 + 1) ?_
   refine st_round (by kernel_rfl) ?_
   refine qF ent63 (ulen7) ?_
   refine qF ent23 (wmul_f (s) (1000000000) (by assumption) (by assumption)) ?_
   refine st_appw (b := 6) (b2 := 8) (n := 3) (m := m6) (vs := [vI64 (hi (d * 86400000000000)), Value.int IntKind.u64 (lo (d * 86400000000000)), vI64 (hi (h * 3600000000000)), Value.int IntKind.u64 (lo (h * 3600000000000)), vI64 (hi (mi * 60000000000)), Value.int IntKind.u64 (lo (mi * 60000000000))]) (rest := rest9) (v1 := vI64 (hi (s * 1000000000))) (v2 := Value.int IntKind.u64 (lo (s * 1000000000))) (by kernel_rfl) (by kernel_rfl) (by kernel_rfl) rfl rfl rfl hr9 hm9 (by omega) (by kernel_rfl) (by kernel_rfl) (fun hm12 rest12 hr12 => ?_) (fun m12 rest12 hm12 hr12 => ?_)
   ·have _hh := True.intro
    refine qI 12 (4 + 1 + 1 + 1 + 1) ?_
    refine st_round (by kernel_rfl) ?_
    refine qF ent63 (ulen8) ?_
    refine qF ent23 (wmul_f (n) (1) (by assumption) (by assumption)) ?_
    refine st_appw (b := 6) (b2 := 9) (n := 4) (m := m6) (vs := [vI64 (hi (d * 86400000000000)), Value.int IntKind.u64 (lo (d * 86400000000000)), vI64 (hi (h * 3600000000000)), Value.int IntKind.u64 (lo (h * 3600000000000)), vI64 (hi (mi * 60000000000)), Value.int IntKind.u64 (lo (mi * 60000000000)), vI64 (hi (s * 1000000000)), Value.int IntKind.u64 (lo (s * 1000000000))]) (rest := rest12) (v1 := vI64 (hi (n * 1))) (v2 := Value.int IntKind.u64 (lo (n * 1))) (by kernel_rfl) (by kernel_rfl) (by kernel_rfl) rfl rfl rfl hr12 hm12 (by omega) (by kernel_rfl) (by kernel_rfl) (fun hm15 rest15 hr15 => ?_) (fun m15 rest15 hm15 hr15 => ?_)
    ·have _hh := True.intro
     refine qI 12 (4 + 1 + 1 + 1 + 1 + 1) ?_
     refine st_round (by kernel_rfl) ?_
     refine st_sum5 (b := 6) (m := m6) (n1 := (d * 86400000000000)) (n2 := (h * 3600000000000)) (n3 := (mi * 60000000000)) (n4 := (s * 1000000000)) (n5 := (n * 1)) (rest := rest15) ((d * 86400000000000) + (h * 3600000000000) + (mi * 60000000000) + (s * 1000000000) + (n * 1)) rfl yW yW yW yW yW yW (by kernel_rfl) (by kernel_rfl) ?_
     exact st_retv Tryz.func66 (show Value.agg #[vI64 (hi (d * 86400000000000 + h * 3600000000000 + mi * 60000000000 + s * 1000000000 + n * 1)), Value.int IntKind.u64 (lo (d * 86400000000000 + h * 3600000000000 + mi * 60000000000 + s * 1000000000 + n * 1))] = _ by (unfold dtot; rw [Int.mul_one])) (by kernel_rfl)
    ·have _hh := True.intro
     refine qI 12 (4 + 1 + 1 + 1 + 1 + 1) ?_
     refine st_round (by kernel_rfl) ?_
     refine st_sum5 (b := 10) (m := m15) (n1 := (d * 86400000000000)) (n2 := (h * 3600000000000)) (n3 := (mi * 60000000000)) (n4 := (s * 1000000000)) (n5 := (n * 1)) (rest := rest15) ((d * 86400000000000) + (h * 3600000000000) + (mi * 60000000000) + (s * 1000000000) + (n * 1)) rfl yW yW yW yW yW yW (by kernel_rfl) (by kernel_rfl) ?_
     exact st_retv Tryz.func66 (show Value.agg #[vI64 (hi (d * 86400000000000 + h * 3600000000000 + mi * 60000000000 + s * 1000000000 + n * 1)), Value.int IntKind.u64 (lo (d * 86400000000000 + h * 3600000000000 + mi * 60000000000 + s * 1000000000 + n * 1))] = _ by (unfold dtot; rw [Int.mul_one])) (by kernel_rfl)
   ·have _hh := True.intro
    refine qI 12 (4 + 1 + 1 + 1 + 1) ?_
    refine st_round (by kernel_rfl) ?_
    refine qF ent63 (ulen8) ?_
    refine qF ent23 (wmul_f (n) (1) (by assumption) (by assumption)) ?_
    refine st_appw (b := 9) (b2 := 10) (n := 4) (m := m12) (vs := [vI64 (hi (d * 86400000000000)), Value.int IntKind.u64 (lo (d * 86400000000000)), vI64 (hi (h * 3600000000000)), Value.int IntKind.u64 (lo (h * 3600000000000)), vI64 (hi (mi * 60000000000)), Value.int IntKind.u64 (lo (mi * 60000000000)), vI64 (hi (s * 1000000000)), Value.int IntKind.u64 (lo (s * 1000000000))]) (rest := rest12) (v1 := vI64 (hi (n * 1))) (v2 := Value.int IntKind.u64 (lo (n * 1))) (by kernel_rfl) (by kernel_rfl) (by kernel_rfl) rfl rfl rfl hr12 hm12 (by omega) (by kernel_rfl) (by kernel_rfl) (fun hm15 rest15 hr15 => ?_) (fun m15 rest15 hm15 hr15 => ?_)
    ·have _hh := True.intro
     refine qI 12 (4 + 1 + 1 + 1 + 1 + 1) ?_
     refine st_round (by kernel_rfl) ?_
     refine st_sum5 (b := 9) (m := m12) (n1 := (d * 86400000000000)) (n2 := (h * 3600000000000)) (n3 := (mi * 60000000000)) (n4 := (s * 1000000000)) (n5 := (n * 1)) (rest := rest15) ((d * 86400000000000) + (h * 3600000000000) + (mi * 60000000000) + (s * 1000000000) + (n * 1)) rfl yW yW yW yW yW yW (by kernel_rfl) (by kernel_rfl) ?_
     exact st_retv Tryz.func66 (show Value.agg #[vI64 (hi (d * 86400000000000 + h * 3600000000000 + mi * 60000000000 + s * 1000000000 + n * 1)), Value.int IntKind.u64 (lo (d * 86400000000000 + h * 3600000000000 + mi * 60000000000 + s * 1000000000 + n * 1))] = _ by (unfold dtot; rw [Int.mul_one])) (by kernel_rfl)
    ·have _hh := True.intro
     refine qI 12 (4 + 1 + 1 + 1 + 1 + 1) ?_
     refine st_round (by kernel_rfl) ?_
     refine st_sum5 (b := 11) (m := m15) (n1 := (d * 86400000000000)) (n2 := (h * 3600000000000)) (n3 := (mi * 60000000000)) (n4 := (s * 1000000000)) (n5 := (n * 1)) (rest := rest15) ((d * 86400000000000) + (h * 3600000000000) + (mi * 60000000000) + (s * 1000000000) + (n * 1)) rfl yW yW yW yW yW yW (by kernel_rfl) (by kernel_rfl) ?_
     exact st_retv Tryz.func66 (show Value.agg #[vI64 (hi (d * 86400000000000 + h * 3600000000000 + mi * 60000000000 + s * 1000000000 + n * 1)), Value.int IntKind.u64 (lo (d * 86400000000000 + h * 3600000000000 + mi * 60000000000 + s * 1000000000 + n * 1))] = _ by (unfold dtot; rw [Int.mul_one])) (by kernel_rfl)
  ·have _hh := True.intro
   refine qI 12 (4 + 1 + 1 + 1) ?_
   refine st_round (by kernel_rfl) ?_
   refine qF ent63 (ulen7) ?_
   refine qF ent23 (wmul_f (s) (1000000000) (by assumption) (by assumption)) ?_
   refine st_appw (b := 8) (b2 := 9) (n := 3) (m := m9) (vs := [vI64 (hi (d * 86400000000000)), Value.int IntKind.u64 (lo (d * 86400000000000)), vI64 (hi (h * 3600000000000)), Value.int IntKind.u64 (lo (h * 3600000000000)), vI64 (hi (mi * 60000000000)), Value.int IntKind.u64 (lo (mi * 60000000000))]) (rest := rest9) (v1 := vI64 (hi (s * 1000000000))) (v2 := Value.int IntKind.u64 (lo (s * 1000000000))) (by kernel_rfl) (by kernel_rfl) (by kernel_rfl) rfl rfl rfl hr9 hm9 (by omega) (by kernel_rfl) (by kernel_rfl) (fun hm12 rest12 hr12 => ?_) (fun m12 rest12 hm12 hr12 => ?_)
   ·have _hh := True.intro
    refine qI 12 (4 + 1 + 1 + 1 + 1) ?_
    refine st_round (by kernel_rfl) ?_
    refine qF ent63 (ulen8) ?_
    refine qF ent23 (wmul_f (n) (1) (by assumption) (by assumption)) ?_
    refine st_appw (b := 8) (b2 := 10) (n := 4) (m := m9) (vs := [vI64 (hi (d * 86400000000000)), Value.int IntKind.u64 (lo (d * 86400000000000)), vI64 (hi (h * 3600000000000)), Value.int IntKind.u64 (lo (h * 3600000000000)), vI64 (hi (mi * 60000000000)), Value.int IntKind.u64 (lo (mi * 60000000000)), vI64 (hi (s * 1000000000)), Value.int IntKind.u64 (lo (s * 1000000000))]) (rest := rest12) (v1 := vI64 (hi (n * 1))) (v2 := Value.int IntKind.u64 (lo (n * 1))) (by kernel_rfl) (by kernel_rfl) (by kernel_rfl) rfl rfl rfl hr12 hm12 (by omega) (by kernel_rfl) (by kernel_rfl) (fun hm15 rest15 hr15 => ?_) (fun m15 rest15 hm15 hr15 => ?_)
    ·have _hh := True.intro
     refine qI 12 (4 + 1 + 1 + 1 + 1 + 1) ?_
     refine st_round (by kernel_rfl) ?_
     refine st_sum5 (b := 8) (m := m9) (n1 := (d * 86400000000000)) (n2 := (h * 3600000000000)) (n3 := (mi * 60000000000)) (n4 := (s * 1000000000)) (n5 := (n * 1)) (rest := rest15) ((d * 86400000000000) + (h * 3600000000000) + (mi * 60000000000) + (s * 1000000000) + (n * 1)) rfl yW yW yW yW yW yW (by kernel_rfl) (by kernel_rfl) ?_
     exact st_retv Tryz.func66 (show Value.agg #[vI64 (hi (d * 86400000000000 + h * 3600000000000 + mi * 60000000000 + s * 1000000000 + n * 1)), Value.int IntKind.u64 (lo (d * 86400000000000 + h * 3600000000000 + mi * 60000000000 + s * 1000000000 + n * 1))] = _ by (unfold dtot; rw [Int.mul_one])) (by kernel_rfl)
    ·have _hh := True.intro
     refine qI 12 (4 + 1 + 1 + 1 + 1 + 1) ?_
     refine st_round (by kernel_rfl) ?_
     refine st_sum5 (b := 11) (m := m15) (n1 := (d * 86400000000000)) (n2 := (h * 3600000000000)) (n3 := (mi * 60000000000)) (n4 := (s * 1000000000)) (n5 := (n * 1)) (rest := rest15) ((d * 86400000000000) + (h * 3600000000000) + (mi * 60000000000) + (s * 1000000000) + (n * 1)) rfl yW yW yW yW yW yW (by kernel_rfl) (by kernel_rfl) ?_
     exact st_retv Tryz.func66 (show Value.agg #[vI64 (hi (d * 86400000000000 + h * 3600000000000 + mi * 60000000000 + s * 1000000000 + n * 1)), Value.int IntKind.u64 (lo (d * 86400000000000 + h * 3600000000000 + mi * 60000000000 + s * 1000000000 + n * 1))] = _ by (unfold dtot; rw [Int.mul_one])) (by kernel_rfl)
   ·have _hh := True.intro
    refine qI 12 (4 + 1 + 1 + 1 + 1) ?_
    refine st_round (by kernel_rfl) ?_
    refine qF ent63 (ulen8) ?_
    refine qF ent23 (wmul_f (n) (1) (by assumption) (by assumption)) ?_
    refine st_appw (b := 10) (b2 := 11) (n := 4) (m := m12) (vs := [vI64 (hi (d * 86400000000000)), Value.int IntKind.u64 (lo (d * 86400000000000)), vI64 (hi (h * 3600000000000)), Value.int IntKind.u64 (lo (h * 3600000000000)), vI64 (hi (mi * 60000000000)), Value.int IntKind.u64 (lo (mi * 60000000000)), vI64 (hi (s * 1000000000)), Value.int IntKind.u64 (lo (s * 1000000000))]) (rest := rest12) (v1 := vI64 (hi (n * 1))) (v2 := Value.int IntKind.u64 (lo (n * 1))) (by kernel_rfl) (by kernel_rfl) (by kernel_rfl) rfl rfl rfl hr12 hm12 (by omega) (by kernel_rfl) (by kernel_rfl) (fun hm15 rest15 hr15 => ?_) (fun m15 rest15 hm15 hr15 => ?_)
    ·have _hh := True.intro
     refine qI 12 (4 + 1 + 1 + 1 + 1 + 1) ?_
     refine st_round (by kernel_rfl) ?_
     refine st_sum5 (b := 10) (m := m12) (n1 := (d * 86400000000000)) (n2 := (h * 3600000000000)) (n3 := (mi * 60000000000)) (n4 := (s * 1000000000)) (n5 := (n * 1)) (rest := rest15) ((d * 86400000000000) + (h * 3600000000000) + (mi * 60000000000) + (s * 1000000000) + (n * 1)) rfl yW yW yW yW yW yW (by kernel_rfl) (by kernel_rfl) ?_
     exact st_retv Tryz.func66 (show Value.agg #[vI64 (hi (d * 86400000000000 + h * 3600000000000 + mi * 60000000000 + s * 1000000000 + n * 1)), Value.int IntKind.u64 (lo (d * 86400000000000 + h * 3600000000000 + mi * 60000000000 + s * 1000000000 + n * 1))] = _ by (unfold dtot; rw [Int.mul_one])) (by kernel_rfl)
    ·have _hh := True.intro
     refine qI 12 (4 + 1 + 1 + 1 + 1 + 1) ?_
     refine st_round (by kernel_rfl) ?_
     refine st_sum5 (b := 12) (m := m15) (n1 := (d * 86400000000000)) (n2 := (h * 3600000000000)) (n3 := (mi * 60000000000)) (n4 := (s * 1000000000)) (n5 := (n * 1)) (rest := rest15) ((d * 86400000000000) + (h * 3600000000000) + (mi * 60000000000) + (s * 1000000000) + (n * 1)) rfl yW yW yW yW yW yW (by kernel_rfl) (by kernel_rfl) ?_
     exact st_retv Tryz.func66 (show Value.agg #[vI64 (hi (d * 86400000000000 + h * 3600000000000 + mi * 60000000000 + s * 1000000000 + n * 1)), Value.int IntKind.u64 (lo (d * 86400000000000 + h * 3600000000000 + mi * 60000000000 + s * 1000000000 + n * 1))] = _ by (unfold dtot; rw [Int.mul_one])) (by kernel_rfl)
end
end Go.Proofs.YthoedmikfpbfnaaGreat
end
section
set_option maxRecDepth 100000
namespace Go.Proofs.YthoedmikfpbfnaaGreat
open Go Go.RowKit Go.Ev

section
variable (y m d y' m' d' L : Int)
theorem cunt_3 (h : dOk y m d) (h' : dOk y' m' d') : Fn 100 [] [dv y m d, dv y' m' d', .int .i64 3] (.tuple #[duv 0 0 ((dnum y' m' d' - dnum y m d).tdiv 7) ((dnum y' m' d' - dnum y m d).tmod 7) 0 0 0 0, .int .i64 0]) := by
 have d1 := cdays_yes y m d h
 have d2 := cdays_yes y' m' d' h'
 have b1 := h.2
 have b2 := h'.2
 generalize dnum y m d = n at *
 generalize dnum y' m' d' = n' at *
 have tt := td (n' - n) 7 (by omega)
 clear h h'
 refine fn_of Tryz.func100 rfl fun ww => ?_
 refine qF ent117 (d1) ?_
 refine qF ent117 (d2) ?_
 refine qI 48 (n' - n) ?_
 refine qI 49 ((n' - n).tdiv 7) ?_
 refine qI 52 (n' - n) ?_
 exact qR Tryz.func100
theorem cunt_4 (h : dOk y m d) (h' : dOk y' m' d') : Fn 100 [] [dv y m d, dv y' m' d', .int .i64 4] (.tuple #[duv 0 0 0 (dnum y' m' d' - dnum y m d) 0 0 0 0, .int .i64 0]) := by
 have d1 := cdays_yes y m d h
 have d2 := cdays_yes y' m' d' h'
 have b1 := h.2
 have b2 := h'.2
 generalize dnum y m d = n at *
 generalize dnum y' m' d' = n' at *
 clear h h'
 refine fn_of Tryz.func100 rfl fun ww => ?_
 refine qF ent117 (d1) ?_
 refine qF ent117 (d2) ?_
 refine qI 59 (n' - n) ?_
 exact qR Tryz.func100
theorem cunt_0 (L : Int) (l : L = 1 ∨ L = 2) (h : dOk y m d) (h' : dOk y' m' d') (e : cmp3 y' m' d' y m d = 0) : Fn 100 [] [dv y m d, dv y' m' d', .int .i64 L] (.tuple #[du0, .int .i64 0]) := by
 have d1 := cdays_yes y m d h
 have d2 := cdays_yes y' m' d' h'
 have cc := ccmp5 y' m' d' y m d
 rw [e] at cc
 clear h h' e
 rcases l with rfl | rfl
 ·refine fn_of Tryz.func100 rfl fun ww => ?_
  refine qF ent117 (d1) ?_
  refine qF ent117 (d2) ?_
  refine qF ent56 (cc) ?_
  exact qR Tryz.func100
 ·refine fn_of Tryz.func100 rfl fun ww => ?_
  refine qF ent117 (d1) ?_
  refine qF ent117 (d2) ?_
  refine qF ent56 (cc) ?_
  exact qR Tryz.func100
theorem cunt_1 (s N T : Int) (h : dOk y m d) (h' : dOk y' m' d') (hs : s = 1 ∨ s = -1) (e : cmp3 y' m' d' y m d = s) (hN : mM s y m d y' m' d' = N) (hT : ymi y m + s * N = T) :
  Fn 100 [] [dv y m d, dv y' m' d', .int .i64 1] (.tuple #[duv (s * (N / 12)) (s * (N - 12 * (N / 12))) 0 (dnum y' m' d' - dnum (lY T) (lM T) (cD (lY T) (lM T) d)) 0 0 0 0, .int .i64 0]) := by
 have d1 := cdays_yes y m d h
 have d2 := cdays_yes y' m' d' h'
 have yy := dOk_year h
 have yy' := dOk_year h'
 have n0 := mM_pos h.1.1 h.1.2.1 h'.1.1 h'.1.2.1 hs e
 have n1 := mM_le (y := y) (y' := y') (d := d) (d' := d') h.1.1 h.1.2.1 h'.1.1 h'.1.2.1 hs
 rw [hN] at n0 n1
 have n2 : N ≤ 10000000 := by
  rcases hs with rfl | rfl
  ·rw [if_pos rfl] at n1; omega
  ·rw [if_neg (by omega)] at n1; omega
 have c2 := cmost2 s y m d y' m' d' (N / 12) (by omega) (by omega) (fun k k0 k1 => by have := cfit2 s y m d y' m' d' k hs (by omega) (by omega) h.1.1 h.1.2.1 h'.1.1 h'.1.2.1 k0 k1; rwa [hN] at this)
 have c3 := cmost3 s y m d y' m' d' (N / 12) (N - 12 * (N / 12)) (by omega) (by omega) (fun k k0 k1 => by have := cfit3 s y m d y' m' d' k (N / 12) hs (by omega) (by omega) h.1.1 h.1.2.1 h'.1.1 h'.1.2.1 (by omega) (by omega) k0 k1; rwa [hN] at this)
 have cl := clater y m d (s * N) T (by unfold ymi at hT; omega) (by omega) (by omega) h.1.1 h.1.2.1 (by rcases hs with rfl | rfl <;> omega) (by rcases hs with rfl | rfl <;> omega)
 have fo := (from_ok h h' hs e).1
 unfold fD' fY' fM' at fo
 rw [hN, hT] at fo
 have d3 := cdays_yes (lY T) (lM T) (cD (lY T) (lM T) d) fo
 have b1 := fo.2
 have b2 := h'.2
 have cc := ccmp5 y' m' d' y m d
 rw [e] at cc
 have ml := cmonth (lY T) (lM T)
 generalize dnum y' m' d' = n' at *
 generalize dnum (lY T) (lM T) (cD (lY T) (lM T) d) = n'' at *
 clear h h' e hN hT fo yy yy' n1
 obtain ⟨q, hq⟩ : ∃ q, N / 12 = q := ⟨_, rfl⟩
 have hq2 : 12 * q ≤ N ∧ N < 12 * q + 12 := by omega
 rw [hq] at c2 c3 ⊢
 clear hq
 rcases hs with rfl | rfl
 ·refine fn_of Tryz.func100 rfl fun ww => ?_
  refine qF ent117 (d1) ?_
  refine qF ent117 (d2) ?_
  refine qF ent56 (cc) ?_
  refine st_fm [4, 0, 3, 1] ent142 (c2) (by kernel_rfl) (by kernel_rfl) (by kernel_rfl) ?_
  refine st_fm [4, 5, 0, 3, 1] ent142 (c3) (by kernel_rfl) (by kernel_rfl) (by kernel_rfl) ?_
  refine qI 80 (12 * q) ?_
  refine qI 83 (12 * q + (N - 12 * q)) ?_
  refine st_i 84 IntKind.i64 (x := IntKind.i64.wrap (1 * (12 * q + (N - 12 * q)))) ((Go.IntWalk.i64_in (1 * (12 * q + (N - 12 * q))) (by omega)).trans ((show (1 : Int) * (12 * q + (N - 12 * q)) = 1 * N by omega))) (by kernel_rfl) ?_
  refine qF ent124 (cl) ?_
  refine qF ent145 (ml) ?_
  refine qI 98 (1 * q) ?_
  refine qI 102 (1 * (N - 12 * q)) ?_
  refine qF ent117 (d3) ?_
  refine qI 112 (n' - n'') ?_
  exact qR Tryz.func100
 ·refine fn_of Tryz.func100 rfl fun ww => ?_
  refine qF ent117 (d1) ?_
  refine qF ent117 (d2) ?_
  refine qF ent56 (cc) ?_
  refine st_fm [4, 0, 3, 1] ent142 (c2) (by kernel_rfl) (by kernel_rfl) (by kernel_rfl) ?_
  refine st_fm [4, 5, 0, 3, 1] ent142 (c3) (by kernel_rfl) (by kernel_rfl) (by kernel_rfl) ?_
  refine qI 80 (12 * q) ?_
  refine qI 83 (12 * q + (N - 12 * q)) ?_
  refine st_i 84 IntKind.i64 (x := IntKind.i64.wrap (-1 * (12 * q + (N - 12 * q)))) ((Go.IntWalk.i64_in (-1 * (12 * q + (N - 12 * q))) (by omega)).trans ((show (-1 : Int) * (12 * q + (N - 12 * q)) = -1 * N by omega))) (by kernel_rfl) ?_
  refine qF ent124 (cl) ?_
  refine qF ent145 (ml) ?_
  refine qI 98 (-1 * q) ?_
  refine qI 102 (-1 * (N - 12 * q)) ?_
  refine qF ent117 (d3) ?_
  refine qI 112 (n' - n'') ?_
  exact qR Tryz.func100
theorem cunt_2 (s N T : Int) (h : dOk y m d) (h' : dOk y' m' d') (hs : s = 1 ∨ s = -1) (e : cmp3 y' m' d' y m d = s) (hN : mM s y m d y' m' d' = N) (hT : ymi y m + s * N = T) :
  Fn 100 [] [dv y m d, dv y' m' d', .int .i64 2] (.tuple #[duv 0 (s * N) 0 (dnum y' m' d' - dnum (lY T) (lM T) (cD (lY T) (lM T) d)) 0 0 0 0, .int .i64 0]) := by
 have d1 := cdays_yes y m d h
 have d2 := cdays_yes y' m' d' h'
 have yy := dOk_year h
 have yy' := dOk_year h'
 have n0 := mM_pos h.1.1 h.1.2.1 h'.1.1 h'.1.2.1 hs e
 have n1 := mM_le (y := y) (y' := y') (d := d) (d' := d') h.1.1 h.1.2.1 h'.1.1 h'.1.2.1 hs
 rw [hN] at n0 n1
 have n2 : N ≤ 10000000 := by
  rcases hs with rfl | rfl
  ·rw [if_pos rfl] at n1; omega
  ·rw [if_neg (by omega)] at n1; omega
 have c3 := cmost3 s y m d y' m' d' 0 N (by omega) (by omega) (fun k k0 k1 => by have := cfit3 s y m d y' m' d' k 0 hs (by omega) (by omega) h.1.1 h.1.2.1 h'.1.1 h'.1.2.1 (by omega) (by omega) k0 k1; rwa [hN, show N - 12 * 0 = N by omega] at this)
 have cl := clater y m d (s * N) T (by unfold ymi at hT; omega) (by omega) (by omega) h.1.1 h.1.2.1 (by rcases hs with rfl | rfl <;> omega) (by rcases hs with rfl | rfl <;> omega)
 have fo := (from_ok h h' hs e).1
 unfold fD' fY' fM' at fo
 rw [hN, hT] at fo
 have d3 := cdays_yes (lY T) (lM T) (cD (lY T) (lM T) d) fo
 have b1 := fo.2
 have b2 := h'.2
 have cc := ccmp5 y' m' d' y m d
 rw [e] at cc
 have ml := cmonth (lY T) (lM T)
 generalize dnum y' m' d' = n' at *
 generalize dnum (lY T) (lM T) (cD (lY T) (lM T) d) = n'' at *
 clear h h' e hN hT fo yy yy' n1
 rcases hs with rfl | rfl
 ·refine fn_of Tryz.func100 rfl fun ww => ?_
  refine qF ent117 (d1) ?_
  refine qF ent117 (d2) ?_
  refine qF ent56 (cc) ?_
  refine st_fm [4, 5, 0, 3, 1] ent142 (c3) (by kernel_rfl) (by kernel_rfl) (by kernel_rfl) ?_
  refine qI 80 (12 * 0) ?_
  refine qI 83 (12 * 0 + N) ?_
  refine st_i 84 IntKind.i64 (x := IntKind.i64.wrap (1 * (12 * 0 + N))) ((Go.IntWalk.i64_in (1 * (12 * 0 + N)) (by omega)).trans ((show (1 : Int) * (12 * 0 + N) = 1 * N by omega))) (by kernel_rfl) ?_
  refine qF ent124 (cl) ?_
  refine qF ent145 (ml) ?_
  refine qI 98 (1 * 0) ?_
  refine qI 102 (1 * N) ?_
  refine qF ent117 (d3) ?_
  refine qI 112 (n' - n'') ?_
  exact st_retv Tryz.func100 (show Value.tuple #[Value.agg { toList := [vI64 (1 * 0), vI64 (1 * N), vI64 0, vI64 (n' - n''), vI64 0, vI64 0, vI64 0, vI64 0] }, vI64 0] = _ by rfl) (by kernel_rfl)
 ·refine fn_of Tryz.func100 rfl fun ww => ?_
  refine qF ent117 (d1) ?_
  refine qF ent117 (d2) ?_
  refine qF ent56 (cc) ?_
  refine st_fm [4, 5, 0, 3, 1] ent142 (c3) (by kernel_rfl) (by kernel_rfl) (by kernel_rfl) ?_
  refine qI 80 (12 * 0) ?_
  refine qI 83 (12 * 0 + N) ?_
  refine st_i 84 IntKind.i64 (x := IntKind.i64.wrap (-1 * (12 * 0 + N))) ((Go.IntWalk.i64_in (-1 * (12 * 0 + N)) (by omega)).trans ((show (-1 : Int) * (12 * 0 + N) = -1 * N by omega))) (by kernel_rfl) ?_
  refine qF ent124 (cl) ?_
  refine qF ent145 (ml) ?_
  refine qI 98 (-1 * 0) ?_
  refine qI 102 (-1 * N) ?_
  refine qF ent117 (d3) ?_
  refine qI 112 (n' - n'') ?_
  exact st_retv Tryz.func100 (show Value.tuple #[Value.agg { toList := [vI64 (-1 * 0), vI64 (-1 * N), vI64 0, vI64 (n' - n''), vI64 0, vI64 0, vI64 0, vI64 0] }, vI64 0] = _ by rfl) (by kernel_rfl)
end
end Go.Proofs.YthoedmikfpbfnaaGreat
end
section
set_option maxRecDepth 100000
namespace Go.Proofs.YthoedmikfpbfnaaGreat
open Go Go.RowKit Go.Ev

section
variable (y m d a b t T : Int)
theorem zlater (hT : (y + a) * 12 + (m - 1) + b = T) (y0 : -10000000 ≤ y) (y1 : y ≤ 10000000) (m1 : 1 ≤ m) (m2 : m ≤ 12) (a0 : -1000000000000 ≤ a) (a1 : a ≤ 1000000000000) (b0 : -1000000000000 ≤ b) (b1 : b ≤ 1000000000000) : Fn 134 [] [dv y m d, .int .i64 a, .int .i64 b] (dv (lY T) (lM T) d) := by
 obtain ⟨t, ht⟩ : ∃ t, m - 1 + b = t := ⟨_, rfl⟩
 have hb : -10000000000000 ≤ t ∧ t ≤ 10000000000000 := by omega
 have hT' : (y + a) * 12 + t = T := by omega
 by_cases h : 0 ≤ t
 ·have e1 : t.tdiv 12 = t / 12 := tdiv_nn h
  have e2 : t.tmod 12 = t % 12 := tmod_nn h
  by_cases h2 : t ≤ 11
  ·refine fn_of Tryz.func134 rfl fun ww => ?_
   refine qI 12 (m - 1) ?_
   refine st_i 14 IntKind.i64 (x := IntKind.i64.wrap (m - 1 + b)) ((Go.IntWalk.i64_in (m - 1 + b) (by omega)).trans (ht)) (by kernel_rfl) ?_
   refine qI 18 (y + a) ?_
   refine st_round (by kernel_rfl) ?_
   refine qN 20 (decide (t > 11)) ?_
   refine qN 23 (decide (t < 0)) ?_
   refine qI 45 (t + 1) ?_
   exact st_retv Tryz.func134 (show Value.agg #[vI64 (y + a), vI64 (t + 1), vI64 d] = _ by (refine d_eq ?_ ?_ rfl <;> simp only [lY, lM] <;> omega)) (by kernel_rfl)
  ·refine fn_of Tryz.func134 rfl fun ww => ?_
   refine qI 12 (m - 1) ?_
   refine st_i 14 IntKind.i64 (x := IntKind.i64.wrap (m - 1 + b)) ((Go.IntWalk.i64_in (m - 1 + b) (by omega)).trans (ht)) (by kernel_rfl) ?_
   refine qI 18 (y + a) ?_
   refine st_round (by kernel_rfl) ?_
   refine qY 20 (decide (t > 11)) ?_
   refine qI 26 (t.tdiv 12) ?_
   refine qN 28 (decide (t < 0)) ?_
   refine qI 38 (12 * t.tdiv 12) ?_
   refine qI 39 (t - 12 * t.tdiv 12) ?_
   refine qI 42 (y + a + t.tdiv 12) ?_
   refine st_round (by kernel_rfl) ?_
   refine qN 20 (decide (t - 12 * t.tdiv 12 > 11)) ?_
   refine qN 23 (decide (t - 12 * t.tdiv 12 < 0)) ?_
   refine qI 45 (t - 12 * t.tdiv 12 + 1) ?_
   exact st_retv Tryz.func134 (show Value.agg #[vI64 (y + a + t.tdiv 12), vI64 (t - 12 * t.tdiv 12 + 1), vI64 d] = _ by (refine d_eq ?_ ?_ rfl <;> simp only [lY, lM] <;> omega)) (by kernel_rfl)
 ·have e1 : t.tdiv 12 = -((-t) / 12) := tdiv_lit (by omega)
  have e2 : t.tmod 12 = -((-t) % 12) := tmod_lit (by omega)
  by_cases h2 : t % 12 = 0
  ·refine fn_of Tryz.func134 rfl fun ww => ?_
   refine qI 12 (m - 1) ?_
   refine st_i 14 IntKind.i64 (x := IntKind.i64.wrap (m - 1 + b)) ((Go.IntWalk.i64_in (m - 1 + b) (by omega)).trans (ht)) (by kernel_rfl) ?_
   refine qI 18 (y + a) ?_
   refine st_round (by kernel_rfl) ?_
   refine qN 20 (decide (t > 11)) ?_
   refine qY 23 (decide (t < 0)) ?_
   refine qI 26 (t.tdiv 12) ?_
   refine qY 28 (decide (t < 0)) ?_
   refine qV 32 (show (t.tmod 12 != 0) = false by exact bne_eq_false_iff_eq.2 (by omega)) ?_
   refine qI 38 (12 * t.tdiv 12) ?_
   refine qI 39 (t - 12 * t.tdiv 12) ?_
   refine qI 42 (y + a + t.tdiv 12) ?_
   refine st_round (by kernel_rfl) ?_
   refine qN 20 (decide (t - 12 * t.tdiv 12 > 11)) ?_
   refine qN 23 (decide (t - 12 * t.tdiv 12 < 0)) ?_
   refine qI 45 (t - 12 * t.tdiv 12 + 1) ?_
   exact st_retv Tryz.func134 (show Value.agg #[vI64 (y + a + t.tdiv 12), vI64 (t - 12 * t.tdiv 12 + 1), vI64 d] = _ by (refine d_eq ?_ ?_ rfl <;> simp only [lY, lM] <;> omega)) (by kernel_rfl)
  ·refine fn_of Tryz.func134 rfl fun ww => ?_
   refine qI 12 (m - 1) ?_
   refine st_i 14 IntKind.i64 (x := IntKind.i64.wrap (m - 1 + b)) ((Go.IntWalk.i64_in (m - 1 + b) (by omega)).trans (ht)) (by kernel_rfl) ?_
   refine qI 18 (y + a) ?_
   refine st_round (by kernel_rfl) ?_
   refine qN 20 (decide (t > 11)) ?_
   refine qY 23 (decide (t < 0)) ?_
   refine qI 26 (t.tdiv 12) ?_
   refine qY 28 (decide (t < 0)) ?_
   refine qV 32 (show (t.tmod 12 != 0) = true by exact bne_iff_ne.2 (by omega)) ?_
   refine qI 35 (t.tdiv 12 - 1) ?_
   refine qI 38 (12 * (t.tdiv 12 - 1)) ?_
   refine qI 39 (t - 12 * (t.tdiv 12 - 1)) ?_
   refine qI 42 (y + a + (t.tdiv 12 - 1)) ?_
   refine st_round (by kernel_rfl) ?_
   refine qN 20 (decide (t - 12 * (t.tdiv 12 - 1) > 11)) ?_
   refine qN 23 (decide (t - 12 * (t.tdiv 12 - 1) < 0)) ?_
   refine qI 45 (t - 12 * (t.tdiv 12 - 1) + 1) ?_
   exact st_retv Tryz.func134 (show Value.agg #[vI64 (y + a + (t.tdiv 12 - 1)), vI64 (t - 12 * (t.tdiv 12 - 1) + 1), vI64 d] = _ by (refine d_eq ?_ ?_ rfl <;> simp only [lY, lM] <;> omega)) (by kernel_rfl)
end
section
variable (s y m d y' m' d' A B C : Int)
theorem zbey_n (hs : s = 1 ∨ s = -1) (e : cmp3 y' m' d' y m d = s) (k : cmp3 A B C y' m' d' ≠ s) : Fn 157 [] [dv y m d, dv y' m' d', dv A B C] (.bool false) := by
 have k1 := zcmp5 y' m' d' y m d
 rw [e] at k1
 have k2 := zcmp5 A B C y' m' d'
 have tr := cmp3_tri A B C y' m' d'
 generalize cmp3 A B C y' m' d' = u at *
 rcases hs with rfl | rfl
 ·refine fn_of Tryz.func157 rfl fun ww => ?_
  refine qF ent111 (k1) ?_
  refine qF ent111 (k2) ?_
  exact st_retv Tryz.func157 (show Value.bool (decide (u > 0)) = _ by (refine b_eq (decide_eq_false ?_); omega)) (by kernel_rfl)
 ·refine fn_of Tryz.func157 rfl fun ww => ?_
  refine qF ent111 (k1) ?_
  refine qF ent111 (k2) ?_
  exact st_retv Tryz.func157 (show Value.bool (decide (u < 0)) = _ by (refine b_eq (decide_eq_false ?_); omega)) (by kernel_rfl)
theorem zbey_y (hs : s = 1 ∨ s = -1) (e : cmp3 y' m' d' y m d = s) (k : cmp3 A B C y' m' d' = s) : Fn 157 [] [dv y m d, dv y' m' d', dv A B C] (.bool true) := by
 have k1 := zcmp5 y' m' d' y m d
 rw [e] at k1
 have k2 := zcmp5 A B C y' m' d'
 rw [k] at k2
 clear k e
 rcases hs with rfl | rfl
 ·refine fn_of Tryz.func157 rfl fun ww => ?_
  refine qF ent111 (k1) ?_
  refine qF ent111 (k2) ?_
  exact qR Tryz.func157
 ·refine fn_of Tryz.func157 rfl fun ww => ?_
  refine qF ent111 (k1) ?_
  refine qF ent111 (k2) ?_
  exact qR Tryz.func157
theorem zreg_cy (m1 : 1 ≤ m) (m2 : m ≤ 12) (d1 : 1 ≤ d) (k : dOk y m (cD y m d)) : Fn 135 [] [.int .i64 y, .int .i64 m, .int .i64 d, .int .i64 1] (.tuple #[dv y m (cD y m d), .int .i64 0]) := by
 have kc := zmonth y m
 obtain ⟨l, hl⟩ : ∃ l, l = mlen y m := ⟨_, rfl⟩
 have hc : cD y m d = if l < d then l else d := by rw [hl]; rfl
 rw [hc] at k ⊢
 rw [← hl] at kc
 by_cases q : l < d
 ·rw [if_pos q] at k ⊢
  refine fn_of Tryz.func135 rfl fun ww => ?_
  refine qN 41 (decide (m < 1)) ?_
  refine qN 43 (decide (m > 12)) ?_
  refine qN 45 (decide (d < 1)) ?_
  refine qF ent73 (kc) ?_
  refine qY 50 (decide (d > l)) ?_
  refine qF ent73 (kc) ?_
  refine qF ent162 (zright5_yes (y) (m) (l) (by assumption)) ?_
  exact qR Tryz.func135
 ·rw [if_neg q] at k ⊢
  refine fn_of Tryz.func135 rfl fun ww => ?_
  refine qN 41 (decide (m < 1)) ?_
  refine qN 43 (decide (m > 12)) ?_
  refine qN 45 (decide (d < 1)) ?_
  refine qF ent73 (kc) ?_
  refine qN 50 (decide (d > l)) ?_
  refine qF ent162 (zright5_yes (y) (m) (d) (by assumption)) ?_
  exact qR Tryz.func135
end
section
variable (y m d y' m' d' L : Int)
theorem zunt_3 (h : dOk y m d) (h' : dOk y' m' d') : Fn 113 [] [dv y m d, dv y' m' d', .int .i64 3] (.tuple #[duv 0 0 ((dnum y' m' d' - dnum y m d).tdiv 7) ((dnum y' m' d' - dnum y m d).tmod 7) 0 0 0 0, .int .i64 0]) := by
 have ld1 := zdays_yes y m d h
 have ld2 := zdays_yes y' m' d' h'
 have b1 := h.2
 have b2 := h'.2
 generalize dnum y m d = n at *
 generalize dnum y' m' d' = n' at *
 have tt := td (n' - n) 7 (by omega)
 clear h h'
 refine fn_of Tryz.func113 rfl fun ww => ?_
 refine qF ent27 (ld1) ?_
 refine qF ent27 (ld2) ?_
 refine qI 57 (n' - n) ?_
 refine qI 58 ((n' - n).tdiv 7) ?_
 refine qI 61 (n' - n) ?_
 exact qR Tryz.func113
theorem zunt_4 (h : dOk y m d) (h' : dOk y' m' d') : Fn 113 [] [dv y m d, dv y' m' d', .int .i64 4] (.tuple #[duv 0 0 0 (dnum y' m' d' - dnum y m d) 0 0 0 0, .int .i64 0]) := by
 have ld1 := zdays_yes y m d h
 have ld2 := zdays_yes y' m' d' h'
 have b1 := h.2
 have b2 := h'.2
 generalize dnum y m d = n at *
 generalize dnum y' m' d' = n' at *
 clear h h'
 refine fn_of Tryz.func113 rfl fun ww => ?_
 refine qF ent27 (ld1) ?_
 refine qF ent27 (ld2) ?_
 refine qI 51 (n' - n) ?_
 exact qR Tryz.func113
theorem zunt_0 (L : Int) (l : L = 1 ∨ L = 2) (h : dOk y m d) (h' : dOk y' m' d') (e : cmp3 y' m' d' y m d = 0) : Fn 113 [] [dv y m d, dv y' m' d', .int .i64 L] (.tuple #[du0, .int .i64 0]) := by
 have ld1 := zdays_yes y m d h
 have ld2 := zdays_yes y' m' d' h'
 have cc := zcmp5 y' m' d' y m d
 rw [e] at cc
 clear h h' e
 rcases l with rfl | rfl
 ·refine fn_of Tryz.func113 rfl fun ww => ?_
  refine qF ent27 (ld1) ?_
  refine qF ent27 (ld2) ?_
  refine qF ent111 (cc) ?_
  exact qR Tryz.func113
 ·refine fn_of Tryz.func113 rfl fun ww => ?_
  refine qF ent27 (ld1) ?_
  refine qF ent27 (ld2) ?_
  refine qF ent111 (cc) ?_
  exact qR Tryz.func113
theorem sBd {s x n : Int} (hs : s = 1 ∨ s = -1) (h : -n ≤ x ∧ x ≤ n) : -n ≤ s * x ∧ s * x ≤ n := by rcases hs with rfl | rfl <;> omega
theorem mM_gap {s : Int} (hs : s = 1 ∨ s = -1) : mM s y m d y' m' d' ≤ s * (ymi y' m' - ymi y m) ∧ s * (ymi y' m' - ymi y m) ≤ mM s y m d y' m' d' + 1 := by
 rcases hs with rfl | rfl
 ·unfold mM; rw [if_pos rfl]; split <;> omega
 ·unfold mM; rw [if_neg (by omega)]; split <;> omega
theorem zunt_1 (s N T : Int) (h : dOk y m d) (h' : dOk y' m' d') (hs : s = 1 ∨ s = -1) (e : cmp3 y' m' d' y m d = s) (hN : mM s y m d y' m' d' = N) (hT : ymi y m + s * N = T) :
  Fn 113 [] [dv y m d, dv y' m' d', .int .i64 1] (.tuple #[duv (s * (N / 12)) (s * (N - 12 * (N / 12))) 0 (dnum y' m' d' - dnum (lY T) (lM T) (cD (lY T) (lM T) d)) 0 0 0 0, .int .i64 0]) := by
 have ld1 := zdays_yes y m d h
 have ld2 := zdays_yes y' m' d' h'
 have yy := dOk_year h
 have yy' := dOk_year h'
 have n0 := mM_pos h.1.1 h.1.2.1 h'.1.1 h'.1.2.1 hs e
 have n1 := mM_le (y := y) (y' := y') (d := d) (d' := d') h.1.1 h.1.2.1 h'.1.1 h'.1.2.1 hs
 have gp := mM_gap y m d y' m' d' hs
 have fi := fits_iff (s := s) (y := y) (m := m) (d := d) (y' := y') (m' := m') (d' := d') h.1.1 h.1.2.1 h'.1.1 h'.1.2.1 hs
 rw [hN] at n0 n1 gp fi
 have n2 : N ≤ 10000000 := by
  rcases hs with rfl | rfl
  ·rw [if_pos rfl] at n1; omega
  ·rw [if_neg (by omega)] at n1; omega
 have m1 := h.1.1
 have m2 := h.1.2.1
 have m1' := h'.1.1
 have m2' := h'.1.2.1
 obtain ⟨K, hK⟩ : ∃ K, N / 12 = K := ⟨_, rfl⟩
 obtain ⟨M, hM⟩ : ∃ M, N - 12 * K = M := ⟨_, rfl⟩
 have hK2 : 0 ≤ K ∧ 12 * K ≤ N ∧ N < 12 * K + 12 ∧ 0 ≤ M ∧ M ≤ 11 ∧ 12 * K + M = N := by omega
 have la1 : ∀ k : Int, 0 ≤ k → k ≤ 10000000 → Fn 134 [] [dv y m d, .int .i64 (s * (k + 1)), .int .i64 0] (dv (lY (ymi y m + s * (12 * (k + 1)))) (lM (ymi y m + s * (12 * (k + 1)))) d) := fun k k0 k1 =>
  zlater y m d (s * (k + 1)) 0 _ (by unfold ymi; rcases hs with rfl | rfl <;> omega) (by omega) (by omega) m1 m2 (by rcases hs with rfl | rfl <;> omega) (by rcases hs with rfl | rfl <;> omega) (by omega) (by omega)
 have lbn1 : ∀ k : Int, 12 * (k + 1) ≤ N → Fn 157 [] [dv y m d, dv y' m' d', dv (lY (ymi y m + s * (12 * (k + 1)))) (lM (ymi y m + s * (12 * (k + 1)))) d] (.bool false) := fun k q => zbey_n s y m d y' m' d' _ _ _ hs e ((fi _).2 q)
 have lby1 : ∀ k : Int, N < 12 * (k + 1) → Fn 157 [] [dv y m d, dv y' m' d', dv (lY (ymi y m + s * (12 * (k + 1)))) (lM (ymi y m + s * (12 * (k + 1)))) d] (.bool true) := fun k q => zbey_y s y m d y' m' d' _ _ _ hs e (Classical.byContradiction fun z => by have := (fi _).1 z; omega)
 have la2 : Fn 134 [] [dv y m d, .int .i64 (s * K), .int .i64 0] (dv (y + s * K) m d) := by
  have := zlater y m d (s * K) 0 (ymi (y + s * K) m) (by unfold ymi; omega) (by omega) (by omega) m1 m2 (by rcases hs with rfl | rfl <;> omega) (by rcases hs with rfl | rfl <;> omega) (by omega) (by omega)
  rwa [(l_ymi m1 m2).1, (l_ymi m1 m2).2] at this
 have la3 : ∀ k : Int, 0 ≤ k → k ≤ 10000000 → Fn 134 [] [dv y m d, .int .i64 (s * K), .int .i64 (s * (k + 1))] (dv (lY (ymi y m + s * (12 * K + (k + 1)))) (lM (ymi y m + s * (12 * K + (k + 1)))) d) := fun k k0 k1 =>
  zlater y m d (s * K) (s * (k + 1)) _ (by unfold ymi; rcases hs with rfl | rfl <;> omega) (by omega) (by omega) m1 m2 (by rcases hs with rfl | rfl <;> omega) (by rcases hs with rfl | rfl <;> omega) (by rcases hs with rfl | rfl <;> omega) (by rcases hs with rfl | rfl <;> omega)
 have lbn3 : ∀ k : Int, 12 * K + (k + 1) ≤ N → Fn 157 [] [dv y m d, dv y' m' d', dv (lY (ymi y m + s * (12 * K + (k + 1)))) (lM (ymi y m + s * (12 * K + (k + 1)))) d] (.bool false) := fun k q => zbey_n s y m d y' m' d' _ _ _ hs e ((fi _).2 q)
 have lby3 : ∀ k : Int, N < 12 * K + (k + 1) → Fn 157 [] [dv y m d, dv y' m' d', dv (lY (ymi y m + s * (12 * K + (k + 1)))) (lM (ymi y m + s * (12 * K + (k + 1)))) d] (.bool true) := fun k q => zbey_y s y m d y' m' d' _ _ _ hs e (Classical.byContradiction fun z => by have := (fi _).1 z; omega)
 have la4 : Fn 134 [] [dv y m d, .int .i64 (s * K), .int .i64 (s * M)] (dv (lY T) (lM T) d) :=
  zlater y m d (s * K) (s * M) T (by unfold ymi at hT; rcases hs with rfl | rfl <;> omega) (by omega) (by omega) m1 m2 (by rcases hs with rfl | rfl <;> omega) (by rcases hs with rfl | rfl <;> omega) (by rcases hs with rfl | rfl <;> omega) (by rcases hs with rfl | rfl <;> omega)
 have fo := (from_ok h h' hs e).1
 unfold fD' fY' fM' at fo
 rw [hN, hT] at fo
 have lr := zreg_cy (lY T) (lM T) d (ymi_l T).2.1 (ymi_l T).2.2 h.1.2.2.1 fo
 have ld3 := zdays_yes (lY T) (lM T) (cD (lY T) (lM T) d) fo
 have b1 := fo.2
 have b2 := h'.2
 have cc := zcmp5 y' m' d' y m d
 rw [e] at cc
 generalize dnum y' m' d' = n' at *
 generalize dnum (lY T) (lM T) (cD (lY T) (lM T) d) = n'' at *
 obtain ⟨D, hD⟩ : ∃ D, s * (y' - y) = D := ⟨_, rfl⟩
 obtain ⟨D2, hD2⟩ : ∃ D2, s * (12 * (y' - (y + s * K)) + m' - m) = D2 := ⟨_, rfl⟩
 have f1 : 0 ≤ D ∧ D ≤ 1000000 ∧ 12 * (D - 1) ≤ N := by
  unfold ymi at gp
  rcases hs with rfl | rfl <;> omega
 have f2 : N - 12 * K ≤ D2 ∧ D2 ≤ N - 12 * K + 1 := by
  unfold ymi at gp
  rcases hs with rfl | rfl <;> omega
 have sK : -1000000 ≤ s * K ∧ s * K ≤ 1000000 := sBd hs (by omega)
 have sM : -1000000 ≤ s * M ∧ s * M ≤ 1000000 := sBd hs (by omega)
 have sU : ∀ k : Int, 0 ≤ k → k ≤ 100000000 → -1000000000 ≤ s * (k + 1) ∧ s * (k + 1) ≤ 1000000000 := fun k k0 k1 => sBd hs (by omega)
 have s0 : s ≠ 0 := by rcases hs with rfl | rfl <;> omega
 rw [hK, hM]
 clear h h' e hN hT fo n1 gp fi hK hM hs
 by_cases c0 : 0 < D
 ·obtain ⟨k0, hk0⟩ : ∃ k0, D - 1 = k0 := ⟨_, rfl⟩
  by_cases c1 : 0 < D2
  ·obtain ⟨k1, hk1⟩ : ∃ k1, D2 - 1 = k1 := ⟨_, rfl⟩
   refine fn_of Tryz.func113 rfl fun ww => ?_
   refine qF ent27 (ld1) ?_
   refine qF ent27 (ld2) ?_
   refine qF ent111 (cc) ?_
   refine qN 69 (s == 0) ?_
   refine qI 78 (y' - y) ?_
   refine st_i 79 IntKind.i64 (x := IntKind.i64.wrap (s * (y' - y))) ((Go.IntWalk.i64_in (s * (y' - y)) (by omega)).trans (hD)) (by kernel_rfl) ?_
   refine qY 81 (decide (D > 0)) ?_
   refine st_i 83 IntKind.i64 (x := IntKind.i64.wrap (D - 1)) ((Go.IntWalk.i64_in (D - 1) (by omega)).trans (hk0)) (by kernel_rfl) ?_
   refine qG [0,1,2,3,4,5,6,7,8,9,10,11,12,13,14,15,16,17,18,19,20,21,22,23,24,25,26,27,28,29,30,31,32,33,34,35,36,37,38,39,40,41,42,43,44,45,46,47,48,49,50,51,52,53,54,55,56,57,58,59,60,61,62,63,64,65,66,67,68,69,70,71,72,73,74,75,76,77,78,79,80,81,82,83,96,97,98,99,100,101,102,103,104,105,106,107,108,109,110,111,112,113,114,115,116,117,118,119,120,121,122,123,124,125,126,127,128,129,130,131,132,133,134,135,136,137,138,139,140,141,142,143,144,145,146,147,148,149,150,151,152,153,154,155,156,157,158,159,160,161,162,163,164,165] ?_
   refine st_loop (X := Int) (fun x => ([SV.val (Value.agg #[vI64 y,vI64 m,vI64 d]),SV.val (Value.agg #[vI64 y',vI64 m',vI64 d']),SV.val (vI64 1),SV.ptr 0 0,SV.ptr 1 0,svZ,SV.ptr 2 0,SV.val (vI64 0),SV.val (vI64 (dnum y m d)),svT,SV.val (vI64 n'),svT,SV.ptr 3 0,SV.val (vI64 s),.val (.int .i64 x),svZ,svZ,svZ,svZ,svZ,svZ,svZ,SV.val (Value.tuple #[vI64 (dnum y m d),Value.bool true]),SV.val (Value.agg #[vI64 y,vI64 m,vI64 d]),SV.val (Value.tuple #[vI64 (dnum y m d),Value.bool true]),SV.val (vI64 (dnum y m d)),svT,SV.val (Value.tuple #[vI64 n',Value.bool true]),SV.val (Value.agg #[vI64 y',vI64 m',vI64 d']),SV.val (Value.tuple #[vI64 n',Value.bool true]),SV.val (vI64 n'),svT,svT,svF,svF,svT,svF,svF,svF,SV.val (vI64 1),svF,svF,svF,SV.val (vI64 1),svF,svF,svZ,SV.val (vI64 1),svF,svZ,svZ,svZ,svZ,SV.val (vI64 1),svF,svZ,svZ,svZ,svZ,svZ,svZ,svZ,svZ,svZ,SV.val (Value.agg #[vI64 0,vI64 0,vI64 0,vI64 0,vI64 0,vI64 0,vI64 0,vI64 0]),SV.val (Value.agg #[vI64 y',vI64 m',vI64 d']),SV.val (Value.agg #[vI64 y,vI64 m,vI64 d]),SV.val (vI64 s),SV.val (vI64 s),svF,svZ,SV.val (vI64 1),svT,SV.val (vI64 s),SV.ptr 1 0,SV.val (vI64 y'),SV.ptr 0 0,SV.val (vI64 y),SV.val (vI64 (y' - y)),SV.val (vI64 D),SV.val (vI64 D),svT,SV.val (vI64 D),SV.val (vI64 k0),.any,.any,.any,.any,.any,.any,.any,.any,.any,.any,.any,.any,svZ,svZ,svZ,svZ,svZ,svZ,svZ,svZ,svZ,svZ,svZ,svZ,svZ,svZ,svZ,svZ,svZ,svZ,svZ,svZ,svZ,svZ,svZ,svZ,svZ,svZ,svZ,svZ,svZ,svZ,svZ,svZ,svZ,svZ,svZ,svZ,svZ,svZ,svZ,svZ,svZ,svZ,svZ,svZ,svZ,svZ,svZ,svZ,svZ,svZ,svZ,svZ,svZ,svZ,svZ,svZ,svZ,svZ,svZ,svZ,svZ,svZ,svZ,svZ,svZ,svZ,svZ,svZ,svZ,svZ],[⟨[SV.val (vI64 y),SV.val (vI64 m),SV.val (vI64 d)],23⟩,⟨[SV.val (vI64 y'),SV.val (vI64 m'),SV.val (vI64 d')],23⟩,⟨[SV.val (vI64 0),SV.val (vI64 0),SV.val (vI64 0),SV.val (vI64 0),SV.val (vI64 0),SV.val (vI64 0),SV.val (vI64 0),SV.val (vI64 0)],51⟩,⟨[SV.val (vI64 0),SV.val (vI64 0),SV.val (vI64 0),SV.val (vI64 0),SV.val (vI64 0),SV.val (vI64 0),SV.val (vI64 0),SV.val (vI64 0)],51⟩])) (fun _ => _) (fun k => 0 ≤ k ∧ 12 * k ≤ N) (fun k => (N - k).toNat) (k0) (by kernel_rfl) (by kernel_rfl) Sub.refl (by first | omega | (simp; omega) | assumption | simp_all) (fun y0 px0 back0 => ?_)
   ((by_cases q0 : 12 * (y0 + 1) ≤ N) <;> have sU0 := sU y0 (by omega) (by omega) <;> have ek0 : ¬ 12 * (y0 + 1) ≤ N → s * y0 = s * K := fun q => by rw [show y0 = K by omega])
   ·have _hh := True.intro
    refine qI 89 (y0 + 1) ?_
    refine qI 90 (s * (y0 + 1)) ?_
    refine qF ent134 (la1 (y0) (by omega) (by omega)) ?_
    refine qF ent157 (lbn1 (y0) (by assumption)) ?_
    refine qI 95 (y0 + 1) ?_
    refine qG [0,1,2,3,4,5,6,7,8,9,10,11,12,13,14,15,16,17,18,19,20,21,22,23,24,25,26,27,28,29,30,31,32,33,34,35,36,37,38,39,40,41,42,43,44,45,46,47,48,49,50,51,52,53,54,55,56,57,58,59,60,61,62,63,64,65,66,67,68,69,70,71,72,73,74,75,76,77,78,79,80,81,82,83,96,97,98,99,100,101,102,103,104,105,106,107,108,109,110,111,112,113,114,115,116,117,118,119,120,121,122,123,124,125,126,127,128,129,130,131,132,133,134,135,136,137,138,139,140,141,142,143,144,145,146,147,148,149,150,151,152,153,154,155,156,157,158,159,160,161,162,163,164,165] ?_
    exact qB back0 (y0 + 1) (by first | omega | (simp only []; omega) | (simp; omega) | assumption | simp_all)
   ·have _hh := True.intro
    refine qI 89 (y0 + 1) ?_
    refine qI 90 (s * (y0 + 1)) ?_
    refine qF ent134 (la1 (y0) (by omega) (by omega)) ?_
    refine qF ent157 (lby1 (y0) (by omega)) ?_
    refine st_i 98 IntKind.i64 (x := IntKind.i64.wrap (s * y0)) ((Go.IntWalk.i64_in (s * y0) (by omega)).trans ((ek0 q0))) (by kernel_rfl) ?_
    refine qF ent134 (la2) ?_
    refine qI 109 (y' - (y + s * K)) ?_
    refine qI 110 (12 * (y' - (y + s * K))) ?_
    refine qI 113 (12 * (y' - (y + s * K)) + m') ?_
    refine qI 116 (12 * (y' - (y + s * K)) + m' - m) ?_
    refine st_i 117 IntKind.i64 (x := IntKind.i64.wrap (s * (12 * (y' - (y + s * K)) + m' - m))) ((Go.IntWalk.i64_in (s * (12 * (y' - (y + s * K)) + m' - m)) (by omega)).trans (hD2)) (by kernel_rfl) ?_
    refine qY 119 (decide (D2 > 0)) ?_
    refine st_i 121 IntKind.i64 (x := IntKind.i64.wrap (D2 - 1)) ((Go.IntWalk.i64_in (D2 - 1) (by omega)).trans (hk1)) (by kernel_rfl) ?_
    refine qG [0,1,2,3,4,5,6,7,8,9,10,11,12,13,14,15,16,17,18,19,20,21,22,23,24,25,26,27,28,29,30,31,32,33,34,35,36,37,38,39,40,41,42,43,44,45,46,47,48,49,50,51,52,53,54,55,56,57,58,59,60,61,62,63,64,65,66,67,68,69,70,71,72,73,74,75,76,77,78,79,80,81,82,83,84,85,86,87,88,89,90,91,92,93,94,95,96,97,98,99,100,101,102,103,104,105,106,107,108,109,110,111,112,113,114,115,116,117,118,119,120,121,136,137,138,139,140,141,142,143,144,145,146,147,148,149,150,151,152,153,154,155,156,157,158,159,160,161,162,163,164,165] ?_
    refine st_loop (X := Int) (fun x => ([SV.val (Value.agg #[vI64 y,vI64 m,vI64 d]),SV.val (Value.agg #[vI64 y',vI64 m',vI64 d']),SV.val (vI64 1),SV.ptr 0 0,SV.ptr 1 0,svZ,SV.ptr 2 0,SV.val (vI64 0),SV.val (vI64 (dnum y m d)),svT,SV.val (vI64 n'),svT,SV.ptr 3 0,SV.val (vI64 s),SV.val (vI64 y0),SV.ptr 4 0,.val (.int .i64 x),svZ,svZ,svZ,svZ,svZ,SV.val (Value.tuple #[vI64 (dnum y m d),Value.bool true]),SV.val (Value.agg #[vI64 y,vI64 m,vI64 d]),SV.val (Value.tuple #[vI64 (dnum y m d),Value.bool true]),SV.val (vI64 (dnum y m d)),svT,SV.val (Value.tuple #[vI64 n',Value.bool true]),SV.val (Value.agg #[vI64 y',vI64 m',vI64 d']),SV.val (Value.tuple #[vI64 n',Value.bool true]),SV.val (vI64 n'),svT,svT,svF,svF,svT,svF,svF,svF,SV.val (vI64 1),svF,svF,svF,SV.val (vI64 1),svF,svF,svZ,SV.val (vI64 1),svF,svZ,svZ,svZ,svZ,SV.val (vI64 1),svF,svZ,svZ,svZ,svZ,svZ,svZ,svZ,svZ,svZ,SV.val (Value.agg #[vI64 0,vI64 0,vI64 0,vI64 0,vI64 0,vI64 0,vI64 0,vI64 0]),SV.val (Value.agg #[vI64 y',vI64 m',vI64 d']),SV.val (Value.agg #[vI64 y,vI64 m,vI64 d]),SV.val (vI64 s),SV.val (vI64 s),svF,svZ,SV.val (vI64 1),svT,SV.val (vI64 s),SV.ptr 1 0,SV.val (vI64 y'),SV.ptr 0 0,SV.val (vI64 y),SV.val (vI64 (y' - y)),SV.val (vI64 D),SV.val (vI64 D),svT,SV.val (vI64 D),SV.val (vI64 k0),SV.val (Value.agg #[vI64 y,vI64 m,vI64 d]),SV.val (Value.agg #[vI64 y',vI64 m',vI64 d']),SV.val (Value.agg #[vI64 y,vI64 m,vI64 d]),SV.val (vI64 s),SV.val (vI64 y0),SV.val (vI64 (y0 + 1)),SV.val (vI64 (s * (y0 + 1))),SV.val (Value.agg #[vI64 (lY (ymi y m + s * (12 * (y0 + 1)))),vI64 (lM (ymi y m + s * (12 * (y0 + 1)))),vI64 d]),svT,svF,SV.any,SV.any,SV.val (vI64 s),SV.val (vI64 y0),SV.val (vI64 (s * K)),SV.ptr 3 0,SV.val (Value.agg #[vI64 y,vI64 m,vI64 d]),SV.ptr 3 0,SV.val (vI64 (s * K)),SV.val (Value.agg #[vI64 (y + s * K),vI64 m,vI64 d]),SV.val (vI64 s),SV.ptr 1 0,SV.val (vI64 y'),SV.ptr 4 0,SV.val (vI64 (y + s * K)),SV.val (vI64 (y' - (y + s * K))),SV.val (vI64 (12 * (y' - (y + s * K)))),SV.ptr 1 1,SV.val (vI64 m'),SV.val (vI64 (12 * (y' - (y + s * K)) + m')),SV.ptr 4 1,SV.val (vI64 m),SV.val (vI64 (12 * (y' - (y + s * K)) + m' - m)),SV.val (vI64 D2),SV.val (vI64 D2),svT,SV.val (vI64 D2),SV.val (vI64 k1),.any,.any,.any,.any,.any,.any,.any,.any,.any,.any,.any,.any,.any,.any,svZ,svZ,svZ,svZ,svZ,svZ,svZ,svZ,svZ,svZ,svZ,svZ,svZ,svZ,svZ,svZ,svZ,svZ,svZ,svZ,svZ,svZ,svZ,svZ,svZ,svZ,svZ,svZ,svZ,svZ],[⟨[SV.val (vI64 y),SV.val (vI64 m),SV.val (vI64 d)],23⟩,⟨[SV.val (vI64 y'),SV.val (vI64 m'),SV.val (vI64 d')],23⟩,⟨[SV.val (vI64 0),SV.val (vI64 0),SV.val (vI64 0),SV.val (vI64 0),SV.val (vI64 0),SV.val (vI64 0),SV.val (vI64 0),SV.val (vI64 0)],51⟩,⟨[SV.val (vI64 (s * K)),SV.val (vI64 0),SV.val (vI64 0),SV.val (vI64 0),SV.val (vI64 0),SV.val (vI64 0),SV.val (vI64 0),SV.val (vI64 0)],51⟩,⟨[SV.val (vI64 (y + s * K)),SV.val (vI64 m),SV.val (vI64 d)],23⟩])) (fun _ => _) (fun k => 0 ≤ k ∧ 12 * K + k ≤ N) (fun k => (N - k).toNat) (k1) (by kernel_rfl) (by kernel_rfl) Sub.refl (by first | omega | (simp; omega) | assumption | simp_all) (fun y1 px1 back1 => ?_)
    ((by_cases q1 : 12 * K + (y1 + 1) ≤ N) <;> have sU1 := sU y1 (by omega) (by omega) <;> have ek1 : ¬ 12 * K + (y1 + 1) ≤ N → s * y1 = s * M := fun q => by rw [show y1 = M by omega])
    ·have _hh := True.intro
     refine qI 129 (y1 + 1) ?_
     refine qI 130 (s * (y1 + 1)) ?_
     refine qF ent134 (la3 (y1) (by omega) (by omega)) ?_
     refine qF ent157 (lbn3 (y1) (by assumption)) ?_
     refine qI 135 (y1 + 1) ?_
     refine qG [0,1,2,3,4,5,6,7,8,9,10,11,12,13,14,15,16,17,18,19,20,21,22,23,24,25,26,27,28,29,30,31,32,33,34,35,36,37,38,39,40,41,42,43,44,45,46,47,48,49,50,51,52,53,54,55,56,57,58,59,60,61,62,63,64,65,66,67,68,69,70,71,72,73,74,75,76,77,78,79,80,81,82,83,84,85,86,87,88,89,90,91,92,93,94,95,96,97,98,99,100,101,102,103,104,105,106,107,108,109,110,111,112,113,114,115,116,117,118,119,120,121,136,137,138,139,140,141,142,143,144,145,146,147,148,149,150,151,152,153,154,155,156,157,158,159,160,161,162,163,164,165] ?_
     exact qB back1 (y1 + 1) (by first | omega | (simp only []; omega) | (simp; omega) | assumption | simp_all)
    ·have _hh := True.intro
     refine qI 129 (y1 + 1) ?_
     refine qI 130 (s * (y1 + 1)) ?_
     refine qF ent134 (la3 (y1) (by omega) (by omega)) ?_
     refine qF ent157 (lby3 (y1) (by omega)) ?_
     refine st_i 138 IntKind.i64 (x := IntKind.i64.wrap (s * y1)) ((Go.IntWalk.i64_in (s * y1) (by omega)).trans ((ek1 q1))) (by kernel_rfl) ?_
     refine qF ent134 (la4) ?_
     refine qF ent135 (lr) ?_
     refine qF ent27 (ld3) ?_
     refine qI 163 (n' - n'') ?_
     exact qR Tryz.func113
  ·obtain ⟨k1, hk1⟩ : ∃ k1, k1 = D2 := ⟨_, rfl⟩
   refine fn_of Tryz.func113 rfl fun ww => ?_
   refine qF ent27 (ld1) ?_
   refine qF ent27 (ld2) ?_
   refine qF ent111 (cc) ?_
   refine qN 69 (s == 0) ?_
   refine qI 78 (y' - y) ?_
   refine st_i 79 IntKind.i64 (x := IntKind.i64.wrap (s * (y' - y))) ((Go.IntWalk.i64_in (s * (y' - y)) (by omega)).trans (hD)) (by kernel_rfl) ?_
   refine qY 81 (decide (D > 0)) ?_
   refine st_i 83 IntKind.i64 (x := IntKind.i64.wrap (D - 1)) ((Go.IntWalk.i64_in (D - 1) (by omega)).trans (hk0)) (by kernel_rfl) ?_
   refine qG [0,1,2,3,4,5,6,7,8,9,10,11,12,13,14,15,16,17,18,19,20,21,22,23,24,25,26,27,28,29,30,31,32,33,34,35,36,37,38,39,40,41,42,43,44,45,46,47,48,49,50,51,52,53,54,55,56,57,58,59,60,61,62,63,64,65,66,67,68,69,70,71,72,73,74,75,76,77,78,79,80,81,82,83,96,97,98,99,100,101,102,103,104,105,106,107,108,109,110,111,112,113,114,115,116,117,118,119,120,121,122,123,124,125,126,127,128,129,130,131,132,133,134,135,136,137,138,139,140,141,142,143,144,145,146,147,148,149,150,151,152,153,154,155,156,157,158,159,160,161,162,163,164,165] ?_
   refine st_loop (X := Int) (fun x => ([SV.val (Value.agg #[vI64 y,vI64 m,vI64 d]),SV.val (Value.agg #[vI64 y',vI64 m',vI64 d']),SV.val (vI64 1),SV.ptr 0 0,SV.ptr 1 0,svZ,SV.ptr 2 0,SV.val (vI64 0),SV.val (vI64 (dnum y m d)),svT,SV.val (vI64 n'),svT,SV.ptr 3 0,SV.val (vI64 s),.val (.int .i64 x),svZ,svZ,svZ,svZ,svZ,svZ,svZ,SV.val (Value.tuple #[vI64 (dnum y m d),Value.bool true]),SV.val (Value.agg #[vI64 y,vI64 m,vI64 d]),SV.val (Value.tuple #[vI64 (dnum y m d),Value.bool true]),SV.val (vI64 (dnum y m d)),svT,SV.val (Value.tuple #[vI64 n',Value.bool true]),SV.val (Value.agg #[vI64 y',vI64 m',vI64 d']),SV.val (Value.tuple #[vI64 n',Value.bool true]),SV.val (vI64 n'),svT,svT,svF,svF,svT,svF,svF,svF,SV.val (vI64 1),svF,svF,svF,SV.val (vI64 1),svF,svF,svZ,SV.val (vI64 1),svF,svZ,svZ,svZ,svZ,SV.val (vI64 1),svF,svZ,svZ,svZ,svZ,svZ,svZ,svZ,svZ,svZ,SV.val (Value.agg #[vI64 0,vI64 0,vI64 0,vI64 0,vI64 0,vI64 0,vI64 0,vI64 0]),SV.val (Value.agg #[vI64 y',vI64 m',vI64 d']),SV.val (Value.agg #[vI64 y,vI64 m,vI64 d]),SV.val (vI64 s),SV.val (vI64 s),svF,svZ,SV.val (vI64 1),svT,SV.val (vI64 s),SV.ptr 1 0,SV.val (vI64 y'),SV.ptr 0 0,SV.val (vI64 y),SV.val (vI64 (y' - y)),SV.val (vI64 D),SV.val (vI64 D),svT,SV.val (vI64 D),SV.val (vI64 k0),.any,.any,.any,.any,.any,.any,.any,.any,.any,.any,.any,.any,svZ,svZ,svZ,svZ,svZ,svZ,svZ,svZ,svZ,svZ,svZ,svZ,svZ,svZ,svZ,svZ,svZ,svZ,svZ,svZ,svZ,svZ,svZ,svZ,svZ,svZ,svZ,svZ,svZ,svZ,svZ,svZ,svZ,svZ,svZ,svZ,svZ,svZ,svZ,svZ,svZ,svZ,svZ,svZ,svZ,svZ,svZ,svZ,svZ,svZ,svZ,svZ,svZ,svZ,svZ,svZ,svZ,svZ,svZ,svZ,svZ,svZ,svZ,svZ,svZ,svZ,svZ,svZ,svZ,svZ],[⟨[SV.val (vI64 y),SV.val (vI64 m),SV.val (vI64 d)],23⟩,⟨[SV.val (vI64 y'),SV.val (vI64 m'),SV.val (vI64 d')],23⟩,⟨[SV.val (vI64 0),SV.val (vI64 0),SV.val (vI64 0),SV.val (vI64 0),SV.val (vI64 0),SV.val (vI64 0),SV.val (vI64 0),SV.val (vI64 0)],51⟩,⟨[SV.val (vI64 0),SV.val (vI64 0),SV.val (vI64 0),SV.val (vI64 0),SV.val (vI64 0),SV.val (vI64 0),SV.val (vI64 0),SV.val (vI64 0)],51⟩])) (fun _ => _) (fun k => 0 ≤ k ∧ 12 * k ≤ N) (fun k => (N - k).toNat) (k0) (by kernel_rfl) (by kernel_rfl) Sub.refl (by first | omega | (simp; omega) | assumption | simp_all) (fun y0 px0 back0 => ?_)
   ((by_cases q0 : 12 * (y0 + 1) ≤ N) <;> have sU0 := sU y0 (by omega) (by omega) <;> have ek0 : ¬ 12 * (y0 + 1) ≤ N → s * y0 = s * K := fun q => by rw [show y0 = K by omega])
   ·have _hh := True.intro
    refine qI 89 (y0 + 1) ?_
    refine qI 90 (s * (y0 + 1)) ?_
    refine qF ent134 (la1 (y0) (by omega) (by omega)) ?_
    refine qF ent157 (lbn1 (y0) (by assumption)) ?_
    refine qI 95 (y0 + 1) ?_
    refine qG [0,1,2,3,4,5,6,7,8,9,10,11,12,13,14,15,16,17,18,19,20,21,22,23,24,25,26,27,28,29,30,31,32,33,34,35,36,37,38,39,40,41,42,43,44,45,46,47,48,49,50,51,52,53,54,55,56,57,58,59,60,61,62,63,64,65,66,67,68,69,70,71,72,73,74,75,76,77,78,79,80,81,82,83,96,97,98,99,100,101,102,103,104,105,106,107,108,109,110,111,112,113,114,115,116,117,118,119,120,121,122,123,124,125,126,127,128,129,130,131,132,133,134,135,136,137,138,139,140,141,142,143,144,145,146,147,148,149,150,151,152,153,154,155,156,157,158,159,160,161,162,163,164,165] ?_
    exact qB back0 (y0 + 1) (by first | omega | (simp only []; omega) | (simp; omega) | assumption | simp_all)
   ·have _hh := True.intro
    refine qI 89 (y0 + 1) ?_
    refine qI 90 (s * (y0 + 1)) ?_
    refine qF ent134 (la1 (y0) (by omega) (by omega)) ?_
    refine qF ent157 (lby1 (y0) (by omega)) ?_
    refine st_i 98 IntKind.i64 (x := IntKind.i64.wrap (s * y0)) ((Go.IntWalk.i64_in (s * y0) (by omega)).trans ((ek0 q0))) (by kernel_rfl) ?_
    refine qF ent134 (la2) ?_
    refine qI 109 (y' - (y + s * K)) ?_
    refine qI 110 (12 * (y' - (y + s * K))) ?_
    refine qI 113 (12 * (y' - (y + s * K)) + m') ?_
    refine qI 116 (12 * (y' - (y + s * K)) + m' - m) ?_
    refine st_i 117 IntKind.i64 (x := IntKind.i64.wrap (s * (12 * (y' - (y + s * K)) + m' - m))) ((Go.IntWalk.i64_in (s * (12 * (y' - (y + s * K)) + m' - m)) (by omega)).trans ((hD2.trans hk1.symm))) (by kernel_rfl) ?_
    refine qN 119 (decide (k1 > 0)) ?_
    refine qG [0,1,2,3,4,5,6,7,8,9,10,11,12,13,14,15,16,17,18,19,20,21,22,23,24,25,26,27,28,29,30,31,32,33,34,35,36,37,38,39,40,41,42,43,44,45,46,47,48,49,50,51,52,53,54,55,56,57,58,59,60,61,62,63,64,65,66,67,68,69,70,71,72,73,74,75,76,77,78,79,80,81,82,83,84,85,86,87,88,89,90,91,92,93,94,95,96,97,98,99,100,101,102,103,104,105,106,107,108,109,110,111,112,113,114,115,116,117,118,119,120,121,136,137,138,139,140,141,142,143,144,145,146,147,148,149,150,151,152,153,154,155,156,157,158,159,160,161,162,163,164,165] ?_
    refine st_loop (X := Int) (fun x => ([SV.val (Value.agg #[vI64 y,vI64 m,vI64 d]),SV.val (Value.agg #[vI64 y',vI64 m',vI64 d']),SV.val (vI64 1),SV.ptr 0 0,SV.ptr 1 0,svZ,SV.ptr 2 0,SV.val (vI64 0),SV.val (vI64 (dnum y m d)),svT,SV.val (vI64 n'),svT,SV.ptr 3 0,SV.val (vI64 s),SV.val (vI64 y0),SV.ptr 4 0,.val (.int .i64 x),svZ,svZ,svZ,svZ,svZ,SV.val (Value.tuple #[vI64 (dnum y m d),Value.bool true]),SV.val (Value.agg #[vI64 y,vI64 m,vI64 d]),SV.val (Value.tuple #[vI64 (dnum y m d),Value.bool true]),SV.val (vI64 (dnum y m d)),svT,SV.val (Value.tuple #[vI64 n',Value.bool true]),SV.val (Value.agg #[vI64 y',vI64 m',vI64 d']),SV.val (Value.tuple #[vI64 n',Value.bool true]),SV.val (vI64 n'),svT,svT,svF,svF,svT,svF,svF,svF,SV.val (vI64 1),svF,svF,svF,SV.val (vI64 1),svF,svF,svZ,SV.val (vI64 1),svF,svZ,svZ,svZ,svZ,SV.val (vI64 1),svF,svZ,svZ,svZ,svZ,svZ,svZ,svZ,svZ,svZ,SV.val (Value.agg #[vI64 0,vI64 0,vI64 0,vI64 0,vI64 0,vI64 0,vI64 0,vI64 0]),SV.val (Value.agg #[vI64 y',vI64 m',vI64 d']),SV.val (Value.agg #[vI64 y,vI64 m,vI64 d]),SV.val (vI64 s),SV.val (vI64 s),svF,svZ,SV.val (vI64 1),svT,SV.val (vI64 s),SV.ptr 1 0,SV.val (vI64 y'),SV.ptr 0 0,SV.val (vI64 y),SV.val (vI64 (y' - y)),SV.val (vI64 D),SV.val (vI64 D),svT,SV.val (vI64 D),SV.val (vI64 k0),SV.val (Value.agg #[vI64 y,vI64 m,vI64 d]),SV.val (Value.agg #[vI64 y',vI64 m',vI64 d']),SV.val (Value.agg #[vI64 y,vI64 m,vI64 d]),SV.val (vI64 s),SV.val (vI64 y0),SV.val (vI64 (y0 + 1)),SV.val (vI64 (s * (y0 + 1))),SV.val (Value.agg #[vI64 (lY (ymi y m + s * (12 * (y0 + 1)))),vI64 (lM (ymi y m + s * (12 * (y0 + 1)))),vI64 d]),svT,svF,SV.any,SV.any,SV.val (vI64 s),SV.val (vI64 y0),SV.val (vI64 (s * K)),SV.ptr 3 0,SV.val (Value.agg #[vI64 y,vI64 m,vI64 d]),SV.ptr 3 0,SV.val (vI64 (s * K)),SV.val (Value.agg #[vI64 (y + s * K),vI64 m,vI64 d]),SV.val (vI64 s),SV.ptr 1 0,SV.val (vI64 y'),SV.ptr 4 0,SV.val (vI64 (y + s * K)),SV.val (vI64 (y' - (y + s * K))),SV.val (vI64 (12 * (y' - (y + s * K)))),SV.ptr 1 1,SV.val (vI64 m'),SV.val (vI64 (12 * (y' - (y + s * K)) + m')),SV.ptr 4 1,SV.val (vI64 m),SV.val (vI64 (12 * (y' - (y + s * K)) + m' - m)),SV.val (vI64 k1),SV.val (vI64 k1),svF,svZ,svZ,.any,.any,.any,.any,.any,.any,.any,.any,.any,.any,.any,.any,.any,.any,svZ,svZ,svZ,svZ,svZ,svZ,svZ,svZ,svZ,svZ,svZ,svZ,svZ,svZ,svZ,svZ,svZ,svZ,svZ,svZ,svZ,svZ,svZ,svZ,svZ,svZ,svZ,svZ,svZ,svZ],[⟨[SV.val (vI64 y),SV.val (vI64 m),SV.val (vI64 d)],23⟩,⟨[SV.val (vI64 y'),SV.val (vI64 m'),SV.val (vI64 d')],23⟩,⟨[SV.val (vI64 0),SV.val (vI64 0),SV.val (vI64 0),SV.val (vI64 0),SV.val (vI64 0),SV.val (vI64 0),SV.val (vI64 0),SV.val (vI64 0)],51⟩,⟨[SV.val (vI64 (s * K)),SV.val (vI64 0),SV.val (vI64 0),SV.val (vI64 0),SV.val (vI64 0),SV.val (vI64 0),SV.val (vI64 0),SV.val (vI64 0)],51⟩,⟨[SV.val (vI64 (y + s * K)),SV.val (vI64 m),SV.val (vI64 d)],23⟩])) (fun _ => _) (fun k => 0 ≤ k ∧ 12 * K + k ≤ N) (fun k => (N - k).toNat) (k1) (by kernel_rfl) (by kernel_rfl) Sub.refl (by first | omega | (simp; omega) | assumption | simp_all) (fun y1 px1 back1 => ?_)
    ((by_cases q1 : 12 * K + (y1 + 1) ≤ N) <;> have sU1 := sU y1 (by omega) (by omega) <;> have ek1 : ¬ 12 * K + (y1 + 1) ≤ N → s * y1 = s * M := fun q => by rw [show y1 = M by omega])
    ·have _hh := True.intro
     refine qI 129 (y1 + 1) ?_
     refine qI 130 (s * (y1 + 1)) ?_
     refine qF ent134 (la3 (y1) (by omega) (by omega)) ?_
     refine qF ent157 (lbn3 (y1) (by assumption)) ?_
     refine qI 135 (y1 + 1) ?_
     refine qG [0,1,2,3,4,5,6,7,8,9,10,11,12,13,14,15,16,17,18,19,20,21,22,23,24,25,26,27,28,29,30,31,32,33,34,35,36,37,38,39,40,41,42,43,44,45,46,47,48,49,50,51,52,53,54,55,56,57,58,59,60,61,62,63,64,65,66,67,68,69,70,71,72,73,74,75,76,77,78,79,80,81,82,83,84,85,86,87,88,89,90,91,92,93,94,95,96,97,98,99,100,101,102,103,104,105,106,107,108,109,110,111,112,113,114,115,116,117,118,119,120,121,136,137,138,139,140,141,142,143,144,145,146,147,148,149,150,151,152,153,154,155,156,157,158,159,160,161,162,163,164,165] ?_
     exact qB back1 (y1 + 1) (by first | omega | (simp only []; omega) | (simp; omega) | assumption | simp_all)
    ·have _hh := True.intro
     refine qI 129 (y1 + 1) ?_
     refine qI 130 (s * (y1 + 1)) ?_
     refine qF ent134 (la3 (y1) (by omega) (by omega)) ?_
     refine qF ent157 (lby3 (y1) (by omega)) ?_
     refine st_i 138 IntKind.i64 (x := IntKind.i64.wrap (s * y1)) ((Go.IntWalk.i64_in (s * y1) (by omega)).trans ((ek1 q1))) (by kernel_rfl) ?_
     refine qF ent134 (la4) ?_
     refine qF ent135 (lr) ?_
     refine qF ent27 (ld3) ?_
     refine qI 163 (n' - n'') ?_
     exact qR Tryz.func113
 ·obtain ⟨k0, hk0⟩ : ∃ k0, k0 = D := ⟨_, rfl⟩
  by_cases c1 : 0 < D2
  ·obtain ⟨k1, hk1⟩ : ∃ k1, D2 - 1 = k1 := ⟨_, rfl⟩
   refine fn_of Tryz.func113 rfl fun ww => ?_
   refine qF ent27 (ld1) ?_
   refine qF ent27 (ld2) ?_
   refine qF ent111 (cc) ?_
   refine qN 69 (s == 0) ?_
   refine qI 78 (y' - y) ?_
   refine st_i 79 IntKind.i64 (x := IntKind.i64.wrap (s * (y' - y))) ((Go.IntWalk.i64_in (s * (y' - y)) (by omega)).trans ((hD.trans hk0.symm))) (by kernel_rfl) ?_
   refine qN 81 (decide (k0 > 0)) ?_
   refine qG [0,1,2,3,4,5,6,7,8,9,10,11,12,13,14,15,16,17,18,19,20,21,22,23,24,25,26,27,28,29,30,31,32,33,34,35,36,37,38,39,40,41,42,43,44,45,46,47,48,49,50,51,52,53,54,55,56,57,58,59,60,61,62,63,64,65,66,67,68,69,70,71,72,73,74,75,76,77,78,79,80,81,82,83,96,97,98,99,100,101,102,103,104,105,106,107,108,109,110,111,112,113,114,115,116,117,118,119,120,121,122,123,124,125,126,127,128,129,130,131,132,133,134,135,136,137,138,139,140,141,142,143,144,145,146,147,148,149,150,151,152,153,154,155,156,157,158,159,160,161,162,163,164,165] ?_
   refine st_loop (X := Int) (fun x => ([SV.val (Value.agg #[vI64 y,vI64 m,vI64 d]),SV.val (Value.agg #[vI64 y',vI64 m',vI64 d']),SV.val (vI64 1),SV.ptr 0 0,SV.ptr 1 0,svZ,SV.ptr 2 0,SV.val (vI64 0),SV.val (vI64 (dnum y m d)),svT,SV.val (vI64 n'),svT,SV.ptr 3 0,SV.val (vI64 s),.val (.int .i64 x),svZ,svZ,svZ,svZ,svZ,svZ,svZ,SV.val (Value.tuple #[vI64 (dnum y m d),Value.bool true]),SV.val (Value.agg #[vI64 y,vI64 m,vI64 d]),SV.val (Value.tuple #[vI64 (dnum y m d),Value.bool true]),SV.val (vI64 (dnum y m d)),svT,SV.val (Value.tuple #[vI64 n',Value.bool true]),SV.val (Value.agg #[vI64 y',vI64 m',vI64 d']),SV.val (Value.tuple #[vI64 n',Value.bool true]),SV.val (vI64 n'),svT,svT,svF,svF,svT,svF,svF,svF,SV.val (vI64 1),svF,svF,svF,SV.val (vI64 1),svF,svF,svZ,SV.val (vI64 1),svF,svZ,svZ,svZ,svZ,SV.val (vI64 1),svF,svZ,svZ,svZ,svZ,svZ,svZ,svZ,svZ,svZ,SV.val (Value.agg #[vI64 0,vI64 0,vI64 0,vI64 0,vI64 0,vI64 0,vI64 0,vI64 0]),SV.val (Value.agg #[vI64 y',vI64 m',vI64 d']),SV.val (Value.agg #[vI64 y,vI64 m,vI64 d]),SV.val (vI64 s),SV.val (vI64 s),svF,svZ,SV.val (vI64 1),svT,SV.val (vI64 s),SV.ptr 1 0,SV.val (vI64 y'),SV.ptr 0 0,SV.val (vI64 y),SV.val (vI64 (y' - y)),SV.val (vI64 k0),SV.val (vI64 k0),svF,svZ,svZ,.any,.any,.any,.any,.any,.any,.any,.any,.any,.any,.any,.any,svZ,svZ,svZ,svZ,svZ,svZ,svZ,svZ,svZ,svZ,svZ,svZ,svZ,svZ,svZ,svZ,svZ,svZ,svZ,svZ,svZ,svZ,svZ,svZ,svZ,svZ,svZ,svZ,svZ,svZ,svZ,svZ,svZ,svZ,svZ,svZ,svZ,svZ,svZ,svZ,svZ,svZ,svZ,svZ,svZ,svZ,svZ,svZ,svZ,svZ,svZ,svZ,svZ,svZ,svZ,svZ,svZ,svZ,svZ,svZ,svZ,svZ,svZ,svZ,svZ,svZ,svZ,svZ,svZ,svZ],[⟨[SV.val (vI64 y),SV.val (vI64 m),SV.val (vI64 d)],23⟩,⟨[SV.val (vI64 y'),SV.val (vI64 m'),SV.val (vI64 d')],23⟩,⟨[SV.val (vI64 0),SV.val (vI64 0),SV.val (vI64 0),SV.val (vI64 0),SV.val (vI64 0),SV.val (vI64 0),SV.val (vI64 0),SV.val (vI64 0)],51⟩,⟨[SV.val (vI64 0),SV.val (vI64 0),SV.val (vI64 0),SV.val (vI64 0),SV.val (vI64 0),SV.val (vI64 0),SV.val (vI64 0),SV.val (vI64 0)],51⟩])) (fun _ => _) (fun k => 0 ≤ k ∧ 12 * k ≤ N) (fun k => (N - k).toNat) (k0) (by kernel_rfl) (by kernel_rfl) Sub.refl (by first | omega | (simp; omega) | assumption | simp_all) (fun y0 px0 back0 => ?_)
   ((by_cases q0 : 12 * (y0 + 1) ≤ N) <;> have sU0 := sU y0 (by omega) (by omega) <;> have ek0 : ¬ 12 * (y0 + 1) ≤ N → s * y0 = s * K := fun q => by rw [show y0 = K by omega])
   ·have _hh := True.intro
    refine qI 89 (y0 + 1) ?_
    refine qI 90 (s * (y0 + 1)) ?_
    refine qF ent134 (la1 (y0) (by omega) (by omega)) ?_
    refine qF ent157 (lbn1 (y0) (by assumption)) ?_
    refine qI 95 (y0 + 1) ?_
    refine qG [0,1,2,3,4,5,6,7,8,9,10,11,12,13,14,15,16,17,18,19,20,21,22,23,24,25,26,27,28,29,30,31,32,33,34,35,36,37,38,39,40,41,42,43,44,45,46,47,48,49,50,51,52,53,54,55,56,57,58,59,60,61,62,63,64,65,66,67,68,69,70,71,72,73,74,75,76,77,78,79,80,81,82,83,96,97,98,99,100,101,102,103,104,105,106,107,108,109,110,111,112,113,114,115,116,117,118,119,120,121,122,123,124,125,126,127,128,129,130,131,132,133,134,135,136,137,138,139,140,141,142,143,144,145,146,147,148,149,150,151,152,153,154,155,156,157,158,159,160,161,162,163,164,165] ?_
    exact qB back0 (y0 + 1) (by first | omega | (simp only []; omega) | (simp; omega) | assumption | simp_all)
   ·have _hh := True.intro
    refine qI 89 (y0 + 1) ?_
    refine qI 90 (s * (y0 + 1)) ?_
    refine qF ent134 (la1 (y0) (by omega) (by omega)) ?_
    refine qF ent157 (lby1 (y0) (by omega)) ?_
    refine st_i 98 IntKind.i64 (x := IntKind.i64.wrap (s * y0)) ((Go.IntWalk.i64_in (s * y0) (by omega)).trans ((ek0 q0))) (by kernel_rfl) ?_
    refine qF ent134 (la2) ?_
    refine qI 109 (y' - (y + s * K)) ?_
    refine qI 110 (12 * (y' - (y + s * K))) ?_
    refine qI 113 (12 * (y' - (y + s * K)) + m') ?_
    refine qI 116 (12 * (y' - (y + s * K)) + m' - m) ?_
    refine st_i 117 IntKind.i64 (x := IntKind.i64.wrap (s * (12 * (y' - (y + s * K)) + m' - m))) ((Go.IntWalk.i64_in (s * (12 * (y' - (y + s * K)) + m' - m)) (by omega)).trans (hD2)) (by kernel_rfl) ?_
    refine qY 119 (decide (D2 > 0)) ?_
    refine st_i 121 IntKind.i64 (x := IntKind.i64.wrap (D2 - 1)) ((Go.IntWalk.i64_in (D2 - 1) (by omega)).trans (hk1)) (by kernel_rfl) ?_
    refine qG [0,1,2,3,4,5,6,7,8,9,10,11,12,13,14,15,16,17,18,19,20,21,22,23,24,25,26,27,28,29,30,31,32,33,34,35,36,37,38,39,40,41,42,43,44,45,46,47,48,49,50,51,52,53,54,55,56,57,58,59,60,61,62,63,64,65,66,67,68,69,70,71,72,73,74,75,76,77,78,79,80,81,82,83,84,85,86,87,88,89,90,91,92,93,94,95,96,97,98,99,100,101,102,103,104,105,106,107,108,109,110,111,112,113,114,115,116,117,118,119,120,121,136,137,138,139,140,141,142,143,144,145,146,147,148,149,150,151,152,153,154,155,156,157,158,159,160,161,162,163,164,165] ?_
    refine st_loop (X := Int) (fun x => ([SV.val (Value.agg #[vI64 y,vI64 m,vI64 d]),SV.val (Value.agg #[vI64 y',vI64 m',vI64 d']),SV.val (vI64 1),SV.ptr 0 0,SV.ptr 1 0,svZ,SV.ptr 2 0,SV.val (vI64 0),SV.val (vI64 (dnum y m d)),svT,SV.val (vI64 n'),svT,SV.ptr 3 0,SV.val (vI64 s),SV.val (vI64 y0),SV.ptr 4 0,.val (.int .i64 x),svZ,svZ,svZ,svZ,svZ,SV.val (Value.tuple #[vI64 (dnum y m d),Value.bool true]),SV.val (Value.agg #[vI64 y,vI64 m,vI64 d]),SV.val (Value.tuple #[vI64 (dnum y m d),Value.bool true]),SV.val (vI64 (dnum y m d)),svT,SV.val (Value.tuple #[vI64 n',Value.bool true]),SV.val (Value.agg #[vI64 y',vI64 m',vI64 d']),SV.val (Value.tuple #[vI64 n',Value.bool true]),SV.val (vI64 n'),svT,svT,svF,svF,svT,svF,svF,svF,SV.val (vI64 1),svF,svF,svF,SV.val (vI64 1),svF,svF,svZ,SV.val (vI64 1),svF,svZ,svZ,svZ,svZ,SV.val (vI64 1),svF,svZ,svZ,svZ,svZ,svZ,svZ,svZ,svZ,svZ,SV.val (Value.agg #[vI64 0,vI64 0,vI64 0,vI64 0,vI64 0,vI64 0,vI64 0,vI64 0]),SV.val (Value.agg #[vI64 y',vI64 m',vI64 d']),SV.val (Value.agg #[vI64 y,vI64 m,vI64 d]),SV.val (vI64 s),SV.val (vI64 s),svF,svZ,SV.val (vI64 1),svT,SV.val (vI64 s),SV.ptr 1 0,SV.val (vI64 y'),SV.ptr 0 0,SV.val (vI64 y),SV.val (vI64 (y' - y)),SV.val (vI64 k0),SV.val (vI64 k0),svF,svZ,svZ,SV.val (Value.agg #[vI64 y,vI64 m,vI64 d]),SV.val (Value.agg #[vI64 y',vI64 m',vI64 d']),SV.val (Value.agg #[vI64 y,vI64 m,vI64 d]),SV.val (vI64 s),SV.val (vI64 y0),SV.val (vI64 (y0 + 1)),SV.val (vI64 (s * (y0 + 1))),SV.val (Value.agg #[vI64 (lY (ymi y m + s * (12 * (y0 + 1)))),vI64 (lM (ymi y m + s * (12 * (y0 + 1)))),vI64 d]),svT,svF,SV.any,SV.any,SV.val (vI64 s),SV.val (vI64 y0),SV.val (vI64 (s * K)),SV.ptr 3 0,SV.val (Value.agg #[vI64 y,vI64 m,vI64 d]),SV.ptr 3 0,SV.val (vI64 (s * K)),SV.val (Value.agg #[vI64 (y + s * K),vI64 m,vI64 d]),SV.val (vI64 s),SV.ptr 1 0,SV.val (vI64 y'),SV.ptr 4 0,SV.val (vI64 (y + s * K)),SV.val (vI64 (y' - (y + s * K))),SV.val (vI64 (12 * (y' - (y + s * K)))),SV.ptr 1 1,SV.val (vI64 m'),SV.val (vI64 (12 * (y' - (y + s * K)) + m')),SV.ptr 4 1,SV.val (vI64 m),SV.val (vI64 (12 * (y' - (y + s * K)) + m' - m)),SV.val (vI64 D2),SV.val (vI64 D2),svT,SV.val (vI64 D2),SV.val (vI64 k1),.any,.any,.any,.any,.any,.any,.any,.any,.any,.any,.any,.any,.any,.any,svZ,svZ,svZ,svZ,svZ,svZ,svZ,svZ,svZ,svZ,svZ,svZ,svZ,svZ,svZ,svZ,svZ,svZ,svZ,svZ,svZ,svZ,svZ,svZ,svZ,svZ,svZ,svZ,svZ,svZ],[⟨[SV.val (vI64 y),SV.val (vI64 m),SV.val (vI64 d)],23⟩,⟨[SV.val (vI64 y'),SV.val (vI64 m'),SV.val (vI64 d')],23⟩,⟨[SV.val (vI64 0),SV.val (vI64 0),SV.val (vI64 0),SV.val (vI64 0),SV.val (vI64 0),SV.val (vI64 0),SV.val (vI64 0),SV.val (vI64 0)],51⟩,⟨[SV.val (vI64 (s * K)),SV.val (vI64 0),SV.val (vI64 0),SV.val (vI64 0),SV.val (vI64 0),SV.val (vI64 0),SV.val (vI64 0),SV.val (vI64 0)],51⟩,⟨[SV.val (vI64 (y + s * K)),SV.val (vI64 m),SV.val (vI64 d)],23⟩])) (fun _ => _) (fun k => 0 ≤ k ∧ 12 * K + k ≤ N) (fun k => (N - k).toNat) (k1) (by kernel_rfl) (by kernel_rfl) Sub.refl (by first | omega | (simp; omega) | assumption | simp_all) (fun y1 px1 back1 => ?_)
    ((by_cases q1 : 12 * K + (y1 + 1) ≤ N) <;> have sU1 := sU y1 (by omega) (by omega) <;> have ek1 : ¬ 12 * K + (y1 + 1) ≤ N → s * y1 = s * M := fun q => by rw [show y1 = M by omega])
    ·have _hh := True.intro
     refine qI 129 (y1 + 1) ?_
     refine qI 130 (s * (y1 + 1)) ?_
     refine qF ent134 (la3 (y1) (by omega) (by omega)) ?_
     refine qF ent157 (lbn3 (y1) (by assumption)) ?_
     refine qI 135 (y1 + 1) ?_
     refine qG [0,1,2,3,4,5,6,7,8,9,10,11,12,13,14,15,16,17,18,19,20,21,22,23,24,25,26,27,28,29,30,31,32,33,34,35,36,37,38,39,40,41,42,43,44,45,46,47,48,49,50,51,52,53,54,55,56,57,58,59,60,61,62,63,64,65,66,67,68,69,70,71,72,73,74,75,76,77,78,79,80,81,82,83,84,85,86,87,88,89,90,91,92,93,94,95,96,97,98,99,100,101,102,103,104,105,106,107,108,109,110,111,112,113,114,115,116,117,118,119,120,121,136,137,138,139,140,141,142,143,144,145,146,147,148,149,150,151,152,153,154,155,156,157,158,159,160,161,162,163,164,165] ?_
     exact qB back1 (y1 + 1) (by first | omega | (simp only []; omega) | (simp; omega) | assumption | simp_all)
    ·have _hh := True.intro
     refine qI 129 (y1 + 1) ?_
     refine qI 130 (s * (y1 + 1)) ?_
     refine qF ent134 (la3 (y1) (by omega) (by omega)) ?_
     refine qF ent157 (lby3 (y1) (by omega)) ?_
     refine st_i 138 IntKind.i64 (x := IntKind.i64.wrap (s * y1)) ((Go.IntWalk.i64_in (s * y1) (by omega)).trans ((ek1 q1))) (by kernel_rfl) ?_
     refine qF ent134 (la4) ?_
     refine qF ent135 (lr) ?_
     refine qF ent27 (ld3) ?_
     refine qI 163 (n' - n'') ?_
     exact qR Tryz.func113
  ·obtain ⟨k1, hk1⟩ : ∃ k1, k1 = D2 := ⟨_, rfl⟩
   refine fn_of Tryz.func113 rfl fun ww => ?_
   refine qF ent27 (ld1) ?_
   refine qF ent27 (ld2) ?_
   refine qF ent111 (cc) ?_
   refine qN 69 (s == 0) ?_
   refine qI 78 (y' - y) ?_
   refine st_i 79 IntKind.i64 (x := IntKind.i64.wrap (s * (y' - y))) ((Go.IntWalk.i64_in (s * (y' - y)) (by omega)).trans ((hD.trans hk0.symm))) (by kernel_rfl) ?_
   refine qN 81 (decide (k0 > 0)) ?_
   refine qG [0,1,2,3,4,5,6,7,8,9,10,11,12,13,14,15,16,17,18,19,20,21,22,23,24,25,26,27,28,29,30,31,32,33,34,35,36,37,38,39,40,41,42,43,44,45,46,47,48,49,50,51,52,53,54,55,56,57,58,59,60,61,62,63,64,65,66,67,68,69,70,71,72,73,74,75,76,77,78,79,80,81,82,83,96,97,98,99,100,101,102,103,104,105,106,107,108,109,110,111,112,113,114,115,116,117,118,119,120,121,122,123,124,125,126,127,128,129,130,131,132,133,134,135,136,137,138,139,140,141,142,143,144,145,146,147,148,149,150,151,152,153,154,155,156,157,158,159,160,161,162,163,164,165] ?_
   refine st_loop (X := Int) (fun x => ([SV.val (Value.agg #[vI64 y,vI64 m,vI64 d]),SV.val (Value.agg #[vI64 y',vI64 m',vI64 d']),SV.val (vI64 1),SV.ptr 0 0,SV.ptr 1 0,svZ,SV.ptr 2 0,SV.val (vI64 0),SV.val (vI64 (dnum y m d)),svT,SV.val (vI64 n'),svT,SV.ptr 3 0,SV.val (vI64 s),.val (.int .i64 x),svZ,svZ,svZ,svZ,svZ,svZ,svZ,SV.val (Value.tuple #[vI64 (dnum y m d),Value.bool true]),SV.val (Value.agg #[vI64 y,vI64 m,vI64 d]),SV.val (Value.tuple #[vI64 (dnum y m d),Value.bool true]),SV.val (vI64 (dnum y m d)),svT,SV.val (Value.tuple #[vI64 n',Value.bool true]),SV.val (Value.agg #[vI64 y',vI64 m',vI64 d']),SV.val (Value.tuple #[vI64 n',Value.bool true]),SV.val (vI64 n'),svT,svT,svF,svF,svT,svF,svF,svF,SV.val (vI64 1),svF,svF,svF,SV.val (vI64 1),svF,svF,svZ,SV.val (vI64 1),svF,svZ,svZ,svZ,svZ,SV.val (vI64 1),svF,svZ,svZ,svZ,svZ,svZ,svZ,svZ,svZ,svZ,SV.val (Value.agg #[vI64 0,vI64 0,vI64 0,vI64 0,vI64 0,vI64 0,vI64 0,vI64 0]),SV.val (Value.agg #[vI64 y',vI64 m',vI64 d']),SV.val (Value.agg #[vI64 y,vI64 m,vI64 d]),SV.val (vI64 s),SV.val (vI64 s),svF,svZ,SV.val (vI64 1),svT,SV.val (vI64 s),SV.ptr 1 0,SV.val (vI64 y'),SV.ptr 0 0,SV.val (vI64 y),SV.val (vI64 (y' - y)),SV.val (vI64 k0),SV.val (vI64 k0),svF,svZ,svZ,.any,.any,.any,.any,.any,.any,.any,.any,.any,.any,.any,.any,svZ,svZ,svZ,svZ,svZ,svZ,svZ,svZ,svZ,svZ,svZ,svZ,svZ,svZ,svZ,svZ,svZ,svZ,svZ,svZ,svZ,svZ,svZ,svZ,svZ,svZ,svZ,svZ,svZ,svZ,svZ,svZ,svZ,svZ,svZ,svZ,svZ,svZ,svZ,svZ,svZ,svZ,svZ,svZ,svZ,svZ,svZ,svZ,svZ,svZ,svZ,svZ,svZ,svZ,svZ,svZ,svZ,svZ,svZ,svZ,svZ,svZ,svZ,svZ,svZ,svZ,svZ,svZ,svZ,svZ],[⟨[SV.val (vI64 y),SV.val (vI64 m),SV.val (vI64 d)],23⟩,⟨[SV.val (vI64 y'),SV.val (vI64 m'),SV.val (vI64 d')],23⟩,⟨[SV.val (vI64 0),SV.val (vI64 0),SV.val (vI64 0),SV.val (vI64 0),SV.val (vI64 0),SV.val (vI64 0),SV.val (vI64 0),SV.val (vI64 0)],51⟩,⟨[SV.val (vI64 0),SV.val (vI64 0),SV.val (vI64 0),SV.val (vI64 0),SV.val (vI64 0),SV.val (vI64 0),SV.val (vI64 0),SV.val (vI64 0)],51⟩])) (fun _ => _) (fun k => 0 ≤ k ∧ 12 * k ≤ N) (fun k => (N - k).toNat) (k0) (by kernel_rfl) (by kernel_rfl) Sub.refl (by first | omega | (simp; omega) | assumption | simp_all) (fun y0 px0 back0 => ?_)
   ((by_cases q0 : 12 * (y0 + 1) ≤ N) <;> have sU0 := sU y0 (by omega) (by omega) <;> have ek0 : ¬ 12 * (y0 + 1) ≤ N → s * y0 = s * K := fun q => by rw [show y0 = K by omega])
   ·have _hh := True.intro
    refine qI 89 (y0 + 1) ?_
    refine qI 90 (s * (y0 + 1)) ?_
    refine qF ent134 (la1 (y0) (by omega) (by omega)) ?_
    refine qF ent157 (lbn1 (y0) (by assumption)) ?_
    refine qI 95 (y0 + 1) ?_
    refine qG [0,1,2,3,4,5,6,7,8,9,10,11,12,13,14,15,16,17,18,19,20,21,22,23,24,25,26,27,28,29,30,31,32,33,34,35,36,37,38,39,40,41,42,43,44,45,46,47,48,49,50,51,52,53,54,55,56,57,58,59,60,61,62,63,64,65,66,67,68,69,70,71,72,73,74,75,76,77,78,79,80,81,82,83,96,97,98,99,100,101,102,103,104,105,106,107,108,109,110,111,112,113,114,115,116,117,118,119,120,121,122,123,124,125,126,127,128,129,130,131,132,133,134,135,136,137,138,139,140,141,142,143,144,145,146,147,148,149,150,151,152,153,154,155,156,157,158,159,160,161,162,163,164,165] ?_
    exact qB back0 (y0 + 1) (by first | omega | (simp only []; omega) | (simp; omega) | assumption | simp_all)
   ·have _hh := True.intro
    refine qI 89 (y0 + 1) ?_
    refine qI 90 (s * (y0 + 1)) ?_
    refine qF ent134 (la1 (y0) (by omega) (by omega)) ?_
    refine qF ent157 (lby1 (y0) (by omega)) ?_
    refine st_i 98 IntKind.i64 (x := IntKind.i64.wrap (s * y0)) ((Go.IntWalk.i64_in (s * y0) (by omega)).trans ((ek0 q0))) (by kernel_rfl) ?_
    refine qF ent134 (la2) ?_
    refine qI 109 (y' - (y + s * K)) ?_
    refine qI 110 (12 * (y' - (y + s * K))) ?_
    refine qI 113 (12 * (y' - (y + s * K)) + m') ?_
    refine qI 116 (12 * (y' - (y + s * K)) + m' - m) ?_
    refine st_i 117 IntKind.i64 (x := IntKind.i64.wrap (s * (12 * (y' - (y + s * K)) + m' - m))) ((Go.IntWalk.i64_in (s * (12 * (y' - (y + s * K)) + m' - m)) (by omega)).trans ((hD2.trans hk1.symm))) (by kernel_rfl) ?_
    refine qN 119 (decide (k1 > 0)) ?_
    refine qG [0,1,2,3,4,5,6,7,8,9,10,11,12,13,14,15,16,17,18,19,20,21,22,23,24,25,26,27,28,29,30,31,32,33,34,35,36,37,38,39,40,41,42,43,44,45,46,47,48,49,50,51,52,53,54,55,56,57,58,59,60,61,62,63,64,65,66,67,68,69,70,71,72,73,74,75,76,77,78,79,80,81,82,83,84,85,86,87,88,89,90,91,92,93,94,95,96,97,98,99,100,101,102,103,104,105,106,107,108,109,110,111,112,113,114,115,116,117,118,119,120,121,136,137,138,139,140,141,142,143,144,145,146,147,148,149,150,151,152,153,154,155,156,157,158,159,160,161,162,163,164,165] ?_
    refine st_loop (X := Int) (fun x => ([SV.val (Value.agg #[vI64 y,vI64 m,vI64 d]),SV.val (Value.agg #[vI64 y',vI64 m',vI64 d']),SV.val (vI64 1),SV.ptr 0 0,SV.ptr 1 0,svZ,SV.ptr 2 0,SV.val (vI64 0),SV.val (vI64 (dnum y m d)),svT,SV.val (vI64 n'),svT,SV.ptr 3 0,SV.val (vI64 s),SV.val (vI64 y0),SV.ptr 4 0,.val (.int .i64 x),svZ,svZ,svZ,svZ,svZ,SV.val (Value.tuple #[vI64 (dnum y m d),Value.bool true]),SV.val (Value.agg #[vI64 y,vI64 m,vI64 d]),SV.val (Value.tuple #[vI64 (dnum y m d),Value.bool true]),SV.val (vI64 (dnum y m d)),svT,SV.val (Value.tuple #[vI64 n',Value.bool true]),SV.val (Value.agg #[vI64 y',vI64 m',vI64 d']),SV.val (Value.tuple #[vI64 n',Value.bool true]),SV.val (vI64 n'),svT,svT,svF,svF,svT,svF,svF,svF,SV.val (vI64 1),svF,svF,svF,SV.val (vI64 1),svF,svF,svZ,SV.val (vI64 1),svF,svZ,svZ,svZ,svZ,SV.val (vI64 1),svF,svZ,svZ,svZ,svZ,svZ,svZ,svZ,svZ,svZ,SV.val (Value.agg #[vI64 0,vI64 0,vI64 0,vI64 0,vI64 0,vI64 0,vI64 0,vI64 0]),SV.val (Value.agg #[vI64 y',vI64 m',vI64 d']),SV.val (Value.agg #[vI64 y,vI64 m,vI64 d]),SV.val (vI64 s),SV.val (vI64 s),svF,svZ,SV.val (vI64 1),svT,SV.val (vI64 s),SV.ptr 1 0,SV.val (vI64 y'),SV.ptr 0 0,SV.val (vI64 y),SV.val (vI64 (y' - y)),SV.val (vI64 k0),SV.val (vI64 k0),svF,svZ,svZ,SV.val (Value.agg #[vI64 y,vI64 m,vI64 d]),SV.val (Value.agg #[vI64 y',vI64 m',vI64 d']),SV.val (Value.agg #[vI64 y,vI64 m,vI64 d]),SV.val (vI64 s),SV.val (vI64 y0),SV.val (vI64 (y0 + 1)),SV.val (vI64 (s * (y0 + 1))),SV.val (Value.agg #[vI64 (lY (ymi y m + s * (12 * (y0 + 1)))),vI64 (lM (ymi y m + s * (12 * (y0 + 1)))),vI64 d]),svT,svF,SV.any,SV.any,SV.val (vI64 s),SV.val (vI64 y0),SV.val (vI64 (s * K)),SV.ptr 3 0,SV.val (Value.agg #[vI64 y,vI64 m,vI64 d]),SV.ptr 3 0,SV.val (vI64 (s * K)),SV.val (Value.agg #[vI64 (y + s * K),vI64 m,vI64 d]),SV.val (vI64 s),SV.ptr 1 0,SV.val (vI64 y'),SV.ptr 4 0,SV.val (vI64 (y + s * K)),SV.val (vI64 (y' - (y + s * K))),SV.val (vI64 (12 * (y' - (y + s * K)))),SV.ptr 1 1,SV.val (vI64 m'),SV.val (vI64 (12 * (y' - (y + s * K)) + m')),SV.ptr 4 1,SV.val (vI64 m),SV.val (vI64 (12 * (y' - (y + s * K)) + m' - m)),SV.val (vI64 k1),SV.val (vI64 k1),svF,svZ,svZ,.any,.any,.any,.any,.any,.any,.any,.any,.any,.any,.any,.any,.any,.any,svZ,svZ,svZ,svZ,svZ,svZ,svZ,svZ,svZ,svZ,svZ,svZ,svZ,svZ,svZ,svZ,svZ,svZ,svZ,svZ,svZ,svZ,svZ,svZ,svZ,svZ,svZ,svZ,svZ,svZ],[⟨[SV.val (vI64 y),SV.val (vI64 m),SV.val (vI64 d)],23⟩,⟨[SV.val (vI64 y'),SV.val (vI64 m'),SV.val (vI64 d')],23⟩,⟨[SV.val (vI64 0),SV.val (vI64 0),SV.val (vI64 0),SV.val (vI64 0),SV.val (vI64 0),SV.val (vI64 0),SV.val (vI64 0),SV.val (vI64 0)],51⟩,⟨[SV.val (vI64 (s * K)),SV.val (vI64 0),SV.val (vI64 0),SV.val (vI64 0),SV.val (vI64 0),SV.val (vI64 0),SV.val (vI64 0),SV.val (vI64 0)],51⟩,⟨[SV.val (vI64 (y + s * K)),SV.val (vI64 m),SV.val (vI64 d)],23⟩])) (fun _ => _) (fun k => 0 ≤ k ∧ 12 * K + k ≤ N) (fun k => (N - k).toNat) (k1) (by kernel_rfl) (by kernel_rfl) Sub.refl (by first | omega | (simp; omega) | assumption | simp_all) (fun y1 px1 back1 => ?_)
    ((by_cases q1 : 12 * K + (y1 + 1) ≤ N) <;> have sU1 := sU y1 (by omega) (by omega) <;> have ek1 : ¬ 12 * K + (y1 + 1) ≤ N → s * y1 = s * M := fun q => by rw [show y1 = M by omega])
    ·have _hh := True.intro
     refine qI 129 (y1 + 1) ?_
     refine qI 130 (s * (y1 + 1)) ?_
     refine qF ent134 (la3 (y1) (by omega) (by omega)) ?_
     refine qF ent157 (lbn3 (y1) (by assumption)) ?_
     refine qI 135 (y1 + 1) ?_
     refine qG [0,1,2,3,4,5,6,7,8,9,10,11,12,13,14,15,16,17,18,19,20,21,22,23,24,25,26,27,28,29,30,31,32,33,34,35,36,37,38,39,40,41,42,43,44,45,46,47,48,49,50,51,52,53,54,55,56,57,58,59,60,61,62,63,64,65,66,67,68,69,70,71,72,73,74,75,76,77,78,79,80,81,82,83,84,85,86,87,88,89,90,91,92,93,94,95,96,97,98,99,100,101,102,103,104,105,106,107,108,109,110,111,112,113,114,115,116,117,118,119,120,121,136,137,138,139,140,141,142,143,144,145,146,147,148,149,150,151,152,153,154,155,156,157,158,159,160,161,162,163,164,165] ?_
     exact qB back1 (y1 + 1) (by first | omega | (simp only []; omega) | (simp; omega) | assumption | simp_all)
    ·have _hh := True.intro
     refine qI 129 (y1 + 1) ?_
     refine qI 130 (s * (y1 + 1)) ?_
     refine qF ent134 (la3 (y1) (by omega) (by omega)) ?_
     refine qF ent157 (lby3 (y1) (by omega)) ?_
     refine st_i 138 IntKind.i64 (x := IntKind.i64.wrap (s * y1)) ((Go.IntWalk.i64_in (s * y1) (by omega)).trans ((ek1 q1))) (by kernel_rfl) ?_
     refine qF ent134 (la4) ?_
     refine qF ent135 (lr) ?_
     refine qF ent27 (ld3) ?_
     refine qI 163 (n' - n'') ?_
     exact qR Tryz.func113
end
end Go.Proofs.YthoedmikfpbfnaaGreat
end
section
set_option maxRecDepth 100000
namespace Go.Proofs.YthoedmikfpbfnaaGreat
open Go Go.RowKit Go.Ev

section
variable (y m d y' m' d' L : Int)
theorem zunt_2 (s N T : Int) (h : dOk y m d) (h' : dOk y' m' d') (hs : s = 1 ∨ s = -1) (e : cmp3 y' m' d' y m d = s) (hN : mM s y m d y' m' d' = N) (hT : ymi y m + s * N = T) :
  Fn 113 [] [dv y m d, dv y' m' d', .int .i64 2] (.tuple #[duv 0 (s * N) 0 (dnum y' m' d' - dnum (lY T) (lM T) (cD (lY T) (lM T) d)) 0 0 0 0, .int .i64 0]) := by
 have ld1 := zdays_yes y m d h
 have ld2 := zdays_yes y' m' d' h'
 have yy := dOk_year h
 have yy' := dOk_year h'
 have n0 := mM_pos h.1.1 h.1.2.1 h'.1.1 h'.1.2.1 hs e
 have n1 := mM_le (y := y) (y' := y') (d := d) (d' := d') h.1.1 h.1.2.1 h'.1.1 h'.1.2.1 hs
 have gp := mM_gap y m d y' m' d' hs
 have fi := fits_iff (s := s) (y := y) (m := m) (d := d) (y' := y') (m' := m') (d' := d') h.1.1 h.1.2.1 h'.1.1 h'.1.2.1 hs
 rw [hN] at n0 n1 gp fi
 have n2 : N ≤ 10000000 := by
  rcases hs with rfl | rfl
  ·rw [if_pos rfl] at n1; omega
  ·rw [if_neg (by omega)] at n1; omega
 have m1 := h.1.1
 have m2 := h.1.2.1
 have m1' := h'.1.1
 have m2' := h'.1.2.1
 have la2 : Fn 134 [] [dv y m d, .int .i64 0, .int .i64 0] (dv y m d) := by
  have := zlater y m d 0 0 (ymi y m) (by unfold ymi; omega) (by omega) (by omega) m1 m2 (by omega) (by omega) (by omega) (by omega)
  rwa [(l_ymi m1 m2).1, (l_ymi m1 m2).2] at this
 have la3 : ∀ k : Int, 0 ≤ k → k ≤ 10000000 → Fn 134 [] [dv y m d, .int .i64 0, .int .i64 (s * (k + 1))] (dv (lY (ymi y m + s * (k + 1))) (lM (ymi y m + s * (k + 1))) d) := fun k k0 k1 =>
  zlater y m d 0 (s * (k + 1)) _ (by unfold ymi; rcases hs with rfl | rfl <;> omega) (by omega) (by omega) m1 m2 (by omega) (by omega) (by rcases hs with rfl | rfl <;> omega) (by rcases hs with rfl | rfl <;> omega)
 have lbn3 : ∀ k : Int, k + 1 ≤ N → Fn 157 [] [dv y m d, dv y' m' d', dv (lY (ymi y m + s * (k + 1))) (lM (ymi y m + s * (k + 1))) d] (.bool false) := fun k q => zbey_n s y m d y' m' d' _ _ _ hs e ((fi _).2 q)
 have lby3 : ∀ k : Int, N < k + 1 → Fn 157 [] [dv y m d, dv y' m' d', dv (lY (ymi y m + s * (k + 1))) (lM (ymi y m + s * (k + 1))) d] (.bool true) := fun k q => zbey_y s y m d y' m' d' _ _ _ hs e (Classical.byContradiction fun z => by have := (fi _).1 z; omega)
 have la4 : Fn 134 [] [dv y m d, .int .i64 0, .int .i64 (s * N)] (dv (lY T) (lM T) d) :=
  zlater y m d 0 (s * N) T (by unfold ymi at hT; rcases hs with rfl | rfl <;> omega) (by omega) (by omega) m1 m2 (by omega) (by omega) (by rcases hs with rfl | rfl <;> omega) (by rcases hs with rfl | rfl <;> omega)
 have fo := (from_ok h h' hs e).1
 unfold fD' fY' fM' at fo
 rw [hN, hT] at fo
 have lr := zreg_cy (lY T) (lM T) d (ymi_l T).2.1 (ymi_l T).2.2 h.1.2.2.1 fo
 have ld3 := zdays_yes (lY T) (lM T) (cD (lY T) (lM T) d) fo
 have b1 := fo.2
 have b2 := h'.2
 have cc := zcmp5 y' m' d' y m d
 rw [e] at cc
 generalize dnum y' m' d' = n' at *
 generalize dnum (lY T) (lM T) (cD (lY T) (lM T) d) = n'' at *
 obtain ⟨D2, hD2⟩ : ∃ D2, s * (12 * (y' - y) + m' - m) = D2 := ⟨_, rfl⟩
 have f2 : N ≤ D2 ∧ D2 ≤ N + 1 := by
  unfold ymi at gp
  rcases hs with rfl | rfl <;> omega
 have sM : -10000000 ≤ s * N ∧ s * N ≤ 10000000 := sBd hs (by omega)
 have sU : ∀ k : Int, 0 ≤ k → k ≤ 100000000 → -1000000000 ≤ s * (k + 1) ∧ s * (k + 1) ≤ 1000000000 := fun k k0 k1 => sBd hs (by omega)
 have s0 : s ≠ 0 := by rcases hs with rfl | rfl <;> omega
 clear h h' e hN hT fo n1 gp fi hs
 by_cases c1 : 0 < D2
 ·obtain ⟨k1, hk1⟩ : ∃ k1, D2 - 1 = k1 := ⟨_, rfl⟩
  refine fn_of Tryz.func113 rfl fun ww => ?_
  refine qF ent27 (ld1) ?_
  refine qF ent27 (ld2) ?_
  refine qF ent111 (cc) ?_
  refine qN 69 (s == 0) ?_
  refine qF ent134 (la2) ?_
  refine qI 109 (y' - y) ?_
  refine qI 110 (12 * (y' - y)) ?_
  refine qI 113 (12 * (y' - y) + m') ?_
  refine qI 116 (12 * (y' - y) + m' - m) ?_
  refine st_i 117 IntKind.i64 (x := IntKind.i64.wrap (s * (12 * (y' - y) + m' - m))) ((Go.IntWalk.i64_in (s * (12 * (y' - y) + m' - m)) (by omega)).trans (hD2)) (by kernel_rfl) ?_
  refine qY 119 (decide (D2 > 0)) ?_
  refine st_i 121 IntKind.i64 (x := IntKind.i64.wrap (D2 - 1)) ((Go.IntWalk.i64_in (D2 - 1) (by omega)).trans (hk1)) (by kernel_rfl) ?_
  refine qG [0,1,2,3,4,5,6,7,8,9,10,11,12,13,14,15,16,17,18,19,20,21,22,23,24,25,26,27,28,29,30,31,32,33,34,35,36,37,38,39,40,41,42,43,44,45,46,47,48,49,50,51,52,53,54,55,56,57,58,59,60,61,62,63,64,65,66,67,68,69,70,71,72,73,74,75,76,77,78,79,80,81,82,83,84,85,86,87,88,89,90,91,92,93,94,95,96,97,98,99,100,101,102,103,104,105,106,107,108,109,110,111,112,113,114,115,116,117,118,119,120,121,136,137,138,139,140,141,142,143,144,145,146,147,148,149,150,151,152,153,154,155,156,157,158,159,160,161,162,163,164,165] ?_
  refine st_loop (X := Int) (fun x => ([SV.val (Value.agg #[vI64 y,vI64 m,vI64 d]),SV.val (Value.agg #[vI64 y',vI64 m',vI64 d']),SV.val (vI64 2),SV.ptr 0 0,SV.ptr 1 0,svZ,SV.ptr 2 0,SV.val (vI64 0),SV.val (vI64 (dnum y m d)),svT,SV.val (vI64 n'),svT,SV.ptr 3 0,SV.val (vI64 s),svZ,SV.ptr 4 0,.val (.int .i64 x),svZ,svZ,svZ,svZ,svZ,SV.val (Value.tuple #[vI64 (dnum y m d),Value.bool true]),SV.val (Value.agg #[vI64 y,vI64 m,vI64 d]),SV.val (Value.tuple #[vI64 (dnum y m d),Value.bool true]),SV.val (vI64 (dnum y m d)),svT,SV.val (Value.tuple #[vI64 n',Value.bool true]),SV.val (Value.agg #[vI64 y',vI64 m',vI64 d']),SV.val (Value.tuple #[vI64 n',Value.bool true]),SV.val (vI64 n'),svT,svT,svF,svF,svT,svF,svF,svF,SV.val (vI64 2),svF,svF,svF,SV.val (vI64 2),svF,svF,svZ,SV.val (vI64 2),svF,svZ,svZ,svZ,svZ,SV.val (vI64 2),svF,svZ,svZ,svZ,svZ,svZ,svZ,svZ,svZ,svZ,SV.val (Value.agg #[vI64 0,vI64 0,vI64 0,vI64 0,vI64 0,vI64 0,vI64 0,vI64 0]),SV.val (Value.agg #[vI64 y',vI64 m',vI64 d']),SV.val (Value.agg #[vI64 y,vI64 m,vI64 d]),SV.val (vI64 s),SV.val (vI64 s),svF,svZ,SV.val (vI64 2),svF,svZ,svZ,svZ,svZ,svZ,svZ,svZ,svZ,svZ,svZ,svZ,svZ,svZ,svZ,svZ,svZ,svZ,svZ,svZ,svZ,svZ,svZ,svZ,svZ,svZ,svZ,svZ,SV.val (Value.agg #[vI64 y,vI64 m,vI64 d]),SV.ptr 3 0,SV.val (vI64 0),SV.val (Value.agg #[vI64 y,vI64 m,vI64 d]),SV.val (vI64 s),SV.ptr 1 0,SV.val (vI64 y'),SV.ptr 4 0,SV.val (vI64 y),SV.val (vI64 (y' - y)),SV.val (vI64 (12 * (y' - y))),SV.ptr 1 1,SV.val (vI64 m'),SV.val (vI64 (12 * (y' - y) + m')),SV.ptr 4 1,SV.val (vI64 m),SV.val (vI64 (12 * (y' - y) + m' - m)),SV.val (vI64 D2),SV.val (vI64 D2),svT,SV.val (vI64 D2),SV.val (vI64 k1),.any,.any,.any,.any,.any,.any,.any,.any,.any,.any,.any,.any,.any,.any,svZ,svZ,svZ,svZ,svZ,svZ,svZ,svZ,svZ,svZ,svZ,svZ,svZ,svZ,svZ,svZ,svZ,svZ,svZ,svZ,svZ,svZ,svZ,svZ,svZ,svZ,svZ,svZ,svZ,svZ],[⟨[SV.val (vI64 y),SV.val (vI64 m),SV.val (vI64 d)],23⟩,⟨[SV.val (vI64 y'),SV.val (vI64 m'),SV.val (vI64 d')],23⟩,⟨[SV.val (vI64 0),SV.val (vI64 0),SV.val (vI64 0),SV.val (vI64 0),SV.val (vI64 0),SV.val (vI64 0),SV.val (vI64 0),SV.val (vI64 0)],51⟩,⟨[SV.val (vI64 0),SV.val (vI64 0),SV.val (vI64 0),SV.val (vI64 0),SV.val (vI64 0),SV.val (vI64 0),SV.val (vI64 0),SV.val (vI64 0)],51⟩,⟨[SV.val (vI64 y),SV.val (vI64 m),SV.val (vI64 d)],23⟩])) (fun _ => _) (fun k => 0 ≤ k ∧ k ≤ N) (fun k => (N - k).toNat) (k1) (by kernel_rfl) (by kernel_rfl) Sub.refl (by first | omega | (simp; omega) | assumption | simp_all) (fun y0 px0 back0 => ?_)
  ((by_cases q1 : y0 + 1 ≤ N) <;> have sU1 := sU y0 (by omega) (by omega) <;> have ek1 : ¬ y0 + 1 ≤ N → s * y0 = s * N := fun q => by rw [show y0 = N by omega])
  ·have _hh := True.intro
   refine qI 129 (y0 + 1) ?_
   refine qI 130 (s * (y0 + 1)) ?_
   refine qF ent134 (la3 (y0) (by omega) (by omega)) ?_
   refine qF ent157 (lbn3 (y0) (by assumption)) ?_
   refine qI 135 (y0 + 1) ?_
   refine qG [0,1,2,3,4,5,6,7,8,9,10,11,12,13,14,15,16,17,18,19,20,21,22,23,24,25,26,27,28,29,30,31,32,33,34,35,36,37,38,39,40,41,42,43,44,45,46,47,48,49,50,51,52,53,54,55,56,57,58,59,60,61,62,63,64,65,66,67,68,69,70,71,72,73,74,75,76,77,78,79,80,81,82,83,84,85,86,87,88,89,90,91,92,93,94,95,96,97,98,99,100,101,102,103,104,105,106,107,108,109,110,111,112,113,114,115,116,117,118,119,120,121,136,137,138,139,140,141,142,143,144,145,146,147,148,149,150,151,152,153,154,155,156,157,158,159,160,161,162,163,164,165] ?_
   exact qB back0 (y0 + 1) (by first | omega | (simp only []; omega) | (simp; omega) | assumption | simp_all)
  ·have _hh := True.intro
   refine qI 129 (y0 + 1) ?_
   refine qI 130 (s * (y0 + 1)) ?_
   refine qF ent134 (la3 (y0) (by omega) (by omega)) ?_
   refine qF ent157 (lby3 (y0) (by omega)) ?_
   refine st_i 138 IntKind.i64 (x := IntKind.i64.wrap (s * y0)) ((Go.IntWalk.i64_in (s * y0) (by omega)).trans ((ek1 q1))) (by kernel_rfl) ?_
   refine qF ent134 (la4) ?_
   refine qF ent135 (lr) ?_
   refine qF ent27 (ld3) ?_
   refine qI 163 (n' - n'') ?_
   exact qR Tryz.func113
 ·obtain ⟨k1, hk1⟩ : ∃ k1, k1 = D2 := ⟨_, rfl⟩
  refine fn_of Tryz.func113 rfl fun ww => ?_
  refine qF ent27 (ld1) ?_
  refine qF ent27 (ld2) ?_
  refine qF ent111 (cc) ?_
  refine qN 69 (s == 0) ?_
  refine qF ent134 (la2) ?_
  refine qI 109 (y' - y) ?_
  refine qI 110 (12 * (y' - y)) ?_
  refine qI 113 (12 * (y' - y) + m') ?_
  refine qI 116 (12 * (y' - y) + m' - m) ?_
  refine st_i 117 IntKind.i64 (x := IntKind.i64.wrap (s * (12 * (y' - y) + m' - m))) ((Go.IntWalk.i64_in (s * (12 * (y' - y) + m' - m)) (by omega)).trans ((hD2.trans hk1.symm))) (by kernel_rfl) ?_
  refine qN 119 (decide (k1 > 0)) ?_
  refine qG [0,1,2,3,4,5,6,7,8,9,10,11,12,13,14,15,16,17,18,19,20,21,22,23,24,25,26,27,28,29,30,31,32,33,34,35,36,37,38,39,40,41,42,43,44,45,46,47,48,49,50,51,52,53,54,55,56,57,58,59,60,61,62,63,64,65,66,67,68,69,70,71,72,73,74,75,76,77,78,79,80,81,82,83,84,85,86,87,88,89,90,91,92,93,94,95,96,97,98,99,100,101,102,103,104,105,106,107,108,109,110,111,112,113,114,115,116,117,118,119,120,121,136,137,138,139,140,141,142,143,144,145,146,147,148,149,150,151,152,153,154,155,156,157,158,159,160,161,162,163,164,165] ?_
  refine st_loop (X := Int) (fun x => ([SV.val (Value.agg #[vI64 y,vI64 m,vI64 d]),SV.val (Value.agg #[vI64 y',vI64 m',vI64 d']),SV.val (vI64 2),SV.ptr 0 0,SV.ptr 1 0,svZ,SV.ptr 2 0,SV.val (vI64 0),SV.val (vI64 (dnum y m d)),svT,SV.val (vI64 n'),svT,SV.ptr 3 0,SV.val (vI64 s),svZ,SV.ptr 4 0,.val (.int .i64 x),svZ,svZ,svZ,svZ,svZ,SV.val (Value.tuple #[vI64 (dnum y m d),Value.bool true]),SV.val (Value.agg #[vI64 y,vI64 m,vI64 d]),SV.val (Value.tuple #[vI64 (dnum y m d),Value.bool true]),SV.val (vI64 (dnum y m d)),svT,SV.val (Value.tuple #[vI64 n',Value.bool true]),SV.val (Value.agg #[vI64 y',vI64 m',vI64 d']),SV.val (Value.tuple #[vI64 n',Value.bool true]),SV.val (vI64 n'),svT,svT,svF,svF,svT,svF,svF,svF,SV.val (vI64 2),svF,svF,svF,SV.val (vI64 2),svF,svF,svZ,SV.val (vI64 2),svF,svZ,svZ,svZ,svZ,SV.val (vI64 2),svF,svZ,svZ,svZ,svZ,svZ,svZ,svZ,svZ,svZ,SV.val (Value.agg #[vI64 0,vI64 0,vI64 0,vI64 0,vI64 0,vI64 0,vI64 0,vI64 0]),SV.val (Value.agg #[vI64 y',vI64 m',vI64 d']),SV.val (Value.agg #[vI64 y,vI64 m,vI64 d]),SV.val (vI64 s),SV.val (vI64 s),svF,svZ,SV.val (vI64 2),svF,svZ,svZ,svZ,svZ,svZ,svZ,svZ,svZ,svZ,svZ,svZ,svZ,svZ,svZ,svZ,svZ,svZ,svZ,svZ,svZ,svZ,svZ,svZ,svZ,svZ,svZ,svZ,SV.val (Value.agg #[vI64 y,vI64 m,vI64 d]),SV.ptr 3 0,SV.val (vI64 0),SV.val (Value.agg #[vI64 y,vI64 m,vI64 d]),SV.val (vI64 s),SV.ptr 1 0,SV.val (vI64 y'),SV.ptr 4 0,SV.val (vI64 y),SV.val (vI64 (y' - y)),SV.val (vI64 (12 * (y' - y))),SV.ptr 1 1,SV.val (vI64 m'),SV.val (vI64 (12 * (y' - y) + m')),SV.ptr 4 1,SV.val (vI64 m),SV.val (vI64 (12 * (y' - y) + m' - m)),SV.val (vI64 k1),SV.val (vI64 k1),svF,svZ,svZ,.any,.any,.any,.any,.any,.any,.any,.any,.any,.any,.any,.any,.any,.any,svZ,svZ,svZ,svZ,svZ,svZ,svZ,svZ,svZ,svZ,svZ,svZ,svZ,svZ,svZ,svZ,svZ,svZ,svZ,svZ,svZ,svZ,svZ,svZ,svZ,svZ,svZ,svZ,svZ,svZ],[⟨[SV.val (vI64 y),SV.val (vI64 m),SV.val (vI64 d)],23⟩,⟨[SV.val (vI64 y'),SV.val (vI64 m'),SV.val (vI64 d')],23⟩,⟨[SV.val (vI64 0),SV.val (vI64 0),SV.val (vI64 0),SV.val (vI64 0),SV.val (vI64 0),SV.val (vI64 0),SV.val (vI64 0),SV.val (vI64 0)],51⟩,⟨[SV.val (vI64 0),SV.val (vI64 0),SV.val (vI64 0),SV.val (vI64 0),SV.val (vI64 0),SV.val (vI64 0),SV.val (vI64 0),SV.val (vI64 0)],51⟩,⟨[SV.val (vI64 y),SV.val (vI64 m),SV.val (vI64 d)],23⟩])) (fun _ => _) (fun k => 0 ≤ k ∧ k ≤ N) (fun k => (N - k).toNat) (k1) (by kernel_rfl) (by kernel_rfl) Sub.refl (by first | omega | (simp; omega) | assumption | simp_all) (fun y0 px0 back0 => ?_)
  ((by_cases q1 : y0 + 1 ≤ N) <;> have sU1 := sU y0 (by omega) (by omega) <;> have ek1 : ¬ y0 + 1 ≤ N → s * y0 = s * N := fun q => by rw [show y0 = N by omega])
  ·have _hh := True.intro
   refine qI 129 (y0 + 1) ?_
   refine qI 130 (s * (y0 + 1)) ?_
   refine qF ent134 (la3 (y0) (by omega) (by omega)) ?_
   refine qF ent157 (lbn3 (y0) (by assumption)) ?_
   refine qI 135 (y0 + 1) ?_
   refine qG [0,1,2,3,4,5,6,7,8,9,10,11,12,13,14,15,16,17,18,19,20,21,22,23,24,25,26,27,28,29,30,31,32,33,34,35,36,37,38,39,40,41,42,43,44,45,46,47,48,49,50,51,52,53,54,55,56,57,58,59,60,61,62,63,64,65,66,67,68,69,70,71,72,73,74,75,76,77,78,79,80,81,82,83,84,85,86,87,88,89,90,91,92,93,94,95,96,97,98,99,100,101,102,103,104,105,106,107,108,109,110,111,112,113,114,115,116,117,118,119,120,121,136,137,138,139,140,141,142,143,144,145,146,147,148,149,150,151,152,153,154,155,156,157,158,159,160,161,162,163,164,165] ?_
   exact qB back0 (y0 + 1) (by first | omega | (simp only []; omega) | (simp; omega) | assumption | simp_all)
  ·have _hh := True.intro
   refine qI 129 (y0 + 1) ?_
   refine qI 130 (s * (y0 + 1)) ?_
   refine qF ent134 (la3 (y0) (by omega) (by omega)) ?_
   refine qF ent157 (lby3 (y0) (by omega)) ?_
   refine st_i 138 IntKind.i64 (x := IntKind.i64.wrap (s * y0)) ((Go.IntWalk.i64_in (s * y0) (by omega)).trans ((ek1 q1))) (by kernel_rfl) ?_
   refine qF ent134 (la4) ?_
   refine qF ent135 (lr) ?_
   refine qF ent27 (ld3) ?_
   refine qI 163 (n' - n'') ?_
   exact qR Tryz.func113
end
end Go.Proofs.YthoedmikfpbfnaaGreat
end
section
namespace Go.Proofs.YthoedmikfpbfnaaGreat
open Go Go.RowKit

def near (n k : Int) : Int := if n < 0 then 0 else if k < n then k else n
end Go.Proofs.YthoedmikfpbfnaaGreat
end
section
namespace Go.Proofs.YthoedmikfpbfnaaGreat
open Go Go.RowKit

section
variable {P : Program} {ops : Array Oper} {Q : Exit → Act → World → Prop} {md : Region.Mode} {S : World → Prop} {t : Nat}

def opAt (ops : Array Oper) (i : Nat) : Oper := (ops[i]?).getD { dst := none, op := .move (.const undef), type := 0, pos := "", after := #[], guard := none }
end
end Go.Proofs.YthoedmikfpbfnaaGreat
end
section
namespace Go.Proofs.YthoedmikfpbfnaaGreat
open Go Go.RowKit Go.Ev

abbrev tv (h m s n : Int) : Value := .agg #[.int .i64 h, .int .i64 m, .int .i64 s, .int .i64 n]
theorem fzright_yes (h m s n : Int) (k : tOk h m s n) : Fn 28 [] [tv h m s n] (.bool true) := fn1 fun w => (zright h m s n w).mono fun e w' q => ⟨by rw [q.1, tOkB_yes k], q.2⟩
theorem fzright_no (h m s n : Int) (k : ¬ tOk h m s n) : Fn 28 [] [tv h m s n] (.bool false) := fn1 fun w => (zright h m s n w).mono fun e w' q => ⟨by rw [q.1, tOkB_no k], q.2⟩
theorem fcnanos_yes (h m s n : Int) (k : tOk h m s n) : Fn 98 [] [tv h m s n] (.tuple #[.int .i64 (tnan h m s n), .bool true]) := fn1 fun w => cnanos_yes h m s n w k
theorem fcnanos_no (h m s n : Int) (k : ¬ tOk h m s n) : Fn 98 [] [tv h m s n] (.tuple #[.int .i64 0, .bool false]) := fn1 fun w => cnanos_no h m s n w k
theorem fznanos (h m s n : Int) (k : tOk h m s n) : Fn 83 [] [tv h m s n] (.int .i64 (tnan h m s n)) := fn1 fun w => znanos h m s n w k
theorem fcof_yes (n : Int) (h0 : 0 ≤ n) (h1 : n < 86400000000000) : Fn 120 [] [.int .i64 n] (.tuple #[tv (tH n) (tM n) (tS n) (tN n), .bool true]) := fn1 fun w => cof_yes n w h0 h1
theorem fzof (n : Int) (h0 : 0 ≤ n) (h1 : n < 86400000000000) : Fn 78 [] [.int .i64 n] (tv (tH n) (tM n) (tS n) (tN n)) := fn1 fun w => zof n w h0 h1
end Go.Proofs.YthoedmikfpbfnaaGreat
end
section
set_option maxRecDepth 100000
namespace Go.Proofs.YthoedmikfpbfnaaGreat
open Go Go.RowKit Go.Ev

abbrev ptv (y mo d h m s n : Int) : Value := .agg #[.int .i64 y, .int .i64 mo, .int .i64 d, .int .i64 h, .int .i64 m, .int .i64 s, .int .i64 n]
abbrev pt0 : Value := ptv 0 0 0 0 0 0 0
abbrev ptN (x : Int) : Value := ptv (dY (xd x)) (dM (xd x)) (dD (xd x)) (tH (xt x)) (tM (xt x)) (tS (xt x)) (tN (xt x))
abbrev wz : Value := .agg #[.int .i64 0, .int .u64 0]
section
variable (y mo d h m s n : Int)
theorem pnumber_yes (k : pOk y mo d h m s n) : Fn 58 [] [ptv y mo d h m s n] (.tuple #[wv (pnum y mo d h m s n), .bool true]) := by
 obtain ⟨k1, k2, k3⟩ := k
 have b := tnan_bd k2
 obtain ⟨k4, k5, k6⟩ := k1
 have k1 : dOk y mo d := ⟨k4, k5, k6⟩
 clear k4
 have e : (if dnum y mo d = -100000001 then (if tnan h m s n = 0 then 1 else 0) else 0) = (0 : Int) := by
  split
  ·split
   ·rename_i q1 q2; exact absurd ⟨q1, q2⟩ k3
   ·rfl
  ·rfl
 unfold pnum
 by_cases q : dnum y mo d = -100000001
 ·have q2 : tnan h m s n ≠ 0 := fun z => k3 ⟨q, z⟩
  clear e k3
  refine fn_of Tryz.func58 rfl fun ww => ?_
  refine qF ent117 (cdays_yes (y) (mo) (d) (by assumption)) ?_
  refine qF ent98 (fcnanos_yes (h) (m) (s) (n) (by assumption)) ?_
  refine qY 30 (dnum y mo d == -100000001) ?_
  refine qN 33 (tnan h m s n == 0) ?_
  refine qF ent23 (wmul_f (dnum y mo d) (86400000000000) (by (unfold I64; omega)) (by (unfold I64; omega))) ?_
  refine qF ent30 (wof_fn (tnan h m s n) (by (unfold I64; omega))) ?_
  refine qF ent44 (wadd_yes (dnum y mo d * 86400000000000) (tnan h m s n) (by (unfold W128; omega)) (by (unfold W128; omega)) (by (unfold W128; omega))) ?_
  exact qR Tryz.func58
 ·clear e k3
  refine fn_of Tryz.func58 rfl fun ww => ?_
  refine qF ent117 (cdays_yes (y) (mo) (d) (by assumption)) ?_
  refine qF ent98 (fcnanos_yes (h) (m) (s) (n) (by assumption)) ?_
  refine qN 30 (dnum y mo d == -100000001) ?_
  refine qF ent23 (wmul_f (dnum y mo d) (86400000000000) (by (unfold I64; omega)) (by (unfold I64; omega))) ?_
  refine qF ent30 (wof_fn (tnan h m s n) (by (unfold I64; omega))) ?_
  refine qF ent44 (wadd_yes (dnum y mo d * 86400000000000) (tnan h m s n) (by (unfold W128; omega)) (by (unfold W128; omega)) (by (unfold W128; omega))) ?_
  exact qR Tryz.func58
theorem pnumber_no (k : ¬ pOk y mo d h m s n) : Fn 58 [] [ptv y mo d h m s n] (.tuple #[wz, .bool false]) := by
 by_cases k1 : dOk y mo d
 ·by_cases k2 : tOk h m s n
  ·have k3 : dnum y mo d = -100000001 ∧ tnan h m s n = 0 := Classical.byContradiction fun q => k ⟨k1, k2, q⟩
   obtain ⟨k4, k5⟩ := k3
   clear k
   refine fn_of Tryz.func58 rfl fun ww => ?_
   refine qF ent117 (cdays_yes (y) (mo) (d) (by assumption)) ?_
   refine qF ent98 (fcnanos_yes (h) (m) (s) (n) (by assumption)) ?_
   refine qY 30 (dnum y mo d == -100000001) ?_
   refine qY 33 (tnan h m s n == 0) ?_
   exact qR Tryz.func58
  ·clear k
   refine fn_of Tryz.func58 rfl fun ww => ?_
   refine qF ent117 (cdays_yes (y) (mo) (d) (by assumption)) ?_
   refine qF ent98 (fcnanos_no (h) (m) (s) (n) (by assumption)) ?_
   exact qR Tryz.func58
 ·by_cases k2 : tOk h m s n
  ·clear k
   refine fn_of Tryz.func58 rfl fun ww => ?_
   refine qF ent117 (cdays_no (y) (mo) (d) (by assumption)) ?_
   refine qF ent98 (fcnanos_yes (h) (m) (s) (n) (by assumption)) ?_
   exact qR Tryz.func58
  ·clear k
   refine fn_of Tryz.func58 rfl fun ww => ?_
   refine qF ent117 (cdays_no (y) (mo) (d) (by assumption)) ?_
   refine qF ent98 (fcnanos_no (h) (m) (s) (n) (by assumption)) ?_
   exact qR Tryz.func58
theorem pright_yes (k : pOk y mo d h m s n) : Fn 18 [] [ptv y mo d h m s n] (.bool true) := by
 refine fn_of Tryz.func18 rfl fun ww => ?_
 refine qF ent58 (pnumber_yes (y) (mo) (d) (h) (m) (s) (n) (by assumption)) ?_
 exact qR Tryz.func18
theorem pright_no (k : ¬ pOk y mo d h m s n) : Fn 18 [] [ptv y mo d h m s n] (.bool false) := by
 refine fn_of Tryz.func18 rfl fun ww => ?_
 refine qF ent58 (pnumber_no (y) (mo) (d) (h) (m) (s) (n) (by assumption)) ?_
 exact qR Tryz.func18
end
section
variable (x : Int)
theorem dby_day (hx : W128 x) : Fn 118 [] [wv x, .int .i64 86400000000000] (.tuple #[wv (xd x), .int .i64 (xt x), .int .i64 0]) := dby_f x 86400000000000 hx (by omega) (by unfold I64; omega)
theorem pof_yes (k : pIn x) : Fn 59 [] [wv x] (.tuple #[ptN x, .bool true]) := by
 have hx : W128 x := by unfold pIn at k; unfold W128; omega
 obtain ⟨⟨k1, k2⟩, k3⟩ := pIn_split.1 k
 obtain ⟨-, b, c⟩ := x_split x
 have i1 : I64 (xd x) := by unfold I64; omega
 by_cases q : xd x = -100000001
 ·have q2 : xt x ≠ 0 := fun z => k3 ⟨q, z⟩
  clear k3
  refine fn_of Tryz.func59 rfl fun ww => ?_
  refine qF ent118 (dby_day (x) (by assumption)) ?_
  refine qF ent50 (wint_f (xd x) (by assumption)) ?_
  refine qN 28 (decide (xd x < -100000001)) ?_
  refine qN 32 (decide (xd x > 100000000)) ?_
  refine qY 36 (xd x == -100000001) ?_
  refine qN 39 (xt x == 0) ?_
  refine qF ent119 (cof5_yes (xd x) (by assumption) (by assumption)) ?_
  refine qF ent120 (fcof_yes (xt x) (by assumption) (by assumption)) ?_
  exact qR Tryz.func59
 ·clear k3
  refine fn_of Tryz.func59 rfl fun ww => ?_
  refine qF ent118 (dby_day (x) (by assumption)) ?_
  refine qF ent50 (wint_f (xd x) (by assumption)) ?_
  refine qN 28 (decide (xd x < -100000001)) ?_
  refine qN 32 (decide (xd x > 100000000)) ?_
  refine qN 36 (xd x == -100000001) ?_
  refine qF ent119 (cof5_yes (xd x) (by assumption) (by assumption)) ?_
  refine qF ent120 (fcof_yes (xt x) (by assumption) (by assumption)) ?_
  exact qR Tryz.func59
theorem pof_no (hx : W128 x) (k : ¬ pIn x) : Fn 59 [] [wv x] (.tuple #[pt0, .bool false]) := by
 obtain ⟨-, b, c⟩ := x_split x
 by_cases i1 : I64 (xd x)
 ·by_cases k1 : xd x < -100000001
  ·refine fn_of Tryz.func59 rfl fun ww => ?_
   refine qF ent118 (dby_day (x) (by assumption)) ?_
   refine qF ent50 (wint_f (xd x) (by assumption)) ?_
   refine qY 28 (decide (xd x < -100000001)) ?_
   exact qR Tryz.func59
  ·by_cases k2 : 100000000 < xd x
   ·refine fn_of Tryz.func59 rfl fun ww => ?_
    refine qF ent118 (dby_day (x) (by assumption)) ?_
    refine qF ent50 (wint_f (xd x) (by assumption)) ?_
    refine qN 28 (decide (xd x < -100000001)) ?_
    refine qY 32 (decide (xd x > 100000000)) ?_
    exact qR Tryz.func59
   ·have k3 : xd x = -100000001 ∧ xt x = 0 := Classical.byContradiction fun q => k (pIn_split.2 ⟨⟨by omega, by omega⟩, q⟩)
    obtain ⟨k4, k5⟩ := k3
    clear k
    refine fn_of Tryz.func59 rfl fun ww => ?_
    refine qF ent118 (dby_day (x) (by assumption)) ?_
    refine qF ent50 (wint_f (xd x) (by assumption)) ?_
    refine qN 28 (decide (xd x < -100000001)) ?_
    refine qN 32 (decide (xd x > 100000000)) ?_
    refine qY 36 (xd x == -100000001) ?_
    refine qY 39 (xt x == 0) ?_
    exact qR Tryz.func59
 ·refine fn_of Tryz.func59 rfl fun ww => ?_
  refine qF ent118 (dby_day (x) (by assumption)) ?_
  refine qF ent50 (wint_n (xd x) (by assumption)) ?_
  exact qR Tryz.func59
end
section
variable (y mo d h m s n w : Int)
theorem padd_yes (k : pOk y mo d h m s n) (hw : W128 w) (l : pIn (pnum y mo d h m s n + w)) : Fn 22 [] [ptv y mo d h m s n, wv w] (.tuple #[ptN (pnum y mo d h m s n + w), .int .i64 0]) := by
 have i := pOk_in k
 have hx : W128 (pnum y mo d h m s n) := by unfold pIn at i; unfold W128; omega
 have hy : W128 (pnum y mo d h m s n + w) := by unfold pIn at l; unfold W128; omega
 refine fn_of Tryz.func22 rfl fun ww => ?_
 refine qF ent58 (pnumber_yes (y) (mo) (d) (h) (m) (s) (n) (by assumption)) ?_
 refine qF ent44 (wadd_yes (pnum y mo d h m s n) (w) (by assumption) (by assumption) (by assumption)) ?_
 refine qF ent59 (pof_yes (pnum y mo d h m s n + w) (by assumption)) ?_
 exact qR Tryz.func22
theorem p0_in : pIn 0 := by unfold pIn; omega
theorem padd_no (k : pOk y mo d h m s n) (hw : W128 w) (l : ¬ pIn (pnum y mo d h m s n + w)) : Fn 22 [] [ptv y mo d h m s n, wv w] (.tuple #[pt0, .int .i64 4]) := by
 have i := pOk_in k
 have hx : W128 (pnum y mo d h m s n) := by unfold pIn at i; unfold W128; omega
 by_cases hy : W128 (pnum y mo d h m s n + w)
 ·refine fn_of Tryz.func22 rfl fun ww => ?_
  refine qF ent58 (pnumber_yes (y) (mo) (d) (h) (m) (s) (n) (by assumption)) ?_
  refine qF ent44 (wadd_yes (pnum y mo d h m s n) (w) (by assumption) (by assumption) (by assumption)) ?_
  refine qF ent59 (pof_no (pnum y mo d h m s n + w) (by assumption) (by assumption)) ?_
  exact qR Tryz.func22
 ·have h0 : Fn 59 [] [wz] (.tuple #[ptN 0, .bool true]) := pof_yes 0 p0_in
  refine fn_of Tryz.func22 rfl fun ww => ?_
  refine qF ent58 (pnumber_yes (y) (mo) (d) (h) (m) (s) (n) (by assumption)) ?_
  refine qF ent44 (wadd_no (pnum y mo d h m s n) (w) (by assumption) (by assumption) (by assumption)) ?_
  refine qF ent59 (h0) ?_
  exact qR Tryz.func22
end
section
variable (y mo d h m s n y' mo' d' h' m' s' n' : Int)
theorem psince_yes (k : pOk y mo d h m s n) (k' : pOk y' mo' d' h' m' s' n') : Fn 40 [] [ptv y mo d h m s n, ptv y' mo' d' h' m' s' n'] (.tuple #[wv (pnum y' mo' d' h' m' s' n' - pnum y mo d h m s n), .int .i64 0]) := by
 have i := pOk_in k
 have i' := pOk_in k'
 have hx : W128 (pnum y mo d h m s n) := by unfold pIn at i; unfold W128; omega
 have hx' : W128 (pnum y' mo' d' h' m' s' n') := by unfold pIn at i'; unfold W128; omega
 have hy : W128 (pnum y' mo' d' h' m' s' n' - pnum y mo d h m s n) := by unfold pIn at i i'; unfold W128; omega
 refine fn_of Tryz.func40 rfl fun ww => ?_
 refine qF ent58 (pnumber_yes (y) (mo) (d) (h) (m) (s) (n) (by assumption)) ?_
 refine qF ent58 (pnumber_yes (y') (mo') (d') (h') (m') (s') (n') (by assumption)) ?_
 refine qF ent92 (wsub_yes (pnum y' mo' d' h' m' s' n') (pnum y mo d h m s n) (by assumption) (by assumption) (by assumption)) ?_
 exact qR Tryz.func40
theorem psince_no (k : ¬ (pOk y mo d h m s n ∧ pOk y' mo' d' h' m' s' n')) : Fn 40 [] [ptv y mo d h m s n, ptv y' mo' d' h' m' s' n'] (.tuple #[wz, .int .i64 1]) := by
 by_cases k1 : pOk y mo d h m s n
 ·have k2 : ¬ pOk y' mo' d' h' m' s' n' := fun q => k ⟨k1, q⟩
  clear k
  refine fn_of Tryz.func40 rfl fun ww => ?_
  refine qF ent58 (pnumber_yes (y) (mo) (d) (h) (m) (s) (n) (by assumption)) ?_
  refine qF ent58 (pnumber_no (y') (mo') (d') (h') (m') (s') (n') (by assumption)) ?_
  exact qR Tryz.func40
 ·by_cases k2 : pOk y' mo' d' h' m' s' n'
  ·clear k
   refine fn_of Tryz.func40 rfl fun ww => ?_
   refine qF ent58 (pnumber_no (y) (mo) (d) (h) (m) (s) (n) (by assumption)) ?_
   refine qF ent58 (pnumber_yes (y') (mo') (d') (h') (m') (s') (n') (by assumption)) ?_
   exact qR Tryz.func40
  ·clear k
   refine fn_of Tryz.func40 rfl fun ww => ?_
   refine qF ent58 (pnumber_no (y) (mo) (d) (h) (m) (s) (n) (by assumption)) ?_
   refine qF ent58 (pnumber_no (y') (mo') (d') (h') (m') (s') (n') (by assumption)) ?_
   exact qR Tryz.func40
end
end Go.Proofs.YthoedmikfpbfnaaGreat
end
section
set_option maxRecDepth 100000
namespace Go.Proofs.YthoedmikfpbfnaaGreat
open Go Go.RowKit Go.Ev

section
variable (y mo d h m s n y' mo' d' h' m' s' n' L : Int)
theorem cbet_a (k : ¬ (pOk y mo d h m s n ∧ pOk y' mo' d' h' m' s' n' ∧ 1 ≤ L ∧ L ≤ 8)) : Fn 42 [] [ptv y mo d h m s n, ptv y' mo' d' h' m' s' n', .int .i64 L] (.tuple #[du0, .int .i64 1]) := by
 by_cases k1 : pOk y mo d h m s n ∧ pOk y' mo' d' h' m' s' n'
 ·have r := psince_yes y mo d h m s n y' mo' d' h' m' s' n' k1.1 k1.2
  by_cases l : L < 1
  ·clear k k1
   refine fn_of Tryz.func42 rfl fun ww => ?_
   refine qF ent40 (r) ?_
   refine qY 30 (decide (L < 1)) ?_
   exact qR Tryz.func42
  ·have l2 : 8 < L := by
    rcases Int.lt_or_le 8 L with q | q
    ·exact q
    ·exact absurd ⟨k1.1, k1.2, by omega, q⟩ k
   clear k k1
   refine fn_of Tryz.func42 rfl fun ww => ?_
   refine qF ent40 (r) ?_
   refine qN 30 (decide (L < 1)) ?_
   refine qY 34 (decide (L > 8)) ?_
   exact qR Tryz.func42
 ·have r := psince_no y mo d h m s n y' mo' d' h' m' s' n' k1
  clear k k1
  refine fn_of Tryz.func42 rfl fun ww => ?_
  refine qF ent40 (r) ?_
  exact qR Tryz.func42
variable (A B C D H M S N e : Int)
theorem cbet_5 (k : pOk y mo d h m s n) (k' : pOk y' mo' d' h' m' s' n') (l1 : 5 ≤ L) (l2 : L ≤ 8) (hl : Fn 97 [] [wv (pnum y' mo' d' h' m' s' n' - pnum y mo d h m s n), .int .i64 L] (.tuple #[duv A B C D H M S N, .int .i64 e])) :
  Fn 42 [] [ptv y mo d h m s n, ptv y' mo' d' h' m' s' n', .int .i64 L] (.tuple #[duv A B C D H M S N, .int .i64 e]) := by
 have r := psince_yes y mo d h m s n y' mo' d' h' m' s' n' k k'
 clear k k'
 refine fn_of Tryz.func42 rfl fun ww => ?_
 refine qF ent40 (r) ?_
 refine qN 30 (decide (L < 1)) ?_
 refine qN 34 (decide (L > 8)) ?_
 refine qY 38 (decide (L > 4)) ?_
 refine qF ent97 (hl) ?_
 exact qR Tryz.func42
theorem cbet_n (k : pOk y mo d h m s n) (k' : pOk y' mo' d' h' m' s' n') (l1 : 1 ≤ L) (l2 : L ≤ 4) (v z : Int) (hv : v = -1 ∨ v = 0 ∨ v = 1) (ev : cmp3 y' mo' d' y mo d = v) (ez : tnan h' m' s' n' - tnan h m s n = z) (hz : ¬ z * v < 0) (F1 F2 F3 F4 e' : Int)
  (hu : Fn 100 [] [dv y mo d, dv y' mo' d', .int .i64 L] (.tuple #[duv A B C D 0 0 0 0, .int .i64 e])) (hl : Fn 97 [] [wv z, .int .i64 5] (.tuple #[duv F1 F2 F3 F4 H M S N, .int .i64 e'])) :
  Fn 42 [] [ptv y mo d h m s n, ptv y' mo' d' h' m' s' n', .int .i64 L] (.tuple #[duv A B C D H M S N, .int .i64 e]) := by
 have r := psince_yes y mo d h m s n y' mo' d' h' m' s' n' k k'
 have n1 := fcnanos_yes h m s n k.2.1
 have n2 := fcnanos_yes h' m' s' n' k'.2.1
 have b1 := tnan_bd k.2.1
 have b2 := tnan_bd k'.2.1
 have cc := ccmp5 y' mo' d' y mo d
 rw [ev] at cc
 generalize tnan h m s n = t at *
 generalize tnan h' m' s' n' = t' at *
 have iz : I64 z := by unfold I64; omega
 generalize pnum y' mo' d' h' m' s' n' - pnum y mo d h m s n = pn at r
 clear k k' ev
 rcases hv with rfl | rfl | rfl
 ·refine fn_of Tryz.func42 rfl fun ww => ?_
  refine qF ent40 (r) ?_
  refine qN 30 (decide (L < 1)) ?_
  refine qN 34 (decide (L > 8)) ?_
  refine qN 38 (decide (L > 4)) ?_
  refine qF ent98 (n1) ?_
  refine qF ent98 (n2) ?_
  refine st_i 58 IntKind.i64 (x := IntKind.i64.wrap (t' - t)) ((Go.IntWalk.i64_in (t' - t) (by omega)).trans (ez)) (by kernel_rfl) ?_
  refine qF ent56 (cc) ?_
  refine qI 68 (z * -1) ?_
  refine qN 69 (decide (z * -1 < 0)) ?_
  refine qF ent100 (hu) ?_
  refine qF ent30 (wof_fn (z) (by assumption)) ?_
  refine qF ent97 (hl) ?_
  exact qR Tryz.func42
 ·refine fn_of Tryz.func42 rfl fun ww => ?_
  refine qF ent40 (r) ?_
  refine qN 30 (decide (L < 1)) ?_
  refine qN 34 (decide (L > 8)) ?_
  refine qN 38 (decide (L > 4)) ?_
  refine qF ent98 (n1) ?_
  refine qF ent98 (n2) ?_
  refine st_i 58 IntKind.i64 (x := IntKind.i64.wrap (t' - t)) ((Go.IntWalk.i64_in (t' - t) (by omega)).trans (ez)) (by kernel_rfl) ?_
  refine qF ent56 (cc) ?_
  refine qI 68 (z * 0) ?_
  refine qN 69 (decide (z * 0 < 0)) ?_
  refine qF ent100 (hu) ?_
  refine qF ent30 (wof_fn (z) (by assumption)) ?_
  refine qF ent97 (hl) ?_
  exact qR Tryz.func42
 ·refine fn_of Tryz.func42 rfl fun ww => ?_
  refine qF ent40 (r) ?_
  refine qN 30 (decide (L < 1)) ?_
  refine qN 34 (decide (L > 8)) ?_
  refine qN 38 (decide (L > 4)) ?_
  refine qF ent98 (n1) ?_
  refine qF ent98 (n2) ?_
  refine st_i 58 IntKind.i64 (x := IntKind.i64.wrap (t' - t)) ((Go.IntWalk.i64_in (t' - t) (by omega)).trans (ez)) (by kernel_rfl) ?_
  refine qF ent56 (cc) ?_
  refine qI 68 (z * 1) ?_
  refine qN 69 (decide (z * 1 < 0)) ?_
  refine qF ent100 (hu) ?_
  refine qF ent30 (wof_fn (z) (by assumption)) ?_
  refine qF ent97 (hl) ?_
  exact qR Tryz.func42
theorem cbet_s (k : pOk y mo d h m s n) (k' : pOk y' mo' d' h' m' s' n') (l1 : 1 ≤ L) (l2 : L ≤ 4) (v z : Int) (hv : v = -1 ∨ v = 1) (ev : cmp3 y' mo' d' y mo d = v) (ez : tnan h' m' s' n' - tnan h m s n = z) (hz : z * v < 0) (Y X W F1 F2 F3 F4 e' : Int)
  (hd : Fn 99 [] [dv y' mo' d', .int .i64 (-v)] (.tuple #[dv Y X W, .int .i64 0]))
  (hu : Fn 100 [] [dv y mo d, dv Y X W, .int .i64 L] (.tuple #[duv A B C D 0 0 0 0, .int .i64 e])) (hl : Fn 97 [] [wv (z + v * 86400000000000), .int .i64 5] (.tuple #[duv F1 F2 F3 F4 H M S N, .int .i64 e'])) :
  Fn 42 [] [ptv y mo d h m s n, ptv y' mo' d' h' m' s' n', .int .i64 L] (.tuple #[duv A B C D H M S N, .int .i64 e]) := by
 have r := psince_yes y mo d h m s n y' mo' d' h' m' s' n' k k'
 have n1 := fcnanos_yes h m s n k.2.1
 have n2 := fcnanos_yes h' m' s' n' k'.2.1
 have b1 := tnan_bd k.2.1
 have b2 := tnan_bd k'.2.1
 have cc := ccmp5 y' mo' d' y mo d
 rw [ev] at cc
 generalize tnan h m s n = t at *
 generalize tnan h' m' s' n' = t' at *
 have iz : I64 (z + v * 86400000000000) := by rcases hv with rfl | rfl <;> (unfold I64; omega)
 generalize pnum y' mo' d' h' m' s' n' - pnum y mo d h m s n = pn at r
 clear k k' ev
 rcases hv with rfl | rfl
 ·have iz' : I64 (z + -86400000000000) := by unfold I64; omega
  rw [show z + -1 * 86400000000000 = z + -86400000000000 by omega] at hl
  rw [show -(-1 : Int) = 1 by omega] at hd
  refine fn_of Tryz.func42 rfl fun ww => ?_
  refine qF ent40 (r) ?_
  refine qN 30 (decide (L < 1)) ?_
  refine qN 34 (decide (L > 8)) ?_
  refine qN 38 (decide (L > 4)) ?_
  refine qF ent98 (n1) ?_
  refine qF ent98 (n2) ?_
  refine st_i 58 IntKind.i64 (x := IntKind.i64.wrap (t' - t)) ((Go.IntWalk.i64_in (t' - t) (by omega)).trans (ez)) (by kernel_rfl) ?_
  refine qF ent56 (cc) ?_
  refine qI 68 (z * -1) ?_
  refine qY 69 (decide (z * -1 < 0)) ?_
  refine qI 73 (0 - -1) ?_
  refine qF ent99 (hd) ?_
  refine qI 79 (-1 * 86400000000000) ?_
  refine qI 80 (z + -1 * 86400000000000) ?_
  refine qF ent100 (hu) ?_
  refine qF ent30 (wof_fn (z + -1 * 86400000000000) (by assumption)) ?_
  refine qF ent97 (hl) ?_
  exact qR Tryz.func42
 ·have iz' : I64 (z + 86400000000000) := by unfold I64; omega
  rw [show z + 1 * 86400000000000 = z + 86400000000000 by omega] at hl
  refine fn_of Tryz.func42 rfl fun ww => ?_
  refine qF ent40 (r) ?_
  refine qN 30 (decide (L < 1)) ?_
  refine qN 34 (decide (L > 8)) ?_
  refine qN 38 (decide (L > 4)) ?_
  refine qF ent98 (n1) ?_
  refine qF ent98 (n2) ?_
  refine st_i 58 IntKind.i64 (x := IntKind.i64.wrap (t' - t)) ((Go.IntWalk.i64_in (t' - t) (by omega)).trans (ez)) (by kernel_rfl) ?_
  refine qF ent56 (cc) ?_
  refine qI 68 (z * 1) ?_
  refine qY 69 (decide (z * 1 < 0)) ?_
  refine qI 73 (0 - 1) ?_
  refine qF ent99 (hd) ?_
  refine qI 79 (1 * 86400000000000) ?_
  refine qI 80 (z + 1 * 86400000000000) ?_
  refine qF ent100 (hu) ?_
  refine qF ent30 (wof_fn (z + 1 * 86400000000000) (by assumption)) ?_
  refine qF ent97 (hl) ?_
  exact qR Tryz.func42
end
end Go.Proofs.YthoedmikfpbfnaaGreat
end
section
set_option maxRecDepth 100000
namespace Go.Proofs.YthoedmikfpbfnaaGreat
open Go Go.RowKit Go.Ev

theorem cmpI_sg (x : Int) : (cmpI x 0 = 1 ∧ 0 < x) ∨ (cmpI x 0 = 0 ∧ x = 0) ∨ (cmpI x 0 = -1 ∧ x < 0) := by unfold cmpI; split <;> (try split) <;> omega
theorem cmpI_lt0 {a b : Int} : cmpI a b < 0 ↔ a < b := by unfold cmpI; split <;> (try split) <;> omega
def fl8 (a b c d h mi s n k : Int) : Int := if k = 1 then a else if k = 2 then b else if k = 3 then c else if k = 4 then d else if k = 5 then h else if k = 6 then mi else if k = 7 then s else n
def all64 (a b c d h mi s n : Int) : Prop := I64 a ∧ I64 b ∧ I64 c ∧ I64 d ∧ I64 h ∧ I64 mi ∧ I64 s ∧ I64 n
section
variable (a b c d h mi s n : Int)
theorem usign (i : all64 a b c d h mi s n) : Fn 64 [] [duv a b c d h mi s n] (.int .i64 (sg8 a b c d h mi s n)) := by
 obtain ⟨i1, i2, i3, i4, i5, i6, i7, i8⟩ := i
 refine fn_of Tryz.func64 rfl fun ww => ?_
 refine ufields_row 0 0 (by kernel_rfl) ?_
 refine st_round (by kernel_rfl) ?_
 by_cases k15 : a ≠ 0
 ·refine qV 15 (bne_iff_ne.2 k15) ?_
  refine qF ent30 (wof_fn (a) (by assumption)) ?_
  refine qF ent16 (wsign_fn (a)) ?_
  exact st_retv Tryz.func64 (show vI64 (cmpI a 0) = _ by (refine i_eq ?_; unfold sg8; simp_all)) (by kernel_rfl)
 ·refine qV 15 (bne_eq_false_iff_eq.2 (Classical.not_not.1 k15)) ?_
  refine qI 21 (0 + 1) ?_
  refine st_round (by kernel_rfl) ?_
  by_cases k15 : b ≠ 0
  ·refine qV 15 (bne_iff_ne.2 k15) ?_
   refine qF ent30 (wof_fn (b) (by assumption)) ?_
   refine qF ent16 (wsign_fn (b)) ?_
   exact st_retv Tryz.func64 (show vI64 (cmpI b 0) = _ by (refine i_eq ?_; unfold sg8; simp_all)) (by kernel_rfl)
  ·refine qV 15 (bne_eq_false_iff_eq.2 (Classical.not_not.1 k15)) ?_
   refine qI 21 (0 + 1 + 1) ?_
   refine st_round (by kernel_rfl) ?_
   by_cases k15 : c ≠ 0
   ·refine qV 15 (bne_iff_ne.2 k15) ?_
    refine qF ent30 (wof_fn (c) (by assumption)) ?_
    refine qF ent16 (wsign_fn (c)) ?_
    exact st_retv Tryz.func64 (show vI64 (cmpI c 0) = _ by (refine i_eq ?_; unfold sg8; simp_all)) (by kernel_rfl)
   ·refine qV 15 (bne_eq_false_iff_eq.2 (Classical.not_not.1 k15)) ?_
    refine qI 21 (0 + 1 + 1 + 1) ?_
    refine st_round (by kernel_rfl) ?_
    by_cases k15 : d ≠ 0
    ·refine qV 15 (bne_iff_ne.2 k15) ?_
     refine qF ent30 (wof_fn (d) (by assumption)) ?_
     refine qF ent16 (wsign_fn (d)) ?_
     exact st_retv Tryz.func64 (show vI64 (cmpI d 0) = _ by (refine i_eq ?_; unfold sg8; simp_all)) (by kernel_rfl)
    ·refine qV 15 (bne_eq_false_iff_eq.2 (Classical.not_not.1 k15)) ?_
     refine qI 21 (0 + 1 + 1 + 1 + 1) ?_
     refine st_round (by kernel_rfl) ?_
     by_cases k15 : h ≠ 0
     ·refine qV 15 (bne_iff_ne.2 k15) ?_
      refine qF ent30 (wof_fn (h) (by assumption)) ?_
      refine qF ent16 (wsign_fn (h)) ?_
      exact st_retv Tryz.func64 (show vI64 (cmpI h 0) = _ by (refine i_eq ?_; unfold sg8; simp_all)) (by kernel_rfl)
     ·refine qV 15 (bne_eq_false_iff_eq.2 (Classical.not_not.1 k15)) ?_
      refine qI 21 (0 + 1 + 1 + 1 + 1 + 1) ?_
      refine st_round (by kernel_rfl) ?_
      by_cases k15 : mi ≠ 0
      ·refine qV 15 (bne_iff_ne.2 k15) ?_
       refine qF ent30 (wof_fn (mi) (by assumption)) ?_
       refine qF ent16 (wsign_fn (mi)) ?_
       exact st_retv Tryz.func64 (show vI64 (cmpI mi 0) = _ by (refine i_eq ?_; unfold sg8; simp_all)) (by kernel_rfl)
      ·refine qV 15 (bne_eq_false_iff_eq.2 (Classical.not_not.1 k15)) ?_
       refine qI 21 (0 + 1 + 1 + 1 + 1 + 1 + 1) ?_
       refine st_round (by kernel_rfl) ?_
       by_cases k15 : s ≠ 0
       ·refine qV 15 (bne_iff_ne.2 k15) ?_
        refine qF ent30 (wof_fn (s) (by assumption)) ?_
        refine qF ent16 (wsign_fn (s)) ?_
        exact st_retv Tryz.func64 (show vI64 (cmpI s 0) = _ by (refine i_eq ?_; unfold sg8; simp_all)) (by kernel_rfl)
       ·refine qV 15 (bne_eq_false_iff_eq.2 (Classical.not_not.1 k15)) ?_
        refine qI 21 (0 + 1 + 1 + 1 + 1 + 1 + 1 + 1) ?_
        refine st_round (by kernel_rfl) ?_
        by_cases k15 : n ≠ 0
        ·refine qV 15 (bne_iff_ne.2 k15) ?_
         refine qF ent30 (wof_fn (n) (by assumption)) ?_
         refine qF ent16 (wsign_fn (n)) ?_
         exact st_retv Tryz.func64 (show vI64 (cmpI n 0) = _ by (refine i_eq ?_; unfold sg8; simp_all)) (by kernel_rfl)
        ·refine qV 15 (bne_eq_false_iff_eq.2 (Classical.not_not.1 k15)) ?_
         refine qI 21 (0 + 1 + 1 + 1 + 1 + 1 + 1 + 1 + 1) ?_
         refine st_round (by kernel_rfl) ?_
         exact st_retv Tryz.func64 (show vI64 0 = _ by (refine i_eq ?_; unfold sg8; simp_all [cmpI])) (by kernel_rfl)
theorem qBDud0 {f0 : FuncId} {w0 : World} {R : Ending → World → Prop} {L : ZL} {c : Cf} {X : Type} {c0 : Cf} {I : X → List SV × List Bk} {Lf : X → ZL} {p : X → Prop} {m : X → Nat} {x : X} (hb : Back ⟨Tryz.prog, f0, [3], w0, R⟩ c0 I Lf p m x) (x' : X) (hp : p x' := by first | (refine b_eq (decide_eq_false ?_).symm; unfold uOk pos8 neg8 cnt1 LIM; omega) | (refine b_eq (decide_eq_decide.2 ?_); unfold uOk pos8 neg8 cnt1 LIM; rw [qt]; unfold dtot; omega) | omega | (simp only []; omega) | (simp; omega) | assumption | simp_all) (hm : m x' < m x := by first | omega | (simp only []; omega) | (simp; omega)) (hL : Sub (Lf x') L := by exact fun p hp => by first | exact hp | simp_all)
 (h0 : fb (adv Tryz.prog [3] 9999 400 c) = I x' := by kernel_rfl) (hc : loopBack (adv Tryz.prog [3] 9999 400 c) = loopAt c0 := by kernel_rfl) (hs : (loopAt c0).isSome = true := by kernel_rfl) : Ru ⟨Tryz.prog, f0, [3], w0, R⟩ (ZAll L) c := qB hb x' hp hm hL h0 hc hs
theorem uright_p (i : all64 a b c d h mi s n) (hs : sg8 a b c d h mi s n = 1) (hk : 0 < a ∨ a = 0 ∧ (0 < b ∨ b = 0 ∧ (0 < c ∨ c = 0 ∧ (0 < d ∨ d = 0 ∧ (0 < h ∨ h = 0 ∧ (0 < mi ∨ mi = 0 ∧ (0 < s ∨ s = 0 ∧ 0 < n))))))) : Fn 25 [] [duv a b c d h mi s n] (.bool (decide (uOk a b c d h mi s n))) := by
 have us := usign a b c d h mi s n i
 rw [hs] at us
 obtain ⟨i1, i2, i3, i4, i5, i6, i7, i8⟩ := i
 have wt : W128 (dtot d h mi s n) ∧ W128 (-dtot d h mi s n) := by unfold I64 at *; unfold W128 dtot; omega
 obtain ⟨wt1, wt2⟩ := wt
 have ut := utot a b c d h mi s n i4 i5 i6 i7 i8
 have qt := cmpI_lt0 (a := dtot d h mi s n) (b := 9007199254740992000000000)
 refine fn_of Tryz.func25 rfl fun ww => ?_
 refine qF ent64 (us) ?_
 refine ufields_row 0 0 (by kernel_rfl) ?_
 refine qG [0,1,3,7,8,9,10,11,12,46,47,48,49,50,51,52,53,54,55,56,57,58] ?_
 refine st_loop (X := Int) (fun x => ([SV.val (Value.agg #[vI64 a,vI64 b,vI64 c,vI64 d,vI64 h,vI64 mi,vI64 s,vI64 n]),SV.ptr 0 0,.any,SV.val (vI64 1),.any,.any,.any,svZ,SV.val (Value.agg #[vI64 a,vI64 b,vI64 c,vI64 d,vI64 h,vI64 mi,vI64 s,vI64 n]),SV.val (vI64 1),SV.sl 1 0 9 9,SV.val (vI64 (↑9 : Int)),.val (.int .i64 x),.any,.any,.any,.any,.any,.any,.any,.any,.any,.any,.any,.any,.any,.any,.any,.any,.any,.any,.any,.any,.any,.any,.any,.any,.any,.any,.any,.any,.any,.any,.any,.any,.any,svZ,svZ,svZ,svZ,svZ,svZ,svZ,svZ,svZ,svZ,svZ,svZ,svZ],[⟨[SV.val (vI64 a),SV.val (vI64 b),SV.val (vI64 c),SV.val (vI64 d),SV.val (vI64 h),SV.val (vI64 mi),SV.val (vI64 s),SV.val (vI64 n)],51⟩,⟨[SV.val (Value.pointer none),SV.ptr 0 0,SV.ptr 0 1,SV.ptr 0 2,SV.ptr 0 3,SV.ptr 0 4,SV.ptr 0 5,SV.ptr 0 6,SV.ptr 0 7],113⟩])) (fun _ => _) (fun k => 0 ≤ k ∧ k ≤ 9 ∧ (1 < k → 0 ≤ a ∧ -4294967295 ≤ a ∧ a ≤ 4294967295) ∧ (2 < k → 0 ≤ b ∧ -4294967295 ≤ b ∧ b ≤ 4294967295) ∧ (3 < k → 0 ≤ c ∧ -4294967295 ≤ c ∧ c ≤ 4294967295) ∧ (4 < k → 0 ≤ d) ∧ (5 < k → 0 ≤ h) ∧ (6 < k → 0 ≤ mi) ∧ (7 < k → 0 ≤ s) ∧ (8 < k → 0 ≤ n)) (fun k => (9 - k).toNat) (0) (by kernel_rfl) (by kernel_rfl) Sub.refl (by first | omega | (simp; omega) | assumption | simp_all) (fun y0 px0 back0 => ?_)
 (have q := cmpI_sg (fl8 a b c d h mi s n y0); have hk0 : y0 = 0 ∨ y0 = 1 ∨ y0 = 2 ∨ y0 = 3 ∨ y0 = 4 ∨ y0 = 5 ∨ y0 = 6 ∨ y0 = 7 ∨ y0 = 8 ∨ y0 = 9 := (by omega); rcases hk0 with rfl | rfl | rfl | rfl | rfl | rfl | rfl | rfl | rfl | rfl <;> simp only [fl8, Int.reduceEq, if_true, if_false] at q)
 ·have _hh := True.intro
  refine qI 45 (0 + 1) ?_
  refine qG [0,1,2,3,6,7,8,9,10,11,12,19,20,21,22,23,24,25,26,27,28,29,30,31,32,33,34,35,36,37,38,39,40,41,42,43,44,46,47,48,49,50,51,52,53,54,55,56,57,58] ?_
  exact qBDud0 back0 (0 + 1)
 ·have _hh := True.intro
  refine qF ent30 (wof_fn (a) (by assumption)) ?_
  refine qF ent16 (wsign_fn (a)) ?_
  by_cases k25 : cmpI a 0 ≠ 0
  ·refine qV 25 (bne_iff_ne.2 k25) ?_
   refine qV 29 (show (cmpI a 0 != 1) = false by exact bne_eq_false_iff_eq.2 (by omega)) ?_
   by_cases k37 : a > 4294967295
   ·refine qV 37 (decide_eq_true k37) ?_
    exact st_retv Tryz.func25 (show Value.bool (false) = _ by (refine b_eq (decide_eq_false ?_).symm; unfold uOk pos8 neg8 cnt1 LIM; omega)) (by kernel_rfl)
   ·refine qV 37 (decide_eq_false k37) ?_
    refine qN 42 (decide (a < -4294967295)) ?_
    refine qI 45 (1 + 1) ?_
    refine qG [0,1,2,3,7,8,9,10,11,12,46,47,48,49,50,51,52,53,54,55,56,57,58] ?_
    exact qBDud0 back0 (1 + 1)
  ·refine qV 25 (bne_eq_false_iff_eq.2 (Classical.not_not.1 k25)) ?_
   refine qN 37 (decide (a > 4294967295)) ?_
   refine qN 42 (decide (a < -4294967295)) ?_
   refine qI 45 (1 + 1) ?_
   refine qG [0,1,2,3,7,8,9,10,11,12,46,47,48,49,50,51,52,53,54,55,56,57,58] ?_
   exact qBDud0 back0 (1 + 1)
 ·have _hh := True.intro
  refine qF ent30 (wof_fn (b) (by assumption)) ?_
  refine qF ent16 (wsign_fn (b)) ?_
  by_cases k25 : cmpI b 0 ≠ 0
  ·refine qV 25 (bne_iff_ne.2 k25) ?_
   by_cases k29 : cmpI b 0 ≠ 1
   ·refine qV 29 (bne_iff_ne.2 k29) ?_
    exact st_retv Tryz.func25 (show Value.bool (false) = _ by (refine b_eq (decide_eq_false ?_).symm; unfold uOk pos8 neg8 cnt1 LIM; omega)) (by kernel_rfl)
   ·refine qV 29 (bne_eq_false_iff_eq.2 (Classical.not_not.1 k29)) ?_
    by_cases k37 : b > 4294967295
    ·refine qV 37 (decide_eq_true k37) ?_
     exact st_retv Tryz.func25 (show Value.bool (false) = _ by (refine b_eq (decide_eq_false ?_).symm; unfold uOk pos8 neg8 cnt1 LIM; omega)) (by kernel_rfl)
    ·refine qV 37 (decide_eq_false k37) ?_
     refine qN 42 (decide (b < -4294967295)) ?_
     refine qI 45 (2 + 1) ?_
     refine qG [0,1,2,3,7,8,9,10,11,12,46,47,48,49,50,51,52,53,54,55,56,57,58] ?_
     exact qBDud0 back0 (2 + 1)
  ·refine qV 25 (bne_eq_false_iff_eq.2 (Classical.not_not.1 k25)) ?_
   refine qN 37 (decide (b > 4294967295)) ?_
   refine qN 42 (decide (b < -4294967295)) ?_
   refine qI 45 (2 + 1) ?_
   refine qG [0,1,2,3,7,8,9,10,11,12,46,47,48,49,50,51,52,53,54,55,56,57,58] ?_
   exact qBDud0 back0 (2 + 1)
 ·have _hh := True.intro
  refine qF ent30 (wof_fn (c) (by assumption)) ?_
  refine qF ent16 (wsign_fn (c)) ?_
  by_cases k25 : cmpI c 0 ≠ 0
  ·refine qV 25 (bne_iff_ne.2 k25) ?_
   by_cases k29 : cmpI c 0 ≠ 1
   ·refine qV 29 (bne_iff_ne.2 k29) ?_
    exact st_retv Tryz.func25 (show Value.bool (false) = _ by (refine b_eq (decide_eq_false ?_).symm; unfold uOk pos8 neg8 cnt1 LIM; omega)) (by kernel_rfl)
   ·refine qV 29 (bne_eq_false_iff_eq.2 (Classical.not_not.1 k29)) ?_
    by_cases k37 : c > 4294967295
    ·refine qV 37 (decide_eq_true k37) ?_
     exact st_retv Tryz.func25 (show Value.bool (false) = _ by (refine b_eq (decide_eq_false ?_).symm; unfold uOk pos8 neg8 cnt1 LIM; omega)) (by kernel_rfl)
    ·refine qV 37 (decide_eq_false k37) ?_
     refine qN 42 (decide (c < -4294967295)) ?_
     refine qI 45 (3 + 1) ?_
     refine qG [0,1,2,3,7,8,9,10,11,12,46,47,48,49,50,51,52,53,54,55,56,57,58] ?_
     exact qBDud0 back0 (3 + 1)
  ·refine qV 25 (bne_eq_false_iff_eq.2 (Classical.not_not.1 k25)) ?_
   refine qN 37 (decide (c > 4294967295)) ?_
   refine qN 42 (decide (c < -4294967295)) ?_
   refine qI 45 (3 + 1) ?_
   refine qG [0,1,2,3,7,8,9,10,11,12,46,47,48,49,50,51,52,53,54,55,56,57,58] ?_
   exact qBDud0 back0 (3 + 1)
 ·have _hh := True.intro
  refine qF ent30 (wof_fn (d) (by assumption)) ?_
  refine qF ent16 (wsign_fn (d)) ?_
  by_cases k25 : cmpI d 0 ≠ 0
  ·refine qV 25 (bne_iff_ne.2 k25) ?_
   by_cases k29 : cmpI d 0 ≠ 1
   ·refine qV 29 (bne_iff_ne.2 k29) ?_
    exact st_retv Tryz.func25 (show Value.bool (false) = _ by (refine b_eq (decide_eq_false ?_).symm; unfold uOk pos8 neg8 cnt1 LIM; omega)) (by kernel_rfl)
   ·refine qV 29 (bne_eq_false_iff_eq.2 (Classical.not_not.1 k29)) ?_
    refine qI 45 (4 + 1) ?_
    refine qG [0,1,2,3,7,8,9,10,11,12,46,47,48,49,50,51,52,53,54,55,56,57,58] ?_
    exact qBDud0 back0 (4 + 1)
  ·refine qV 25 (bne_eq_false_iff_eq.2 (Classical.not_not.1 k25)) ?_
   refine qI 45 (4 + 1) ?_
   refine qG [0,1,2,3,7,8,9,10,11,12,46,47,48,49,50,51,52,53,54,55,56,57,58] ?_
   exact qBDud0 back0 (4 + 1)
 ·have _hh := True.intro
  refine qF ent30 (wof_fn (h) (by assumption)) ?_
  refine qF ent16 (wsign_fn (h)) ?_
  by_cases k25 : cmpI h 0 ≠ 0
  ·refine qV 25 (bne_iff_ne.2 k25) ?_
   by_cases k29 : cmpI h 0 ≠ 1
   ·refine qV 29 (bne_iff_ne.2 k29) ?_
    exact st_retv Tryz.func25 (show Value.bool (false) = _ by (refine b_eq (decide_eq_false ?_).symm; unfold uOk pos8 neg8 cnt1 LIM; omega)) (by kernel_rfl)
   ·refine qV 29 (bne_eq_false_iff_eq.2 (Classical.not_not.1 k29)) ?_
    refine qI 45 (5 + 1) ?_
    refine qG [0,1,2,3,7,8,9,10,11,12,46,47,48,49,50,51,52,53,54,55,56,57,58] ?_
    exact qBDud0 back0 (5 + 1)
  ·refine qV 25 (bne_eq_false_iff_eq.2 (Classical.not_not.1 k25)) ?_
   refine qI 45 (5 + 1) ?_
   refine qG [0,1,2,3,7,8,9,10,11,12,46,47,48,49,50,51,52,53,54,55,56,57,58] ?_
   exact qBDud0 back0 (5 + 1)
 ·have _hh := True.intro
  refine qF ent30 (wof_fn (mi) (by assumption)) ?_
  refine qF ent16 (wsign_fn (mi)) ?_
  by_cases k25 : cmpI mi 0 ≠ 0
  ·refine qV 25 (bne_iff_ne.2 k25) ?_
   by_cases k29 : cmpI mi 0 ≠ 1
   ·refine qV 29 (bne_iff_ne.2 k29) ?_
    exact st_retv Tryz.func25 (show Value.bool (false) = _ by (refine b_eq (decide_eq_false ?_).symm; unfold uOk pos8 neg8 cnt1 LIM; omega)) (by kernel_rfl)
   ·refine qV 29 (bne_eq_false_iff_eq.2 (Classical.not_not.1 k29)) ?_
    refine qI 45 (6 + 1) ?_
    refine qG [0,1,2,3,7,8,9,10,11,12,46,47,48,49,50,51,52,53,54,55,56,57,58] ?_
    exact qBDud0 back0 (6 + 1)
  ·refine qV 25 (bne_eq_false_iff_eq.2 (Classical.not_not.1 k25)) ?_
   refine qI 45 (6 + 1) ?_
   refine qG [0,1,2,3,7,8,9,10,11,12,46,47,48,49,50,51,52,53,54,55,56,57,58] ?_
   exact qBDud0 back0 (6 + 1)
 ·have _hh := True.intro
  refine qF ent30 (wof_fn (s) (by assumption)) ?_
  refine qF ent16 (wsign_fn (s)) ?_
  by_cases k25 : cmpI s 0 ≠ 0
  ·refine qV 25 (bne_iff_ne.2 k25) ?_
   by_cases k29 : cmpI s 0 ≠ 1
   ·refine qV 29 (bne_iff_ne.2 k29) ?_
    exact st_retv Tryz.func25 (show Value.bool (false) = _ by (refine b_eq (decide_eq_false ?_).symm; unfold uOk pos8 neg8 cnt1 LIM; omega)) (by kernel_rfl)
   ·refine qV 29 (bne_eq_false_iff_eq.2 (Classical.not_not.1 k29)) ?_
    refine qI 45 (7 + 1) ?_
    refine qG [0,1,2,3,7,8,9,10,11,12,46,47,48,49,50,51,52,53,54,55,56,57,58] ?_
    exact qBDud0 back0 (7 + 1)
  ·refine qV 25 (bne_eq_false_iff_eq.2 (Classical.not_not.1 k25)) ?_
   refine qI 45 (7 + 1) ?_
   refine qG [0,1,2,3,7,8,9,10,11,12,46,47,48,49,50,51,52,53,54,55,56,57,58] ?_
   exact qBDud0 back0 (7 + 1)
 ·have _hh := True.intro
  refine qF ent30 (wof_fn (n) (by assumption)) ?_
  refine qF ent16 (wsign_fn (n)) ?_
  by_cases k25 : cmpI n 0 ≠ 0
  ·refine qV 25 (bne_iff_ne.2 k25) ?_
   by_cases k29 : cmpI n 0 ≠ 1
   ·refine qV 29 (bne_iff_ne.2 k29) ?_
    exact st_retv Tryz.func25 (show Value.bool (false) = _ by (refine b_eq (decide_eq_false ?_).symm; unfold uOk pos8 neg8 cnt1 LIM; omega)) (by kernel_rfl)
   ·refine qV 29 (bne_eq_false_iff_eq.2 (Classical.not_not.1 k29)) ?_
    refine qI 45 (8 + 1) ?_
    refine qG [0,1,2,3,7,8,9,10,11,12,46,47,48,49,50,51,52,53,54,55,56,57,58] ?_
    exact qBDud0 back0 (8 + 1)
  ·refine qV 25 (bne_eq_false_iff_eq.2 (Classical.not_not.1 k25)) ?_
   refine qI 45 (8 + 1) ?_
   refine qG [0,1,2,3,7,8,9,10,11,12,46,47,48,49,50,51,52,53,54,55,56,57,58] ?_
   exact qBDud0 back0 (8 + 1)
 ·have _hh := True.intro
  refine qF ent66 (ut) ?_
  refine qF ent68 (ulimit) ?_
  refine qF ent55 (wcmp_fn (dtot d h mi s n) (9007199254740992000000000)) ?_
  exact st_retv Tryz.func25 (show Value.bool (decide (cmpI (dtot d h mi s n) 9007199254740992000000000 < 0)) = _ by (refine b_eq (decide_eq_decide.2 ?_); unfold uOk pos8 neg8 cnt1 LIM; rw [qt]; unfold dtot; omega)) (by kernel_rfl)
theorem uright_n (i : all64 a b c d h mi s n) (hs : sg8 a b c d h mi s n = -1) (hk : a < 0 ∨ a = 0 ∧ (b < 0 ∨ b = 0 ∧ (c < 0 ∨ c = 0 ∧ (d < 0 ∨ d = 0 ∧ (h < 0 ∨ h = 0 ∧ (mi < 0 ∨ mi = 0 ∧ (s < 0 ∨ s = 0 ∧ n < 0))))))) : Fn 25 [] [duv a b c d h mi s n] (.bool (decide (uOk a b c d h mi s n))) := by
 have us := usign a b c d h mi s n i
 rw [hs] at us
 obtain ⟨i1, i2, i3, i4, i5, i6, i7, i8⟩ := i
 have wt : W128 (dtot d h mi s n) ∧ W128 (-dtot d h mi s n) := by unfold I64 at *; unfold W128 dtot; omega
 obtain ⟨wt1, wt2⟩ := wt
 have ut := utot a b c d h mi s n i4 i5 i6 i7 i8
 have qt := cmpI_lt0 (a := -dtot d h mi s n) (b := 9007199254740992000000000)
 refine fn_of Tryz.func25 rfl fun ww => ?_
 refine qF ent64 (us) ?_
 refine ufields_row 0 0 (by kernel_rfl) ?_
 refine qG [0,1,3,7,8,9,10,11,12,46,47,48,49,50,51,52,53,54,55,56,57,58] ?_
 refine st_loop (X := Int) (fun x => ([SV.val (Value.agg #[vI64 a,vI64 b,vI64 c,vI64 d,vI64 h,vI64 mi,vI64 s,vI64 n]),SV.ptr 0 0,.any,SV.val (vI64 (-1)),.any,.any,.any,svZ,SV.val (Value.agg #[vI64 a,vI64 b,vI64 c,vI64 d,vI64 h,vI64 mi,vI64 s,vI64 n]),SV.val (vI64 (-1)),SV.sl 1 0 9 9,SV.val (vI64 (↑9 : Int)),.val (.int .i64 x),.any,.any,.any,.any,.any,.any,.any,.any,.any,.any,.any,.any,.any,.any,.any,.any,.any,.any,.any,.any,.any,.any,.any,.any,.any,.any,.any,.any,.any,.any,.any,.any,.any,svZ,svZ,svZ,svZ,svZ,svZ,svZ,svZ,svZ,svZ,svZ,svZ,svZ],[⟨[SV.val (vI64 a),SV.val (vI64 b),SV.val (vI64 c),SV.val (vI64 d),SV.val (vI64 h),SV.val (vI64 mi),SV.val (vI64 s),SV.val (vI64 n)],51⟩,⟨[SV.val (Value.pointer none),SV.ptr 0 0,SV.ptr 0 1,SV.ptr 0 2,SV.ptr 0 3,SV.ptr 0 4,SV.ptr 0 5,SV.ptr 0 6,SV.ptr 0 7],113⟩])) (fun _ => _) (fun k => 0 ≤ k ∧ k ≤ 9 ∧ (1 < k → a ≤ 0 ∧ -4294967295 ≤ a ∧ a ≤ 4294967295) ∧ (2 < k → b ≤ 0 ∧ -4294967295 ≤ b ∧ b ≤ 4294967295) ∧ (3 < k → c ≤ 0 ∧ -4294967295 ≤ c ∧ c ≤ 4294967295) ∧ (4 < k → d ≤ 0) ∧ (5 < k → h ≤ 0) ∧ (6 < k → mi ≤ 0) ∧ (7 < k → s ≤ 0) ∧ (8 < k → n ≤ 0)) (fun k => (9 - k).toNat) (0) (by kernel_rfl) (by kernel_rfl) Sub.refl (by first | omega | (simp; omega) | assumption | simp_all) (fun y0 px0 back0 => ?_)
 (have q := cmpI_sg (fl8 a b c d h mi s n y0); have hk0 : y0 = 0 ∨ y0 = 1 ∨ y0 = 2 ∨ y0 = 3 ∨ y0 = 4 ∨ y0 = 5 ∨ y0 = 6 ∨ y0 = 7 ∨ y0 = 8 ∨ y0 = 9 := (by omega); rcases hk0 with rfl | rfl | rfl | rfl | rfl | rfl | rfl | rfl | rfl | rfl <;> simp only [fl8, Int.reduceEq, if_true, if_false] at q)
 ·have _hh := True.intro
  refine qI 45 (0 + 1) ?_
  refine qG [0,1,2,3,6,7,8,9,10,11,12,19,20,21,22,23,24,25,26,27,28,29,30,31,32,33,34,35,36,37,38,39,40,41,42,43,44,46,47,48,49,50,51,52,53,54,55,56,57,58] ?_
  exact qBDud0 back0 (0 + 1)
 ·have _hh := True.intro
  refine qF ent30 (wof_fn (a) (by assumption)) ?_
  refine qF ent16 (wsign_fn (a)) ?_
  by_cases k25 : cmpI a 0 ≠ 0
  ·refine qV 25 (bne_iff_ne.2 k25) ?_
   refine qV 29 (show (cmpI a 0 != -1) = false by exact bne_eq_false_iff_eq.2 (by omega)) ?_
   refine qN 37 (decide (a > 4294967295)) ?_
   by_cases k42 : a < -4294967295
   ·refine qV 42 (decide_eq_true k42) ?_
    exact st_retv Tryz.func25 (show Value.bool (false) = _ by (refine b_eq (decide_eq_false ?_).symm; unfold uOk pos8 neg8 cnt1 LIM; omega)) (by kernel_rfl)
   ·refine qV 42 (decide_eq_false k42) ?_
    refine qI 45 (1 + 1) ?_
    refine qG [0,1,2,3,7,8,9,10,11,12,46,47,48,49,50,51,52,53,54,55,56,57,58] ?_
    exact qBDud0 back0 (1 + 1)
  ·refine qV 25 (bne_eq_false_iff_eq.2 (Classical.not_not.1 k25)) ?_
   refine qN 37 (decide (a > 4294967295)) ?_
   refine qN 42 (decide (a < -4294967295)) ?_
   refine qI 45 (1 + 1) ?_
   refine qG [0,1,2,3,7,8,9,10,11,12,46,47,48,49,50,51,52,53,54,55,56,57,58] ?_
   exact qBDud0 back0 (1 + 1)
 ·have _hh := True.intro
  refine qF ent30 (wof_fn (b) (by assumption)) ?_
  refine qF ent16 (wsign_fn (b)) ?_
  by_cases k25 : cmpI b 0 ≠ 0
  ·refine qV 25 (bne_iff_ne.2 k25) ?_
   by_cases k29 : cmpI b 0 ≠ -1
   ·refine qV 29 (bne_iff_ne.2 k29) ?_
    exact st_retv Tryz.func25 (show Value.bool (false) = _ by (refine b_eq (decide_eq_false ?_).symm; unfold uOk pos8 neg8 cnt1 LIM; omega)) (by kernel_rfl)
   ·refine qV 29 (bne_eq_false_iff_eq.2 (Classical.not_not.1 k29)) ?_
    refine qN 37 (decide (b > 4294967295)) ?_
    by_cases k42 : b < -4294967295
    ·refine qV 42 (decide_eq_true k42) ?_
     exact st_retv Tryz.func25 (show Value.bool (false) = _ by (refine b_eq (decide_eq_false ?_).symm; unfold uOk pos8 neg8 cnt1 LIM; omega)) (by kernel_rfl)
    ·refine qV 42 (decide_eq_false k42) ?_
     refine qI 45 (2 + 1) ?_
     refine qG [0,1,2,3,7,8,9,10,11,12,46,47,48,49,50,51,52,53,54,55,56,57,58] ?_
     exact qBDud0 back0 (2 + 1)
  ·refine qV 25 (bne_eq_false_iff_eq.2 (Classical.not_not.1 k25)) ?_
   refine qN 37 (decide (b > 4294967295)) ?_
   refine qN 42 (decide (b < -4294967295)) ?_
   refine qI 45 (2 + 1) ?_
   refine qG [0,1,2,3,7,8,9,10,11,12,46,47,48,49,50,51,52,53,54,55,56,57,58] ?_
   exact qBDud0 back0 (2 + 1)
 ·have _hh := True.intro
  refine qF ent30 (wof_fn (c) (by assumption)) ?_
  refine qF ent16 (wsign_fn (c)) ?_
  by_cases k25 : cmpI c 0 ≠ 0
  ·refine qV 25 (bne_iff_ne.2 k25) ?_
   by_cases k29 : cmpI c 0 ≠ -1
   ·refine qV 29 (bne_iff_ne.2 k29) ?_
    exact st_retv Tryz.func25 (show Value.bool (false) = _ by (refine b_eq (decide_eq_false ?_).symm; unfold uOk pos8 neg8 cnt1 LIM; omega)) (by kernel_rfl)
   ·refine qV 29 (bne_eq_false_iff_eq.2 (Classical.not_not.1 k29)) ?_
    refine qN 37 (decide (c > 4294967295)) ?_
    by_cases k42 : c < -4294967295
    ·refine qV 42 (decide_eq_true k42) ?_
     exact st_retv Tryz.func25 (show Value.bool (false) = _ by (refine b_eq (decide_eq_false ?_).symm; unfold uOk pos8 neg8 cnt1 LIM; omega)) (by kernel_rfl)
    ·refine qV 42 (decide_eq_false k42) ?_
     refine qI 45 (3 + 1) ?_
     refine qG [0,1,2,3,7,8,9,10,11,12,46,47,48,49,50,51,52,53,54,55,56,57,58] ?_
     exact qBDud0 back0 (3 + 1)
  ·refine qV 25 (bne_eq_false_iff_eq.2 (Classical.not_not.1 k25)) ?_
   refine qN 37 (decide (c > 4294967295)) ?_
   refine qN 42 (decide (c < -4294967295)) ?_
   refine qI 45 (3 + 1) ?_
   refine qG [0,1,2,3,7,8,9,10,11,12,46,47,48,49,50,51,52,53,54,55,56,57,58] ?_
   exact qBDud0 back0 (3 + 1)
 ·have _hh := True.intro
  refine qF ent30 (wof_fn (d) (by assumption)) ?_
  refine qF ent16 (wsign_fn (d)) ?_
  by_cases k25 : cmpI d 0 ≠ 0
  ·refine qV 25 (bne_iff_ne.2 k25) ?_
   by_cases k29 : cmpI d 0 ≠ -1
   ·refine qV 29 (bne_iff_ne.2 k29) ?_
    exact st_retv Tryz.func25 (show Value.bool (false) = _ by (refine b_eq (decide_eq_false ?_).symm; unfold uOk pos8 neg8 cnt1 LIM; omega)) (by kernel_rfl)
   ·refine qV 29 (bne_eq_false_iff_eq.2 (Classical.not_not.1 k29)) ?_
    refine qI 45 (4 + 1) ?_
    refine qG [0,1,2,3,7,8,9,10,11,12,46,47,48,49,50,51,52,53,54,55,56,57,58] ?_
    exact qBDud0 back0 (4 + 1)
  ·refine qV 25 (bne_eq_false_iff_eq.2 (Classical.not_not.1 k25)) ?_
   refine qI 45 (4 + 1) ?_
   refine qG [0,1,2,3,7,8,9,10,11,12,46,47,48,49,50,51,52,53,54,55,56,57,58] ?_
   exact qBDud0 back0 (4 + 1)
 ·have _hh := True.intro
  refine qF ent30 (wof_fn (h) (by assumption)) ?_
  refine qF ent16 (wsign_fn (h)) ?_
  by_cases k25 : cmpI h 0 ≠ 0
  ·refine qV 25 (bne_iff_ne.2 k25) ?_
   by_cases k29 : cmpI h 0 ≠ -1
   ·refine qV 29 (bne_iff_ne.2 k29) ?_
    exact st_retv Tryz.func25 (show Value.bool (false) = _ by (refine b_eq (decide_eq_false ?_).symm; unfold uOk pos8 neg8 cnt1 LIM; omega)) (by kernel_rfl)
   ·refine qV 29 (bne_eq_false_iff_eq.2 (Classical.not_not.1 k29)) ?_
    refine qI 45 (5 + 1) ?_
    refine qG [0,1,2,3,7,8,9,10,11,12,46,47,48,49,50,51,52,53,54,55,56,57,58] ?_
    exact qBDud0 back0 (5 + 1)
  ·refine qV 25 (bne_eq_false_iff_eq.2 (Classical.not_not.1 k25)) ?_
   refine qI 45 (5 + 1) ?_
   refine qG [0,1,2,3,7,8,9,10,11,12,46,47,48,49,50,51,52,53,54,55,56,57,58] ?_
   exact qBDud0 back0 (5 + 1)
 ·have _hh := True.intro
  refine qF ent30 (wof_fn (mi) (by assumption)) ?_
  refine qF ent16 (wsign_fn (mi)) ?_
  by_cases k25 : cmpI mi 0 ≠ 0
  ·refine qV 25 (bne_iff_ne.2 k25) ?_
   by_cases k29 : cmpI mi 0 ≠ -1
   ·refine qV 29 (bne_iff_ne.2 k29) ?_
    exact st_retv Tryz.func25 (show Value.bool (false) = _ by (refine b_eq (decide_eq_false ?_).symm; unfold uOk pos8 neg8 cnt1 LIM; omega)) (by kernel_rfl)
   ·refine qV 29 (bne_eq_false_iff_eq.2 (Classical.not_not.1 k29)) ?_
    refine qI 45 (6 + 1) ?_
    refine qG [0,1,2,3,7,8,9,10,11,12,46,47,48,49,50,51,52,53,54,55,56,57,58] ?_
    exact qBDud0 back0 (6 + 1)
  ·refine qV 25 (bne_eq_false_iff_eq.2 (Classical.not_not.1 k25)) ?_
   refine qI 45 (6 + 1) ?_
   refine qG [0,1,2,3,7,8,9,10,11,12,46,47,48,49,50,51,52,53,54,55,56,57,58] ?_
   exact qBDud0 back0 (6 + 1)
 ·have _hh := True.intro
  refine qF ent30 (wof_fn (s) (by assumption)) ?_
  refine qF ent16 (wsign_fn (s)) ?_
  by_cases k25 : cmpI s 0 ≠ 0
  ·refine qV 25 (bne_iff_ne.2 k25) ?_
   by_cases k29 : cmpI s 0 ≠ -1
   ·refine qV 29 (bne_iff_ne.2 k29) ?_
    exact st_retv Tryz.func25 (show Value.bool (false) = _ by (refine b_eq (decide_eq_false ?_).symm; unfold uOk pos8 neg8 cnt1 LIM; omega)) (by kernel_rfl)
   ·refine qV 29 (bne_eq_false_iff_eq.2 (Classical.not_not.1 k29)) ?_
    refine qI 45 (7 + 1) ?_
    refine qG [0,1,2,3,7,8,9,10,11,12,46,47,48,49,50,51,52,53,54,55,56,57,58] ?_
    exact qBDud0 back0 (7 + 1)
  ·refine qV 25 (bne_eq_false_iff_eq.2 (Classical.not_not.1 k25)) ?_
   refine qI 45 (7 + 1) ?_
   refine qG [0,1,2,3,7,8,9,10,11,12,46,47,48,49,50,51,52,53,54,55,56,57,58] ?_
   exact qBDud0 back0 (7 + 1)
 ·have _hh := True.intro
  refine qF ent30 (wof_fn (n) (by assumption)) ?_
  refine qF ent16 (wsign_fn (n)) ?_
  by_cases k25 : cmpI n 0 ≠ 0
  ·refine qV 25 (bne_iff_ne.2 k25) ?_
   by_cases k29 : cmpI n 0 ≠ -1
   ·refine qV 29 (bne_iff_ne.2 k29) ?_
    exact st_retv Tryz.func25 (show Value.bool (false) = _ by (refine b_eq (decide_eq_false ?_).symm; unfold uOk pos8 neg8 cnt1 LIM; omega)) (by kernel_rfl)
   ·refine qV 29 (bne_eq_false_iff_eq.2 (Classical.not_not.1 k29)) ?_
    refine qI 45 (8 + 1) ?_
    refine qG [0,1,2,3,7,8,9,10,11,12,46,47,48,49,50,51,52,53,54,55,56,57,58] ?_
    exact qBDud0 back0 (8 + 1)
  ·refine qV 25 (bne_eq_false_iff_eq.2 (Classical.not_not.1 k25)) ?_
   refine qI 45 (8 + 1) ?_
   refine qG [0,1,2,3,7,8,9,10,11,12,46,47,48,49,50,51,52,53,54,55,56,57,58] ?_
   exact qBDud0 back0 (8 + 1)
 ·have _hh := True.intro
  refine qF ent66 (ut) ?_
  refine qF ent67 (wneg_yes (dtot d h mi s n) (by assumption) (by assumption)) ?_
  refine qF ent68 (ulimit) ?_
  refine qF ent55 (wcmp_fn (-dtot d h mi s n) (9007199254740992000000000)) ?_
  exact st_retv Tryz.func25 (show Value.bool (decide (cmpI (-dtot d h mi s n) 9007199254740992000000000 < 0)) = _ by (refine b_eq (decide_eq_decide.2 ?_); unfold uOk pos8 neg8 cnt1 LIM; rw [qt]; unfold dtot; omega)) (by kernel_rfl)
theorem uright_z (i : all64 a b c d h mi s n) (hs : sg8 a b c d h mi s n = 0) (hk : a = 0 ∧ b = 0 ∧ c = 0 ∧ d = 0 ∧ h = 0 ∧ mi = 0 ∧ s = 0 ∧ n = 0) : Fn 25 [] [duv a b c d h mi s n] (.bool (decide (uOk a b c d h mi s n))) := by
 have us := usign a b c d h mi s n i
 rw [hs] at us
 obtain ⟨i1, i2, i3, i4, i5, i6, i7, i8⟩ := i
 have wt : W128 (dtot d h mi s n) ∧ W128 (-dtot d h mi s n) := by unfold I64 at *; unfold W128 dtot; omega
 obtain ⟨wt1, wt2⟩ := wt
 have ut := utot a b c d h mi s n i4 i5 i6 i7 i8
 have qt := cmpI_lt0 (a := dtot d h mi s n) (b := 9007199254740992000000000)
 refine fn_of Tryz.func25 rfl fun ww => ?_
 refine qF ent64 (us) ?_
 refine ufields_row 0 0 (by kernel_rfl) ?_
 refine qG [0,1,3,7,8,9,10,11,12,46,47,48,49,50,51,52,53,54,55,56,57,58] ?_
 refine st_loop (X := Int) (fun x => ([SV.val (Value.agg #[vI64 a,vI64 b,vI64 c,vI64 d,vI64 h,vI64 mi,vI64 s,vI64 n]),SV.ptr 0 0,.any,SV.val (vI64 0),.any,.any,.any,svZ,SV.val (Value.agg #[vI64 a,vI64 b,vI64 c,vI64 d,vI64 h,vI64 mi,vI64 s,vI64 n]),SV.val (vI64 0),SV.sl 1 0 9 9,SV.val (vI64 (↑9 : Int)),.val (.int .i64 x),.any,.any,.any,.any,.any,.any,.any,.any,.any,.any,.any,.any,.any,.any,.any,.any,.any,.any,.any,.any,.any,.any,.any,.any,.any,.any,.any,.any,.any,.any,.any,.any,.any,svZ,svZ,svZ,svZ,svZ,svZ,svZ,svZ,svZ,svZ,svZ,svZ,svZ],[⟨[SV.val (vI64 a),SV.val (vI64 b),SV.val (vI64 c),SV.val (vI64 d),SV.val (vI64 h),SV.val (vI64 mi),SV.val (vI64 s),SV.val (vI64 n)],51⟩,⟨[SV.val (Value.pointer none),SV.ptr 0 0,SV.ptr 0 1,SV.ptr 0 2,SV.ptr 0 3,SV.ptr 0 4,SV.ptr 0 5,SV.ptr 0 6,SV.ptr 0 7],113⟩])) (fun _ => _) (fun k => 0 ≤ k ∧ k ≤ 9 ∧ (1 < k → a = 0 ∧ -4294967295 ≤ a ∧ a ≤ 4294967295) ∧ (2 < k → b = 0 ∧ -4294967295 ≤ b ∧ b ≤ 4294967295) ∧ (3 < k → c = 0 ∧ -4294967295 ≤ c ∧ c ≤ 4294967295) ∧ (4 < k → d = 0) ∧ (5 < k → h = 0) ∧ (6 < k → mi = 0) ∧ (7 < k → s = 0) ∧ (8 < k → n = 0)) (fun k => (9 - k).toNat) (0) (by kernel_rfl) (by kernel_rfl) Sub.refl (by first | omega | (simp; omega) | assumption | simp_all) (fun y0 px0 back0 => ?_)
 (have q := cmpI_sg (fl8 a b c d h mi s n y0); have hk0 : y0 = 0 ∨ y0 = 1 ∨ y0 = 2 ∨ y0 = 3 ∨ y0 = 4 ∨ y0 = 5 ∨ y0 = 6 ∨ y0 = 7 ∨ y0 = 8 ∨ y0 = 9 := (by omega); rcases hk0 with rfl | rfl | rfl | rfl | rfl | rfl | rfl | rfl | rfl | rfl <;> simp only [fl8, Int.reduceEq, if_true, if_false] at q)
 ·have _hh := True.intro
  refine qI 45 (0 + 1) ?_
  refine qG [0,1,2,3,6,7,8,9,10,11,12,19,20,21,22,23,24,25,26,27,28,29,30,31,32,33,34,35,36,37,38,39,40,41,42,43,44,46,47,48,49,50,51,52,53,54,55,56,57,58] ?_
  exact qBDud0 back0 (0 + 1)
 ·have _hh := True.intro
  refine qF ent30 (wof_fn (a) (by assumption)) ?_
  refine qF ent16 (wsign_fn (a)) ?_
  refine qV 25 (show (cmpI a 0 != 0) = false by exact bne_eq_false_iff_eq.2 (by omega)) ?_
  refine qN 37 (decide (a > 4294967295)) ?_
  refine qN 42 (decide (a < -4294967295)) ?_
  refine qI 45 (1 + 1) ?_
  refine qG [0,1,2,3,7,8,9,10,11,12,46,47,48,49,50,51,52,53,54,55,56,57,58] ?_
  exact qBDud0 back0 (1 + 1)
 ·have _hh := True.intro
  refine qF ent30 (wof_fn (b) (by assumption)) ?_
  refine qF ent16 (wsign_fn (b)) ?_
  refine qV 25 (show (cmpI b 0 != 0) = false by exact bne_eq_false_iff_eq.2 (by omega)) ?_
  refine qN 37 (decide (b > 4294967295)) ?_
  refine qN 42 (decide (b < -4294967295)) ?_
  refine qI 45 (2 + 1) ?_
  refine qG [0,1,2,3,7,8,9,10,11,12,46,47,48,49,50,51,52,53,54,55,56,57,58] ?_
  exact qBDud0 back0 (2 + 1)
 ·have _hh := True.intro
  refine qF ent30 (wof_fn (c) (by assumption)) ?_
  refine qF ent16 (wsign_fn (c)) ?_
  refine qV 25 (show (cmpI c 0 != 0) = false by exact bne_eq_false_iff_eq.2 (by omega)) ?_
  refine qN 37 (decide (c > 4294967295)) ?_
  refine qN 42 (decide (c < -4294967295)) ?_
  refine qI 45 (3 + 1) ?_
  refine qG [0,1,2,3,7,8,9,10,11,12,46,47,48,49,50,51,52,53,54,55,56,57,58] ?_
  exact qBDud0 back0 (3 + 1)
 ·have _hh := True.intro
  refine qF ent30 (wof_fn (d) (by assumption)) ?_
  refine qF ent16 (wsign_fn (d)) ?_
  refine qV 25 (show (cmpI d 0 != 0) = false by exact bne_eq_false_iff_eq.2 (by omega)) ?_
  refine qI 45 (4 + 1) ?_
  refine qG [0,1,2,3,7,8,9,10,11,12,46,47,48,49,50,51,52,53,54,55,56,57,58] ?_
  exact qBDud0 back0 (4 + 1)
 ·have _hh := True.intro
  refine qF ent30 (wof_fn (h) (by assumption)) ?_
  refine qF ent16 (wsign_fn (h)) ?_
  refine qV 25 (show (cmpI h 0 != 0) = false by exact bne_eq_false_iff_eq.2 (by omega)) ?_
  refine qI 45 (5 + 1) ?_
  refine qG [0,1,2,3,7,8,9,10,11,12,46,47,48,49,50,51,52,53,54,55,56,57,58] ?_
  exact qBDud0 back0 (5 + 1)
 ·have _hh := True.intro
  refine qF ent30 (wof_fn (mi) (by assumption)) ?_
  refine qF ent16 (wsign_fn (mi)) ?_
  refine qV 25 (show (cmpI mi 0 != 0) = false by exact bne_eq_false_iff_eq.2 (by omega)) ?_
  refine qI 45 (6 + 1) ?_
  refine qG [0,1,2,3,7,8,9,10,11,12,46,47,48,49,50,51,52,53,54,55,56,57,58] ?_
  exact qBDud0 back0 (6 + 1)
 ·have _hh := True.intro
  refine qF ent30 (wof_fn (s) (by assumption)) ?_
  refine qF ent16 (wsign_fn (s)) ?_
  refine qV 25 (show (cmpI s 0 != 0) = false by exact bne_eq_false_iff_eq.2 (by omega)) ?_
  refine qI 45 (7 + 1) ?_
  refine qG [0,1,2,3,7,8,9,10,11,12,46,47,48,49,50,51,52,53,54,55,56,57,58] ?_
  exact qBDud0 back0 (7 + 1)
 ·have _hh := True.intro
  refine qF ent30 (wof_fn (n) (by assumption)) ?_
  refine qF ent16 (wsign_fn (n)) ?_
  refine qV 25 (show (cmpI n 0 != 0) = false by exact bne_eq_false_iff_eq.2 (by omega)) ?_
  refine qI 45 (8 + 1) ?_
  refine qG [0,1,2,3,7,8,9,10,11,12,46,47,48,49,50,51,52,53,54,55,56,57,58] ?_
  exact qBDud0 back0 (8 + 1)
 ·have _hh := True.intro
  refine qF ent66 (ut) ?_
  refine qF ent68 (ulimit) ?_
  refine qF ent55 (wcmp_fn (dtot d h mi s n) (9007199254740992000000000)) ?_
  exact st_retv Tryz.func25 (show Value.bool (decide (cmpI (dtot d h mi s n) 9007199254740992000000000 < 0)) = _ by (refine b_eq (decide_eq_decide.2 ?_); unfold uOk pos8 neg8 cnt1 LIM; rw [qt]; unfold dtot; omega)) (by kernel_rfl)
end
end Go.Proofs.YthoedmikfpbfnaaGreat
end
section
set_option maxRecDepth 100000
namespace Go.Proofs.YthoedmikfpbfnaaGreat
open Go Go.RowKit Go.Ev

theorem z0_is (w : World) : ZOf ⟨false, none, 0, 0⟩ 0 w := isZ_zero w
section
variable {f0 : FuncId} {E : List TypeId} {w0 : World} {R : Ending → World → Prop} {L : ZL} {c : Cf}
theorem st_zero (hk : Ru ⟨Tryz.prog, f0, E, w0, R⟩ (ZAll ((⟨false, none, 0, 0⟩, 0) :: L)) c) (hE : E = [3] := by rfl) : Ru ⟨Tryz.prog, f0, E, w0, R⟩ (ZAll L) c := by
 subst hE
 refine ⟨hk.h.mono (ZAll.stable _) fun w hw p hp => ?_⟩
 rcases List.mem_cons.1 hp with rfl | hp
 ·exact z0_is w
 ·exact hw p hp
end
theorem sg8_1 {a b c d h mi s n : Int} (q : 0 < a ∨ a = 0 ∧ (0 < b ∨ b = 0 ∧ (0 < c ∨ c = 0 ∧ (0 < d ∨ d = 0 ∧ (0 < h ∨ h = 0 ∧ (0 < mi ∨ mi = 0 ∧ (0 < s ∨ s = 0 ∧ (0 < n)))))))) : sg8 a b c d h mi s n = 1 := by
 unfold sg8
 by_cases ka : a = 0
 rotate_left
 ·rw [if_pos (by omega)]; have := cmpI_sg a; omega
 rw [if_neg (by omega)]
 by_cases kb : b = 0
 rotate_left
 ·rw [if_pos (by omega)]; have := cmpI_sg b; omega
 rw [if_neg (by omega)]
 by_cases kc : c = 0
 rotate_left
 ·rw [if_pos (by omega)]; have := cmpI_sg c; omega
 rw [if_neg (by omega)]
 by_cases kd : d = 0
 rotate_left
 ·rw [if_pos (by omega)]; have := cmpI_sg d; omega
 rw [if_neg (by omega)]
 by_cases kh : h = 0
 rotate_left
 ·rw [if_pos (by omega)]; have := cmpI_sg h; omega
 rw [if_neg (by omega)]
 by_cases kmi : mi = 0
 rotate_left
 ·rw [if_pos (by omega)]; have := cmpI_sg mi; omega
 rw [if_neg (by omega)]
 by_cases ks : s = 0
 rotate_left
 ·rw [if_pos (by omega)]; have := cmpI_sg s; omega
 rw [if_neg (by omega)]
 have := cmpI_sg n; omega
theorem sg8_m {a b c d h mi s n : Int} (q : a < 0 ∨ a = 0 ∧ (b < 0 ∨ b = 0 ∧ (c < 0 ∨ c = 0 ∧ (d < 0 ∨ d = 0 ∧ (h < 0 ∨ h = 0 ∧ (mi < 0 ∨ mi = 0 ∧ (s < 0 ∨ s = 0 ∧ (n < 0)))))))) : sg8 a b c d h mi s n = -1 := by
 unfold sg8
 by_cases ka : a = 0
 rotate_left
 ·rw [if_pos (by omega)]; have := cmpI_sg a; omega
 rw [if_neg (by omega)]
 by_cases kb : b = 0
 rotate_left
 ·rw [if_pos (by omega)]; have := cmpI_sg b; omega
 rw [if_neg (by omega)]
 by_cases kc : c = 0
 rotate_left
 ·rw [if_pos (by omega)]; have := cmpI_sg c; omega
 rw [if_neg (by omega)]
 by_cases kd : d = 0
 rotate_left
 ·rw [if_pos (by omega)]; have := cmpI_sg d; omega
 rw [if_neg (by omega)]
 by_cases kh : h = 0
 rotate_left
 ·rw [if_pos (by omega)]; have := cmpI_sg h; omega
 rw [if_neg (by omega)]
 by_cases kmi : mi = 0
 rotate_left
 ·rw [if_pos (by omega)]; have := cmpI_sg mi; omega
 rw [if_neg (by omega)]
 by_cases ks : s = 0
 rotate_left
 ·rw [if_pos (by omega)]; have := cmpI_sg s; omega
 rw [if_neg (by omega)]
 have := cmpI_sg n; omega
theorem sg8_0 {a b c d h mi s n : Int} (q : a = 0 ∧ b = 0 ∧ c = 0 ∧ d = 0 ∧ h = 0 ∧ mi = 0 ∧ s = 0 ∧ n = 0) : sg8 a b c d h mi s n = 0 := by
 unfold sg8
 by_cases ka : a = 0
 rotate_left
 ·rw [if_pos (by omega)]; have := cmpI_sg a; omega
 rw [if_neg (by omega)]
 by_cases kb : b = 0
 rotate_left
 ·rw [if_pos (by omega)]; have := cmpI_sg b; omega
 rw [if_neg (by omega)]
 by_cases kc : c = 0
 rotate_left
 ·rw [if_pos (by omega)]; have := cmpI_sg c; omega
 rw [if_neg (by omega)]
 by_cases kd : d = 0
 rotate_left
 ·rw [if_pos (by omega)]; have := cmpI_sg d; omega
 rw [if_neg (by omega)]
 by_cases kh : h = 0
 rotate_left
 ·rw [if_pos (by omega)]; have := cmpI_sg h; omega
 rw [if_neg (by omega)]
 by_cases kmi : mi = 0
 rotate_left
 ·rw [if_pos (by omega)]; have := cmpI_sg mi; omega
 rw [if_neg (by omega)]
 by_cases ks : s = 0
 rotate_left
 ·rw [if_pos (by omega)]; have := cmpI_sg s; omega
 rw [if_neg (by omega)]
 have := cmpI_sg n; omega
theorem zulen4 : Fn 85 [] [.int .i64 4] (.int .i64 86400000000000) := by
 refine fn_of Tryz.func85 rfl fun ww => ?_
 exact qR Tryz.func85
theorem zulen5 : Fn 85 [] [.int .i64 5] (.int .i64 3600000000000) := by
 refine fn_of Tryz.func85 rfl fun ww => ?_
 exact qR Tryz.func85
theorem zulen6 : Fn 85 [] [.int .i64 6] (.int .i64 60000000000) := by
 refine fn_of Tryz.func85 rfl fun ww => ?_
 exact qR Tryz.func85
theorem zulen7 : Fn 85 [] [.int .i64 7] (.int .i64 1000000000) := by
 refine fn_of Tryz.func85 rfl fun ww => ?_
 exact qR Tryz.func85
theorem zulen8 : Fn 85 [] [.int .i64 8] (.int .i64 1) := by
 refine fn_of Tryz.func85 rfl fun ww => ?_
 exact qR Tryz.func85
theorem zulen_o (u : Int) (h : u < 4 ∨ 8 < u) : Fn 85 [] [.int .i64 u] (.int .i64 0) := by
 by_cases k : u < 4
 ·refine fn_of Tryz.func85 rfl fun ww => ?_
  refine qN 5 (u == 4) ?_
  refine qN 7 (u == 5) ?_
  refine qN 9 (u == 6) ?_
  refine qN 11 (u == 7) ?_
  refine qN 13 (u == 8) ?_
  exact qR Tryz.func85
 ·have k' : 8 < u := by omega
  refine fn_of Tryz.func85 rfl fun ww => ?_
  refine qN 5 (u == 4) ?_
  refine qN 7 (u == 5) ?_
  refine qN 9 (u == 6) ?_
  refine qN 11 (u == 7) ?_
  refine qN 13 (u == 8) ?_
  exact qR Tryz.func85
theorem zulen_fn (u : Int) : Fn 85 [] [.int .i64 u] (.int .i64 (ulen u)) := by
 by_cases h : 4 ≤ u ∧ u ≤ 8
 ·rcases units h.1 h.2 with rfl | rfl | rfl | rfl | rfl
  ·exact zulen4
  ·exact zulen5
  ·exact zulen6
  ·exact zulen7
  ·exact zulen8
 ·rw [ulen_no (by omega)]
  exact zulen_o u (by omega)
section
variable (a b c d h mi s n : Int)
theorem zufields : FnB 131 [duv a b c d h mi s n] [.int .i64 a, .int .i64 b, .int .i64 c, .int .i64 d, .int .i64 h, .int .i64 mi, .int .i64 s, .int .i64 n] 2 8 := by
 refine fnB_of Tryz.func131 rfl fun ww => ?_
 exact st_retB Tryz.func131 (by kernel_rfl)
theorem zumade : Fn 156 [] [duv a b c d h mi s n] (duv a b c d h mi s n) := by
 refine fn_of Tryz.func156 rfl fun ww => ?_
 exact qR Tryz.func156
theorem fzadd0 (q : ZQ) (y : Int) (hy : Fit y) : FnZ 32 [(⟨false, none, 0, 0⟩, 0), (q, y)] [.agg #[.bool false, .slice none 0 0], zv q] zv (0 + y) := fzadd ⟨false, none, 0, 0⟩ q 0 y (Bits.fit (k := 1) (by unfold Bits; decide) (by decide)) hy
theorem zutot (i1 : I64 d) (i2 : I64 h) (i3 : I64 mi) (i4 : I64 s) (i5 : I64 n) : FnZ 132 [] [duv a b c d h mi s n] zv (dtot d h mi s n) := by
 have j1 : I64 86400000000000 := by unfold I64; omega
 have j2 : I64 3600000000000 := by unfold I64; omega
 have j3 : I64 60000000000 := by unfold I64; omega
 have j4 : I64 1000000000 := by unfold I64; omega
 have j5 : I64 1 := by unfold I64; omega
 refine fnG_of Tryz.func132 rfl fun ww => ?_
 refine st_zero ?_
 refine st_rowB ent131 (zufields (a) (b) (c) (d) (h) (mi) (s) (n)) (by kernel_rfl) ?_
 refine st_round (by kernel_rfl) ?_
 refine qI 22 (3 + 1) ?_
 refine qZ ent11 (fzint (d) (by assumption)) fun zq1 => ?_
 refine qF ent85 (zulen4) ?_
 refine qZ ent11 (fzint (86400000000000) (by assumption)) fun zq3 => ?_
 refine st_g ent34 (fzmul (zq1) (zq3) (d) (86400000000000) (by exact Bits.fit i1.w.bits (by decide)) (by exact Bits.fit j1.w.bits (by decide))) (subC 1 rfl (subC 0 rfl sub0)) (by kernel_rfl) (fun zq4 => ?_)
 refine st_g ent32 (fzadd0 (zq4) (d * 86400000000000) (by exact Bits.fit (Bits.mul i1.w.bits j1.w.bits) (by decide))) (subC 3 rfl (subC 0 rfl sub0)) (by kernel_rfl) (fun zq5 => ?_)
 refine qI 14 (3 + 1) ?_
 refine st_round (by kernel_rfl) ?_
 refine qI 22 (3 + 1 + 1) ?_
 refine qZ ent11 (fzint (h) (by assumption)) fun zq6 => ?_
 refine qF ent85 (zulen5) ?_
 refine qZ ent11 (fzint (3600000000000) (by assumption)) fun zq8 => ?_
 refine st_g ent34 (fzmul (zq6) (zq8) (h) (3600000000000) (by exact Bits.fit i2.w.bits (by decide)) (by exact Bits.fit j2.w.bits (by decide))) (subC 1 rfl (subC 0 rfl sub0)) (by kernel_rfl) (fun zq9 => ?_)
 refine st_g ent32 (fzadd (zq5) (zq9) (0 + d * 86400000000000) (h * 3600000000000) (by exact Bits.fit (Bits.add (Bits.mono (l := 256) (yB : Bits 64 (0)) (by decide)) (Bits.mono (l := 256) (Bits.mul i1.w.bits j1.w.bits) (by decide))) (by decide)) (by exact Bits.fit (Bits.mul i2.w.bits j2.w.bits) (by decide))) (subC 3 rfl (subC 0 rfl sub0)) (by kernel_rfl) (fun zq10 => ?_)
 refine qI 14 (3 + 1 + 1) ?_
 refine st_round (by kernel_rfl) ?_
 refine qI 22 (3 + 1 + 1 + 1) ?_
 refine qZ ent11 (fzint (mi) (by assumption)) fun zq11 => ?_
 refine qF ent85 (zulen6) ?_
 refine qZ ent11 (fzint (60000000000) (by assumption)) fun zq13 => ?_
 refine st_g ent34 (fzmul (zq11) (zq13) (mi) (60000000000) (by exact Bits.fit i3.w.bits (by decide)) (by exact Bits.fit j3.w.bits (by decide))) (subC 1 rfl (subC 0 rfl sub0)) (by kernel_rfl) (fun zq14 => ?_)
 refine st_g ent32 (fzadd (zq10) (zq14) (0 + d * 86400000000000 + h * 3600000000000) (mi * 60000000000) (by exact Bits.fit (Bits.add (Bits.mono (l := 257) (Bits.add (Bits.mono (l := 256) (yB : Bits 64 (0)) (by decide)) (Bits.mono (l := 256) (Bits.mul i1.w.bits j1.w.bits) (by decide))) (by decide)) (Bits.mono (l := 257) (Bits.mul i2.w.bits j2.w.bits) (by decide))) (by decide)) (by exact Bits.fit (Bits.mul i3.w.bits j3.w.bits) (by decide))) (subC 3 rfl (subC 0 rfl sub0)) (by kernel_rfl) (fun zq15 => ?_)
 refine qI 14 (3 + 1 + 1 + 1) ?_
 refine st_round (by kernel_rfl) ?_
 refine qI 22 (3 + 1 + 1 + 1 + 1) ?_
 refine qZ ent11 (fzint (s) (by assumption)) fun zq16 => ?_
 refine qF ent85 (zulen7) ?_
 refine qZ ent11 (fzint (1000000000) (by assumption)) fun zq18 => ?_
 refine st_g ent34 (fzmul (zq16) (zq18) (s) (1000000000) (by exact Bits.fit i4.w.bits (by decide)) (by exact Bits.fit j4.w.bits (by decide))) (subC 1 rfl (subC 0 rfl sub0)) (by kernel_rfl) (fun zq19 => ?_)
 refine st_g ent32 (fzadd (zq15) (zq19) (0 + d * 86400000000000 + h * 3600000000000 + mi * 60000000000) (s * 1000000000) (by exact Bits.fit (Bits.add (Bits.mono (l := 258) (Bits.add (Bits.mono (l := 257) (Bits.add (Bits.mono (l := 256) (yB : Bits 64 (0)) (by decide)) (Bits.mono (l := 256) (Bits.mul i1.w.bits j1.w.bits) (by decide))) (by decide)) (Bits.mono (l := 257) (Bits.mul i2.w.bits j2.w.bits) (by decide))) (by decide)) (Bits.mono (l := 258) (Bits.mul i3.w.bits j3.w.bits) (by decide))) (by decide)) (by exact Bits.fit (Bits.mul i4.w.bits j4.w.bits) (by decide))) (subC 3 rfl (subC 0 rfl sub0)) (by kernel_rfl) (fun zq20 => ?_)
 refine qI 14 (3 + 1 + 1 + 1 + 1) ?_
 refine st_round (by kernel_rfl) ?_
 refine qI 22 (3 + 1 + 1 + 1 + 1 + 1) ?_
 refine qZ ent11 (fzint (n) (by assumption)) fun zq21 => ?_
 refine qF ent85 (zulen8) ?_
 refine qZ ent11 (fzint (1) (by assumption)) fun zq23 => ?_
 refine st_g ent34 (fzmul (zq21) (zq23) (n) (1) (by exact Bits.fit i5.w.bits (by decide)) (by exact Bits.fit j5.w.bits (by decide))) (subC 1 rfl (subC 0 rfl sub0)) (by kernel_rfl) (fun zq24 => ?_)
 refine st_g ent32 (fzadd (zq20) (zq24) (0 + d * 86400000000000 + h * 3600000000000 + mi * 60000000000 + s * 1000000000) (n * 1) (by exact Bits.fit (Bits.add (Bits.mono (l := 259) (Bits.add (Bits.mono (l := 258) (Bits.add (Bits.mono (l := 257) (Bits.add (Bits.mono (l := 256) (yB : Bits 64 (0)) (by decide)) (Bits.mono (l := 256) (Bits.mul i1.w.bits j1.w.bits) (by decide))) (by decide)) (Bits.mono (l := 257) (Bits.mul i2.w.bits j2.w.bits) (by decide))) (by decide)) (Bits.mono (l := 258) (Bits.mul i3.w.bits j3.w.bits) (by decide))) (by decide)) (Bits.mono (l := 259) (Bits.mul i4.w.bits j4.w.bits) (by decide))) (by decide)) (by exact Bits.fit (Bits.mul i5.w.bits j5.w.bits) (by decide))) (subC 3 rfl (subC 0 rfl sub0)) (by kernel_rfl) (fun zq25 => ?_)
 refine qI 14 (3 + 1 + 1 + 1 + 1 + 1) ?_
 refine st_round (by kernel_rfl) ?_
 exact st_retG (zq25) Tryz.func132 (subE 0 rfl (by (unfold dtot; omega)) sub0) (by kernel_rfl)
theorem zpow53 : FnZ 87 [] [.int .i64 53] zv (P 53) := fun w _ => (power_any 53 w (by omega)).mono fun _ _ => zret
theorem zulimit : FnZ 133 [] [] zv 9007199254740992000000000 := by
 have i1 : I64 1000000000 := by unfold I64; omega
 have b1 : Bits 54 (P 53) := Bits.P 53
 refine fnG_of Tryz.func133 rfl fun ww => ?_
 refine qZ ent87 (zpow53) fun zq0 => ?_
 refine qZ ent11 (fzint (1000000000) (by assumption)) fun zq1 => ?_
 refine st_g ent34 (fzmul (zq0) (zq1) (P 53) (1000000000) (by exact Bits.fit b1 (by decide)) (by exact Bits.fit i1.w.bits (by decide))) (subC 1 rfl (subC 0 rfl sub0)) (by kernel_rfl) (fun zq2 => ?_)
 exact st_retG (zq2) Tryz.func133 (subE 0 rfl (by rfl) sub0) (by kernel_rfl)
end
end Go.Proofs.YthoedmikfpbfnaaGreat
end
section
set_option maxRecDepth 100000
namespace Go.Proofs.YthoedmikfpbfnaaGreat
open Go Go.RowKit Go.Ev

section
variable (a b c d h mi s n : Int)
theorem qBDuzp0 {f0 : FuncId} {w0 : World} {R : Ending → World → Prop} {L : ZL} {c : Cf} {X : Type} {c0 : Cf} {I : X → List SV × List Bk} {Lf : X → ZL} {p : X → Prop} {m : X → Nat} {x : X} (hb : Back ⟨Tryz.prog, f0, [3], w0, R⟩ c0 I Lf p m x) (x' : X) (hp : p x' := by first | (refine b_eq (decide_eq_false ?_).symm; unfold uOk pos8 neg8 cnt1 LIM; omega) | (refine b_eq (decide_eq_decide.2 ?_); rw [qt]; unfold uOk pos8 neg8 cnt1 LIM; omega) | omega | (simp only []; omega) | (simp; omega) | assumption | simp_all) (hm : m x' < m x := by first | omega | (simp only []; omega) | (simp; omega)) (hL : Sub (Lf x') L := by exact fun p hp => by first | exact hp | simp_all)
 (h0 : fb (adv Tryz.prog [3] 9999 400 c) = I x' := by kernel_rfl) (hc : loopBack (adv Tryz.prog [3] 9999 400 c) = loopAt c0 := by kernel_rfl) (hs : (loopAt c0).isSome = true := by kernel_rfl) : Ru ⟨Tryz.prog, f0, [3], w0, R⟩ (ZAll L) c := qB hb x' hp hm hL h0 hc hs
theorem zuright_p (i : all64 a b c d h mi s n) (hk : pos8 a b c d h mi s n) : Fn 89 [] [duv a b c d h mi s n] (.bool (decide (uOk a b c d h mi s n))) := by
 obtain ⟨i1, i2, i3, i4, i5, i6, i7, i8⟩ := i
 have bt : W128 (dtot d h mi s n) := by unfold I64 at *; unfold W128 dtot; omega
 have bl : W128 9007199254740992000000000 := by unfold W128; omega
 have ut := zutot a b c d h mi s n i4 i5 i6 i7 i8
 obtain ⟨X, hX⟩ : ∃ X : Int, X = ((dtot d h mi s n).natAbs : Int) := ⟨_, rfl⟩
 have bX : Bits 128 X := by rw [hX]; exact bt.bits.abs
 have fa : ∀ p : ZQ, FnZ 130 [(p, dtot d h mi s n)] [zv p] zv X := fun p => by rw [hX]; exact fzabs p _ (bt.bits.fit (by decide))
 have qt := cmpI_lt0 (a := X) (b := 9007199254740992000000000)
 unfold pos8 at hk
 obtain ⟨k1, k2, k3, k4, k5, k6, k7, k8⟩ := hk
 refine fn_of Tryz.func89 rfl fun ww => ?_
 refine st_rowB ent131 (zufields (a) (b) (c) (d) (h) (mi) (s) (n)) (by kernel_rfl) ?_
 refine qG [0,1,3,4,5,6,7,8,47,48,49,50,51,52,53,54,55,56,57,58,59] ?_
 refine st_loop (X := Int × Bool) (fun x => ([SV.val (Value.agg #[vI64 a,vI64 b,vI64 c,vI64 d,vI64 h,vI64 mi,vI64 s,vI64 n]),SV.ptr 0 0,.any,SV.sl 1 0 8 8,.val (.bool x.2),.val (.bool false),.val (.int .i64 x.1),SV.val (Value.agg #[vI64 a,vI64 b,vI64 c,vI64 d,vI64 h,vI64 mi,vI64 s,vI64 n]),SV.sl 1 0 8 8,.any,.any,.any,.any,.any,.any,.any,.any,.any,.any,.any,.any,.any,.any,.any,.any,.any,.any,.any,.any,.any,.any,.any,.any,.any,.any,.any,.any,.any,.any,.any,.any,.any,.any,.any,.any,.any,.any,svZ,svZ,svZ,svZ,svZ,svZ,svZ,svZ,svZ,svZ,svZ,svZ,svZ],[⟨[SV.val (vI64 a),SV.val (vI64 b),SV.val (vI64 c),SV.val (vI64 d),SV.val (vI64 h),SV.val (vI64 mi),SV.val (vI64 s),SV.val (vI64 n)],51⟩,⟨[SV.val (vI64 a),SV.val (vI64 b),SV.val (vI64 c),SV.val (vI64 d),SV.val (vI64 h),SV.val (vI64 mi),SV.val (vI64 s),SV.val (vI64 n)],2⟩])) (fun _ => _) (fun k => 0 ≤ k.1 ∧ k.1 ≤ 8 ∧ (0 < k.1 → -4294967295 ≤ a ∧ a ≤ 4294967295) ∧ (1 < k.1 → -4294967295 ≤ b ∧ b ≤ 4294967295) ∧ (2 < k.1 → -4294967295 ≤ c ∧ c ≤ 4294967295)) (fun k => (8 - k.1).toNat) ((0,false)) (by kernel_rfl) (by kernel_rfl) Sub.refl (by first | omega | (simp; omega) | assumption | simp_all) (fun x px0 back0 => ?_)
 rcases x with ⟨y0_0, y0_1⟩
 simp only at px0
 (have hk0 : y0_0 = 0 ∨ y0_0 = 1 ∨ y0_0 = 2 ∨ y0_0 = 3 ∨ y0_0 = 4 ∨ y0_0 = 5 ∨ y0_0 = 6 ∨ y0_0 = 7 ∨ y0_0 = 8 := (by omega); rcases hk0 with rfl | rfl | rfl | rfl | rfl | rfl | rfl | rfl | rfl <;> rcases y0_1 with _ | _)
 ·have _hh := True.intro
  by_cases k21 : a > 0
  ·refine qV 21 (decide_eq_true k21) ?_
   refine qN 29 (decide (a < 0)) ?_
   by_cases k38 : a > 4294967295
   ·refine qV 38 (decide_eq_true k38) ?_
    exact st_retv Tryz.func89 (show Value.bool (false) = _ by (refine b_eq (decide_eq_false ?_).symm; unfold uOk pos8 neg8 cnt1 LIM; omega)) (by kernel_rfl)
   ·refine qV 38 (decide_eq_false k38) ?_
    refine qN 44 (decide (a < -4294967295)) ?_
    refine qI 14 (0 + 1) ?_
    refine qG [0,1,2,3,4,5,6,7,8,47,48,49,50,51,52,53,54,55,56,57,58,59] ?_
    exact qBDuzp0 back0 ((0 + 1, true))
  ·refine qV 21 (decide_eq_false k21) ?_
   refine qN 29 (decide (a < 0)) ?_
   refine qN 38 (decide (a > 4294967295)) ?_
   refine qN 44 (decide (a < -4294967295)) ?_
   refine qI 14 (0 + 1) ?_
   refine qG [0,1,2,3,4,5,6,7,8,47,48,49,50,51,52,53,54,55,56,57,58,59] ?_
   exact qBDuzp0 back0 ((0 + 1, false))
 ·have _hh := True.intro
  refine qN 29 (decide (a < 0)) ?_
  by_cases k38 : a > 4294967295
  ·refine qV 38 (decide_eq_true k38) ?_
   exact st_retv Tryz.func89 (show Value.bool (false) = _ by (refine b_eq (decide_eq_false ?_).symm; unfold uOk pos8 neg8 cnt1 LIM; omega)) (by kernel_rfl)
  ·refine qV 38 (decide_eq_false k38) ?_
   refine qN 44 (decide (a < -4294967295)) ?_
   refine qI 14 (0 + 1) ?_
   refine qG [0,1,2,3,4,5,6,7,8,47,48,49,50,51,52,53,54,55,56,57,58,59] ?_
   exact qBDuzp0 back0 ((0 + 1, true))
 ·have _hh := True.intro
  by_cases k21 : b > 0
  ·refine qV 21 (decide_eq_true k21) ?_
   refine qN 29 (decide (b < 0)) ?_
   by_cases k38 : b > 4294967295
   ·refine qV 38 (decide_eq_true k38) ?_
    exact st_retv Tryz.func89 (show Value.bool (false) = _ by (refine b_eq (decide_eq_false ?_).symm; unfold uOk pos8 neg8 cnt1 LIM; omega)) (by kernel_rfl)
   ·refine qV 38 (decide_eq_false k38) ?_
    refine qN 44 (decide (b < -4294967295)) ?_
    refine qI 14 (1 + 1) ?_
    refine qG [0,1,2,3,4,5,6,7,8,47,48,49,50,51,52,53,54,55,56,57,58,59] ?_
    exact qBDuzp0 back0 ((1 + 1, true))
  ·refine qV 21 (decide_eq_false k21) ?_
   refine qN 29 (decide (b < 0)) ?_
   refine qN 38 (decide (b > 4294967295)) ?_
   refine qN 44 (decide (b < -4294967295)) ?_
   refine qI 14 (1 + 1) ?_
   refine qG [0,1,2,3,4,5,6,7,8,47,48,49,50,51,52,53,54,55,56,57,58,59] ?_
   exact qBDuzp0 back0 ((1 + 1, false))
 ·have _hh := True.intro
  refine qN 29 (decide (b < 0)) ?_
  by_cases k38 : b > 4294967295
  ·refine qV 38 (decide_eq_true k38) ?_
   exact st_retv Tryz.func89 (show Value.bool (false) = _ by (refine b_eq (decide_eq_false ?_).symm; unfold uOk pos8 neg8 cnt1 LIM; omega)) (by kernel_rfl)
  ·refine qV 38 (decide_eq_false k38) ?_
   refine qN 44 (decide (b < -4294967295)) ?_
   refine qI 14 (1 + 1) ?_
   refine qG [0,1,2,3,4,5,6,7,8,47,48,49,50,51,52,53,54,55,56,57,58,59] ?_
   exact qBDuzp0 back0 ((1 + 1, true))
 ·have _hh := True.intro
  by_cases k21 : c > 0
  ·refine qV 21 (decide_eq_true k21) ?_
   refine qN 29 (decide (c < 0)) ?_
   by_cases k38 : c > 4294967295
   ·refine qV 38 (decide_eq_true k38) ?_
    exact st_retv Tryz.func89 (show Value.bool (false) = _ by (refine b_eq (decide_eq_false ?_).symm; unfold uOk pos8 neg8 cnt1 LIM; omega)) (by kernel_rfl)
   ·refine qV 38 (decide_eq_false k38) ?_
    refine qN 44 (decide (c < -4294967295)) ?_
    refine qI 14 (2 + 1) ?_
    refine qG [0,1,2,3,4,5,6,7,8,47,48,49,50,51,52,53,54,55,56,57,58,59] ?_
    exact qBDuzp0 back0 ((2 + 1, true))
  ·refine qV 21 (decide_eq_false k21) ?_
   refine qN 29 (decide (c < 0)) ?_
   refine qN 38 (decide (c > 4294967295)) ?_
   refine qN 44 (decide (c < -4294967295)) ?_
   refine qI 14 (2 + 1) ?_
   refine qG [0,1,2,3,4,5,6,7,8,47,48,49,50,51,52,53,54,55,56,57,58,59] ?_
   exact qBDuzp0 back0 ((2 + 1, false))
 ·have _hh := True.intro
  refine qN 29 (decide (c < 0)) ?_
  by_cases k38 : c > 4294967295
  ·refine qV 38 (decide_eq_true k38) ?_
   exact st_retv Tryz.func89 (show Value.bool (false) = _ by (refine b_eq (decide_eq_false ?_).symm; unfold uOk pos8 neg8 cnt1 LIM; omega)) (by kernel_rfl)
  ·refine qV 38 (decide_eq_false k38) ?_
   refine qN 44 (decide (c < -4294967295)) ?_
   refine qI 14 (2 + 1) ?_
   refine qG [0,1,2,3,4,5,6,7,8,47,48,49,50,51,52,53,54,55,56,57,58,59] ?_
   exact qBDuzp0 back0 ((2 + 1, true))
 ·have _hh := True.intro
  by_cases k21 : d > 0
  ·refine qV 21 (decide_eq_true k21) ?_
   refine qN 29 (decide (d < 0)) ?_
   refine qI 14 (3 + 1) ?_
   refine qG [0,1,2,3,4,5,6,7,8,47,48,49,50,51,52,53,54,55,56,57,58,59] ?_
   exact qBDuzp0 back0 ((3 + 1, true))
  ·refine qV 21 (decide_eq_false k21) ?_
   refine qN 29 (decide (d < 0)) ?_
   refine qI 14 (3 + 1) ?_
   refine qG [0,1,2,3,4,5,6,7,8,47,48,49,50,51,52,53,54,55,56,57,58,59] ?_
   exact qBDuzp0 back0 ((3 + 1, false))
 ·have _hh := True.intro
  refine qN 29 (decide (d < 0)) ?_
  refine qI 14 (3 + 1) ?_
  refine qG [0,1,2,3,4,5,6,7,8,47,48,49,50,51,52,53,54,55,56,57,58,59] ?_
  exact qBDuzp0 back0 ((3 + 1, true))
 ·have _hh := True.intro
  by_cases k21 : h > 0
  ·refine qV 21 (decide_eq_true k21) ?_
   refine qN 29 (decide (h < 0)) ?_
   refine qI 14 (4 + 1) ?_
   refine qG [0,1,2,3,4,5,6,7,8,47,48,49,50,51,52,53,54,55,56,57,58,59] ?_
   exact qBDuzp0 back0 ((4 + 1, true))
  ·refine qV 21 (decide_eq_false k21) ?_
   refine qN 29 (decide (h < 0)) ?_
   refine qI 14 (4 + 1) ?_
   refine qG [0,1,2,3,4,5,6,7,8,47,48,49,50,51,52,53,54,55,56,57,58,59] ?_
   exact qBDuzp0 back0 ((4 + 1, false))
 ·have _hh := True.intro
  refine qN 29 (decide (h < 0)) ?_
  refine qI 14 (4 + 1) ?_
  refine qG [0,1,2,3,4,5,6,7,8,47,48,49,50,51,52,53,54,55,56,57,58,59] ?_
  exact qBDuzp0 back0 ((4 + 1, true))
 ·have _hh := True.intro
  by_cases k21 : mi > 0
  ·refine qV 21 (decide_eq_true k21) ?_
   refine qN 29 (decide (mi < 0)) ?_
   refine qI 14 (5 + 1) ?_
   refine qG [0,1,2,3,4,5,6,7,8,47,48,49,50,51,52,53,54,55,56,57,58,59] ?_
   exact qBDuzp0 back0 ((5 + 1, true))
  ·refine qV 21 (decide_eq_false k21) ?_
   refine qN 29 (decide (mi < 0)) ?_
   refine qI 14 (5 + 1) ?_
   refine qG [0,1,2,3,4,5,6,7,8,47,48,49,50,51,52,53,54,55,56,57,58,59] ?_
   exact qBDuzp0 back0 ((5 + 1, false))
 ·have _hh := True.intro
  refine qN 29 (decide (mi < 0)) ?_
  refine qI 14 (5 + 1) ?_
  refine qG [0,1,2,3,4,5,6,7,8,47,48,49,50,51,52,53,54,55,56,57,58,59] ?_
  exact qBDuzp0 back0 ((5 + 1, true))
 ·have _hh := True.intro
  by_cases k21 : s > 0
  ·refine qV 21 (decide_eq_true k21) ?_
   refine qN 29 (decide (s < 0)) ?_
   refine qI 14 (6 + 1) ?_
   refine qG [0,1,2,3,4,5,6,7,8,47,48,49,50,51,52,53,54,55,56,57,58,59] ?_
   exact qBDuzp0 back0 ((6 + 1, true))
  ·refine qV 21 (decide_eq_false k21) ?_
   refine qN 29 (decide (s < 0)) ?_
   refine qI 14 (6 + 1) ?_
   refine qG [0,1,2,3,4,5,6,7,8,47,48,49,50,51,52,53,54,55,56,57,58,59] ?_
   exact qBDuzp0 back0 ((6 + 1, false))
 ·have _hh := True.intro
  refine qN 29 (decide (s < 0)) ?_
  refine qI 14 (6 + 1) ?_
  refine qG [0,1,2,3,4,5,6,7,8,47,48,49,50,51,52,53,54,55,56,57,58,59] ?_
  exact qBDuzp0 back0 ((6 + 1, true))
 ·have _hh := True.intro
  by_cases k21 : n > 0
  ·refine qV 21 (decide_eq_true k21) ?_
   refine qN 29 (decide (n < 0)) ?_
   refine qI 14 (7 + 1) ?_
   refine qG [0,1,2,3,4,5,6,7,8,47,48,49,50,51,52,53,54,55,56,57,58,59] ?_
   exact qBDuzp0 back0 ((7 + 1, true))
  ·refine qV 21 (decide_eq_false k21) ?_
   refine qN 29 (decide (n < 0)) ?_
   refine qI 14 (7 + 1) ?_
   refine qG [0,1,2,3,4,5,6,7,8,47,48,49,50,51,52,53,54,55,56,57,58,59] ?_
   exact qBDuzp0 back0 ((7 + 1, false))
 ·have _hh := True.intro
  refine qN 29 (decide (n < 0)) ?_
  refine qI 14 (7 + 1) ?_
  refine qG [0,1,2,3,4,5,6,7,8,47,48,49,50,51,52,53,54,55,56,57,58,59] ?_
  exact qBDuzp0 back0 ((7 + 1, true))
 ·have _hh := True.intro
  refine qZ ent132 (ut) fun zq2 => ?_
  refine st_g ent130 (fa (zq2)) (subC 0 rfl sub0) (by kernel_rfl) (fun zq3 => ?_)
  refine qZ ent133 (zulimit) fun zq4 => ?_
  refine st_fn ent86 (fzcmp (zq3) (zq4) (X) (9007199254740992000000000) (by exact Bits.fit bX (by decide)) (by exact Bits.fit bl.bits (by decide))) (subC 1 rfl (subC 0 rfl sub0)) (by kernel_rfl) ?_
  exact st_retv Tryz.func89 (show Value.bool (decide (cmpI X 9007199254740992000000000 < 0)) = _ by (refine b_eq (decide_eq_decide.2 ?_); rw [qt]; unfold uOk pos8 neg8 cnt1 LIM; omega)) (by kernel_rfl)
 ·have _hh := True.intro
  refine qZ ent132 (ut) fun zq2 => ?_
  refine st_g ent130 (fa (zq2)) (subC 0 rfl sub0) (by kernel_rfl) (fun zq3 => ?_)
  refine qZ ent133 (zulimit) fun zq4 => ?_
  refine st_fn ent86 (fzcmp (zq3) (zq4) (X) (9007199254740992000000000) (by exact Bits.fit bX (by decide)) (by exact Bits.fit bl.bits (by decide))) (subC 1 rfl (subC 0 rfl sub0)) (by kernel_rfl) ?_
  exact st_retv Tryz.func89 (show Value.bool (decide (cmpI X 9007199254740992000000000 < 0)) = _ by (refine b_eq (decide_eq_decide.2 ?_); rw [qt]; unfold uOk pos8 neg8 cnt1 LIM; omega)) (by kernel_rfl)
end
end Go.Proofs.YthoedmikfpbfnaaGreat
end
section
set_option maxRecDepth 100000
namespace Go.Proofs.YthoedmikfpbfnaaGreat
open Go Go.RowKit Go.Ev

section
variable (a b c d h mi s n : Int)
theorem qBDuzn0 {f0 : FuncId} {w0 : World} {R : Ending → World → Prop} {L : ZL} {c : Cf} {X : Type} {c0 : Cf} {I : X → List SV × List Bk} {Lf : X → ZL} {p : X → Prop} {m : X → Nat} {x : X} (hb : Back ⟨Tryz.prog, f0, [3], w0, R⟩ c0 I Lf p m x) (x' : X) (hp : p x' := by first | (refine b_eq (decide_eq_false ?_).symm; unfold uOk pos8 neg8 cnt1 LIM; omega) | (refine b_eq (decide_eq_decide.2 ?_); rw [qt]; unfold uOk pos8 neg8 cnt1 LIM; omega) | omega | (simp only []; omega) | (simp; omega) | assumption | simp_all) (hm : m x' < m x := by first | omega | (simp only []; omega) | (simp; omega)) (hL : Sub (Lf x') L := by exact fun p hp => by first | exact hp | simp_all)
 (h0 : fb (adv Tryz.prog [3] 9999 400 c) = I x' := by kernel_rfl) (hc : loopBack (adv Tryz.prog [3] 9999 400 c) = loopAt c0 := by kernel_rfl) (hs : (loopAt c0).isSome = true := by kernel_rfl) : Ru ⟨Tryz.prog, f0, [3], w0, R⟩ (ZAll L) c := qB hb x' hp hm hL h0 hc hs
theorem zuright_n (i : all64 a b c d h mi s n) (hk : neg8 a b c d h mi s n) : Fn 89 [] [duv a b c d h mi s n] (.bool (decide (uOk a b c d h mi s n))) := by
 obtain ⟨i1, i2, i3, i4, i5, i6, i7, i8⟩ := i
 have bt : W128 (dtot d h mi s n) := by unfold I64 at *; unfold W128 dtot; omega
 have bl : W128 9007199254740992000000000 := by unfold W128; omega
 have ut := zutot a b c d h mi s n i4 i5 i6 i7 i8
 obtain ⟨X, hX⟩ : ∃ X : Int, X = ((dtot d h mi s n).natAbs : Int) := ⟨_, rfl⟩
 have bX : Bits 128 X := by rw [hX]; exact bt.bits.abs
 have fa : ∀ p : ZQ, FnZ 130 [(p, dtot d h mi s n)] [zv p] zv X := fun p => by rw [hX]; exact fzabs p _ (bt.bits.fit (by decide))
 have qt := cmpI_lt0 (a := X) (b := 9007199254740992000000000)
 unfold neg8 at hk
 obtain ⟨k1, k2, k3, k4, k5, k6, k7, k8⟩ := hk
 refine fn_of Tryz.func89 rfl fun ww => ?_
 refine st_rowB ent131 (zufields (a) (b) (c) (d) (h) (mi) (s) (n)) (by kernel_rfl) ?_
 refine qG [0,1,3,4,5,6,7,8,47,48,49,50,51,52,53,54,55,56,57,58,59] ?_
 refine st_loop (X := Int × Bool) (fun x => ([SV.val (Value.agg #[vI64 a,vI64 b,vI64 c,vI64 d,vI64 h,vI64 mi,vI64 s,vI64 n]),SV.ptr 0 0,.any,SV.sl 1 0 8 8,.val (.bool false),.val (.bool x.2),.val (.int .i64 x.1),SV.val (Value.agg #[vI64 a,vI64 b,vI64 c,vI64 d,vI64 h,vI64 mi,vI64 s,vI64 n]),SV.sl 1 0 8 8,.any,.any,.any,.any,.any,.any,.any,.any,.any,.any,.any,.any,.any,.any,.any,.any,.any,.any,.any,.any,.any,.any,.any,.any,.any,.any,.any,.any,.any,.any,.any,.any,.any,.any,.any,.any,.any,.any,svZ,svZ,svZ,svZ,svZ,svZ,svZ,svZ,svZ,svZ,svZ,svZ,svZ],[⟨[SV.val (vI64 a),SV.val (vI64 b),SV.val (vI64 c),SV.val (vI64 d),SV.val (vI64 h),SV.val (vI64 mi),SV.val (vI64 s),SV.val (vI64 n)],51⟩,⟨[SV.val (vI64 a),SV.val (vI64 b),SV.val (vI64 c),SV.val (vI64 d),SV.val (vI64 h),SV.val (vI64 mi),SV.val (vI64 s),SV.val (vI64 n)],2⟩])) (fun _ => _) (fun k => 0 ≤ k.1 ∧ k.1 ≤ 8 ∧ (0 < k.1 → -4294967295 ≤ a ∧ a ≤ 4294967295) ∧ (1 < k.1 → -4294967295 ≤ b ∧ b ≤ 4294967295) ∧ (2 < k.1 → -4294967295 ≤ c ∧ c ≤ 4294967295)) (fun k => (8 - k.1).toNat) ((0,false)) (by kernel_rfl) (by kernel_rfl) Sub.refl (by first | omega | (simp; omega) | assumption | simp_all) (fun x px0 back0 => ?_)
 rcases x with ⟨y0_0, y0_1⟩
 simp only at px0
 (have hk0 : y0_0 = 0 ∨ y0_0 = 1 ∨ y0_0 = 2 ∨ y0_0 = 3 ∨ y0_0 = 4 ∨ y0_0 = 5 ∨ y0_0 = 6 ∨ y0_0 = 7 ∨ y0_0 = 8 := (by omega); rcases hk0 with rfl | rfl | rfl | rfl | rfl | rfl | rfl | rfl | rfl <;> rcases y0_1 with _ | _)
 ·have _hh := True.intro
  refine qN 21 (decide (a > 0)) ?_
  by_cases k29 : a < 0
  ·refine qV 29 (decide_eq_true k29) ?_
   refine qN 38 (decide (a > 4294967295)) ?_
   by_cases k44 : a < -4294967295
   ·refine qV 44 (decide_eq_true k44) ?_
    exact st_retv Tryz.func89 (show Value.bool (false) = _ by (refine b_eq (decide_eq_false ?_).symm; unfold uOk pos8 neg8 cnt1 LIM; omega)) (by kernel_rfl)
   ·refine qV 44 (decide_eq_false k44) ?_
    refine qI 14 (0 + 1) ?_
    refine qG [0,1,2,3,4,5,6,7,8,47,48,49,50,51,52,53,54,55,56,57,58,59] ?_
    exact qBDuzn0 back0 ((0 + 1, true))
  ·refine qV 29 (decide_eq_false k29) ?_
   refine qN 38 (decide (a > 4294967295)) ?_
   refine qN 44 (decide (a < -4294967295)) ?_
   refine qI 14 (0 + 1) ?_
   refine qG [0,1,2,3,4,5,6,7,8,47,48,49,50,51,52,53,54,55,56,57,58,59] ?_
   exact qBDuzn0 back0 ((0 + 1, false))
 ·have _hh := True.intro
  refine qN 21 (decide (a > 0)) ?_
  refine qN 38 (decide (a > 4294967295)) ?_
  by_cases k44 : a < -4294967295
  ·refine qV 44 (decide_eq_true k44) ?_
   exact st_retv Tryz.func89 (show Value.bool (false) = _ by (refine b_eq (decide_eq_false ?_).symm; unfold uOk pos8 neg8 cnt1 LIM; omega)) (by kernel_rfl)
  ·refine qV 44 (decide_eq_false k44) ?_
   refine qI 14 (0 + 1) ?_
   refine qG [0,1,2,3,4,5,6,7,8,47,48,49,50,51,52,53,54,55,56,57,58,59] ?_
   exact qBDuzn0 back0 ((0 + 1, true))
 ·have _hh := True.intro
  refine qN 21 (decide (b > 0)) ?_
  by_cases k29 : b < 0
  ·refine qV 29 (decide_eq_true k29) ?_
   refine qN 38 (decide (b > 4294967295)) ?_
   by_cases k44 : b < -4294967295
   ·refine qV 44 (decide_eq_true k44) ?_
    exact st_retv Tryz.func89 (show Value.bool (false) = _ by (refine b_eq (decide_eq_false ?_).symm; unfold uOk pos8 neg8 cnt1 LIM; omega)) (by kernel_rfl)
   ·refine qV 44 (decide_eq_false k44) ?_
    refine qI 14 (1 + 1) ?_
    refine qG [0,1,2,3,4,5,6,7,8,47,48,49,50,51,52,53,54,55,56,57,58,59] ?_
    exact qBDuzn0 back0 ((1 + 1, true))
  ·refine qV 29 (decide_eq_false k29) ?_
   refine qN 38 (decide (b > 4294967295)) ?_
   refine qN 44 (decide (b < -4294967295)) ?_
   refine qI 14 (1 + 1) ?_
   refine qG [0,1,2,3,4,5,6,7,8,47,48,49,50,51,52,53,54,55,56,57,58,59] ?_
   exact qBDuzn0 back0 ((1 + 1, false))
 ·have _hh := True.intro
  refine qN 21 (decide (b > 0)) ?_
  refine qN 38 (decide (b > 4294967295)) ?_
  by_cases k44 : b < -4294967295
  ·refine qV 44 (decide_eq_true k44) ?_
   exact st_retv Tryz.func89 (show Value.bool (false) = _ by (refine b_eq (decide_eq_false ?_).symm; unfold uOk pos8 neg8 cnt1 LIM; omega)) (by kernel_rfl)
  ·refine qV 44 (decide_eq_false k44) ?_
   refine qI 14 (1 + 1) ?_
   refine qG [0,1,2,3,4,5,6,7,8,47,48,49,50,51,52,53,54,55,56,57,58,59] ?_
   exact qBDuzn0 back0 ((1 + 1, true))
 ·have _hh := True.intro
  refine qN 21 (decide (c > 0)) ?_
  by_cases k29 : c < 0
  ·refine qV 29 (decide_eq_true k29) ?_
   refine qN 38 (decide (c > 4294967295)) ?_
   by_cases k44 : c < -4294967295
   ·refine qV 44 (decide_eq_true k44) ?_
    exact st_retv Tryz.func89 (show Value.bool (false) = _ by (refine b_eq (decide_eq_false ?_).symm; unfold uOk pos8 neg8 cnt1 LIM; omega)) (by kernel_rfl)
   ·refine qV 44 (decide_eq_false k44) ?_
    refine qI 14 (2 + 1) ?_
    refine qG [0,1,2,3,4,5,6,7,8,47,48,49,50,51,52,53,54,55,56,57,58,59] ?_
    exact qBDuzn0 back0 ((2 + 1, true))
  ·refine qV 29 (decide_eq_false k29) ?_
   refine qN 38 (decide (c > 4294967295)) ?_
   refine qN 44 (decide (c < -4294967295)) ?_
   refine qI 14 (2 + 1) ?_
   refine qG [0,1,2,3,4,5,6,7,8,47,48,49,50,51,52,53,54,55,56,57,58,59] ?_
   exact qBDuzn0 back0 ((2 + 1, false))
 ·have _hh := True.intro
  refine qN 21 (decide (c > 0)) ?_
  refine qN 38 (decide (c > 4294967295)) ?_
  by_cases k44 : c < -4294967295
  ·refine qV 44 (decide_eq_true k44) ?_
   exact st_retv Tryz.func89 (show Value.bool (false) = _ by (refine b_eq (decide_eq_false ?_).symm; unfold uOk pos8 neg8 cnt1 LIM; omega)) (by kernel_rfl)
  ·refine qV 44 (decide_eq_false k44) ?_
   refine qI 14 (2 + 1) ?_
   refine qG [0,1,2,3,4,5,6,7,8,47,48,49,50,51,52,53,54,55,56,57,58,59] ?_
   exact qBDuzn0 back0 ((2 + 1, true))
 ·have _hh := True.intro
  refine qN 21 (decide (d > 0)) ?_
  by_cases k29 : d < 0
  ·refine qV 29 (decide_eq_true k29) ?_
   refine qI 14 (3 + 1) ?_
   refine qG [0,1,2,3,4,5,6,7,8,47,48,49,50,51,52,53,54,55,56,57,58,59] ?_
   exact qBDuzn0 back0 ((3 + 1, true))
  ·refine qV 29 (decide_eq_false k29) ?_
   refine qI 14 (3 + 1) ?_
   refine qG [0,1,2,3,4,5,6,7,8,47,48,49,50,51,52,53,54,55,56,57,58,59] ?_
   exact qBDuzn0 back0 ((3 + 1, false))
 ·have _hh := True.intro
  refine qN 21 (decide (d > 0)) ?_
  refine qI 14 (3 + 1) ?_
  refine qG [0,1,2,3,4,5,6,7,8,47,48,49,50,51,52,53,54,55,56,57,58,59] ?_
  exact qBDuzn0 back0 ((3 + 1, true))
 ·have _hh := True.intro
  refine qN 21 (decide (h > 0)) ?_
  by_cases k29 : h < 0
  ·refine qV 29 (decide_eq_true k29) ?_
   refine qI 14 (4 + 1) ?_
   refine qG [0,1,2,3,4,5,6,7,8,47,48,49,50,51,52,53,54,55,56,57,58,59] ?_
   exact qBDuzn0 back0 ((4 + 1, true))
  ·refine qV 29 (decide_eq_false k29) ?_
   refine qI 14 (4 + 1) ?_
   refine qG [0,1,2,3,4,5,6,7,8,47,48,49,50,51,52,53,54,55,56,57,58,59] ?_
   exact qBDuzn0 back0 ((4 + 1, false))
 ·have _hh := True.intro
  refine qN 21 (decide (h > 0)) ?_
  refine qI 14 (4 + 1) ?_
  refine qG [0,1,2,3,4,5,6,7,8,47,48,49,50,51,52,53,54,55,56,57,58,59] ?_
  exact qBDuzn0 back0 ((4 + 1, true))
 ·have _hh := True.intro
  refine qN 21 (decide (mi > 0)) ?_
  by_cases k29 : mi < 0
  ·refine qV 29 (decide_eq_true k29) ?_
   refine qI 14 (5 + 1) ?_
   refine qG [0,1,2,3,4,5,6,7,8,47,48,49,50,51,52,53,54,55,56,57,58,59] ?_
   exact qBDuzn0 back0 ((5 + 1, true))
  ·refine qV 29 (decide_eq_false k29) ?_
   refine qI 14 (5 + 1) ?_
   refine qG [0,1,2,3,4,5,6,7,8,47,48,49,50,51,52,53,54,55,56,57,58,59] ?_
   exact qBDuzn0 back0 ((5 + 1, false))
 ·have _hh := True.intro
  refine qN 21 (decide (mi > 0)) ?_
  refine qI 14 (5 + 1) ?_
  refine qG [0,1,2,3,4,5,6,7,8,47,48,49,50,51,52,53,54,55,56,57,58,59] ?_
  exact qBDuzn0 back0 ((5 + 1, true))
 ·have _hh := True.intro
  refine qN 21 (decide (s > 0)) ?_
  by_cases k29 : s < 0
  ·refine qV 29 (decide_eq_true k29) ?_
   refine qI 14 (6 + 1) ?_
   refine qG [0,1,2,3,4,5,6,7,8,47,48,49,50,51,52,53,54,55,56,57,58,59] ?_
   exact qBDuzn0 back0 ((6 + 1, true))
  ·refine qV 29 (decide_eq_false k29) ?_
   refine qI 14 (6 + 1) ?_
   refine qG [0,1,2,3,4,5,6,7,8,47,48,49,50,51,52,53,54,55,56,57,58,59] ?_
   exact qBDuzn0 back0 ((6 + 1, false))
 ·have _hh := True.intro
  refine qN 21 (decide (s > 0)) ?_
  refine qI 14 (6 + 1) ?_
  refine qG [0,1,2,3,4,5,6,7,8,47,48,49,50,51,52,53,54,55,56,57,58,59] ?_
  exact qBDuzn0 back0 ((6 + 1, true))
 ·have _hh := True.intro
  refine qN 21 (decide (n > 0)) ?_
  by_cases k29 : n < 0
  ·refine qV 29 (decide_eq_true k29) ?_
   refine qI 14 (7 + 1) ?_
   refine qG [0,1,2,3,4,5,6,7,8,47,48,49,50,51,52,53,54,55,56,57,58,59] ?_
   exact qBDuzn0 back0 ((7 + 1, true))
  ·refine qV 29 (decide_eq_false k29) ?_
   refine qI 14 (7 + 1) ?_
   refine qG [0,1,2,3,4,5,6,7,8,47,48,49,50,51,52,53,54,55,56,57,58,59] ?_
   exact qBDuzn0 back0 ((7 + 1, false))
 ·have _hh := True.intro
  refine qN 21 (decide (n > 0)) ?_
  refine qI 14 (7 + 1) ?_
  refine qG [0,1,2,3,4,5,6,7,8,47,48,49,50,51,52,53,54,55,56,57,58,59] ?_
  exact qBDuzn0 back0 ((7 + 1, true))
 ·have _hh := True.intro
  refine qZ ent132 (ut) fun zq2 => ?_
  refine st_g ent130 (fa (zq2)) (subC 0 rfl sub0) (by kernel_rfl) (fun zq3 => ?_)
  refine qZ ent133 (zulimit) fun zq4 => ?_
  refine st_fn ent86 (fzcmp (zq3) (zq4) (X) (9007199254740992000000000) (by exact Bits.fit bX (by decide)) (by exact Bits.fit bl.bits (by decide))) (subC 1 rfl (subC 0 rfl sub0)) (by kernel_rfl) ?_
  exact st_retv Tryz.func89 (show Value.bool (decide (cmpI X 9007199254740992000000000 < 0)) = _ by (refine b_eq (decide_eq_decide.2 ?_); rw [qt]; unfold uOk pos8 neg8 cnt1 LIM; omega)) (by kernel_rfl)
 ·have _hh := True.intro
  refine qZ ent132 (ut) fun zq2 => ?_
  refine st_g ent130 (fa (zq2)) (subC 0 rfl sub0) (by kernel_rfl) (fun zq3 => ?_)
  refine qZ ent133 (zulimit) fun zq4 => ?_
  refine st_fn ent86 (fzcmp (zq3) (zq4) (X) (9007199254740992000000000) (by exact Bits.fit bX (by decide)) (by exact Bits.fit bl.bits (by decide))) (subC 1 rfl (subC 0 rfl sub0)) (by kernel_rfl) ?_
  exact st_retv Tryz.func89 (show Value.bool (decide (cmpI X 9007199254740992000000000 < 0)) = _ by (refine b_eq (decide_eq_decide.2 ?_); rw [qt]; unfold uOk pos8 neg8 cnt1 LIM; omega)) (by kernel_rfl)
end
end Go.Proofs.YthoedmikfpbfnaaGreat
end
section
set_option maxRecDepth 100000
namespace Go.Proofs.YthoedmikfpbfnaaGreat
open Go Go.RowKit Go.Ev

section
variable (a b c d h mi s n : Int)
theorem qBDuzm0 {f0 : FuncId} {w0 : World} {R : Ending → World → Prop} {L : ZL} {c : Cf} {X : Type} {c0 : Cf} {I : X → List SV × List Bk} {Lf : X → ZL} {p : X → Prop} {m : X → Nat} {x : X} (hb : Back ⟨Tryz.prog, f0, [3], w0, R⟩ c0 I Lf p m x) (x' : X) (hp : p x' := by first | (simp only [reduceCtorEq, false_implies, true_implies, true_and, and_true, forall_const]; omega) | (exact b_eq (decide_eq_false (fun z => z.1.elim hP hN)).symm) | (exact absurd (show neg8 a b c d h mi s n by unfold neg8; omega) hN) | (exact absurd (show pos8 a b c d h mi s n by unfold pos8; omega) hP) | omega | (simp only []; omega) | (simp; omega) | assumption | simp_all) (hm : m x' < m x := by first | omega | (simp only []; omega) | (simp; omega)) (hL : Sub (Lf x') L := by exact fun p hp => by first | exact hp | simp_all)
 (h0 : fb (adv Tryz.prog [3] 9999 400 c) = I x' := by kernel_rfl) (hc : loopBack (adv Tryz.prog [3] 9999 400 c) = loopAt c0 := by kernel_rfl) (hs : (loopAt c0).isSome = true := by kernel_rfl) : Ru ⟨Tryz.prog, f0, [3], w0, R⟩ (ZAll L) c := qB hb x' hp hm hL h0 hc hs
set_option maxHeartbeats 3200000 in
theorem zuright_m (i : all64 a b c d h mi s n) (hP : ¬ pos8 a b c d h mi s n) (hN : ¬ neg8 a b c d h mi s n) : Fn 89 [] [duv a b c d h mi s n] (.bool (decide (uOk a b c d h mi s n))) := by
 obtain ⟨i1, i2, i3, i4, i5, i6, i7, i8⟩ := i
 have bt : W128 (dtot d h mi s n) := by unfold I64 at *; unfold W128 dtot; omega
 have bl : W128 9007199254740992000000000 := by unfold W128; omega
 have ut := zutot a b c d h mi s n i4 i5 i6 i7 i8
 obtain ⟨X, hX⟩ : ∃ X : Int, X = ((dtot d h mi s n).natAbs : Int) := ⟨_, rfl⟩
 have bX : Bits 128 X := by rw [hX]; exact bt.bits.abs
 have fa : ∀ p : ZQ, FnZ 130 [(p, dtot d h mi s n)] [zv p] zv X := fun p => by rw [hX]; exact fzabs p _ (bt.bits.fit (by decide))
 have qt := cmpI_lt0 (a := X) (b := 9007199254740992000000000)
 refine fn_of Tryz.func89 rfl fun ww => ?_
 refine st_rowB ent131 (zufields (a) (b) (c) (d) (h) (mi) (s) (n)) (by kernel_rfl) ?_
 refine qG [0,1,3,4,5,6,7,8,47,48,49,50,51,52,53,54,55,56,57,58,59] ?_
 refine st_loop (X := Int × Bool × Bool) (fun x => ([SV.val (Value.agg #[vI64 a,vI64 b,vI64 c,vI64 d,vI64 h,vI64 mi,vI64 s,vI64 n]),SV.ptr 0 0,.any,SV.sl 1 0 8 8,.val (.bool x.2.1),.val (.bool x.2.2),.val (.int .i64 x.1),SV.val (Value.agg #[vI64 a,vI64 b,vI64 c,vI64 d,vI64 h,vI64 mi,vI64 s,vI64 n]),SV.sl 1 0 8 8,.any,.any,.any,.any,.any,.any,.any,.any,.any,.any,.any,.any,.any,.any,.any,.any,.any,.any,.any,.any,.any,.any,.any,.any,.any,.any,.any,.any,.any,.any,.any,.any,.any,.any,.any,.any,.any,.any,svZ,svZ,svZ,svZ,svZ,svZ,svZ,svZ,svZ,svZ,svZ,svZ,svZ],[⟨[SV.val (vI64 a),SV.val (vI64 b),SV.val (vI64 c),SV.val (vI64 d),SV.val (vI64 h),SV.val (vI64 mi),SV.val (vI64 s),SV.val (vI64 n)],51⟩,⟨[SV.val (vI64 a),SV.val (vI64 b),SV.val (vI64 c),SV.val (vI64 d),SV.val (vI64 h),SV.val (vI64 mi),SV.val (vI64 s),SV.val (vI64 n)],2⟩])) (fun _ => _) (fun k => 0 ≤ k.1 ∧ k.1 ≤ 8 ∧ (k.2.1 = false → (0 < k.1 → a ≤ 0) ∧ (1 < k.1 → b ≤ 0) ∧ (2 < k.1 → c ≤ 0) ∧ (3 < k.1 → d ≤ 0) ∧ (4 < k.1 → h ≤ 0) ∧ (5 < k.1 → mi ≤ 0) ∧ (6 < k.1 → s ≤ 0) ∧ (7 < k.1 → n ≤ 0)) ∧ (k.2.2 = false → (0 < k.1 → 0 ≤ a) ∧ (1 < k.1 → 0 ≤ b) ∧ (2 < k.1 → 0 ≤ c) ∧ (3 < k.1 → 0 ≤ d) ∧ (4 < k.1 → 0 ≤ h) ∧ (5 < k.1 → 0 ≤ mi) ∧ (6 < k.1 → 0 ≤ s) ∧ (7 < k.1 → 0 ≤ n))) (fun k => (8 - k.1).toNat) ((0,false,false)) (by kernel_rfl) (by kernel_rfl) Sub.refl (by first | omega | (simp; omega) | assumption | simp_all) (fun x px0 back0 => ?_)
 rcases x with ⟨y0_0, y0_1, y0_2⟩
 simp only at px0
 (have hk0 : y0_0 = 0 ∨ y0_0 = 1 ∨ y0_0 = 2 ∨ y0_0 = 3 ∨ y0_0 = 4 ∨ y0_0 = 5 ∨ y0_0 = 6 ∨ y0_0 = 7 ∨ y0_0 = 8 := (by omega); rcases hk0 with rfl | rfl | rfl | rfl | rfl | rfl | rfl | rfl | rfl <;> rcases y0_1 with _ | _ <;> rcases y0_2 with _ | _ <;> simp only [reduceCtorEq, false_implies, true_implies, true_and, and_true, forall_const] at px0)
 ·have _hh := True.intro
  by_cases k21 : a > 0
  ·refine qV 21 (decide_eq_true k21) ?_
   refine qN 29 (decide (a < 0)) ?_
   by_cases k38 : a > 4294967295
   ·refine qV 38 (decide_eq_true k38) ?_
    exact st_retv Tryz.func89 (show Value.bool (false) = _ by (exact b_eq (decide_eq_false (fun z => z.1.elim hP hN)).symm)) (by kernel_rfl)
   ·refine qV 38 (decide_eq_false k38) ?_
    refine qN 44 (decide (a < -4294967295)) ?_
    refine qI 14 (0 + 1) ?_
    refine qG [0,1,2,3,4,5,6,7,8,47,48,49,50,51,52,53,54,55,56,57,58,59] ?_
    exact qBDuzm0 back0 ((0 + 1, true, false))
  ·refine qV 21 (decide_eq_false k21) ?_
   by_cases k29 : a < 0
   ·refine qV 29 (decide_eq_true k29) ?_
    refine qN 38 (decide (a > 4294967295)) ?_
    by_cases k44 : a < -4294967295
    ·refine qV 44 (decide_eq_true k44) ?_
     exact st_retv Tryz.func89 (show Value.bool (false) = _ by (exact b_eq (decide_eq_false (fun z => z.1.elim hP hN)).symm)) (by kernel_rfl)
    ·refine qV 44 (decide_eq_false k44) ?_
     refine qI 14 (0 + 1) ?_
     refine qG [0,1,2,3,4,5,6,7,8,47,48,49,50,51,52,53,54,55,56,57,58,59] ?_
     exact qBDuzm0 back0 ((0 + 1, false, true))
   ·refine qV 29 (decide_eq_false k29) ?_
    refine qN 38 (decide (a > 4294967295)) ?_
    refine qN 44 (decide (a < -4294967295)) ?_
    refine qI 14 (0 + 1) ?_
    refine qG [0,1,2,3,4,5,6,7,8,47,48,49,50,51,52,53,54,55,56,57,58,59] ?_
    exact qBDuzm0 back0 ((0 + 1, false, false))
 ·have _hh := True.intro
  by_cases k21 : a > 0
  ·refine qV 21 (decide_eq_true k21) ?_
   by_cases k38 : a > 4294967295
   ·refine qV 38 (decide_eq_true k38) ?_
    exact st_retv Tryz.func89 (show Value.bool (false) = _ by (exact b_eq (decide_eq_false (fun z => z.1.elim hP hN)).symm)) (by kernel_rfl)
   ·refine qV 38 (decide_eq_false k38) ?_
    refine qN 44 (decide (a < -4294967295)) ?_
    refine qI 14 (0 + 1) ?_
    refine qG [0,1,2,3,4,5,6,7,8,47,48,49,50,51,52,53,54,55,56,57,58,59] ?_
    exact qBDuzm0 back0 ((0 + 1, true, true))
  ·refine qV 21 (decide_eq_false k21) ?_
   refine qN 38 (decide (a > 4294967295)) ?_
   by_cases k44 : a < -4294967295
   ·refine qV 44 (decide_eq_true k44) ?_
    exact st_retv Tryz.func89 (show Value.bool (false) = _ by (exact b_eq (decide_eq_false (fun z => z.1.elim hP hN)).symm)) (by kernel_rfl)
   ·refine qV 44 (decide_eq_false k44) ?_
    refine qI 14 (0 + 1) ?_
    refine qG [0,1,2,3,4,5,6,7,8,47,48,49,50,51,52,53,54,55,56,57,58,59] ?_
    exact qBDuzm0 back0 ((0 + 1, false, true))
 ·have _hh := True.intro
  by_cases k29 : a < 0
  ·refine qV 29 (decide_eq_true k29) ?_
   refine qN 38 (decide (a > 4294967295)) ?_
   by_cases k44 : a < -4294967295
   ·refine qV 44 (decide_eq_true k44) ?_
    exact st_retv Tryz.func89 (show Value.bool (false) = _ by (exact b_eq (decide_eq_false (fun z => z.1.elim hP hN)).symm)) (by kernel_rfl)
   ·refine qV 44 (decide_eq_false k44) ?_
    refine qI 14 (0 + 1) ?_
    refine qG [0,1,2,3,4,5,6,7,8,47,48,49,50,51,52,53,54,55,56,57,58,59] ?_
    exact qBDuzm0 back0 ((0 + 1, true, true))
  ·refine qV 29 (decide_eq_false k29) ?_
   by_cases k38 : a > 4294967295
   ·refine qV 38 (decide_eq_true k38) ?_
    exact st_retv Tryz.func89 (show Value.bool (false) = _ by (exact b_eq (decide_eq_false (fun z => z.1.elim hP hN)).symm)) (by kernel_rfl)
   ·refine qV 38 (decide_eq_false k38) ?_
    refine qN 44 (decide (a < -4294967295)) ?_
    refine qI 14 (0 + 1) ?_
    refine qG [0,1,2,3,4,5,6,7,8,47,48,49,50,51,52,53,54,55,56,57,58,59] ?_
    exact qBDuzm0 back0 ((0 + 1, true, false))
 ·have _hh := True.intro
  by_cases k38 : a > 4294967295
  ·refine qV 38 (decide_eq_true k38) ?_
   exact st_retv Tryz.func89 (show Value.bool (false) = _ by (exact b_eq (decide_eq_false (fun z => z.1.elim hP hN)).symm)) (by kernel_rfl)
  ·refine qV 38 (decide_eq_false k38) ?_
   by_cases k44 : a < -4294967295
   ·refine qV 44 (decide_eq_true k44) ?_
    exact st_retv Tryz.func89 (show Value.bool (false) = _ by (exact b_eq (decide_eq_false (fun z => z.1.elim hP hN)).symm)) (by kernel_rfl)
   ·refine qV 44 (decide_eq_false k44) ?_
    refine qI 14 (0 + 1) ?_
    refine qG [0,1,2,3,4,5,6,7,8,47,48,49,50,51,52,53,54,55,56,57,58,59] ?_
    exact qBDuzm0 back0 ((0 + 1, true, true))
 ·have _hh := True.intro
  by_cases k21 : b > 0
  ·refine qV 21 (decide_eq_true k21) ?_
   refine qN 29 (decide (b < 0)) ?_
   by_cases k38 : b > 4294967295
   ·refine qV 38 (decide_eq_true k38) ?_
    exact st_retv Tryz.func89 (show Value.bool (false) = _ by (exact b_eq (decide_eq_false (fun z => z.1.elim hP hN)).symm)) (by kernel_rfl)
   ·refine qV 38 (decide_eq_false k38) ?_
    refine qN 44 (decide (b < -4294967295)) ?_
    refine qI 14 (1 + 1) ?_
    refine qG [0,1,2,3,4,5,6,7,8,47,48,49,50,51,52,53,54,55,56,57,58,59] ?_
    exact qBDuzm0 back0 ((1 + 1, true, false))
  ·refine qV 21 (decide_eq_false k21) ?_
   by_cases k29 : b < 0
   ·refine qV 29 (decide_eq_true k29) ?_
    refine qN 38 (decide (b > 4294967295)) ?_
    by_cases k44 : b < -4294967295
    ·refine qV 44 (decide_eq_true k44) ?_
     exact st_retv Tryz.func89 (show Value.bool (false) = _ by (exact b_eq (decide_eq_false (fun z => z.1.elim hP hN)).symm)) (by kernel_rfl)
    ·refine qV 44 (decide_eq_false k44) ?_
     refine qI 14 (1 + 1) ?_
     refine qG [0,1,2,3,4,5,6,7,8,47,48,49,50,51,52,53,54,55,56,57,58,59] ?_
     exact qBDuzm0 back0 ((1 + 1, false, true))
   ·refine qV 29 (decide_eq_false k29) ?_
    refine qN 38 (decide (b > 4294967295)) ?_
    refine qN 44 (decide (b < -4294967295)) ?_
    refine qI 14 (1 + 1) ?_
    refine qG [0,1,2,3,4,5,6,7,8,47,48,49,50,51,52,53,54,55,56,57,58,59] ?_
    exact qBDuzm0 back0 ((1 + 1, false, false))
 ·have _hh := True.intro
  by_cases k21 : b > 0
  ·refine qV 21 (decide_eq_true k21) ?_
   by_cases k38 : b > 4294967295
   ·refine qV 38 (decide_eq_true k38) ?_
    exact st_retv Tryz.func89 (show Value.bool (false) = _ by (exact b_eq (decide_eq_false (fun z => z.1.elim hP hN)).symm)) (by kernel_rfl)
   ·refine qV 38 (decide_eq_false k38) ?_
    refine qN 44 (decide (b < -4294967295)) ?_
    refine qI 14 (1 + 1) ?_
    refine qG [0,1,2,3,4,5,6,7,8,47,48,49,50,51,52,53,54,55,56,57,58,59] ?_
    exact qBDuzm0 back0 ((1 + 1, true, true))
  ·refine qV 21 (decide_eq_false k21) ?_
   refine qN 38 (decide (b > 4294967295)) ?_
   by_cases k44 : b < -4294967295
   ·refine qV 44 (decide_eq_true k44) ?_
    exact st_retv Tryz.func89 (show Value.bool (false) = _ by (exact b_eq (decide_eq_false (fun z => z.1.elim hP hN)).symm)) (by kernel_rfl)
   ·refine qV 44 (decide_eq_false k44) ?_
    refine qI 14 (1 + 1) ?_
    refine qG [0,1,2,3,4,5,6,7,8,47,48,49,50,51,52,53,54,55,56,57,58,59] ?_
    exact qBDuzm0 back0 ((1 + 1, false, true))
 ·have _hh := True.intro
  by_cases k29 : b < 0
  ·refine qV 29 (decide_eq_true k29) ?_
   refine qN 38 (decide (b > 4294967295)) ?_
   by_cases k44 : b < -4294967295
   ·refine qV 44 (decide_eq_true k44) ?_
    exact st_retv Tryz.func89 (show Value.bool (false) = _ by (exact b_eq (decide_eq_false (fun z => z.1.elim hP hN)).symm)) (by kernel_rfl)
   ·refine qV 44 (decide_eq_false k44) ?_
    refine qI 14 (1 + 1) ?_
    refine qG [0,1,2,3,4,5,6,7,8,47,48,49,50,51,52,53,54,55,56,57,58,59] ?_
    exact qBDuzm0 back0 ((1 + 1, true, true))
  ·refine qV 29 (decide_eq_false k29) ?_
   by_cases k38 : b > 4294967295
   ·refine qV 38 (decide_eq_true k38) ?_
    exact st_retv Tryz.func89 (show Value.bool (false) = _ by (exact b_eq (decide_eq_false (fun z => z.1.elim hP hN)).symm)) (by kernel_rfl)
   ·refine qV 38 (decide_eq_false k38) ?_
    refine qN 44 (decide (b < -4294967295)) ?_
    refine qI 14 (1 + 1) ?_
    refine qG [0,1,2,3,4,5,6,7,8,47,48,49,50,51,52,53,54,55,56,57,58,59] ?_
    exact qBDuzm0 back0 ((1 + 1, true, false))
 ·have _hh := True.intro
  by_cases k38 : b > 4294967295
  ·refine qV 38 (decide_eq_true k38) ?_
   exact st_retv Tryz.func89 (show Value.bool (false) = _ by (exact b_eq (decide_eq_false (fun z => z.1.elim hP hN)).symm)) (by kernel_rfl)
  ·refine qV 38 (decide_eq_false k38) ?_
   by_cases k44 : b < -4294967295
   ·refine qV 44 (decide_eq_true k44) ?_
    exact st_retv Tryz.func89 (show Value.bool (false) = _ by (exact b_eq (decide_eq_false (fun z => z.1.elim hP hN)).symm)) (by kernel_rfl)
   ·refine qV 44 (decide_eq_false k44) ?_
    refine qI 14 (1 + 1) ?_
    refine qG [0,1,2,3,4,5,6,7,8,47,48,49,50,51,52,53,54,55,56,57,58,59] ?_
    exact qBDuzm0 back0 ((1 + 1, true, true))
 ·have _hh := True.intro
  by_cases k21 : c > 0
  ·refine qV 21 (decide_eq_true k21) ?_
   refine qN 29 (decide (c < 0)) ?_
   by_cases k38 : c > 4294967295
   ·refine qV 38 (decide_eq_true k38) ?_
    exact st_retv Tryz.func89 (show Value.bool (false) = _ by (exact b_eq (decide_eq_false (fun z => z.1.elim hP hN)).symm)) (by kernel_rfl)
   ·refine qV 38 (decide_eq_false k38) ?_
    refine qN 44 (decide (c < -4294967295)) ?_
    refine qI 14 (2 + 1) ?_
    refine qG [0,1,2,3,4,5,6,7,8,47,48,49,50,51,52,53,54,55,56,57,58,59] ?_
    exact qBDuzm0 back0 ((2 + 1, true, false))
  ·refine qV 21 (decide_eq_false k21) ?_
   by_cases k29 : c < 0
   ·refine qV 29 (decide_eq_true k29) ?_
    refine qN 38 (decide (c > 4294967295)) ?_
    by_cases k44 : c < -4294967295
    ·refine qV 44 (decide_eq_true k44) ?_
     exact st_retv Tryz.func89 (show Value.bool (false) = _ by (exact b_eq (decide_eq_false (fun z => z.1.elim hP hN)).symm)) (by kernel_rfl)
    ·refine qV 44 (decide_eq_false k44) ?_
     refine qI 14 (2 + 1) ?_
     refine qG [0,1,2,3,4,5,6,7,8,47,48,49,50,51,52,53,54,55,56,57,58,59] ?_
     exact qBDuzm0 back0 ((2 + 1, false, true))
   ·refine qV 29 (decide_eq_false k29) ?_
    refine qN 38 (decide (c > 4294967295)) ?_
    refine qN 44 (decide (c < -4294967295)) ?_
    refine qI 14 (2 + 1) ?_
    refine qG [0,1,2,3,4,5,6,7,8,47,48,49,50,51,52,53,54,55,56,57,58,59] ?_
    exact qBDuzm0 back0 ((2 + 1, false, false))
 ·have _hh := True.intro
  by_cases k21 : c > 0
  ·refine qV 21 (decide_eq_true k21) ?_
   by_cases k38 : c > 4294967295
   ·refine qV 38 (decide_eq_true k38) ?_
    exact st_retv Tryz.func89 (show Value.bool (false) = _ by (exact b_eq (decide_eq_false (fun z => z.1.elim hP hN)).symm)) (by kernel_rfl)
   ·refine qV 38 (decide_eq_false k38) ?_
    refine qN 44 (decide (c < -4294967295)) ?_
    refine qI 14 (2 + 1) ?_
    refine qG [0,1,2,3,4,5,6,7,8,47,48,49,50,51,52,53,54,55,56,57,58,59] ?_
    exact qBDuzm0 back0 ((2 + 1, true, true))
  ·refine qV 21 (decide_eq_false k21) ?_
   refine qN 38 (decide (c > 4294967295)) ?_
   by_cases k44 : c < -4294967295
   ·refine qV 44 (decide_eq_true k44) ?_
    exact st_retv Tryz.func89 (show Value.bool (false) = _ by (exact b_eq (decide_eq_false (fun z => z.1.elim hP hN)).symm)) (by kernel_rfl)
   ·refine qV 44 (decide_eq_false k44) ?_
    refine qI 14 (2 + 1) ?_
    refine qG [0,1,2,3,4,5,6,7,8,47,48,49,50,51,52,53,54,55,56,57,58,59] ?_
    exact qBDuzm0 back0 ((2 + 1, false, true))
 ·have _hh := True.intro
  by_cases k29 : c < 0
  ·refine qV 29 (decide_eq_true k29) ?_
   refine qN 38 (decide (c > 4294967295)) ?_
   by_cases k44 : c < -4294967295
   ·refine qV 44 (decide_eq_true k44) ?_
    exact st_retv Tryz.func89 (show Value.bool (false) = _ by (exact b_eq (decide_eq_false (fun z => z.1.elim hP hN)).symm)) (by kernel_rfl)
   ·refine qV 44 (decide_eq_false k44) ?_
    refine qI 14 (2 + 1) ?_
    refine qG [0,1,2,3,4,5,6,7,8,47,48,49,50,51,52,53,54,55,56,57,58,59] ?_
    exact qBDuzm0 back0 ((2 + 1, true, true))
  ·refine qV 29 (decide_eq_false k29) ?_
   by_cases k38 : c > 4294967295
   ·refine qV 38 (decide_eq_true k38) ?_
    exact st_retv Tryz.func89 (show Value.bool (false) = _ by (exact b_eq (decide_eq_false (fun z => z.1.elim hP hN)).symm)) (by kernel_rfl)
   ·refine qV 38 (decide_eq_false k38) ?_
    refine qN 44 (decide (c < -4294967295)) ?_
    refine qI 14 (2 + 1) ?_
    refine qG [0,1,2,3,4,5,6,7,8,47,48,49,50,51,52,53,54,55,56,57,58,59] ?_
    exact qBDuzm0 back0 ((2 + 1, true, false))
 ·have _hh := True.intro
  by_cases k38 : c > 4294967295
  ·refine qV 38 (decide_eq_true k38) ?_
   exact st_retv Tryz.func89 (show Value.bool (false) = _ by (exact b_eq (decide_eq_false (fun z => z.1.elim hP hN)).symm)) (by kernel_rfl)
  ·refine qV 38 (decide_eq_false k38) ?_
   by_cases k44 : c < -4294967295
   ·refine qV 44 (decide_eq_true k44) ?_
    exact st_retv Tryz.func89 (show Value.bool (false) = _ by (exact b_eq (decide_eq_false (fun z => z.1.elim hP hN)).symm)) (by kernel_rfl)
   ·refine qV 44 (decide_eq_false k44) ?_
    refine qI 14 (2 + 1) ?_
    refine qG [0,1,2,3,4,5,6,7,8,47,48,49,50,51,52,53,54,55,56,57,58,59] ?_
    exact qBDuzm0 back0 ((2 + 1, true, true))
 ·have _hh := True.intro
  by_cases k21 : d > 0
  ·refine qV 21 (decide_eq_true k21) ?_
   refine qN 29 (decide (d < 0)) ?_
   refine qI 14 (3 + 1) ?_
   refine qG [0,1,2,3,4,5,6,7,8,47,48,49,50,51,52,53,54,55,56,57,58,59] ?_
   exact qBDuzm0 back0 ((3 + 1, true, false))
  ·refine qV 21 (decide_eq_false k21) ?_
   by_cases k29 : d < 0
   ·refine qV 29 (decide_eq_true k29) ?_
    refine qI 14 (3 + 1) ?_
    refine qG [0,1,2,3,4,5,6,7,8,47,48,49,50,51,52,53,54,55,56,57,58,59] ?_
    exact qBDuzm0 back0 ((3 + 1, false, true))
   ·refine qV 29 (decide_eq_false k29) ?_
    refine qI 14 (3 + 1) ?_
    refine qG [0,1,2,3,4,5,6,7,8,47,48,49,50,51,52,53,54,55,56,57,58,59] ?_
    exact qBDuzm0 back0 ((3 + 1, false, false))
 ·have _hh := True.intro
  by_cases k21 : d > 0
  ·refine qV 21 (decide_eq_true k21) ?_
   refine qI 14 (3 + 1) ?_
   refine qG [0,1,2,3,4,5,6,7,8,47,48,49,50,51,52,53,54,55,56,57,58,59] ?_
   exact qBDuzm0 back0 ((3 + 1, true, true))
  ·refine qV 21 (decide_eq_false k21) ?_
   refine qI 14 (3 + 1) ?_
   refine qG [0,1,2,3,4,5,6,7,8,47,48,49,50,51,52,53,54,55,56,57,58,59] ?_
   exact qBDuzm0 back0 ((3 + 1, false, true))
 ·have _hh := True.intro
  by_cases k29 : d < 0
  ·refine qV 29 (decide_eq_true k29) ?_
   refine qI 14 (3 + 1) ?_
   refine qG [0,1,2,3,4,5,6,7,8,47,48,49,50,51,52,53,54,55,56,57,58,59] ?_
   exact qBDuzm0 back0 ((3 + 1, true, true))
  ·refine qV 29 (decide_eq_false k29) ?_
   refine qI 14 (3 + 1) ?_
   refine qG [0,1,2,3,4,5,6,7,8,47,48,49,50,51,52,53,54,55,56,57,58,59] ?_
   exact qBDuzm0 back0 ((3 + 1, true, false))
 ·have _hh := True.intro
  refine qI 14 (3 + 1) ?_
  refine qG [0,1,2,3,4,5,6,7,8,47,48,49,50,51,52,53,54,55,56,57,58,59] ?_
  exact qBDuzm0 back0 ((3 + 1, true, true))
 ·have _hh := True.intro
  by_cases k21 : h > 0
  ·refine qV 21 (decide_eq_true k21) ?_
   refine qN 29 (decide (h < 0)) ?_
   refine qI 14 (4 + 1) ?_
   refine qG [0,1,2,3,4,5,6,7,8,47,48,49,50,51,52,53,54,55,56,57,58,59] ?_
   exact qBDuzm0 back0 ((4 + 1, true, false))
  ·refine qV 21 (decide_eq_false k21) ?_
   by_cases k29 : h < 0
   ·refine qV 29 (decide_eq_true k29) ?_
    refine qI 14 (4 + 1) ?_
    refine qG [0,1,2,3,4,5,6,7,8,47,48,49,50,51,52,53,54,55,56,57,58,59] ?_
    exact qBDuzm0 back0 ((4 + 1, false, true))
   ·refine qV 29 (decide_eq_false k29) ?_
    refine qI 14 (4 + 1) ?_
    refine qG [0,1,2,3,4,5,6,7,8,47,48,49,50,51,52,53,54,55,56,57,58,59] ?_
    exact qBDuzm0 back0 ((4 + 1, false, false))
 ·have _hh := True.intro
  by_cases k21 : h > 0
  ·refine qV 21 (decide_eq_true k21) ?_
   refine qI 14 (4 + 1) ?_
   refine qG [0,1,2,3,4,5,6,7,8,47,48,49,50,51,52,53,54,55,56,57,58,59] ?_
   exact qBDuzm0 back0 ((4 + 1, true, true))
  ·refine qV 21 (decide_eq_false k21) ?_
   refine qI 14 (4 + 1) ?_
   refine qG [0,1,2,3,4,5,6,7,8,47,48,49,50,51,52,53,54,55,56,57,58,59] ?_
   exact qBDuzm0 back0 ((4 + 1, false, true))
 ·have _hh := True.intro
  by_cases k29 : h < 0
  ·refine qV 29 (decide_eq_true k29) ?_
   refine qI 14 (4 + 1) ?_
   refine qG [0,1,2,3,4,5,6,7,8,47,48,49,50,51,52,53,54,55,56,57,58,59] ?_
   exact qBDuzm0 back0 ((4 + 1, true, true))
  ·refine qV 29 (decide_eq_false k29) ?_
   refine qI 14 (4 + 1) ?_
   refine qG [0,1,2,3,4,5,6,7,8,47,48,49,50,51,52,53,54,55,56,57,58,59] ?_
   exact qBDuzm0 back0 ((4 + 1, true, false))
 ·have _hh := True.intro
  refine qI 14 (4 + 1) ?_
  refine qG [0,1,2,3,4,5,6,7,8,47,48,49,50,51,52,53,54,55,56,57,58,59] ?_
  exact qBDuzm0 back0 ((4 + 1, true, true))
 ·have _hh := True.intro
  by_cases k21 : mi > 0
  ·refine qV 21 (decide_eq_true k21) ?_
   refine qN 29 (decide (mi < 0)) ?_
   refine qI 14 (5 + 1) ?_
   refine qG [0,1,2,3,4,5,6,7,8,47,48,49,50,51,52,53,54,55,56,57,58,59] ?_
   exact qBDuzm0 back0 ((5 + 1, true, false))
  ·refine qV 21 (decide_eq_false k21) ?_
   by_cases k29 : mi < 0
   ·refine qV 29 (decide_eq_true k29) ?_
    refine qI 14 (5 + 1) ?_
    refine qG [0,1,2,3,4,5,6,7,8,47,48,49,50,51,52,53,54,55,56,57,58,59] ?_
    exact qBDuzm0 back0 ((5 + 1, false, true))
   ·refine qV 29 (decide_eq_false k29) ?_
    refine qI 14 (5 + 1) ?_
    refine qG [0,1,2,3,4,5,6,7,8,47,48,49,50,51,52,53,54,55,56,57,58,59] ?_
    exact qBDuzm0 back0 ((5 + 1, false, false))
 ·have _hh := True.intro
  by_cases k21 : mi > 0
  ·refine qV 21 (decide_eq_true k21) ?_
   refine qI 14 (5 + 1) ?_
   refine qG [0,1,2,3,4,5,6,7,8,47,48,49,50,51,52,53,54,55,56,57,58,59] ?_
   exact qBDuzm0 back0 ((5 + 1, true, true))
  ·refine qV 21 (decide_eq_false k21) ?_
   refine qI 14 (5 + 1) ?_
   refine qG [0,1,2,3,4,5,6,7,8,47,48,49,50,51,52,53,54,55,56,57,58,59] ?_
   exact qBDuzm0 back0 ((5 + 1, false, true))
 ·have _hh := True.intro
  by_cases k29 : mi < 0
  ·refine qV 29 (decide_eq_true k29) ?_
   refine qI 14 (5 + 1) ?_
   refine qG [0,1,2,3,4,5,6,7,8,47,48,49,50,51,52,53,54,55,56,57,58,59] ?_
   exact qBDuzm0 back0 ((5 + 1, true, true))
  ·refine qV 29 (decide_eq_false k29) ?_
   refine qI 14 (5 + 1) ?_
   refine qG [0,1,2,3,4,5,6,7,8,47,48,49,50,51,52,53,54,55,56,57,58,59] ?_
   exact qBDuzm0 back0 ((5 + 1, true, false))
 ·have _hh := True.intro
  refine qI 14 (5 + 1) ?_
  refine qG [0,1,2,3,4,5,6,7,8,47,48,49,50,51,52,53,54,55,56,57,58,59] ?_
  exact qBDuzm0 back0 ((5 + 1, true, true))
 ·have _hh := True.intro
  by_cases k21 : s > 0
  ·refine qV 21 (decide_eq_true k21) ?_
   refine qN 29 (decide (s < 0)) ?_
   refine qI 14 (6 + 1) ?_
   refine qG [0,1,2,3,4,5,6,7,8,47,48,49,50,51,52,53,54,55,56,57,58,59] ?_
   exact qBDuzm0 back0 ((6 + 1, true, false))
  ·refine qV 21 (decide_eq_false k21) ?_
   by_cases k29 : s < 0
   ·refine qV 29 (decide_eq_true k29) ?_
    refine qI 14 (6 + 1) ?_
    refine qG [0,1,2,3,4,5,6,7,8,47,48,49,50,51,52,53,54,55,56,57,58,59] ?_
    exact qBDuzm0 back0 ((6 + 1, false, true))
   ·refine qV 29 (decide_eq_false k29) ?_
    refine qI 14 (6 + 1) ?_
    refine qG [0,1,2,3,4,5,6,7,8,47,48,49,50,51,52,53,54,55,56,57,58,59] ?_
    exact qBDuzm0 back0 ((6 + 1, false, false))
 ·have _hh := True.intro
  by_cases k21 : s > 0
  ·refine qV 21 (decide_eq_true k21) ?_
   refine qI 14 (6 + 1) ?_
   refine qG [0,1,2,3,4,5,6,7,8,47,48,49,50,51,52,53,54,55,56,57,58,59] ?_
   exact qBDuzm0 back0 ((6 + 1, true, true))
  ·refine qV 21 (decide_eq_false k21) ?_
   refine qI 14 (6 + 1) ?_
   refine qG [0,1,2,3,4,5,6,7,8,47,48,49,50,51,52,53,54,55,56,57,58,59] ?_
   exact qBDuzm0 back0 ((6 + 1, false, true))
 ·have _hh := True.intro
  by_cases k29 : s < 0
  ·refine qV 29 (decide_eq_true k29) ?_
   refine qI 14 (6 + 1) ?_
   refine qG [0,1,2,3,4,5,6,7,8,47,48,49,50,51,52,53,54,55,56,57,58,59] ?_
   exact qBDuzm0 back0 ((6 + 1, true, true))
  ·refine qV 29 (decide_eq_false k29) ?_
   refine qI 14 (6 + 1) ?_
   refine qG [0,1,2,3,4,5,6,7,8,47,48,49,50,51,52,53,54,55,56,57,58,59] ?_
   exact qBDuzm0 back0 ((6 + 1, true, false))
 ·have _hh := True.intro
  refine qI 14 (6 + 1) ?_
  refine qG [0,1,2,3,4,5,6,7,8,47,48,49,50,51,52,53,54,55,56,57,58,59] ?_
  exact qBDuzm0 back0 ((6 + 1, true, true))
 ·have _hh := True.intro
  by_cases k21 : n > 0
  ·refine qV 21 (decide_eq_true k21) ?_
   refine qN 29 (decide (n < 0)) ?_
   refine qI 14 (7 + 1) ?_
   refine qG [0,1,2,3,4,5,6,7,8,47,48,49,50,51,52,53,54,55,56,57,58,59] ?_
   exact qBDuzm0 back0 ((7 + 1, true, false))
  ·refine qV 21 (decide_eq_false k21) ?_
   by_cases k29 : n < 0
   ·refine qV 29 (decide_eq_true k29) ?_
    refine qI 14 (7 + 1) ?_
    refine qG [0,1,2,3,4,5,6,7,8,47,48,49,50,51,52,53,54,55,56,57,58,59] ?_
    exact qBDuzm0 back0 ((7 + 1, false, true))
   ·refine qV 29 (decide_eq_false k29) ?_
    refine qI 14 (7 + 1) ?_
    refine qG [0,1,2,3,4,5,6,7,8,47,48,49,50,51,52,53,54,55,56,57,58,59] ?_
    exact qBDuzm0 back0 ((7 + 1, false, false))
 ·have _hh := True.intro
  by_cases k21 : n > 0
  ·refine qV 21 (decide_eq_true k21) ?_
   refine qI 14 (7 + 1) ?_
   refine qG [0,1,2,3,4,5,6,7,8,47,48,49,50,51,52,53,54,55,56,57,58,59] ?_
   exact qBDuzm0 back0 ((7 + 1, true, true))
  ·refine qV 21 (decide_eq_false k21) ?_
   refine qI 14 (7 + 1) ?_
   refine qG [0,1,2,3,4,5,6,7,8,47,48,49,50,51,52,53,54,55,56,57,58,59] ?_
   exact qBDuzm0 back0 ((7 + 1, false, true))
 ·have _hh := True.intro
  by_cases k29 : n < 0
  ·refine qV 29 (decide_eq_true k29) ?_
   refine qI 14 (7 + 1) ?_
   refine qG [0,1,2,3,4,5,6,7,8,47,48,49,50,51,52,53,54,55,56,57,58,59] ?_
   exact qBDuzm0 back0 ((7 + 1, true, true))
  ·refine qV 29 (decide_eq_false k29) ?_
   refine qI 14 (7 + 1) ?_
   refine qG [0,1,2,3,4,5,6,7,8,47,48,49,50,51,52,53,54,55,56,57,58,59] ?_
   exact qBDuzm0 back0 ((7 + 1, true, false))
 ·have _hh := True.intro
  refine qI 14 (7 + 1) ?_
  refine qG [0,1,2,3,4,5,6,7,8,47,48,49,50,51,52,53,54,55,56,57,58,59] ?_
  exact qBDuzm0 back0 ((7 + 1, true, true))
 ·have _hh := True.intro
  refine qZ ent132 (ut) fun zq2 => ?_
  refine st_g ent130 (fa (zq2)) (subC 0 rfl sub0) (by kernel_rfl) (fun zq3 => ?_)
  refine qZ ent133 (zulimit) fun zq4 => ?_
  refine st_fn ent86 (fzcmp (zq3) (zq4) (X) (9007199254740992000000000) (by exact Bits.fit bX (by decide)) (by exact Bits.fit bl.bits (by decide))) (subC 1 rfl (subC 0 rfl sub0)) (by kernel_rfl) ?_
  exact st_retv Tryz.func89 (show Value.bool (decide (cmpI X 9007199254740992000000000 < 0)) = _ by (exact absurd (show neg8 a b c d h mi s n by unfold neg8; omega) hN)) (by kernel_rfl)
 ·have _hh := True.intro
  refine qZ ent132 (ut) fun zq2 => ?_
  refine st_g ent130 (fa (zq2)) (subC 0 rfl sub0) (by kernel_rfl) (fun zq3 => ?_)
  refine qZ ent133 (zulimit) fun zq4 => ?_
  refine st_fn ent86 (fzcmp (zq3) (zq4) (X) (9007199254740992000000000) (by exact Bits.fit bX (by decide)) (by exact Bits.fit bl.bits (by decide))) (subC 1 rfl (subC 0 rfl sub0)) (by kernel_rfl) ?_
  exact st_retv Tryz.func89 (show Value.bool (decide (cmpI X 9007199254740992000000000 < 0)) = _ by (exact absurd (show neg8 a b c d h mi s n by unfold neg8; omega) hN)) (by kernel_rfl)
 ·have _hh := True.intro
  refine qZ ent132 (ut) fun zq2 => ?_
  refine st_g ent130 (fa (zq2)) (subC 0 rfl sub0) (by kernel_rfl) (fun zq3 => ?_)
  refine qZ ent133 (zulimit) fun zq4 => ?_
  refine st_fn ent86 (fzcmp (zq3) (zq4) (X) (9007199254740992000000000) (by exact Bits.fit bX (by decide)) (by exact Bits.fit bl.bits (by decide))) (subC 1 rfl (subC 0 rfl sub0)) (by kernel_rfl) ?_
  exact st_retv Tryz.func89 (show Value.bool (decide (cmpI X 9007199254740992000000000 < 0)) = _ by (exact absurd (show pos8 a b c d h mi s n by unfold pos8; omega) hP)) (by kernel_rfl)
 ·have _hh := True.intro
  exact st_retv Tryz.func89 (show Value.bool (false) = _ by (exact b_eq (decide_eq_false (fun z => z.1.elim hP hN)).symm)) (by kernel_rfl)
end
end Go.Proofs.YthoedmikfpbfnaaGreat
end
section
set_option maxRecDepth 100000
namespace Go.Proofs.YthoedmikfpbfnaaGreat
open Go Go.RowKit Go.Ev

abbrev pv (b : Bool) (x : Int) (e : Bool) : Value := .agg #[.bool b, .int .i64 x, .bool e]
def PlaceAt (k : Nat) (b : Bool) (x : Int) (e : Bool) (w : World) : Prop := w.heap[k]? = some (.cells #[.bool b, .int .i64 x, .bool e] 157 (0, 0))
def HalfAt (h k : Nat) (w : World) : Prop := w.heap[h]? = some (.cells #[.func (.func 146) #[] #[.pointer (some ⟨k, 0, none⟩)]] 186 (0, 0))
def ET : List TypeId := [157, 186]
theorem PlaceAt.stable (k : Nat) (b : Bool) (x : Int) (e : Bool) : Stable ET (PlaceAt k b x e) := fun w w' hk h => hk _ _ _ _ (by simp [ET]) h
theorem HalfAt.stable (h k : Nat) : Stable ET (HalfAt h k) := fun w w' hk q => hk _ _ _ _ (by simp [ET]) q
theorem PlaceAt.c0 {k : Nat} {b : Bool} {x : Int} {e : Bool} {w : World} (h : PlaceAt k b x e w) : w.cell? ⟨k, 0, none⟩ = some (.bool b) := by unfold PlaceAt at h; simp [World.cell?, h]
theorem PlaceAt.c1 {k : Nat} {b : Bool} {x : Int} {e : Bool} {w : World} (h : PlaceAt k b x e w) : w.cell? ⟨k, 1, none⟩ = some (.int .i64 x) := by unfold PlaceAt at h; simp [World.cell?, h]
theorem PlaceAt.c2 {k : Nat} {b : Bool} {x : Int} {e : Bool} {w : World} (h : PlaceAt k b x e w) : w.cell? ⟨k, 2, none⟩ = some (.bool e) := by unfold PlaceAt at h; simp [World.cell?, h]
theorem HalfAt.c0 {h k : Nat} {w : World} (q : HalfAt h k w) : w.cell? ⟨h, 0, none⟩ = some (.func (.func 146) #[] #[.pointer (some ⟨k, 0, none⟩)]) := by unfold HalfAt at q; simp [World.cell?, q]
def halfB (x : Int) (tie : Bool) : Bool := if 0 < x then true else if x = 0 then tie else false
abbrev RB (w : World) (v : Value) : Ending → World → Prop := fun e w' => e = .returned v ∧ Below w.heap.size w w'
section
variable {f0 : FuncId} {w0 : World} {R : Ending → World → Prop} {G : World → Prop} {c : Cf}
structure Rw (C : Cx) (G : World → Prop) (c : Cf) : Prop where
 h : Run C G c
theorem u_of {f : FuncId} {fn : Func} {cd : Code} {args : List Value} {v : Value} {w : World} (hf : Tryz.prog.funcs[f]? = some fn) (hb : fn.body = some cd) (hs : Stable ET G) (hG : G w) (h : Rw ⟨Tryz.prog, f, ET, w, (RB w v)⟩ G (startS fn args)) : Calls Tryz.prog f args.toArray w (RB w v) :=
 calls_run ET G hf hb hs hG h.h
theorem u_load {T : TypeId} {ad : Addr} {v : Value} (h : ∀ w, G w → (loadVar T ad).run Tryz.prog w = .ok v w) (hc : loadAt (adv Tryz.prog ET 9999 400 c) = some (T, ad)) (hk : Rw ⟨Tryz.prog, f0, ET, w0, R⟩ G (resume (adv Tryz.prog ET 9999 400 c) (.val v))) : Rw ⟨Tryz.prog, f0, ET, w0, R⟩ G c :=
 ⟨run_adv mixed (run_ldv hc h hk.h)⟩
theorem u_b (t : Nat) {b b' : Bool} (hv : b = b') (h : (adv Tryz.prog ET t 400 c).fr[t]? = some (.val (.bool b))) (hk : Rw ⟨Tryz.prog, f0, ET, w0, R⟩ G (setS (adv Tryz.prog ET t 400 c) t (.bool b'))) : Rw ⟨Tryz.prog, f0, ET, w0, R⟩ G c :=
 ⟨run_adv mixed (run_pin h (by rw [hv]) hk.h)⟩
theorem u_call {f : FuncId} {vs : List Value} {v : Value} (he : Enters Tryz.prog f) (h : ∀ w, G w → Calls Tryz.prog f vs.toArray w (RB w v)) (hc : callAt (adv Tryz.prog ET 9999 400 c) = some (f, vs.map .val)) (hk : Rw ⟨Tryz.prog, f0, ET, w0, R⟩ G (resume (adv Tryz.prog ET 9999 400 c) (.val v))) : Rw ⟨Tryz.prog, f0, ET, w0, R⟩ G c :=
 ⟨run_adv mixed (run_call1 hc he v h hk.h)⟩
theorem u_ret {fn : Func} {v : Value} (hf : Tryz.prog.funcs[f0]? = some fn) (h : retAt Tryz.prog fn.results.toList (adv Tryz.prog ET 9999 400 c) = some v) : Rw ⟨Tryz.prog, f0, ET, w0, (RB w0 v)⟩ G c :=
 ⟨run_adv mixed (run_ret hf h fun w hb _ => ⟨rfl, hb⟩)⟩
end
theorem half_c (k : Nat) (b : Bool) (x : Int) (e tie : Bool) (w : World) (hp : PlaceAt k b x e w) : Calls Tryz.prog 146 #[.bool tie, .pointer (some ⟨k, 0, none⟩)] w (RB w (.bool (halfB x tie))) := by
 by_cases h0 : 0 < x
 ·have hh : halfB x tie = true := if_pos h0
  rw [hh]
  refine u_of (args := [.bool tie, .pointer (some ⟨k, 0, none⟩)]) Tryz.func146 rfl (PlaceAt.stable k b x e) hp ?_
  refine u_load (fun w h => load_int h.c1) (by kernel_rfl) ?_
  refine u_b 6 (decide_eq_true h0) (by kernel_rfl) ?_
  exact u_ret Tryz.func146 (by kernel_rfl)
 ·by_cases h1 : x = 0
  ·have hh : halfB x tie = tie := by unfold halfB; rw [if_neg h0, if_pos h1]
   rw [hh]
   refine u_of (args := [.bool tie, .pointer (some ⟨k, 0, none⟩)]) Tryz.func146 rfl (PlaceAt.stable k b x e) hp ?_
   refine u_load (fun w h => load_int h.c1) (by kernel_rfl) ?_
   refine u_b 6 (decide_eq_false h0) (by kernel_rfl) ?_
   refine u_load (fun w h => load_int h.c1) (by kernel_rfl) ?_
   refine u_b 10 (beq_iff_eq.2 h1) (by kernel_rfl) ?_
   exact u_ret Tryz.func146 (by kernel_rfl)
  ·have hh : halfB x tie = false := by unfold halfB; rw [if_neg h0, if_neg h1]
   rw [hh]
   refine u_of (args := [.bool tie, .pointer (some ⟨k, 0, none⟩)]) Tryz.func146 rfl (PlaceAt.stable k b x e) hp ?_
   refine u_load (fun w h => load_int h.c1) (by kernel_rfl) ?_
   refine u_b 6 (decide_eq_false h0) (by kernel_rfl) ?_
   refine u_load (fun w h => load_int h.c1) (by kernel_rfl) ?_
   refine u_b 10 (beq_eq_false_iff_ne.2 h1) (by kernel_rfl) ?_
   exact u_ret Tryz.func146 (by kernel_rfl)
theorem c2 (w : World) : Calls Tryz.prog 147 #[] w (RB w (.bool true)) := by
 refine u_of (args := []) (G := fun _ => True) Tryz.func147 rfl (fun _ _ _ _ => trivial) trivial ?_
 exact u_ret Tryz.func147 (by kernel_rfl)
theorem c3 (w : World) : Calls Tryz.prog 148 #[] w (RB w (.bool false)) := by
 refine u_of (args := []) (G := fun _ => True) Tryz.func148 rfl (fun _ _ _ _ => trivial) trivial ?_
 exact u_ret Tryz.func148 (by kernel_rfl)
section
variable (k h : Nat) (b : Bool) (x : Int) (e : Bool) (w : World)
theorem c4 (hp : PlaceAt k b x e w) : Calls Tryz.prog 149 #[.pointer (some ⟨k, 0, none⟩)] w (RB w (.bool (!b))) := by
 refine u_of (args := [.pointer (some ⟨k, 0, none⟩)]) Tryz.func149 rfl (PlaceAt.stable k b x e) hp ?_
 refine u_load (fun w h => load_bool h.c0) (by kernel_rfl) ?_
 exact u_ret Tryz.func149 (by kernel_rfl)
theorem c5 (hp : PlaceAt k b x e w) : Calls Tryz.prog 150 #[.pointer (some ⟨k, 0, none⟩)] w (RB w (.bool b)) := by
 refine u_of (args := [.pointer (some ⟨k, 0, none⟩)]) Tryz.func150 rfl (PlaceAt.stable k b x e) hp ?_
 refine u_load (fun w h => load_bool h.c0) (by kernel_rfl) ?_
 exact u_ret Tryz.func150 (by kernel_rfl)
def Both (w : World) : Prop := HalfAt h k w ∧ PlaceAt k b x e w
theorem Both.stable : Stable ET (Both k h b x e) := fun w w' hk q => ⟨HalfAt.stable h k w w' hk q.1, PlaceAt.stable k b x e w w' hk q.2⟩
theorem load_fn {a : Addr} {v : Value} {w : World} (hc : w.cell? a = some v) : (loadVar 186 a).run Tryz.prog w = .ok v w := load_cell (by kernel_rfl) hc
theorem c6 (hp : Both k h b x e w) : Calls Tryz.prog 151 #[.pointer (some ⟨h, 0, none⟩)] w (RB w (.bool (halfB x true))) := by
 refine u_of (args := [.pointer (some ⟨h, 0, none⟩)]) Tryz.func151 rfl (Both.stable k h b x e) hp ?_
 refine u_load (fun w q => load_fn q.1.c0) (by kernel_rfl) ?_
 refine u_call (vs := [.bool true, .pointer (some ⟨k, 0, none⟩)]) ent146 (fun w q => half_c k b x e true w q.2) (by kernel_rfl) ?_
 exact u_ret Tryz.func151 (by kernel_rfl)
theorem c7 (hp : Both k h b x e w) : Calls Tryz.prog 152 #[.pointer (some ⟨h, 0, none⟩)] w (RB w (.bool (halfB x false))) := by
 refine u_of (args := [.pointer (some ⟨h, 0, none⟩)]) Tryz.func152 rfl (Both.stable k h b x e) hp ?_
 refine u_load (fun w q => load_fn q.1.c0) (by kernel_rfl) ?_
 refine u_call (vs := [.bool false, .pointer (some ⟨k, 0, none⟩)]) ent146 (fun w q => half_c k b x e false w q.2) (by kernel_rfl) ?_
 exact u_ret Tryz.func152 (by kernel_rfl)
theorem c8 (hp : Both k h b x e w) : Calls Tryz.prog 153 #[.pointer (some ⟨h, 0, none⟩), .pointer (some ⟨k, 0, none⟩)] w (RB w (.bool (halfB x (!b)))) := by
 refine u_of (args := [.pointer (some ⟨h, 0, none⟩), .pointer (some ⟨k, 0, none⟩)]) Tryz.func153 rfl (Both.stable k h b x e) hp ?_
 refine u_load (fun w q => load_fn q.1.c0) (by kernel_rfl) ?_
 refine u_load (fun w q => load_bool q.2.c0) (by kernel_rfl) ?_
 refine u_call (vs := [.bool (!b), .pointer (some ⟨k, 0, none⟩)]) ent146 (fun w q => half_c k b x e (!b) w q.2) (by kernel_rfl) ?_
 exact u_ret Tryz.func153 (by kernel_rfl)
theorem c9 (hp : Both k h b x e w) : Calls Tryz.prog 154 #[.pointer (some ⟨h, 0, none⟩), .pointer (some ⟨k, 0, none⟩)] w (RB w (.bool (halfB x b))) := by
 refine u_of (args := [.pointer (some ⟨h, 0, none⟩), .pointer (some ⟨k, 0, none⟩)]) Tryz.func154 rfl (Both.stable k h b x e) hp ?_
 refine u_load (fun w q => load_fn q.1.c0) (by kernel_rfl) ?_
 refine u_load (fun w q => load_bool q.2.c0) (by kernel_rfl) ?_
 refine u_call (vs := [.bool b, .pointer (some ⟨k, 0, none⟩)]) ent146 (fun w q => half_c k b x e b w q.2) (by kernel_rfl) ?_
 exact u_ret Tryz.func154 (by kernel_rfl)
theorem c10 (hp : Both k h b x e w) : Calls Tryz.prog 155 #[.pointer (some ⟨h, 0, none⟩), .pointer (some ⟨k, 0, none⟩)] w (RB w (.bool (halfB x (!e)))) := by
 refine u_of (args := [.pointer (some ⟨h, 0, none⟩), .pointer (some ⟨k, 0, none⟩)]) Tryz.func155 rfl (Both.stable k h b x e) hp ?_
 refine u_load (fun w q => load_fn q.1.c0) (by kernel_rfl) ?_
 refine u_load (fun w q => load_bool q.2.c2) (by kernel_rfl) ?_
 refine u_call (vs := [.bool (!e), .pointer (some ⟨k, 0, none⟩)]) ent146 (fun w q => half_c k b x e (!e) w q.2) (by kernel_rfl) ?_
 exact u_ret Tryz.func155 (by kernel_rfl)
end
end Go.Proofs.YthoedmikfpbfnaaGreat
end
section
set_option maxRecDepth 100000
namespace Go.Proofs.YthoedmikfpbfnaaGreat
open Go Go.RowKit Go.Ev

theorem cells_vals {r : Nat → Nat} {N : Nat → Prop} {vs : List Value} {cs : Array Value} (h : CellsOk r N (vs.map .val) cs) : cs = vs.toArray := by
 obtain ⟨h1, h2⟩ := h
 apply Array.ext'
 apply List.ext_getElem?
 intro i
 by_cases hi : i < vs.length
 ·obtain ⟨u, hu, ho, -⟩ := h2 i (.val vs[i]) (by simp [hi])
  obtain rfl : u = vs[i] := ho
  simp [hi, hu]
 ·have e1 : vs[i]? = none := List.getElem?_eq_none (by omega)
  have e2 : cs[i]? = none := Array.getElem?_eq_none (by simp at h1; omega)
  simp [e1, e2]
theorem at_place {r : Nat → Nat} {N : Nat → Prop} {bl : List Bk} {base : TypeId → Nat} {w : World} {b : Bool} {x : Int} {e : Bool} (hb : BlOk r N bl base w) (h0 : bl[0]? = some ⟨[.val (.bool b), .val (.int .i64 x), .val (.bool e)], 157⟩) (hn : ¬ N 0) : PlaceAt (r 0) b x e w := by
 obtain ⟨-, cs, hk, hc⟩ := hb.is 0 _ h0 hn
 have := cells_vals (vs := [.bool b, .int .i64 x, .bool e]) hc
 rw [this] at hk
 exact hk
theorem at_half {r : Nat → Nat} {N : Nat → Prop} {bl : List Bk} {base : TypeId → Nat} {w : World} (hb : BlOk r N bl base w) (h1 : bl[1]? = some ⟨[.clo 146 [.ptr 0 0]], 186⟩) (hn : ¬ N 1) : HalfAt (r 1) (r 0) w ∧ ¬ N 0 := by
 obtain ⟨-, cs, hk, hsz, hc⟩ := hb.is 1 _ h1 hn
 obtain ⟨u, hu, ho, hf⟩ := hc 0 _ rfl
 have hfr : ¬ N 0 := hf (.ptr 0 0) (by simp)
 refine ⟨?_, hfr⟩
 have e : cs = #[u] := by
  apply Array.ext
  ·simpa using hsz
  ·intro i h2 h3
   have : i = 0 := by simp at h3; omega
   subst this
   have := Array.getElem?_eq_some_iff.1 hu
   obtain ⟨_, h4⟩ := this
   simpa using h4
 obtain rfl : u = _ := ho
 rw [e] at hk
 exact hk
def upB (mode : Int) (b : Bool) (x : Int) (e : Bool) : Bool :=
 if mode = 1 then true else if mode = 2 then false else if mode = 3 then !b else if mode = 4 then b else if mode = 5 then halfB x true else if mode = 6 then halfB x false
 else if mode = 7 then halfB x (!b) else if mode = 8 then halfB x b else halfB x (!e)
section
variable {f0 : FuncId} {E : List TypeId} {w0 : World} {R : Ending → World → Prop} {L : ZL} {c : Cf}
theorem st_c {f : FuncId} {ss : List SV} {v : Value} (he : Enters Tryz.prog f) (hc : callAt (adv Tryz.prog E 9999 400 c) = some (f, ss))
  (h : ∀ (r : Nat → Nat) (N : Nat → Prop) (w : World) (us : List Value), Args r N ss us → BlOk r N (adv Tryz.prog E 9999 400 c).bl (Cx.base ⟨Tryz.prog, f0, E, w0, R⟩) w → Calls Tryz.prog f us.toArray w (RB w v))
  (hk : Ru ⟨Tryz.prog, f0, E, w0, R⟩ (ZAll L) (resume (adv Tryz.prog E 9999 400 c) (.val v))) : Ru ⟨Tryz.prog, f0, E, w0, R⟩ (ZAll L) c :=
 ⟨run_adv mixed fun hs => run_call hc he (X := Unit) (fun _ => .val v) (fun _ _ => True) (fun _ _ _ _ _ => trivial) (fun _ _ => trivial)
  (fun r N w us ha hb hG => (h r N w us ha hb).mono fun e w' ⟨h1, h2⟩ => ⟨(), v, h1, rfl, h2, trivial⟩) (fun _ => hk.h.mono hs fun w h => h.1) hs⟩
end
theorem up_1 (b : Bool) (x : Int) (e : Bool) : Fn 108 [] [.int .i64 1, pv b x e] (.tuple #[.bool (true), .bool true]) := by
 refine fn_of Tryz.func108 rfl fun w => ?_
 refine st_c (v := .bool (true)) ent147 (ss := []) (by kernel_rfl) (fun r N w us ha hb => ?_) ?_
 ·have h0 : (adv Tryz.prog [3] 9999 400 (startS Tryz.f108 [.int .i64 1, pv b x e])).bl[0]? = some ⟨[.val (.bool b), .val (.int .i64 x), .val (.bool e)], 157⟩ := by kernel_rfl
  obtain rfl : us = [] := by cases us with
   | nil => rfl
   | cons _ _ => exact ha.elim
  exact c2 w
 ·exact qR Tryz.func108
theorem up_2 (b : Bool) (x : Int) (e : Bool) : Fn 108 [] [.int .i64 2, pv b x e] (.tuple #[.bool (false), .bool true]) := by
 refine fn_of Tryz.func108 rfl fun w => ?_
 refine st_c (v := .bool (false)) ent148 (ss := []) (by kernel_rfl) (fun r N w us ha hb => ?_) ?_
 ·have h0 : (adv Tryz.prog [3] 9999 400 (startS Tryz.f108 [.int .i64 2, pv b x e])).bl[0]? = some ⟨[.val (.bool b), .val (.int .i64 x), .val (.bool e)], 157⟩ := by kernel_rfl
  obtain rfl : us = [] := by cases us with
   | nil => rfl
   | cons _ _ => exact ha.elim
  exact c3 w
 ·exact qR Tryz.func108
theorem up_3 (b : Bool) (x : Int) (e : Bool) : Fn 108 [] [.int .i64 3, pv b x e] (.tuple #[.bool (!b), .bool true]) := by
 refine fn_of Tryz.func108 rfl fun w => ?_
 refine st_c (v := .bool (!b)) ent149 (ss := [.ptr 0 0]) (by kernel_rfl) (fun r N w us ha hb => ?_) ?_
 ·have h0 : (adv Tryz.prog [3] 9999 400 (startS Tryz.f108 [.int .i64 3, pv b x e])).bl[0]? = some ⟨[.val (.bool b), .val (.int .i64 x), .val (.bool e)], 157⟩ := by kernel_rfl
  obtain ⟨u, rfl, hu⟩ : ∃ u, us = [u] ∧ SV.Ok r N (.ptr 0 0) u := by
   match us, ha with
   | [u], ha => exact ⟨u, rfl, ha.1⟩
  obtain rfl : u = _ := hu.1
  exact c4 (r 0) b x e w (at_place hb h0 hu.2)
 ·exact qR Tryz.func108
theorem up_4 (b : Bool) (x : Int) (e : Bool) : Fn 108 [] [.int .i64 4, pv b x e] (.tuple #[.bool (b), .bool true]) := by
 refine fn_of Tryz.func108 rfl fun w => ?_
 refine st_c (v := .bool (b)) ent150 (ss := [.ptr 0 0]) (by kernel_rfl) (fun r N w us ha hb => ?_) ?_
 ·have h0 : (adv Tryz.prog [3] 9999 400 (startS Tryz.f108 [.int .i64 4, pv b x e])).bl[0]? = some ⟨[.val (.bool b), .val (.int .i64 x), .val (.bool e)], 157⟩ := by kernel_rfl
  obtain ⟨u, rfl, hu⟩ : ∃ u, us = [u] ∧ SV.Ok r N (.ptr 0 0) u := by
   match us, ha with
   | [u], ha => exact ⟨u, rfl, ha.1⟩
  obtain rfl : u = _ := hu.1
  exact c5 (r 0) b x e w (at_place hb h0 hu.2)
 ·exact qR Tryz.func108
theorem up_5 (b : Bool) (x : Int) (e : Bool) : Fn 108 [] [.int .i64 5, pv b x e] (.tuple #[.bool (halfB x true), .bool true]) := by
 refine fn_of Tryz.func108 rfl fun w => ?_
 refine st_c (v := .bool (halfB x true)) ent151 (ss := [.ptr 1 0]) (by kernel_rfl) (fun r N w us ha hb => ?_) ?_
 ·have h0 : (adv Tryz.prog [3] 9999 400 (startS Tryz.f108 [.int .i64 5, pv b x e])).bl[0]? = some ⟨[.val (.bool b), .val (.int .i64 x), .val (.bool e)], 157⟩ := by kernel_rfl
  have h1 : (adv Tryz.prog [3] 9999 400 (startS Tryz.f108 [.int .i64 5, pv b x e])).bl[1]? = some ⟨[.clo 146 [.ptr 0 0]], 186⟩ := by kernel_rfl
  obtain ⟨u, rfl, hu⟩ : ∃ u, us = [u] ∧ SV.Ok r N (.ptr 1 0) u := by
   match us, ha with
   | [u], ha => exact ⟨u, rfl, ha.1⟩
  obtain rfl : u = _ := hu.1
  obtain ⟨q1, q2⟩ := at_half hb h1 hu.2
  exact c6 (r 0) (r 1) b x e w ⟨q1, at_place hb h0 q2⟩
 ·exact qR Tryz.func108
theorem up_6 (b : Bool) (x : Int) (e : Bool) : Fn 108 [] [.int .i64 6, pv b x e] (.tuple #[.bool (halfB x false), .bool true]) := by
 refine fn_of Tryz.func108 rfl fun w => ?_
 refine st_c (v := .bool (halfB x false)) ent152 (ss := [.ptr 1 0]) (by kernel_rfl) (fun r N w us ha hb => ?_) ?_
 ·have h0 : (adv Tryz.prog [3] 9999 400 (startS Tryz.f108 [.int .i64 6, pv b x e])).bl[0]? = some ⟨[.val (.bool b), .val (.int .i64 x), .val (.bool e)], 157⟩ := by kernel_rfl
  have h1 : (adv Tryz.prog [3] 9999 400 (startS Tryz.f108 [.int .i64 6, pv b x e])).bl[1]? = some ⟨[.clo 146 [.ptr 0 0]], 186⟩ := by kernel_rfl
  obtain ⟨u, rfl, hu⟩ : ∃ u, us = [u] ∧ SV.Ok r N (.ptr 1 0) u := by
   match us, ha with
   | [u], ha => exact ⟨u, rfl, ha.1⟩
  obtain rfl : u = _ := hu.1
  obtain ⟨q1, q2⟩ := at_half hb h1 hu.2
  exact c7 (r 0) (r 1) b x e w ⟨q1, at_place hb h0 q2⟩
 ·exact qR Tryz.func108
theorem up_7 (b : Bool) (x : Int) (e : Bool) : Fn 108 [] [.int .i64 7, pv b x e] (.tuple #[.bool (halfB x (!b)), .bool true]) := by
 refine fn_of Tryz.func108 rfl fun w => ?_
 refine st_c (v := .bool (halfB x (!b))) ent153 (ss := [.ptr 1 0, .ptr 0 0]) (by kernel_rfl) (fun r N w us ha hb => ?_) ?_
 ·have h0 : (adv Tryz.prog [3] 9999 400 (startS Tryz.f108 [.int .i64 7, pv b x e])).bl[0]? = some ⟨[.val (.bool b), .val (.int .i64 x), .val (.bool e)], 157⟩ := by kernel_rfl
  have h1 : (adv Tryz.prog [3] 9999 400 (startS Tryz.f108 [.int .i64 7, pv b x e])).bl[1]? = some ⟨[.clo 146 [.ptr 0 0]], 186⟩ := by kernel_rfl
  obtain ⟨u, u', rfl, hu, hu'⟩ : ∃ u u', us = [u, u'] ∧ SV.Ok r N (.ptr 1 0) u ∧ SV.Ok r N (.ptr 0 0) u' := by
   match us, ha with
   | [u, u'], ha => exact ⟨u, u', rfl, ha.1, ha.2.1⟩
  obtain rfl : u = _ := hu.1
  obtain rfl : u' = _ := hu'.1
  obtain ⟨q1, q2⟩ := at_half hb h1 hu.2
  exact c8 (r 0) (r 1) b x e w ⟨q1, at_place hb h0 q2⟩
 ·exact qR Tryz.func108
theorem up_8 (b : Bool) (x : Int) (e : Bool) : Fn 108 [] [.int .i64 8, pv b x e] (.tuple #[.bool (halfB x b), .bool true]) := by
 refine fn_of Tryz.func108 rfl fun w => ?_
 refine st_c (v := .bool (halfB x b)) ent154 (ss := [.ptr 1 0, .ptr 0 0]) (by kernel_rfl) (fun r N w us ha hb => ?_) ?_
 ·have h0 : (adv Tryz.prog [3] 9999 400 (startS Tryz.f108 [.int .i64 8, pv b x e])).bl[0]? = some ⟨[.val (.bool b), .val (.int .i64 x), .val (.bool e)], 157⟩ := by kernel_rfl
  have h1 : (adv Tryz.prog [3] 9999 400 (startS Tryz.f108 [.int .i64 8, pv b x e])).bl[1]? = some ⟨[.clo 146 [.ptr 0 0]], 186⟩ := by kernel_rfl
  obtain ⟨u, u', rfl, hu, hu'⟩ : ∃ u u', us = [u, u'] ∧ SV.Ok r N (.ptr 1 0) u ∧ SV.Ok r N (.ptr 0 0) u' := by
   match us, ha with
   | [u, u'], ha => exact ⟨u, u', rfl, ha.1, ha.2.1⟩
  obtain rfl : u = _ := hu.1
  obtain rfl : u' = _ := hu'.1
  obtain ⟨q1, q2⟩ := at_half hb h1 hu.2
  exact c9 (r 0) (r 1) b x e w ⟨q1, at_place hb h0 q2⟩
 ·exact qR Tryz.func108
theorem up_9 (b : Bool) (x : Int) (e : Bool) : Fn 108 [] [.int .i64 9, pv b x e] (.tuple #[.bool (halfB x (!e)), .bool true]) := by
 refine fn_of Tryz.func108 rfl fun w => ?_
 refine st_c (v := .bool (halfB x (!e))) ent155 (ss := [.ptr 1 0, .ptr 0 0]) (by kernel_rfl) (fun r N w us ha hb => ?_) ?_
 ·have h0 : (adv Tryz.prog [3] 9999 400 (startS Tryz.f108 [.int .i64 9, pv b x e])).bl[0]? = some ⟨[.val (.bool b), .val (.int .i64 x), .val (.bool e)], 157⟩ := by kernel_rfl
  have h1 : (adv Tryz.prog [3] 9999 400 (startS Tryz.f108 [.int .i64 9, pv b x e])).bl[1]? = some ⟨[.clo 146 [.ptr 0 0]], 186⟩ := by kernel_rfl
  obtain ⟨u, u', rfl, hu, hu'⟩ : ∃ u u', us = [u, u'] ∧ SV.Ok r N (.ptr 1 0) u ∧ SV.Ok r N (.ptr 0 0) u' := by
   match us, ha with
   | [u, u'], ha => exact ⟨u, u', rfl, ha.1, ha.2.1⟩
  obtain rfl : u = _ := hu.1
  obtain rfl : u' = _ := hu'.1
  obtain ⟨q1, q2⟩ := at_half hb h1 hu.2
  exact c10 (r 0) (r 1) b x e w ⟨q1, at_place hb h0 q2⟩
 ·exact qR Tryz.func108
theorem up_yes (mode : Int) (b : Bool) (x : Int) (e : Bool) (h1 : 1 ≤ mode) (h2 : mode ≤ 9) : Fn 108 [] [.int .i64 mode, pv b x e] (.tuple #[.bool (upB mode b x e), .bool true]) := by
 have hm : mode = 1 ∨ mode = 2 ∨ mode = 3 ∨ mode = 4 ∨ mode = 5 ∨ mode = 6 ∨ mode = 7 ∨ mode = 8 ∨ mode = 9 := by omega
 clear h1 h2
 rcases hm with rfl | rfl | rfl | rfl | rfl | rfl | rfl | rfl | rfl
 ·exact up_1 b x e
 ·exact up_2 b x e
 ·exact up_3 b x e
 ·exact up_4 b x e
 ·exact up_5 b x e
 ·exact up_6 b x e
 ·exact up_7 b x e
 ·exact up_8 b x e
 ·exact up_9 b x e
end Go.Proofs.YthoedmikfpbfnaaGreat
end
section
set_option maxRecDepth 100000
namespace Go.Proofs.YthoedmikfpbfnaaGreat
open Go Go.RowKit Go.Ev

abbrev rtv (y : Int) : Value := .tuple #[.agg #[.int .i64 (thi y), .int .u64 (tlo y)], .int .i64 (ter y)]
theorem rtv_yes {y : Int} (h : W128 y) : rtv y = .tuple #[wv y, .int .i64 0] := by unfold rtv; rw [thi_yes h, tlo_yes h, ter_yes h]
theorem wz_no {r : Int} (h : r ≠ 0) : (hi r == 0 && (lo r == 0 && true)) = false := by
 have e := hi_lo r
 cases k : (hi r == 0 && (lo r == 0 && true)) with
 | false => rfl
 | true =>
  simp only [Bool.and_true, Bool.and_eq_true, beq_iff_eq] at k
  omega
theorem wz_yes {r : Int} (h : r = 0) : (hi r == 0 && (lo r == 0 && true)) = true := by subst h; decide
theorem dec_hi (n : Int) : decide (hi n < 0) = decide (n < 0) := by
 have e := hi_lo n
 have := lo_bd n
 rw [Bool.eq_iff_iff]
 simp only [decide_eq_true_eq]
 omega
theorem rem2 (q : Int) : ((lo q).tmod 2 == 0) = decide (q % 2 = 0) := by
 have := lo_bd q
 rw [Int.tmod_eq_emod_of_nonneg (by omega)]
 unfold lo
 rw [Bool.eq_iff_iff]
 simp
theorem between_fn (q r d : Int) (b : Bool) (hr : W128 r) (hd : W128 d) (h : W128 (d - r)) :
  Fn 109 [] [wv q, wv r, wv d, .bool b] (pv b (cmpI r (d - r)) (decide (q % 2 = 0))) := by
 refine fn_of Tryz.func109 rfl fun ww => ?_
 refine qF ent92 (wsub_yes (d) (r) (by assumption) (by assumption) (by assumption)) ?_
 refine qV 24 (rem2 q) ?_
 refine qF ent55 (wcmp_fn (r) (d - r)) ?_
 exact qR Tryz.func109
def upQ (n d mode : Int) : Bool := upB mode (decide (n < 0)) (cmpI (n.fmod d) (d - n.fmod d)) (decide (n.fdiv d % 2 = 0))
def nearQ (n d mode : Int) : Int := if n.fmod d = 0 then n.fdiv d else if upQ n d mode = true then n.fdiv d + 1 else n.fdiv d
theorem up_t (mode : Int) (b : Bool) (x : Int) (e : Bool) (h1 : 1 ≤ mode) (h2 : mode ≤ 9) (h : upB mode b x e = true) : Fn 108 [] [.int .i64 mode, pv b x e] (.tuple #[.bool true, .bool true]) := h ▸ up_yes mode b x e h1 h2
theorem up_f (mode : Int) (b : Bool) (x : Int) (e : Bool) (h1 : 1 ≤ mode) (h2 : mode ≤ 9) (h : upB mode b x e = false) : Fn 108 [] [.int .i64 mode, pv b x e] (.tuple #[.bool false, .bool true]) := h ▸ up_yes mode b x e h1 h2
theorem fl_bd {w d : Int} (hw : W128 w) (h0 : 0 < d) : W128 (w.fdiv d) ∧ 0 ≤ w.fmod d ∧ w.fmod d < d ∧ d * w.fdiv d + w.fmod d = w := by
 have e := Int.mul_fdiv_add_fmod w d
 have h1 := Int.fmod_eq_emod_of_nonneg w (show 0 ≤ d by omega)
 have h2 := Int.emod_nonneg w (show d ≠ 0 by omega)
 have h3 := Int.emod_lt_of_pos w h0
 have h4 := Int.fdiv_eq_ediv_of_nonneg w (show 0 ≤ d by omega)
 refine ⟨?_, by omega, by omega, e⟩
 rw [h4]
 unfold W128 at *
 have k1 := Int.le_ediv_of_mul_le h0 (show -170141183460469231731687303715884105728 * d ≤ w by
  have : (170141183460469231731687303715884105728 : Int) * 1 ≤ 170141183460469231731687303715884105728 * d := Int.mul_le_mul_of_nonneg_left (by omega) (by omega)
  omega)
 have k2 : w / d < 170141183460469231731687303715884105728 := Int.ediv_lt_of_lt_mul h0 (by
  have : (170141183460469231731687303715884105728 : Int) * 1 ≤ 170141183460469231731687303715884105728 * d := Int.mul_le_mul_of_nonneg_left (by omega) (by omega)
  omega)
 omega
end Go.Proofs.YthoedmikfpbfnaaGreat
end
