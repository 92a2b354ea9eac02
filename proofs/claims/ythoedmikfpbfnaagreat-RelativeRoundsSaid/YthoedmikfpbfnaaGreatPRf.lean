/-
  Texts joined: Rec, Enz, Plz, Caz, Cay, Red, Ree, Rep, Rtt, Reg, Rgg, In, Inn. Each says at its head what it shows.
-/
import Derived.OpenShut
import Derived.WideShapes
import Derived.Test.YthoedmikfpbfnaaGreatPRe
set_option linter.unusedVariables false
set_option linter.unusedSimpArgs false
section
set_option maxRecDepth 100000
namespace Go.Proofs.YthoedmikfpbfnaaGreat
open Go Go.RowKit Go.Ev

theorem cadm_y (y mo d h m s n a b T : Int) (k : pOk y mo d h m s n) (o : uOk a b 0 0 0 0 0 0) (i : all64 a b 0 0 0 0 0 0) (hT : ymi y mo + (12 * a + b) = T) (q : pOk (lY T) (lM T) (cD (lY T) (lM T) d) h m s n) :
  Fn 26 [] [ptv y mo d h m s n, duv a b 0 0 0 0 0 0, .int .i64 1] (.tuple #[ptv (lY T) (lM T) (cD (lY T) (lM T) d) h m s n, .int .i64 0]) := by
 obtain ⟨b1, b2, -⟩ := uOk_bd o
 have yy := dOk_year k.1
 have tb := tnan_bd k.2.1
 have mv := cmoved_c y mo d (12 * a + b) (0 + 7 * 0 + 0) T (dnum (lY T) (lM T) (cD (lY T) (lM T) d)) hT (by omega) (by omega) k.1.1.1 k.1.1.2.1 (by omega) (by omega) k.1.1.2.2.1 q.1 (by omega) q.1.2.1 q.1.2.2
 rw [(date_of q.1.1).1, (date_of q.1.1).2.1, (date_of q.1.1).2.2] at mv
 obtain ⟨r1, r2, r3, r4⟩ := t_tnan k.2.1
 have z : dtot 0 0 0 0 0 = 0 := rfl
 have := cad_y y mo d h m s n a b 0 0 0 0 0 0 1 _ _ _ 0 (tnan h m s n) i k o (.inl rfl) (by rw [z, Int.fdiv_eq_ediv_of_nonneg _ (by omega)]; omega) (by rw [z, Int.fmod_eq_emod_of_nonneg _ (by omega)]; omega) (by omega) mv (by rw [r1, r2, r3, r4]; exact q)
 rw [r1, r2, r3, r4] at this
 exact this
theorem lday (y m d : Int) : Fn 29 [] [.int .i64 y, .int .i64 m, .int .i64 d] (ptv y m d 0 0 0 0) := by
 refine fn_of Tryz.func29 rfl fun ww => ?_
 exact qR Tryz.func29
theorem mov20m (y mo d n Y M D : Int) (k : pOk y mo d 0 0 0 0) (r : -4294967295 ≤ n ∧ n ≤ 4294967295) (T : Int) (hT : ymi y mo + (12 * 0 + n) = T) (e1 : lY T = Y) (e2 : lM T = M) (e3 : cD Y M d = D) (q : pOk Y M D 0 0 0 0) : Fn 7 [] [ptv y mo d 0 0 0 0, .int .i64 n, .int .i64 2] (.tuple #[ptv Y M D 0 0 0 0, .int .i64 0]) := by
 subst e1 e2 e3
 obtain ⟨o, i⟩ := uOk_m n r
 exact rmov_2 n y mo d 0 0 0 0 _ _ _ _ _ _ _ 0 k r (cadm_y y mo d 0 0 0 0 0 n T k o i hT q)
theorem mov20y (y mo d n Y M D : Int) (k : pOk y mo d 0 0 0 0) (r : -4294967295 ≤ n ∧ n ≤ 4294967295) (T : Int) (hT : ymi y mo + (12 * n + 0) = T) (e1 : lY T = Y) (e2 : lM T = M) (e3 : cD Y M d = D) (q : pOk Y M D 0 0 0 0) : Fn 7 [] [ptv y mo d 0 0 0 0, .int .i64 n, .int .i64 1] (.tuple #[ptv Y M D 0 0 0 0, .int .i64 0]) := by
 subst e1 e2 e3
 obtain ⟨o, i⟩ := uOk_y n r
 exact rmov_1 n y mo d 0 0 0 0 _ _ _ _ _ _ _ 0 k r (cadm_y y mo d 0 0 0 0 n 0 T k o i hT q)
theorem since20 (y mo d y' mo' d' x : Int) (k : pOk y mo d 0 0 0 0) (k' : pOk y' mo' d' 0 0 0 0) (e : pnum y' mo' d' 0 0 0 0 - pnum y mo d 0 0 0 0 = x) : Fn 40 [] [ptv y mo d 0 0 0 0, ptv y' mo' d' 0 0 0 0] (.tuple #[wv x, .int .i64 0]) := by
 subst e; exact psince_yes y mo d 0 0 0 0 y' mo' d' 0 0 0 0 k k'
theorem bet20 (y mo d y' mo' d' L A B C D : Int) (k : pOk y mo d 0 0 0 0) (k' : pOk y' mo' d' 0 0 0 0) (l1 : 1 ≤ L) (l2 : L ≤ 4) (hE : bD y mo d 0 0 0 0 y' mo' d' 0 0 0 0 = dnum y' mo' d') (hZ : bZ y mo d 0 0 0 0 y' mo' d' 0 0 0 0 = 0) (e1 : uY L y mo d y' mo' d' = A) (e2 : uMo L y mo d y' mo' d' = B) (e3 : uW L y mo d y' mo' d' = C) (e4 : uD L y mo d y' mo' d' = D) :
  Fn 42 [] [ptv y mo d 0 0 0 0, ptv y' mo' d' 0 0 0 0, .int .i64 L] (.tuple #[duv A B C D 0 0 0 0, .int .i64 0]) := by
 have := cbet y mo d 0 0 0 0 y' mo' d' 0 0 0 0 L _ _ k k' l1 l2 hE hZ
 rw [(date_of k'.1.1).1, (date_of k'.1.1).2.1, (date_of k'.1.1).2.2, e1, e2, e3, e4] at this
 exact this
theorem frac_k (n d : Int) (hn : W128 n) (hd : W128 d) (hk : fOk n d) : Fn 41 [] [wv n, wv d] (.tuple #[wv (frP n d), wv (frQ n d), .int .i64 0]) := fun w _ => (dfrac_yes n d w hn hd hk.1 hk.2.1 hk.2.2).mono fun e w' ⟨h1, h2⟩ => ⟨by
 rw [h1, fv_yes hk, fv_yes hk, fv_yes hk, fv_yes hk, fe_yes hk], h2⟩
theorem frac20 (n d p q : Int) (hn : W128 n) (hd : W128 d) (k : fOk n d) (e1 : frP n d = p) (e2 : frQ n d = q) : Fn 41 [] [wv n, wv d] (.tuple #[wv p, wv q, .int .i64 0]) := by
 subst e1 e2; exact frac_k n d hn hd k
theorem times20 (v n x : Int) (hv : W128 v) (hn : I64 n) (e : v * n = x) (h : W128 x) : Fn 43 [] [wv v, .int .i64 n] (.tuple #[wv x, .int .i64 0]) := by
 subst e; exact wtimes_f v n hv hn h
theorem add20 (v n x : Int) (hv : W128 v) (hn : W128 n) (e : v + n = x) (h : W128 x) : Fn 44 [] [wv v, wv n] (.tuple #[wv x, .int .i64 0]) := by
 subst e; exact wadd_yes v n hv hn h
theorem ratio20 (n d mode x : Int) (hn : W128 n) (hd : W128 d) (hk : fOk n d) (h1 : 1 ≤ mode) (h2 : mode ≤ 9) (e : nearQ (nN n d) (nD d) mode = x) (h : W128 x) : Fn 49 [] [wv n, wv d, .int .i64 mode] (.tuple #[wv x, .int .i64 0]) := by
 have hq : 0 < frQ n d := by
  obtain ⟨G, X, Y, -, -, -, -, hYp, -, hQ⟩ := fr_scale n hk.1
  rw [hQ]; omega
 have t := rat_ok n d mode _ _ h1 h2 (frac_k n d hn hd hk) hk.2.1 hk.2.2 hq
 have e' := near_fr n mode hk.1
 rw [e] at e'
 rwa [← e', rtv_yes h] at t
theorem w20in {x : Int} (h : -1000000000000000000000000 ≤ x ∧ x ≤ 1000000000000000000000000) : W128 x := by unfold W128; omega
theorem alive20 : Fn 9 [] [] (.bool true) := by
 have i44 : I64 44 := by unfold I64; omega
 have i29 : I64 29 := by unfold I64; omega
 have i1 : I64 1 := by unfold I64; omega
 have at1 := rtot_m 2020 1 1 0 0 0 0 2020 2 16 0 0 0 0 0 1 0 15 0 0 0 0 0 1 1 2020 2 1 0 0 0 0 2020 3 1 0 0 0 0 1296000000000000 2505600000000000 1296000000000000 2505600000000000 3801600000000000 44 29 0 2 (.inr ⟨rfl, rfl⟩) (by decide +kernel) (by decide +kernel) (.inl rfl) (by decide +kernel) (by decide) (by decide)
  (bet20 2020 1 1 2020 2 16 2 0 1 0 15 (by decide +kernel) (by decide +kernel) (by decide) (by decide) (by decide +kernel) (by decide +kernel) (by decide +kernel) (by decide +kernel) (by decide +kernel) (by decide +kernel))
  (mov20m 2020 1 1 1 2020 2 1 (by decide +kernel) (by decide) 24241 (by decide) (by decide) (by decide) (by decide +kernel) (by decide +kernel)) (mov20m 2020 1 1 2 2020 3 1 (by decide +kernel) (by decide) 24242 (by decide) (by decide) (by decide) (by decide +kernel) (by decide +kernel))
  (since20 2020 2 1 2020 2 16 _ (by decide +kernel) (by decide +kernel) (by decide +kernel)) (since20 2020 2 1 2020 3 1 _ (by decide +kernel) (by decide +kernel) (by decide +kernel))
  (times20 _ 1 _ (w20in (by decide)) i1 (by decide) (w20in (by decide))) (times20 _ 1 _ (w20in (by decide)) i1 (by decide) (w20in (by decide))) (add20 _ _ _ (w20in (by decide)) (w20in (by decide)) (by decide) (w20in (by decide))) (frac20 _ _ _ _ (w20in (by decide)) (w20in (by decide)) (by decide +kernel) (by decide +kernel) (by decide +kernel))
 have at2 := rtot_m 2020 1 1 0 0 0 0 2021 7 2 0 0 0 0 1 6 0 1 0 0 0 0 0 1 1 2021 1 1 0 0 0 0 2022 1 1 0 0 0 0 15724800000000000 31536000000000000 15724800000000000 31536000000000000 47260800000000000 547 365 0 1 (.inl ⟨rfl, rfl⟩) (by decide +kernel) (by decide +kernel) (.inl rfl) (by decide +kernel) (by decide) (by decide)
  (bet20 2020 1 1 2021 7 2 1 1 6 0 1 (by decide +kernel) (by decide +kernel) (by decide) (by decide) (by decide +kernel) (by decide +kernel) (by decide +kernel) (by decide +kernel) (by decide +kernel) (by decide +kernel))
  (mov20y 2020 1 1 1 2021 1 1 (by decide +kernel) (by decide) 24252 (by decide) (by decide) (by decide) (by decide +kernel) (by decide +kernel)) (mov20y 2020 1 1 2 2022 1 1 (by decide +kernel) (by decide) 24264 (by decide) (by decide) (by decide) (by decide +kernel) (by decide +kernel))
  (since20 2021 1 1 2021 7 2 _ (by decide +kernel) (by decide +kernel) (by decide +kernel)) (since20 2021 1 1 2022 1 1 _ (by decide +kernel) (by decide +kernel) (by decide +kernel))
  (times20 _ 1 _ (w20in (by decide)) i1 (by decide) (w20in (by decide))) (times20 _ 1 _ (w20in (by decide)) i1 (by decide) (w20in (by decide))) (add20 _ _ _ (w20in (by decide)) (w20in (by decide)) (by decide) (w20in (by decide))) (frac20 _ _ _ _ (w20in (by decide)) (w20in (by decide)) (by decide +kernel) (by decide +kernel) (by decide +kernel))
 have ai := rinc_c 1 1 (by decide)
 rw [show decide ((1 : Int) ≤ 1 ∧ (1 : Int) ≤ 1000000000) = true by decide] at ai
 have at3 := rrnd_v 1 2020 1 1 0 0 0 0 2021 7 2 0 0 0 0 1 1 7 0 1 0 0 0 0 0 0 0 547 365 365 1 1 2021 1 1 0 0 0 0 (by decide) (by decide) (by decide) ai (by decide) (by decide) at2
  (times20 _ 1 _ (w20in (by decide)) i1 (by decide) (w20in (by decide))) (ratio20 _ _ _ _ (w20in (by decide)) (w20in (by decide)) (by decide +kernel) (by decide) (by decide) (by decide +kernel) (w20in (by decide))) (times20 _ 1 _ (w20in (by decide)) i1 (by decide) (w20in (by decide))) (wint_f 1 i1)
  (mov20y 2020 1 1 1 2021 1 1 (by decide +kernel) (by decide) 24252 (by decide) (by decide) (by decide) (by decide +kernel) (by decide +kernel))
  (bet20 2020 1 1 2021 1 1 1 1 0 0 0 (by decide +kernel) (by decide +kernel) (by decide) (by decide) (by decide +kernel) (by decide +kernel) (by decide +kernel) (by decide +kernel) (by decide +kernel) (by decide +kernel))
 have at4 := mov20m 2020 1 31 1 2020 2 29 (by decide +kernel) (by decide) 24241 (by decide) (by decide) (by decide) (by decide +kernel) (by decide +kernel)
 clear at2 ai
 refine fn_of Tryz.func9 rfl fun ww => ?_
 refine qF ent29 (lday (2020) (1) (1)) ?_
 refine qF ent29 (lday (2020) (2) (16)) ?_
 refine qF ent12 (at1) ?_
 refine qF ent29 (lday (2020) (1) (1)) ?_
 refine qF ent29 (lday (2021) (7) (2)) ?_
 refine qF ent14 (at3) ?_
 refine qF ent29 (lday (2020) (1) (31)) ?_
 refine qF ent7 (at4) ?_
 refine qF ent30 (wof_fn (44) (by assumption)) ?_
 refine qF ent30 (wof_fn (29) (by assumption)) ?_
 refine qF ent29 (lday (2020) (2) (29)) ?_
 exact qR Tryz.func9
/-! back -/
/-! exact -/
end Go.Proofs.YthoedmikfpbfnaaGreat
end
section
namespace Go.Proofs.YthoedmikfpbfnaaGreat
open Go Go.Ev
theorem ent37 : Enters Tryz.prog 37 := enters_of Tryz.func37 (by kernel_rfl) rfl
theorem ent54 : Enters Tryz.prog 54 := enters_of Tryz.func54 (by kernel_rfl) rfl
theorem ent90 : Enters Tryz.prog 90 := enters_of Tryz.func90 (by kernel_rfl) rfl
theorem ent91 : Enters Tryz.prog 91 := enters_of Tryz.func91 (by kernel_rfl) rfl
theorem ent10 : Enters Tryz.prog 10 := enters_of Tryz.func10 (by kernel_rfl) rfl
theorem ent15 : Enters Tryz.prog 15 := enters_of Tryz.func15 (by kernel_rfl) rfl
theorem ent35 : Enters Tryz.prog 35 := enters_of Tryz.func35 (by kernel_rfl) rfl
theorem ent45 : Enters Tryz.prog 45 := enters_of Tryz.func45 (by kernel_rfl) rfl
end Go.Proofs.YthoedmikfpbfnaaGreat
end
section
set_option maxRecDepth 100000
namespace Go.Proofs.YthoedmikfpbfnaaGreat
open Go Go.RowKit Go.Ev

theorem fzday : FnZ 76 [] [] zv 86400000000000 := by
 have i : I64 86400000000000 := by unfold I64; omega
 refine fnG_of Tryz.func76 rfl fun ww => ?_
 refine qZ ent11 (fzint (86400000000000) (by assumption)) fun zq0 => ?_
 exact st_retG (zq0) Tryz.func76 (subE 0 rfl (by rfl) sub0) (by kernel_rfl)
theorem time0_no {h m s n : Int} (k : tOk h m s n) (q : tnan h m s n ≠ 0) : (h == 0 && (m == 0 && (s == 0 && (n == 0 && true)))) = false := by
 have := tnan_0 k
 rw [Bool.eq_false_iff]
 intro z
 simp at z
 omega
section
variable (y mo d h m s n : Int)
theorem zright7_yes (k : pOk y mo d h m s n) : Fn 8 [] [ptv y mo d h m s n] (.bool true) := by
 obtain ⟨k1, k2, k3⟩ := k
 by_cases q : dnum y mo d = -100000001
 ·have q2 := time0_no k2 fun z => k3 ⟨q, z⟩
  clear k3
  refine fn_of Tryz.func8 rfl fun ww => ?_
  refine qF ent27 (zdays_yes (y) (mo) (d) (by assumption)) ?_
  refine qF ent28 (fzright_yes (h) (m) (s) (n) (by assumption)) ?_
  refine qV 19 (show (dnum y mo d != -100000001) = false by exact bne_eq_false_iff_eq.2 (by omega)) ?_
  exact st_retv Tryz.func8 (show Value.bool (!(h == 0 && (m == 0 && (s == 0 && (n == 0 && true))))) = _ by (rw [q2]; rfl)) (by kernel_rfl)
 ·clear k3
  refine fn_of Tryz.func8 rfl fun ww => ?_
  refine qF ent27 (zdays_yes (y) (mo) (d) (by assumption)) ?_
  refine qF ent28 (fzright_yes (h) (m) (s) (n) (by assumption)) ?_
  refine qV 19 (show (dnum y mo d != -100000001) = true by exact bne_iff_ne.2 (by omega)) ?_
  exact qR Tryz.func8
theorem zright7_no (k : ¬ pOk y mo d h m s n) : Fn 8 [] [ptv y mo d h m s n] (.bool false) := by
 by_cases k1 : dOk y mo d
 ·by_cases k2 : tOk h m s n
  ·have k3 : dnum y mo d = -100000001 ∧ tnan h m s n = 0 := Classical.byContradiction fun q => k ⟨k1, k2, q⟩
   obtain ⟨k4, k5⟩ := k3
   obtain ⟨rfl, rfl, rfl, rfl⟩ := (tnan_0 k2).1 k5
   clear k
   refine fn_of Tryz.func8 rfl fun ww => ?_
   refine qF ent27 (zdays_yes (y) (mo) (d) (by assumption)) ?_
   refine qF ent28 (fzright_yes (0) (0) (0) (0) (by assumption)) ?_
   refine qV 19 (show (dnum y mo d != -100000001) = false by exact bne_eq_false_iff_eq.2 (by omega)) ?_
   exact qR Tryz.func8
  ·clear k
   refine fn_of Tryz.func8 rfl fun ww => ?_
   refine qF ent27 (zdays_yes (y) (mo) (d) (by assumption)) ?_
   refine qF ent28 (fzright_no (h) (m) (s) (n) (by assumption)) ?_
   exact qR Tryz.func8
 ·clear k
  refine fn_of Tryz.func8 rfl fun ww => ?_
  refine qF ent27 (zdays_no (y) (mo) (d) (by assumption)) ?_
  exact qR Tryz.func8
theorem znanos7 (k : pOk y mo d h m s n) : FnZ 33 [] [ptv y mo d h m s n] zv (pnum y mo d h m s n) := by
 obtain ⟨k1, k2, k3⟩ := k
 have b := tnan_bd k2
 obtain ⟨k4, k5, k6⟩ := k1
 have k1 : dOk y mo d := ⟨k4, k5, k6⟩
 have i1 : I64 (dnum y mo d) := by unfold I64; omega
 have i2 : I64 (tnan h m s n) := by unfold I64; omega
 have i3 : I64 86400000000000 := by unfold I64; omega
 unfold pnum
 clear k3 k4
 refine fnG_of Tryz.func33 rfl fun ww => ?_
 refine qF ent27 (zdays_yes (y) (mo) (d) (by assumption)) ?_
 refine qZ ent11 (fzint (dnum y mo d) (by assumption)) fun zq1 => ?_
 refine qZ ent76 (fzday) fun zq2 => ?_
 refine st_g ent34 (fzmul (zq1) (zq2) (dnum y mo d) (86400000000000) (by exact Bits.fit i1.w.bits (by decide)) (by exact Bits.fit i3.w.bits (by decide))) (subC 1 rfl (subC 0 rfl sub0)) (by kernel_rfl) (fun zq3 => ?_)
 refine qF ent83 (fznanos (h) (m) (s) (n) (by assumption)) ?_
 refine qZ ent11 (fzint (tnan h m s n) (by assumption)) fun zq5 => ?_
 refine st_g ent32 (fzadd (zq3) (zq5) (dnum y mo d * 86400000000000) (tnan h m s n) (by exact Bits.fit (Bits.mul i1.w.bits i3.w.bits) (by decide)) (by exact Bits.fit i2.w.bits (by decide))) (subC 1 rfl (subC 0 rfl sub0)) (by kernel_rfl) (fun zq6 => ?_)
 exact st_retG (zq6) Tryz.func33 (subE 0 rfl (by rfl) sub0) (by kernel_rfl)
end
section
variable (p : ZQ) (x : Int)
theorem zof7_yes (k : pIn x) : Fn 31 [(p, x)] [zv p] (.tuple #[ptN x, .bool true]) := by
 have hb : Bits 1000 x := Bits.mono (show W128 x by unfold pIn at k; unfold W128; omega).bits (by decide)
 have hy : Bits 1000 86400000000000 := Bits.mono (show W128 86400000000000 by unfold W128; omega).bits (by decide)
 obtain ⟨⟨k1, k2⟩, k3⟩ := pIn_split.1 k
 obtain ⟨-, b, c⟩ := x_split x
 have i1 : I64 (x.fdiv 86400000000000) := by show I64 (xd x); unfold I64; omega
 have i2 : I64 (x.fmod 86400000000000) := by show I64 (xt x); unfold I64; omega
 have b1 : Bits 1000 (x.fdiv 86400000000000) := i1.w.bits.mono (by decide)
 have b2 : Bits 1000 (x.fmod 86400000000000) := i2.w.bits.mono (by decide)
 have o1 := zof5_yes (x.fdiv 86400000000000) k1 k2
 have o2 := fzof (x.fmod 86400000000000) b c
 have o3 := zright7_yes _ _ _ _ _ _ _ (of_pOk k).1
 have e1 : (x.fdiv 86400000000000 < -200000000) = False := by simp only [eq_iff_iff, iff_false]; show ¬ xd x < _; omega
 have e2 : (200000000 < x.fdiv 86400000000000) = False := by simp only [eq_iff_iff, iff_false]; show ¬ _ < xd x; omega
 change -100000001 ≤ x.fdiv 86400000000000 at k1
 change x.fdiv 86400000000000 ≤ 100000000 at k2
 clear k3 e1 e2
 refine fn_of Tryz.func31 rfl fun ww => ?_
 refine qZ ent76 (fzday) fun zq0 => ?_
 refine st_g ent75 (fzdiv (p) (zq0) (x) (86400000000000) (by exact Bits.mono hb (by decide)) (by exact Bits.mono hy (by decide)) (by omega)) (subC 1 rfl (subC 0 rfl sub0)) (by kernel_rfl) (fun zq1 => ?_)
 refine st_fn ent36 (fits_f (zq1.fst) (x.fdiv 86400000000000) (by exact Bits.mono i1.w.bits (by decide)) (by assumption)) (subC 0 rfl sub0) (by kernel_rfl) ?_
 refine qN 28 (decide (x.fdiv 86400000000000 < -200000000)) ?_
 refine qN 32 (decide (x.fdiv 86400000000000 > 200000000)) ?_
 refine qF ent77 (o1) ?_
 refine st_fn ent36 (fits_f (zq1.snd) (x.fmod 86400000000000) (by exact Bits.mono i2.w.bits (by decide)) (by assumption)) (subC 1 rfl sub0) (by kernel_rfl) ?_
 refine qF ent78 (o2) ?_
 refine qF ent8 (o3) ?_
 exact st_retv Tryz.func31 (show Value.tuple #[Value.agg { toList := [vI64 (dY (x.fdiv 86400000000000)), vI64 (dM (x.fdiv 86400000000000)), vI64 (dD (x.fdiv 86400000000000)), vI64 (tH (x.fmod 86400000000000)), vI64 (tM (x.fmod 86400000000000)), vI64 (tS (x.fmod 86400000000000)), vI64 (tN (x.fmod 86400000000000))] }, Value.bool true] = _ by rfl) (by kernel_rfl)
theorem zof7_no (hx : Bits 900 x) (k : ¬ pIn x) : Fn 31 [(p, x)] [zv p] (.tuple #[pt0, .bool false]) := by
 have hb : Bits 1000 x := hx.mono (by decide)
 have hy : Bits 1000 86400000000000 := Bits.mono (show W128 86400000000000 by unfold W128; omega).bits (by decide)
 obtain ⟨-, b, c⟩ := x_split x
 have i2 : I64 (x.fmod 86400000000000) := by show I64 (xt x); unfold I64; omega
 have b2 : Bits 1000 (x.fmod 86400000000000) := i2.w.bits.mono (by decide)
 have b1 : Bits 1000 (x.fdiv 86400000000000) := Bits.mono (fdiv_b hx (by omega)) (by decide)
 have o2 := fzof (x.fmod 86400000000000) b c
 by_cases i1 : I64 (x.fdiv 86400000000000)
 ·by_cases k1 : x.fdiv 86400000000000 < -200000000
  ·refine fn_of Tryz.func31 rfl fun ww => ?_
   refine qZ ent76 (fzday) fun zq0 => ?_
   refine st_g ent75 (fzdiv (p) (zq0) (x) (86400000000000) (by exact Bits.mono hx (by decide)) (by exact Bits.mono hy (by decide)) (by omega)) (subC 1 rfl (subC 0 rfl sub0)) (by kernel_rfl) (fun zq1 => ?_)
   refine st_fn ent36 (fits_f (zq1.fst) (x.fdiv 86400000000000) (by exact Bits.mono b1 (by decide)) (by assumption)) (subC 0 rfl sub0) (by kernel_rfl) ?_
   refine qY 28 (decide (x.fdiv 86400000000000 < -200000000)) ?_
   exact qR Tryz.func31
  ·by_cases k2 : 200000000 < x.fdiv 86400000000000
   ·refine fn_of Tryz.func31 rfl fun ww => ?_
    refine qZ ent76 (fzday) fun zq0 => ?_
    refine st_g ent75 (fzdiv (p) (zq0) (x) (86400000000000) (by exact Bits.mono hx (by decide)) (by exact Bits.mono hy (by decide)) (by omega)) (subC 1 rfl (subC 0 rfl sub0)) (by kernel_rfl) (fun zq1 => ?_)
    refine st_fn ent36 (fits_f (zq1.fst) (x.fdiv 86400000000000) (by exact Bits.mono b1 (by decide)) (by assumption)) (subC 0 rfl sub0) (by kernel_rfl) ?_
    refine qN 28 (decide (x.fdiv 86400000000000 < -200000000)) ?_
    refine qY 32 (decide (x.fdiv 86400000000000 > 200000000)) ?_
    exact qR Tryz.func31
   ·by_cases k3 : -100000001 ≤ x.fdiv 86400000000000 ∧ x.fdiv 86400000000000 ≤ 100000000
    ·have o1 := zof5_yes (x.fdiv 86400000000000) k3.1 k3.2
     have k4 : ¬ pOk (dY (x.fdiv 86400000000000)) (dM (x.fdiv 86400000000000)) (dD (x.fdiv 86400000000000)) (tH (x.fmod 86400000000000)) (tM (x.fmod 86400000000000)) (tS (x.fmod 86400000000000)) (tN (x.fmod 86400000000000)) := fun q => k (pIn_split.2 ⟨k3, fun z => q.2.2 ⟨(date_ok (xd x)).2.trans z.1, (tnan_t b).trans z.2⟩⟩)
     have o3 := zright7_no _ _ _ _ _ _ _ k4
     refine fn_of Tryz.func31 rfl fun ww => ?_
     refine qZ ent76 (fzday) fun zq0 => ?_
     refine st_g ent75 (fzdiv (p) (zq0) (x) (86400000000000) (by exact Bits.mono hx (by decide)) (by exact Bits.mono hy (by decide)) (by omega)) (subC 1 rfl (subC 0 rfl sub0)) (by kernel_rfl) (fun zq1 => ?_)
     refine st_fn ent36 (fits_f (zq1.fst) (x.fdiv 86400000000000) (by exact Bits.mono b1 (by decide)) (by assumption)) (subC 0 rfl sub0) (by kernel_rfl) ?_
     refine qN 28 (decide (x.fdiv 86400000000000 < -200000000)) ?_
     refine qN 32 (decide (x.fdiv 86400000000000 > 200000000)) ?_
     refine qF ent77 (o1) ?_
     refine st_fn ent36 (fits_f (zq1.snd) (x.fmod 86400000000000) (by exact Bits.mono i2.w.bits (by decide)) (by assumption)) (subC 1 rfl sub0) (by kernel_rfl) ?_
     refine qF ent78 (o2) ?_
     refine qF ent8 (o3) ?_
     exact qR Tryz.func31
    ·have o1 := zof5_no (x.fdiv 86400000000000) (by omega)
     refine fn_of Tryz.func31 rfl fun ww => ?_
     refine qZ ent76 (fzday) fun zq0 => ?_
     refine st_g ent75 (fzdiv (p) (zq0) (x) (86400000000000) (by exact Bits.mono hx (by decide)) (by exact Bits.mono hy (by decide)) (by omega)) (subC 1 rfl (subC 0 rfl sub0)) (by kernel_rfl) (fun zq1 => ?_)
     refine st_fn ent36 (fits_f (zq1.fst) (x.fdiv 86400000000000) (by exact Bits.mono b1 (by decide)) (by assumption)) (subC 0 rfl sub0) (by kernel_rfl) ?_
     refine qN 28 (decide (x.fdiv 86400000000000 < -200000000)) ?_
     refine qN 32 (decide (x.fdiv 86400000000000 > 200000000)) ?_
     refine qF ent77 (o1) ?_
     refine st_fn ent36 (fits_f (zq1.snd) (x.fmod 86400000000000) (by exact Bits.mono i2.w.bits (by decide)) (by assumption)) (subC 1 rfl sub0) (by kernel_rfl) ?_
     refine qF ent78 (o2) ?_
     exact qR Tryz.func31
 ·refine fn_of Tryz.func31 rfl fun ww => ?_
  refine qZ ent76 (fzday) fun zq0 => ?_
  refine st_g ent75 (fzdiv (p) (zq0) (x) (86400000000000) (by exact Bits.mono hx (by decide)) (by exact Bits.mono hy (by decide)) (by omega)) (subC 1 rfl (subC 0 rfl sub0)) (by kernel_rfl) (fun zq1 => ?_)
  refine st_fn ent36 (fits_n (zq1.fst) (x.fdiv 86400000000000) (by exact Bits.mono b1 (by decide)) (by assumption)) (subC 0 rfl sub0) (by kernel_rfl) ?_
  exact qR Tryz.func31
end
end Go.Proofs.YthoedmikfpbfnaaGreat
end
section
set_option maxRecDepth 100000
namespace Go.Proofs.YthoedmikfpbfnaaGreat
open Go Go.RowKit Go.Ev

section
variable (y m d n T : Int)
theorem zreg_cn (m1 : 1 ≤ m) (m2 : m ≤ 12) (d1 : 1 ≤ d) (k : ¬ dOk y m (cD y m d)) : Fn 135 [] [.int .i64 y, .int .i64 m, .int .i64 d, .int .i64 1] (.tuple #[dv0, .int .i64 4]) := by
 have kc := zmonth y m
 obtain ⟨l, hl⟩ : ∃ l, l = mlen y m := ⟨_, rfl⟩
 have hc : cD y m d = if l < d then l else d := by rw [hl]; rfl
 rw [hc] at k
 rw [← hl] at kc
 by_cases q : l < d
 ·rw [if_pos q] at k
  refine fn_of Tryz.func135 rfl fun ww => ?_
  refine qN 41 (decide (m < 1)) ?_
  refine qN 43 (decide (m > 12)) ?_
  refine qN 45 (decide (d < 1)) ?_
  refine qF ent73 (kc) ?_
  refine qY 50 (decide (d > l)) ?_
  refine qF ent73 (kc) ?_
  refine qF ent162 (zright5_no (y) (m) (l) (by assumption)) ?_
  exact qR Tryz.func135
 ·rw [if_neg q] at k
  refine fn_of Tryz.func135 rfl fun ww => ?_
  refine qN 41 (decide (m < 1)) ?_
  refine qN 43 (decide (m > 12)) ?_
  refine qN 45 (decide (d < 1)) ?_
  refine qF ent73 (kc) ?_
  refine qN 50 (decide (d > l)) ?_
  refine qF ent162 (zright5_no (y) (m) (d) (by assumption)) ?_
  exact qR Tryz.func135
end
section
variable (a b c d h mi s n : Int)
theorem zpart (i : all64 a b c d h mi s n) : FnZ 90 [] [duv a b c d h mi s n] zv (dtot 0 h mi s n) := by
 have t1 : FnZ 132 [] [duv a b c 0 h mi s n] zv (dtot 0 h mi s n) := zutot a b c 0 h mi s n i64_0 i.2.2.2.2.1 i.2.2.2.2.2.1 i.2.2.2.2.2.2.1 i.2.2.2.2.2.2.2
 clear i
 refine fnG_of Tryz.func90 rfl fun ww => ?_
 refine qZ ent132 (t1) fun zq0 => ?_
 exact st_retG (zq0) Tryz.func90 (subE 0 rfl (by rfl) sub0) (by kernel_rfl)
variable (y m D k q o T A B C e : Int)
theorem zmov_e (hl : Fn 134 [] [dv y m D, .int .i64 a, .int .i64 b] (dv (lY T) (lM T) D)) (hr : Fn 135 [] [.int .i64 (lY T), .int .i64 (lM T), .int .i64 D, .int .i64 o] (.tuple #[dv0, .int .i64 e])) (he : e ≠ 0) :
  Fn 91 [] [dv y m D, duv a b c d h mi s n, .int .i64 q, .int .i64 o] (.tuple #[dv0, .int .i64 e]) := by
 refine fn_of Tryz.func91 rfl fun ww => ?_
 refine qF ent134 (hl) ?_
 refine qF ent135 (hr) ?_
 refine qV 31 (show (e != 0) = true by exact bne_iff_ne.2 (by omega)) ?_
 exact qR Tryz.func91
theorem zmov_v (Y M W : Int) (hc : -4294967295 ≤ c ∧ c ≤ 4294967295) (hd : -104249991400 ≤ d ∧ d ≤ 104249991400) (hq : -200000000000 ≤ q ∧ q ≤ 200000000000) (hl : Fn 134 [] [dv y m D, .int .i64 a, .int .i64 b] (dv (lY T) (lM T) D)) (hr : Fn 135 [] [.int .i64 (lY T), .int .i64 (lM T), .int .i64 D, .int .i64 o] (.tuple #[dv Y M W, .int .i64 0])) (ha : Fn 112 [] [dv Y M W, .int .i64 (d + 7 * c + q)] (.tuple #[dv A B C, .int .i64 e])) :
  Fn 91 [] [dv y m D, duv a b c d h mi s n, .int .i64 q, .int .i64 o] (.tuple #[dv A B C, .int .i64 e]) := by
 refine fn_of Tryz.func91 rfl fun ww => ?_
 refine qF ent134 (hl) ?_
 refine qF ent135 (hr) ?_
 refine qI 39 (7 * c) ?_
 refine qI 40 (d + 7 * c) ?_
 refine qI 42 (d + 7 * c + q) ?_
 refine qF ent112 (ha) ?_
 exact qR Tryz.func91
end
end Go.Proofs.YthoedmikfpbfnaaGreat
end
section
set_option maxRecDepth 100000
namespace Go.Proofs.YthoedmikfpbfnaaGreat
open Go Go.RowKit Go.Ev

section
variable (y mo D h m s n a b c d hh mi ss nn o A B C e Q R : Int)
theorem zdays_r (k : tOk h m s n) (hb : -9007199254740992000000000 < dtot 0 hh mi ss nn ∧ dtot 0 hh mi ss nn < 9007199254740992000000000) (hQ : (tnan h m s n + dtot 0 hh mi ss nn).fdiv 86400000000000 = Q) (hR : (tnan h m s n + dtot 0 hh mi ss nn).fmod 86400000000000 = R) :
  (∀ p q : ZQ, FnZZ 75 [(p, tnan h m s n + dtot 0 hh mi ss nn), (q, 86400000000000)] [zv p, zv q] (fun q => .tuple #[zv q.1, zv q.2]) Q R) ∧ I64 (tnan h m s n) ∧ W128 (dtot 0 hh mi ss nn) ∧ I64 Q ∧ I64 R ∧ 0 ≤ R ∧ R < 86400000000000 := by
 have b := tnan_bd k
 have e2 : Q * 86400000000000 + R = tnan h m s n + dtot 0 hh mi ss nn ∧ 0 ≤ R ∧ R < 86400000000000 := by rw [← hQ, ← hR]; exact x_split _
 have bx : Bits 1000 (tnan h m s n + dtot 0 hh mi ss nn) := Bits.mono (show W128 (tnan h m s n + dtot 0 hh mi ss nn) by unfold W128; omega).bits (by decide)
 have by_ : Bits 1000 86400000000000 := Bits.mono (show W128 86400000000000 by unfold W128; omega).bits (by decide)
 refine ⟨fun p q => ?_, by unfold I64; omega, by unfold W128; omega, by unfold I64; omega, by unfold I64; omega, e2.2.1, e2.2.2⟩
 have := fzdiv p q _ 86400000000000 bx by_ (by omega)
 rwa [hQ, hR] at this
theorem zad_e (i : all64 a b c d hh mi ss nn) (k1 : pOk y mo D h m s n) (k2 : uOk a b c d hh mi ss nn) (k3 : o = 1 ∨ o = 2) (hQ : (tnan h m s n + dtot 0 hh mi ss nn).fdiv 86400000000000 = Q) (hR : (tnan h m s n + dtot 0 hh mi ss nn).fmod 86400000000000 = R)
  (hm : Fn 91 [] [dv y mo D, duv a b c d hh mi ss nn, .int .i64 Q, .int .i64 o] (.tuple #[dv0, .int .i64 e])) (he : e ≠ 0) : Fn 37 [] [ptv y mo D h m s n, duv a b c d hh mi ss nn, .int .i64 o] (.tuple #[pt0, .int .i64 e]) := by
 have kr1 := zright7_yes y mo D h m s n k1
 have kr2 := zuright_y a b c d hh mi ss nn i k2
 have kr3 := zpart a b c d hh mi ss nn i
 have kr4 := fznanos h m s n k1.2.1
 obtain ⟨kr5, i1, i2, i3, i4, r0, r1⟩ := zdays_r h m s n hh mi ss nn Q R k1.2.1 (uOk_bd k2).2.2.2.2 hQ hR
 have bq : Bits 1000 Q := i3.w.bits.mono (by decide)
 have br : Bits 1000 R := i4.w.bits.mono (by decide)
 clear i k1 k2 hQ hR
 rcases k3 with rfl | rfl
 ·refine fn_of Tryz.func37 rfl fun ww => ?_
  refine qF ent8 (kr1) ?_
  refine qF ent89 (kr2) ?_
  refine qF ent83 (kr4) ?_
  refine qZ ent11 (fzint (tnan h m s n) (by assumption)) fun zq3 => ?_
  refine qZ ent90 (kr3) fun zq4 => ?_
  refine st_g ent32 (fzadd (zq3) (zq4) (tnan h m s n) (dtot 0 hh mi ss nn) (by exact Bits.fit i1.w.bits (by decide)) (by exact Bits.fit i2.bits (by decide))) (subC 1 rfl (subC 0 rfl sub0)) (by kernel_rfl) (fun zq5 => ?_)
  refine qZ ent76 (fzday) fun zq6 => ?_
  refine st_g ent75 (kr5 (zq5) (zq6)) (subC 1 rfl (subC 0 rfl sub0)) (by kernel_rfl) (fun zq7 => ?_)
  refine st_fn ent36 (fits_f (zq7.fst) (Q) (by exact Bits.mono i3.w.bits (by decide)) (by assumption)) (subC 0 rfl sub0) (by kernel_rfl) ?_
  refine st_fn ent36 (fits_f (zq7.snd) (R) (by exact Bits.mono i4.w.bits (by decide)) (by assumption)) (subC 1 rfl sub0) (by kernel_rfl) ?_
  refine qF ent91 (hm) ?_
  refine qV 66 (show (e != 0) = true by exact bne_iff_ne.2 (by omega)) ?_
  exact qR Tryz.func37
 ·refine fn_of Tryz.func37 rfl fun ww => ?_
  refine qF ent8 (kr1) ?_
  refine qF ent89 (kr2) ?_
  refine qF ent83 (kr4) ?_
  refine qZ ent11 (fzint (tnan h m s n) (by assumption)) fun zq3 => ?_
  refine qZ ent90 (kr3) fun zq4 => ?_
  refine st_g ent32 (fzadd (zq3) (zq4) (tnan h m s n) (dtot 0 hh mi ss nn) (by exact Bits.fit i1.w.bits (by decide)) (by exact Bits.fit i2.bits (by decide))) (subC 1 rfl (subC 0 rfl sub0)) (by kernel_rfl) (fun zq5 => ?_)
  refine qZ ent76 (fzday) fun zq6 => ?_
  refine st_g ent75 (kr5 (zq5) (zq6)) (subC 1 rfl (subC 0 rfl sub0)) (by kernel_rfl) (fun zq7 => ?_)
  refine st_fn ent36 (fits_f (zq7.fst) (Q) (by exact Bits.mono i3.w.bits (by decide)) (by assumption)) (subC 0 rfl sub0) (by kernel_rfl) ?_
  refine st_fn ent36 (fits_f (zq7.snd) (R) (by exact Bits.mono i4.w.bits (by decide)) (by assumption)) (subC 1 rfl sub0) (by kernel_rfl) ?_
  refine qF ent91 (hm) ?_
  refine qV 66 (show (e != 0) = true by exact bne_iff_ne.2 (by omega)) ?_
  exact qR Tryz.func37
theorem zad_n (i : all64 a b c d hh mi ss nn) (k1 : pOk y mo D h m s n) (k2 : uOk a b c d hh mi ss nn) (k3 : o = 1 ∨ o = 2) (hQ : (tnan h m s n + dtot 0 hh mi ss nn).fdiv 86400000000000 = Q) (hR : (tnan h m s n + dtot 0 hh mi ss nn).fmod 86400000000000 = R)
  (hm : Fn 91 [] [dv y mo D, duv a b c d hh mi ss nn, .int .i64 Q, .int .i64 o] (.tuple #[dv A B C, .int .i64 0])) (hp : ¬ pOk A B C (tH R) (tM R) (tS R) (tN R)) : Fn 37 [] [ptv y mo D h m s n, duv a b c d hh mi ss nn, .int .i64 o] (.tuple #[pt0, .int .i64 4]) := by
 have kr1 := zright7_yes y mo D h m s n k1
 have kr2 := zuright_y a b c d hh mi ss nn i k2
 have kr3 := zpart a b c d hh mi ss nn i
 have kr4 := fznanos h m s n k1.2.1
 have kr6 := zright7_no _ _ _ _ _ _ _ hp
 obtain ⟨kr5, i1, i2, i3, i4, r0, r1⟩ := zdays_r h m s n hh mi ss nn Q R k1.2.1 (uOk_bd k2).2.2.2.2 hQ hR
 have bq : Bits 1000 Q := i3.w.bits.mono (by decide)
 have br : Bits 1000 R := i4.w.bits.mono (by decide)
 clear i k1 k2 hQ hR hp
 rcases k3 with rfl | rfl
 ·refine fn_of Tryz.func37 rfl fun ww => ?_
  refine qF ent8 (kr1) ?_
  refine qF ent89 (kr2) ?_
  refine qF ent83 (kr4) ?_
  refine qZ ent11 (fzint (tnan h m s n) (by assumption)) fun zq3 => ?_
  refine qZ ent90 (kr3) fun zq4 => ?_
  refine st_g ent32 (fzadd (zq3) (zq4) (tnan h m s n) (dtot 0 hh mi ss nn) (by exact Bits.fit i1.w.bits (by decide)) (by exact Bits.fit i2.bits (by decide))) (subC 1 rfl (subC 0 rfl sub0)) (by kernel_rfl) (fun zq5 => ?_)
  refine qZ ent76 (fzday) fun zq6 => ?_
  refine st_g ent75 (kr5 (zq5) (zq6)) (subC 1 rfl (subC 0 rfl sub0)) (by kernel_rfl) (fun zq7 => ?_)
  refine st_fn ent36 (fits_f (zq7.fst) (Q) (by exact Bits.mono i3.w.bits (by decide)) (by assumption)) (subC 0 rfl sub0) (by kernel_rfl) ?_
  refine st_fn ent36 (fits_f (zq7.snd) (R) (by exact Bits.mono i4.w.bits (by decide)) (by assumption)) (subC 1 rfl sub0) (by kernel_rfl) ?_
  refine qF ent91 (hm) ?_
  refine qF ent78 (fzof (R) (by assumption) (by assumption)) ?_
  refine qF ent8 (kr6) ?_
  exact qR Tryz.func37
 ·refine fn_of Tryz.func37 rfl fun ww => ?_
  refine qF ent8 (kr1) ?_
  refine qF ent89 (kr2) ?_
  refine qF ent83 (kr4) ?_
  refine qZ ent11 (fzint (tnan h m s n) (by assumption)) fun zq3 => ?_
  refine qZ ent90 (kr3) fun zq4 => ?_
  refine st_g ent32 (fzadd (zq3) (zq4) (tnan h m s n) (dtot 0 hh mi ss nn) (by exact Bits.fit i1.w.bits (by decide)) (by exact Bits.fit i2.bits (by decide))) (subC 1 rfl (subC 0 rfl sub0)) (by kernel_rfl) (fun zq5 => ?_)
  refine qZ ent76 (fzday) fun zq6 => ?_
  refine st_g ent75 (kr5 (zq5) (zq6)) (subC 1 rfl (subC 0 rfl sub0)) (by kernel_rfl) (fun zq7 => ?_)
  refine st_fn ent36 (fits_f (zq7.fst) (Q) (by exact Bits.mono i3.w.bits (by decide)) (by assumption)) (subC 0 rfl sub0) (by kernel_rfl) ?_
  refine st_fn ent36 (fits_f (zq7.snd) (R) (by exact Bits.mono i4.w.bits (by decide)) (by assumption)) (subC 1 rfl sub0) (by kernel_rfl) ?_
  refine qF ent91 (hm) ?_
  refine qF ent78 (fzof (R) (by assumption) (by assumption)) ?_
  refine qF ent8 (kr6) ?_
  exact qR Tryz.func37
theorem zad_y (i : all64 a b c d hh mi ss nn) (k1 : pOk y mo D h m s n) (k2 : uOk a b c d hh mi ss nn) (k3 : o = 1 ∨ o = 2) (hQ : (tnan h m s n + dtot 0 hh mi ss nn).fdiv 86400000000000 = Q) (hR : (tnan h m s n + dtot 0 hh mi ss nn).fmod 86400000000000 = R)
  (hm : Fn 91 [] [dv y mo D, duv a b c d hh mi ss nn, .int .i64 Q, .int .i64 o] (.tuple #[dv A B C, .int .i64 0])) (hp : pOk A B C (tH R) (tM R) (tS R) (tN R)) : Fn 37 [] [ptv y mo D h m s n, duv a b c d hh mi ss nn, .int .i64 o] (.tuple #[ptv A B C (tH R) (tM R) (tS R) (tN R), .int .i64 0]) := by
 have kr1 := zright7_yes y mo D h m s n k1
 have kr2 := zuright_y a b c d hh mi ss nn i k2
 have kr3 := zpart a b c d hh mi ss nn i
 have kr4 := fznanos h m s n k1.2.1
 have kr6 := zright7_yes _ _ _ _ _ _ _ hp
 obtain ⟨kr5, i1, i2, i3, i4, r0, r1⟩ := zdays_r h m s n hh mi ss nn Q R k1.2.1 (uOk_bd k2).2.2.2.2 hQ hR
 have bq : Bits 1000 Q := i3.w.bits.mono (by decide)
 have br : Bits 1000 R := i4.w.bits.mono (by decide)
 clear i k1 k2 hQ hR hp
 rcases k3 with rfl | rfl
 ·refine fn_of Tryz.func37 rfl fun ww => ?_
  refine qF ent8 (kr1) ?_
  refine qF ent89 (kr2) ?_
  refine qF ent83 (kr4) ?_
  refine qZ ent11 (fzint (tnan h m s n) (by assumption)) fun zq3 => ?_
  refine qZ ent90 (kr3) fun zq4 => ?_
  refine st_g ent32 (fzadd (zq3) (zq4) (tnan h m s n) (dtot 0 hh mi ss nn) (by exact Bits.fit i1.w.bits (by decide)) (by exact Bits.fit i2.bits (by decide))) (subC 1 rfl (subC 0 rfl sub0)) (by kernel_rfl) (fun zq5 => ?_)
  refine qZ ent76 (fzday) fun zq6 => ?_
  refine st_g ent75 (kr5 (zq5) (zq6)) (subC 1 rfl (subC 0 rfl sub0)) (by kernel_rfl) (fun zq7 => ?_)
  refine st_fn ent36 (fits_f (zq7.fst) (Q) (by exact Bits.mono i3.w.bits (by decide)) (by assumption)) (subC 0 rfl sub0) (by kernel_rfl) ?_
  refine st_fn ent36 (fits_f (zq7.snd) (R) (by exact Bits.mono i4.w.bits (by decide)) (by assumption)) (subC 1 rfl sub0) (by kernel_rfl) ?_
  refine qF ent91 (hm) ?_
  refine qF ent78 (fzof (R) (by assumption) (by assumption)) ?_
  refine qF ent8 (kr6) ?_
  exact qR Tryz.func37
 ·refine fn_of Tryz.func37 rfl fun ww => ?_
  refine qF ent8 (kr1) ?_
  refine qF ent89 (kr2) ?_
  refine qF ent83 (kr4) ?_
  refine qZ ent11 (fzint (tnan h m s n) (by assumption)) fun zq3 => ?_
  refine qZ ent90 (kr3) fun zq4 => ?_
  refine st_g ent32 (fzadd (zq3) (zq4) (tnan h m s n) (dtot 0 hh mi ss nn) (by exact Bits.fit i1.w.bits (by decide)) (by exact Bits.fit i2.bits (by decide))) (subC 1 rfl (subC 0 rfl sub0)) (by kernel_rfl) (fun zq5 => ?_)
  refine qZ ent76 (fzday) fun zq6 => ?_
  refine st_g ent75 (kr5 (zq5) (zq6)) (subC 1 rfl (subC 0 rfl sub0)) (by kernel_rfl) (fun zq7 => ?_)
  refine st_fn ent36 (fits_f (zq7.fst) (Q) (by exact Bits.mono i3.w.bits (by decide)) (by assumption)) (subC 0 rfl sub0) (by kernel_rfl) ?_
  refine st_fn ent36 (fits_f (zq7.snd) (R) (by exact Bits.mono i4.w.bits (by decide)) (by assumption)) (subC 1 rfl sub0) (by kernel_rfl) ?_
  refine qF ent91 (hm) ?_
  refine qF ent78 (fzof (R) (by assumption) (by assumption)) ?_
  refine qF ent8 (kr6) ?_
  exact qR Tryz.func37
variable (E F G : Int)
end
section
variable (y mo d h m s n y' mo' d' h' m' s' n' L : Int)
theorem zbet_a (k : ¬ (pOk y mo d h m s n ∧ pOk y' mo' d' h' m' s' n' ∧ 1 ≤ L ∧ L ≤ 8)) : Fn 54 [] [ptv y mo d h m s n, ptv y' mo' d' h' m' s' n', .int .i64 L] (.tuple #[du0, .int .i64 1]) := by
 by_cases k1 : pOk y mo d h m s n
 ·have kr1 := zright7_yes y mo d h m s n k1
  by_cases k2 : pOk y' mo' d' h' m' s' n'
  ·have kr2 := zright7_yes y' mo' d' h' m' s' n' k2
   by_cases l : L < 1
   ·clear k k1 k2
    refine fn_of Tryz.func54 rfl fun ww => ?_
    refine qF ent8 (kr1) ?_
    refine qF ent8 (kr2) ?_
    refine qY 25 (decide (L < 1)) ?_
    exact qR Tryz.func54
   ·have l2 : 8 < L := by
     rcases Int.lt_or_le 8 L with q | q
     ·exact q
     ·exact absurd ⟨k1, k2, by omega, q⟩ k
    clear k k1 k2
    refine fn_of Tryz.func54 rfl fun ww => ?_
    refine qF ent8 (kr1) ?_
    refine qF ent8 (kr2) ?_
    refine qN 25 (decide (L < 1)) ?_
    refine qY 29 (decide (L > 8)) ?_
    exact qR Tryz.func54
  ·have kr2 := zright7_no y' mo' d' h' m' s' n' k2
   clear k k1 k2
   refine fn_of Tryz.func54 rfl fun ww => ?_
   refine qF ent8 (kr1) ?_
   refine qF ent8 (kr2) ?_
   exact qR Tryz.func54
 ·have kr1 := zright7_no y mo d h m s n k1
  clear k k1
  refine fn_of Tryz.func54 rfl fun ww => ?_
  refine qF ent8 (kr1) ?_
  exact qR Tryz.func54
variable (A B C D H M S N e : Int)
theorem zbet_5 (k : pOk y mo d h m s n) (k' : pOk y' mo' d' h' m' s' n') (l1 : 5 ≤ L) (l2 : L ≤ 8) (hl : ∀ p : ZQ, Fn 110 [(p, pnum y' mo' d' h' m' s' n' - pnum y mo d h m s n)] [zv p, .int .i64 L] (.tuple #[duv A B C D H M S N, .int .i64 e])) :
  Fn 54 [] [ptv y mo d h m s n, ptv y' mo' d' h' m' s' n', .int .i64 L] (.tuple #[duv A B C D H M S N, .int .i64 e]) := by
 have kr1 := zright7_yes y mo d h m s n k
 have kr2 := zright7_yes y' mo' d' h' m' s' n' k'
 have kn1 := znanos7 y mo d h m s n k
 have kn2 := znanos7 y' mo' d' h' m' s' n' k'
 have w1 : W128 (pnum y mo d h m s n) := by have := pOk_in k; unfold pIn at this; unfold W128; omega
 have w2 : W128 (pnum y' mo' d' h' m' s' n') := by have := pOk_in k'; unfold pIn at this; unfold W128; omega
 generalize pnum y mo d h m s n = p1 at *
 generalize pnum y' mo' d' h' m' s' n' = p2 at *
 clear k k'
 refine fn_of Tryz.func54 rfl fun ww => ?_
 refine qF ent8 (kr1) ?_
 refine qF ent8 (kr2) ?_
 refine qN 25 (decide (L < 1)) ?_
 refine qN 29 (decide (L > 8)) ?_
 refine qY 33 (decide (L > 4)) ?_
 refine qZ ent33 (kn2) fun zq2 => ?_
 refine qZ ent33 (kn1) fun zq3 => ?_
 refine st_g ent38 (fzsub (zq2) (zq3) (p2) (p1) (by exact Bits.fit w2.bits (by decide)) (by exact Bits.fit w1.bits (by decide))) (subC 1 rfl (subC 0 rfl sub0)) (by kernel_rfl) (fun zq4 => ?_)
 refine st_fn ent110 (hl (zq4)) (subC 0 rfl sub0) (by kernel_rfl) ?_
 exact qR Tryz.func54
theorem zbet_n (k : pOk y mo d h m s n) (k' : pOk y' mo' d' h' m' s' n') (l1 : 1 ≤ L) (l2 : L ≤ 4) (v z : Int) (hv : v = -1 ∨ v = 0 ∨ v = 1) (ev : cmp3 y' mo' d' y mo d = v) (ez : tnan h' m' s' n' - tnan h m s n = z) (hz : ¬ z * v < 0) (F1 F2 F3 F4 e' : Int)
  (hu : Fn 113 [] [dv y mo d, dv y' mo' d', .int .i64 L] (.tuple #[duv A B C D 0 0 0 0, .int .i64 e])) (hl : ∀ p : ZQ, Fn 110 [(p, z)] [zv p, .int .i64 5] (.tuple #[duv F1 F2 F3 F4 H M S N, .int .i64 e'])) :
  Fn 54 [] [ptv y mo d h m s n, ptv y' mo' d' h' m' s' n', .int .i64 L] (.tuple #[duv A B C D H M S N, .int .i64 e]) := by
 have kr1 := zright7_yes y mo d h m s n k
 have kr2 := zright7_yes y' mo' d' h' m' s' n' k'
 have kn1 := fznanos h m s n k.2.1
 have kn2 := fznanos h' m' s' n' k'.2.1
 have b1 := tnan_bd k.2.1
 have b2 := tnan_bd k'.2.1
 have cc := zcmp5 y' mo' d' y mo d
 rw [ev] at cc
 generalize tnan h m s n = t at *
 generalize tnan h' m' s' n' = t' at *
 have iz : I64 z := by unfold I64; omega
 clear k k' ev
 rcases hv with rfl | rfl | rfl
 ·have hz' : z ≤ 0 := by omega
  clear hz
  refine fn_of Tryz.func54 rfl fun ww => ?_
  refine qF ent8 (kr1) ?_
  refine qF ent8 (kr2) ?_
  refine qN 25 (decide (L < 1)) ?_
  refine qN 29 (decide (L > 8)) ?_
  refine qN 33 (decide (L > 4)) ?_
  refine qF ent83 (kn2) ?_
  refine qF ent83 (kn1) ?_
  refine st_i 49 IntKind.i64 (x := IntKind.i64.wrap (t' - t)) ((Go.IntWalk.i64_in (t' - t) (by omega)).trans (ez)) (by kernel_rfl) ?_
  refine qF ent111 (cc) ?_
  refine qN 74 (decide (z > 0)) ?_
  refine qF ent113 (hu) ?_
  refine qZ ent11 (fzint (z) (by assumption)) fun zq6 => ?_
  refine st_fn ent110 (hl (zq6)) (subC 0 rfl sub0) (by kernel_rfl) ?_
  exact qR Tryz.func54
 ·clear hz
  refine fn_of Tryz.func54 rfl fun ww => ?_
  refine qF ent8 (kr1) ?_
  refine qF ent8 (kr2) ?_
  refine qN 25 (decide (L < 1)) ?_
  refine qN 29 (decide (L > 8)) ?_
  refine qN 33 (decide (L > 4)) ?_
  refine qF ent83 (kn2) ?_
  refine qF ent83 (kn1) ?_
  refine st_i 49 IntKind.i64 (x := IntKind.i64.wrap (t' - t)) ((Go.IntWalk.i64_in (t' - t) (by omega)).trans (ez)) (by kernel_rfl) ?_
  refine qF ent111 (cc) ?_
  refine qF ent113 (hu) ?_
  refine qZ ent11 (fzint (z) (by assumption)) fun zq6 => ?_
  refine st_fn ent110 (hl (zq6)) (subC 0 rfl sub0) (by kernel_rfl) ?_
  exact qR Tryz.func54
 ·have hz' : 0 ≤ z := by omega
  clear hz
  refine fn_of Tryz.func54 rfl fun ww => ?_
  refine qF ent8 (kr1) ?_
  refine qF ent8 (kr2) ?_
  refine qN 25 (decide (L < 1)) ?_
  refine qN 29 (decide (L > 8)) ?_
  refine qN 33 (decide (L > 4)) ?_
  refine qF ent83 (kn2) ?_
  refine qF ent83 (kn1) ?_
  refine st_i 49 IntKind.i64 (x := IntKind.i64.wrap (t' - t)) ((Go.IntWalk.i64_in (t' - t) (by omega)).trans (ez)) (by kernel_rfl) ?_
  refine qF ent111 (cc) ?_
  refine qN 61 (decide (z < 0)) ?_
  refine qF ent113 (hu) ?_
  refine qZ ent11 (fzint (z) (by assumption)) fun zq6 => ?_
  refine st_fn ent110 (hl (zq6)) (subC 0 rfl sub0) (by kernel_rfl) ?_
  exact qR Tryz.func54
theorem zbet_s (k : pOk y mo d h m s n) (k' : pOk y' mo' d' h' m' s' n') (l1 : 1 ≤ L) (l2 : L ≤ 4) (v z : Int) (hv : v = -1 ∨ v = 1) (ev : cmp3 y' mo' d' y mo d = v) (ez : tnan h' m' s' n' - tnan h m s n = z) (hz : z * v < 0) (Y X W F1 F2 F3 F4 e' : Int)
  (hd : Fn 112 [] [dv y' mo' d', .int .i64 (-v)] (.tuple #[dv Y X W, .int .i64 0]))
  (hu : Fn 113 [] [dv y mo d, dv Y X W, .int .i64 L] (.tuple #[duv A B C D 0 0 0 0, .int .i64 e])) (hl : ∀ p : ZQ, Fn 110 [(p, z + v * 86400000000000)] [zv p, .int .i64 5] (.tuple #[duv F1 F2 F3 F4 H M S N, .int .i64 e'])) :
  Fn 54 [] [ptv y mo d h m s n, ptv y' mo' d' h' m' s' n', .int .i64 L] (.tuple #[duv A B C D H M S N, .int .i64 e]) := by
 have kr1 := zright7_yes y mo d h m s n k
 have kr2 := zright7_yes y' mo' d' h' m' s' n' k'
 have kn1 := fznanos h m s n k.2.1
 have kn2 := fznanos h' m' s' n' k'.2.1
 have b1 := tnan_bd k.2.1
 have b2 := tnan_bd k'.2.1
 have cc := zcmp5 y' mo' d' y mo d
 rw [ev] at cc
 generalize tnan h m s n = t at *
 generalize tnan h' m' s' n' = t' at *
 clear k k' ev
 rcases hv with rfl | rfl
 ·have hz' : 0 < z := by omega
  have iz : I64 (z - 86400000000000) := by unfold I64; omega
  rw [show z + -1 * 86400000000000 = z - 86400000000000 by omega] at hl
  rw [show -(-1 : Int) = 1 by omega] at hd
  clear hz
  refine fn_of Tryz.func54 rfl fun ww => ?_
  refine qF ent8 (kr1) ?_
  refine qF ent8 (kr2) ?_
  refine qN 25 (decide (L < 1)) ?_
  refine qN 29 (decide (L > 8)) ?_
  refine qN 33 (decide (L > 4)) ?_
  refine qF ent83 (kn2) ?_
  refine qF ent83 (kn1) ?_
  refine st_i 49 IntKind.i64 (x := IntKind.i64.wrap (t' - t)) ((Go.IntWalk.i64_in (t' - t) (by omega)).trans (ez)) (by kernel_rfl) ?_
  refine qF ent111 (cc) ?_
  refine qY 74 (decide (z > 0)) ?_
  refine qF ent112 (hd) ?_
  refine qI 82 (z - 86400000000000) ?_
  refine qF ent113 (hu) ?_
  refine qZ ent11 (fzint (z - 86400000000000) (by assumption)) fun zq7 => ?_
  refine st_fn ent110 (hl (zq7)) (subC 0 rfl sub0) (by kernel_rfl) ?_
  exact qR Tryz.func54
 ·have hz' : z < 0 := by omega
  have iz : I64 (z + 86400000000000) := by unfold I64; omega
  rw [show z + 1 * 86400000000000 = z + 86400000000000 by omega] at hl
  clear hz
  refine fn_of Tryz.func54 rfl fun ww => ?_
  refine qF ent8 (kr1) ?_
  refine qF ent8 (kr2) ?_
  refine qN 25 (decide (L < 1)) ?_
  refine qN 29 (decide (L > 8)) ?_
  refine qN 33 (decide (L > 4)) ?_
  refine qF ent83 (kn2) ?_
  refine qF ent83 (kn1) ?_
  refine st_i 49 IntKind.i64 (x := IntKind.i64.wrap (t' - t)) ((Go.IntWalk.i64_in (t' - t) (by omega)).trans (ez)) (by kernel_rfl) ?_
  refine qF ent111 (cc) ?_
  refine qY 61 (decide (z < 0)) ?_
  refine qF ent112 (hd) ?_
  refine qI 69 (z + 86400000000000) ?_
  refine qF ent113 (hu) ?_
  refine qZ ent11 (fzint (z + 86400000000000) (by assumption)) fun zq7 => ?_
  refine st_fn ent110 (hl (zq7)) (subC 0 rfl sub0) (by kernel_rfl) ?_
  exact qR Tryz.func54
theorem zbet (E Z : Int) (k : pOk y mo d h m s n) (k' : pOk y' mo' d' h' m' s' n') (l1 : 1 ≤ L) (l2 : L ≤ 4) (hE : bD y mo d h m s n y' mo' d' h' m' s' n' = E) (hZ : bZ y mo d h m s n y' mo' d' h' m' s' n' = Z) :
  Fn 54 [] [ptv y mo d h m s n, ptv y' mo' d' h' m' s' n', .int .i64 L] (.tuple #[duv (uY L y mo d (dY E) (dM E) (dD E)) (uMo L y mo d (dY E) (dM E) (dD E)) (uW L y mo d (dY E) (dM E) (dD E)) (uD L y mo d (dY E) (dM E) (dD E)) (l5 5 Z) (l6 5 Z) (l7 5 Z) (l8 5 Z), .int .i64 0]) := by
 obtain ⟨i1, i2, -⟩ := bt_in k k'
 obtain ⟨d1, d2⟩ := bt_date k k'
 rw [hE] at i1 d1 d2
 rw [hZ] at i2
 have la := fun p : ZQ => zulay_y 5 Z p (by unfold W128; omega) (lay5_ok i2)
 unfold bD at hE
 unfold bZ at hZ
 by_cases c : (tnan h' m' s' n' - tnan h m s n) * uS y mo d y' mo' d' < 0
 ·have hX : bX y mo d h m s n y' mo' d' h' m' s' n' = uS y mo d y' mo' d' := if_pos c
  rw [hX] at hE hZ
  have hv : uS y mo d y' mo' d' = -1 ∨ uS y mo d y' mo' d' = 1 := by
   rcases cmp3_tri y' mo' d' y mo d with q | q | q
   ·exact .inl q
   ·have q' : uS y mo d y' mo' d' = 0 := q
    rw [q'] at c; omega
   ·exact .inr q
  have ad := zaddd_yes y' mo' d' (-(uS y mo d y' mo' d')) k'.1 (by omega) (by omega)
  rw [show dnum y' mo' d' + -(uS y mo d y' mo' d') = E by omega] at ad
  rw [← hZ] at la
  have := zbet_s y mo d h m s n y' mo' d' h' m' s' n' L _ _ _ _ _ _ _ _ 0 k k' l1 l2 (uS y mo d y' mo' d') (tnan h' m' s' n' - tnan h m s n) hv rfl rfl c (dY E) (dM E) (dD E) _ _ _ _ 0 ad (zunt L y mo d (dY E) (dM E) (dD E) k.1 d1 l1 l2) la
  rw [hZ] at this
  exact this
 ·have hX : bX y mo d h m s n y' mo' d' h' m' s' n' = 0 := if_neg c
  rw [hX] at hE hZ
  obtain rfl : E = dnum y' mo' d' := by omega
  have z' : tnan h' m' s' n' - tnan h m s n = Z := by omega
  have hv : uS y mo d y' mo' d' = -1 ∨ uS y mo d y' mo' d' = 0 ∨ uS y mo d y' mo' d' = 1 := cmp3_tri y' mo' d' y mo d
  rw [z'] at c
  rw [(date_of k'.1.1).1, (date_of k'.1.1).2.1, (date_of k'.1.1).2.2]
  exact zbet_n y mo d h m s n y' mo' d' h' m' s' n' L _ _ _ _ _ _ _ _ 0 k k' l1 l2 (uS y mo d y' mo' d') Z hv rfl z' c _ _ _ _ 0 (zunt L y mo d y' mo' d' k.1 k'.1 l1 l2) la
end
section
variable (y mo d h m s n y' mo' d' h' m' s' n' L : Int)
theorem bet_both : ∃ A B C D H M S N e : Int, Fn 42 [] [ptv y mo d h m s n, ptv y' mo' d' h' m' s' n', .int .i64 L] (.tuple #[duv A B C D H M S N, .int .i64 e]) ∧ Fn 54 [] [ptv y mo d h m s n, ptv y' mo' d' h' m' s' n', .int .i64 L] (.tuple #[duv A B C D H M S N, .int .i64 e]) := by
 by_cases k : pOk y mo d h m s n ∧ pOk y' mo' d' h' m' s' n' ∧ 1 ≤ L ∧ L ≤ 8
 ·obtain ⟨k1, k2, l1, lq8⟩ := k
  by_cases lq4 : L ≤ 4
  ·exact ⟨_, _, _, _, _, _, _, _, _, cbet y mo d h m s n y' mo' d' h' m' s' n' L _ _ k1 k2 l1 lq4 rfl rfl, zbet y mo d h m s n y' mo' d' h' m' s' n' L _ _ k1 k2 l1 lq4 rfl rfl⟩
  ·have w : W128 (pnum y' mo' d' h' m' s' n' - pnum y mo d h m s n) := by
    have a := pOk_in k1
    have b := pOk_in k2
    unfold pIn at a b; unfold W128; omega
   by_cases q : layOk L (pnum y' mo' d' h' m' s' n' - pnum y mo d h m s n)
   ·exact ⟨_, _, _, _, _, _, _, _, _, cbet_5 y mo d h m s n y' mo' d' h' m' s' n' L _ _ _ _ _ _ _ _ _ k1 k2 (by omega) lq8 (ulay_y L _ w q), zbet_5 y mo d h m s n y' mo' d' h' m' s' n' L _ _ _ _ _ _ _ _ _ k1 k2 (by omega) lq8 (fun p => zulay_y L _ p w q)⟩
   ·have a := pOk_in k1
    have b := pOk_in k2
    unfold pIn at a b
    exact ⟨_, _, _, _, _, _, _, _, _, cbet_5 y mo d h m s n y' mo' d' h' m' s' n' L _ _ _ _ _ _ _ _ _ k1 k2 (by omega) lq8 (ulay_s L _ (by omega) (by omega) lq8 q), zbet_5 y mo d h m s n y' mo' d' h' m' s' n' L _ _ _ _ _ _ _ _ _ k1 k2 (by omega) lq8 (fun p => zulay_s L _ p (by omega) (by omega) lq8 q)⟩
 ·exact ⟨_, _, _, _, _, _, _, _, _, cbet_a y mo d h m s n y' mo' d' h' m' s' n' L k, zbet_a y mo d h m s n y' mo' d' h' m' s' n' L k⟩
end
end Go.Proofs.YthoedmikfpbfnaaGreat
end
section
set_option maxRecDepth 100000
namespace Go.Proofs.YthoedmikfpbfnaaGreat
open Go Go.RowKit Go.Ev

abbrev zz0 : Value := .agg #[.bool false, .slice none 0 0]
section
variable (y mo d h m s nn n u A B C H M S N e : Int) (p : ZQ)
theorem zrlen (l1 : 3 ≤ u) (l2 : u ≤ 8) : FnZ 35 [] [.int .i64 u] zv (rlen u) := by
 by_cases q : u = 3
 ·subst q
  have i1 : I64 604800000000000 := by unfold I64; omega
  show FnZ _ _ _ zv 604800000000000
  refine fnG_of Tryz.func35 rfl fun ww => ?_
  refine qZ ent11 (fzint (604800000000000) (by assumption)) fun zq0 => ?_
  exact st_retG (zq0) Tryz.func35 (subE 0 rfl (by rfl) sub0) (by kernel_rfl)
 ·have e : rlen u = ulen u := if_neg q
  have i1 : I64 (ulen u) := by have := ulen_pos (show 4 ≤ u by omega) l2; unfold I64; omega
  rw [e]
  refine fnG_of Tryz.func35 rfl fun ww => ?_
  refine qN 4 (u == 3) ?_
  refine qF ent85 (zulen_fn (u)) ?_
  refine qZ ent11 (fzint (ulen u) (by assumption)) fun zq1 => ?_
  exact st_retG (zq1) Tryz.func35 (subE 0 rfl (by rfl) sub0) (by kernel_rfl)
theorem zmv_y (l1 : 3 ≤ u) (l2 : u ≤ 8) (k : pOk y mo d h m s nn) (hn : Bits 200 n) (l : pIn (pnum y mo d h m s nn + n * rlen u)) : Fn 10 [(p, n)] [ptv y mo d h m s nn, zv p, .int .i64 u] (.tuple #[ptN (pnum y mo d h m s nn + n * rlen u), .int .i64 0]) := by
 have kn := znanos7 y mo d h m s nn k
 have wx : W128 (pnum y mo d h m s nn) := by have := pOk_in k; unfold pIn at this; unfold W128; omega
 have rl := rlen_in l1 l2
 have wr : W128 (rlen u) := by unfold W128; omega
 clear k
 refine fn_of Tryz.func10 rfl fun ww => ?_
 refine qY 14 (decide (u > 2)) ?_
 refine qZ ent33 (kn) fun zq0 => ?_
 refine qZ ent35 (zrlen (u) (by assumption) (by assumption)) fun zq1 => ?_
 refine st_g ent34 (fzmul (p) (zq1) (n) (rlen u) (by exact Bits.fit hn (by decide)) (by exact Bits.fit wr.bits (by decide))) (subC 2 rfl (subC 0 rfl sub0)) (by kernel_rfl) (fun zq2 => ?_)
 refine st_g ent32 (fzadd (zq0) (zq2) (pnum y mo d h m s nn) (n * rlen u) (by exact Bits.fit wx.bits (by decide)) (by exact Bits.fit (Bits.mul hn wr.bits) (by decide))) (subC 2 rfl (subC 0 rfl sub0)) (by kernel_rfl) (fun zq3 => ?_)
 refine st_fn ent31 (zof7_yes (zq3) (pnum y mo d h m s nn + n * rlen u) (by assumption)) (subC 0 rfl sub0) (by kernel_rfl) ?_
 exact qR Tryz.func10
theorem zmv_n (l1 : 3 ≤ u) (l2 : u ≤ 8) (k : pOk y mo d h m s nn) (hn : Bits 200 n) (l : ¬ pIn (pnum y mo d h m s nn + n * rlen u)) : Fn 10 [(p, n)] [ptv y mo d h m s nn, zv p, .int .i64 u] (.tuple #[pt0, .int .i64 4]) := by
 have kn := znanos7 y mo d h m s nn k
 have wx : W128 (pnum y mo d h m s nn) := by have := pOk_in k; unfold pIn at this; unfold W128; omega
 have rl := rlen_in l1 l2
 have wr : W128 (rlen u) := by unfold W128; omega
 have b0 : Bits 328 (n * rlen u) := Bits.mul hn wr.bits
 have b1 : Bits 900 (pnum y mo d h m s nn + n * rlen u) := Bits.mono (Bits.add (Bits.mono wx.bits (show 128 ≤ 328 by decide)) b0) (by decide)
 clear k
 refine fn_of Tryz.func10 rfl fun ww => ?_
 refine qY 14 (decide (u > 2)) ?_
 refine qZ ent33 (kn) fun zq0 => ?_
 refine qZ ent35 (zrlen (u) (by assumption) (by assumption)) fun zq1 => ?_
 refine st_g ent34 (fzmul (p) (zq1) (n) (rlen u) (by exact Bits.fit hn (by decide)) (by exact Bits.fit wr.bits (by decide))) (subC 2 rfl (subC 0 rfl sub0)) (by kernel_rfl) (fun zq2 => ?_)
 refine st_g ent32 (fzadd (zq0) (zq2) (pnum y mo d h m s nn) (n * rlen u) (by exact Bits.fit wx.bits (by decide)) (by exact Bits.fit b0 (by decide))) (subC 2 rfl (subC 0 rfl sub0)) (by kernel_rfl) (fun zq3 => ?_)
 refine st_fn ent31 (zof7_no (zq3) (pnum y mo d h m s nn + n * rlen u) (by exact Bits.mono b1 (by decide)) (by assumption)) (subC 0 rfl sub0) (by kernel_rfl) ?_
 exact qR Tryz.func10
theorem zmv_r (hu : u = 1 ∨ u = 2) (hn : I64 n) (q : ¬ (-4294967295 ≤ n ∧ n ≤ 4294967295)) : Fn 10 [(p, n)] [ptv y mo d h m s nn, zv p, .int .i64 u] (.tuple #[pt0, .int .i64 4]) := by
 have b1 : Bits 1000 n := hn.w.bits.mono (by decide)
 by_cases q1 : 4294967295 < n
 ·clear q
  rcases hu with rfl | rfl
  ·refine fn_of Tryz.func10 rfl fun ww => ?_
   refine st_fn ent36 (fits_f (p) (n) (by exact Bits.mono hn.w.bits (by decide)) (by assumption)) (subC 0 rfl sub0) (by kernel_rfl) ?_
   refine qY 39 (decide (n > 4294967295)) ?_
   exact qR Tryz.func10
  ·refine fn_of Tryz.func10 rfl fun ww => ?_
   refine st_fn ent36 (fits_f (p) (n) (by exact Bits.mono hn.w.bits (by decide)) (by assumption)) (subC 0 rfl sub0) (by kernel_rfl) ?_
   refine qY 39 (decide (n > 4294967295)) ?_
   exact qR Tryz.func10
 ·have q2 : n < -4294967295 := by omega
  clear q
  rcases hu with rfl | rfl
  ·refine fn_of Tryz.func10 rfl fun ww => ?_
   refine st_fn ent36 (fits_f (p) (n) (by exact Bits.mono hn.w.bits (by decide)) (by assumption)) (subC 0 rfl sub0) (by kernel_rfl) ?_
   refine qN 39 (decide (n > 4294967295)) ?_
   refine qY 43 (decide (n < -4294967295)) ?_
   exact qR Tryz.func10
  ·refine fn_of Tryz.func10 rfl fun ww => ?_
   refine st_fn ent36 (fits_f (p) (n) (by exact Bits.mono hn.w.bits (by decide)) (by assumption)) (subC 0 rfl sub0) (by kernel_rfl) ?_
   refine qN 39 (decide (n > 4294967295)) ?_
   refine qY 43 (decide (n < -4294967295)) ?_
   exact qR Tryz.func10
theorem zmv_1 (r : -4294967295 ≤ n ∧ n ≤ 4294967295) (ha : Fn 37 [] [ptv y mo d h m s nn, duv n 0 0 0 0 0 0 0, .int .i64 1] (.tuple #[ptv A B C H M S N, .int .i64 e])) : Fn 10 [(p, n)] [ptv y mo d h m s nn, zv p, .int .i64 1] (.tuple #[ptv A B C H M S N, .int .i64 e]) := by
 have hn : I64 n := by unfold I64; omega
 have b1 : Bits 1000 n := hn.w.bits.mono (by decide)
 refine fn_of Tryz.func10 rfl fun ww => ?_
 refine st_fn ent36 (fits_f (p) (n) (by exact Bits.mono hn.w.bits (by decide)) (by assumption)) (subC 0 rfl sub0) (by kernel_rfl) ?_
 refine qN 39 (decide (n > 4294967295)) ?_
 refine qN 43 (decide (n < -4294967295)) ?_
 refine qF ent37 (ha) ?_
 exact qR Tryz.func10
theorem zmv_2 (r : -4294967295 ≤ n ∧ n ≤ 4294967295) (ha : Fn 37 [] [ptv y mo d h m s nn, duv 0 n 0 0 0 0 0 0, .int .i64 1] (.tuple #[ptv A B C H M S N, .int .i64 e])) : Fn 10 [(p, n)] [ptv y mo d h m s nn, zv p, .int .i64 2] (.tuple #[ptv A B C H M S N, .int .i64 e]) := by
 have hn : I64 n := by unfold I64; omega
 have b1 : Bits 1000 n := hn.w.bits.mono (by decide)
 refine fn_of Tryz.func10 rfl fun ww => ?_
 refine st_fn ent36 (fits_f (p) (n) (by exact Bits.mono hn.w.bits (by decide)) (by assumption)) (subC 0 rfl sub0) (by kernel_rfl) ?_
 refine qN 39 (decide (n > 4294967295)) ?_
 refine qN 43 (decide (n < -4294967295)) ?_
 refine qF ent37 (ha) ?_
 exact qR Tryz.func10
end
theorem mov20c (a b c d h mi s n y m D q : Int) (k1 : dOk y m D) (k2 : uOk a b c d h mi s n) (hq : -200000000000 ≤ q ∧ q ≤ 200000000000) :
  (Fn 72 [] [dv y m D, .int .i64 (12 * a + b), .int .i64 (d + 7 * c + q), .int .i64 1] (.tuple #[dv0, .int .i64 4]) ∧ Fn 91 [] [dv y m D, duv a b c d h mi s n, .int .i64 q, .int .i64 1] (.tuple #[dv0, .int .i64 4])) ∨
  ∃ A B C, Fn 72 [] [dv y m D, .int .i64 (12 * a + b), .int .i64 (d + 7 * c + q), .int .i64 1] (.tuple #[dv A B C, .int .i64 0]) ∧ Fn 91 [] [dv y m D, duv a b c d h mi s n, .int .i64 q, .int .i64 1] (.tuple #[dv A B C, .int .i64 0]) := by
 obtain ⟨b1, b2, b3, b4, b5⟩ := uOk_bd k2
 have yy := dOk_year k1
 obtain ⟨T, hT⟩ : ∃ T, ymi y m + (12 * a + b) = T := ⟨_, rfl⟩
 have hT' := hT
 unfold ymi at hT'
 have lc := clater y m D (12 * a + b) T (by omega) (by omega) (by omega) k1.1.1 k1.1.2.1 (by omega) (by omega)
 have lz := zlater y m D a b T (by omega) (by omega) (by omega) k1.1.1 k1.1.2.1 (by omega) (by omega) (by omega) (by omega)
 by_cases kW : dOk (lY T) (lM T) (cD (lY T) (lM T) D)
 ·have r1 := creg_cy (lY T) (lM T) D (ymi_l T).2.1 (ymi_l T).2.2 k1.1.2.2.1 kW
  have r2 := zreg_cy (lY T) (lM T) D (ymi_l T).2.1 (ymi_l T).2.2 k1.1.2.2.1 kW
  by_cases z : -100000001 ≤ dnum (lY T) (lM T) (cD (lY T) (lM T) D) + (d + 7 * c + q) ∧ dnum (lY T) (lM T) (cD (lY T) (lM T) D) + (d + 7 * c + q) ≤ 100000000
  ·exact .inr ⟨_, _, _, cmov_v y m D _ T 1 _ _ _ _ 0 _ _ _ lc r1 (caddd_yes _ _ _ _ kW z.1 z.2), zmov_v a b c d h mi s n y m D q 1 T _ _ _ 0 _ _ _ b3 b4 hq lz r2 (zaddd_yes _ _ _ _ kW z.1 z.2)⟩
  ·exact .inl ⟨cmov_v y m D _ T 1 _ _ _ _ 4 _ _ _ lc r1 (caddd_no _ _ _ _ kW (by omega)), zmov_v a b c d h mi s n y m D q 1 T _ _ _ 4 _ _ _ b3 b4 hq lz r2 (zaddd_no _ _ _ _ kW (by omega))⟩
 ·exact .inl ⟨cmov_e y m D _ T 1 _ 4 lc (creg_cn (lY T) (lM T) D (ymi_l T).2.1 (ymi_l T).2.2 k1.1.2.2.1 kW) (by decide), zmov_e a b c d h mi s n y m D q 1 T 4 lz (zreg_cn (lY T) (lM T) D (ymi_l T).2.1 (ymi_l T).2.2 k1.1.2.2.1 kW) (by decide)⟩
section
variable (y mo d h m s nn n u : Int)
theorem mov20both (k : pOk y mo d h m s nn) (l1 : 1 ≤ u) (l2 : u ≤ 8) (hn : I64 n) : ∃ A B C H M S N e, (e = 0 ∨ e = 4) ∧ (e = 0 → pOk A B C H M S N) ∧ Fn 7 [] [ptv y mo d h m s nn, .int .i64 n, .int .i64 u] (.tuple #[ptv A B C H M S N, .int .i64 e]) ∧ ∀ p : ZQ, Fn 10 [(p, n)] [ptv y mo d h m s nn, zv p, .int .i64 u] (.tuple #[ptv A B C H M S N, .int .i64 e]) := by
 by_cases hu : 3 ≤ u
 ·have rl := rlen_in hu l2
  have w : W128 (n * rlen u) := by
   unfold I64 at hn
   have a := Int.mul_le_mul_of_nonneg_right hn.2 (show 0 ≤ rlen u by omega)
   have b := Int.mul_le_mul_of_nonneg_right hn.1 (show 0 ≤ rlen u by omega)
   generalize n * rlen u = x at *
   unfold W128; omega
  have bn : Bits 200 n := hn.w.bits.mono (by decide)
  by_cases l : pIn (pnum y mo d h m s nn + n * rlen u)
  ·exact ⟨_, _, _, _, _, _, _, 0, .inl rfl, fun _ => (of_pOk l).1, rmov_d u n y mo d h m s nn _ _ _ _ _ _ _ 0 k hu l2 hn (padd_yes y mo d h m s nn (n * rlen u) k w l), fun p => zmv_y y mo d h m s nn n u p hu l2 k bn l⟩
  ·exact ⟨_, _, _, _, _, _, _, 4, .inr rfl, fun q => by omega, rmov_d u n y mo d h m s nn _ _ _ _ _ _ _ 4 k hu l2 hn (padd_no y mo d h m s nn (n * rlen u) k w l), fun p => zmv_n y mo d h m s nn n u p hu l2 k bn l⟩
 ·have hu2 : u = 1 ∨ u = 2 := by omega
  by_cases r : -4294967295 ≤ n ∧ n ≤ 4294967295
  ·have fin : ∀ a b : Int, uOk a b 0 0 0 0 0 0 → all64 a b 0 0 0 0 0 0 → ∃ A B C H M S N e, (e = 0 ∨ e = 4) ∧ (e = 0 → pOk A B C H M S N) ∧ Fn 26 [] [ptv y mo d h m s nn, duv a b 0 0 0 0 0 0, .int .i64 1] (.tuple #[ptv A B C H M S N, .int .i64 e]) ∧ Fn 37 [] [ptv y mo d h m s nn, duv a b 0 0 0 0 0 0, .int .i64 1] (.tuple #[ptv A B C H M S N, .int .i64 e]) := fun a b o i => by
    have tb := tnan_bd k.2.1
    have z : dtot 0 0 0 0 0 = 0 := rfl
    have hQ : (tnan h m s nn + dtot 0 0 0 0 0).fdiv 86400000000000 = 0 := by rw [z, Int.fdiv_eq_ediv_of_nonneg _ (by omega)]; omega
    have hR : (tnan h m s nn + dtot 0 0 0 0 0).fmod 86400000000000 = tnan h m s nn := by rw [z, Int.fmod_eq_emod_of_nonneg _ (by omega)]; omega
    rcases mov20c a b 0 0 0 0 0 0 y mo d 0 k.1 o (by omega) with ⟨r1, r2⟩ | ⟨A, B, C, r1, r2⟩
    ·exact ⟨_, _, _, _, _, _, _, 4, .inr rfl, fun q => by omega, cad_e y mo d h m s nn a b 0 0 0 0 0 0 1 4 0 _ i k o (.inl rfl) hQ hR (by omega) r1 (by decide), zad_e y mo d h m s nn a b 0 0 0 0 0 0 1 4 0 _ i k o (.inl rfl) hQ hR r2 (by decide)⟩
    ·by_cases hp : pOk A B C (tH (tnan h m s nn)) (tM (tnan h m s nn)) (tS (tnan h m s nn)) (tN (tnan h m s nn))
     ·exact ⟨_, _, _, _, _, _, _, 0, .inl rfl, fun _ => hp, cad_y y mo d h m s nn a b 0 0 0 0 0 0 1 A B C 0 _ i k o (.inl rfl) hQ hR (by omega) r1 hp, zad_y y mo d h m s nn a b 0 0 0 0 0 0 1 A B C 0 _ i k o (.inl rfl) hQ hR r2 hp⟩
     ·exact ⟨_, _, _, _, _, _, _, 4, .inr rfl, fun q => by omega, cad_n y mo d h m s nn a b 0 0 0 0 0 0 1 A B C 0 _ i k o (.inl rfl) hQ hR (by omega) r1 hp, zad_n y mo d h m s nn a b 0 0 0 0 0 0 1 A B C 0 _ i k o (.inl rfl) hQ hR r2 hp⟩
   rcases hu2 with rfl | rfl
   ·obtain ⟨o, i⟩ := uOk_y n r
    obtain ⟨A, B, C, H, M, S, N, e, e1, e2, ka, kz⟩ := fin n 0 o i
    exact ⟨_, _, _, _, _, _, _, _, e1, e2, rmov_1 n y mo d h m s nn _ _ _ _ _ _ _ _ k r ka, fun p => zmv_1 y mo d h m s nn n _ _ _ _ _ _ _ _ p r kz⟩
   ·obtain ⟨o, i⟩ := uOk_m n r
    obtain ⟨A, B, C, H, M, S, N, e, e1, e2, ka, kz⟩ := fin 0 n o i
    exact ⟨_, _, _, _, _, _, _, _, e1, e2, rmov_2 n y mo d h m s nn _ _ _ _ _ _ _ _ k r ka, fun p => zmv_2 y mo d h m s nn n _ _ _ _ _ _ _ _ p r kz⟩
  ·exact ⟨_, _, _, _, _, _, _, 4, .inr rfl, fun q => by omega, rmov_r u n y mo d h m s nn hu2 k hn r, fun p => zmv_r y mo d h m s nn n u p hu2 hn r⟩
variable (A B C H M S N e : Int)
end
end Go.Proofs.YthoedmikfpbfnaaGreat
end
section
set_option maxRecDepth 100000
namespace Go.Proofs.YthoedmikfpbfnaaGreat
open Go Go.RowKit Go.Ev

abbrev zzv (q : ZQ × ZQ) : Value := .tuple #[zv q.1, zv q.2, .int .i64 0]
section
variable (y mo d h m s nn y' mo' d' h' m' s' n' u A B C D H M S N v c f1 f2 f3 f4 f5 f6 f7 t1 t2 t3 t4 t5 t6 t7 e : Int)
theorem ztot_d (W : Int) (k : pOk y mo d h m s nn) (k' : pOk y' mo' d' h' m' s' n') (l1 : 3 ≤ u) (l2 : u ≤ 8) (hW : pnum y' mo' d' h' m' s' n' - pnum y mo d h m s nn = W) : FnG 45 [] [ptv y mo d h m s nn, ptv y' mo' d' h' m' s' n', .int .i64 u] zzv (fun q => [(q.1, W), (q.2, rlen u)]) := by
 subst hW
 have kr1 := zright7_yes y mo d h m s nn k
 have kr2 := zright7_yes y' mo' d' h' m' s' n' k'
 have kn1 := znanos7 y mo d h m s nn k
 have kn2 := znanos7 y' mo' d' h' m' s' n' k'
 have w1 : W128 (pnum y mo d h m s nn) := by have := pOk_in k; unfold pIn at this; unfold W128; omega
 have w2 : W128 (pnum y' mo' d' h' m' s' n') := by have := pOk_in k'; unfold pIn at this; unfold W128; omega
 generalize pnum y mo d h m s nn = p1 at *
 generalize pnum y' mo' d' h' m' s' n' = p2 at *
 clear k k'
 refine fnG_of Tryz.func45 rfl fun ww => ?_
 refine qF ent8 (kr1) ?_
 refine qF ent8 (kr2) ?_
 refine qN 30 (decide (u < 1)) ?_
 refine qN 34 (decide (u > 8)) ?_
 refine qZ ent33 (kn2) fun zq2 => ?_
 refine qZ ent33 (kn1) fun zq3 => ?_
 refine st_g ent38 (fzsub (zq2) (zq3) (p2) (p1) (by exact Bits.fit w2.bits (by decide)) (by exact Bits.fit w1.bits (by decide))) (subC 1 rfl (subC 0 rfl sub0)) (by kernel_rfl) (fun zq4 => ?_)
 refine qY 44 (decide (u > 2)) ?_
 refine qZ ent35 (zrlen (u) (by assumption) (by assumption)) fun zq5 => ?_
 exact st_retG ((zq4, zq5)) Tryz.func45 (subE 1 rfl (by rfl) (subE 0 rfl (by rfl) sub0)) (by kernel_rfl)
theorem ztot_0 (hu : u = 1 ∨ u = 2) (k : pOk y mo d h m s nn) (k' : pOk y' mo' d' h' m' s' n') (hW : pnum y' mo' d' h' m' s' n' - pnum y mo d h m s nn = 0) : FnG 45 [] [ptv y mo d h m s nn, ptv y' mo' d' h' m' s' n', .int .i64 u] zzv (fun q => [(q.1, 0), (q.2, 1)]) := by
 have kr1 := zright7_yes y mo d h m s nn k
 have kr2 := zright7_yes y' mo' d' h' m' s' n' k'
 have kn1 := znanos7 y mo d h m s nn k
 have kn2 := znanos7 y' mo' d' h' m' s' n' k'
 have w1 : W128 (pnum y mo d h m s nn) := by have := pOk_in k; unfold pIn at this; unfold W128; omega
 have w2 : W128 (pnum y' mo' d' h' m' s' n') := by have := pOk_in k'; unfold pIn at this; unfold W128; omega
 generalize pnum y mo d h m s nn = p1 at *
 generalize pnum y' mo' d' h' m' s' n' = p2 at *
 have kr3 : ∀ p : ZQ, Fn 103 [(p, p2 - p1)] [zv p] (.int .i64 0) := fun p => by
  have := fzsign p (p2 - p1) (Bits.fit (Bits.sub w2.bits w1.bits) (by decide)); rwa [hW] at this ⊢
 have i1 : I64 1 := by unfold I64; omega
 clear k k' hW
 rcases hu with rfl | rfl
 ·refine fnG_of Tryz.func45 rfl fun ww => ?_
  refine st_zero ?_
  refine qF ent8 (kr1) ?_
  refine qF ent8 (kr2) ?_
  refine qZ ent33 (kn2) fun zq2 => ?_
  refine qZ ent33 (kn1) fun zq3 => ?_
  refine st_g ent38 (fzsub (zq2) (zq3) (p2) (p1) (by exact Bits.fit w2.bits (by decide)) (by exact Bits.fit w1.bits (by decide))) (subC 1 rfl (subC 0 rfl sub0)) (by kernel_rfl) (fun zq4 => ?_)
  refine st_fn ent103 (kr3 (zq4)) (subC 0 rfl sub0) (by kernel_rfl) ?_
  refine qZ ent11 (fzint (1) (by assumption)) fun zq6 => ?_
  exact st_retG ((⟨false, none, 0, 0⟩, zq6) : ZQ × ZQ) Tryz.func45 (subE 4 rfl (by rfl) (subE 0 rfl (by rfl) sub0)) (by kernel_rfl)
 ·refine fnG_of Tryz.func45 rfl fun ww => ?_
  refine st_zero ?_
  refine qF ent8 (kr1) ?_
  refine qF ent8 (kr2) ?_
  refine qZ ent33 (kn2) fun zq2 => ?_
  refine qZ ent33 (kn1) fun zq3 => ?_
  refine st_g ent38 (fzsub (zq2) (zq3) (p2) (p1) (by exact Bits.fit w2.bits (by decide)) (by exact Bits.fit w1.bits (by decide))) (subC 1 rfl (subC 0 rfl sub0)) (by kernel_rfl) (fun zq4 => ?_)
  refine st_fn ent103 (kr3 (zq4)) (subC 0 rfl sub0) (by kernel_rfl) ?_
  refine qZ ent11 (fzint (1) (by assumption)) fun zq6 => ?_
  exact st_retG ((⟨false, none, 0, 0⟩, zq6) : ZQ × ZQ) Tryz.func45 (subE 4 rfl (by rfl) (subE 0 rfl (by rfl) sub0)) (by kernel_rfl)
theorem ztot_e (hu : u = 1 ∧ c = A ∨ u = 2 ∧ c = B) (k : pOk y mo d h m s nn) (k' : pOk y' mo' d' h' m' s' n') (hv : v = 1 ∨ v = -1) (ev : cmpI (pnum y' mo' d' h' m' s' n' - pnum y mo d h m s nn) 0 = v) (hc : -9000000 ≤ c ∧ c ≤ 9000000) (e0 q : Int)
  (kb : Fn 54 [] [ptv y mo d h m s nn, ptv y' mo' d' h' m' s' n', .int .i64 u] (.tuple #[duv A B C D H M S N, .int .i64 e0]))
  (km1 : ∀ p : ZQ, Fn 10 [(p, c)] [ptv y mo d h m s nn, zv p, .int .i64 u] (.tuple #[ptv f1 f2 f3 f4 f5 f6 f7, .int .i64 q])) (km2 : ∀ p : ZQ, Fn 10 [(p, c + v)] [ptv y mo d h m s nn, zv p, .int .i64 u] (.tuple #[ptv t1 t2 t3 t4 t5 t6 t7, .int .i64 e])) (he : e ≠ 0) :
  Fn 45 [] [ptv y mo d h m s nn, ptv y' mo' d' h' m' s' n', .int .i64 u] (.tuple #[zz0, zz0, .int .i64 e]) := by
 have kr1 := zright7_yes y mo d h m s nn k
 have kr2 := zright7_yes y' mo' d' h' m' s' n' k'
 have kn1 := znanos7 y mo d h m s nn k
 have kn2 := znanos7 y' mo' d' h' m' s' n' k'
 have w1 : W128 (pnum y mo d h m s nn) := by have := pOk_in k; unfold pIn at this; unfold W128; omega
 have w2 : W128 (pnum y' mo' d' h' m' s' n') := by have := pOk_in k'; unfold pIn at this; unfold W128; omega
 generalize pnum y mo d h m s nn = p1 at *
 generalize pnum y' mo' d' h' m' s' n' = p2 at *
 have kr3 : ∀ p : ZQ, Fn 103 [(p, p2 - p1)] [zv p] (.int .i64 v) := fun p => by
  have := fzsign p (p2 - p1) (Bits.fit (Bits.sub w2.bits w1.bits) (by decide)); rwa [ev] at this
 have i1 : I64 c := by unfold I64; omega
 have i2 : I64 (c + v) := by unfold I64; omega
 have hv0 : v ≠ 0 := by omega
 clear k k' ev
 rcases hu with ⟨rfl, rfl⟩ | ⟨rfl, rfl⟩
 ·refine fn_of Tryz.func45 rfl fun ww => ?_
  refine qF ent8 (kr1) ?_
  refine qF ent8 (kr2) ?_
  refine qZ ent33 (kn2) fun zq2 => ?_
  refine qZ ent33 (kn1) fun zq3 => ?_
  refine st_g ent38 (fzsub (zq2) (zq3) (p2) (p1) (by exact Bits.fit w2.bits (by decide)) (by exact Bits.fit w1.bits (by decide))) (subC 1 rfl (subC 0 rfl sub0)) (by kernel_rfl) (fun zq4 => ?_)
  refine st_fn ent103 (kr3 (zq4)) (subC 0 rfl sub0) (by kernel_rfl) ?_
  refine qN 51 (v == 0) ?_
  refine qF ent54 (kb) ?_
  refine qZ ent11 (fzint (c) (by assumption)) fun zq7 => ?_
  refine st_fn ent10 (km1 (zq7)) (subC 0 rfl sub0) (by kernel_rfl) ?_
  refine qI 79 (c + v) ?_
  refine qZ ent11 (fzint (c + v) (by assumption)) fun zq9 => ?_
  refine st_fn ent10 (km2 (zq9)) (subC 0 rfl sub0) (by kernel_rfl) ?_
  refine qV 86 (show (e != 0) = true by exact bne_iff_ne.2 (by omega)) ?_
  exact qR Tryz.func45
 ·refine fn_of Tryz.func45 rfl fun ww => ?_
  refine qF ent8 (kr1) ?_
  refine qF ent8 (kr2) ?_
  refine qZ ent33 (kn2) fun zq2 => ?_
  refine qZ ent33 (kn1) fun zq3 => ?_
  refine st_g ent38 (fzsub (zq2) (zq3) (p2) (p1) (by exact Bits.fit w2.bits (by decide)) (by exact Bits.fit w1.bits (by decide))) (subC 1 rfl (subC 0 rfl sub0)) (by kernel_rfl) (fun zq4 => ?_)
  refine st_fn ent103 (kr3 (zq4)) (subC 0 rfl sub0) (by kernel_rfl) ?_
  refine qN 51 (v == 0) ?_
  refine qF ent54 (kb) ?_
  refine qZ ent11 (fzint (c) (by assumption)) fun zq7 => ?_
  refine st_fn ent10 (km1 (zq7)) (subC 0 rfl sub0) (by kernel_rfl) ?_
  refine qI 79 (c + v) ?_
  refine qZ ent11 (fzint (c + v) (by assumption)) fun zq9 => ?_
  refine st_fn ent10 (km2 (zq9)) (subC 0 rfl sub0) (by kernel_rfl) ?_
  refine qV 86 (show (e != 0) = true by exact bne_iff_ne.2 (by omega)) ?_
  exact qR Tryz.func45
theorem ztot_p (hu : u = 1 ∧ c = A ∨ u = 2 ∧ c = B) (k : pOk y mo d h m s nn) (k' : pOk y' mo' d' h' m' s' n') (ev : cmpI (pnum y' mo' d' h' m' s' n' - pnum y mo d h m s nn) 0 = 1) (hc : -9000000 ≤ c ∧ c ≤ 9000000) (e0 : Int)
  (kb : Fn 54 [] [ptv y mo d h m s nn, ptv y' mo' d' h' m' s' n', .int .i64 u] (.tuple #[duv A B C D H M S N, .int .i64 e0]))
  (kf : pOk f1 f2 f3 f4 f5 f6 f7) (kt : pOk t1 t2 t3 t4 t5 t6 t7) (km1 : ∀ p : ZQ, Fn 10 [(p, c)] [ptv y mo d h m s nn, zv p, .int .i64 u] (.tuple #[ptv f1 f2 f3 f4 f5 f6 f7, .int .i64 0])) (km2 : ∀ p : ZQ, Fn 10 [(p, c + 1)] [ptv y mo d h m s nn, zv p, .int .i64 u] (.tuple #[ptv t1 t2 t3 t4 t5 t6 t7, .int .i64 0]))
  (hd : 0 < pnum t1 t2 t3 t4 t5 t6 t7 - pnum f1 f2 f3 f4 f5 f6 f7) :
  FnG 45 [] [ptv y mo d h m s nn, ptv y' mo' d' h' m' s' n', .int .i64 u] zzv (fun q => [(q.1, c * (pnum t1 t2 t3 t4 t5 t6 t7 - pnum f1 f2 f3 f4 f5 f6 f7) + 1 * (pnum y' mo' d' h' m' s' n' - pnum f1 f2 f3 f4 f5 f6 f7)), (q.2, pnum t1 t2 t3 t4 t5 t6 t7 - pnum f1 f2 f3 f4 f5 f6 f7)]) := by
 have kr1 := zright7_yes y mo d h m s nn k
 have kr2 := zright7_yes y' mo' d' h' m' s' n' k'
 have kn1 := znanos7 y mo d h m s nn k
 have kn2 := znanos7 y' mo' d' h' m' s' n' k'
 have kn3 := znanos7 f1 f2 f3 f4 f5 f6 f7 kf
 have kn4 := znanos7 t1 t2 t3 t4 t5 t6 t7 kt
 have w1 : W128 (pnum y mo d h m s nn) := by have := pOk_in k; unfold pIn at this; unfold W128; omega
 have w2 : W128 (pnum y' mo' d' h' m' s' n') := by have := pOk_in k'; unfold pIn at this; unfold W128; omega
 have w3 : W128 (pnum f1 f2 f3 f4 f5 f6 f7) := by have := pOk_in kf; unfold pIn at this; unfold W128; omega
 have w4 : W128 (pnum t1 t2 t3 t4 t5 t6 t7) := by have := pOk_in kt; unfold pIn at this; unfold W128; omega
 generalize pnum y mo d h m s nn = p1 at *
 generalize pnum y' mo' d' h' m' s' n' = p2 at *
 generalize pnum f1 f2 f3 f4 f5 f6 f7 = p3 at *
 generalize pnum t1 t2 t3 t4 t5 t6 t7 = p4 at *
 have kr3 : ∀ p : ZQ, Fn 103 [(p, p2 - p1)] [zv p] (.int .i64 1) := fun p => by
  have := fzsign p (p2 - p1) (Bits.fit (Bits.sub w2.bits w1.bits) (by decide)); rwa [ev] at this
 have i1 : I64 c := by unfold I64; omega
 have i2 : I64 (c + 1) := by unfold I64; omega
 have i3 : I64 1 := by unfold I64; omega
 clear k k' ev kf kt
 rcases hu with ⟨rfl, rfl⟩ | ⟨rfl, rfl⟩
 ·refine fnG_of Tryz.func45 rfl fun ww => ?_
  refine qF ent8 (kr1) ?_
  refine qF ent8 (kr2) ?_
  refine qZ ent33 (kn2) fun zq2 => ?_
  refine qZ ent33 (kn1) fun zq3 => ?_
  refine st_g ent38 (fzsub (zq2) (zq3) (p2) (p1) (by exact Bits.fit w2.bits (by decide)) (by exact Bits.fit w1.bits (by decide))) (subC 1 rfl (subC 0 rfl sub0)) (by kernel_rfl) (fun zq4 => ?_)
  refine st_fn ent103 (kr3 (zq4)) (subC 0 rfl sub0) (by kernel_rfl) ?_
  refine qF ent54 (kb) ?_
  refine qZ ent11 (fzint (c) (by assumption)) fun zq7 => ?_
  refine st_fn ent10 (km1 (zq7)) (subC 0 rfl sub0) (by kernel_rfl) ?_
  refine qI 79 (c + 1) ?_
  refine qZ ent11 (fzint (c + 1) (by assumption)) fun zq9 => ?_
  refine st_fn ent10 (km2 (zq9)) (subC 0 rfl sub0) (by kernel_rfl) ?_
  refine qZ ent33 (kn2) fun zq11 => ?_
  refine qZ ent33 (kn3) fun zq12 => ?_
  refine st_g ent38 (fzsub (zq11) (zq12) (p2) (p3) (by exact Bits.fit w2.bits (by decide)) (by exact Bits.fit w3.bits (by decide))) (subC 1 rfl (subC 0 rfl sub0)) (by kernel_rfl) (fun zq13 => ?_)
  refine qZ ent33 (kn4) fun zq14 => ?_
  refine qZ ent33 (kn3) fun zq15 => ?_
  refine st_g ent38 (fzsub (zq14) (zq15) (p4) (p3) (by exact Bits.fit w4.bits (by decide)) (by exact Bits.fit w3.bits (by decide))) (subC 1 rfl (subC 0 rfl sub0)) (by kernel_rfl) (fun zq16 => ?_)
  refine qZ ent11 (fzint (c) (by assumption)) fun zq17 => ?_
  refine st_g ent34 (fzmul (zq17) (zq16) (c) (p4 - p3) (by exact Bits.fit i1.w.bits (by decide)) (by exact Bits.fit (Bits.sub (Bits.mono (l := 128) w4.bits (by decide)) (Bits.mono (l := 128) w3.bits (by decide))) (by decide))) (subC 0 rfl (subC 1 rfl sub0)) (by kernel_rfl) (fun zq18 => ?_)
  refine qZ ent11 (fzint (1) (by assumption)) fun zq19 => ?_
  refine st_g ent34 (fzmul (zq19) (zq13) (1) (p2 - p3) (by exact Bits.fit i3.w.bits (by decide)) (by exact Bits.fit (Bits.sub (Bits.mono (l := 128) w2.bits (by decide)) (Bits.mono (l := 128) w3.bits (by decide))) (by decide))) (subC 0 rfl (subC 6 rfl sub0)) (by kernel_rfl) (fun zq20 => ?_)
  refine st_g ent32 (fzadd (zq18) (zq20) (c * (p4 - p3)) (1 * (p2 - p3)) (by exact Bits.fit (Bits.mul i1.w.bits (Bits.sub (Bits.mono (l := 128) w4.bits (by decide)) (Bits.mono (l := 128) w3.bits (by decide)))) (by decide)) (by exact Bits.fit (Bits.mul i3.w.bits (Bits.sub (Bits.mono (l := 128) w2.bits (by decide)) (Bits.mono (l := 128) w3.bits (by decide)))) (by decide))) (subC 2 rfl (subC 0 rfl sub0)) (by kernel_rfl) (fun zq21 => ?_)
  refine st_know (fun w h => z_neg (q := zq16) (x := p4 - p3) (h (zq16, p4 - p3) (subC 5 rfl sub0 _ (List.mem_singleton.2 rfl)))) fun hk110 => ?_
  have hz110 : (zq16).n = false := by rw [hk110]; exact decide_eq_false (by omega)
  refine qV 110 hz110 ?_
  exact st_retG ((zq21, zq16)) Tryz.func45 (subE 0 rfl (by rfl) (subE 5 rfl (by rfl) sub0)) (by kernel_rfl)
 ·refine fnG_of Tryz.func45 rfl fun ww => ?_
  refine qF ent8 (kr1) ?_
  refine qF ent8 (kr2) ?_
  refine qZ ent33 (kn2) fun zq2 => ?_
  refine qZ ent33 (kn1) fun zq3 => ?_
  refine st_g ent38 (fzsub (zq2) (zq3) (p2) (p1) (by exact Bits.fit w2.bits (by decide)) (by exact Bits.fit w1.bits (by decide))) (subC 1 rfl (subC 0 rfl sub0)) (by kernel_rfl) (fun zq4 => ?_)
  refine st_fn ent103 (kr3 (zq4)) (subC 0 rfl sub0) (by kernel_rfl) ?_
  refine qF ent54 (kb) ?_
  refine qZ ent11 (fzint (c) (by assumption)) fun zq7 => ?_
  refine st_fn ent10 (km1 (zq7)) (subC 0 rfl sub0) (by kernel_rfl) ?_
  refine qI 79 (c + 1) ?_
  refine qZ ent11 (fzint (c + 1) (by assumption)) fun zq9 => ?_
  refine st_fn ent10 (km2 (zq9)) (subC 0 rfl sub0) (by kernel_rfl) ?_
  refine qZ ent33 (kn2) fun zq11 => ?_
  refine qZ ent33 (kn3) fun zq12 => ?_
  refine st_g ent38 (fzsub (zq11) (zq12) (p2) (p3) (by exact Bits.fit w2.bits (by decide)) (by exact Bits.fit w3.bits (by decide))) (subC 1 rfl (subC 0 rfl sub0)) (by kernel_rfl) (fun zq13 => ?_)
  refine qZ ent33 (kn4) fun zq14 => ?_
  refine qZ ent33 (kn3) fun zq15 => ?_
  refine st_g ent38 (fzsub (zq14) (zq15) (p4) (p3) (by exact Bits.fit w4.bits (by decide)) (by exact Bits.fit w3.bits (by decide))) (subC 1 rfl (subC 0 rfl sub0)) (by kernel_rfl) (fun zq16 => ?_)
  refine qZ ent11 (fzint (c) (by assumption)) fun zq17 => ?_
  refine st_g ent34 (fzmul (zq17) (zq16) (c) (p4 - p3) (by exact Bits.fit i1.w.bits (by decide)) (by exact Bits.fit (Bits.sub (Bits.mono (l := 128) w4.bits (by decide)) (Bits.mono (l := 128) w3.bits (by decide))) (by decide))) (subC 0 rfl (subC 1 rfl sub0)) (by kernel_rfl) (fun zq18 => ?_)
  refine qZ ent11 (fzint (1) (by assumption)) fun zq19 => ?_
  refine st_g ent34 (fzmul (zq19) (zq13) (1) (p2 - p3) (by exact Bits.fit i3.w.bits (by decide)) (by exact Bits.fit (Bits.sub (Bits.mono (l := 128) w2.bits (by decide)) (Bits.mono (l := 128) w3.bits (by decide))) (by decide))) (subC 0 rfl (subC 6 rfl sub0)) (by kernel_rfl) (fun zq20 => ?_)
  refine st_g ent32 (fzadd (zq18) (zq20) (c * (p4 - p3)) (1 * (p2 - p3)) (by exact Bits.fit (Bits.mul i1.w.bits (Bits.sub (Bits.mono (l := 128) w4.bits (by decide)) (Bits.mono (l := 128) w3.bits (by decide)))) (by decide)) (by exact Bits.fit (Bits.mul i3.w.bits (Bits.sub (Bits.mono (l := 128) w2.bits (by decide)) (Bits.mono (l := 128) w3.bits (by decide)))) (by decide))) (subC 2 rfl (subC 0 rfl sub0)) (by kernel_rfl) (fun zq21 => ?_)
  refine st_know (fun w h => z_neg (q := zq16) (x := p4 - p3) (h (zq16, p4 - p3) (subC 5 rfl sub0 _ (List.mem_singleton.2 rfl)))) fun hk110 => ?_
  have hz110 : (zq16).n = false := by rw [hk110]; exact decide_eq_false (by omega)
  refine qV 110 hz110 ?_
  exact st_retG ((zq21, zq16)) Tryz.func45 (subE 0 rfl (by rfl) (subE 5 rfl (by rfl) sub0)) (by kernel_rfl)
theorem ztot_n (hu : u = 1 ∧ c = A ∨ u = 2 ∧ c = B) (k : pOk y mo d h m s nn) (k' : pOk y' mo' d' h' m' s' n') (ev : cmpI (pnum y' mo' d' h' m' s' n' - pnum y mo d h m s nn) 0 = -1) (hc : -9000000 ≤ c ∧ c ≤ 9000000) (e0 : Int)
  (kb : Fn 54 [] [ptv y mo d h m s nn, ptv y' mo' d' h' m' s' n', .int .i64 u] (.tuple #[duv A B C D H M S N, .int .i64 e0]))
  (kf : pOk f1 f2 f3 f4 f5 f6 f7) (kt : pOk t1 t2 t3 t4 t5 t6 t7) (km1 : ∀ p : ZQ, Fn 10 [(p, c)] [ptv y mo d h m s nn, zv p, .int .i64 u] (.tuple #[ptv f1 f2 f3 f4 f5 f6 f7, .int .i64 0])) (km2 : ∀ p : ZQ, Fn 10 [(p, c + -1)] [ptv y mo d h m s nn, zv p, .int .i64 u] (.tuple #[ptv t1 t2 t3 t4 t5 t6 t7, .int .i64 0]))
  (hd : pnum t1 t2 t3 t4 t5 t6 t7 - pnum f1 f2 f3 f4 f5 f6 f7 < 0) :
  FnG 45 [] [ptv y mo d h m s nn, ptv y' mo' d' h' m' s' n', .int .i64 u] zzv (fun q => [(q.1, -(c * (pnum t1 t2 t3 t4 t5 t6 t7 - pnum f1 f2 f3 f4 f5 f6 f7) + -1 * (pnum y' mo' d' h' m' s' n' - pnum f1 f2 f3 f4 f5 f6 f7))), (q.2, -(pnum t1 t2 t3 t4 t5 t6 t7 - pnum f1 f2 f3 f4 f5 f6 f7))]) := by
 have kr1 := zright7_yes y mo d h m s nn k
 have kr2 := zright7_yes y' mo' d' h' m' s' n' k'
 have kn1 := znanos7 y mo d h m s nn k
 have kn2 := znanos7 y' mo' d' h' m' s' n' k'
 have kn3 := znanos7 f1 f2 f3 f4 f5 f6 f7 kf
 have kn4 := znanos7 t1 t2 t3 t4 t5 t6 t7 kt
 have w1 : W128 (pnum y mo d h m s nn) := by have := pOk_in k; unfold pIn at this; unfold W128; omega
 have w2 : W128 (pnum y' mo' d' h' m' s' n') := by have := pOk_in k'; unfold pIn at this; unfold W128; omega
 have w3 : W128 (pnum f1 f2 f3 f4 f5 f6 f7) := by have := pOk_in kf; unfold pIn at this; unfold W128; omega
 have w4 : W128 (pnum t1 t2 t3 t4 t5 t6 t7) := by have := pOk_in kt; unfold pIn at this; unfold W128; omega
 generalize pnum y mo d h m s nn = p1 at *
 generalize pnum y' mo' d' h' m' s' n' = p2 at *
 generalize pnum f1 f2 f3 f4 f5 f6 f7 = p3 at *
 generalize pnum t1 t2 t3 t4 t5 t6 t7 = p4 at *
 have kr3 : ∀ p : ZQ, Fn 103 [(p, p2 - p1)] [zv p] (.int .i64 (-1)) := fun p => by
  have := fzsign p (p2 - p1) (Bits.fit (Bits.sub w2.bits w1.bits) (by decide)); rwa [ev] at this
 have i1 : I64 c := by unfold I64; omega
 have i2 : I64 (c + -1) := by unfold I64; omega
 have i3 : I64 (-1) := by unfold I64; omega
 clear k k' ev kf kt
 rcases hu with ⟨rfl, rfl⟩ | ⟨rfl, rfl⟩
 ·refine fnG_of Tryz.func45 rfl fun ww => ?_
  refine qF ent8 (kr1) ?_
  refine qF ent8 (kr2) ?_
  refine qZ ent33 (kn2) fun zq2 => ?_
  refine qZ ent33 (kn1) fun zq3 => ?_
  refine st_g ent38 (fzsub (zq2) (zq3) (p2) (p1) (by exact Bits.fit w2.bits (by decide)) (by exact Bits.fit w1.bits (by decide))) (subC 1 rfl (subC 0 rfl sub0)) (by kernel_rfl) (fun zq4 => ?_)
  refine st_fn ent103 (kr3 (zq4)) (subC 0 rfl sub0) (by kernel_rfl) ?_
  refine qF ent54 (kb) ?_
  refine qZ ent11 (fzint (c) (by assumption)) fun zq7 => ?_
  refine st_fn ent10 (km1 (zq7)) (subC 0 rfl sub0) (by kernel_rfl) ?_
  refine qI 79 (c + -1) ?_
  refine qZ ent11 (fzint (c + -1) (by assumption)) fun zq9 => ?_
  refine st_fn ent10 (km2 (zq9)) (subC 0 rfl sub0) (by kernel_rfl) ?_
  refine qZ ent33 (kn2) fun zq11 => ?_
  refine qZ ent33 (kn3) fun zq12 => ?_
  refine st_g ent38 (fzsub (zq11) (zq12) (p2) (p3) (by exact Bits.fit w2.bits (by decide)) (by exact Bits.fit w3.bits (by decide))) (subC 1 rfl (subC 0 rfl sub0)) (by kernel_rfl) (fun zq13 => ?_)
  refine qZ ent33 (kn4) fun zq14 => ?_
  refine qZ ent33 (kn3) fun zq15 => ?_
  refine st_g ent38 (fzsub (zq14) (zq15) (p4) (p3) (by exact Bits.fit w4.bits (by decide)) (by exact Bits.fit w3.bits (by decide))) (subC 1 rfl (subC 0 rfl sub0)) (by kernel_rfl) (fun zq16 => ?_)
  refine qZ ent11 (fzint (c) (by assumption)) fun zq17 => ?_
  refine st_g ent34 (fzmul (zq17) (zq16) (c) (p4 - p3) (by exact Bits.fit i1.w.bits (by decide)) (by exact Bits.fit (Bits.sub (Bits.mono (l := 128) w4.bits (by decide)) (Bits.mono (l := 128) w3.bits (by decide))) (by decide))) (subC 0 rfl (subC 1 rfl sub0)) (by kernel_rfl) (fun zq18 => ?_)
  refine qZ ent11 (fzint (-1) (by assumption)) fun zq19 => ?_
  refine st_g ent34 (fzmul (zq19) (zq13) (-1) (p2 - p3) (by exact Bits.fit i3.w.bits (by decide)) (by exact Bits.fit (Bits.sub (Bits.mono (l := 128) w2.bits (by decide)) (Bits.mono (l := 128) w3.bits (by decide))) (by decide))) (subC 0 rfl (subC 6 rfl sub0)) (by kernel_rfl) (fun zq20 => ?_)
  refine st_g ent32 (fzadd (zq18) (zq20) (c * (p4 - p3)) (-1 * (p2 - p3)) (by exact Bits.fit (Bits.mul i1.w.bits (Bits.sub (Bits.mono (l := 128) w4.bits (by decide)) (Bits.mono (l := 128) w3.bits (by decide)))) (by decide)) (by exact Bits.fit (Bits.mul i3.w.bits (Bits.sub (Bits.mono (l := 128) w2.bits (by decide)) (Bits.mono (l := 128) w3.bits (by decide)))) (by decide))) (subC 2 rfl (subC 0 rfl sub0)) (by kernel_rfl) (fun zq21 => ?_)
  refine st_know (fun w h => z_neg (q := zq16) (x := p4 - p3) (h (zq16, p4 - p3) (subC 5 rfl sub0 _ (List.mem_singleton.2 rfl)))) fun hk110 => ?_
  have hz110 : (zq16).n = true := by rw [hk110]; exact decide_eq_true (by omega)
  refine qV 110 hz110 ?_
  refine st_g ent88 (fzneg (zq21) (c * (p4 - p3) + -1 * (p2 - p3)) (by exact Bits.fit (Bits.add (Bits.mono (l := 257) (Bits.mul i1.w.bits (Bits.sub (Bits.mono (l := 128) w4.bits (by decide)) (Bits.mono (l := 128) w3.bits (by decide)))) (by decide)) (Bits.mono (l := 257) (Bits.mul i3.w.bits (Bits.sub (Bits.mono (l := 128) w2.bits (by decide)) (Bits.mono (l := 128) w3.bits (by decide)))) (by decide))) (by decide))) (subC 0 rfl sub0) (by kernel_rfl) (fun zq22 => ?_)
  refine st_g ent88 (fzneg (zq16) (p4 - p3) (by exact Bits.fit (Bits.sub (Bits.mono (l := 128) w4.bits (by decide)) (Bits.mono (l := 128) w3.bits (by decide))) (by decide))) (subC 6 rfl sub0) (by kernel_rfl) (fun zq23 => ?_)
  exact st_retG ((zq22, zq23)) Tryz.func45 (subE 1 rfl (by rfl) (subE 0 rfl (by rfl) sub0)) (by kernel_rfl)
 ·refine fnG_of Tryz.func45 rfl fun ww => ?_
  refine qF ent8 (kr1) ?_
  refine qF ent8 (kr2) ?_
  refine qZ ent33 (kn2) fun zq2 => ?_
  refine qZ ent33 (kn1) fun zq3 => ?_
  refine st_g ent38 (fzsub (zq2) (zq3) (p2) (p1) (by exact Bits.fit w2.bits (by decide)) (by exact Bits.fit w1.bits (by decide))) (subC 1 rfl (subC 0 rfl sub0)) (by kernel_rfl) (fun zq4 => ?_)
  refine st_fn ent103 (kr3 (zq4)) (subC 0 rfl sub0) (by kernel_rfl) ?_
  refine qF ent54 (kb) ?_
  refine qZ ent11 (fzint (c) (by assumption)) fun zq7 => ?_
  refine st_fn ent10 (km1 (zq7)) (subC 0 rfl sub0) (by kernel_rfl) ?_
  refine qI 79 (c + -1) ?_
  refine qZ ent11 (fzint (c + -1) (by assumption)) fun zq9 => ?_
  refine st_fn ent10 (km2 (zq9)) (subC 0 rfl sub0) (by kernel_rfl) ?_
  refine qZ ent33 (kn2) fun zq11 => ?_
  refine qZ ent33 (kn3) fun zq12 => ?_
  refine st_g ent38 (fzsub (zq11) (zq12) (p2) (p3) (by exact Bits.fit w2.bits (by decide)) (by exact Bits.fit w3.bits (by decide))) (subC 1 rfl (subC 0 rfl sub0)) (by kernel_rfl) (fun zq13 => ?_)
  refine qZ ent33 (kn4) fun zq14 => ?_
  refine qZ ent33 (kn3) fun zq15 => ?_
  refine st_g ent38 (fzsub (zq14) (zq15) (p4) (p3) (by exact Bits.fit w4.bits (by decide)) (by exact Bits.fit w3.bits (by decide))) (subC 1 rfl (subC 0 rfl sub0)) (by kernel_rfl) (fun zq16 => ?_)
  refine qZ ent11 (fzint (c) (by assumption)) fun zq17 => ?_
  refine st_g ent34 (fzmul (zq17) (zq16) (c) (p4 - p3) (by exact Bits.fit i1.w.bits (by decide)) (by exact Bits.fit (Bits.sub (Bits.mono (l := 128) w4.bits (by decide)) (Bits.mono (l := 128) w3.bits (by decide))) (by decide))) (subC 0 rfl (subC 1 rfl sub0)) (by kernel_rfl) (fun zq18 => ?_)
  refine qZ ent11 (fzint (-1) (by assumption)) fun zq19 => ?_
  refine st_g ent34 (fzmul (zq19) (zq13) (-1) (p2 - p3) (by exact Bits.fit i3.w.bits (by decide)) (by exact Bits.fit (Bits.sub (Bits.mono (l := 128) w2.bits (by decide)) (Bits.mono (l := 128) w3.bits (by decide))) (by decide))) (subC 0 rfl (subC 6 rfl sub0)) (by kernel_rfl) (fun zq20 => ?_)
  refine st_g ent32 (fzadd (zq18) (zq20) (c * (p4 - p3)) (-1 * (p2 - p3)) (by exact Bits.fit (Bits.mul i1.w.bits (Bits.sub (Bits.mono (l := 128) w4.bits (by decide)) (Bits.mono (l := 128) w3.bits (by decide)))) (by decide)) (by exact Bits.fit (Bits.mul i3.w.bits (Bits.sub (Bits.mono (l := 128) w2.bits (by decide)) (Bits.mono (l := 128) w3.bits (by decide)))) (by decide))) (subC 2 rfl (subC 0 rfl sub0)) (by kernel_rfl) (fun zq21 => ?_)
  refine st_know (fun w h => z_neg (q := zq16) (x := p4 - p3) (h (zq16, p4 - p3) (subC 5 rfl sub0 _ (List.mem_singleton.2 rfl)))) fun hk110 => ?_
  have hz110 : (zq16).n = true := by rw [hk110]; exact decide_eq_true (by omega)
  refine qV 110 hz110 ?_
  refine st_g ent88 (fzneg (zq21) (c * (p4 - p3) + -1 * (p2 - p3)) (by exact Bits.fit (Bits.add (Bits.mono (l := 257) (Bits.mul i1.w.bits (Bits.sub (Bits.mono (l := 128) w4.bits (by decide)) (Bits.mono (l := 128) w3.bits (by decide)))) (by decide)) (Bits.mono (l := 257) (Bits.mul i3.w.bits (Bits.sub (Bits.mono (l := 128) w2.bits (by decide)) (Bits.mono (l := 128) w3.bits (by decide)))) (by decide))) (by decide))) (subC 0 rfl sub0) (by kernel_rfl) (fun zq22 => ?_)
  refine st_g ent88 (fzneg (zq16) (p4 - p3) (by exact Bits.fit (Bits.sub (Bits.mono (l := 128) w4.bits (by decide)) (Bits.mono (l := 128) w3.bits (by decide))) (by decide))) (subC 6 rfl sub0) (by kernel_rfl) (fun zq23 => ?_)
  exact st_retG ((zq22, zq23)) Tryz.func45 (subE 1 rfl (by rfl) (subE 0 rfl (by rfl) sub0)) (by kernel_rfl)
end
end Go.Proofs.YthoedmikfpbfnaaGreat
end
section
set_option maxRecDepth 100000
namespace Go.Proofs.YthoedmikfpbfnaaGreat
open Go Go.RowKit Go.Ev

theorem cdn_lt {T1 T2 d : Int} (h : T1 < T2) (d1 : 1 ≤ d) : dnum (lY T1) (lM T1) (cD (lY T1) (lM T1) d) < dnum (lY T2) (lM T2) (cD (lY T2) (lM T2) d) := by
 obtain ⟨a1, a2, a3⟩ := ymi_l T1
 obtain ⟨b1, b2, b3⟩ := ymi_l T2
 refine dnum_lt (cD_in a2 a3 d1) (cD_in b2 b3 d1) ?_
 unfold ymi at a1 b1; omega
theorem cdn_le {T1 T2 d : Int} (h : T1 ≤ T2) (d1 : 1 ≤ d) : dnum (lY T1) (lM T1) (cD (lY T1) (lM T1) d) ≤ dnum (lY T2) (lM T2) (cD (lY T2) (lM T2) d) := by
 rcases Int.lt_or_eq_of_le h with q | q
 ·exact Int.le_of_lt (cdn_lt q d1)
 ·rw [q]; exact Int.le_refl _
theorem cdn_same {y m d : Int} (h : dIn y m d) : dnum (lY (ymi y m)) (lM (ymi y m)) (cD (lY (ymi y m)) (lM (ymi y m)) d) = dnum y m d := by
 rw [(l_ymi h.1 h.2.1).1, (l_ymi h.1 h.2.1).2, cD_same h]
section
variable (y mo d h m s nn a b T : Int)
theorem adm_both (k : pOk y mo d h m s nn) (o : uOk a b 0 0 0 0 0 0) (i : all64 a b 0 0 0 0 0 0) (hT : ymi y mo + (12 * a + b) = T) :
  (pOk (lY T) (lM T) (cD (lY T) (lM T) d) h m s nn ∧ Fn 26 [] [ptv y mo d h m s nn, duv a b 0 0 0 0 0 0, .int .i64 1] (.tuple #[ptv (lY T) (lM T) (cD (lY T) (lM T) d) h m s nn, .int .i64 0]) ∧ Fn 37 [] [ptv y mo d h m s nn, duv a b 0 0 0 0 0 0, .int .i64 1] (.tuple #[ptv (lY T) (lM T) (cD (lY T) (lM T) d) h m s nn, .int .i64 0])) ∨
  (¬ pOk (lY T) (lM T) (cD (lY T) (lM T) d) h m s nn ∧ Fn 26 [] [ptv y mo d h m s nn, duv a b 0 0 0 0 0 0, .int .i64 1] (.tuple #[pt0, .int .i64 4]) ∧ Fn 37 [] [ptv y mo d h m s nn, duv a b 0 0 0 0 0 0, .int .i64 1] (.tuple #[pt0, .int .i64 4])) := by
 obtain ⟨b1, b2, -⟩ := uOk_bd o
 have yy := dOk_year k.1
 have tb := tnan_bd k.2.1
 have z : dtot 0 0 0 0 0 = 0 := rfl
 have hQ : (tnan h m s nn + dtot 0 0 0 0 0).fdiv 86400000000000 = 0 := by rw [z, Int.fdiv_eq_ediv_of_nonneg _ (by omega)]; omega
 have hR : (tnan h m s nn + dtot 0 0 0 0 0).fmod 86400000000000 = tnan h m s nn := by rw [z, Int.fmod_eq_emod_of_nonneg _ (by omega)]; omega
 have hT' := hT
 unfold ymi at hT'
 have lc := clater y mo d (12 * a + b) T (by omega) (by omega) (by omega) k.1.1.1 k.1.1.2.1 (by omega) (by omega)
 have lz := zlater y mo d a b T (by omega) (by omega) (by omega) k.1.1.1 k.1.1.2.1 (by omega) (by omega) (by omega) (by omega)
 obtain ⟨r1, r2, r3, r4⟩ := t_tnan k.2.1
 by_cases q : dOk (lY T) (lM T) (cD (lY T) (lM T) d)
 ·have mv := cmoved_c y mo d (12 * a + b) (0 + 7 * 0 + 0) T (dnum (lY T) (lM T) (cD (lY T) (lM T) d)) hT (by omega) (by omega) k.1.1.1 k.1.1.2.1 (by omega) (by omega) k.1.1.2.2.1 q (by omega) q.2.1 q.2.2
  rw [(date_of q.1).1, (date_of q.1).2.1, (date_of q.1).2.2] at mv
  have za := zaddd_yes (lY T) (lM T) (cD (lY T) (lM T) d) (0 + 7 * 0 + 0) q (by have := q.2; omega) (by have := q.2; omega)
  rw [show dnum (lY T) (lM T) (cD (lY T) (lM T) d) + (0 + 7 * 0 + 0) = dnum (lY T) (lM T) (cD (lY T) (lM T) d) by omega, (date_of q.1).1, (date_of q.1).2.1, (date_of q.1).2.2] at za
  have zm := zmov_v a b 0 0 0 0 0 0 y mo d 0 1 T _ _ _ 0 _ _ _ (by omega) (by omega) (by omega) lz (zreg_cy (lY T) (lM T) d (ymi_l T).2.1 (ymi_l T).2.2 k.1.1.2.2.1 q) za
  by_cases p : pOk (lY T) (lM T) (cD (lY T) (lM T) d) h m s nn
  ·refine .inl ⟨p, ?_, ?_⟩
   ·have := cad_y y mo d h m s nn a b 0 0 0 0 0 0 1 _ _ _ 0 (tnan h m s nn) i k o (.inl rfl) hQ hR (by omega) mv (by rw [r1, r2, r3, r4]; exact p)
    rw [r1, r2, r3, r4] at this
    exact this
   ·have := zad_y y mo d h m s nn a b 0 0 0 0 0 0 1 _ _ _ 0 (tnan h m s nn) i k o (.inl rfl) hQ hR zm (by rw [r1, r2, r3, r4]; exact p)
    rw [r1, r2, r3, r4] at this
    exact this
  ·exact .inr ⟨p, cad_n y mo d h m s nn a b 0 0 0 0 0 0 1 _ _ _ 0 (tnan h m s nn) i k o (.inl rfl) hQ hR (by omega) mv (by rw [r1, r2, r3, r4]; exact p), zad_n y mo d h m s nn a b 0 0 0 0 0 0 1 _ _ _ 0 (tnan h m s nn) i k o (.inl rfl) hQ hR zm (by rw [r1, r2, r3, r4]; exact p)⟩
 ·refine .inr ⟨fun p => q p.1, ?_, ?_⟩
  ·exact cad_e y mo d h m s nn a b 0 0 0 0 0 0 1 4 0 (tnan h m s nn) i k o (.inl rfl) hQ hR (by omega) (cmov_e y mo d (0 + 7 * 0 + 0) T 1 (12 * a + b) 4 lc (creg_cn (lY T) (lM T) d (ymi_l T).2.1 (ymi_l T).2.2 k.1.1.2.2.1 q) (by decide)) (by decide)
  ·exact zad_e y mo d h m s nn a b 0 0 0 0 0 0 1 4 0 (tnan h m s nn) i k o (.inl rfl) hQ hR (zmov_e a b 0 0 0 0 0 0 y mo d 0 1 T 4 lz (zreg_cn (lY T) (lM T) d (ymi_l T).2.1 (ymi_l T).2.2 k.1.1.2.2.1 q) (by decide)) (by decide)
variable (u c : Int)
def um (u : Int) : Int := if u = 1 then 12 else 1
theorem mvm_both (hu : u = 1 ∨ u = 2) (k : pOk y mo d h m s nn) (r : -4294967295 ≤ c ∧ c ≤ 4294967295) (hT : ymi y mo + um u * c = T) :
  (pOk (lY T) (lM T) (cD (lY T) (lM T) d) h m s nn ∧ Fn 7 [] [ptv y mo d h m s nn, .int .i64 c, .int .i64 u] (.tuple #[ptv (lY T) (lM T) (cD (lY T) (lM T) d) h m s nn, .int .i64 0]) ∧ ∀ p : ZQ, Fn 10 [(p, c)] [ptv y mo d h m s nn, zv p, .int .i64 u] (.tuple #[ptv (lY T) (lM T) (cD (lY T) (lM T) d) h m s nn, .int .i64 0])) ∨
  (¬ pOk (lY T) (lM T) (cD (lY T) (lM T) d) h m s nn ∧ Fn 7 [] [ptv y mo d h m s nn, .int .i64 c, .int .i64 u] (.tuple #[pt0, .int .i64 4]) ∧ ∀ p : ZQ, Fn 10 [(p, c)] [ptv y mo d h m s nn, zv p, .int .i64 u] (.tuple #[pt0, .int .i64 4])) := by
 rcases hu with rfl | rfl
 ·obtain ⟨o, i⟩ := uOk_y c r
  have hT' : ymi y mo + (12 * c + 0) = T := by rw [← hT]; show _ = ymi y mo + 12 * c; omega
  rcases adm_both y mo d h m s nn c 0 T k o i hT' with ⟨p, a1, a2⟩ | ⟨p, a1, a2⟩
  ·exact .inl ⟨p, rmov_1 c y mo d h m s nn _ _ _ _ _ _ _ 0 k r a1, fun q => zmv_1 y mo d h m s nn c _ _ _ _ _ _ _ 0 q r a2⟩
  ·exact .inr ⟨p, rmov_1 c y mo d h m s nn _ _ _ _ _ _ _ 4 k r a1, fun q => zmv_1 y mo d h m s nn c _ _ _ _ _ _ _ 4 q r a2⟩
 ·obtain ⟨o, i⟩ := uOk_m c r
  have hT' : ymi y mo + (12 * 0 + c) = T := by rw [← hT]; show _ = ymi y mo + 1 * c; omega
  rcases adm_both y mo d h m s nn 0 c T k o i hT' with ⟨p, a1, a2⟩ | ⟨p, a1, a2⟩
  ·exact .inl ⟨p, rmov_2 c y mo d h m s nn _ _ _ _ _ _ _ 0 k r a1, fun q => zmv_2 y mo d h m s nn c _ _ _ _ _ _ _ 0 q r a2⟩
  ·exact .inr ⟨p, rmov_2 c y mo d h m s nn _ _ _ _ _ _ _ 4 k r a1, fun q => zmv_2 y mo d h m s nn c _ _ _ _ _ _ _ 4 q r a2⟩
end
section
variable (y mo d h m s n y' mo' d' h' m' s' n' u E Z : Int)
def uc (u y mo d y' mo' d' : Int) : Int := if u = 1 then uY u y mo d y' mo' d' else uMo u y mo d y' mo' d'
theorem tot_from (hu : u = 1 ∨ u = 2) (k : pOk y mo d h m s n) (k' : pOk y' mo' d' h' m' s' n') (hE : bD y mo d h m s n y' mo' d' h' m' s' n' = E) (hZ : bZ y mo d h m s n y' mo' d' h' m' s' n' = Z) (c T v : Int) (hc : uc u y mo d (dY E) (dM E) (dD E) = c) (hT : ymi y mo + um u * c = T)
  (hv : v = 1 ∨ v = -1) (ev : cmpI (pnum y' mo' d' h' m' s' n' - pnum y mo d h m s n) 0 = v) :
  pOk (lY T) (lM T) (cD (lY T) (lM T) d) h m s n ∧ 0 ≤ v * c ∧ 0 ≤ v * (pnum y' mo' d' h' m' s' n' - pnum (lY T) (lM T) (cD (lY T) (lM T) d) h m s n) ∧ (-9000000 ≤ c ∧ c ≤ 9000000) ∧ (c = 0 → pnum (lY T) (lM T) (cD (lY T) (lM T) d) h m s n = pnum y mo d h m s n) := by
 obtain ⟨i1, i2, i3, i4, -⟩ := bt_in k k'
 obtain ⟨d1, d2⟩ := bt_date k k'
 rw [hE] at i1 d1 d2 i3 i4
 rw [hZ] at i2 i3 i4
 have l1 : 1 ≤ u := by omega
 have l2 : u ≤ 4 := by omega
 obtain ⟨c1, c2, -, -, b5, -⟩ := uv_bd k.1 d1 l1 l2
 obtain ⟨u1, u2⟩ := until_back k.1 d1 l1 l2
 have sn := uS_num k.1.1 d1.1
 rw [d2] at sn u2
 have tr : cmpI E (dnum y mo d) = 1 ∧ dnum y mo d < E ∨ cmpI E (dnum y mo d) = 0 ∧ E = dnum y mo d ∨ cmpI E (dnum y mo d) = -1 ∧ E < dnum y mo d := by
  unfold cmpI; split <;> (try split) <;> omega
 rw [sn] at b5
 have w0 : uW u y mo d (dY E) (dM E) (dD E) = 0 := by unfold uW; rw [if_neg (by omega)]
 -- the months to which all years and months lead
 obtain ⟨TN, hTN⟩ : ∃ TN, ymi y mo + (12 * uY u y mo d (dY E) (dM E) (dD E) + uMo u y mo d (dY E) (dM E) (dD E)) = TN := ⟨_, rfl⟩
 rw [hTN] at u1 u2
 have hM : um u * c = 12 * uY u y mo d (dY E) (dM E) (dD E) ∧ u = 1 ∧ c = uY u y mo d (dY E) (dM E) (dD E) ∨ um u * c = uMo u y mo d (dY E) (dM E) (dD E) ∧ uY u y mo d (dY E) (dM E) (dD E) = 0 ∧ c = uMo u y mo d (dY E) (dM E) (dD E) := by
  rcases hu with rfl | rfl
  ·left; refine ⟨by rw [← hc]; rfl, rfl, by rw [← hc]; rfl⟩
  ·right; refine ⟨by rw [← hc]; show 1 * uMo 2 y mo d (dY E) (dM E) (dD E) = _; omega, rfl, by rw [← hc]; rfl⟩
 have s0 := cdn_same k.1.1
 have d01 := k.1.1.2.2.1
 have le1 : T ≤ TN → dnum (lY T) (lM T) (cD (lY T) (lM T) d) ≤ dnum (lY TN) (lM TN) (cD (lY TN) (lM TN) d) := fun q => cdn_le q d01
 have le2 : TN ≤ T → dnum (lY TN) (lM TN) (cD (lY TN) (lM TN) d) ≤ dnum (lY T) (lM T) (cD (lY T) (lM T) d) := fun q => cdn_le q d01
 have le3 : T ≤ ymi y mo → dnum (lY T) (lM T) (cD (lY T) (lM T) d) ≤ dnum y mo d := fun q => by have := cdn_le q d01; rwa [s0] at this
 have le4 : ymi y mo ≤ T → dnum y mo d ≤ dnum (lY T) (lM T) (cD (lY T) (lM T) d) := fun q => by have := cdn_le q d01; rwa [s0] at this
 have din := cD_in (y := lY T) (d := d) (ymi_l T).2.1 (ymi_l T).2.2 d01
 have pa := pOk_in k
 have pb := pOk_in k'
 have tb := tnan_bd k.2.1
 have k3 := k.2.2
 have kd := k.1.2
 have e1 : pnum (lY T) (lM T) (cD (lY T) (lM T) d) h m s n = dnum (lY T) (lM T) (cD (lY T) (lM T) d) * 86400000000000 + tnan h m s n := rfl
 have e2 : pnum y mo d h m s n = dnum y mo d * 86400000000000 + tnan h m s n := rfl
 rw [e1]
 have cv : cmpI (pnum y' mo' d' h' m' s' n' - pnum y mo d h m s n) 0 = 1 ∧ 0 < pnum y' mo' d' h' m' s' n' - pnum y mo d h m s n ∨ cmpI (pnum y' mo' d' h' m' s' n' - pnum y mo d h m s n) 0 = -1 ∧ pnum y' mo' d' h' m' s' n' - pnum y mo d h m s n < 0 ∨ cmpI (pnum y' mo' d' h' m' s' n' - pnum y mo d h m s n) 0 = 0 := by
  unfold cmpI; split <;> (try split) <;> omega
 rw [ev] at cv
 unfold pIn at pa pb
 generalize uY u y mo d (dY E) (dM E) (dD E) = A at *
 generalize uMo u y mo d (dY E) (dM E) (dD E) = B at *
 generalize uW u y mo d (dY E) (dM E) (dD E) = C at *
 generalize uD u y mo d (dY E) (dM E) (dD E) = D at *
 generalize pnum y' mo' d' h' m' s' n' = p' at *
 generalize pnum y mo d h m s n = p at *
 generalize dnum (lY TN) (lM TN) (cD (lY TN) (lM TN) d) = FN at *
 generalize cmpI E (dnum y mo d) = w at *
 generalize uS y mo d y' mo' d' = w' at *
 have core : (v = 1 ∧ dnum y mo d ≤ dnum (lY T) (lM T) (cD (lY T) (lM T) d) ∧ dnum (lY T) (lM T) (cD (lY T) (lM T) d) ≤ E ∧ 0 ≤ Z ∧ 0 ≤ c) ∨ (v = -1 ∧ E ≤ dnum (lY T) (lM T) (cD (lY T) (lM T) d) ∧ dnum (lY T) (lM T) (cD (lY T) (lM T) d) ≤ dnum y mo d ∧ Z ≤ 0 ∧ c ≤ 0) := by
  generalize dnum (lY T) (lM T) (cD (lY T) (lM T) d) = F at *
  generalize dnum y mo d = f at *
  have hz : (v = 1 → f ≤ E ∧ 0 ≤ Z) ∧ (v = -1 → E ≤ f ∧ Z ≤ 0) := by
   constructor
   ·intro q; rcases i4 with j | j | j <;> omega
   ·intro q; rcases i4 with j | j | j <;> omega
  rcases hv with rfl | rfl
  ·left
   obtain ⟨q1, q2⟩ := hz.1 rfl
   have ab : 0 ≤ A ∧ 0 ≤ B ∧ 0 ≤ D := by rcases b5 with j | j | j <;> omega
   have cc : 0 ≤ c ∧ 0 ≤ um u * c ∧ um u * c ≤ 12 * A + B := by rcases hM with j | j <;> omega
   generalize um u * c = q at *
   have g1 := le4 (by omega)
   have g2 := le1 (by omega)
   omega
  ·right
   obtain ⟨q1, q2⟩ := hz.2 rfl
   have ab : A ≤ 0 ∧ B ≤ 0 ∧ D ≤ 0 := by rcases b5 with j | j | j <;> omega
   have cc : c ≤ 0 ∧ um u * c ≤ 0 ∧ 12 * A + B ≤ um u * c := by rcases hM with j | j <;> omega
   generalize um u * c = q at *
   have g1 := le3 (by omega)
   have g2 := le2 (by omega)
   omega
 have cb : -9000000 ≤ c ∧ c ≤ 9000000 := by rcases hM with j | j <;> omega
 have cz : c = 0 → dnum (lY T) (lM T) (cD (lY T) (lM T) d) = dnum y mo d := fun q => by
  rw [q, Int.mul_zero] at hT
  have := le3 (by omega)
  have := le4 (by omega)
  omega
 refine ⟨⟨⟨din, by omega, by omega⟩, k.2.1, fun q => ?_⟩, by rcases core with ⟨rfl, j⟩ | ⟨rfl, j⟩ <;> omega, by rcases core with ⟨rfl, j⟩ | ⟨rfl, j⟩ <;> omega, cb, fun q => by have := cz q; omega⟩
 rcases core with ⟨rfl, j⟩ | ⟨rfl, j⟩
 ·exact k3 ⟨by omega, q.2⟩
 ·omega
end
end Go.Proofs.YthoedmikfpbfnaaGreat
end
section
set_option maxRecDepth 100000
namespace Go.Proofs.YthoedmikfpbfnaaGreat
open Go Go.RowKit Go.Ev

theorem fr_le (n d : Int) : -(n.natAbs : Int) ≤ frP n d ∧ frP n d ≤ n.natAbs ∧ 0 ≤ frQ n d ∧ frQ n d ≤ d.natAbs := by
 unfold frP frQ wsg
 have h1 := Nat.div_le_self n.natAbs (Nat.gcd n.natAbs d.natAbs)
 have h2 := Nat.div_le_self d.natAbs (Nat.gcd n.natAbs d.natAbs)
 generalize n.natAbs / Nat.gcd n.natAbs d.natAbs = X at *
 generalize d.natAbs / Nat.gcd n.natAbs d.natAbs = Y at *
 split <;> omega
theorem fr_neg (n d : Int) (h0 : d ≠ 0) : frP (-n) (-d) = frP n d ∧ frQ (-n) (-d) = frQ n d := by
 unfold frP frQ
 rw [Int.natAbs_neg, Int.natAbs_neg]
 refine ⟨?_, rfl⟩
 by_cases z : n = 0
 ·subst z
  unfold wsg
  simp
 ·have e1 : decide (-n < 0) = !decide (n < 0) := by
   by_cases q : n < 0
   ·rw [decide_eq_true q, decide_eq_false (by omega)]; rfl
   ·rw [decide_eq_false q, decide_eq_true (by omega)]; rfl
  have e2 : decide (-d < 0) = !decide (d < 0) := by
   by_cases q : d < 0
   ·rw [decide_eq_true q, decide_eq_false (by omega)]; rfl
   ·rw [decide_eq_false q, decide_eq_true (by omega)]; rfl
  rw [e1, e2]
  cases decide (n < 0) <;> cases decide (d < 0) <;> rfl
theorem mul_bd {c d C D : Int} (hc : -C ≤ c ∧ c ≤ C) (hd : -D ≤ d ∧ d ≤ D) : -(C * D) ≤ c * d ∧ c * d ≤ C * D := by
 have h1 : c.natAbs ≤ C.toNat := by omega
 have h2 : d.natAbs ≤ D.toNat := by omega
 have h3 := Nat.mul_le_mul h1 h2
 rw [← Int.natAbs_mul] at h3
 have h4 : ((C.toNat * D.toNat : Nat) : Int) = C * D := by
  rw [Int.natCast_mul, Int.toNat_of_nonneg (by omega), Int.toNat_of_nonneg (by omega)]
 omega
theorem fr_okS {x z : Int} (h0 : z ≠ 0) (hx : -1000000000000000000000000000000000000 ≤ x ∧ x ≤ 1000000000000000000000000000000000000) (hz : -1000000000000000000000000000000000000 ≤ z ∧ z ≤ 1000000000000000000000000000000000000) : fOk x z := by
 have := fr_le x z
 exact ⟨h0, by unfold W128; omega, by unfold W128; omega⟩
section
variable (y mo d h m s n y' mo' d' h' m' s' n' u : Int)
theorem tot_all (k : pOk y mo d h m s n) (k' : pOk y' mo' d' h' m' s' n') (l1 : 1 ≤ u) (l8 : u ≤ 8) (W : Int) (hW : pnum y' mo' d' h' m' s' n' - pnum y mo d h m s n = W) :
  (∃ x z : Int, 0 < z ∧ z ≤ 20000000000000000000000 ∧ (-400000000000000000000000000000 ≤ x ∧ x ≤ 400000000000000000000000000000) ∧ cmpI x 0 = cmpI W 0 ∧ (3 ≤ u → x = W ∧ z = rlen u) ∧ (u ≤ 2 → -(1000000000 * z) ≤ x ∧ x ≤ 1000000000 * z) ∧
   Fn 12 [] [ptv y mo d h m s n, ptv y' mo' d' h' m' s' n', .int .i64 u] (.tuple #[wv (frP x z), wv (frQ x z), .int .i64 0]) ∧ FnG 45 [] [ptv y mo d h m s n, ptv y' mo' d' h' m' s' n', .int .i64 u] zzv (fun q => [(q.1, x), (q.2, z)])) ∨
  (u ≤ 2 ∧ Fn 12 [] [ptv y mo d h m s n, ptv y' mo' d' h' m' s' n', .int .i64 u] (.tuple #[wz, wz, .int .i64 4]) ∧ Fn 45 [] [ptv y mo d h m s n, ptv y' mo' d' h' m' s' n', .int .i64 u] (.tuple #[zz0, zz0, .int .i64 4])) := by
 have pa := pOk_in k
 have pb := pOk_in k'
 have wW : -17280000172800000000000 < W ∧ W < 17280000172800000000000 := by unfold pIn at pa pb; omega
 by_cases hu : 3 ≤ u
 ·have rl := rlen_in hu l8
  have fk := fr_okS (x := W) (z := rlen u) (by omega) (by omega) (by omega)
  refine .inl ⟨W, rlen u, by omega, by omega, by omega, rfl, fun _ => ⟨rfl, rfl⟩, fun q => by omega, ?_, ztot_d y mo d h m s n y' mo' d' h' m' s' n' u W k k' hu l8 hW⟩
  exact rtot_d u y mo d h m s n y' mo' d' h' m' s' n' k k' hu l8 _ _ 0 (by rw [hW]; exact frac_k W (rlen u) (by unfold W128; omega) (by unfold W128; omega) fk)
 ·have hu2 : u = 1 ∨ u = 2 := by omega
  obtain ⟨E, hE⟩ : ∃ E, bD y mo d h m s n y' mo' d' h' m' s' n' = E := ⟨_, rfl⟩
  obtain ⟨Z, hZ⟩ : ∃ Z, bZ y mo d h m s n y' mo' d' h' m' s' n' = Z := ⟨_, rfl⟩
  have kb := cbet y mo d h m s n y' mo' d' h' m' s' n' u E Z k k' l1 (by omega) hE hZ
  have zb := zbet y mo d h m s n y' mo' d' h' m' s' n' u E Z k k' l1 (by omega) hE hZ
  obtain ⟨d1, d2⟩ := bt_date k k'
  rw [hE] at d1
  obtain ⟨c1, c2, -⟩ := uv_bd k.1 d1 l1 (show u ≤ 4 by omega)
  by_cases w0 : W = 0
  ·subst w0
   refine .inl ⟨0, 1, by omega, by omega, by omega, rfl, fun q => absurd q hu, fun _ => by omega, ?_, ztot_0 y mo d h m s n y' mo' d' h' m' s' n' u hu2 k k' hW⟩
   exact rtot_0 y mo d h m s n y' mo' d' h' m' s' n' _ _ _ _ _ _ _ _ _ u hu2 k k' hW (by omega) (by omega) kb
  ·obtain ⟨v, hv, ev⟩ : ∃ v, (v = 1 ∨ v = -1) ∧ cmpI W 0 = v := by
    rcases Int.lt_trichotomy W 0 with q | q | q
    ·exact ⟨-1, .inr rfl, cmpI_lt q⟩
    ·exact absurd q w0
    ·exact ⟨1, .inl rfl, cmpI_gt q⟩
   obtain ⟨c, hc⟩ : ∃ c, uc u y mo d (dY E) (dM E) (dD E) = c := ⟨_, rfl⟩
   obtain ⟨T, hT⟩ : ∃ T, ymi y mo + um u * c = T := ⟨_, rfl⟩
   obtain ⟨T', hT'⟩ : ∃ T', ymi y mo + um u * (c + v) = T' := ⟨_, rfl⟩
   have ev' := ev
   rw [← hW] at ev'
   obtain ⟨pf, s1, s2, cb, cz⟩ := tot_from y mo d h m s n y' mo' d' h' m' s' n' u E Z hu2 k k' hE hZ c T v hc hT hv ev'
   have hcu : u = 1 ∧ c = uY u y mo d (dY E) (dM E) (dD E) ∨ u = 2 ∧ c = uMo u y mo d (dY E) (dM E) (dD E) := by
    rcases hu2 with rfl | rfl
    ·exact .inl ⟨rfl, hc.symm⟩
    ·exact .inr ⟨rfl, hc.symm⟩
   have hcu2 : u = 1 ∧ c = uY u y mo d (dY E) (dM E) (dD E) ∨ u = 2 ∧ c = uY u y mo d (dY E) (dM E) (dD E) + uMo u y mo d (dY E) (dM E) (dD E) := by
    rcases hu2 with rfl | rfl
    ·exact .inl ⟨rfl, hc.symm⟩
    ·refine .inr ⟨rfl, ?_⟩
     rw [show uY 2 y mo d (dY E) (dM E) (dD E) = 0 from rfl, Int.zero_add]; exact hc.symm
   have umv : (um u = 12 ∨ um u = 1) := by
    rcases hu2 with rfl | rfl
    ·exact .inl rfl
    ·exact .inr rfl
   rcases mvm_both y mo d h m s n T u c hu2 k (by omega) hT with ⟨-, f1, f2⟩ | ⟨np, -, -⟩
   ·rcases mvm_both y mo d h m s n T' u (c + v) hu2 k (by omega) hT' with ⟨pt, t1, t2⟩ | ⟨-, t1, t2⟩
    ·-- both are there
     have pfi := pOk_in pf
     have pti := pOk_in pt
     have dd : 86400000000000 ≤ v * (pnum (lY T') (lM T') (cD (lY T') (lM T') d) h m s n - pnum (lY T) (lM T) (cD (lY T) (lM T) d) h m s n) := by
      have e1 : pnum (lY T') (lM T') (cD (lY T') (lM T') d) h m s n = dnum (lY T') (lM T') (cD (lY T') (lM T') d) * 86400000000000 + tnan h m s n := rfl
      have e2 : pnum (lY T) (lM T) (cD (lY T) (lM T) d) h m s n = dnum (lY T) (lM T) (cD (lY T) (lM T) d) * 86400000000000 + tnan h m s n := rfl
      have d01 := k.1.1.2.2.1
      rw [e1, e2]
      rcases hv with rfl | rfl
      ·have : T < T' := by rcases umv with q | q <;> rw [q] at hT hT' <;> omega
       have := cdn_lt this d01
       omega
      ·have : T' < T := by rcases umv with q | q <;> rw [q] at hT hT' <;> omega
       have := cdn_lt this d01
       omega
     have ks1 := psince_yes _ _ _ _ _ _ _ y' mo' d' h' m' s' n' pf k'
     have ks2 := psince_yes _ _ _ _ _ _ _ _ _ _ _ _ _ _ pf pt
     have zp := fun (e1 : v = 1) => ztot_p y mo d h m s n y' mo' d' h' m' s' n' u _ _ _ _ _ _ _ _ c (lY T) (lM T) (cD (lY T) (lM T) d) h m s n (lY T') (lM T') (cD (lY T') (lM T') d) h m s n hcu k k' (by rw [ev', e1]) cb 0 zb pf pt f2 (by rw [← e1]; exact t2)
     have zn := fun (e1 : v = -1) => ztot_n y mo d h m s n y' mo' d' h' m' s' n' u _ _ _ _ _ _ _ _ c (lY T) (lM T) (cD (lY T) (lM T) d) h m s n (lY T') (lM T') (cD (lY T') (lM T') d) h m s n hcu k k' (by rw [ev', e1]) cb 0 zb pf pt f2 (by rw [← e1]; exact t2)
     have rm := fun p q x2 w2 x3 => rtot_m y mo d h m s n y' mo' d' h' m' s' n' _ _ _ _ _ _ _ _ 0 v c (lY T) (lM T) (cD (lY T) (lM T) d) h m s n (lY T') (lM T') (cD (lY T') (lM T') d) h m s n _ _ x2 w2 x3 p q 0 u hcu2 k k' hv ev' (by omega) (by omega) kb f1 t1 ks1 ks2
     have hXW : c = 0 → pnum y' mo' d' h' m' s' n' - pnum (lY T) (lM T) (cD (lY T) (lM T) d) h m s n = W := fun q => by have := cz q; omega
     generalize pnum (lY T) (lM T) (cD (lY T) (lM T) d) h m s n = a at *
     generalize pnum (lY T') (lM T') (cD (lY T') (lM T') d) h m s n = b at *
     have hz : -17280000172800000000000 ≤ b - a ∧ b - a ≤ 17280000172800000000000 := by unfold pIn at pfi pti; omega
     have hx : -17280000172800000000000 ≤ pnum y' mo' d' h' m' s' n' - a ∧ pnum y' mo' d' h' m' s' n' - a ≤ 17280000172800000000000 := by unfold pIn at pfi pb; omega
     generalize pnum y' mo' d' h' m' s' n' - a = X at *
     generalize b - a = D at *
     have md := mul_bd cb hz
     rw [show (9000000 : Int) * 17280000172800000000000 = 155520001555200000000000000000 by decide] at md
     have md2 : -(9000000 * (v * D)) ≤ c * D ∧ c * D ≤ 9000000 * (v * D) := mul_bd cb (by rcases hv with rfl | rfl <;> omega)
     have comm : D * c = c * D := Int.mul_comm _ _
     have vX : X * v = v * X := Int.mul_comm _ _
     have sgn : 0 < c * D + v * X := by
      have vc : v * c * (v * D) = c * D := by
       rcases hv with rfl | rfl
       ·rw [Int.one_mul, Int.one_mul]
       ·rw [Int.neg_mul, Int.neg_mul, Int.one_mul, Int.neg_mul, Int.one_mul, Int.mul_neg, Int.neg_neg]
      rcases Int.lt_or_eq_of_le s1 with q | q
      ·have := Int.mul_pos q (show 0 < v * D by omega)
       rw [vc] at this
       omega
      ·have c0 : c = 0 := by rcases hv with rfl | rfl <;> omega
       have e1 := hXW c0
       have vW : 0 < v * W := by
        rcases hv with rfl | rfl
        ·have := cmpI_p.1 ev; omega
        ·have := cmpI_n.1 ev; omega
       rw [c0, Int.zero_mul, e1]; omega
     have wX : W128 X := by unfold W128; omega
     have wD : W128 D := by unfold W128; omega
     have ic : I64 c := by unfold I64; omega
     rcases hv with rfl | rfl
     ·have e3 : D * c + X * 1 = c * D + 1 * X := by rw [comm]; omega
      have fk := fr_okS (x := c * D + 1 * X) (z := D) (by omega) (by omega) (by omega)
      refine .inl ⟨c * D + 1 * X, D, by omega, by omega, by omega, by rw [ev]; exact cmpI_gt (by omega), fun q => absurd q hu, fun _ => by omega, ?_, zp rfl (by omega)⟩
      exact rm _ _ (X * 1) (D * c) (c * D + 1 * X) (wtimes_f X 1 wX (by unfold I64; omega) (by unfold W128; omega)) (wtimes_f D c wD ic (by rw [comm]; unfold W128; omega)) (by rw [← e3]; exact wadd_yes (D * c) (X * 1) (by rw [comm]; unfold W128; omega) (by unfold W128; omega) (by rw [e3]; unfold W128; omega)) (frac_k _ _ (by unfold W128; omega) wD fk)
     ·have e3 : D * c + X * -1 = c * D + -1 * X := by rw [comm]; omega
      have fk := fr_okS (x := c * D + -1 * X) (z := D) (by omega) (by omega) (by omega)
      obtain ⟨n1, n2⟩ := fr_neg (c * D + -1 * X) D (by omega)
      refine .inl ⟨-(c * D + -1 * X), -D, by omega, by omega, by omega, by rw [ev]; exact cmpI_lt (by omega), fun q => absurd q hu, fun _ => by omega, ?_, zn rfl (by omega)⟩
      rw [n1, n2]
      exact rm _ _ (X * -1) (D * c) (c * D + -1 * X) (wtimes_f X (-1) wX (by unfold I64; omega) (by unfold W128; omega)) (wtimes_f D c wD ic (by rw [comm]; unfold W128; omega)) (by rw [← e3]; exact wadd_yes (D * c) (X * -1) (by rw [comm]; unfold W128; omega) (by unfold W128; omega) (by rw [e3]; unfold W128; omega)) (frac_k _ _ (by unfold W128; omega) wD fk)
    ·exact .inr ⟨by omega, rtot_e y mo d h m s n y' mo' d' h' m' s' n' _ _ _ _ _ _ _ _ 0 v c _ _ _ _ _ _ _ 0 0 0 0 0 0 0 0 4 u hcu2 k k' hv ev' (by omega) (by omega) kb f1 t1 (by decide), ztot_e y mo d h m s n y' mo' d' h' m' s' n' u _ _ _ _ _ _ _ _ v c _ _ _ _ _ _ _ 0 0 0 0 0 0 0 4 hcu k k' hv ev' cb 0 0 zb f2 t2 (by decide)⟩
   ·exact absurd pf np
end
end Go.Proofs.YthoedmikfpbfnaaGreat
end
section
set_option maxRecDepth 100000
namespace Go.Proofs.YthoedmikfpbfnaaGreat
open Go Go.RowKit Go.Ev

section
variable (y mo d h m s n y' mo' d' h' m' s' n' L u i md : Int)
theorem zr_a (k : ¬ (pOk y mo d h m s n ∧ pOk y' mo' d' h' m' s' n' ∧ 1 ≤ L ∧ u ≤ 8 ∧ L ≤ u ∧ 1 ≤ md ∧ md ≤ 9)) : Fn 15 [] [ptv y mo d h m s n, ptv y' mo' d' h' m' s' n', .int .i64 L, .int .i64 u, .int .i64 i, .int .i64 md] (.tuple #[du0, .int .i64 1]) := by
 by_cases k1 : pOk y mo d h m s n
 ·have kr1 := zright7_yes y mo d h m s n k1
  by_cases k2 : pOk y' mo' d' h' m' s' n'
  ·have kr2 := zright7_yes y' mo' d' h' m' s' n' k2
   have k3 : ¬ (1 ≤ L ∧ u ≤ 8 ∧ L ≤ u ∧ 1 ≤ md ∧ md ≤ 9) := fun q => k ⟨k1, k2, q⟩
   clear k k1 k2
   by_cases q1 : L < 1
   ·clear k3
    refine fn_of Tryz.func15 rfl fun ww => ?_
    refine qF ent8 (kr1) ?_
    refine qF ent8 (kr2) ?_
    refine qY 31 (decide (L < 1)) ?_
    exact qR Tryz.func15
   ·by_cases q2 : 8 < u
    ·clear k3
     refine fn_of Tryz.func15 rfl fun ww => ?_
     refine qF ent8 (kr1) ?_
     refine qF ent8 (kr2) ?_
     refine qN 31 (decide (L < 1)) ?_
     refine qY 35 (decide (u > 8)) ?_
     exact qR Tryz.func15
    ·by_cases q3 : u < L
     ·clear k3
      refine fn_of Tryz.func15 rfl fun ww => ?_
      refine qF ent8 (kr1) ?_
      refine qF ent8 (kr2) ?_
      refine qN 31 (decide (L < 1)) ?_
      refine qN 35 (decide (u > 8)) ?_
      refine qY 40 (decide (L > u)) ?_
      exact qR Tryz.func15
     ·by_cases q4 : md < 1
      ·clear k3
       refine fn_of Tryz.func15 rfl fun ww => ?_
       refine qF ent8 (kr1) ?_
       refine qF ent8 (kr2) ?_
       refine qN 31 (decide (L < 1)) ?_
       refine qN 35 (decide (u > 8)) ?_
       refine qN 40 (decide (L > u)) ?_
       refine qY 44 (decide (md < 1)) ?_
       exact qR Tryz.func15
      ·have q5 : 9 < md := by omega
       clear k3
       refine fn_of Tryz.func15 rfl fun ww => ?_
       refine qF ent8 (kr1) ?_
       refine qF ent8 (kr2) ?_
       refine qN 31 (decide (L < 1)) ?_
       refine qN 35 (decide (u > 8)) ?_
       refine qN 40 (decide (L > u)) ?_
       refine qN 44 (decide (md < 1)) ?_
       refine qY 48 (decide (md > 9)) ?_
       exact qR Tryz.func15
  ·have kr2 := zright7_no y' mo' d' h' m' s' n' k2
   clear k k1 k2
   refine fn_of Tryz.func15 rfl fun ww => ?_
   refine qF ent8 (kr1) ?_
   refine qF ent8 (kr2) ?_
   exact qR Tryz.func15
 ·have kr1 := zright7_no y mo d h m s n k1
  clear k k1
  refine fn_of Tryz.func15 rfl fun ww => ?_
  refine qF ent8 (kr1) ?_
  exact qR Tryz.func15
variable (k : pOk y mo d h m s n) (k' : pOk y' mo' d' h' m' s' n') (l1 : 1 ≤ L) (l2 : u ≤ 8) (l3 : L ≤ u) (m1 : 1 ≤ md) (m2 : md ≤ 9)
include k k' l1 l2 l3 m1 m2
theorem zr_i (q : ¬ (u ≤ 4 ∧ 1 ≤ i ∧ i ≤ 1000000000 ∨ 4 < u ∧ incOk u i)) : Fn 15 [] [ptv y mo d h m s n, ptv y' mo' d' h' m' s' n', .int .i64 L, .int .i64 u, .int .i64 i, .int .i64 md] (.tuple #[du0, .int .i64 1]) := by
 have kr1 := zright7_yes y mo d h m s n k
 have kr2 := zright7_yes y' mo' d' h' m' s' n' k'
 clear k k'
 by_cases q0 : u ≤ 4
 ·by_cases q1 : i < 1
  ·clear q
   refine fn_of Tryz.func15 rfl fun ww => ?_
   refine qF ent8 (kr1) ?_
   refine qF ent8 (kr2) ?_
   refine qN 31 (decide (L < 1)) ?_
   refine qN 35 (decide (u > 8)) ?_
   refine qN 40 (decide (L > u)) ?_
   refine qN 44 (decide (md < 1)) ?_
   refine qN 48 (decide (md > 9)) ?_
   refine qY 52 (decide (u ≤ 4)) ?_
   refine qY 55 (decide (i < 1)) ?_
   exact qR Tryz.func15
  ·have q2 : 1000000000 < i := by
    rcases Int.lt_or_le 1000000000 i with w | w
    ·exact w
    ·exact absurd (.inl ⟨q0, by omega, w⟩) q
   clear q
   refine fn_of Tryz.func15 rfl fun ww => ?_
   refine qF ent8 (kr1) ?_
   refine qF ent8 (kr2) ?_
   refine qN 31 (decide (L < 1)) ?_
   refine qN 35 (decide (u > 8)) ?_
   refine qN 40 (decide (L > u)) ?_
   refine qN 44 (decide (md < 1)) ?_
   refine qN 48 (decide (md > 9)) ?_
   refine qY 52 (decide (u ≤ 4)) ?_
   refine qN 55 (decide (i < 1)) ?_
   refine qY 58 (decide (i > 1000000000)) ?_
   exact qR Tryz.func15
 ·have kr3 := zuinc u i
  rw [decide_eq_false (show ¬ incOk u i from fun w => q (.inr ⟨by omega, w⟩))] at kr3
  clear q
  refine fn_of Tryz.func15 rfl fun ww => ?_
  refine qF ent8 (kr1) ?_
  refine qF ent8 (kr2) ?_
  refine qN 31 (decide (L < 1)) ?_
  refine qN 35 (decide (u > 8)) ?_
  refine qN 40 (decide (L > u)) ?_
  refine qN 44 (decide (md < 1)) ?_
  refine qN 48 (decide (md > 9)) ?_
  refine qN 52 (decide (u ≤ 4)) ?_
  refine qY 63 (decide (u > 4)) ?_
  refine qF ent52 (kr3) ?_
  exact qR Tryz.func15
variable (e A B C D H M S N x z t1 t2 t3 t4 t5 t6 t7 : Int) (q : u ≤ 4 ∧ 1 ≤ i ∧ i ≤ 1000000000 ∨ 4 < u ∧ incOk u i)
include q
theorem zr_e (kt : Fn 45 [] [ptv y mo d h m s n, ptv y' mo' d' h' m' s' n', .int .i64 u] (.tuple #[zz0, zz0, .int .i64 e])) (he : e ≠ 0) : Fn 15 [] [ptv y mo d h m s n, ptv y' mo' d' h' m' s' n', .int .i64 L, .int .i64 u, .int .i64 i, .int .i64 md] (.tuple #[du0, .int .i64 e]) := by
 have kr1 := zright7_yes y mo d h m s n k
 have kr2 := zright7_yes y' mo' d' h' m' s' n' k'
 clear k k'
 rcases q with ⟨q1, q2, q3⟩ | ⟨q1, q2⟩
 ·refine fn_of Tryz.func15 rfl fun ww => ?_
  refine qF ent8 (kr1) ?_
  refine qF ent8 (kr2) ?_
  refine qN 31 (decide (L < 1)) ?_
  refine qN 35 (decide (u > 8)) ?_
  refine qN 40 (decide (L > u)) ?_
  refine qN 44 (decide (md < 1)) ?_
  refine qN 48 (decide (md > 9)) ?_
  refine qY 52 (decide (u ≤ 4)) ?_
  refine qN 55 (decide (i < 1)) ?_
  refine qN 58 (decide (i > 1000000000)) ?_
  refine qN 63 (decide (u > 4)) ?_
  refine qF ent45 (kt) ?_
  refine qV 81 (show (e != 0) = true by exact bne_iff_ne.2 (by omega)) ?_
  exact qR Tryz.func15
 ·have kr3 := zuinc u i
  rw [decide_eq_true q2] at kr3
  clear q2
  refine fn_of Tryz.func15 rfl fun ww => ?_
  refine qF ent8 (kr1) ?_
  refine qF ent8 (kr2) ?_
  refine qN 31 (decide (L < 1)) ?_
  refine qN 35 (decide (u > 8)) ?_
  refine qN 40 (decide (L > u)) ?_
  refine qN 44 (decide (md < 1)) ?_
  refine qN 48 (decide (md > 9)) ?_
  refine qN 52 (decide (u ≤ 4)) ?_
  refine qY 63 (decide (u > 4)) ?_
  refine qF ent52 (kr3) ?_
  refine qF ent45 (kt) ?_
  refine qV 81 (show (e != 0) = true by exact bne_iff_ne.2 (by omega)) ?_
  exact qR Tryz.func15
theorem zr_v (hi64 : I64 i) (hi1 : 1 ≤ i) (kt : FnG 45 [] [ptv y mo d h m s n, ptv y' mo' d' h' m' s' n', .int .i64 u] zzv (fun q => [(q.1, x), (q.2, z)])) (hx : Bits 200 x) (hz : Bits 90 z) (b1 : Bits 200 (z * i)) (h0 : 0 < z * i) (w : Int) (hw : nearQ x (z * i) md = w)
  (km : ∀ p : ZQ, Fn 10 [(p, w * i)] [ptv y mo d h m s n, zv p, .int .i64 u] (.tuple #[ptv t1 t2 t3 t4 t5 t6 t7, .int .i64 0])) (kb : Fn 54 [] [ptv y mo d h m s n, ptv t1 t2 t3 t4 t5 t6 t7, .int .i64 L] (.tuple #[duv A B C D H M S N, .int .i64 e])) :
  Fn 15 [] [ptv y mo d h m s n, ptv y' mo' d' h' m' s' n', .int .i64 L, .int .i64 u, .int .i64 i, .int .i64 md] (.tuple #[duv A B C D H M S N, .int .i64 e]) := by
 have kr1 := zright7_yes y mo d h m s n k
 have kr2 := zright7_yes y' mo' d' h' m' s' n' k'
 have kn : ∀ p q : ZQ, FnZ 53 [(p, x), (q, z * i)] [zv p, zv q, .int .i64 md] (fun z => .tuple #[zv z, .bool true]) w := fun p q => by have := near_ok p q x (z * i) md hx b1 h0 m1 m2; rwa [hw] at this
 have bw : Bits 202 w := by rw [← hw]; exact nearQ_bits hx h0
 clear k k' hw
 rcases q with ⟨q1, q2, q3⟩ | ⟨q1, q2⟩
 ·refine fn_of Tryz.func15 rfl fun ww => ?_
  refine qF ent8 (kr1) ?_
  refine qF ent8 (kr2) ?_
  refine qN 31 (decide (L < 1)) ?_
  refine qN 35 (decide (u > 8)) ?_
  refine qN 40 (decide (L > u)) ?_
  refine qN 44 (decide (md < 1)) ?_
  refine qN 48 (decide (md > 9)) ?_
  refine qY 52 (decide (u ≤ 4)) ?_
  refine qN 55 (decide (i < 1)) ?_
  refine qN 58 (decide (i > 1000000000)) ?_
  refine qN 63 (decide (u > 4)) ?_
  refine qZ ent45 (kt) fun zq2 => ?_
  refine qZ ent11 (fzint (i) (by assumption)) fun zq3 => ?_
  refine st_g ent34 (fzmul (zq2.snd) (zq3) (z) (i) (by exact Bits.fit hz (by decide)) (by exact Bits.fit hi64.w.bits (by decide))) (subC 2 rfl (subC 0 rfl sub0)) (by kernel_rfl) (fun zq4 => ?_)
  refine st_g ent53 (kn (zq2.fst) (zq4)) (subC 2 rfl (subC 0 rfl sub0)) (by kernel_rfl) (fun zq5 => ?_)
  refine qZ ent11 (fzint (i) (by assumption)) fun zq6 => ?_
  refine st_g ent34 (fzmul (zq5) (zq6) (w) (i) (by exact Bits.fit bw (by decide)) (by exact Bits.fit hi64.w.bits (by decide))) (subC 1 rfl (subC 0 rfl sub0)) (by kernel_rfl) (fun zq7 => ?_)
  refine st_fn ent10 (km (zq7)) (subC 0 rfl sub0) (by kernel_rfl) ?_
  refine qF ent54 (kb) ?_
  exact qR Tryz.func15
 ·have kr3 := zuinc u i
  rw [decide_eq_true q2] at kr3
  clear q2
  refine fn_of Tryz.func15 rfl fun ww => ?_
  refine qF ent8 (kr1) ?_
  refine qF ent8 (kr2) ?_
  refine qN 31 (decide (L < 1)) ?_
  refine qN 35 (decide (u > 8)) ?_
  refine qN 40 (decide (L > u)) ?_
  refine qN 44 (decide (md < 1)) ?_
  refine qN 48 (decide (md > 9)) ?_
  refine qN 52 (decide (u ≤ 4)) ?_
  refine qY 63 (decide (u > 4)) ?_
  refine qF ent52 (kr3) ?_
  refine qZ ent45 (kt) fun zq3 => ?_
  refine qZ ent11 (fzint (i) (by assumption)) fun zq4 => ?_
  refine st_g ent34 (fzmul (zq3.snd) (zq4) (z) (i) (by exact Bits.fit hz (by decide)) (by exact Bits.fit hi64.w.bits (by decide))) (subC 2 rfl (subC 0 rfl sub0)) (by kernel_rfl) (fun zq5 => ?_)
  refine st_g ent53 (kn (zq3.fst) (zq5)) (subC 2 rfl (subC 0 rfl sub0)) (by kernel_rfl) (fun zq6 => ?_)
  refine qZ ent11 (fzint (i) (by assumption)) fun zq7 => ?_
  refine st_g ent34 (fzmul (zq6) (zq7) (w) (i) (by exact Bits.fit bw (by decide)) (by exact Bits.fit hi64.w.bits (by decide))) (subC 1 rfl (subC 0 rfl sub0)) (by kernel_rfl) (fun zq8 => ?_)
  refine st_fn ent10 (km (zq8)) (subC 0 rfl sub0) (by kernel_rfl) ?_
  refine qF ent54 (kb) ?_
  exact qR Tryz.func15
theorem zr_m (hi64 : I64 i) (hi1 : 1 ≤ i) (kt : FnG 45 [] [ptv y mo d h m s n, ptv y' mo' d' h' m' s' n', .int .i64 u] zzv (fun q => [(q.1, x), (q.2, z)])) (hx : Bits 200 x) (hz : Bits 90 z) (b1 : Bits 200 (z * i)) (h0 : 0 < z * i) (w : Int) (hw : nearQ x (z * i) md = w)
  (km : ∀ p : ZQ, Fn 10 [(p, w * i)] [ptv y mo d h m s n, zv p, .int .i64 u] (.tuple #[ptv t1 t2 t3 t4 t5 t6 t7, .int .i64 e])) (he : e ≠ 0) :
  Fn 15 [] [ptv y mo d h m s n, ptv y' mo' d' h' m' s' n', .int .i64 L, .int .i64 u, .int .i64 i, .int .i64 md] (.tuple #[du0, .int .i64 4]) := by
 have kr1 := zright7_yes y mo d h m s n k
 have kr2 := zright7_yes y' mo' d' h' m' s' n' k'
 have kn : ∀ p q : ZQ, FnZ 53 [(p, x), (q, z * i)] [zv p, zv q, .int .i64 md] (fun z => .tuple #[zv z, .bool true]) w := fun p q => by have := near_ok p q x (z * i) md hx b1 h0 m1 m2; rwa [hw] at this
 have bw : Bits 202 w := by rw [← hw]; exact nearQ_bits hx h0
 clear k k' hw
 rcases q with ⟨q1, q2, q3⟩ | ⟨q1, q2⟩
 ·refine fn_of Tryz.func15 rfl fun ww => ?_
  refine qF ent8 (kr1) ?_
  refine qF ent8 (kr2) ?_
  refine qN 31 (decide (L < 1)) ?_
  refine qN 35 (decide (u > 8)) ?_
  refine qN 40 (decide (L > u)) ?_
  refine qN 44 (decide (md < 1)) ?_
  refine qN 48 (decide (md > 9)) ?_
  refine qY 52 (decide (u ≤ 4)) ?_
  refine qN 55 (decide (i < 1)) ?_
  refine qN 58 (decide (i > 1000000000)) ?_
  refine qN 63 (decide (u > 4)) ?_
  refine qZ ent45 (kt) fun zq2 => ?_
  refine qZ ent11 (fzint (i) (by assumption)) fun zq3 => ?_
  refine st_g ent34 (fzmul (zq2.snd) (zq3) (z) (i) (by exact Bits.fit hz (by decide)) (by exact Bits.fit hi64.w.bits (by decide))) (subC 2 rfl (subC 0 rfl sub0)) (by kernel_rfl) (fun zq4 => ?_)
  refine st_g ent53 (kn (zq2.fst) (zq4)) (subC 2 rfl (subC 0 rfl sub0)) (by kernel_rfl) (fun zq5 => ?_)
  refine qZ ent11 (fzint (i) (by assumption)) fun zq6 => ?_
  refine st_g ent34 (fzmul (zq5) (zq6) (w) (i) (by exact Bits.fit bw (by decide)) (by exact Bits.fit hi64.w.bits (by decide))) (subC 1 rfl (subC 0 rfl sub0)) (by kernel_rfl) (fun zq7 => ?_)
  refine st_fn ent10 (km (zq7)) (subC 0 rfl sub0) (by kernel_rfl) ?_
  refine qV 105 (show (e != 0) = true by exact bne_iff_ne.2 (by omega)) ?_
  exact qR Tryz.func15
 ·have kr3 := zuinc u i
  rw [decide_eq_true q2] at kr3
  clear q2
  refine fn_of Tryz.func15 rfl fun ww => ?_
  refine qF ent8 (kr1) ?_
  refine qF ent8 (kr2) ?_
  refine qN 31 (decide (L < 1)) ?_
  refine qN 35 (decide (u > 8)) ?_
  refine qN 40 (decide (L > u)) ?_
  refine qN 44 (decide (md < 1)) ?_
  refine qN 48 (decide (md > 9)) ?_
  refine qN 52 (decide (u ≤ 4)) ?_
  refine qY 63 (decide (u > 4)) ?_
  refine qF ent52 (kr3) ?_
  refine qZ ent45 (kt) fun zq3 => ?_
  refine qZ ent11 (fzint (i) (by assumption)) fun zq4 => ?_
  refine st_g ent34 (fzmul (zq3.snd) (zq4) (z) (i) (by exact Bits.fit hz (by decide)) (by exact Bits.fit hi64.w.bits (by decide))) (subC 2 rfl (subC 0 rfl sub0)) (by kernel_rfl) (fun zq5 => ?_)
  refine st_g ent53 (kn (zq3.fst) (zq5)) (subC 2 rfl (subC 0 rfl sub0)) (by kernel_rfl) (fun zq6 => ?_)
  refine qZ ent11 (fzint (i) (by assumption)) fun zq7 => ?_
  refine st_g ent34 (fzmul (zq6) (zq7) (w) (i) (by exact Bits.fit bw (by decide)) (by exact Bits.fit hi64.w.bits (by decide))) (subC 1 rfl (subC 0 rfl sub0)) (by kernel_rfl) (fun zq8 => ?_)
  refine st_fn ent10 (km (zq8)) (subC 0 rfl sub0) (by kernel_rfl) ?_
  refine qV 105 (show (e != 0) = true by exact bne_iff_ne.2 (by omega)) ?_
  exact qR Tryz.func15
omit k k' l1 l2 l3 m1 m2 q
theorem rrounds_v (kr : Fn 14 [] [ptv y mo d h m s n, ptv y' mo' d' h' m' s' n', .int .i64 L, .int .i64 u, .int .i64 i, .int .i64 md] (.tuple #[duv A B C D H M S N, .int .i64 e])) (kz : Fn 15 [] [ptv y mo d h m s n, ptv y' mo' d' h' m' s' n', .int .i64 L, .int .i64 u, .int .i64 i, .int .i64 md] (.tuple #[duv A B C D H M S N, .int .i64 e])) :
  Fn 5 [] [ptv y mo d h m s n, ptv y' mo' d' h' m' s' n', .agg #[.int .i64 L, .int .i64 u, .int .i64 i, .int .i64 md]] (.bool true) := by
 refine fn_of Tryz.func5 rfl fun ww => ?_
 refine qF ent14 (kr) ?_
 refine qF ent15 (kz) ?_
 refine qF ent9 (alive20) ?_
 refine qV 43 (show (A == A && (B == B && (C == C && (D == D && (H == H && (M == M && (S == S && (N == N && true)))))))) = true by simp_all) ?_
 exact st_retv Tryz.func5 (show Value.bool (e == e) = _ by simp) (by kernel_rfl)
end
end Go.Proofs.YthoedmikfpbfnaaGreat
end
section
set_option maxRecDepth 100000
namespace Go.Proofs.YthoedmikfpbfnaaGreat
open Go Go.RowKit Go.Ev

def incR (u i : Int) : Prop := u ≤ 4 ∧ 1 ≤ i ∧ i ≤ 1000000000 ∨ 4 < u ∧ incOk u i
theorem incR_in {u i : Int} (h : incR u i) : 1 ≤ i ∧ i ≤ 1000000000 := by
 unfold incR incOk at h; omega
theorem rinc_y {u i : Int} (h : incR u i) : Fn 48 [] [.int .i64 u, .int .i64 i] (.bool true) := by
 rcases h with ⟨q, r⟩ | ⟨q, r⟩
 ·have := rinc_c u i q; rwa [decide_eq_true r] at this
 ·have := rinc_t u i q; rwa [decide_eq_true r] at this
theorem rinc_n {u i : Int} (h : ¬ incR u i) : Fn 48 [] [.int .i64 u, .int .i64 i] (.bool false) := by
 by_cases q : u ≤ 4
 ·have := rinc_c u i q; rwa [decide_eq_false (fun r => h (.inl ⟨q, r⟩))] at this
 ·have := rinc_t u i (by omega); rwa [decide_eq_false (fun r => h (.inr ⟨by omega, r⟩))] at this
theorem fr_g (x : Int) {z : Int} (h0 : 0 < z) : ∃ g : Int, 0 < g ∧ x = g * frP x z ∧ z = g * frQ x z ∧ 0 < frQ x z := by
 obtain ⟨G, X, Y, hG, g0, e1, e2, y0, p, q⟩ := fr_scale x (show z ≠ 0 by omega)
 rw [p, q, decide_eq_false (show ¬ z < 0 by omega)]
 have e1' : (x.natAbs : Int) = G * X := by rw [e1, Int.natCast_mul]
 have e2' : (z.natAbs : Int) = G * Y := by rw [e2, Int.natCast_mul]
 refine ⟨G, by omega, ?_, by omega, by omega⟩
 unfold wsg
 by_cases n : x < 0
 ·rw [decide_eq_true n, if_pos (by rfl), Int.mul_neg]; omega
 ·rw [decide_eq_false n, if_neg (by decide)]; omega
theorem abs_le_mul {q y : Int} (h : 1 ≤ q) : y.natAbs ≤ (q * y).natAbs := by
 rw [Int.natAbs_mul]; exact Nat.le_mul_of_pos_left _ (by omega)
section
variable (y mo d h m s n y' mo' d' h' m' s' n' L u i md : Int)
theorem rr_bad (k : ¬ (pOk y mo d h m s n ∧ pOk y' mo' d' h' m' s' n' ∧ 1 ≤ L ∧ u ≤ 8 ∧ L ≤ u ∧ 1 ≤ md ∧ md ≤ 9)) : Fn 14 [] [ptv y mo d h m s n, ptv y' mo' d' h' m' s' n', .int .i64 L, .int .i64 u, .int .i64 i, .int .i64 md] (.tuple #[du0, .int .i64 1]) := by
 by_cases q1 : 1 ≤ L ∧ L ≤ 8
 ·by_cases q2 : 1 ≤ u ∧ u ≤ 8
  ·by_cases q3 : L ≤ u
   ·by_cases q4 : incR u i
    ·by_cases q5 : 1 ≤ md ∧ md ≤ 9
     ·exact rrnd_e i y mo d h m s n y' mo' d' h' m' s' n' L u md 1 q1.1 q3 q2.2 (rinc_y q4) q5.1 q5.2 (rtot_a u y mo d h m s n y' mo' d' h' m' s' n' (fun q => k ⟨q.1, q.2.1, q1.1, q2.2, q3, q5⟩)) (by decide)
     ·exact rrnd_m i y mo d h m s n y' mo' d' h' m' s' n' L u md q1.1 q3 q2.2 (rinc_y q4) (by omega)
    ·exact rrnd_i i y mo d h m s n y' mo' d' h' m' s' n' L u md q1.1 q3 q2.2 (rinc_n q4)
   ·exact rrnd_o i y mo d h m s n y' mo' d' h' m' s' n' L u md q1.1 (by omega) q2.1 q1.2
  ·exact rrnd_s i y mo d h m s n y' mo' d' h' m' s' n' L u md q1.1 q1.2 (by omega)
 ·exact rrnd_l i y mo d h m s n y' mo' d' h' m' s' n' L u md (by omega)
theorem rr_both : ∃ A B C D H M S N e : Int, Fn 14 [] [ptv y mo d h m s n, ptv y' mo' d' h' m' s' n', .int .i64 L, .int .i64 u, .int .i64 i, .int .i64 md] (.tuple #[duv A B C D H M S N, .int .i64 e]) ∧ Fn 15 [] [ptv y mo d h m s n, ptv y' mo' d' h' m' s' n', .int .i64 L, .int .i64 u, .int .i64 i, .int .i64 md] (.tuple #[duv A B C D H M S N, .int .i64 e]) := by
 by_cases k : pOk y mo d h m s n ∧ pOk y' mo' d' h' m' s' n' ∧ 1 ≤ L ∧ u ≤ 8 ∧ L ≤ u ∧ 1 ≤ md ∧ md ≤ 9
 ·obtain ⟨k1, k2, l1, l2, l3, m1, m2⟩ := k
  by_cases q : incR u i
  ·obtain ⟨i0, i9⟩ := incR_in q
   have hi : I64 i := by unfold I64; omega
   rcases tot_all y mo d h m s n y' mo' d' h' m' s' n' u k1 k2 (by omega) l2 _ rfl with ⟨x, z, z0, z1, x1, -, hxz, hsm, r1, r2⟩ | ⟨-, r1, r2⟩
   ·obtain ⟨g, g0, ex, ez, q0⟩ := fr_g x z0
    have fl := fr_le x z
    have qz : frQ x z ≤ z := by omega
    obtain ⟨p, hp⟩ : ∃ p, frP x z = p := ⟨_, rfl⟩
    obtain ⟨r, hr⟩ : ∃ r, frQ x z = r := ⟨_, rfl⟩
    rw [hp, hr] at r1 fl
    rw [hr] at ez q0 qz
    rw [hp] at ex
    have wp : W128 p := by unfold W128; omega
    have wr : W128 r := by unfold W128; omega
    have ri := mul_bd (c := r) (d := i) (C := 20000000000000000000000) (D := 1000000000) (by omega) (by omega)
    rw [show (20000000000000000000000 : Int) * 1000000000 = 20000000000000000000000000000000 by decide] at ri
    have ri0 : 0 < r * i := Int.mul_pos q0 (by omega)
    have zi0 : 0 < z * i := Int.mul_pos z0 (by omega)
    have wri : W128 (r * i) := by unfold W128; omega
    obtain ⟨w, hw⟩ : ∃ w, nearQ p (r * i) md = w := ⟨_, rfl⟩
    have hw2 : nearQ x (z * i) md = w := by rw [← hw, ex, ez, Int.mul_assoc]; exact nearQ_scale g0 ri0
    have n1 := (nearQ_near (w := p) (d := r * i) (mode := md) ri0 m1 m2).1
    have n2 := (nearQ_near (w := x) (d := z * i) (mode := md) zi0 m1 m2).1
    rw [hw] at n1
    rw [hw2] at n2
    have a1 := abs_le_mul (q := r * i) (y := w) (by omega)
    have a2 := abs_le_mul (q := r) (y := w * i) (by omega)
    have e1 : r * (w * i) = r * i * w := by rw [Int.mul_comm w i, Int.mul_assoc]
    rw [e1] at a2
    have ww : W128 w := by unfold W128; omega
    obtain ⟨X, hX⟩ : ∃ X, w * i = X := ⟨_, rfl⟩
    have wX : W128 X := by rw [hX] at a2; unfold W128; omega
    have kt1 := wtimes_f r i wr hi wri
    have kr := ratio20 p (r * i) md w wp wri (fr_okS (by omega) (by omega) (by omega)) m1 m2 (by rw [show nN p (r * i) = p from if_neg (by omega), show nD (r * i) = r * i from if_neg (by omega)]; exact hw) ww
    have kt2 := wtimes_f w i ww hi (by rw [hX]; exact wX)
    rw [hX] at kt2
    have bx : Bits 200 x := Bits.mono (show W128 x by unfold W128; omega).bits (by decide)
    have bz : Bits 90 z := by
     have : z.natAbs < 2 ^ 90 := by omega
     unfold Bits; omega
    have zi9 := mul_bd (c := z) (d := i) (C := 20000000000000000000000) (D := 1000000000) (by omega) (by omega)
    rw [show (20000000000000000000000 : Int) * 1000000000 = 20000000000000000000000000000000 by decide] at zi9
    have bzi : Bits 200 (z * i) := Bits.mono (show W128 (z * i) by unfold W128; omega).bits (by decide)
    by_cases iX : I64 X
    ·obtain ⟨A, B, C, H, M, S, N, e, he, -, mp, mr⟩ := mov20both y mo d h m s n X u k1 (by omega) l2 iX
     rcases he with rfl | rfl
     ·obtain ⟨A2, B2, C2, D2, H2, M2, S2, N2, e2, b1, b2⟩ := bet_both y mo d h m s n A B C H M S N L
      exact ⟨_, _, _, _, _, _, _, _, _, rrnd_v i y mo d h m s n y' mo' d' h' m' s' n' L u md e2 _ _ _ _ _ _ _ _ p r (r * i) w X A B C H M S N l1 l3 l2 (rinc_y q) m1 m2 r1 kt1 kr kt2 (wint_f X iX) mp b1,
       zr_v y mo d h m s n y' mo' d' h' m' s' n' L u i md k1 k2 l1 l2 l3 m1 m2 e2 _ _ _ _ _ _ _ _ x z A B C H M S N q hi i0 r2 bx bz bzi zi0 w hw2 (by rw [hX]; exact mr) b2⟩
     ·exact ⟨_, _, _, _, _, _, _, _, _, rrnd_ve i y mo d h m s n y' mo' d' h' m' s' n' L u md 4 p r (r * i) w X A B C H M S N l1 l3 l2 (rinc_y q) m1 m2 r1 kt1 kr kt2 (wint_f X iX) mp (by decide),
       zr_m y mo d h m s n y' mo' d' h' m' s' n' L u i md k1 k2 l1 l2 l3 m1 m2 4 x z A B C H M S N q hi i0 r2 bx bz bzi zi0 w hw2 (by rw [hX]; exact mr) (by decide)⟩
    ·have e3 : z * i * w = z * X := by rw [← hX, Int.mul_comm w i, Int.mul_assoc]
     rw [e3] at n2
     have zi := mul_bd (c := z) (d := i) (C := z) (D := 1000000000) (by omega) (by omega)
     have u3 : 3 ≤ u := by
      rcases Int.lt_or_le u 3 with w3 | w3
      ·exfalso
       have sm := hsm (by omega)
       have b1 : z * X < z * 2000000001 := by omega
       have b2 : z * (-2000000001) < z * X := by omega
       have c1 := Int.lt_of_mul_lt_mul_left b1 (by omega)
       have c2 := Int.lt_of_mul_lt_mul_left b2 (by omega)
       exact iX (by unfold I64; omega)
      ·exact w3
     obtain ⟨xe, ze⟩ := hxz u3
     have rl := rlen_in u3 l2
     have zX : X * rlen u = z * X := by rw [ze, Int.mul_comm]
     have wP : W128 (X * rlen u) := by rw [zX]; unfold W128; omega
     have ho := wtimes_f X (rlen u) wX (by unfold I64; omega) wP
     have bX : Bits 200 X := wX.bits.mono (by decide)
     by_cases l : pIn (pnum y mo d h m s n + X * rlen u)
     ·obtain ⟨A2, B2, C2, D2, H2, M2, S2, N2, e2, b1, b2⟩ := bet_both y mo d h m s n _ _ _ _ _ _ _ L
      exact ⟨_, _, _, _, _, _, _, _, _, rrnd_f i y mo d h m s n y' mo' d' h' m' s' n' L u md e2 _ _ _ _ _ _ _ _ p r (r * i) w X l1 l3 l2 (rinc_y q) m1 m2 r1 kt1 kr kt2 (wint_n X iX) (rfar_y y mo d h m s n L u e2 _ _ _ _ _ _ _ _ _ X _ _ _ _ _ _ _ ho (padd_yes y mo d h m s n (X * rlen u) k1 wP l) b1),
       zr_v y mo d h m s n y' mo' d' h' m' s' n' L u i md k1 k2 l1 l2 l3 m1 m2 e2 _ _ _ _ _ _ _ _ x z _ _ _ _ _ _ _ q hi i0 r2 bx bz bzi zi0 w hw2 (fun pq => by rw [hX]; exact zmv_y y mo d h m s n X u pq u3 l2 k1 bX l) b2⟩
     ·exact ⟨_, _, _, _, _, _, _, _, _, rrnd_f i y mo d h m s n y' mo' d' h' m' s' n' L u md 4 0 0 0 0 0 0 0 0 p r (r * i) w X l1 l3 l2 (rinc_y q) m1 m2 r1 kt1 kr kt2 (wint_n X iX) (rfar_n y mo d h m s n L u 4 _ X _ _ _ _ _ _ _ ho (padd_no y mo d h m s n (X * rlen u) k1 wP l) (by decide)),
       zr_m y mo d h m s n y' mo' d' h' m' s' n' L u i md k1 k2 l1 l2 l3 m1 m2 4 x z _ _ _ _ _ _ _ q hi i0 r2 bx bz bzi zi0 w hw2 (fun pq => by rw [hX]; exact zmv_n y mo d h m s n X u pq u3 l2 k1 bX l) (by decide)⟩
   ·exact ⟨_, _, _, _, _, _, _, _, _, rrnd_e i y mo d h m s n y' mo' d' h' m' s' n' L u md 4 l1 l3 l2 (rinc_y q) m1 m2 r1 (by decide), zr_e y mo d h m s n y' mo' d' h' m' s' n' L u i md k1 k2 l1 l2 l3 m1 m2 4 q r2 (by decide)⟩
  ·exact ⟨_, _, _, _, _, _, _, _, _, rrnd_i i y mo d h m s n y' mo' d' h' m' s' n' L u md l1 l3 l2 (rinc_n q), zr_i y mo d h m s n y' mo' d' h' m' s' n' L u i md k1 k2 l1 l2 l3 m1 m2 q⟩
 ·exact ⟨_, _, _, _, _, _, _, _, _, rr_bad y mo d h m s n y' mo' d' h' m' s' n' L u i md k, zr_a y mo d h m s n y' mo' d' h' m' s' n' L u i md k⟩
theorem law_rrounds (W : World) : Calls Tryz.prog 5 #[ptv y mo d h m s n, ptv y' mo' d' h' m' s' n', .agg #[.int .i64 L, .int .i64 u, .int .i64 i, .int .i64 md]] W (fun e w' => e = .returned (.bool true) ∧ Ext W w') := by
 obtain ⟨A, B, C, D, H, M, S, N, e, h1, h2⟩ := rr_both y mo d h m s n y' mo' d' h' m' s' n' L u i md
 exact rrounds_v y mo d h m s n y' mo' d' h' m' s' n' L u i md e A B C D H M S N h1 h2 W (zall_nil W)
end
end Go.Proofs.YthoedmikfpbfnaaGreat
end
section
namespace Go.Proofs.YthoedmikfpbfnaaGreat
open Go Go.RowKit

theorem i64_in {n : Int} (h : (Lit.int .i64 n).wf = true) : I64 n := bounds_i64 h
end Go.Proofs.YthoedmikfpbfnaaGreat
end
section
namespace Go.Proofs.YthoedmikfpbfnaaGreat
open Go Go.RowKit

def intRow (P : Program) (t : TypeId) (n : Nat) : Bool := (match P.underlying t with
 | some (.struct _) => true
 | some (.array _ _) => true
 | _ => false) && decide (P.cellsOf t = n) && match P.cellTypes P.depth t with
 | some ts => decide (ts.length = n) && ts.all fun u => match P.underlying u with
  | some (.int .i64) => true
  | _ => false
 | none => false
theorem cells_in {P : Program} {w : World} {r : Reach} {b : Nat} {ts : List TypeId} (ha : ∀ u, u ∈ ts → P.underlying u = some (.int .i64)) (hne : 0 < ts.length) : ∀ (l : List Value),
  (∀ (i : Nat) (v : Value), l[i]? = some v → ∃ (j : Nat) (u : TypeId), ts[j]? = some u ∧ Cell.okWide P w r b u v) → ∃ xs : List Int, l = xs.map (Value.int .i64) ∧ ∀ x ∈ xs, I64 x
 | [], _ => ⟨[], rfl, fun x h => by cases h⟩
 | v :: l, h => by
  obtain ⟨xs, h1, h2⟩ := cells_in ha hne l fun i v hv => h (i + 1) v (by simpa using hv)
  obtain ⟨j, u, hu, hc⟩ := h 0 v rfl
  have hU := ha u (List.mem_of_getElem? hu)
  obtain ⟨x, rfl, hx⟩ : ∃ x, v = .int .i64 x ∧ I64 x := by
   simp only [Cell.okWide, hU] at hc
   cases v <;> simp [Cell.ok, hU] at hc
   rename_i k x
   obtain ⟨rfl, hk⟩ := hc
   refine ⟨x, rfl, ?_⟩
   have m0 : IntKind.i64.min = -9223372036854775808 := by decide
   have m1 : IntKind.i64.max = 9223372036854775807 := by decide
   unfold IntKind.has at hk
   rw [m0, m1] at hk
   exact hk
  exact ⟨x :: xs, by rw [h1]; rfl, fun y hy => by
   rcases List.mem_cons.1 hy with rfl | hy
   ·exact hx
   ·exact h2 y hy⟩
theorem ints_in {P : Program} {w : World} {r : Reach} {b : Nat} {t : TypeId} {n : Nat} {v : Value} (hn : 0 < n) (ht : intRow P t n = true) (hv : Value.okWide P w r b t v) : ∃ xs : List Int, v = .agg (xs.map (Value.int .i64)).toArray ∧ xs.length = n ∧ ∀ x ∈ xs, I64 x := by
 unfold intRow at ht
 rw [Bool.and_eq_true, Bool.and_eq_true] at ht
 obtain ⟨⟨hs, hc⟩, hl⟩ := ht
 obtain ⟨cs, rfl, hsz, ts, hts, -, hcell⟩ : ∃ cs, v = .agg cs ∧ cs.size = P.cellsOf t ∧ Row.okWide P w r b t cs := by
  unfold Value.okWide at hv
  split at hv
  ·exact hv
  ·exact hv
  ·rename_i h1 h2
   split at hs
   ·rename_i fs h; exact absurd h (h1 fs)
   ·rename_i m e h; exact absurd h (h2 m e)
   ·cases hs
 rw [hts] at hl
 simp only [Bool.and_eq_true, decide_eq_true_eq, List.all_eq_true] at hl hc
 have ha : ∀ u ∈ ts, P.underlying u = some (.int .i64) := fun u hu => by
  have := hl.2 u hu
  split at this
  ·assumption
  ·cases this
 obtain ⟨xs, h1, h2⟩ := cells_in (P := P) (w := w) (r := r) (b := b) ha (by omega) cs.toList fun i v hv => by
  obtain ⟨u, h3, h4⟩ := hcell i v (by simpa using hv)
  exact ⟨_, u, h3, h4⟩
 have e : cs = (xs.map (Value.int .i64)).toArray := by rw [← h1]
 refine ⟨xs, by rw [e], ?_, h2⟩
 have := congrArg Array.size e
 simp at this; omega
theorem list4 {α : Type} {l : List α} (h : l.length = 4) : ∃ a b c d, l = [a, b, c, d] := by
 match l, h with
 | [a, b, c, d], _ => exact ⟨a, b, c, d, rfl⟩
theorem list7 {α : Type} {l : List α} (h : l.length = 7) : ∃ a b c d e f g, l = [a, b, c, d, e, f, g] := by
 match l, h with
 | [a, b, c, d, e, f, g], _ => exact ⟨a, b, c, d, e, f, g, rfl⟩
end Go.Proofs.YthoedmikfpbfnaaGreat
end
