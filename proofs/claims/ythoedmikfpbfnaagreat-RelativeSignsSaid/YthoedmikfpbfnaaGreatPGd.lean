/-
  Texts joined: Dud, Duz, Upa, Upb, Rnd, Dfr, Due, Mir, Ris, Rat, Dul, Duh, Cav, Cuv, Cbk, Ext2, Rtm, Rtl, Rea. Each says at its head what it shows.
-/
import Derived.Test.YthoedmikfpbfnaaGreatPGc
section
/-
  Durations: signs, units, what may be, as the program and the reference reckon them.
-/
set_option linter.unusedVariables false
set_option maxRecDepth 100000
namespace Go.Proofs.YthoedmikfpbfnaaGreat
open Go Go.RowKit Go.Ev

theorem cmpI_sg (x : Int) : (cmpI x 0 = 1 ∧ 0 < x) ∨ (cmpI x 0 = 0 ∧ x = 0) ∨ (cmpI x 0 = -1 ∧ x < 0) := by unfold cmpI; split <;> (try split) <;> omega
theorem cmpI_lt0 {a b : Int} : cmpI a b < 0 ↔ a < b := by unfold cmpI; split <;> (try split) <;> omega
/-- The k-th field. -/
def fl8 (a b c d h mi s n k : Int) : Int := if k = 1 then a else if k = 2 then b else if k = 3 then c else if k = 4 then d else if k = 5 then h else if k = 6 then mi else if k = 7 then s else n
def all64 (a b c d h mi s n : Int) : Prop := I64 a ∧ I64 b ∧ I64 c ∧ I64 d ∧ I64 h ∧ I64 mi ∧ I64 s ∧ I64 n
section
variable (a b c d h mi s n : Int)
theorem usign (i : all64 a b c d h mi s n) : Fn 64 [] [duv a b c d h mi s n] (.int .i64 (sg8 a b c d h mi s n)) := by
  obtain ⟨i1, i2, i3, i4, i5, i6, i7, i8⟩ := i
  refine fn_of Tryz.func64 rfl fun ww => ?_
  refine ufields_row 0 0 (by kernel_rfl) ?_
  refine st_round (by kernel_rfl) ?_
  by_cases k15 : a ≠ 0
  · refine st_b 15 (bne_iff_ne.2 k15) (by kernel_rfl) ?_
    refine st_fn ent30 (wof_fn (a) (by assumption)) sub0 (by kernel_rfl) ?_
    refine st_fn ent16 (wsign_fn (a)) sub0 (by kernel_rfl) ?_
    exact st_retv Tryz.func64 (show vI64 (cmpI a 0) = _ by (refine i_eq ?_; unfold sg8; simp_all)) (by kernel_rfl)
  · refine st_b 15 (bne_eq_false_iff_eq.2 (Classical.not_not.1 k15)) (by kernel_rfl) ?_
    refine st_i 21 .i64 (x' := 0 + 1) (Go.IntWalk.i64_in _ (by omega)) (by kernel_rfl) ?_
    refine st_round (by kernel_rfl) ?_
    by_cases k15 : b ≠ 0
    · refine st_b 15 (bne_iff_ne.2 k15) (by kernel_rfl) ?_
      refine st_fn ent30 (wof_fn (b) (by assumption)) sub0 (by kernel_rfl) ?_
      refine st_fn ent16 (wsign_fn (b)) sub0 (by kernel_rfl) ?_
      exact st_retv Tryz.func64 (show vI64 (cmpI b 0) = _ by (refine i_eq ?_; unfold sg8; simp_all)) (by kernel_rfl)
    · refine st_b 15 (bne_eq_false_iff_eq.2 (Classical.not_not.1 k15)) (by kernel_rfl) ?_
      refine st_i 21 .i64 (x' := 0 + 1 + 1) (Go.IntWalk.i64_in _ (by omega)) (by kernel_rfl) ?_
      refine st_round (by kernel_rfl) ?_
      by_cases k15 : c ≠ 0
      · refine st_b 15 (bne_iff_ne.2 k15) (by kernel_rfl) ?_
        refine st_fn ent30 (wof_fn (c) (by assumption)) sub0 (by kernel_rfl) ?_
        refine st_fn ent16 (wsign_fn (c)) sub0 (by kernel_rfl) ?_
        exact st_retv Tryz.func64 (show vI64 (cmpI c 0) = _ by (refine i_eq ?_; unfold sg8; simp_all)) (by kernel_rfl)
      · refine st_b 15 (bne_eq_false_iff_eq.2 (Classical.not_not.1 k15)) (by kernel_rfl) ?_
        refine st_i 21 .i64 (x' := 0 + 1 + 1 + 1) (Go.IntWalk.i64_in _ (by omega)) (by kernel_rfl) ?_
        refine st_round (by kernel_rfl) ?_
        by_cases k15 : d ≠ 0
        · refine st_b 15 (bne_iff_ne.2 k15) (by kernel_rfl) ?_
          refine st_fn ent30 (wof_fn (d) (by assumption)) sub0 (by kernel_rfl) ?_
          refine st_fn ent16 (wsign_fn (d)) sub0 (by kernel_rfl) ?_
          exact st_retv Tryz.func64 (show vI64 (cmpI d 0) = _ by (refine i_eq ?_; unfold sg8; simp_all)) (by kernel_rfl)
        · refine st_b 15 (bne_eq_false_iff_eq.2 (Classical.not_not.1 k15)) (by kernel_rfl) ?_
          refine st_i 21 .i64 (x' := 0 + 1 + 1 + 1 + 1) (Go.IntWalk.i64_in _ (by omega)) (by kernel_rfl) ?_
          refine st_round (by kernel_rfl) ?_
          by_cases k15 : h ≠ 0
          · refine st_b 15 (bne_iff_ne.2 k15) (by kernel_rfl) ?_
            refine st_fn ent30 (wof_fn (h) (by assumption)) sub0 (by kernel_rfl) ?_
            refine st_fn ent16 (wsign_fn (h)) sub0 (by kernel_rfl) ?_
            exact st_retv Tryz.func64 (show vI64 (cmpI h 0) = _ by (refine i_eq ?_; unfold sg8; simp_all)) (by kernel_rfl)
          · refine st_b 15 (bne_eq_false_iff_eq.2 (Classical.not_not.1 k15)) (by kernel_rfl) ?_
            refine st_i 21 .i64 (x' := 0 + 1 + 1 + 1 + 1 + 1) (Go.IntWalk.i64_in _ (by omega)) (by kernel_rfl) ?_
            refine st_round (by kernel_rfl) ?_
            by_cases k15 : mi ≠ 0
            · refine st_b 15 (bne_iff_ne.2 k15) (by kernel_rfl) ?_
              refine st_fn ent30 (wof_fn (mi) (by assumption)) sub0 (by kernel_rfl) ?_
              refine st_fn ent16 (wsign_fn (mi)) sub0 (by kernel_rfl) ?_
              exact st_retv Tryz.func64 (show vI64 (cmpI mi 0) = _ by (refine i_eq ?_; unfold sg8; simp_all)) (by kernel_rfl)
            · refine st_b 15 (bne_eq_false_iff_eq.2 (Classical.not_not.1 k15)) (by kernel_rfl) ?_
              refine st_i 21 .i64 (x' := 0 + 1 + 1 + 1 + 1 + 1 + 1) (Go.IntWalk.i64_in _ (by omega)) (by kernel_rfl) ?_
              refine st_round (by kernel_rfl) ?_
              by_cases k15 : s ≠ 0
              · refine st_b 15 (bne_iff_ne.2 k15) (by kernel_rfl) ?_
                refine st_fn ent30 (wof_fn (s) (by assumption)) sub0 (by kernel_rfl) ?_
                refine st_fn ent16 (wsign_fn (s)) sub0 (by kernel_rfl) ?_
                exact st_retv Tryz.func64 (show vI64 (cmpI s 0) = _ by (refine i_eq ?_; unfold sg8; simp_all)) (by kernel_rfl)
              · refine st_b 15 (bne_eq_false_iff_eq.2 (Classical.not_not.1 k15)) (by kernel_rfl) ?_
                refine st_i 21 .i64 (x' := 0 + 1 + 1 + 1 + 1 + 1 + 1 + 1) (Go.IntWalk.i64_in _ (by omega)) (by kernel_rfl) ?_
                refine st_round (by kernel_rfl) ?_
                by_cases k15 : n ≠ 0
                · refine st_b 15 (bne_iff_ne.2 k15) (by kernel_rfl) ?_
                  refine st_fn ent30 (wof_fn (n) (by assumption)) sub0 (by kernel_rfl) ?_
                  refine st_fn ent16 (wsign_fn (n)) sub0 (by kernel_rfl) ?_
                  exact st_retv Tryz.func64 (show vI64 (cmpI n 0) = _ by (refine i_eq ?_; unfold sg8; simp_all)) (by kernel_rfl)
                · refine st_b 15 (bne_eq_false_iff_eq.2 (Classical.not_not.1 k15)) (by kernel_rfl) ?_
                  refine st_i 21 .i64 (x' := 0 + 1 + 1 + 1 + 1 + 1 + 1 + 1 + 1) (Go.IntWalk.i64_in _ (by omega)) (by kernel_rfl) ?_
                  refine st_round (by kernel_rfl) ?_
                  exact st_retv Tryz.func64 (show vI64 0 = _ by (refine i_eq ?_; unfold sg8; simp_all [cmpI])) (by kernel_rfl)
theorem uright_p (i : all64 a b c d h mi s n) (hs : sg8 a b c d h mi s n = 1) (hk : 0 < a ∨ a = 0 ∧ (0 < b ∨ b = 0 ∧ (0 < c ∨ c = 0 ∧ (0 < d ∨ d = 0 ∧ (0 < h ∨ h = 0 ∧ (0 < mi ∨ mi = 0 ∧ (0 < s ∨ s = 0 ∧ 0 < n))))))) : Fn 25 [] [duv a b c d h mi s n] (.bool (decide (uOk a b c d h mi s n))) := by
  have us := usign a b c d h mi s n i
  rw [hs] at us
  obtain ⟨i1, i2, i3, i4, i5, i6, i7, i8⟩ := i
  have wt : W128 (dtot d h mi s n) ∧ W128 (-dtot d h mi s n) := by unfold I64 at *; unfold W128 dtot; omega
  obtain ⟨wt1, wt2⟩ := wt
  have ut := utot a b c d h mi s n i4 i5 i6 i7 i8
  have qt := cmpI_lt0 (a := dtot d h mi s n) (b := 9007199254740992000000000)
  refine fn_of Tryz.func25 rfl fun ww => ?_
  refine st_fn ent64 (us) sub0 (by kernel_rfl) ?_
  refine ufields_row 0 0 (by kernel_rfl) ?_
  refine st_forget [0,1,3,7,8,9,10,11,12,46,47,48,49,50,51,52,53,54,55,56,57,58] (by kernel_rfl) ?_
  refine st_loop (X := Int) (fun x => ([SV.val (Value.agg #[vI64 a,vI64 b,vI64 c,vI64 d,vI64 h,vI64 mi,vI64 s,vI64 n]),SV.ptr 0 0,.any,SV.val (vI64 1),.any,.any,.any,svZ,SV.val (Value.agg #[vI64 a,vI64 b,vI64 c,vI64 d,vI64 h,vI64 mi,vI64 s,vI64 n]),SV.val (vI64 1),SV.sl 1 0 9 9,SV.val (vI64 (↑9 : Int)),.val (.int .i64 x),.any,.any,.any,.any,.any,.any,.any,.any,.any,.any,.any,.any,.any,.any,.any,.any,.any,.any,.any,.any,.any,.any,.any,.any,.any,.any,.any,.any,.any,.any,.any,.any,.any,svZ,svZ,svZ,svZ,svZ,svZ,svZ,svZ,svZ,svZ,svZ,svZ,svZ],[⟨[SV.val (vI64 a),SV.val (vI64 b),SV.val (vI64 c),SV.val (vI64 d),SV.val (vI64 h),SV.val (vI64 mi),SV.val (vI64 s),SV.val (vI64 n)],51⟩,⟨[SV.val (Value.pointer none),SV.ptr 0 0,SV.ptr 0 1,SV.ptr 0 2,SV.ptr 0 3,SV.ptr 0 4,SV.ptr 0 5,SV.ptr 0 6,SV.ptr 0 7],113⟩])) (fun _ => _) (fun k => 0 ≤ k ∧ k ≤ 9 ∧ (1 < k → 0 ≤ a ∧ -4294967295 ≤ a ∧ a ≤ 4294967295) ∧ (2 < k → 0 ≤ b ∧ -4294967295 ≤ b ∧ b ≤ 4294967295) ∧ (3 < k → 0 ≤ c ∧ -4294967295 ≤ c ∧ c ≤ 4294967295) ∧ (4 < k → 0 ≤ d) ∧ (5 < k → 0 ≤ h) ∧ (6 < k → 0 ≤ mi) ∧ (7 < k → 0 ≤ s) ∧ (8 < k → 0 ≤ n)) (fun k => (9 - k).toNat) (0) (by kernel_rfl) (by kernel_rfl) Sub.refl (by first | omega | (simp; omega) | assumption | simp_all) (fun y0 px0 back0 => ?_)
  (have q := cmpI_sg (fl8 a b c d h mi s n y0); have hk0 : y0 = 0 ∨ y0 = 1 ∨ y0 = 2 ∨ y0 = 3 ∨ y0 = 4 ∨ y0 = 5 ∨ y0 = 6 ∨ y0 = 7 ∨ y0 = 8 ∨ y0 = 9 := (by omega); rcases hk0 with rfl | rfl | rfl | rfl | rfl | rfl | rfl | rfl | rfl | rfl <;> simp only [fl8, Int.reduceEq, if_true, if_false] at q)
  · have _hh := True.intro
    refine st_i 45 .i64 (x' := 0 + 1) (Go.IntWalk.i64_in _ (by omega)) (by kernel_rfl) ?_
    refine st_forget [0,1,2,3,6,7,8,9,10,11,12,19,20,21,22,23,24,25,26,27,28,29,30,31,32,33,34,35,36,37,38,39,40,41,42,43,44,46,47,48,49,50,51,52,53,54,55,56,57,58] (by kernel_rfl) ?_
    exact st_back back0 (0 + 1) (by first | omega | (simp only []; omega) | (simp; omega)) (by first | (refine b_eq (decide_eq_false ?_).symm; unfold uOk pos8 neg8 cnt1 LIM; omega) | (refine b_eq (decide_eq_decide.2 ?_); unfold uOk pos8 neg8 cnt1 LIM; rw [qt]; unfold dtot; omega) | omega | (simp only []; omega) | (simp; omega) | assumption | simp_all) (fun p hp => by first | exact hp | simp_all) (by kernel_rfl) (by kernel_rfl) (by kernel_rfl)
  · have _hh := True.intro
    refine st_fn ent30 (wof_fn (a) (by assumption)) sub0 (by kernel_rfl) ?_
    refine st_fn ent16 (wsign_fn (a)) sub0 (by kernel_rfl) ?_
    by_cases k25 : cmpI a 0 ≠ 0
    · refine st_b 25 (bne_iff_ne.2 k25) (by kernel_rfl) ?_
      refine st_b 29 (show (cmpI a 0 != 1) = false by exact bne_eq_false_iff_eq.2 (by omega)) (by kernel_rfl) ?_
      by_cases k37 : a > 4294967295
      · refine st_b 37 (decide_eq_true k37) (by kernel_rfl) ?_
        exact st_retv Tryz.func25 (show Value.bool (false) = _ by (refine b_eq (decide_eq_false ?_).symm; unfold uOk pos8 neg8 cnt1 LIM; omega)) (by kernel_rfl)
      · refine st_b 37 (decide_eq_false k37) (by kernel_rfl) ?_
        refine st_b 42 (show (decide (a < -4294967295)) = false by exact decide_eq_false (by omega)) (by kernel_rfl) ?_
        refine st_i 45 .i64 (x' := 1 + 1) (Go.IntWalk.i64_in _ (by omega)) (by kernel_rfl) ?_
        refine st_forget [0,1,2,3,7,8,9,10,11,12,46,47,48,49,50,51,52,53,54,55,56,57,58] (by kernel_rfl) ?_
        exact st_back back0 (1 + 1) (by first | omega | (simp only []; omega) | (simp; omega)) (by first | (refine b_eq (decide_eq_false ?_).symm; unfold uOk pos8 neg8 cnt1 LIM; omega) | (refine b_eq (decide_eq_decide.2 ?_); unfold uOk pos8 neg8 cnt1 LIM; rw [qt]; unfold dtot; omega) | omega | (simp only []; omega) | (simp; omega) | assumption | simp_all) (fun p hp => by first | exact hp | simp_all) (by kernel_rfl) (by kernel_rfl) (by kernel_rfl)
    · refine st_b 25 (bne_eq_false_iff_eq.2 (Classical.not_not.1 k25)) (by kernel_rfl) ?_
      refine st_b 37 (show (decide (a > 4294967295)) = false by exact decide_eq_false (by omega)) (by kernel_rfl) ?_
      refine st_b 42 (show (decide (a < -4294967295)) = false by exact decide_eq_false (by omega)) (by kernel_rfl) ?_
      refine st_i 45 .i64 (x' := 1 + 1) (Go.IntWalk.i64_in _ (by omega)) (by kernel_rfl) ?_
      refine st_forget [0,1,2,3,7,8,9,10,11,12,46,47,48,49,50,51,52,53,54,55,56,57,58] (by kernel_rfl) ?_
      exact st_back back0 (1 + 1) (by first | omega | (simp only []; omega) | (simp; omega)) (by first | (refine b_eq (decide_eq_false ?_).symm; unfold uOk pos8 neg8 cnt1 LIM; omega) | (refine b_eq (decide_eq_decide.2 ?_); unfold uOk pos8 neg8 cnt1 LIM; rw [qt]; unfold dtot; omega) | omega | (simp only []; omega) | (simp; omega) | assumption | simp_all) (fun p hp => by first | exact hp | simp_all) (by kernel_rfl) (by kernel_rfl) (by kernel_rfl)
  · have _hh := True.intro
    refine st_fn ent30 (wof_fn (b) (by assumption)) sub0 (by kernel_rfl) ?_
    refine st_fn ent16 (wsign_fn (b)) sub0 (by kernel_rfl) ?_
    by_cases k25 : cmpI b 0 ≠ 0
    · refine st_b 25 (bne_iff_ne.2 k25) (by kernel_rfl) ?_
      by_cases k29 : cmpI b 0 ≠ 1
      · refine st_b 29 (bne_iff_ne.2 k29) (by kernel_rfl) ?_
        exact st_retv Tryz.func25 (show Value.bool (false) = _ by (refine b_eq (decide_eq_false ?_).symm; unfold uOk pos8 neg8 cnt1 LIM; omega)) (by kernel_rfl)
      · refine st_b 29 (bne_eq_false_iff_eq.2 (Classical.not_not.1 k29)) (by kernel_rfl) ?_
        by_cases k37 : b > 4294967295
        · refine st_b 37 (decide_eq_true k37) (by kernel_rfl) ?_
          exact st_retv Tryz.func25 (show Value.bool (false) = _ by (refine b_eq (decide_eq_false ?_).symm; unfold uOk pos8 neg8 cnt1 LIM; omega)) (by kernel_rfl)
        · refine st_b 37 (decide_eq_false k37) (by kernel_rfl) ?_
          refine st_b 42 (show (decide (b < -4294967295)) = false by exact decide_eq_false (by omega)) (by kernel_rfl) ?_
          refine st_i 45 .i64 (x' := 2 + 1) (Go.IntWalk.i64_in _ (by omega)) (by kernel_rfl) ?_
          refine st_forget [0,1,2,3,7,8,9,10,11,12,46,47,48,49,50,51,52,53,54,55,56,57,58] (by kernel_rfl) ?_
          exact st_back back0 (2 + 1) (by first | omega | (simp only []; omega) | (simp; omega)) (by first | (refine b_eq (decide_eq_false ?_).symm; unfold uOk pos8 neg8 cnt1 LIM; omega) | (refine b_eq (decide_eq_decide.2 ?_); unfold uOk pos8 neg8 cnt1 LIM; rw [qt]; unfold dtot; omega) | omega | (simp only []; omega) | (simp; omega) | assumption | simp_all) (fun p hp => by first | exact hp | simp_all) (by kernel_rfl) (by kernel_rfl) (by kernel_rfl)
    · refine st_b 25 (bne_eq_false_iff_eq.2 (Classical.not_not.1 k25)) (by kernel_rfl) ?_
      refine st_b 37 (show (decide (b > 4294967295)) = false by exact decide_eq_false (by omega)) (by kernel_rfl) ?_
      refine st_b 42 (show (decide (b < -4294967295)) = false by exact decide_eq_false (by omega)) (by kernel_rfl) ?_
      refine st_i 45 .i64 (x' := 2 + 1) (Go.IntWalk.i64_in _ (by omega)) (by kernel_rfl) ?_
      refine st_forget [0,1,2,3,7,8,9,10,11,12,46,47,48,49,50,51,52,53,54,55,56,57,58] (by kernel_rfl) ?_
      exact st_back back0 (2 + 1) (by first | omega | (simp only []; omega) | (simp; omega)) (by first | (refine b_eq (decide_eq_false ?_).symm; unfold uOk pos8 neg8 cnt1 LIM; omega) | (refine b_eq (decide_eq_decide.2 ?_); unfold uOk pos8 neg8 cnt1 LIM; rw [qt]; unfold dtot; omega) | omega | (simp only []; omega) | (simp; omega) | assumption | simp_all) (fun p hp => by first | exact hp | simp_all) (by kernel_rfl) (by kernel_rfl) (by kernel_rfl)
  · have _hh := True.intro
    refine st_fn ent30 (wof_fn (c) (by assumption)) sub0 (by kernel_rfl) ?_
    refine st_fn ent16 (wsign_fn (c)) sub0 (by kernel_rfl) ?_
    by_cases k25 : cmpI c 0 ≠ 0
    · refine st_b 25 (bne_iff_ne.2 k25) (by kernel_rfl) ?_
      by_cases k29 : cmpI c 0 ≠ 1
      · refine st_b 29 (bne_iff_ne.2 k29) (by kernel_rfl) ?_
        exact st_retv Tryz.func25 (show Value.bool (false) = _ by (refine b_eq (decide_eq_false ?_).symm; unfold uOk pos8 neg8 cnt1 LIM; omega)) (by kernel_rfl)
      · refine st_b 29 (bne_eq_false_iff_eq.2 (Classical.not_not.1 k29)) (by kernel_rfl) ?_
        by_cases k37 : c > 4294967295
        · refine st_b 37 (decide_eq_true k37) (by kernel_rfl) ?_
          exact st_retv Tryz.func25 (show Value.bool (false) = _ by (refine b_eq (decide_eq_false ?_).symm; unfold uOk pos8 neg8 cnt1 LIM; omega)) (by kernel_rfl)
        · refine st_b 37 (decide_eq_false k37) (by kernel_rfl) ?_
          refine st_b 42 (show (decide (c < -4294967295)) = false by exact decide_eq_false (by omega)) (by kernel_rfl) ?_
          refine st_i 45 .i64 (x' := 3 + 1) (Go.IntWalk.i64_in _ (by omega)) (by kernel_rfl) ?_
          refine st_forget [0,1,2,3,7,8,9,10,11,12,46,47,48,49,50,51,52,53,54,55,56,57,58] (by kernel_rfl) ?_
          exact st_back back0 (3 + 1) (by first | omega | (simp only []; omega) | (simp; omega)) (by first | (refine b_eq (decide_eq_false ?_).symm; unfold uOk pos8 neg8 cnt1 LIM; omega) | (refine b_eq (decide_eq_decide.2 ?_); unfold uOk pos8 neg8 cnt1 LIM; rw [qt]; unfold dtot; omega) | omega | (simp only []; omega) | (simp; omega) | assumption | simp_all) (fun p hp => by first | exact hp | simp_all) (by kernel_rfl) (by kernel_rfl) (by kernel_rfl)
    · refine st_b 25 (bne_eq_false_iff_eq.2 (Classical.not_not.1 k25)) (by kernel_rfl) ?_
      refine st_b 37 (show (decide (c > 4294967295)) = false by exact decide_eq_false (by omega)) (by kernel_rfl) ?_
      refine st_b 42 (show (decide (c < -4294967295)) = false by exact decide_eq_false (by omega)) (by kernel_rfl) ?_
      refine st_i 45 .i64 (x' := 3 + 1) (Go.IntWalk.i64_in _ (by omega)) (by kernel_rfl) ?_
      refine st_forget [0,1,2,3,7,8,9,10,11,12,46,47,48,49,50,51,52,53,54,55,56,57,58] (by kernel_rfl) ?_
      exact st_back back0 (3 + 1) (by first | omega | (simp only []; omega) | (simp; omega)) (by first | (refine b_eq (decide_eq_false ?_).symm; unfold uOk pos8 neg8 cnt1 LIM; omega) | (refine b_eq (decide_eq_decide.2 ?_); unfold uOk pos8 neg8 cnt1 LIM; rw [qt]; unfold dtot; omega) | omega | (simp only []; omega) | (simp; omega) | assumption | simp_all) (fun p hp => by first | exact hp | simp_all) (by kernel_rfl) (by kernel_rfl) (by kernel_rfl)
  · have _hh := True.intro
    refine st_fn ent30 (wof_fn (d) (by assumption)) sub0 (by kernel_rfl) ?_
    refine st_fn ent16 (wsign_fn (d)) sub0 (by kernel_rfl) ?_
    by_cases k25 : cmpI d 0 ≠ 0
    · refine st_b 25 (bne_iff_ne.2 k25) (by kernel_rfl) ?_
      by_cases k29 : cmpI d 0 ≠ 1
      · refine st_b 29 (bne_iff_ne.2 k29) (by kernel_rfl) ?_
        exact st_retv Tryz.func25 (show Value.bool (false) = _ by (refine b_eq (decide_eq_false ?_).symm; unfold uOk pos8 neg8 cnt1 LIM; omega)) (by kernel_rfl)
      · refine st_b 29 (bne_eq_false_iff_eq.2 (Classical.not_not.1 k29)) (by kernel_rfl) ?_
        refine st_i 45 .i64 (x' := 4 + 1) (Go.IntWalk.i64_in _ (by omega)) (by kernel_rfl) ?_
        refine st_forget [0,1,2,3,7,8,9,10,11,12,46,47,48,49,50,51,52,53,54,55,56,57,58] (by kernel_rfl) ?_
        exact st_back back0 (4 + 1) (by first | omega | (simp only []; omega) | (simp; omega)) (by first | (refine b_eq (decide_eq_false ?_).symm; unfold uOk pos8 neg8 cnt1 LIM; omega) | (refine b_eq (decide_eq_decide.2 ?_); unfold uOk pos8 neg8 cnt1 LIM; rw [qt]; unfold dtot; omega) | omega | (simp only []; omega) | (simp; omega) | assumption | simp_all) (fun p hp => by first | exact hp | simp_all) (by kernel_rfl) (by kernel_rfl) (by kernel_rfl)
    · refine st_b 25 (bne_eq_false_iff_eq.2 (Classical.not_not.1 k25)) (by kernel_rfl) ?_
      refine st_i 45 .i64 (x' := 4 + 1) (Go.IntWalk.i64_in _ (by omega)) (by kernel_rfl) ?_
      refine st_forget [0,1,2,3,7,8,9,10,11,12,46,47,48,49,50,51,52,53,54,55,56,57,58] (by kernel_rfl) ?_
      exact st_back back0 (4 + 1) (by first | omega | (simp only []; omega) | (simp; omega)) (by first | (refine b_eq (decide_eq_false ?_).symm; unfold uOk pos8 neg8 cnt1 LIM; omega) | (refine b_eq (decide_eq_decide.2 ?_); unfold uOk pos8 neg8 cnt1 LIM; rw [qt]; unfold dtot; omega) | omega | (simp only []; omega) | (simp; omega) | assumption | simp_all) (fun p hp => by first | exact hp | simp_all) (by kernel_rfl) (by kernel_rfl) (by kernel_rfl)
  · have _hh := True.intro
    refine st_fn ent30 (wof_fn (h) (by assumption)) sub0 (by kernel_rfl) ?_
    refine st_fn ent16 (wsign_fn (h)) sub0 (by kernel_rfl) ?_
    by_cases k25 : cmpI h 0 ≠ 0
    · refine st_b 25 (bne_iff_ne.2 k25) (by kernel_rfl) ?_
      by_cases k29 : cmpI h 0 ≠ 1
      · refine st_b 29 (bne_iff_ne.2 k29) (by kernel_rfl) ?_
        exact st_retv Tryz.func25 (show Value.bool (false) = _ by (refine b_eq (decide_eq_false ?_).symm; unfold uOk pos8 neg8 cnt1 LIM; omega)) (by kernel_rfl)
      · refine st_b 29 (bne_eq_false_iff_eq.2 (Classical.not_not.1 k29)) (by kernel_rfl) ?_
        refine st_i 45 .i64 (x' := 5 + 1) (Go.IntWalk.i64_in _ (by omega)) (by kernel_rfl) ?_
        refine st_forget [0,1,2,3,7,8,9,10,11,12,46,47,48,49,50,51,52,53,54,55,56,57,58] (by kernel_rfl) ?_
        exact st_back back0 (5 + 1) (by first | omega | (simp only []; omega) | (simp; omega)) (by first | (refine b_eq (decide_eq_false ?_).symm; unfold uOk pos8 neg8 cnt1 LIM; omega) | (refine b_eq (decide_eq_decide.2 ?_); unfold uOk pos8 neg8 cnt1 LIM; rw [qt]; unfold dtot; omega) | omega | (simp only []; omega) | (simp; omega) | assumption | simp_all) (fun p hp => by first | exact hp | simp_all) (by kernel_rfl) (by kernel_rfl) (by kernel_rfl)
    · refine st_b 25 (bne_eq_false_iff_eq.2 (Classical.not_not.1 k25)) (by kernel_rfl) ?_
      refine st_i 45 .i64 (x' := 5 + 1) (Go.IntWalk.i64_in _ (by omega)) (by kernel_rfl) ?_
      refine st_forget [0,1,2,3,7,8,9,10,11,12,46,47,48,49,50,51,52,53,54,55,56,57,58] (by kernel_rfl) ?_
      exact st_back back0 (5 + 1) (by first | omega | (simp only []; omega) | (simp; omega)) (by first | (refine b_eq (decide_eq_false ?_).symm; unfold uOk pos8 neg8 cnt1 LIM; omega) | (refine b_eq (decide_eq_decide.2 ?_); unfold uOk pos8 neg8 cnt1 LIM; rw [qt]; unfold dtot; omega) | omega | (simp only []; omega) | (simp; omega) | assumption | simp_all) (fun p hp => by first | exact hp | simp_all) (by kernel_rfl) (by kernel_rfl) (by kernel_rfl)
  · have _hh := True.intro
    refine st_fn ent30 (wof_fn (mi) (by assumption)) sub0 (by kernel_rfl) ?_
    refine st_fn ent16 (wsign_fn (mi)) sub0 (by kernel_rfl) ?_
    by_cases k25 : cmpI mi 0 ≠ 0
    · refine st_b 25 (bne_iff_ne.2 k25) (by kernel_rfl) ?_
      by_cases k29 : cmpI mi 0 ≠ 1
      · refine st_b 29 (bne_iff_ne.2 k29) (by kernel_rfl) ?_
        exact st_retv Tryz.func25 (show Value.bool (false) = _ by (refine b_eq (decide_eq_false ?_).symm; unfold uOk pos8 neg8 cnt1 LIM; omega)) (by kernel_rfl)
      · refine st_b 29 (bne_eq_false_iff_eq.2 (Classical.not_not.1 k29)) (by kernel_rfl) ?_
        refine st_i 45 .i64 (x' := 6 + 1) (Go.IntWalk.i64_in _ (by omega)) (by kernel_rfl) ?_
        refine st_forget [0,1,2,3,7,8,9,10,11,12,46,47,48,49,50,51,52,53,54,55,56,57,58] (by kernel_rfl) ?_
        exact st_back back0 (6 + 1) (by first | omega | (simp only []; omega) | (simp; omega)) (by first | (refine b_eq (decide_eq_false ?_).symm; unfold uOk pos8 neg8 cnt1 LIM; omega) | (refine b_eq (decide_eq_decide.2 ?_); unfold uOk pos8 neg8 cnt1 LIM; rw [qt]; unfold dtot; omega) | omega | (simp only []; omega) | (simp; omega) | assumption | simp_all) (fun p hp => by first | exact hp | simp_all) (by kernel_rfl) (by kernel_rfl) (by kernel_rfl)
    · refine st_b 25 (bne_eq_false_iff_eq.2 (Classical.not_not.1 k25)) (by kernel_rfl) ?_
      refine st_i 45 .i64 (x' := 6 + 1) (Go.IntWalk.i64_in _ (by omega)) (by kernel_rfl) ?_
      refine st_forget [0,1,2,3,7,8,9,10,11,12,46,47,48,49,50,51,52,53,54,55,56,57,58] (by kernel_rfl) ?_
      exact st_back back0 (6 + 1) (by first | omega | (simp only []; omega) | (simp; omega)) (by first | (refine b_eq (decide_eq_false ?_).symm; unfold uOk pos8 neg8 cnt1 LIM; omega) | (refine b_eq (decide_eq_decide.2 ?_); unfold uOk pos8 neg8 cnt1 LIM; rw [qt]; unfold dtot; omega) | omega | (simp only []; omega) | (simp; omega) | assumption | simp_all) (fun p hp => by first | exact hp | simp_all) (by kernel_rfl) (by kernel_rfl) (by kernel_rfl)
  · have _hh := True.intro
    refine st_fn ent30 (wof_fn (s) (by assumption)) sub0 (by kernel_rfl) ?_
    refine st_fn ent16 (wsign_fn (s)) sub0 (by kernel_rfl) ?_
    by_cases k25 : cmpI s 0 ≠ 0
    · refine st_b 25 (bne_iff_ne.2 k25) (by kernel_rfl) ?_
      by_cases k29 : cmpI s 0 ≠ 1
      · refine st_b 29 (bne_iff_ne.2 k29) (by kernel_rfl) ?_
        exact st_retv Tryz.func25 (show Value.bool (false) = _ by (refine b_eq (decide_eq_false ?_).symm; unfold uOk pos8 neg8 cnt1 LIM; omega)) (by kernel_rfl)
      · refine st_b 29 (bne_eq_false_iff_eq.2 (Classical.not_not.1 k29)) (by kernel_rfl) ?_
        refine st_i 45 .i64 (x' := 7 + 1) (Go.IntWalk.i64_in _ (by omega)) (by kernel_rfl) ?_
        refine st_forget [0,1,2,3,7,8,9,10,11,12,46,47,48,49,50,51,52,53,54,55,56,57,58] (by kernel_rfl) ?_
        exact st_back back0 (7 + 1) (by first | omega | (simp only []; omega) | (simp; omega)) (by first | (refine b_eq (decide_eq_false ?_).symm; unfold uOk pos8 neg8 cnt1 LIM; omega) | (refine b_eq (decide_eq_decide.2 ?_); unfold uOk pos8 neg8 cnt1 LIM; rw [qt]; unfold dtot; omega) | omega | (simp only []; omega) | (simp; omega) | assumption | simp_all) (fun p hp => by first | exact hp | simp_all) (by kernel_rfl) (by kernel_rfl) (by kernel_rfl)
    · refine st_b 25 (bne_eq_false_iff_eq.2 (Classical.not_not.1 k25)) (by kernel_rfl) ?_
      refine st_i 45 .i64 (x' := 7 + 1) (Go.IntWalk.i64_in _ (by omega)) (by kernel_rfl) ?_
      refine st_forget [0,1,2,3,7,8,9,10,11,12,46,47,48,49,50,51,52,53,54,55,56,57,58] (by kernel_rfl) ?_
      exact st_back back0 (7 + 1) (by first | omega | (simp only []; omega) | (simp; omega)) (by first | (refine b_eq (decide_eq_false ?_).symm; unfold uOk pos8 neg8 cnt1 LIM; omega) | (refine b_eq (decide_eq_decide.2 ?_); unfold uOk pos8 neg8 cnt1 LIM; rw [qt]; unfold dtot; omega) | omega | (simp only []; omega) | (simp; omega) | assumption | simp_all) (fun p hp => by first | exact hp | simp_all) (by kernel_rfl) (by kernel_rfl) (by kernel_rfl)
  · have _hh := True.intro
    refine st_fn ent30 (wof_fn (n) (by assumption)) sub0 (by kernel_rfl) ?_
    refine st_fn ent16 (wsign_fn (n)) sub0 (by kernel_rfl) ?_
    by_cases k25 : cmpI n 0 ≠ 0
    · refine st_b 25 (bne_iff_ne.2 k25) (by kernel_rfl) ?_
      by_cases k29 : cmpI n 0 ≠ 1
      · refine st_b 29 (bne_iff_ne.2 k29) (by kernel_rfl) ?_
        exact st_retv Tryz.func25 (show Value.bool (false) = _ by (refine b_eq (decide_eq_false ?_).symm; unfold uOk pos8 neg8 cnt1 LIM; omega)) (by kernel_rfl)
      · refine st_b 29 (bne_eq_false_iff_eq.2 (Classical.not_not.1 k29)) (by kernel_rfl) ?_
        refine st_i 45 .i64 (x' := 8 + 1) (Go.IntWalk.i64_in _ (by omega)) (by kernel_rfl) ?_
        refine st_forget [0,1,2,3,7,8,9,10,11,12,46,47,48,49,50,51,52,53,54,55,56,57,58] (by kernel_rfl) ?_
        exact st_back back0 (8 + 1) (by first | omega | (simp only []; omega) | (simp; omega)) (by first | (refine b_eq (decide_eq_false ?_).symm; unfold uOk pos8 neg8 cnt1 LIM; omega) | (refine b_eq (decide_eq_decide.2 ?_); unfold uOk pos8 neg8 cnt1 LIM; rw [qt]; unfold dtot; omega) | omega | (simp only []; omega) | (simp; omega) | assumption | simp_all) (fun p hp => by first | exact hp | simp_all) (by kernel_rfl) (by kernel_rfl) (by kernel_rfl)
    · refine st_b 25 (bne_eq_false_iff_eq.2 (Classical.not_not.1 k25)) (by kernel_rfl) ?_
      refine st_i 45 .i64 (x' := 8 + 1) (Go.IntWalk.i64_in _ (by omega)) (by kernel_rfl) ?_
      refine st_forget [0,1,2,3,7,8,9,10,11,12,46,47,48,49,50,51,52,53,54,55,56,57,58] (by kernel_rfl) ?_
      exact st_back back0 (8 + 1) (by first | omega | (simp only []; omega) | (simp; omega)) (by first | (refine b_eq (decide_eq_false ?_).symm; unfold uOk pos8 neg8 cnt1 LIM; omega) | (refine b_eq (decide_eq_decide.2 ?_); unfold uOk pos8 neg8 cnt1 LIM; rw [qt]; unfold dtot; omega) | omega | (simp only []; omega) | (simp; omega) | assumption | simp_all) (fun p hp => by first | exact hp | simp_all) (by kernel_rfl) (by kernel_rfl) (by kernel_rfl)
  · have _hh := True.intro
    refine st_fn ent66 (ut) sub0 (by kernel_rfl) ?_
    refine st_fn ent68 (ulimit) sub0 (by kernel_rfl) ?_
    refine st_fn ent55 (wcmp_fn (dtot d h mi s n) (9007199254740992000000000)) sub0 (by kernel_rfl) ?_
    exact st_retv Tryz.func25 (show Value.bool (decide (cmpI (dtot d h mi s n) 9007199254740992000000000 < 0)) = _ by (refine b_eq (decide_eq_decide.2 ?_); unfold uOk pos8 neg8 cnt1 LIM; rw [qt]; unfold dtot; omega)) (by kernel_rfl)
theorem uright_n (i : all64 a b c d h mi s n) (hs : sg8 a b c d h mi s n = -1) (hk : a < 0 ∨ a = 0 ∧ (b < 0 ∨ b = 0 ∧ (c < 0 ∨ c = 0 ∧ (d < 0 ∨ d = 0 ∧ (h < 0 ∨ h = 0 ∧ (mi < 0 ∨ mi = 0 ∧ (s < 0 ∨ s = 0 ∧ n < 0))))))) : Fn 25 [] [duv a b c d h mi s n] (.bool (decide (uOk a b c d h mi s n))) := by
  have us := usign a b c d h mi s n i
  rw [hs] at us
  obtain ⟨i1, i2, i3, i4, i5, i6, i7, i8⟩ := i
  have wt : W128 (dtot d h mi s n) ∧ W128 (-dtot d h mi s n) := by unfold I64 at *; unfold W128 dtot; omega
  obtain ⟨wt1, wt2⟩ := wt
  have ut := utot a b c d h mi s n i4 i5 i6 i7 i8
  have qt := cmpI_lt0 (a := -dtot d h mi s n) (b := 9007199254740992000000000)
  refine fn_of Tryz.func25 rfl fun ww => ?_
  refine st_fn ent64 (us) sub0 (by kernel_rfl) ?_
  refine ufields_row 0 0 (by kernel_rfl) ?_
  refine st_forget [0,1,3,7,8,9,10,11,12,46,47,48,49,50,51,52,53,54,55,56,57,58] (by kernel_rfl) ?_
  refine st_loop (X := Int) (fun x => ([SV.val (Value.agg #[vI64 a,vI64 b,vI64 c,vI64 d,vI64 h,vI64 mi,vI64 s,vI64 n]),SV.ptr 0 0,.any,SV.val (vI64 (-1)),.any,.any,.any,svZ,SV.val (Value.agg #[vI64 a,vI64 b,vI64 c,vI64 d,vI64 h,vI64 mi,vI64 s,vI64 n]),SV.val (vI64 (-1)),SV.sl 1 0 9 9,SV.val (vI64 (↑9 : Int)),.val (.int .i64 x),.any,.any,.any,.any,.any,.any,.any,.any,.any,.any,.any,.any,.any,.any,.any,.any,.any,.any,.any,.any,.any,.any,.any,.any,.any,.any,.any,.any,.any,.any,.any,.any,.any,svZ,svZ,svZ,svZ,svZ,svZ,svZ,svZ,svZ,svZ,svZ,svZ,svZ],[⟨[SV.val (vI64 a),SV.val (vI64 b),SV.val (vI64 c),SV.val (vI64 d),SV.val (vI64 h),SV.val (vI64 mi),SV.val (vI64 s),SV.val (vI64 n)],51⟩,⟨[SV.val (Value.pointer none),SV.ptr 0 0,SV.ptr 0 1,SV.ptr 0 2,SV.ptr 0 3,SV.ptr 0 4,SV.ptr 0 5,SV.ptr 0 6,SV.ptr 0 7],113⟩])) (fun _ => _) (fun k => 0 ≤ k ∧ k ≤ 9 ∧ (1 < k → a ≤ 0 ∧ -4294967295 ≤ a ∧ a ≤ 4294967295) ∧ (2 < k → b ≤ 0 ∧ -4294967295 ≤ b ∧ b ≤ 4294967295) ∧ (3 < k → c ≤ 0 ∧ -4294967295 ≤ c ∧ c ≤ 4294967295) ∧ (4 < k → d ≤ 0) ∧ (5 < k → h ≤ 0) ∧ (6 < k → mi ≤ 0) ∧ (7 < k → s ≤ 0) ∧ (8 < k → n ≤ 0)) (fun k => (9 - k).toNat) (0) (by kernel_rfl) (by kernel_rfl) Sub.refl (by first | omega | (simp; omega) | assumption | simp_all) (fun y0 px0 back0 => ?_)
  (have q := cmpI_sg (fl8 a b c d h mi s n y0); have hk0 : y0 = 0 ∨ y0 = 1 ∨ y0 = 2 ∨ y0 = 3 ∨ y0 = 4 ∨ y0 = 5 ∨ y0 = 6 ∨ y0 = 7 ∨ y0 = 8 ∨ y0 = 9 := (by omega); rcases hk0 with rfl | rfl | rfl | rfl | rfl | rfl | rfl | rfl | rfl | rfl <;> simp only [fl8, Int.reduceEq, if_true, if_false] at q)
  · have _hh := True.intro
    refine st_i 45 .i64 (x' := 0 + 1) (Go.IntWalk.i64_in _ (by omega)) (by kernel_rfl) ?_
    refine st_forget [0,1,2,3,6,7,8,9,10,11,12,19,20,21,22,23,24,25,26,27,28,29,30,31,32,33,34,35,36,37,38,39,40,41,42,43,44,46,47,48,49,50,51,52,53,54,55,56,57,58] (by kernel_rfl) ?_
    exact st_back back0 (0 + 1) (by first | omega | (simp only []; omega) | (simp; omega)) (by first | (refine b_eq (decide_eq_false ?_).symm; unfold uOk pos8 neg8 cnt1 LIM; omega) | (refine b_eq (decide_eq_decide.2 ?_); unfold uOk pos8 neg8 cnt1 LIM; rw [qt]; unfold dtot; omega) | omega | (simp only []; omega) | (simp; omega) | assumption | simp_all) (fun p hp => by first | exact hp | simp_all) (by kernel_rfl) (by kernel_rfl) (by kernel_rfl)
  · have _hh := True.intro
    refine st_fn ent30 (wof_fn (a) (by assumption)) sub0 (by kernel_rfl) ?_
    refine st_fn ent16 (wsign_fn (a)) sub0 (by kernel_rfl) ?_
    by_cases k25 : cmpI a 0 ≠ 0
    · refine st_b 25 (bne_iff_ne.2 k25) (by kernel_rfl) ?_
      refine st_b 29 (show (cmpI a 0 != -1) = false by exact bne_eq_false_iff_eq.2 (by omega)) (by kernel_rfl) ?_
      refine st_b 37 (show (decide (a > 4294967295)) = false by exact decide_eq_false (by omega)) (by kernel_rfl) ?_
      by_cases k42 : a < -4294967295
      · refine st_b 42 (decide_eq_true k42) (by kernel_rfl) ?_
        exact st_retv Tryz.func25 (show Value.bool (false) = _ by (refine b_eq (decide_eq_false ?_).symm; unfold uOk pos8 neg8 cnt1 LIM; omega)) (by kernel_rfl)
      · refine st_b 42 (decide_eq_false k42) (by kernel_rfl) ?_
        refine st_i 45 .i64 (x' := 1 + 1) (Go.IntWalk.i64_in _ (by omega)) (by kernel_rfl) ?_
        refine st_forget [0,1,2,3,7,8,9,10,11,12,46,47,48,49,50,51,52,53,54,55,56,57,58] (by kernel_rfl) ?_
        exact st_back back0 (1 + 1) (by first | omega | (simp only []; omega) | (simp; omega)) (by first | (refine b_eq (decide_eq_false ?_).symm; unfold uOk pos8 neg8 cnt1 LIM; omega) | (refine b_eq (decide_eq_decide.2 ?_); unfold uOk pos8 neg8 cnt1 LIM; rw [qt]; unfold dtot; omega) | omega | (simp only []; omega) | (simp; omega) | assumption | simp_all) (fun p hp => by first | exact hp | simp_all) (by kernel_rfl) (by kernel_rfl) (by kernel_rfl)
    · refine st_b 25 (bne_eq_false_iff_eq.2 (Classical.not_not.1 k25)) (by kernel_rfl) ?_
      refine st_b 37 (show (decide (a > 4294967295)) = false by exact decide_eq_false (by omega)) (by kernel_rfl) ?_
      refine st_b 42 (show (decide (a < -4294967295)) = false by exact decide_eq_false (by omega)) (by kernel_rfl) ?_
      refine st_i 45 .i64 (x' := 1 + 1) (Go.IntWalk.i64_in _ (by omega)) (by kernel_rfl) ?_
      refine st_forget [0,1,2,3,7,8,9,10,11,12,46,47,48,49,50,51,52,53,54,55,56,57,58] (by kernel_rfl) ?_
      exact st_back back0 (1 + 1) (by first | omega | (simp only []; omega) | (simp; omega)) (by first | (refine b_eq (decide_eq_false ?_).symm; unfold uOk pos8 neg8 cnt1 LIM; omega) | (refine b_eq (decide_eq_decide.2 ?_); unfold uOk pos8 neg8 cnt1 LIM; rw [qt]; unfold dtot; omega) | omega | (simp only []; omega) | (simp; omega) | assumption | simp_all) (fun p hp => by first | exact hp | simp_all) (by kernel_rfl) (by kernel_rfl) (by kernel_rfl)
  · have _hh := True.intro
    refine st_fn ent30 (wof_fn (b) (by assumption)) sub0 (by kernel_rfl) ?_
    refine st_fn ent16 (wsign_fn (b)) sub0 (by kernel_rfl) ?_
    by_cases k25 : cmpI b 0 ≠ 0
    · refine st_b 25 (bne_iff_ne.2 k25) (by kernel_rfl) ?_
      by_cases k29 : cmpI b 0 ≠ -1
      · refine st_b 29 (bne_iff_ne.2 k29) (by kernel_rfl) ?_
        exact st_retv Tryz.func25 (show Value.bool (false) = _ by (refine b_eq (decide_eq_false ?_).symm; unfold uOk pos8 neg8 cnt1 LIM; omega)) (by kernel_rfl)
      · refine st_b 29 (bne_eq_false_iff_eq.2 (Classical.not_not.1 k29)) (by kernel_rfl) ?_
        refine st_b 37 (show (decide (b > 4294967295)) = false by exact decide_eq_false (by omega)) (by kernel_rfl) ?_
        by_cases k42 : b < -4294967295
        · refine st_b 42 (decide_eq_true k42) (by kernel_rfl) ?_
          exact st_retv Tryz.func25 (show Value.bool (false) = _ by (refine b_eq (decide_eq_false ?_).symm; unfold uOk pos8 neg8 cnt1 LIM; omega)) (by kernel_rfl)
        · refine st_b 42 (decide_eq_false k42) (by kernel_rfl) ?_
          refine st_i 45 .i64 (x' := 2 + 1) (Go.IntWalk.i64_in _ (by omega)) (by kernel_rfl) ?_
          refine st_forget [0,1,2,3,7,8,9,10,11,12,46,47,48,49,50,51,52,53,54,55,56,57,58] (by kernel_rfl) ?_
          exact st_back back0 (2 + 1) (by first | omega | (simp only []; omega) | (simp; omega)) (by first | (refine b_eq (decide_eq_false ?_).symm; unfold uOk pos8 neg8 cnt1 LIM; omega) | (refine b_eq (decide_eq_decide.2 ?_); unfold uOk pos8 neg8 cnt1 LIM; rw [qt]; unfold dtot; omega) | omega | (simp only []; omega) | (simp; omega) | assumption | simp_all) (fun p hp => by first | exact hp | simp_all) (by kernel_rfl) (by kernel_rfl) (by kernel_rfl)
    · refine st_b 25 (bne_eq_false_iff_eq.2 (Classical.not_not.1 k25)) (by kernel_rfl) ?_
      refine st_b 37 (show (decide (b > 4294967295)) = false by exact decide_eq_false (by omega)) (by kernel_rfl) ?_
      refine st_b 42 (show (decide (b < -4294967295)) = false by exact decide_eq_false (by omega)) (by kernel_rfl) ?_
      refine st_i 45 .i64 (x' := 2 + 1) (Go.IntWalk.i64_in _ (by omega)) (by kernel_rfl) ?_
      refine st_forget [0,1,2,3,7,8,9,10,11,12,46,47,48,49,50,51,52,53,54,55,56,57,58] (by kernel_rfl) ?_
      exact st_back back0 (2 + 1) (by first | omega | (simp only []; omega) | (simp; omega)) (by first | (refine b_eq (decide_eq_false ?_).symm; unfold uOk pos8 neg8 cnt1 LIM; omega) | (refine b_eq (decide_eq_decide.2 ?_); unfold uOk pos8 neg8 cnt1 LIM; rw [qt]; unfold dtot; omega) | omega | (simp only []; omega) | (simp; omega) | assumption | simp_all) (fun p hp => by first | exact hp | simp_all) (by kernel_rfl) (by kernel_rfl) (by kernel_rfl)
  · have _hh := True.intro
    refine st_fn ent30 (wof_fn (c) (by assumption)) sub0 (by kernel_rfl) ?_
    refine st_fn ent16 (wsign_fn (c)) sub0 (by kernel_rfl) ?_
    by_cases k25 : cmpI c 0 ≠ 0
    · refine st_b 25 (bne_iff_ne.2 k25) (by kernel_rfl) ?_
      by_cases k29 : cmpI c 0 ≠ -1
      · refine st_b 29 (bne_iff_ne.2 k29) (by kernel_rfl) ?_
        exact st_retv Tryz.func25 (show Value.bool (false) = _ by (refine b_eq (decide_eq_false ?_).symm; unfold uOk pos8 neg8 cnt1 LIM; omega)) (by kernel_rfl)
      · refine st_b 29 (bne_eq_false_iff_eq.2 (Classical.not_not.1 k29)) (by kernel_rfl) ?_
        refine st_b 37 (show (decide (c > 4294967295)) = false by exact decide_eq_false (by omega)) (by kernel_rfl) ?_
        by_cases k42 : c < -4294967295
        · refine st_b 42 (decide_eq_true k42) (by kernel_rfl) ?_
          exact st_retv Tryz.func25 (show Value.bool (false) = _ by (refine b_eq (decide_eq_false ?_).symm; unfold uOk pos8 neg8 cnt1 LIM; omega)) (by kernel_rfl)
        · refine st_b 42 (decide_eq_false k42) (by kernel_rfl) ?_
          refine st_i 45 .i64 (x' := 3 + 1) (Go.IntWalk.i64_in _ (by omega)) (by kernel_rfl) ?_
          refine st_forget [0,1,2,3,7,8,9,10,11,12,46,47,48,49,50,51,52,53,54,55,56,57,58] (by kernel_rfl) ?_
          exact st_back back0 (3 + 1) (by first | omega | (simp only []; omega) | (simp; omega)) (by first | (refine b_eq (decide_eq_false ?_).symm; unfold uOk pos8 neg8 cnt1 LIM; omega) | (refine b_eq (decide_eq_decide.2 ?_); unfold uOk pos8 neg8 cnt1 LIM; rw [qt]; unfold dtot; omega) | omega | (simp only []; omega) | (simp; omega) | assumption | simp_all) (fun p hp => by first | exact hp | simp_all) (by kernel_rfl) (by kernel_rfl) (by kernel_rfl)
    · refine st_b 25 (bne_eq_false_iff_eq.2 (Classical.not_not.1 k25)) (by kernel_rfl) ?_
      refine st_b 37 (show (decide (c > 4294967295)) = false by exact decide_eq_false (by omega)) (by kernel_rfl) ?_
      refine st_b 42 (show (decide (c < -4294967295)) = false by exact decide_eq_false (by omega)) (by kernel_rfl) ?_
      refine st_i 45 .i64 (x' := 3 + 1) (Go.IntWalk.i64_in _ (by omega)) (by kernel_rfl) ?_
      refine st_forget [0,1,2,3,7,8,9,10,11,12,46,47,48,49,50,51,52,53,54,55,56,57,58] (by kernel_rfl) ?_
      exact st_back back0 (3 + 1) (by first | omega | (simp only []; omega) | (simp; omega)) (by first | (refine b_eq (decide_eq_false ?_).symm; unfold uOk pos8 neg8 cnt1 LIM; omega) | (refine b_eq (decide_eq_decide.2 ?_); unfold uOk pos8 neg8 cnt1 LIM; rw [qt]; unfold dtot; omega) | omega | (simp only []; omega) | (simp; omega) | assumption | simp_all) (fun p hp => by first | exact hp | simp_all) (by kernel_rfl) (by kernel_rfl) (by kernel_rfl)
  · have _hh := True.intro
    refine st_fn ent30 (wof_fn (d) (by assumption)) sub0 (by kernel_rfl) ?_
    refine st_fn ent16 (wsign_fn (d)) sub0 (by kernel_rfl) ?_
    by_cases k25 : cmpI d 0 ≠ 0
    · refine st_b 25 (bne_iff_ne.2 k25) (by kernel_rfl) ?_
      by_cases k29 : cmpI d 0 ≠ -1
      · refine st_b 29 (bne_iff_ne.2 k29) (by kernel_rfl) ?_
        exact st_retv Tryz.func25 (show Value.bool (false) = _ by (refine b_eq (decide_eq_false ?_).symm; unfold uOk pos8 neg8 cnt1 LIM; omega)) (by kernel_rfl)
      · refine st_b 29 (bne_eq_false_iff_eq.2 (Classical.not_not.1 k29)) (by kernel_rfl) ?_
        refine st_i 45 .i64 (x' := 4 + 1) (Go.IntWalk.i64_in _ (by omega)) (by kernel_rfl) ?_
        refine st_forget [0,1,2,3,7,8,9,10,11,12,46,47,48,49,50,51,52,53,54,55,56,57,58] (by kernel_rfl) ?_
        exact st_back back0 (4 + 1) (by first | omega | (simp only []; omega) | (simp; omega)) (by first | (refine b_eq (decide_eq_false ?_).symm; unfold uOk pos8 neg8 cnt1 LIM; omega) | (refine b_eq (decide_eq_decide.2 ?_); unfold uOk pos8 neg8 cnt1 LIM; rw [qt]; unfold dtot; omega) | omega | (simp only []; omega) | (simp; omega) | assumption | simp_all) (fun p hp => by first | exact hp | simp_all) (by kernel_rfl) (by kernel_rfl) (by kernel_rfl)
    · refine st_b 25 (bne_eq_false_iff_eq.2 (Classical.not_not.1 k25)) (by kernel_rfl) ?_
      refine st_i 45 .i64 (x' := 4 + 1) (Go.IntWalk.i64_in _ (by omega)) (by kernel_rfl) ?_
      refine st_forget [0,1,2,3,7,8,9,10,11,12,46,47,48,49,50,51,52,53,54,55,56,57,58] (by kernel_rfl) ?_
      exact st_back back0 (4 + 1) (by first | omega | (simp only []; omega) | (simp; omega)) (by first | (refine b_eq (decide_eq_false ?_).symm; unfold uOk pos8 neg8 cnt1 LIM; omega) | (refine b_eq (decide_eq_decide.2 ?_); unfold uOk pos8 neg8 cnt1 LIM; rw [qt]; unfold dtot; omega) | omega | (simp only []; omega) | (simp; omega) | assumption | simp_all) (fun p hp => by first | exact hp | simp_all) (by kernel_rfl) (by kernel_rfl) (by kernel_rfl)
  · have _hh := True.intro
    refine st_fn ent30 (wof_fn (h) (by assumption)) sub0 (by kernel_rfl) ?_
    refine st_fn ent16 (wsign_fn (h)) sub0 (by kernel_rfl) ?_
    by_cases k25 : cmpI h 0 ≠ 0
    · refine st_b 25 (bne_iff_ne.2 k25) (by kernel_rfl) ?_
      by_cases k29 : cmpI h 0 ≠ -1
      · refine st_b 29 (bne_iff_ne.2 k29) (by kernel_rfl) ?_
        exact st_retv Tryz.func25 (show Value.bool (false) = _ by (refine b_eq (decide_eq_false ?_).symm; unfold uOk pos8 neg8 cnt1 LIM; omega)) (by kernel_rfl)
      · refine st_b 29 (bne_eq_false_iff_eq.2 (Classical.not_not.1 k29)) (by kernel_rfl) ?_
        refine st_i 45 .i64 (x' := 5 + 1) (Go.IntWalk.i64_in _ (by omega)) (by kernel_rfl) ?_
        refine st_forget [0,1,2,3,7,8,9,10,11,12,46,47,48,49,50,51,52,53,54,55,56,57,58] (by kernel_rfl) ?_
        exact st_back back0 (5 + 1) (by first | omega | (simp only []; omega) | (simp; omega)) (by first | (refine b_eq (decide_eq_false ?_).symm; unfold uOk pos8 neg8 cnt1 LIM; omega) | (refine b_eq (decide_eq_decide.2 ?_); unfold uOk pos8 neg8 cnt1 LIM; rw [qt]; unfold dtot; omega) | omega | (simp only []; omega) | (simp; omega) | assumption | simp_all) (fun p hp => by first | exact hp | simp_all) (by kernel_rfl) (by kernel_rfl) (by kernel_rfl)
    · refine st_b 25 (bne_eq_false_iff_eq.2 (Classical.not_not.1 k25)) (by kernel_rfl) ?_
      refine st_i 45 .i64 (x' := 5 + 1) (Go.IntWalk.i64_in _ (by omega)) (by kernel_rfl) ?_
      refine st_forget [0,1,2,3,7,8,9,10,11,12,46,47,48,49,50,51,52,53,54,55,56,57,58] (by kernel_rfl) ?_
      exact st_back back0 (5 + 1) (by first | omega | (simp only []; omega) | (simp; omega)) (by first | (refine b_eq (decide_eq_false ?_).symm; unfold uOk pos8 neg8 cnt1 LIM; omega) | (refine b_eq (decide_eq_decide.2 ?_); unfold uOk pos8 neg8 cnt1 LIM; rw [qt]; unfold dtot; omega) | omega | (simp only []; omega) | (simp; omega) | assumption | simp_all) (fun p hp => by first | exact hp | simp_all) (by kernel_rfl) (by kernel_rfl) (by kernel_rfl)
  · have _hh := True.intro
    refine st_fn ent30 (wof_fn (mi) (by assumption)) sub0 (by kernel_rfl) ?_
    refine st_fn ent16 (wsign_fn (mi)) sub0 (by kernel_rfl) ?_
    by_cases k25 : cmpI mi 0 ≠ 0
    · refine st_b 25 (bne_iff_ne.2 k25) (by kernel_rfl) ?_
      by_cases k29 : cmpI mi 0 ≠ -1
      · refine st_b 29 (bne_iff_ne.2 k29) (by kernel_rfl) ?_
        exact st_retv Tryz.func25 (show Value.bool (false) = _ by (refine b_eq (decide_eq_false ?_).symm; unfold uOk pos8 neg8 cnt1 LIM; omega)) (by kernel_rfl)
      · refine st_b 29 (bne_eq_false_iff_eq.2 (Classical.not_not.1 k29)) (by kernel_rfl) ?_
        refine st_i 45 .i64 (x' := 6 + 1) (Go.IntWalk.i64_in _ (by omega)) (by kernel_rfl) ?_
        refine st_forget [0,1,2,3,7,8,9,10,11,12,46,47,48,49,50,51,52,53,54,55,56,57,58] (by kernel_rfl) ?_
        exact st_back back0 (6 + 1) (by first | omega | (simp only []; omega) | (simp; omega)) (by first | (refine b_eq (decide_eq_false ?_).symm; unfold uOk pos8 neg8 cnt1 LIM; omega) | (refine b_eq (decide_eq_decide.2 ?_); unfold uOk pos8 neg8 cnt1 LIM; rw [qt]; unfold dtot; omega) | omega | (simp only []; omega) | (simp; omega) | assumption | simp_all) (fun p hp => by first | exact hp | simp_all) (by kernel_rfl) (by kernel_rfl) (by kernel_rfl)
    · refine st_b 25 (bne_eq_false_iff_eq.2 (Classical.not_not.1 k25)) (by kernel_rfl) ?_
      refine st_i 45 .i64 (x' := 6 + 1) (Go.IntWalk.i64_in _ (by omega)) (by kernel_rfl) ?_
      refine st_forget [0,1,2,3,7,8,9,10,11,12,46,47,48,49,50,51,52,53,54,55,56,57,58] (by kernel_rfl) ?_
      exact st_back back0 (6 + 1) (by first | omega | (simp only []; omega) | (simp; omega)) (by first | (refine b_eq (decide_eq_false ?_).symm; unfold uOk pos8 neg8 cnt1 LIM; omega) | (refine b_eq (decide_eq_decide.2 ?_); unfold uOk pos8 neg8 cnt1 LIM; rw [qt]; unfold dtot; omega) | omega | (simp only []; omega) | (simp; omega) | assumption | simp_all) (fun p hp => by first | exact hp | simp_all) (by kernel_rfl) (by kernel_rfl) (by kernel_rfl)
  · have _hh := True.intro
    refine st_fn ent30 (wof_fn (s) (by assumption)) sub0 (by kernel_rfl) ?_
    refine st_fn ent16 (wsign_fn (s)) sub0 (by kernel_rfl) ?_
    by_cases k25 : cmpI s 0 ≠ 0
    · refine st_b 25 (bne_iff_ne.2 k25) (by kernel_rfl) ?_
      by_cases k29 : cmpI s 0 ≠ -1
      · refine st_b 29 (bne_iff_ne.2 k29) (by kernel_rfl) ?_
        exact st_retv Tryz.func25 (show Value.bool (false) = _ by (refine b_eq (decide_eq_false ?_).symm; unfold uOk pos8 neg8 cnt1 LIM; omega)) (by kernel_rfl)
      · refine st_b 29 (bne_eq_false_iff_eq.2 (Classical.not_not.1 k29)) (by kernel_rfl) ?_
        refine st_i 45 .i64 (x' := 7 + 1) (Go.IntWalk.i64_in _ (by omega)) (by kernel_rfl) ?_
        refine st_forget [0,1,2,3,7,8,9,10,11,12,46,47,48,49,50,51,52,53,54,55,56,57,58] (by kernel_rfl) ?_
        exact st_back back0 (7 + 1) (by first | omega | (simp only []; omega) | (simp; omega)) (by first | (refine b_eq (decide_eq_false ?_).symm; unfold uOk pos8 neg8 cnt1 LIM; omega) | (refine b_eq (decide_eq_decide.2 ?_); unfold uOk pos8 neg8 cnt1 LIM; rw [qt]; unfold dtot; omega) | omega | (simp only []; omega) | (simp; omega) | assumption | simp_all) (fun p hp => by first | exact hp | simp_all) (by kernel_rfl) (by kernel_rfl) (by kernel_rfl)
    · refine st_b 25 (bne_eq_false_iff_eq.2 (Classical.not_not.1 k25)) (by kernel_rfl) ?_
      refine st_i 45 .i64 (x' := 7 + 1) (Go.IntWalk.i64_in _ (by omega)) (by kernel_rfl) ?_
      refine st_forget [0,1,2,3,7,8,9,10,11,12,46,47,48,49,50,51,52,53,54,55,56,57,58] (by kernel_rfl) ?_
      exact st_back back0 (7 + 1) (by first | omega | (simp only []; omega) | (simp; omega)) (by first | (refine b_eq (decide_eq_false ?_).symm; unfold uOk pos8 neg8 cnt1 LIM; omega) | (refine b_eq (decide_eq_decide.2 ?_); unfold uOk pos8 neg8 cnt1 LIM; rw [qt]; unfold dtot; omega) | omega | (simp only []; omega) | (simp; omega) | assumption | simp_all) (fun p hp => by first | exact hp | simp_all) (by kernel_rfl) (by kernel_rfl) (by kernel_rfl)
  · have _hh := True.intro
    refine st_fn ent30 (wof_fn (n) (by assumption)) sub0 (by kernel_rfl) ?_
    refine st_fn ent16 (wsign_fn (n)) sub0 (by kernel_rfl) ?_
    by_cases k25 : cmpI n 0 ≠ 0
    · refine st_b 25 (bne_iff_ne.2 k25) (by kernel_rfl) ?_
      by_cases k29 : cmpI n 0 ≠ -1
      · refine st_b 29 (bne_iff_ne.2 k29) (by kernel_rfl) ?_
        exact st_retv Tryz.func25 (show Value.bool (false) = _ by (refine b_eq (decide_eq_false ?_).symm; unfold uOk pos8 neg8 cnt1 LIM; omega)) (by kernel_rfl)
      · refine st_b 29 (bne_eq_false_iff_eq.2 (Classical.not_not.1 k29)) (by kernel_rfl) ?_
        refine st_i 45 .i64 (x' := 8 + 1) (Go.IntWalk.i64_in _ (by omega)) (by kernel_rfl) ?_
        refine st_forget [0,1,2,3,7,8,9,10,11,12,46,47,48,49,50,51,52,53,54,55,56,57,58] (by kernel_rfl) ?_
        exact st_back back0 (8 + 1) (by first | omega | (simp only []; omega) | (simp; omega)) (by first | (refine b_eq (decide_eq_false ?_).symm; unfold uOk pos8 neg8 cnt1 LIM; omega) | (refine b_eq (decide_eq_decide.2 ?_); unfold uOk pos8 neg8 cnt1 LIM; rw [qt]; unfold dtot; omega) | omega | (simp only []; omega) | (simp; omega) | assumption | simp_all) (fun p hp => by first | exact hp | simp_all) (by kernel_rfl) (by kernel_rfl) (by kernel_rfl)
    · refine st_b 25 (bne_eq_false_iff_eq.2 (Classical.not_not.1 k25)) (by kernel_rfl) ?_
      refine st_i 45 .i64 (x' := 8 + 1) (Go.IntWalk.i64_in _ (by omega)) (by kernel_rfl) ?_
      refine st_forget [0,1,2,3,7,8,9,10,11,12,46,47,48,49,50,51,52,53,54,55,56,57,58] (by kernel_rfl) ?_
      exact st_back back0 (8 + 1) (by first | omega | (simp only []; omega) | (simp; omega)) (by first | (refine b_eq (decide_eq_false ?_).symm; unfold uOk pos8 neg8 cnt1 LIM; omega) | (refine b_eq (decide_eq_decide.2 ?_); unfold uOk pos8 neg8 cnt1 LIM; rw [qt]; unfold dtot; omega) | omega | (simp only []; omega) | (simp; omega) | assumption | simp_all) (fun p hp => by first | exact hp | simp_all) (by kernel_rfl) (by kernel_rfl) (by kernel_rfl)
  · have _hh := True.intro
    refine st_fn ent66 (ut) sub0 (by kernel_rfl) ?_
    refine st_fn ent67 (wneg_yes (dtot d h mi s n) (by assumption) (by assumption)) sub0 (by kernel_rfl) ?_
    refine st_fn ent68 (ulimit) sub0 (by kernel_rfl) ?_
    refine st_fn ent55 (wcmp_fn (-dtot d h mi s n) (9007199254740992000000000)) sub0 (by kernel_rfl) ?_
    exact st_retv Tryz.func25 (show Value.bool (decide (cmpI (-dtot d h mi s n) 9007199254740992000000000 < 0)) = _ by (refine b_eq (decide_eq_decide.2 ?_); unfold uOk pos8 neg8 cnt1 LIM; rw [qt]; unfold dtot; omega)) (by kernel_rfl)
theorem uright_z (i : all64 a b c d h mi s n) (hs : sg8 a b c d h mi s n = 0) (hk : a = 0 ∧ b = 0 ∧ c = 0 ∧ d = 0 ∧ h = 0 ∧ mi = 0 ∧ s = 0 ∧ n = 0) : Fn 25 [] [duv a b c d h mi s n] (.bool (decide (uOk a b c d h mi s n))) := by
  have us := usign a b c d h mi s n i
  rw [hs] at us
  obtain ⟨i1, i2, i3, i4, i5, i6, i7, i8⟩ := i
  have wt : W128 (dtot d h mi s n) ∧ W128 (-dtot d h mi s n) := by unfold I64 at *; unfold W128 dtot; omega
  obtain ⟨wt1, wt2⟩ := wt
  have ut := utot a b c d h mi s n i4 i5 i6 i7 i8
  have qt := cmpI_lt0 (a := dtot d h mi s n) (b := 9007199254740992000000000)
  refine fn_of Tryz.func25 rfl fun ww => ?_
  refine st_fn ent64 (us) sub0 (by kernel_rfl) ?_
  refine ufields_row 0 0 (by kernel_rfl) ?_
  refine st_forget [0,1,3,7,8,9,10,11,12,46,47,48,49,50,51,52,53,54,55,56,57,58] (by kernel_rfl) ?_
  refine st_loop (X := Int) (fun x => ([SV.val (Value.agg #[vI64 a,vI64 b,vI64 c,vI64 d,vI64 h,vI64 mi,vI64 s,vI64 n]),SV.ptr 0 0,.any,SV.val (vI64 0),.any,.any,.any,svZ,SV.val (Value.agg #[vI64 a,vI64 b,vI64 c,vI64 d,vI64 h,vI64 mi,vI64 s,vI64 n]),SV.val (vI64 0),SV.sl 1 0 9 9,SV.val (vI64 (↑9 : Int)),.val (.int .i64 x),.any,.any,.any,.any,.any,.any,.any,.any,.any,.any,.any,.any,.any,.any,.any,.any,.any,.any,.any,.any,.any,.any,.any,.any,.any,.any,.any,.any,.any,.any,.any,.any,.any,svZ,svZ,svZ,svZ,svZ,svZ,svZ,svZ,svZ,svZ,svZ,svZ,svZ],[⟨[SV.val (vI64 a),SV.val (vI64 b),SV.val (vI64 c),SV.val (vI64 d),SV.val (vI64 h),SV.val (vI64 mi),SV.val (vI64 s),SV.val (vI64 n)],51⟩,⟨[SV.val (Value.pointer none),SV.ptr 0 0,SV.ptr 0 1,SV.ptr 0 2,SV.ptr 0 3,SV.ptr 0 4,SV.ptr 0 5,SV.ptr 0 6,SV.ptr 0 7],113⟩])) (fun _ => _) (fun k => 0 ≤ k ∧ k ≤ 9 ∧ (1 < k → a = 0 ∧ -4294967295 ≤ a ∧ a ≤ 4294967295) ∧ (2 < k → b = 0 ∧ -4294967295 ≤ b ∧ b ≤ 4294967295) ∧ (3 < k → c = 0 ∧ -4294967295 ≤ c ∧ c ≤ 4294967295) ∧ (4 < k → d = 0) ∧ (5 < k → h = 0) ∧ (6 < k → mi = 0) ∧ (7 < k → s = 0) ∧ (8 < k → n = 0)) (fun k => (9 - k).toNat) (0) (by kernel_rfl) (by kernel_rfl) Sub.refl (by first | omega | (simp; omega) | assumption | simp_all) (fun y0 px0 back0 => ?_)
  (have q := cmpI_sg (fl8 a b c d h mi s n y0); have hk0 : y0 = 0 ∨ y0 = 1 ∨ y0 = 2 ∨ y0 = 3 ∨ y0 = 4 ∨ y0 = 5 ∨ y0 = 6 ∨ y0 = 7 ∨ y0 = 8 ∨ y0 = 9 := (by omega); rcases hk0 with rfl | rfl | rfl | rfl | rfl | rfl | rfl | rfl | rfl | rfl <;> simp only [fl8, Int.reduceEq, if_true, if_false] at q)
  · have _hh := True.intro
    refine st_i 45 .i64 (x' := 0 + 1) (Go.IntWalk.i64_in _ (by omega)) (by kernel_rfl) ?_
    refine st_forget [0,1,2,3,6,7,8,9,10,11,12,19,20,21,22,23,24,25,26,27,28,29,30,31,32,33,34,35,36,37,38,39,40,41,42,43,44,46,47,48,49,50,51,52,53,54,55,56,57,58] (by kernel_rfl) ?_
    exact st_back back0 (0 + 1) (by first | omega | (simp only []; omega) | (simp; omega)) (by first | (refine b_eq (decide_eq_false ?_).symm; unfold uOk pos8 neg8 cnt1 LIM; omega) | (refine b_eq (decide_eq_decide.2 ?_); unfold uOk pos8 neg8 cnt1 LIM; rw [qt]; unfold dtot; omega) | omega | (simp only []; omega) | (simp; omega) | assumption | simp_all) (fun p hp => by first | exact hp | simp_all) (by kernel_rfl) (by kernel_rfl) (by kernel_rfl)
  · have _hh := True.intro
    refine st_fn ent30 (wof_fn (a) (by assumption)) sub0 (by kernel_rfl) ?_
    refine st_fn ent16 (wsign_fn (a)) sub0 (by kernel_rfl) ?_
    refine st_b 25 (show (cmpI a 0 != 0) = false by exact bne_eq_false_iff_eq.2 (by omega)) (by kernel_rfl) ?_
    refine st_b 37 (show (decide (a > 4294967295)) = false by exact decide_eq_false (by omega)) (by kernel_rfl) ?_
    refine st_b 42 (show (decide (a < -4294967295)) = false by exact decide_eq_false (by omega)) (by kernel_rfl) ?_
    refine st_i 45 .i64 (x' := 1 + 1) (Go.IntWalk.i64_in _ (by omega)) (by kernel_rfl) ?_
    refine st_forget [0,1,2,3,7,8,9,10,11,12,46,47,48,49,50,51,52,53,54,55,56,57,58] (by kernel_rfl) ?_
    exact st_back back0 (1 + 1) (by first | omega | (simp only []; omega) | (simp; omega)) (by first | (refine b_eq (decide_eq_false ?_).symm; unfold uOk pos8 neg8 cnt1 LIM; omega) | (refine b_eq (decide_eq_decide.2 ?_); unfold uOk pos8 neg8 cnt1 LIM; rw [qt]; unfold dtot; omega) | omega | (simp only []; omega) | (simp; omega) | assumption | simp_all) (fun p hp => by first | exact hp | simp_all) (by kernel_rfl) (by kernel_rfl) (by kernel_rfl)
  · have _hh := True.intro
    refine st_fn ent30 (wof_fn (b) (by assumption)) sub0 (by kernel_rfl) ?_
    refine st_fn ent16 (wsign_fn (b)) sub0 (by kernel_rfl) ?_
    refine st_b 25 (show (cmpI b 0 != 0) = false by exact bne_eq_false_iff_eq.2 (by omega)) (by kernel_rfl) ?_
    refine st_b 37 (show (decide (b > 4294967295)) = false by exact decide_eq_false (by omega)) (by kernel_rfl) ?_
    refine st_b 42 (show (decide (b < -4294967295)) = false by exact decide_eq_false (by omega)) (by kernel_rfl) ?_
    refine st_i 45 .i64 (x' := 2 + 1) (Go.IntWalk.i64_in _ (by omega)) (by kernel_rfl) ?_
    refine st_forget [0,1,2,3,7,8,9,10,11,12,46,47,48,49,50,51,52,53,54,55,56,57,58] (by kernel_rfl) ?_
    exact st_back back0 (2 + 1) (by first | omega | (simp only []; omega) | (simp; omega)) (by first | (refine b_eq (decide_eq_false ?_).symm; unfold uOk pos8 neg8 cnt1 LIM; omega) | (refine b_eq (decide_eq_decide.2 ?_); unfold uOk pos8 neg8 cnt1 LIM; rw [qt]; unfold dtot; omega) | omega | (simp only []; omega) | (simp; omega) | assumption | simp_all) (fun p hp => by first | exact hp | simp_all) (by kernel_rfl) (by kernel_rfl) (by kernel_rfl)
  · have _hh := True.intro
    refine st_fn ent30 (wof_fn (c) (by assumption)) sub0 (by kernel_rfl) ?_
    refine st_fn ent16 (wsign_fn (c)) sub0 (by kernel_rfl) ?_
    refine st_b 25 (show (cmpI c 0 != 0) = false by exact bne_eq_false_iff_eq.2 (by omega)) (by kernel_rfl) ?_
    refine st_b 37 (show (decide (c > 4294967295)) = false by exact decide_eq_false (by omega)) (by kernel_rfl) ?_
    refine st_b 42 (show (decide (c < -4294967295)) = false by exact decide_eq_false (by omega)) (by kernel_rfl) ?_
    refine st_i 45 .i64 (x' := 3 + 1) (Go.IntWalk.i64_in _ (by omega)) (by kernel_rfl) ?_
    refine st_forget [0,1,2,3,7,8,9,10,11,12,46,47,48,49,50,51,52,53,54,55,56,57,58] (by kernel_rfl) ?_
    exact st_back back0 (3 + 1) (by first | omega | (simp only []; omega) | (simp; omega)) (by first | (refine b_eq (decide_eq_false ?_).symm; unfold uOk pos8 neg8 cnt1 LIM; omega) | (refine b_eq (decide_eq_decide.2 ?_); unfold uOk pos8 neg8 cnt1 LIM; rw [qt]; unfold dtot; omega) | omega | (simp only []; omega) | (simp; omega) | assumption | simp_all) (fun p hp => by first | exact hp | simp_all) (by kernel_rfl) (by kernel_rfl) (by kernel_rfl)
  · have _hh := True.intro
    refine st_fn ent30 (wof_fn (d) (by assumption)) sub0 (by kernel_rfl) ?_
    refine st_fn ent16 (wsign_fn (d)) sub0 (by kernel_rfl) ?_
    refine st_b 25 (show (cmpI d 0 != 0) = false by exact bne_eq_false_iff_eq.2 (by omega)) (by kernel_rfl) ?_
    refine st_i 45 .i64 (x' := 4 + 1) (Go.IntWalk.i64_in _ (by omega)) (by kernel_rfl) ?_
    refine st_forget [0,1,2,3,7,8,9,10,11,12,46,47,48,49,50,51,52,53,54,55,56,57,58] (by kernel_rfl) ?_
    exact st_back back0 (4 + 1) (by first | omega | (simp only []; omega) | (simp; omega)) (by first | (refine b_eq (decide_eq_false ?_).symm; unfold uOk pos8 neg8 cnt1 LIM; omega) | (refine b_eq (decide_eq_decide.2 ?_); unfold uOk pos8 neg8 cnt1 LIM; rw [qt]; unfold dtot; omega) | omega | (simp only []; omega) | (simp; omega) | assumption | simp_all) (fun p hp => by first | exact hp | simp_all) (by kernel_rfl) (by kernel_rfl) (by kernel_rfl)
  · have _hh := True.intro
    refine st_fn ent30 (wof_fn (h) (by assumption)) sub0 (by kernel_rfl) ?_
    refine st_fn ent16 (wsign_fn (h)) sub0 (by kernel_rfl) ?_
    refine st_b 25 (show (cmpI h 0 != 0) = false by exact bne_eq_false_iff_eq.2 (by omega)) (by kernel_rfl) ?_
    refine st_i 45 .i64 (x' := 5 + 1) (Go.IntWalk.i64_in _ (by omega)) (by kernel_rfl) ?_
    refine st_forget [0,1,2,3,7,8,9,10,11,12,46,47,48,49,50,51,52,53,54,55,56,57,58] (by kernel_rfl) ?_
    exact st_back back0 (5 + 1) (by first | omega | (simp only []; omega) | (simp; omega)) (by first | (refine b_eq (decide_eq_false ?_).symm; unfold uOk pos8 neg8 cnt1 LIM; omega) | (refine b_eq (decide_eq_decide.2 ?_); unfold uOk pos8 neg8 cnt1 LIM; rw [qt]; unfold dtot; omega) | omega | (simp only []; omega) | (simp; omega) | assumption | simp_all) (fun p hp => by first | exact hp | simp_all) (by kernel_rfl) (by kernel_rfl) (by kernel_rfl)
  · have _hh := True.intro
    refine st_fn ent30 (wof_fn (mi) (by assumption)) sub0 (by kernel_rfl) ?_
    refine st_fn ent16 (wsign_fn (mi)) sub0 (by kernel_rfl) ?_
    refine st_b 25 (show (cmpI mi 0 != 0) = false by exact bne_eq_false_iff_eq.2 (by omega)) (by kernel_rfl) ?_
    refine st_i 45 .i64 (x' := 6 + 1) (Go.IntWalk.i64_in _ (by omega)) (by kernel_rfl) ?_
    refine st_forget [0,1,2,3,7,8,9,10,11,12,46,47,48,49,50,51,52,53,54,55,56,57,58] (by kernel_rfl) ?_
    exact st_back back0 (6 + 1) (by first | omega | (simp only []; omega) | (simp; omega)) (by first | (refine b_eq (decide_eq_false ?_).symm; unfold uOk pos8 neg8 cnt1 LIM; omega) | (refine b_eq (decide_eq_decide.2 ?_); unfold uOk pos8 neg8 cnt1 LIM; rw [qt]; unfold dtot; omega) | omega | (simp only []; omega) | (simp; omega) | assumption | simp_all) (fun p hp => by first | exact hp | simp_all) (by kernel_rfl) (by kernel_rfl) (by kernel_rfl)
  · have _hh := True.intro
    refine st_fn ent30 (wof_fn (s) (by assumption)) sub0 (by kernel_rfl) ?_
    refine st_fn ent16 (wsign_fn (s)) sub0 (by kernel_rfl) ?_
    refine st_b 25 (show (cmpI s 0 != 0) = false by exact bne_eq_false_iff_eq.2 (by omega)) (by kernel_rfl) ?_
    refine st_i 45 .i64 (x' := 7 + 1) (Go.IntWalk.i64_in _ (by omega)) (by kernel_rfl) ?_
    refine st_forget [0,1,2,3,7,8,9,10,11,12,46,47,48,49,50,51,52,53,54,55,56,57,58] (by kernel_rfl) ?_
    exact st_back back0 (7 + 1) (by first | omega | (simp only []; omega) | (simp; omega)) (by first | (refine b_eq (decide_eq_false ?_).symm; unfold uOk pos8 neg8 cnt1 LIM; omega) | (refine b_eq (decide_eq_decide.2 ?_); unfold uOk pos8 neg8 cnt1 LIM; rw [qt]; unfold dtot; omega) | omega | (simp only []; omega) | (simp; omega) | assumption | simp_all) (fun p hp => by first | exact hp | simp_all) (by kernel_rfl) (by kernel_rfl) (by kernel_rfl)
  · have _hh := True.intro
    refine st_fn ent30 (wof_fn (n) (by assumption)) sub0 (by kernel_rfl) ?_
    refine st_fn ent16 (wsign_fn (n)) sub0 (by kernel_rfl) ?_
    refine st_b 25 (show (cmpI n 0 != 0) = false by exact bne_eq_false_iff_eq.2 (by omega)) (by kernel_rfl) ?_
    refine st_i 45 .i64 (x' := 8 + 1) (Go.IntWalk.i64_in _ (by omega)) (by kernel_rfl) ?_
    refine st_forget [0,1,2,3,7,8,9,10,11,12,46,47,48,49,50,51,52,53,54,55,56,57,58] (by kernel_rfl) ?_
    exact st_back back0 (8 + 1) (by first | omega | (simp only []; omega) | (simp; omega)) (by first | (refine b_eq (decide_eq_false ?_).symm; unfold uOk pos8 neg8 cnt1 LIM; omega) | (refine b_eq (decide_eq_decide.2 ?_); unfold uOk pos8 neg8 cnt1 LIM; rw [qt]; unfold dtot; omega) | omega | (simp only []; omega) | (simp; omega) | assumption | simp_all) (fun p hp => by first | exact hp | simp_all) (by kernel_rfl) (by kernel_rfl) (by kernel_rfl)
  · have _hh := True.intro
    refine st_fn ent66 (ut) sub0 (by kernel_rfl) ?_
    refine st_fn ent68 (ulimit) sub0 (by kernel_rfl) ?_
    refine st_fn ent55 (wcmp_fn (dtot d h mi s n) (9007199254740992000000000)) sub0 (by kernel_rfl) ?_
    exact st_retv Tryz.func25 (show Value.bool (decide (cmpI (dtot d h mi s n) 9007199254740992000000000 < 0)) = _ by (refine b_eq (decide_eq_decide.2 ?_); unfold uOk pos8 neg8 cnt1 LIM; rw [qt]; unfold dtot; omega)) (by kernel_rfl)
end
end Go.Proofs.YthoedmikfpbfnaaGreat
end
section
/-
  Durations: what may be, as the reference reckons it.
-/
set_option linter.unusedVariables false
set_option maxRecDepth 100000
namespace Go.Proofs.YthoedmikfpbfnaaGreat
open Go Go.RowKit Go.Ev

theorem sg8_1 {a b c d h mi s n : Int} (q : 0 < a ∨ a = 0 ∧ (0 < b ∨ b = 0 ∧ (0 < c ∨ c = 0 ∧ (0 < d ∨ d = 0 ∧ (0 < h ∨ h = 0 ∧ (0 < mi ∨ mi = 0 ∧ (0 < s ∨ s = 0 ∧ (0 < n)))))))) : sg8 a b c d h mi s n = 1 := by
  unfold sg8
  by_cases ka : a = 0
  rotate_left
  · rw [if_pos (by omega)]; have := cmpI_sg a; omega
  rw [if_neg (by omega)]
  by_cases kb : b = 0
  rotate_left
  · rw [if_pos (by omega)]; have := cmpI_sg b; omega
  rw [if_neg (by omega)]
  by_cases kc : c = 0
  rotate_left
  · rw [if_pos (by omega)]; have := cmpI_sg c; omega
  rw [if_neg (by omega)]
  by_cases kd : d = 0
  rotate_left
  · rw [if_pos (by omega)]; have := cmpI_sg d; omega
  rw [if_neg (by omega)]
  by_cases kh : h = 0
  rotate_left
  · rw [if_pos (by omega)]; have := cmpI_sg h; omega
  rw [if_neg (by omega)]
  by_cases kmi : mi = 0
  rotate_left
  · rw [if_pos (by omega)]; have := cmpI_sg mi; omega
  rw [if_neg (by omega)]
  by_cases ks : s = 0
  rotate_left
  · rw [if_pos (by omega)]; have := cmpI_sg s; omega
  rw [if_neg (by omega)]
  have := cmpI_sg n; omega
theorem sg8_m {a b c d h mi s n : Int} (q : a < 0 ∨ a = 0 ∧ (b < 0 ∨ b = 0 ∧ (c < 0 ∨ c = 0 ∧ (d < 0 ∨ d = 0 ∧ (h < 0 ∨ h = 0 ∧ (mi < 0 ∨ mi = 0 ∧ (s < 0 ∨ s = 0 ∧ (n < 0)))))))) : sg8 a b c d h mi s n = -1 := by
  unfold sg8
  by_cases ka : a = 0
  rotate_left
  · rw [if_pos (by omega)]; have := cmpI_sg a; omega
  rw [if_neg (by omega)]
  by_cases kb : b = 0
  rotate_left
  · rw [if_pos (by omega)]; have := cmpI_sg b; omega
  rw [if_neg (by omega)]
  by_cases kc : c = 0
  rotate_left
  · rw [if_pos (by omega)]; have := cmpI_sg c; omega
  rw [if_neg (by omega)]
  by_cases kd : d = 0
  rotate_left
  · rw [if_pos (by omega)]; have := cmpI_sg d; omega
  rw [if_neg (by omega)]
  by_cases kh : h = 0
  rotate_left
  · rw [if_pos (by omega)]; have := cmpI_sg h; omega
  rw [if_neg (by omega)]
  by_cases kmi : mi = 0
  rotate_left
  · rw [if_pos (by omega)]; have := cmpI_sg mi; omega
  rw [if_neg (by omega)]
  by_cases ks : s = 0
  rotate_left
  · rw [if_pos (by omega)]; have := cmpI_sg s; omega
  rw [if_neg (by omega)]
  have := cmpI_sg n; omega
theorem sg8_0 {a b c d h mi s n : Int} (q : a = 0 ∧ b = 0 ∧ c = 0 ∧ d = 0 ∧ h = 0 ∧ mi = 0 ∧ s = 0 ∧ n = 0) : sg8 a b c d h mi s n = 0 := by
  unfold sg8
  by_cases ka : a = 0
  rotate_left
  · rw [if_pos (by omega)]; have := cmpI_sg a; omega
  rw [if_neg (by omega)]
  by_cases kb : b = 0
  rotate_left
  · rw [if_pos (by omega)]; have := cmpI_sg b; omega
  rw [if_neg (by omega)]
  by_cases kc : c = 0
  rotate_left
  · rw [if_pos (by omega)]; have := cmpI_sg c; omega
  rw [if_neg (by omega)]
  by_cases kd : d = 0
  rotate_left
  · rw [if_pos (by omega)]; have := cmpI_sg d; omega
  rw [if_neg (by omega)]
  by_cases kh : h = 0
  rotate_left
  · rw [if_pos (by omega)]; have := cmpI_sg h; omega
  rw [if_neg (by omega)]
  by_cases kmi : mi = 0
  rotate_left
  · rw [if_pos (by omega)]; have := cmpI_sg mi; omega
  rw [if_neg (by omega)]
  by_cases ks : s = 0
  rotate_left
  · rw [if_pos (by omega)]; have := cmpI_sg s; omega
  rw [if_neg (by omega)]
  have := cmpI_sg n; omega
end Go.Proofs.YthoedmikfpbfnaaGreat
end
section
/-
  round.up: the closures.
-/
set_option linter.unusedVariables false
set_option maxRecDepth 100000
namespace Go.Proofs.YthoedmikfpbfnaaGreat
open Go Go.RowKit Go.Ev

abbrev pv (b : Bool) (x : Int) (e : Bool) : Value := .agg #[.bool b, .int .i64 x, .bool e]
def PlaceAt (k : Nat) (b : Bool) (x : Int) (e : Bool) (w : World) : Prop := w.heap[k]? = some (.cells #[.bool b, .int .i64 x, .bool e] 157 (0, 0))
def HalfAt (h k : Nat) (w : World) : Prop := w.heap[h]? = some (.cells #[.func (.func 146) #[] #[.pointer (some ⟨k, 0, none⟩)]] 186 (0, 0))
def ET : List TypeId := [157, 186]
theorem PlaceAt.stable (k : Nat) (b : Bool) (x : Int) (e : Bool) : Stable ET (PlaceAt k b x e) := fun w w' hk h => hk _ _ _ _ (by simp [ET]) h
theorem HalfAt.stable (h k : Nat) : Stable ET (HalfAt h k) := fun w w' hk q => hk _ _ _ _ (by simp [ET]) q
theorem PlaceAt.c0 {k : Nat} {b : Bool} {x : Int} {e : Bool} {w : World} (h : PlaceAt k b x e w) : w.cell? ⟨k, 0, none⟩ = some (.bool b) := by unfold PlaceAt at h; simp [World.cell?, h]
theorem PlaceAt.c1 {k : Nat} {b : Bool} {x : Int} {e : Bool} {w : World} (h : PlaceAt k b x e w) : w.cell? ⟨k, 1, none⟩ = some (.int .i64 x) := by unfold PlaceAt at h; simp [World.cell?, h]
theorem PlaceAt.c2 {k : Nat} {b : Bool} {x : Int} {e : Bool} {w : World} (h : PlaceAt k b x e w) : w.cell? ⟨k, 2, none⟩ = some (.bool e) := by unfold PlaceAt at h; simp [World.cell?, h]
theorem HalfAt.c0 {h k : Nat} {w : World} (q : HalfAt h k w) : w.cell? ⟨h, 0, none⟩ = some (.func (.func 146) #[] #[.pointer (some ⟨k, 0, none⟩)]) := by unfold HalfAt at q; simp [World.cell?, q]
/-- Does a half go up? -/
def halfB (x : Int) (tie : Bool) : Bool := if 0 < x then true else if x = 0 then tie else false
abbrev RB (w : World) (v : Value) : Ending → World → Prop := fun e w' => e = .returned v ∧ Below w.heap.size w w'
section
variable {f0 : FuncId} {w0 : World} {R : Ending → World → Prop} {G : World → Prop} {c : Cf}
structure Rw (C : Cx) (G : World → Prop) (c : Cf) : Prop where
  h : Run C G c
theorem u_of {f : FuncId} {fn : Func} {cd : Code} {args : List Value} {v : Value} {w : World} (hf : Tryz.prog.funcs[f]? = some fn) (hb : fn.body = some cd) (hs : Stable ET G) (hG : G w) (h : Rw ⟨Tryz.prog, f, ET, w, (RB w v)⟩ G (startS fn args)) : Calls Tryz.prog f args.toArray w (RB w v) :=
  calls_run ET G hf hb hs hG h.h
theorem u_load {T : TypeId} {ad : Addr} {v : Value} (h : ∀ w, G w → (loadVar T ad).run Tryz.prog w = .ok v w) (hc : loadAt (adv Tryz.prog ET 9999 400 c) = some (T, ad)) (hk : Rw ⟨Tryz.prog, f0, ET, w0, R⟩ G (resume (adv Tryz.prog ET 9999 400 c) (.val v))) : Rw ⟨Tryz.prog, f0, ET, w0, R⟩ G c :=
  ⟨run_adv mixed (run_ldv hc h hk.h)⟩
theorem u_b (t : Nat) {b b' : Bool} (hv : b = b') (h : (adv Tryz.prog ET t 400 c).fr[t]? = some (.val (.bool b))) (hk : Rw ⟨Tryz.prog, f0, ET, w0, R⟩ G (setS (adv Tryz.prog ET t 400 c) t (.bool b'))) : Rw ⟨Tryz.prog, f0, ET, w0, R⟩ G c :=
  ⟨run_adv mixed (run_pin h (by rw [hv]) hk.h)⟩
theorem u_call {f : FuncId} {vs : List Value} {v : Value} (he : Enters Tryz.prog f) (h : ∀ w, G w → Calls Tryz.prog f vs.toArray w (RB w v)) (hc : callAt (adv Tryz.prog ET 9999 400 c) = some (f, vs.map .val)) (hk : Rw ⟨Tryz.prog, f0, ET, w0, R⟩ G (resume (adv Tryz.prog ET 9999 400 c) (.val v))) : Rw ⟨Tryz.prog, f0, ET, w0, R⟩ G c :=
  ⟨run_adv mixed (run_call1 hc he v h hk.h)⟩
theorem u_ret {fn : Func} {v : Value} (hf : Tryz.prog.funcs[f0]? = some fn) (h : retAt Tryz.prog fn.results.toList (adv Tryz.prog ET 9999 400 c) = some v) : Rw ⟨Tryz.prog, f0, ET, w0, (RB w0 v)⟩ G c :=
  ⟨run_adv mixed (run_ret hf h fun w hb _ => ⟨rfl, hb⟩)⟩
end
theorem half_c (k : Nat) (b : Bool) (x : Int) (e tie : Bool) (w : World) (hp : PlaceAt k b x e w) : Calls Tryz.prog 146 #[.bool tie, .pointer (some ⟨k, 0, none⟩)] w (RB w (.bool (halfB x tie))) := by
  by_cases h0 : 0 < x
  · have hh : halfB x tie = true := if_pos h0
    rw [hh]
    refine u_of (args := [.bool tie, .pointer (some ⟨k, 0, none⟩)]) Tryz.func146 rfl (PlaceAt.stable k b x e) hp ?_
    refine u_load (fun w h => load_int h.c1) (by kernel_rfl) ?_
    refine u_b 6 (decide_eq_true h0) (by kernel_rfl) ?_
    exact u_ret Tryz.func146 (by kernel_rfl)
  · by_cases h1 : x = 0
    · have hh : halfB x tie = tie := by unfold halfB; rw [if_neg h0, if_pos h1]
      rw [hh]
      refine u_of (args := [.bool tie, .pointer (some ⟨k, 0, none⟩)]) Tryz.func146 rfl (PlaceAt.stable k b x e) hp ?_
      refine u_load (fun w h => load_int h.c1) (by kernel_rfl) ?_
      refine u_b 6 (decide_eq_false h0) (by kernel_rfl) ?_
      refine u_load (fun w h => load_int h.c1) (by kernel_rfl) ?_
      refine u_b 10 (beq_iff_eq.2 h1) (by kernel_rfl) ?_
      exact u_ret Tryz.func146 (by kernel_rfl)
    · have hh : halfB x tie = false := by unfold halfB; rw [if_neg h0, if_neg h1]
      rw [hh]
      refine u_of (args := [.bool tie, .pointer (some ⟨k, 0, none⟩)]) Tryz.func146 rfl (PlaceAt.stable k b x e) hp ?_
      refine u_load (fun w h => load_int h.c1) (by kernel_rfl) ?_
      refine u_b 6 (decide_eq_false h0) (by kernel_rfl) ?_
      refine u_load (fun w h => load_int h.c1) (by kernel_rfl) ?_
      refine u_b 10 (beq_eq_false_iff_ne.2 h1) (by kernel_rfl) ?_
      exact u_ret Tryz.func146 (by kernel_rfl)
theorem c2 (w : World) : Calls Tryz.prog 147 #[] w (RB w (.bool true)) := by
  refine u_of (args := []) (G := fun _ => True) Tryz.func147 rfl (fun _ _ _ _ => trivial) trivial ?_
  exact u_ret Tryz.func147 (by kernel_rfl)
theorem c3 (w : World) : Calls Tryz.prog 148 #[] w (RB w (.bool false)) := by
  refine u_of (args := []) (G := fun _ => True) Tryz.func148 rfl (fun _ _ _ _ => trivial) trivial ?_
  exact u_ret Tryz.func148 (by kernel_rfl)
section
variable (k h : Nat) (b : Bool) (x : Int) (e : Bool) (w : World)
theorem c4 (hp : PlaceAt k b x e w) : Calls Tryz.prog 149 #[.pointer (some ⟨k, 0, none⟩)] w (RB w (.bool (!b))) := by
  refine u_of (args := [.pointer (some ⟨k, 0, none⟩)]) Tryz.func149 rfl (PlaceAt.stable k b x e) hp ?_
  refine u_load (fun w h => load_bool h.c0) (by kernel_rfl) ?_
  exact u_ret Tryz.func149 (by kernel_rfl)
theorem c5 (hp : PlaceAt k b x e w) : Calls Tryz.prog 150 #[.pointer (some ⟨k, 0, none⟩)] w (RB w (.bool b)) := by
  refine u_of (args := [.pointer (some ⟨k, 0, none⟩)]) Tryz.func150 rfl (PlaceAt.stable k b x e) hp ?_
  refine u_load (fun w h => load_bool h.c0) (by kernel_rfl) ?_
  exact u_ret Tryz.func150 (by kernel_rfl)
def Both (w : World) : Prop := HalfAt h k w ∧ PlaceAt k b x e w
theorem Both.stable : Stable ET (Both k h b x e) := fun w w' hk q => ⟨HalfAt.stable h k w w' hk q.1, PlaceAt.stable k b x e w w' hk q.2⟩
theorem load_fn {a : Addr} {v : Value} {w : World} (hc : w.cell? a = some v) : (loadVar 186 a).run Tryz.prog w = .ok v w := load_cell (by kernel_rfl) hc
theorem c6 (hp : Both k h b x e w) : Calls Tryz.prog 151 #[.pointer (some ⟨h, 0, none⟩)] w (RB w (.bool (halfB x true))) := by
  refine u_of (args := [.pointer (some ⟨h, 0, none⟩)]) Tryz.func151 rfl (Both.stable k h b x e) hp ?_
  refine u_load (fun w q => load_fn q.1.c0) (by kernel_rfl) ?_
  refine u_call (vs := [.bool true, .pointer (some ⟨k, 0, none⟩)]) ent146 (fun w q => half_c k b x e true w q.2) (by kernel_rfl) ?_
  exact u_ret Tryz.func151 (by kernel_rfl)
theorem c7 (hp : Both k h b x e w) : Calls Tryz.prog 152 #[.pointer (some ⟨h, 0, none⟩)] w (RB w (.bool (halfB x false))) := by
  refine u_of (args := [.pointer (some ⟨h, 0, none⟩)]) Tryz.func152 rfl (Both.stable k h b x e) hp ?_
  refine u_load (fun w q => load_fn q.1.c0) (by kernel_rfl) ?_
  refine u_call (vs := [.bool false, .pointer (some ⟨k, 0, none⟩)]) ent146 (fun w q => half_c k b x e false w q.2) (by kernel_rfl) ?_
  exact u_ret Tryz.func152 (by kernel_rfl)
theorem c8 (hp : Both k h b x e w) : Calls Tryz.prog 153 #[.pointer (some ⟨h, 0, none⟩), .pointer (some ⟨k, 0, none⟩)] w (RB w (.bool (halfB x (!b)))) := by
  refine u_of (args := [.pointer (some ⟨h, 0, none⟩), .pointer (some ⟨k, 0, none⟩)]) Tryz.func153 rfl (Both.stable k h b x e) hp ?_
  refine u_load (fun w q => load_fn q.1.c0) (by kernel_rfl) ?_
  refine u_load (fun w q => load_bool q.2.c0) (by kernel_rfl) ?_
  refine u_call (vs := [.bool (!b), .pointer (some ⟨k, 0, none⟩)]) ent146 (fun w q => half_c k b x e (!b) w q.2) (by kernel_rfl) ?_
  exact u_ret Tryz.func153 (by kernel_rfl)
theorem c9 (hp : Both k h b x e w) : Calls Tryz.prog 154 #[.pointer (some ⟨h, 0, none⟩), .pointer (some ⟨k, 0, none⟩)] w (RB w (.bool (halfB x b))) := by
  refine u_of (args := [.pointer (some ⟨h, 0, none⟩), .pointer (some ⟨k, 0, none⟩)]) Tryz.func154 rfl (Both.stable k h b x e) hp ?_
  refine u_load (fun w q => load_fn q.1.c0) (by kernel_rfl) ?_
  refine u_load (fun w q => load_bool q.2.c0) (by kernel_rfl) ?_
  refine u_call (vs := [.bool b, .pointer (some ⟨k, 0, none⟩)]) ent146 (fun w q => half_c k b x e b w q.2) (by kernel_rfl) ?_
  exact u_ret Tryz.func154 (by kernel_rfl)
theorem c10 (hp : Both k h b x e w) : Calls Tryz.prog 155 #[.pointer (some ⟨h, 0, none⟩), .pointer (some ⟨k, 0, none⟩)] w (RB w (.bool (halfB x (!e)))) := by
  refine u_of (args := [.pointer (some ⟨h, 0, none⟩), .pointer (some ⟨k, 0, none⟩)]) Tryz.func155 rfl (Both.stable k h b x e) hp ?_
  refine u_load (fun w q => load_fn q.1.c0) (by kernel_rfl) ?_
  refine u_load (fun w q => load_bool q.2.c2) (by kernel_rfl) ?_
  refine u_call (vs := [.bool (!e), .pointer (some ⟨k, 0, none⟩)]) ent146 (fun w q => half_c k b x e (!e) w q.2) (by kernel_rfl) ?_
  exact u_ret Tryz.func155 (by kernel_rfl)
end
end Go.Proofs.YthoedmikfpbfnaaGreat
end
section
/-
  round.up.
-/
set_option linter.unusedVariables false
set_option maxRecDepth 100000
namespace Go.Proofs.YthoedmikfpbfnaaGreat
open Go Go.RowKit Go.Ev

theorem cells_vals {r : Nat → Nat} {N : Nat → Prop} {vs : List Value} {cs : Array Value} (h : CellsOk r N (vs.map .val) cs) : cs = vs.toArray := by
  obtain ⟨h1, h2⟩ := h
  apply Array.ext'
  apply List.ext_getElem?
  intro i
  by_cases hi : i < vs.length
  · obtain ⟨u, hu, ho, -⟩ := h2 i (.val vs[i]) (by simp [hi])
    obtain rfl : u = vs[i] := ho
    simp [hi, hu]
  · have e1 : vs[i]? = none := List.getElem?_eq_none (by omega)
    have e2 : cs[i]? = none := Array.getElem?_eq_none (by simp at h1; omega)
    simp [e1, e2]
theorem at_place {r : Nat → Nat} {N : Nat → Prop} {bl : List Bk} {base : TypeId → Nat} {w : World} {b : Bool} {x : Int} {e : Bool} (hb : BlOk r N bl base w) (h0 : bl[0]? = some ⟨[.val (.bool b), .val (.int .i64 x), .val (.bool e)], 157⟩) (hn : ¬ N 0) : PlaceAt (r 0) b x e w := by
  obtain ⟨-, cs, hk, hc⟩ := hb.is 0 _ h0 hn
  have := cells_vals (vs := [.bool b, .int .i64 x, .bool e]) hc
  rw [this] at hk
  exact hk
theorem at_half {r : Nat → Nat} {N : Nat → Prop} {bl : List Bk} {base : TypeId → Nat} {w : World} (hb : BlOk r N bl base w) (h1 : bl[1]? = some ⟨[.clo 146 [.ptr 0 0]], 186⟩) (hn : ¬ N 1) : HalfAt (r 1) (r 0) w ∧ ¬ N 0 := by
  obtain ⟨-, cs, hk, hsz, hc⟩ := hb.is 1 _ h1 hn
  obtain ⟨u, hu, ho, hf⟩ := hc 0 _ rfl
  have hfr : ¬ N 0 := hf (.ptr 0 0) (by simp)
  refine ⟨?_, hfr⟩
  have e : cs = #[u] := by
    apply Array.ext
    · simpa using hsz
    · intro i h2 h3
      have : i = 0 := by simp at h3; omega
      subst this
      have := Array.getElem?_eq_some_iff.1 hu
      obtain ⟨_, h4⟩ := this
      simpa using h4
  obtain rfl : u = _ := ho
  rw [e] at hk
  exact hk
/-- Does a mode go up? -/
def upB (mode : Int) (b : Bool) (x : Int) (e : Bool) : Bool :=
  if mode = 1 then true else if mode = 2 then false else if mode = 3 then !b else if mode = 4 then b else if mode = 5 then halfB x true else if mode = 6 then halfB x false
  else if mode = 7 then halfB x (!b) else if mode = 8 then halfB x b else halfB x (!e)
section
variable {f0 : FuncId} {E : List TypeId} {w0 : World} {R : Ending → World → Prop} {L : ZL} {c : Cf}
theorem st_c {f : FuncId} {ss : List SV} {v : Value} (he : Enters Tryz.prog f) (hc : callAt (adv Tryz.prog E 9999 400 c) = some (f, ss))
    (h : ∀ (r : Nat → Nat) (N : Nat → Prop) (w : World) (us : List Value), Args r N ss us → BlOk r N (adv Tryz.prog E 9999 400 c).bl (Cx.base ⟨Tryz.prog, f0, E, w0, R⟩) w → Calls Tryz.prog f us.toArray w (RB w v))
    (hk : Ru ⟨Tryz.prog, f0, E, w0, R⟩ (ZAll L) (resume (adv Tryz.prog E 9999 400 c) (.val v))) : Ru ⟨Tryz.prog, f0, E, w0, R⟩ (ZAll L) c :=
  ⟨run_adv mixed fun hs => run_call hc he (X := Unit) (fun _ => .val v) (fun _ _ => True) (fun _ _ _ _ _ => trivial) (fun _ _ => trivial)
    (fun r N w us ha hb hG => (h r N w us ha hb).mono fun e w' ⟨h1, h2⟩ => ⟨(), v, h1, rfl, h2, trivial⟩) (fun _ => hk.h.mono hs fun w h => h.1) hs⟩
end
theorem up_1 (b : Bool) (x : Int) (e : Bool) : Fn 108 [] [.int .i64 1, pv b x e] (.tuple #[.bool (true), .bool true]) := by
  refine fn_of Tryz.func108 rfl fun w => ?_
  refine st_c (v := .bool (true)) ent147 (ss := []) (by kernel_rfl) (fun r N w us ha hb => ?_) ?_
  · have h0 : (adv Tryz.prog [3] 9999 400 (startS Tryz.f108 [.int .i64 1, pv b x e])).bl[0]? = some ⟨[.val (.bool b), .val (.int .i64 x), .val (.bool e)], 157⟩ := by kernel_rfl
    obtain rfl : us = [] := by cases us with
      | nil => rfl
      | cons _ _ => exact ha.elim
    exact c2 w
  · exact st_ret Tryz.func108 (by kernel_rfl)
theorem up_2 (b : Bool) (x : Int) (e : Bool) : Fn 108 [] [.int .i64 2, pv b x e] (.tuple #[.bool (false), .bool true]) := by
  refine fn_of Tryz.func108 rfl fun w => ?_
  refine st_c (v := .bool (false)) ent148 (ss := []) (by kernel_rfl) (fun r N w us ha hb => ?_) ?_
  · have h0 : (adv Tryz.prog [3] 9999 400 (startS Tryz.f108 [.int .i64 2, pv b x e])).bl[0]? = some ⟨[.val (.bool b), .val (.int .i64 x), .val (.bool e)], 157⟩ := by kernel_rfl
    obtain rfl : us = [] := by cases us with
      | nil => rfl
      | cons _ _ => exact ha.elim
    exact c3 w
  · exact st_ret Tryz.func108 (by kernel_rfl)
theorem up_3 (b : Bool) (x : Int) (e : Bool) : Fn 108 [] [.int .i64 3, pv b x e] (.tuple #[.bool (!b), .bool true]) := by
  refine fn_of Tryz.func108 rfl fun w => ?_
  refine st_c (v := .bool (!b)) ent149 (ss := [.ptr 0 0]) (by kernel_rfl) (fun r N w us ha hb => ?_) ?_
  · have h0 : (adv Tryz.prog [3] 9999 400 (startS Tryz.f108 [.int .i64 3, pv b x e])).bl[0]? = some ⟨[.val (.bool b), .val (.int .i64 x), .val (.bool e)], 157⟩ := by kernel_rfl
    obtain ⟨u, rfl, hu⟩ : ∃ u, us = [u] ∧ SV.Ok r N (.ptr 0 0) u := by
      match us, ha with
      | [u], ha => exact ⟨u, rfl, ha.1⟩
    obtain rfl : u = _ := hu.1
    exact c4 (r 0) b x e w (at_place hb h0 hu.2)
  · exact st_ret Tryz.func108 (by kernel_rfl)
theorem up_4 (b : Bool) (x : Int) (e : Bool) : Fn 108 [] [.int .i64 4, pv b x e] (.tuple #[.bool (b), .bool true]) := by
  refine fn_of Tryz.func108 rfl fun w => ?_
  refine st_c (v := .bool (b)) ent150 (ss := [.ptr 0 0]) (by kernel_rfl) (fun r N w us ha hb => ?_) ?_
  · have h0 : (adv Tryz.prog [3] 9999 400 (startS Tryz.f108 [.int .i64 4, pv b x e])).bl[0]? = some ⟨[.val (.bool b), .val (.int .i64 x), .val (.bool e)], 157⟩ := by kernel_rfl
    obtain ⟨u, rfl, hu⟩ : ∃ u, us = [u] ∧ SV.Ok r N (.ptr 0 0) u := by
      match us, ha with
      | [u], ha => exact ⟨u, rfl, ha.1⟩
    obtain rfl : u = _ := hu.1
    exact c5 (r 0) b x e w (at_place hb h0 hu.2)
  · exact st_ret Tryz.func108 (by kernel_rfl)
theorem up_5 (b : Bool) (x : Int) (e : Bool) : Fn 108 [] [.int .i64 5, pv b x e] (.tuple #[.bool (halfB x true), .bool true]) := by
  refine fn_of Tryz.func108 rfl fun w => ?_
  refine st_c (v := .bool (halfB x true)) ent151 (ss := [.ptr 1 0]) (by kernel_rfl) (fun r N w us ha hb => ?_) ?_
  · have h0 : (adv Tryz.prog [3] 9999 400 (startS Tryz.f108 [.int .i64 5, pv b x e])).bl[0]? = some ⟨[.val (.bool b), .val (.int .i64 x), .val (.bool e)], 157⟩ := by kernel_rfl
    have h1 : (adv Tryz.prog [3] 9999 400 (startS Tryz.f108 [.int .i64 5, pv b x e])).bl[1]? = some ⟨[.clo 146 [.ptr 0 0]], 186⟩ := by kernel_rfl
    obtain ⟨u, rfl, hu⟩ : ∃ u, us = [u] ∧ SV.Ok r N (.ptr 1 0) u := by
      match us, ha with
      | [u], ha => exact ⟨u, rfl, ha.1⟩
    obtain rfl : u = _ := hu.1
    obtain ⟨q1, q2⟩ := at_half hb h1 hu.2
    exact c6 (r 0) (r 1) b x e w ⟨q1, at_place hb h0 q2⟩
  · exact st_ret Tryz.func108 (by kernel_rfl)
theorem up_6 (b : Bool) (x : Int) (e : Bool) : Fn 108 [] [.int .i64 6, pv b x e] (.tuple #[.bool (halfB x false), .bool true]) := by
  refine fn_of Tryz.func108 rfl fun w => ?_
  refine st_c (v := .bool (halfB x false)) ent152 (ss := [.ptr 1 0]) (by kernel_rfl) (fun r N w us ha hb => ?_) ?_
  · have h0 : (adv Tryz.prog [3] 9999 400 (startS Tryz.f108 [.int .i64 6, pv b x e])).bl[0]? = some ⟨[.val (.bool b), .val (.int .i64 x), .val (.bool e)], 157⟩ := by kernel_rfl
    have h1 : (adv Tryz.prog [3] 9999 400 (startS Tryz.f108 [.int .i64 6, pv b x e])).bl[1]? = some ⟨[.clo 146 [.ptr 0 0]], 186⟩ := by kernel_rfl
    obtain ⟨u, rfl, hu⟩ : ∃ u, us = [u] ∧ SV.Ok r N (.ptr 1 0) u := by
      match us, ha with
      | [u], ha => exact ⟨u, rfl, ha.1⟩
    obtain rfl : u = _ := hu.1
    obtain ⟨q1, q2⟩ := at_half hb h1 hu.2
    exact c7 (r 0) (r 1) b x e w ⟨q1, at_place hb h0 q2⟩
  · exact st_ret Tryz.func108 (by kernel_rfl)
theorem up_7 (b : Bool) (x : Int) (e : Bool) : Fn 108 [] [.int .i64 7, pv b x e] (.tuple #[.bool (halfB x (!b)), .bool true]) := by
  refine fn_of Tryz.func108 rfl fun w => ?_
  refine st_c (v := .bool (halfB x (!b))) ent153 (ss := [.ptr 1 0, .ptr 0 0]) (by kernel_rfl) (fun r N w us ha hb => ?_) ?_
  · have h0 : (adv Tryz.prog [3] 9999 400 (startS Tryz.f108 [.int .i64 7, pv b x e])).bl[0]? = some ⟨[.val (.bool b), .val (.int .i64 x), .val (.bool e)], 157⟩ := by kernel_rfl
    have h1 : (adv Tryz.prog [3] 9999 400 (startS Tryz.f108 [.int .i64 7, pv b x e])).bl[1]? = some ⟨[.clo 146 [.ptr 0 0]], 186⟩ := by kernel_rfl
    obtain ⟨u, u', rfl, hu, hu'⟩ : ∃ u u', us = [u, u'] ∧ SV.Ok r N (.ptr 1 0) u ∧ SV.Ok r N (.ptr 0 0) u' := by
      match us, ha with
      | [u, u'], ha => exact ⟨u, u', rfl, ha.1, ha.2.1⟩
    obtain rfl : u = _ := hu.1
    obtain rfl : u' = _ := hu'.1
    obtain ⟨q1, q2⟩ := at_half hb h1 hu.2
    exact c8 (r 0) (r 1) b x e w ⟨q1, at_place hb h0 q2⟩
  · exact st_ret Tryz.func108 (by kernel_rfl)
theorem up_8 (b : Bool) (x : Int) (e : Bool) : Fn 108 [] [.int .i64 8, pv b x e] (.tuple #[.bool (halfB x b), .bool true]) := by
  refine fn_of Tryz.func108 rfl fun w => ?_
  refine st_c (v := .bool (halfB x b)) ent154 (ss := [.ptr 1 0, .ptr 0 0]) (by kernel_rfl) (fun r N w us ha hb => ?_) ?_
  · have h0 : (adv Tryz.prog [3] 9999 400 (startS Tryz.f108 [.int .i64 8, pv b x e])).bl[0]? = some ⟨[.val (.bool b), .val (.int .i64 x), .val (.bool e)], 157⟩ := by kernel_rfl
    have h1 : (adv Tryz.prog [3] 9999 400 (startS Tryz.f108 [.int .i64 8, pv b x e])).bl[1]? = some ⟨[.clo 146 [.ptr 0 0]], 186⟩ := by kernel_rfl
    obtain ⟨u, u', rfl, hu, hu'⟩ : ∃ u u', us = [u, u'] ∧ SV.Ok r N (.ptr 1 0) u ∧ SV.Ok r N (.ptr 0 0) u' := by
      match us, ha with
      | [u, u'], ha => exact ⟨u, u', rfl, ha.1, ha.2.1⟩
    obtain rfl : u = _ := hu.1
    obtain rfl : u' = _ := hu'.1
    obtain ⟨q1, q2⟩ := at_half hb h1 hu.2
    exact c9 (r 0) (r 1) b x e w ⟨q1, at_place hb h0 q2⟩
  · exact st_ret Tryz.func108 (by kernel_rfl)
theorem up_9 (b : Bool) (x : Int) (e : Bool) : Fn 108 [] [.int .i64 9, pv b x e] (.tuple #[.bool (halfB x (!e)), .bool true]) := by
  refine fn_of Tryz.func108 rfl fun w => ?_
  refine st_c (v := .bool (halfB x (!e))) ent155 (ss := [.ptr 1 0, .ptr 0 0]) (by kernel_rfl) (fun r N w us ha hb => ?_) ?_
  · have h0 : (adv Tryz.prog [3] 9999 400 (startS Tryz.f108 [.int .i64 9, pv b x e])).bl[0]? = some ⟨[.val (.bool b), .val (.int .i64 x), .val (.bool e)], 157⟩ := by kernel_rfl
    have h1 : (adv Tryz.prog [3] 9999 400 (startS Tryz.f108 [.int .i64 9, pv b x e])).bl[1]? = some ⟨[.clo 146 [.ptr 0 0]], 186⟩ := by kernel_rfl
    obtain ⟨u, u', rfl, hu, hu'⟩ : ∃ u u', us = [u, u'] ∧ SV.Ok r N (.ptr 1 0) u ∧ SV.Ok r N (.ptr 0 0) u' := by
      match us, ha with
      | [u, u'], ha => exact ⟨u, u', rfl, ha.1, ha.2.1⟩
    obtain rfl : u = _ := hu.1
    obtain rfl : u' = _ := hu'.1
    obtain ⟨q1, q2⟩ := at_half hb h1 hu.2
    exact c10 (r 0) (r 1) b x e w ⟨q1, at_place hb h0 q2⟩
  · exact st_ret Tryz.func108 (by kernel_rfl)
theorem up_yes (mode : Int) (b : Bool) (x : Int) (e : Bool) (h1 : 1 ≤ mode) (h2 : mode ≤ 9) : Fn 108 [] [.int .i64 mode, pv b x e] (.tuple #[.bool (upB mode b x e), .bool true]) := by
  have hm : mode = 1 ∨ mode = 2 ∨ mode = 3 ∨ mode = 4 ∨ mode = 5 ∨ mode = 6 ∨ mode = 7 ∨ mode = 8 ∨ mode = 9 := by omega
  clear h1 h2
  rcases hm with rfl | rfl | rfl | rfl | rfl | rfl | rfl | rfl | rfl
  · exact up_1 b x e
  · exact up_2 b x e
  · exact up_3 b x e
  · exact up_4 b x e
  · exact up_5 b x e
  · exact up_6 b x e
  · exact up_7 b x e
  · exact up_8 b x e
  · exact up_9 b x e
end Go.Proofs.YthoedmikfpbfnaaGreat
end
section
/-
  round.To and round.Mirror.
-/
set_option linter.unusedVariables false
set_option maxRecDepth 100000
namespace Go.Proofs.YthoedmikfpbfnaaGreat
open Go Go.RowKit Go.Ev

abbrev rtv (y : Int) : Value := .tuple #[.agg #[.int .i64 (thi y), .int .u64 (tlo y)], .int .i64 (ter y)]
theorem rtv_yes {y : Int} (h : W128 y) : rtv y = .tuple #[wv y, .int .i64 0] := by unfold rtv; rw [thi_yes h, tlo_yes h, ter_yes h]
theorem wz_no {r : Int} (h : r ≠ 0) : (hi r == 0 && (lo r == 0 && true)) = false := by
  have e := hi_lo r
  cases k : (hi r == 0 && (lo r == 0 && true)) with
  | false => rfl
  | true =>
    simp only [Bool.and_true, Bool.and_eq_true, beq_iff_eq] at k
    omega
theorem wz_yes {r : Int} (h : r = 0) : (hi r == 0 && (lo r == 0 && true)) = true := by subst h; decide
theorem dec_hi (n : Int) : decide (hi n < 0) = decide (n < 0) := by
  have e := hi_lo n
  have := lo_bd n
  rw [Bool.eq_iff_iff]
  simp only [decide_eq_true_eq]
  omega
theorem rem2 (q : Int) : ((lo q).tmod 2 == 0) = decide (q % 2 = 0) := by
  have := lo_bd q
  rw [Int.tmod_eq_emod_of_nonneg (by omega)]
  unfold lo
  rw [Bool.eq_iff_iff]
  simp
theorem between_fn (q r d : Int) (b : Bool) (hr : W128 r) (hd : W128 d) (h : W128 (d - r)) :
    Fn 109 [] [wv q, wv r, wv d, .bool b] (pv b (cmpI r (d - r)) (decide (q % 2 = 0))) := by
  refine fn_of Tryz.func109 rfl fun ww => ?_
  refine st_fn ent92 (wsub_yes (d) (r) (by assumption) (by assumption) (by assumption)) sub0 (by kernel_rfl) ?_
  refine st_b 24 (rem2 q) (by kernel_rfl) ?_
  refine st_fn ent55 (wcmp_fn (r) (d - r)) sub0 (by kernel_rfl) ?_
  exact st_ret Tryz.func109 (by kernel_rfl)
/-- Does the quotient of n and d go up? -/
def upQ (n d mode : Int) : Bool := upB mode (decide (n < 0)) (cmpI (n.fmod d) (d - n.fmod d)) (decide (n.fdiv d % 2 = 0))
/-- A fraction, d above 0, rounded. -/
def nearQ (n d mode : Int) : Int := if n.fmod d = 0 then n.fdiv d else if upQ n d mode = true then n.fdiv d + 1 else n.fdiv d
theorem up_t (mode : Int) (b : Bool) (x : Int) (e : Bool) (h1 : 1 ≤ mode) (h2 : mode ≤ 9) (h : upB mode b x e = true) : Fn 108 [] [.int .i64 mode, pv b x e] (.tuple #[.bool true, .bool true]) := h ▸ up_yes mode b x e h1 h2
theorem up_f (mode : Int) (b : Bool) (x : Int) (e : Bool) (h1 : 1 ≤ mode) (h2 : mode ≤ 9) (h : upB mode b x e = false) : Fn 108 [] [.int .i64 mode, pv b x e] (.tuple #[.bool false, .bool true]) := h ▸ up_yes mode b x e h1 h2
theorem fl_bd {w d : Int} (hw : W128 w) (h0 : 0 < d) : W128 (w.fdiv d) ∧ 0 ≤ w.fmod d ∧ w.fmod d < d ∧ d * w.fdiv d + w.fmod d = w := by
  have e := Int.mul_fdiv_add_fmod w d
  have h1 := Int.fmod_eq_emod_of_nonneg w (show 0 ≤ d by omega)
  have h2 := Int.emod_nonneg w (show d ≠ 0 by omega)
  have h3 := Int.emod_lt_of_pos w h0
  have h4 := Int.fdiv_eq_ediv_of_nonneg w (show 0 ≤ d by omega)
  refine ⟨?_, by omega, by omega, e⟩
  rw [h4]
  unfold W128 at *
  have k1 := Int.le_ediv_of_mul_le h0 (show -170141183460469231731687303715884105728 * d ≤ w by
    have : (170141183460469231731687303715884105728 : Int) * 1 ≤ 170141183460469231731687303715884105728 * d := Int.mul_le_mul_of_nonneg_left (by omega) (by omega)
    omega)
  have k2 : w / d < 170141183460469231731687303715884105728 := Int.ediv_lt_of_lt_mul h0 (by
    have : (170141183460469231731687303715884105728 : Int) * 1 ≤ 170141183460469231731687303715884105728 * d := Int.mul_le_mul_of_nonneg_left (by omega) (by omega)
    omega)
  omega
end Go.Proofs.YthoedmikfpbfnaaGreat
end
section
/-
  divide.Fraction.
-/
set_option linter.unusedSimpArgs false
set_option linter.unusedVariables false
namespace Go.Proofs.YthoedmikfpbfnaaGreat
open Go Go.RowKit

/-- The fraction has room. -/
def fOk (n d : Int) : Prop := d ≠ 0 ∧ W128 (frP n d) ∧ W128 (frQ n d)
instance (n d : Int) : Decidable (fOk n d) := by unfold fOk; exact inferInstance
def fv (n d x : Int) : Int := if fOk n d then x else 0
def fe (n d : Int) : Int := if d = 0 then 3 else if fOk n d then 0 else 2
def RetFr (w : World) (n d : Int) (e : Ending) (w' : World) : Prop :=
  e = .returned (.tuple #[.agg #[.int .i64 (fv n d (hi (frP n d))), .int .u64 (fv n d (lo (frP n d)))], .agg #[.int .i64 (fv n d (hi (frQ n d))), .int .u64 (fv n d (lo (frQ n d)))], .int .i64 (fe n d)]) ∧ Ext w w'
theorem fv_yes {n d x : Int} (h : fOk n d) : fv n d x = x := if_pos h
theorem fv_no {n d x : Int} (h : ¬ fOk n d) : fv n d x = 0 := if_neg h
theorem fe_yes {n d : Int} (h : fOk n d) : fe n d = 0 := by unfold fe; rw [if_neg h.1, if_pos h]
theorem fe_zero (n : Int) : fe n 0 = 3 := if_pos rfl
theorem fe_no {n d : Int} (h0 : d ≠ 0) (h : ¬ fOk n d) : fe n d = 2 := by unfold fe; rw [if_neg h0, if_neg h]
theorem retFr_yes {w w' : World} {n d : Int} (h : fOk n d) (x : Ext w w') : RetFr w n d (.returned (.tuple #[.agg #[.int .i64 (hi (frP n d)), .int .u64 (lo (frP n d))], .agg #[.int .i64 (hi (frQ n d)), .int .u64 (lo (frQ n d))], .int .i64 0])) w' := by
  refine ⟨?_, x⟩
  rw [fv_yes h, fv_yes h, fv_yes h, fv_yes h, fe_yes h]
theorem retFr_no {w w' : World} {n d : Int} (h0 : d ≠ 0) (h : ¬ fOk n d) (x : Ext w w') : RetFr w n d (.returned (.tuple #[.agg #[.int .i64 0, .int .u64 0], .agg #[.int .i64 0, .int .u64 0], .int .i64 2])) w' := by
  refine ⟨?_, x⟩
  rw [fv_no h, fv_no h, fv_no h, fv_no h, fe_no h0 h]
theorem retFr_zero {w w' : World} {n : Int} (x : Ext w w') : RetFr w n 0 (.returned (.tuple #[.agg #[.int .i64 0, .int .u64 0], .agg #[.int .i64 0, .int .u64 0], .int .i64 3])) w' := by
  refine ⟨?_, x⟩
  have h : ¬ fOk n 0 := fun h => h.1 rfl
  rw [fv_no h, fv_no h, fv_no h, fv_no h, fe_zero]
set_option maxRecDepth 100000 in
set_option maxHeartbeats 3200000 in
theorem dfrac0 (n : Int) (w : World) :
    Calls Tryz.prog 41 #[.agg #[.int .i64 (hi n), .int .u64 (lo n)], .agg #[.int .i64 0, .int .u64 0]] w (RetFr w n 0) := by
  go_enter Tryz.func41, Tryz.ntmps41
  go_upto_region 1 with fail
  have xw := Ext.refl w
  refine wp_name ?_
  intro V1 hV
  replace xw : Ext w V1 := by rw [hV]; exact Ext.alloc (Ext.alloc (Ext.alloc (Ext.alloc (xw))))
  have b2 : Box2 V1 w.heap.size (.int .i64 (hi n)) (.int .u64 (lo n)) 42 := by rw [hV]; exact (((Box2.new rfl).alloc _).alloc _).alloc _
  have b3 : Box2 V1 (w.heap.size + 1) (.int .i64 0) (.int .u64 0) 42 := by rw [hV]; exact ((Box2.new (by simp)).alloc _).alloc _
  have b4 : Box2 V1 (w.heap.size + 1 + 1) (.int .i64 0) (.int .u64 0) 42 := by rw [hV]; exact (Box2.new (by simp)).alloc _
  have b5 : Box2 V1 (w.heap.size + 1 + 1 + 1) (.int .i64 0) (.int .u64 0) 42 := by rw [hV]; exact Box2.new (by simp)
  clear hV
  have b3_c0 := b3.c0
  have b3_c1 := b3.c1
  go_upto_region 2 with fail
  clear b3_c0 b3_c1
  have b4_c0 := b4.c0
  have b4_c1 := b4.c1
  have b4_f0 := b4.f0
  have b4_f1 := b4.f1
  have b5_c0 := b5.c0
  have b5_c1 := b5.c1
  have b5_f0 := b5.f0
  have b5_f1 := b5.f1
  have xr := Ext.set (Ext.set (Ext.set (Ext.set (xw) (k := w.heap.size + 1 + 1) (o := 0) (u := .int .i64 0) (by omega)) (k := w.heap.size + 1 + 1) (o := 1) (u := .int .u64 0) (by omega)) (k := w.heap.size + 1 + 1 + 1) (o := 0) (u := .int .i64 0) (by omega)) (k := w.heap.size + 1 + 1 + 1) (o := 1) (u := .int .u64 0) (by omega)
  go_wp2_with fail
  refine bodyPost_ret (v := .tuple #[.agg #[.int .i64 0, .int .u64 0], .agg #[.int .i64 0, .int .u64 0], .int .i64 3]) (by simp [results, Tryz.results41, go_sem, b4_c0, b4_c1, b5_c0, b5_c1]) rfl (retFr_zero xr)
set_option maxRecDepth 100000 in
set_option maxHeartbeats 3200000 in
theorem dfrac_yes (n d : Int) (w : World) (hn : W128 n) (hd : W128 d) (h0 : d ≠ 0) (hP : W128 (frP n d)) (hQ : W128 (frQ n d)) :
    Calls Tryz.prog 41 #[.agg #[.int .i64 (hi n), .int .u64 (lo n)], .agg #[.int .i64 (hi d), .int .u64 (lo d)]] w (RetFr w n d) := by
  have HPar := Lib.hid dparts
  have HGc := Lib.hid dgcd
  have HSgd := Lib.hid dsigned
  have HOT := Lib.hid (overTo_all (M := 170141183460469231731687303715884105728) (Nat.le_refl _))
  have HBd := Lib.hid (show n.natAbs ≤ 170141183460469231731687303715884105728 ∧ d.natAbs ≤ 170141183460469231731687303715884105728 by unfold W128 at hn hd; omega)
  obtain ⟨A, hA⟩ : ∃ A : Nat, A = n.natAbs := ⟨_, rfl⟩
  obtain ⟨D, hD⟩ : ∃ D : Nat, D = d.natAbs := ⟨_, rfl⟩
  obtain ⟨G, hG⟩ : ∃ G : Nat, G = Nat.gcd A D := ⟨_, rfl⟩
  obtain ⟨X, hX⟩ : ∃ X : Nat, X = A / G := ⟨_, rfl⟩
  obtain ⟨Y, hY⟩ : ∃ Y : Nat, Y = D / G := ⟨_, rfl⟩
  have hg : 0 < G := by rw [hG, hA, hD]; exact gcd_pos h0
  have hg2 : G ≤ D := by rw [hG]; exact Nat.gcd_le_right _ (by omega)
  rw [← hA, ← hD] at HBd
  have HA := Lib.hid (show mag n = (A : Int) by rw [hA]; exact mag_abs n)
  have HD := Lib.hid (show mag d = (D : Int) by rw [hD]; exact mag_abs d)
  have HG := Lib.hid (show ((Nat.gcd A D : Nat) : Int) = (G : Int) by rw [hG])
  have HO1 := Lib.hid (show OverC (A : Int) (G : Int) from HOT.out A G HBd.out.1 hg (Nat.le_trans hg2 HBd.out.2))
  have HO2 := Lib.hid (show OverC (D : Int) (G : Int) from HOT.out D G HBd.out.2 hg (Nat.le_trans hg2 HBd.out.2))
  have HX := Lib.hid (show (A : Int) / (G : Int) = (X : Int) by rw [hX]; omega)
  have HY := Lib.hid (show (D : Int) / (G : Int) = (Y : Int) by rw [hY]; omega)
  have HUX := Lib.hid (show U128 (X : Int) by have := Nat.div_le_self A G; have := HBd.out.1; unfold U128; omega)
  have HUY := Lib.hid (show U128 (Y : Int) by have := Nat.div_le_self D G; have := HBd.out.2; unfold U128; omega)
  have HP := Lib.hid (show wsg (!(decide (n < 0) == decide (d < 0))) (X : Int) = frP n d by unfold frP; rw [hX, hG, hA, hD])
  have HQ := Lib.hid (show wsg false (Y : Int) = frQ n d by unfold frQ; rw [hY, hG, hA, hD]; rfl)
  obtain ⟨r1, e1⟩ : ∃ r, (A : Int) % (G : Int) = r := ⟨_, rfl⟩
  obtain ⟨r2, e2⟩ : ∃ r, (D : Int) % (G : Int) = r := ⟨_, rfl⟩
  have HR1 := Lib.hid e1
  have HR2 := Lib.hid e2
  obtain ⟨t1, e3⟩ : ∃ r, thi (frQ n d) = r := ⟨_, rfl⟩
  obtain ⟨t2, e4⟩ : ∃ r, tlo (frQ n d) = r := ⟨_, rfl⟩
  obtain ⟨t3, e5⟩ : ∃ r, ter (frQ n d) = r := ⟨_, rfl⟩
  have HT1 := Lib.hid e3
  have HT2 := Lib.hid e4
  have HT3 := Lib.hid e5
  have H0 := Lib.hid h0
  have hz : ¬ (hi d = 0 ∧ lo d = 0) := by rintro ⟨g1, g2⟩; have := hi_lo d; omega
  clear hA hD hG hX hY e1 e2 e3 e4 e5 h0 hg hg2
  by_cases hz1 : hi d = 0
  · have g1 : (hi d == 0) = true := by simpa using hz1
    have g2 : (lo d == 0) = false := by simpa using fun h => hz ⟨hz1, h⟩
    clear hz hz1
    go_enter Tryz.func41, Tryz.ntmps41
    go_upto_region 1 with fail
    have xw := Ext.refl w
    refine wp_name ?_
    intro V1 hV
    replace xw : Ext w V1 := by rw [hV]; exact Ext.alloc (Ext.alloc (Ext.alloc (Ext.alloc (xw))))
    have b2 : Box2 V1 w.heap.size (.int .i64 (hi n)) (.int .u64 (lo n)) 42 := by rw [hV]; exact (((Box2.new rfl).alloc _).alloc _).alloc _
    have b3 : Box2 V1 (w.heap.size + 1) (.int .i64 (hi d)) (.int .u64 (lo d)) 42 := by rw [hV]; exact ((Box2.new (by simp)).alloc _).alloc _
    have b4 : Box2 V1 (w.heap.size + 1 + 1) (.int .i64 0) (.int .u64 0) 42 := by rw [hV]; exact (Box2.new (by simp)).alloc _
    have b5 : Box2 V1 (w.heap.size + 1 + 1 + 1) (.int .i64 0) (.int .u64 0) 42 := by rw [hV]; exact Box2.new (by simp)
    clear hV
    have b3_c0 := b3.c0
    have b3_c1 := b3.c1
    go_upto_region 3 with fail
    clear b3_c0 b3_c1
    have b2_c0 := b2.c0
    have b2_c1 := b2.c1
    go_wp2_with fail
    refine (HPar.out n _ hn).mono ?_
    rw [HA.out]
    rintro e w2 ⟨rfl, x2⟩
    clear b2_c0 b2_c1
    replace b2 := b2.ext x2
    replace b3 := b3.ext x2
    replace b4 := b4.ext x2
    replace b5 := b5.ext x2
    replace xw := Ext.trans xw x2
    go_upto_region 4 with fail
    have o4 := b2.kind.lt
    have o5 := b3.kind.lt
    have o6 := b4.kind.lt
    have o7 := b5.kind.lt
    have o8 := xw.size
    refine wp_name ?_
    intro V3 hV
    have b2N : Box2 V3 w.heap.size (.int .i64 (hi n)) (.int .u64 (lo n)) 42 := by rw [hV]; exact (b2).alloc _
    have b3N : Box2 V3 (w.heap.size + 1) (.int .i64 (hi d)) (.int .u64 (lo d)) 42 := by rw [hV]; exact (b3).alloc _
    have b4N : Box2 V3 (w.heap.size + 1 + 1) (.int .i64 0) (.int .u64 0) 42 := by rw [hV]; exact (b4).alloc _
    have b5N : Box2 V3 (w.heap.size + 1 + 1 + 1) (.int .i64 0) (.int .u64 0) 42 := by rw [hV]; exact (b5).alloc _
    replace xw : Ext w V3 := by rw [hV]; exact Ext.alloc (xw)
    replace b2 := b2N; clear b2N
    replace b3 := b3N; clear b3N
    replace b4 := b4N; clear b4N
    replace b5 := b5N; clear b5N
    have b7 : Box2 V3 w2.heap.size (.int .u64 (hi (A : Int))) (.int .u64 (lo (A : Int))) 139 := by rw [hV]; exact Box2.new rfl
    clear hV
    have b3_c0 := b3.c0
    have b3_c1 := b3.c1
    go_wp2_with fail
    refine (HPar.out d _ hd).mono ?_
    rw [HD.out]
    rintro e w9 ⟨rfl, x9⟩
    clear b3_c0 b3_c1
    replace b2 := b2.ext x9
    replace b3 := b3.ext x9
    replace b4 := b4.ext x9
    replace b5 := b5.ext x9
    replace b7 := b7.ext x9
    replace xw := Ext.trans xw x9
    go_upto_region 5 with fail
    have o11 := b7.kind.lt
    have o12 := xw.size
    refine wp_name ?_
    intro V10 hV
    have b2N : Box2 V10 w.heap.size (.int .i64 (hi n)) (.int .u64 (lo n)) 42 := by rw [hV]; exact (b2).alloc _
    have b3N : Box2 V10 (w.heap.size + 1) (.int .i64 (hi d)) (.int .u64 (lo d)) 42 := by rw [hV]; exact (b3).alloc _
    have b4N : Box2 V10 (w.heap.size + 1 + 1) (.int .i64 0) (.int .u64 0) 42 := by rw [hV]; exact (b4).alloc _
    have b5N : Box2 V10 (w.heap.size + 1 + 1 + 1) (.int .i64 0) (.int .u64 0) 42 := by rw [hV]; exact (b5).alloc _
    have b7N : Box2 V10 w2.heap.size (.int .u64 (hi (A : Int))) (.int .u64 (lo (A : Int))) 139 := by rw [hV]; exact (b7).alloc _
    replace xw : Ext w V10 := by rw [hV]; exact Ext.alloc (xw)
    replace b2 := b2N; clear b2N
    replace b3 := b3N; clear b3N
    replace b4 := b4N; clear b4N
    replace b5 := b5N; clear b5N
    replace b7 := b7N; clear b7N
    have b9 : Box2 V10 w9.heap.size (.int .u64 (hi (D : Int))) (.int .u64 (lo (D : Int))) 139 := by rw [hV]; exact Box2.new rfl
    clear hV
    have b7_c0 := b7.c0
    have b7_c1 := b7.c1
    have b9_c0 := b9.c0
    have b9_c1 := b9.c1
    go_wp2_with fail
    refine (HGc.out 170141183460469231731687303715884105728 A D _ HBd.out.1 HBd.out.2 HOT.out).mono ?_
    rw [HG.out]
    rintro e w13 ⟨rfl, x13⟩
    clear b7_c0 b7_c1 b9_c0 b9_c1
    replace b2 := b2.ext x13
    replace b3 := b3.ext x13
    replace b4 := b4.ext x13
    replace b5 := b5.ext x13
    replace b7 := b7.ext x13
    replace b9 := b9.ext x13
    replace xw := Ext.trans xw x13
    go_upto_region 6 with fail
    have o15 := b9.kind.lt
    have o16 := xw.size
    refine wp_name ?_
    intro V14 hV
    have b2N : Box2 V14 w.heap.size (.int .i64 (hi n)) (.int .u64 (lo n)) 42 := by rw [hV]; exact (b2).alloc _
    have b3N : Box2 V14 (w.heap.size + 1) (.int .i64 (hi d)) (.int .u64 (lo d)) 42 := by rw [hV]; exact (b3).alloc _
    have b4N : Box2 V14 (w.heap.size + 1 + 1) (.int .i64 0) (.int .u64 0) 42 := by rw [hV]; exact (b4).alloc _
    have b5N : Box2 V14 (w.heap.size + 1 + 1 + 1) (.int .i64 0) (.int .u64 0) 42 := by rw [hV]; exact (b5).alloc _
    have b7N : Box2 V14 w2.heap.size (.int .u64 (hi (A : Int))) (.int .u64 (lo (A : Int))) 139 := by rw [hV]; exact (b7).alloc _
    have b9N : Box2 V14 w9.heap.size (.int .u64 (hi (D : Int))) (.int .u64 (lo (D : Int))) 139 := by rw [hV]; exact (b9).alloc _
    replace xw : Ext w V14 := by rw [hV]; exact Ext.alloc (xw)
    replace b2 := b2N; clear b2N
    replace b3 := b3N; clear b3N
    replace b4 := b4N; clear b4N
    replace b5 := b5N; clear b5N
    replace b7 := b7N; clear b7N
    replace b9 := b9N; clear b9N
    have b11 : Box2 V14 w13.heap.size (.int .u64 (hi (G : Int))) (.int .u64 (lo (G : Int))) 139 := by rw [hV]; exact Box2.new rfl
    clear hV
    have b7_c0 := b7.c0
    have b7_c1 := b7.c1
    have b11_c0 := b11.c0
    have b11_c1 := b11.c1
    go_wp2_with fail
    refine (HO1.out _).mono ?_
    rw [HX.out, HR1.out]
    rintro e w17 ⟨rfl, x17⟩
    clear b7_c0 b7_c1 b11_c0 b11_c1
    replace b2 := b2.ext x17
    replace b3 := b3.ext x17
    replace b4 := b4.ext x17
    replace b5 := b5.ext x17
    replace b7 := b7.ext x17
    replace b9 := b9.ext x17
    replace b11 := b11.ext x17
    replace xw := Ext.trans xw x17
    have b7_c0 := b7.c0
    have b7_c1 := b7.c1
    have b7_f0 := b7.f0
    have b7_f1 := b7.f1
    go_upto_region 7 with fail
    clear b7_c0 b7_c1 b7_f0 b7_f1
    refine wp_name ?_
    intro V18 hV
    have b2N : Box2 V18 w.heap.size (.int .i64 (hi n)) (.int .u64 (lo n)) 42 := by rw [hV]; exact ((b2).other (b := w2.heap.size) (by omega) 0 (.int .u64 (hi (X : Int)))).other (b := w2.heap.size) (by omega) 1 (.int .u64 (lo (X : Int)))
    have b3N : Box2 V18 (w.heap.size + 1) (.int .i64 (hi d)) (.int .u64 (lo d)) 42 := by rw [hV]; exact ((b3).other (b := w2.heap.size) (by omega) 0 (.int .u64 (hi (X : Int)))).other (b := w2.heap.size) (by omega) 1 (.int .u64 (lo (X : Int)))
    have b4N : Box2 V18 (w.heap.size + 1 + 1) (.int .i64 0) (.int .u64 0) 42 := by rw [hV]; exact ((b4).other (b := w2.heap.size) (by omega) 0 (.int .u64 (hi (X : Int)))).other (b := w2.heap.size) (by omega) 1 (.int .u64 (lo (X : Int)))
    have b5N : Box2 V18 (w.heap.size + 1 + 1 + 1) (.int .i64 0) (.int .u64 0) 42 := by rw [hV]; exact ((b5).other (b := w2.heap.size) (by omega) 0 (.int .u64 (hi (X : Int)))).other (b := w2.heap.size) (by omega) 1 (.int .u64 (lo (X : Int)))
    have b7N : Box2 V18 w2.heap.size (.int .u64 (hi (X : Int))) (.int .u64 (lo (X : Int))) 139 := by rw [hV]; exact (b7).set (.int .u64 (hi (X : Int))) (.int .u64 (lo (X : Int)))
    have b9N : Box2 V18 w9.heap.size (.int .u64 (hi (D : Int))) (.int .u64 (lo (D : Int))) 139 := by rw [hV]; exact ((b9).other (b := w2.heap.size) (by omega) 0 (.int .u64 (hi (X : Int)))).other (b := w2.heap.size) (by omega) 1 (.int .u64 (lo (X : Int)))
    have b11N : Box2 V18 w13.heap.size (.int .u64 (hi (G : Int))) (.int .u64 (lo (G : Int))) 139 := by rw [hV]; exact ((b11).other (b := w2.heap.size) (by omega) 0 (.int .u64 (hi (X : Int)))).other (b := w2.heap.size) (by omega) 1 (.int .u64 (lo (X : Int)))
    replace xw : Ext w V18 := by rw [hV]; exact Ext.set (Ext.set (xw) (k := w2.heap.size) (o := 0) (u := .int .u64 (hi (X : Int))) (by omega)) (k := w2.heap.size) (o := 1) (u := .int .u64 (lo (X : Int))) (by omega)
    replace b2 := b2N; clear b2N
    replace b3 := b3N; clear b3N
    replace b4 := b4N; clear b4N
    replace b5 := b5N; clear b5N
    replace b7 := b7N; clear b7N
    replace b9 := b9N; clear b9N
    replace b11 := b11N; clear b11N
    clear hV
    have b9_c0 := b9.c0
    have b9_c1 := b9.c1
    have b11_c0 := b11.c0
    have b11_c1 := b11.c1
    go_wp2_with fail
    refine (HO2.out _).mono ?_
    rw [HY.out, HR2.out]
    rintro e w19 ⟨rfl, x19⟩
    clear b9_c0 b9_c1 b11_c0 b11_c1
    replace b2 := b2.ext x19
    replace b3 := b3.ext x19
    replace b4 := b4.ext x19
    replace b5 := b5.ext x19
    replace b7 := b7.ext x19
    replace b9 := b9.ext x19
    replace b11 := b11.ext x19
    replace xw := Ext.trans xw x19
    have b9_c0 := b9.c0
    have b9_c1 := b9.c1
    have b9_f0 := b9.f0
    have b9_f1 := b9.f1
    go_upto_region 8 with fail
    clear b9_c0 b9_c1 b9_f0 b9_f1
    refine wp_name ?_
    intro V20 hV
    have b2N : Box2 V20 w.heap.size (.int .i64 (hi n)) (.int .u64 (lo n)) 42 := by rw [hV]; exact ((b2).other (b := w9.heap.size) (by omega) 0 (.int .u64 (hi (Y : Int)))).other (b := w9.heap.size) (by omega) 1 (.int .u64 (lo (Y : Int)))
    have b3N : Box2 V20 (w.heap.size + 1) (.int .i64 (hi d)) (.int .u64 (lo d)) 42 := by rw [hV]; exact ((b3).other (b := w9.heap.size) (by omega) 0 (.int .u64 (hi (Y : Int)))).other (b := w9.heap.size) (by omega) 1 (.int .u64 (lo (Y : Int)))
    have b4N : Box2 V20 (w.heap.size + 1 + 1) (.int .i64 0) (.int .u64 0) 42 := by rw [hV]; exact ((b4).other (b := w9.heap.size) (by omega) 0 (.int .u64 (hi (Y : Int)))).other (b := w9.heap.size) (by omega) 1 (.int .u64 (lo (Y : Int)))
    have b5N : Box2 V20 (w.heap.size + 1 + 1 + 1) (.int .i64 0) (.int .u64 0) 42 := by rw [hV]; exact ((b5).other (b := w9.heap.size) (by omega) 0 (.int .u64 (hi (Y : Int)))).other (b := w9.heap.size) (by omega) 1 (.int .u64 (lo (Y : Int)))
    have b7N : Box2 V20 w2.heap.size (.int .u64 (hi (X : Int))) (.int .u64 (lo (X : Int))) 139 := by rw [hV]; exact ((b7).other (b := w9.heap.size) (by omega) 0 (.int .u64 (hi (Y : Int)))).other (b := w9.heap.size) (by omega) 1 (.int .u64 (lo (Y : Int)))
    have b9N : Box2 V20 w9.heap.size (.int .u64 (hi (Y : Int))) (.int .u64 (lo (Y : Int))) 139 := by rw [hV]; exact (b9).set (.int .u64 (hi (Y : Int))) (.int .u64 (lo (Y : Int)))
    have b11N : Box2 V20 w13.heap.size (.int .u64 (hi (G : Int))) (.int .u64 (lo (G : Int))) 139 := by rw [hV]; exact ((b11).other (b := w9.heap.size) (by omega) 0 (.int .u64 (hi (Y : Int)))).other (b := w9.heap.size) (by omega) 1 (.int .u64 (lo (Y : Int)))
    replace xw : Ext w V20 := by rw [hV]; exact Ext.set (Ext.set (xw) (k := w9.heap.size) (o := 0) (u := .int .u64 (hi (Y : Int))) (by omega)) (k := w9.heap.size) (o := 1) (u := .int .u64 (lo (Y : Int))) (by omega)
    replace b2 := b2N; clear b2N
    replace b3 := b3N; clear b3N
    replace b4 := b4N; clear b4N
    replace b5 := b5N; clear b5N
    replace b7 := b7N; clear b7N
    replace b9 := b9N; clear b9N
    replace b11 := b11N; clear b11N
    clear hV
    have b7_c0 := b7.c0
    have b7_c1 := b7.c1
    go_wp2_with fail
    refine (HSgd.out _ _ _ HUX.out).mono ?_
    rw [HP.out]
    rintro e w21 ⟨rfl, x21⟩
    rw [thi_yes hP, tlo_yes hP, ter_yes hP]
    clear b7_c0 b7_c1
    replace b2 := b2.ext x21
    replace b3 := b3.ext x21
    replace b4 := b4.ext x21
    replace b5 := b5.ext x21
    replace b7 := b7.ext x21
    replace b9 := b9.ext x21
    replace b11 := b11.ext x21
    replace xw := Ext.trans xw x21
    go_upto_region 9 with fail
    have o23 := b11.kind.lt
    have o24 := xw.size
    refine wp_name ?_
    intro V22 hV
    have b2N : Box2 V22 w.heap.size (.int .i64 (hi n)) (.int .u64 (lo n)) 42 := by rw [hV]; exact (b2).alloc _
    have b3N : Box2 V22 (w.heap.size + 1) (.int .i64 (hi d)) (.int .u64 (lo d)) 42 := by rw [hV]; exact (b3).alloc _
    have b4N : Box2 V22 (w.heap.size + 1 + 1) (.int .i64 0) (.int .u64 0) 42 := by rw [hV]; exact (b4).alloc _
    have b5N : Box2 V22 (w.heap.size + 1 + 1 + 1) (.int .i64 0) (.int .u64 0) 42 := by rw [hV]; exact (b5).alloc _
    have b7N : Box2 V22 w2.heap.size (.int .u64 (hi (X : Int))) (.int .u64 (lo (X : Int))) 139 := by rw [hV]; exact (b7).alloc _
    have b9N : Box2 V22 w9.heap.size (.int .u64 (hi (Y : Int))) (.int .u64 (lo (Y : Int))) 139 := by rw [hV]; exact (b9).alloc _
    have b11N : Box2 V22 w13.heap.size (.int .u64 (hi (G : Int))) (.int .u64 (lo (G : Int))) 139 := by rw [hV]; exact (b11).alloc _
    replace xw : Ext w V22 := by rw [hV]; exact Ext.alloc (xw)
    replace b2 := b2N; clear b2N
    replace b3 := b3N; clear b3N
    replace b4 := b4N; clear b4N
    replace b5 := b5N; clear b5N
    replace b7 := b7N; clear b7N
    replace b9 := b9N; clear b9N
    replace b11 := b11N; clear b11N
    have b12 : Box2 V22 w21.heap.size (.int .i64 (hi (frP n d))) (.int .u64 (lo (frP n d))) 42 := by rw [hV]; exact Box2.new rfl
    clear hV
    have b9_c0 := b9.c0
    have b9_c1 := b9.c1
    go_wp2_with fail
    refine (HSgd.out _ _ _ HUY.out).mono ?_
    rw [HQ.out]
    rintro e w25 ⟨rfl, x25⟩
    rw [thi_yes hQ, tlo_yes hQ, ter_yes hQ]
    clear b9_c0 b9_c1
    replace b2 := b2.ext x25
    replace b3 := b3.ext x25
    replace b4 := b4.ext x25
    replace b5 := b5.ext x25
    replace b7 := b7.ext x25
    replace b9 := b9.ext x25
    replace b11 := b11.ext x25
    replace b12 := b12.ext x25
    replace xw := Ext.trans xw x25
    go_upto_region 10 with fail
    have o27 := b12.kind.lt
    have o28 := xw.size
    refine wp_name ?_
    intro V26 hV
    have b2N : Box2 V26 w.heap.size (.int .i64 (hi n)) (.int .u64 (lo n)) 42 := by rw [hV]; exact (b2).alloc _
    have b3N : Box2 V26 (w.heap.size + 1) (.int .i64 (hi d)) (.int .u64 (lo d)) 42 := by rw [hV]; exact (b3).alloc _
    have b4N : Box2 V26 (w.heap.size + 1 + 1) (.int .i64 0) (.int .u64 0) 42 := by rw [hV]; exact (b4).alloc _
    have b5N : Box2 V26 (w.heap.size + 1 + 1 + 1) (.int .i64 0) (.int .u64 0) 42 := by rw [hV]; exact (b5).alloc _
    have b7N : Box2 V26 w2.heap.size (.int .u64 (hi (X : Int))) (.int .u64 (lo (X : Int))) 139 := by rw [hV]; exact (b7).alloc _
    have b9N : Box2 V26 w9.heap.size (.int .u64 (hi (Y : Int))) (.int .u64 (lo (Y : Int))) 139 := by rw [hV]; exact (b9).alloc _
    have b11N : Box2 V26 w13.heap.size (.int .u64 (hi (G : Int))) (.int .u64 (lo (G : Int))) 139 := by rw [hV]; exact (b11).alloc _
    have b12N : Box2 V26 w21.heap.size (.int .i64 (hi (frP n d))) (.int .u64 (lo (frP n d))) 42 := by rw [hV]; exact (b12).alloc _
    replace xw : Ext w V26 := by rw [hV]; exact Ext.alloc (xw)
    replace b2 := b2N; clear b2N
    replace b3 := b3N; clear b3N
    replace b4 := b4N; clear b4N
    replace b5 := b5N; clear b5N
    replace b7 := b7N; clear b7N
    replace b9 := b9N; clear b9N
    replace b11 := b11N; clear b11N
    replace b12 := b12N; clear b12N
    have b14 : Box2 V26 w25.heap.size (.int .i64 (hi (frQ n d))) (.int .u64 (lo (frQ n d))) 42 := by rw [hV]; exact Box2.new rfl
    clear hV
    go_upto_region 12 with fail
    have b12_c0 := b12.c0
    have b12_c1 := b12.c1
    have b14_c0 := b14.c0
    have b14_c1 := b14.c1
    have b4_c0 := b4.c0
    have b4_c1 := b4.c1
    have b4_f0 := b4.f0
    have b4_f1 := b4.f1
    have b5_c0 := b5.c0
    have b5_c1 := b5.c1
    have b5_f0 := b5.f0
    have b5_f1 := b5.f1
    have ne4_5 : ¬ w.heap.size + 1 + 1 = w.heap.size + 1 + 1 + 1 := by omega
    have ne5_4 : ¬ w.heap.size + 1 + 1 + 1 = w.heap.size + 1 + 1 := by omega
    have ne4_12 : ¬ w.heap.size + 1 + 1 = w21.heap.size := by omega
    have ne12_4 : ¬ w21.heap.size = w.heap.size + 1 + 1 := by omega
    have ne4_14 : ¬ w.heap.size + 1 + 1 = w25.heap.size := by omega
    have ne14_4 : ¬ w25.heap.size = w.heap.size + 1 + 1 := by omega
    have ne5_12 : ¬ w.heap.size + 1 + 1 + 1 = w21.heap.size := by omega
    have ne12_5 : ¬ w21.heap.size = w.heap.size + 1 + 1 + 1 := by omega
    have ne5_14 : ¬ w.heap.size + 1 + 1 + 1 = w25.heap.size := by omega
    have ne14_5 : ¬ w25.heap.size = w.heap.size + 1 + 1 + 1 := by omega
    go_region
    clear ne4_5 ne5_4 ne4_12 ne12_4 ne4_14 ne14_4 ne5_12 ne12_5 ne5_14 ne14_5
    have xr := Ext.drew (Ext.set (Ext.set (Ext.set (Ext.set (xw) (k := w.heap.size + 1 + 1) (o := 0) (u := .int .i64 (hi (frP n d))) (by omega)) (k := w.heap.size + 1 + 1) (o := 1) (u := .int .u64 (lo (frP n d))) (by omega)) (k := w.heap.size + 1 + 1 + 1) (o := 0) (u := .int .i64 (hi (frQ n d))) (by omega)) (k := w.heap.size + 1 + 1 + 1) (o := 1) (u := .int .u64 (lo (frQ n d))) (by omega))
    go_wp2_with fail
    refine bodyPost_ret (v := .tuple #[.agg #[.int .i64 (hi (frP n d)), .int .u64 (lo (frP n d))], .agg #[.int .i64 (hi (frQ n d)), .int .u64 (lo (frQ n d))], .int .i64 0]) (by simp [results, Tryz.results41, go_sem, b4_c0, b4_c1, b5_c0, b5_c1]) rfl (retFr_yes ⟨H0.out, hP, hQ⟩ xr)
  · have g1 : (hi d == 0) = false := by simpa using hz1
    clear hz hz1
    go_enter Tryz.func41, Tryz.ntmps41
    go_upto_region 1 with fail
    have xw := Ext.refl w
    refine wp_name ?_
    intro V29 hV
    replace xw : Ext w V29 := by rw [hV]; exact Ext.alloc (Ext.alloc (Ext.alloc (Ext.alloc (xw))))
    have b2 : Box2 V29 w.heap.size (.int .i64 (hi n)) (.int .u64 (lo n)) 42 := by rw [hV]; exact (((Box2.new rfl).alloc _).alloc _).alloc _
    have b3 : Box2 V29 (w.heap.size + 1) (.int .i64 (hi d)) (.int .u64 (lo d)) 42 := by rw [hV]; exact ((Box2.new (by simp)).alloc _).alloc _
    have b4 : Box2 V29 (w.heap.size + 1 + 1) (.int .i64 0) (.int .u64 0) 42 := by rw [hV]; exact (Box2.new (by simp)).alloc _
    have b5 : Box2 V29 (w.heap.size + 1 + 1 + 1) (.int .i64 0) (.int .u64 0) 42 := by rw [hV]; exact Box2.new (by simp)
    clear hV
    have b3_c0 := b3.c0
    have b3_c1 := b3.c1
    go_upto_region 3 with fail
    clear b3_c0 b3_c1
    have b2_c0 := b2.c0
    have b2_c1 := b2.c1
    go_wp2_with fail
    refine (HPar.out n _ hn).mono ?_
    rw [HA.out]
    rintro e w30 ⟨rfl, x30⟩
    clear b2_c0 b2_c1
    replace b2 := b2.ext x30
    replace b3 := b3.ext x30
    replace b4 := b4.ext x30
    replace b5 := b5.ext x30
    replace xw := Ext.trans xw x30
    go_upto_region 4 with fail
    have o32 := b2.kind.lt
    have o33 := b3.kind.lt
    have o34 := b4.kind.lt
    have o35 := b5.kind.lt
    have o36 := xw.size
    refine wp_name ?_
    intro V31 hV
    have b2N : Box2 V31 w.heap.size (.int .i64 (hi n)) (.int .u64 (lo n)) 42 := by rw [hV]; exact (b2).alloc _
    have b3N : Box2 V31 (w.heap.size + 1) (.int .i64 (hi d)) (.int .u64 (lo d)) 42 := by rw [hV]; exact (b3).alloc _
    have b4N : Box2 V31 (w.heap.size + 1 + 1) (.int .i64 0) (.int .u64 0) 42 := by rw [hV]; exact (b4).alloc _
    have b5N : Box2 V31 (w.heap.size + 1 + 1 + 1) (.int .i64 0) (.int .u64 0) 42 := by rw [hV]; exact (b5).alloc _
    replace xw : Ext w V31 := by rw [hV]; exact Ext.alloc (xw)
    replace b2 := b2N; clear b2N
    replace b3 := b3N; clear b3N
    replace b4 := b4N; clear b4N
    replace b5 := b5N; clear b5N
    have b7 : Box2 V31 w30.heap.size (.int .u64 (hi (A : Int))) (.int .u64 (lo (A : Int))) 139 := by rw [hV]; exact Box2.new rfl
    clear hV
    have b3_c0 := b3.c0
    have b3_c1 := b3.c1
    go_wp2_with fail
    refine (HPar.out d _ hd).mono ?_
    rw [HD.out]
    rintro e w37 ⟨rfl, x37⟩
    clear b3_c0 b3_c1
    replace b2 := b2.ext x37
    replace b3 := b3.ext x37
    replace b4 := b4.ext x37
    replace b5 := b5.ext x37
    replace b7 := b7.ext x37
    replace xw := Ext.trans xw x37
    go_upto_region 5 with fail
    have o39 := b7.kind.lt
    have o40 := xw.size
    refine wp_name ?_
    intro V38 hV
    have b2N : Box2 V38 w.heap.size (.int .i64 (hi n)) (.int .u64 (lo n)) 42 := by rw [hV]; exact (b2).alloc _
    have b3N : Box2 V38 (w.heap.size + 1) (.int .i64 (hi d)) (.int .u64 (lo d)) 42 := by rw [hV]; exact (b3).alloc _
    have b4N : Box2 V38 (w.heap.size + 1 + 1) (.int .i64 0) (.int .u64 0) 42 := by rw [hV]; exact (b4).alloc _
    have b5N : Box2 V38 (w.heap.size + 1 + 1 + 1) (.int .i64 0) (.int .u64 0) 42 := by rw [hV]; exact (b5).alloc _
    have b7N : Box2 V38 w30.heap.size (.int .u64 (hi (A : Int))) (.int .u64 (lo (A : Int))) 139 := by rw [hV]; exact (b7).alloc _
    replace xw : Ext w V38 := by rw [hV]; exact Ext.alloc (xw)
    replace b2 := b2N; clear b2N
    replace b3 := b3N; clear b3N
    replace b4 := b4N; clear b4N
    replace b5 := b5N; clear b5N
    replace b7 := b7N; clear b7N
    have b9 : Box2 V38 w37.heap.size (.int .u64 (hi (D : Int))) (.int .u64 (lo (D : Int))) 139 := by rw [hV]; exact Box2.new rfl
    clear hV
    have b7_c0 := b7.c0
    have b7_c1 := b7.c1
    have b9_c0 := b9.c0
    have b9_c1 := b9.c1
    go_wp2_with fail
    refine (HGc.out 170141183460469231731687303715884105728 A D _ HBd.out.1 HBd.out.2 HOT.out).mono ?_
    rw [HG.out]
    rintro e w41 ⟨rfl, x41⟩
    clear b7_c0 b7_c1 b9_c0 b9_c1
    replace b2 := b2.ext x41
    replace b3 := b3.ext x41
    replace b4 := b4.ext x41
    replace b5 := b5.ext x41
    replace b7 := b7.ext x41
    replace b9 := b9.ext x41
    replace xw := Ext.trans xw x41
    go_upto_region 6 with fail
    have o43 := b9.kind.lt
    have o44 := xw.size
    refine wp_name ?_
    intro V42 hV
    have b2N : Box2 V42 w.heap.size (.int .i64 (hi n)) (.int .u64 (lo n)) 42 := by rw [hV]; exact (b2).alloc _
    have b3N : Box2 V42 (w.heap.size + 1) (.int .i64 (hi d)) (.int .u64 (lo d)) 42 := by rw [hV]; exact (b3).alloc _
    have b4N : Box2 V42 (w.heap.size + 1 + 1) (.int .i64 0) (.int .u64 0) 42 := by rw [hV]; exact (b4).alloc _
    have b5N : Box2 V42 (w.heap.size + 1 + 1 + 1) (.int .i64 0) (.int .u64 0) 42 := by rw [hV]; exact (b5).alloc _
    have b7N : Box2 V42 w30.heap.size (.int .u64 (hi (A : Int))) (.int .u64 (lo (A : Int))) 139 := by rw [hV]; exact (b7).alloc _
    have b9N : Box2 V42 w37.heap.size (.int .u64 (hi (D : Int))) (.int .u64 (lo (D : Int))) 139 := by rw [hV]; exact (b9).alloc _
    replace xw : Ext w V42 := by rw [hV]; exact Ext.alloc (xw)
    replace b2 := b2N; clear b2N
    replace b3 := b3N; clear b3N
    replace b4 := b4N; clear b4N
    replace b5 := b5N; clear b5N
    replace b7 := b7N; clear b7N
    replace b9 := b9N; clear b9N
    have b11 : Box2 V42 w41.heap.size (.int .u64 (hi (G : Int))) (.int .u64 (lo (G : Int))) 139 := by rw [hV]; exact Box2.new rfl
    clear hV
    have b7_c0 := b7.c0
    have b7_c1 := b7.c1
    have b11_c0 := b11.c0
    have b11_c1 := b11.c1
    go_wp2_with fail
    refine (HO1.out _).mono ?_
    rw [HX.out, HR1.out]
    rintro e w45 ⟨rfl, x45⟩
    clear b7_c0 b7_c1 b11_c0 b11_c1
    replace b2 := b2.ext x45
    replace b3 := b3.ext x45
    replace b4 := b4.ext x45
    replace b5 := b5.ext x45
    replace b7 := b7.ext x45
    replace b9 := b9.ext x45
    replace b11 := b11.ext x45
    replace xw := Ext.trans xw x45
    have b7_c0 := b7.c0
    have b7_c1 := b7.c1
    have b7_f0 := b7.f0
    have b7_f1 := b7.f1
    go_upto_region 7 with fail
    clear b7_c0 b7_c1 b7_f0 b7_f1
    refine wp_name ?_
    intro V46 hV
    have b2N : Box2 V46 w.heap.size (.int .i64 (hi n)) (.int .u64 (lo n)) 42 := by rw [hV]; exact ((b2).other (b := w30.heap.size) (by omega) 0 (.int .u64 (hi (X : Int)))).other (b := w30.heap.size) (by omega) 1 (.int .u64 (lo (X : Int)))
    have b3N : Box2 V46 (w.heap.size + 1) (.int .i64 (hi d)) (.int .u64 (lo d)) 42 := by rw [hV]; exact ((b3).other (b := w30.heap.size) (by omega) 0 (.int .u64 (hi (X : Int)))).other (b := w30.heap.size) (by omega) 1 (.int .u64 (lo (X : Int)))
    have b4N : Box2 V46 (w.heap.size + 1 + 1) (.int .i64 0) (.int .u64 0) 42 := by rw [hV]; exact ((b4).other (b := w30.heap.size) (by omega) 0 (.int .u64 (hi (X : Int)))).other (b := w30.heap.size) (by omega) 1 (.int .u64 (lo (X : Int)))
    have b5N : Box2 V46 (w.heap.size + 1 + 1 + 1) (.int .i64 0) (.int .u64 0) 42 := by rw [hV]; exact ((b5).other (b := w30.heap.size) (by omega) 0 (.int .u64 (hi (X : Int)))).other (b := w30.heap.size) (by omega) 1 (.int .u64 (lo (X : Int)))
    have b7N : Box2 V46 w30.heap.size (.int .u64 (hi (X : Int))) (.int .u64 (lo (X : Int))) 139 := by rw [hV]; exact (b7).set (.int .u64 (hi (X : Int))) (.int .u64 (lo (X : Int)))
    have b9N : Box2 V46 w37.heap.size (.int .u64 (hi (D : Int))) (.int .u64 (lo (D : Int))) 139 := by rw [hV]; exact ((b9).other (b := w30.heap.size) (by omega) 0 (.int .u64 (hi (X : Int)))).other (b := w30.heap.size) (by omega) 1 (.int .u64 (lo (X : Int)))
    have b11N : Box2 V46 w41.heap.size (.int .u64 (hi (G : Int))) (.int .u64 (lo (G : Int))) 139 := by rw [hV]; exact ((b11).other (b := w30.heap.size) (by omega) 0 (.int .u64 (hi (X : Int)))).other (b := w30.heap.size) (by omega) 1 (.int .u64 (lo (X : Int)))
    replace xw : Ext w V46 := by rw [hV]; exact Ext.set (Ext.set (xw) (k := w30.heap.size) (o := 0) (u := .int .u64 (hi (X : Int))) (by omega)) (k := w30.heap.size) (o := 1) (u := .int .u64 (lo (X : Int))) (by omega)
    replace b2 := b2N; clear b2N
    replace b3 := b3N; clear b3N
    replace b4 := b4N; clear b4N
    replace b5 := b5N; clear b5N
    replace b7 := b7N; clear b7N
    replace b9 := b9N; clear b9N
    replace b11 := b11N; clear b11N
    clear hV
    have b9_c0 := b9.c0
    have b9_c1 := b9.c1
    have b11_c0 := b11.c0
    have b11_c1 := b11.c1
    go_wp2_with fail
    refine (HO2.out _).mono ?_
    rw [HY.out, HR2.out]
    rintro e w47 ⟨rfl, x47⟩
    clear b9_c0 b9_c1 b11_c0 b11_c1
    replace b2 := b2.ext x47
    replace b3 := b3.ext x47
    replace b4 := b4.ext x47
    replace b5 := b5.ext x47
    replace b7 := b7.ext x47
    replace b9 := b9.ext x47
    replace b11 := b11.ext x47
    replace xw := Ext.trans xw x47
    have b9_c0 := b9.c0
    have b9_c1 := b9.c1
    have b9_f0 := b9.f0
    have b9_f1 := b9.f1
    go_upto_region 8 with fail
    clear b9_c0 b9_c1 b9_f0 b9_f1
    refine wp_name ?_
    intro V48 hV
    have b2N : Box2 V48 w.heap.size (.int .i64 (hi n)) (.int .u64 (lo n)) 42 := by rw [hV]; exact ((b2).other (b := w37.heap.size) (by omega) 0 (.int .u64 (hi (Y : Int)))).other (b := w37.heap.size) (by omega) 1 (.int .u64 (lo (Y : Int)))
    have b3N : Box2 V48 (w.heap.size + 1) (.int .i64 (hi d)) (.int .u64 (lo d)) 42 := by rw [hV]; exact ((b3).other (b := w37.heap.size) (by omega) 0 (.int .u64 (hi (Y : Int)))).other (b := w37.heap.size) (by omega) 1 (.int .u64 (lo (Y : Int)))
    have b4N : Box2 V48 (w.heap.size + 1 + 1) (.int .i64 0) (.int .u64 0) 42 := by rw [hV]; exact ((b4).other (b := w37.heap.size) (by omega) 0 (.int .u64 (hi (Y : Int)))).other (b := w37.heap.size) (by omega) 1 (.int .u64 (lo (Y : Int)))
    have b5N : Box2 V48 (w.heap.size + 1 + 1 + 1) (.int .i64 0) (.int .u64 0) 42 := by rw [hV]; exact ((b5).other (b := w37.heap.size) (by omega) 0 (.int .u64 (hi (Y : Int)))).other (b := w37.heap.size) (by omega) 1 (.int .u64 (lo (Y : Int)))
    have b7N : Box2 V48 w30.heap.size (.int .u64 (hi (X : Int))) (.int .u64 (lo (X : Int))) 139 := by rw [hV]; exact ((b7).other (b := w37.heap.size) (by omega) 0 (.int .u64 (hi (Y : Int)))).other (b := w37.heap.size) (by omega) 1 (.int .u64 (lo (Y : Int)))
    have b9N : Box2 V48 w37.heap.size (.int .u64 (hi (Y : Int))) (.int .u64 (lo (Y : Int))) 139 := by rw [hV]; exact (b9).set (.int .u64 (hi (Y : Int))) (.int .u64 (lo (Y : Int)))
    have b11N : Box2 V48 w41.heap.size (.int .u64 (hi (G : Int))) (.int .u64 (lo (G : Int))) 139 := by rw [hV]; exact ((b11).other (b := w37.heap.size) (by omega) 0 (.int .u64 (hi (Y : Int)))).other (b := w37.heap.size) (by omega) 1 (.int .u64 (lo (Y : Int)))
    replace xw : Ext w V48 := by rw [hV]; exact Ext.set (Ext.set (xw) (k := w37.heap.size) (o := 0) (u := .int .u64 (hi (Y : Int))) (by omega)) (k := w37.heap.size) (o := 1) (u := .int .u64 (lo (Y : Int))) (by omega)
    replace b2 := b2N; clear b2N
    replace b3 := b3N; clear b3N
    replace b4 := b4N; clear b4N
    replace b5 := b5N; clear b5N
    replace b7 := b7N; clear b7N
    replace b9 := b9N; clear b9N
    replace b11 := b11N; clear b11N
    clear hV
    have b7_c0 := b7.c0
    have b7_c1 := b7.c1
    go_wp2_with fail
    refine (HSgd.out _ _ _ HUX.out).mono ?_
    rw [HP.out]
    rintro e w49 ⟨rfl, x49⟩
    rw [thi_yes hP, tlo_yes hP, ter_yes hP]
    clear b7_c0 b7_c1
    replace b2 := b2.ext x49
    replace b3 := b3.ext x49
    replace b4 := b4.ext x49
    replace b5 := b5.ext x49
    replace b7 := b7.ext x49
    replace b9 := b9.ext x49
    replace b11 := b11.ext x49
    replace xw := Ext.trans xw x49
    go_upto_region 9 with fail
    have o51 := b11.kind.lt
    have o52 := xw.size
    refine wp_name ?_
    intro V50 hV
    have b2N : Box2 V50 w.heap.size (.int .i64 (hi n)) (.int .u64 (lo n)) 42 := by rw [hV]; exact (b2).alloc _
    have b3N : Box2 V50 (w.heap.size + 1) (.int .i64 (hi d)) (.int .u64 (lo d)) 42 := by rw [hV]; exact (b3).alloc _
    have b4N : Box2 V50 (w.heap.size + 1 + 1) (.int .i64 0) (.int .u64 0) 42 := by rw [hV]; exact (b4).alloc _
    have b5N : Box2 V50 (w.heap.size + 1 + 1 + 1) (.int .i64 0) (.int .u64 0) 42 := by rw [hV]; exact (b5).alloc _
    have b7N : Box2 V50 w30.heap.size (.int .u64 (hi (X : Int))) (.int .u64 (lo (X : Int))) 139 := by rw [hV]; exact (b7).alloc _
    have b9N : Box2 V50 w37.heap.size (.int .u64 (hi (Y : Int))) (.int .u64 (lo (Y : Int))) 139 := by rw [hV]; exact (b9).alloc _
    have b11N : Box2 V50 w41.heap.size (.int .u64 (hi (G : Int))) (.int .u64 (lo (G : Int))) 139 := by rw [hV]; exact (b11).alloc _
    replace xw : Ext w V50 := by rw [hV]; exact Ext.alloc (xw)
    replace b2 := b2N; clear b2N
    replace b3 := b3N; clear b3N
    replace b4 := b4N; clear b4N
    replace b5 := b5N; clear b5N
    replace b7 := b7N; clear b7N
    replace b9 := b9N; clear b9N
    replace b11 := b11N; clear b11N
    have b12 : Box2 V50 w49.heap.size (.int .i64 (hi (frP n d))) (.int .u64 (lo (frP n d))) 42 := by rw [hV]; exact Box2.new rfl
    clear hV
    have b9_c0 := b9.c0
    have b9_c1 := b9.c1
    go_wp2_with fail
    refine (HSgd.out _ _ _ HUY.out).mono ?_
    rw [HQ.out]
    rintro e w53 ⟨rfl, x53⟩
    rw [thi_yes hQ, tlo_yes hQ, ter_yes hQ]
    clear b9_c0 b9_c1
    replace b2 := b2.ext x53
    replace b3 := b3.ext x53
    replace b4 := b4.ext x53
    replace b5 := b5.ext x53
    replace b7 := b7.ext x53
    replace b9 := b9.ext x53
    replace b11 := b11.ext x53
    replace b12 := b12.ext x53
    replace xw := Ext.trans xw x53
    go_upto_region 10 with fail
    have o55 := b12.kind.lt
    have o56 := xw.size
    refine wp_name ?_
    intro V54 hV
    have b2N : Box2 V54 w.heap.size (.int .i64 (hi n)) (.int .u64 (lo n)) 42 := by rw [hV]; exact (b2).alloc _
    have b3N : Box2 V54 (w.heap.size + 1) (.int .i64 (hi d)) (.int .u64 (lo d)) 42 := by rw [hV]; exact (b3).alloc _
    have b4N : Box2 V54 (w.heap.size + 1 + 1) (.int .i64 0) (.int .u64 0) 42 := by rw [hV]; exact (b4).alloc _
    have b5N : Box2 V54 (w.heap.size + 1 + 1 + 1) (.int .i64 0) (.int .u64 0) 42 := by rw [hV]; exact (b5).alloc _
    have b7N : Box2 V54 w30.heap.size (.int .u64 (hi (X : Int))) (.int .u64 (lo (X : Int))) 139 := by rw [hV]; exact (b7).alloc _
    have b9N : Box2 V54 w37.heap.size (.int .u64 (hi (Y : Int))) (.int .u64 (lo (Y : Int))) 139 := by rw [hV]; exact (b9).alloc _
    have b11N : Box2 V54 w41.heap.size (.int .u64 (hi (G : Int))) (.int .u64 (lo (G : Int))) 139 := by rw [hV]; exact (b11).alloc _
    have b12N : Box2 V54 w49.heap.size (.int .i64 (hi (frP n d))) (.int .u64 (lo (frP n d))) 42 := by rw [hV]; exact (b12).alloc _
    replace xw : Ext w V54 := by rw [hV]; exact Ext.alloc (xw)
    replace b2 := b2N; clear b2N
    replace b3 := b3N; clear b3N
    replace b4 := b4N; clear b4N
    replace b5 := b5N; clear b5N
    replace b7 := b7N; clear b7N
    replace b9 := b9N; clear b9N
    replace b11 := b11N; clear b11N
    replace b12 := b12N; clear b12N
    have b14 : Box2 V54 w53.heap.size (.int .i64 (hi (frQ n d))) (.int .u64 (lo (frQ n d))) 42 := by rw [hV]; exact Box2.new rfl
    clear hV
    go_upto_region 12 with fail
    have b12_c0 := b12.c0
    have b12_c1 := b12.c1
    have b14_c0 := b14.c0
    have b14_c1 := b14.c1
    have b4_c0 := b4.c0
    have b4_c1 := b4.c1
    have b4_f0 := b4.f0
    have b4_f1 := b4.f1
    have b5_c0 := b5.c0
    have b5_c1 := b5.c1
    have b5_f0 := b5.f0
    have b5_f1 := b5.f1
    have ne4_5 : ¬ w.heap.size + 1 + 1 = w.heap.size + 1 + 1 + 1 := by omega
    have ne5_4 : ¬ w.heap.size + 1 + 1 + 1 = w.heap.size + 1 + 1 := by omega
    have ne4_12 : ¬ w.heap.size + 1 + 1 = w49.heap.size := by omega
    have ne12_4 : ¬ w49.heap.size = w.heap.size + 1 + 1 := by omega
    have ne4_14 : ¬ w.heap.size + 1 + 1 = w53.heap.size := by omega
    have ne14_4 : ¬ w53.heap.size = w.heap.size + 1 + 1 := by omega
    have ne5_12 : ¬ w.heap.size + 1 + 1 + 1 = w49.heap.size := by omega
    have ne12_5 : ¬ w49.heap.size = w.heap.size + 1 + 1 + 1 := by omega
    have ne5_14 : ¬ w.heap.size + 1 + 1 + 1 = w53.heap.size := by omega
    have ne14_5 : ¬ w53.heap.size = w.heap.size + 1 + 1 + 1 := by omega
    go_region
    clear ne4_5 ne5_4 ne4_12 ne12_4 ne4_14 ne14_4 ne5_12 ne12_5 ne5_14 ne14_5
    have xr := Ext.drew (Ext.set (Ext.set (Ext.set (Ext.set (xw) (k := w.heap.size + 1 + 1) (o := 0) (u := .int .i64 (hi (frP n d))) (by omega)) (k := w.heap.size + 1 + 1) (o := 1) (u := .int .u64 (lo (frP n d))) (by omega)) (k := w.heap.size + 1 + 1 + 1) (o := 0) (u := .int .i64 (hi (frQ n d))) (by omega)) (k := w.heap.size + 1 + 1 + 1) (o := 1) (u := .int .u64 (lo (frQ n d))) (by omega))
    go_wp2_with fail
    refine bodyPost_ret (v := .tuple #[.agg #[.int .i64 (hi (frP n d)), .int .u64 (lo (frP n d))], .agg #[.int .i64 (hi (frQ n d)), .int .u64 (lo (frQ n d))], .int .i64 0]) (by simp [results, Tryz.results41, go_sem, b4_c0, b4_c1, b5_c0, b5_c1]) rfl (retFr_yes ⟨H0.out, hP, hQ⟩ xr)
set_option maxRecDepth 100000 in
set_option maxHeartbeats 3200000 in
theorem dfrac_no1 (n d : Int) (w : World) (hn : W128 n) (hd : W128 d) (h0 : d ≠ 0) (hP : ¬ W128 (frP n d)) :
    Calls Tryz.prog 41 #[.agg #[.int .i64 (hi n), .int .u64 (lo n)], .agg #[.int .i64 (hi d), .int .u64 (lo d)]] w (RetFr w n d) := by
  have HPar := Lib.hid dparts
  have HGc := Lib.hid dgcd
  have HSgd := Lib.hid dsigned
  have HOT := Lib.hid (overTo_all (M := 170141183460469231731687303715884105728) (Nat.le_refl _))
  have HBd := Lib.hid (show n.natAbs ≤ 170141183460469231731687303715884105728 ∧ d.natAbs ≤ 170141183460469231731687303715884105728 by unfold W128 at hn hd; omega)
  obtain ⟨A, hA⟩ : ∃ A : Nat, A = n.natAbs := ⟨_, rfl⟩
  obtain ⟨D, hD⟩ : ∃ D : Nat, D = d.natAbs := ⟨_, rfl⟩
  obtain ⟨G, hG⟩ : ∃ G : Nat, G = Nat.gcd A D := ⟨_, rfl⟩
  obtain ⟨X, hX⟩ : ∃ X : Nat, X = A / G := ⟨_, rfl⟩
  obtain ⟨Y, hY⟩ : ∃ Y : Nat, Y = D / G := ⟨_, rfl⟩
  have hg : 0 < G := by rw [hG, hA, hD]; exact gcd_pos h0
  have hg2 : G ≤ D := by rw [hG]; exact Nat.gcd_le_right _ (by omega)
  rw [← hA, ← hD] at HBd
  have HA := Lib.hid (show mag n = (A : Int) by rw [hA]; exact mag_abs n)
  have HD := Lib.hid (show mag d = (D : Int) by rw [hD]; exact mag_abs d)
  have HG := Lib.hid (show ((Nat.gcd A D : Nat) : Int) = (G : Int) by rw [hG])
  have HO1 := Lib.hid (show OverC (A : Int) (G : Int) from HOT.out A G HBd.out.1 hg (Nat.le_trans hg2 HBd.out.2))
  have HO2 := Lib.hid (show OverC (D : Int) (G : Int) from HOT.out D G HBd.out.2 hg (Nat.le_trans hg2 HBd.out.2))
  have HX := Lib.hid (show (A : Int) / (G : Int) = (X : Int) by rw [hX]; omega)
  have HY := Lib.hid (show (D : Int) / (G : Int) = (Y : Int) by rw [hY]; omega)
  have HUX := Lib.hid (show U128 (X : Int) by have := Nat.div_le_self A G; have := HBd.out.1; unfold U128; omega)
  have HUY := Lib.hid (show U128 (Y : Int) by have := Nat.div_le_self D G; have := HBd.out.2; unfold U128; omega)
  have HP := Lib.hid (show wsg (!(decide (n < 0) == decide (d < 0))) (X : Int) = frP n d by unfold frP; rw [hX, hG, hA, hD])
  have HQ := Lib.hid (show wsg false (Y : Int) = frQ n d by unfold frQ; rw [hY, hG, hA, hD]; rfl)
  obtain ⟨r1, e1⟩ : ∃ r, (A : Int) % (G : Int) = r := ⟨_, rfl⟩
  obtain ⟨r2, e2⟩ : ∃ r, (D : Int) % (G : Int) = r := ⟨_, rfl⟩
  have HR1 := Lib.hid e1
  have HR2 := Lib.hid e2
  obtain ⟨t1, e3⟩ : ∃ r, thi (frQ n d) = r := ⟨_, rfl⟩
  obtain ⟨t2, e4⟩ : ∃ r, tlo (frQ n d) = r := ⟨_, rfl⟩
  obtain ⟨t3, e5⟩ : ∃ r, ter (frQ n d) = r := ⟨_, rfl⟩
  have HT1 := Lib.hid e3
  have HT2 := Lib.hid e4
  have HT3 := Lib.hid e5
  have H0 := Lib.hid h0
  have hz : ¬ (hi d = 0 ∧ lo d = 0) := by rintro ⟨g1, g2⟩; have := hi_lo d; omega
  clear hA hD hG hX hY e1 e2 e3 e4 e5 h0 hg hg2
  by_cases hz1 : hi d = 0
  · have g1 : (hi d == 0) = true := by simpa using hz1
    have g2 : (lo d == 0) = false := by simpa using fun h => hz ⟨hz1, h⟩
    clear hz hz1
    go_enter Tryz.func41, Tryz.ntmps41
    go_upto_region 1 with fail
    have xw := Ext.refl w
    refine wp_name ?_
    intro V1 hV
    replace xw : Ext w V1 := by rw [hV]; exact Ext.alloc (Ext.alloc (Ext.alloc (Ext.alloc (xw))))
    have b2 : Box2 V1 w.heap.size (.int .i64 (hi n)) (.int .u64 (lo n)) 42 := by rw [hV]; exact (((Box2.new rfl).alloc _).alloc _).alloc _
    have b3 : Box2 V1 (w.heap.size + 1) (.int .i64 (hi d)) (.int .u64 (lo d)) 42 := by rw [hV]; exact ((Box2.new (by simp)).alloc _).alloc _
    have b4 : Box2 V1 (w.heap.size + 1 + 1) (.int .i64 0) (.int .u64 0) 42 := by rw [hV]; exact (Box2.new (by simp)).alloc _
    have b5 : Box2 V1 (w.heap.size + 1 + 1 + 1) (.int .i64 0) (.int .u64 0) 42 := by rw [hV]; exact Box2.new (by simp)
    clear hV
    have b3_c0 := b3.c0
    have b3_c1 := b3.c1
    go_upto_region 3 with fail
    clear b3_c0 b3_c1
    have b2_c0 := b2.c0
    have b2_c1 := b2.c1
    go_wp2_with fail
    refine (HPar.out n _ hn).mono ?_
    rw [HA.out]
    rintro e w2 ⟨rfl, x2⟩
    clear b2_c0 b2_c1
    replace b2 := b2.ext x2
    replace b3 := b3.ext x2
    replace b4 := b4.ext x2
    replace b5 := b5.ext x2
    replace xw := Ext.trans xw x2
    go_upto_region 4 with fail
    have o4 := b2.kind.lt
    have o5 := b3.kind.lt
    have o6 := b4.kind.lt
    have o7 := b5.kind.lt
    have o8 := xw.size
    refine wp_name ?_
    intro V3 hV
    have b2N : Box2 V3 w.heap.size (.int .i64 (hi n)) (.int .u64 (lo n)) 42 := by rw [hV]; exact (b2).alloc _
    have b3N : Box2 V3 (w.heap.size + 1) (.int .i64 (hi d)) (.int .u64 (lo d)) 42 := by rw [hV]; exact (b3).alloc _
    have b4N : Box2 V3 (w.heap.size + 1 + 1) (.int .i64 0) (.int .u64 0) 42 := by rw [hV]; exact (b4).alloc _
    have b5N : Box2 V3 (w.heap.size + 1 + 1 + 1) (.int .i64 0) (.int .u64 0) 42 := by rw [hV]; exact (b5).alloc _
    replace xw : Ext w V3 := by rw [hV]; exact Ext.alloc (xw)
    replace b2 := b2N; clear b2N
    replace b3 := b3N; clear b3N
    replace b4 := b4N; clear b4N
    replace b5 := b5N; clear b5N
    have b7 : Box2 V3 w2.heap.size (.int .u64 (hi (A : Int))) (.int .u64 (lo (A : Int))) 139 := by rw [hV]; exact Box2.new rfl
    clear hV
    have b3_c0 := b3.c0
    have b3_c1 := b3.c1
    go_wp2_with fail
    refine (HPar.out d _ hd).mono ?_
    rw [HD.out]
    rintro e w9 ⟨rfl, x9⟩
    clear b3_c0 b3_c1
    replace b2 := b2.ext x9
    replace b3 := b3.ext x9
    replace b4 := b4.ext x9
    replace b5 := b5.ext x9
    replace b7 := b7.ext x9
    replace xw := Ext.trans xw x9
    go_upto_region 5 with fail
    have o11 := b7.kind.lt
    have o12 := xw.size
    refine wp_name ?_
    intro V10 hV
    have b2N : Box2 V10 w.heap.size (.int .i64 (hi n)) (.int .u64 (lo n)) 42 := by rw [hV]; exact (b2).alloc _
    have b3N : Box2 V10 (w.heap.size + 1) (.int .i64 (hi d)) (.int .u64 (lo d)) 42 := by rw [hV]; exact (b3).alloc _
    have b4N : Box2 V10 (w.heap.size + 1 + 1) (.int .i64 0) (.int .u64 0) 42 := by rw [hV]; exact (b4).alloc _
    have b5N : Box2 V10 (w.heap.size + 1 + 1 + 1) (.int .i64 0) (.int .u64 0) 42 := by rw [hV]; exact (b5).alloc _
    have b7N : Box2 V10 w2.heap.size (.int .u64 (hi (A : Int))) (.int .u64 (lo (A : Int))) 139 := by rw [hV]; exact (b7).alloc _
    replace xw : Ext w V10 := by rw [hV]; exact Ext.alloc (xw)
    replace b2 := b2N; clear b2N
    replace b3 := b3N; clear b3N
    replace b4 := b4N; clear b4N
    replace b5 := b5N; clear b5N
    replace b7 := b7N; clear b7N
    have b9 : Box2 V10 w9.heap.size (.int .u64 (hi (D : Int))) (.int .u64 (lo (D : Int))) 139 := by rw [hV]; exact Box2.new rfl
    clear hV
    have b7_c0 := b7.c0
    have b7_c1 := b7.c1
    have b9_c0 := b9.c0
    have b9_c1 := b9.c1
    go_wp2_with fail
    refine (HGc.out 170141183460469231731687303715884105728 A D _ HBd.out.1 HBd.out.2 HOT.out).mono ?_
    rw [HG.out]
    rintro e w13 ⟨rfl, x13⟩
    clear b7_c0 b7_c1 b9_c0 b9_c1
    replace b2 := b2.ext x13
    replace b3 := b3.ext x13
    replace b4 := b4.ext x13
    replace b5 := b5.ext x13
    replace b7 := b7.ext x13
    replace b9 := b9.ext x13
    replace xw := Ext.trans xw x13
    go_upto_region 6 with fail
    have o15 := b9.kind.lt
    have o16 := xw.size
    refine wp_name ?_
    intro V14 hV
    have b2N : Box2 V14 w.heap.size (.int .i64 (hi n)) (.int .u64 (lo n)) 42 := by rw [hV]; exact (b2).alloc _
    have b3N : Box2 V14 (w.heap.size + 1) (.int .i64 (hi d)) (.int .u64 (lo d)) 42 := by rw [hV]; exact (b3).alloc _
    have b4N : Box2 V14 (w.heap.size + 1 + 1) (.int .i64 0) (.int .u64 0) 42 := by rw [hV]; exact (b4).alloc _
    have b5N : Box2 V14 (w.heap.size + 1 + 1 + 1) (.int .i64 0) (.int .u64 0) 42 := by rw [hV]; exact (b5).alloc _
    have b7N : Box2 V14 w2.heap.size (.int .u64 (hi (A : Int))) (.int .u64 (lo (A : Int))) 139 := by rw [hV]; exact (b7).alloc _
    have b9N : Box2 V14 w9.heap.size (.int .u64 (hi (D : Int))) (.int .u64 (lo (D : Int))) 139 := by rw [hV]; exact (b9).alloc _
    replace xw : Ext w V14 := by rw [hV]; exact Ext.alloc (xw)
    replace b2 := b2N; clear b2N
    replace b3 := b3N; clear b3N
    replace b4 := b4N; clear b4N
    replace b5 := b5N; clear b5N
    replace b7 := b7N; clear b7N
    replace b9 := b9N; clear b9N
    have b11 : Box2 V14 w13.heap.size (.int .u64 (hi (G : Int))) (.int .u64 (lo (G : Int))) 139 := by rw [hV]; exact Box2.new rfl
    clear hV
    have b7_c0 := b7.c0
    have b7_c1 := b7.c1
    have b11_c0 := b11.c0
    have b11_c1 := b11.c1
    go_wp2_with fail
    refine (HO1.out _).mono ?_
    rw [HX.out, HR1.out]
    rintro e w17 ⟨rfl, x17⟩
    clear b7_c0 b7_c1 b11_c0 b11_c1
    replace b2 := b2.ext x17
    replace b3 := b3.ext x17
    replace b4 := b4.ext x17
    replace b5 := b5.ext x17
    replace b7 := b7.ext x17
    replace b9 := b9.ext x17
    replace b11 := b11.ext x17
    replace xw := Ext.trans xw x17
    have b7_c0 := b7.c0
    have b7_c1 := b7.c1
    have b7_f0 := b7.f0
    have b7_f1 := b7.f1
    go_upto_region 7 with fail
    clear b7_c0 b7_c1 b7_f0 b7_f1
    refine wp_name ?_
    intro V18 hV
    have b2N : Box2 V18 w.heap.size (.int .i64 (hi n)) (.int .u64 (lo n)) 42 := by rw [hV]; exact ((b2).other (b := w2.heap.size) (by omega) 0 (.int .u64 (hi (X : Int)))).other (b := w2.heap.size) (by omega) 1 (.int .u64 (lo (X : Int)))
    have b3N : Box2 V18 (w.heap.size + 1) (.int .i64 (hi d)) (.int .u64 (lo d)) 42 := by rw [hV]; exact ((b3).other (b := w2.heap.size) (by omega) 0 (.int .u64 (hi (X : Int)))).other (b := w2.heap.size) (by omega) 1 (.int .u64 (lo (X : Int)))
    have b4N : Box2 V18 (w.heap.size + 1 + 1) (.int .i64 0) (.int .u64 0) 42 := by rw [hV]; exact ((b4).other (b := w2.heap.size) (by omega) 0 (.int .u64 (hi (X : Int)))).other (b := w2.heap.size) (by omega) 1 (.int .u64 (lo (X : Int)))
    have b5N : Box2 V18 (w.heap.size + 1 + 1 + 1) (.int .i64 0) (.int .u64 0) 42 := by rw [hV]; exact ((b5).other (b := w2.heap.size) (by omega) 0 (.int .u64 (hi (X : Int)))).other (b := w2.heap.size) (by omega) 1 (.int .u64 (lo (X : Int)))
    have b7N : Box2 V18 w2.heap.size (.int .u64 (hi (X : Int))) (.int .u64 (lo (X : Int))) 139 := by rw [hV]; exact (b7).set (.int .u64 (hi (X : Int))) (.int .u64 (lo (X : Int)))
    have b9N : Box2 V18 w9.heap.size (.int .u64 (hi (D : Int))) (.int .u64 (lo (D : Int))) 139 := by rw [hV]; exact ((b9).other (b := w2.heap.size) (by omega) 0 (.int .u64 (hi (X : Int)))).other (b := w2.heap.size) (by omega) 1 (.int .u64 (lo (X : Int)))
    have b11N : Box2 V18 w13.heap.size (.int .u64 (hi (G : Int))) (.int .u64 (lo (G : Int))) 139 := by rw [hV]; exact ((b11).other (b := w2.heap.size) (by omega) 0 (.int .u64 (hi (X : Int)))).other (b := w2.heap.size) (by omega) 1 (.int .u64 (lo (X : Int)))
    replace xw : Ext w V18 := by rw [hV]; exact Ext.set (Ext.set (xw) (k := w2.heap.size) (o := 0) (u := .int .u64 (hi (X : Int))) (by omega)) (k := w2.heap.size) (o := 1) (u := .int .u64 (lo (X : Int))) (by omega)
    replace b2 := b2N; clear b2N
    replace b3 := b3N; clear b3N
    replace b4 := b4N; clear b4N
    replace b5 := b5N; clear b5N
    replace b7 := b7N; clear b7N
    replace b9 := b9N; clear b9N
    replace b11 := b11N; clear b11N
    clear hV
    have b9_c0 := b9.c0
    have b9_c1 := b9.c1
    have b11_c0 := b11.c0
    have b11_c1 := b11.c1
    go_wp2_with fail
    refine (HO2.out _).mono ?_
    rw [HY.out, HR2.out]
    rintro e w19 ⟨rfl, x19⟩
    clear b9_c0 b9_c1 b11_c0 b11_c1
    replace b2 := b2.ext x19
    replace b3 := b3.ext x19
    replace b4 := b4.ext x19
    replace b5 := b5.ext x19
    replace b7 := b7.ext x19
    replace b9 := b9.ext x19
    replace b11 := b11.ext x19
    replace xw := Ext.trans xw x19
    have b9_c0 := b9.c0
    have b9_c1 := b9.c1
    have b9_f0 := b9.f0
    have b9_f1 := b9.f1
    go_upto_region 8 with fail
    clear b9_c0 b9_c1 b9_f0 b9_f1
    refine wp_name ?_
    intro V20 hV
    have b2N : Box2 V20 w.heap.size (.int .i64 (hi n)) (.int .u64 (lo n)) 42 := by rw [hV]; exact ((b2).other (b := w9.heap.size) (by omega) 0 (.int .u64 (hi (Y : Int)))).other (b := w9.heap.size) (by omega) 1 (.int .u64 (lo (Y : Int)))
    have b3N : Box2 V20 (w.heap.size + 1) (.int .i64 (hi d)) (.int .u64 (lo d)) 42 := by rw [hV]; exact ((b3).other (b := w9.heap.size) (by omega) 0 (.int .u64 (hi (Y : Int)))).other (b := w9.heap.size) (by omega) 1 (.int .u64 (lo (Y : Int)))
    have b4N : Box2 V20 (w.heap.size + 1 + 1) (.int .i64 0) (.int .u64 0) 42 := by rw [hV]; exact ((b4).other (b := w9.heap.size) (by omega) 0 (.int .u64 (hi (Y : Int)))).other (b := w9.heap.size) (by omega) 1 (.int .u64 (lo (Y : Int)))
    have b5N : Box2 V20 (w.heap.size + 1 + 1 + 1) (.int .i64 0) (.int .u64 0) 42 := by rw [hV]; exact ((b5).other (b := w9.heap.size) (by omega) 0 (.int .u64 (hi (Y : Int)))).other (b := w9.heap.size) (by omega) 1 (.int .u64 (lo (Y : Int)))
    have b7N : Box2 V20 w2.heap.size (.int .u64 (hi (X : Int))) (.int .u64 (lo (X : Int))) 139 := by rw [hV]; exact ((b7).other (b := w9.heap.size) (by omega) 0 (.int .u64 (hi (Y : Int)))).other (b := w9.heap.size) (by omega) 1 (.int .u64 (lo (Y : Int)))
    have b9N : Box2 V20 w9.heap.size (.int .u64 (hi (Y : Int))) (.int .u64 (lo (Y : Int))) 139 := by rw [hV]; exact (b9).set (.int .u64 (hi (Y : Int))) (.int .u64 (lo (Y : Int)))
    have b11N : Box2 V20 w13.heap.size (.int .u64 (hi (G : Int))) (.int .u64 (lo (G : Int))) 139 := by rw [hV]; exact ((b11).other (b := w9.heap.size) (by omega) 0 (.int .u64 (hi (Y : Int)))).other (b := w9.heap.size) (by omega) 1 (.int .u64 (lo (Y : Int)))
    replace xw : Ext w V20 := by rw [hV]; exact Ext.set (Ext.set (xw) (k := w9.heap.size) (o := 0) (u := .int .u64 (hi (Y : Int))) (by omega)) (k := w9.heap.size) (o := 1) (u := .int .u64 (lo (Y : Int))) (by omega)
    replace b2 := b2N; clear b2N
    replace b3 := b3N; clear b3N
    replace b4 := b4N; clear b4N
    replace b5 := b5N; clear b5N
    replace b7 := b7N; clear b7N
    replace b9 := b9N; clear b9N
    replace b11 := b11N; clear b11N
    clear hV
    have b7_c0 := b7.c0
    have b7_c1 := b7.c1
    go_wp2_with fail
    refine (HSgd.out _ _ _ HUX.out).mono ?_
    rw [HP.out]
    rintro e w21 ⟨rfl, x21⟩
    rw [thi_no hP, tlo_no hP, ter_no hP]
    clear b7_c0 b7_c1
    replace b2 := b2.ext x21
    replace b3 := b3.ext x21
    replace b4 := b4.ext x21
    replace b5 := b5.ext x21
    replace b7 := b7.ext x21
    replace b9 := b9.ext x21
    replace b11 := b11.ext x21
    replace xw := Ext.trans xw x21
    go_upto_region 9 with fail
    have o23 := b11.kind.lt
    have o24 := xw.size
    refine wp_name ?_
    intro V22 hV
    have b2N : Box2 V22 w.heap.size (.int .i64 (hi n)) (.int .u64 (lo n)) 42 := by rw [hV]; exact (b2).alloc _
    have b3N : Box2 V22 (w.heap.size + 1) (.int .i64 (hi d)) (.int .u64 (lo d)) 42 := by rw [hV]; exact (b3).alloc _
    have b4N : Box2 V22 (w.heap.size + 1 + 1) (.int .i64 0) (.int .u64 0) 42 := by rw [hV]; exact (b4).alloc _
    have b5N : Box2 V22 (w.heap.size + 1 + 1 + 1) (.int .i64 0) (.int .u64 0) 42 := by rw [hV]; exact (b5).alloc _
    have b7N : Box2 V22 w2.heap.size (.int .u64 (hi (X : Int))) (.int .u64 (lo (X : Int))) 139 := by rw [hV]; exact (b7).alloc _
    have b9N : Box2 V22 w9.heap.size (.int .u64 (hi (Y : Int))) (.int .u64 (lo (Y : Int))) 139 := by rw [hV]; exact (b9).alloc _
    have b11N : Box2 V22 w13.heap.size (.int .u64 (hi (G : Int))) (.int .u64 (lo (G : Int))) 139 := by rw [hV]; exact (b11).alloc _
    replace xw : Ext w V22 := by rw [hV]; exact Ext.alloc (xw)
    replace b2 := b2N; clear b2N
    replace b3 := b3N; clear b3N
    replace b4 := b4N; clear b4N
    replace b5 := b5N; clear b5N
    replace b7 := b7N; clear b7N
    replace b9 := b9N; clear b9N
    replace b11 := b11N; clear b11N
    have b12 : Box2 V22 w21.heap.size (.int .i64 0) (.int .u64 0) 42 := by rw [hV]; exact Box2.new rfl
    clear hV
    have b9_c0 := b9.c0
    have b9_c1 := b9.c1
    go_wp2_with fail
    refine (HSgd.out _ _ _ HUY.out).mono ?_
    rw [HQ.out]
    rintro e w25 ⟨rfl, x25⟩
    rw [HT1.out, HT2.out, HT3.out]
    clear b9_c0 b9_c1
    replace b2 := b2.ext x25
    replace b3 := b3.ext x25
    replace b4 := b4.ext x25
    replace b5 := b5.ext x25
    replace b7 := b7.ext x25
    replace b9 := b9.ext x25
    replace b11 := b11.ext x25
    replace b12 := b12.ext x25
    replace xw := Ext.trans xw x25
    go_upto_region 10 with fail
    have o27 := b12.kind.lt
    have o28 := xw.size
    refine wp_name ?_
    intro V26 hV
    have b2N : Box2 V26 w.heap.size (.int .i64 (hi n)) (.int .u64 (lo n)) 42 := by rw [hV]; exact (b2).alloc _
    have b3N : Box2 V26 (w.heap.size + 1) (.int .i64 (hi d)) (.int .u64 (lo d)) 42 := by rw [hV]; exact (b3).alloc _
    have b4N : Box2 V26 (w.heap.size + 1 + 1) (.int .i64 0) (.int .u64 0) 42 := by rw [hV]; exact (b4).alloc _
    have b5N : Box2 V26 (w.heap.size + 1 + 1 + 1) (.int .i64 0) (.int .u64 0) 42 := by rw [hV]; exact (b5).alloc _
    have b7N : Box2 V26 w2.heap.size (.int .u64 (hi (X : Int))) (.int .u64 (lo (X : Int))) 139 := by rw [hV]; exact (b7).alloc _
    have b9N : Box2 V26 w9.heap.size (.int .u64 (hi (Y : Int))) (.int .u64 (lo (Y : Int))) 139 := by rw [hV]; exact (b9).alloc _
    have b11N : Box2 V26 w13.heap.size (.int .u64 (hi (G : Int))) (.int .u64 (lo (G : Int))) 139 := by rw [hV]; exact (b11).alloc _
    have b12N : Box2 V26 w21.heap.size (.int .i64 0) (.int .u64 0) 42 := by rw [hV]; exact (b12).alloc _
    replace xw : Ext w V26 := by rw [hV]; exact Ext.alloc (xw)
    replace b2 := b2N; clear b2N
    replace b3 := b3N; clear b3N
    replace b4 := b4N; clear b4N
    replace b5 := b5N; clear b5N
    replace b7 := b7N; clear b7N
    replace b9 := b9N; clear b9N
    replace b11 := b11N; clear b11N
    replace b12 := b12N; clear b12N
    have b14 : Box2 V26 w25.heap.size (.int .i64 t1) (.int .u64 t2) 42 := by rw [hV]; exact Box2.new rfl
    clear hV
    go_upto_region 11 with fail
    have b4_c0 := b4.c0
    have b4_c1 := b4.c1
    have b4_f0 := b4.f0
    have b4_f1 := b4.f1
    have b5_c0 := b5.c0
    have b5_c1 := b5.c1
    have b5_f0 := b5.f0
    have b5_f1 := b5.f1
    have xr := Ext.set (Ext.set (Ext.set (Ext.set (xw) (k := w.heap.size + 1 + 1) (o := 0) (u := .int .i64 0) (by omega)) (k := w.heap.size + 1 + 1) (o := 1) (u := .int .u64 0) (by omega)) (k := w.heap.size + 1 + 1 + 1) (o := 0) (u := .int .i64 0) (by omega)) (k := w.heap.size + 1 + 1 + 1) (o := 1) (u := .int .u64 0) (by omega)
    go_wp2_with fail
    refine bodyPost_ret (v := .tuple #[.agg #[.int .i64 0, .int .u64 0], .agg #[.int .i64 0, .int .u64 0], .int .i64 2]) (by simp [results, Tryz.results41, go_sem, b4_c0, b4_c1, b5_c0, b5_c1]) rfl (retFr_no H0.out (fun h => hP h.2.1) xr)
  · have g1 : (hi d == 0) = false := by simpa using hz1
    clear hz hz1
    go_enter Tryz.func41, Tryz.ntmps41
    go_upto_region 1 with fail
    have xw := Ext.refl w
    refine wp_name ?_
    intro V29 hV
    replace xw : Ext w V29 := by rw [hV]; exact Ext.alloc (Ext.alloc (Ext.alloc (Ext.alloc (xw))))
    have b2 : Box2 V29 w.heap.size (.int .i64 (hi n)) (.int .u64 (lo n)) 42 := by rw [hV]; exact (((Box2.new rfl).alloc _).alloc _).alloc _
    have b3 : Box2 V29 (w.heap.size + 1) (.int .i64 (hi d)) (.int .u64 (lo d)) 42 := by rw [hV]; exact ((Box2.new (by simp)).alloc _).alloc _
    have b4 : Box2 V29 (w.heap.size + 1 + 1) (.int .i64 0) (.int .u64 0) 42 := by rw [hV]; exact (Box2.new (by simp)).alloc _
    have b5 : Box2 V29 (w.heap.size + 1 + 1 + 1) (.int .i64 0) (.int .u64 0) 42 := by rw [hV]; exact Box2.new (by simp)
    clear hV
    have b3_c0 := b3.c0
    have b3_c1 := b3.c1
    go_upto_region 3 with fail
    clear b3_c0 b3_c1
    have b2_c0 := b2.c0
    have b2_c1 := b2.c1
    go_wp2_with fail
    refine (HPar.out n _ hn).mono ?_
    rw [HA.out]
    rintro e w30 ⟨rfl, x30⟩
    clear b2_c0 b2_c1
    replace b2 := b2.ext x30
    replace b3 := b3.ext x30
    replace b4 := b4.ext x30
    replace b5 := b5.ext x30
    replace xw := Ext.trans xw x30
    go_upto_region 4 with fail
    have o32 := b2.kind.lt
    have o33 := b3.kind.lt
    have o34 := b4.kind.lt
    have o35 := b5.kind.lt
    have o36 := xw.size
    refine wp_name ?_
    intro V31 hV
    have b2N : Box2 V31 w.heap.size (.int .i64 (hi n)) (.int .u64 (lo n)) 42 := by rw [hV]; exact (b2).alloc _
    have b3N : Box2 V31 (w.heap.size + 1) (.int .i64 (hi d)) (.int .u64 (lo d)) 42 := by rw [hV]; exact (b3).alloc _
    have b4N : Box2 V31 (w.heap.size + 1 + 1) (.int .i64 0) (.int .u64 0) 42 := by rw [hV]; exact (b4).alloc _
    have b5N : Box2 V31 (w.heap.size + 1 + 1 + 1) (.int .i64 0) (.int .u64 0) 42 := by rw [hV]; exact (b5).alloc _
    replace xw : Ext w V31 := by rw [hV]; exact Ext.alloc (xw)
    replace b2 := b2N; clear b2N
    replace b3 := b3N; clear b3N
    replace b4 := b4N; clear b4N
    replace b5 := b5N; clear b5N
    have b7 : Box2 V31 w30.heap.size (.int .u64 (hi (A : Int))) (.int .u64 (lo (A : Int))) 139 := by rw [hV]; exact Box2.new rfl
    clear hV
    have b3_c0 := b3.c0
    have b3_c1 := b3.c1
    go_wp2_with fail
    refine (HPar.out d _ hd).mono ?_
    rw [HD.out]
    rintro e w37 ⟨rfl, x37⟩
    clear b3_c0 b3_c1
    replace b2 := b2.ext x37
    replace b3 := b3.ext x37
    replace b4 := b4.ext x37
    replace b5 := b5.ext x37
    replace b7 := b7.ext x37
    replace xw := Ext.trans xw x37
    go_upto_region 5 with fail
    have o39 := b7.kind.lt
    have o40 := xw.size
    refine wp_name ?_
    intro V38 hV
    have b2N : Box2 V38 w.heap.size (.int .i64 (hi n)) (.int .u64 (lo n)) 42 := by rw [hV]; exact (b2).alloc _
    have b3N : Box2 V38 (w.heap.size + 1) (.int .i64 (hi d)) (.int .u64 (lo d)) 42 := by rw [hV]; exact (b3).alloc _
    have b4N : Box2 V38 (w.heap.size + 1 + 1) (.int .i64 0) (.int .u64 0) 42 := by rw [hV]; exact (b4).alloc _
    have b5N : Box2 V38 (w.heap.size + 1 + 1 + 1) (.int .i64 0) (.int .u64 0) 42 := by rw [hV]; exact (b5).alloc _
    have b7N : Box2 V38 w30.heap.size (.int .u64 (hi (A : Int))) (.int .u64 (lo (A : Int))) 139 := by rw [hV]; exact (b7).alloc _
    replace xw : Ext w V38 := by rw [hV]; exact Ext.alloc (xw)
    replace b2 := b2N; clear b2N
    replace b3 := b3N; clear b3N
    replace b4 := b4N; clear b4N
    replace b5 := b5N; clear b5N
    replace b7 := b7N; clear b7N
    have b9 : Box2 V38 w37.heap.size (.int .u64 (hi (D : Int))) (.int .u64 (lo (D : Int))) 139 := by rw [hV]; exact Box2.new rfl
    clear hV
    have b7_c0 := b7.c0
    have b7_c1 := b7.c1
    have b9_c0 := b9.c0
    have b9_c1 := b9.c1
    go_wp2_with fail
    refine (HGc.out 170141183460469231731687303715884105728 A D _ HBd.out.1 HBd.out.2 HOT.out).mono ?_
    rw [HG.out]
    rintro e w41 ⟨rfl, x41⟩
    clear b7_c0 b7_c1 b9_c0 b9_c1
    replace b2 := b2.ext x41
    replace b3 := b3.ext x41
    replace b4 := b4.ext x41
    replace b5 := b5.ext x41
    replace b7 := b7.ext x41
    replace b9 := b9.ext x41
    replace xw := Ext.trans xw x41
    go_upto_region 6 with fail
    have o43 := b9.kind.lt
    have o44 := xw.size
    refine wp_name ?_
    intro V42 hV
    have b2N : Box2 V42 w.heap.size (.int .i64 (hi n)) (.int .u64 (lo n)) 42 := by rw [hV]; exact (b2).alloc _
    have b3N : Box2 V42 (w.heap.size + 1) (.int .i64 (hi d)) (.int .u64 (lo d)) 42 := by rw [hV]; exact (b3).alloc _
    have b4N : Box2 V42 (w.heap.size + 1 + 1) (.int .i64 0) (.int .u64 0) 42 := by rw [hV]; exact (b4).alloc _
    have b5N : Box2 V42 (w.heap.size + 1 + 1 + 1) (.int .i64 0) (.int .u64 0) 42 := by rw [hV]; exact (b5).alloc _
    have b7N : Box2 V42 w30.heap.size (.int .u64 (hi (A : Int))) (.int .u64 (lo (A : Int))) 139 := by rw [hV]; exact (b7).alloc _
    have b9N : Box2 V42 w37.heap.size (.int .u64 (hi (D : Int))) (.int .u64 (lo (D : Int))) 139 := by rw [hV]; exact (b9).alloc _
    replace xw : Ext w V42 := by rw [hV]; exact Ext.alloc (xw)
    replace b2 := b2N; clear b2N
    replace b3 := b3N; clear b3N
    replace b4 := b4N; clear b4N
    replace b5 := b5N; clear b5N
    replace b7 := b7N; clear b7N
    replace b9 := b9N; clear b9N
    have b11 : Box2 V42 w41.heap.size (.int .u64 (hi (G : Int))) (.int .u64 (lo (G : Int))) 139 := by rw [hV]; exact Box2.new rfl
    clear hV
    have b7_c0 := b7.c0
    have b7_c1 := b7.c1
    have b11_c0 := b11.c0
    have b11_c1 := b11.c1
    go_wp2_with fail
    refine (HO1.out _).mono ?_
    rw [HX.out, HR1.out]
    rintro e w45 ⟨rfl, x45⟩
    clear b7_c0 b7_c1 b11_c0 b11_c1
    replace b2 := b2.ext x45
    replace b3 := b3.ext x45
    replace b4 := b4.ext x45
    replace b5 := b5.ext x45
    replace b7 := b7.ext x45
    replace b9 := b9.ext x45
    replace b11 := b11.ext x45
    replace xw := Ext.trans xw x45
    have b7_c0 := b7.c0
    have b7_c1 := b7.c1
    have b7_f0 := b7.f0
    have b7_f1 := b7.f1
    go_upto_region 7 with fail
    clear b7_c0 b7_c1 b7_f0 b7_f1
    refine wp_name ?_
    intro V46 hV
    have b2N : Box2 V46 w.heap.size (.int .i64 (hi n)) (.int .u64 (lo n)) 42 := by rw [hV]; exact ((b2).other (b := w30.heap.size) (by omega) 0 (.int .u64 (hi (X : Int)))).other (b := w30.heap.size) (by omega) 1 (.int .u64 (lo (X : Int)))
    have b3N : Box2 V46 (w.heap.size + 1) (.int .i64 (hi d)) (.int .u64 (lo d)) 42 := by rw [hV]; exact ((b3).other (b := w30.heap.size) (by omega) 0 (.int .u64 (hi (X : Int)))).other (b := w30.heap.size) (by omega) 1 (.int .u64 (lo (X : Int)))
    have b4N : Box2 V46 (w.heap.size + 1 + 1) (.int .i64 0) (.int .u64 0) 42 := by rw [hV]; exact ((b4).other (b := w30.heap.size) (by omega) 0 (.int .u64 (hi (X : Int)))).other (b := w30.heap.size) (by omega) 1 (.int .u64 (lo (X : Int)))
    have b5N : Box2 V46 (w.heap.size + 1 + 1 + 1) (.int .i64 0) (.int .u64 0) 42 := by rw [hV]; exact ((b5).other (b := w30.heap.size) (by omega) 0 (.int .u64 (hi (X : Int)))).other (b := w30.heap.size) (by omega) 1 (.int .u64 (lo (X : Int)))
    have b7N : Box2 V46 w30.heap.size (.int .u64 (hi (X : Int))) (.int .u64 (lo (X : Int))) 139 := by rw [hV]; exact (b7).set (.int .u64 (hi (X : Int))) (.int .u64 (lo (X : Int)))
    have b9N : Box2 V46 w37.heap.size (.int .u64 (hi (D : Int))) (.int .u64 (lo (D : Int))) 139 := by rw [hV]; exact ((b9).other (b := w30.heap.size) (by omega) 0 (.int .u64 (hi (X : Int)))).other (b := w30.heap.size) (by omega) 1 (.int .u64 (lo (X : Int)))
    have b11N : Box2 V46 w41.heap.size (.int .u64 (hi (G : Int))) (.int .u64 (lo (G : Int))) 139 := by rw [hV]; exact ((b11).other (b := w30.heap.size) (by omega) 0 (.int .u64 (hi (X : Int)))).other (b := w30.heap.size) (by omega) 1 (.int .u64 (lo (X : Int)))
    replace xw : Ext w V46 := by rw [hV]; exact Ext.set (Ext.set (xw) (k := w30.heap.size) (o := 0) (u := .int .u64 (hi (X : Int))) (by omega)) (k := w30.heap.size) (o := 1) (u := .int .u64 (lo (X : Int))) (by omega)
    replace b2 := b2N; clear b2N
    replace b3 := b3N; clear b3N
    replace b4 := b4N; clear b4N
    replace b5 := b5N; clear b5N
    replace b7 := b7N; clear b7N
    replace b9 := b9N; clear b9N
    replace b11 := b11N; clear b11N
    clear hV
    have b9_c0 := b9.c0
    have b9_c1 := b9.c1
    have b11_c0 := b11.c0
    have b11_c1 := b11.c1
    go_wp2_with fail
    refine (HO2.out _).mono ?_
    rw [HY.out, HR2.out]
    rintro e w47 ⟨rfl, x47⟩
    clear b9_c0 b9_c1 b11_c0 b11_c1
    replace b2 := b2.ext x47
    replace b3 := b3.ext x47
    replace b4 := b4.ext x47
    replace b5 := b5.ext x47
    replace b7 := b7.ext x47
    replace b9 := b9.ext x47
    replace b11 := b11.ext x47
    replace xw := Ext.trans xw x47
    have b9_c0 := b9.c0
    have b9_c1 := b9.c1
    have b9_f0 := b9.f0
    have b9_f1 := b9.f1
    go_upto_region 8 with fail
    clear b9_c0 b9_c1 b9_f0 b9_f1
    refine wp_name ?_
    intro V48 hV
    have b2N : Box2 V48 w.heap.size (.int .i64 (hi n)) (.int .u64 (lo n)) 42 := by rw [hV]; exact ((b2).other (b := w37.heap.size) (by omega) 0 (.int .u64 (hi (Y : Int)))).other (b := w37.heap.size) (by omega) 1 (.int .u64 (lo (Y : Int)))
    have b3N : Box2 V48 (w.heap.size + 1) (.int .i64 (hi d)) (.int .u64 (lo d)) 42 := by rw [hV]; exact ((b3).other (b := w37.heap.size) (by omega) 0 (.int .u64 (hi (Y : Int)))).other (b := w37.heap.size) (by omega) 1 (.int .u64 (lo (Y : Int)))
    have b4N : Box2 V48 (w.heap.size + 1 + 1) (.int .i64 0) (.int .u64 0) 42 := by rw [hV]; exact ((b4).other (b := w37.heap.size) (by omega) 0 (.int .u64 (hi (Y : Int)))).other (b := w37.heap.size) (by omega) 1 (.int .u64 (lo (Y : Int)))
    have b5N : Box2 V48 (w.heap.size + 1 + 1 + 1) (.int .i64 0) (.int .u64 0) 42 := by rw [hV]; exact ((b5).other (b := w37.heap.size) (by omega) 0 (.int .u64 (hi (Y : Int)))).other (b := w37.heap.size) (by omega) 1 (.int .u64 (lo (Y : Int)))
    have b7N : Box2 V48 w30.heap.size (.int .u64 (hi (X : Int))) (.int .u64 (lo (X : Int))) 139 := by rw [hV]; exact ((b7).other (b := w37.heap.size) (by omega) 0 (.int .u64 (hi (Y : Int)))).other (b := w37.heap.size) (by omega) 1 (.int .u64 (lo (Y : Int)))
    have b9N : Box2 V48 w37.heap.size (.int .u64 (hi (Y : Int))) (.int .u64 (lo (Y : Int))) 139 := by rw [hV]; exact (b9).set (.int .u64 (hi (Y : Int))) (.int .u64 (lo (Y : Int)))
    have b11N : Box2 V48 w41.heap.size (.int .u64 (hi (G : Int))) (.int .u64 (lo (G : Int))) 139 := by rw [hV]; exact ((b11).other (b := w37.heap.size) (by omega) 0 (.int .u64 (hi (Y : Int)))).other (b := w37.heap.size) (by omega) 1 (.int .u64 (lo (Y : Int)))
    replace xw : Ext w V48 := by rw [hV]; exact Ext.set (Ext.set (xw) (k := w37.heap.size) (o := 0) (u := .int .u64 (hi (Y : Int))) (by omega)) (k := w37.heap.size) (o := 1) (u := .int .u64 (lo (Y : Int))) (by omega)
    replace b2 := b2N; clear b2N
    replace b3 := b3N; clear b3N
    replace b4 := b4N; clear b4N
    replace b5 := b5N; clear b5N
    replace b7 := b7N; clear b7N
    replace b9 := b9N; clear b9N
    replace b11 := b11N; clear b11N
    clear hV
    have b7_c0 := b7.c0
    have b7_c1 := b7.c1
    go_wp2_with fail
    refine (HSgd.out _ _ _ HUX.out).mono ?_
    rw [HP.out]
    rintro e w49 ⟨rfl, x49⟩
    rw [thi_no hP, tlo_no hP, ter_no hP]
    clear b7_c0 b7_c1
    replace b2 := b2.ext x49
    replace b3 := b3.ext x49
    replace b4 := b4.ext x49
    replace b5 := b5.ext x49
    replace b7 := b7.ext x49
    replace b9 := b9.ext x49
    replace b11 := b11.ext x49
    replace xw := Ext.trans xw x49
    go_upto_region 9 with fail
    have o51 := b11.kind.lt
    have o52 := xw.size
    refine wp_name ?_
    intro V50 hV
    have b2N : Box2 V50 w.heap.size (.int .i64 (hi n)) (.int .u64 (lo n)) 42 := by rw [hV]; exact (b2).alloc _
    have b3N : Box2 V50 (w.heap.size + 1) (.int .i64 (hi d)) (.int .u64 (lo d)) 42 := by rw [hV]; exact (b3).alloc _
    have b4N : Box2 V50 (w.heap.size + 1 + 1) (.int .i64 0) (.int .u64 0) 42 := by rw [hV]; exact (b4).alloc _
    have b5N : Box2 V50 (w.heap.size + 1 + 1 + 1) (.int .i64 0) (.int .u64 0) 42 := by rw [hV]; exact (b5).alloc _
    have b7N : Box2 V50 w30.heap.size (.int .u64 (hi (X : Int))) (.int .u64 (lo (X : Int))) 139 := by rw [hV]; exact (b7).alloc _
    have b9N : Box2 V50 w37.heap.size (.int .u64 (hi (Y : Int))) (.int .u64 (lo (Y : Int))) 139 := by rw [hV]; exact (b9).alloc _
    have b11N : Box2 V50 w41.heap.size (.int .u64 (hi (G : Int))) (.int .u64 (lo (G : Int))) 139 := by rw [hV]; exact (b11).alloc _
    replace xw : Ext w V50 := by rw [hV]; exact Ext.alloc (xw)
    replace b2 := b2N; clear b2N
    replace b3 := b3N; clear b3N
    replace b4 := b4N; clear b4N
    replace b5 := b5N; clear b5N
    replace b7 := b7N; clear b7N
    replace b9 := b9N; clear b9N
    replace b11 := b11N; clear b11N
    have b12 : Box2 V50 w49.heap.size (.int .i64 0) (.int .u64 0) 42 := by rw [hV]; exact Box2.new rfl
    clear hV
    have b9_c0 := b9.c0
    have b9_c1 := b9.c1
    go_wp2_with fail
    refine (HSgd.out _ _ _ HUY.out).mono ?_
    rw [HQ.out]
    rintro e w53 ⟨rfl, x53⟩
    rw [HT1.out, HT2.out, HT3.out]
    clear b9_c0 b9_c1
    replace b2 := b2.ext x53
    replace b3 := b3.ext x53
    replace b4 := b4.ext x53
    replace b5 := b5.ext x53
    replace b7 := b7.ext x53
    replace b9 := b9.ext x53
    replace b11 := b11.ext x53
    replace b12 := b12.ext x53
    replace xw := Ext.trans xw x53
    go_upto_region 10 with fail
    have o55 := b12.kind.lt
    have o56 := xw.size
    refine wp_name ?_
    intro V54 hV
    have b2N : Box2 V54 w.heap.size (.int .i64 (hi n)) (.int .u64 (lo n)) 42 := by rw [hV]; exact (b2).alloc _
    have b3N : Box2 V54 (w.heap.size + 1) (.int .i64 (hi d)) (.int .u64 (lo d)) 42 := by rw [hV]; exact (b3).alloc _
    have b4N : Box2 V54 (w.heap.size + 1 + 1) (.int .i64 0) (.int .u64 0) 42 := by rw [hV]; exact (b4).alloc _
    have b5N : Box2 V54 (w.heap.size + 1 + 1 + 1) (.int .i64 0) (.int .u64 0) 42 := by rw [hV]; exact (b5).alloc _
    have b7N : Box2 V54 w30.heap.size (.int .u64 (hi (X : Int))) (.int .u64 (lo (X : Int))) 139 := by rw [hV]; exact (b7).alloc _
    have b9N : Box2 V54 w37.heap.size (.int .u64 (hi (Y : Int))) (.int .u64 (lo (Y : Int))) 139 := by rw [hV]; exact (b9).alloc _
    have b11N : Box2 V54 w41.heap.size (.int .u64 (hi (G : Int))) (.int .u64 (lo (G : Int))) 139 := by rw [hV]; exact (b11).alloc _
    have b12N : Box2 V54 w49.heap.size (.int .i64 0) (.int .u64 0) 42 := by rw [hV]; exact (b12).alloc _
    replace xw : Ext w V54 := by rw [hV]; exact Ext.alloc (xw)
    replace b2 := b2N; clear b2N
    replace b3 := b3N; clear b3N
    replace b4 := b4N; clear b4N
    replace b5 := b5N; clear b5N
    replace b7 := b7N; clear b7N
    replace b9 := b9N; clear b9N
    replace b11 := b11N; clear b11N
    replace b12 := b12N; clear b12N
    have b14 : Box2 V54 w53.heap.size (.int .i64 t1) (.int .u64 t2) 42 := by rw [hV]; exact Box2.new rfl
    clear hV
    go_upto_region 11 with fail
    have b4_c0 := b4.c0
    have b4_c1 := b4.c1
    have b4_f0 := b4.f0
    have b4_f1 := b4.f1
    have b5_c0 := b5.c0
    have b5_c1 := b5.c1
    have b5_f0 := b5.f0
    have b5_f1 := b5.f1
    have xr := Ext.set (Ext.set (Ext.set (Ext.set (xw) (k := w.heap.size + 1 + 1) (o := 0) (u := .int .i64 0) (by omega)) (k := w.heap.size + 1 + 1) (o := 1) (u := .int .u64 0) (by omega)) (k := w.heap.size + 1 + 1 + 1) (o := 0) (u := .int .i64 0) (by omega)) (k := w.heap.size + 1 + 1 + 1) (o := 1) (u := .int .u64 0) (by omega)
    go_wp2_with fail
    refine bodyPost_ret (v := .tuple #[.agg #[.int .i64 0, .int .u64 0], .agg #[.int .i64 0, .int .u64 0], .int .i64 2]) (by simp [results, Tryz.results41, go_sem, b4_c0, b4_c1, b5_c0, b5_c1]) rfl (retFr_no H0.out (fun h => hP h.2.1) xr)
set_option maxRecDepth 100000 in
set_option maxHeartbeats 3200000 in
theorem dfrac_no2 (n d : Int) (w : World) (hn : W128 n) (hd : W128 d) (h0 : d ≠ 0) (hP : W128 (frP n d)) (hQ : ¬ W128 (frQ n d)) :
    Calls Tryz.prog 41 #[.agg #[.int .i64 (hi n), .int .u64 (lo n)], .agg #[.int .i64 (hi d), .int .u64 (lo d)]] w (RetFr w n d) := by
  have HPar := Lib.hid dparts
  have HGc := Lib.hid dgcd
  have HSgd := Lib.hid dsigned
  have HOT := Lib.hid (overTo_all (M := 170141183460469231731687303715884105728) (Nat.le_refl _))
  have HBd := Lib.hid (show n.natAbs ≤ 170141183460469231731687303715884105728 ∧ d.natAbs ≤ 170141183460469231731687303715884105728 by unfold W128 at hn hd; omega)
  obtain ⟨A, hA⟩ : ∃ A : Nat, A = n.natAbs := ⟨_, rfl⟩
  obtain ⟨D, hD⟩ : ∃ D : Nat, D = d.natAbs := ⟨_, rfl⟩
  obtain ⟨G, hG⟩ : ∃ G : Nat, G = Nat.gcd A D := ⟨_, rfl⟩
  obtain ⟨X, hX⟩ : ∃ X : Nat, X = A / G := ⟨_, rfl⟩
  obtain ⟨Y, hY⟩ : ∃ Y : Nat, Y = D / G := ⟨_, rfl⟩
  have hg : 0 < G := by rw [hG, hA, hD]; exact gcd_pos h0
  have hg2 : G ≤ D := by rw [hG]; exact Nat.gcd_le_right _ (by omega)
  rw [← hA, ← hD] at HBd
  have HA := Lib.hid (show mag n = (A : Int) by rw [hA]; exact mag_abs n)
  have HD := Lib.hid (show mag d = (D : Int) by rw [hD]; exact mag_abs d)
  have HG := Lib.hid (show ((Nat.gcd A D : Nat) : Int) = (G : Int) by rw [hG])
  have HO1 := Lib.hid (show OverC (A : Int) (G : Int) from HOT.out A G HBd.out.1 hg (Nat.le_trans hg2 HBd.out.2))
  have HO2 := Lib.hid (show OverC (D : Int) (G : Int) from HOT.out D G HBd.out.2 hg (Nat.le_trans hg2 HBd.out.2))
  have HX := Lib.hid (show (A : Int) / (G : Int) = (X : Int) by rw [hX]; omega)
  have HY := Lib.hid (show (D : Int) / (G : Int) = (Y : Int) by rw [hY]; omega)
  have HUX := Lib.hid (show U128 (X : Int) by have := Nat.div_le_self A G; have := HBd.out.1; unfold U128; omega)
  have HUY := Lib.hid (show U128 (Y : Int) by have := Nat.div_le_self D G; have := HBd.out.2; unfold U128; omega)
  have HP := Lib.hid (show wsg (!(decide (n < 0) == decide (d < 0))) (X : Int) = frP n d by unfold frP; rw [hX, hG, hA, hD])
  have HQ := Lib.hid (show wsg false (Y : Int) = frQ n d by unfold frQ; rw [hY, hG, hA, hD]; rfl)
  obtain ⟨r1, e1⟩ : ∃ r, (A : Int) % (G : Int) = r := ⟨_, rfl⟩
  obtain ⟨r2, e2⟩ : ∃ r, (D : Int) % (G : Int) = r := ⟨_, rfl⟩
  have HR1 := Lib.hid e1
  have HR2 := Lib.hid e2
  obtain ⟨t1, e3⟩ : ∃ r, thi (frQ n d) = r := ⟨_, rfl⟩
  obtain ⟨t2, e4⟩ : ∃ r, tlo (frQ n d) = r := ⟨_, rfl⟩
  obtain ⟨t3, e5⟩ : ∃ r, ter (frQ n d) = r := ⟨_, rfl⟩
  have HT1 := Lib.hid e3
  have HT2 := Lib.hid e4
  have HT3 := Lib.hid e5
  have H0 := Lib.hid h0
  have hz : ¬ (hi d = 0 ∧ lo d = 0) := by rintro ⟨g1, g2⟩; have := hi_lo d; omega
  clear hA hD hG hX hY e1 e2 e3 e4 e5 h0 hg hg2
  by_cases hz1 : hi d = 0
  · have g1 : (hi d == 0) = true := by simpa using hz1
    have g2 : (lo d == 0) = false := by simpa using fun h => hz ⟨hz1, h⟩
    clear hz hz1
    go_enter Tryz.func41, Tryz.ntmps41
    go_upto_region 1 with fail
    have xw := Ext.refl w
    refine wp_name ?_
    intro V1 hV
    replace xw : Ext w V1 := by rw [hV]; exact Ext.alloc (Ext.alloc (Ext.alloc (Ext.alloc (xw))))
    have b2 : Box2 V1 w.heap.size (.int .i64 (hi n)) (.int .u64 (lo n)) 42 := by rw [hV]; exact (((Box2.new rfl).alloc _).alloc _).alloc _
    have b3 : Box2 V1 (w.heap.size + 1) (.int .i64 (hi d)) (.int .u64 (lo d)) 42 := by rw [hV]; exact ((Box2.new (by simp)).alloc _).alloc _
    have b4 : Box2 V1 (w.heap.size + 1 + 1) (.int .i64 0) (.int .u64 0) 42 := by rw [hV]; exact (Box2.new (by simp)).alloc _
    have b5 : Box2 V1 (w.heap.size + 1 + 1 + 1) (.int .i64 0) (.int .u64 0) 42 := by rw [hV]; exact Box2.new (by simp)
    clear hV
    have b3_c0 := b3.c0
    have b3_c1 := b3.c1
    go_upto_region 3 with fail
    clear b3_c0 b3_c1
    have b2_c0 := b2.c0
    have b2_c1 := b2.c1
    go_wp2_with fail
    refine (HPar.out n _ hn).mono ?_
    rw [HA.out]
    rintro e w2 ⟨rfl, x2⟩
    clear b2_c0 b2_c1
    replace b2 := b2.ext x2
    replace b3 := b3.ext x2
    replace b4 := b4.ext x2
    replace b5 := b5.ext x2
    replace xw := Ext.trans xw x2
    go_upto_region 4 with fail
    have o4 := b2.kind.lt
    have o5 := b3.kind.lt
    have o6 := b4.kind.lt
    have o7 := b5.kind.lt
    have o8 := xw.size
    refine wp_name ?_
    intro V3 hV
    have b2N : Box2 V3 w.heap.size (.int .i64 (hi n)) (.int .u64 (lo n)) 42 := by rw [hV]; exact (b2).alloc _
    have b3N : Box2 V3 (w.heap.size + 1) (.int .i64 (hi d)) (.int .u64 (lo d)) 42 := by rw [hV]; exact (b3).alloc _
    have b4N : Box2 V3 (w.heap.size + 1 + 1) (.int .i64 0) (.int .u64 0) 42 := by rw [hV]; exact (b4).alloc _
    have b5N : Box2 V3 (w.heap.size + 1 + 1 + 1) (.int .i64 0) (.int .u64 0) 42 := by rw [hV]; exact (b5).alloc _
    replace xw : Ext w V3 := by rw [hV]; exact Ext.alloc (xw)
    replace b2 := b2N; clear b2N
    replace b3 := b3N; clear b3N
    replace b4 := b4N; clear b4N
    replace b5 := b5N; clear b5N
    have b7 : Box2 V3 w2.heap.size (.int .u64 (hi (A : Int))) (.int .u64 (lo (A : Int))) 139 := by rw [hV]; exact Box2.new rfl
    clear hV
    have b3_c0 := b3.c0
    have b3_c1 := b3.c1
    go_wp2_with fail
    refine (HPar.out d _ hd).mono ?_
    rw [HD.out]
    rintro e w9 ⟨rfl, x9⟩
    clear b3_c0 b3_c1
    replace b2 := b2.ext x9
    replace b3 := b3.ext x9
    replace b4 := b4.ext x9
    replace b5 := b5.ext x9
    replace b7 := b7.ext x9
    replace xw := Ext.trans xw x9
    go_upto_region 5 with fail
    have o11 := b7.kind.lt
    have o12 := xw.size
    refine wp_name ?_
    intro V10 hV
    have b2N : Box2 V10 w.heap.size (.int .i64 (hi n)) (.int .u64 (lo n)) 42 := by rw [hV]; exact (b2).alloc _
    have b3N : Box2 V10 (w.heap.size + 1) (.int .i64 (hi d)) (.int .u64 (lo d)) 42 := by rw [hV]; exact (b3).alloc _
    have b4N : Box2 V10 (w.heap.size + 1 + 1) (.int .i64 0) (.int .u64 0) 42 := by rw [hV]; exact (b4).alloc _
    have b5N : Box2 V10 (w.heap.size + 1 + 1 + 1) (.int .i64 0) (.int .u64 0) 42 := by rw [hV]; exact (b5).alloc _
    have b7N : Box2 V10 w2.heap.size (.int .u64 (hi (A : Int))) (.int .u64 (lo (A : Int))) 139 := by rw [hV]; exact (b7).alloc _
    replace xw : Ext w V10 := by rw [hV]; exact Ext.alloc (xw)
    replace b2 := b2N; clear b2N
    replace b3 := b3N; clear b3N
    replace b4 := b4N; clear b4N
    replace b5 := b5N; clear b5N
    replace b7 := b7N; clear b7N
    have b9 : Box2 V10 w9.heap.size (.int .u64 (hi (D : Int))) (.int .u64 (lo (D : Int))) 139 := by rw [hV]; exact Box2.new rfl
    clear hV
    have b7_c0 := b7.c0
    have b7_c1 := b7.c1
    have b9_c0 := b9.c0
    have b9_c1 := b9.c1
    go_wp2_with fail
    refine (HGc.out 170141183460469231731687303715884105728 A D _ HBd.out.1 HBd.out.2 HOT.out).mono ?_
    rw [HG.out]
    rintro e w13 ⟨rfl, x13⟩
    clear b7_c0 b7_c1 b9_c0 b9_c1
    replace b2 := b2.ext x13
    replace b3 := b3.ext x13
    replace b4 := b4.ext x13
    replace b5 := b5.ext x13
    replace b7 := b7.ext x13
    replace b9 := b9.ext x13
    replace xw := Ext.trans xw x13
    go_upto_region 6 with fail
    have o15 := b9.kind.lt
    have o16 := xw.size
    refine wp_name ?_
    intro V14 hV
    have b2N : Box2 V14 w.heap.size (.int .i64 (hi n)) (.int .u64 (lo n)) 42 := by rw [hV]; exact (b2).alloc _
    have b3N : Box2 V14 (w.heap.size + 1) (.int .i64 (hi d)) (.int .u64 (lo d)) 42 := by rw [hV]; exact (b3).alloc _
    have b4N : Box2 V14 (w.heap.size + 1 + 1) (.int .i64 0) (.int .u64 0) 42 := by rw [hV]; exact (b4).alloc _
    have b5N : Box2 V14 (w.heap.size + 1 + 1 + 1) (.int .i64 0) (.int .u64 0) 42 := by rw [hV]; exact (b5).alloc _
    have b7N : Box2 V14 w2.heap.size (.int .u64 (hi (A : Int))) (.int .u64 (lo (A : Int))) 139 := by rw [hV]; exact (b7).alloc _
    have b9N : Box2 V14 w9.heap.size (.int .u64 (hi (D : Int))) (.int .u64 (lo (D : Int))) 139 := by rw [hV]; exact (b9).alloc _
    replace xw : Ext w V14 := by rw [hV]; exact Ext.alloc (xw)
    replace b2 := b2N; clear b2N
    replace b3 := b3N; clear b3N
    replace b4 := b4N; clear b4N
    replace b5 := b5N; clear b5N
    replace b7 := b7N; clear b7N
    replace b9 := b9N; clear b9N
    have b11 : Box2 V14 w13.heap.size (.int .u64 (hi (G : Int))) (.int .u64 (lo (G : Int))) 139 := by rw [hV]; exact Box2.new rfl
    clear hV
    have b7_c0 := b7.c0
    have b7_c1 := b7.c1
    have b11_c0 := b11.c0
    have b11_c1 := b11.c1
    go_wp2_with fail
    refine (HO1.out _).mono ?_
    rw [HX.out, HR1.out]
    rintro e w17 ⟨rfl, x17⟩
    clear b7_c0 b7_c1 b11_c0 b11_c1
    replace b2 := b2.ext x17
    replace b3 := b3.ext x17
    replace b4 := b4.ext x17
    replace b5 := b5.ext x17
    replace b7 := b7.ext x17
    replace b9 := b9.ext x17
    replace b11 := b11.ext x17
    replace xw := Ext.trans xw x17
    have b7_c0 := b7.c0
    have b7_c1 := b7.c1
    have b7_f0 := b7.f0
    have b7_f1 := b7.f1
    go_upto_region 7 with fail
    clear b7_c0 b7_c1 b7_f0 b7_f1
    refine wp_name ?_
    intro V18 hV
    have b2N : Box2 V18 w.heap.size (.int .i64 (hi n)) (.int .u64 (lo n)) 42 := by rw [hV]; exact ((b2).other (b := w2.heap.size) (by omega) 0 (.int .u64 (hi (X : Int)))).other (b := w2.heap.size) (by omega) 1 (.int .u64 (lo (X : Int)))
    have b3N : Box2 V18 (w.heap.size + 1) (.int .i64 (hi d)) (.int .u64 (lo d)) 42 := by rw [hV]; exact ((b3).other (b := w2.heap.size) (by omega) 0 (.int .u64 (hi (X : Int)))).other (b := w2.heap.size) (by omega) 1 (.int .u64 (lo (X : Int)))
    have b4N : Box2 V18 (w.heap.size + 1 + 1) (.int .i64 0) (.int .u64 0) 42 := by rw [hV]; exact ((b4).other (b := w2.heap.size) (by omega) 0 (.int .u64 (hi (X : Int)))).other (b := w2.heap.size) (by omega) 1 (.int .u64 (lo (X : Int)))
    have b5N : Box2 V18 (w.heap.size + 1 + 1 + 1) (.int .i64 0) (.int .u64 0) 42 := by rw [hV]; exact ((b5).other (b := w2.heap.size) (by omega) 0 (.int .u64 (hi (X : Int)))).other (b := w2.heap.size) (by omega) 1 (.int .u64 (lo (X : Int)))
    have b7N : Box2 V18 w2.heap.size (.int .u64 (hi (X : Int))) (.int .u64 (lo (X : Int))) 139 := by rw [hV]; exact (b7).set (.int .u64 (hi (X : Int))) (.int .u64 (lo (X : Int)))
    have b9N : Box2 V18 w9.heap.size (.int .u64 (hi (D : Int))) (.int .u64 (lo (D : Int))) 139 := by rw [hV]; exact ((b9).other (b := w2.heap.size) (by omega) 0 (.int .u64 (hi (X : Int)))).other (b := w2.heap.size) (by omega) 1 (.int .u64 (lo (X : Int)))
    have b11N : Box2 V18 w13.heap.size (.int .u64 (hi (G : Int))) (.int .u64 (lo (G : Int))) 139 := by rw [hV]; exact ((b11).other (b := w2.heap.size) (by omega) 0 (.int .u64 (hi (X : Int)))).other (b := w2.heap.size) (by omega) 1 (.int .u64 (lo (X : Int)))
    replace xw : Ext w V18 := by rw [hV]; exact Ext.set (Ext.set (xw) (k := w2.heap.size) (o := 0) (u := .int .u64 (hi (X : Int))) (by omega)) (k := w2.heap.size) (o := 1) (u := .int .u64 (lo (X : Int))) (by omega)
    replace b2 := b2N; clear b2N
    replace b3 := b3N; clear b3N
    replace b4 := b4N; clear b4N
    replace b5 := b5N; clear b5N
    replace b7 := b7N; clear b7N
    replace b9 := b9N; clear b9N
    replace b11 := b11N; clear b11N
    clear hV
    have b9_c0 := b9.c0
    have b9_c1 := b9.c1
    have b11_c0 := b11.c0
    have b11_c1 := b11.c1
    go_wp2_with fail
    refine (HO2.out _).mono ?_
    rw [HY.out, HR2.out]
    rintro e w19 ⟨rfl, x19⟩
    clear b9_c0 b9_c1 b11_c0 b11_c1
    replace b2 := b2.ext x19
    replace b3 := b3.ext x19
    replace b4 := b4.ext x19
    replace b5 := b5.ext x19
    replace b7 := b7.ext x19
    replace b9 := b9.ext x19
    replace b11 := b11.ext x19
    replace xw := Ext.trans xw x19
    have b9_c0 := b9.c0
    have b9_c1 := b9.c1
    have b9_f0 := b9.f0
    have b9_f1 := b9.f1
    go_upto_region 8 with fail
    clear b9_c0 b9_c1 b9_f0 b9_f1
    refine wp_name ?_
    intro V20 hV
    have b2N : Box2 V20 w.heap.size (.int .i64 (hi n)) (.int .u64 (lo n)) 42 := by rw [hV]; exact ((b2).other (b := w9.heap.size) (by omega) 0 (.int .u64 (hi (Y : Int)))).other (b := w9.heap.size) (by omega) 1 (.int .u64 (lo (Y : Int)))
    have b3N : Box2 V20 (w.heap.size + 1) (.int .i64 (hi d)) (.int .u64 (lo d)) 42 := by rw [hV]; exact ((b3).other (b := w9.heap.size) (by omega) 0 (.int .u64 (hi (Y : Int)))).other (b := w9.heap.size) (by omega) 1 (.int .u64 (lo (Y : Int)))
    have b4N : Box2 V20 (w.heap.size + 1 + 1) (.int .i64 0) (.int .u64 0) 42 := by rw [hV]; exact ((b4).other (b := w9.heap.size) (by omega) 0 (.int .u64 (hi (Y : Int)))).other (b := w9.heap.size) (by omega) 1 (.int .u64 (lo (Y : Int)))
    have b5N : Box2 V20 (w.heap.size + 1 + 1 + 1) (.int .i64 0) (.int .u64 0) 42 := by rw [hV]; exact ((b5).other (b := w9.heap.size) (by omega) 0 (.int .u64 (hi (Y : Int)))).other (b := w9.heap.size) (by omega) 1 (.int .u64 (lo (Y : Int)))
    have b7N : Box2 V20 w2.heap.size (.int .u64 (hi (X : Int))) (.int .u64 (lo (X : Int))) 139 := by rw [hV]; exact ((b7).other (b := w9.heap.size) (by omega) 0 (.int .u64 (hi (Y : Int)))).other (b := w9.heap.size) (by omega) 1 (.int .u64 (lo (Y : Int)))
    have b9N : Box2 V20 w9.heap.size (.int .u64 (hi (Y : Int))) (.int .u64 (lo (Y : Int))) 139 := by rw [hV]; exact (b9).set (.int .u64 (hi (Y : Int))) (.int .u64 (lo (Y : Int)))
    have b11N : Box2 V20 w13.heap.size (.int .u64 (hi (G : Int))) (.int .u64 (lo (G : Int))) 139 := by rw [hV]; exact ((b11).other (b := w9.heap.size) (by omega) 0 (.int .u64 (hi (Y : Int)))).other (b := w9.heap.size) (by omega) 1 (.int .u64 (lo (Y : Int)))
    replace xw : Ext w V20 := by rw [hV]; exact Ext.set (Ext.set (xw) (k := w9.heap.size) (o := 0) (u := .int .u64 (hi (Y : Int))) (by omega)) (k := w9.heap.size) (o := 1) (u := .int .u64 (lo (Y : Int))) (by omega)
    replace b2 := b2N; clear b2N
    replace b3 := b3N; clear b3N
    replace b4 := b4N; clear b4N
    replace b5 := b5N; clear b5N
    replace b7 := b7N; clear b7N
    replace b9 := b9N; clear b9N
    replace b11 := b11N; clear b11N
    clear hV
    have b7_c0 := b7.c0
    have b7_c1 := b7.c1
    go_wp2_with fail
    refine (HSgd.out _ _ _ HUX.out).mono ?_
    rw [HP.out]
    rintro e w21 ⟨rfl, x21⟩
    rw [thi_yes hP, tlo_yes hP, ter_yes hP]
    clear b7_c0 b7_c1
    replace b2 := b2.ext x21
    replace b3 := b3.ext x21
    replace b4 := b4.ext x21
    replace b5 := b5.ext x21
    replace b7 := b7.ext x21
    replace b9 := b9.ext x21
    replace b11 := b11.ext x21
    replace xw := Ext.trans xw x21
    go_upto_region 9 with fail
    have o23 := b11.kind.lt
    have o24 := xw.size
    refine wp_name ?_
    intro V22 hV
    have b2N : Box2 V22 w.heap.size (.int .i64 (hi n)) (.int .u64 (lo n)) 42 := by rw [hV]; exact (b2).alloc _
    have b3N : Box2 V22 (w.heap.size + 1) (.int .i64 (hi d)) (.int .u64 (lo d)) 42 := by rw [hV]; exact (b3).alloc _
    have b4N : Box2 V22 (w.heap.size + 1 + 1) (.int .i64 0) (.int .u64 0) 42 := by rw [hV]; exact (b4).alloc _
    have b5N : Box2 V22 (w.heap.size + 1 + 1 + 1) (.int .i64 0) (.int .u64 0) 42 := by rw [hV]; exact (b5).alloc _
    have b7N : Box2 V22 w2.heap.size (.int .u64 (hi (X : Int))) (.int .u64 (lo (X : Int))) 139 := by rw [hV]; exact (b7).alloc _
    have b9N : Box2 V22 w9.heap.size (.int .u64 (hi (Y : Int))) (.int .u64 (lo (Y : Int))) 139 := by rw [hV]; exact (b9).alloc _
    have b11N : Box2 V22 w13.heap.size (.int .u64 (hi (G : Int))) (.int .u64 (lo (G : Int))) 139 := by rw [hV]; exact (b11).alloc _
    replace xw : Ext w V22 := by rw [hV]; exact Ext.alloc (xw)
    replace b2 := b2N; clear b2N
    replace b3 := b3N; clear b3N
    replace b4 := b4N; clear b4N
    replace b5 := b5N; clear b5N
    replace b7 := b7N; clear b7N
    replace b9 := b9N; clear b9N
    replace b11 := b11N; clear b11N
    have b12 : Box2 V22 w21.heap.size (.int .i64 (hi (frP n d))) (.int .u64 (lo (frP n d))) 42 := by rw [hV]; exact Box2.new rfl
    clear hV
    have b9_c0 := b9.c0
    have b9_c1 := b9.c1
    go_wp2_with fail
    refine (HSgd.out _ _ _ HUY.out).mono ?_
    rw [HQ.out]
    rintro e w25 ⟨rfl, x25⟩
    rw [thi_no hQ, tlo_no hQ, ter_no hQ]
    clear b9_c0 b9_c1
    replace b2 := b2.ext x25
    replace b3 := b3.ext x25
    replace b4 := b4.ext x25
    replace b5 := b5.ext x25
    replace b7 := b7.ext x25
    replace b9 := b9.ext x25
    replace b11 := b11.ext x25
    replace b12 := b12.ext x25
    replace xw := Ext.trans xw x25
    go_upto_region 10 with fail
    have o27 := b12.kind.lt
    have o28 := xw.size
    refine wp_name ?_
    intro V26 hV
    have b2N : Box2 V26 w.heap.size (.int .i64 (hi n)) (.int .u64 (lo n)) 42 := by rw [hV]; exact (b2).alloc _
    have b3N : Box2 V26 (w.heap.size + 1) (.int .i64 (hi d)) (.int .u64 (lo d)) 42 := by rw [hV]; exact (b3).alloc _
    have b4N : Box2 V26 (w.heap.size + 1 + 1) (.int .i64 0) (.int .u64 0) 42 := by rw [hV]; exact (b4).alloc _
    have b5N : Box2 V26 (w.heap.size + 1 + 1 + 1) (.int .i64 0) (.int .u64 0) 42 := by rw [hV]; exact (b5).alloc _
    have b7N : Box2 V26 w2.heap.size (.int .u64 (hi (X : Int))) (.int .u64 (lo (X : Int))) 139 := by rw [hV]; exact (b7).alloc _
    have b9N : Box2 V26 w9.heap.size (.int .u64 (hi (Y : Int))) (.int .u64 (lo (Y : Int))) 139 := by rw [hV]; exact (b9).alloc _
    have b11N : Box2 V26 w13.heap.size (.int .u64 (hi (G : Int))) (.int .u64 (lo (G : Int))) 139 := by rw [hV]; exact (b11).alloc _
    have b12N : Box2 V26 w21.heap.size (.int .i64 (hi (frP n d))) (.int .u64 (lo (frP n d))) 42 := by rw [hV]; exact (b12).alloc _
    replace xw : Ext w V26 := by rw [hV]; exact Ext.alloc (xw)
    replace b2 := b2N; clear b2N
    replace b3 := b3N; clear b3N
    replace b4 := b4N; clear b4N
    replace b5 := b5N; clear b5N
    replace b7 := b7N; clear b7N
    replace b9 := b9N; clear b9N
    replace b11 := b11N; clear b11N
    replace b12 := b12N; clear b12N
    have b14 : Box2 V26 w25.heap.size (.int .i64 0) (.int .u64 0) 42 := by rw [hV]; exact Box2.new rfl
    clear hV
    go_upto_region 11 with fail
    have b4_c0 := b4.c0
    have b4_c1 := b4.c1
    have b4_f0 := b4.f0
    have b4_f1 := b4.f1
    have b5_c0 := b5.c0
    have b5_c1 := b5.c1
    have b5_f0 := b5.f0
    have b5_f1 := b5.f1
    have xr := Ext.set (Ext.set (Ext.set (Ext.set (xw) (k := w.heap.size + 1 + 1) (o := 0) (u := .int .i64 0) (by omega)) (k := w.heap.size + 1 + 1) (o := 1) (u := .int .u64 0) (by omega)) (k := w.heap.size + 1 + 1 + 1) (o := 0) (u := .int .i64 0) (by omega)) (k := w.heap.size + 1 + 1 + 1) (o := 1) (u := .int .u64 0) (by omega)
    go_wp2_with fail
    refine bodyPost_ret (v := .tuple #[.agg #[.int .i64 0, .int .u64 0], .agg #[.int .i64 0, .int .u64 0], .int .i64 2]) (by simp [results, Tryz.results41, go_sem, b4_c0, b4_c1, b5_c0, b5_c1]) rfl (retFr_no H0.out (fun h => hQ h.2.2) xr)
  · have g1 : (hi d == 0) = false := by simpa using hz1
    clear hz hz1
    go_enter Tryz.func41, Tryz.ntmps41
    go_upto_region 1 with fail
    have xw := Ext.refl w
    refine wp_name ?_
    intro V29 hV
    replace xw : Ext w V29 := by rw [hV]; exact Ext.alloc (Ext.alloc (Ext.alloc (Ext.alloc (xw))))
    have b2 : Box2 V29 w.heap.size (.int .i64 (hi n)) (.int .u64 (lo n)) 42 := by rw [hV]; exact (((Box2.new rfl).alloc _).alloc _).alloc _
    have b3 : Box2 V29 (w.heap.size + 1) (.int .i64 (hi d)) (.int .u64 (lo d)) 42 := by rw [hV]; exact ((Box2.new (by simp)).alloc _).alloc _
    have b4 : Box2 V29 (w.heap.size + 1 + 1) (.int .i64 0) (.int .u64 0) 42 := by rw [hV]; exact (Box2.new (by simp)).alloc _
    have b5 : Box2 V29 (w.heap.size + 1 + 1 + 1) (.int .i64 0) (.int .u64 0) 42 := by rw [hV]; exact Box2.new (by simp)
    clear hV
    have b3_c0 := b3.c0
    have b3_c1 := b3.c1
    go_upto_region 3 with fail
    clear b3_c0 b3_c1
    have b2_c0 := b2.c0
    have b2_c1 := b2.c1
    go_wp2_with fail
    refine (HPar.out n _ hn).mono ?_
    rw [HA.out]
    rintro e w30 ⟨rfl, x30⟩
    clear b2_c0 b2_c1
    replace b2 := b2.ext x30
    replace b3 := b3.ext x30
    replace b4 := b4.ext x30
    replace b5 := b5.ext x30
    replace xw := Ext.trans xw x30
    go_upto_region 4 with fail
    have o32 := b2.kind.lt
    have o33 := b3.kind.lt
    have o34 := b4.kind.lt
    have o35 := b5.kind.lt
    have o36 := xw.size
    refine wp_name ?_
    intro V31 hV
    have b2N : Box2 V31 w.heap.size (.int .i64 (hi n)) (.int .u64 (lo n)) 42 := by rw [hV]; exact (b2).alloc _
    have b3N : Box2 V31 (w.heap.size + 1) (.int .i64 (hi d)) (.int .u64 (lo d)) 42 := by rw [hV]; exact (b3).alloc _
    have b4N : Box2 V31 (w.heap.size + 1 + 1) (.int .i64 0) (.int .u64 0) 42 := by rw [hV]; exact (b4).alloc _
    have b5N : Box2 V31 (w.heap.size + 1 + 1 + 1) (.int .i64 0) (.int .u64 0) 42 := by rw [hV]; exact (b5).alloc _
    replace xw : Ext w V31 := by rw [hV]; exact Ext.alloc (xw)
    replace b2 := b2N; clear b2N
    replace b3 := b3N; clear b3N
    replace b4 := b4N; clear b4N
    replace b5 := b5N; clear b5N
    have b7 : Box2 V31 w30.heap.size (.int .u64 (hi (A : Int))) (.int .u64 (lo (A : Int))) 139 := by rw [hV]; exact Box2.new rfl
    clear hV
    have b3_c0 := b3.c0
    have b3_c1 := b3.c1
    go_wp2_with fail
    refine (HPar.out d _ hd).mono ?_
    rw [HD.out]
    rintro e w37 ⟨rfl, x37⟩
    clear b3_c0 b3_c1
    replace b2 := b2.ext x37
    replace b3 := b3.ext x37
    replace b4 := b4.ext x37
    replace b5 := b5.ext x37
    replace b7 := b7.ext x37
    replace xw := Ext.trans xw x37
    go_upto_region 5 with fail
    have o39 := b7.kind.lt
    have o40 := xw.size
    refine wp_name ?_
    intro V38 hV
    have b2N : Box2 V38 w.heap.size (.int .i64 (hi n)) (.int .u64 (lo n)) 42 := by rw [hV]; exact (b2).alloc _
    have b3N : Box2 V38 (w.heap.size + 1) (.int .i64 (hi d)) (.int .u64 (lo d)) 42 := by rw [hV]; exact (b3).alloc _
    have b4N : Box2 V38 (w.heap.size + 1 + 1) (.int .i64 0) (.int .u64 0) 42 := by rw [hV]; exact (b4).alloc _
    have b5N : Box2 V38 (w.heap.size + 1 + 1 + 1) (.int .i64 0) (.int .u64 0) 42 := by rw [hV]; exact (b5).alloc _
    have b7N : Box2 V38 w30.heap.size (.int .u64 (hi (A : Int))) (.int .u64 (lo (A : Int))) 139 := by rw [hV]; exact (b7).alloc _
    replace xw : Ext w V38 := by rw [hV]; exact Ext.alloc (xw)
    replace b2 := b2N; clear b2N
    replace b3 := b3N; clear b3N
    replace b4 := b4N; clear b4N
    replace b5 := b5N; clear b5N
    replace b7 := b7N; clear b7N
    have b9 : Box2 V38 w37.heap.size (.int .u64 (hi (D : Int))) (.int .u64 (lo (D : Int))) 139 := by rw [hV]; exact Box2.new rfl
    clear hV
    have b7_c0 := b7.c0
    have b7_c1 := b7.c1
    have b9_c0 := b9.c0
    have b9_c1 := b9.c1
    go_wp2_with fail
    refine (HGc.out 170141183460469231731687303715884105728 A D _ HBd.out.1 HBd.out.2 HOT.out).mono ?_
    rw [HG.out]
    rintro e w41 ⟨rfl, x41⟩
    clear b7_c0 b7_c1 b9_c0 b9_c1
    replace b2 := b2.ext x41
    replace b3 := b3.ext x41
    replace b4 := b4.ext x41
    replace b5 := b5.ext x41
    replace b7 := b7.ext x41
    replace b9 := b9.ext x41
    replace xw := Ext.trans xw x41
    go_upto_region 6 with fail
    have o43 := b9.kind.lt
    have o44 := xw.size
    refine wp_name ?_
    intro V42 hV
    have b2N : Box2 V42 w.heap.size (.int .i64 (hi n)) (.int .u64 (lo n)) 42 := by rw [hV]; exact (b2).alloc _
    have b3N : Box2 V42 (w.heap.size + 1) (.int .i64 (hi d)) (.int .u64 (lo d)) 42 := by rw [hV]; exact (b3).alloc _
    have b4N : Box2 V42 (w.heap.size + 1 + 1) (.int .i64 0) (.int .u64 0) 42 := by rw [hV]; exact (b4).alloc _
    have b5N : Box2 V42 (w.heap.size + 1 + 1 + 1) (.int .i64 0) (.int .u64 0) 42 := by rw [hV]; exact (b5).alloc _
    have b7N : Box2 V42 w30.heap.size (.int .u64 (hi (A : Int))) (.int .u64 (lo (A : Int))) 139 := by rw [hV]; exact (b7).alloc _
    have b9N : Box2 V42 w37.heap.size (.int .u64 (hi (D : Int))) (.int .u64 (lo (D : Int))) 139 := by rw [hV]; exact (b9).alloc _
    replace xw : Ext w V42 := by rw [hV]; exact Ext.alloc (xw)
    replace b2 := b2N; clear b2N
    replace b3 := b3N; clear b3N
    replace b4 := b4N; clear b4N
    replace b5 := b5N; clear b5N
    replace b7 := b7N; clear b7N
    replace b9 := b9N; clear b9N
    have b11 : Box2 V42 w41.heap.size (.int .u64 (hi (G : Int))) (.int .u64 (lo (G : Int))) 139 := by rw [hV]; exact Box2.new rfl
    clear hV
    have b7_c0 := b7.c0
    have b7_c1 := b7.c1
    have b11_c0 := b11.c0
    have b11_c1 := b11.c1
    go_wp2_with fail
    refine (HO1.out _).mono ?_
    rw [HX.out, HR1.out]
    rintro e w45 ⟨rfl, x45⟩
    clear b7_c0 b7_c1 b11_c0 b11_c1
    replace b2 := b2.ext x45
    replace b3 := b3.ext x45
    replace b4 := b4.ext x45
    replace b5 := b5.ext x45
    replace b7 := b7.ext x45
    replace b9 := b9.ext x45
    replace b11 := b11.ext x45
    replace xw := Ext.trans xw x45
    have b7_c0 := b7.c0
    have b7_c1 := b7.c1
    have b7_f0 := b7.f0
    have b7_f1 := b7.f1
    go_upto_region 7 with fail
    clear b7_c0 b7_c1 b7_f0 b7_f1
    refine wp_name ?_
    intro V46 hV
    have b2N : Box2 V46 w.heap.size (.int .i64 (hi n)) (.int .u64 (lo n)) 42 := by rw [hV]; exact ((b2).other (b := w30.heap.size) (by omega) 0 (.int .u64 (hi (X : Int)))).other (b := w30.heap.size) (by omega) 1 (.int .u64 (lo (X : Int)))
    have b3N : Box2 V46 (w.heap.size + 1) (.int .i64 (hi d)) (.int .u64 (lo d)) 42 := by rw [hV]; exact ((b3).other (b := w30.heap.size) (by omega) 0 (.int .u64 (hi (X : Int)))).other (b := w30.heap.size) (by omega) 1 (.int .u64 (lo (X : Int)))
    have b4N : Box2 V46 (w.heap.size + 1 + 1) (.int .i64 0) (.int .u64 0) 42 := by rw [hV]; exact ((b4).other (b := w30.heap.size) (by omega) 0 (.int .u64 (hi (X : Int)))).other (b := w30.heap.size) (by omega) 1 (.int .u64 (lo (X : Int)))
    have b5N : Box2 V46 (w.heap.size + 1 + 1 + 1) (.int .i64 0) (.int .u64 0) 42 := by rw [hV]; exact ((b5).other (b := w30.heap.size) (by omega) 0 (.int .u64 (hi (X : Int)))).other (b := w30.heap.size) (by omega) 1 (.int .u64 (lo (X : Int)))
    have b7N : Box2 V46 w30.heap.size (.int .u64 (hi (X : Int))) (.int .u64 (lo (X : Int))) 139 := by rw [hV]; exact (b7).set (.int .u64 (hi (X : Int))) (.int .u64 (lo (X : Int)))
    have b9N : Box2 V46 w37.heap.size (.int .u64 (hi (D : Int))) (.int .u64 (lo (D : Int))) 139 := by rw [hV]; exact ((b9).other (b := w30.heap.size) (by omega) 0 (.int .u64 (hi (X : Int)))).other (b := w30.heap.size) (by omega) 1 (.int .u64 (lo (X : Int)))
    have b11N : Box2 V46 w41.heap.size (.int .u64 (hi (G : Int))) (.int .u64 (lo (G : Int))) 139 := by rw [hV]; exact ((b11).other (b := w30.heap.size) (by omega) 0 (.int .u64 (hi (X : Int)))).other (b := w30.heap.size) (by omega) 1 (.int .u64 (lo (X : Int)))
    replace xw : Ext w V46 := by rw [hV]; exact Ext.set (Ext.set (xw) (k := w30.heap.size) (o := 0) (u := .int .u64 (hi (X : Int))) (by omega)) (k := w30.heap.size) (o := 1) (u := .int .u64 (lo (X : Int))) (by omega)
    replace b2 := b2N; clear b2N
    replace b3 := b3N; clear b3N
    replace b4 := b4N; clear b4N
    replace b5 := b5N; clear b5N
    replace b7 := b7N; clear b7N
    replace b9 := b9N; clear b9N
    replace b11 := b11N; clear b11N
    clear hV
    have b9_c0 := b9.c0
    have b9_c1 := b9.c1
    have b11_c0 := b11.c0
    have b11_c1 := b11.c1
    go_wp2_with fail
    refine (HO2.out _).mono ?_
    rw [HY.out, HR2.out]
    rintro e w47 ⟨rfl, x47⟩
    clear b9_c0 b9_c1 b11_c0 b11_c1
    replace b2 := b2.ext x47
    replace b3 := b3.ext x47
    replace b4 := b4.ext x47
    replace b5 := b5.ext x47
    replace b7 := b7.ext x47
    replace b9 := b9.ext x47
    replace b11 := b11.ext x47
    replace xw := Ext.trans xw x47
    have b9_c0 := b9.c0
    have b9_c1 := b9.c1
    have b9_f0 := b9.f0
    have b9_f1 := b9.f1
    go_upto_region 8 with fail
    clear b9_c0 b9_c1 b9_f0 b9_f1
    refine wp_name ?_
    intro V48 hV
    have b2N : Box2 V48 w.heap.size (.int .i64 (hi n)) (.int .u64 (lo n)) 42 := by rw [hV]; exact ((b2).other (b := w37.heap.size) (by omega) 0 (.int .u64 (hi (Y : Int)))).other (b := w37.heap.size) (by omega) 1 (.int .u64 (lo (Y : Int)))
    have b3N : Box2 V48 (w.heap.size + 1) (.int .i64 (hi d)) (.int .u64 (lo d)) 42 := by rw [hV]; exact ((b3).other (b := w37.heap.size) (by omega) 0 (.int .u64 (hi (Y : Int)))).other (b := w37.heap.size) (by omega) 1 (.int .u64 (lo (Y : Int)))
    have b4N : Box2 V48 (w.heap.size + 1 + 1) (.int .i64 0) (.int .u64 0) 42 := by rw [hV]; exact ((b4).other (b := w37.heap.size) (by omega) 0 (.int .u64 (hi (Y : Int)))).other (b := w37.heap.size) (by omega) 1 (.int .u64 (lo (Y : Int)))
    have b5N : Box2 V48 (w.heap.size + 1 + 1 + 1) (.int .i64 0) (.int .u64 0) 42 := by rw [hV]; exact ((b5).other (b := w37.heap.size) (by omega) 0 (.int .u64 (hi (Y : Int)))).other (b := w37.heap.size) (by omega) 1 (.int .u64 (lo (Y : Int)))
    have b7N : Box2 V48 w30.heap.size (.int .u64 (hi (X : Int))) (.int .u64 (lo (X : Int))) 139 := by rw [hV]; exact ((b7).other (b := w37.heap.size) (by omega) 0 (.int .u64 (hi (Y : Int)))).other (b := w37.heap.size) (by omega) 1 (.int .u64 (lo (Y : Int)))
    have b9N : Box2 V48 w37.heap.size (.int .u64 (hi (Y : Int))) (.int .u64 (lo (Y : Int))) 139 := by rw [hV]; exact (b9).set (.int .u64 (hi (Y : Int))) (.int .u64 (lo (Y : Int)))
    have b11N : Box2 V48 w41.heap.size (.int .u64 (hi (G : Int))) (.int .u64 (lo (G : Int))) 139 := by rw [hV]; exact ((b11).other (b := w37.heap.size) (by omega) 0 (.int .u64 (hi (Y : Int)))).other (b := w37.heap.size) (by omega) 1 (.int .u64 (lo (Y : Int)))
    replace xw : Ext w V48 := by rw [hV]; exact Ext.set (Ext.set (xw) (k := w37.heap.size) (o := 0) (u := .int .u64 (hi (Y : Int))) (by omega)) (k := w37.heap.size) (o := 1) (u := .int .u64 (lo (Y : Int))) (by omega)
    replace b2 := b2N; clear b2N
    replace b3 := b3N; clear b3N
    replace b4 := b4N; clear b4N
    replace b5 := b5N; clear b5N
    replace b7 := b7N; clear b7N
    replace b9 := b9N; clear b9N
    replace b11 := b11N; clear b11N
    clear hV
    have b7_c0 := b7.c0
    have b7_c1 := b7.c1
    go_wp2_with fail
    refine (HSgd.out _ _ _ HUX.out).mono ?_
    rw [HP.out]
    rintro e w49 ⟨rfl, x49⟩
    rw [thi_yes hP, tlo_yes hP, ter_yes hP]
    clear b7_c0 b7_c1
    replace b2 := b2.ext x49
    replace b3 := b3.ext x49
    replace b4 := b4.ext x49
    replace b5 := b5.ext x49
    replace b7 := b7.ext x49
    replace b9 := b9.ext x49
    replace b11 := b11.ext x49
    replace xw := Ext.trans xw x49
    go_upto_region 9 with fail
    have o51 := b11.kind.lt
    have o52 := xw.size
    refine wp_name ?_
    intro V50 hV
    have b2N : Box2 V50 w.heap.size (.int .i64 (hi n)) (.int .u64 (lo n)) 42 := by rw [hV]; exact (b2).alloc _
    have b3N : Box2 V50 (w.heap.size + 1) (.int .i64 (hi d)) (.int .u64 (lo d)) 42 := by rw [hV]; exact (b3).alloc _
    have b4N : Box2 V50 (w.heap.size + 1 + 1) (.int .i64 0) (.int .u64 0) 42 := by rw [hV]; exact (b4).alloc _
    have b5N : Box2 V50 (w.heap.size + 1 + 1 + 1) (.int .i64 0) (.int .u64 0) 42 := by rw [hV]; exact (b5).alloc _
    have b7N : Box2 V50 w30.heap.size (.int .u64 (hi (X : Int))) (.int .u64 (lo (X : Int))) 139 := by rw [hV]; exact (b7).alloc _
    have b9N : Box2 V50 w37.heap.size (.int .u64 (hi (Y : Int))) (.int .u64 (lo (Y : Int))) 139 := by rw [hV]; exact (b9).alloc _
    have b11N : Box2 V50 w41.heap.size (.int .u64 (hi (G : Int))) (.int .u64 (lo (G : Int))) 139 := by rw [hV]; exact (b11).alloc _
    replace xw : Ext w V50 := by rw [hV]; exact Ext.alloc (xw)
    replace b2 := b2N; clear b2N
    replace b3 := b3N; clear b3N
    replace b4 := b4N; clear b4N
    replace b5 := b5N; clear b5N
    replace b7 := b7N; clear b7N
    replace b9 := b9N; clear b9N
    replace b11 := b11N; clear b11N
    have b12 : Box2 V50 w49.heap.size (.int .i64 (hi (frP n d))) (.int .u64 (lo (frP n d))) 42 := by rw [hV]; exact Box2.new rfl
    clear hV
    have b9_c0 := b9.c0
    have b9_c1 := b9.c1
    go_wp2_with fail
    refine (HSgd.out _ _ _ HUY.out).mono ?_
    rw [HQ.out]
    rintro e w53 ⟨rfl, x53⟩
    rw [thi_no hQ, tlo_no hQ, ter_no hQ]
    clear b9_c0 b9_c1
    replace b2 := b2.ext x53
    replace b3 := b3.ext x53
    replace b4 := b4.ext x53
    replace b5 := b5.ext x53
    replace b7 := b7.ext x53
    replace b9 := b9.ext x53
    replace b11 := b11.ext x53
    replace b12 := b12.ext x53
    replace xw := Ext.trans xw x53
    go_upto_region 10 with fail
    have o55 := b12.kind.lt
    have o56 := xw.size
    refine wp_name ?_
    intro V54 hV
    have b2N : Box2 V54 w.heap.size (.int .i64 (hi n)) (.int .u64 (lo n)) 42 := by rw [hV]; exact (b2).alloc _
    have b3N : Box2 V54 (w.heap.size + 1) (.int .i64 (hi d)) (.int .u64 (lo d)) 42 := by rw [hV]; exact (b3).alloc _
    have b4N : Box2 V54 (w.heap.size + 1 + 1) (.int .i64 0) (.int .u64 0) 42 := by rw [hV]; exact (b4).alloc _
    have b5N : Box2 V54 (w.heap.size + 1 + 1 + 1) (.int .i64 0) (.int .u64 0) 42 := by rw [hV]; exact (b5).alloc _
    have b7N : Box2 V54 w30.heap.size (.int .u64 (hi (X : Int))) (.int .u64 (lo (X : Int))) 139 := by rw [hV]; exact (b7).alloc _
    have b9N : Box2 V54 w37.heap.size (.int .u64 (hi (Y : Int))) (.int .u64 (lo (Y : Int))) 139 := by rw [hV]; exact (b9).alloc _
    have b11N : Box2 V54 w41.heap.size (.int .u64 (hi (G : Int))) (.int .u64 (lo (G : Int))) 139 := by rw [hV]; exact (b11).alloc _
    have b12N : Box2 V54 w49.heap.size (.int .i64 (hi (frP n d))) (.int .u64 (lo (frP n d))) 42 := by rw [hV]; exact (b12).alloc _
    replace xw : Ext w V54 := by rw [hV]; exact Ext.alloc (xw)
    replace b2 := b2N; clear b2N
    replace b3 := b3N; clear b3N
    replace b4 := b4N; clear b4N
    replace b5 := b5N; clear b5N
    replace b7 := b7N; clear b7N
    replace b9 := b9N; clear b9N
    replace b11 := b11N; clear b11N
    replace b12 := b12N; clear b12N
    have b14 : Box2 V54 w53.heap.size (.int .i64 0) (.int .u64 0) 42 := by rw [hV]; exact Box2.new rfl
    clear hV
    go_upto_region 11 with fail
    have b4_c0 := b4.c0
    have b4_c1 := b4.c1
    have b4_f0 := b4.f0
    have b4_f1 := b4.f1
    have b5_c0 := b5.c0
    have b5_c1 := b5.c1
    have b5_f0 := b5.f0
    have b5_f1 := b5.f1
    have xr := Ext.set (Ext.set (Ext.set (Ext.set (xw) (k := w.heap.size + 1 + 1) (o := 0) (u := .int .i64 0) (by omega)) (k := w.heap.size + 1 + 1) (o := 1) (u := .int .u64 0) (by omega)) (k := w.heap.size + 1 + 1 + 1) (o := 0) (u := .int .i64 0) (by omega)) (k := w.heap.size + 1 + 1 + 1) (o := 1) (u := .int .u64 0) (by omega)
    go_wp2_with fail
    refine bodyPost_ret (v := .tuple #[.agg #[.int .i64 0, .int .u64 0], .agg #[.int .i64 0, .int .u64 0], .int .i64 2]) (by simp [results, Tryz.results41, go_sem, b4_c0, b4_c1, b5_c0, b5_c1]) rfl (retFr_no H0.out (fun h => hQ h.2.2) xr)
theorem dfrac_any (n d : Int) (w : World) (hn : W128 n) (hd : W128 d) :
    Calls Tryz.prog 41 #[.agg #[.int .i64 (hi n), .int .u64 (lo n)], .agg #[.int .i64 (hi d), .int .u64 (lo d)]] w (RetFr w n d) := by
  by_cases h0 : d = 0
  · subst h0; exact dfrac0 n w
  by_cases hP : W128 (frP n d)
  · by_cases hQ : W128 (frQ n d)
    · exact dfrac_yes n d w hn hd h0 hP hQ
    · exact dfrac_no2 n d w hn hd h0 hP hQ
  · exact dfrac_no1 n d w hn hd h0 hP
end Go.Proofs.YthoedmikfpbfnaaGreat
end
section
/-
  A total laid out, as the program and the reference do it; sums, rounding.
-/
set_option linter.unusedVariables false
set_option maxRecDepth 100000
namespace Go.Proofs.YthoedmikfpbfnaaGreat
open Go Go.RowKit Go.Ev

section
variable (a b c d h mi s n : Int)
theorem uright (i : all64 a b c d h mi s n) : Fn 25 [] [duv a b c d h mi s n] (.bool (decide (uOk a b c d h mi s n))) := by
  by_cases ka : a = 0
  rotate_left
  · by_cases z : 0 < a
    · exact uright_p a b c d h mi s n i (sg8_1 (.inl z)) (.inl z)
    · exact uright_n a b c d h mi s n i (sg8_m (.inl (by omega))) (.inl (by omega))
  by_cases kb : b = 0
  rotate_left
  · by_cases z : 0 < b
    · exact uright_p a b c d h mi s n i (sg8_1 (.inr ⟨ka, (.inl z)⟩)) (.inr ⟨ka, (.inl z)⟩)
    · exact uright_n a b c d h mi s n i (sg8_m (.inr ⟨ka, (.inl (by omega))⟩)) (.inr ⟨ka, (.inl (by omega))⟩)
  by_cases kc : c = 0
  rotate_left
  · by_cases z : 0 < c
    · exact uright_p a b c d h mi s n i (sg8_1 (.inr ⟨ka, (.inr ⟨kb, (.inl z)⟩)⟩)) (.inr ⟨ka, (.inr ⟨kb, (.inl z)⟩)⟩)
    · exact uright_n a b c d h mi s n i (sg8_m (.inr ⟨ka, (.inr ⟨kb, (.inl (by omega))⟩)⟩)) (.inr ⟨ka, (.inr ⟨kb, (.inl (by omega))⟩)⟩)
  by_cases kd : d = 0
  rotate_left
  · by_cases z : 0 < d
    · exact uright_p a b c d h mi s n i (sg8_1 (.inr ⟨ka, (.inr ⟨kb, (.inr ⟨kc, (.inl z)⟩)⟩)⟩)) (.inr ⟨ka, (.inr ⟨kb, (.inr ⟨kc, (.inl z)⟩)⟩)⟩)
    · exact uright_n a b c d h mi s n i (sg8_m (.inr ⟨ka, (.inr ⟨kb, (.inr ⟨kc, (.inl (by omega))⟩)⟩)⟩)) (.inr ⟨ka, (.inr ⟨kb, (.inr ⟨kc, (.inl (by omega))⟩)⟩)⟩)
  by_cases kh : h = 0
  rotate_left
  · by_cases z : 0 < h
    · exact uright_p a b c d h mi s n i (sg8_1 (.inr ⟨ka, (.inr ⟨kb, (.inr ⟨kc, (.inr ⟨kd, (.inl z)⟩)⟩)⟩)⟩)) (.inr ⟨ka, (.inr ⟨kb, (.inr ⟨kc, (.inr ⟨kd, (.inl z)⟩)⟩)⟩)⟩)
    · exact uright_n a b c d h mi s n i (sg8_m (.inr ⟨ka, (.inr ⟨kb, (.inr ⟨kc, (.inr ⟨kd, (.inl (by omega))⟩)⟩)⟩)⟩)) (.inr ⟨ka, (.inr ⟨kb, (.inr ⟨kc, (.inr ⟨kd, (.inl (by omega))⟩)⟩)⟩)⟩)
  by_cases kmi : mi = 0
  rotate_left
  · by_cases z : 0 < mi
    · exact uright_p a b c d h mi s n i (sg8_1 (.inr ⟨ka, (.inr ⟨kb, (.inr ⟨kc, (.inr ⟨kd, (.inr ⟨kh, (.inl z)⟩)⟩)⟩)⟩)⟩)) (.inr ⟨ka, (.inr ⟨kb, (.inr ⟨kc, (.inr ⟨kd, (.inr ⟨kh, (.inl z)⟩)⟩)⟩)⟩)⟩)
    · exact uright_n a b c d h mi s n i (sg8_m (.inr ⟨ka, (.inr ⟨kb, (.inr ⟨kc, (.inr ⟨kd, (.inr ⟨kh, (.inl (by omega))⟩)⟩)⟩)⟩)⟩)) (.inr ⟨ka, (.inr ⟨kb, (.inr ⟨kc, (.inr ⟨kd, (.inr ⟨kh, (.inl (by omega))⟩)⟩)⟩)⟩)⟩)
  by_cases ks : s = 0
  rotate_left
  · by_cases z : 0 < s
    · exact uright_p a b c d h mi s n i (sg8_1 (.inr ⟨ka, (.inr ⟨kb, (.inr ⟨kc, (.inr ⟨kd, (.inr ⟨kh, (.inr ⟨kmi, (.inl z)⟩)⟩)⟩)⟩)⟩)⟩)) (.inr ⟨ka, (.inr ⟨kb, (.inr ⟨kc, (.inr ⟨kd, (.inr ⟨kh, (.inr ⟨kmi, (.inl z)⟩)⟩)⟩)⟩)⟩)⟩)
    · exact uright_n a b c d h mi s n i (sg8_m (.inr ⟨ka, (.inr ⟨kb, (.inr ⟨kc, (.inr ⟨kd, (.inr ⟨kh, (.inr ⟨kmi, (.inl (by omega))⟩)⟩)⟩)⟩)⟩)⟩)) (.inr ⟨ka, (.inr ⟨kb, (.inr ⟨kc, (.inr ⟨kd, (.inr ⟨kh, (.inr ⟨kmi, (.inl (by omega))⟩)⟩)⟩)⟩)⟩)⟩)
  by_cases kn : n = 0
  rotate_left
  · by_cases z : 0 < n
    · exact uright_p a b c d h mi s n i (sg8_1 (.inr ⟨ka, (.inr ⟨kb, (.inr ⟨kc, (.inr ⟨kd, (.inr ⟨kh, (.inr ⟨kmi, (.inr ⟨ks, z⟩)⟩)⟩)⟩)⟩)⟩)⟩)) (.inr ⟨ka, (.inr ⟨kb, (.inr ⟨kc, (.inr ⟨kd, (.inr ⟨kh, (.inr ⟨kmi, (.inr ⟨ks, z⟩)⟩)⟩)⟩)⟩)⟩)⟩)
    · exact uright_n a b c d h mi s n i (sg8_m (.inr ⟨ka, (.inr ⟨kb, (.inr ⟨kc, (.inr ⟨kd, (.inr ⟨kh, (.inr ⟨kmi, (.inr ⟨ks, (by omega)⟩)⟩)⟩)⟩)⟩)⟩)⟩)) (.inr ⟨ka, (.inr ⟨kb, (.inr ⟨kc, (.inr ⟨kd, (.inr ⟨kh, (.inr ⟨kmi, (.inr ⟨ks, (by omega)⟩)⟩)⟩)⟩)⟩)⟩)⟩)
  exact uright_z a b c d h mi s n i (sg8_0 ⟨ka, kb, kc, kd, kh, kmi, ks, kn⟩) ⟨ka, kb, kc, kd, kh, kmi, ks, kn⟩
theorem uright_y (i : all64 a b c d h mi s n) (k : uOk a b c d h mi s n) : Fn 25 [] [duv a b c d h mi s n] (.bool true) := by have := uright a b c d h mi s n i; rwa [decide_eq_true k] at this
theorem utotal_y (i : all64 a b c d h mi s n) (k : uOk a b c d h mi s n) : Fn 123 [] [duv a b c d h mi s n] (.tuple #[wv (dtot d h mi s n), .int .i64 0]) := by
  have r := uright_y a b c d h mi s n i k
  obtain ⟨i1, i2, i3, i4, i5, i6, i7, i8⟩ := i
  have t := utot a b c d h mi s n i4 i5 i6 i7 i8
  refine fn_of Tryz.func123 rfl fun ww => ?_
  refine st_fn ent25 (r) sub0 (by kernel_rfl) ?_
  refine st_fn ent66 (t) sub0 (by kernel_rfl) ?_
  exact st_ret Tryz.func123 (by kernel_rfl)
end
/-! laid out -/
theorem tch (x A B : Int) (hx : W128 x) (hA : 0 < A) (hB : 0 < B) (hd : B ∣ A) (hAW : A ≤ 86400000000000) (hBW : B ≤ 86400000000000) : Fn 139 [] [wv (x.tmod A), wv B] (.tuple #[wv ((x.tmod A).tdiv B), wv (x.tmod B), .int .i64 0]) := by
  obtain ⟨e1, e2, e3⟩ := td x A hA
  have m1 : -A < x.tmod A ∧ x.tmod A < A := by
    by_cases h : 0 ≤ x
    · have := e2 h; omega
    · have := e3 (by omega); omega
  obtain ⟨f1, f2, f3⟩ := td (x.tmod A) B hB
  have q1 : W128 ((x.tmod A).tdiv B) := by
    have key : ∀ q : Int, 0 ≤ q → q ≤ q * B := fun q h => by
      have := Int.mul_le_mul_of_nonneg_left (show 1 ≤ B by omega) h; omega
    by_cases h : 0 ≤ x.tmod A
    · have g := f2 h
      have := key _ g.1
      unfold W128; omega
    · have g := f3 (by omega)
      have := key (-((x.tmod A).tdiv B)) (by omega)
      rw [Int.neg_mul] at this
      unfold W128; omega
  have t := dtrunc_yes (x.tmod A) B (by unfold W128; omega) (by unfold W128; omega) (by omega) q1
  rwa [Int.tmod_tmod_of_dvd x hd] at t
theorem ttop (x B : Int) (hx : W128 x) (hB : 0 < B) (hBW : B ≤ 86400000000000) : Fn 139 [] [wv x, wv B] (.tuple #[wv (x.tdiv B), wv (x.tmod B), .int .i64 0]) ∧ W128 (x.tmod B) := by
  obtain ⟨e1, e2, e3⟩ := td x B hB
  have key : ∀ q : Int, 0 ≤ q → q ≤ q * B := fun q h => by
    have := Int.mul_le_mul_of_nonneg_left (show 1 ≤ B by omega) h; omega
  unfold W128 at hx
  by_cases h : 0 ≤ x
  · have g := e2 h
    have := key _ g.1
    exact ⟨dtrunc_yes x B (by unfold W128; omega) (by unfold W128; omega) (by omega) (by unfold W128; omega), by unfold W128; omega⟩
  · have g := e3 (by omega)
    have := key (-(x.tdiv B)) (by omega)
    rw [Int.neg_mul] at this
    exact ⟨dtrunc_yes x B (by unfold W128; omega) (by unfold W128; omega) (by omega) (by unfold W128; omega), by unfold W128; omega⟩
theorem tdiv_1 (x : Int) : x.tdiv 1 = x := Int.tdiv_one x
theorem tmod_1 (x : Int) : x.tmod 1 = 0 := Int.tmod_one x
theorem ulay4_y (x : Int) (hx : W128 x) (g : I64 (x.tdiv 86400000000000)) (k : uOk 0 0 0 (x.tdiv 86400000000000) ((x.tmod 86400000000000).tdiv 3600000000000) ((x.tmod 3600000000000).tdiv 60000000000) ((x.tmod 60000000000).tdiv 1000000000) (x.tmod 1000000000)) : Fn 97 [] [wv x, .int .i64 4] (.tuple #[duv 0 0 0 (x.tdiv 86400000000000) ((x.tmod 86400000000000).tdiv 3600000000000) ((x.tmod 3600000000000).tdiv 60000000000) ((x.tmod 60000000000).tdiv 1000000000) (x.tmod 1000000000), .int .i64 0]) := by
  obtain ⟨t0, m0⟩ := ttop x 86400000000000 hx (by omega) (by omega)
  have t1 := tch x 86400000000000 3600000000000 hx (by omega) (by omega) (by decide) (by omega) (by omega)
  have t2 := tch x 3600000000000 60000000000 hx (by omega) (by omega) (by decide) (by omega) (by omega)
  have t3 := tch x 60000000000 1000000000 hx (by omega) (by omega) (by decide) (by omega) (by omega)
  have t4 := tch x 1000000000 1 hx (by omega) (by omega) (by decide) (by omega) (by omega)
  rw [tdiv_1, tmod_1] at t4
  have g5 : I64 ((x.tmod 86400000000000).tdiv 3600000000000) := by have := td2 x 86400000000000 3600000000000 24 (by decide) (by omega) (by omega); unfold I64; omega
  have g6 : I64 ((x.tmod 3600000000000).tdiv 60000000000) := by have := td2 x 3600000000000 60000000000 60 (by decide) (by omega) (by omega); unfold I64; omega
  have g7 : I64 ((x.tmod 60000000000).tdiv 1000000000) := by have := td2 x 60000000000 1000000000 60 (by decide) (by omega) (by omega); unfold I64; omega
  have g8 : I64 (x.tmod 1000000000) := by
    obtain ⟨e1, e2, e3⟩ := td x 1000000000 (by omega)
    by_cases z : 0 ≤ x
    · have := e2 z; unfold I64; omega
    · have := e3 (by omega); unfold I64; omega
  have j1 : I64 86400000000000 := by unfold I64; omega
  have j2 : I64 3600000000000 := by unfold I64; omega
  have j3 : I64 60000000000 := by unfold I64; omega
  have j4 : I64 1000000000 := by unfold I64; omega
  have j5 : I64 1 := by unfold I64; omega
  have j0 : I64 0 := by unfold I64; omega
  have r := uright_y 0 0 0 (x.tdiv 86400000000000) ((x.tmod 86400000000000).tdiv 3600000000000) ((x.tmod 3600000000000).tdiv 60000000000) ((x.tmod 60000000000).tdiv 1000000000) (x.tmod 1000000000) ⟨j0, j0, j0, g, g5, g6, g7, g8⟩ k
  refine fn_of Tryz.func97 rfl fun ww => ?_
  refine st_fn ent63 (ulen4) sub0 (by kernel_rfl) ?_
  refine ufields_row 2 0 (by kernel_rfl) ?_
  refine st_round (by kernel_rfl) ?_
  refine st_fn ent63 (ulen4) sub0 (by kernel_rfl) ?_
  refine st_fn ent30 (wof_fn (86400000000000) (by assumption)) sub0 (by kernel_rfl) ?_
  refine st_fn ent139 (t0) sub0 (by kernel_rfl) ?_
  refine st_fn ent50 (wint_f (x.tdiv 86400000000000) (by assumption)) sub0 (by kernel_rfl) ?_
  refine st_i 21 .i64 (x' := 4 + 1) (Go.IntWalk.i64_in _ (by omega)) (by kernel_rfl) ?_
  refine st_round (by kernel_rfl) ?_
  refine st_fn ent63 (ulen5) sub0 (by kernel_rfl) ?_
  refine st_fn ent30 (wof_fn (3600000000000) (by assumption)) sub0 (by kernel_rfl) ?_
  refine st_fn ent139 (t1) sub0 (by kernel_rfl) ?_
  refine st_fn ent50 (wint_f ((x.tmod 86400000000000).tdiv 3600000000000) (by assumption)) sub0 (by kernel_rfl) ?_
  refine st_i 21 .i64 (x' := 4 + 1 + 1) (Go.IntWalk.i64_in _ (by omega)) (by kernel_rfl) ?_
  refine st_round (by kernel_rfl) ?_
  refine st_fn ent63 (ulen6) sub0 (by kernel_rfl) ?_
  refine st_fn ent30 (wof_fn (60000000000) (by assumption)) sub0 (by kernel_rfl) ?_
  refine st_fn ent139 (t2) sub0 (by kernel_rfl) ?_
  refine st_fn ent50 (wint_f ((x.tmod 3600000000000).tdiv 60000000000) (by assumption)) sub0 (by kernel_rfl) ?_
  refine st_i 21 .i64 (x' := 4 + 1 + 1 + 1) (Go.IntWalk.i64_in _ (by omega)) (by kernel_rfl) ?_
  refine st_round (by kernel_rfl) ?_
  refine st_fn ent63 (ulen7) sub0 (by kernel_rfl) ?_
  refine st_fn ent30 (wof_fn (1000000000) (by assumption)) sub0 (by kernel_rfl) ?_
  refine st_fn ent139 (t3) sub0 (by kernel_rfl) ?_
  refine st_fn ent50 (wint_f ((x.tmod 60000000000).tdiv 1000000000) (by assumption)) sub0 (by kernel_rfl) ?_
  refine st_i 21 .i64 (x' := 4 + 1 + 1 + 1 + 1) (Go.IntWalk.i64_in _ (by omega)) (by kernel_rfl) ?_
  refine st_round (by kernel_rfl) ?_
  refine st_fn ent63 (ulen8) sub0 (by kernel_rfl) ?_
  refine st_fn ent30 (wof_fn (1) (by assumption)) sub0 (by kernel_rfl) ?_
  refine st_fn ent139 (t4) sub0 (by kernel_rfl) ?_
  refine st_fn ent50 (wint_f (x.tmod 1000000000) (by assumption)) sub0 (by kernel_rfl) ?_
  refine st_i 21 .i64 (x' := 4 + 1 + 1 + 1 + 1 + 1) (Go.IntWalk.i64_in _ (by omega)) (by kernel_rfl) ?_
  refine st_round (by kernel_rfl) ?_
  refine st_fn ent25 (r) sub0 (by kernel_rfl) ?_
  exact st_ret Tryz.func97 (by kernel_rfl)
theorem ulay5_y (x : Int) (hx : W128 x) (g : I64 (x.tdiv 3600000000000)) (k : uOk 0 0 0 0 (x.tdiv 3600000000000) ((x.tmod 3600000000000).tdiv 60000000000) ((x.tmod 60000000000).tdiv 1000000000) (x.tmod 1000000000)) : Fn 97 [] [wv x, .int .i64 5] (.tuple #[duv 0 0 0 0 (x.tdiv 3600000000000) ((x.tmod 3600000000000).tdiv 60000000000) ((x.tmod 60000000000).tdiv 1000000000) (x.tmod 1000000000), .int .i64 0]) := by
  obtain ⟨t0, m0⟩ := ttop x 3600000000000 hx (by omega) (by omega)
  have t1 := tch x 3600000000000 60000000000 hx (by omega) (by omega) (by decide) (by omega) (by omega)
  have t2 := tch x 60000000000 1000000000 hx (by omega) (by omega) (by decide) (by omega) (by omega)
  have t3 := tch x 1000000000 1 hx (by omega) (by omega) (by decide) (by omega) (by omega)
  rw [tdiv_1, tmod_1] at t3
  have g6 : I64 ((x.tmod 3600000000000).tdiv 60000000000) := by have := td2 x 3600000000000 60000000000 60 (by decide) (by omega) (by omega); unfold I64; omega
  have g7 : I64 ((x.tmod 60000000000).tdiv 1000000000) := by have := td2 x 60000000000 1000000000 60 (by decide) (by omega) (by omega); unfold I64; omega
  have g8 : I64 (x.tmod 1000000000) := by
    obtain ⟨e1, e2, e3⟩ := td x 1000000000 (by omega)
    by_cases z : 0 ≤ x
    · have := e2 z; unfold I64; omega
    · have := e3 (by omega); unfold I64; omega
  have j1 : I64 86400000000000 := by unfold I64; omega
  have j2 : I64 3600000000000 := by unfold I64; omega
  have j3 : I64 60000000000 := by unfold I64; omega
  have j4 : I64 1000000000 := by unfold I64; omega
  have j5 : I64 1 := by unfold I64; omega
  have j0 : I64 0 := by unfold I64; omega
  have r := uright_y 0 0 0 0 (x.tdiv 3600000000000) ((x.tmod 3600000000000).tdiv 60000000000) ((x.tmod 60000000000).tdiv 1000000000) (x.tmod 1000000000) ⟨j0, j0, j0, j0, g, g6, g7, g8⟩ k
  refine fn_of Tryz.func97 rfl fun ww => ?_
  refine st_fn ent63 (ulen5) sub0 (by kernel_rfl) ?_
  refine ufields_row 2 0 (by kernel_rfl) ?_
  refine st_round (by kernel_rfl) ?_
  refine st_fn ent63 (ulen5) sub0 (by kernel_rfl) ?_
  refine st_fn ent30 (wof_fn (3600000000000) (by assumption)) sub0 (by kernel_rfl) ?_
  refine st_fn ent139 (t0) sub0 (by kernel_rfl) ?_
  refine st_fn ent50 (wint_f (x.tdiv 3600000000000) (by assumption)) sub0 (by kernel_rfl) ?_
  refine st_i 21 .i64 (x' := 5 + 1) (Go.IntWalk.i64_in _ (by omega)) (by kernel_rfl) ?_
  refine st_round (by kernel_rfl) ?_
  refine st_fn ent63 (ulen6) sub0 (by kernel_rfl) ?_
  refine st_fn ent30 (wof_fn (60000000000) (by assumption)) sub0 (by kernel_rfl) ?_
  refine st_fn ent139 (t1) sub0 (by kernel_rfl) ?_
  refine st_fn ent50 (wint_f ((x.tmod 3600000000000).tdiv 60000000000) (by assumption)) sub0 (by kernel_rfl) ?_
  refine st_i 21 .i64 (x' := 5 + 1 + 1) (Go.IntWalk.i64_in _ (by omega)) (by kernel_rfl) ?_
  refine st_round (by kernel_rfl) ?_
  refine st_fn ent63 (ulen7) sub0 (by kernel_rfl) ?_
  refine st_fn ent30 (wof_fn (1000000000) (by assumption)) sub0 (by kernel_rfl) ?_
  refine st_fn ent139 (t2) sub0 (by kernel_rfl) ?_
  refine st_fn ent50 (wint_f ((x.tmod 60000000000).tdiv 1000000000) (by assumption)) sub0 (by kernel_rfl) ?_
  refine st_i 21 .i64 (x' := 5 + 1 + 1 + 1) (Go.IntWalk.i64_in _ (by omega)) (by kernel_rfl) ?_
  refine st_round (by kernel_rfl) ?_
  refine st_fn ent63 (ulen8) sub0 (by kernel_rfl) ?_
  refine st_fn ent30 (wof_fn (1) (by assumption)) sub0 (by kernel_rfl) ?_
  refine st_fn ent139 (t3) sub0 (by kernel_rfl) ?_
  refine st_fn ent50 (wint_f (x.tmod 1000000000) (by assumption)) sub0 (by kernel_rfl) ?_
  refine st_i 21 .i64 (x' := 5 + 1 + 1 + 1 + 1) (Go.IntWalk.i64_in _ (by omega)) (by kernel_rfl) ?_
  refine st_round (by kernel_rfl) ?_
  refine st_fn ent25 (r) sub0 (by kernel_rfl) ?_
  exact st_ret Tryz.func97 (by kernel_rfl)
theorem ulay6_y (x : Int) (hx : W128 x) (g : I64 (x.tdiv 60000000000)) (k : uOk 0 0 0 0 0 (x.tdiv 60000000000) ((x.tmod 60000000000).tdiv 1000000000) (x.tmod 1000000000)) : Fn 97 [] [wv x, .int .i64 6] (.tuple #[duv 0 0 0 0 0 (x.tdiv 60000000000) ((x.tmod 60000000000).tdiv 1000000000) (x.tmod 1000000000), .int .i64 0]) := by
  obtain ⟨t0, m0⟩ := ttop x 60000000000 hx (by omega) (by omega)
  have t1 := tch x 60000000000 1000000000 hx (by omega) (by omega) (by decide) (by omega) (by omega)
  have t2 := tch x 1000000000 1 hx (by omega) (by omega) (by decide) (by omega) (by omega)
  rw [tdiv_1, tmod_1] at t2
  have g7 : I64 ((x.tmod 60000000000).tdiv 1000000000) := by have := td2 x 60000000000 1000000000 60 (by decide) (by omega) (by omega); unfold I64; omega
  have g8 : I64 (x.tmod 1000000000) := by
    obtain ⟨e1, e2, e3⟩ := td x 1000000000 (by omega)
    by_cases z : 0 ≤ x
    · have := e2 z; unfold I64; omega
    · have := e3 (by omega); unfold I64; omega
  have j1 : I64 86400000000000 := by unfold I64; omega
  have j2 : I64 3600000000000 := by unfold I64; omega
  have j3 : I64 60000000000 := by unfold I64; omega
  have j4 : I64 1000000000 := by unfold I64; omega
  have j5 : I64 1 := by unfold I64; omega
  have j0 : I64 0 := by unfold I64; omega
  have r := uright_y 0 0 0 0 0 (x.tdiv 60000000000) ((x.tmod 60000000000).tdiv 1000000000) (x.tmod 1000000000) ⟨j0, j0, j0, j0, j0, g, g7, g8⟩ k
  refine fn_of Tryz.func97 rfl fun ww => ?_
  refine st_fn ent63 (ulen6) sub0 (by kernel_rfl) ?_
  refine ufields_row 2 0 (by kernel_rfl) ?_
  refine st_round (by kernel_rfl) ?_
  refine st_fn ent63 (ulen6) sub0 (by kernel_rfl) ?_
  refine st_fn ent30 (wof_fn (60000000000) (by assumption)) sub0 (by kernel_rfl) ?_
  refine st_fn ent139 (t0) sub0 (by kernel_rfl) ?_
  refine st_fn ent50 (wint_f (x.tdiv 60000000000) (by assumption)) sub0 (by kernel_rfl) ?_
  refine st_i 21 .i64 (x' := 6 + 1) (Go.IntWalk.i64_in _ (by omega)) (by kernel_rfl) ?_
  refine st_round (by kernel_rfl) ?_
  refine st_fn ent63 (ulen7) sub0 (by kernel_rfl) ?_
  refine st_fn ent30 (wof_fn (1000000000) (by assumption)) sub0 (by kernel_rfl) ?_
  refine st_fn ent139 (t1) sub0 (by kernel_rfl) ?_
  refine st_fn ent50 (wint_f ((x.tmod 60000000000).tdiv 1000000000) (by assumption)) sub0 (by kernel_rfl) ?_
  refine st_i 21 .i64 (x' := 6 + 1 + 1) (Go.IntWalk.i64_in _ (by omega)) (by kernel_rfl) ?_
  refine st_round (by kernel_rfl) ?_
  refine st_fn ent63 (ulen8) sub0 (by kernel_rfl) ?_
  refine st_fn ent30 (wof_fn (1) (by assumption)) sub0 (by kernel_rfl) ?_
  refine st_fn ent139 (t2) sub0 (by kernel_rfl) ?_
  refine st_fn ent50 (wint_f (x.tmod 1000000000) (by assumption)) sub0 (by kernel_rfl) ?_
  refine st_i 21 .i64 (x' := 6 + 1 + 1 + 1) (Go.IntWalk.i64_in _ (by omega)) (by kernel_rfl) ?_
  refine st_round (by kernel_rfl) ?_
  refine st_fn ent25 (r) sub0 (by kernel_rfl) ?_
  exact st_ret Tryz.func97 (by kernel_rfl)
theorem ulay7_y (x : Int) (hx : W128 x) (g : I64 (x.tdiv 1000000000)) (k : uOk 0 0 0 0 0 0 (x.tdiv 1000000000) (x.tmod 1000000000)) : Fn 97 [] [wv x, .int .i64 7] (.tuple #[duv 0 0 0 0 0 0 (x.tdiv 1000000000) (x.tmod 1000000000), .int .i64 0]) := by
  obtain ⟨t0, m0⟩ := ttop x 1000000000 hx (by omega) (by omega)
  have t1 := tch x 1000000000 1 hx (by omega) (by omega) (by decide) (by omega) (by omega)
  rw [tdiv_1, tmod_1] at t1
  have g8 : I64 (x.tmod 1000000000) := by
    obtain ⟨e1, e2, e3⟩ := td x 1000000000 (by omega)
    by_cases z : 0 ≤ x
    · have := e2 z; unfold I64; omega
    · have := e3 (by omega); unfold I64; omega
  have j1 : I64 86400000000000 := by unfold I64; omega
  have j2 : I64 3600000000000 := by unfold I64; omega
  have j3 : I64 60000000000 := by unfold I64; omega
  have j4 : I64 1000000000 := by unfold I64; omega
  have j5 : I64 1 := by unfold I64; omega
  have j0 : I64 0 := by unfold I64; omega
  have r := uright_y 0 0 0 0 0 0 (x.tdiv 1000000000) (x.tmod 1000000000) ⟨j0, j0, j0, j0, j0, j0, g, g8⟩ k
  refine fn_of Tryz.func97 rfl fun ww => ?_
  refine st_fn ent63 (ulen7) sub0 (by kernel_rfl) ?_
  refine ufields_row 2 0 (by kernel_rfl) ?_
  refine st_round (by kernel_rfl) ?_
  refine st_fn ent63 (ulen7) sub0 (by kernel_rfl) ?_
  refine st_fn ent30 (wof_fn (1000000000) (by assumption)) sub0 (by kernel_rfl) ?_
  refine st_fn ent139 (t0) sub0 (by kernel_rfl) ?_
  refine st_fn ent50 (wint_f (x.tdiv 1000000000) (by assumption)) sub0 (by kernel_rfl) ?_
  refine st_i 21 .i64 (x' := 7 + 1) (Go.IntWalk.i64_in _ (by omega)) (by kernel_rfl) ?_
  refine st_round (by kernel_rfl) ?_
  refine st_fn ent63 (ulen8) sub0 (by kernel_rfl) ?_
  refine st_fn ent30 (wof_fn (1) (by assumption)) sub0 (by kernel_rfl) ?_
  refine st_fn ent139 (t1) sub0 (by kernel_rfl) ?_
  refine st_fn ent50 (wint_f (x.tmod 1000000000) (by assumption)) sub0 (by kernel_rfl) ?_
  refine st_i 21 .i64 (x' := 7 + 1 + 1) (Go.IntWalk.i64_in _ (by omega)) (by kernel_rfl) ?_
  refine st_round (by kernel_rfl) ?_
  refine st_fn ent25 (r) sub0 (by kernel_rfl) ?_
  exact st_ret Tryz.func97 (by kernel_rfl)
theorem ulay8_y (x : Int) (hx : W128 x) (g : I64 x) (k : uOk 0 0 0 0 0 0 0 x) : Fn 97 [] [wv x, .int .i64 8] (.tuple #[duv 0 0 0 0 0 0 0 x, .int .i64 0]) := by
  obtain ⟨t0, m0⟩ := ttop x 1 hx (by omega) (by omega)
  rw [tdiv_1, tmod_1] at t0
  have j1 : I64 86400000000000 := by unfold I64; omega
  have j2 : I64 3600000000000 := by unfold I64; omega
  have j3 : I64 60000000000 := by unfold I64; omega
  have j4 : I64 1000000000 := by unfold I64; omega
  have j5 : I64 1 := by unfold I64; omega
  have j0 : I64 0 := by unfold I64; omega
  have r := uright_y 0 0 0 0 0 0 0 x ⟨j0, j0, j0, j0, j0, j0, j0, g⟩ k
  refine fn_of Tryz.func97 rfl fun ww => ?_
  refine st_fn ent63 (ulen8) sub0 (by kernel_rfl) ?_
  refine ufields_row 2 0 (by kernel_rfl) ?_
  refine st_round (by kernel_rfl) ?_
  refine st_fn ent63 (ulen8) sub0 (by kernel_rfl) ?_
  refine st_fn ent30 (wof_fn (1) (by assumption)) sub0 (by kernel_rfl) ?_
  refine st_fn ent139 (t0) sub0 (by kernel_rfl) ?_
  refine st_fn ent50 (wint_f (x) (by assumption)) sub0 (by kernel_rfl) ?_
  refine st_i 21 .i64 (x' := 8 + 1) (Go.IntWalk.i64_in _ (by omega)) (by kernel_rfl) ?_
  refine st_round (by kernel_rfl) ?_
  refine st_fn ent25 (r) sub0 (by kernel_rfl) ?_
  exact st_ret Tryz.func97 (by kernel_rfl)
end Go.Proofs.YthoedmikfpbfnaaGreat
end
section
/-
  The law RoundMirrors, walked.
-/
set_option linter.unusedVariables false
set_option maxRecDepth 100000
namespace Go.Proofs.YthoedmikfpbfnaaGreat
open Go Go.RowKit Go.Ev

theorem min_yes : (hi (-170141183460469231731687303715884105728) == -9223372036854775808 && (lo (-170141183460469231731687303715884105728) == 0 && true)) = true := by decide
theorem min_no {y : Int} (h : y ≠ -170141183460469231731687303715884105728) : (hi y == -9223372036854775808 && (lo y == 0 && true)) = false := by
  have e := hi_lo y
  cases k : (hi y == -9223372036854775808 && (lo y == 0 && true)) with
  | false => rfl
  | true =>
    simp only [Bool.and_true, Bool.and_eq_true, beq_iff_eq] at k
    omega
end Go.Proofs.YthoedmikfpbfnaaGreat
end
section
/-
  The law RoundRises, walked.
-/
set_option linter.unusedVariables false
set_option maxRecDepth 100000
namespace Go.Proofs.YthoedmikfpbfnaaGreat
open Go Go.RowKit Go.Ev

theorem cmpI_3 (a b : Int) : cmpI a b = -1 ∨ cmpI a b = 0 ∨ cmpI a b = 1 := by unfold cmpI; split <;> (try split) <;> simp
end Go.Proofs.YthoedmikfpbfnaaGreat
end
section
/-
  Ratio, by the program and by the reference.
-/
set_option linter.unusedVariables false
set_option maxRecDepth 100000
namespace Go.Proofs.YthoedmikfpbfnaaGreat
open Go Go.RowKit Go.Ev

/-- The fraction's numbers with the one below above 0. -/
def nN (n d : Int) : Int := if d < 0 then -n else n
def nD (d : Int) : Int := if d < 0 then -d else d
theorem rat_ext (n d mode : Int) (v : Value) (a b c : Int) (h1 : 1 ≤ mode) (h2 : mode ≤ 9) (hf : Fn 41 [] [wv n, wv d] (.tuple #[.agg #[.int .i64 0, .int .u64 0], .agg #[.int .i64 0, .int .u64 0], .int .i64 2]))
    (he : Fn 106 [] [wv n, wv d, .int .i64 mode] (.tuple #[.agg #[.int .i64 a, .int .u64 b], .int .i64 c])) : Fn 49 [] [wv n, wv d, .int .i64 mode] (.tuple #[.agg #[.int .i64 a, .int .u64 b], .int .i64 c]) := by
  refine fn_of Tryz.func49 rfl fun ww => ?_
  refine st_b 17 (show (decide (mode < 1)) = false by exact decide_eq_false (by omega)) (by kernel_rfl) ?_
  refine st_b 20 (show (decide (mode > 9)) = false by exact decide_eq_false (by omega)) (by kernel_rfl) ?_
  refine st_fn ent41 (hf) sub0 (by kernel_rfl) ?_
  refine st_fn ent106 (he) sub0 (by kernel_rfl) ?_
  exact st_ret Tryz.func49 (by kernel_rfl)
theorem rat_ok (n d mode p q : Int) (h1 : 1 ≤ mode) (h2 : mode ≤ 9) (hf : Fn 41 [] [wv n, wv d] (.tuple #[wv p, wv q, .int .i64 0])) (hp : W128 p) (hq : W128 q) (h0 : 0 < q) :
    Fn 49 [] [wv n, wv d, .int .i64 mode] (rtv (nearQ p q mode)) := by
  obtain ⟨hd, r0, r1, e⟩ := fl_bd hp h0
  have hne : q ≠ 0 := by omega
  have hr : W128 (p.fmod q) := by unfold W128 at *; omega
  have hl : W128 (q - p.fmod q) := by unfold W128 at *; omega
  by_cases hz : p.fmod q = 0
  · have hy : nearQ p q mode = p.fdiv q := by unfold nearQ; rw [if_pos hz]
    have hb := wz_yes hz
    rw [hy, rtv_yes hd]
    refine fn_of Tryz.func49 rfl fun ww => ?_
    refine st_b 17 (show (decide (mode < 1)) = false by exact decide_eq_false (by omega)) (by kernel_rfl) ?_
    refine st_b 20 (show (decide (mode > 9)) = false by exact decide_eq_false (by omega)) (by kernel_rfl) ?_
    refine st_fn ent41 (hf) sub0 (by kernel_rfl) ?_
    refine st_fn ent107 (dfloor_yes (p) (q) (by assumption) (by assumption) (by assumption) (by assumption)) sub0 (by kernel_rfl) ?_
    refine st_b 53 (show (hi (p.fmod q) == 0 && (lo (p.fmod q) == 0 && true)) = true by assumption) (by kernel_rfl) ?_
    exact st_ret Tryz.func49 (by kernel_rfl)
  · have hb := wz_no hz
    by_cases hu : upQ p q mode = true
    · have hu' : upB mode (decide (p < 0)) (cmpI (p.fmod q) (q - p.fmod q)) (decide (p.fdiv q % 2 = 0)) = true := hu
      have hy : nearQ p q mode = p.fdiv q + 1 := by unfold nearQ; rw [if_neg hz, if_pos hu]
      rw [hy]
      refine fn_of Tryz.func49 rfl fun ww => ?_
      refine st_b 17 (show (decide (mode < 1)) = false by exact decide_eq_false (by omega)) (by kernel_rfl) ?_
      refine st_b 20 (show (decide (mode > 9)) = false by exact decide_eq_false (by omega)) (by kernel_rfl) ?_
      refine st_fn ent41 (hf) sub0 (by kernel_rfl) ?_
      refine st_fn ent107 (dfloor_yes (p) (q) (by assumption) (by assumption) (by assumption) (by assumption)) sub0 (by kernel_rfl) ?_
      refine st_b 53 (show (hi (p.fmod q) == 0 && (lo (p.fmod q) == 0 && true)) = false by assumption) (by kernel_rfl) ?_
      refine st_b 62 (dec_hi p) (by kernel_rfl) ?_
      refine st_fn ent109 (between_fn (p.fdiv q) (p.fmod q) (q) (decide (p < 0)) (by assumption) (by assumption) (by assumption)) sub0 (by kernel_rfl) ?_
      refine st_fn ent108 (up_t (mode) (decide (p < 0)) (cmpI (p.fmod q) (q - p.fmod q)) (decide (p.fdiv q % 2 = 0)) (by assumption) (by assumption) (by assumption)) sub0 (by kernel_rfl) ?_
      refine st_fn ent30 (wof_fn (1) (by (unfold I64; omega))) sub0 (by kernel_rfl) ?_
      refine st_fn ent44 (wadd_any (p.fdiv q) (1) (by assumption) (by (unfold W128; omega))) sub0 (by kernel_rfl) ?_
      exact st_ret Tryz.func49 (by kernel_rfl)
    · have hu' : upB mode (decide (p < 0)) (cmpI (p.fmod q) (q - p.fmod q)) (decide (p.fdiv q % 2 = 0)) = false := (Bool.not_eq_true _).mp hu
      have hy : nearQ p q mode = p.fdiv q := by unfold nearQ; rw [if_neg hz, if_neg hu]
      rw [hy, rtv_yes hd]
      refine fn_of Tryz.func49 rfl fun ww => ?_
      refine st_b 17 (show (decide (mode < 1)) = false by exact decide_eq_false (by omega)) (by kernel_rfl) ?_
      refine st_b 20 (show (decide (mode > 9)) = false by exact decide_eq_false (by omega)) (by kernel_rfl) ?_
      refine st_fn ent41 (hf) sub0 (by kernel_rfl) ?_
      refine st_fn ent107 (dfloor_yes (p) (q) (by assumption) (by assumption) (by assumption) (by assumption)) sub0 (by kernel_rfl) ?_
      refine st_b 53 (show (hi (p.fmod q) == 0 && (lo (p.fmod q) == 0 && true)) = false by assumption) (by kernel_rfl) ?_
      refine st_b 62 (dec_hi p) (by kernel_rfl) ?_
      refine st_fn ent109 (between_fn (p.fdiv q) (p.fmod q) (q) (decide (p < 0)) (by assumption) (by assumption) (by assumption)) sub0 (by kernel_rfl) ?_
      refine st_fn ent108 (up_f (mode) (decide (p < 0)) (cmpI (p.fmod q) (q - p.fmod q)) (decide (p.fdiv q % 2 = 0)) (by assumption) (by assumption) (by assumption)) sub0 (by kernel_rfl) ?_
      exact st_ret Tryz.func49 (by kernel_rfl)
end Go.Proofs.YthoedmikfpbfnaaGreat
end
section
/-
  Durations: a total laid out; the other sign; sums; increments; rounding.
-/
set_option linter.unusedVariables false
set_option linter.unusedSimpArgs false
set_option maxRecDepth 100000
namespace Go.Proofs.YthoedmikfpbfnaaGreat
open Go Go.RowKit Go.Ev

section
variable (u x : Int)
abbrev lav (u x : Int) : Value := .tuple #[duv 0 0 0 (l4 u x) (l5 u x) (l6 u x) (l7 u x) (l8 u x), .int .i64 0]
theorem ulay_y (hx : W128 x) (k : layOk u x) : Fn 97 [] [wv x, .int .i64 u] (lav u x) := by
  have r := lay_ok k
  obtain ⟨⟨k1, k2⟩, k3, k4⟩ := k
  have r := r.1
  rcases units k1 k2 with rfl | rfl | rfl | rfl | rfl <;> simp only [l4, l5, l6, l7, l8, ulen, lav, Int.reduceEq, Int.reduceLE, if_true, if_false, tdiv_1] at r k4 ⊢
  · exact ulay4_y x hx k4 r
  · exact ulay5_y x hx k4 r
  · exact ulay6_y x hx k4 r
  · exact ulay7_y x hx k4 r
  · exact ulay8_y x hx k4 r
variable (p : ZQ)
end
end Go.Proofs.YthoedmikfpbfnaaGreat
end
section
/-
  Durations: increments, sums, rounding; the laws DurationUnits, DurationLays, DurationTotals.
-/
set_option linter.unusedVariables false
set_option linter.unusedSimpArgs false
set_option maxRecDepth 100000
namespace Go.Proofs.YthoedmikfpbfnaaGreat
open Go Go.RowKit Go.Ev

section
variable (u i : Int)
theorem i64_0 : I64 0 := by unfold I64; omega
theorem I64.w' {x : Int} (h : I64 x) : W128 x := h.w
end
end Go.Proofs.YthoedmikfpbfnaaGreat
end
section
/-
  Durations put to days and to date-times: what the program answers of layer 19.
-/
set_option linter.unusedVariables false
set_option linter.unusedSimpArgs false
set_option maxRecDepth 100000
namespace Go.Proofs.YthoedmikfpbfnaaGreat
open Go Go.RowKit Go.Ev

abbrev dv0 : Value := dv 0 0 0
section
variable (y m d n T : Int)
theorem creg_cy (m1 : 1 ≤ m) (m2 : m ≤ 12) (d1 : 1 ≤ d) (k : dOk y m (cD y m d)) : Fn 125 [] [.int .i64 y, .int .i64 m, .int .i64 d, .int .i64 1] (.tuple #[dv y m (cD y m d), .int .i64 0]) := by
  have c1 := cmonth y m
  obtain ⟨l, hl⟩ : ∃ l, l = mlen y m := ⟨_, rfl⟩
  have hc : cD y m d = if l < d then l else d := by rw [hl]; rfl
  rw [hc] at k ⊢
  rw [← hl] at c1
  by_cases q : l < d
  · rw [if_pos q] at k ⊢
    refine fn_of Tryz.func125 rfl fun ww => ?_
    refine st_i 16 IntKind.i64 (x := if 1 > m then 1 else m) (if_neg (by omega)) (by kernel_rfl) ?_
    refine st_i 17 IntKind.i64 (x := if 12 < m then 12 else m) (if_neg (by omega)) (by kernel_rfl) ?_
    refine st_i 19 IntKind.i64 (x := if 1 > d then 1 else d) (if_neg (by omega)) (by kernel_rfl) ?_
    refine st_fn ent145 (c1) sub0 (by kernel_rfl) ?_
    refine st_i 23 IntKind.i64 (x := if l < d then l else d) (if_pos q) (by kernel_rfl) ?_
    refine st_fn ent161 (cright5_yes (y) (m) (l) (by assumption)) sub0 (by kernel_rfl) ?_
    exact st_ret Tryz.func125 (by kernel_rfl)
  · rw [if_neg q] at k ⊢
    refine fn_of Tryz.func125 rfl fun ww => ?_
    refine st_i 16 IntKind.i64 (x := if 1 > m then 1 else m) (if_neg (by omega)) (by kernel_rfl) ?_
    refine st_i 17 IntKind.i64 (x := if 12 < m then 12 else m) (if_neg (by omega)) (by kernel_rfl) ?_
    refine st_i 19 IntKind.i64 (x := if 1 > d then 1 else d) (if_neg (by omega)) (by kernel_rfl) ?_
    refine st_fn ent145 (c1) sub0 (by kernel_rfl) ?_
    refine st_i 23 IntKind.i64 (x := if l < d then l else d) (if_neg q) (by kernel_rfl) ?_
    refine st_fn ent161 (cright5_yes (y) (m) (d) (by assumption)) sub0 (by kernel_rfl) ?_
    exact st_ret Tryz.func125 (by kernel_rfl)
theorem creg_cn (m1 : 1 ≤ m) (m2 : m ≤ 12) (d1 : 1 ≤ d) (k : ¬ dOk y m (cD y m d)) : Fn 125 [] [.int .i64 y, .int .i64 m, .int .i64 d, .int .i64 1] (.tuple #[dv0, .int .i64 4]) := by
  have c1 := cmonth y m
  obtain ⟨l, hl⟩ : ∃ l, l = mlen y m := ⟨_, rfl⟩
  have hc : cD y m d = if l < d then l else d := by rw [hl]; rfl
  rw [hc] at k
  rw [← hl] at c1
  by_cases q : l < d
  · rw [if_pos q] at k
    refine fn_of Tryz.func125 rfl fun ww => ?_
    refine st_i 16 IntKind.i64 (x := if 1 > m then 1 else m) (if_neg (by omega)) (by kernel_rfl) ?_
    refine st_i 17 IntKind.i64 (x := if 12 < m then 12 else m) (if_neg (by omega)) (by kernel_rfl) ?_
    refine st_i 19 IntKind.i64 (x := if 1 > d then 1 else d) (if_neg (by omega)) (by kernel_rfl) ?_
    refine st_fn ent145 (c1) sub0 (by kernel_rfl) ?_
    refine st_i 23 IntKind.i64 (x := if l < d then l else d) (if_pos q) (by kernel_rfl) ?_
    refine st_fn ent161 (cright5_no (y) (m) (l) (by assumption)) sub0 (by kernel_rfl) ?_
    exact st_ret Tryz.func125 (by kernel_rfl)
  · rw [if_neg q] at k
    refine fn_of Tryz.func125 rfl fun ww => ?_
    refine st_i 16 IntKind.i64 (x := if 1 > m then 1 else m) (if_neg (by omega)) (by kernel_rfl) ?_
    refine st_i 17 IntKind.i64 (x := if 12 < m then 12 else m) (if_neg (by omega)) (by kernel_rfl) ?_
    refine st_i 19 IntKind.i64 (x := if 1 > d then 1 else d) (if_neg (by omega)) (by kernel_rfl) ?_
    refine st_fn ent145 (c1) sub0 (by kernel_rfl) ?_
    refine st_i 23 IntKind.i64 (x := if l < d then l else d) (if_neg q) (by kernel_rfl) ?_
    refine st_fn ent161 (cright5_no (y) (m) (d) (by assumption)) sub0 (by kernel_rfl) ?_
    exact st_ret Tryz.func125 (by kernel_rfl)
variable (o k A B C e : Int)
theorem cknown_y (h : o = 1 ∨ o = 2) : Fn 69 [] [.int .i64 o] (.bool true) := by
  rcases h with rfl | rfl
  · refine fn_of Tryz.func69 rfl fun ww => ?_
    exact st_ret Tryz.func69 (by kernel_rfl)
  · refine fn_of Tryz.func69 rfl fun ww => ?_
    exact st_ret Tryz.func69 (by kernel_rfl)
theorem cmov_e (hl : Fn 124 [] [dv y m d, .int .i64 k] (dv (lY T) (lM T) d)) (hr : Fn 125 [] [.int .i64 (lY T), .int .i64 (lM T), .int .i64 d, .int .i64 o] (.tuple #[dv0, .int .i64 e])) (he : e ≠ 0) :
    Fn 72 [] [dv y m d, .int .i64 k, .int .i64 n, .int .i64 o] (.tuple #[dv0, .int .i64 e]) := by
  refine fn_of Tryz.func72 rfl fun ww => ?_
  refine st_fn ent124 (hl) sub0 (by kernel_rfl) ?_
  refine st_fn ent125 (hr) sub0 (by kernel_rfl) ?_
  refine st_b 27 (show (e != 0) = true by exact bne_iff_ne.2 (by omega)) (by kernel_rfl) ?_
  exact st_ret Tryz.func72 (by kernel_rfl)
theorem cmov_v (Y M D : Int) (hl : Fn 124 [] [dv y m d, .int .i64 k] (dv (lY T) (lM T) d)) (hr : Fn 125 [] [.int .i64 (lY T), .int .i64 (lM T), .int .i64 d, .int .i64 o] (.tuple #[dv Y M D, .int .i64 0])) (ha : Fn 99 [] [dv Y M D, .int .i64 n] (.tuple #[dv A B C, .int .i64 e])) :
    Fn 72 [] [dv y m d, .int .i64 k, .int .i64 n, .int .i64 o] (.tuple #[dv A B C, .int .i64 e]) := by
  refine fn_of Tryz.func72 rfl fun ww => ?_
  refine st_fn ent124 (hl) sub0 (by kernel_rfl) ?_
  refine st_fn ent125 (hr) sub0 (by kernel_rfl) ?_
  refine st_fn ent99 (ha) sub0 (by kernel_rfl) ?_
  exact st_ret Tryz.func72 (by kernel_rfl)
end
theorem uOk_bd {a b c d h mi s n : Int} (k : uOk a b c d h mi s n) : (-4294967295 ≤ a ∧ a ≤ 4294967295) ∧ (-4294967295 ≤ b ∧ b ≤ 4294967295) ∧ (-4294967295 ≤ c ∧ c ≤ 4294967295) ∧ (-104249991400 ≤ d ∧ d ≤ 104249991400) ∧ (-9007199254740992000000000 < dtot 0 h mi s n ∧ dtot 0 h mi s n < 9007199254740992000000000) := by
  unfold uOk pos8 neg8 cnt1 dtot LIM at k; unfold dtot; omega
theorem uOk_part {a b c d h mi s n : Int} (k : uOk a b c d h mi s n) : uOk 0 0 0 0 h mi s n := by
  unfold uOk pos8 neg8 cnt1 dtot LIM at *; omega
theorem all64_part {a b c d h mi s n : Int} (i : all64 a b c d h mi s n) : all64 0 0 0 0 h mi s n := ⟨i64_0, i64_0, i64_0, i64_0, i.2.2.2.2.1, i.2.2.2.2.2.1, i.2.2.2.2.2.2.1, i.2.2.2.2.2.2.2⟩
section
variable (a b c d h mi s n : Int)
theorem cpart (i : all64 a b c d h mi s n) (k : uOk a b c d h mi s n) : Fn 71 [] [duv a b c d h mi s n] (wv (dtot 0 h mi s n)) := by
  have t := utotal_y 0 0 0 0 h mi s n (all64_part i) (uOk_part k)
  clear i k
  refine fn_of Tryz.func71 rfl fun ww => ?_
  refine st_fn ent123 (t) sub0 (by kernel_rfl) ?_
  exact st_ret Tryz.func71 (by kernel_rfl)
variable (Y M D o A B C e : Int)
end
/-! date-times -/
theorem fcadd (h m s n w Q R : Int) (k : tOk h m s n) (hb : -9007199254740992000000000 < w ∧ w < 9007199254740992000000000) (hQ : (tnan h m s n + w).fdiv 86400000000000 = Q) (hR : (tnan h m s n + w).fmod 86400000000000 = R) :
    Fn 70 [] [tv h m s n, wv w] (.tuple #[tv (tH R) (tM R) (tS R) (tN R), .int .i64 Q, .int .i64 0]) := by
  have hw : W128 w := by unfold W128; omega
  have b := tnan_bd k
  have db := dby_f w 86400000000000 hw (by omega) (by unfold I64; omega)
  have e1 : w.fdiv 86400000000000 * 86400000000000 + w.fmod 86400000000000 = w ∧ 0 ≤ w.fmod 86400000000000 ∧ w.fmod 86400000000000 < 86400000000000 := x_split w
  have e2 : Q * 86400000000000 + R = tnan h m s n + w ∧ 0 ≤ R ∧ R < 86400000000000 := by rw [← hQ, ← hR]; exact x_split _
  generalize w.fdiv 86400000000000 = q at *
  generalize w.fmod 86400000000000 = r at *
  have nn := fcnanos_yes h m s n k
  generalize tnan h m s n = t at *
  clear hQ hR k
  obtain ⟨e1, e3, e4⟩ := e1
  obtain ⟨e2, e5, e6⟩ := e2
  by_cases c : t + r < 86400000000000
  · obtain rfl : Q = q := by omega
    obtain rfl : R = t + r := by omega
    have iq : I64 Q := by unfold I64; omega
    refine fn_of Tryz.func70 rfl fun ww => ?_
    refine st_fn ent98 (nn) sub0 (by kernel_rfl) ?_
    refine st_fn ent118 (db) sub0 (by kernel_rfl) ?_
    refine st_i 31 .i64 (x' := t + r) (Go.IntWalk.i64_in _ (by omega)) (by kernel_rfl) ?_
    refine st_b 33 (show (decide (t + r ≥ 86400000000000)) = false by exact decide_eq_false (by omega)) (by kernel_rfl) ?_
    refine st_fn ent50 (wint_f (Q) (by assumption)) sub0 (by kernel_rfl) ?_
    refine st_fn ent120 (fcof_yes (t + r) (by assumption) (by assumption)) sub0 (by kernel_rfl) ?_
    exact st_ret Tryz.func70 (by kernel_rfl)
  · obtain rfl : Q = q + 1 := by omega
    obtain rfl : R = t + r - 86400000000000 := by omega
    have iq : I64 (q + 1) := by unfold I64; omega
    have w1 : W128 q := by unfold W128; omega
    have w2 : W128 (q + 1) := iq.w
    have i1 : I64 1 := by unfold I64; omega
    refine fn_of Tryz.func70 rfl fun ww => ?_
    refine st_fn ent98 (nn) sub0 (by kernel_rfl) ?_
    refine st_fn ent118 (db) sub0 (by kernel_rfl) ?_
    refine st_i 31 .i64 (x' := t + r) (Go.IntWalk.i64_in _ (by omega)) (by kernel_rfl) ?_
    refine st_b 33 (show (decide (t + r ≥ 86400000000000)) = true by exact decide_eq_true (by omega)) (by kernel_rfl) ?_
    refine st_i 35 .i64 (x' := t + r - 86400000000000) (Go.IntWalk.i64_in _ (by omega)) (by kernel_rfl) ?_
    refine st_fn ent30 (wof_fn (1) (by assumption)) sub0 (by kernel_rfl) ?_
    refine st_fn ent44 (wadd_yes (q) (1) (by assumption) (by (unfold W128; omega)) (by assumption)) sub0 (by kernel_rfl) ?_
    refine st_fn ent50 (wint_f (q + 1) (by assumption)) sub0 (by kernel_rfl) ?_
    refine st_fn ent120 (fcof_yes (t + r - 86400000000000) (by assumption) (by assumption)) sub0 (by kernel_rfl) ?_
    exact st_ret Tryz.func70 (by kernel_rfl)
section
variable (y mo D h m s n a b c d hh mi ss nn o A B C e : Int)
variable (Q R : Int)
theorem cad_e (i : all64 a b c d hh mi ss nn) (k1 : pOk y mo D h m s n) (k2 : uOk a b c d hh mi ss nn) (k3 : o = 1 ∨ o = 2) (hQ : (tnan h m s n + dtot 0 hh mi ss nn).fdiv 86400000000000 = Q) (hR : (tnan h m s n + dtot 0 hh mi ss nn).fmod 86400000000000 = R) (qb : -200000000000 ≤ Q ∧ Q ≤ 200000000000)
    (hm : Fn 72 [] [dv y mo D, .int .i64 (12 * a + b), .int .i64 (d + 7 * c + Q), .int .i64 o] (.tuple #[dv0, .int .i64 e])) (he : e ≠ 0) : Fn 26 [] [ptv y mo D h m s n, duv a b c d hh mi ss nn, .int .i64 o] (.tuple #[pt0, .int .i64 e]) := by
  have r1 := pright_yes y mo D h m s n k1
  have r2 := uright_y a b c d hh mi ss nn i k2
  have r3 := cknown_y o k3
  have r4 := cpart a b c d hh mi ss nn i k2
  obtain ⟨b1, b2, b3, b4, b5⟩ := uOk_bd k2
  have r5 := fcadd h m s n _ Q R k1.2.1 b5 hQ hR
  clear i k1 k2 k3 hQ hR b5
  refine fn_of Tryz.func26 rfl fun ww => ?_
  refine st_fn ent18 (r1) sub0 (by kernel_rfl) ?_
  refine st_fn ent25 (r2) sub0 (by kernel_rfl) ?_
  refine st_fn ent69 (r3) sub0 (by kernel_rfl) ?_
  refine st_fn ent71 (r4) sub0 (by kernel_rfl) ?_
  refine st_fn ent70 (r5) sub0 (by kernel_rfl) ?_
  refine st_i 45 .i64 (x' := 12 * a) (Go.IntWalk.i64_in _ (by omega)) (by kernel_rfl) ?_
  refine st_i 48 .i64 (x' := 12 * a + b) (Go.IntWalk.i64_in _ (by omega)) (by kernel_rfl) ?_
  refine st_i 53 .i64 (x' := 7 * c) (Go.IntWalk.i64_in _ (by omega)) (by kernel_rfl) ?_
  refine st_i 54 .i64 (x' := d + 7 * c) (Go.IntWalk.i64_in _ (by omega)) (by kernel_rfl) ?_
  refine st_i 56 .i64 (x' := d + 7 * c + Q) (Go.IntWalk.i64_in _ (by omega)) (by kernel_rfl) ?_
  refine st_fn ent72 (hm) sub0 (by kernel_rfl) ?_
  refine st_b 66 (show (e != 0) = true by exact bne_iff_ne.2 (by omega)) (by kernel_rfl) ?_
  exact st_ret Tryz.func26 (by kernel_rfl)
theorem cad_n (i : all64 a b c d hh mi ss nn) (k1 : pOk y mo D h m s n) (k2 : uOk a b c d hh mi ss nn) (k3 : o = 1 ∨ o = 2) (hQ : (tnan h m s n + dtot 0 hh mi ss nn).fdiv 86400000000000 = Q) (hR : (tnan h m s n + dtot 0 hh mi ss nn).fmod 86400000000000 = R) (qb : -200000000000 ≤ Q ∧ Q ≤ 200000000000)
    (hm : Fn 72 [] [dv y mo D, .int .i64 (12 * a + b), .int .i64 (d + 7 * c + Q), .int .i64 o] (.tuple #[dv A B C, .int .i64 0])) (hp : ¬ pOk A B C (tH R) (tM R) (tS R) (tN R)) : Fn 26 [] [ptv y mo D h m s n, duv a b c d hh mi ss nn, .int .i64 o] (.tuple #[pt0, .int .i64 4]) := by
  have r1 := pright_yes y mo D h m s n k1
  have r2 := uright_y a b c d hh mi ss nn i k2
  have r3 := cknown_y o k3
  have r4 := cpart a b c d hh mi ss nn i k2
  obtain ⟨b1, b2, b3, b4, b5⟩ := uOk_bd k2
  have r5 := fcadd h m s n _ Q R k1.2.1 b5 hQ hR
  have r6 := pright_no _ _ _ _ _ _ _ hp
  clear i k1 k2 k3 hQ hR b5 hp
  refine fn_of Tryz.func26 rfl fun ww => ?_
  refine st_fn ent18 (r1) sub0 (by kernel_rfl) ?_
  refine st_fn ent25 (r2) sub0 (by kernel_rfl) ?_
  refine st_fn ent69 (r3) sub0 (by kernel_rfl) ?_
  refine st_fn ent71 (r4) sub0 (by kernel_rfl) ?_
  refine st_fn ent70 (r5) sub0 (by kernel_rfl) ?_
  refine st_i 45 .i64 (x' := 12 * a) (Go.IntWalk.i64_in _ (by omega)) (by kernel_rfl) ?_
  refine st_i 48 .i64 (x' := 12 * a + b) (Go.IntWalk.i64_in _ (by omega)) (by kernel_rfl) ?_
  refine st_i 53 .i64 (x' := 7 * c) (Go.IntWalk.i64_in _ (by omega)) (by kernel_rfl) ?_
  refine st_i 54 .i64 (x' := d + 7 * c) (Go.IntWalk.i64_in _ (by omega)) (by kernel_rfl) ?_
  refine st_i 56 .i64 (x' := d + 7 * c + Q) (Go.IntWalk.i64_in _ (by omega)) (by kernel_rfl) ?_
  refine st_fn ent72 (hm) sub0 (by kernel_rfl) ?_
  refine st_fn ent18 (r6) sub0 (by kernel_rfl) ?_
  exact st_ret Tryz.func26 (by kernel_rfl)
theorem cad_y (i : all64 a b c d hh mi ss nn) (k1 : pOk y mo D h m s n) (k2 : uOk a b c d hh mi ss nn) (k3 : o = 1 ∨ o = 2) (hQ : (tnan h m s n + dtot 0 hh mi ss nn).fdiv 86400000000000 = Q) (hR : (tnan h m s n + dtot 0 hh mi ss nn).fmod 86400000000000 = R) (qb : -200000000000 ≤ Q ∧ Q ≤ 200000000000)
    (hm : Fn 72 [] [dv y mo D, .int .i64 (12 * a + b), .int .i64 (d + 7 * c + Q), .int .i64 o] (.tuple #[dv A B C, .int .i64 0])) (hp : pOk A B C (tH R) (tM R) (tS R) (tN R)) : Fn 26 [] [ptv y mo D h m s n, duv a b c d hh mi ss nn, .int .i64 o] (.tuple #[ptv A B C (tH R) (tM R) (tS R) (tN R), .int .i64 0]) := by
  have r1 := pright_yes y mo D h m s n k1
  have r2 := uright_y a b c d hh mi ss nn i k2
  have r3 := cknown_y o k3
  have r4 := cpart a b c d hh mi ss nn i k2
  obtain ⟨b1, b2, b3, b4, b5⟩ := uOk_bd k2
  have r5 := fcadd h m s n _ Q R k1.2.1 b5 hQ hR
  have r6 := pright_yes _ _ _ _ _ _ _ hp
  clear i k1 k2 k3 hQ hR b5 hp
  refine fn_of Tryz.func26 rfl fun ww => ?_
  refine st_fn ent18 (r1) sub0 (by kernel_rfl) ?_
  refine st_fn ent25 (r2) sub0 (by kernel_rfl) ?_
  refine st_fn ent69 (r3) sub0 (by kernel_rfl) ?_
  refine st_fn ent71 (r4) sub0 (by kernel_rfl) ?_
  refine st_fn ent70 (r5) sub0 (by kernel_rfl) ?_
  refine st_i 45 .i64 (x' := 12 * a) (Go.IntWalk.i64_in _ (by omega)) (by kernel_rfl) ?_
  refine st_i 48 .i64 (x' := 12 * a + b) (Go.IntWalk.i64_in _ (by omega)) (by kernel_rfl) ?_
  refine st_i 53 .i64 (x' := 7 * c) (Go.IntWalk.i64_in _ (by omega)) (by kernel_rfl) ?_
  refine st_i 54 .i64 (x' := d + 7 * c) (Go.IntWalk.i64_in _ (by omega)) (by kernel_rfl) ?_
  refine st_i 56 .i64 (x' := d + 7 * c + Q) (Go.IntWalk.i64_in _ (by omega)) (by kernel_rfl) ?_
  refine st_fn ent72 (hm) sub0 (by kernel_rfl) ?_
  refine st_fn ent18 (r6) sub0 (by kernel_rfl) ?_
  exact st_ret Tryz.func26 (by kernel_rfl)
end
end Go.Proofs.YthoedmikfpbfnaaGreat
end
section
/-
  What lies between two days, by every unit; what every right program answers of layer 19; the law CalendarUntils.
-/
set_option linter.unusedVariables false
set_option linter.unusedSimpArgs false
set_option maxRecDepth 100000
namespace Go.Proofs.YthoedmikfpbfnaaGreat
open Go Go.RowKit Go.Ev

section
variable (L y m d y' m' d' : Int)
abbrev uvd : Value := .tuple #[duv (uY L y m d y' m' d') (uMo L y m d y' m' d') (uW L y m d y' m' d') (uD L y m d y' m' d') 0 0 0 0, .int .i64 0]
theorem duv_eq {a b c d a' b' c' d' : Int} (e1 : a = a') (e2 : b = b') (e3 : c = c') (e4 : d = d') : Value.tuple #[duv a b c d 0 0 0 0, .int .i64 0] = .tuple #[duv a' b' c' d' 0 0 0 0, .int .i64 0] := by rw [e1, e2, e3, e4]
theorem unt_all {f : FuncId} (h : dOk y m d) (h' : dOk y' m' d') (hL : 1 ≤ L) (hL' : L ≤ 4)
    (f0 : ∀ L : Int, (L = 1 ∨ L = 2) → cmp3 y' m' d' y m d = 0 → Fn f [] [dv y m d, dv y' m' d', .int .i64 L] (.tuple #[du0, .int .i64 0]))
    (f1 : ∀ s N T : Int, (s = 1 ∨ s = -1) → cmp3 y' m' d' y m d = s → mM s y m d y' m' d' = N → ymi y m + s * N = T → Fn f [] [dv y m d, dv y' m' d', .int .i64 1] (.tuple #[duv (s * (N / 12)) (s * (N - 12 * (N / 12))) 0 (dnum y' m' d' - dnum (lY T) (lM T) (cD (lY T) (lM T) d)) 0 0 0 0, .int .i64 0]))
    (f2 : ∀ s N T : Int, (s = 1 ∨ s = -1) → cmp3 y' m' d' y m d = s → mM s y m d y' m' d' = N → ymi y m + s * N = T → Fn f [] [dv y m d, dv y' m' d', .int .i64 2] (.tuple #[duv 0 (s * N) 0 (dnum y' m' d' - dnum (lY T) (lM T) (cD (lY T) (lM T) d)) 0 0 0 0, .int .i64 0]))
    (f3 : Fn f [] [dv y m d, dv y' m' d', .int .i64 3] (.tuple #[duv 0 0 ((dnum y' m' d' - dnum y m d).tdiv 7) ((dnum y' m' d' - dnum y m d).tmod 7) 0 0 0 0, .int .i64 0]))
    (f4 : Fn f [] [dv y m d, dv y' m' d', .int .i64 4] (.tuple #[duv 0 0 0 (dnum y' m' d' - dnum y m d) 0 0 0 0, .int .i64 0])) : Fn f [] [dv y m d, dv y' m' d', .int .i64 L] (uvd L y m d y' m' d') := by
  have l : L = 1 ∨ L = 2 ∨ L = 3 ∨ L = 4 := by omega
  have us := until_sign h h' hL hL' _ rfl
  by_cases z : uS y m d y' m' d' = 0
  · obtain ⟨z1, z2, z3, z4⟩ := us.2.2.2.2.2.2.2.2.1 z
    rcases l with rfl | rfl | rfl | rfl
    · have := f0 1 (.inl rfl) z; rwa [show uvd 1 y m d y' m' d' = _ from duv_eq z1 z2 z3 z4]
    · have := f0 2 (.inr rfl) z; rwa [show uvd 2 y m d y' m' d' = _ from duv_eq z1 z2 z3 z4]
    · exact f3
    · exact f4
  · have hs : uS y m d y' m' d' = 1 ∨ uS y m d y' m' d' = -1 := by
      rcases cmp3_tri y' m' d' y m d with k | k | k
      · exact .inr k
      · exact absurd k z
      · exact .inl k
    rcases l with rfl | rfl | rfl | rfl
    · have := f1 (uS y m d y' m' d') (uMM y m d y' m' d') _ hs rfl rfl rfl
      rw [show uMM y m d y' m' d' - 12 * (uMM y m d y' m' d' / 12) = uMM y m d y' m' d' % 12 by omega] at this
      exact this
    · exact f2 (uS y m d y' m' d') (uMM y m d y' m' d') _ hs rfl rfl rfl
    · exact f3
    · exact f4
theorem cunt (h : dOk y m d) (h' : dOk y' m' d') (hL : 1 ≤ L) (hL' : L ≤ 4) : Fn 100 [] [dv y m d, dv y' m' d', .int .i64 L] (uvd L y m d y' m' d') :=
  unt_all L y m d y' m' d' h h' hL hL' (fun L l e => cunt_0 y m d y' m' d' L l h h' e) (fun s N T a b c e => cunt_1 y m d y' m' d' s N T h h' a b c e) (fun s N T a b c e => cunt_2 y m d y' m' d' s N T h h' a b c e) (cunt_3 y m d y' m' d' h h') (cunt_4 y m d y' m' d' h h')
end
/-- Months, then days, put to a day, that lead to a right one. -/
theorem cmoved_c (y m d k n T S : Int) (hT : ymi y m + k = T) (y0 : -10000000 ≤ y) (y1 : y ≤ 10000000) (m1 : 1 ≤ m) (m2 : m ≤ 12) (k0 : -1000000000000 ≤ k) (k1 : k ≤ 1000000000000) (d1 : 1 ≤ d) (q : dOk (lY T) (lM T) (cD (lY T) (lM T) d)) (hS : dnum (lY T) (lM T) (cD (lY T) (lM T) d) + n = S) (S0 : -100000001 ≤ S) (S1 : S ≤ 100000000) :
    Fn 72 [] [dv y m d, .int .i64 k, .int .i64 n, .int .i64 1] (.tuple #[dv (dY S) (dM S) (dD S), .int .i64 0]) := by
  have ad := caddd_yes (lY T) (lM T) (cD (lY T) (lM T) d) n q (by omega) (by omega)
  rw [hS] at ad
  exact cmov_v y m d n T 1 k _ _ _ 0 _ _ _ (clater y m d k T (by unfold ymi at hT; omega) y0 y1 m1 m2 k0 k1) (creg_cy (lY T) (lM T) d (ymi_l T).2.1 (ymi_l T).2.2 d1 q) ad
end Go.Proofs.YthoedmikfpbfnaaGreat
end
section
/-
  What lies between date-times, put to the first one; the law CalendarBack.
-/
set_option linter.unusedVariables false
set_option linter.unusedSimpArgs false
set_option maxRecDepth 100000
namespace Go.Proofs.YthoedmikfpbfnaaGreat
open Go Go.RowKit Go.Ev

section
variable {L y m d y' m' d' : Int}
theorem uv_bd (h : dOk y m d) (h' : dOk y' m' d') (hL : 1 ≤ L) (hL' : L ≤ 4) :
    (-600000 ≤ uY L y m d y' m' d' ∧ uY L y m d y' m' d' ≤ 600000) ∧ (-7200000 ≤ uMo L y m d y' m' d' ∧ uMo L y m d y' m' d' ≤ 7200000) ∧ (-200000001 ≤ uW L y m d y' m' d' ∧ uW L y m d y' m' d' ≤ 200000001) ∧ (-200000001 ≤ uD L y m d y' m' d' ∧ uD L y m d y' m' d' ≤ 200000001) ∧
    (uS y m d y' m' d' = 1 ∧ 0 ≤ uY L y m d y' m' d' ∧ 0 ≤ uMo L y m d y' m' d' ∧ 0 ≤ uW L y m d y' m' d' ∧ 0 ≤ uD L y m d y' m' d' ∨
     uS y m d y' m' d' = -1 ∧ uY L y m d y' m' d' ≤ 0 ∧ uMo L y m d y' m' d' ≤ 0 ∧ uW L y m d y' m' d' ≤ 0 ∧ uD L y m d y' m' d' ≤ 0 ∨
     uS y m d y' m' d' = 0 ∧ uY L y m d y' m' d' = 0 ∧ uMo L y m d y' m' d' = 0 ∧ uW L y m d y' m' d' = 0 ∧ uD L y m d y' m' d' = 0) ∧
    (L = 1 → -12 < uMo L y m d y' m' d' ∧ uMo L y m d y' m' d' < 12) ∧ (L ≤ 2 → -31 < uD L y m d y' m' d' ∧ uD L y m d y' m' d' < 31) ∧ (L = 3 → -7 < uD L y m d y' m' d' ∧ uD L y m d y' m' d' < 7) := by
  have us := until_sign h h' hL hL' _ rfl
  have tr : uS y m d y' m' d' = -1 ∨ uS y m d y' m' d' = 0 ∨ uS y m d y' m' d' = 1 := cmp3_tri y' m' d' y m d
  generalize uS y m d y' m' d' = s at *
  generalize uY L y m d y' m' d' = A at *
  generalize uMo L y m d y' m' d' = B at *
  generalize uW L y m d y' m' d' = C at *
  generalize uD L y m d y' m' d' = D at *
  obtain ⟨u1, u2, u3, u4, u5, u6, u7, u8, u9, u10, u11, u12⟩ := us
  rcases tr with rfl | rfl | rfl
  · refine ⟨by omega, by omega, by omega, by omega, .inr (.inl ⟨rfl, by omega, by omega, by omega, by omega⟩), fun l => ?_, fun l => ?_, fun l => ?_⟩
    · have := u10 l; omega
    · have := u11 l; omega
    · have := u12 l; omega
  · obtain ⟨v1, v2, v3, v4⟩ := u9 rfl
    exact ⟨by omega, by omega, by omega, by omega, .inr (.inr ⟨rfl, v1, v2, v3, v4⟩), fun l => by omega, fun l => by omega, fun l => by omega⟩
  · refine ⟨by omega, by omega, by omega, by omega, .inl ⟨rfl, by omega, by omega, by omega, by omega⟩, fun l => ?_, fun l => ?_, fun l => ?_⟩
    · have := u10 l; omega
    · have := u11 l; omega
    · have := u12 l; omega
end
section
variable {A B C D z : Int}
theorem lay5_ok (hz : -86400000000000 < z ∧ z < 86400000000000) : layOk 5 z := by
  have := td z 3600000000000 (by omega)
  refine ⟨⟨by omega, by omega⟩, ⟨by unfold LIM; omega, by unfold LIM; omega⟩, ?_⟩
  show -9223372036854775808 ≤ z.tdiv 3600000000000 ∧ z.tdiv 3600000000000 ≤ 9223372036854775807
  omega
end
section
variable (y mo d h m s n y' mo' d' h' m' s' n' L E Z : Int)
theorem cbet (k : pOk y mo d h m s n) (k' : pOk y' mo' d' h' m' s' n') (l1 : 1 ≤ L) (l2 : L ≤ 4) (hE : bD y mo d h m s n y' mo' d' h' m' s' n' = E) (hZ : bZ y mo d h m s n y' mo' d' h' m' s' n' = Z) :
    Fn 42 [] [ptv y mo d h m s n, ptv y' mo' d' h' m' s' n', .int .i64 L] (.tuple #[duv (uY L y mo d (dY E) (dM E) (dD E)) (uMo L y mo d (dY E) (dM E) (dD E)) (uW L y mo d (dY E) (dM E) (dD E)) (uD L y mo d (dY E) (dM E) (dD E)) (l5 5 Z) (l6 5 Z) (l7 5 Z) (l8 5 Z), .int .i64 0]) := by
  obtain ⟨i1, i2, -⟩ := bt_in k k'
  obtain ⟨d1, d2⟩ := bt_date k k'
  rw [hE] at i1 d1 d2
  rw [hZ] at i2
  have la := ulay_y 5 Z (by unfold W128; omega) (lay5_ok i2)
  unfold bD at hE
  unfold bZ at hZ
  by_cases c : (tnan h' m' s' n' - tnan h m s n) * uS y mo d y' mo' d' < 0
  · have hX : bX y mo d h m s n y' mo' d' h' m' s' n' = uS y mo d y' mo' d' := if_pos c
    rw [hX] at hE hZ
    have hv : uS y mo d y' mo' d' = -1 ∨ uS y mo d y' mo' d' = 1 := by
      rcases cmp3_tri y' mo' d' y mo d with q | q | q
      · exact .inl q
      · have q' : uS y mo d y' mo' d' = 0 := q
        rw [q'] at c; omega
      · exact .inr q
    have ad := caddd_yes y' mo' d' (-(uS y mo d y' mo' d')) k'.1 (by omega) (by omega)
    rw [show dnum y' mo' d' + -(uS y mo d y' mo' d') = E by omega] at ad
    rw [← hZ] at la
    have := cbet_s y mo d h m s n y' mo' d' h' m' s' n' L _ _ _ _ _ _ _ _ 0 k k' l1 l2 (uS y mo d y' mo' d') (tnan h' m' s' n' - tnan h m s n) hv rfl rfl c (dY E) (dM E) (dD E) _ _ _ _ 0 ad (cunt L y mo d (dY E) (dM E) (dD E) k.1 d1 l1 l2) la
    rw [hZ] at this
    exact this
  · have hX : bX y mo d h m s n y' mo' d' h' m' s' n' = 0 := if_neg c
    rw [hX] at hE hZ
    obtain rfl : E = dnum y' mo' d' := by omega
    have z' : tnan h' m' s' n' - tnan h m s n = Z := by omega
    have hv : uS y mo d y' mo' d' = -1 ∨ uS y mo d y' mo' d' = 0 ∨ uS y mo d y' mo' d' = 1 := cmp3_tri y' mo' d' y mo d
    rw [z'] at c
    rw [(date_of k'.1.1).1, (date_of k'.1.1).2.1, (date_of k'.1.1).2.2]
    exact cbet_n y mo d h m s n y' mo' d' h' m' s' n' L _ _ _ _ _ _ _ _ 0 k k' l1 l2 (uS y mo d y' mo' d') Z hv rfl z' c _ _ _ _ 0 (cunt L y mo d y' mo' d' k.1 k'.1 l1 l2) la
variable (A B C D H M S T e A' B' C' D' H' M' S' T' g : Int)
end
end Go.Proofs.YthoedmikfpbfnaaGreat
end
section
/-
  round.extreme; the law RoundRatios by its two calls.
-/
set_option linter.unusedVariables false
set_option maxRecDepth 100000
namespace Go.Proofs.YthoedmikfpbfnaaGreat
open Go Go.RowKit Go.Ev

abbrev zz : Value := .agg #[.int .i64 0, .int .u64 0]
theorem ext_over (n d mode : Int) (hm : (hi d == -9223372036854775808 && (lo d == 0 && true)) = false) (hf : Fn 107 [] [wv n, wv d] (.tuple #[zz, zz, .int .i64 2])) : Fn 106 [] [wv n, wv d, .int .i64 mode] (.tuple #[zz, .int .i64 2]) := by
  have hm' : (!(hi d == -9223372036854775808 && (lo d == 0 && true))) = true := by rw [hm]; rfl
  refine fn_of Tryz.func106 rfl fun ww => ?_
  refine st_b 25 (show (!(hi d == -9223372036854775808 && (lo d == 0 && true))) = true by assumption) (by kernel_rfl) ?_
  refine st_fn ent107 (hf) sub0 (by kernel_rfl) ?_
  exact st_ret Tryz.func106 (by kernel_rfl)
theorem ext_a (n d q r' r D mode : Int) (h1 : 1 ≤ mode) (h2 : mode ≤ 9) (hm : (hi d == -9223372036854775808 && (lo d == 0 && true)) = false) (hf : Fn 107 [] [wv n, wv d] (.tuple #[wv q, wv r', .int .i64 0]))
    (hn1 : Fn 67 [] [wv r'] (.tuple #[wv r, .int .i64 0])) (hn2 : Fn 67 [] [wv d] (.tuple #[wv D, .int .i64 0])) (hz : (hi r' == 0 && (lo r' == 0 && true)) = false) (hr : W128 r) (hD : W128 D) (hl : W128 (D - r)) (hq : W128 q) :
    Fn 106 [] [wv n, wv d, .int .i64 mode] (rtv (if upB mode false (cmpI r (D - r)) (decide (q % 2 = 0)) = true then q + 1 else q)) := by
  have hm' : (!(hi d == -9223372036854775808 && (lo d == 0 && true))) = true := by rw [hm]; rfl
  by_cases hu : upB mode false (cmpI r (D - r)) (decide (q % 2 = 0)) = true
  · rw [if_pos hu]
    refine fn_of Tryz.func106 rfl fun ww => ?_
    refine st_b 25 (show (!(hi d == -9223372036854775808 && (lo d == 0 && true))) = true by assumption) (by kernel_rfl) ?_
    refine st_fn ent107 (hf) sub0 (by kernel_rfl) ?_
    refine st_b 38 (show (hi r' == 0 && (lo r' == 0 && true)) = false by assumption) (by kernel_rfl) ?_
    refine st_fn ent67 (hn1) sub0 (by kernel_rfl) ?_
    refine st_fn ent67 (hn2) sub0 (by kernel_rfl) ?_
    refine st_fn ent109 (between_fn (q) (r) (D) (false) (by assumption) (by assumption) (by assumption)) sub0 (by kernel_rfl) ?_
    refine st_fn ent108 (up_t (mode) (false) (cmpI r (D - r)) (decide (q % 2 = 0)) (by assumption) (by assumption) (by assumption)) sub0 (by kernel_rfl) ?_
    refine st_fn ent30 (wof_fn (1) (by (unfold I64; omega))) sub0 (by kernel_rfl) ?_
    refine st_fn ent44 (wadd_any (q) (1) (by assumption) (by (unfold W128; omega))) sub0 (by kernel_rfl) ?_
    exact st_ret Tryz.func106 (by kernel_rfl)
  · have hu' : upB mode false (cmpI r (D - r)) (decide (q % 2 = 0)) = false := (Bool.not_eq_true _).mp hu
    rw [if_neg hu, rtv_yes hq]
    refine fn_of Tryz.func106 rfl fun ww => ?_
    refine st_b 25 (show (!(hi d == -9223372036854775808 && (lo d == 0 && true))) = true by assumption) (by kernel_rfl) ?_
    refine st_fn ent107 (hf) sub0 (by kernel_rfl) ?_
    refine st_b 38 (show (hi r' == 0 && (lo r' == 0 && true)) = false by assumption) (by kernel_rfl) ?_
    refine st_fn ent67 (hn1) sub0 (by kernel_rfl) ?_
    refine st_fn ent67 (hn2) sub0 (by kernel_rfl) ?_
    refine st_fn ent109 (between_fn (q) (r) (D) (false) (by assumption) (by assumption) (by assumption)) sub0 (by kernel_rfl) ?_
    refine st_fn ent108 (up_f (mode) (false) (cmpI r (D - r)) (decide (q % 2 = 0)) (by assumption) (by assumption) (by assumption)) sub0 (by kernel_rfl) ?_
    exact st_ret Tryz.func106 (by kernel_rfl)
theorem wcmp_c (n : Int) : Fn 55 [] [wv n, .agg #[.int .i64 4611686018427387904, .int .u64 0]] (.int .i64 (cmpI n 85070591730234615865843651857942052864)) := by
  have e : wv 85070591730234615865843651857942052864 = .agg #[.int .i64 4611686018427387904, .int .u64 0] := by rfl
  have := wcmp_fn n 85070591730234615865843651857942052864
  rw [e] at this
  exact this
theorem ext_b1 (n x mode : Int) (h1 : 1 ≤ mode) (h2 : mode ≤ 9) (hn : 0 ≤ hi n) (hx : cmpI n 85070591730234615865843651857942052864 = x) (x0 : -1 ≤ x) (x1 : x ≤ 1) :
    Fn 106 [] [wv n, wv (-170141183460469231731687303715884105728), .int .i64 mode] (if upB mode true (0 - x) false = true then .tuple #[zz, .int .i64 0] else .tuple #[wv (-1), .int .i64 0]) := by
  have hm := min_yes
  have hc : Fn 55 [] [wv n, .agg #[.int .i64 4611686018427387904, .int .u64 0]] (.int .i64 x) := hx ▸ wcmp_c n
  clear hx
  by_cases hu : upB mode true (0 - x) false = true
  · rw [if_pos hu]
    refine fn_of Tryz.func106 rfl fun ww => ?_
    refine st_b 70 (show (decide (hi n ≥ 0)) = true by exact decide_eq_true (by omega)) (by kernel_rfl) ?_
    refine st_fn ent55 (hc) sub0 (by kernel_rfl) ?_
    refine st_i 86 .i64 (x' := 0 - x) (Go.IntWalk.i64_in _ (by omega)) (by kernel_rfl) ?_
    refine st_fn ent108 (up_t (mode) (true) (0 - x) (false) (by assumption) (by assumption) (by assumption)) sub0 (by kernel_rfl) ?_
    exact st_ret Tryz.func106 (by kernel_rfl)
  · have hu' : upB mode true (0 - x) false = false := (Bool.not_eq_true _).mp hu
    rw [if_neg hu]
    refine fn_of Tryz.func106 rfl fun ww => ?_
    refine st_b 70 (show (decide (hi n ≥ 0)) = true by exact decide_eq_true (by omega)) (by kernel_rfl) ?_
    refine st_fn ent55 (hc) sub0 (by kernel_rfl) ?_
    refine st_i 86 .i64 (x' := 0 - x) (Go.IntWalk.i64_in _ (by omega)) (by kernel_rfl) ?_
    refine st_fn ent108 (up_f (mode) (true) (0 - x) (false) (by assumption) (by assumption) (by assumption)) sub0 (by kernel_rfl) ?_
    refine st_fn ent30 (wof_fn (-1) (by (unfold I64; omega))) sub0 (by kernel_rfl) ?_
    exact st_ret Tryz.func106 (by kernel_rfl)
theorem ext_b2 (n x mode : Int) (h1 : 1 ≤ mode) (h2 : mode ≤ 9) (hW : W128 n) (hW' : W128 (-n)) (hn : hi n < 0) (hx : cmpI (-n) 85070591730234615865843651857942052864 = x) :
    Fn 106 [] [wv n, wv (-170141183460469231731687303715884105728), .int .i64 mode] (if upB mode false x true = true then .tuple #[wv 1, .int .i64 0] else .tuple #[zz, .int .i64 0]) := by
  have hm := min_yes
  have hc : Fn 55 [] [wv (-n), .agg #[.int .i64 4611686018427387904, .int .u64 0]] (.int .i64 x) := hx ▸ wcmp_c (-n)
  clear hx
  by_cases hu : upB mode false x true = true
  · rw [if_pos hu]
    refine fn_of Tryz.func106 rfl fun ww => ?_
    refine st_b 70 (show (decide (hi n ≥ 0)) = false by exact decide_eq_false (by omega)) (by kernel_rfl) ?_
    refine st_fn ent67 (wneg_yes (n) (by assumption) (by assumption)) sub0 (by kernel_rfl) ?_
    refine st_fn ent55 (hc) sub0 (by kernel_rfl) ?_
    refine st_fn ent108 (up_t (mode) (false) (x) (true) (by assumption) (by assumption) (by assumption)) sub0 (by kernel_rfl) ?_
    refine st_fn ent30 (wof_fn (1) (by (unfold I64; omega))) sub0 (by kernel_rfl) ?_
    exact st_ret Tryz.func106 (by kernel_rfl)
  · have hu' : upB mode false x true = false := (Bool.not_eq_true _).mp hu
    rw [if_neg hu]
    refine fn_of Tryz.func106 rfl fun ww => ?_
    refine st_b 70 (show (decide (hi n ≥ 0)) = false by exact decide_eq_false (by omega)) (by kernel_rfl) ?_
    refine st_fn ent67 (wneg_yes (n) (by assumption) (by assumption)) sub0 (by kernel_rfl) ?_
    refine st_fn ent55 (hc) sub0 (by kernel_rfl) ?_
    refine st_fn ent108 (up_f (mode) (false) (x) (true) (by assumption) (by assumption) (by assumption)) sub0 (by kernel_rfl) ?_
    exact st_ret Tryz.func106 (by kernel_rfl)
end Go.Proofs.YthoedmikfpbfnaaGreat
end
section
/-
  The law RoundRatios: the plain law, and its end.
-/
set_option linter.unusedVariables false
set_option linter.unusedSimpArgs false
set_option maxRecDepth 100000
namespace Go.Proofs.YthoedmikfpbfnaaGreat
open Go Go.RowKit Go.Ev

theorem nearQ_scale {p q g mode : Int} (hg : 0 < g) (hq : 0 < q) : nearQ (g * p) (g * q) mode = nearQ p q mode := by
  have hgq : 0 < g * q := Int.mul_pos hg hq
  have e1 : (g * p).fdiv (g * q) = p.fdiv q := by
    rw [Int.fdiv_eq_ediv_of_nonneg _ (by omega), Int.fdiv_eq_ediv_of_nonneg _ (by omega), Int.mul_ediv_mul_of_pos _ _ hg]
  have e2 : (g * p).fmod (g * q) = g * p.fmod q := by
    rw [Int.fmod_eq_emod_of_nonneg _ (by omega), Int.fmod_eq_emod_of_nonneg _ (by omega), Int.mul_emod_mul_of_pos _ _ hg]
  have pos : ∀ x : Int, (g * x < 0 ↔ x < 0) := fun x => by
    constructor
    · intro h
      apply Classical.byContradiction
      intro k
      have := Int.mul_nonneg (show 0 ≤ g by omega) (show 0 ≤ x by omega)
      omega
    · intro h
      have := Int.mul_neg_of_pos_of_neg hg h
      exact this
  have zer : ∀ x : Int, (g * x = 0 ↔ x = 0) := fun x => by
    rw [Int.mul_eq_zero]; omega
  have e3 : ∀ a b : Int, cmpI (g * a) (g * b) = cmpI a b := fun a b => by
    have h1 : g * a < g * b ↔ a < b := by
      have := pos (a - b)
      rw [Int.mul_sub] at this
      omega
    have h2 : g * a = g * b ↔ a = b := by
      have := zer (a - b)
      rw [Int.mul_sub] at this
      omega
    unfold cmpI
    simp only [h1, h2]
  have e4 : decide (g * p < 0) = decide (p < 0) := by
    rw [Bool.eq_iff_iff]; simp only [decide_eq_true_eq]; exact pos p
  have hu : upQ (g * p) (g * q) mode = upQ p q mode := by
    unfold upQ
    rw [e1, e2, e4, ← Int.mul_sub, e3]
  unfold nearQ
  rw [hu, e1, e2]
  by_cases k : p.fmod q = 0
  · rw [if_pos k, if_pos ((zer _).2 k)]
  · rw [if_neg k, if_neg fun h => k ((zer _).1 h)]
theorem fr_scale (n : Int) {d : Int} (h0 : d ≠ 0) : ∃ G X Y : Nat, G = Nat.gcd n.natAbs d.natAbs ∧ 0 < G ∧ n.natAbs = G * X ∧ d.natAbs = G * Y ∧ 0 < Y ∧ frP n d = wsg (!(decide (n < 0) == decide (d < 0))) (X : Int) ∧ frQ n d = (Y : Int) := by
  have hG : 0 < Nat.gcd n.natAbs d.natAbs := gcd_pos h0
  have h1 := Nat.mul_div_cancel' (Nat.gcd_dvd_left n.natAbs d.natAbs)
  have h2 := Nat.mul_div_cancel' (Nat.gcd_dvd_right n.natAbs d.natAbs)
  refine ⟨_, n.natAbs / Nat.gcd n.natAbs d.natAbs, d.natAbs / Nat.gcd n.natAbs d.natAbs, rfl, hG, h1.symm, h2.symm, ?_, rfl, rfl⟩
  rcases Nat.eq_zero_or_pos (d.natAbs / Nat.gcd n.natAbs d.natAbs) with h | h
  · rw [h] at h2; omega
  · exact h
theorem near_fr (n mode : Int) {d : Int} (h0 : d ≠ 0) : nearQ (nN n d) (nD d) mode = nearQ (frP n d) (frQ n d) mode := by
  obtain ⟨G, X, Y, -, hG, hX, hY, hYp, hP, hQ⟩ := fr_scale n h0
  have a1 : (n.natAbs : Int) = (G : Int) * (X : Int) := by rw [hX]; simp
  have a2 : (d.natAbs : Int) = (G : Int) * (Y : Int) := by rw [hY]; simp
  have b1 : nN n d = (G : Int) * frP n d := by
    rw [hP]
    unfold nN wsg
    by_cases hn : n < 0 <;> by_cases hd : d < 0 <;> simp [hn, hd, Int.mul_neg] <;> omega
  have b2 : nD d = (G : Int) * frQ n d := by
    rw [hQ]; unfold nD; split <;> omega
  rw [b1, b2]
  exact nearQ_scale (by omega) (by rw [hQ]; omega)
theorem rtv0 : rtv 0 = .tuple #[zz, .int .i64 0] := rtv_yes (by unfold W128; omega)
theorem rtv_no {y : Int} (h : ¬ W128 y) : rtv y = .tuple #[zz, .int .i64 2] := by unfold rtv; rw [thi_no h, tlo_no h, ter_no h]
theorem small_pos {m D mode : Int} (h0 : 0 < m) (h1 : m < D) : nearQ m D mode = if upB mode false (cmpI m (D - m)) true = true then 1 else 0 := by
  have e1 : m.fdiv D = 0 := by rw [Int.fdiv_eq_ediv_of_nonneg _ (by omega), Int.ediv_eq_zero_of_lt (by omega) h1]
  have e2 : m.fmod D = m := by rw [Int.fmod_eq_emod_of_nonneg _ (by omega), Int.emod_eq_of_lt (by omega) h1]
  unfold nearQ upQ
  rw [e1, e2, if_neg (by omega), decide_eq_false (by omega)]
  rfl
theorem small_neg {m D mode : Int} (h0 : 0 < m) (h1 : m < D) : nearQ (-m) D mode = if upB mode true (cmpI (D - m) m) false = true then 0 else -1 := by
  have q : -m = (D - m) + D * (-1) := by omega
  have e1 : (-m).fdiv D = -1 := by rw [Int.fdiv_eq_ediv_of_nonneg _ (by omega), q, Int.add_mul_ediv_left _ _ (by omega), Int.ediv_eq_zero_of_lt (by omega) (by omega)]; rfl
  have e2 : (-m).fmod D = D - m := by rw [Int.fmod_eq_emod_of_nonneg _ (by omega), q, Int.add_mul_emod_self_left, Int.emod_eq_of_lt (by omega) (by omega)]
  unfold nearQ upQ
  rw [e1, e2, if_neg (by omega), decide_eq_true (by omega), show D - (D - m) = m by omega]
  rfl
/-- Where the lowest terms have no room. -/
theorem fr_over {n d : Int} (hn : W128 n) (hd : W128 d) (h0 : d ≠ 0) (h : ¬ fOk n d) :
    (d = -170141183460469231731687303715884105728 ∧ n ≠ 0 ∧ -170141183460469231731687303715884105728 < n) ∨
    (n = -170141183460469231731687303715884105728 ∧ d < 0 ∧ -170141183460469231731687303715884105728 < d ∧ Nat.gcd n.natAbs d.natAbs = 1) := by
  obtain ⟨G, X, Y, hG, hG0, hX, hY, hYp, hP, hQ⟩ := fr_scale n h0
  have hXle : X ≤ n.natAbs := by rw [hX]; exact Nat.le_mul_of_pos_left X hG0
  have hYle : Y ≤ d.natAbs := by rw [hY]; exact Nat.le_mul_of_pos_left Y hG0
  by_cases hq : W128 (frQ n d)
  · right
    have hp : ¬ W128 (frP n d) := fun k => h ⟨h0, k, hq⟩
    rw [hP] at hp
    have hXm : X = 170141183460469231731687303715884105728 ∧ (decide (n < 0) == decide (d < 0)) = true := by
      unfold wsg at hp
      cases hs : (decide (n < 0) == decide (d < 0)) with
      | true => rw [hs] at hp; simp at hp; unfold W128 at *; exact ⟨by omega, rfl⟩
      | false => rw [hs] at hp; simp at hp; unfold W128 at *; omega
    obtain ⟨hXm, hs⟩ := hXm
    have hnm : n = -170141183460469231731687303715884105728 := by unfold W128 at hn; omega
    have hG1 : G = 1 := by
      have e1 : n.natAbs = X := by rw [hXm]; unfold W128 at hn; omega
      have e2 : X * 1 = X * G := by rw [Nat.mul_one, Nat.mul_comm X G, ← hX]; exact e1.symm
      exact (Nat.eq_of_mul_eq_mul_left (by omega) e2).symm
    have hdn : d < 0 := by
      rw [decide_eq_true (show n < 0 by omega)] at hs
      simpa using hs
    refine ⟨hnm, hdn, ?_, by rw [← hG, hG1]⟩
    have hYd : d.natAbs = Y := by rw [hY, hG1, Nat.one_mul]
    rw [hQ] at hq
    unfold W128 at hq
    omega
  · left
    rw [hQ] at hq
    have hYm : Y = 170141183460469231731687303715884105728 := by unfold W128 at *; omega
    have hdm : d.natAbs = Y := by unfold W128 at hd; omega
    have hG1 : G = 1 := by
      have e2 : Y * 1 = Y * G := by rw [Nat.mul_one, Nat.mul_comm Y G, ← hY]; exact hdm.symm
      exact (Nat.eq_of_mul_eq_mul_left (by omega) e2).symm
    have hd1 : d = -170141183460469231731687303715884105728 := by unfold W128 at hd; omega
    have hg : Nat.gcd n.natAbs d.natAbs = 1 := by rw [← hG, hG1]
    refine ⟨hd1, fun e => ?_, ?_⟩
    · subst e; rw [show (0 : Int).natAbs = 0 from rfl, Nat.gcd_zero_left] at hg; omega
    · apply Classical.byContradiction
      intro k
      have : n = d := by unfold W128 at hn; omega
      rw [this, Nat.gcd_self] at hg
      omega
theorem frac_f (n d : Int) (hn : W128 n) (hd : W128 d) (hk : fOk n d) : Fn 41 [] [wv n, wv d] (.tuple #[wv (frP n d), wv (frQ n d), .int .i64 0]) := fun w _ =>
  (dfrac_any n d w hn hd).mono fun e w' ⟨h1, h2⟩ => ⟨by rw [h1, fv_yes hk, fv_yes hk, fv_yes hk, fv_yes hk, fe_yes hk], h2⟩
theorem frac_n (n d : Int) (hn : W128 n) (hd : W128 d) (h0 : d ≠ 0) (hk : ¬ fOk n d) : Fn 41 [] [wv n, wv d] (.tuple #[zz, zz, .int .i64 2]) := fun w _ =>
  (dfrac_any n d w hn hd).mono fun e w' ⟨h1, h2⟩ => ⟨by rw [h1, fv_no hk, fv_no hk, fv_no hk, fv_no hk, fe_no h0 hk], h2⟩
end Go.Proofs.YthoedmikfpbfnaaGreat
end
section
/-
  The law RoundRatios, walked.
-/
set_option linter.unusedVariables false
set_option linter.unusedSimpArgs false
set_option maxRecDepth 100000
namespace Go.Proofs.YthoedmikfpbfnaaGreat
open Go Go.RowKit Go.Ev

theorem ext_spec1 (n mode : Int) (hn : W128 n) (h1 : 1 ≤ mode) (h2 : mode ≤ 9) (hz : n ≠ 0) (hm : -170141183460469231731687303715884105728 < n) :
    Fn 106 [] [wv n, wv (-170141183460469231731687303715884105728), .int .i64 mode] (rtv (nearQ (-n) 170141183460469231731687303715884105728 mode)) := by
  by_cases k : n < 0
  · have h := ext_b2 n _ mode h1 h2 hn (by unfold W128 at *; omega) ((hi_neg n).2 k) rfl
    have e : cmpI (-n) (170141183460469231731687303715884105728 - (-n)) = cmpI (-n) 85070591730234615865843651857942052864 := by
      unfold cmpI; split <;> split <;> (try split) <;> (try split) <;> omega
    rw [small_pos (by omega) (by omega), e]
    split at h
    · rename_i c; rw [if_pos c, rtv_yes (by unfold W128; omega)]; exact h
    · rename_i c; rw [if_neg c, rtv0]; exact h
  · have h := ext_b1 n _ mode h1 h2 (by have := hi_neg n; omega) rfl (by rcases cmpI_3 n 85070591730234615865843651857942052864 with a | a | a <;> omega) (by rcases cmpI_3 n 85070591730234615865843651857942052864 with a | a | a <;> omega)
    have e : cmpI (170141183460469231731687303715884105728 - n) n = 0 - cmpI n 85070591730234615865843651857942052864 := by
      unfold cmpI; split <;> split <;> (try split) <;> (try split) <;> omega
    have hlt : n < 170141183460469231731687303715884105728 := by unfold W128 at hn; omega
    rw [small_neg (by omega) hlt, e]
    split at h
    · rename_i c; rw [if_pos c, rtv0]; exact h
    · rename_i c; rw [if_neg c, rtv_yes (by unfold W128; omega)]; exact h
theorem ext_spec2 (d mode : Int) (hd : W128 d) (h1 : 1 ≤ mode) (h2 : mode ≤ 9) (h0 : d < 0) (hm : -170141183460469231731687303715884105728 < d) (hg : Nat.gcd (-170141183460469231731687303715884105728 : Int).natAbs d.natAbs = 1) :
    Fn 106 [] [wv (-170141183460469231731687303715884105728), wv d, .int .i64 mode] (rtv (nearQ 170141183460469231731687303715884105728 (-d) mode)) := by
  have hn : W128 (-170141183460469231731687303715884105728) := by unfold W128; omega
  have hmin := min_no (y := d) (by omega)
  by_cases k : d = -1
  · subst k
    have e : nearQ 170141183460469231731687303715884105728 (-(-1)) mode = 170141183460469231731687303715884105728 := by
      unfold nearQ; rw [if_pos (by decide)]; decide
    rw [e, rtv_no (by unfold W128; omega)]
    exact ext_over _ _ mode hmin (dfloor_no _ _ hn hd (by omega) (by rw [show Int.fdiv (-170141183460469231731687303715884105728) (-1) = 170141183460469231731687303715884105728 by decide]; unfold W128; omega))
  · generalize hD : -d = D
    have hd' : d = -D := by omega
    have hD2 : 2 ≤ D := by omega
    have w1 := Int.fmod_eq_emod_of_nonneg 170141183460469231731687303715884105728 (show 0 ≤ D by omega)
    have w2 := Int.emod_nonneg 170141183460469231731687303715884105728 (show D ≠ 0 by omega)
    have w3 := Int.emod_lt_of_pos 170141183460469231731687303715884105728 (show 0 < D by omega)
    have w4 := Int.fdiv_eq_ediv_of_nonneg 170141183460469231731687303715884105728 (show 0 ≤ D by omega)
    have e1 : Int.fdiv (-170141183460469231731687303715884105728) d = Int.fdiv 170141183460469231731687303715884105728 D := by rw [hd', Int.neg_fdiv_neg]
    have e2 : Int.fmod (-170141183460469231731687303715884105728) d = -(Int.fmod 170141183460469231731687303715884105728 D) := by
      have a := Int.mul_fdiv_add_fmod (-170141183460469231731687303715884105728) d
      have b := Int.mul_fdiv_add_fmod 170141183460469231731687303715884105728 D
      rw [e1, hd', Int.neg_mul] at a
      rw [hd'] at *
      omega
    have hz : Int.fmod 170141183460469231731687303715884105728 D ≠ 0 := fun h => by
      have hdv : D ∣ 170141183460469231731687303715884105728 := Int.dvd_of_emod_eq_zero (by omega)
      have hnd : D.natAbs ∣ (-170141183460469231731687303715884105728 : Int).natAbs := by rw [Int.natAbs_neg]; exact Int.natAbs_dvd_natAbs.2 hdv
      have e3 : d.natAbs = D.natAbs := by omega
      rw [e3, Nat.gcd_eq_right hnd] at hg
      omega
    have hq0 : 0 ≤ Int.fdiv 170141183460469231731687303715884105728 D := by rw [w4]; exact Int.ediv_nonneg (by omega) (by omega)
    have hq1 : Int.fdiv 170141183460469231731687303715884105728 D < 170141183460469231731687303715884105728 := by
      rw [w4]; exact Int.ediv_lt_of_lt_mul (by omega) (by omega)
    have hf := dfloor_yes _ _ hn hd (by omega) (by rw [e1]; unfold W128; omega)
    rw [e1, e2] at hf
    have hn1 := wneg_yes (-(Int.fmod 170141183460469231731687303715884105728 D)) (by unfold W128 at *; omega) (by unfold W128 at *; omega)
    rw [Int.neg_neg] at hn1
    have hn2 := wneg_yes d hd (by unfold W128 at *; omega)
    rw [hD] at hn2
    have h := ext_a _ d _ _ _ D mode h1 h2 hmin hf hn1 hn2 (wz_no (by omega)) (by unfold W128 at *; omega) (by unfold W128 at *; omega) (by unfold W128 at *; omega) (by unfold W128; omega)
    have e4 : nearQ 170141183460469231731687303715884105728 D mode = if upB mode false (cmpI (Int.fmod 170141183460469231731687303715884105728 D) (D - Int.fmod 170141183460469231731687303715884105728 D)) (decide (Int.fdiv 170141183460469231731687303715884105728 D % 2 = 0)) = true then Int.fdiv 170141183460469231731687303715884105728 D + 1 else Int.fdiv 170141183460469231731687303715884105728 D := by
      unfold nearQ upQ
      rw [if_neg hz, decide_eq_false (show ¬ (170141183460469231731687303715884105728 : Int) < 0 by omega)]
    rw [e4]
    exact h
theorem ratio_any (n d mode : Int) (hn : W128 n) (hd : W128 d) (h0 : d ≠ 0) (h1 : 1 ≤ mode) (h2 : mode ≤ 9) : Fn 49 [] [wv n, wv d, .int .i64 mode] (rtv (nearQ (nN n d) (nD d) mode)) := by
  by_cases hk : fOk n d
  · have hq : 0 < frQ n d := by
      obtain ⟨G, X, Y, -, -, -, -, hYp, -, hQ⟩ := fr_scale n h0
      rw [hQ]; omega
    rw [near_fr n mode h0]
    exact rat_ok n d mode _ _ h1 h2 (frac_f n d hn hd hk) hk.2.1 hk.2.2 hq
  · have hf := frac_n n d hn hd h0 hk
    refine rat_ext n d mode .nilIface _ _ _ h1 h2 hf ?_
    rcases fr_over hn hd h0 hk with ⟨rfl, a, b⟩ | ⟨rfl, a, b, c⟩
    · exact ext_spec1 n mode hn h1 h2 a b
    · have e1 : nN (-170141183460469231731687303715884105728) d = 170141183460469231731687303715884105728 := by unfold nN; rw [if_pos a]; rfl
      have e2 : nD d = -d := by unfold nD; rw [if_pos a]
      rw [e1, e2]
      exact ext_spec2 d mode hd h1 h2 a b c
end Go.Proofs.YthoedmikfpbfnaaGreat
end
section
/-
  So many units from a date-time: what the program answers of layer 20.
-/
set_option linter.unusedVariables false
set_option linter.unusedSimpArgs false
set_option maxRecDepth 100000
namespace Go.Proofs.YthoedmikfpbfnaaGreat
open Go Go.RowKit Go.Ev

theorem wtimes_f (v n : Int) (hv : W128 v) (hn : I64 n) (h : W128 (v * n)) : Fn 43 [] [wv v, .int .i64 n] (.tuple #[wv (v * n), .int .i64 0]) := fun w _ => (wtimes v n w hv hn).mono fun e w' ⟨h1, h2⟩ => ⟨by rw [h1, thi_yes h, tlo_yes h, ter_yes h], h2⟩
/-- A unit's length, of a week to a nanosecond. -/
def rlen (u : Int) : Int := if u = 3 then 604800000000000 else ulen u
theorem rlen_in {u : Int} (h : 3 ≤ u) (k : u ≤ 8) : 1 ≤ rlen u ∧ rlen u ≤ 604800000000000 := by
  unfold rlen
  split
  · omega
  · have := ulen_pos (show 4 ≤ u by omega) k; omega
section
variable (u i n : Int)
theorem rknown_y (h : 1 ≤ u) (k : u ≤ 8) : Fn 19 [] [.int .i64 u] (.bool true) := by
  refine fn_of Tryz.func19 rfl fun ww => ?_
  refine st_b 4 (show (decide (u ≥ 1)) = true by exact decide_eq_true (by omega)) (by kernel_rfl) ?_
  exact st_retv Tryz.func19 (show Value.bool (decide (u ≤ 8)) = _ by simp_all) (by kernel_rfl)
theorem rknown_n (h : u < 1 ∨ 8 < u) : Fn 19 [] [.int .i64 u] (.bool false) := by
  by_cases q : u < 1
  · refine fn_of Tryz.func19 rfl fun ww => ?_
    refine st_b 4 (show (decide (u ≥ 1)) = false by exact decide_eq_false (by omega)) (by kernel_rfl) ?_
    exact st_ret Tryz.func19 (by kernel_rfl)
  · have q2 : 8 < u := by omega
    refine fn_of Tryz.func19 rfl fun ww => ?_
    refine st_b 4 (show (decide (u ≥ 1)) = true by exact decide_eq_true (by omega)) (by kernel_rfl) ?_
    exact st_retv Tryz.func19 (show Value.bool (decide (u ≤ 8)) = _ by simp_all) (by kernel_rfl)
theorem rlength : Fn 24 [] [.int .i64 u] (.int .i64 (rlen u)) := by
  by_cases q : u = 3
  · subst q
    refine fn_of Tryz.func24 rfl fun ww => ?_
    exact st_retv Tryz.func24 (show vI64 604800000000000 = _ by rfl) (by kernel_rfl)
  · have e : rlen u = ulen u := if_neg q
    rw [e]
    have kl := ulen_fn u
    refine fn_of Tryz.func24 rfl fun ww => ?_
    refine st_b 4 (show (u == 3) = false by exact decide_eq_false (by omega)) (by kernel_rfl) ?_
    refine st_fn ent63 (kl) sub0 (by kernel_rfl) ?_
    exact st_ret Tryz.func24 (by kernel_rfl)
abbrev kN (n : Int) : List Bk := [⟨[.val (.int .i64 n)], 2⟩]
abbrev EN : List TypeId := [999999, 2]
theorem rmv1 : FnM 20 [.ptr 0 0] (kN n) (duv n 0 0 0 0 0 0 0) := by
  refine fnM_of EN Tryz.func20 rfl (by kernel_rfl) fun ww => ?_
  exact st_ret Tryz.func20 (by kernel_rfl)
theorem rmv2 : FnM 21 [.ptr 0 0] (kN n) (duv 0 n 0 0 0 0 0 0) := by
  refine fnM_of EN Tryz.func21 rfl (by kernel_rfl) fun ww => ?_
  exact st_ret Tryz.func21 (by kernel_rfl)
variable (y mo d h m s nn A B C H M S N e : Int)
theorem uOk_y (r : -4294967295 ≤ n ∧ n ≤ 4294967295) : uOk n 0 0 0 0 0 0 0 ∧ all64 n 0 0 0 0 0 0 0 := by
  refine ⟨⟨?_, ⟨by unfold cnt1; omega, by unfold cnt1; omega, by unfold cnt1; omega⟩, by unfold dtot LIM; omega⟩, by unfold I64; omega, i64_0, i64_0, i64_0, i64_0, i64_0, i64_0, i64_0⟩
  unfold pos8 neg8; omega
theorem uOk_m (r : -4294967295 ≤ n ∧ n ≤ 4294967295) : uOk 0 n 0 0 0 0 0 0 ∧ all64 0 n 0 0 0 0 0 0 := by
  refine ⟨⟨?_, ⟨by unfold cnt1; omega, by unfold cnt1; omega, by unfold cnt1; omega⟩, by unfold dtot LIM; omega⟩, i64_0, by unfold I64; omega, i64_0, i64_0, i64_0, i64_0, i64_0, i64_0⟩
  unfold pos8 neg8; omega
theorem rmov_1 (k : pOk y mo d h m s nn) (r : -4294967295 ≤ n ∧ n ≤ 4294967295) (ha : Fn 26 [] [ptv y mo d h m s nn, duv n 0 0 0 0 0 0 0, .int .i64 1] (.tuple #[ptv A B C H M S N, .int .i64 e])) : Fn 7 [] [ptv y mo d h m s nn, .int .i64 n, .int .i64 1] (.tuple #[ptv A B C H M S N, .int .i64 e]) := by
  have kr1 := pright_yes y mo d h m s nn k
  have kr2 := rknown_y 1 (by omega) (by omega)
  have kr3 := rmv1 n
  obtain ⟨o, i⟩ := uOk_y n r
  have kr4 := uright_y n 0 0 0 0 0 0 0 i o
  clear k r o i
  refine fn_of Tryz.func7 rfl fun ww => ?_
  refine st_fn ent18 (kr1) sub0 (by kernel_rfl) ?_
  refine st_fn ent19 (kr2) sub0 (by kernel_rfl) ?_
  refine st_fm [1] ent20 (kr3) (by kernel_rfl) (by kernel_rfl) (by kernel_rfl) ?_
  refine st_fn ent25 (kr4) sub0 (by kernel_rfl) ?_
  refine st_fn ent26 (ha) sub0 (by kernel_rfl) ?_
  exact st_ret Tryz.func7 (by kernel_rfl)
theorem rmov_2 (k : pOk y mo d h m s nn) (r : -4294967295 ≤ n ∧ n ≤ 4294967295) (ha : Fn 26 [] [ptv y mo d h m s nn, duv 0 n 0 0 0 0 0 0, .int .i64 1] (.tuple #[ptv A B C H M S N, .int .i64 e])) : Fn 7 [] [ptv y mo d h m s nn, .int .i64 n, .int .i64 2] (.tuple #[ptv A B C H M S N, .int .i64 e]) := by
  have kr1 := pright_yes y mo d h m s nn k
  have kr2 := rknown_y 2 (by omega) (by omega)
  have kr3 := rmv2 n
  obtain ⟨o, i⟩ := uOk_m n r
  have kr4 := uright_y 0 n 0 0 0 0 0 0 i o
  clear k r o i
  refine fn_of Tryz.func7 rfl fun ww => ?_
  refine st_fn ent18 (kr1) sub0 (by kernel_rfl) ?_
  refine st_fn ent19 (kr2) sub0 (by kernel_rfl) ?_
  refine st_fm [1] ent21 (kr3) (by kernel_rfl) (by kernel_rfl) (by kernel_rfl) ?_
  refine st_fn ent25 (kr4) sub0 (by kernel_rfl) ?_
  refine st_fn ent26 (ha) sub0 (by kernel_rfl) ?_
  exact st_ret Tryz.func7 (by kernel_rfl)
/-! totals -/
variable (y' mo' d' h' m' s' n' : Int)
theorem rtot_a (k : ¬ (pOk y mo d h m s nn ∧ pOk y' mo' d' h' m' s' n' ∧ 1 ≤ u ∧ u ≤ 8)) : Fn 12 [] [ptv y mo d h m s nn, ptv y' mo' d' h' m' s' n', .int .i64 u] (.tuple #[wz, wz, .int .i64 1]) := by
  by_cases k1 : pOk y mo d h m s nn ∧ pOk y' mo' d' h' m' s' n'
  · have kr1 := psince_yes y mo d h m s nn y' mo' d' h' m' s' n' k1.1 k1.2
    have kr2 := rknown_n u (by
      rcases Int.lt_or_le u 1 with q | q
      · exact .inl q
      · rcases Int.lt_or_le 8 u with q' | q'
        · exact .inr q'
        · exact absurd ⟨k1.1, k1.2, q, q'⟩ k)
    clear k k1
    refine fn_of Tryz.func12 rfl fun ww => ?_
    refine st_fn ent40 (kr1) sub0 (by kernel_rfl) ?_
    refine st_fn ent19 (kr2) sub0 (by kernel_rfl) ?_
    exact st_ret Tryz.func12 (by kernel_rfl)
  · have kr1 := psince_no y mo d h m s nn y' mo' d' h' m' s' n' k1
    clear k k1
    refine fn_of Tryz.func12 rfl fun ww => ?_
    refine st_fn ent40 (kr1) sub0 (by kernel_rfl) ?_
    exact st_ret Tryz.func12 (by kernel_rfl)
theorem rtot_d (k : pOk y mo d h m s nn) (k' : pOk y' mo' d' h' m' s' n') (l1 : 3 ≤ u) (l2 : u ≤ 8) (p q e : Int) (hf : Fn 41 [] [wv (pnum y' mo' d' h' m' s' n' - pnum y mo d h m s nn), wv (rlen u)] (.tuple #[wv p, wv q, .int .i64 e])) :
    Fn 12 [] [ptv y mo d h m s nn, ptv y' mo' d' h' m' s' n', .int .i64 u] (.tuple #[wv p, wv q, .int .i64 e]) := by
  have kr1 := psince_yes y mo d h m s nn y' mo' d' h' m' s' n' k k'
  have kr2 := rknown_y u (by omega) l2
  have kr3 := rlength u
  have rl := rlen_in l1 l2
  have i1 : I64 (rlen u) := by unfold I64; omega
  have kr4 := wof_fn (rlen u) i1
  generalize pnum y' mo' d' h' m' s' n' - pnum y mo d h m s nn = w at *
  clear k k'
  refine fn_of Tryz.func12 rfl fun ww => ?_
  refine st_fn ent40 (kr1) sub0 (by kernel_rfl) ?_
  refine st_fn ent19 (kr2) sub0 (by kernel_rfl) ?_
  refine st_b 40 (show (decide (u > 2)) = true by exact decide_eq_true (by omega)) (by kernel_rfl) ?_
  refine st_fn ent24 (kr3) sub0 (by kernel_rfl) ?_
  refine st_fn ent30 (kr4) sub0 (by kernel_rfl) ?_
  refine st_fn ent41 (hf) sub0 (by kernel_rfl) ?_
  exact st_ret Tryz.func12 (by kernel_rfl)
end
end Go.Proofs.YthoedmikfpbfnaaGreat
end
