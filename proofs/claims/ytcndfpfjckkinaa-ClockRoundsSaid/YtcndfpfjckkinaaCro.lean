/-
  A time rounded: what the program and the reference answer, and the law ClockRounds.
-/
import Derived.Test.YtcndfpfjckkinaaCrs
import Derived.Test.YtcndfpfjckkinaaMir
set_option linter.unusedVariables false
set_option maxRecDepth 100000
namespace Go.Proofs.Ytcndfpfjckkinaa
open Go Go.RowKit Go.Ev

def rOk (i mode : Int) : Prop := 1 ≤ i ∧ i ≤ 86400000000000 ∧ Int.tmod 86400000000000 i = 0 ∧ 1 ≤ mode ∧ mode ≤ 9
def rY (h m s n i mode : Int) : Int := nearQ (tnan h m s n) i mode * i
theorem near_dvd {x i mode : Int} (h : x.fmod i = 0) : nearQ x i mode * i = x := by
  unfold nearQ; rw [if_pos h, Int.mul_comm]; have := Int.mul_fdiv_add_fmod x i; omega
theorem rY_in {h m s n i mode : Int} (k : tOk h m s n) (r : rOk i mode) : 0 ≤ rY h m s n i mode ∧ rY h m s n i mode ≤ 86400000000000 := by
  obtain ⟨r1, r2, r3, r4, r5⟩ := r
  obtain ⟨t0, t1⟩ := tnan_bd k
  unfold rY
  constructor
  · have a := nearQ_mono (v := 0) (w := tnan h m s n) (d := i) (mode := mode) (by omega) r4 r5 t0
    have b := Int.mul_le_mul_of_nonneg_right a (show 0 ≤ i by omega)
    rw [near_dvd (x := 0) (by simp)] at b
    exact b
  · have a := nearQ_mono (v := tnan h m s n) (w := 86400000000000) (d := i) (mode := mode) (by omega) r4 r5 (by omega)
    have b := Int.mul_le_mul_of_nonneg_right a (show 0 ≤ i by omega)
    rw [near_dvd (x := 86400000000000) (by rw [Int.fmod_eq_emod_of_nonneg _ (by omega), ← Int.tmod_eq_emod_of_nonneg (by omega)]; exact r3)] at b
    exact b
section
variable (h m s n i mode : Int)
theorem rot (k : tOk h m s n) (r : rOk i mode) : Fn 104 [] [wv (tnan h m s n), wv i, .int .i64 mode] (.tuple #[wv (rY h m s n i mode), .int .i64 0]) := by
  have b := rY_in k r
  have t := tnan_bd k
  obtain ⟨r1, r2, r3, r4, r5⟩ := r
  exact to_yes _ _ _ (by unfold W128; omega) (by unfold W128; omega) (by omega) r4 r5 _ (by rw [rY, Int.mul_comm]) (by unfold W128; omega)
abbrev rv6 (y : Int) : Value := .tuple #[tv (tH (y % 86400000000000)) (tM (y % 86400000000000)) (tS (y % 86400000000000)) (tN (y % 86400000000000)), .int .i64 (y / 86400000000000), .int .i64 0]
theorem rv6_lt {y : Int} (h0 : 0 ≤ y) (h1 : y < 86400000000000) : rv6 y = .tuple #[tv (tH y) (tM y) (tS y) (tN y), .int .i64 0, .int .i64 0] := by
  have e1 : y % 86400000000000 = y := by omega
  have e2 : y / 86400000000000 = 0 := by omega
  unfold rv6; rw [e1, e2]
theorem rv6_day : rv6 86400000000000 = .tuple #[tv 0 0 0 0, .int .i64 1, .int .i64 0] := by
  have e1 : (86400000000000 : Int) % 86400000000000 = 0 := by omega
  have e2 : (86400000000000 : Int) / 86400000000000 = 1 := by omega
  unfold rv6; rw [e1, e2]; rfl
theorem cround_yes (k : tOk h m s n) (r : rOk i mode) : Fn 26 [] [tv h m s n, .int .i64 i, .int .i64 mode] (rv6 (rY h m s n i mode)) := by
  have b := rY_in k r
  have t := tnan_bd k
  have hy := rot h m s n i mode k r
  obtain ⟨r1, r2, r3, r4, r5⟩ := r
  by_cases e : rY h m s n i mode = 86400000000000
  · rw [e] at hy ⊢; rw [rv6_day]
    exact cr7 h m s n i mode k r1 r2 r3 (by unfold I64; omega) (by unfold I64; omega) hy (by unfold I64; omega) (fcof_yes 0 (by omega) (by omega))
  · rw [rv6_lt b.1 (by omega)]
    exact cr6 h m s n i mode k r1 r2 r3 (by unfold I64; omega) (by unfold I64; omega) _ hy (by unfold I64; omega) b.1 (by omega) (by rw [Int.tmod_eq_emod_of_nonneg b.1]; omega) (by rw [Int.tdiv_eq_ediv_of_nonneg b.1]; omega)
theorem zround_yes (k : tOk h m s n) (r : rOk i mode) : Fn 27 [] [tv h m s n, .int .i64 i, .int .i64 mode] (rv6 (rY h m s n i mode)) := by
  have b := rY_in k r
  have t := tnan_bd k
  obtain ⟨r1, r2, r3, r4, r5⟩ := r
  have wt : W128 (tnan h m s n) := by unfold W128; omega
  have wi : W128 i := by unfold W128; omega
  have b1 : Bits 200 (tnan h m s n) := Bits.mono wt.bits (by decide)
  have b2 : Bits 200 i := Bits.mono wi.bits (by decide)
  by_cases e : rY h m s n i mode = 86400000000000
  · have e' := e
    unfold rY at e'
    rw [e, rv6_day]
    exact zr7 h m s n i mode k r1 r2 r3 r4 r5 (by unfold I64; omega) (by unfold I64; omega) (by omega) b1 b2 (nearQ_bits b1 (by omega)) e' (by rw [e']; unfold I64; omega)
  · rw [rv6_lt b.1 (by omega)]
    exact zr6 h m s n i mode k r1 r2 r3 r4 r5 (by unfold I64; omega) (by unfold I64; omega) (by omega) b1 b2 (nearQ_bits b1 (by omega)) _ rfl (by unfold rY at b; unfold I64; omega) b.1 (by omega)
theorem cround_no (k : ¬ (tOk h m s n ∧ rOk i mode)) : Fn 26 [] [tv h m s n, .int .i64 i, .int .i64 mode] bad6 := by
  by_cases k0 : tOk h m s n
  · have t := tnan_bd k0
    by_cases k1 : i < 1
    · exact cr2 h m s n i mode k0 k1
    · by_cases k2 : 86400000000000 < i
      · exact cr3 h m s n i mode k0 (by omega) k2
      · by_cases k3 : Int.tmod 86400000000000 i = 0
        · have hm : mode < 1 ∨ 9 < mode := by
            apply Classical.byContradiction; intro q
            exact k ⟨k0, by omega, by omega, k3, by omega, by omega⟩
          exact cr5 h m s n i mode k0 (by omega) (by omega) k3 hm (by unfold I64; omega) (by unfold I64; omega) (by unfold W128; omega) (by unfold W128; omega) (by omega) (by unfold cmpI; rw [if_neg (by omega), if_neg (by omega)])
        · exact cr4 h m s n i mode k0 (by omega) (by omega) k3
  · exact cr1 h m s n i mode k0
theorem zround_no (k : ¬ (tOk h m s n ∧ rOk i mode)) : Fn 27 [] [tv h m s n, .int .i64 i, .int .i64 mode] bad6 := by
  by_cases k0 : tOk h m s n
  · have t := tnan_bd k0
    by_cases k1 : i < 1
    · exact zr2 h m s n i mode k0 k1
    · by_cases k2 : 86400000000000 < i
      · exact zr3 h m s n i mode k0 (by omega) k2
      · by_cases k3 : Int.tmod 86400000000000 i = 0
        · have hm : mode < 1 ∨ 9 < mode := by
            apply Classical.byContradiction; intro q
            exact k ⟨k0, by omega, by omega, k3, by omega, by omega⟩
          exact zr5 h m s n i mode k0 (by omega) (by omega) k3 hm (by unfold I64; omega) (by unfold I64; omega)
        · exact zr4 h m s n i mode k0 (by omega) (by omega) k3
  · exact zr1 h m s n i mode k0
theorem law_crounds (h' m' s' n' : Int) (W : World) :
    Calls Try.prog 3 #[tv h m s n, tv h' m' s' n', .int .i64 i, .int .i64 mode] W fun e w' => e = .returned (.bool true) ∧ Below W.heap.size W w' := by
  by_cases k : tOk h m s n ∧ rOk i mode
  · exact rounds_v h m s n i mode h' m' s' n' _ _ _ _ _ _ (cround_yes h m s n i mode k.1 k.2) (zround_yes h m s n i mode k.1 k.2) W (zall_nil W)
  · exact rounds_v h m s n i mode h' m' s' n' _ _ _ _ _ _ (cround_no h m s n i mode k) (zround_no h m s n i mode k) W (zall_nil W)
end
end Go.Proofs.Ytcndfpfjckkinaa
