/-
  What every right program answers: alive of layer 2.
-/
import Derived.Test.YtmkddcmfofabbaaOf
import Derived.Test.YtmkddcmfofabbaaText
namespace Go.Proofs.Ytmkddcmfofabbaa
open Go Go.RowKit

def Xm : Int := (-9223372036854775808) * (-9223372036854775808)
theorem hi_Xm : hi Xm = 4611686018427387904 := by unfold hi Xm; decide
theorem lo_Xm : lo Xm = 0 := by unfold lo Xm; decide
theorem liv_mul (w : World) : Calls Try.prog 30 #[.int .i64 (-9223372036854775808), .int .i64 (-9223372036854775808)] w (fun e w' => e = .returned (.agg #[.int .i64 (hi Xm), .int .u64 (lo Xm)]) ∧ Ext w w') :=
  wmul _ _ w (by unfold I64; omega) (by unfold I64; omega)
theorem liv_of (n : Int) (w : World) (h : I64 n) : Calls Try.prog 32 #[.int .i64 n] w (fun e w' => e = .returned (.agg #[.int .i64 (hi n), .int .u64 (lo n)]) ∧ Ext w w') := of_pure n w h.1 h.2
theorem wint_yes (n : Int) (w : World) (h : I64 n) :
    Calls Try.prog 33 #[.agg #[.int .i64 (hi n), .int .u64 (lo n)]] w (fun e w' => e = .returned (.tuple #[.int .i64 n, .bool true]) ∧ Ext w w') := by
  have := wint n w
  rwa [show t64 n = n from if_pos h, decide_eq_true h] at this
theorem txt_m1 : txt (-1) = [45, 49] := by
  rw [txt_neg (by omega), show (-1 : Int).natAbs = 1 from rfl, decs_lt (by omega)]; rfl
theorem liv_text (w : World) : Calls Try.prog 29 #[.agg #[.int .i64 (hi (-1)), .int .u64 (lo (-1))]] w (fun e w' => e = .returned (.string { data := #[45, 49] }) ∧ Ext w w') := by
  have := wtext (-1) w (by unfold W128; omega)
  rwa [txt_m1, show strOfNums [45, 49] = { data := #[45, 49] } from rfl] at this

set_option maxRecDepth 100000 in
set_option maxHeartbeats 1600000 in
theorem alive2 (w : World) : Calls Try.prog 31 #[] w (fun e w' => e = .returned (.bool true) ∧ Ext w w') := by
  have H1 := Lib.hid liv_mul
  have H2 := Lib.hid liv_of
  have H3 := Lib.hid wint_yes
  have H4 := Lib.hid liv_text
  have g1 : (hi Xm == 4611686018427387904) = true := by rw [hi_Xm]; rfl
  have g2 : (lo Xm == 0) = true := by rw [lo_Xm]; rfl
  go_enter Try.func31, Try.ntmps31
  go_wp2_with fail
  refine (H1.out _).mono ?_
  rintro e w1 ⟨rfl, x1⟩
  go_wp2_with fail
  refine (H2.out _ _ (by unfold I64; omega)).mono ?_
  rintro e w2 ⟨rfl, x2⟩
  go_wp2_with fail
  refine (H3.out _ _ (by unfold I64; omega)).mono ?_
  rintro e w3 ⟨rfl, x3⟩
  have q := ((Box2.new (w := w1) (u := .int .i64 (hi Xm)) (v := .int .u64 (lo Xm)) (t := 26) rfl).ext x2).ext x3
  have q0 := q.c0
  have q1 := q.c1
  go_wp2_with fail
  refine (H2.out _ _ (by unfold I64; omega)).mono ?_
  rintro e w4 ⟨rfl, x4⟩
  go_wp2_with fail
  refine (H4.out _).mono ?_
  rintro e w5 ⟨rfl, x5⟩
  go_wp2_with fail
  go_ret
  exact ⟨rfl, (by repeat (first | exact Ext.refl _ | refine Ext.alloc ?_ | refine Ext.drew ?_ | refine Ext.drewN ?_ | refine Ext.set ?_ (Ext.size ?_) | refine Ext.set ?_ (Ext.size1 ?_) | refine Ext.set ?_ (Ext.size2 ?_) | refine Ext.trans ?_ (by assumption)))⟩
end Go.Proofs.Ytmkddcmfofabbaa
