/-
  The reference's Fits: is a number one of 64 bits?
-/
import Derived.Test.YtmkddcmfofabbaaWc
import Derived.Test.YtmkddcmfofabbaaZh
import Derived.BigQuiet
namespace Go.Proofs.Ytmkddcmfofabbaa
open Go Go.RowKit

/-- 2 to the power k. -/
def P (k : Nat) : Int := 2 ^ k
theorem P63 : P 63 = 9223372036854775808 := by unfold P; decide
theorem P64 : P 64 = 18446744073709551616 := by unfold P; decide
theorem P127 : P 127 = 170141183460469231731687303715884105728 := by unfold P; decide
theorem Bits.P (k : Nat) : Bits (k + 1) (P k) := Bits.pow k
theorem power63 (w : World) : Calls Try.prog 94 #[.int .i64 63] w (RetZ w (P 63)) := power_any 63 w (by omega)
theorem power64 (w : World) : Calls Try.prog 94 #[.int .i64 64] w (RetZ w (P 64)) := power_any 64 w (by omega)
theorem power127 (w : World) : Calls Try.prog 94 #[.int .i64 127] w (RetZ w (P 127)) := power_any 127 w (by omega)

theorem dg_drop (ds : List Int) (k : Nat) (h : k < ds.length) : val (ds.drop k) = dg ds k + 65536 * val (ds.drop (k + 1)) := by
  rw [List.drop_eq_getElem_cons h, val, dg_eq, List.getD, List.getElem?_eq_getElem h]; rfl
theorem drop_le {ds : List Int} (h : Digs ds) (k : Nat) : 0 ≤ val (ds.drop k) ∧ val (ds.drop k) ≤ val ds := by
  refine ⟨val_nonneg (h.drop k), ?_⟩
  by_cases hk : k ≤ ds.length
  · have e := val_take_drop ds k hk
    have h0 := pre_nonneg h k
    have h1 := val_nonneg (h.drop k)
    have h2 := B_pos k
    have : val (ds.drop k) ≤ B k * val (ds.drop k) := by
      have := Int.mul_le_mul_of_nonneg_right h2 h1
      omega
    omega
  · rw [List.drop_eq_nil_of_le (by omega)]
    exact val_nonneg h
/-- What is read when the digits from k on are. -/
def up (neg : Bool) (ds : List Int) (k : Nat) : Int := sgn neg (val (ds.drop k))
theorem up_len (neg : Bool) (ds : List Int) : up neg ds ds.length = 0 := by unfold up; rw [List.drop_length]; cases neg <;> rfl
theorem up_zero (neg : Bool) (ds : List Int) : up neg ds 0 = sgn neg (val ds) := rfl
theorem up_step {ds : List Int} {neg : Bool} {n : Int} (dd : Digs ds) (hv : n = sgn neg (val ds)) (hI : I64 n) (k : Nat) (hk : k < ds.length) :
    (-9223372036854775808 ≤ up neg ds (k + 1) * 65536 ∧ up neg ds (k + 1) * 65536 ≤ 9223372036854775807) ∧ up neg ds k = up neg ds (k + 1) * 65536 + sgn neg (dg ds k) ∧
    (-9223372036854775808 ≤ up neg ds k ∧ up neg ds k ≤ 9223372036854775807) := by
  obtain ⟨a1, a2⟩ := drop_le dd k
  have a3 := val_nonneg (dd.drop (k + 1))
  have a4 := dg_drop ds k hk
  obtain ⟨a5, a6⟩ := dd k
  unfold I64 at hI
  unfold up
  cases neg <;> simp only [sgn, Bool.false_eq_true, if_false, if_true] at * <;> omega

def Fit64 (w : World) (n : Int) (e : Ending) (w' : World) : Prop := e = .returned (.tuple #[.int .i64 (t64 n), .bool (decide (I64 n))]) ∧ Ext w w'
theorem fit64_no {w w' : World} {n : Int} (h : ¬ I64 n) (x : Ext w w') : Fit64 w n (.returned (.tuple #[.int .i64 0, .bool false])) w' := by
  refine ⟨?_, x⟩
  rw [show t64 n = 0 from if_neg h, decide_eq_false h]
theorem fit64_yes {w w' : World} {n m : Int} (h : I64 n) (e : m = n) (x : Ext w w') : Fit64 w n (.returned (.tuple #[.int .i64 m, .bool true])) w' := by
  refine ⟨?_, x⟩
  rw [show t64 n = n from if_pos h, decide_eq_true h, e]

set_option maxRecDepth 100000 in
set_option maxHeartbeats 1600000 in
theorem fits_any (na : Bool) (aa : Option Addr) (la ca : Nat) (n : Int) (w : World) (hz : IsZ w na (.slice aa la ca) n) (hb : Bits 1000 n) :
    Calls Try.prog 34 #[.agg #[.bool na, .slice aa la ca]] w (Fit64 w n) := by
  have hA : Box2 (w.alloc (.cells #[.bool na, .slice aa la ca] 37)) w.heap.size (.bool na) (.slice aa la ca) 37 := Box2.new rfl
  have xA : Ext w (w.alloc (.cells #[.bool na, .slice aa la ca] 37)) := (Ext.refl w).alloc
  have HP := Lib.hid P63
  have hf : Fit n := hb.fit (by omega)
  have f63 : Fit (P 63) := (Bits.P 63).fit (by omega)
  by_cases h1 : P 63 ≤ n
  · have hc := (cmpI_ge n (P 63)).2 h1
    have hno : ¬ I64 n := by rw [P63] at h1; unfold I64; omega
    clear h1
    go_enter Try.func34, Try.ntmps34
    go_wp2_with fail
    go_region_with (first
      | (go_at_call 94; refine (power63 _).mono ?_; rintro e w1 ⟨n1, a1, l1, c1, rfl, hz1, hb1⟩; have x1 : Ext _ w1 := hb1; have p := (hA.drew.ext x1); have p0 := p.c0; have p1 := p.c1)
      | (go_at_call 37; refine (cmp_z _ _ _ _ _ _ _ _ n (P 63) _ ((hz.ext xA.drew).ext x1) hz1 hf f63).mono ?_; rintro e w2 ⟨rfl, hb2⟩; have x2 : Ext _ w2 := hb2))
    all_goals
      go_wp2_with fail
      go_ret2
      exact fit64_no hno (by exact Ext.trans (Ext.trans xA.drew x1) x2)
  · have h1' : n < P 63 := by omega
    have hc : ¬ 0 ≤ cmpI n (P 63) := fun h => h1 ((cmpI_ge n (P 63)).1 h)
    have hc' : decide (0 ≤ cmpI n (P 63)) = false := decide_eq_false hc
    have hcl := cmpI_lt h1'
    by_cases h2 : n < -P 63
    · have hd : cmpI n (-P 63) < 0 := by have := cmpI_ge n (-P 63); omega
      have hno : ¬ I64 n := by rw [P63] at h2; unfold I64; omega
      clear h1 h1' h2 hcl
      go_enter Try.func34, Try.ntmps34
      go_wp2_with fail
      go_region_held3 (fun w' => w'.cell? ⟨w.heap.size, 0, none⟩ = some (.bool na) ∧ w'.cell? ⟨w.heap.size, 1, none⟩ = some (.slice aa la ca))
        (first
          | exact ⟨(((((hA.drew.ext x1).ext x2).ext x3).ext x4).ext x5).c0, (((((hA.drew.ext x1).ext x2).ext x3).ext x4).ext x5).c1⟩
          | exact ⟨((((hA.drew.ext x1).ext x2).ext x3).ext x4).c0, ((((hA.drew.ext x1).ext x2).ext x3).ext x4).c1⟩
          | exact ⟨(((hA.drew.ext x1).ext x2).ext x3).c0, (((hA.drew.ext x1).ext x2).ext x3).c1⟩
          | exact ⟨((hA.drew.ext x1).ext x2).c0, ((hA.drew.ext x1).ext x2).c1⟩
          | exact ⟨(hA.drew.ext x1).c0, (hA.drew.ext x1).c1⟩
          | exact ⟨hA.drew.c0, hA.drew.c1⟩)
        (first
          | (go_at_call 50; refine (neg_any _ _ _ _ (P 63) _ hz3 f63).mono ?_; rintro e w4 ⟨n4, a4, l4, c4, rfl, hz4, hb4⟩; have x4 : Ext _ w4 := hb4)
          | (have := x4; go_at_call 37; refine (cmp_z _ _ _ _ _ _ _ _ n (-P 63) _ (((((hz.ext xA.drew).ext x1).ext x2).ext x3).ext x4) hz4 hf f63.neg).mono ?_; rintro e w5 ⟨rfl, hb5⟩; have x5 : Ext _ w5 := hb5)
          | (have := x2; go_at_call 94; refine (power63 _).mono ?_; rintro e w3 ⟨n3, a3, l3, c3, rfl, hz3, hb3⟩; have x3 : Ext _ w3 := hb3)
          | (go_at_call 94; refine (power63 _).mono ?_; rintro e w1 ⟨n1, a1, l1, c1, rfl, hz1, hb1⟩; have x1 : Ext _ w1 := hb1)
          | (go_at_call 37; refine (cmp_z _ _ _ _ _ _ _ _ n (P 63) _ ((hz.ext xA.drew).ext x1) hz1 hf f63).mono ?_; rintro e w2 ⟨rfl, hb2⟩; have x2 : Ext _ w2 := hb2))
      go_wp2_with fail
      go_ret2
      exact fit64_no hno (by exact Ext.trans (Ext.trans (Ext.trans (Ext.trans (Ext.trans xA.drew x1) x2) x3) x4) x5)
    · have hd : ¬ cmpI n (-P 63) < 0 := by have := cmpI_ge n (-P 63); omega
      have hd' : decide (cmpI n (-P 63) < 0) = false := decide_eq_false hd
      have hI : I64 n := by rw [P63] at h1' h2; unfold I64; omega
      clear h1 h1' h2 hcl
      go_enter Try.func34, Try.ntmps34
      go_wp2_with fail
      go_region_held3 (fun w' => w'.cell? ⟨w.heap.size, 0, none⟩ = some (.bool na) ∧ w'.cell? ⟨w.heap.size, 1, none⟩ = some (.slice aa la ca))
        (first
          | exact ⟨(((((hA.drew.ext x1).ext x2).ext x3).ext x4).ext x5).c0, (((((hA.drew.ext x1).ext x2).ext x3).ext x4).ext x5).c1⟩
          | exact ⟨((((hA.drew.ext x1).ext x2).ext x3).ext x4).c0, ((((hA.drew.ext x1).ext x2).ext x3).ext x4).c1⟩
          | exact ⟨(((hA.drew.ext x1).ext x2).ext x3).c0, (((hA.drew.ext x1).ext x2).ext x3).c1⟩
          | exact ⟨((hA.drew.ext x1).ext x2).c0, ((hA.drew.ext x1).ext x2).c1⟩
          | exact ⟨(hA.drew.ext x1).c0, (hA.drew.ext x1).c1⟩
          | exact ⟨hA.drew.c0, hA.drew.c1⟩)
        (first
          | (go_at_call 50; refine (neg_any _ _ _ _ (P 63) _ hz3 f63).mono ?_; rintro e w4 ⟨n4, a4, l4, c4, rfl, hz4, hb4⟩; have x4 : Ext _ w4 := hb4)
          | (have := x4; go_at_call 37; refine (cmp_z _ _ _ _ _ _ _ _ n (-P 63) _ (((((hz.ext xA.drew).ext x1).ext x2).ext x3).ext x4) hz4 hf f63.neg).mono ?_; rintro e w5 ⟨rfl, hb5⟩; have x5 : Ext _ w5 := hb5)
          | (have := x2; go_at_call 94; refine (power63 _).mono ?_; rintro e w3 ⟨n3, a3, l3, c3, rfl, hz3, hb3⟩; have x3 : Ext _ w3 := hb3)
          | (go_at_call 94; refine (power63 _).mono ?_; rintro e w1 ⟨n1, a1, l1, c1, rfl, hz1, hb1⟩; have x1 : Ext _ w1 := hb1)
          | (go_at_call 37; refine (cmp_z _ _ _ _ _ _ _ _ n (P 63) _ ((hz.ext xA.drew).ext x1) hz1 hf f63).mono ?_; rintro e w2 ⟨rfl, hb2⟩; have x2 : Ext _ w2 := hb2))
      have hA5 := ((((hA.drew.ext x1).ext x2).ext x3).ext x4).ext x5
      have xW : Ext w w5 := Ext.trans (Ext.trans (Ext.trans (Ext.trans (Ext.trans xA.drew x1) x2) x3) x4) x5
      have hz5 := hz.ext xW
      clear hc hc' hd hd' hz1 hz3 hz4 x1 x2 x3 x4 x5 hb1 hb2 hb3 hb4 hb5 HP f63 xA hA hz hb
      obtain ⟨ds, ⟨a, ca', ba, oa, e, hca, hxa, hxc⟩, dd, td, hv, hneg⟩ := hz5
      simp only [Value.slice.injEq] at e
      obtain ⟨rfl, rfl, rfl⟩ := e
      have hll : ds.length ≤ 7000 := by
        have h0 := val_nonneg dd
        have hvv : val ds = n.natAbs := by cases na <;> simp [sgn] at hv <;> omega
        exact tidy_len dd td 7000 (by rw [hvv]; exact hf)
      clear hf
      have e0 := up_len na ds
      have HV := Lib.hid hv
      have p0 := hA5.c0
      have p1 := hA5.c1
      clear hneg td hv
      go_wp2_with fail
      go_loop [4, 5] (fun s i => ∃ k : Nat, k ≤ ds.length ∧ i = .int .i64 ((k : Int) - 1) ∧ s = .int .i64 (up na ds k)) (fun _ i => (intOf i + 1).toNat)
      case atStart => exact ⟨ds.length, Nat.le_refl _, rfl, by rw [e0]⟩
      case round =>
        clear e0
        obtain ⟨k, hk, rfl, rfl⟩ := hrel
        by_cases h0 : k = 0
        · subst h0
          have HW : Hid (up na ds 0 = n) := Lib.hid (by rw [up_zero, ← HV.out])
          clear hxa hxc
          go_wp2_with fail
          go_ret2
          exact fit64_yes hI HW.out xW
        · obtain ⟨j, rfl⟩ : ∃ j, k = j + 1 := ⟨k - 1, by omega⟩
          have hs := up_step dd HV.out hI j (by omega)
          have hix := fun w => at_row (cap := ca) (fun h => (hxa h).1) (j : Int) (by omega) (by omega) w
          have e : ((j + 1 : Nat) : Int) - 1 = j := by omega
          rw [e]
          have hcx := hxc j (by omega)
          obtain ⟨d0, d1⟩ := dd j
          clear hxa e hxc
          obtain ⟨⟨s0, s1⟩, s2, s3, s4⟩ := hs
          rw [s2] at s3 s4
          have S2 := Lib.hid s2
          clear s2
          cases na
          · simp only [sgn, Bool.false_eq_true, if_false] at s3 s4
            go_wp2_with fail
            go_round
            case rel => exact ⟨j, by omega, rfl, by rw [S2.out]; rfl⟩
            case measure => simp [intOf]
          · simp only [sgn, if_true] at s3 s4
            go_wp2_with fail
            go_round
            case rel => exact ⟨j, by omega, rfl, by rw [S2.out]; rfl⟩
            case measure => simp [intOf]
end Go.Proofs.Ytmkddcmfofabbaa
