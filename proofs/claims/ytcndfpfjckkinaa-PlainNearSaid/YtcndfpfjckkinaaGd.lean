/-
  The reference's Fits: is a number one of 64 bits?
-/
import Derived.Test.YtcndfpfjckkinaaGc
import Derived.Test.YtcndfpfjckkinaaZh
import Derived.BigQuiet
import Derived.Deep.DeepCutAuto
namespace Go.Proofs.Ytcndfpfjckkinaa
open Go Go.RowKit

/-- 2 to the power k. -/
def P (k : Nat) : Int := 2 ^ k
theorem P63 : P 63 = 9223372036854775808 := by unfold P; decide
theorem P64 : P 64 = 18446744073709551616 := by unfold P; decide
theorem P127 : P 127 = 170141183460469231731687303715884105728 := by unfold P; decide
theorem Bits.P (k : Nat) : Bits (k + 1) (P k) := Bits.pow k
theorem power63 (w : World) : Calls Try.prog 126 #[.int .i64 63] w (RetZ w (P 63)) := power_any 63 w (by omega)
theorem power64 (w : World) : Calls Try.prog 126 #[.int .i64 64] w (RetZ w (P 64)) := power_any 64 w (by omega)
theorem power127 (w : World) : Calls Try.prog 126 #[.int .i64 127] w (RetZ w (P 127)) := power_any 127 w (by omega)

theorem dg_drop (ds : List Int) (k : Nat) (h : k < ds.length) : val (ds.drop k) = dg ds k + 65536 * val (ds.drop (k + 1)) := by
  rw [List.drop_eq_getElem_cons h, val, dg_eq, List.getD, List.getElem?_eq_getElem h]; rfl
theorem drop_le {ds : List Int} (h : Digs ds) (k : Nat) : 0 ≤ val (ds.drop k) ∧ val (ds.drop k) ≤ val ds := by
  refine ⟨val_nonneg (h.drop k), ?_⟩
  by_cases hk : k ≤ ds.length
  · have e := val_take_drop ds k hk
    have h0 := pre_nonneg h k
    have h1 := val_nonneg (h.drop k)
    have h2 := B_pos k
    have : val (ds.drop k) ≤ B k * val (ds.drop k) := by
      have := Int.mul_le_mul_of_nonneg_right h2 h1
      omega
    omega
  · rw [List.drop_eq_nil_of_le (by omega)]
    exact val_nonneg h
/-- What is read when the digits from k on are. -/
def up (neg : Bool) (ds : List Int) (k : Nat) : Int := sgn neg (val (ds.drop k))
theorem up_len (neg : Bool) (ds : List Int) : up neg ds ds.length = 0 := by unfold up; rw [List.drop_length]; cases neg <;> rfl
theorem up_zero (neg : Bool) (ds : List Int) : up neg ds 0 = sgn neg (val ds) := rfl
theorem up_step {ds : List Int} {neg : Bool} {n : Int} (dd : Digs ds) (hv : n = sgn neg (val ds)) (hI : I64 n) (k : Nat) (hk : k < ds.length) :
    (-9223372036854775808 ≤ up neg ds (k + 1) * 65536 ∧ up neg ds (k + 1) * 65536 ≤ 9223372036854775807) ∧ up neg ds k = up neg ds (k + 1) * 65536 + sgn neg (dg ds k) ∧
    (-9223372036854775808 ≤ up neg ds k ∧ up neg ds k ≤ 9223372036854775807) := by
  obtain ⟨a1, a2⟩ := drop_le dd k
  have a3 := val_nonneg (dd.drop (k + 1))
  have a4 := dg_drop ds k hk
  obtain ⟨a5, a6⟩ := dd k
  unfold I64 at hI
  unfold up
  cases neg <;> simp only [sgn, Bool.false_eq_true, if_false, if_true] at * <;> omega

def Fit64 (w : World) (n : Int) (e : Ending) (w' : World) : Prop := e = .returned (.tuple #[.int .i64 (t64 n), .bool (decide (I64 n))]) ∧ Ext w w'
theorem fit64_no {w w' : World} {n : Int} (h : ¬ I64 n) (x : Ext w w') : Fit64 w n (.returned (.tuple #[.int .i64 0, .bool false])) w' := by
  refine ⟨?_, x⟩
  rw [show t64 n = 0 from if_neg h, decide_eq_false h]
theorem fit64_yes {w w' : World} {n m : Int} (h : I64 n) (e : m = n) (x : Ext w w') : Fit64 w n (.returned (.tuple #[.int .i64 m, .bool true])) w' := by
  refine ⟨?_, x⟩
  rw [show t64 n = n from if_pos h, decide_eq_true h, e]

set_option maxRecDepth 100000 in
set_option maxHeartbeats 1600000 in
theorem fits_any (na : Bool) (aa : Option Addr) (la ca : Nat) (n : Int) (w : World) (hz : IsZ w na (.slice aa la ca) n) (hb : Bits 1000 n) :
    Calls Try.prog 111 #[.agg #[.bool na, .slice aa la ca]] w (Fit64 w n) := by
  have hA : Box2 (w.alloc (.cells #[.bool na, .slice aa la ca] 47)) w.heap.size (.bool na) (.slice aa la ca) 47 := Box2.new rfl
  have xA : Ext w (w.alloc (.cells #[.bool na, .slice aa la ca] 47)) := (Ext.refl w).alloc
  have HP := Lib.hid P63
  have hf : Fit n := hb.fit (by omega)
  have f63 : Fit (P 63) := (Bits.P 63).fit (by omega)
  by_cases h1 : P 63 ≤ n
  · have hc := (cmpI_ge n (P 63)).2 h1
    have hno : ¬ I64 n := by rw [P63] at h1; unfold I64; omega
    clear h1
    go_enter Try.func111, Try.ntmps111
    go_wp2_with fail
    go_region_with (first
      | (go_at_call 126; refine (power63 _).mono ?_; rintro e w1 ⟨n1, a1, l1, c1, rfl, hz1, hb1⟩; have x1 : Ext _ w1 := hb1; have p := (hA.drew.ext x1); have p0 := p.c0; have p1 := p.c1)
      | (go_at_call 45; refine (cmp_z _ _ _ _ _ _ _ _ n (P 63) _ ((hz.ext xA.drew).ext x1) hz1 hf f63).mono ?_; rintro e w2 ⟨rfl, hb2⟩; have x2 : Ext _ w2 := hb2))
    all_goals
      go_wp2_with fail
      go_ret2
      exact fit64_no hno (by exact Ext.trans (Ext.trans xA.drew x1) x2)
  · have h1' : n < P 63 := by omega
    have hc : ¬ 0 ≤ cmpI n (P 63) := fun h => h1 ((cmpI_ge n (P 63)).1 h)
    have hc' : decide (0 ≤ cmpI n (P 63)) = false := decide_eq_false hc
    have hcl := cmpI_lt h1'
    by_cases h2 : n < -P 63
    · have hd : cmpI n (-P 63) < 0 := by have := cmpI_ge n (-P 63); omega
      have hno : ¬ I64 n := by rw [P63] at h2; unfold I64; omega
      clear h1 h1' h2 hcl
      go_enter Try.func111, Try.ntmps111
      go_wp2_with fail
      go_region_held3 (fun w' => w'.cell? ⟨w.heap.size, 0, none⟩ = some (.bool na) ∧ w'.cell? ⟨w.heap.size, 1, none⟩ = some (.slice aa la ca))
        (first
          | exact ⟨(((((hA.drew.ext x1).ext x2).ext x3).ext x4).ext x5).c0, (((((hA.drew.ext x1).ext x2).ext x3).ext x4).ext x5).c1⟩
          | exact ⟨((((hA.drew.ext x1).ext x2).ext x3).ext x4).c0, ((((hA.drew.ext x1).ext x2).ext x3).ext x4).c1⟩
          | exact ⟨(((hA.drew.ext x1).ext x2).ext x3).c0, (((hA.drew.ext x1).ext x2).ext x3).c1⟩
          | exact ⟨((hA.drew.ext x1).ext x2).c0, ((hA.drew.ext x1).ext x2).c1⟩
          | exact ⟨(hA.drew.ext x1).c0, (hA.drew.ext x1).c1⟩
          | exact ⟨hA.drew.c0, hA.drew.c1⟩)
        (first
          | (go_at_call 128; refine (neg_any _ _ _ _ (P 63) _ hz3 f63).mono ?_; rintro e w4 ⟨n4, a4, l4, c4, rfl, hz4, hb4⟩; have x4 : Ext _ w4 := hb4)
          | (have := x4; go_at_call 45; refine (cmp_z _ _ _ _ _ _ _ _ n (-P 63) _ (((((hz.ext xA.drew).ext x1).ext x2).ext x3).ext x4) hz4 hf f63.neg).mono ?_; rintro e w5 ⟨rfl, hb5⟩; have x5 : Ext _ w5 := hb5)
          | (have := x2; go_at_call 126; refine (power63 _).mono ?_; rintro e w3 ⟨n3, a3, l3, c3, rfl, hz3, hb3⟩; have x3 : Ext _ w3 := hb3)
          | (go_at_call 126; refine (power63 _).mono ?_; rintro e w1 ⟨n1, a1, l1, c1, rfl, hz1, hb1⟩; have x1 : Ext _ w1 := hb1)
          | (go_at_call 45; refine (cmp_z _ _ _ _ _ _ _ _ n (P 63) _ ((hz.ext xA.drew).ext x1) hz1 hf f63).mono ?_; rintro e w2 ⟨rfl, hb2⟩; have x2 : Ext _ w2 := hb2))
      go_wp2_with fail
      go_ret2
      exact fit64_no hno (by exact Ext.trans (Ext.trans (Ext.trans (Ext.trans (Ext.trans xA.drew x1) x2) x3) x4) x5)
    · have hd : ¬ cmpI n (-P 63) < 0 := by have := cmpI_ge n (-P 63); omega
      have hd' : decide (cmpI n (-P 63) < 0) = false := decide_eq_false hd
      have hI : I64 n := by rw [P63] at h1' h2; unfold I64; omega
      clear h1 h1' h2 hcl
      go_enter Try.func111, Try.ntmps111
      go_wp2_with fail
      go_region_held3 (fun w' => w'.cell? ⟨w.heap.size, 0, none⟩ = some (.bool na) ∧ w'.cell? ⟨w.heap.size, 1, none⟩ = some (.slice aa la ca))
        (first
          | exact ⟨(((((hA.drew.ext x1).ext x2).ext x3).ext x4).ext x5).c0, (((((hA.drew.ext x1).ext x2).ext x3).ext x4).ext x5).c1⟩
          | exact ⟨((((hA.drew.ext x1).ext x2).ext x3).ext x4).c0, ((((hA.drew.ext x1).ext x2).ext x3).ext x4).c1⟩
          | exact ⟨(((hA.drew.ext x1).ext x2).ext x3).c0, (((hA.drew.ext x1).ext x2).ext x3).c1⟩
          | exact ⟨((hA.drew.ext x1).ext x2).c0, ((hA.drew.ext x1).ext x2).c1⟩
          | exact ⟨(hA.drew.ext x1).c0, (hA.drew.ext x1).c1⟩
          | exact ⟨hA.drew.c0, hA.drew.c1⟩)
        (first
          | (go_at_call 128; refine (neg_any _ _ _ _ (P 63) _ hz3 f63).mono ?_; rintro e w4 ⟨n4, a4, l4, c4, rfl, hz4, hb4⟩; have x4 : Ext _ w4 := hb4)
          | (have := x4; go_at_call 45; refine (cmp_z _ _ _ _ _ _ _ _ n (-P 63) _ (((((hz.ext xA.drew).ext x1).ext x2).ext x3).ext x4) hz4 hf f63.neg).mono ?_; rintro e w5 ⟨rfl, hb5⟩; have x5 : Ext _ w5 := hb5)
          | (have := x2; go_at_call 126; refine (power63 _).mono ?_; rintro e w3 ⟨n3, a3, l3, c3, rfl, hz3, hb3⟩; have x3 : Ext _ w3 := hb3)
          | (go_at_call 126; refine (power63 _).mono ?_; rintro e w1 ⟨n1, a1, l1, c1, rfl, hz1, hb1⟩; have x1 : Ext _ w1 := hb1)
          | (go_at_call 45; refine (cmp_z _ _ _ _ _ _ _ _ n (P 63) _ ((hz.ext xA.drew).ext x1) hz1 hf f63).mono ?_; rintro e w2 ⟨rfl, hb2⟩; have x2 : Ext _ w2 := hb2))
      have hA5 := ((((hA.drew.ext x1).ext x2).ext x3).ext x4).ext x5
      have xW : Ext w w5 := Ext.trans (Ext.trans (Ext.trans (Ext.trans (Ext.trans xA.drew x1) x2) x3) x4) x5
      have hz5 := hz.ext xW
      clear hc hc' hd hd' hz1 hz3 hz4 x1 x2 x3 x4 x5 hb1 hb2 hb3 hb4 hb5 HP f63 xA hA hz hb
      obtain ⟨ds, ⟨a, ca', ba, oa, e, hca, hxa, hxc⟩, dd, td, hv, hneg⟩ := hz5
      simp only [Value.slice.injEq] at e
      obtain ⟨rfl, rfl, rfl⟩ := e
      have hll : ds.length ≤ 7000 := by
        have h0 := val_nonneg dd
        have hvv : val ds = n.natAbs := by cases na <;> simp [sgn] at hv <;> omega
        exact tidy_len dd td 7000 (by rw [hvv]; exact hf)
      clear hf
      have e0 := up_len na ds
      have HV := Lib.hid hv
      have p0 := hA5.c0
      have p1 := hA5.c1
      clear hneg td hv
      go_wp2_with fail
      go_loop [4, 5] (fun s i => ∃ k : Nat, k ≤ ds.length ∧ i = .int .i64 ((k : Int) - 1) ∧ s = .int .i64 (up na ds k)) (fun _ i => (intOf i + 1).toNat)
      case atStart => exact ⟨ds.length, Nat.le_refl _, rfl, by rw [e0]⟩
      case round =>
        clear e0
        obtain ⟨k, hk, rfl, rfl⟩ := hrel
        by_cases h0 : k = 0
        · subst h0
          have HW : Hid (up na ds 0 = n) := Lib.hid (by rw [up_zero, ← HV.out])
          clear hxa hxc
          go_wp2_with fail
          go_ret2
          exact fit64_yes hI HW.out xW
        · obtain ⟨j, rfl⟩ : ∃ j, k = j + 1 := ⟨k - 1, by omega⟩
          have hs := up_step dd HV.out hI j (by omega)
          have hix := fun w => at_row (cap := ca) (fun h => (hxa h).1) (j : Int) (by omega) (by omega) w
          have e : ((j + 1 : Nat) : Int) - 1 = j := by omega
          rw [e]
          have hcx := hxc j (by omega)
          obtain ⟨d0, d1⟩ := dd j
          clear hxa e hxc
          obtain ⟨⟨s0, s1⟩, s2, s3, s4⟩ := hs
          rw [s2] at s3 s4
          have S2 := Lib.hid s2
          clear s2
          cases na
          · simp only [sgn, Bool.false_eq_true, if_false] at s3 s4
            go_wp2_with fail
            go_round
            case rel => exact ⟨j, by omega, rfl, by rw [S2.out]; rfl⟩
            case measure => simp [intOf]
          · simp only [sgn, if_true] at s3 s4
            go_wp2_with fail
            go_round
            case rel => exact ⟨j, by omega, rfl, by rw [S2.out]; rfl⟩
            case measure => simp [intOf]
end Go.Proofs.Ytcndfpfjckkinaa

/-
  The reference's wide numbers: Fits of layer 2.
-/
namespace Go.Proofs.Ytcndfpfjckkinaa
open Go Go.RowKit

def FitW (w : World) (n : Int) (e : Ending) (w' : World) : Prop := e = .returned (.tuple #[.agg #[.int .i64 (thi n), .int .u64 (tlo n)], .bool (decide (W128 n))]) ∧ Ext w w'
theorem fitW_no {w w' : World} {n : Int} (h : ¬ W128 n) (x : Ext w w') : FitW w n (.returned (.tuple #[.agg #[.int .i64 0, .int .u64 0], .bool false])) w' := by
  refine ⟨?_, x⟩
  rw [thi_no h, tlo_no h, decide_eq_false h]
theorem fitW_yes {w w' : World} {n a b : Int} (h : W128 n) (ha : a = hi n) (hb : b = lo n) (x : Ext w w') : FitW w n (.returned (.tuple #[.agg #[.int .i64 a, .int .u64 b], .bool true])) w' := by
  refine ⟨?_, x⟩
  rw [thi_yes h, tlo_yes h, decide_eq_true h, ha, hb]
theorem hi_fdiv (n : Int) : n.fdiv (P 64) = hi n := by rw [P64, Int.fdiv_eq_ediv_of_nonneg _ (by omega)]; rfl
theorem lo_fmod (n : Int) : n.fmod (P 64) = lo n := by rw [P64, Int.fmod_eq_emod_of_nonneg _ (by omega)]; rfl
theorem upu_step {ds : List Int} {n : Int} (dd : Digs ds) (hv : n = sgn false (val ds)) (h1 : n < 18446744073709551616) (k : Nat) (hk : k < ds.length) :
    (0 ≤ up false ds (k + 1) * 65536 ∧ up false ds (k + 1) * 65536 < 18446744073709551616) ∧ up false ds k = up false ds (k + 1) * 65536 + dg ds k ∧
    (0 ≤ up false ds k ∧ up false ds k < 18446744073709551616) := by
  obtain ⟨a1, a2⟩ := drop_le dd k
  have a3 := val_nonneg (dd.drop (k + 1))
  have a4 := dg_drop ds k hk
  obtain ⟨a5, a6⟩ := dd k
  unfold up
  simp only [sgn, Bool.false_eq_true, if_false] at *
  omega

set_option maxRecDepth 100000 in
set_option maxHeartbeats 1600000 in
theorem fitw_any (na : Bool) (aa : Option Addr) (la ca : Nat) (n : Int) (w : World) (hz : IsZ w na (.slice aa la ca) n) (hb : Bits 1000 n) :
    Calls Try.prog 36 #[.agg #[.bool na, .slice aa la ca]] w (FitW w n) := by
  have HP := Lib.hid P127
  have hf : Fit n := hb.fit (by omega)
  have f127 : Fit (P 127) := (Bits.P 127).fit (by omega)
  by_cases h1 : P 127 ≤ n
  · have hc := (cmpI_ge n (P 127)).2 h1
    have hno : ¬ W128 n := by rw [P127] at h1; unfold W128; omega
    have hA : Box2 ((w.alloc (.cells #[.bool na, .slice aa la ca] 47)).alloc (.cells #[.int .i64 0, .int .u64 0] 38)) w.heap.size (.bool na) (.slice aa la ca) 47 := (Box2.new rfl).alloc _
    have hR : Box2 ((w.alloc (.cells #[.bool na, .slice aa la ca] 47)).alloc (.cells #[.int .i64 0, .int .u64 0] 38)) (w.heap.size + 1) (.int .i64 0) (.int .u64 0) 38 := Box2.new (by simp)
    have xA : Ext w ((w.alloc (.cells #[.bool na, .slice aa la ca] 47)).alloc (.cells #[.int .i64 0, .int .u64 0] 38)) := (Ext.refl w).alloc.alloc
    clear h1
    go_enter Try.func36, Try.ntmps36
    go_wp2_with fail
    go_region_with (first
      | (go_at_call 126; refine (power127 _).mono ?_; rintro e w1 ⟨n1, a1, l1, c1, rfl, hz1, hb1⟩; have x1 : Ext _ w1 := hb1; have p := (hA.drew.ext x1); have p0 := p.c0; have p1 := p.c1)
      | (go_at_call 45; refine (cmp_z _ _ _ _ _ _ _ _ n (P 127) _ ((hz.ext xA.drew).ext x1) hz1 hf f127).mono ?_; rintro e w2 ⟨rfl, hb2⟩; have x2 : Ext _ w2 := hb2; have q := (hR.drew.ext x1).ext x2; have q0 := q.c0; have q1 := q.c1; have q2 := q.f0; have q3 := q.f1))
    all_goals
      go_wp2_with fail
      refine bodyPost_ret (v := .tuple #[.agg #[.int .i64 0, .int .u64 0], .bool false]) (by simp [results, Try.results36, go_sem, q0, q1]) rfl (fitW_no hno (Ext.set (Ext.set (Ext.trans (Ext.trans xA.drew x1) x2) (by omega)) (by omega)))
  · have h1' : n < P 127 := by omega
    have hc : ¬ 0 ≤ cmpI n (P 127) := fun h => h1 ((cmpI_ge n (P 127)).1 h)
    have hc' : decide (0 ≤ cmpI n (P 127)) = false := decide_eq_false hc
    have hcl := cmpI_lt h1'
    by_cases h2 : n < -P 127
    · have hd : cmpI n (-P 127) < 0 := by have := cmpI_ge n (-P 127); omega
      have hno : ¬ W128 n := by rw [P127] at h2; unfold W128; omega
      clear h1 h1' h2 hcl
      go_enter Try.func36, Try.ntmps36
      go_wp2_with fail
      obtain ⟨W, hW⟩ : ∃ W, W = (w.alloc (.cells #[.bool na, .slice aa la ca] 47)).alloc (.cells #[.int .i64 0, .int .u64 0] 38) := ⟨_, rfl⟩
      rw [← hW]
      have hA : Box2 W w.heap.size (.bool na) (.slice aa la ca) 47 := by rw [hW]; exact (Box2.new rfl).alloc _
      have hR : Box2 W (w.heap.size + 1) (.int .i64 0) (.int .u64 0) 38 := by rw [hW]; exact Box2.new (by simp)
      have xA : Ext w W := by rw [hW]; exact (Ext.refl w).alloc.alloc
      have sW : W.heap.size = w.heap.size + 2 := by rw [hW]; simp
      have SW := Lib.hid sW
      clear hW sW
      go_region_held3 (fun w' => w'.cell? ⟨w.heap.size, 0, none⟩ = some (.bool na) ∧ w'.cell? ⟨w.heap.size, 1, none⟩ = some (.slice aa la ca))
        (first
          | exact ⟨(((((hA.drew.ext x1).ext x2).ext x3).ext x4).ext x5).c0, (((((hA.drew.ext x1).ext x2).ext x3).ext x4).ext x5).c1⟩
          | exact ⟨((((hA.drew.ext x1).ext x2).ext x3).ext x4).c0, ((((hA.drew.ext x1).ext x2).ext x3).ext x4).c1⟩
          | exact ⟨(((hA.drew.ext x1).ext x2).ext x3).c0, (((hA.drew.ext x1).ext x2).ext x3).c1⟩
          | exact ⟨((hA.drew.ext x1).ext x2).c0, ((hA.drew.ext x1).ext x2).c1⟩
          | exact ⟨(hA.drew.ext x1).c0, (hA.drew.ext x1).c1⟩
          | exact ⟨hA.drew.c0, hA.drew.c1⟩)
        (first
          | (go_at_call 128; refine (neg_any _ _ _ _ (P 127) _ hz3 f127).mono ?_; rintro e w4 ⟨n4, a4, l4, c4, rfl, hz4, hb4⟩; have x4 : Ext _ w4 := hb4)
          | (have := x4; go_at_call 45; refine (cmp_z _ _ _ _ _ _ _ _ n (-P 127) _ (((((hz.ext xA.drew).ext x1).ext x2).ext x3).ext x4) hz4 hf f127.neg).mono ?_; rintro e w5 ⟨rfl, hb5⟩; have x5 : Ext _ w5 := hb5)
          | (have := x2; go_at_call 126; refine (power127 _).mono ?_; rintro e w3 ⟨n3, a3, l3, c3, rfl, hz3, hb3⟩; have x3 : Ext _ w3 := hb3)
          | (go_at_call 126; refine (power127 _).mono ?_; rintro e w1 ⟨n1, a1, l1, c1, rfl, hz1, hb1⟩; have x1 : Ext _ w1 := hb1)
          | (go_at_call 45; refine (cmp_z _ _ _ _ _ _ _ _ n (P 127) _ ((hz.ext xA.drew).ext x1) hz1 hf f127).mono ?_; rintro e w2 ⟨rfl, hb2⟩; have x2 : Ext _ w2 := hb2))
      have q := ((((hR.drew.ext x1).ext x2).ext x3).ext x4).ext x5
      have q0 := q.c0
      have q1 := q.c1
      have q2 := q.f0
      have q3 := q.f1
      go_wp2_with fail
      refine bodyPost_ret (v := .tuple #[.agg #[.int .i64 0, .int .u64 0], .bool false]) (by simp [results, Try.results36, go_sem, q0, q1]) rfl (fitW_no hno (Ext.set (Ext.set (Ext.trans (Ext.trans (Ext.trans (Ext.trans (Ext.trans xA.drew x1) x2) x3) x4) x5) (by omega)) (by omega)))
    · have hd : ¬ cmpI n (-P 127) < 0 := by have := cmpI_ge n (-P 127); omega
      have hd' : decide (cmpI n (-P 127) < 0) = false := decide_eq_false hd
      have hI : W128 n := by rw [P127] at h1' h2; unfold W128; omega
      clear h1 h1' h2 hcl
      go_enter Try.func36, Try.ntmps36
      go_wp2_with fail
      obtain ⟨W, hW⟩ : ∃ W, W = (w.alloc (.cells #[.bool na, .slice aa la ca] 47)).alloc (.cells #[.int .i64 0, .int .u64 0] 38) := ⟨_, rfl⟩
      rw [← hW]
      have hA : Box2 W w.heap.size (.bool na) (.slice aa la ca) 47 := by rw [hW]; exact (Box2.new rfl).alloc _
      have hR : Box2 W (w.heap.size + 1) (.int .i64 0) (.int .u64 0) 38 := by rw [hW]; exact Box2.new (by simp)
      have xA : Ext w W := by rw [hW]; exact (Ext.refl w).alloc.alloc
      have sW : W.heap.size = w.heap.size + 2 := by rw [hW]; simp
      have SW := Lib.hid sW
      clear hW sW
      go_region_held3 (fun w' => w'.cell? ⟨w.heap.size, 0, none⟩ = some (.bool na) ∧ w'.cell? ⟨w.heap.size, 1, none⟩ = some (.slice aa la ca))
        (first
          | exact ⟨(((((hA.drew.ext x1).ext x2).ext x3).ext x4).ext x5).c0, (((((hA.drew.ext x1).ext x2).ext x3).ext x4).ext x5).c1⟩
          | exact ⟨((((hA.drew.ext x1).ext x2).ext x3).ext x4).c0, ((((hA.drew.ext x1).ext x2).ext x3).ext x4).c1⟩
          | exact ⟨(((hA.drew.ext x1).ext x2).ext x3).c0, (((hA.drew.ext x1).ext x2).ext x3).c1⟩
          | exact ⟨((hA.drew.ext x1).ext x2).c0, ((hA.drew.ext x1).ext x2).c1⟩
          | exact ⟨(hA.drew.ext x1).c0, (hA.drew.ext x1).c1⟩
          | exact ⟨hA.drew.c0, hA.drew.c1⟩)
        (first
          | (go_at_call 128; refine (neg_any _ _ _ _ (P 127) _ hz3 f127).mono ?_; rintro e w4 ⟨n4, a4, l4, c4, rfl, hz4, hb4⟩; have x4 : Ext _ w4 := hb4)
          | (have := x4; go_at_call 45; refine (cmp_z _ _ _ _ _ _ _ _ n (-P 127) _ (((((hz.ext xA.drew).ext x1).ext x2).ext x3).ext x4) hz4 hf f127.neg).mono ?_; rintro e w5 ⟨rfl, hb5⟩; have x5 : Ext _ w5 := hb5)
          | (have := x2; go_at_call 126; refine (power127 _).mono ?_; rintro e w3 ⟨n3, a3, l3, c3, rfl, hz3, hb3⟩; have x3 : Ext _ w3 := hb3)
          | (go_at_call 126; refine (power127 _).mono ?_; rintro e w1 ⟨n1, a1, l1, c1, rfl, hz1, hb1⟩; have x1 : Ext _ w1 := hb1)
          | (go_at_call 45; refine (cmp_z _ _ _ _ _ _ _ _ n (P 127) _ ((hz.ext xA.drew).ext x1) hz1 hf f127).mono ?_; rintro e w2 ⟨rfl, hb2⟩; have x2 : Ext _ w2 := hb2))
      have hA5 := ((((hA.drew.ext x1).ext x2).ext x3).ext x4).ext x5
      have hR5 := ((((hR.drew.ext x1).ext x2).ext x3).ext x4).ext x5
      have xW : Ext w w5 := Ext.trans (Ext.trans (Ext.trans (Ext.trans (Ext.trans xA.drew x1) x2) x3) x4) x5
      have z5 := (Ext.trans (Ext.trans (Ext.trans (Ext.trans ((Ext.refl W).drew.trans x1) x2) x3) x4) x5).size
      rw [SW.out] at z5
      have hz5 := hz.ext xW
      clear hc hc' hd hd' hz1 hz3 hz4 x1 x2 x3 x4 x5 hb1 hb2 hb3 hb4 hb5 HP f127 xA hA hR hz SW
      go_wp2_with fail
      go_cut [4, 5] (fun s4 s5 wx => ∃ (k4 k5 : Nat) (nq : Bool) (aq : Option Addr) (lq cq : Nat) (nr : Bool) (ar : Option Addr) (lr cr : Nat), s4 = .pointer (some ⟨k4, 0, none⟩) ∧ s5 = .pointer (some ⟨k5, 0, none⟩) ∧
        Box2 wx k4 (.bool nq) (.slice aq lq cq) 47 ∧ Box2 wx k5 (.bool nr) (.slice ar lr cr) 47 ∧ IsZ wx nq (.slice aq lq cq) (n.fdiv (P 64)) ∧ IsZ wx nr (.slice ar lr cr) (n.fmod (P 64)) ∧ Box2 wx (w.heap.size + 1) (.int .i64 0) (.int .u64 0) 38 ∧ Ext w wx)
      case first =>
        refine wp_region_noPanic ?_
        refine wp_region_held_drew (S := fun w' => Ext w5 w') (by kernel_rfl) (Ext.refl w5).drew (fun hHeld => ?_)
        have c0 := fun w' (h : Ext w5 w') => (hA5.ext h).c0
        have c1 := fun w' (h : Ext w5 w') => (hA5.ext h).c1
        refine wpAnyH_take (i := 0) (v := .agg #[.bool na, .slice aa la ca]) rfl (by kernel_rfl) (by kernel_rfl) (by kernel_rfl) (fun _ _ _ h => h) (Or.inl ⟨by kernel_rfl, fun w' h => (by go_simp)⟩) hHeld ?_
        refine region2 (N := 10) (f0 := [0]) (l := [(1, false), (2, false), (3, true), (4, true), (5, true)]) (T := [8, 9]) (iA := 6) (dA := 4) (iB := 7) (dB := 5) (oA := .cells #[.bool false, .slice none 0 0] 47) (oB := .cells #[.bool false, .slice none 0 0] 47) (fun _ _ _ _ _ h => h) (by kernel_rfl) (by kernel_rfl) rfl (by kernel_rfl) (by kernel_rfl)
          (fun K a w h => wpOp_of rfl fun K' hK => (by go_simp; exact hK _ _ h)) (fun K a w h => wpOp_of rfl fun K' hK => (by go_simp; exact hK _ _ h)) (by decide) (by simp [Act.put]) (by simp [Act.put]) (fun _ _ h x => h.trans x) hHeld ?_
        intro a1 v1 h1 y1; obtain ⟨s4, s5, rfl⟩ := away2 h1; refine wpOp_of rfl fun K' hK => ?_; go_simp
        refine (power64 _).mono ?_
        rintro e w1 ⟨n1, a1, l1, c1, rfl, hz1, hb1⟩
        refine hK _ _ ⟨⟨hb1, rfl, slots2 rfl rfl⟩, ?_⟩; clear hK K'
        intro a1 v2 h1 y2; obtain ⟨s4, s5, rfl⟩ := away2 h1; refine wpOp_of rfl fun K' hK => ?_; go_simp
        have x2 : Ext w5 v2 := ((Ext.refl w5).drew.trans y1).trans (Ext.trans hb1 y2)
        refine (div_z _ _ _ _ _ _ _ _ n (P 64) _ (hz5.ext x2) (hz1.ext y2) 1000 (by omega) hb ((Bits.P 64).mono (by omega)) (by rw [P64]; omega)).mono ?_
        rintro e w3 ⟨nq, aq, lq, cq, nr, ar, lr, cr, rfl, hq, hr, hb2⟩
        refine hK _ _ ⟨⟨hb2, rfl, slots2 rfl rfl⟩, ?_⟩; clear hK K'
        have x4 : Ext w5 w3 := x2.trans hb2
        refine ⟨_, .tuple #[.agg #[.bool nq, .slice aq lq cq], .agg #[.bool nr, .slice ar lr cr]], rfl, Or.inl ⟨by rfl, fun w' h => (by go_simp)⟩, by simp, ?_⟩
        refine ⟨_, .agg #[.bool nq, .slice aq lq cq], rfl, Or.inl ⟨by rfl, fun w' h => (by go_simp)⟩, by simp, ?_⟩
        refine ⟨_, .agg #[.bool nr, .slice ar lr cr], rfl, Or.inl ⟨by rfl, fun w' h => (by go_simp)⟩, by simp, ?_⟩
        intro a' w' h y
        obtain ⟨s6, s7, rfl⟩ := away2 h
        rintro k k' ⟨hk1, hk2, hk3⟩ ⟨hl1, hl2, hl3⟩ hne hS'
        have y4 : Ext w3 w' := y
        simp [Act.put] at hk2 hl2
        subst hk2 hl2
        have hk1' : w5.heap.size ≤ k := hk1
        have hl1' : w5.heap.size ≤ k' := hl1
        have hq' := hq.ext y4
        have hr' := hr.ext y4
        have hkb : Box2 w' k (.bool false) (.slice none 0 0) 47 := hk3
        have hlb : Box2 w' k' (.bool false) (.slice none 0 0) 47 := hl3
        have k0 := hkb.c0
        have k1 := hkb.c1
        have k2 := hkb.f0
        have k3 := hkb.f1
        have hBq := hkb.set (.bool nq) (.slice aq lq cq)
        have hBr := hlb.other2 (Ne.symm hne) (.bool nq) (.slice aq lq cq)
        have hSq : Ext w5 ((w'.setCell ⟨k, 0, none⟩ (.bool nq)).setCell ⟨k, 1, none⟩ (.slice aq lq cq)) := (hS'.set hk1).set hk1
        have hqq := hq'.set2 hkb.kind (by decide) (.bool nq) (.slice aq lq cq)
        have hrq := hr'.set2 hkb.kind (by decide) (.bool nq) (.slice aq lq cq)
        have l0 := hBr.c0
        have l1 := hBr.c1
        have l2 := hBr.f0
        have l3 := hBr.f1
        refine wpOp_of rfl fun K' hK => ?_
        go_simp
        refine hK _ _ ⟨hSq, ?_⟩
        clear hK K'
        refine wpOp_of rfl fun K' hK => ?_
        go_simp
        refine hK _ _ ⟨(hSq.set hl1).set hl1, ?_⟩
        clear hK K'
        refine NoPanic.normal ?_
        go_wp2_with fail
        go_meet
        exact ⟨k, k', nq, aq, lq, cq, nr, ar, lr, cr, rfl, rfl, hBq.other2 hne _ _, hBr.set _ _, hqq.set2 hBr.kind (by decide) _ _, hrq.set2 hBr.kind (by decide) _ _, hR5.ext ((hSq.set hl1).set hl1), xW.trans ((hSq.set hl1).set hl1)⟩
      case rest =>
        obtain ⟨k4, k5, nq, aq, lq, cq, nr, ar, lr, cr, rfl, rfl, hQ, hT, hq, hr, hR, xw⟩ := hcut
        rw [hi_fdiv] at hq
        rw [lo_fmod] at hr
        have b0 := hQ.c0
        have b1 := hQ.c1
        clear hA5 hR5 xW z5 hz5
        obtain ⟨g0, g1⟩ := hi_bd hI
        obtain ⟨l0, l1⟩ := lo_bd n
        have hI' : I64 (hi n) := ⟨g0, g1⟩
        have hbh : Bits 64 (hi n) := by unfold Bits; omega
        have hf' : Fit (lo n) := Bits.fit (k := 64) (by unfold Bits; omega) (by omega)
        go_wp2_with fail
        refine (fits_any _ _ _ _ (hi n) _ hq (hbh.mono (by omega))).mono ?_
        rintro e w6 ⟨rfl, x6⟩
        rw [show t64 (hi n) = hi n from if_pos hI', decide_eq_true hI']
        replace hT := hT.ext x6
        replace hR := hR.ext x6
        replace hr := hr.ext x6
        replace xw := Ext.trans xw x6
        clear hQ hq b0 b1 x6 hbh g0 g1 hI' hf hb
        obtain ⟨ds, ⟨a, ca', ba, oa, e, hca, hxa, hxc⟩, dd, td, hv, hneg⟩ := hr
        simp only [Value.slice.injEq] at e
        obtain ⟨rfl, rfl, rfl⟩ := e
        have hnr : nr = false := by rw [hneg]; exact decide_eq_false (by omega)
        subst hnr
        have hll : ds.length ≤ 7000 := by
          have h0 := val_nonneg dd
          have hvv : val ds = (lo n).natAbs := by simp [sgn] at hv; omega
          exact tidy_len dd td 7000 (by rw [hvv]; exact hf')
        clear hf' l0
        have e0 := up_len false ds
        have HV := Lib.hid hv
        have p0 := hT.c0
        have p1 := hT.c1
        have r0 := hR.c0
        have r1 := hR.c1
        have r2 := hR.f0
        have r3 := hR.f1
        clear hneg td hv
        go_wp2_with fail
        go_loop [8, 9] (fun s i => ∃ k : Nat, k ≤ ds.length ∧ i = .int .i64 ((k : Int) - 1) ∧ s = .int .u64 (up false ds k)) (fun _ i => (intOf i + 1).toNat)
        case atStart => exact ⟨ds.length, Nat.le_refl _, rfl, by rw [e0]⟩
        case round =>
          clear e0
          obtain ⟨k, hk, rfl, rfl⟩ := hrel
          by_cases h0 : k = 0
          · subst h0
            have HW : Hid (up false ds 0 = lo n) := Lib.hid (by rw [up_zero, ← HV.out])
            clear hxa hxc l1
            go_wp2_with fail
            refine bodyPost_ret (v := .tuple #[.agg #[.int .i64 (hi n), .int .u64 (up false ds 0)], .bool true]) (by simp [results, Try.results36, go_sem, r0, r1]) rfl (fitW_yes hI rfl HW.out (Ext.set (Ext.set xw (by omega)) (by omega)))
          · obtain ⟨j, rfl⟩ : ∃ j, k = j + 1 := ⟨k - 1, by omega⟩
            have hs := upu_step dd HV.out l1 j (by omega)
            have hix := fun w => at_row (cap := cr) (fun h => (hxa h).1) (j : Int) (by omega) (by omega) w
            have e : ((j + 1 : Nat) : Int) - 1 = j := by omega
            rw [e]
            have hcx := hxc j (by omega)
            obtain ⟨d0, d1⟩ := dd j
            clear hxa e hxc
            obtain ⟨⟨s0, s1⟩, s2, s3, s4⟩ := hs
            rw [s2] at s3 s4
            have S2 := Lib.hid s2
            clear s2 l1
            go_wp2_with fail
            go_round
            case rel => exact ⟨j, by omega, rfl, by rw [S2.out]⟩
            case measure => simp [intOf]
end Go.Proofs.Ytcndfpfjckkinaa

/-
  The reference's wide numbers: Of and Told of layer 2.
-/
namespace Go.Proofs.Ytcndfpfjckkinaa
open Go Go.RowKit

theorem hi_P (n : Int) : hi n * P 64 + lo n = n := by rw [P64]; exact (hi_lo n).symm
theorem W128.bits {n : Int} (h : W128 n) : Bits 128 n := by unfold W128 at h; unfold Bits; omega
theorem I64.bits {n : Int} (h : I64 n) : Bits 64 n := by unfold I64 at h; unfold Bits; omega
theorem I64.w {n : Int} (h : I64 n) : W128 n := by unfold I64 at h; unfold W128; omega
set_option maxRecDepth 100000 in
set_option maxHeartbeats 1600000 in
theorem ofw (n : Int) (w : World) (hn : W128 n) : Calls Try.prog 35 #[.agg #[.int .i64 (hi n), .int .u64 (lo n)]] w (RetZ w n) := by
  obtain ⟨h0, h1⟩ := hi_bd hn
  obtain ⟨L0, L1⟩ := lo_bd n
  have bh : Bits 65 (hi n) := by unfold Bits; omega
  have bl : Bits 65 (lo n) := by unfold Bits; omega
  have bP := Bits.P 64
  have bm := bh.mul bP
  have HS := Lib.hid (hi_P n)
  go_enter Try.func35, Try.ntmps35
  go_wp2_with fail
  obtain ⟨W, hW⟩ : ∃ W, W = (w.alloc (.cells #[.int .i64 (hi n), .int .u64 (lo n)] 38)).alloc (.cells #[.bool false, .slice none 0 0] 47) := ⟨_, rfl⟩
  rw [← hW]
  have hA : Box2 W w.heap.size (.int .i64 (hi n)) (.int .u64 (lo n)) 38 := by rw [hW]; exact (Box2.new rfl).alloc _
  have hR : Box2 W (w.heap.size + 1) (.bool false) (.slice none 0 0) 47 := by rw [hW]; exact Box2.new (by simp)
  have xA : Ext w W := by rw [hW]; exact (Ext.refl w).alloc.alloc
  clear hW
  go_region_held3 (fun w' => w'.cell? ⟨w.heap.size, 0, none⟩ = some (.int .i64 (hi n)) ∧ w'.cell? ⟨w.heap.size, 1, none⟩ = some (.int .u64 (lo n)))
    (first
      | exact ⟨((((((hA.drew.ext x1).ext x2).ext x3).ext x4).ext x5).other2 (by omega) _ _).c0, ((((((hA.drew.ext x1).ext x2).ext x3).ext x4).ext x5).other2 (by omega) _ _).c1⟩
      | exact ⟨(((((hA.drew.ext x1).ext x2).ext x3).ext x4).ext x5).c0, (((((hA.drew.ext x1).ext x2).ext x3).ext x4).ext x5).c1⟩
      | exact ⟨((((hA.drew.ext x1).ext x2).ext x3).ext x4).c0, ((((hA.drew.ext x1).ext x2).ext x3).ext x4).c1⟩
      | exact ⟨(((hA.drew.ext x1).ext x2).ext x3).c0, (((hA.drew.ext x1).ext x2).ext x3).c1⟩
      | exact ⟨((hA.drew.ext x1).ext x2).c0, ((hA.drew.ext x1).ext x2).c1⟩
      | exact ⟨(hA.drew.ext x1).c0, (hA.drew.ext x1).c1⟩
      | exact ⟨hA.drew.c0, hA.drew.c1⟩)
    (first
      | (go_at_call 109; refine (of_any (hi n) _ h0 h1).mono ?_; rintro e w1 ⟨n1, a1, l1, c1, rfl, hz1, hb1⟩; have x1 : Ext _ w1 := hb1)
      | (go_at_call 126; refine (power64 _).mono ?_; rintro e w2 ⟨n2, a2, l2, c2, rfl, hz2, hb2⟩; have x2 : Ext _ w2 := hb2)
      | (go_at_call 112; refine (mul_z _ _ _ _ _ _ _ _ (hi n) (P 64) _ (hz1.ext x2) hz2 (bh.fit (by omega)) (bP.fit (by omega))).mono ?_; rintro e w3 ⟨n3, a3, l3, c3, rfl, hz3, hb3⟩; have x3 : Ext _ w3 := hb3)
      | (go_at_call 127; refine (ofu_any (lo n) _ L0 L1).mono ?_; rintro e w4 ⟨n4, a4, l4, c4, rfl, hz4, hb4⟩; have x4 : Ext _ w4 := hb4)
      | (go_at_call 125; refine (add_z _ _ _ _ _ _ _ _ (hi n * P 64) (lo n) _ (hz3.ext x4) hz4 (bm.fit (by omega)) (bl.fit (by omega))).mono ?_; rintro e w5 ⟨n5, a5, l5, c5, rfl, hz5, hb5⟩; have x5 : Ext _ w5 := hb5; have q := ((((hR.drew.ext x1).ext x2).ext x3).ext x4).ext x5; have q0 := q.c0; have q1 := q.c1; have q2 := q.f0; have q3 := q.f1))
  rw [HS.out] at hz5
  go_wp2_with fail
  refine bodyPost_ret (v := .agg #[.bool n5, .slice a5 l5 c5]) (by simp [results, Try.results35, go_sem, q0, q1]) rfl
    (isZ_end hz5 q.kind (Ext.trans (Ext.trans (Ext.trans (Ext.trans (Ext.trans xA.drew x1) x2) x3) x4) x5) (by omega) _ _)

set_option maxRecDepth 100000 in
set_option maxHeartbeats 1600000 in
theorem told_any (na : Bool) (aa : Option Addr) (la ca : Nat) (n : Int) (w : World) (hz : IsZ w na (.slice aa la ca) n) (hb : Bits 1000 n) :
    Calls Try.prog 203 #[.agg #[.bool na, .slice aa la ca]] w (RetT w n) := by
  have H := Lib.hid fitw_any
  have HB := Lib.hid hb
  clear hb
  by_cases hI : W128 n
  · go_enter Try.func203, Try.ntmps203
    go_wp2_with fail
    obtain ⟨W, hW⟩ : ∃ W, W = (w.alloc (.cells #[.bool na, .slice aa la ca] 47)).alloc (.cells #[.int .i64 0, .int .u64 0] 38) := ⟨_, rfl⟩
    rw [← hW]
    have hR : Box2 W (w.heap.size + 1) (.int .i64 0) (.int .u64 0) 38 := by rw [hW]; exact Box2.new (by simp)
    have xA : Ext w W := by rw [hW]; exact (Ext.refl w).alloc.alloc
    have sW : w.heap.size + 1 < W.heap.size := by rw [hW]; simp
    clear hW
    refine (H.out _ _ _ _ n _ (hz.ext xA) HB.out).mono ?_
    rintro e w1 ⟨rfl, x1⟩
    have s1 : w.heap.size + 1 < w1.heap.size := Nat.lt_of_lt_of_le sW x1.size
    rw [thi_yes hI, tlo_yes hI, decide_eq_true hI]
    have q := hR.ext x1
    have q0 := q.c0
    have q1 := q.c1
    have q2 := q.f0
    have q3 := q.f1
    go_wp2_with fail
    refine bodyPost_ret (v := .tuple #[.agg #[.int .i64 (hi n), .int .u64 (lo n)], .int .i64 0]) (by simp [results, Try.results203, go_sem, q0, q1, s1]) rfl (retT_yes hI rfl rfl (by repeat (first | exact Ext.refl _ | refine Ext.alloc ?_ | refine Ext.drew ?_ | refine Ext.drewN ?_ | refine Ext.set ?_ (Ext.size ?_) | refine Ext.set ?_ (Ext.size1 ?_) | refine Ext.set ?_ (Ext.size2 ?_) | refine Ext.trans ?_ (by assumption))))
  · go_enter Try.func203, Try.ntmps203
    go_wp2_with fail
    obtain ⟨W, hW⟩ : ∃ W, W = (w.alloc (.cells #[.bool na, .slice aa la ca] 47)).alloc (.cells #[.int .i64 0, .int .u64 0] 38) := ⟨_, rfl⟩
    rw [← hW]
    have hR : Box2 W (w.heap.size + 1) (.int .i64 0) (.int .u64 0) 38 := by rw [hW]; exact Box2.new (by simp)
    have xA : Ext w W := by rw [hW]; exact (Ext.refl w).alloc.alloc
    have sW : w.heap.size + 1 < W.heap.size := by rw [hW]; simp
    clear hW
    refine (H.out _ _ _ _ n _ (hz.ext xA) HB.out).mono ?_
    rintro e w1 ⟨rfl, x1⟩
    have s1 : w.heap.size + 1 < w1.heap.size := Nat.lt_of_lt_of_le sW x1.size
    rw [thi_no hI, tlo_no hI, decide_eq_false hI]
    have q := hR.ext x1
    have q0 := q.c0
    have q1 := q.c1
    have q2 := q.f0
    have q3 := q.f1
    go_wp2_with fail
    refine bodyPost_ret (v := .tuple #[.agg #[.int .i64 0, .int .u64 0], .int .i64 2]) (by simp [results, Try.results203, go_sem, q0, q1, s1]) rfl (retT_no hI (by repeat (first | exact Ext.refl _ | refine Ext.alloc ?_ | refine Ext.drew ?_ | refine Ext.drewN ?_ | refine Ext.set ?_ (Ext.size ?_) | refine Ext.set ?_ (Ext.size1 ?_) | refine Ext.set ?_ (Ext.size2 ?_) | refine Ext.trans ?_ (by assumption))))
end Go.Proofs.Ytcndfpfjckkinaa

/-
  What every right program answers: alive of layer 2.
-/
namespace Go.Proofs.Ytcndfpfjckkinaa
open Go Go.RowKit

def Xm : Int := (-9223372036854775808) * (-9223372036854775808)
theorem hi_Xm : hi Xm = 4611686018427387904 := by unfold hi Xm; decide
theorem lo_Xm : lo Xm = 0 := by unfold lo Xm; decide
theorem liv_mul (w : World) : Calls Try.prog 144 #[.int .i64 (-9223372036854775808), .int .i64 (-9223372036854775808)] w (fun e w' => e = .returned (.agg #[.int .i64 (hi Xm), .int .u64 (lo Xm)]) ∧ Ext w w') :=
  wmul _ _ w (by unfold I64; omega) (by unfold I64; omega)
theorem liv_of (n : Int) (w : World) (h : I64 n) : Calls Try.prog 51 #[.int .i64 n] w (fun e w' => e = .returned (.agg #[.int .i64 (hi n), .int .u64 (lo n)]) ∧ Ext w w') := of_pure n w h.1 h.2
theorem wint_yes (n : Int) (w : World) (h : I64 n) :
    Calls Try.prog 105 #[.agg #[.int .i64 (hi n), .int .u64 (lo n)]] w (fun e w' => e = .returned (.tuple #[.int .i64 n, .bool true]) ∧ Ext w w') := by
  have := wint n w
  rwa [show t64 n = n from if_pos h, decide_eq_true h] at this
theorem txt_m1 : txt (-1) = [45, 49] := by
  rw [txt_neg (by omega), show (-1 : Int).natAbs = 1 from rfl, decs_lt (by omega)]; rfl
end Go.Proofs.Ytcndfpfjckkinaa

/-
  The law WideInts, walked.
-/
namespace Go.Proofs.Ytcndfpfjckkinaa
open Go Go.RowKit

theorem wint_any (n : Int) (w : World) : Calls Try.prog 105 #[.agg #[.int .i64 (hi n), .int .u64 (lo n)]] w (fun e w' => e = .returned (.tuple #[.int .i64 (t64 n), .bool (decide (I64 n))]) ∧ Ext w w') := wint n w

end Go.Proofs.Ytcndfpfjckkinaa

/-
  The law WideProducts, walked.
-/
namespace Go.Proofs.Ytcndfpfjckkinaa
open Go Go.RowKit

theorem IsZ.alloc {w : World} {neg : Bool} {sv : Value} {n : Int} (h : IsZ w neg sv n) (o : Obj) : IsZ (w.alloc o) neg sv n := h.ext (Ext.refl w).alloc
theorem Box2.named {V w : World} {k : Nat} {u v : Value} {t : TypeId} {o : Obj} (h : Box2 w k u v t) (e : V = w.alloc o) : Box2 V k u v t := by rw [e]; exact h.alloc o
theorem IsZ.named {V w : World} {neg : Bool} {sv : Value} {n : Int} {o : Obj} (h : IsZ w neg sv n) (e : V = w.alloc o) : IsZ V neg sv n := by rw [e]; exact h.alloc o
theorem fitw_yes (na : Bool) (aa : Option Addr) (la ca : Nat) (n : Int) (w : World) (hz : IsZ w na (.slice aa la ca) n) (hI : W128 n) :
    Calls Try.prog 36 #[.agg #[.bool na, .slice aa la ca]] w (fun e w' => e = .returned (.tuple #[.agg #[.int .i64 (hi n), .int .u64 (lo n)], .bool true]) ∧ Ext w w') := by
  have := fitw_any na aa la ca n w hz (hI.bits.mono (by omega))
  unfold FitW at this
  rwa [thi_yes hI, tlo_yes hI, decide_eq_true hI] at this

end Go.Proofs.Ytcndfpfjckkinaa
