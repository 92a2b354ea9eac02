/-
  divide.bare.over by a number of more than 64 bits: the range over a number's bits.
-/
import Derived.Test.YtmkddcmfofabbaaRfb
import Derived.RangeFuncFrom
namespace Go.Proofs.Ytmkddcmfofabbaa
open Go Go.RowKit Go.Shelf
attribute [local go_sem] Oper.semAt_some

def valB (xs : List Bit) : Int := xs.foldl (fun v x => 2 * v + x.1) 0
theorem valB_snoc (xs : List Bit) (x : Bit) : valB (xs ++ [x]) = 2 * valB xs + x.1 := by simp [valB]
theorem fold_lt (xs : List Bit) (v : Int) (h0 : 0 ≤ v) (m : Nat) (h1 : v < 2 ^ m) : 0 ≤ xs.foldl (fun v x => 2 * v + x.1) v ∧ xs.foldl (fun v x => 2 * v + x.1) v < 2 ^ (m + xs.length) := by
  induction xs generalizing v m with
  | nil => exact ⟨h0, h1⟩
  | cons x xs ih =>
    have := x.2
    have h := ih (2 * v + x.1) (by omega) (m + 1) (by rw [Int.pow_succ]; omega)
    rw [show m + 1 + xs.length = m + (x :: xs).length by simp; omega] at h
    exact h
theorem valB_lt (xs : List Bit) : 0 ≤ valB xs ∧ valB xs < 2 ^ xs.length := by
  have h := fold_lt xs 0 (by omega) 0 (by decide)
  rw [Nat.zero_add] at h
  exact h
theorem valB_bits {b : Int} (hb : U128 b) (k : Nat) (hk : k ≤ 128) : valB (bitsOf b k) = shr b (128 - k) := by
  induction k with
  | zero =>
    show (0 : Int) = shr b 128
    rw [shr_top hb.1]
    exact hb.2
  | succ k ih =>
    rw [bitsOf_succ, valB_snoc, ih (by omega)]
    show 2 * _ + shr b (127 - k) % 2 = _
    have e := shr_succ b (127 - k)
    rw [show 128 - k = 127 - k + 1 by omega, e, show 128 - (k + 1) = 127 - k by omega]
    omega
theorem valB_all {b : Int} (hb : U128 b) : valB (bitsOf b 128) = b := by rw [valB_bits hb 128 (by omega)]; exact shr_zero b

/-- A block of two cells, of what has come. -/
theorem box_own {β : Type} (k : Nat) (t : TypeId) (f g : β → Value) : Go.Own (fun s W => Box2 W k (f s) (g s) t) := fun _ _ _ _ hs hg hr =>
  (grownBy_keeps_cells hg hr hs rfl).trans hs

theorem twice_hi {r x : Int} (r0 : 0 ≤ r) (hx : x = 0 ∨ x = 1) (h : 2 * r + x < 340282366920938463463374607431768211456) : bits .or .u64 (IntKind.u64.wrap (hi r * 2)) (lo r / 9223372036854775808) = hi (2 * r + x) := by
  have e := or_add (hi r) (lo r / 9223372036854775808) 1
  rw [show (2 : Int) ^ 1 = 2 from rfl] at e
  rw [u64_id (by unfold hi; omega) (by unfold hi; omega), e (by unfold hi; omega) (by unfold lo; omega) (by unfold hi; omega) (by unfold lo; omega) (by unfold hi lo; omega)]
  unfold hi lo
  omega
theorem twice_lo (r : Int) {x : Int} (hx : x = 0 ∨ x = 1) : bits .or .u64 (IntKind.u64.wrap (lo r * 2)) x = lo (2 * r + x) := by
  have e := or_add (lo r % 9223372036854775808) x 1
  rw [show (2 : Int) ^ 1 = 2 from rfl] at e
  rw [show IntKind.u64.wrap (lo r * 2) = lo r % 9223372036854775808 * 2 by rw [u64_eq]; omega, e (by omega) (by omega) (by omega) (by omega) (by omega)]
  unfold lo
  omega
theorem twice_low (q : Int) : IntKind.u64.wrap (lo q * 2) = lo (2 * q) := by rw [u64_eq]; unfold lo; omega
theorem twice_odd (q : Int) : bits .or .u64 (lo (2 * q)) 1 = lo (2 * q + 1) := by
  have e := or_add (lo (2 * q) / 2) 1 1
  rw [show (2 : Int) ^ 1 = 2 from rfl, show lo (2 * q) / 2 * 2 = lo (2 * q) by unfold lo; omega] at e
  have := lo_bd (2 * q)
  rw [e (by omega) (by omega) (by omega) (by omega) (by unfold lo; omega)]
  unfold lo
  omega
theorem valB_pre {pre : List Bit} (h : pre.length < 128) : 0 ≤ valB pre ∧ valB pre < 170141183460469231731687303715884105728 := by
  obtain ⟨h0, h1⟩ := valB_lt pre
  have h2 : ((2 ^ pre.length : Nat) : Int) ≤ ((2 ^ 127 : Nat) : Int) := Int.ofNat_le.2 (Nat.pow_le_pow_right (by omega) (by omega))
  rw [Int.natCast_pow] at h2
  have h3 : (2 : Int) ^ pre.length ≤ 170141183460469231731687303715884105728 := h2
  omega
/-- One bit more. -/
theorem over_step {P d x : Int} (d0 : 18446744073709551616 ≤ d) (d1 : d ≤ 170141183460469231731687303715884105728) (P0 : 0 ≤ P) (P1 : P < 170141183460469231731687303715884105728) (hx : x = 0 ∨ x = 1) :
    0 ≤ P % d ∧ 2 * (P % d) + x < 340282366920938463463374607431768211456 ∧ 0 ≤ P / d ∧ 2 * (P / d) + 1 < 340282366920938463463374607431768211456 ∧
      (if 2 * (P % d) + x < d then (2 * P + x) / d = 2 * (P / d) ∧ (2 * P + x) % d = 2 * (P % d) + x else (2 * P + x) / d = 2 * (P / d) + 1 ∧ (2 * P + x) % d = 2 * (P % d) + x - d) := by
  have e := Int.emod_add_mul_ediv P d
  have r0 := Int.emod_nonneg P (show d ≠ 0 by omega)
  have r1 := Int.emod_lt_of_pos P (show 0 < d by omega)
  have q0 : 0 ≤ P / d := Int.ediv_nonneg P0 (by omega)
  have q1 : P / d ≤ P := Int.ediv_le_self _ P0
  generalize P / d = q at *
  generalize P % d = r at *
  refine ⟨r0, by omega, q0, by omega, ?_⟩
  have key : ∀ q' r' : Int, 2 * P + x = r' + d * q' → 0 ≤ r' → r' < d → (2 * P + x) / d = q' ∧ (2 * P + x) % d = r' := by
    intro q' r' h h0 h1
    rw [h]
    exact ⟨by rw [Int.add_mul_ediv_left _ _ (by omega), Int.ediv_eq_zero_of_lt h0 h1]; omega, by rw [Int.add_mul_emod_self_left, Int.emod_eq_of_lt h0 h1]⟩
  have m : d * (2 * q) = 2 * (d * q) := by rw [← Int.mul_assoc, Int.mul_comm d 2, Int.mul_assoc]
  split
  · exact key _ _ (by rw [m]; omega) (by omega) (by omega)
  · exact key _ _ (by rw [Int.mul_add, m]; omega) (by omega) (by omega)

/-- What the loop's cells hold: the quotient, the rest; and what stands. -/
def OverJ (w : World) (b d q r : Int) (W : World) : Prop :=
  Box2 W (w.heap.size + 1 + 1 + 1 + 1) (.int .u64 (hi q)) (.int .u64 (lo q)) 123 ∧
  Box2 W (w.heap.size + 1 + 1 + 1 + 1 + 1) (.int .u64 (hi r)) (.int .u64 (lo r)) 123 ∧
  Box2 W (w.heap.size + 1) (.int .u64 (hi d)) (.int .u64 (lo d)) 123 ∧
  Box2 W (w.heap.size + 1 + 1) (.int .u64 0) (.int .u64 0) 123 ∧ Box2 W (w.heap.size + 1 + 1 + 1) (.int .u64 0) (.int .u64 0) 123 ∧
  Box2 W (w.heap.size + 1 + 1 + 1 + 1 + 1 + 1) (.int .u64 (hi b)) (.int .u64 (lo b)) 123
def OverI (w : World) (b d : Int) (pre : List Bit) (W : World) : Prop := OverJ w b d (valB pre / d) (valB pre % d) W
theorem overI_own (w : World) (b d : Int) : Go.Own (OverI w b d) := fun s X Y row hs hg hr =>
  ⟨box_own _ _ (fun pre => .int .u64 (hi (valB pre / d))) (fun pre => .int .u64 (lo (valB pre / d))) s X Y row hs.1 hg hr,
    box_own _ _ (fun pre => .int .u64 (hi (valB pre % d))) (fun pre => .int .u64 (lo (valB pre % d))) s X Y row hs.2.1 hg hr,
    box_own _ _ (fun _ => .int .u64 (hi d)) (fun _ => .int .u64 (lo d)) s X Y row hs.2.2.1 hg hr,
    box_own _ _ (fun _ => .int .u64 0) (fun _ => .int .u64 0) s X Y row hs.2.2.2.1 hg hr,
    box_own _ _ (fun _ => .int .u64 0) (fun _ => .int .u64 0) s X Y row hs.2.2.2.2.1 hg hr,
    box_own _ _ (fun _ => .int .u64 (hi b)) (fun _ => .int .u64 (lo b)) s X Y row hs.2.2.2.2.2 hg hr⟩
theorem OverJ.alloc {w W : World} {b d q r : Int} (h : OverJ w b d q r W) (o : Obj) : OverJ w b d q r (W.alloc o) :=
  ⟨h.1.alloc o, h.2.1.alloc o, h.2.2.1.alloc o, h.2.2.2.1.alloc o, h.2.2.2.2.1.alloc o, h.2.2.2.2.2.alloc o⟩
theorem OverJ.setR {w W : World} {b d q r : Int} (h : OverJ w b d q r W) (x : Int) : OverJ w b d q x ((W.setCell ⟨w.heap.size + 1 + 1 + 1 + 1 + 1, 0, none⟩ (.int .u64 (hi x))).setCell ⟨w.heap.size + 1 + 1 + 1 + 1 + 1, 1, none⟩ (.int .u64 (lo x))) :=
  ⟨h.1.other2 (by omega) _ _, h.2.1.set _ _, h.2.2.1.other2 (by omega) _ _, h.2.2.2.1.other2 (by omega) _ _, h.2.2.2.2.1.other2 (by omega) _ _, h.2.2.2.2.2.other2 (by omega) _ _⟩
theorem OverJ.setQ {w W : World} {b d q r : Int} (h : OverJ w b d q r W) (x : Int) : OverJ w b d x r ((W.setCell ⟨w.heap.size + 1 + 1 + 1 + 1, 0, none⟩ (.int .u64 (hi x))).setCell ⟨w.heap.size + 1 + 1 + 1 + 1, 1, none⟩ (.int .u64 (lo x))) :=
  ⟨h.1.set _ _, h.2.1.other2 (by omega) _ _, h.2.2.1.other2 (by omega) _ _, h.2.2.2.1.other2 (by omega) _ _, h.2.2.2.2.1.other2 (by omega) _ _, h.2.2.2.2.2.other2 (by omega) _ _⟩
theorem OverJ.odd {w W : World} {b d q r : Int} (h : OverJ w b d (2 * q) r W) : OverJ w b d (2 * q + 1) r (W.setCell ⟨w.heap.size + 1 + 1 + 1 + 1, 1, none⟩ (.int .u64 (lo (2 * q + 1)))) := by
  refine ⟨?_, h.2.1.other (by omega) _ _, h.2.2.1.other (by omega) _ _, h.2.2.2.1.other (by omega) _ _, h.2.2.2.2.1.other (by omega) _ _, h.2.2.2.2.2.other (by omega) _ _⟩
  have e : hi (2 * q + 1) = hi (2 * q) := by unfold hi; omega
  rw [e]
  exact Joins.block_setCell (i := 1) h.1 _
theorem overI_nil {w V : World} {b d : Int} (hQ : Box2 V (w.heap.size + 1 + 1 + 1 + 1) (.int .u64 0) (.int .u64 0) 123) (hR : Box2 V (w.heap.size + 1 + 1 + 1 + 1 + 1) (.int .u64 0) (.int .u64 0) 123)
    (hD : Box2 V (w.heap.size + 1) (.int .u64 (hi d)) (.int .u64 (lo d)) 123) (h4 : Box2 V (w.heap.size + 1 + 1) (.int .u64 0) (.int .u64 0) 123) (h5 : Box2 V (w.heap.size + 1 + 1 + 1) (.int .u64 0) (.int .u64 0) 123)
    (hX : Box2 V (w.heap.size + 1 + 1 + 1 + 1 + 1 + 1) (.int .u64 (hi b)) (.int .u64 (lo b)) 123) : OverI w b d [] V := by
  have e1 : valB [] / d = 0 := Int.zero_ediv d
  have e2 : valB [] % d = 0 := Int.zero_emod d
  refine ⟨?_, ?_, hD, h4, h5, hX⟩
  · rw [e1]; exact hQ
  · rw [e2]; exact hR

theorem hi_pair {x d : Int} (d1 : d ≤ 170141183460469231731687303715884105728) (h : x < 340282366920938463463374607431768211456) (hl : ¬ x < d) (d0 : 18446744073709551616 ≤ d) :
    0 ≤ hi x ∧ hi x < 18446744073709551616 ∧ 0 ≤ hi d ∧ hi d < 18446744073709551616 := by unfold hi; omega
theorem sub_hi (x d : Int) (h0 : 0 ≤ hi x) (h1 : hi x < 18446744073709551616) (h2 : 0 ≤ hi d) (h3 : hi d < 18446744073709551616) (hl : ¬ x < d) : (hi x - hi d - bor (lo x) (lo d) 0) % 18446744073709551616 = hi (x - d) := by
  rw [bor_def]; unfold hi lo at *; omega
set_option maxRecDepth 100000 in
set_option maxHeartbeats 3200000 in
theorem over_great (b d : Int) (w : World) (hb : U128 b) (d0 : 18446744073709551616 ≤ d) (d1 : d ≤ 170141183460469231731687303715884105728) :
    Calls Try.prog 105 #[.agg #[.int .u64 (hi b), .int .u64 (lo b)], .agg #[.int .u64 (hi d), .int .u64 (lo d)]] w (RetB w (b / d) (b % d)) := by
  obtain ⟨W0, hW0⟩ : ∃ W0, W0 = (((((w.alloc (.cells #[.int .u64 (hi b), .int .u64 (lo b)] 123)).alloc (.cells #[.int .u64 (hi d), .int .u64 (lo d)] 123)).alloc (.cells #[.int .u64 0, .int .u64 0] 123)).alloc (.cells #[.int .u64 0, .int .u64 0] 123)).alloc (.cells #[.int .u64 0, .int .u64 0] 123)).alloc (.cells #[.int .u64 0, .int .u64 0] 123) := ⟨_, rfl⟩
  have hd : (hi d == 0) = false := by rw [beq_eq_false_iff_ne]; unfold hi; omega
  have HB := Lib.hid hb
  have HD0 := Lib.hid d0
  have HD1 := Lib.hid d1
  clear hb d0 d1
  refine (callsIn_wide (n := 10)).1 ?_
  refine callsIn_of_wp_marks Try.func105 rfl trivial ?_ rfl
  simp only [Try.ntmps105, List.size_toArray, List.length_cons, List.length_nil, Nat.reduceAdd, Nat.reduceSub, Array.replicate_succ, Array.replicate_zero, List.push_toArray, List.append_toArray, List.nil_append, List.cons_append]
  obtain ⟨z, hz⟩ : ∃ z, (hi b == 0) = z := ⟨_, rfl⟩
  cases z
  · gi_wp2_with (refine ⟨trivial, ?_⟩; gi_at_call 123; refine (callsIn_wide.2 (ddown b _)).mono ?_; rintro e w' ⟨rfl, rfl⟩)
    rw [← hW0]
    obtain ⟨V, hV⟩ : ∃ V, V = W0.alloc (.cells #[.int .u64 (hi b), .int .u64 (lo b)] 123) := ⟨_, rfl⟩
    have hX : Box2 V (w.heap.size + 1 + 1 + 1 + 1 + 1 + 1) (.int .u64 (hi b)) (.int .u64 (lo b)) 123 := by rw [hV]; exact Box2.new (by rw [hW0]; simp)
    have hD : Box2 V (w.heap.size + 1) (.int .u64 (hi d)) (.int .u64 (lo d)) 123 := by rw [hV, hW0]; exact (((((Box2.new (by simp)).alloc _).alloc _).alloc _).alloc _).alloc _
    have h4 : Box2 V (w.heap.size + 1 + 1) (.int .u64 0) (.int .u64 0) 123 := by rw [hV, hW0]; exact ((((Box2.new (by simp)).alloc _).alloc _).alloc _).alloc _
    have h5 : Box2 V (w.heap.size + 1 + 1 + 1) (.int .u64 0) (.int .u64 0) 123 := by rw [hV, hW0]; exact (((Box2.new (by simp)).alloc _).alloc _).alloc _
    have hQ : Box2 V (w.heap.size + 1 + 1 + 1 + 1) (.int .u64 0) (.int .u64 0) 123 := by rw [hV, hW0]; exact ((Box2.new (by simp)).alloc _).alloc _
    have hR : Box2 V (w.heap.size + 1 + 1 + 1 + 1 + 1) (.int .u64 0) (.int .u64 0) 123 := by rw [hV, hW0]; exact (Box2.new (by simp)).alloc _
    have xw : Ext w V := by rw [hV, hW0]; exact (Ext.refl w).alloc.alloc.alloc.alloc.alloc.alloc.alloc
    have sV : V.heap.size = w.heap.size + 7 := by rw [hV, hW0]; simp
    try rw [hW0, ← hV]
    try rw [← hV]
    clear hV hW0 W0
    refine wpIn_rangeFunc_ownF rfl (by omega) (gf := 137) (lb := #[.pointer (some ⟨w.heap.size + 1 + 1 + 1 + 1 + 1 + 1, 0, none⟩)]) rfl trivial (enters_of Try.func137 (by kernel_rfl) rfl)
      (down_stops (w.heap.size + 1 + 1 + 1 + 1 + 1 + 1) b HB.out V hX) (fun h k => k.trans h)
      (fun W l o o' hl h _ _ => (grownBy_putObj' W l o').block _ (by have := (Array.getElem?_eq_some_iff.1 h).1; omega) (fun e => by cases e; omega)) (Below.refl _ _) (fun _ => rfl)
      (fun pre W => OverI w b d pre W ∧ Below w.heap.size w W)
      (fun _ _ _ => False)
      (OwnFrom.and (Own.from (overI_own w b d) _) (ownFrom_below (Nat.le_refl _) (by rw [sV]; omega)))
      (fun _ _ _ _ _ hs _ _ => hs)
      ⟨overI_nil hQ hR hD h4 h5 hX, xw⟩ ?actA ?assignA ?bodyA ?doneA ?stopA
    case assignA =>
      intro l x W K hK
      gi_wp2
      exact hK
    case bodyA =>
      rintro l pre x W ⟨hJ, hBl⟩ hlt
      have hx := x.2
      obtain ⟨P0, P1⟩ := valB_pre hlt
      obtain ⟨r0, r1, q0, q1, hST⟩ := over_step (x := x.1) HD0.out HD1.out P0 P1 hx
      have HN := Lib.hid (valB_snoc pre x)
      have HST := Lib.hid hST
      have hXX : W.heap[w.heap.size + 1 + 1 + 1 + 1 + 1 + 1]? = _ := hJ.2.2.2.2.2
      clear hST P0 P1
      unfold OverI at hJ
      generalize valB pre / d = q at *
      generalize valB pre % d = r at *
      generalize x.1 = v at *
      have E1 := Lib.hid (twice_hi r0 hx r1)
      have E2 := Lib.hid (twice_lo r hx)
      have E3 := Lib.hid (twice_hi (x := 0) q0 (.inl rfl) (by omega))
      have E4 := Lib.hid (twice_low q)
      have E5 := Lib.hid (twice_odd q)
      have A1 := Lib.hid r1
      clear r1 q1 q0 r0 hx
      obtain ⟨hQ, hR, hD, h45⟩ := hJ
      have hQ_0 := hQ.c0; have hQ_1 := hQ.c1; have hR_0 := hR.c0; have hR_1 := hR.c1; have hD_0 := hD.c0; have hD_1 := hD.c1
      have hQ_2 := hQ.f0; have hQ_3 := hQ.f1; have hR_2 := hR.f0; have hR_3 := hR.f1
      gi_wp2
      clear hQ_0 hQ_1 hR_0 hR_1 hD_0 hD_1
      clear hQ_2 hQ_3 hR_2 hR_3
      rw [E1.out, E2.out, E3.out, E4.out, Int.add_zero]
      obtain ⟨W2, hW2⟩ : ∃ W2, W2 = (((W.setCell ⟨w.heap.size + 1 + 1 + 1 + 1 + 1, 0, none⟩ (.int .u64 (hi (2 * r + v)))).setCell ⟨w.heap.size + 1 + 1 + 1 + 1 + 1, 1, none⟩ (.int .u64 (lo (2 * r + v)))).setCell ⟨w.heap.size + 1 + 1 + 1 + 1, 0, none⟩ (.int .u64 (hi (2 * q)))).setCell ⟨w.heap.size + 1 + 1 + 1 + 1, 1, none⟩ (.int .u64 (lo (2 * q))) := ⟨_, rfl⟩
      rw [← hW2]
      have hJ : OverJ w b d (2 * q) (2 * r + v) W2 := by rw [hW2]; exact (OverJ.setR ⟨hQ, hR, hD, h45⟩ _).setQ _
      have hKO : KeepsOthers W W2 := by rw [hW2]; exact (((KeepsOthers.setCell _ _ _).trans (KeepsOthers.setCell _ _ _)).trans (KeepsOthers.setCell _ _ _)).trans (KeepsOthers.setCell _ _ _)
      replace hBl : Below w.heap.size w W2 := by rw [hW2]; exact below_set2 (below_set2 hBl (by omega) _ _) (by omega) _ _
      clear hW2 hQ hR hD h45
      refine ⟨trivial, (CallsIn.inRound l (callsIn_wide.2 (dless (2 * r + v) d W2))).mono ?_⟩
      rintro e w3 ⟨rfl, rfl⟩
      obtain ⟨W3, hW3⟩ : ∃ W3, W3 = (W2.alloc (.cells #[.int .u64 (hi (2 * r + v)), .int .u64 (lo (2 * r + v))] 123)).alloc (.cells #[.int .u64 (hi d), .int .u64 (lo d)] 123) := ⟨_, rfl⟩
      rw [← hW3]
      replace hJ : OverJ w b d (2 * q) (2 * r + v) W3 := by rw [hW3]; exact (hJ.alloc _).alloc _
      replace hKO : KeepsOthers W W3 := by rw [hW3]; exact (hKO.trans (KeepsOthers.alloc _ _)).trans (KeepsOthers.alloc _ _)
      replace hBl : Below w.heap.size w W3 := by rw [hW3]; exact (hBl.alloc hBl.size _).alloc (Nat.le_trans hBl.size (by simp)) _
      clear hW3
      by_cases hl : 2 * r + v < d
      · rw [decide_eq_true hl]
        gi_wp2
        have hst := HST.out
        rw [if_pos hl, ← HN.out] at hst
        refine ⟨hKO, hJ.2.2.2.2.2.trans hXX.symm, ?_, hBl⟩
        unfold OverI
        rw [hst.1, hst.2]
        exact hJ
      · rw [decide_eq_false hl]
        obtain ⟨hQ, hR, hD, h45⟩ := hJ
        have hQ_0 := hQ.c0; have hQ_1 := hQ.c1; have hR_0 := hR.c0; have hR_1 := hR.c1; have hD_0 := hD.c0; have hD_1 := hD.c1
        have hQ_2 := hQ.f0; have hQ_3 := hQ.f1; have hR_2 := hR.f0; have hR_3 := hR.f1
        have r102 := run_sub64'
        obtain ⟨l0, l1⟩ := lo_bd (2 * r + v)
        obtain ⟨l2, l3⟩ := lo_bd d
        obtain ⟨m0, m1, m2, m3⟩ := hi_pair HD1.out A1.out hl HD0.out
        have c0 : 0 ≤ bor (lo (2 * r + v)) (lo d) 0 := by rw [bor_def]; omega
        have c1 : bor (lo (2 * r + v)) (lo d) 0 ≤ 1 := by rw [bor_def]; omega
        gi_wp2
        refine ⟨trivial, ?_⟩
        gi_wp2
        refine ⟨trivial, ?_⟩
        gi_wp2
        clear r102
        rw [sub_hi _ _ m0 m1 m2 m3 (by omega), ← lo_sub, E5.out]
        have hst := HST.out
        rw [if_neg (by omega), ← HN.out] at hst
        have hJ' := (OverJ.setR ⟨hQ, hR, hD, h45⟩ (2 * r + v - d)).odd
        refine ⟨((hKO.trans (KeepsOthers.setCell _ _ _)).trans (KeepsOthers.setCell _ _ _)).trans (KeepsOthers.setCell _ _ _), hJ'.2.2.2.2.2.trans hXX.symm, ?_, (below_set2 hBl (by omega) _ _).setCell (p := ⟨_, 1, none⟩) (by simp; omega) _⟩
        unfold OverI
        rw [hst.1, hst.2]
        exact hJ'
    case doneA =>
      rintro D ys W hD' rfl ⟨⟨hQ, hR, hD, h4, h5, hX⟩, hBl⟩ hK
      rw [valB_all HB.out] at hQ hR
      generalize b / d = q at *
      generalize b % d = r at *
      have hQ_0 := hQ.c0; have hQ_1 := hQ.c1; have hR_0 := hR.c0; have hR_1 := hR.c1; have h4_0 := h4.c0; have h4_1 := h4.c1; have h5_0 := h5.c0; have h5_1 := h5.c1
      have hQ_2 := hQ.f0; have hQ_3 := hQ.f1; have hR_2 := hR.f0; have hR_3 := hR.f1; have h4_2 := h4.f0; have h4_3 := h4.f1; have h5_2 := h5.f0; have h5_3 := h5.f1
      gi_wp2
      gi_region
      gi_wp2
      obtain ⟨U, hU⟩ : ∃ U, U = ((((W.setCell ⟨w.heap.size + 1 + 1, 0, none⟩ (.int .u64 (hi q))).setCell ⟨w.heap.size + 1 + 1, 1, none⟩ (.int .u64 (lo q))).setCell ⟨w.heap.size + 1 + 1 + 1, 0, none⟩ (.int .u64 (hi r))).setCell ⟨w.heap.size + 1 + 1 + 1, 1, none⟩ (.int .u64 (lo r))).drew := ⟨_, rfl⟩
      rw [← hU]
      have k4 : Box2 U (w.heap.size + 1 + 1) (.int .u64 (hi q)) (.int .u64 (lo q)) 123 := by rw [hU]; exact ((h4.set _ _).other2 (by omega) _ _).drew
      have k5 : Box2 U (w.heap.size + 1 + 1 + 1) (.int .u64 (hi r)) (.int .u64 (lo r)) 123 := by rw [hU]; exact ((h5.other2 (by omega) _ _).set _ _).drew
      have hKU : U.heap[D]? = some (.deferred (some [])) := by
        rw [hU]
        exact (((((KeepsOthers.setCell _ _ _).trans (KeepsOthers.setCell _ _ _)).trans (KeepsOthers.setCell _ _ _)).trans (KeepsOthers.setCell _ _ _)).trans (KeepsOthers.drew _)).same D _ hK rfl
      have hBU : Ext w U := by rw [hU]; exact Ext.drew (below_set2 (below_set2 hBl (by omega) _ _) (by omega) _ _)
      clear hU
      refine ⟨by simp, .inl ⟨_, _, rfl, run_takeDeferred hKU, ?_⟩⟩
      have g4 : Box2 (U.putObj D (.deferred none)) (w.heap.size + 1 + 1) (.int .u64 (hi q)) (.int .u64 (lo q)) 123 := (grownBy_keeps_cells (grownBy_putObj' _ D (.deferred none)) (fun r e => by cases e; exact ⟨_, hKU, rfl⟩) k4 rfl).trans k4
      have g5 : Box2 (U.putObj D (.deferred none)) (w.heap.size + 1 + 1 + 1) (.int .u64 (hi r)) (.int .u64 (lo r)) 123 := (grownBy_keeps_cells (grownBy_putObj' _ D (.deferred none)) (fun r e => by cases e; exact ⟨_, hKU, rfl⟩) k5 rfl).trans k5
      have g6 := g4.c0
      have g7 := g4.c1
      have g8 := g5.c0
      have g9 := g5.c1
      refine ⟨.tuple #[.agg #[.int .u64 (hi q), .int .u64 (lo q)], .agg #[.int .u64 (hi r), .int .u64 (lo r)]], ?_, rfl, Below.trans hBU (belowK_b (w := w) (Nat.le_refl _) U D _ _ (by omega) hKU rfl rfl)⟩
      simp [results, Try.results105, go_sem, g6, g7, g8, g9]
    case stopA =>
      rintro D c pre W _ _ h _
      exact h.elim
  · gi_wp2_with (refine ⟨trivial, ?_⟩; gi_at_call 123; refine (callsIn_wide.2 (ddown b _)).mono ?_; rintro e w' ⟨rfl, rfl⟩)
    rw [← hW0]
    obtain ⟨V, hV⟩ : ∃ V, V = W0.alloc (.cells #[.int .u64 (hi b), .int .u64 (lo b)] 123) := ⟨_, rfl⟩
    have hX : Box2 V (w.heap.size + 1 + 1 + 1 + 1 + 1 + 1) (.int .u64 (hi b)) (.int .u64 (lo b)) 123 := by rw [hV]; exact Box2.new (by rw [hW0]; simp)
    have hD : Box2 V (w.heap.size + 1) (.int .u64 (hi d)) (.int .u64 (lo d)) 123 := by rw [hV, hW0]; exact (((((Box2.new (by simp)).alloc _).alloc _).alloc _).alloc _).alloc _
    have h4 : Box2 V (w.heap.size + 1 + 1) (.int .u64 0) (.int .u64 0) 123 := by rw [hV, hW0]; exact ((((Box2.new (by simp)).alloc _).alloc _).alloc _).alloc _
    have h5 : Box2 V (w.heap.size + 1 + 1 + 1) (.int .u64 0) (.int .u64 0) 123 := by rw [hV, hW0]; exact (((Box2.new (by simp)).alloc _).alloc _).alloc _
    have hQ : Box2 V (w.heap.size + 1 + 1 + 1 + 1) (.int .u64 0) (.int .u64 0) 123 := by rw [hV, hW0]; exact ((Box2.new (by simp)).alloc _).alloc _
    have hR : Box2 V (w.heap.size + 1 + 1 + 1 + 1 + 1) (.int .u64 0) (.int .u64 0) 123 := by rw [hV, hW0]; exact (Box2.new (by simp)).alloc _
    have xw : Ext w V := by rw [hV, hW0]; exact (Ext.refl w).alloc.alloc.alloc.alloc.alloc.alloc.alloc
    have sV : V.heap.size = w.heap.size + 7 := by rw [hV, hW0]; simp
    try rw [hW0, ← hV]
    try rw [← hV]
    clear hV hW0 W0
    refine wpIn_rangeFunc_ownF rfl (by omega) (gf := 137) (lb := #[.pointer (some ⟨w.heap.size + 1 + 1 + 1 + 1 + 1 + 1, 0, none⟩)]) rfl trivial (enters_of Try.func137 (by kernel_rfl) rfl)
      (down_stops (w.heap.size + 1 + 1 + 1 + 1 + 1 + 1) b HB.out V hX) (fun h k => k.trans h)
      (fun W l o o' hl h _ _ => (grownBy_putObj' W l o').block _ (by have := (Array.getElem?_eq_some_iff.1 h).1; omega) (fun e => by cases e; omega)) (Below.refl _ _) (fun _ => rfl)
      (fun pre W => OverI w b d pre W ∧ Below w.heap.size w W)
      (fun _ _ _ => False)
      (OwnFrom.and (Own.from (overI_own w b d) _) (ownFrom_below (Nat.le_refl _) (by rw [sV]; omega)))
      (fun _ _ _ _ _ hs _ _ => hs)
      ⟨overI_nil hQ hR hD h4 h5 hX, xw⟩ ?actB ?assignB ?bodyB ?doneB ?stopB
    case assignB =>
      intro l x W K hK
      gi_wp2
      exact hK
    case bodyB =>
      rintro l pre x W ⟨hJ, hBl⟩ hlt
      have hx := x.2
      obtain ⟨P0, P1⟩ := valB_pre hlt
      obtain ⟨r0, r1, q0, q1, hST⟩ := over_step (x := x.1) HD0.out HD1.out P0 P1 hx
      have HN := Lib.hid (valB_snoc pre x)
      have HST := Lib.hid hST
      have hXX : W.heap[w.heap.size + 1 + 1 + 1 + 1 + 1 + 1]? = _ := hJ.2.2.2.2.2
      clear hST P0 P1
      unfold OverI at hJ
      generalize valB pre / d = q at *
      generalize valB pre % d = r at *
      generalize x.1 = v at *
      have E1 := Lib.hid (twice_hi r0 hx r1)
      have E2 := Lib.hid (twice_lo r hx)
      have E3 := Lib.hid (twice_hi (x := 0) q0 (.inl rfl) (by omega))
      have E4 := Lib.hid (twice_low q)
      have E5 := Lib.hid (twice_odd q)
      have A1 := Lib.hid r1
      clear r1 q1 q0 r0 hx
      obtain ⟨hQ, hR, hD, h45⟩ := hJ
      have hQ_0 := hQ.c0; have hQ_1 := hQ.c1; have hR_0 := hR.c0; have hR_1 := hR.c1; have hD_0 := hD.c0; have hD_1 := hD.c1
      have hQ_2 := hQ.f0; have hQ_3 := hQ.f1; have hR_2 := hR.f0; have hR_3 := hR.f1
      gi_wp2
      clear hQ_0 hQ_1 hR_0 hR_1 hD_0 hD_1
      clear hQ_2 hQ_3 hR_2 hR_3
      rw [E1.out, E2.out, E3.out, E4.out, Int.add_zero]
      obtain ⟨W2, hW2⟩ : ∃ W2, W2 = (((W.setCell ⟨w.heap.size + 1 + 1 + 1 + 1 + 1, 0, none⟩ (.int .u64 (hi (2 * r + v)))).setCell ⟨w.heap.size + 1 + 1 + 1 + 1 + 1, 1, none⟩ (.int .u64 (lo (2 * r + v)))).setCell ⟨w.heap.size + 1 + 1 + 1 + 1, 0, none⟩ (.int .u64 (hi (2 * q)))).setCell ⟨w.heap.size + 1 + 1 + 1 + 1, 1, none⟩ (.int .u64 (lo (2 * q))) := ⟨_, rfl⟩
      rw [← hW2]
      have hJ : OverJ w b d (2 * q) (2 * r + v) W2 := by rw [hW2]; exact (OverJ.setR ⟨hQ, hR, hD, h45⟩ _).setQ _
      have hKO : KeepsOthers W W2 := by rw [hW2]; exact (((KeepsOthers.setCell _ _ _).trans (KeepsOthers.setCell _ _ _)).trans (KeepsOthers.setCell _ _ _)).trans (KeepsOthers.setCell _ _ _)
      replace hBl : Below w.heap.size w W2 := by rw [hW2]; exact below_set2 (below_set2 hBl (by omega) _ _) (by omega) _ _
      clear hW2 hQ hR hD h45
      refine ⟨trivial, (CallsIn.inRound l (callsIn_wide.2 (dless (2 * r + v) d W2))).mono ?_⟩
      rintro e w3 ⟨rfl, rfl⟩
      obtain ⟨W3, hW3⟩ : ∃ W3, W3 = (W2.alloc (.cells #[.int .u64 (hi (2 * r + v)), .int .u64 (lo (2 * r + v))] 123)).alloc (.cells #[.int .u64 (hi d), .int .u64 (lo d)] 123) := ⟨_, rfl⟩
      rw [← hW3]
      replace hJ : OverJ w b d (2 * q) (2 * r + v) W3 := by rw [hW3]; exact (hJ.alloc _).alloc _
      replace hKO : KeepsOthers W W3 := by rw [hW3]; exact (hKO.trans (KeepsOthers.alloc _ _)).trans (KeepsOthers.alloc _ _)
      replace hBl : Below w.heap.size w W3 := by rw [hW3]; exact (hBl.alloc hBl.size _).alloc (Nat.le_trans hBl.size (by simp)) _
      clear hW3
      by_cases hl : 2 * r + v < d
      · rw [decide_eq_true hl]
        gi_wp2
        have hst := HST.out
        rw [if_pos hl, ← HN.out] at hst
        refine ⟨hKO, hJ.2.2.2.2.2.trans hXX.symm, ?_, hBl⟩
        unfold OverI
        rw [hst.1, hst.2]
        exact hJ
      · rw [decide_eq_false hl]
        obtain ⟨hQ, hR, hD, h45⟩ := hJ
        have hQ_0 := hQ.c0; have hQ_1 := hQ.c1; have hR_0 := hR.c0; have hR_1 := hR.c1; have hD_0 := hD.c0; have hD_1 := hD.c1
        have hQ_2 := hQ.f0; have hQ_3 := hQ.f1; have hR_2 := hR.f0; have hR_3 := hR.f1
        have r102 := run_sub64'
        obtain ⟨l0, l1⟩ := lo_bd (2 * r + v)
        obtain ⟨l2, l3⟩ := lo_bd d
        obtain ⟨m0, m1, m2, m3⟩ := hi_pair HD1.out A1.out hl HD0.out
        have c0 : 0 ≤ bor (lo (2 * r + v)) (lo d) 0 := by rw [bor_def]; omega
        have c1 : bor (lo (2 * r + v)) (lo d) 0 ≤ 1 := by rw [bor_def]; omega
        gi_wp2
        refine ⟨trivial, ?_⟩
        gi_wp2
        refine ⟨trivial, ?_⟩
        gi_wp2
        clear r102
        rw [sub_hi _ _ m0 m1 m2 m3 (by omega), ← lo_sub, E5.out]
        have hst := HST.out
        rw [if_neg (by omega), ← HN.out] at hst
        have hJ' := (OverJ.setR ⟨hQ, hR, hD, h45⟩ (2 * r + v - d)).odd
        refine ⟨((hKO.trans (KeepsOthers.setCell _ _ _)).trans (KeepsOthers.setCell _ _ _)).trans (KeepsOthers.setCell _ _ _), hJ'.2.2.2.2.2.trans hXX.symm, ?_, (below_set2 hBl (by omega) _ _).setCell (p := ⟨_, 1, none⟩) (by simp; omega) _⟩
        unfold OverI
        rw [hst.1, hst.2]
        exact hJ'
    case doneB =>
      rintro D ys W hD' rfl ⟨⟨hQ, hR, hD, h4, h5, hX⟩, hBl⟩ hK
      rw [valB_all HB.out] at hQ hR
      generalize b / d = q at *
      generalize b % d = r at *
      have hQ_0 := hQ.c0; have hQ_1 := hQ.c1; have hR_0 := hR.c0; have hR_1 := hR.c1; have h4_0 := h4.c0; have h4_1 := h4.c1; have h5_0 := h5.c0; have h5_1 := h5.c1
      have hQ_2 := hQ.f0; have hQ_3 := hQ.f1; have hR_2 := hR.f0; have hR_3 := hR.f1; have h4_2 := h4.f0; have h4_3 := h4.f1; have h5_2 := h5.f0; have h5_3 := h5.f1
      gi_wp2
      gi_region
      gi_wp2
      obtain ⟨U, hU⟩ : ∃ U, U = ((((W.setCell ⟨w.heap.size + 1 + 1, 0, none⟩ (.int .u64 (hi q))).setCell ⟨w.heap.size + 1 + 1, 1, none⟩ (.int .u64 (lo q))).setCell ⟨w.heap.size + 1 + 1 + 1, 0, none⟩ (.int .u64 (hi r))).setCell ⟨w.heap.size + 1 + 1 + 1, 1, none⟩ (.int .u64 (lo r))).drew := ⟨_, rfl⟩
      rw [← hU]
      have k4 : Box2 U (w.heap.size + 1 + 1) (.int .u64 (hi q)) (.int .u64 (lo q)) 123 := by rw [hU]; exact ((h4.set _ _).other2 (by omega) _ _).drew
      have k5 : Box2 U (w.heap.size + 1 + 1 + 1) (.int .u64 (hi r)) (.int .u64 (lo r)) 123 := by rw [hU]; exact ((h5.other2 (by omega) _ _).set _ _).drew
      have hKU : U.heap[D]? = some (.deferred (some [])) := by
        rw [hU]
        exact (((((KeepsOthers.setCell _ _ _).trans (KeepsOthers.setCell _ _ _)).trans (KeepsOthers.setCell _ _ _)).trans (KeepsOthers.setCell _ _ _)).trans (KeepsOthers.drew _)).same D _ hK rfl
      have hBU : Ext w U := by rw [hU]; exact Ext.drew (below_set2 (below_set2 hBl (by omega) _ _) (by omega) _ _)
      clear hU
      refine ⟨by simp, .inl ⟨_, _, rfl, run_takeDeferred hKU, ?_⟩⟩
      have g4 : Box2 (U.putObj D (.deferred none)) (w.heap.size + 1 + 1) (.int .u64 (hi q)) (.int .u64 (lo q)) 123 := (grownBy_keeps_cells (grownBy_putObj' _ D (.deferred none)) (fun r e => by cases e; exact ⟨_, hKU, rfl⟩) k4 rfl).trans k4
      have g5 : Box2 (U.putObj D (.deferred none)) (w.heap.size + 1 + 1 + 1) (.int .u64 (hi r)) (.int .u64 (lo r)) 123 := (grownBy_keeps_cells (grownBy_putObj' _ D (.deferred none)) (fun r e => by cases e; exact ⟨_, hKU, rfl⟩) k5 rfl).trans k5
      have g6 := g4.c0
      have g7 := g4.c1
      have g8 := g5.c0
      have g9 := g5.c1
      refine ⟨.tuple #[.agg #[.int .u64 (hi q), .int .u64 (lo q)], .agg #[.int .u64 (hi r), .int .u64 (lo r)]], ?_, rfl, Below.trans hBU (belowK_b (w := w) (Nat.le_refl _) U D _ _ (by omega) hKU rfl rfl)⟩
      simp [results, Try.results105, go_sem, g6, g7, g8, g9]
    case stopB =>
      rintro D c pre W _ _ h _
      exact h.elim
end Go.Proofs.Ytmkddcmfofabbaa
