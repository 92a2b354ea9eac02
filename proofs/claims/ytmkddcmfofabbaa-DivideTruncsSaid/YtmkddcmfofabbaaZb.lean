/-
  Walks of the reference's digits: minus, compare.
-/
import Derived.Test.YtmkddcmfofabbaaZa
import Derived.Deep.QuietTactic
import Derived.BigQuiet
import Derived.WalkSmall
namespace Go.Proofs.Ytmkddcmfofabbaa
open Go Go.RowKit

theorem Row.drewN {w : World} {v : Value} {xs : List Int} (h : Row w v xs) (n : Nat) : Row (w.drewN n) v xs := h

theorem digit_q (v : Value) (xs : List Int) (i : Int) (w : World) (n : Nat) (h : Row w v xs) (h0 : 0 ≤ i) (hl : xs.length ≤ 1000000) :
    Calls Try.prog 96 #[v, .int .i64 i] (w.drewN n) fun e w' => e = .returned (.int .i64 (dg xs i.toNat)) ∧ w' = w.drewN n :=
  (digit_any v xs i _ (h.drewN n) h0 hl).mono fun _ _ ⟨he, hw⟩ => ⟨he, hw.symm⟩

set_option maxRecDepth 100000 in
set_option maxHeartbeats 1600000 in
theorem minus_any (va vb : Value) (xs ys : List Int) (w : World) (hx : Row w va xs) (hy : Row w vb ys) (dx : Digs xs) (dy : Digs ys) (lx : xs.length ≤ 100000) (ly : ys.length ≤ xs.length) (hle : val ys ≤ val xs) :
    Calls Try.prog 101 #[va, vb] w (RetRow w fun zs => val zs = val xs - val ys) := by
  have hxr := hx
  have hyr := hy
  obtain ⟨a, ca, ba, oa, rfl, -, hxa, hxc⟩ := hx
  obtain ⟨b, cb, bb, ob, rfl, -, -, -⟩ := hy
  go_enter Try.func101, Try.ntmps101
  go_wp2
  go_loopw [5, 6, 7] (fun out c i wr => ∃ (k : Nat) (cc : Int) (zs : List Int), i = .int .i64 k ∧ c = .int .i64 cc ∧ 0 ≤ cc ∧ cc ≤ 1 ∧ k ≤ xs.length ∧ zs.length = k ∧ Digs zs ∧
      wr.ownsRow w.heap.size 3 1 out k (zs.map (Value.int .i64)) ∧ val zs - B k * cc = pre xs k - pre ys k ∧ Below w.heap.size w wr) (fun _ _ i _ => 100002 - (intOf i).toNat)
  case atStart => exact ⟨0, 0, [], rfl, rfl, by omega, by omega, by omega, rfl, Digs.nil, World.ownsRow_nil _ _ _ _, by simp [val, pre_zero], Below.refl _ _⟩
  case round =>
    obtain ⟨k, cc, zs, rfl, rfl, hc0, hc1, hk, hzl, dz, hown, hv, hbl⟩ := hrel
    have hRx := hxr.below hbl
    have hRy := hyr.below hbl
    have hdx := dx k
    have hdy := dy k
    have HL := Lib.hid hzl
    have HV := Lib.hid hv
    clear hzl hv dx dy
    have hbs := hbl.size
    by_cases h1 : k < xs.length
    · have hix := fun w => at_row (cap := ca) (fun h => (hxa h).1) (k : Int) (by omega) (by omega) w
      have hcell := (hbl.cell (p := ⟨ba, oa + k, none⟩) (hxa (by omega)).2.lt).trans (hxc k (by omega))
      have hiy := digit_q (.slice b ys.length cb) ys k wr 0 hRy (by omega) (by omega)
      clear hxa hxc hxr hyr
      by_cases h2 : dg xs k - dg ys k - cc < 0
      all_goals
        go_wp2_with fail
        go_quiet ((go_at_call 96; exact Calls.quiet_of_same (digit_q (.slice b ys.length cb) ys k wr _ hRy (by omega) (by omega))))
        go_wp2_with (at_builtin; refine append_int rfl _ _ rfl w.heap.size w _ _ _ rfl (World.ownsRow.alloc (w := wr.drewN _) hown _) ⟨wr.heap.size, 0, none⟩ _ rfl (cell1 _ _ _) (by omega) (by simp; omega) ((below_drewN hbl _).alloc hbs _) ?_; intro v' w' hown' hbl' hsz')
        go_roundw
        case rel => exact ⟨k + 1, _, _, by go_num, rfl, by omega, by omega, by omega, by simp [HL.out], dz.snoc (by omega) (by omega), hown', by first | exact minus_step xs ys zs k cc 1 HL.out HV.out | simpa using minus_step xs ys zs k cc 0 HL.out HV.out, hbl'⟩
        case measure => simp [intOf]; omega
    · clear hxa hxc hxr hyr
      go_wp2_with fail
      go_ret
      exact ⟨_, zs, rfl, row_of_owns hown HL.out, dz, minus_end dz HL.out (by omega) (by omega) hc0 hle HV.out hc1, by rw [HL.out]; omega, hbl⟩

def Drawn (w w' : World) : Prop := ∃ k, w' = w.drewN k
theorem Drawn.refl (w : World) : Drawn w w := ⟨0, rfl⟩
theorem Drawn.more {w w' : World} (h : Drawn w w') (n : Nat) : Drawn w (w'.drewN n) := by
  obtain ⟨k, rfl⟩ := h
  exact ⟨k + n, by simp [World.drewN, Nat.add_assoc]⟩

theorem Drawn.cell {w w' : World} (h : Drawn w w') {a : Addr} {v : Value} (hc : w.cell? a = some v) : w'.cell? a = some v := by
  obtain ⟨k, rfl⟩ := h; exact hc

/-- A call that returns a number and has turned nothing but the count of its draws. -/
def RetInt (w : World) (n : Int) (e : Ending) (w' : World) : Prop := e = .returned (.int .i64 n) ∧ Drawn w w'

set_option maxRecDepth 100000 in
set_option maxHeartbeats 1600000 in
theorem compare_any (va vb : Value) (xs ys : List Int) (w : World) (hx : Row w va xs) (hy : Row w vb ys) (dx : Digs xs) (dy : Digs ys) (tx : Tidy xs) (ty : Tidy ys) (lx : xs.length ≤ 100000) (ly : ys.length ≤ 100000) :
    Calls Try.prog 100 #[va, vb] w (RetInt w (cmpI (val xs) (val ys))) := by
  obtain ⟨a, ca, ba, oa, rfl, -, hxa, hxc⟩ := hx
  obtain ⟨b, cb, bb, ob, rfl, -, hya, hyc⟩ := hy
  by_cases hl : xs.length < ys.length
  · have hlt := Lib.hid (cmpI_lt (less_len dx dy ty hl))
    have hne : (xs.length != ys.length) = true := by rw [bne_iff_ne]; omega
    clear hxa hxc hya hyc dx dy tx ty
    go_enter Try.func100, Try.ntmps100
    go_wp2
    go_ret
    exact ⟨by rw [hlt.out]; rfl, Drawn.refl w⟩
  by_cases hl2 : ys.length < xs.length
  · have hlt := Lib.hid (cmpI_gt (less_len dy dx tx hl2))
    have hne : (xs.length != ys.length) = true := by rw [bne_iff_ne]; omega
    clear hxa hxc hya hyc dx dy tx ty
    go_enter Try.func100, Try.ntmps100
    go_wp2
    go_ret
    exact ⟨by rw [hlt.out]; rfl, Drawn.refl w⟩
  have hle : xs.length = ys.length := by omega
  have hlen := Lib.hid hle
  have hne : ((xs.length : Int) != (ys.length : Int)) = false := by rw [hle]; simp
  clear hle tx ty
  go_enter Try.func100, Try.ntmps100
  go_wp2
  go_loopw [5] (fun i wr => ∃ (k : Nat), i = .int .i64 ((k : Int) - 1) ∧ k ≤ xs.length ∧ xs.drop k = ys.drop k ∧ Drawn w wr) (fun i _ => (intOf i + 1).toNat)
  case atStart => exact ⟨xs.length, rfl, Nat.le_refl _, by rw [List.drop_of_length_le (Nat.le_refl _), List.drop_of_length_le (by omega)], Drawn.refl w⟩
  case round =>
    obtain ⟨k, rfl, hk, hd, hdr⟩ := hrel
    have HD := Lib.hid hd
    clear hd
    by_cases h0 : k = 0
    · subst h0
      have hxy := HD.out
      simp only [List.drop_zero] at hxy
      subst hxy
      clear HD hlen hl hl2
      go_wp2_with fail
      go_ret
      exact ⟨by rw [cmpI_eq rfl]; rfl, hdr⟩
    · obtain ⟨j, rfl⟩ : ∃ j, k = j + 1 := ⟨k - 1, by omega⟩
      have hix := fun w => at_row (cap := ca) (fun h => (hxa h).1) (((j + 1 : Nat) : Int) - 1) (by omega) (by omega) w
      have hiy := fun w => at_row (cap := cb) (fun h => (hya h).1) (((j + 1 : Nat) : Int) - 1) (by omega) (by omega) w
      have e : ((j + 1 : Nat) : Int) - 1 = j := by omega
      simp only [e] at hix hiy ⊢
      have hcx := hdr.cell (hxc j (by omega))
      have hcy := hdr.cell (hyc j (by have := hlen.out; omega))
      clear hxa hxc hya hyc e
      rcases Int.lt_trichotomy (dg xs j) (dg ys j) with h | h | h
      · have hc := Lib.hid (cmpI_lt (less_at dx dy j hlen.out (by omega) HD.out h))
        go_wp2_with fail
        go_quiet (fail)
        go_wp2_with fail
        go_ret
        exact ⟨by rw [hc.out]; rfl, hdr.more _⟩
      · have hs := Lib.hid (drop_step xs ys j hlen.out (by omega) HD.out h)
        have h1 : ¬ dg xs j < dg ys j := by omega
        have h2 : ¬ dg ys j < dg xs j := by omega
        clear h
        go_wp2_with fail
        go_quiet (fail)
        go_wp2_with fail
        go_quiet (fail)
        go_wp2_with fail
        go_roundw
        case rel => exact ⟨j, by go_num, by omega, hs.out, hdr.more _⟩
        case measure => simp [intOf]
      · have hc := Lib.hid (cmpI_gt (less_at dy dx j (by have := hlen.out; omega) (by have := hlen.out; omega) HD.out.symm h))
        go_wp2_with fail
        go_quiet (fail)
        go_wp2_with fail
        go_quiet (fail)
        go_wp2_with fail
        go_ret
        exact ⟨by rw [hc.out]; rfl, (hdr.more _).more _⟩
end Go.Proofs.Ytmkddcmfofabbaa
