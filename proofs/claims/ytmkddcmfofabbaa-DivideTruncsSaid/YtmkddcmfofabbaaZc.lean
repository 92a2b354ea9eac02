/-
  Walks of the reference's numbers: tidy, OfU. A number of any size in memory (IsZ).
-/
import Derived.Test.YtmkddcmfofabbaaZb
namespace Go.Proofs.Ytmkddcmfofabbaa
open Go Go.RowKit

/-- A sign and a slice of digits read, in w, as the number n. -/
def IsZ (w : World) (neg : Bool) (sv : Value) (n : Int) : Prop :=
  ∃ ds : List Int, Row w sv ds ∧ Digs ds ∧ Tidy ds ∧ n = sgn neg (val ds) ∧ neg = decide (n < 0)
/-- A call that returns the number n; of the memory that was there nothing has turned. -/
def RetZ (w : World) (n : Int) (e : Ending) (w' : World) : Prop := ∃ neg a l c, e = .returned (.agg #[.bool neg, .slice a l c]) ∧ IsZ w' neg (.slice a l c) n ∧ Below w.heap.size w w'

theorem IsZ.below {w w' : World} {neg : Bool} {sv : Value} {n : Int} (h : IsZ w neg sv n) (hb : Below w.heap.size w w') : IsZ w' neg sv n := by
  obtain ⟨ds, h2, h3⟩ := h
  exact ⟨ds, h2.below hb, h3⟩

theorem IsZ.setCell {w : World} {neg : Bool} {sv : Value} {n : Int} (h : IsZ w neg sv n) {k : Nat} {t : TypeId} (hk : Kind w k t) (ht : 3 ≠ t) (o : Nat) (u : Value) : IsZ (w.setCell ⟨k, o, none⟩ u) neg sv n := by
  obtain ⟨ds, h2, h3⟩ := h
  exact ⟨ds, h2.setCell hk ht o u, h3⟩

theorem IsZ.set2 {w : World} {neg : Bool} {sv : Value} {n : Int} (h : IsZ w neg sv n) {k : Nat} {t : TypeId} (hk : Kind w k t) (ht : 3 ≠ t) (u u' : Value) : IsZ ((w.setCell ⟨k, 0, none⟩ u).setCell ⟨k, 1, none⟩ u') neg sv n :=
  (h.setCell hk ht 0 u).setCell (hk.setCell k 0 u) ht 1 u'

theorem isZ_of {w : World} {sv : Value} {ds : List Int} (neg : Bool) (h : Row w sv ds) (dd : Digs ds) (td : Tidy ds) (h0 : 0 < val ds) : IsZ w neg sv (sgn neg (val ds)) :=
  ⟨ds, h, dd, td, rfl, by cases neg <;> simp [sgn] <;> omega⟩
theorem isZ_zero (w : World) : IsZ w false (.slice none 0 0) 0 := ⟨[], Row.nil w, Digs.nil, Tidy.nil, by simp [sgn, val], by simp⟩
theorem sgn_zero (neg : Bool) : sgn neg 0 = 0 := by cases neg <;> simp [sgn]

theorem tidy_zero_end (w w' : World) (neg : Bool) (m : Int) (h : m = 0) (hb : Below w.heap.size w w') : RetZ w (sgn neg m) (.returned (.agg #[.bool false, .slice none 0 0])) w' := by
  subst h; rw [sgn_zero]; exact ⟨_, _, _, _, rfl, isZ_zero _, hb⟩

set_option maxRecDepth 100000 in
set_option maxHeartbeats 1600000 in
theorem tidy_any (neg : Bool) (v : Value) (xs : List Int) (w : World) (hx : Row w v xs) (dx : Digs xs) (lx : xs.length ≤ 1000000) :
    Calls Try.prog 97 #[.bool neg, v] w (RetZ w (sgn neg (val xs))) := by
  have hxr := hx
  obtain ⟨a, ca, ba, oa, rfl, hca, hxa, hxc⟩ := hx
  go_enter Try.func97, Try.ntmps97
  go_wp2
  go_loop [5] (fun i => ∃ (k : Nat), i = .int .i64 k ∧ k ≤ xs.length ∧ pre xs k = val xs) (fun i => (intOf i).toNat)
  case atStart => exact ⟨xs.length, rfl, Nat.le_refl _, pre_len xs⟩
  case round =>
    obtain ⟨k, rfl, hk, hp⟩ := hrel
    have HP := Lib.hid hp
    clear hp
    by_cases h0 : k = 0
    · subst h0
      clear hxa hxc hca
      go_wp2_with fail
      have hv := HP.out
      rw [pre_zero] at hv
      refine bodyPost_ret (v := .agg #[.bool false, .slice none 0 0]) (by simp [results, Try.results97, go_sem]) rfl (tidy_zero_end w _ neg _ hv.symm ?_)
      exact (Below.refl _ _).alloc (Nat.le_refl _) _
    · obtain ⟨j, rfl⟩ : ∃ j, k = j + 1 := ⟨k - 1, by omega⟩
      have hix := fun w => at_row (cap := ca) (fun h => (hxa h).1) (((j + 1 : Nat) : Int) - 1) (by omega) (by omega) w
      have e : ((j + 1 : Nat) : Int) - 1 = j := by omega
      simp only [e] at hix
      have hcx := hxc j (by omega)
      have hba := (hxa (by omega)).2.lt
      clear hxa e hxc
      by_cases hz : dg xs j = 0
      · have hs := Lib.hid ((pre_strip xs j hz).symm.trans HP.out)
        go_wp2_with fail
        go_round
        case rel => exact ⟨j, rfl, by omega, hs.out⟩
        case measure => simp [intOf]
      · go_wp2_with fail
        have hrow : Row w (.slice a (j + 1) ca) (xs.take (j + 1)) := by
          have := hxr.take (j + 1) (by omega)
          exact this
        have hl : (xs.take (j + 1)).length = j + 1 := by simp; omega
        have hg : dg (xs.take (j + 1)) j = dg xs j := dg_take xs (j + 1) j (by omega)
        have ht : Tidy (xs.take (j + 1)) := fun _ => by rw [hl, Nat.add_sub_cancel, hg]; exact hz
        have hp : 0 < val (xs.take (j + 1)) := by
          have h1 := tidy_ge (dx.take (j + 1)) ht (by omega)
          have h2 := B_pos ((xs.take (j + 1)).length - 1)
          omega
        refine bodyPost_ret (v := .agg #[.bool neg, .slice a (j + 1) ca]) (by simp [results, Try.results97, go_sem]) rfl ⟨_, _, _, _, rfl, ?_, (Below.refl _ _).alloc (Nat.le_refl _) _⟩
        have hz := (isZ_of neg hrow (dx.take (j + 1)) ht hp).below ((Below.refl _ w).alloc (Nat.le_refl _) (.cells #[.bool neg, .slice a (j + 1) ca] 37))
        have e : val (xs.take (j + 1)) = val xs := HP.out
        rw [e] at hz
        exact hz

set_option maxRecDepth 100000 in
set_option maxHeartbeats 1600000 in
theorem ofu_any (n : Int) (w : World) (h0 : 0 ≤ n) (h1 : n < 18446744073709551616) :
    Calls Try.prog 95 #[.int .u64 n] w (RetZ w n) := by
  go_enter Try.func95, Try.ntmps95
  go_wp2
  go_loopw [0, 3, 4] (fun q out i wr => ∃ (k : Nat) (c : Int) (zs : List Int), i = .int .i64 k ∧ q = .int .u64 c ∧ 0 ≤ c ∧ c < 18446744073709551616 ∧ k ≤ 4 ∧ zs.length = k ∧ Digs zs ∧
      wr.ownsRow (w.heap.size + 1) 3 1 out k (zs.map (Value.int .i64)) ∧ val zs + B k * c = n ∧ Below w.heap.size w wr ∧ Below (w.heap.size + 1) (w.alloc (.cells #[.bool false, .slice none 0 0] 37)) wr) (fun _ _ i _ => 5 - (intOf i).toNat)
  case atStart => exact ⟨0, n, [], rfl, rfl, h0, h1, by omega, rfl, Digs.nil, World.ownsRow_nil _ _ _ _, by simp [val, B_zero], (Below.refl _ _).alloc (Nat.le_refl _) _, Below.refl _ _⟩
  case round =>
    obtain ⟨k, c, zs, rfl, rfl, hc0, hc1, hk, hzl, dz, hown, hv, hbl, hbk⟩ := hrel
    have HL := Lib.hid hzl
    have HV := Lib.hid hv
    clear hzl hv
    have hbs := hbk.size
    have hbs2 : w.heap.size + 1 ≤ wr.heap.size := by simpa using hbs
    by_cases h4 : k < 4
    · have hst := Lib.hid (ofu_step n c zs k HL.out HV.out)
      go_wp2_with (at_builtin; refine append_int rfl _ _ rfl (w.heap.size + 1) (w.alloc (.cells #[.bool false, .slice none 0 0] 37)) _ _ _ rfl (hown.alloc _) ⟨wr.heap.size, 0, none⟩ _ rfl (cell1 _ _ _) (by omega) (by simp; omega) (hbk.alloc hbs2 _) ?_; intro v' w' hown' hbl' hsz')
      go_roundw
      case rel => exact ⟨k + 1, _, _, by go_num, rfl, by omega, by omega, by omega, by simp [HL.out], dz.snoc (by omega) (by omega), hown', hst.out, ((Below.refl _ w).alloc (Nat.le_refl _) _).trans (hbl'.mono (by omega)), hbl'⟩
      case measure => simp [intOf]; omega
    · obtain rfl : k = 4 := by omega
      have hn := Lib.hid (ofu_end dz HV.out h1 hc0)
      have hcr := fun o => hbk.cell (p := ⟨w.heap.size, o, none⟩) (Nat.lt_succ_self _)
      have hfr := fun o => hbk.frozen (p := ⟨w.heap.size, o, none⟩) (Nat.lt_succ_self _)
      have hlt : w.heap.size < wr.heap.size := by omega
      clear hbs
      go_wp2_with (go_at_call 97; (with_reducible refine (tidy_any false _ zs _ (row_of_owns hown HL.out) dz ?_).mono ?_); (have := HL.out; omega); rintro e w1 ⟨neg, a1, l1, c1, rfl, hz1, hb1⟩; obtain ⟨hcl, hfr1⟩ := bcell hb1)
      rw [hn.out] at hz1
      have hk0 : Kind w1 w.heap.size 37 := by
        have h0 : Kind wr w.heap.size 37 := ⟨#[.bool false, .slice none 0 0], (0, 0), (hbk.block _ (Nat.lt_succ_self _)).trans (heap_alloc_new w _)⟩
        exact h0.below hb1
      refine bodyPost_ret (v := .agg #[.bool neg, .slice a1 l1 c1]) (by simp [results, Try.results95, go_sem, hcl, hcr, hlt]) rfl ⟨_, _, _, _, rfl, (hz1.setCell hk0 (by decide) _ _).setCell (hk0.setCell _ _ _) (by decide) _ _, ?_⟩
      exact ((hbl.trans (hb1.mono hbl.size)).setCell (Nat.le_refl _) _).setCell (Nat.le_refl _) _

end Go.Proofs.Ytmkddcmfofabbaa
