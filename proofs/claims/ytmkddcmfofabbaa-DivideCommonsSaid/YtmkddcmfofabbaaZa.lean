/-
  Walks of the reference's digits: plus.
-/
import Derived.Test.YtmkddcmfofabbaaMem
namespace Go.Proofs.Ytmkddcmfofabbaa
open Go Go.RowKit

theorem info_int : (Try.prog.info? 3).map (fun i => (i.zero, i.size, i.bytes)) = some (some (.int .i64 0), 1, 8) := by kernel_rfl

/-- What the call has made reads as a row. -/
theorem row_of_owns {w : World} {base : Nat} {v : Value} {zs : List Int} {n : Nat} (h : w.ownsRow base 3 1 v n (zs.map (Value.int .i64))) (hn : zs.length = n) : Row w v zs := by
  subst hn
  have hh := h
  obtain ⟨h1, h2⟩ := h
  rcases h2 with ⟨rfl, h0⟩ | ⟨g, cap, cur, rfl, hg, hb, hc, _, hs, ht⟩
  · have : zs = [] := List.length_eq_zero_iff.1 h0
    subst this; exact Row.nil w
  · refine ⟨some ⟨g, 0, none⟩, cap, g, 0, rfl, hc, fun _ => ⟨rfl, cur, _, hb⟩, fun i hi => ?_⟩
    rw [Nat.zero_add, hh.cellAt i (by omega), List.getElem?_map, List.getElem?_eq_getElem hi, dg_eq, List.getD, List.getElem?_eq_getElem hi]
    rfl

/-- The call returns a row of digits of which P holds; of the memory that was there nothing has turned. -/
def RetRow (w : World) (P : List Int → Prop) (e : Ending) (w' : World) : Prop := ∃ v zs, e = .returned v ∧ Row w' v zs ∧ Digs zs ∧ P zs ∧ zs.length ≤ 100001 ∧ Below w.heap.size w w'

theorem cell1 (w : World) (x : Value) (t : TypeId) : (w.alloc (.cells #[x] t)).cell? ⟨w.heap.size, 0, none⟩ = some x := by
  rw [World.cell?_alloc_at _ _ _ _ rfl]; rfl

/-- 'out = append(out, y)', out a row that the call makes, y an int. -/
theorem append_int {ops : Array Oper} {rest : List Oper} {o : Oper} {a : Act} {Q : Exit → Act → World → Prop} {w : World} (hgd : o.guard = none) (s x : Operand)
    (ho : o.op = .call { callee := .builtin .append, args := #[s, x], argTypes := #[35, 35] }) (base : Nat) (wb : World) (v : Value) (n : Nat) (zs : List Int) (hs : a.eval s = v)
    (hown : w.ownsRow base 3 1 v n (zs.map (Value.int .i64))) (ad : Addr) (y : Int) (hx : a.eval x = .slice (some ad) 1 1) (hc : w.cell? ad = some (.int .i64 y)) (hn : n ≤ 1000000)
    (hbase : base ≤ w.heap.size) (hbl : Below base wb w)
    (h : ∀ v' w', w'.ownsRow base 3 1 v' (n + 1) ((zs ++ [y]).map (Value.int .i64)) → Below base wb w' → w.heap.size ≤ w'.heap.size → wpList Try.prog ops Q rest (a.put o.dst v') w') : wpList Try.prog ops Q (o :: rest) a w := by
  obtain ⟨i0, hi, hz0, hz1, hz2⟩ := info_parts info_int
  refine wpList_append_own w hgd s x 35 ho base 3 i0 (.int .i64 0) 1 8 Try.underlying35 hi hz0 hz1 hz2 rfl (by decide) v n _ hs hown ad 1 1 [.int .i64 y] hx rfl ?_ ?_ (by unfold maxLen; omega) (by omega) hbase ?_
  · intro j u hj
    match j, hj with
    | 0, hj =>
      simp at hj; subst hj
      have : ad.add 0 = ad := by simp [Addr.add]
      rw [this]; exact hc
  · intro u hu; simp at hu; subst hu; rfl
  · intro v' w' hown' hg _
    refine h v' w' (by simpa using hown') (hbl.grown hg hbase fun k hk => ?_) hg.size
    exact (hown.lt k hk).1

set_option maxRecDepth 100000 in
set_option maxHeartbeats 1600000 in
theorem plus_any (va vb : Value) (xs ys : List Int) (w : World) (hx : Row w va xs) (hy : Row w vb ys) (dx : Digs xs) (dy : Digs ys) (lx : xs.length ≤ 100000) (ly : ys.length ≤ 100000) :
    Calls Try.prog 99 #[va, vb] w (RetRow w fun zs => val zs = val xs + val ys) := by
  have hxr := hx
  have hyr := hy
  obtain ⟨a, ca, ba, oa, rfl, -, -, -⟩ := hx
  obtain ⟨b, cb, bb, ob, rfl, -, -, -⟩ := hy
  go_enter Try.func99, Try.ntmps99
  go_wp2
  go_loopw [5, 6, 7] (fun out c i wr => ∃ (k : Nat) (cc : Int) (zs : List Int), i = .int .i64 k ∧ c = .int .i64 cc ∧ 0 ≤ cc ∧ cc ≤ 1 ∧ k ≤ 100001 ∧ (xs.length < k → ys.length < k → cc = 0) ∧ zs.length = k ∧ Digs zs ∧
      wr.ownsRow w.heap.size 3 1 out k (zs.map (Value.int .i64)) ∧ val zs + B k * cc = pre xs k + pre ys k ∧ Below w.heap.size w wr) (fun _ _ i _ => 100002 - (intOf i).toNat)
  case atStart => exact ⟨0, 0, [], rfl, rfl, by omega, by omega, by omega, fun _ _ => rfl, rfl, Digs.nil, World.ownsRow_nil _ _ _ _, by simp [val, pre_zero], Below.refl _ _⟩
  case round =>
    obtain ⟨k, cc, zs, rfl, rfl, hc0, hc1, hk, hM, hzl, dz, hown, hv, hbl⟩ := hrel
    have hRx := hxr.below hbl
    have hRy := hyr.below hbl
    have hdx := dx k
    have hdy := dy k
    have hst := Lib.hid (plus_step xs ys zs k cc hzl hv)
    have HM := Lib.hid hM
    have HL := Lib.hid hzl
    have HV := Lib.hid hv
    clear hM hzl hv dx dy
    have hbs := hbl.size
    by_cases h1 : k < xs.length <;> by_cases h2 : k < ys.length <;> by_cases h3 : 0 < cc
    all_goals
      first
      | (exfalso; have := HM.out; omega)
      | (go_wp2_with (first
        | (go_at_call 96; (with_reducible refine (digit_any (.slice a xs.length ca) xs _ _ hRx (by omega) (by omega)).mono ?_); rintro e w' ⟨rfl, rfl⟩)
        | (go_at_call 96; (with_reducible refine (digit_any (.slice b ys.length cb) ys _ _ hRy (by omega) (by omega)).mono ?_); rintro e w' ⟨rfl, rfl⟩)
        | (at_builtin; refine append_int rfl _ _ rfl w.heap.size w _ _ _ rfl (hown.alloc _) ⟨wr.heap.size, 0, none⟩ _ rfl (cell1 _ _ _) (by omega) (by simp; omega) (hbl.alloc hbs _) ?_; intro v' w' hown' hbl' hsz'))
         first
         | (have hM := HM.out
            have hx0 := dg_past xs k
            have hy0 := dg_past ys k
            go_roundw
            case rel => exact ⟨k + 1, _, _, by go_num, rfl, by omega, by omega, by omega, by intros; omega, by simp [HL.out], dz.snoc (digit_mod _).1 (digit_mod _).2, hown', hst.out, hbl'⟩
            case measure => simp [intOf]; omega)
         | (clear hst
            go_ret
            refine ⟨_, zs, rfl, row_of_owns hown HL.out, dz, ?_, by rw [HL.out]; omega, hbl⟩
            have e := HV.out
            rw [pre_all xs k (by omega), pre_all ys k (by omega), show cc = 0 by omega] at e
            omega))
end Go.Proofs.Ytmkddcmfofabbaa
