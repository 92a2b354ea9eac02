/-
  A region that draws its order, whose last operation stores into a cell that the region loads: what loads and what only reckons is taken first, although the last operation ends what the loads need.
-/
import Derived.Test.YtmkddcmfofabbaaChain
namespace Go.Proofs.Ytmkddcmfofabbaa
open Go Go.RowKit

section
variable {P : Program} {ops : Array Oper} {Q : Exit → Act → World → Prop} {md : Region.Mode} {S : World → Prop} {t : Nat}

/-- Whatever order is picked, S holds behind every operation but number t. -/
def wpAnyX (P : Program) (md : Region.Mode) (ops : Array Oper) (Q : Exit → Act → World → Prop) (S : World → Prop) (t : Nat) : Nat → Array Bool → Act → World → Prop
  | 0, listed, a, w => Region.ready md ops listed = [] ∧ Q .normal a w
  | fuel + 1, listed, a, w =>
    (Region.ready md ops listed = [] → Q .normal a w) ∧
    ∀ i ∈ Region.ready md ops listed, wpOp P ops Q i (fun a' w' => (i = t ∨ S w') ∧ wpAnyX P md ops Q S t fuel (listed.setIfInBounds i true) a' w') a w
theorem wpAny_of_X : ∀ (fuel : Nat) (listed : Array Bool) (a : Act) (w : World), wpAnyX P md ops Q S t fuel listed a w → wpAny P md ops Q fuel listed a w
  | 0, _, _, _, h => h
  | fuel + 1, _, _, _, h => ⟨h.1, fun i hi => wpOp_mono (fun a' w' h' => wpAny_of_X fuel _ a' w' h'.2) (h.2 i hi)⟩
/-- Operation t waits for operation i. -/
def lastB (md : Region.Mode) (ops : Array Oper) (t i : Nat) : Bool :=
  match ops[t]? with
  | some o => o.after.toList.any fun e => Region.binds md e && e.on == i
  | none => false
theorem lastB_spec {i : Nat} (h : lastB md ops t i = true) {o : Oper} (ho : ops[t]? = some o) : ∃ e ∈ o.after, Region.binds md e = true ∧ e.on = i := by
  unfold lastB at h
  rw [ho] at h
  obtain ⟨e, he, hb⟩ := List.any_eq_true.1 h
  simp only [Bool.and_eq_true, beq_iff_eq] at hb
  exact ⟨e, Array.mem_toList_iff.1 he, hb⟩
theorem wpAnyX_first {i : Nat} {oi : Oper} {v : Value} (hi : ops[i]? = some oi) (hsel : ∀ (j : Nat) (o : Oper) cs b, ops[j]? = some o → o.op ≠ .select cs b)
    (hQ : ∀ c a w, Q (.panic c) (a.put oi.dst v) w → Q (.panic c) a w) (hlast : ∀ o, ops[t]? = some o → ∃ e ∈ o.after, Region.binds md e = true ∧ e.on = i) :
    ∀ (fuel : Nat) (listed : Array Bool) (a : Act) (w : World),
      (∀ j oj, ops[j]? = some oj → j ≠ i → listed.getD j true = false → (∀ e ∈ oj.after, Region.binds md e = true → e.on ≠ i) → oi.apart ops oj = true) →
      i ∈ Region.ready md ops listed → YieldsIf P ops S oi v a → S w →
      wpAnyX P md ops Q S t fuel (listed.setIfInBounds i true) (a.put oi.dst v) w → wpAnyX P md ops Q S t (fuel + 1) listed a w := by
  intro fuel
  induction fuel with
  | zero =>
    intro listed a w _ hr hy hS H
    refine ⟨fun h => (by rw [h] at hr; cases hr), fun j hj => ?_⟩
    by_cases hji : j = i
    · subst hji; exact hy.wpOp hi hS ⟨.inr hS, H⟩
    · have := ready_mono hj hji
      rw [H.1] at this
      cases this
  | succ fuel ih =>
    intro listed a w hfree hr hy hS H
    refine ⟨fun h => (by rw [h] at hr; cases hr), fun j hj => ?_⟩
    by_cases hji : j = i
    · subst hji; exact hy.wpOp hi hS ⟨.inr hS, H⟩
    · have h1 := H.2 j (ready_mono hj hji)
      obtain ⟨hjun, oj, hoj, hall⟩ := mem_ready.1 hj
      have hnot : ∀ e ∈ oj.after, Region.binds md e = true → e.on ≠ i := fun e he hb heq => by
        have h1 := hall e he hb
        have h0 := (mem_ready.1 hr).1
        rw [heq] at h1
        rcases Nat.lt_or_ge i listed.size with h' | h'
        · simp [h'] at h0 h1; rw [h0] at h1; cases h1
        · simp [Array.getElem?_eq_none h'] at h1
      have hjt : j ≠ t := fun e => by
        subst e
        obtain ⟨e, he, hb, hon⟩ := hlast oj hoj
        exact hnot e he hb hon
      have h2 := wpOp_putIf hoj (hfree j oj hoj hji hjun hnot) (fun cs b => hsel i oi cs b hi) (fun cs b => hsel j oj cs b hoj) hQ hy h1
      have hfree' : ∀ k ok, ops[k]? = some ok → k ≠ i → (listed.setIfInBounds j true).getD k true = false →
          (∀ e ∈ ok.after, Region.binds md e = true → e.on ≠ i) → oi.apart ops ok = true := fun k ok hk hki hun hno => by
        refine hfree k ok hk hki ?_ hno
        by_cases hjk : j = k
        · subst hjk; exact hjun
        · rw [getD_set_ne true hjk] at hun; exact hun
      refine wpOp_mono (fun a' w' h3 => ?_) h2
      have hS' : S w' := h3.2.1.resolve_left hjt
      refine ⟨.inr hS', ih (listed.setIfInBounds j true) a' w' hfree' (ready_mono hr (Ne.symm hji)) h3.1 hS' ?_⟩
      rw [Array.setIfInBounds_comm _ _ hji]
      exact h3.2.2
theorem wpAnyX_take {i : Nat} {oi : Oper} {v : Value} {fuel : Nat} {listed : Array Bool} {a : Act} {w : World} (hi : ops[i]? = some oi)
    (hs : Region.noSelect ops = true) (hf : Region.free md ops listed i = true) (hr : (Region.ready md ops listed).contains i = true) (hl : lastB md ops t i = true)
    (hQ : ∀ c a w, Q (.panic c) (a.put oi.dst v) w → Q (.panic c) a w) (hy : YieldsIf P ops S oi v a) (hS : S w)
    (h : wpAnyX P md ops Q S t fuel (listed.setIfInBounds i true) (a.put oi.dst v) w) : wpAnyX P md ops Q S t (fuel + 1) listed a w :=
  wpAnyX_first hi (Region.noSelect_spec hs) hQ (fun o ho => lastB_spec hl ho) fuel listed a w (Region.free_spec hi hf) (by simpa using hr) hy hS h

/-- The operations l, one behind the other. -/
def wpTlX (P : Program) (ops : Array Oper) (Q : Exit → Act → World → Prop) (S : World → Prop) (t : Nat) : List Nat → Act → World → Prop
  | [], a, w => Q .normal a w
  | i :: l, a, w => wpOp P ops Q i (fun a' w' => (i = t ∨ S w') ∧ wpTlX P ops Q S t l a' w') a w
theorem tailX {N : Nat} : ∀ (T : List Nat) (f : Nat → Bool) (a : Act) (w : World), shapeT md ops N f T = true → wpTlX P ops Q S t T a w → wpAnyX P md ops Q S t T.length (mkL N f) a w := by
  intro T
  induction T with
  | nil => intro f a w h hw; exact ⟨by simpa [shapeT] using h, hw⟩
  | cons i l ih =>
    intro f a w h hw
    simp only [shapeT, Bool.and_eq_true, beq_iff_eq] at h
    refine ⟨fun e => by rw [e] at h; simp at h, fun j hj => ?_⟩
    rw [h.1] at hj
    simp only [List.mem_singleton] at hj
    subst hj
    rw [mkL_set]
    exact wpOp_mono (fun a' w' ⟨h1, h2⟩ => ⟨h1, ih _ a' w' h.2 h2⟩) hw
theorem tailX_at {N fuel : Nat} {listed : Array Bool} {f0 T : List Nat} {a : Act} {w : World} (hN : listed = mkL N (fun j => f0.contains j)) (hfu : fuel = T.length) (hsh : shapeT md ops N (fun j => f0.contains j) T = true)
    (h : wpTlX P ops Q S t T a w) : wpAnyX P md ops Q S t fuel listed a w := by
  subst hN hfu
  exact tailX T _ a w hsh h
/-- The beginning. -/
theorem wp_region_X {id : Nat} {a : Act} {w : World} (t : Nat) (S : World → Prop) (hm : P.follows .mixedOrders = true)
    (h : wpAnyX P .any ops Q S t ops.size (Array.replicate ops.size false) a w.drew) : (Code.region id ops true).wp P Q a w :=
  wp_region_any hm (wpAny_of_X _ _ _ _ h)
end
end Go.Proofs.Ytmkddcmfofabbaa
