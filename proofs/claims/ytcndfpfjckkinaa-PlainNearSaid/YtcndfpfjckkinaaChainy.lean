/-
  A region that draws its order, one of whose stores (number t) hits a cell that the region loads: what loads is taken first where t waits for it; what looks at no memory is taken whenever it may come; S is asked for until t has come.
-/
import Derived.Test.YtcndfpfjckkinaaBx
namespace Go.Proofs.Ytcndfpfjckkinaa
open Go Go.RowKit

section
variable {P : Program} {ops : Array Oper} {Q : Exit → Act → World → Prop} {md : Region.Mode} {S : World → Prop} {t : Nat}

def wpAnyY (P : Program) (md : Region.Mode) (ops : Array Oper) (Q : Exit → Act → World → Prop) (S : World → Prop) (t : Nat) : Nat → Array Bool → Act → World → Prop
  | 0, listed, a, w => Region.ready md ops listed = [] ∧ Q .normal a w
  | fuel + 1, listed, a, w =>
    (Region.ready md ops listed = [] → Q .normal a w) ∧
    ∀ i ∈ Region.ready md ops listed, wpOp P ops Q i (fun a' w' => (i = t ∨ listed.getD t false = true ∨ S w') ∧ wpAnyY P md ops Q S t fuel (listed.setIfInBounds i true) a' w') a w
theorem wpAny_of_Y : ∀ (fuel : Nat) (listed : Array Bool) (a : Act) (w : World), wpAnyY P md ops Q S t fuel listed a w → wpAny P md ops Q fuel listed a w
  | 0, _, _, _, h => h
  | fuel + 1, _, _, _, h => ⟨h.1, fun i hi => wpOp_mono (fun a' w' h' => wpAny_of_Y fuel _ a' w' h'.2) (h.2 i hi)⟩
theorem wpAnyY_first {i : Nat} {oi : Oper} {v : Value} (hi : ops[i]? = some oi) (hsel : ∀ (j : Nat) (o : Oper) cs b, ops[j]? = some o → o.op ≠ .select cs b)
    (hQ : ∀ c a w, Q (.panic c) (a.put oi.dst v) w → Q (.panic c) a w) (hlast : ∀ o, ops[t]? = some o → ∃ e ∈ o.after, Region.binds md e = true ∧ e.on = i) :
    ∀ (fuel : Nat) (listed : Array Bool) (a : Act) (w : World), listed.getD t false = false → i ≠ t →
      (∀ j oj, ops[j]? = some oj → j ≠ i → listed.getD j true = false → (∀ e ∈ oj.after, Region.binds md e = true → e.on ≠ i) → oi.apart ops oj = true) →
      i ∈ Region.ready md ops listed → YieldsIf P ops S oi v a → S w →
      wpAnyY P md ops Q S t fuel (listed.setIfInBounds i true) (a.put oi.dst v) w → wpAnyY P md ops Q S t (fuel + 1) listed a w := by
  intro fuel
  induction fuel with
  | zero =>
    intro listed a w _ _ _ hr hy hS H
    refine ⟨fun h => (by rw [h] at hr; cases hr), fun j hj => ?_⟩
    by_cases hji : j = i
    · subst hji; exact hy.wpOp hi hS ⟨.inr (.inr hS), H⟩
    · have := ready_mono hj hji
      rw [H.1] at this
      cases this
  | succ fuel ih =>
    intro listed a w hlt hit hfree hr hy hS H
    refine ⟨fun h => (by rw [h] at hr; cases hr), fun j hj => ?_⟩
    by_cases hji : j = i
    · subst hji; exact hy.wpOp hi hS ⟨.inr (.inr hS), H⟩
    · have h1 := H.2 j (ready_mono hj hji)
      obtain ⟨hjun, oj, hoj, hall⟩ := mem_ready.1 hj
      have hnot : ∀ e ∈ oj.after, Region.binds md e = true → e.on ≠ i := fun e he hb heq => by
        have h1 := hall e he hb
        have h0 := (mem_ready.1 hr).1
        rw [heq] at h1
        rcases Nat.lt_or_ge i listed.size with h' | h'
        · simp [h'] at h0 h1; rw [h0] at h1; cases h1
        · simp [Array.getElem?_eq_none h'] at h1
      have hjt : j ≠ t := fun e => by
        subst e
        obtain ⟨e, he, hb, hon⟩ := hlast oj hoj
        exact hnot e he hb hon
      have h2 := wpOp_putIf hoj (hfree j oj hoj hji hjun hnot) (fun cs b => hsel i oi cs b hi) (fun cs b => hsel j oj cs b hoj) hQ hy h1
      have hfree' : ∀ k ok, ops[k]? = some ok → k ≠ i → (listed.setIfInBounds j true).getD k true = false →
          (∀ e ∈ ok.after, Region.binds md e = true → e.on ≠ i) → oi.apart ops ok = true := fun k ok hk hki hun hno => by
        refine hfree k ok hk hki ?_ hno
        by_cases hjk : j = k
        · subst hjk; exact hjun
        · rw [getD_set_ne true hjk] at hun; exact hun
      refine wpOp_mono (fun a' w' h3 => ?_) h2
      have hS' : S w' := by
        rcases h3.2.1 with h | h | h
        · exact absurd h hjt
        · rw [getD_set_ne false hit] at h; rw [hlt] at h; cases h
        · exact h
      refine ⟨.inr (.inr hS'), ih (listed.setIfInBounds j true) a' w' (by rw [getD_set_ne false hjt]; exact hlt) hit hfree' (ready_mono hr (Ne.symm hji)) h3.1 hS' ?_⟩
      rw [Array.setIfInBounds_comm _ _ hji]
      exact h3.2.2
theorem wpAnyY_firstW {i : Nat} {oi : Oper} {v : Value} (hi : ops[i]? = some oi) (hsel : ∀ (j : Nat) (o : Oper) cs b, ops[j]? = some o → o.op ≠ .select cs b)
    (hQ : ∀ c a w, Q (.panic c) (a.put oi.dst v) w → Q (.panic c) a w) (ht : t < ops.size) :
    ∀ (fuel : Nat) (listed : Array Bool) (a : Act) (w : World), listed.size = ops.size → i ≠ t →
      (∀ j oj, ops[j]? = some oj → j ≠ i → listed.getD j true = false → (∀ e ∈ oj.after, Region.binds md e = true → e.on ≠ i) → oi.apart ops oj = true) →
      i ∈ Region.ready md ops listed → YieldsIf P ops (fun _ => True) oi v a → (listed.getD t false = true ∨ S w) →
      wpAnyY P md ops Q S t fuel (listed.setIfInBounds i true) (a.put oi.dst v) w → wpAnyY P md ops Q S t (fuel + 1) listed a w := by
  intro fuel
  induction fuel with
  | zero =>
    intro listed a w _ _ _ hr hy hS H
    refine ⟨fun h => (by rw [h] at hr; cases hr), fun j hj => ?_⟩
    by_cases hji : j = i
    · subst hji; exact hy.wpOp hi trivial ⟨.inr hS, H⟩
    · have := ready_mono hj hji
      rw [H.1] at this
      cases this
  | succ fuel ih =>
    intro listed a w hsz hit hfree hr hy hS H
    refine ⟨fun h => (by rw [h] at hr; cases hr), fun j hj => ?_⟩
    by_cases hji : j = i
    · subst hji; exact hy.wpOp hi trivial ⟨.inr hS, H⟩
    · have h1 := H.2 j (ready_mono hj hji)
      obtain ⟨hjun, oj, hoj, hall⟩ := mem_ready.1 hj
      have hnot : ∀ e ∈ oj.after, Region.binds md e = true → e.on ≠ i := fun e he hb heq => by
        have h1 := hall e he hb
        have h0 := (mem_ready.1 hr).1
        rw [heq] at h1
        rcases Nat.lt_or_ge i listed.size with h' | h'
        · simp [h'] at h0 h1; rw [h0] at h1; cases h1
        · simp [Array.getElem?_eq_none h'] at h1
      have h2 := wpOp_putIf hoj (hfree j oj hoj hji hjun hnot) (fun cs b => hsel i oi cs b hi) (fun cs b => hsel j oj cs b hoj) hQ hy h1
      have hfree' : ∀ k ok, ops[k]? = some ok → k ≠ i → (listed.setIfInBounds j true).getD k true = false →
          (∀ e ∈ ok.after, Region.binds md e = true → e.on ≠ i) → oi.apart ops ok = true := fun k ok hk hki hun hno => by
        refine hfree k ok hk hki ?_ hno
        by_cases hjk : j = k
        · subst hjk; exact hjun
        · rw [getD_set_ne true hjk] at hun; exact hun
      refine wpOp_mono (fun a' w' h3 => ?_) h2
      have hS' : (listed.setIfInBounds j true).getD t false = true ∨ S w' := by
        rcases h3.2.1 with h | h | h
        · subst h; left; simp [hsz, ht]
        · rw [getD_set_ne false hit] at h
          left
          by_cases hjt : j = t
          · subst hjt; simp [hsz, ht]
          · rw [getD_set_ne false hjt]; exact h
        · exact .inr h
      have hS2 : j = t ∨ listed.getD t false = true ∨ S w' := by
        rcases h3.2.1 with h | h | h
        · exact .inl h
        · rw [getD_set_ne false hit] at h; exact .inr (.inl h)
        · exact .inr (.inr h)
      refine ⟨hS2, ih (listed.setIfInBounds j true) a' w' (by simpa using hsz) hit hfree' (ready_mono hr (Ne.symm hji)) h3.1 hS' ?_⟩
      rw [Array.setIfInBounds_comm _ _ hji]
      exact h3.2.2
theorem wpAnyY_take {i : Nat} {oi : Oper} {v : Value} {fuel : Nat} {listed : Array Bool} {a : Act} {w : World} (hi : ops[i]? = some oi)
    (hs : Region.noSelect ops = true) (hf : Region.free md ops listed i = true) (hr : (Region.ready md ops listed).contains i = true) (hl : lastB md ops t i = true) (hlt : listed.getD t false = false) (hit : i ≠ t)
    (hQ : ∀ c a w, Q (.panic c) (a.put oi.dst v) w → Q (.panic c) a w) (hy : YieldsIf P ops S oi v a) (hS : S w)
    (h : wpAnyY P md ops Q S t fuel (listed.setIfInBounds i true) (a.put oi.dst v) w) : wpAnyY P md ops Q S t (fuel + 1) listed a w :=
  wpAnyY_first hi (Region.noSelect_spec hs) hQ (fun o ho => lastB_spec hl ho) fuel listed a w hlt hit (Region.free_spec hi hf) (by simpa using hr) hy hS h
theorem wpAnyY_takeW {i : Nat} {oi : Oper} {v : Value} {fuel : Nat} {listed : Array Bool} {a : Act} {w : World} (hi : ops[i]? = some oi)
    (hs : Region.noSelect ops = true) (hf : Region.free md ops listed i = true) (hr : (Region.ready md ops listed).contains i = true) (ht : t < ops.size) (hsz : listed.size = ops.size) (hit : i ≠ t)
    (hQ : ∀ c a w, Q (.panic c) (a.put oi.dst v) w → Q (.panic c) a w) (hy : YieldsIf P ops (fun _ => True) oi v a) (hS : S w)
    (h : wpAnyY P md ops Q S t fuel (listed.setIfInBounds i true) (a.put oi.dst v) w) : wpAnyY P md ops Q S t (fuel + 1) listed a w :=
  wpAnyY_firstW hi (Region.noSelect_spec hs) hQ ht fuel listed a w hsz hit (Region.free_spec hi hf) (by simpa using hr) hy (.inr hS) h
theorem wpAnyY_one {i : Nat} {fuel : Nat} {listed : Array Bool} {a : Act} {w : World} (hr : Region.ready md ops listed = [i])
    (h : wpOp P ops Q i (fun a' w' => (i = t ∨ listed.getD t false = true ∨ S w') ∧ wpAnyY P md ops Q S t fuel (listed.setIfInBounds i true) a' w') a w) : wpAnyY P md ops Q S t (fuel + 1) listed a w := by
  unfold wpAnyY
  refine ⟨fun h0 => (by rw [hr] at h0; cases h0), fun j hj => ?_⟩
  rw [hr] at hj
  obtain rfl := List.mem_singleton.1 hj
  exact h
theorem wp_region_Y {id : Nat} {a : Act} {w : World} (t : Nat) (S : World → Prop) (hm : P.follows .mixedOrders = true)
    (h : wpAnyY P .any ops Q S t ops.size (Array.replicate ops.size false) a w.drew) : (Code.region id ops true).wp P Q a w :=
  wp_region_any hm (wpAny_of_Y _ _ _ _ h)

/-- A load, whatever stands in the other slots. -/
theorem yields_at {o : Oper} {v : Value} {a a0 : Act} (hw : Region.wanted o (yielded ops a.tmps) = true) (he : execOp a.eval o = execOp a0.eval o) (h : ∀ w, S w → (execOp a0.eval o).run P w = .ok (.value v) w) : YieldsIf P ops S o v a :=
  Or.inl ⟨hw, fun w hs => by rw [he]; exact h w hs⟩
theorem exec_load {ρ ρ' : Operand → Value} {o : Oper} {T : TypeId} {x : Operand} (ho : o.op = .load T x) (h : ρ x = ρ' x) : execOp ρ o = execOp ρ' o := by
  unfold execOp; rw [ho]; simp only [h]
theorem exec_bin {ρ ρ' : Operand → Value} {o : Oper} {b : BinOp} {T T' : TypeId} {x y : Operand} (ho : o.op = .binOp b T x y T') (h : ρ x = ρ' x) (h' : ρ y = ρ' y) : execOp ρ o = execOp ρ' o := by
  unfold execOp; rw [ho]; simp only [h, h']
/-- A call, entered. -/
theorem wpOp_enter {i : Nat} {o : Oper} {f : FuncId} {args : Array Value} {K : Act → World → Prop} {a : Act} {w : World} (ho : ops[i]? = some o) (hw : Region.wanted o (yielded ops a.tmps) = true) (hx : (execOp a.eval o).run P w = .ok (.enter f args) w)
    (h : Calls P f args w fun e w'' => match e with
      | .returned u => K (a.put o.dst u) w''
      | .panicked c => Q (.panic c) a w''
      | .outgrown => LetsOut Q) : wpOp P ops Q i K a w := by
  unfold wpOp
  simp only [ho, hw, if_true]
  left
  unfold Oper.wp
  rw [hx]
  exact h.mono fun e w'' he => by cases e <;> exact he

/-- The operations l, one behind the other; those marked true (they look at memory that S tells, or only reckon) come at once. -/
def wpC0 (P : Program) (ops : Array Oper) (Q : Exit → Act → World → Prop) (S : World → Prop) : List (Nat × Bool) → Act → World → Prop
  | [], a, w => Q .normal a w
  | (i, false) :: l, a, w => wpOp P ops Q i (fun a1 w1 => S w1 ∧ wpC0 P ops Q S l a1 w1) a w
  | (i, true) :: l, a, w => ∃ o v, ops[i]? = some o ∧ YieldsIf P ops S o v a ∧ wpC0 P ops Q S l (a.put o.dst v) w
theorem wpC0_take {i : Nat} {o : Oper} {v : Value} {l : List (Nat × Bool)} {a : Act} {w : World} (ho : ops[i]? = some o) (hy : YieldsIf P ops S o v a) (h : wpC0 P ops Q S l (a.put o.dst v) w) : wpC0 P ops Q S ((i, true) :: l) a w := ⟨o, v, ho, hy, h⟩
theorem wpC0_enter {i : Nat} {o : Oper} {f : FuncId} {args : Array Value} {l : List (Nat × Bool)} {a : Act} {w : World} (ho : ops[i]? = some o) (hw : Region.wanted o (yielded ops a.tmps) = true) (hx : (execOp a.eval o).run P w = .ok (.enter f args) w)
    (h : Calls P f args w fun e w'' => match e with
      | .returned u => S w'' ∧ wpC0 P ops Q S l (a.put o.dst u) w''
      | .panicked c => Q (.panic c) a w''
      | .outgrown => LetsOut Q) : wpC0 P ops Q S ((i, false) :: l) a w := wpOp_enter ho hw hx h
theorem wpC0_store {i : Nat} {l : List (Nat × Bool)} {a : Act} {w : World} (h : wpOp P ops Q i (fun a1 w1 => S w1 ∧ wpC0 P ops Q S l a1 w1) a w) : wpC0 P ops Q S ((i, false) :: l) a w := h
/-- Operation number i. -/
def opAt (ops : Array Oper) (i : Nat) : Oper := (ops[i]?).getD { dst := none, op := .move (.const undef), type := 0, pos := "", after := #[], guard := none }
theorem opAt_some {i : Nat} (h : i < ops.size) : ops[i]? = some (opAt ops i) := by
  unfold opAt
  rw [Array.getElem?_eq_getElem h]; rfl
/-- A step that only reads or reckons, told by number. -/
theorem wpC0_takeA {i d : Nat} {v : Value} {l : List (Nat × Bool)} {a : Act} {w : World} (hi : decide (i < ops.size) = true) (hd : (opAt ops i).dst = some d) (hy : YieldsIf P ops S (opAt ops i) v a) (h : wpC0 P ops Q S l (a.put (some d) v) w) : wpC0 P ops Q S ((i, true) :: l) a w :=
  ⟨opAt ops i, v, opAt_some (of_decide_eq_true hi), hy, by rw [hd]; exact h⟩
theorem wpC0_enterA {i d : Nat} {f : FuncId} {args : Array Value} {l : List (Nat × Bool)} {a : Act} {w : World} (hi : decide (i < ops.size) = true) (hd : (opAt ops i).dst = some d) (hw : Region.wanted (opAt ops i) (yielded ops a.tmps) = true) (hx : (execOp a.eval (opAt ops i)).run P w = .ok (.enter f args) w)
    (h : Calls P f args w fun e w'' => match e with
      | .returned u => S w'' ∧ wpC0 P ops Q S l (a.put (some d) u) w''
      | .panicked c => Q (.panic c) a w''
      | .outgrown => LetsOut Q) : wpC0 P ops Q S ((i, false) :: l) a w := by
  refine wpC0_enter (opAt_some (of_decide_eq_true hi)) hw hx ?_
  rw [hd]; exact h
/-- A load, told by its operands. -/
theorem yields_load {i : Nat} {T : TypeId} {x : Operand} {u v : Value} {a : Act} (hw : Region.wanted (opAt ops i) (yielded ops a.tmps) = true) (ho : (opAt ops i).op = .load T x) (hu : a.eval x = u)
    (h : ∀ w, S w → (execOp (fun _ => u) { dst := none, op := .load T x, type := 0, pos := "", after := #[], guard := none }).run P w = .ok (.value v) w) : YieldsIf P ops S (opAt ops i) v a := by
  refine Or.inl ⟨hw, fun w hs => ?_⟩
  have e : execOp a.eval (opAt ops i) = execOp (fun _ => u) { dst := none, op := .load T x, type := 0, pos := "", after := #[], guard := none } := by
    unfold execOp; rw [ho]; simp only [hu]
  rw [e]; exact h w hs
def shape0 (md : Region.Mode) (ops : Array Oper) (N : Nat) : (Nat → Bool) → List (Nat × Bool) → Bool
  | f, [] => (Region.ready md ops (mkL N f)).isEmpty
  | f, (j, true) :: l => Region.free md ops (mkL N f) j && (Region.ready md ops (mkL N f)).contains j && shape0 md ops N (upd f j) l
  | f, (j, false) :: l => Region.ready md ops (mkL N f) == [j] && shape0 md ops N (upd f j) l
theorem chain0 {N : Nat} (hQ : ∀ (d : Option Tmp) (v : Value) c a w, Q (.panic c) (a.put d v) w → Q (.panic c) a w) (hns : Region.noSelect ops = true) :
    ∀ (l : List (Nat × Bool)) (f : Nat → Bool) (a : Act) (w : World), shape0 md ops N f l = true → S w → wpC0 P ops Q S l a w → wpAnyH P md ops Q S l.length (mkL N f) a w := by
  intro l
  induction l with
  | nil => intro f a w h _ hw; exact ⟨by simpa [shape0] using h, hw⟩
  | cons x l ih =>
    intro f a w h hS hw
    obtain ⟨j, b⟩ := x
    cases b with
    | true =>
      simp only [shape0, Bool.and_eq_true] at h
      obtain ⟨o, v, ho, hy, hc⟩ := hw
      refine wpAnyH_take ho hns h.1.1 h.1.2 (hQ _ _) hy hS ?_
      rw [mkL_set]
      exact ih _ _ _ h.2 hS hc
    | false =>
      simp only [shape0, Bool.and_eq_true, beq_iff_eq] at h
      refine ⟨fun e => by rw [e] at h; simp at h, fun i hi => ?_⟩
      rw [h.1] at hi
      simp only [List.mem_singleton] at hi
      subst hi
      rw [mkL_set]
      exact wpOp_mono (fun a' w' ⟨h1, h2⟩ => ⟨h1, ih _ a' w' h.2 h1 h2⟩) hw
theorem region0 {listed : Array Bool} {fuel N : Nat} {l : List (Nat × Bool)} {a : Act} {w : World} (hQ : ∀ (d : Option Tmp) (v : Value) c a w, Q (.panic c) (a.put d v) w → Q (.panic c) a w) (hns : Region.noSelect ops = true) (hN : listed = mkL N (fun _ => false)) (hfu : fuel = l.length)
    (hsh : shape0 md ops N (fun _ => false) l = true) (hS : S w) (h : wpC0 P ops Q S l a w) : wpAnyH P md ops Q S fuel listed a w := by
  subst hN hfu
  exact chain0 hQ hns l _ a w hsh hS h
end
end Go.Proofs.Ytcndfpfjckkinaa
