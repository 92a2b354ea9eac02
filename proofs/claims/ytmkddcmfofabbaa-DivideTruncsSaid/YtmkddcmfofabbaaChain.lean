/-
  A region that draws its order, whose calls stand in one order, and which makes one or two blocks at any time between them: one walk along the calls, with whatever the makings do in between.
-/
import Derived.Test.YtmkddcmfofabbaaExt
import Derived.OrdersHeld
namespace Go.Proofs.Ytmkddcmfofabbaa
open Go Go.RowKit

section
variable {P : Program} {ops : Array Oper} {Q : Exit → Act → World → Prop} {md : Region.Mode} {S : World → Prop}

/-- Two frames that differ in the slots D alone. -/
def Away (D : List Nat) (a a' : Act) : Prop := a'.defers = a.defers ∧ a'.tmps.size = a.tmps.size ∧ ∀ t, t ∉ D → a'.tmps[t]? = a.tmps[t]?
theorem Away.refl (D : List Nat) (a : Act) : Away D a a := ⟨rfl, rfl, fun _ _ => rfl⟩
theorem Away.put {D : List Nat} {a a' : Act} (h : Away D a a') {d : Nat} (hd : d ∈ D) (v : Value) : Away D a (a'.put (some d) v) :=
  ⟨h.1, by simpa [Act.put] using h.2.1, fun t ht => by
    have hne : d ≠ t := fun e => ht (e ▸ hd)
    simp only [Act.put, Array.getElem?_setIfInBounds, if_neg hne]
    exact h.2.2 t ht⟩

/-- The operations l, one behind the other; between them the slots D and the memory beyond may turn; those marked true (they only reckon) come at once. -/
def wpCh (P : Program) (ops : Array Oper) (Q : Exit → Act → World → Prop) (S : World → Prop) (D : List Nat) : List (Nat × Bool) → (Act → World → Prop) → Act → World → Prop
  | [], K, a, w => ∀ a' w', Away D a a' → Ext w w' → K a' w'
  | (i, false) :: l, K, a, w => ∀ a' w', Away D a a' → Ext w w' →
      wpOp P ops Q i (fun a1 w1 => (Ext w' w1 ∧ a1.tmps.size = a'.tmps.size ∧ ∀ t ∈ D, a1.tmps[t]? = a'.tmps[t]?) ∧ wpCh P ops Q S D l K a1 w1) a' w'
  | (i, true) :: l, K, a, w => ∃ o v, ops[i]? = some o ∧ YieldsIf P ops S o v a ∧ (∀ t ∈ D, o.dst ≠ some t) ∧ wpCh P ops Q S D l K (a.put o.dst v) w

/-- What a making does: number i puts a pointer to a new block into slot d. -/
def Makes (P : Program) (ops : Array Oper) (Q : Exit → Act → World → Prop) (i d : Nat) (o : Obj) : Prop :=
  ∀ (K : Act → World → Prop) (a : Act) (w : World), K (a.put (some d) (.pointer (some ⟨w.heap.size, 0, none⟩))) (w.alloc o) → wpOp P ops Q i K a w

/-- Slot d points to block k, which is as it was made. -/
def Made (base d : Nat) (o : Obj) (k : Nat) (a : Act) (w : World) : Prop := base ≤ k ∧ a.tmps[d]? = some (.pointer (some ⟨k, 0, none⟩)) ∧ w.heap[k]? = some o
theorem Made.lt {base d k : Nat} {o : Obj} {a : Act} {w : World} (h : Made base d o k a w) : k < w.heap.size := (Array.getElem?_eq_some_iff.1 h.2.2).1
theorem Made.ext {base d k : Nat} {o : Obj} {a a' : Act} {w w' : World} (h : Made base d o k a w) (hx : Ext w w') (ht : a'.tmps[d]? = a.tmps[d]?) : Made base d o k a' w' :=
  ⟨h.1, ht.trans h.2.1, (Below.block hx k h.lt).trans h.2.2⟩
theorem Made.new {base d : Nat} {o : Obj} {a : Act} {w : World} (hb : base ≤ w.heap.size) (hd : d < a.tmps.size) : Made base d o w.heap.size (a.put (some d) (.pointer (some ⟨w.heap.size, 0, none⟩))) (w.alloc o) :=
  ⟨hb, by simp [Act.put, hd], heap_alloc_new w o⟩
theorem Made.other {base d d' k : Nat} {o o' : Obj} {a : Act} {w : World} (h : Made base d o k a w) (hne : d' ≠ d) (v : Value) : Made base d o k (a.put (some d') v) (w.alloc o') :=
  h.ext (Ext.refl w).alloc (by simp [Act.put, hne])

def mkL (N : Nat) (f : Nat → Bool) : Array Bool := Array.ofFn (n := N) (fun i => f i.1)
def upd (f : Nat → Bool) (i : Nat) : Nat → Bool := fun j => j == i || f j
theorem mkL_set (N : Nat) (f : Nat → Bool) (i : Nat) : (mkL N f).setIfInBounds i true = mkL N (upd f i) := by
  refine Array.ext_getElem? fun j => ?_
  simp only [mkL, Array.getElem?_setIfInBounds, Array.getElem?_ofFn, Array.size_ofFn, upd]
  by_cases h : i = j
  · subst h
    by_cases hi : i < N <;> simp [hi]
  · have e : (j == i) = false := by simpa using fun e => h e.symm
    simp [h, e]
theorem put_slot {a : Act} {d : Option Tmp} {t : Nat} (h : d ≠ some t) (v : Value) : (a.put d v).tmps[t]? = a.tmps[t]? := by
  cases d with
  | none => rfl
  | some e =>
    have : e ≠ t := fun x => h (by rw [x])
    simp [Act.put, this]
theorem put_size (a : Act) (d : Option Tmp) (v : Value) : (a.put d v).tmps.size = a.tmps.size := by cases d <;> simp [Act.put]
theorem mkL_congr {N : Nat} {f g : Nat → Bool} (h : ∀ j, f j = g j) : mkL N f = mkL N g := by rw [show f = g from funext h]

/-- May come up next: the next of l, or a making that has not been. -/
def shape2 (md : Region.Mode) (ops : Array Oper) (N : Nat) (iA iB : Nat) : Nat → (Nat → Bool) → List (Nat × Bool) → Bool → Bool → Bool
  | 0, _, _, _, _ => true
  | n + 1, f, (j, true) :: l, fa, fb => Region.free md ops (mkL N f) j && (Region.ready md ops (mkL N f)).contains j && shape2 md ops N iA iB n (upd f j) l fa fb
  | n + 1, f, (j, false) :: l, fa, fb =>
    !(Region.ready md ops (mkL N f)).isEmpty && (Region.ready md ops (mkL N f)).all (fun t => j == t || (!fa && t == iA) || (!fb && t == iB)) &&
    shape2 md ops N iA iB n (upd f j) l fa fb && (fa || shape2 md ops N iA iB n (upd f iA) ((j, false) :: l) true fb) && (fb || shape2 md ops N iA iB n (upd f iB) ((j, false) :: l) fa true)
  | n + 1, f, [], fa, fb =>
    !(Region.ready md ops (mkL N f)).isEmpty && (Region.ready md ops (mkL N f)).all (fun t => (!fa && t == iA) || (!fb && t == iB)) &&
    (fa || shape2 md ops N iA iB n (upd f iA) [] true fb) && (fb || shape2 md ops N iA iB n (upd f iB) [] fa true)

def left2 (l : List (Nat × Bool)) (fa fb : Bool) : Nat := l.length + (if fa then 0 else 1) + (if fb then 0 else 1)

theorem chain2 {D : List Nat} {K : Act → World → Prop} {base iA dA iB dB N fuel : Nat} {oA oB : Obj} (hA : Makes P ops Q iA dA oA) (hB : Makes P ops Q iB dB oB) (hdA : dA ∈ D) (hdB : dB ∈ D) (hdd : dA ≠ dB)
    (hS : ∀ w w', S w → Ext w w' → S w') (hQ : ∀ (d : Option Tmp) (v : Value) c a w, Q (.panic c) (a.put d v) w → Q (.panic c) a w) (hns : Region.noSelect ops = true) :
    ∀ (n : Nat) (f : Nat → Bool) (l : List (Nat × Bool)) (fa fb : Bool) (a : Act) (w : World) (a0 : Act) (w0 : World), left2 l fa fb = n → shape2 md ops N iA iB n f l fa fb = true →
      dA < a.tmps.size → dB < a.tmps.size → S w → base ≤ w.heap.size →
      (fa = true → ∃ k, Made base dA oA k a w) → (fb = true → ∃ k, Made base dB oB k a w) → (fa = true → fb = true → ∃ k k', Made base dA oA k a w ∧ Made base dB oB k' a w ∧ k ≠ k') →
      wpCh P ops Q S D l K a0 w0 → Away D a0 a → Ext w0 w → (∀ j l', l = (j, true) :: l' → a = a0 ∧ w = w0) →
      (∀ (g : Nat → Bool) a' w', (∀ j, g j = (f j || (l.map (·.1)).contains j || (!fa && j == iA) || (!fb && j == iB))) → S w' → (∃ k k', Made base dA oA k a' w' ∧ Made base dB oB k' a' w' ∧ k ≠ k') → K a' w' → wpAnyH P md ops Q S fuel (mkL N g) a' w') →
      wpAnyH P md ops Q S (n + fuel) (mkL N f) a w := by
  intro n
  induction n with
  | zero =>
    intro f l fa fb a w a0 w0 hn _ _ _ hSw _ hmA _ hm2 hch haw hx _ hfin
    unfold left2 at hn
    have hl : l = [] := List.length_eq_zero_iff.1 (by omega)
    have hfa : fa = true := by cases fa <;> simp at hn ⊢
    have hfb : fb = true := by cases fb <;> simp at hn ⊢
    subst hl hfa hfb
    rw [Nat.zero_add]
    exact hfin f a w (fun j => by simp) hSw (hm2 rfl rfl) (hch a w haw hx)
  | succ n ih =>
    intro f l fa fb a w a0 w0 hn hsh hsA hsB hSw hbw hmA hmB hm2 hch haw hx hpu hfin
    rw [Nat.succ_add]
    have stepA : fa = false → shape2 md ops N iA iB n (upd f iA) l true fb = true → (∀ j l', l ≠ (j, true) :: l') → wpOp P ops Q iA (fun a' w' => S w' ∧ wpAnyH P md ops Q S (n + fuel) ((mkL N f).setIfInBounds iA true) a' w') a w := by
      intro h0 hs hl
      subst h0
      refine hA _ a w ?_
      have hx1 : Ext w (w.alloc oA) := (Ext.refl w).alloc
      have hS1 := hS w _ hSw hx1
      rw [mkL_set]
      refine ⟨hS1, ih (upd f iA) l true fb _ _ a0 w0 (by unfold left2 at hn ⊢; simp at hn ⊢; omega) hs (by rw [put_size]; exact hsA) (by rw [put_size]; exact hsB) hS1 (Nat.le_trans hbw hx1.size) (fun _ => ⟨_, Made.new hbw hsA⟩) (fun h => (hmB h).elim fun k hk => ⟨k, hk.other hdd _⟩) (fun _ h => (hmB h).elim fun k hk => ⟨_, k, Made.new hbw hsA, hk.other hdd _, Ne.symm (Nat.ne_of_lt hk.lt)⟩) hch (haw.put hdA _) (hx.trans hx1) (fun j l' e => absurd e (hl j l')) ?_⟩
      intro g a' w' hg
      exact hfin g a' w' fun t => by rw [hg t]; simp only [upd]; cases (t == iA) <;> cases f t <;> cases ((l.map (·.1)).contains t) <;> simp
    have stepB : fb = false → shape2 md ops N iA iB n (upd f iB) l fa true = true → (∀ j l', l ≠ (j, true) :: l') → wpOp P ops Q iB (fun a' w' => S w' ∧ wpAnyH P md ops Q S (n + fuel) ((mkL N f).setIfInBounds iB true) a' w') a w := by
      intro h0 hs hl
      subst h0
      refine hB _ a w ?_
      have hx1 : Ext w (w.alloc oB) := (Ext.refl w).alloc
      have hS1 := hS w _ hSw hx1
      rw [mkL_set]
      refine ⟨hS1, ih (upd f iB) l fa true _ _ a0 w0 (by unfold left2 at hn ⊢; simp at hn ⊢; omega) hs (by rw [put_size]; exact hsA) (by rw [put_size]; exact hsB) hS1 (Nat.le_trans hbw hx1.size) (fun h => (hmA h).elim fun k hk => ⟨k, hk.other (Ne.symm hdd) _⟩) (fun _ => ⟨_, Made.new hbw hsB⟩) (fun h _ => (hmA h).elim fun k hk => ⟨k, _, hk.other (Ne.symm hdd) _, Made.new hbw hsB, Nat.ne_of_lt hk.lt⟩) hch (haw.put hdB _) (hx.trans hx1) (fun j l' e => absurd e (hl j l')) ?_⟩
      intro g a' w' hg
      exact hfin g a' w' fun t => by rw [hg t]; simp only [upd]; cases (t == iB) <;> cases f t <;> cases ((l.map (·.1)).contains t) <;> cases (!fa && t == iA) <;> simp
    match l, hch, hpu, hfin, hn, hsh, stepA, stepB with
    | [], _, _, _, _, hsh, stepA, stepB =>
      unfold shape2 at hsh
      simp only [Bool.and_eq_true, Bool.or_eq_true, Bool.not_eq_true', List.all_eq_true, beq_iff_eq] at hsh
      obtain ⟨⟨⟨hne, hall⟩, hs2⟩, hs3⟩ := hsh
      refine ⟨fun h => by rw [h] at hne; simp at hne, fun i hi => ?_⟩
      rcases hall i hi with ⟨hfa, rfl⟩ | ⟨hfb, rfl⟩
      · exact stepA hfa (hs2.resolve_left (by rw [hfa]; simp)) (fun _ _ => by simp)
      · exact stepB hfb (hs3.resolve_left (by rw [hfb]; simp)) (fun _ _ => by simp)
    | (j, true) :: l, hch, hpu, hfin, hn, hsh, stepA, stepB =>
      obtain ⟨rfl, rfl⟩ := hpu j l rfl
      unfold shape2 at hsh
      simp only [Bool.and_eq_true] at hsh
      obtain ⟨⟨hf, hr⟩, hs1⟩ := hsh
      obtain ⟨o, v, ho, hy, hd, hch1⟩ := hch
      refine wpAnyH_take ho hns hf hr (hQ _ _) hy hSw ?_
      rw [mkL_set]
      have hpA := put_slot (a := a) (hd _ hdA) v
      have hpB := put_slot (a := a) (hd _ hdB) v
      refine ih (upd f j) l fa fb (a.put o.dst v) w (a.put o.dst v) w (by unfold left2 at hn ⊢; simp at hn ⊢; omega) hs1 (by rw [put_size]; exact hsA) (by rw [put_size]; exact hsB) hSw hbw (fun h => (hmA h).elim fun k hk => ⟨k, hk.ext (Ext.refl w) hpA⟩) (fun h => (hmB h).elim fun k hk => ⟨k, hk.ext (Ext.refl w) hpB⟩) (fun h h' => (hm2 h h').elim fun k hk => hk.elim fun k' hk' => ⟨k, k', hk'.1.ext (Ext.refl w) hpA, hk'.2.1.ext (Ext.refl w) hpB, hk'.2.2⟩) hch1 (Away.refl _ _) (Ext.refl _) (fun _ _ _ => ⟨rfl, rfl⟩) ?_
      intro g a' w' hg
      exact hfin g a' w' fun t => by rw [hg t]; simp only [upd, List.map_cons, List.contains_cons]; cases (t == j) <;> cases f t <;> simp
    | (j, false) :: l, hch, hpu, hfin, hn, hsh, stepA, stepB =>
      unfold shape2 at hsh
      simp only [Bool.and_eq_true, Bool.or_eq_true, Bool.not_eq_true', List.all_eq_true, beq_iff_eq] at hsh
      obtain ⟨⟨⟨⟨hne, hall⟩, hs1⟩, hs2⟩, hs3⟩ := hsh
      refine ⟨fun h => by rw [h] at hne; simp at hne, fun i hi => ?_⟩
      rcases hall i hi with (hh | ⟨hfa, rfl⟩) | ⟨hfb, rfl⟩
      · subst hh
        rw [mkL_set]
        refine wpOp_mono ?_ (hch a w haw hx)
        rintro a1 w1 ⟨⟨hx1, hsz, hsl⟩, hch1⟩
        have hS1 := hS w w1 hSw hx1
        refine ⟨hS1, ih (upd f j) l fa fb a1 w1 a1 w1 (by unfold left2 at hn ⊢; simp at hn ⊢; omega) hs1 (by omega) (by omega) hS1 (Nat.le_trans hbw hx1.size) (fun h => (hmA h).elim fun k hk => ⟨k, hk.ext hx1 (hsl _ hdA)⟩) (fun h => (hmB h).elim fun k hk => ⟨k, hk.ext hx1 (hsl _ hdB)⟩) (fun h h' => (hm2 h h').elim fun k hk => hk.elim fun k' hk' => ⟨k, k', hk'.1.ext hx1 (hsl _ hdA), hk'.2.1.ext hx1 (hsl _ hdB), hk'.2.2⟩) hch1 (Away.refl _ _) (Ext.refl _) (fun _ _ _ => ⟨rfl, rfl⟩) ?_⟩
        intro g a' w' hg
        exact hfin g a' w' fun t => by rw [hg t]; simp only [upd, List.map_cons, List.contains_cons]; cases (t == j) <;> cases f t <;> simp
      · exact stepA hfa (hs2.resolve_left (by rw [hfa]; simp)) (fun _ _ => by simp)
      · exact stepB hfb (hs3.resolve_left (by rw [hfb]; simp)) (fun _ _ => by simp)


/-- May come up next: the next of l, or the making, if it has not been. -/
def shape1 (md : Region.Mode) (ops : Array Oper) (N : Nat) (iA : Nat) : Nat → (Nat → Bool) → List (Nat × Bool) → Bool → Bool
  | 0, _, _, _ => true
  | n + 1, f, (j, true) :: l, fa => Region.free md ops (mkL N f) j && (Region.ready md ops (mkL N f)).contains j && shape1 md ops N iA n (upd f j) l fa
  | n + 1, f, (j, false) :: l, fa =>
    !(Region.ready md ops (mkL N f)).isEmpty && (Region.ready md ops (mkL N f)).all (fun t => j == t || (!fa && t == iA)) &&
    shape1 md ops N iA n (upd f j) l fa && (fa || shape1 md ops N iA n (upd f iA) ((j, false) :: l) true)
  | n + 1, f, [], fa =>
    !(Region.ready md ops (mkL N f)).isEmpty && (Region.ready md ops (mkL N f)).all (fun t => !fa && t == iA) && (fa || shape1 md ops N iA n (upd f iA) [] true)

def left1 (l : List (Nat × Bool)) (fa : Bool) : Nat := l.length + (if fa then 0 else 1)

theorem chain1 {D : List Nat} {K : Act → World → Prop} {base iA dA N fuel : Nat} {oA : Obj} (hA : Makes P ops Q iA dA oA) (hdA : dA ∈ D)
    (hS : ∀ w w', S w → Ext w w' → S w') (hQ : ∀ (d : Option Tmp) (v : Value) c a w, Q (.panic c) (a.put d v) w → Q (.panic c) a w) (hns : Region.noSelect ops = true) :
    ∀ (n : Nat) (f : Nat → Bool) (l : List (Nat × Bool)) (fa : Bool) (a : Act) (w : World) (a0 : Act) (w0 : World), left1 l fa = n → shape1 md ops N iA n f l fa = true →
      dA < a.tmps.size → S w → base ≤ w.heap.size →
      (fa = true → ∃ k, Made base dA oA k a w) →
      wpCh P ops Q S D l K a0 w0 → Away D a0 a → Ext w0 w → (∀ j l', l = (j, true) :: l' → a = a0 ∧ w = w0) →
      (∀ (g : Nat → Bool) a' w', (∀ j, g j = (f j || (l.map (·.1)).contains j || (!fa && j == iA))) → S w' → (∃ k, Made base dA oA k a' w') → K a' w' → wpAnyH P md ops Q S fuel (mkL N g) a' w') →
      wpAnyH P md ops Q S (n + fuel) (mkL N f) a w := by
  intro n
  induction n with
  | zero =>
    intro f l fa a w a0 w0 hn _ _ hSw _ hmA hch haw hx _ hfin
    unfold left1 at hn
    have hl : l = [] := List.length_eq_zero_iff.1 (by omega)
    have hfa : fa = true := by cases fa <;> simp at hn ⊢
    subst hl hfa
    rw [Nat.zero_add]
    exact hfin f a w (fun j => by simp) hSw (hmA rfl) (hch a w haw hx)
  | succ n ih =>
    intro f l fa a w a0 w0 hn hsh hsA hSw hbw hmA hch haw hx hpu hfin
    rw [Nat.succ_add]
    have stepA : fa = false → shape1 md ops N iA n (upd f iA) l true = true → (∀ j l', l ≠ (j, true) :: l') → wpOp P ops Q iA (fun a' w' => S w' ∧ wpAnyH P md ops Q S (n + fuel) ((mkL N f).setIfInBounds iA true) a' w') a w := by
      intro h0 hs hl
      subst h0
      refine hA _ a w ?_
      have hx1 : Ext w (w.alloc oA) := (Ext.refl w).alloc
      have hS1 := hS w _ hSw hx1
      rw [mkL_set]
      refine ⟨hS1, ih (upd f iA) l true _ _ a0 w0 (by unfold left1 at hn ⊢; simp at hn ⊢; omega) hs (by rw [put_size]; exact hsA) hS1 (Nat.le_trans hbw hx1.size) (fun _ => ⟨_, Made.new hbw hsA⟩) hch (haw.put hdA _) (hx.trans hx1) (fun j l' e => absurd e (hl j l')) ?_⟩
      intro g a' w' hg
      exact hfin g a' w' fun t => by rw [hg t]; simp only [upd]; cases (t == iA) <;> cases f t <;> cases ((l.map (·.1)).contains t) <;> simp
    match l, hch, hpu, hfin, hn, hsh, stepA with
    | [], _, _, _, _, hsh, stepA =>
      unfold shape1 at hsh
      simp only [Bool.and_eq_true, Bool.or_eq_true, Bool.not_eq_true', List.all_eq_true, beq_iff_eq] at hsh
      obtain ⟨⟨hne, hall⟩, hs2⟩ := hsh
      refine ⟨fun h => by rw [h] at hne; simp at hne, fun i hi => ?_⟩
      rcases hall i hi with ⟨hfa, rfl⟩
      · exact stepA hfa (hs2.resolve_left (by rw [hfa]; simp)) (fun _ _ => by simp)
    | (j, true) :: l, hch, hpu, hfin, hn, hsh, stepA =>
      obtain ⟨rfl, rfl⟩ := hpu j l rfl
      unfold shape1 at hsh
      simp only [Bool.and_eq_true] at hsh
      obtain ⟨⟨hf, hr⟩, hs1⟩ := hsh
      obtain ⟨o, v, ho, hy, hd, hch1⟩ := hch
      refine wpAnyH_take ho hns hf hr (hQ _ _) hy hSw ?_
      rw [mkL_set]
      have hpA := put_slot (a := a) (hd _ hdA) v
      refine ih (upd f j) l fa (a.put o.dst v) w (a.put o.dst v) w (by unfold left1 at hn ⊢; simp at hn ⊢; omega) hs1 (by rw [put_size]; exact hsA) hSw hbw (fun h => (hmA h).elim fun k hk => ⟨k, hk.ext (Ext.refl w) hpA⟩) hch1 (Away.refl _ _) (Ext.refl _) (fun _ _ _ => ⟨rfl, rfl⟩) ?_
      intro g a' w' hg
      exact hfin g a' w' fun t => by rw [hg t]; simp only [upd, List.map_cons, List.contains_cons]; cases (t == j) <;> cases f t <;> simp
    | (j, false) :: l, hch, hpu, hfin, hn, hsh, stepA =>
      unfold shape1 at hsh
      simp only [Bool.and_eq_true, Bool.or_eq_true, Bool.not_eq_true', List.all_eq_true, beq_iff_eq] at hsh
      obtain ⟨⟨⟨hne, hall⟩, hs1⟩, hs2⟩ := hsh
      refine ⟨fun h => by rw [h] at hne; simp at hne, fun i hi => ?_⟩
      rcases hall i hi with hh | ⟨hfa, rfl⟩
      · subst hh
        rw [mkL_set]
        refine wpOp_mono ?_ (hch a w haw hx)
        rintro a1 w1 ⟨⟨hx1, hsz, hsl⟩, hch1⟩
        have hS1 := hS w w1 hSw hx1
        refine ⟨hS1, ih (upd f j) l fa a1 w1 a1 w1 (by unfold left1 at hn ⊢; simp at hn ⊢; omega) hs1 (by omega) hS1 (Nat.le_trans hbw hx1.size) (fun h => (hmA h).elim fun k hk => ⟨k, hk.ext hx1 (hsl _ hdA)⟩) hch1 (Away.refl _ _) (Ext.refl _) (fun _ _ _ => ⟨rfl, rfl⟩) ?_⟩
        intro g a' w' hg
        exact hfin g a' w' fun t => by rw [hg t]; simp only [upd, List.map_cons, List.contains_cons]; cases (t == j) <;> cases f t <;> simp
      · exact stepA hfa (hs2.resolve_left (by rw [hfa]; simp)) (fun _ _ => by simp)


/-- What stands behind, in its one order. -/
def wpTl (P : Program) (ops : Array Oper) (Q : Exit → Act → World → Prop) (S : World → Prop) : List Nat → Act → World → Prop
  | [], a, w => Q .normal a w
  | t :: l, a, w => wpOp P ops Q t (fun a' w' => S w' ∧ wpTl P ops Q S l a' w') a w
def shapeT (md : Region.Mode) (ops : Array Oper) (N : Nat) : (Nat → Bool) → List Nat → Bool
  | f, [] => (Region.ready md ops (mkL N f)).isEmpty
  | f, t :: l => Region.ready md ops (mkL N f) == [t] && shapeT md ops N (upd f t) l
theorem tail_sound {N : Nat} : ∀ (T : List Nat) (f : Nat → Bool) (a : Act) (w : World), shapeT md ops N f T = true → wpTl P ops Q S T a w → wpAnyH P md ops Q S T.length (mkL N f) a w := by
  intro T
  induction T with
  | nil => intro f a w h hw; exact ⟨by simpa [shapeT] using h, hw⟩
  | cons t l ih =>
    intro f a w h hw
    simp only [shapeT, Bool.and_eq_true, beq_iff_eq] at h
    refine ⟨fun e => by rw [e] at h; simp at h, fun i hi => ?_⟩
    rw [h.1] at hi
    simp only [List.mem_singleton] at hi
    subst hi
    rw [mkL_set]
    exact wpOp_mono (fun a' w' ⟨h1, h2⟩ => ⟨h1, ih _ a' w' h.2 h2⟩) hw

theorem region2 {listed : Array Bool} {fuel N iA dA iB dB : Nat} {oA oB : Obj} {l : List (Nat × Bool)} {T f0 : List Nat} {a : Act} {w : World} (hQ : ∀ (d : Option Tmp) (v : Value) c a w, Q (.panic c) (a.put d v) w → Q (.panic c) a w) (hns : Region.noSelect ops = true) (hN : listed = mkL N (fun j => f0.contains j)) (hfu : fuel = left2 l false false + T.length)
    (hsh : shape2 md ops N iA iB (left2 l false false) (fun j => f0.contains j) l false false = true) (hshT : shapeT md ops N (fun j => (f0.contains j || (l.map (·.1)).contains j || (!false && j == iA) || (!false && j == iB))) T = true)
    (hA : Makes P ops Q iA dA oA) (hB : Makes P ops Q iB dB oB) (hdd : dA ≠ dB) (hsA : dA < a.tmps.size) (hsB : dB < a.tmps.size) (hS : ∀ w w', S w → Ext w w' → S w') (hSw : S w)
    (hch : wpCh P ops Q S [dA, dB] l (fun a' w' => ∀ k k', Made w.heap.size dA oA k a' w' → Made w.heap.size dB oB k' a' w' → k ≠ k' → S w' → wpTl P ops Q S T a' w') a w) : wpAnyH P md ops Q S fuel listed a w := by
  subst hN hfu
  refine chain2 (D := [dA, dB]) (base := w.heap.size) hA hB (by simp) (by simp) hdd hS hQ hns _ _ l false false a w a w rfl hsh hsA hsB hSw (Nat.le_refl _) (fun h => by cases h) (fun h => by cases h) (fun h => by cases h) hch (Away.refl _ _) (Ext.refl _) (fun _ _ _ => ⟨rfl, rfl⟩) ?_
  rintro g a' w' hg hS' ⟨k, k', h1, h2, h3⟩ hK
  rw [mkL_congr hg]
  exact tail_sound T _ a' w' hshT (hK k k' h1 h2 h3 hS')

theorem region1 {listed : Array Bool} {fuel N iA dA : Nat} {oA : Obj} {l : List (Nat × Bool)} {T f0 : List Nat} {a : Act} {w : World} (hQ : ∀ (d : Option Tmp) (v : Value) c a w, Q (.panic c) (a.put d v) w → Q (.panic c) a w) (hns : Region.noSelect ops = true) (hN : listed = mkL N (fun j => f0.contains j)) (hfu : fuel = left1 l false + T.length)
    (hsh : shape1 md ops N iA (left1 l false) (fun j => f0.contains j) l false = true) (hshT : shapeT md ops N (fun j => (f0.contains j || (l.map (·.1)).contains j || (!false && j == iA))) T = true)
    (hA : Makes P ops Q iA dA oA) (hsA : dA < a.tmps.size) (hS : ∀ w w', S w → Ext w w' → S w') (hSw : S w)
    (hch : wpCh P ops Q S [dA] l (fun a' w' => ∀ k, Made w.heap.size dA oA k a' w' → S w' → wpTl P ops Q S T a' w') a w) : wpAnyH P md ops Q S fuel listed a w := by
  subst hN hfu
  refine chain1 (D := [dA]) (base := w.heap.size) hA (by simp) hS hQ hns _ _ l false a w a w rfl hsh hsA hSw (Nat.le_refl _) (fun h => by cases h) hch (Away.refl _ _) (Ext.refl _) (fun _ _ _ => ⟨rfl, rfl⟩) ?_
  rintro g a' w' hg hS' ⟨k, h1⟩ hK
  rw [mkL_congr hg]
  exact tail_sound T _ a' w' hshT (hK k h1 hS')

/-- One operation, run here and now. -/
theorem wpOp_of {i : Nat} {o : Oper} {K : Act → World → Prop} {a : Act} {w : World} (ho : ops[i]? = some o)
    (h : ∀ K' : Act → World → Prop, (∀ a w, K a w → K' a w) → if Region.wanted o (yielded ops a.tmps) then o.wp P a w K' Q else K' (a.put o.dst undef) w) : wpOp P ops Q i K a w := by
  have := h K (fun _ _ h => h)
  unfold wpOp
  simp only [ho]
  split
  · rename_i hw; rw [if_pos hw] at this; exact .inl this
  · rename_i hw; rw [if_neg hw] at this; exact this

theorem slots2 {d e : Nat} {a a' : Act} (h : a'.tmps[d]? = a.tmps[d]?) (h' : a'.tmps[e]? = a.tmps[e]?) : ∀ t ∈ [d, e], a'.tmps[t]? = a.tmps[t]? := by
  intro t ht
  simp only [List.mem_cons, List.not_mem_nil, or_false] at ht
  rcases ht with rfl | rfl
  · exact h
  · exact h'
theorem slots1 {d : Nat} {a a' : Act} (h : a'.tmps[d]? = a.tmps[d]?) : ∀ t ∈ [d], a'.tmps[t]? = a.tmps[t]? := by
  intro t ht
  simp only [List.mem_cons, List.not_mem_nil, or_false] at ht
  subst ht; exact h
theorem away2 {d e : Nat} {arr : Array Value} {df : List Deferred} {a' : Act} (h : Away [d, e] ⟨arr, df⟩ a') : ∃ x y, a' = ⟨(arr.setIfInBounds d x).setIfInBounds e y, df⟩ := by
  obtain ⟨h1, h2, h3⟩ := h
  refine ⟨a'.tmps.getD d undef, a'.tmps.getD e undef, ?_⟩
  cases a' with
  | mk t f =>
    simp only [Act.mk.injEq] at h1 h2 h3 ⊢
    refine ⟨Array.ext_getElem? fun j => ?_, h1⟩
    simp only [Array.getElem?_setIfInBounds, Array.size_setIfInBounds]
    by_cases he : e = j
    · subst he
      by_cases hl : e < arr.size
      · simp [hl, show e < t.size by omega]
      · simp [hl, show t.size ≤ e by omega]
    · by_cases hd : d = j
      · subst hd
        by_cases hl : d < arr.size
        · simp [he, hl, show d < t.size by omega]
        · simp [he, hl, show t.size ≤ d by omega]
      · simp only [if_neg he, if_neg hd]
        exact h3 j (by simp [Ne.symm he, Ne.symm hd])
theorem away1 {d : Nat} {arr : Array Value} {df : List Deferred} {a' : Act} (h : Away [d] ⟨arr, df⟩ a') : ∃ x, a' = ⟨arr.setIfInBounds d x, df⟩ := by
  obtain ⟨h1, h2, h3⟩ := h
  refine ⟨a'.tmps.getD d undef, ?_⟩
  cases a' with
  | mk t f =>
    simp only [Act.mk.injEq] at h1 h2 h3 ⊢
    refine ⟨Array.ext_getElem? fun j => ?_, h1⟩
    simp only [Array.getElem?_setIfInBounds]
    by_cases hd : d = j
    · subst hd
      by_cases hl : d < arr.size
      · simp [hl, show d < t.size by omega]
      · simp [hl, show t.size ≤ d by omega]
    · simp only [if_neg hd]
      exact h3 j (by simp [Ne.symm hd])

end
end Go.Proofs.Ytmkddcmfofabbaa
