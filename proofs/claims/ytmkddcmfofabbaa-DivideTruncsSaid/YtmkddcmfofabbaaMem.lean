/-
  How the seat's data lie in memory: a slice of numbers that is only read (Row); what the walks need of it. Laws of the two calls that the model answers itself (math/bits.Add64, Sub64).
-/
import Derived.Test.YtmkddcmfofabbaaProg
import Derived.Test.YtmkddcmfofabbaaDig
import Derived.WalkKit
import Derived.WalkLawsBesides
import Derived.WalkSpells
import Derived.Lib.Hide
import Derived.Lib.SmallJoins
namespace Go.Proofs.Ytmkddcmfofabbaa
open Go Go.RowKit

/-- Block k holds cells of type t. -/
def Kind (w : World) (k : Nat) (t : TypeId) : Prop := ∃ cs fr, w.heap[k]? = some (.cells cs t fr)
theorem Kind.lt {w : World} {k : Nat} {t : TypeId} (h : Kind w k t) : k < w.heap.size := by
  obtain ⟨cs, fr, h⟩ := h; exact (Array.getElem?_eq_some_iff.1 h).1
theorem Kind.below {w w' : World} {k : Nat} {t : TypeId} (h : Kind w k t) (hb : Below w.heap.size w w') : Kind w' k t := by
  have hl := h.lt
  obtain ⟨cs, fr, h⟩ := h; exact ⟨cs, fr, (hb.block k hl).trans h⟩
theorem Kind.setCell {w : World} {k : Nat} {t : TypeId} (h : Kind w k t) (b o : Nat) (u : Value) : Kind (w.setCell ⟨b, o, none⟩ u) k t := by
  obtain ⟨cs, fr, h⟩ := h
  by_cases e : k = b
  · subst e; exact ⟨_, fr, Joins.block_setCell h u⟩
  · exact ⟨cs, fr, (heap_setCell_other w ⟨b, o, none⟩ k u e).trans h⟩
theorem Kind.alloc {w : World} {k : Nat} {t : TypeId} (h : Kind w k t) (o : Obj) : Kind (w.alloc o) k t := h.below ((Below.refl _ _).alloc (Nat.le_refl _) _)
theorem Kind.new (w : World) (cs : Array Value) (t : TypeId) : Kind (w.alloc (.cells cs t)) w.heap.size t := ⟨cs, (0, 0), heap_alloc_new w _⟩
theorem Kind.new' {w : World} {k : Nat} (cs : Array Value) (t : TypeId) (h : k = w.heap.size) : Kind (w.alloc (.cells cs t)) k t := by subst h; exact Kind.new w cs t
theorem Kind.ne {w : World} {k k' : Nat} {t t' : TypeId} (h : Kind w k t) (h' : Kind w k' t') (ht : t ≠ t') : k ≠ k' := by
  rintro rfl
  obtain ⟨cs, fr, h⟩ := h
  obtain ⟨cs', fr', h'⟩ := h'
  rw [h] at h'
  simp only [Option.some.injEq, Obj.cells.injEq] at h'
  exact ht h'.2.1

/-- The slice value v reads, in w, as the numbers xs. -/
def Row (w : World) (v : Value) (xs : List Int) : Prop :=
  ∃ (a : Option Addr) (cap b off : Nat), v = .slice a xs.length cap ∧ xs.length ≤ cap ∧ (0 < xs.length → a = some ⟨b, off, none⟩ ∧ Kind w b 3) ∧
    ∀ i, i < xs.length → w.cell? ⟨b, off + i, none⟩ = some (.int .i64 (dg xs i))

theorem Row.nil (w : World) : Row w (.slice none 0 0) [] := ⟨none, 0, 0, 0, rfl, Nat.le_refl _, fun h => absurd h (by simp), fun i h => absurd h (by simp)⟩

theorem Row.below {w w' : World} {v : Value} {xs : List Int} (h : Row w v xs) (hb : Below w.heap.size w w') : Row w' v xs := by
  obtain ⟨a, cap, b, off, rfl, h1, h2, h3⟩ := h
  exact ⟨a, cap, b, off, rfl, h1, fun h => ⟨(h2 h).1, (h2 h).2.below hb⟩, fun i hi => (hb.cell (p := ⟨b, off + i, none⟩) (h2 (by omega)).2.lt).trans (h3 i hi)⟩

theorem Row.setCell {w : World} {v : Value} {xs : List Int} (h : Row w v xs) {k : Nat} {t : TypeId} (hk : Kind w k t) (ht : 3 ≠ t) (o : Nat) (u : Value) : Row (w.setCell ⟨k, o, none⟩ u) v xs := by
  obtain ⟨a, cap, b, off, rfl, h1, h2, h3⟩ := h
  refine ⟨a, cap, b, off, rfl, h1, fun h => ⟨(h2 h).1, (h2 h).2.setCell k o u⟩, fun i hi => ?_⟩
  have hne := (h2 (by omega)).2.ne hk ht
  exact (World.cell?_of_block (heap_setCell_other w ⟨k, o, none⟩ b u hne)).trans (h3 i hi)

theorem Row.take {w : World} {a : Option Addr} {len cap : Nat} {xs : List Int} (h : Row w (.slice a len cap) xs) (n : Nat) (hn : n ≤ len) : Row w (.slice a n cap) (xs.take n) := by
  obtain ⟨a', cap', b, off, e, h1, h2, h3⟩ := h
  simp only [Value.slice.injEq] at e
  obtain ⟨rfl, rfl, rfl⟩ := e
  have hl : (xs.take n).length = n := by simp; omega
  refine ⟨a, cap, b, off, by rw [hl], by omega, fun h => h2 (by omega), fun i hi => ?_⟩
  rw [h3 i (by omega), dg_take xs n i (by omega)]

/-- Where the element i lies, whatever the slice's address. -/
theorem at_row {len cap b off : Nat} {a : Option Addr} (h : 0 < len → a = some ⟨b, off, none⟩) (i : Int) (h0 : 0 ≤ i) (h1 : i < len) (w : World) :
    (Instr.indexAt 35 (.slice a len cap) (.int .i64 i)).run Try.prog w = .ok (.pointer (some ⟨b, off + i.toNat, none⟩)) w := by
  obtain ⟨k, rfl⟩ := Int.eq_ofNat_of_zero_le h0
  rw [h (by omega)]
  have e : Try.prog.elem 35 = 3 := by kernel_rfl
  have s : ∀ w, (sizeOf 3).run Try.prog w = .ok 1 w := fun _ => by kernel_rfl
  rw [run_indexAt_slice w 35 ⟨b, off, none⟩ len cap .i64 k (by rw [e]; exact Try.underlying35), if_pos ⟨h0, h1⟩, e, s]
  simp [Result.andThen, Addr.add]

theorem bcell {W w1 : World} (hb : Below W.heap.size W w1) : (∀ b o, b < W.heap.size → w1.cell? ⟨b, o, none⟩ = W.cell? ⟨b, o, none⟩) ∧ (∀ b o, b < W.heap.size → w1.frozen? ⟨b, o, none⟩ = W.frozen? ⟨b, o, none⟩) :=
  ⟨fun b o h => hb.cell (p := ⟨b, o, none⟩) h, fun b o h => hb.frozen (p := ⟨b, o, none⟩) h⟩

theorem cell_keep {W w1 : World} {b o : Nat} {v : Value} (hb : Below W.heap.size W w1) (h : W.cell? ⟨b, o, none⟩ = some v) : w1.cell? ⟨b, o, none⟩ = some v :=
  (hb.cell (p := ⟨b, o, none⟩) (World.block_lt_of_cell? W ⟨b, o, none⟩ h)).trans h
theorem below1 (w : World) (a : Obj) : Below w.heap.size w (w.alloc a) := (Below.refl _ w).alloc (Nat.le_refl _) _
theorem below2 (w : World) (a b : Obj) : Below w.heap.size w ((w.alloc a).alloc b) := (below1 w a).alloc (by simp) _
theorem below3 (w : World) (a b c : Obj) : Below w.heap.size w (((w.alloc a).alloc b).alloc c) := (below2 w a b).alloc (by simp; omega) _
theorem below4 (w : World) (a b c d : Obj) : Below w.heap.size w ((((w.alloc a).alloc b).alloc c).alloc d) := (below3 w a b c).alloc (by simp; omega) _
theorem below5 (w : World) (a b c d e : Obj) : Below w.heap.size w (((((w.alloc a).alloc b).alloc c).alloc d).alloc e) := (below4 w a b c d).alloc (by simp; omega) _

/-- Block k holds the two cells u, v, of type t, and may be written. -/
def Box2 (w : World) (k : Nat) (u v : Value) (t : TypeId) : Prop := w.heap[k]? = some (.cells #[u, v] t (0, 0))
theorem Box2.kind {w : World} {k : Nat} {u v : Value} {t : TypeId} (h : Box2 w k u v t) : Kind w k t := ⟨_, _, h⟩
theorem Box2.below {w w' : World} {k : Nat} {u v : Value} {t : TypeId} (h : Box2 w k u v t) (hb : Below w.heap.size w w') : Box2 w' k u v t := (hb.block k h.kind.lt).trans h
theorem Box2.drew {w : World} {k : Nat} {u v : Value} {t : TypeId} (h : Box2 w k u v t) : Box2 w.drew k u v t := h
theorem Box2.drewN {w : World} {k : Nat} {u v : Value} {t : TypeId} (h : Box2 w k u v t) (n : Nat) : Box2 (w.drewN n) k u v t := h
theorem Box2.alloc {w : World} {k : Nat} {u v : Value} {t : TypeId} (h : Box2 w k u v t) (o : Obj) : Box2 (w.alloc o) k u v t := h.below (below1 w o)
theorem Box2.new {w : World} {k : Nat} {u v : Value} {t : TypeId} (h : k = w.heap.size) : Box2 (w.alloc (.cells #[u, v] t)) k u v t := by subst h; exact heap_alloc_new w _
theorem Box2.c0 {w : World} {k : Nat} {u v : Value} {t : TypeId} (h : Box2 w k u v t) : w.cell? ⟨k, 0, none⟩ = some u := by unfold Box2 at h; simp [World.cell?, h]
theorem Box2.c1 {w : World} {k : Nat} {u v : Value} {t : TypeId} (h : Box2 w k u v t) : w.cell? ⟨k, 1, none⟩ = some v := by unfold Box2 at h; simp [World.cell?, h]
theorem Box2.f0 {w : World} {k : Nat} {u v : Value} {t : TypeId} (h : Box2 w k u v t) : w.frozen? ⟨k, 0, none⟩ = false := by unfold Box2 at h; simp [World.frozen?, h]
theorem Box2.f1 {w : World} {k : Nat} {u v : Value} {t : TypeId} (h : Box2 w k u v t) : w.frozen? ⟨k, 1, none⟩ = false := by unfold Box2 at h; simp [World.frozen?, h]
theorem Box2.set {w : World} {k : Nat} {u v : Value} {t : TypeId} (h : Box2 w k u v t) (u' v' : Value) : Box2 ((w.setCell ⟨k, 0, none⟩ u').setCell ⟨k, 1, none⟩ v') k u' v' t := by
  have h1 := Joins.block_setCell (i := 0) h u'
  have h2 := Joins.block_setCell (i := 1) h1 v'
  exact h2
theorem Box2.other {w : World} {k : Nat} {u v : Value} {t : TypeId} (h : Box2 w k u v t) {b : Nat} (hne : k ≠ b) (o : Nat) (x : Value) : Box2 (w.setCell ⟨b, o, none⟩ x) k u v t :=
  (heap_setCell_other w ⟨b, o, none⟩ k x hne).trans h
theorem Box2.other2 {w : World} {k : Nat} {u v : Value} {t : TypeId} (h : Box2 w k u v t) {b : Nat} (hne : k ≠ b) (x y : Value) : Box2 ((w.setCell ⟨b, 0, none⟩ x).setCell ⟨b, 1, none⟩ y) k u v t :=
  (h.other hne 0 x).other hne 1 y
theorem below_set2 {B : Nat} {a w : World} (h : Below B a w) {k : Nat} (hk : B ≤ k) (u v : Value) : Below B a ((w.setCell ⟨k, 0, none⟩ u).setCell ⟨k, 1, none⟩ v) := (h.setCell hk _).setCell hk _
theorem s2 {w : World} {k k' : Nat} {u v u' v' : Value} {t t' : TypeId} (h : Box2 w k u v t) (h' : Box2 w k' u' v' t') :
    w.cell? ⟨k, 0, none⟩ = some u ∧ w.cell? ⟨k, 1, none⟩ = some v ∧ w.cell? ⟨k', 0, none⟩ = some u' ∧ w.cell? ⟨k', 1, none⟩ = some v' := ⟨h.c0, h.c1, h'.c0, h'.c1⟩
theorem boxes3 (w : World) (a b c a' b' c' : Value) (t t' t'' : TypeId) : Box2 (((w.alloc (.cells #[a, a'] t)).alloc (.cells #[b, b'] t')).alloc (.cells #[c, c'] t'')) w.heap.size a a' t ∧
    Box2 (((w.alloc (.cells #[a, a'] t)).alloc (.cells #[b, b'] t')).alloc (.cells #[c, c'] t'')) (w.heap.size + 1) b b' t' ∧
    Box2 (((w.alloc (.cells #[a, a'] t)).alloc (.cells #[b, b'] t')).alloc (.cells #[c, c'] t'')) (w.heap.size + 1 + 1) c c' t'' :=
  ⟨((Box2.new rfl).alloc _).alloc _, (Box2.new (by simp)).alloc _, Box2.new (by simp)⟩

theorem ret_int {k : IntKind} {a b : Int} (h : a = b) : Ending.returned (.int k a) = .returned (.int k b) := by rw [h]

set_option maxHeartbeats 400000 in
theorem digit_any (v : Value) (xs : List Int) (i : Int) (w : World) (h : Row w v xs) (h0 : 0 ≤ i) (hl : xs.length ≤ 1000000) :
    Calls Try.prog 96 #[v, .int .i64 i] w fun e w' => e = .returned (.int .i64 (dg xs i.toNat)) ∧ w = w' := by
  obtain ⟨a, cap, b, off, rfl, h1, h2, h3⟩ := h
  by_cases hi : i < xs.length
  · have hix := fun w => at_row (cap := cap) (fun h => (h2 h).1) i h0 hi w
    have hc := h3 i.toNat (by omega)
    clear h1 h2 h3
    go_enter Try.func96, Try.ntmps96
    go_wp2
    go_ret
    exact ⟨rfl, rfl⟩
  · clear h1 h2 h3
    go_enter Try.func96, Try.ntmps96
    go_wp2
    go_ret
    exact ⟨ret_int (dg_past xs i.toNat (by omega)).symm, rfl⟩

end Go.Proofs.Ytmkddcmfofabbaa
