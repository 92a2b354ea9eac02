/-
  A block known whole, of however many cells: what it holds, over calls, makings and stores.
-/
import Derived.Test.YtcndfpfjckkinaaGh
namespace Go.Proofs.Ytcndfpfjckkinaa
open Go Go.RowKit

def Bx (w : World) (k : Nat) (cs : Array Value) (t : TypeId) : Prop := w.heap[k]? = some (.cells cs t (0, 0))
theorem Bx.kind {w : World} {k : Nat} {cs : Array Value} {t : TypeId} (h : Bx w k cs t) : Kind w k t := ⟨_, _, h⟩
theorem Bx.below {w w' : World} {k : Nat} {cs : Array Value} {t : TypeId} (h : Bx w k cs t) (hb : Below w.heap.size w w') : Bx w' k cs t := (hb.block k h.kind.lt).trans h
theorem Bx.ext {w w' : World} {k : Nat} {cs : Array Value} {t : TypeId} (h : Bx w k cs t) (hb : Ext w w') : Bx w' k cs t := h.below hb
theorem Bx.drew {w : World} {k : Nat} {cs : Array Value} {t : TypeId} (h : Bx w k cs t) : Bx w.drew k cs t := h
theorem Bx.drewN {w : World} {k : Nat} {cs : Array Value} {t : TypeId} (h : Bx w k cs t) (n : Nat) : Bx (w.drewN n) k cs t := h
theorem Bx.alloc {w : World} {k : Nat} {cs : Array Value} {t : TypeId} (h : Bx w k cs t) (o : Obj) : Bx (w.alloc o) k cs t := h.below (below1 w o)
theorem Bx.new {w : World} {k : Nat} {cs : Array Value} {t : TypeId} (h : k = w.heap.size) : Bx (w.alloc (.cells cs t)) k cs t := by subst h; exact heap_alloc_new w _
theorem Bx.c {w : World} {k : Nat} {cs : Array Value} {t : TypeId} (h : Bx w k cs t) (i : Nat) {v : Value} (e : cs[i]? = some v) : w.cell? ⟨k, i, none⟩ = some v := by
  unfold Bx at h; simp [World.cell?, h, e]
theorem Bx.f {w : World} {k : Nat} {cs : Array Value} {t : TypeId} (h : Bx w k cs t) (i : Nat) : w.frozen? ⟨k, i, none⟩ = false := by unfold Bx at h; simp [World.frozen?, h]
theorem Bx.setc {w : World} {k : Nat} {cs : Array Value} {t : TypeId} (h : Bx w k cs t) (i : Nat) (u : Value) {cs' : Array Value} (e : cs.setIfInBounds i u = cs') : Bx (w.setCell ⟨k, i, none⟩ u) k cs' t := by
  have h1 := Joins.block_setCell (i := i) h u
  rw [← e]; exact h1
theorem Bx.other {w : World} {k : Nat} {cs : Array Value} {t : TypeId} (h : Bx w k cs t) {b : Nat} (hne : k ≠ b) (o : Nat) (x : Value) : Bx (w.setCell ⟨b, o, none⟩ x) k cs t :=
  (heap_setCell_other w ⟨b, o, none⟩ k x hne).trans h
end Go.Proofs.Ytcndfpfjckkinaa
