/-
  Memory that only grows: what was there stays as it is (Ext), and what reads in it.
-/
import Derived.Test.YtmkddcmfofabbaaZg
namespace Go.Proofs.Ytmkddcmfofabbaa
open Go Go.RowKit

/-- w' has all of w's memory as it was. -/
def Ext (w w' : World) : Prop := Below w.heap.size w w'
theorem Ext.refl (w : World) : Ext w w := Below.refl _ w
theorem Ext.trans {a b c : World} (h : Ext a b) (k : Ext b c) : Ext a c := Below.trans h (Below.mono k (Below.size h))
theorem Ext.alloc {a b : World} (h : Ext a b) {o : Obj} : Ext a (b.alloc o) := Below.alloc h (Below.size h) o
theorem Ext.drew {a b : World} (h : Ext a b) : Ext a b.drew := Below.drew h
theorem Ext.drewN {a b : World} (h : Ext a b) {n : Nat} : Ext a (b.drewN n) := below_drewN h n
theorem Ext.set {a b : World} (h : Ext a b) {k o : Nat} {u : Value} (hk : a.heap.size ≤ k) : Ext a (b.setCell ⟨k, o, none⟩ u) := Below.setCell h hk u
theorem Ext.size {a b : World} (h : Ext a b) : a.heap.size ≤ b.heap.size := Below.size h
theorem Ext.size1 {a b : World} (h : Ext a b) : a.heap.size ≤ b.heap.size + 1 := Nat.le_trans (Below.size h) (by omega)
theorem Ext.size2 {a b : World} (h : Ext a b) : a.heap.size ≤ b.heap.size + 1 + 1 := Nat.le_trans (Below.size h) (by omega)
theorem IsZ.ext {w w' : World} {neg : Bool} {sv : Value} {n : Int} (h : IsZ w neg sv n) (hb : Ext w w') : IsZ w' neg sv n := h.below hb
theorem Row.ext {w w' : World} {v : Value} {xs : List Int} (h : Row w v xs) (hb : Ext w w') : Row w' v xs := h.below hb
theorem Box2.ext {w w' : World} {k : Nat} {u v : Value} {t : TypeId} (h : Box2 w k u v t) (hb : Ext w w') : Box2 w' k u v t := h.below hb
theorem Kind.ext {w w' : World} {k : Nat} {t : TypeId} (h : Kind w k t) (hb : Ext w w') : Kind w' k t := h.below hb
theorem newA {w w' : World} {u v : Value} {t : TypeId} (h : Ext (w.alloc (.cells #[u, v] t)) w') : Box2 w' w.heap.size u v t := (Box2.new rfl).ext h
theorem newB {w w' : World} {u v u' v' : Value} {t t' : TypeId} (h : Ext ((w.alloc (.cells #[u, v] t)).alloc (.cells #[u', v'] t')) w') : Box2 w' w.heap.size u v t ∧ Box2 w' (w.heap.size + 1) u' v' t' :=
  ⟨((Box2.new rfl).alloc _).ext h, (Box2.new (by simp)).ext h⟩
theorem newAd {w w' : World} {u v : Value} {t : TypeId} (h : Ext (w.drew.alloc (.cells #[u, v] t)) w') : Box2 w' w.heap.size u v t := newA (w := w.drew) h
theorem newBd {w w' : World} {u v u' v' : Value} {t t' : TypeId} (h : Ext ((w.drew.alloc (.cells #[u, v] t)).alloc (.cells #[u', v'] t')) w') : Box2 w' w.heap.size u v t ∧ Box2 w' (w.heap.size + 1) u' v' t' := newB (w := w.drew) h
theorem Env4.ext {w wr w' : World} {a a' b b' : Value} (h : Env4 w wr a a' b b') (hb : Ext wr w') : Env4 w w' a a' b b' := h.below hb

end Go.Proofs.Ytmkddcmfofabbaa
