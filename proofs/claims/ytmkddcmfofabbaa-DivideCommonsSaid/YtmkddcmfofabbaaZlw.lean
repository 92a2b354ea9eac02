/-
  The reference's Lowest of layer 3: a fraction in its lowest terms.
-/
import Derived.Test.YtmkddcmfofabbaaZcm
set_option linter.unusedSimpArgs false
set_option linter.unusedVariables false
namespace Go.Proofs.Ytmkddcmfofabbaa
open Go Go.RowKit

/-- A fraction in its lowest terms: above, below. -/
def frP (n d : Int) : Int := wsg (!(decide (n < 0) == decide (d < 0))) ((n.natAbs / Nat.gcd n.natAbs d.natAbs : Nat) : Int)
def frQ (n d : Int) : Int := ((d.natAbs / Nat.gcd n.natAbs d.natAbs : Nat) : Int)
theorem gcd_pos {a b : Int} (h : b ≠ 0) : 0 < Nat.gcd a.natAbs b.natAbs := Nat.gcd_pos_of_pos_right _ (by omega)
theorem gcd_bits {K : Nat} {a b : Int} (hb : Bits K b) (h : b ≠ 0) : Bits K ((Nat.gcd a.natAbs b.natAbs : Nat) : Int) := hb.le (by simpa using Nat.gcd_le_right _ (show 0 < b.natAbs by omega))
theorem fr_a (a b : Int) : ∃ X : Nat, a.natAbs = X * Nat.gcd a.natAbs b.natAbs := (Nat.gcd_dvd_left a.natAbs b.natAbs).elim fun X h => ⟨X, by rw [Nat.mul_comm]; exact h⟩
theorem fr_b (a b : Int) : ∃ X : Nat, b.natAbs = X * Nat.gcd a.natAbs b.natAbs := (Nat.gcd_dvd_right a.natAbs b.natAbs).elim fun X h => ⟨X, by rw [Nat.mul_comm]; exact h⟩
theorem fdiv_exact {m g X : Int} (hg : g ≠ 0) (h : m = X * g) : m.fdiv g = X := by rw [h]; exact Int.mul_fdiv_cancel _ hg
theorem frP_false {a b : Int} (h : b ≠ 0) (hs : 0 ≤ b) : a.fdiv ((Nat.gcd a.natAbs b.natAbs : Nat) : Int) = frP a b := by
  have g := gcd_pos (a := a) h
  obtain ⟨X, hX⟩ := fr_a a b
  unfold frP
  generalize Nat.gcd a.natAbs b.natAbs = G at *
  have e : a.natAbs / G = X := by rw [hX]; exact Nat.mul_div_cancel _ g
  rw [e, decide_eq_false (show ¬ b < 0 by omega)]
  refine fdiv_exact (by omega) ?_
  have hc : (a.natAbs : Int) = (X : Int) * (G : Int) := by rw [hX]; exact Int.natCast_mul X G
  by_cases ha : a < 0
  · rw [decide_eq_true ha]
    show a = -(X : Int) * G
    rw [Int.neg_mul]; omega
  · rw [decide_eq_false ha]
    show a = (X : Int) * G
    omega
theorem frP_true {a b : Int} (h : b ≠ 0) (hs : b < 0) : a.fdiv (-((Nat.gcd a.natAbs b.natAbs : Nat) : Int)) = frP a b := by
  have g := gcd_pos (a := a) h
  obtain ⟨X, hX⟩ := fr_a a b
  unfold frP
  generalize Nat.gcd a.natAbs b.natAbs = G at *
  have e : a.natAbs / G = X := by rw [hX]; exact Nat.mul_div_cancel _ g
  rw [e, decide_eq_true hs]
  refine fdiv_exact (by omega) ?_
  have hc : (a.natAbs : Int) = (X : Int) * (G : Int) := by rw [hX]; exact Int.natCast_mul X G
  by_cases ha : a < 0
  · rw [decide_eq_true ha]
    show a = (X : Int) * -(G : Int)
    rw [Int.mul_neg]; omega
  · rw [decide_eq_false ha]
    show a = -(X : Int) * -(G : Int)
    rw [Int.neg_mul_neg]; omega
theorem frQ_false {a b : Int} (h : b ≠ 0) (hs : 0 ≤ b) : b.fdiv ((Nat.gcd a.natAbs b.natAbs : Nat) : Int) = frQ a b := by
  have g := gcd_pos (a := a) h
  obtain ⟨X, hX⟩ := fr_b a b
  unfold frQ
  generalize Nat.gcd a.natAbs b.natAbs = G at *
  have e : b.natAbs / G = X := by rw [hX]; exact Nat.mul_div_cancel _ g
  rw [e]
  refine fdiv_exact (by omega) ?_
  have hc : (b.natAbs : Int) = (X : Int) * (G : Int) := by rw [hX]; exact Int.natCast_mul X G
  omega
theorem frQ_true {a b : Int} (h : b ≠ 0) (hs : b < 0) : b.fdiv (-((Nat.gcd a.natAbs b.natAbs : Nat) : Int)) = frQ a b := by
  have g := gcd_pos (a := a) h
  obtain ⟨X, hX⟩ := fr_b a b
  unfold frQ
  generalize Nat.gcd a.natAbs b.natAbs = G at *
  have e : b.natAbs / G = X := by rw [hX]; exact Nat.mul_div_cancel _ g
  rw [e]
  refine fdiv_exact (by omega) ?_
  have hc : (b.natAbs : Int) = (X : Int) * (G : Int) := by rw [hX]; exact Int.natCast_mul X G
  rw [Int.mul_neg]; omega
set_option maxRecDepth 100000 in
set_option maxHeartbeats 3200000 in
theorem zlowest (K : Nat) (hK : K ≤ 30000) (na nb : Bool) (aa ab : Option Addr) (la ca lb cb : Nat) (a b : Int) (w : World) (za : IsZ w na (.slice aa la ca) a) (zb : IsZ w nb (.slice ab lb cb) b) (Ba : Bits K a) (Bb : Bits K b) (h0 : b ≠ 0) :
    Calls Try.prog 109 #[.agg #[.bool na, .slice aa la ca], .agg #[.bool nb, .slice ab lb cb]] w (RetZZ w (frP a b) (frQ a b)) := by
  have HNeg := Lib.hid neg_any
  have HDiv := Lib.hid div_z
  have HCom := Lib.hid common_any
  have HB := Lib.hid (show Bits K ((Nat.gcd a.natAbs b.natAbs : Nat) : Int) from gcd_bits (a := a) Bb h0)
  have hnb := (isZ_sign zb).2
  cases nb
  · have hs : 0 ≤ b := by simpa using hnb
    have D0 : ((Nat.gcd a.natAbs b.natAbs : Nat) : Int) ≠ 0 := by have := gcd_pos (a := a) h0; omega
    have HP := Lib.hid (show a.fdiv ((Nat.gcd a.natAbs b.natAbs : Nat) : Int) = frP a b from frP_false h0 hs)
    have HQ := Lib.hid (show b.fdiv ((Nat.gcd a.natAbs b.natAbs : Nat) : Int) = frQ a b from frQ_false h0 hs)
    clear hs hnb h0
    go_enter Try.func109, Try.ntmps109
    go_upto_region 1 with fail
    have xw := Ext.refl w
    refine wp_name ?_
    intro V1 hV
    have zaN : IsZ V1 na (.slice aa la ca) a := by rw [hV]; exact ((((za).alloc _).alloc _).alloc _).alloc _
    have zbN : IsZ V1 false (.slice ab lb cb) b := by rw [hV]; exact ((((zb).alloc _).alloc _).alloc _).alloc _
    replace xw : Ext w V1 := by rw [hV]; exact Ext.alloc (Ext.alloc (Ext.alloc (Ext.alloc (xw))))
    replace za := zaN; clear zaN
    replace zb := zbN; clear zbN
    have b2 : Box2 V1 w.heap.size (.bool na) (.slice aa la ca) 37 := by rw [hV]; exact (((Box2.new rfl).alloc _).alloc _).alloc _
    have b3 : Box2 V1 (w.heap.size + 1) (.bool false) (.slice ab lb cb) 37 := by rw [hV]; exact ((Box2.new (by simp)).alloc _).alloc _
    have b4 : Box2 V1 (w.heap.size + 1 + 1) (.bool false) (.slice none 0 0) 37 := by rw [hV]; exact (Box2.new (by simp)).alloc _
    have b5 : Box2 V1 (w.heap.size + 1 + 1 + 1) (.bool false) (.slice none 0 0) 37 := by rw [hV]; exact Box2.new (by simp)
    clear hV
    have b2_c0 := b2.c0
    have b2_c1 := b2.c1
    have b3_c0 := b3.c0
    have b3_c1 := b3.c1
    go_wp2_with fail
    refine (HCom.out K (by omega) _ _ _ _ _ _ _ _ a b _ za zb Ba Bb).mono ?_
    rintro e w2 ⟨n2, a2, l2, c2, rfl, z2, x2⟩
    replace x2 : Ext _ w2 := x2
    have B2 : Bits K (((Nat.gcd a.natAbs b.natAbs : Nat) : Int)) := HB.out
    clear b2_c0 b2_c1 b3_c0 b3_c1
    replace b2 := b2.ext x2
    replace b3 := b3.ext x2
    replace b4 := b4.ext x2
    replace b5 := b5.ext x2
    replace za := za.ext x2
    replace zb := zb.ext x2
    replace xw := Ext.trans xw x2
    go_upto_region 2 with fail
    have o4 := b2.kind.lt
    have o5 := b3.kind.lt
    have o6 := b4.kind.lt
    have o7 := b5.kind.lt
    have o8 := xw.size
    refine wp_name ?_
    intro V3 hV
    have b2N : Box2 V3 w.heap.size (.bool na) (.slice aa la ca) 37 := by rw [hV]; exact (b2).alloc _
    have b3N : Box2 V3 (w.heap.size + 1) (.bool false) (.slice ab lb cb) 37 := by rw [hV]; exact (b3).alloc _
    have b4N : Box2 V3 (w.heap.size + 1 + 1) (.bool false) (.slice none 0 0) 37 := by rw [hV]; exact (b4).alloc _
    have b5N : Box2 V3 (w.heap.size + 1 + 1 + 1) (.bool false) (.slice none 0 0) 37 := by rw [hV]; exact (b5).alloc _
    have zaN : IsZ V3 na (.slice aa la ca) a := by rw [hV]; exact (za).alloc _
    have zbN : IsZ V3 false (.slice ab lb cb) b := by rw [hV]; exact (zb).alloc _
    have z2N : IsZ V3 n2 (.slice a2 l2 c2) ((Nat.gcd a.natAbs b.natAbs : Nat) : Int) := by rw [hV]; exact (z2).alloc _
    replace xw : Ext w V3 := by rw [hV]; exact Ext.alloc (xw)
    replace b2 := b2N; clear b2N
    replace b3 := b3N; clear b3N
    replace b4 := b4N; clear b4N
    replace b5 := b5N; clear b5N
    replace za := zaN; clear zaN
    replace zb := zbN; clear zbN
    replace z2 := z2N; clear z2N
    have b6 : Box2 V3 w2.heap.size (.bool n2) (.slice a2 l2 c2) 37 := by rw [hV]; exact Box2.new rfl
    clear hV
    have b3_c0 := b3.c0
    have b3_c1 := b3.c1
    go_upto_region 4 with fail
    clear b3_c0 b3_c1
    have b2_c0 := b2.c0
    have b2_c1 := b2.c1
    have b6_c0 := b6.c0
    have b6_c1 := b6.c1
    go_wp2_with fail
    refine (HDiv.out _ _ _ _ _ _ _ _ a ((Nat.gcd a.natAbs b.natAbs : Nat) : Int) _ za z2 K (by omega) Ba B2 D0).mono ?_
    rintro e w9 ⟨n9q, a9q, l9q, c9q, n9r, a9r, l9r, c9r, rfl, z9q, z9r, x9⟩
    replace x9 : Ext _ w9 := x9
    have B9q : Bits (K + 1) (a.fdiv ((Nat.gcd a.natAbs b.natAbs : Nat) : Int)) := fdiv_b Ba D0
    have B9r : Bits K (a.fmod ((Nat.gcd a.natAbs b.natAbs : Nat) : Int)) := fmod_b B2 D0
    clear b2_c0 b2_c1 b6_c0 b6_c1
    replace b2 := b2.ext x9
    replace b3 := b3.ext x9
    replace b4 := b4.ext x9
    replace b5 := b5.ext x9
    replace b6 := b6.ext x9
    replace za := za.ext x9
    replace zb := zb.ext x9
    replace z2 := z2.ext x9
    replace xw := Ext.trans xw x9
    go_upto_region 5 with fail
    have o11 := b6.kind.lt
    have o12 := xw.size
    refine wp_name ?_
    intro V10 hV
    have b2N : Box2 V10 w.heap.size (.bool na) (.slice aa la ca) 37 := by rw [hV]; exact ((b2).alloc _).alloc _
    have b3N : Box2 V10 (w.heap.size + 1) (.bool false) (.slice ab lb cb) 37 := by rw [hV]; exact ((b3).alloc _).alloc _
    have b4N : Box2 V10 (w.heap.size + 1 + 1) (.bool false) (.slice none 0 0) 37 := by rw [hV]; exact ((b4).alloc _).alloc _
    have b5N : Box2 V10 (w.heap.size + 1 + 1 + 1) (.bool false) (.slice none 0 0) 37 := by rw [hV]; exact ((b5).alloc _).alloc _
    have b6N : Box2 V10 w2.heap.size (.bool n2) (.slice a2 l2 c2) 37 := by rw [hV]; exact ((b6).alloc _).alloc _
    have zaN : IsZ V10 na (.slice aa la ca) a := by rw [hV]; exact ((za).alloc _).alloc _
    have zbN : IsZ V10 false (.slice ab lb cb) b := by rw [hV]; exact ((zb).alloc _).alloc _
    have z2N : IsZ V10 n2 (.slice a2 l2 c2) ((Nat.gcd a.natAbs b.natAbs : Nat) : Int) := by rw [hV]; exact ((z2).alloc _).alloc _
    have z9qN : IsZ V10 n9q (.slice a9q l9q c9q) (a.fdiv ((Nat.gcd a.natAbs b.natAbs : Nat) : Int)) := by rw [hV]; exact ((z9q).alloc _).alloc _
    have z9rN : IsZ V10 n9r (.slice a9r l9r c9r) (a.fmod ((Nat.gcd a.natAbs b.natAbs : Nat) : Int)) := by rw [hV]; exact ((z9r).alloc _).alloc _
    replace xw : Ext w V10 := by rw [hV]; exact Ext.alloc (Ext.alloc (xw))
    replace b2 := b2N; clear b2N
    replace b3 := b3N; clear b3N
    replace b4 := b4N; clear b4N
    replace b5 := b5N; clear b5N
    replace b6 := b6N; clear b6N
    replace za := zaN; clear zaN
    replace zb := zbN; clear zbN
    replace z2 := z2N; clear z2N
    replace z9q := z9qN; clear z9qN
    replace z9r := z9rN; clear z9rN
    have b7 : Box2 V10 w9.heap.size (.bool n9q) (.slice a9q l9q c9q) 37 := by rw [hV]; exact (Box2.new rfl).alloc _
    have b8 : Box2 V10 (w9.heap.size + 1) (.bool n9r) (.slice a9r l9r c9r) 37 := by rw [hV]; exact Box2.new (by simp)
    clear hV
    have b3_c0 := b3.c0
    have b3_c1 := b3.c1
    have b6_c0 := b6.c0
    have b6_c1 := b6.c1
    go_wp2_with fail
    refine (HDiv.out _ _ _ _ _ _ _ _ b ((Nat.gcd a.natAbs b.natAbs : Nat) : Int) _ zb z2 K (by omega) Bb B2 D0).mono ?_
    rintro e w13 ⟨n13q, a13q, l13q, c13q, n13r, a13r, l13r, c13r, rfl, z13q, z13r, x13⟩
    replace x13 : Ext _ w13 := x13
    have B13q : Bits (K + 1) (b.fdiv ((Nat.gcd a.natAbs b.natAbs : Nat) : Int)) := fdiv_b Bb D0
    have B13r : Bits K (b.fmod ((Nat.gcd a.natAbs b.natAbs : Nat) : Int)) := fmod_b B2 D0
    clear b3_c0 b3_c1 b6_c0 b6_c1
    replace b2 := b2.ext x13
    replace b3 := b3.ext x13
    replace b4 := b4.ext x13
    replace b5 := b5.ext x13
    replace b6 := b6.ext x13
    replace b7 := b7.ext x13
    replace b8 := b8.ext x13
    replace za := za.ext x13
    replace zb := zb.ext x13
    replace z2 := z2.ext x13
    replace z9q := z9q.ext x13
    replace z9r := z9r.ext x13
    replace xw := Ext.trans xw x13
    go_upto_region 6 with fail
    have o15 := b7.kind.lt
    have o16 := b8.kind.lt
    have o17 := xw.size
    refine wp_name ?_
    intro V14 hV
    have b2N : Box2 V14 w.heap.size (.bool na) (.slice aa la ca) 37 := by rw [hV]; exact ((b2).alloc _).alloc _
    have b3N : Box2 V14 (w.heap.size + 1) (.bool false) (.slice ab lb cb) 37 := by rw [hV]; exact ((b3).alloc _).alloc _
    have b4N : Box2 V14 (w.heap.size + 1 + 1) (.bool false) (.slice none 0 0) 37 := by rw [hV]; exact ((b4).alloc _).alloc _
    have b5N : Box2 V14 (w.heap.size + 1 + 1 + 1) (.bool false) (.slice none 0 0) 37 := by rw [hV]; exact ((b5).alloc _).alloc _
    have b6N : Box2 V14 w2.heap.size (.bool n2) (.slice a2 l2 c2) 37 := by rw [hV]; exact ((b6).alloc _).alloc _
    have b7N : Box2 V14 w9.heap.size (.bool n9q) (.slice a9q l9q c9q) 37 := by rw [hV]; exact ((b7).alloc _).alloc _
    have b8N : Box2 V14 (w9.heap.size + 1) (.bool n9r) (.slice a9r l9r c9r) 37 := by rw [hV]; exact ((b8).alloc _).alloc _
    have zaN : IsZ V14 na (.slice aa la ca) a := by rw [hV]; exact ((za).alloc _).alloc _
    have zbN : IsZ V14 false (.slice ab lb cb) b := by rw [hV]; exact ((zb).alloc _).alloc _
    have z2N : IsZ V14 n2 (.slice a2 l2 c2) ((Nat.gcd a.natAbs b.natAbs : Nat) : Int) := by rw [hV]; exact ((z2).alloc _).alloc _
    have z9qN : IsZ V14 n9q (.slice a9q l9q c9q) (a.fdiv ((Nat.gcd a.natAbs b.natAbs : Nat) : Int)) := by rw [hV]; exact ((z9q).alloc _).alloc _
    have z9rN : IsZ V14 n9r (.slice a9r l9r c9r) (a.fmod ((Nat.gcd a.natAbs b.natAbs : Nat) : Int)) := by rw [hV]; exact ((z9r).alloc _).alloc _
    have z13qN : IsZ V14 n13q (.slice a13q l13q c13q) (b.fdiv ((Nat.gcd a.natAbs b.natAbs : Nat) : Int)) := by rw [hV]; exact ((z13q).alloc _).alloc _
    have z13rN : IsZ V14 n13r (.slice a13r l13r c13r) (b.fmod ((Nat.gcd a.natAbs b.natAbs : Nat) : Int)) := by rw [hV]; exact ((z13r).alloc _).alloc _
    replace xw : Ext w V14 := by rw [hV]; exact Ext.alloc (Ext.alloc (xw))
    replace b2 := b2N; clear b2N
    replace b3 := b3N; clear b3N
    replace b4 := b4N; clear b4N
    replace b5 := b5N; clear b5N
    replace b6 := b6N; clear b6N
    replace b7 := b7N; clear b7N
    replace b8 := b8N; clear b8N
    replace za := zaN; clear zaN
    replace zb := zbN; clear zbN
    replace z2 := z2N; clear z2N
    replace z9q := z9qN; clear z9qN
    replace z9r := z9rN; clear z9rN
    replace z13q := z13qN; clear z13qN
    replace z13r := z13rN; clear z13rN
    have b9 : Box2 V14 w13.heap.size (.bool n13q) (.slice a13q l13q c13q) 37 := by rw [hV]; exact (Box2.new rfl).alloc _
    have b10 : Box2 V14 (w13.heap.size + 1) (.bool n13r) (.slice a13r l13r c13r) 37 := by rw [hV]; exact Box2.new (by simp)
    clear hV
    have b7_c0 := b7.c0
    have b7_c1 := b7.c1
    have b9_c0 := b9.c0
    have b9_c1 := b9.c1
    have b4_c0 := b4.c0
    have b4_c1 := b4.c1
    have b4_f0 := b4.f0
    have b4_f1 := b4.f1
    have b5_c0 := b5.c0
    have b5_c1 := b5.c1
    have b5_f0 := b5.f0
    have b5_f1 := b5.f1
    have ne4_5 : ¬ w.heap.size + 1 + 1 = w.heap.size + 1 + 1 + 1 := by omega
    have ne5_4 : ¬ w.heap.size + 1 + 1 + 1 = w.heap.size + 1 + 1 := by omega
    have ne4_7 : ¬ w.heap.size + 1 + 1 = w9.heap.size := by omega
    have ne7_4 : ¬ w9.heap.size = w.heap.size + 1 + 1 := by omega
    have ne4_9 : ¬ w.heap.size + 1 + 1 = w13.heap.size := by omega
    have ne9_4 : ¬ w13.heap.size = w.heap.size + 1 + 1 := by omega
    have ne5_7 : ¬ w.heap.size + 1 + 1 + 1 = w9.heap.size := by omega
    have ne7_5 : ¬ w9.heap.size = w.heap.size + 1 + 1 + 1 := by omega
    have ne5_9 : ¬ w.heap.size + 1 + 1 + 1 = w13.heap.size := by omega
    have ne9_5 : ¬ w13.heap.size = w.heap.size + 1 + 1 + 1 := by omega
    go_region
    clear ne4_5 ne5_4 ne4_7 ne7_4 ne4_9 ne9_4 ne5_7 ne7_5 ne5_9 ne9_5
    have zr0 := (((z9q).set2 (b4).kind (by decide) (.bool n9q) (.slice a9q l9q c9q)).set2 ((b5).other2 (b := w.heap.size + 1 + 1) (by omega) (.bool n9q) (.slice a9q l9q c9q)).kind (by decide) (.bool n13q) (.slice a13q l13q c13q)).drew
    have zr1 := (((z13q).set2 (b4).kind (by decide) (.bool n9q) (.slice a9q l9q c9q)).set2 ((b5).other2 (b := w.heap.size + 1 + 1) (by omega) (.bool n9q) (.slice a9q l9q c9q)).kind (by decide) (.bool n13q) (.slice a13q l13q c13q)).drew
    have xr := Ext.drew (Ext.set (Ext.set (Ext.set (Ext.set (xw) (k := w.heap.size + 1 + 1) (o := 0) (u := .bool n9q) (by omega)) (k := w.heap.size + 1 + 1) (o := 1) (u := .slice a9q l9q c9q) (by omega)) (k := w.heap.size + 1 + 1 + 1) (o := 0) (u := .bool n13q) (by omega)) (k := w.heap.size + 1 + 1 + 1) (o := 1) (u := .slice a13q l13q c13q) (by omega))
    go_wp2_with fail
    refine bodyPost_ret (v := .tuple #[.agg #[.bool n9q, .slice a9q l9q c9q], .agg #[.bool n13q, .slice a13q l13q c13q]]) (by simp [results, Try.results109, go_sem, b4_c0, b4_c1, b5_c0, b5_c1]) rfl ⟨_, _, _, _, _, _, _, _, rfl, by rw [← HP.out]; exact zr0, by rw [← HQ.out]; exact zr1, xr⟩
  · have hs : b < 0 := by simpa using hnb
    have D0 : (-((Nat.gcd a.natAbs b.natAbs : Nat) : Int)) ≠ 0 := by have := gcd_pos (a := a) h0; omega
    have HP := Lib.hid (show a.fdiv (-((Nat.gcd a.natAbs b.natAbs : Nat) : Int)) = frP a b from frP_true h0 hs)
    have HQ := Lib.hid (show b.fdiv (-((Nat.gcd a.natAbs b.natAbs : Nat) : Int)) = frQ a b from frQ_true h0 hs)
    clear hs hnb h0
    go_enter Try.func109, Try.ntmps109
    go_upto_region 1 with fail
    have xw := Ext.refl w
    refine wp_name ?_
    intro V18 hV
    have zaN : IsZ V18 na (.slice aa la ca) a := by rw [hV]; exact ((((za).alloc _).alloc _).alloc _).alloc _
    have zbN : IsZ V18 true (.slice ab lb cb) b := by rw [hV]; exact ((((zb).alloc _).alloc _).alloc _).alloc _
    replace xw : Ext w V18 := by rw [hV]; exact Ext.alloc (Ext.alloc (Ext.alloc (Ext.alloc (xw))))
    replace za := zaN; clear zaN
    replace zb := zbN; clear zbN
    have b2 : Box2 V18 w.heap.size (.bool na) (.slice aa la ca) 37 := by rw [hV]; exact (((Box2.new rfl).alloc _).alloc _).alloc _
    have b3 : Box2 V18 (w.heap.size + 1) (.bool true) (.slice ab lb cb) 37 := by rw [hV]; exact ((Box2.new (by simp)).alloc _).alloc _
    have b4 : Box2 V18 (w.heap.size + 1 + 1) (.bool false) (.slice none 0 0) 37 := by rw [hV]; exact (Box2.new (by simp)).alloc _
    have b5 : Box2 V18 (w.heap.size + 1 + 1 + 1) (.bool false) (.slice none 0 0) 37 := by rw [hV]; exact Box2.new (by simp)
    clear hV
    have b2_c0 := b2.c0
    have b2_c1 := b2.c1
    have b3_c0 := b3.c0
    have b3_c1 := b3.c1
    go_wp2_with fail
    refine (HCom.out K (by omega) _ _ _ _ _ _ _ _ a b _ za zb Ba Bb).mono ?_
    rintro e w19 ⟨n19, a19, l19, c19, rfl, z19, x19⟩
    replace x19 : Ext _ w19 := x19
    have B19 : Bits K (((Nat.gcd a.natAbs b.natAbs : Nat) : Int)) := HB.out
    clear b2_c0 b2_c1 b3_c0 b3_c1
    replace b2 := b2.ext x19
    replace b3 := b3.ext x19
    replace b4 := b4.ext x19
    replace b5 := b5.ext x19
    replace za := za.ext x19
    replace zb := zb.ext x19
    replace xw := Ext.trans xw x19
    go_upto_region 2 with fail
    have o21 := b2.kind.lt
    have o22 := b3.kind.lt
    have o23 := b4.kind.lt
    have o24 := b5.kind.lt
    have o25 := xw.size
    refine wp_name ?_
    intro V20 hV
    have b2N : Box2 V20 w.heap.size (.bool na) (.slice aa la ca) 37 := by rw [hV]; exact (b2).alloc _
    have b3N : Box2 V20 (w.heap.size + 1) (.bool true) (.slice ab lb cb) 37 := by rw [hV]; exact (b3).alloc _
    have b4N : Box2 V20 (w.heap.size + 1 + 1) (.bool false) (.slice none 0 0) 37 := by rw [hV]; exact (b4).alloc _
    have b5N : Box2 V20 (w.heap.size + 1 + 1 + 1) (.bool false) (.slice none 0 0) 37 := by rw [hV]; exact (b5).alloc _
    have zaN : IsZ V20 na (.slice aa la ca) a := by rw [hV]; exact (za).alloc _
    have zbN : IsZ V20 true (.slice ab lb cb) b := by rw [hV]; exact (zb).alloc _
    have z19N : IsZ V20 n19 (.slice a19 l19 c19) ((Nat.gcd a.natAbs b.natAbs : Nat) : Int) := by rw [hV]; exact (z19).alloc _
    replace xw : Ext w V20 := by rw [hV]; exact Ext.alloc (xw)
    replace b2 := b2N; clear b2N
    replace b3 := b3N; clear b3N
    replace b4 := b4N; clear b4N
    replace b5 := b5N; clear b5N
    replace za := zaN; clear zaN
    replace zb := zbN; clear zbN
    replace z19 := z19N; clear z19N
    have b6 : Box2 V20 w19.heap.size (.bool n19) (.slice a19 l19 c19) 37 := by rw [hV]; exact Box2.new rfl
    clear hV
    have b3_c0 := b3.c0
    have b3_c1 := b3.c1
    go_upto_region 3 with fail
    clear b3_c0 b3_c1
    have b6_c0 := b6.c0
    have b6_c1 := b6.c1
    go_wp2_with fail
    refine (HNeg.out _ _ _ _ ((Nat.gcd a.natAbs b.natAbs : Nat) : Int) _ z19 (B19.fit (by omega))).mono ?_
    rintro e w26 ⟨n26, a26, l26, c26, rfl, z26, x26⟩
    replace x26 : Ext _ w26 := x26
    have B26 : Bits K (-((Nat.gcd a.natAbs b.natAbs : Nat) : Int)) := B19.neg
    clear b6_c0 b6_c1
    replace b2 := b2.ext x26
    replace b3 := b3.ext x26
    replace b4 := b4.ext x26
    replace b5 := b5.ext x26
    replace b6 := b6.ext x26
    replace za := za.ext x26
    replace zb := zb.ext x26
    replace z19 := z19.ext x26
    replace xw := Ext.trans xw x26
    have b6_c0 := b6.c0
    have b6_c1 := b6.c1
    have b6_f0 := b6.f0
    have b6_f1 := b6.f1
    go_upto_region 4 with fail
    clear b6_c0 b6_c1 b6_f0 b6_f1
    refine wp_name ?_
    intro V27 hV
    have b2N : Box2 V27 w.heap.size (.bool na) (.slice aa la ca) 37 := by rw [hV]; exact (b2).other2 (b := w19.heap.size) (by omega) (.bool n26) (.slice a26 l26 c26)
    have b3N : Box2 V27 (w.heap.size + 1) (.bool true) (.slice ab lb cb) 37 := by rw [hV]; exact (b3).other2 (b := w19.heap.size) (by omega) (.bool n26) (.slice a26 l26 c26)
    have b4N : Box2 V27 (w.heap.size + 1 + 1) (.bool false) (.slice none 0 0) 37 := by rw [hV]; exact (b4).other2 (b := w19.heap.size) (by omega) (.bool n26) (.slice a26 l26 c26)
    have b5N : Box2 V27 (w.heap.size + 1 + 1 + 1) (.bool false) (.slice none 0 0) 37 := by rw [hV]; exact (b5).other2 (b := w19.heap.size) (by omega) (.bool n26) (.slice a26 l26 c26)
    have b6N : Box2 V27 w19.heap.size (.bool n26) (.slice a26 l26 c26) 37 := by rw [hV]; exact (b6).set (.bool n26) (.slice a26 l26 c26)
    have zaN : IsZ V27 na (.slice aa la ca) a := by rw [hV]; exact (za).set2 (b6).kind (by decide) (.bool n26) (.slice a26 l26 c26)
    have zbN : IsZ V27 true (.slice ab lb cb) b := by rw [hV]; exact (zb).set2 (b6).kind (by decide) (.bool n26) (.slice a26 l26 c26)
    have z19N : IsZ V27 n19 (.slice a19 l19 c19) ((Nat.gcd a.natAbs b.natAbs : Nat) : Int) := by rw [hV]; exact (z19).set2 (b6).kind (by decide) (.bool n26) (.slice a26 l26 c26)
    have z26N : IsZ V27 n26 (.slice a26 l26 c26) (-((Nat.gcd a.natAbs b.natAbs : Nat) : Int)) := by rw [hV]; exact (z26).set2 (b6).kind (by decide) (.bool n26) (.slice a26 l26 c26)
    replace xw : Ext w V27 := by rw [hV]; exact Ext.set (Ext.set (xw) (k := w19.heap.size) (o := 0) (u := .bool n26) (by omega)) (k := w19.heap.size) (o := 1) (u := .slice a26 l26 c26) (by omega)
    replace b2 := b2N; clear b2N
    replace b3 := b3N; clear b3N
    replace b4 := b4N; clear b4N
    replace b5 := b5N; clear b5N
    replace b6 := b6N; clear b6N
    replace za := zaN; clear zaN
    replace zb := zbN; clear zbN
    replace z19 := z19N; clear z19N
    replace z26 := z26N; clear z26N
    clear hV
    clear z19
    have b2_c0 := b2.c0
    have b2_c1 := b2.c1
    have b6_c0 := b6.c0
    have b6_c1 := b6.c1
    go_wp2_with fail
    refine (HDiv.out _ _ _ _ _ _ _ _ a (-((Nat.gcd a.natAbs b.natAbs : Nat) : Int)) _ za z26 K (by omega) Ba B26 D0).mono ?_
    rintro e w28 ⟨n28q, a28q, l28q, c28q, n28r, a28r, l28r, c28r, rfl, z28q, z28r, x28⟩
    replace x28 : Ext _ w28 := x28
    have B28q : Bits (K + 1) (a.fdiv (-((Nat.gcd a.natAbs b.natAbs : Nat) : Int))) := fdiv_b Ba D0
    have B28r : Bits K (a.fmod (-((Nat.gcd a.natAbs b.natAbs : Nat) : Int))) := fmod_b B26 D0
    clear b2_c0 b2_c1 b6_c0 b6_c1
    replace b2 := b2.ext x28
    replace b3 := b3.ext x28
    replace b4 := b4.ext x28
    replace b5 := b5.ext x28
    replace b6 := b6.ext x28
    replace za := za.ext x28
    replace zb := zb.ext x28
    replace z26 := z26.ext x28
    replace xw := Ext.trans xw x28
    go_upto_region 5 with fail
    have o30 := b6.kind.lt
    have o31 := xw.size
    refine wp_name ?_
    intro V29 hV
    have b2N : Box2 V29 w.heap.size (.bool na) (.slice aa la ca) 37 := by rw [hV]; exact ((b2).alloc _).alloc _
    have b3N : Box2 V29 (w.heap.size + 1) (.bool true) (.slice ab lb cb) 37 := by rw [hV]; exact ((b3).alloc _).alloc _
    have b4N : Box2 V29 (w.heap.size + 1 + 1) (.bool false) (.slice none 0 0) 37 := by rw [hV]; exact ((b4).alloc _).alloc _
    have b5N : Box2 V29 (w.heap.size + 1 + 1 + 1) (.bool false) (.slice none 0 0) 37 := by rw [hV]; exact ((b5).alloc _).alloc _
    have b6N : Box2 V29 w19.heap.size (.bool n26) (.slice a26 l26 c26) 37 := by rw [hV]; exact ((b6).alloc _).alloc _
    have zaN : IsZ V29 na (.slice aa la ca) a := by rw [hV]; exact ((za).alloc _).alloc _
    have zbN : IsZ V29 true (.slice ab lb cb) b := by rw [hV]; exact ((zb).alloc _).alloc _
    have z26N : IsZ V29 n26 (.slice a26 l26 c26) (-((Nat.gcd a.natAbs b.natAbs : Nat) : Int)) := by rw [hV]; exact ((z26).alloc _).alloc _
    have z28qN : IsZ V29 n28q (.slice a28q l28q c28q) (a.fdiv (-((Nat.gcd a.natAbs b.natAbs : Nat) : Int))) := by rw [hV]; exact ((z28q).alloc _).alloc _
    have z28rN : IsZ V29 n28r (.slice a28r l28r c28r) (a.fmod (-((Nat.gcd a.natAbs b.natAbs : Nat) : Int))) := by rw [hV]; exact ((z28r).alloc _).alloc _
    replace xw : Ext w V29 := by rw [hV]; exact Ext.alloc (Ext.alloc (xw))
    replace b2 := b2N; clear b2N
    replace b3 := b3N; clear b3N
    replace b4 := b4N; clear b4N
    replace b5 := b5N; clear b5N
    replace b6 := b6N; clear b6N
    replace za := zaN; clear zaN
    replace zb := zbN; clear zbN
    replace z26 := z26N; clear z26N
    replace z28q := z28qN; clear z28qN
    replace z28r := z28rN; clear z28rN
    have b7 : Box2 V29 w28.heap.size (.bool n28q) (.slice a28q l28q c28q) 37 := by rw [hV]; exact (Box2.new rfl).alloc _
    have b8 : Box2 V29 (w28.heap.size + 1) (.bool n28r) (.slice a28r l28r c28r) 37 := by rw [hV]; exact Box2.new (by simp)
    clear hV
    have b3_c0 := b3.c0
    have b3_c1 := b3.c1
    have b6_c0 := b6.c0
    have b6_c1 := b6.c1
    go_wp2_with fail
    refine (HDiv.out _ _ _ _ _ _ _ _ b (-((Nat.gcd a.natAbs b.natAbs : Nat) : Int)) _ zb z26 K (by omega) Bb B26 D0).mono ?_
    rintro e w32 ⟨n32q, a32q, l32q, c32q, n32r, a32r, l32r, c32r, rfl, z32q, z32r, x32⟩
    replace x32 : Ext _ w32 := x32
    have B32q : Bits (K + 1) (b.fdiv (-((Nat.gcd a.natAbs b.natAbs : Nat) : Int))) := fdiv_b Bb D0
    have B32r : Bits K (b.fmod (-((Nat.gcd a.natAbs b.natAbs : Nat) : Int))) := fmod_b B26 D0
    clear b3_c0 b3_c1 b6_c0 b6_c1
    replace b2 := b2.ext x32
    replace b3 := b3.ext x32
    replace b4 := b4.ext x32
    replace b5 := b5.ext x32
    replace b6 := b6.ext x32
    replace b7 := b7.ext x32
    replace b8 := b8.ext x32
    replace za := za.ext x32
    replace zb := zb.ext x32
    replace z26 := z26.ext x32
    replace z28q := z28q.ext x32
    replace z28r := z28r.ext x32
    replace xw := Ext.trans xw x32
    go_upto_region 6 with fail
    have o34 := b7.kind.lt
    have o35 := b8.kind.lt
    have o36 := xw.size
    refine wp_name ?_
    intro V33 hV
    have b2N : Box2 V33 w.heap.size (.bool na) (.slice aa la ca) 37 := by rw [hV]; exact ((b2).alloc _).alloc _
    have b3N : Box2 V33 (w.heap.size + 1) (.bool true) (.slice ab lb cb) 37 := by rw [hV]; exact ((b3).alloc _).alloc _
    have b4N : Box2 V33 (w.heap.size + 1 + 1) (.bool false) (.slice none 0 0) 37 := by rw [hV]; exact ((b4).alloc _).alloc _
    have b5N : Box2 V33 (w.heap.size + 1 + 1 + 1) (.bool false) (.slice none 0 0) 37 := by rw [hV]; exact ((b5).alloc _).alloc _
    have b6N : Box2 V33 w19.heap.size (.bool n26) (.slice a26 l26 c26) 37 := by rw [hV]; exact ((b6).alloc _).alloc _
    have b7N : Box2 V33 w28.heap.size (.bool n28q) (.slice a28q l28q c28q) 37 := by rw [hV]; exact ((b7).alloc _).alloc _
    have b8N : Box2 V33 (w28.heap.size + 1) (.bool n28r) (.slice a28r l28r c28r) 37 := by rw [hV]; exact ((b8).alloc _).alloc _
    have zaN : IsZ V33 na (.slice aa la ca) a := by rw [hV]; exact ((za).alloc _).alloc _
    have zbN : IsZ V33 true (.slice ab lb cb) b := by rw [hV]; exact ((zb).alloc _).alloc _
    have z26N : IsZ V33 n26 (.slice a26 l26 c26) (-((Nat.gcd a.natAbs b.natAbs : Nat) : Int)) := by rw [hV]; exact ((z26).alloc _).alloc _
    have z28qN : IsZ V33 n28q (.slice a28q l28q c28q) (a.fdiv (-((Nat.gcd a.natAbs b.natAbs : Nat) : Int))) := by rw [hV]; exact ((z28q).alloc _).alloc _
    have z28rN : IsZ V33 n28r (.slice a28r l28r c28r) (a.fmod (-((Nat.gcd a.natAbs b.natAbs : Nat) : Int))) := by rw [hV]; exact ((z28r).alloc _).alloc _
    have z32qN : IsZ V33 n32q (.slice a32q l32q c32q) (b.fdiv (-((Nat.gcd a.natAbs b.natAbs : Nat) : Int))) := by rw [hV]; exact ((z32q).alloc _).alloc _
    have z32rN : IsZ V33 n32r (.slice a32r l32r c32r) (b.fmod (-((Nat.gcd a.natAbs b.natAbs : Nat) : Int))) := by rw [hV]; exact ((z32r).alloc _).alloc _
    replace xw : Ext w V33 := by rw [hV]; exact Ext.alloc (Ext.alloc (xw))
    replace b2 := b2N; clear b2N
    replace b3 := b3N; clear b3N
    replace b4 := b4N; clear b4N
    replace b5 := b5N; clear b5N
    replace b6 := b6N; clear b6N
    replace b7 := b7N; clear b7N
    replace b8 := b8N; clear b8N
    replace za := zaN; clear zaN
    replace zb := zbN; clear zbN
    replace z26 := z26N; clear z26N
    replace z28q := z28qN; clear z28qN
    replace z28r := z28rN; clear z28rN
    replace z32q := z32qN; clear z32qN
    replace z32r := z32rN; clear z32rN
    have b9 : Box2 V33 w32.heap.size (.bool n32q) (.slice a32q l32q c32q) 37 := by rw [hV]; exact (Box2.new rfl).alloc _
    have b10 : Box2 V33 (w32.heap.size + 1) (.bool n32r) (.slice a32r l32r c32r) 37 := by rw [hV]; exact Box2.new (by simp)
    clear hV
    have b7_c0 := b7.c0
    have b7_c1 := b7.c1
    have b9_c0 := b9.c0
    have b9_c1 := b9.c1
    have b4_c0 := b4.c0
    have b4_c1 := b4.c1
    have b4_f0 := b4.f0
    have b4_f1 := b4.f1
    have b5_c0 := b5.c0
    have b5_c1 := b5.c1
    have b5_f0 := b5.f0
    have b5_f1 := b5.f1
    have ne4_5 : ¬ w.heap.size + 1 + 1 = w.heap.size + 1 + 1 + 1 := by omega
    have ne5_4 : ¬ w.heap.size + 1 + 1 + 1 = w.heap.size + 1 + 1 := by omega
    have ne4_7 : ¬ w.heap.size + 1 + 1 = w28.heap.size := by omega
    have ne7_4 : ¬ w28.heap.size = w.heap.size + 1 + 1 := by omega
    have ne4_9 : ¬ w.heap.size + 1 + 1 = w32.heap.size := by omega
    have ne9_4 : ¬ w32.heap.size = w.heap.size + 1 + 1 := by omega
    have ne5_7 : ¬ w.heap.size + 1 + 1 + 1 = w28.heap.size := by omega
    have ne7_5 : ¬ w28.heap.size = w.heap.size + 1 + 1 + 1 := by omega
    have ne5_9 : ¬ w.heap.size + 1 + 1 + 1 = w32.heap.size := by omega
    have ne9_5 : ¬ w32.heap.size = w.heap.size + 1 + 1 + 1 := by omega
    go_region
    clear ne4_5 ne5_4 ne4_7 ne7_4 ne4_9 ne9_4 ne5_7 ne7_5 ne5_9 ne9_5
    have zr0 := (((z28q).set2 (b4).kind (by decide) (.bool n28q) (.slice a28q l28q c28q)).set2 ((b5).other2 (b := w.heap.size + 1 + 1) (by omega) (.bool n28q) (.slice a28q l28q c28q)).kind (by decide) (.bool n32q) (.slice a32q l32q c32q)).drew
    have zr1 := (((z32q).set2 (b4).kind (by decide) (.bool n28q) (.slice a28q l28q c28q)).set2 ((b5).other2 (b := w.heap.size + 1 + 1) (by omega) (.bool n28q) (.slice a28q l28q c28q)).kind (by decide) (.bool n32q) (.slice a32q l32q c32q)).drew
    have xr := Ext.drew (Ext.set (Ext.set (Ext.set (Ext.set (xw) (k := w.heap.size + 1 + 1) (o := 0) (u := .bool n28q) (by omega)) (k := w.heap.size + 1 + 1) (o := 1) (u := .slice a28q l28q c28q) (by omega)) (k := w.heap.size + 1 + 1 + 1) (o := 0) (u := .bool n32q) (by omega)) (k := w.heap.size + 1 + 1 + 1) (o := 1) (u := .slice a32q l32q c32q) (by omega))
    go_wp2_with fail
    refine bodyPost_ret (v := .tuple #[.agg #[.bool n28q, .slice a28q l28q c28q], .agg #[.bool n32q, .slice a32q l32q c32q]]) (by simp [results, Try.results109, go_sem, b4_c0, b4_c1, b5_c0, b5_c1]) rfl ⟨_, _, _, _, _, _, _, _, rfl, by rw [← HP.out]; exact zr0, by rw [← HQ.out]; exact zr1, xr⟩
end Go.Proofs.Ytmkddcmfofabbaa
