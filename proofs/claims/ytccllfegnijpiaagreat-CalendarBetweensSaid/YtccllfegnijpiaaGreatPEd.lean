/-
  Texts joined: Dur, Btw, Btt, Cau, Fx, Duc, Cuu, Cur, Cur2, Chainy, Fc, Plc, Cub, Dud, Duz. Each says at its head what it shows.
-/
import Derived.Test.YtccllfegnijpiaaGreatPEc
section
/-
  Durations: totals, signs, what may be, and how a total is laid out; no program in sight.
-/
set_option linter.unusedVariables false
namespace Go.Proofs.YtccllfegnijpiaaGreat

abbrev LIM : Int := 9007199254740992000000000
def dtot (d h mi s n : Int) : Int := d * 86400000000000 + h * 3600000000000 + mi * 60000000000 + s * 1000000000 + n
/-- The sign of the first field that isn't 0. -/
def sg8 (a b c d h mi s n : Int) : Int := if a ≠ 0 then cmpI a 0 else if b ≠ 0 then cmpI b 0 else if c ≠ 0 then cmpI c 0 else if d ≠ 0 then cmpI d 0 else if h ≠ 0 then cmpI h 0 else if mi ≠ 0 then cmpI mi 0 else if s ≠ 0 then cmpI s 0 else cmpI n 0
def pos8 (a b c d h mi s n : Int) : Prop := 0 ≤ a ∧ 0 ≤ b ∧ 0 ≤ c ∧ 0 ≤ d ∧ 0 ≤ h ∧ 0 ≤ mi ∧ 0 ≤ s ∧ 0 ≤ n
def neg8 (a b c d h mi s n : Int) : Prop := a ≤ 0 ∧ b ≤ 0 ∧ c ≤ 0 ∧ d ≤ 0 ∧ h ≤ 0 ∧ mi ≤ 0 ∧ s ≤ 0 ∧ n ≤ 0
instance (a b c d h mi s n : Int) : Decidable (pos8 a b c d h mi s n) := by unfold pos8; infer_instance
instance (a b c d h mi s n : Int) : Decidable (neg8 a b c d h mi s n) := by unfold neg8; infer_instance
def cnt1 (a : Int) : Prop := -4294967295 ≤ a ∧ a ≤ 4294967295
instance (a : Int) : Decidable (cnt1 a) := by unfold cnt1; infer_instance
/-- A duration that may be. -/
def uOk (a b c d h mi s n : Int) : Prop := (pos8 a b c d h mi s n ∨ neg8 a b c d h mi s n) ∧ (cnt1 a ∧ cnt1 b ∧ cnt1 c) ∧ -LIM < dtot d h mi s n ∧ dtot d h mi s n < LIM
instance (a b c d h mi s n : Int) : Decidable (uOk a b c d h mi s n) := by unfold uOk; infer_instance
/-- One without years, months, weeks. -/
def uEx (a b c d h mi s n : Int) : Prop := uOk a b c d h mi s n ∧ a = 0 ∧ b = 0 ∧ c = 0
instance (a b c d h mi s n : Int) : Decidable (uEx a b c d h mi s n) := by unfold uEx; infer_instance
/-- A unit's length. -/
def ulen (u : Int) : Int := if u = 4 then 86400000000000 else if u = 5 then 3600000000000 else if u = 6 then 60000000000 else if u = 7 then 1000000000 else if u = 8 then 1 else 0
/-- The fields of a total x that is laid out from the unit u on. -/
def l4 (u x : Int) : Int := if u = 4 then x.tdiv 86400000000000 else 0
def l5 (u x : Int) : Int := if u = 4 then (x.tmod 86400000000000).tdiv 3600000000000 else if u = 5 then x.tdiv 3600000000000 else 0
def l6 (u x : Int) : Int := if u ≤ 5 then (x.tmod 3600000000000).tdiv 60000000000 else if u = 6 then x.tdiv 60000000000 else 0
def l7 (u x : Int) : Int := if u ≤ 6 then (x.tmod 60000000000).tdiv 1000000000 else if u = 7 then x.tdiv 1000000000 else 0
def l8 (u x : Int) : Int := if u ≤ 7 then x.tmod 1000000000 else x
theorem td (x L : Int) (hL : 0 < L) : x.tdiv L * L + x.tmod L = x ∧ (0 ≤ x → 0 ≤ x.tdiv L ∧ 0 ≤ x.tmod L ∧ x.tmod L < L) ∧ (x ≤ 0 → x.tdiv L ≤ 0 ∧ x.tmod L ≤ 0 ∧ -L < x.tmod L) := by
  have a := Int.tdiv_mul_add_tmod x L
  refine ⟨a, fun h => ⟨Int.tdiv_nonneg h (by omega), Int.tmod_nonneg L h, Int.tmod_lt_of_pos x hL⟩, fun h => ?_⟩
  have b := Int.tdiv_nonneg (a := -x) (b := L) (by omega) (by omega)
  have c := Int.tmod_nonneg (a := -x) L (by omega)
  have d := Int.tmod_lt_of_pos (-x) hL
  rw [Int.neg_tdiv] at b
  rw [Int.neg_tmod] at c d
  omega
/-- What is laid out has its total; its fields have one sign and aren't too great. -/
theorem lay_tot {u x : Int} (h : 4 ≤ u) (k : u ≤ 8) : dtot (l4 u x) (l5 u x) (l6 u x) (l7 u x) (l8 u x) = x ∧
    (0 ≤ x → pos8 0 0 0 (l4 u x) (l5 u x) (l6 u x) (l7 u x) (l8 u x)) ∧ (x ≤ 0 → neg8 0 0 0 (l4 u x) (l5 u x) (l6 u x) (l7 u x) (l8 u x)) := by
  obtain ⟨e1, e1p, e1n⟩ := td x 86400000000000 (by omega)
  obtain ⟨e2, e2p, e2n⟩ := td x 3600000000000 (by omega)
  obtain ⟨e3, e3p, e3n⟩ := td x 60000000000 (by omega)
  obtain ⟨e4, e4p, e4n⟩ := td x 1000000000 (by omega)
  obtain ⟨f2, f2p, f2n⟩ := td (x.tmod 86400000000000) 3600000000000 (by omega)
  obtain ⟨f3, f3p, f3n⟩ := td (x.tmod 3600000000000) 60000000000 (by omega)
  obtain ⟨f4, f4p, f4n⟩ := td (x.tmod 60000000000) 1000000000 (by omega)
  rw [Int.tmod_tmod_of_dvd x (by decide)] at f2 f3 f4
  have hu : u = 4 ∨ u = 5 ∨ u = 6 ∨ u = 7 ∨ u = 8 := by omega
  refine ⟨?_, fun hx => ?_, fun hx => ?_⟩
  · clear e1p e1n e2p e2n e3p e3n e4p e4n f2p f2n f3p f3n f4p f4n
    unfold dtot l4 l5 l6 l7 l8
    rcases hu with rfl | rfl | rfl | rfl | rfl <;> simp only [Int.reduceEq, Int.reduceLE, if_true, if_false] <;> omega
  · have p1 := e1p hx; have p2 := e2p hx; have p3 := e3p hx; have p4 := e4p hx
    have q2 := f2p p1.2.1; have q3 := f3p p2.2.1; have q4 := f4p p3.2.1
    unfold pos8 l4 l5 l6 l7 l8
    rcases hu with rfl | rfl | rfl | rfl | rfl <;> simp only [Int.reduceEq, Int.reduceLE, if_true, if_false] <;> refine ⟨trivial, trivial, trivial, ?_, ?_, ?_, ?_, ?_⟩ <;> first | trivial | omega
  · have p1 := e1n hx; have p2 := e2n hx; have p3 := e3n hx; have p4 := e4n hx
    have q2 := f2n p1.2.1; have q3 := f3n p2.2.1; have q4 := f4n p3.2.1
    unfold neg8 l4 l5 l6 l7 l8
    rcases hu with rfl | rfl | rfl | rfl | rfl <;> simp only [Int.reduceEq, Int.reduceLE, if_true, if_false] <;> refine ⟨trivial, trivial, trivial, ?_, ?_, ?_, ?_, ?_⟩ <;> first | trivial | omega
/-- It may be, where its total may be, and its first field has room. -/
def layOk (u x : Int) : Prop := (4 ≤ u ∧ u ≤ 8) ∧ (-LIM < x ∧ x < LIM) ∧ (-9223372036854775808 ≤ x.tdiv (ulen u) ∧ x.tdiv (ulen u) ≤ 9223372036854775807)
instance (u x : Int) : Decidable (layOk u x) := by unfold layOk; infer_instance
theorem lay_ok {u x : Int} (k : layOk u x) : uEx 0 0 0 (l4 u x) (l5 u x) (l6 u x) (l7 u x) (l8 u x) := by
  obtain ⟨⟨k1, k2⟩, ⟨k3, k4⟩, k5⟩ := k
  obtain ⟨a, b, c⟩ := lay_tot (x := x) k1 k2
  refine ⟨⟨?_, ⟨by unfold cnt1; omega, by unfold cnt1; omega, by unfold cnt1; omega⟩, by rw [a]; exact ⟨k3, k4⟩⟩, rfl, rfl, rfl⟩
  by_cases h : 0 ≤ x
  · exact .inl (b h)
  · exact .inr (c (by omega))
theorem td2 (x A B k : Int) (hA : A = k * B) (hB : 0 < B) (hk : 0 < k) : -k < (x.tmod A).tdiv B ∧ (x.tmod A).tdiv B < k := by
  have a0 : 0 < A := by rw [hA]; exact Int.mul_pos hk hB
  obtain ⟨e1, e2, e3⟩ := td x A a0
  obtain ⟨f1, f2, f3⟩ := td (x.tmod A) B hB
  have key : ∀ q : Int, q * B < k * B → q < k := fun q h => Int.lt_of_mul_lt_mul_right h (by omega)
  by_cases h : 0 ≤ x
  · have := e2 h
    have := f2 this.2.1
    have := key ((x.tmod A).tdiv B) (by omega)
    omega
  · have := e3 (by omega)
    have := f3 this.2.1
    have := key (-((x.tmod A).tdiv B)) (by rw [Int.neg_mul]; omega)
    omega
/-- An increment of a unit. -/
def incOk (u i : Int) : Prop := 1 ≤ i ∧ (u = 4 ∧ i ≤ 1000000000 ∨ u = 5 ∧ i < 24 ∧ Int.tmod 24 i = 0 ∨ (u = 6 ∨ u = 7) ∧ i < 60 ∧ Int.tmod 60 i = 0 ∨ u = 8 ∧ i < 1000000000 ∧ Int.tmod 1000000000 i = 0)
instance (u i : Int) : Decidable (incOk u i) := by unfold incOk; infer_instance
end Go.Proofs.YtccllfegnijpiaaGreat
end
section
/-
  What lies between two days, and between two date-times; no program in sight.
-/
set_option linter.unusedVariables false
namespace Go.Proofs.YtccllfegnijpiaaGreat

section
variable (L y m d y' m' d' : Int)
def uS : Int := cmp3 y' m' d' y m d
def uMM : Int := mM (uS y m d y' m' d') y m d y' m' d'
def uY : Int := if L = 1 then uS y m d y' m' d' * (uMM y m d y' m' d' / 12) else 0
def uMo : Int := if L = 1 then uS y m d y' m' d' * (uMM y m d y' m' d' % 12) else if L = 2 then uS y m d y' m' d' * uMM y m d y' m' d' else 0
def uW : Int := if L = 3 then (dnum y' m' d' - dnum y m d).tdiv 7 else 0
def uD : Int := if L = 3 then (dnum y' m' d' - dnum y m d).tmod 7 else if L = 4 then dnum y' m' d' - dnum y m d else fL (uS y m d y' m' d') y m d y' m' d'
end
section
variable {y m d y' m' d' : Int}
theorem uS_tri : uS y m d y' m' d' = -1 ∧ dnum y' m' d' < dnum y m d ∨ uS y m d y' m' d' = 0 ∧ y' = y ∧ m' = m ∧ d' = d ∨ uS y m d y' m' d' = 1 ∧ dnum y m d < dnum y' m' d' ∨ ¬ (dIn y m d ∧ dIn y' m' d') := by
  by_cases h : dIn y m d ∧ dIn y' m' d'
  · rcases cmp3_tri y' m' d' y m d with k | k | k
    · refine .inl ⟨k, ?_⟩
      rw [cmp3_num h.2 h.1] at k; exact cmpI_n.1 k
    · exact .inr (.inl ⟨k, cmp3_0.1 k⟩)
    · refine .inr (.inr (.inl ⟨k, ?_⟩))
      rw [cmp3_num h.2 h.1] at k; exact cmpI_p.1 k
  · exact .inr (.inr (.inr h))
theorem mM_same (h : dIn y m d) : mM 0 y m d y m d = 0 := by unfold mM; rw [if_neg (by omega), if_neg (by omega)]; omega
theorem cD_same (h : dIn y m d) : cD y m d = d := by unfold cD; rw [if_neg (by have := h.2.2.2; omega)]
theorem fL_same (h : dIn y m d) : fL 0 y m d y m d = 0 := by
  unfold fL fD' fY' fM'
  rw [mM_same h, show ymi y m + 0 * 0 = ymi y m by omega, (l_ymi h.1 h.2.1).1, (l_ymi h.1 h.2.1).2, cD_same h]; omega
/-- All that lies between two days has one sign, and isn't too great. -/
theorem until_sign {L : Int} (h : dOk y m d) (h' : dOk y' m' d') (hL : 1 ≤ L) (hL' : L ≤ 4) (s : Int) (e : uS y m d y' m' d' = s) :
    0 ≤ s * uY L y m d y' m' d' ∧ 0 ≤ s * uMo L y m d y' m' d' ∧ 0 ≤ s * uW L y m d y' m' d' ∧ 0 ≤ s * uD L y m d y' m' d' ∧
    s * uY L y m d y' m' d' ≤ 600000 ∧ s * uMo L y m d y' m' d' ≤ 7200000 ∧ s * uW L y m d y' m' d' ≤ 200000001 ∧ s * uD L y m d y' m' d' ≤ 200000001 ∧
    (s = 0 → uY L y m d y' m' d' = 0 ∧ uMo L y m d y' m' d' = 0 ∧ uW L y m d y' m' d' = 0 ∧ uD L y m d y' m' d' = 0) ∧
    (L = 1 → s * uMo L y m d y' m' d' < 12) ∧ (L ≤ 2 → s * uD L y m d y' m' d' < 31) ∧ (L = 3 → s * uD L y m d y' m' d' < 7) := by
  have yy := dOk_year h
  have yy' := dOk_year h'
  have t := td (dnum y' m' d' - dnum y m d) 7 (by omega)
  rcases uS_tri (y := y) (m := m) (d := d) (y' := y') (m' := m') (d' := d') with ⟨k, lt⟩ | ⟨k, rfl, rfl, rfl⟩ | ⟨k, lt⟩ | k
  · obtain rfl : s = -1 := by omega
    obtain ⟨f1, f2, f3⟩ := from_ok h h' (s := -1) (by omega) k
    have p := mM_pos h.1.1 h.1.2.1 h'.1.1 h'.1.2.1 (s := -1) (by omega) k
    have q := mM_le (y := y) (y' := y') (d := d) (d' := d') h.1.1 h.1.2.1 h'.1.1 h'.1.2.1 (s := -1) (.inr rfl)
    rw [if_neg (by omega)] at q
    have t2 := t.2.2 (by omega)
    have h2 := h.2; have h2' := h'.2
    unfold uY uMo uW uD uMM
    rw [k]
    generalize mM (-1) y m d y' m' d' = M at *
    generalize fL (-1) y m d y' m' d' = F at *
    have hLL : L = 1 ∨ L = 2 ∨ L = 3 ∨ L = 4 := by omega
    rcases hLL with rfl | rfl | rfl | rfl <;> simp only [Int.reduceEq, if_true, if_false] <;> refine ⟨by omega, by omega, by omega, by omega, by omega, by omega, by omega, by omega, fun z => by first | exact z.elim | omega, fun z => by first | exact z.elim | omega, fun z => by first | exact z.elim | omega, fun z => by first | exact z.elim | omega⟩
  · obtain rfl : s = 0 := by omega
    have a1 := mM_same h.1
    have a2 := fL_same h.1
    unfold uY uMo uW uD uMM
    rw [k, a1, a2]
    have hLL : L = 1 ∨ L = 2 ∨ L = 3 ∨ L = 4 := by omega
    rcases hLL with rfl | rfl | rfl | rfl <;> simp
  · obtain rfl : s = 1 := by omega
    obtain ⟨f1, f2, f3⟩ := from_ok h h' (s := 1) (by omega) k
    have p := mM_pos h.1.1 h.1.2.1 h'.1.1 h'.1.2.1 (s := 1) (by omega) k
    have q := mM_le (y := y) (y' := y') (d := d) (d' := d') h.1.1 h.1.2.1 h'.1.1 h'.1.2.1 (s := 1) (.inl rfl)
    rw [if_pos rfl] at q
    have t2 := t.2.1 (by omega)
    have h2 := h.2; have h2' := h'.2
    unfold uY uMo uW uD uMM
    rw [k]
    generalize mM 1 y m d y' m' d' = M at *
    generalize fL 1 y m d y' m' d' = F at *
    have hLL : L = 1 ∨ L = 2 ∨ L = 3 ∨ L = 4 := by omega
    rcases hLL with rfl | rfl | rfl | rfl <;> simp only [Int.reduceEq, if_true, if_false] <;> refine ⟨by omega, by omega, by omega, by omega, by omega, by omega, by omega, by omega, fun z => by first | exact z.elim | omega, fun z => by first | exact z.elim | omega, fun z => by first | exact z.elim | omega, fun z => by first | exact z.elim | omega⟩
  · exact absurd ⟨h.1, h'.1⟩ k
end
end Go.Proofs.YtccllfegnijpiaaGreat
end
section
/-
  What lies between two date-times; no program in sight.
-/
set_option linter.unusedVariables false
namespace Go.Proofs.YtccllfegnijpiaaGreat

section
variable (y mo d h m s n y' mo' d' h' m' s' n' : Int)
/-- A day more, where the times stand against the days. -/
def bX : Int := if (tnan h' m' s' n' - tnan h m s n) * uS y mo d y' mo' d' < 0 then uS y mo d y' mo' d' else 0
/-- The day that is gone to, and the time that is left. -/
def bD : Int := dnum y' mo' d' - bX y mo d h m s n y' mo' d' h' m' s' n'
def bZ : Int := tnan h' m' s' n' - tnan h m s n + bX y mo d h m s n y' mo' d' h' m' s' n' * 86400000000000
end
section
variable {y mo d h m s n y' mo' d' h' m' s' n' : Int}
theorem bt_in (k : pOk y mo d h m s n) (k' : pOk y' mo' d' h' m' s' n') :
    (-100000001 ≤ bD y mo d h m s n y' mo' d' h' m' s' n' ∧ bD y mo d h m s n y' mo' d' h' m' s' n' ≤ 100000000) ∧
    (-86400000000000 < bZ y mo d h m s n y' mo' d' h' m' s' n' ∧ bZ y mo d h m s n y' mo' d' h' m' s' n' < 86400000000000) ∧
    pnum y' mo' d' h' m' s' n' - pnum y mo d h m s n = (bD y mo d h m s n y' mo' d' h' m' s' n' - dnum y mo d) * 86400000000000 + bZ y mo d h m s n y' mo' d' h' m' s' n' ∧
    (uS y mo d y' mo' d' = 1 ∧ dnum y mo d ≤ bD y mo d h m s n y' mo' d' h' m' s' n' ∧ 0 ≤ bZ y mo d h m s n y' mo' d' h' m' s' n' ∨
     uS y mo d y' mo' d' = -1 ∧ bD y mo d h m s n y' mo' d' h' m' s' n' ≤ dnum y mo d ∧ bZ y mo d h m s n y' mo' d' h' m' s' n' ≤ 0 ∨
     uS y mo d y' mo' d' = 0 ∧ bX y mo d h m s n y' mo' d' h' m' s' n' = 0 ∧ bD y mo d h m s n y' mo' d' h' m' s' n' = dnum y mo d) ∧
    (bX y mo d h m s n y' mo' d' h' m' s' n' = 0 ∨ bX y mo d h m s n y' mo' d' h' m' s' n' = 1 ∨ bX y mo d h m s n y' mo' d' h' m' s' n' = -1) := by
  have t := tnan_bd k.2.1
  have t' := tnan_bd k'.2.1
  have d1 := k.1.2
  have d2 := k'.1.2
  unfold bD bZ bX pnum
  rcases uS_tri (y := y) (m := mo) (d := d) (y' := y') (m' := mo') (d' := d') with ⟨e, lt⟩ | ⟨e, rfl, rfl, rfl⟩ | ⟨e, lt⟩ | e
  · rw [e]
    split <;> refine ⟨by omega, by omega, by omega, .inr (.inl ⟨rfl, by omega, by omega⟩), by omega⟩
  · rw [e, if_neg (by omega)]
    refine ⟨by omega, by omega, by omega, .inr (.inr ⟨rfl, rfl, by omega⟩), by omega⟩
  · rw [e]
    split <;> refine ⟨by omega, by omega, by omega, .inl ⟨rfl, by omega, by omega⟩, by omega⟩
  · exact absurd ⟨k.1.1, k'.1.1⟩ e
/-- The day that is gone to may be. -/
theorem bt_date (k : pOk y mo d h m s n) (k' : pOk y' mo' d' h' m' s' n') : dOk (dY (bD y mo d h m s n y' mo' d' h' m' s' n')) (dM (bD y mo d h m s n y' mo' d' h' m' s' n')) (dD (bD y mo d h m s n y' mo' d' h' m' s' n')) ∧
    dnum (dY (bD y mo d h m s n y' mo' d' h' m' s' n')) (dM (bD y mo d h m s n y' mo' d' h' m' s' n')) (dD (bD y mo d h m s n y' mo' d' h' m' s' n')) = bD y mo d h m s n y' mo' d' h' m' s' n' := by
  have a := (bt_in k k').1
  have b := date_ok (bD y mo d h m s n y' mo' d' h' m' s' n')
  exact ⟨⟨b.1, by rw [b.2]; exact a⟩, b.2⟩
end
end Go.Proofs.YtccllfegnijpiaaGreat
end
section
/-
  Months put to a day, and how many fit: the program's search.
-/
set_option linter.unusedVariables false
set_option linter.unusedSimpArgs false
set_option maxRecDepth 100000
namespace Go.Proofs.YtccllfegnijpiaaGreat
open Go Go.RowKit Go.Ev

section
variable (y m d k T : Int)
theorem clater (hT : y * 12 + (m - 1) + k = T) (y0 : -10000000 ≤ y) (y1 : y ≤ 10000000) (m1 : 1 ≤ m) (m2 : m ≤ 12) (k0 : -1000000000000 ≤ k) (k1 : k ≤ 1000000000000) : Fn 108 [] [dv y m d, .int .i64 k] (dv (lY T) (lM T) d) := by
  have hb : -10000000000000 ≤ T ∧ T ≤ 10000000000000 := by omega
  by_cases h : 0 ≤ T
  · have e1 : T.tdiv 12 = T / 12 := tdiv_nn h
    have e2 : T.tmod 12 = T % 12 := tmod_nn h
    refine fn_of Tryz.func108 rfl fun ww => ?_
    refine st_i 10 .i64 (x' := y * 12) (Go.IntWalk.i64_in _ (by omega)) (by kernel_rfl) ?_
    refine st_i 13 .i64 (x' := m - 1) (Go.IntWalk.i64_in _ (by omega)) (by kernel_rfl) ?_
    refine st_i 14 .i64 (x' := y * 12 + (m - 1)) (Go.IntWalk.i64_in _ (by omega)) (by kernel_rfl) ?_
    refine st_i 16 IntKind.i64 (x := IntKind.i64.wrap (y * 12 + (m - 1) + k)) ((Go.IntWalk.i64_in (y * 12 + (m - 1) + k) (by omega)).trans (hT)) (by kernel_rfl) ?_
    refine st_i 18 .i64 (x' := T.tdiv 12) (Go.IntWalk.i64_in _ (by omega)) (by kernel_rfl) ?_
    refine st_b 22 (show (decide (T.tmod 12 < 0)) = false by exact decide_eq_false (by omega)) (by kernel_rfl) ?_
    refine st_i 29 .i64 (x' := T.tmod 12 + 1) (Go.IntWalk.i64_in _ (by omega)) (by kernel_rfl) ?_
    exact st_retv Tryz.func108 (show Value.agg #[vI64 (T.tdiv 12), vI64 (T.tmod 12 + 1), vI64 d] = _ by (refine d_eq ?_ ?_ rfl <;> simp only [lY, lM] <;> omega)) (by kernel_rfl)
  · have e1 : T.tdiv 12 = -((-T) / 12) := tdiv_lit (by omega)
    have e2 : T.tmod 12 = -((-T) % 12) := tmod_lit (by omega)
    refine fn_of Tryz.func108 rfl fun ww => ?_
    refine st_i 10 .i64 (x' := y * 12) (Go.IntWalk.i64_in _ (by omega)) (by kernel_rfl) ?_
    refine st_i 13 .i64 (x' := m - 1) (Go.IntWalk.i64_in _ (by omega)) (by kernel_rfl) ?_
    refine st_i 14 .i64 (x' := y * 12 + (m - 1)) (Go.IntWalk.i64_in _ (by omega)) (by kernel_rfl) ?_
    refine st_i 16 IntKind.i64 (x := IntKind.i64.wrap (y * 12 + (m - 1) + k)) ((Go.IntWalk.i64_in (y * 12 + (m - 1) + k) (by omega)).trans (hT)) (by kernel_rfl) ?_
    refine st_i 18 .i64 (x' := T.tdiv 12) (Go.IntWalk.i64_in _ (by omega)) (by kernel_rfl) ?_
    by_cases k22 : T.tmod 12 < 0
    · refine st_b 22 (decide_eq_true k22) (by kernel_rfl) ?_
      refine st_i 24 .i64 (x' := T.tdiv 12 - 1) (Go.IntWalk.i64_in _ (by omega)) (by kernel_rfl) ?_
      refine st_i 26 .i64 (x' := T.tmod 12 + 12) (Go.IntWalk.i64_in _ (by omega)) (by kernel_rfl) ?_
      refine st_i 29 .i64 (x' := T.tmod 12 + 12 + 1) (Go.IntWalk.i64_in _ (by omega)) (by kernel_rfl) ?_
      exact st_retv Tryz.func108 (show Value.agg #[vI64 (T.tdiv 12 - 1), vI64 (T.tmod 12 + 12 + 1), vI64 d] = _ by (refine d_eq ?_ ?_ rfl <;> simp only [lY, lM] <;> omega)) (by kernel_rfl)
    · refine st_b 22 (decide_eq_false k22) (by kernel_rfl) ?_
      refine st_i 29 .i64 (x' := T.tmod 12 + 1) (Go.IntWalk.i64_in _ (by omega)) (by kernel_rfl) ?_
      exact st_retv Tryz.func108 (show Value.agg #[vI64 (T.tdiv 12), vI64 (T.tmod 12 + 1), vI64 d] = _ by (refine d_eq ?_ ?_ rfl <;> simp only [lY, lM] <;> omega)) (by kernel_rfl)
end
abbrev dC (y m d : Int) : List SV := [.val (.int .i64 y), .val (.int .i64 m), .val (.int .i64 d)]
/-- What the inner functions of Until find in the memory. -/
abbrev bkF (i : Nat) : Bk := ⟨[.clo 117 [.ptr i 0, .ptr (i + 1) 0, .ptr (i + 2) 0]], 156⟩
abbrev bkU (s y m d y' m' d' : Int) : List Bk := [⟨dC y m d, 26⟩, ⟨[.val (.int .i64 s)], 2⟩, ⟨dC y' m' d', 26⟩]
abbrev bkX (Y : Int) : Bk := ⟨[.val (.int .i64 Y), .val (.int .i64 0), .val (.int .i64 0), .val (.int .i64 0), .val (.int .i64 0), .val (.int .i64 0), .val (.int .i64 0), .val (.int .i64 0)], 43⟩
abbrev EU : List TypeId := [999999, 26, 2, 156, 43]
section
variable (s y m d y' m' d' k Y : Int)
theorem cfit (hs : s = 1 ∨ s = -1) (y0 : -300000 ≤ y) (y1 : y ≤ 300000) (m1 : 1 ≤ m) (m2 : m ≤ 12) (m1' : 1 ≤ m') (m2' : m' ≤ 12) (k0 : 0 ≤ k) (k1 : k ≤ 100000000000) :
    FnM 117 [.val (.int .i64 k), .ptr 0 0, .ptr 1 0, .ptr 2 0] (bkU s y m d y' m' d') (.bool (decide (k ≤ mM s y m d y' m' d'))) := by
  have fi := fits_iff (s := s) (y := y) (m := m) (d := d) (y' := y') (m' := m') (d' := d') m1 m2 m1' m2' hs k
  have hb : -100000000000 ≤ s * k ∧ s * k ≤ 100000000000 := by rcases hs with rfl | rfl <;> omega
  have cl := clater y m d (s * k) (ymi y m + s * k) (by unfold ymi; omega) (by omega) (by omega) m1 m2 (by omega) (by omega)
  refine fnM_of EU Tryz.func117 rfl (by kernel_rfl) fun ww => ?_
  refine st_i 9 .i64 (x' := s * k) (Go.IntWalk.i64_in _ (by omega)) (by kernel_rfl) ?_
  refine st_fn ent108 (cl) sub0 (by kernel_rfl) ?_
  refine st_fn ent65 (ccmp5 (lY (ymi y m + s * k)) (lM (ymi y m + s * k)) (d) (y') (m') (d')) sub0 (by kernel_rfl) ?_
  exact st_retv Tryz.func117 (show Value.bool (cmp3 (lY (ymi y m + s * k)) (lM (ymi y m + s * k)) d y' m' d' != s) = _ by (refine b_eq ?_; rw [Bool.eq_iff_iff, bne_iff_ne, decide_eq_true_iff]; exact fi)) (by kernel_rfl)
theorem cfit2 (hs : s = 1 ∨ s = -1) (y0 : -300000 ≤ y) (y1 : y ≤ 300000) (m1 : 1 ≤ m) (m2 : m ≤ 12) (m1' : 1 ≤ m') (m2' : m' ≤ 12) (k0 : 0 ≤ k) (k1 : k ≤ 5000000000) :
    FnM 119 [.val (.int .i64 k), .ptr 0 0] (bkF 1 :: bkU s y m d y' m' d') (.bool (decide (k ≤ mM s y m d y' m' d' / 12))) := by
  have c1 := cfit s y m d y' m' d' (12 * k) hs y0 y1 m1 m2 m1' m2' (by omega) (by omega)
  refine fnM_of EU Tryz.func119 rfl (by kernel_rfl) fun ww => ?_
  refine st_i 6 .i64 (x' := 12 * k) (Go.IntWalk.i64_in _ (by omega)) (by kernel_rfl) ?_
  refine st_fm [1, 2, 3] ent117 (c1) (by kernel_rfl) (by kernel_rfl) (by kernel_rfl) ?_
  exact st_retv Tryz.func119 (show Value.bool (decide (12 * k ≤ mM s y m d y' m' d')) = _ by (refine b_eq (decide_eq_decide.2 ?_); omega)) (by kernel_rfl)
theorem cfit3 (hs : s = 1 ∨ s = -1) (y0 : -300000 ≤ y) (y1 : y ≤ 300000) (m1 : 1 ≤ m) (m2 : m ≤ 12) (m1' : 1 ≤ m') (m2' : m' ≤ 12) (hY : 0 ≤ Y) (hY1 : Y ≤ 1000000) (k0 : 0 ≤ k) (k1 : k ≤ 5000000000) :
    FnM 120 [.val (.int .i64 k), .ptr 0 0, .ptr 1 0] (bkF 2 :: bkX Y :: bkU s y m d y' m' d') (.bool (decide (k ≤ mM s y m d y' m' d' - 12 * Y))) := by
  have c1 := cfit s y m d y' m' d' (12 * Y + k) hs y0 y1 m1 m2 m1' m2' (by omega) (by omega)
  refine fnM_of EU Tryz.func120 rfl (by kernel_rfl) fun ww => ?_
  refine st_i 8 .i64 (x' := 12 * Y) (Go.IntWalk.i64_in _ (by omega)) (by kernel_rfl) ?_
  refine st_i 10 .i64 (x' := 12 * Y + k) (Go.IntWalk.i64_in _ (by omega)) (by kernel_rfl) ?_
  refine st_fm [2, 3, 4] ent117 (c1) (by kernel_rfl) (by kernel_rfl) (by kernel_rfl) ?_
  exact st_retv Tryz.func120 (show Value.bool (decide (12 * Y + k ≤ mM s y m d y' m' d')) = _ by (refine b_eq (decide_eq_decide.2 ?_); omega)) (by kernel_rfl)
/-- The search finds the greatest number that fits. -/
theorem cmost2 (N : Int) (hN : 0 ≤ N) (hN1 : N ≤ 100000000) (c : ∀ k : Int, 0 ≤ k → k ≤ 5000000000 → FnM 119 [.val (.int .i64 k), .ptr 0 0] (bkF 1 :: bkU s y m d y' m' d') (.bool (decide (k ≤ N)))) :
    FnM 118 [.clo 119 [.ptr 0 0]] (bkF 1 :: bkU s y m d y' m' d') (.int .i64 N) := by
  have hst := zall_any EU
  have cy : ∀ k : Int, 0 ≤ k → k ≤ N → FnM 119 [.val (.int .i64 k), .ptr 0 0] (bkF 1 :: bkU s y m d y' m' d') (.bool true) := fun k k0 k1 => by have := c k k0 (by omega); rwa [decide_eq_true k1] at this
  have cn : ∀ k : Int, N < k → k ≤ 5000000000 → FnM 119 [.val (.int .i64 k), .ptr 0 0] (bkF 1 :: bkU s y m d y' m' d') (.bool false) := fun k k0 k1 => by have := c k (by omega) k1; rwa [decide_eq_false (by omega)] at this
  refine fnM_of EU Tryz.func118 rfl (by kernel_rfl) fun ww => ?_
  refine st_forget [0,1,2,3,4,5,11,12,13,14,15,16,17,18,19,20,21,22,23,24,25,26,27,28] (by kernel_rfl) ?_
  refine st_loopG (X := Int) (fun x => ([SV.clo 119 [Cp.ptr 0 0],svZ,SV.val (vI64 0),.val (.int .i64 x),svZ,svZ,.any,.any,.any,.any,.any,svZ,svZ,svZ,svZ,svZ,svZ,svZ,svZ,svZ,svZ,svZ,svZ,svZ,svZ,svZ,svZ,svZ,svZ],[⟨[SV.clo 117 [Cp.ptr 1 0,Cp.ptr 2 0,Cp.ptr 3 0]],156⟩,⟨[SV.val (vI64 y),SV.val (vI64 m),SV.val (vI64 d)],26⟩,⟨[SV.val (vI64 s)],2⟩,⟨[SV.val (vI64 y'),SV.val (vI64 m'),SV.val (vI64 d')],26⟩])) (fun n => 1 ≤ n ∧ n ≤ 2 * N + 2 ∧ n / 2 ≤ N) (fun n => (N + 1 - n).toNat) (1) (by kernel_rfl) (by kernel_rfl) hst (by first | omega | (simp; omega) | assumption | simp_all) (fun y0 px0 back0 => ?_)
  ((by_cases q0 : y0 ≤ N) <;> have td0 : y0.tdiv 2 = y0 / 2 := tdiv_nn (by omega))
  · have _hh := True.intro
    refine st_fm [0, 1, 2, 3] ent119 (cy (y0) (by omega) (by assumption)) (by kernel_rfl) (by kernel_rfl) (by kernel_rfl) ?_
    refine st_i 10 .i64 (x' := y0 * 2) (Go.IntWalk.i64_in _ (by omega)) (by kernel_rfl) ?_
    refine st_forget [0,1,2,3,4,5,11,12,13,14,15,16,17,18,19,20,21,22,23,24,25,26,27,28] (by kernel_rfl) ?_
    exact st_backG back0 (y0 * 2) (by first | omega | (simp only []; omega) | (simp; omega)) (by first | (refine i_eq ?_; omega) | omega | (simp only []; omega) | (simp; omega) | assumption | simp_all) (by kernel_rfl) (by kernel_rfl) (by kernel_rfl)
  · have _hh := True.intro
    refine st_fm [0, 1, 2, 3] ent119 (cn (y0) (by omega) (by omega)) (by kernel_rfl) (by kernel_rfl) (by kernel_rfl) ?_
    refine st_i 12 IntKind.i64 (x := IntKind.i64.wrap (y0.tdiv 2)) ((Go.IntWalk.i64_in (y0.tdiv 2) (by omega)).trans (td0)) (by kernel_rfl) ?_
    refine st_forget [0,1,2,3,4,6,7,8,9,10,11,12,28] (by kernel_rfl) ?_
    refine st_loopG (X := Int × Int) (fun x => ([SV.clo 119 [Cp.ptr 0 0],svZ,SV.val (vI64 0),.val (.int .i64 x.1),.val (.int .i64 x.2),.any,SV.clo 119 [Cp.ptr 0 0],SV.val (vI64 y0),svF,SV.any,SV.any,SV.val (vI64 y0),SV.val (vI64 (y0 / 2)),.any,.any,.any,.any,.any,.any,.any,.any,.any,.any,.any,.any,.any,.any,.any,svZ],[⟨[SV.clo 117 [Cp.ptr 1 0,Cp.ptr 2 0,Cp.ptr 3 0]],156⟩,⟨[SV.val (vI64 y),SV.val (vI64 m),SV.val (vI64 d)],26⟩,⟨[SV.val (vI64 s)],2⟩,⟨[SV.val (vI64 y'),SV.val (vI64 m'),SV.val (vI64 d')],26⟩])) (fun n => 0 ≤ n.2 ∧ n.2 ≤ N ∧ N < n.1 ∧ n.1 ≤ 2 * N + 2) (fun n => (n.1 - n.2).toNat) ((y0,y0 / 2)) (by kernel_rfl) (by kernel_rfl) hst (by first | omega | (simp; omega) | assumption | simp_all) (fun x px1 back1 => ?_)
    rcases x with ⟨y1_0, y1_1⟩
    simp only at px1
    ((by_cases q1 : y1_0 - y1_1 > 1) <;> (by_cases q2 : y1_1 + (y1_0 - y1_1) / 2 ≤ N) <;> have td1 : (y1_0 - y1_1).tdiv 2 = (y1_0 - y1_1) / 2 := tdiv_nn (by omega))
    · have _hh := True.intro
      refine st_i 15 .i64 (x' := y1_0 - y1_1) (Go.IntWalk.i64_in _ (by omega)) (by kernel_rfl) ?_
      refine st_b 16 (show (decide (y1_0 - y1_1 > 1)) = true by exact decide_eq_true (by omega)) (by kernel_rfl) ?_
      refine st_i 20 .i64 (x' := y1_0 - y1_1) (Go.IntWalk.i64_in _ (by omega)) (by kernel_rfl) ?_
      refine st_i 21 IntKind.i64 (x := IntKind.i64.wrap ((y1_0 - y1_1).tdiv 2)) ((Go.IntWalk.i64_in ((y1_0 - y1_1).tdiv 2) (by omega)).trans (td1)) (by kernel_rfl) ?_
      refine st_i 22 .i64 (x' := y1_1 + (y1_0 - y1_1) / 2) (Go.IntWalk.i64_in _ (by omega)) (by kernel_rfl) ?_
      refine st_fm [0, 1, 2, 3] ent119 (cy (y1_1 + (y1_0 - y1_1) / 2) (by omega) (by assumption)) (by kernel_rfl) (by kernel_rfl) (by kernel_rfl) ?_
      refine st_forget [0,1,2,3,4,6,7,8,9,10,11,12,27,28] (by kernel_rfl) ?_
      exact st_backG back1 ((y1_0, y1_1 + (y1_0 - y1_1) / 2)) (by first | omega | (simp only []; omega) | (simp; omega)) (by first | (refine i_eq ?_; omega) | omega | (simp only []; omega) | (simp; omega) | assumption | simp_all) (by kernel_rfl) (by kernel_rfl) (by kernel_rfl)
    · have _hh := True.intro
      refine st_i 15 .i64 (x' := y1_0 - y1_1) (Go.IntWalk.i64_in _ (by omega)) (by kernel_rfl) ?_
      refine st_b 16 (show (decide (y1_0 - y1_1 > 1)) = true by exact decide_eq_true (by omega)) (by kernel_rfl) ?_
      refine st_i 20 .i64 (x' := y1_0 - y1_1) (Go.IntWalk.i64_in _ (by omega)) (by kernel_rfl) ?_
      refine st_i 21 IntKind.i64 (x := IntKind.i64.wrap ((y1_0 - y1_1).tdiv 2)) ((Go.IntWalk.i64_in ((y1_0 - y1_1).tdiv 2) (by omega)).trans (td1)) (by kernel_rfl) ?_
      refine st_i 22 .i64 (x' := y1_1 + (y1_0 - y1_1) / 2) (Go.IntWalk.i64_in _ (by omega)) (by kernel_rfl) ?_
      refine st_fm [0, 1, 2, 3] ent119 (cn (y1_1 + (y1_0 - y1_1) / 2) (by omega) (by omega)) (by kernel_rfl) (by kernel_rfl) (by kernel_rfl) ?_
      refine st_forget [0,1,2,3,4,6,7,8,9,10,11,12,26,28] (by kernel_rfl) ?_
      exact st_backG back1 ((y1_1 + (y1_0 - y1_1) / 2, y1_1)) (by first | omega | (simp only []; omega) | (simp; omega)) (by first | (refine i_eq ?_; omega) | omega | (simp only []; omega) | (simp; omega) | assumption | simp_all) (by kernel_rfl) (by kernel_rfl) (by kernel_rfl)
    · have _hh := True.intro
      refine st_i 15 .i64 (x' := y1_0 - y1_1) (Go.IntWalk.i64_in _ (by omega)) (by kernel_rfl) ?_
      refine st_b 16 (show (decide (y1_0 - y1_1 > 1)) = false by exact decide_eq_false (by omega)) (by kernel_rfl) ?_
      exact st_retv Tryz.func118 (show vI64 y1_1 = _ by (refine i_eq ?_; omega)) (by kernel_rfl)
    · have _hh := True.intro
      refine st_i 15 .i64 (x' := y1_0 - y1_1) (Go.IntWalk.i64_in _ (by omega)) (by kernel_rfl) ?_
      refine st_b 16 (show (decide (y1_0 - y1_1 > 1)) = true by exact decide_eq_true (by omega)) (by kernel_rfl) ?_
      refine st_i 20 .i64 (x' := y1_0 - y1_1) (Go.IntWalk.i64_in _ (by omega)) (by kernel_rfl) ?_
      refine st_i 21 IntKind.i64 (x := IntKind.i64.wrap ((y1_0 - y1_1).tdiv 2)) ((Go.IntWalk.i64_in ((y1_0 - y1_1).tdiv 2) (by omega)).trans (td1)) (by kernel_rfl) ?_
      refine st_i 22 .i64 (x' := y1_1 + (y1_0 - y1_1) / 2) (Go.IntWalk.i64_in _ (by omega)) (by kernel_rfl) ?_
      refine st_fm [0, 1, 2, 3] ent119 (cy (y1_1 + (y1_0 - y1_1) / 2) (by omega) (by omega)) (by kernel_rfl) (by kernel_rfl) (by kernel_rfl) ?_
      refine st_forget [0,1,2,3,4,6,7,8,9,10,11,12,27,28] (by kernel_rfl) ?_
      exact st_backG back1 ((y1_0, y1_1 + (y1_0 - y1_1) / 2)) (by first | omega | (simp only []; omega) | (simp; omega)) (by first | (refine i_eq ?_; omega) | omega | (simp only []; omega) | (simp; omega) | assumption | simp_all) (by kernel_rfl) (by kernel_rfl) (by kernel_rfl)
theorem cmost3 (N : Int) (hN : 0 ≤ N) (hN1 : N ≤ 100000000) (c : ∀ k : Int, 0 ≤ k → k ≤ 5000000000 → FnM 120 [.val (.int .i64 k), .ptr 0 0, .ptr 1 0] (bkF 2 :: bkX Y :: bkU s y m d y' m' d') (.bool (decide (k ≤ N)))) :
    FnM 118 [.clo 120 [.ptr 0 0, .ptr 1 0]] (bkF 2 :: bkX Y :: bkU s y m d y' m' d') (.int .i64 N) := by
  have hst := zall_any EU
  have cy : ∀ k : Int, 0 ≤ k → k ≤ N → FnM 120 [.val (.int .i64 k), .ptr 0 0, .ptr 1 0] (bkF 2 :: bkX Y :: bkU s y m d y' m' d') (.bool true) := fun k k0 k1 => by have := c k k0 (by omega); rwa [decide_eq_true k1] at this
  have cn : ∀ k : Int, N < k → k ≤ 5000000000 → FnM 120 [.val (.int .i64 k), .ptr 0 0, .ptr 1 0] (bkF 2 :: bkX Y :: bkU s y m d y' m' d') (.bool false) := fun k k0 k1 => by have := c k (by omega) k1; rwa [decide_eq_false (by omega)] at this
  refine fnM_of EU Tryz.func118 rfl (by kernel_rfl) fun ww => ?_
  refine st_forget [0,1,2,3,4,5,11,12,13,14,15,16,17,18,19,20,21,22,23,24,25,26,27,28] (by kernel_rfl) ?_
  refine st_loopG (X := Int) (fun x => ([SV.clo 120 [Cp.ptr 0 0,Cp.ptr 1 0],svZ,SV.val (vI64 0),.val (.int .i64 x),svZ,svZ,.any,.any,.any,.any,.any,svZ,svZ,svZ,svZ,svZ,svZ,svZ,svZ,svZ,svZ,svZ,svZ,svZ,svZ,svZ,svZ,svZ,svZ],[⟨[SV.clo 117 [Cp.ptr 2 0,Cp.ptr 3 0,Cp.ptr 4 0]],156⟩,⟨[SV.val (vI64 Y),SV.val (vI64 0),SV.val (vI64 0),SV.val (vI64 0),SV.val (vI64 0),SV.val (vI64 0),SV.val (vI64 0),SV.val (vI64 0)],43⟩,⟨[SV.val (vI64 y),SV.val (vI64 m),SV.val (vI64 d)],26⟩,⟨[SV.val (vI64 s)],2⟩,⟨[SV.val (vI64 y'),SV.val (vI64 m'),SV.val (vI64 d')],26⟩])) (fun n => 1 ≤ n ∧ n ≤ 2 * N + 2 ∧ n / 2 ≤ N) (fun n => (N + 1 - n).toNat) (1) (by kernel_rfl) (by kernel_rfl) hst (by first | omega | (simp; omega) | assumption | simp_all) (fun y0 px0 back0 => ?_)
  ((by_cases q0 : y0 ≤ N) <;> have td0 : y0.tdiv 2 = y0 / 2 := tdiv_nn (by omega))
  · have _hh := True.intro
    refine st_fm [0, 1, 2, 3, 4] ent120 (cy (y0) (by omega) (by assumption)) (by kernel_rfl) (by kernel_rfl) (by kernel_rfl) ?_
    refine st_i 10 .i64 (x' := y0 * 2) (Go.IntWalk.i64_in _ (by omega)) (by kernel_rfl) ?_
    refine st_forget [0,1,2,3,4,5,11,12,13,14,15,16,17,18,19,20,21,22,23,24,25,26,27,28] (by kernel_rfl) ?_
    exact st_backG back0 (y0 * 2) (by first | omega | (simp only []; omega) | (simp; omega)) (by first | (refine i_eq ?_; omega) | omega | (simp only []; omega) | (simp; omega) | assumption | simp_all) (by kernel_rfl) (by kernel_rfl) (by kernel_rfl)
  · have _hh := True.intro
    refine st_fm [0, 1, 2, 3, 4] ent120 (cn (y0) (by omega) (by omega)) (by kernel_rfl) (by kernel_rfl) (by kernel_rfl) ?_
    refine st_i 12 IntKind.i64 (x := IntKind.i64.wrap (y0.tdiv 2)) ((Go.IntWalk.i64_in (y0.tdiv 2) (by omega)).trans (td0)) (by kernel_rfl) ?_
    refine st_forget [0,1,2,3,4,6,7,8,9,10,11,12,28] (by kernel_rfl) ?_
    refine st_loopG (X := Int × Int) (fun x => ([SV.clo 120 [Cp.ptr 0 0,Cp.ptr 1 0],svZ,SV.val (vI64 0),.val (.int .i64 x.1),.val (.int .i64 x.2),.any,SV.clo 120 [Cp.ptr 0 0,Cp.ptr 1 0],SV.val (vI64 y0),svF,SV.any,SV.any,SV.val (vI64 y0),SV.val (vI64 (y0 / 2)),.any,.any,.any,.any,.any,.any,.any,.any,.any,.any,.any,.any,.any,.any,.any,svZ],[⟨[SV.clo 117 [Cp.ptr 2 0,Cp.ptr 3 0,Cp.ptr 4 0]],156⟩,⟨[SV.val (vI64 Y),SV.val (vI64 0),SV.val (vI64 0),SV.val (vI64 0),SV.val (vI64 0),SV.val (vI64 0),SV.val (vI64 0),SV.val (vI64 0)],43⟩,⟨[SV.val (vI64 y),SV.val (vI64 m),SV.val (vI64 d)],26⟩,⟨[SV.val (vI64 s)],2⟩,⟨[SV.val (vI64 y'),SV.val (vI64 m'),SV.val (vI64 d')],26⟩])) (fun n => 0 ≤ n.2 ∧ n.2 ≤ N ∧ N < n.1 ∧ n.1 ≤ 2 * N + 2) (fun n => (n.1 - n.2).toNat) ((y0,y0 / 2)) (by kernel_rfl) (by kernel_rfl) hst (by first | omega | (simp; omega) | assumption | simp_all) (fun x px1 back1 => ?_)
    rcases x with ⟨y1_0, y1_1⟩
    simp only at px1
    ((by_cases q1 : y1_0 - y1_1 > 1) <;> (by_cases q2 : y1_1 + (y1_0 - y1_1) / 2 ≤ N) <;> have td1 : (y1_0 - y1_1).tdiv 2 = (y1_0 - y1_1) / 2 := tdiv_nn (by omega))
    · have _hh := True.intro
      refine st_i 15 .i64 (x' := y1_0 - y1_1) (Go.IntWalk.i64_in _ (by omega)) (by kernel_rfl) ?_
      refine st_b 16 (show (decide (y1_0 - y1_1 > 1)) = true by exact decide_eq_true (by omega)) (by kernel_rfl) ?_
      refine st_i 20 .i64 (x' := y1_0 - y1_1) (Go.IntWalk.i64_in _ (by omega)) (by kernel_rfl) ?_
      refine st_i 21 IntKind.i64 (x := IntKind.i64.wrap ((y1_0 - y1_1).tdiv 2)) ((Go.IntWalk.i64_in ((y1_0 - y1_1).tdiv 2) (by omega)).trans (td1)) (by kernel_rfl) ?_
      refine st_i 22 .i64 (x' := y1_1 + (y1_0 - y1_1) / 2) (Go.IntWalk.i64_in _ (by omega)) (by kernel_rfl) ?_
      refine st_fm [0, 1, 2, 3, 4] ent120 (cy (y1_1 + (y1_0 - y1_1) / 2) (by omega) (by assumption)) (by kernel_rfl) (by kernel_rfl) (by kernel_rfl) ?_
      refine st_forget [0,1,2,3,4,6,7,8,9,10,11,12,27,28] (by kernel_rfl) ?_
      exact st_backG back1 ((y1_0, y1_1 + (y1_0 - y1_1) / 2)) (by first | omega | (simp only []; omega) | (simp; omega)) (by first | (refine i_eq ?_; omega) | omega | (simp only []; omega) | (simp; omega) | assumption | simp_all) (by kernel_rfl) (by kernel_rfl) (by kernel_rfl)
    · have _hh := True.intro
      refine st_i 15 .i64 (x' := y1_0 - y1_1) (Go.IntWalk.i64_in _ (by omega)) (by kernel_rfl) ?_
      refine st_b 16 (show (decide (y1_0 - y1_1 > 1)) = true by exact decide_eq_true (by omega)) (by kernel_rfl) ?_
      refine st_i 20 .i64 (x' := y1_0 - y1_1) (Go.IntWalk.i64_in _ (by omega)) (by kernel_rfl) ?_
      refine st_i 21 IntKind.i64 (x := IntKind.i64.wrap ((y1_0 - y1_1).tdiv 2)) ((Go.IntWalk.i64_in ((y1_0 - y1_1).tdiv 2) (by omega)).trans (td1)) (by kernel_rfl) ?_
      refine st_i 22 .i64 (x' := y1_1 + (y1_0 - y1_1) / 2) (Go.IntWalk.i64_in _ (by omega)) (by kernel_rfl) ?_
      refine st_fm [0, 1, 2, 3, 4] ent120 (cn (y1_1 + (y1_0 - y1_1) / 2) (by omega) (by omega)) (by kernel_rfl) (by kernel_rfl) (by kernel_rfl) ?_
      refine st_forget [0,1,2,3,4,6,7,8,9,10,11,12,26,28] (by kernel_rfl) ?_
      exact st_backG back1 ((y1_1 + (y1_0 - y1_1) / 2, y1_1)) (by first | omega | (simp only []; omega) | (simp; omega)) (by first | (refine i_eq ?_; omega) | omega | (simp only []; omega) | (simp; omega) | assumption | simp_all) (by kernel_rfl) (by kernel_rfl) (by kernel_rfl)
    · have _hh := True.intro
      refine st_i 15 .i64 (x' := y1_0 - y1_1) (Go.IntWalk.i64_in _ (by omega)) (by kernel_rfl) ?_
      refine st_b 16 (show (decide (y1_0 - y1_1 > 1)) = false by exact decide_eq_false (by omega)) (by kernel_rfl) ?_
      exact st_retv Tryz.func118 (show vI64 y1_1 = _ by (refine i_eq ?_; omega)) (by kernel_rfl)
    · have _hh := True.intro
      refine st_i 15 .i64 (x' := y1_0 - y1_1) (Go.IntWalk.i64_in _ (by omega)) (by kernel_rfl) ?_
      refine st_b 16 (show (decide (y1_0 - y1_1 > 1)) = true by exact decide_eq_true (by omega)) (by kernel_rfl) ?_
      refine st_i 20 .i64 (x' := y1_0 - y1_1) (Go.IntWalk.i64_in _ (by omega)) (by kernel_rfl) ?_
      refine st_i 21 IntKind.i64 (x := IntKind.i64.wrap ((y1_0 - y1_1).tdiv 2)) ((Go.IntWalk.i64_in ((y1_0 - y1_1).tdiv 2) (by omega)).trans (td1)) (by kernel_rfl) ?_
      refine st_i 22 .i64 (x' := y1_1 + (y1_0 - y1_1) / 2) (Go.IntWalk.i64_in _ (by omega)) (by kernel_rfl) ?_
      refine st_fm [0, 1, 2, 3, 4] ent120 (cy (y1_1 + (y1_0 - y1_1) / 2) (by omega) (by omega)) (by kernel_rfl) (by kernel_rfl) (by kernel_rfl) ?_
      refine st_forget [0,1,2,3,4,6,7,8,9,10,11,12,27,28] (by kernel_rfl) ?_
      exact st_backG back1 ((y1_0, y1_1 + (y1_0 - y1_1) / 2)) (by first | omega | (simp only []; omega) | (simp; omega)) (by first | (refine i_eq ?_; omega) | omega | (simp only []; omega) | (simp; omega) | assumption | simp_all) (by kernel_rfl) (by kernel_rfl) (by kernel_rfl)
end
end Go.Proofs.YtccllfegnijpiaaGreat
end
section
/-
  More contracts of the first layers, as the reckoner wants them.
-/
set_option linter.unusedVariables false
namespace Go.Proofs.YtccllfegnijpiaaGreat
open Go Go.RowKit Go.Ev

theorem wmul_f (m n : Int) (hm : I64 m) (hn : I64 n) : Fn 22 [] [.int .i64 m, .int .i64 n] (wv (m * n)) := fn1 fun w => wmul m n w hm hn
theorem dby_f (a n : Int) (ha : W128 a) (hn : 0 < n) (hI : I64 n) : Fn 78 [] [wv a, .int .i64 n] (.tuple #[wv (a.fdiv n), .int .i64 (a.fmod n), .int .i64 0]) := fn1 fun w => dby a n w ha hn hI
theorem wint_f (n : Int) (h : I64 n) : Fn 47 [] [wv n] (.tuple #[.int .i64 n, .bool true]) := fn1 fun w => (wint n w).mono fun e w' q => ⟨by rw [q.1, show t64 n = n from if_pos h, decide_eq_true h], q.2⟩
theorem wint_n (n : Int) (h : ¬ I64 n) : Fn 47 [] [wv n] (.tuple #[.int .i64 0, .bool false]) := fn1 fun w => (wint n w).mono fun e w' q => ⟨by rw [q.1, show t64 n = 0 from if_neg h, decide_eq_false h], q.2⟩
theorem fits_f (p : ZQ) (x : Int) (hb : Bits 1000 x) (h : I64 x) : Fn 54 [(p, x)] [zv p] (.tuple #[.int .i64 x, .bool true]) := fun w k => (fits_any _ _ _ _ x w (one_z k) hb).mono fun e w' q => ⟨by rw [q.1, show t64 x = x from if_pos h, decide_eq_true h], q.2⟩
theorem fits_n (p : ZQ) (x : Int) (hb : Bits 1000 x) (h : ¬ I64 x) : Fn 54 [(p, x)] [zv p] (.tuple #[.int .i64 0, .bool false]) := fun w k => (fits_any _ _ _ _ x w (one_z k) hb).mono fun e w' q => ⟨by rw [q.1, show t64 x = 0 from if_neg h, decide_eq_false h], q.2⟩
end Go.Proofs.YtccllfegnijpiaaGreat
end
section
/-
  Durations: fields, signs, totals, as the program reckons them.
-/
set_option linter.unusedVariables false
set_option maxRecDepth 100000
namespace Go.Proofs.YtccllfegnijpiaaGreat
open Go Go.RowKit Go.Ev

abbrev duv (a b c d h mi s n : Int) : Value := .agg #[.int .i64 a, .int .i64 b, .int .i64 c, .int .i64 d, .int .i64 h, .int .i64 mi, .int .i64 s, .int .i64 n]
abbrev du0 : Value := duv 0 0 0 0 0 0 0 0
abbrev pA (b o : Nat) : Value := .pointer (some ⟨b, o, none⟩)
def fvs (b o : Nat) : List Value := [.pointer none, pA b (o + 0), pA b (o + 1), pA b (o + 2), pA b (o + 3), pA b (o + 4), pA b (o + 5), pA b (o + 6), pA b (o + 7)]
theorem ufields (b o : Nat) : FnB 100 [pA b o] (fvs b o) 139 9 := by
  refine fnB_of Tryz.func100 rfl fun ww => ?_
  exact st_retB Tryz.func100 (by kernel_rfl)
section
variable {f0 : FuncId} {E : List TypeId} {w0 : World} {R : Ending → World → Prop} {L : ZL} {c : Cf}
theorem ufields_row (b o : Nat) (hc : callAt (adv Tryz.prog E 9999 400 c) = some (100, [.ptr b o]))
    (hk : Ru ⟨Tryz.prog, f0, E, w0, R⟩ (ZAll L) (resumeB (adv Tryz.prog E 9999 400 c) ⟨[.val (.pointer none), .ptr b (o + 0), .ptr b (o + 1), .ptr b (o + 2), .ptr b (o + 3), .ptr b (o + 4), .ptr b (o + 5), .ptr b (o + 6), .ptr b (o + 7)], 139⟩ 9)) : Ru ⟨Tryz.prog, f0, E, w0, R⟩ (ZAll L) c :=
  st_rowP [.val (.pointer none), .ptr b (o + 0), .ptr b (o + 1), .ptr b (o + 2), .ptr b (o + 3), .ptr b (o + 4), .ptr b (o + 5), .ptr b (o + 6), .ptr b (o + 7)] ent100 ufields (fun r N hN => cellsOk_cons ⟨rfl, trivial⟩ (cellsOk_cons ⟨rfl, hN⟩ (cellsOk_cons ⟨rfl, hN⟩ (cellsOk_cons ⟨rfl, hN⟩ (cellsOk_cons ⟨rfl, hN⟩ (cellsOk_cons ⟨rfl, hN⟩ (cellsOk_cons ⟨rfl, hN⟩ (cellsOk_cons ⟨rfl, hN⟩ (cellsOk_cons ⟨rfl, hN⟩ cellsOk_nil))))))))) hc hk
end
theorem ulen4 : Fn 96 [] [.int .i64 4] (.int .i64 86400000000000) := by
  refine fn_of Tryz.func96 rfl fun ww => ?_
  refine st_i 11 .i64 (x' := 4 - 4) (Go.IntWalk.i64_in _ (by omega)) (by kernel_rfl) ?_
  exact st_ret Tryz.func96 (by kernel_rfl)
theorem ulen5 : Fn 96 [] [.int .i64 5] (.int .i64 3600000000000) := by
  refine fn_of Tryz.func96 rfl fun ww => ?_
  refine st_i 11 .i64 (x' := 5 - 4) (Go.IntWalk.i64_in _ (by omega)) (by kernel_rfl) ?_
  exact st_ret Tryz.func96 (by kernel_rfl)
theorem ulen6 : Fn 96 [] [.int .i64 6] (.int .i64 60000000000) := by
  refine fn_of Tryz.func96 rfl fun ww => ?_
  refine st_i 11 .i64 (x' := 6 - 4) (Go.IntWalk.i64_in _ (by omega)) (by kernel_rfl) ?_
  exact st_ret Tryz.func96 (by kernel_rfl)
theorem ulen7 : Fn 96 [] [.int .i64 7] (.int .i64 1000000000) := by
  refine fn_of Tryz.func96 rfl fun ww => ?_
  refine st_i 11 .i64 (x' := 7 - 4) (Go.IntWalk.i64_in _ (by omega)) (by kernel_rfl) ?_
  exact st_ret Tryz.func96 (by kernel_rfl)
theorem ulen8 : Fn 96 [] [.int .i64 8] (.int .i64 1) := by
  refine fn_of Tryz.func96 rfl fun ww => ?_
  refine st_i 11 .i64 (x' := 8 - 4) (Go.IntWalk.i64_in _ (by omega)) (by kernel_rfl) ?_
  exact st_ret Tryz.func96 (by kernel_rfl)
theorem units {u : Int} (h : 4 ≤ u) (k : u ≤ 8) : u = 4 ∨ u = 5 ∨ u = 6 ∨ u = 7 ∨ u = 8 := by omega
theorem ulimit : Fn 103 [] [] (wv 9007199254740992000000000) := by
  have i1 : I64 9007199254740992 := by unfold I64; omega
  have i2 : I64 1000000000 := by unfold I64; omega
  refine fn_of Tryz.func103 rfl fun ww => ?_
  refine st_fn ent22 (wmul_f (9007199254740992) (1000000000) (by assumption) (by assumption)) sub0 (by kernel_rfl) ?_
  exact st_retv Tryz.func103 (show Value.agg #[vI64 (hi (9007199254740992 * 1000000000)), Value.int IntKind.u64 (lo (9007199254740992 * 1000000000))] = _ by rfl) (by kernel_rfl)
section
variable (a b c d h mi s n : Int)
theorem utot (i1 : I64 d) (i2 : I64 h) (i3 : I64 mi) (i4 : I64 s) (i5 : I64 n) : Fn 102 [] [duv a b c d h mi s n] (wv (dtot d h mi s n)) := by
  have j1 : I64 86400000000000 := by unfold I64; omega
  have j2 : I64 3600000000000 := by unfold I64; omega
  have j3 : I64 60000000000 := by unfold I64; omega
  have j4 : I64 1000000000 := by unfold I64; omega
  have j5 : I64 1 := by unfold I64; omega
  have k1 := i1; have k2 := i2; have k3 := i3; have k4 := i4; have k5 := i5
  unfold I64 at k1 k2 k3 k4 k5
  refine fn_of Tryz.func102 rfl fun ww => ?_
  refine ufields_row 0 0 (by kernel_rfl) ?_
  refine st_round (by kernel_rfl) ?_
  refine st_fn ent96 (ulen4) sub0 (by kernel_rfl) ?_
  refine st_fn ent22 (wmul_f (d) (86400000000000) (by assumption) (by assumption)) sub0 (by kernel_rfl) ?_
  refine st_app0w (b2 := 3) (v1 := vI64 (hi (d * 86400000000000))) (v2 := Value.int IntKind.u64 (lo (d * 86400000000000))) (by kernel_rfl) (by kernel_rfl) rfl rfl (fun m3 rest3 hm3 hr3 => ?_)
  refine st_i 12 .i64 (x' := 4 + 1) (Go.IntWalk.i64_in _ (by omega)) (by kernel_rfl) ?_
  refine st_round (by kernel_rfl) ?_
  refine st_fn ent96 (ulen5) sub0 (by kernel_rfl) ?_
  refine st_fn ent22 (wmul_f (h) (3600000000000) (by assumption) (by assumption)) sub0 (by kernel_rfl) ?_
  refine st_appw (b := 4) (b2 := 5) (n := 1) (m := m3) (vs := [vI64 (hi (d * 86400000000000)), Value.int IntKind.u64 (lo (d * 86400000000000))]) (rest := rest3) (v1 := vI64 (hi (h * 3600000000000))) (v2 := Value.int IntKind.u64 (lo (h * 3600000000000))) (by kernel_rfl) (by kernel_rfl) (by kernel_rfl) rfl rfl rfl hr3 hm3 (by omega) (by kernel_rfl) (by kernel_rfl) (fun hm6 rest6 hr6 => ?_) (fun m6 rest6 hm6 hr6 => ?_)
  · have _hh := True.intro
    refine st_i 12 .i64 (x' := 4 + 1 + 1) (Go.IntWalk.i64_in _ (by omega)) (by kernel_rfl) ?_
    refine st_round (by kernel_rfl) ?_
    refine st_fn ent96 (ulen6) sub0 (by kernel_rfl) ?_
    refine st_fn ent22 (wmul_f (mi) (60000000000) (by assumption) (by assumption)) sub0 (by kernel_rfl) ?_
    refine st_appw (b := 4) (b2 := 6) (n := 2) (m := m3) (vs := [vI64 (hi (d * 86400000000000)), Value.int IntKind.u64 (lo (d * 86400000000000)), vI64 (hi (h * 3600000000000)), Value.int IntKind.u64 (lo (h * 3600000000000))]) (rest := rest6) (v1 := vI64 (hi (mi * 60000000000))) (v2 := Value.int IntKind.u64 (lo (mi * 60000000000))) (by kernel_rfl) (by kernel_rfl) (by kernel_rfl) rfl rfl rfl hr6 hm6 (by omega) (by kernel_rfl) (by kernel_rfl) (fun hm9 rest9 hr9 => ?_) (fun m9 rest9 hm9 hr9 => ?_)
    · have _hh := True.intro
      refine st_i 12 .i64 (x' := 4 + 1 + 1 + 1) (Go.IntWalk.i64_in _ (by omega)) (by kernel_rfl) ?_
      refine st_round (by kernel_rfl) ?_
      refine st_fn ent96 (ulen7) sub0 (by kernel_rfl) ?_
      refine st_fn ent22 (wmul_f (s) (1000000000) (by assumption) (by assumption)) sub0 (by kernel_rfl) ?_
      refine st_appw (b := 4) (b2 := 7) (n := 3) (m := m3) (vs := [vI64 (hi (d * 86400000000000)), Value.int IntKind.u64 (lo (d * 86400000000000)), vI64 (hi (h * 3600000000000)), Value.int IntKind.u64 (lo (h * 3600000000000)), vI64 (hi (mi * 60000000000)), Value.int IntKind.u64 (lo (mi * 60000000000))]) (rest := rest9) (v1 := vI64 (hi (s * 1000000000))) (v2 := Value.int IntKind.u64 (lo (s * 1000000000))) (by kernel_rfl) (by kernel_rfl) (by kernel_rfl) rfl rfl rfl hr9 hm9 (by omega) (by kernel_rfl) (by kernel_rfl) (fun hm12 rest12 hr12 => ?_) (fun m12 rest12 hm12 hr12 => ?_)
      · have _hh := True.intro
        refine st_i 12 .i64 (x' := 4 + 1 + 1 + 1 + 1) (Go.IntWalk.i64_in _ (by omega)) (by kernel_rfl) ?_
        refine st_round (by kernel_rfl) ?_
        refine st_fn ent96 (ulen8) sub0 (by kernel_rfl) ?_
        refine st_fn ent22 (wmul_f (n) (1) (by assumption) (by assumption)) sub0 (by kernel_rfl) ?_
        refine st_appw (b := 4) (b2 := 8) (n := 4) (m := m3) (vs := [vI64 (hi (d * 86400000000000)), Value.int IntKind.u64 (lo (d * 86400000000000)), vI64 (hi (h * 3600000000000)), Value.int IntKind.u64 (lo (h * 3600000000000)), vI64 (hi (mi * 60000000000)), Value.int IntKind.u64 (lo (mi * 60000000000)), vI64 (hi (s * 1000000000)), Value.int IntKind.u64 (lo (s * 1000000000))]) (rest := rest12) (v1 := vI64 (hi (n * 1))) (v2 := Value.int IntKind.u64 (lo (n * 1))) (by kernel_rfl) (by kernel_rfl) (by kernel_rfl) rfl rfl rfl hr12 hm12 (by omega) (by kernel_rfl) (by kernel_rfl) (fun hm15 rest15 hr15 => ?_) (fun m15 rest15 hm15 hr15 => ?_)
        · have _hh := True.intro
          refine st_i 12 .i64 (x' := 4 + 1 + 1 + 1 + 1 + 1) (Go.IntWalk.i64_in _ (by omega)) (by kernel_rfl) ?_
          refine st_round (by kernel_rfl) ?_
          refine st_sum5 (b := 4) (m := m3) (n1 := (d * 86400000000000)) (n2 := (h * 3600000000000)) (n3 := (mi * 60000000000)) (n4 := (s * 1000000000)) (n5 := (n * 1)) (rest := rest15) ((d * 86400000000000) + (h * 3600000000000) + (mi * 60000000000) + (s * 1000000000) + (n * 1)) rfl (by first | assumption | (unfold W128; omega)) (by first | assumption | (unfold W128; omega)) (by first | assumption | (unfold W128; omega)) (by first | assumption | (unfold W128; omega)) (by first | assumption | (unfold W128; omega)) (by first | assumption | (unfold W128; omega)) (by kernel_rfl) (by kernel_rfl) ?_
          exact st_retv Tryz.func102 (show Value.agg #[vI64 (hi (d * 86400000000000 + h * 3600000000000 + mi * 60000000000 + s * 1000000000 + n * 1)), Value.int IntKind.u64 (lo (d * 86400000000000 + h * 3600000000000 + mi * 60000000000 + s * 1000000000 + n * 1))] = _ by (unfold dtot; rw [Int.mul_one])) (by kernel_rfl)
        · have _hh := True.intro
          refine st_i 12 .i64 (x' := 4 + 1 + 1 + 1 + 1 + 1) (Go.IntWalk.i64_in _ (by omega)) (by kernel_rfl) ?_
          refine st_round (by kernel_rfl) ?_
          refine st_sum5 (b := 9) (m := m15) (n1 := (d * 86400000000000)) (n2 := (h * 3600000000000)) (n3 := (mi * 60000000000)) (n4 := (s * 1000000000)) (n5 := (n * 1)) (rest := rest15) ((d * 86400000000000) + (h * 3600000000000) + (mi * 60000000000) + (s * 1000000000) + (n * 1)) rfl (by first | assumption | (unfold W128; omega)) (by first | assumption | (unfold W128; omega)) (by first | assumption | (unfold W128; omega)) (by first | assumption | (unfold W128; omega)) (by first | assumption | (unfold W128; omega)) (by first | assumption | (unfold W128; omega)) (by kernel_rfl) (by kernel_rfl) ?_
          exact st_retv Tryz.func102 (show Value.agg #[vI64 (hi (d * 86400000000000 + h * 3600000000000 + mi * 60000000000 + s * 1000000000 + n * 1)), Value.int IntKind.u64 (lo (d * 86400000000000 + h * 3600000000000 + mi * 60000000000 + s * 1000000000 + n * 1))] = _ by (unfold dtot; rw [Int.mul_one])) (by kernel_rfl)
      · have _hh := True.intro
        refine st_i 12 .i64 (x' := 4 + 1 + 1 + 1 + 1) (Go.IntWalk.i64_in _ (by omega)) (by kernel_rfl) ?_
        refine st_round (by kernel_rfl) ?_
        refine st_fn ent96 (ulen8) sub0 (by kernel_rfl) ?_
        refine st_fn ent22 (wmul_f (n) (1) (by assumption) (by assumption)) sub0 (by kernel_rfl) ?_
        refine st_appw (b := 8) (b2 := 9) (n := 4) (m := m12) (vs := [vI64 (hi (d * 86400000000000)), Value.int IntKind.u64 (lo (d * 86400000000000)), vI64 (hi (h * 3600000000000)), Value.int IntKind.u64 (lo (h * 3600000000000)), vI64 (hi (mi * 60000000000)), Value.int IntKind.u64 (lo (mi * 60000000000)), vI64 (hi (s * 1000000000)), Value.int IntKind.u64 (lo (s * 1000000000))]) (rest := rest12) (v1 := vI64 (hi (n * 1))) (v2 := Value.int IntKind.u64 (lo (n * 1))) (by kernel_rfl) (by kernel_rfl) (by kernel_rfl) rfl rfl rfl hr12 hm12 (by omega) (by kernel_rfl) (by kernel_rfl) (fun hm15 rest15 hr15 => ?_) (fun m15 rest15 hm15 hr15 => ?_)
        · have _hh := True.intro
          refine st_i 12 .i64 (x' := 4 + 1 + 1 + 1 + 1 + 1) (Go.IntWalk.i64_in _ (by omega)) (by kernel_rfl) ?_
          refine st_round (by kernel_rfl) ?_
          refine st_sum5 (b := 8) (m := m12) (n1 := (d * 86400000000000)) (n2 := (h * 3600000000000)) (n3 := (mi * 60000000000)) (n4 := (s * 1000000000)) (n5 := (n * 1)) (rest := rest15) ((d * 86400000000000) + (h * 3600000000000) + (mi * 60000000000) + (s * 1000000000) + (n * 1)) rfl (by first | assumption | (unfold W128; omega)) (by first | assumption | (unfold W128; omega)) (by first | assumption | (unfold W128; omega)) (by first | assumption | (unfold W128; omega)) (by first | assumption | (unfold W128; omega)) (by first | assumption | (unfold W128; omega)) (by kernel_rfl) (by kernel_rfl) ?_
          exact st_retv Tryz.func102 (show Value.agg #[vI64 (hi (d * 86400000000000 + h * 3600000000000 + mi * 60000000000 + s * 1000000000 + n * 1)), Value.int IntKind.u64 (lo (d * 86400000000000 + h * 3600000000000 + mi * 60000000000 + s * 1000000000 + n * 1))] = _ by (unfold dtot; rw [Int.mul_one])) (by kernel_rfl)
        · have _hh := True.intro
          refine st_i 12 .i64 (x' := 4 + 1 + 1 + 1 + 1 + 1) (Go.IntWalk.i64_in _ (by omega)) (by kernel_rfl) ?_
          refine st_round (by kernel_rfl) ?_
          refine st_sum5 (b := 10) (m := m15) (n1 := (d * 86400000000000)) (n2 := (h * 3600000000000)) (n3 := (mi * 60000000000)) (n4 := (s * 1000000000)) (n5 := (n * 1)) (rest := rest15) ((d * 86400000000000) + (h * 3600000000000) + (mi * 60000000000) + (s * 1000000000) + (n * 1)) rfl (by first | assumption | (unfold W128; omega)) (by first | assumption | (unfold W128; omega)) (by first | assumption | (unfold W128; omega)) (by first | assumption | (unfold W128; omega)) (by first | assumption | (unfold W128; omega)) (by first | assumption | (unfold W128; omega)) (by kernel_rfl) (by kernel_rfl) ?_
          exact st_retv Tryz.func102 (show Value.agg #[vI64 (hi (d * 86400000000000 + h * 3600000000000 + mi * 60000000000 + s * 1000000000 + n * 1)), Value.int IntKind.u64 (lo (d * 86400000000000 + h * 3600000000000 + mi * 60000000000 + s * 1000000000 + n * 1))] = _ by (unfold dtot; rw [Int.mul_one])) (by kernel_rfl)
    · have _hh := True.intro
      refine st_i 12 .i64 (x' := 4 + 1 + 1 + 1) (Go.IntWalk.i64_in _ (by omega)) (by kernel_rfl) ?_
      refine st_round (by kernel_rfl) ?_
      refine st_fn ent96 (ulen7) sub0 (by kernel_rfl) ?_
      refine st_fn ent22 (wmul_f (s) (1000000000) (by assumption) (by assumption)) sub0 (by kernel_rfl) ?_
      refine st_appw (b := 7) (b2 := 8) (n := 3) (m := m9) (vs := [vI64 (hi (d * 86400000000000)), Value.int IntKind.u64 (lo (d * 86400000000000)), vI64 (hi (h * 3600000000000)), Value.int IntKind.u64 (lo (h * 3600000000000)), vI64 (hi (mi * 60000000000)), Value.int IntKind.u64 (lo (mi * 60000000000))]) (rest := rest9) (v1 := vI64 (hi (s * 1000000000))) (v2 := Value.int IntKind.u64 (lo (s * 1000000000))) (by kernel_rfl) (by kernel_rfl) (by kernel_rfl) rfl rfl rfl hr9 hm9 (by omega) (by kernel_rfl) (by kernel_rfl) (fun hm12 rest12 hr12 => ?_) (fun m12 rest12 hm12 hr12 => ?_)
      · have _hh := True.intro
        refine st_i 12 .i64 (x' := 4 + 1 + 1 + 1 + 1) (Go.IntWalk.i64_in _ (by omega)) (by kernel_rfl) ?_
        refine st_round (by kernel_rfl) ?_
        refine st_fn ent96 (ulen8) sub0 (by kernel_rfl) ?_
        refine st_fn ent22 (wmul_f (n) (1) (by assumption) (by assumption)) sub0 (by kernel_rfl) ?_
        refine st_appw (b := 7) (b2 := 9) (n := 4) (m := m9) (vs := [vI64 (hi (d * 86400000000000)), Value.int IntKind.u64 (lo (d * 86400000000000)), vI64 (hi (h * 3600000000000)), Value.int IntKind.u64 (lo (h * 3600000000000)), vI64 (hi (mi * 60000000000)), Value.int IntKind.u64 (lo (mi * 60000000000)), vI64 (hi (s * 1000000000)), Value.int IntKind.u64 (lo (s * 1000000000))]) (rest := rest12) (v1 := vI64 (hi (n * 1))) (v2 := Value.int IntKind.u64 (lo (n * 1))) (by kernel_rfl) (by kernel_rfl) (by kernel_rfl) rfl rfl rfl hr12 hm12 (by omega) (by kernel_rfl) (by kernel_rfl) (fun hm15 rest15 hr15 => ?_) (fun m15 rest15 hm15 hr15 => ?_)
        · have _hh := True.intro
          refine st_i 12 .i64 (x' := 4 + 1 + 1 + 1 + 1 + 1) (Go.IntWalk.i64_in _ (by omega)) (by kernel_rfl) ?_
          refine st_round (by kernel_rfl) ?_
          refine st_sum5 (b := 7) (m := m9) (n1 := (d * 86400000000000)) (n2 := (h * 3600000000000)) (n3 := (mi * 60000000000)) (n4 := (s * 1000000000)) (n5 := (n * 1)) (rest := rest15) ((d * 86400000000000) + (h * 3600000000000) + (mi * 60000000000) + (s * 1000000000) + (n * 1)) rfl (by first | assumption | (unfold W128; omega)) (by first | assumption | (unfold W128; omega)) (by first | assumption | (unfold W128; omega)) (by first | assumption | (unfold W128; omega)) (by first | assumption | (unfold W128; omega)) (by first | assumption | (unfold W128; omega)) (by kernel_rfl) (by kernel_rfl) ?_
          exact st_retv Tryz.func102 (show Value.agg #[vI64 (hi (d * 86400000000000 + h * 3600000000000 + mi * 60000000000 + s * 1000000000 + n * 1)), Value.int IntKind.u64 (lo (d * 86400000000000 + h * 3600000000000 + mi * 60000000000 + s * 1000000000 + n * 1))] = _ by (unfold dtot; rw [Int.mul_one])) (by kernel_rfl)
        · have _hh := True.intro
          refine st_i 12 .i64 (x' := 4 + 1 + 1 + 1 + 1 + 1) (Go.IntWalk.i64_in _ (by omega)) (by kernel_rfl) ?_
          refine st_round (by kernel_rfl) ?_
          refine st_sum5 (b := 10) (m := m15) (n1 := (d * 86400000000000)) (n2 := (h * 3600000000000)) (n3 := (mi * 60000000000)) (n4 := (s * 1000000000)) (n5 := (n * 1)) (rest := rest15) ((d * 86400000000000) + (h * 3600000000000) + (mi * 60000000000) + (s * 1000000000) + (n * 1)) rfl (by first | assumption | (unfold W128; omega)) (by first | assumption | (unfold W128; omega)) (by first | assumption | (unfold W128; omega)) (by first | assumption | (unfold W128; omega)) (by first | assumption | (unfold W128; omega)) (by first | assumption | (unfold W128; omega)) (by kernel_rfl) (by kernel_rfl) ?_
          exact st_retv Tryz.func102 (show Value.agg #[vI64 (hi (d * 86400000000000 + h * 3600000000000 + mi * 60000000000 + s * 1000000000 + n * 1)), Value.int IntKind.u64 (lo (d * 86400000000000 + h * 3600000000000 + mi * 60000000000 + s * 1000000000 + n * 1))] = _ by (unfold dtot; rw [Int.mul_one])) (by kernel_rfl)
      · have _hh := True.intro
        refine st_i 12 .i64 (x' := 4 + 1 + 1 + 1 + 1) (Go.IntWalk.i64_in _ (by omega)) (by kernel_rfl) ?_
        refine st_round (by kernel_rfl) ?_
        refine st_fn ent96 (ulen8) sub0 (by kernel_rfl) ?_
        refine st_fn ent22 (wmul_f (n) (1) (by assumption) (by assumption)) sub0 (by kernel_rfl) ?_
        refine st_appw (b := 9) (b2 := 10) (n := 4) (m := m12) (vs := [vI64 (hi (d * 86400000000000)), Value.int IntKind.u64 (lo (d * 86400000000000)), vI64 (hi (h * 3600000000000)), Value.int IntKind.u64 (lo (h * 3600000000000)), vI64 (hi (mi * 60000000000)), Value.int IntKind.u64 (lo (mi * 60000000000)), vI64 (hi (s * 1000000000)), Value.int IntKind.u64 (lo (s * 1000000000))]) (rest := rest12) (v1 := vI64 (hi (n * 1))) (v2 := Value.int IntKind.u64 (lo (n * 1))) (by kernel_rfl) (by kernel_rfl) (by kernel_rfl) rfl rfl rfl hr12 hm12 (by omega) (by kernel_rfl) (by kernel_rfl) (fun hm15 rest15 hr15 => ?_) (fun m15 rest15 hm15 hr15 => ?_)
        · have _hh := True.intro
          refine st_i 12 .i64 (x' := 4 + 1 + 1 + 1 + 1 + 1) (Go.IntWalk.i64_in _ (by omega)) (by kernel_rfl) ?_
          refine st_round (by kernel_rfl) ?_
          refine st_sum5 (b := 9) (m := m12) (n1 := (d * 86400000000000)) (n2 := (h * 3600000000000)) (n3 := (mi * 60000000000)) (n4 := (s * 1000000000)) (n5 := (n * 1)) (rest := rest15) ((d * 86400000000000) + (h * 3600000000000) + (mi * 60000000000) + (s * 1000000000) + (n * 1)) rfl (by first | assumption | (unfold W128; omega)) (by first | assumption | (unfold W128; omega)) (by first | assumption | (unfold W128; omega)) (by first | assumption | (unfold W128; omega)) (by first | assumption | (unfold W128; omega)) (by first | assumption | (unfold W128; omega)) (by kernel_rfl) (by kernel_rfl) ?_
          exact st_retv Tryz.func102 (show Value.agg #[vI64 (hi (d * 86400000000000 + h * 3600000000000 + mi * 60000000000 + s * 1000000000 + n * 1)), Value.int IntKind.u64 (lo (d * 86400000000000 + h * 3600000000000 + mi * 60000000000 + s * 1000000000 + n * 1))] = _ by (unfold dtot; rw [Int.mul_one])) (by kernel_rfl)
        · have _hh := True.intro
          refine st_i 12 .i64 (x' := 4 + 1 + 1 + 1 + 1 + 1) (Go.IntWalk.i64_in _ (by omega)) (by kernel_rfl) ?_
          refine st_round (by kernel_rfl) ?_
          refine st_sum5 (b := 11) (m := m15) (n1 := (d * 86400000000000)) (n2 := (h * 3600000000000)) (n3 := (mi * 60000000000)) (n4 := (s * 1000000000)) (n5 := (n * 1)) (rest := rest15) ((d * 86400000000000) + (h * 3600000000000) + (mi * 60000000000) + (s * 1000000000) + (n * 1)) rfl (by first | assumption | (unfold W128; omega)) (by first | assumption | (unfold W128; omega)) (by first | assumption | (unfold W128; omega)) (by first | assumption | (unfold W128; omega)) (by first | assumption | (unfold W128; omega)) (by first | assumption | (unfold W128; omega)) (by kernel_rfl) (by kernel_rfl) ?_
          exact st_retv Tryz.func102 (show Value.agg #[vI64 (hi (d * 86400000000000 + h * 3600000000000 + mi * 60000000000 + s * 1000000000 + n * 1)), Value.int IntKind.u64 (lo (d * 86400000000000 + h * 3600000000000 + mi * 60000000000 + s * 1000000000 + n * 1))] = _ by (unfold dtot; rw [Int.mul_one])) (by kernel_rfl)
  · have _hh := True.intro
    refine st_i 12 .i64 (x' := 4 + 1 + 1) (Go.IntWalk.i64_in _ (by omega)) (by kernel_rfl) ?_
    refine st_round (by kernel_rfl) ?_
    refine st_fn ent96 (ulen6) sub0 (by kernel_rfl) ?_
    refine st_fn ent22 (wmul_f (mi) (60000000000) (by assumption) (by assumption)) sub0 (by kernel_rfl) ?_
    refine st_appw (b := 6) (b2 := 7) (n := 2) (m := m6) (vs := [vI64 (hi (d * 86400000000000)), Value.int IntKind.u64 (lo (d * 86400000000000)), vI64 (hi (h * 3600000000000)), Value.int IntKind.u64 (lo (h * 3600000000000))]) (rest := rest6) (v1 := vI64 (hi (mi * 60000000000))) (v2 := Value.int IntKind.u64 (lo (mi * 60000000000))) (by kernel_rfl) (by kernel_rfl) (by kernel_rfl) rfl rfl rfl hr6 hm6 (by omega) (by kernel_rfl) (by kernel_rfl) (fun hm9 rest9 hr9 => ?_) (fun m9 rest9 hm9 hr9 => ?_)
    · have _hh := True.intro
      refine st_i 12 .i64 (x' := 4 + 1 + 1 + 1) (Go.IntWalk.i64_in _ (by omega)) (by kernel_rfl) ?_
      refine st_round (by kernel_rfl) ?_
      refine st_fn ent96 (ulen7) sub0 (by kernel_rfl) ?_
      refine st_fn ent22 (wmul_f (s) (1000000000) (by assumption) (by assumption)) sub0 (by kernel_rfl) ?_
      refine st_appw (b := 6) (b2 := 8) (n := 3) (m := m6) (vs := [vI64 (hi (d * 86400000000000)), Value.int IntKind.u64 (lo (d * 86400000000000)), vI64 (hi (h * 3600000000000)), Value.int IntKind.u64 (lo (h * 3600000000000)), vI64 (hi (mi * 60000000000)), Value.int IntKind.u64 (lo (mi * 60000000000))]) (rest := rest9) (v1 := vI64 (hi (s * 1000000000))) (v2 := Value.int IntKind.u64 (lo (s * 1000000000))) (by kernel_rfl) (by kernel_rfl) (by kernel_rfl) rfl rfl rfl hr9 hm9 (by omega) (by kernel_rfl) (by kernel_rfl) (fun hm12 rest12 hr12 => ?_) (fun m12 rest12 hm12 hr12 => ?_)
      · have _hh := True.intro
        refine st_i 12 .i64 (x' := 4 + 1 + 1 + 1 + 1) (Go.IntWalk.i64_in _ (by omega)) (by kernel_rfl) ?_
        refine st_round (by kernel_rfl) ?_
        refine st_fn ent96 (ulen8) sub0 (by kernel_rfl) ?_
        refine st_fn ent22 (wmul_f (n) (1) (by assumption) (by assumption)) sub0 (by kernel_rfl) ?_
        refine st_appw (b := 6) (b2 := 9) (n := 4) (m := m6) (vs := [vI64 (hi (d * 86400000000000)), Value.int IntKind.u64 (lo (d * 86400000000000)), vI64 (hi (h * 3600000000000)), Value.int IntKind.u64 (lo (h * 3600000000000)), vI64 (hi (mi * 60000000000)), Value.int IntKind.u64 (lo (mi * 60000000000)), vI64 (hi (s * 1000000000)), Value.int IntKind.u64 (lo (s * 1000000000))]) (rest := rest12) (v1 := vI64 (hi (n * 1))) (v2 := Value.int IntKind.u64 (lo (n * 1))) (by kernel_rfl) (by kernel_rfl) (by kernel_rfl) rfl rfl rfl hr12 hm12 (by omega) (by kernel_rfl) (by kernel_rfl) (fun hm15 rest15 hr15 => ?_) (fun m15 rest15 hm15 hr15 => ?_)
        · have _hh := True.intro
          refine st_i 12 .i64 (x' := 4 + 1 + 1 + 1 + 1 + 1) (Go.IntWalk.i64_in _ (by omega)) (by kernel_rfl) ?_
          refine st_round (by kernel_rfl) ?_
          refine st_sum5 (b := 6) (m := m6) (n1 := (d * 86400000000000)) (n2 := (h * 3600000000000)) (n3 := (mi * 60000000000)) (n4 := (s * 1000000000)) (n5 := (n * 1)) (rest := rest15) ((d * 86400000000000) + (h * 3600000000000) + (mi * 60000000000) + (s * 1000000000) + (n * 1)) rfl (by first | assumption | (unfold W128; omega)) (by first | assumption | (unfold W128; omega)) (by first | assumption | (unfold W128; omega)) (by first | assumption | (unfold W128; omega)) (by first | assumption | (unfold W128; omega)) (by first | assumption | (unfold W128; omega)) (by kernel_rfl) (by kernel_rfl) ?_
          exact st_retv Tryz.func102 (show Value.agg #[vI64 (hi (d * 86400000000000 + h * 3600000000000 + mi * 60000000000 + s * 1000000000 + n * 1)), Value.int IntKind.u64 (lo (d * 86400000000000 + h * 3600000000000 + mi * 60000000000 + s * 1000000000 + n * 1))] = _ by (unfold dtot; rw [Int.mul_one])) (by kernel_rfl)
        · have _hh := True.intro
          refine st_i 12 .i64 (x' := 4 + 1 + 1 + 1 + 1 + 1) (Go.IntWalk.i64_in _ (by omega)) (by kernel_rfl) ?_
          refine st_round (by kernel_rfl) ?_
          refine st_sum5 (b := 10) (m := m15) (n1 := (d * 86400000000000)) (n2 := (h * 3600000000000)) (n3 := (mi * 60000000000)) (n4 := (s * 1000000000)) (n5 := (n * 1)) (rest := rest15) ((d * 86400000000000) + (h * 3600000000000) + (mi * 60000000000) + (s * 1000000000) + (n * 1)) rfl (by first | assumption | (unfold W128; omega)) (by first | assumption | (unfold W128; omega)) (by first | assumption | (unfold W128; omega)) (by first | assumption | (unfold W128; omega)) (by first | assumption | (unfold W128; omega)) (by first | assumption | (unfold W128; omega)) (by kernel_rfl) (by kernel_rfl) ?_
          exact st_retv Tryz.func102 (show Value.agg #[vI64 (hi (d * 86400000000000 + h * 3600000000000 + mi * 60000000000 + s * 1000000000 + n * 1)), Value.int IntKind.u64 (lo (d * 86400000000000 + h * 3600000000000 + mi * 60000000000 + s * 1000000000 + n * 1))] = _ by (unfold dtot; rw [Int.mul_one])) (by kernel_rfl)
      · have _hh := True.intro
        refine st_i 12 .i64 (x' := 4 + 1 + 1 + 1 + 1) (Go.IntWalk.i64_in _ (by omega)) (by kernel_rfl) ?_
        refine st_round (by kernel_rfl) ?_
        refine st_fn ent96 (ulen8) sub0 (by kernel_rfl) ?_
        refine st_fn ent22 (wmul_f (n) (1) (by assumption) (by assumption)) sub0 (by kernel_rfl) ?_
        refine st_appw (b := 9) (b2 := 10) (n := 4) (m := m12) (vs := [vI64 (hi (d * 86400000000000)), Value.int IntKind.u64 (lo (d * 86400000000000)), vI64 (hi (h * 3600000000000)), Value.int IntKind.u64 (lo (h * 3600000000000)), vI64 (hi (mi * 60000000000)), Value.int IntKind.u64 (lo (mi * 60000000000)), vI64 (hi (s * 1000000000)), Value.int IntKind.u64 (lo (s * 1000000000))]) (rest := rest12) (v1 := vI64 (hi (n * 1))) (v2 := Value.int IntKind.u64 (lo (n * 1))) (by kernel_rfl) (by kernel_rfl) (by kernel_rfl) rfl rfl rfl hr12 hm12 (by omega) (by kernel_rfl) (by kernel_rfl) (fun hm15 rest15 hr15 => ?_) (fun m15 rest15 hm15 hr15 => ?_)
        · have _hh := True.intro
          refine st_i 12 .i64 (x' := 4 + 1 + 1 + 1 + 1 + 1) (Go.IntWalk.i64_in _ (by omega)) (by kernel_rfl) ?_
          refine st_round (by kernel_rfl) ?_
          refine st_sum5 (b := 9) (m := m12) (n1 := (d * 86400000000000)) (n2 := (h * 3600000000000)) (n3 := (mi * 60000000000)) (n4 := (s * 1000000000)) (n5 := (n * 1)) (rest := rest15) ((d * 86400000000000) + (h * 3600000000000) + (mi * 60000000000) + (s * 1000000000) + (n * 1)) rfl (by first | assumption | (unfold W128; omega)) (by first | assumption | (unfold W128; omega)) (by first | assumption | (unfold W128; omega)) (by first | assumption | (unfold W128; omega)) (by first | assumption | (unfold W128; omega)) (by first | assumption | (unfold W128; omega)) (by kernel_rfl) (by kernel_rfl) ?_
          exact st_retv Tryz.func102 (show Value.agg #[vI64 (hi (d * 86400000000000 + h * 3600000000000 + mi * 60000000000 + s * 1000000000 + n * 1)), Value.int IntKind.u64 (lo (d * 86400000000000 + h * 3600000000000 + mi * 60000000000 + s * 1000000000 + n * 1))] = _ by (unfold dtot; rw [Int.mul_one])) (by kernel_rfl)
        · have _hh := True.intro
          refine st_i 12 .i64 (x' := 4 + 1 + 1 + 1 + 1 + 1) (Go.IntWalk.i64_in _ (by omega)) (by kernel_rfl) ?_
          refine st_round (by kernel_rfl) ?_
          refine st_sum5 (b := 11) (m := m15) (n1 := (d * 86400000000000)) (n2 := (h * 3600000000000)) (n3 := (mi * 60000000000)) (n4 := (s * 1000000000)) (n5 := (n * 1)) (rest := rest15) ((d * 86400000000000) + (h * 3600000000000) + (mi * 60000000000) + (s * 1000000000) + (n * 1)) rfl (by first | assumption | (unfold W128; omega)) (by first | assumption | (unfold W128; omega)) (by first | assumption | (unfold W128; omega)) (by first | assumption | (unfold W128; omega)) (by first | assumption | (unfold W128; omega)) (by first | assumption | (unfold W128; omega)) (by kernel_rfl) (by kernel_rfl) ?_
          exact st_retv Tryz.func102 (show Value.agg #[vI64 (hi (d * 86400000000000 + h * 3600000000000 + mi * 60000000000 + s * 1000000000 + n * 1)), Value.int IntKind.u64 (lo (d * 86400000000000 + h * 3600000000000 + mi * 60000000000 + s * 1000000000 + n * 1))] = _ by (unfold dtot; rw [Int.mul_one])) (by kernel_rfl)
    · have _hh := True.intro
      refine st_i 12 .i64 (x' := 4 + 1 + 1 + 1) (Go.IntWalk.i64_in _ (by omega)) (by kernel_rfl) ?_
      refine st_round (by kernel_rfl) ?_
      refine st_fn ent96 (ulen7) sub0 (by kernel_rfl) ?_
      refine st_fn ent22 (wmul_f (s) (1000000000) (by assumption) (by assumption)) sub0 (by kernel_rfl) ?_
      refine st_appw (b := 8) (b2 := 9) (n := 3) (m := m9) (vs := [vI64 (hi (d * 86400000000000)), Value.int IntKind.u64 (lo (d * 86400000000000)), vI64 (hi (h * 3600000000000)), Value.int IntKind.u64 (lo (h * 3600000000000)), vI64 (hi (mi * 60000000000)), Value.int IntKind.u64 (lo (mi * 60000000000))]) (rest := rest9) (v1 := vI64 (hi (s * 1000000000))) (v2 := Value.int IntKind.u64 (lo (s * 1000000000))) (by kernel_rfl) (by kernel_rfl) (by kernel_rfl) rfl rfl rfl hr9 hm9 (by omega) (by kernel_rfl) (by kernel_rfl) (fun hm12 rest12 hr12 => ?_) (fun m12 rest12 hm12 hr12 => ?_)
      · have _hh := True.intro
        refine st_i 12 .i64 (x' := 4 + 1 + 1 + 1 + 1) (Go.IntWalk.i64_in _ (by omega)) (by kernel_rfl) ?_
        refine st_round (by kernel_rfl) ?_
        refine st_fn ent96 (ulen8) sub0 (by kernel_rfl) ?_
        refine st_fn ent22 (wmul_f (n) (1) (by assumption) (by assumption)) sub0 (by kernel_rfl) ?_
        refine st_appw (b := 8) (b2 := 10) (n := 4) (m := m9) (vs := [vI64 (hi (d * 86400000000000)), Value.int IntKind.u64 (lo (d * 86400000000000)), vI64 (hi (h * 3600000000000)), Value.int IntKind.u64 (lo (h * 3600000000000)), vI64 (hi (mi * 60000000000)), Value.int IntKind.u64 (lo (mi * 60000000000)), vI64 (hi (s * 1000000000)), Value.int IntKind.u64 (lo (s * 1000000000))]) (rest := rest12) (v1 := vI64 (hi (n * 1))) (v2 := Value.int IntKind.u64 (lo (n * 1))) (by kernel_rfl) (by kernel_rfl) (by kernel_rfl) rfl rfl rfl hr12 hm12 (by omega) (by kernel_rfl) (by kernel_rfl) (fun hm15 rest15 hr15 => ?_) (fun m15 rest15 hm15 hr15 => ?_)
        · have _hh := True.intro
          refine st_i 12 .i64 (x' := 4 + 1 + 1 + 1 + 1 + 1) (Go.IntWalk.i64_in _ (by omega)) (by kernel_rfl) ?_
          refine st_round (by kernel_rfl) ?_
          refine st_sum5 (b := 8) (m := m9) (n1 := (d * 86400000000000)) (n2 := (h * 3600000000000)) (n3 := (mi * 60000000000)) (n4 := (s * 1000000000)) (n5 := (n * 1)) (rest := rest15) ((d * 86400000000000) + (h * 3600000000000) + (mi * 60000000000) + (s * 1000000000) + (n * 1)) rfl (by first | assumption | (unfold W128; omega)) (by first | assumption | (unfold W128; omega)) (by first | assumption | (unfold W128; omega)) (by first | assumption | (unfold W128; omega)) (by first | assumption | (unfold W128; omega)) (by first | assumption | (unfold W128; omega)) (by kernel_rfl) (by kernel_rfl) ?_
          exact st_retv Tryz.func102 (show Value.agg #[vI64 (hi (d * 86400000000000 + h * 3600000000000 + mi * 60000000000 + s * 1000000000 + n * 1)), Value.int IntKind.u64 (lo (d * 86400000000000 + h * 3600000000000 + mi * 60000000000 + s * 1000000000 + n * 1))] = _ by (unfold dtot; rw [Int.mul_one])) (by kernel_rfl)
        · have _hh := True.intro
          refine st_i 12 .i64 (x' := 4 + 1 + 1 + 1 + 1 + 1) (Go.IntWalk.i64_in _ (by omega)) (by kernel_rfl) ?_
          refine st_round (by kernel_rfl) ?_
          refine st_sum5 (b := 11) (m := m15) (n1 := (d * 86400000000000)) (n2 := (h * 3600000000000)) (n3 := (mi * 60000000000)) (n4 := (s * 1000000000)) (n5 := (n * 1)) (rest := rest15) ((d * 86400000000000) + (h * 3600000000000) + (mi * 60000000000) + (s * 1000000000) + (n * 1)) rfl (by first | assumption | (unfold W128; omega)) (by first | assumption | (unfold W128; omega)) (by first | assumption | (unfold W128; omega)) (by first | assumption | (unfold W128; omega)) (by first | assumption | (unfold W128; omega)) (by first | assumption | (unfold W128; omega)) (by kernel_rfl) (by kernel_rfl) ?_
          exact st_retv Tryz.func102 (show Value.agg #[vI64 (hi (d * 86400000000000 + h * 3600000000000 + mi * 60000000000 + s * 1000000000 + n * 1)), Value.int IntKind.u64 (lo (d * 86400000000000 + h * 3600000000000 + mi * 60000000000 + s * 1000000000 + n * 1))] = _ by (unfold dtot; rw [Int.mul_one])) (by kernel_rfl)
      · have _hh := True.intro
        refine st_i 12 .i64 (x' := 4 + 1 + 1 + 1 + 1) (Go.IntWalk.i64_in _ (by omega)) (by kernel_rfl) ?_
        refine st_round (by kernel_rfl) ?_
        refine st_fn ent96 (ulen8) sub0 (by kernel_rfl) ?_
        refine st_fn ent22 (wmul_f (n) (1) (by assumption) (by assumption)) sub0 (by kernel_rfl) ?_
        refine st_appw (b := 10) (b2 := 11) (n := 4) (m := m12) (vs := [vI64 (hi (d * 86400000000000)), Value.int IntKind.u64 (lo (d * 86400000000000)), vI64 (hi (h * 3600000000000)), Value.int IntKind.u64 (lo (h * 3600000000000)), vI64 (hi (mi * 60000000000)), Value.int IntKind.u64 (lo (mi * 60000000000)), vI64 (hi (s * 1000000000)), Value.int IntKind.u64 (lo (s * 1000000000))]) (rest := rest12) (v1 := vI64 (hi (n * 1))) (v2 := Value.int IntKind.u64 (lo (n * 1))) (by kernel_rfl) (by kernel_rfl) (by kernel_rfl) rfl rfl rfl hr12 hm12 (by omega) (by kernel_rfl) (by kernel_rfl) (fun hm15 rest15 hr15 => ?_) (fun m15 rest15 hm15 hr15 => ?_)
        · have _hh := True.intro
          refine st_i 12 .i64 (x' := 4 + 1 + 1 + 1 + 1 + 1) (Go.IntWalk.i64_in _ (by omega)) (by kernel_rfl) ?_
          refine st_round (by kernel_rfl) ?_
          refine st_sum5 (b := 10) (m := m12) (n1 := (d * 86400000000000)) (n2 := (h * 3600000000000)) (n3 := (mi * 60000000000)) (n4 := (s * 1000000000)) (n5 := (n * 1)) (rest := rest15) ((d * 86400000000000) + (h * 3600000000000) + (mi * 60000000000) + (s * 1000000000) + (n * 1)) rfl (by first | assumption | (unfold W128; omega)) (by first | assumption | (unfold W128; omega)) (by first | assumption | (unfold W128; omega)) (by first | assumption | (unfold W128; omega)) (by first | assumption | (unfold W128; omega)) (by first | assumption | (unfold W128; omega)) (by kernel_rfl) (by kernel_rfl) ?_
          exact st_retv Tryz.func102 (show Value.agg #[vI64 (hi (d * 86400000000000 + h * 3600000000000 + mi * 60000000000 + s * 1000000000 + n * 1)), Value.int IntKind.u64 (lo (d * 86400000000000 + h * 3600000000000 + mi * 60000000000 + s * 1000000000 + n * 1))] = _ by (unfold dtot; rw [Int.mul_one])) (by kernel_rfl)
        · have _hh := True.intro
          refine st_i 12 .i64 (x' := 4 + 1 + 1 + 1 + 1 + 1) (Go.IntWalk.i64_in _ (by omega)) (by kernel_rfl) ?_
          refine st_round (by kernel_rfl) ?_
          refine st_sum5 (b := 12) (m := m15) (n1 := (d * 86400000000000)) (n2 := (h * 3600000000000)) (n3 := (mi * 60000000000)) (n4 := (s * 1000000000)) (n5 := (n * 1)) (rest := rest15) ((d * 86400000000000) + (h * 3600000000000) + (mi * 60000000000) + (s * 1000000000) + (n * 1)) rfl (by first | assumption | (unfold W128; omega)) (by first | assumption | (unfold W128; omega)) (by first | assumption | (unfold W128; omega)) (by first | assumption | (unfold W128; omega)) (by first | assumption | (unfold W128; omega)) (by first | assumption | (unfold W128; omega)) (by kernel_rfl) (by kernel_rfl) ?_
          exact st_retv Tryz.func102 (show Value.agg #[vI64 (hi (d * 86400000000000 + h * 3600000000000 + mi * 60000000000 + s * 1000000000 + n * 1)), Value.int IntKind.u64 (lo (d * 86400000000000 + h * 3600000000000 + mi * 60000000000 + s * 1000000000 + n * 1))] = _ by (unfold dtot; rw [Int.mul_one])) (by kernel_rfl)
end
end Go.Proofs.YtccllfegnijpiaaGreat
end
section
/-
  What lies between two days: what the program answers of layer 19.
-/
set_option linter.unusedVariables false
set_option linter.unusedSimpArgs false
set_option maxRecDepth 100000
namespace Go.Proofs.YtccllfegnijpiaaGreat
open Go Go.RowKit Go.Ev

section
variable (y m d y' m' d' L : Int)
theorem cunt_3 (h : dOk y m d) (h' : dOk y' m' d') : Fn 56 [] [dv y m d, dv y' m' d', .int .i64 3] (.tuple #[duv 0 0 ((dnum y' m' d' - dnum y m d).tdiv 7) ((dnum y' m' d' - dnum y m d).tmod 7) 0 0 0 0, .int .i64 0]) := by
  have d1 := cdays_yes y m d h
  have d2 := cdays_yes y' m' d' h'
  have b1 := h.2
  have b2 := h'.2
  generalize dnum y m d = n at *
  generalize dnum y' m' d' = n' at *
  have tt := td (n' - n) 7 (by omega)
  clear h h'
  refine fn_of Tryz.func56 rfl fun ww => ?_
  refine st_fn ent98 (d1) sub0 (by kernel_rfl) ?_
  refine st_fn ent98 (d2) sub0 (by kernel_rfl) ?_
  refine st_i 48 .i64 (x' := n' - n) (Go.IntWalk.i64_in _ (by omega)) (by kernel_rfl) ?_
  refine st_i 49 .i64 (x' := (n' - n).tdiv 7) (Go.IntWalk.i64_in _ (by omega)) (by kernel_rfl) ?_
  refine st_i 52 .i64 (x' := n' - n) (Go.IntWalk.i64_in _ (by omega)) (by kernel_rfl) ?_
  exact st_ret Tryz.func56 (by kernel_rfl)
theorem cunt_4 (h : dOk y m d) (h' : dOk y' m' d') : Fn 56 [] [dv y m d, dv y' m' d', .int .i64 4] (.tuple #[duv 0 0 0 (dnum y' m' d' - dnum y m d) 0 0 0 0, .int .i64 0]) := by
  have d1 := cdays_yes y m d h
  have d2 := cdays_yes y' m' d' h'
  have b1 := h.2
  have b2 := h'.2
  generalize dnum y m d = n at *
  generalize dnum y' m' d' = n' at *
  clear h h'
  refine fn_of Tryz.func56 rfl fun ww => ?_
  refine st_fn ent98 (d1) sub0 (by kernel_rfl) ?_
  refine st_fn ent98 (d2) sub0 (by kernel_rfl) ?_
  refine st_i 59 .i64 (x' := n' - n) (Go.IntWalk.i64_in _ (by omega)) (by kernel_rfl) ?_
  exact st_ret Tryz.func56 (by kernel_rfl)
theorem cunt_0 (L : Int) (l : L = 1 ∨ L = 2) (h : dOk y m d) (h' : dOk y' m' d') (e : cmp3 y' m' d' y m d = 0) : Fn 56 [] [dv y m d, dv y' m' d', .int .i64 L] (.tuple #[du0, .int .i64 0]) := by
  have d1 := cdays_yes y m d h
  have d2 := cdays_yes y' m' d' h'
  have cc := ccmp5 y' m' d' y m d
  rw [e] at cc
  clear h h' e
  rcases l with rfl | rfl
  · refine fn_of Tryz.func56 rfl fun ww => ?_
    refine st_fn ent98 (d1) sub0 (by kernel_rfl) ?_
    refine st_fn ent98 (d2) sub0 (by kernel_rfl) ?_
    refine st_fn ent65 (cc) sub0 (by kernel_rfl) ?_
    exact st_ret Tryz.func56 (by kernel_rfl)
  · refine fn_of Tryz.func56 rfl fun ww => ?_
    refine st_fn ent98 (d1) sub0 (by kernel_rfl) ?_
    refine st_fn ent98 (d2) sub0 (by kernel_rfl) ?_
    refine st_fn ent65 (cc) sub0 (by kernel_rfl) ?_
    exact st_ret Tryz.func56 (by kernel_rfl)
theorem cunt_1 (s N T : Int) (h : dOk y m d) (h' : dOk y' m' d') (hs : s = 1 ∨ s = -1) (e : cmp3 y' m' d' y m d = s) (hN : mM s y m d y' m' d' = N) (hT : ymi y m + s * N = T) :
    Fn 56 [] [dv y m d, dv y' m' d', .int .i64 1] (.tuple #[duv (s * (N / 12)) (s * (N - 12 * (N / 12))) 0 (dnum y' m' d' - dnum (lY T) (lM T) (cD (lY T) (lM T) d)) 0 0 0 0, .int .i64 0]) := by
  have d1 := cdays_yes y m d h
  have d2 := cdays_yes y' m' d' h'
  have yy := dOk_year h
  have yy' := dOk_year h'
  have n0 := mM_pos h.1.1 h.1.2.1 h'.1.1 h'.1.2.1 hs e
  have n1 := mM_le (y := y) (y' := y') (d := d) (d' := d') h.1.1 h.1.2.1 h'.1.1 h'.1.2.1 hs
  rw [hN] at n0 n1
  have n2 : N ≤ 10000000 := by
    rcases hs with rfl | rfl
    · rw [if_pos rfl] at n1; omega
    · rw [if_neg (by omega)] at n1; omega
  have c2 := cmost2 s y m d y' m' d' (N / 12) (by omega) (by omega) (fun k k0 k1 => by have := cfit2 s y m d y' m' d' k hs (by omega) (by omega) h.1.1 h.1.2.1 h'.1.1 h'.1.2.1 k0 k1; rwa [hN] at this)
  have c3 := cmost3 s y m d y' m' d' (N / 12) (N - 12 * (N / 12)) (by omega) (by omega) (fun k k0 k1 => by have := cfit3 s y m d y' m' d' k (N / 12) hs (by omega) (by omega) h.1.1 h.1.2.1 h'.1.1 h'.1.2.1 (by omega) (by omega) k0 k1; rwa [hN] at this)
  have cl := clater y m d (s * N) T (by unfold ymi at hT; omega) (by omega) (by omega) h.1.1 h.1.2.1 (by rcases hs with rfl | rfl <;> omega) (by rcases hs with rfl | rfl <;> omega)
  have fo := (from_ok h h' hs e).1
  unfold fD' fY' fM' at fo
  rw [hN, hT] at fo
  have d3 := cdays_yes (lY T) (lM T) (cD (lY T) (lM T) d) fo
  have b1 := fo.2
  have b2 := h'.2
  have cc := ccmp5 y' m' d' y m d
  rw [e] at cc
  have ml := cmonth (lY T) (lM T)
  generalize dnum y' m' d' = n' at *
  generalize dnum (lY T) (lM T) (cD (lY T) (lM T) d) = n'' at *
  clear h h' e hN hT fo yy yy' n1
  obtain ⟨q, hq⟩ : ∃ q, N / 12 = q := ⟨_, rfl⟩
  have hq2 : 12 * q ≤ N ∧ N < 12 * q + 12 := by omega
  rw [hq] at c2 c3 ⊢
  clear hq
  rcases hs with rfl | rfl
  · refine fn_of Tryz.func56 rfl fun ww => ?_
    refine st_fn ent98 (d1) sub0 (by kernel_rfl) ?_
    refine st_fn ent98 (d2) sub0 (by kernel_rfl) ?_
    refine st_fn ent65 (cc) sub0 (by kernel_rfl) ?_
    refine st_fm [4, 0, 3, 1] ent118 (c2) (by kernel_rfl) (by kernel_rfl) (by kernel_rfl) ?_
    refine st_fm [4, 5, 0, 3, 1] ent118 (c3) (by kernel_rfl) (by kernel_rfl) (by kernel_rfl) ?_
    refine st_i 80 .i64 (x' := 12 * q) (Go.IntWalk.i64_in _ (by omega)) (by kernel_rfl) ?_
    refine st_i 83 .i64 (x' := 12 * q + (N - 12 * q)) (Go.IntWalk.i64_in _ (by omega)) (by kernel_rfl) ?_
    refine st_i 84 IntKind.i64 (x := IntKind.i64.wrap (1 * (12 * q + (N - 12 * q)))) ((Go.IntWalk.i64_in (1 * (12 * q + (N - 12 * q))) (by omega)).trans ((show (1 : Int) * (12 * q + (N - 12 * q)) = 1 * N by omega))) (by kernel_rfl) ?_
    refine st_fn ent108 (cl) sub0 (by kernel_rfl) ?_
    refine st_fn ent121 (ml) sub0 (by kernel_rfl) ?_
    refine st_i 98 .i64 (x' := 1 * q) (Go.IntWalk.i64_in _ (by omega)) (by kernel_rfl) ?_
    refine st_i 102 .i64 (x' := 1 * (N - 12 * q)) (Go.IntWalk.i64_in _ (by omega)) (by kernel_rfl) ?_
    refine st_fn ent98 (d3) sub0 (by kernel_rfl) ?_
    refine st_i 112 .i64 (x' := n' - n'') (Go.IntWalk.i64_in _ (by omega)) (by kernel_rfl) ?_
    exact st_ret Tryz.func56 (by kernel_rfl)
  · refine fn_of Tryz.func56 rfl fun ww => ?_
    refine st_fn ent98 (d1) sub0 (by kernel_rfl) ?_
    refine st_fn ent98 (d2) sub0 (by kernel_rfl) ?_
    refine st_fn ent65 (cc) sub0 (by kernel_rfl) ?_
    refine st_fm [4, 0, 3, 1] ent118 (c2) (by kernel_rfl) (by kernel_rfl) (by kernel_rfl) ?_
    refine st_fm [4, 5, 0, 3, 1] ent118 (c3) (by kernel_rfl) (by kernel_rfl) (by kernel_rfl) ?_
    refine st_i 80 .i64 (x' := 12 * q) (Go.IntWalk.i64_in _ (by omega)) (by kernel_rfl) ?_
    refine st_i 83 .i64 (x' := 12 * q + (N - 12 * q)) (Go.IntWalk.i64_in _ (by omega)) (by kernel_rfl) ?_
    refine st_i 84 IntKind.i64 (x := IntKind.i64.wrap (-1 * (12 * q + (N - 12 * q)))) ((Go.IntWalk.i64_in (-1 * (12 * q + (N - 12 * q))) (by omega)).trans ((show (-1 : Int) * (12 * q + (N - 12 * q)) = -1 * N by omega))) (by kernel_rfl) ?_
    refine st_fn ent108 (cl) sub0 (by kernel_rfl) ?_
    refine st_fn ent121 (ml) sub0 (by kernel_rfl) ?_
    refine st_i 98 .i64 (x' := -1 * q) (Go.IntWalk.i64_in _ (by omega)) (by kernel_rfl) ?_
    refine st_i 102 .i64 (x' := -1 * (N - 12 * q)) (Go.IntWalk.i64_in _ (by omega)) (by kernel_rfl) ?_
    refine st_fn ent98 (d3) sub0 (by kernel_rfl) ?_
    refine st_i 112 .i64 (x' := n' - n'') (Go.IntWalk.i64_in _ (by omega)) (by kernel_rfl) ?_
    exact st_ret Tryz.func56 (by kernel_rfl)
theorem cunt_2 (s N T : Int) (h : dOk y m d) (h' : dOk y' m' d') (hs : s = 1 ∨ s = -1) (e : cmp3 y' m' d' y m d = s) (hN : mM s y m d y' m' d' = N) (hT : ymi y m + s * N = T) :
    Fn 56 [] [dv y m d, dv y' m' d', .int .i64 2] (.tuple #[duv 0 (s * N) 0 (dnum y' m' d' - dnum (lY T) (lM T) (cD (lY T) (lM T) d)) 0 0 0 0, .int .i64 0]) := by
  have d1 := cdays_yes y m d h
  have d2 := cdays_yes y' m' d' h'
  have yy := dOk_year h
  have yy' := dOk_year h'
  have n0 := mM_pos h.1.1 h.1.2.1 h'.1.1 h'.1.2.1 hs e
  have n1 := mM_le (y := y) (y' := y') (d := d) (d' := d') h.1.1 h.1.2.1 h'.1.1 h'.1.2.1 hs
  rw [hN] at n0 n1
  have n2 : N ≤ 10000000 := by
    rcases hs with rfl | rfl
    · rw [if_pos rfl] at n1; omega
    · rw [if_neg (by omega)] at n1; omega
  have c3 := cmost3 s y m d y' m' d' 0 N (by omega) (by omega) (fun k k0 k1 => by have := cfit3 s y m d y' m' d' k 0 hs (by omega) (by omega) h.1.1 h.1.2.1 h'.1.1 h'.1.2.1 (by omega) (by omega) k0 k1; rwa [hN, show N - 12 * 0 = N by omega] at this)
  have cl := clater y m d (s * N) T (by unfold ymi at hT; omega) (by omega) (by omega) h.1.1 h.1.2.1 (by rcases hs with rfl | rfl <;> omega) (by rcases hs with rfl | rfl <;> omega)
  have fo := (from_ok h h' hs e).1
  unfold fD' fY' fM' at fo
  rw [hN, hT] at fo
  have d3 := cdays_yes (lY T) (lM T) (cD (lY T) (lM T) d) fo
  have b1 := fo.2
  have b2 := h'.2
  have cc := ccmp5 y' m' d' y m d
  rw [e] at cc
  have ml := cmonth (lY T) (lM T)
  generalize dnum y' m' d' = n' at *
  generalize dnum (lY T) (lM T) (cD (lY T) (lM T) d) = n'' at *
  clear h h' e hN hT fo yy yy' n1
  rcases hs with rfl | rfl
  · refine fn_of Tryz.func56 rfl fun ww => ?_
    refine st_fn ent98 (d1) sub0 (by kernel_rfl) ?_
    refine st_fn ent98 (d2) sub0 (by kernel_rfl) ?_
    refine st_fn ent65 (cc) sub0 (by kernel_rfl) ?_
    refine st_fm [4, 5, 0, 3, 1] ent118 (c3) (by kernel_rfl) (by kernel_rfl) (by kernel_rfl) ?_
    refine st_i 80 .i64 (x' := 12 * 0) (Go.IntWalk.i64_in _ (by omega)) (by kernel_rfl) ?_
    refine st_i 83 .i64 (x' := 12 * 0 + N) (Go.IntWalk.i64_in _ (by omega)) (by kernel_rfl) ?_
    refine st_i 84 IntKind.i64 (x := IntKind.i64.wrap (1 * (12 * 0 + N))) ((Go.IntWalk.i64_in (1 * (12 * 0 + N)) (by omega)).trans ((show (1 : Int) * (12 * 0 + N) = 1 * N by omega))) (by kernel_rfl) ?_
    refine st_fn ent108 (cl) sub0 (by kernel_rfl) ?_
    refine st_fn ent121 (ml) sub0 (by kernel_rfl) ?_
    refine st_i 98 .i64 (x' := 1 * 0) (Go.IntWalk.i64_in _ (by omega)) (by kernel_rfl) ?_
    refine st_i 102 .i64 (x' := 1 * N) (Go.IntWalk.i64_in _ (by omega)) (by kernel_rfl) ?_
    refine st_fn ent98 (d3) sub0 (by kernel_rfl) ?_
    refine st_i 112 .i64 (x' := n' - n'') (Go.IntWalk.i64_in _ (by omega)) (by kernel_rfl) ?_
    exact st_retv Tryz.func56 (show Value.tuple #[Value.agg { toList := [vI64 (1 * 0), vI64 (1 * N), vI64 0, vI64 (n' - n''), vI64 0, vI64 0, vI64 0, vI64 0] }, vI64 0] = _ by rfl) (by kernel_rfl)
  · refine fn_of Tryz.func56 rfl fun ww => ?_
    refine st_fn ent98 (d1) sub0 (by kernel_rfl) ?_
    refine st_fn ent98 (d2) sub0 (by kernel_rfl) ?_
    refine st_fn ent65 (cc) sub0 (by kernel_rfl) ?_
    refine st_fm [4, 5, 0, 3, 1] ent118 (c3) (by kernel_rfl) (by kernel_rfl) (by kernel_rfl) ?_
    refine st_i 80 .i64 (x' := 12 * 0) (Go.IntWalk.i64_in _ (by omega)) (by kernel_rfl) ?_
    refine st_i 83 .i64 (x' := 12 * 0 + N) (Go.IntWalk.i64_in _ (by omega)) (by kernel_rfl) ?_
    refine st_i 84 IntKind.i64 (x := IntKind.i64.wrap (-1 * (12 * 0 + N))) ((Go.IntWalk.i64_in (-1 * (12 * 0 + N)) (by omega)).trans ((show (-1 : Int) * (12 * 0 + N) = -1 * N by omega))) (by kernel_rfl) ?_
    refine st_fn ent108 (cl) sub0 (by kernel_rfl) ?_
    refine st_fn ent121 (ml) sub0 (by kernel_rfl) ?_
    refine st_i 98 .i64 (x' := -1 * 0) (Go.IntWalk.i64_in _ (by omega)) (by kernel_rfl) ?_
    refine st_i 102 .i64 (x' := -1 * N) (Go.IntWalk.i64_in _ (by omega)) (by kernel_rfl) ?_
    refine st_fn ent98 (d3) sub0 (by kernel_rfl) ?_
    refine st_i 112 .i64 (x' := n' - n'') (Go.IntWalk.i64_in _ (by omega)) (by kernel_rfl) ?_
    exact st_retv Tryz.func56 (show Value.tuple #[Value.agg { toList := [vI64 (-1 * 0), vI64 (-1 * N), vI64 0, vI64 (n' - n''), vI64 0, vI64 0, vI64 0, vI64 0] }, vI64 0] = _ by rfl) (by kernel_rfl)
end
end Go.Proofs.YtccllfegnijpiaaGreat
end
section
/-
  What lies between two days: what the reference answers of layer 19.
-/
set_option linter.unusedVariables false
set_option linter.unusedSimpArgs false
set_option maxRecDepth 100000
namespace Go.Proofs.YtccllfegnijpiaaGreat
open Go Go.RowKit Go.Ev

section
variable (y m d a b t T : Int)
theorem zlater (hT : (y + a) * 12 + (m - 1) + b = T) (y0 : -10000000 ≤ y) (y1 : y ≤ 10000000) (m1 : 1 ≤ m) (m2 : m ≤ 12) (a0 : -1000000000000 ≤ a) (a1 : a ≤ 1000000000000) (b0 : -1000000000000 ≤ b) (b1 : b ≤ 1000000000000) : Fn 115 [] [dv y m d, .int .i64 a, .int .i64 b] (dv (lY T) (lM T) d) := by
  obtain ⟨t, ht⟩ : ∃ t, m - 1 + b = t := ⟨_, rfl⟩
  have hb : -10000000000000 ≤ t ∧ t ≤ 10000000000000 := by omega
  have hT' : (y + a) * 12 + t = T := by omega
  by_cases h : 0 ≤ t
  · have e1 : t.tdiv 12 = t / 12 := tdiv_nn h
    have e2 : t.tmod 12 = t % 12 := tmod_nn h
    by_cases h2 : t ≤ 11
    · refine fn_of Tryz.func115 rfl fun ww => ?_
      refine st_i 12 .i64 (x' := m - 1) (Go.IntWalk.i64_in _ (by omega)) (by kernel_rfl) ?_
      refine st_i 14 IntKind.i64 (x := IntKind.i64.wrap (m - 1 + b)) ((Go.IntWalk.i64_in (m - 1 + b) (by omega)).trans (ht)) (by kernel_rfl) ?_
      refine st_i 18 .i64 (x' := y + a) (Go.IntWalk.i64_in _ (by omega)) (by kernel_rfl) ?_
      refine st_round (by kernel_rfl) ?_
      refine st_b 20 (show (decide (t > 11)) = false by exact decide_eq_false (by omega)) (by kernel_rfl) ?_
      refine st_b 23 (show (decide (t < 0)) = false by exact decide_eq_false (by omega)) (by kernel_rfl) ?_
      refine st_i 45 .i64 (x' := t + 1) (Go.IntWalk.i64_in _ (by omega)) (by kernel_rfl) ?_
      exact st_retv Tryz.func115 (show Value.agg #[vI64 (y + a), vI64 (t + 1), vI64 d] = _ by (refine d_eq ?_ ?_ rfl <;> simp only [lY, lM] <;> omega)) (by kernel_rfl)
    · refine fn_of Tryz.func115 rfl fun ww => ?_
      refine st_i 12 .i64 (x' := m - 1) (Go.IntWalk.i64_in _ (by omega)) (by kernel_rfl) ?_
      refine st_i 14 IntKind.i64 (x := IntKind.i64.wrap (m - 1 + b)) ((Go.IntWalk.i64_in (m - 1 + b) (by omega)).trans (ht)) (by kernel_rfl) ?_
      refine st_i 18 .i64 (x' := y + a) (Go.IntWalk.i64_in _ (by omega)) (by kernel_rfl) ?_
      refine st_round (by kernel_rfl) ?_
      refine st_b 20 (show (decide (t > 11)) = true by exact decide_eq_true (by omega)) (by kernel_rfl) ?_
      refine st_i 26 .i64 (x' := t.tdiv 12) (Go.IntWalk.i64_in _ (by omega)) (by kernel_rfl) ?_
      refine st_b 28 (show (decide (t < 0)) = false by exact decide_eq_false (by omega)) (by kernel_rfl) ?_
      refine st_i 38 .i64 (x' := 12 * t.tdiv 12) (Go.IntWalk.i64_in _ (by omega)) (by kernel_rfl) ?_
      refine st_i 39 .i64 (x' := t - 12 * t.tdiv 12) (Go.IntWalk.i64_in _ (by omega)) (by kernel_rfl) ?_
      refine st_i 42 .i64 (x' := y + a + t.tdiv 12) (Go.IntWalk.i64_in _ (by omega)) (by kernel_rfl) ?_
      refine st_round (by kernel_rfl) ?_
      refine st_b 20 (show (decide (t - 12 * t.tdiv 12 > 11)) = false by exact decide_eq_false (by omega)) (by kernel_rfl) ?_
      refine st_b 23 (show (decide (t - 12 * t.tdiv 12 < 0)) = false by exact decide_eq_false (by omega)) (by kernel_rfl) ?_
      refine st_i 45 .i64 (x' := t - 12 * t.tdiv 12 + 1) (Go.IntWalk.i64_in _ (by omega)) (by kernel_rfl) ?_
      exact st_retv Tryz.func115 (show Value.agg #[vI64 (y + a + t.tdiv 12), vI64 (t - 12 * t.tdiv 12 + 1), vI64 d] = _ by (refine d_eq ?_ ?_ rfl <;> simp only [lY, lM] <;> omega)) (by kernel_rfl)
  · have e1 : t.tdiv 12 = -((-t) / 12) := tdiv_lit (by omega)
    have e2 : t.tmod 12 = -((-t) % 12) := tmod_lit (by omega)
    by_cases h2 : t % 12 = 0
    · refine fn_of Tryz.func115 rfl fun ww => ?_
      refine st_i 12 .i64 (x' := m - 1) (Go.IntWalk.i64_in _ (by omega)) (by kernel_rfl) ?_
      refine st_i 14 IntKind.i64 (x := IntKind.i64.wrap (m - 1 + b)) ((Go.IntWalk.i64_in (m - 1 + b) (by omega)).trans (ht)) (by kernel_rfl) ?_
      refine st_i 18 .i64 (x' := y + a) (Go.IntWalk.i64_in _ (by omega)) (by kernel_rfl) ?_
      refine st_round (by kernel_rfl) ?_
      refine st_b 20 (show (decide (t > 11)) = false by exact decide_eq_false (by omega)) (by kernel_rfl) ?_
      refine st_b 23 (show (decide (t < 0)) = true by exact decide_eq_true (by omega)) (by kernel_rfl) ?_
      refine st_i 26 .i64 (x' := t.tdiv 12) (Go.IntWalk.i64_in _ (by omega)) (by kernel_rfl) ?_
      refine st_b 28 (show (decide (t < 0)) = true by exact decide_eq_true (by omega)) (by kernel_rfl) ?_
      refine st_b 32 (show (t.tmod 12 != 0) = false by exact bne_eq_false_iff_eq.2 (by omega)) (by kernel_rfl) ?_
      refine st_i 38 .i64 (x' := 12 * t.tdiv 12) (Go.IntWalk.i64_in _ (by omega)) (by kernel_rfl) ?_
      refine st_i 39 .i64 (x' := t - 12 * t.tdiv 12) (Go.IntWalk.i64_in _ (by omega)) (by kernel_rfl) ?_
      refine st_i 42 .i64 (x' := y + a + t.tdiv 12) (Go.IntWalk.i64_in _ (by omega)) (by kernel_rfl) ?_
      refine st_round (by kernel_rfl) ?_
      refine st_b 20 (show (decide (t - 12 * t.tdiv 12 > 11)) = false by exact decide_eq_false (by omega)) (by kernel_rfl) ?_
      refine st_b 23 (show (decide (t - 12 * t.tdiv 12 < 0)) = false by exact decide_eq_false (by omega)) (by kernel_rfl) ?_
      refine st_i 45 .i64 (x' := t - 12 * t.tdiv 12 + 1) (Go.IntWalk.i64_in _ (by omega)) (by kernel_rfl) ?_
      exact st_retv Tryz.func115 (show Value.agg #[vI64 (y + a + t.tdiv 12), vI64 (t - 12 * t.tdiv 12 + 1), vI64 d] = _ by (refine d_eq ?_ ?_ rfl <;> simp only [lY, lM] <;> omega)) (by kernel_rfl)
    · refine fn_of Tryz.func115 rfl fun ww => ?_
      refine st_i 12 .i64 (x' := m - 1) (Go.IntWalk.i64_in _ (by omega)) (by kernel_rfl) ?_
      refine st_i 14 IntKind.i64 (x := IntKind.i64.wrap (m - 1 + b)) ((Go.IntWalk.i64_in (m - 1 + b) (by omega)).trans (ht)) (by kernel_rfl) ?_
      refine st_i 18 .i64 (x' := y + a) (Go.IntWalk.i64_in _ (by omega)) (by kernel_rfl) ?_
      refine st_round (by kernel_rfl) ?_
      refine st_b 20 (show (decide (t > 11)) = false by exact decide_eq_false (by omega)) (by kernel_rfl) ?_
      refine st_b 23 (show (decide (t < 0)) = true by exact decide_eq_true (by omega)) (by kernel_rfl) ?_
      refine st_i 26 .i64 (x' := t.tdiv 12) (Go.IntWalk.i64_in _ (by omega)) (by kernel_rfl) ?_
      refine st_b 28 (show (decide (t < 0)) = true by exact decide_eq_true (by omega)) (by kernel_rfl) ?_
      refine st_b 32 (show (t.tmod 12 != 0) = true by exact bne_iff_ne.2 (by omega)) (by kernel_rfl) ?_
      refine st_i 35 .i64 (x' := t.tdiv 12 - 1) (Go.IntWalk.i64_in _ (by omega)) (by kernel_rfl) ?_
      refine st_i 38 .i64 (x' := 12 * (t.tdiv 12 - 1)) (Go.IntWalk.i64_in _ (by omega)) (by kernel_rfl) ?_
      refine st_i 39 .i64 (x' := t - 12 * (t.tdiv 12 - 1)) (Go.IntWalk.i64_in _ (by omega)) (by kernel_rfl) ?_
      refine st_i 42 .i64 (x' := y + a + (t.tdiv 12 - 1)) (Go.IntWalk.i64_in _ (by omega)) (by kernel_rfl) ?_
      refine st_round (by kernel_rfl) ?_
      refine st_b 20 (show (decide (t - 12 * (t.tdiv 12 - 1) > 11)) = false by exact decide_eq_false (by omega)) (by kernel_rfl) ?_
      refine st_b 23 (show (decide (t - 12 * (t.tdiv 12 - 1) < 0)) = false by exact decide_eq_false (by omega)) (by kernel_rfl) ?_
      refine st_i 45 .i64 (x' := t - 12 * (t.tdiv 12 - 1) + 1) (Go.IntWalk.i64_in _ (by omega)) (by kernel_rfl) ?_
      exact st_retv Tryz.func115 (show Value.agg #[vI64 (y + a + (t.tdiv 12 - 1)), vI64 (t - 12 * (t.tdiv 12 - 1) + 1), vI64 d] = _ by (refine d_eq ?_ ?_ rfl <;> simp only [lY, lM] <;> omega)) (by kernel_rfl)
end
section
variable (s y m d y' m' d' A B C : Int)
theorem zbey_n (hs : s = 1 ∨ s = -1) (e : cmp3 y' m' d' y m d = s) (k : cmp3 A B C y' m' d' ≠ s) : Fn 128 [] [dv y m d, dv y' m' d', dv A B C] (.bool false) := by
  have k1 := zcmp5 y' m' d' y m d
  rw [e] at k1
  have k2 := zcmp5 A B C y' m' d'
  have tr := cmp3_tri A B C y' m' d'
  generalize cmp3 A B C y' m' d' = u at *
  rcases hs with rfl | rfl
  · refine fn_of Tryz.func128 rfl fun ww => ?_
    refine st_fn ent68 (k1) sub0 (by kernel_rfl) ?_
    refine st_fn ent68 (k2) sub0 (by kernel_rfl) ?_
    exact st_retv Tryz.func128 (show Value.bool (decide (u > 0)) = _ by (refine b_eq (decide_eq_false ?_); omega)) (by kernel_rfl)
  · refine fn_of Tryz.func128 rfl fun ww => ?_
    refine st_fn ent68 (k1) sub0 (by kernel_rfl) ?_
    refine st_fn ent68 (k2) sub0 (by kernel_rfl) ?_
    exact st_retv Tryz.func128 (show Value.bool (decide (u < 0)) = _ by (refine b_eq (decide_eq_false ?_); omega)) (by kernel_rfl)
theorem zbey_y (hs : s = 1 ∨ s = -1) (e : cmp3 y' m' d' y m d = s) (k : cmp3 A B C y' m' d' = s) : Fn 128 [] [dv y m d, dv y' m' d', dv A B C] (.bool true) := by
  have k1 := zcmp5 y' m' d' y m d
  rw [e] at k1
  have k2 := zcmp5 A B C y' m' d'
  rw [k] at k2
  clear k e
  rcases hs with rfl | rfl
  · refine fn_of Tryz.func128 rfl fun ww => ?_
    refine st_fn ent68 (k1) sub0 (by kernel_rfl) ?_
    refine st_fn ent68 (k2) sub0 (by kernel_rfl) ?_
    exact st_ret Tryz.func128 (by kernel_rfl)
  · refine fn_of Tryz.func128 rfl fun ww => ?_
    refine st_fn ent68 (k1) sub0 (by kernel_rfl) ?_
    refine st_fn ent68 (k2) sub0 (by kernel_rfl) ?_
    exact st_ret Tryz.func128 (by kernel_rfl)
theorem zreg_cy (m1 : 1 ≤ m) (m2 : m ≤ 12) (d1 : 1 ≤ d) (k : dOk y m (cD y m d)) : Fn 116 [] [.int .i64 y, .int .i64 m, .int .i64 d, .int .i64 1] (.tuple #[dv y m (cD y m d), .int .i64 0]) := by
  have kc := zmonth y m
  obtain ⟨l, hl⟩ : ∃ l, l = mlen y m := ⟨_, rfl⟩
  have hc : cD y m d = if l < d then l else d := by rw [hl]; rfl
  rw [hc] at k ⊢
  rw [← hl] at kc
  by_cases q : l < d
  · rw [if_pos q] at k ⊢
    refine fn_of Tryz.func116 rfl fun ww => ?_
    refine st_b 41 (show (decide (m < 1)) = false by exact decide_eq_false (by omega)) (by kernel_rfl) ?_
    refine st_b 43 (show (decide (m > 12)) = false by exact decide_eq_false (by omega)) (by kernel_rfl) ?_
    refine st_b 45 (show (decide (d < 1)) = false by exact decide_eq_false (by omega)) (by kernel_rfl) ?_
    refine st_fn ent134 (kc) sub0 (by kernel_rfl) ?_
    refine st_b 50 (show (decide (d > l)) = true by exact decide_eq_true (by omega)) (by kernel_rfl) ?_
    refine st_fn ent134 (kc) sub0 (by kernel_rfl) ?_
    refine st_fn ent49 (zright5_yes (y) (m) (l) (by assumption)) sub0 (by kernel_rfl) ?_
    exact st_ret Tryz.func116 (by kernel_rfl)
  · rw [if_neg q] at k ⊢
    refine fn_of Tryz.func116 rfl fun ww => ?_
    refine st_b 41 (show (decide (m < 1)) = false by exact decide_eq_false (by omega)) (by kernel_rfl) ?_
    refine st_b 43 (show (decide (m > 12)) = false by exact decide_eq_false (by omega)) (by kernel_rfl) ?_
    refine st_b 45 (show (decide (d < 1)) = false by exact decide_eq_false (by omega)) (by kernel_rfl) ?_
    refine st_fn ent134 (kc) sub0 (by kernel_rfl) ?_
    refine st_b 50 (show (decide (d > l)) = false by exact decide_eq_false (by omega)) (by kernel_rfl) ?_
    refine st_fn ent49 (zright5_yes (y) (m) (d) (by assumption)) sub0 (by kernel_rfl) ?_
    exact st_ret Tryz.func116 (by kernel_rfl)
end
section
variable (y m d y' m' d' L : Int)
theorem zunt_3 (h : dOk y m d) (h' : dOk y' m' d') : Fn 70 [] [dv y m d, dv y' m' d', .int .i64 3] (.tuple #[duv 0 0 ((dnum y' m' d' - dnum y m d).tdiv 7) ((dnum y' m' d' - dnum y m d).tmod 7) 0 0 0 0, .int .i64 0]) := by
  have ld1 := zdays_yes y m d h
  have ld2 := zdays_yes y' m' d' h'
  have b1 := h.2
  have b2 := h'.2
  generalize dnum y m d = n at *
  generalize dnum y' m' d' = n' at *
  have tt := td (n' - n) 7 (by omega)
  clear h h'
  refine fn_of Tryz.func70 rfl fun ww => ?_
  refine st_fn ent92 (ld1) sub0 (by kernel_rfl) ?_
  refine st_fn ent92 (ld2) sub0 (by kernel_rfl) ?_
  refine st_i 57 .i64 (x' := n' - n) (Go.IntWalk.i64_in _ (by omega)) (by kernel_rfl) ?_
  refine st_i 58 .i64 (x' := (n' - n).tdiv 7) (Go.IntWalk.i64_in _ (by omega)) (by kernel_rfl) ?_
  refine st_i 61 .i64 (x' := n' - n) (Go.IntWalk.i64_in _ (by omega)) (by kernel_rfl) ?_
  exact st_ret Tryz.func70 (by kernel_rfl)
theorem zunt_4 (h : dOk y m d) (h' : dOk y' m' d') : Fn 70 [] [dv y m d, dv y' m' d', .int .i64 4] (.tuple #[duv 0 0 0 (dnum y' m' d' - dnum y m d) 0 0 0 0, .int .i64 0]) := by
  have ld1 := zdays_yes y m d h
  have ld2 := zdays_yes y' m' d' h'
  have b1 := h.2
  have b2 := h'.2
  generalize dnum y m d = n at *
  generalize dnum y' m' d' = n' at *
  clear h h'
  refine fn_of Tryz.func70 rfl fun ww => ?_
  refine st_fn ent92 (ld1) sub0 (by kernel_rfl) ?_
  refine st_fn ent92 (ld2) sub0 (by kernel_rfl) ?_
  refine st_i 51 .i64 (x' := n' - n) (Go.IntWalk.i64_in _ (by omega)) (by kernel_rfl) ?_
  exact st_ret Tryz.func70 (by kernel_rfl)
theorem zunt_0 (L : Int) (l : L = 1 ∨ L = 2) (h : dOk y m d) (h' : dOk y' m' d') (e : cmp3 y' m' d' y m d = 0) : Fn 70 [] [dv y m d, dv y' m' d', .int .i64 L] (.tuple #[du0, .int .i64 0]) := by
  have ld1 := zdays_yes y m d h
  have ld2 := zdays_yes y' m' d' h'
  have cc := zcmp5 y' m' d' y m d
  rw [e] at cc
  clear h h' e
  rcases l with rfl | rfl
  · refine fn_of Tryz.func70 rfl fun ww => ?_
    refine st_fn ent92 (ld1) sub0 (by kernel_rfl) ?_
    refine st_fn ent92 (ld2) sub0 (by kernel_rfl) ?_
    refine st_fn ent68 (cc) sub0 (by kernel_rfl) ?_
    exact st_ret Tryz.func70 (by kernel_rfl)
  · refine fn_of Tryz.func70 rfl fun ww => ?_
    refine st_fn ent92 (ld1) sub0 (by kernel_rfl) ?_
    refine st_fn ent92 (ld2) sub0 (by kernel_rfl) ?_
    refine st_fn ent68 (cc) sub0 (by kernel_rfl) ?_
    exact st_ret Tryz.func70 (by kernel_rfl)
theorem sBd {s x n : Int} (hs : s = 1 ∨ s = -1) (h : -n ≤ x ∧ x ≤ n) : -n ≤ s * x ∧ s * x ≤ n := by rcases hs with rfl | rfl <;> omega
theorem mM_gap {s : Int} (hs : s = 1 ∨ s = -1) : mM s y m d y' m' d' ≤ s * (ymi y' m' - ymi y m) ∧ s * (ymi y' m' - ymi y m) ≤ mM s y m d y' m' d' + 1 := by
  rcases hs with rfl | rfl
  · unfold mM; rw [if_pos rfl]; split <;> omega
  · unfold mM; rw [if_neg (by omega)]; split <;> omega
theorem zunt_1 (s N T : Int) (h : dOk y m d) (h' : dOk y' m' d') (hs : s = 1 ∨ s = -1) (e : cmp3 y' m' d' y m d = s) (hN : mM s y m d y' m' d' = N) (hT : ymi y m + s * N = T) :
    Fn 70 [] [dv y m d, dv y' m' d', .int .i64 1] (.tuple #[duv (s * (N / 12)) (s * (N - 12 * (N / 12))) 0 (dnum y' m' d' - dnum (lY T) (lM T) (cD (lY T) (lM T) d)) 0 0 0 0, .int .i64 0]) := by
  have ld1 := zdays_yes y m d h
  have ld2 := zdays_yes y' m' d' h'
  have yy := dOk_year h
  have yy' := dOk_year h'
  have n0 := mM_pos h.1.1 h.1.2.1 h'.1.1 h'.1.2.1 hs e
  have n1 := mM_le (y := y) (y' := y') (d := d) (d' := d') h.1.1 h.1.2.1 h'.1.1 h'.1.2.1 hs
  have gp := mM_gap y m d y' m' d' hs
  have fi := fits_iff (s := s) (y := y) (m := m) (d := d) (y' := y') (m' := m') (d' := d') h.1.1 h.1.2.1 h'.1.1 h'.1.2.1 hs
  rw [hN] at n0 n1 gp fi
  have n2 : N ≤ 10000000 := by
    rcases hs with rfl | rfl
    · rw [if_pos rfl] at n1; omega
    · rw [if_neg (by omega)] at n1; omega
  have m1 := h.1.1
  have m2 := h.1.2.1
  have m1' := h'.1.1
  have m2' := h'.1.2.1
  obtain ⟨K, hK⟩ : ∃ K, N / 12 = K := ⟨_, rfl⟩
  obtain ⟨M, hM⟩ : ∃ M, N - 12 * K = M := ⟨_, rfl⟩
  have hK2 : 0 ≤ K ∧ 12 * K ≤ N ∧ N < 12 * K + 12 ∧ 0 ≤ M ∧ M ≤ 11 ∧ 12 * K + M = N := by omega
  have la1 : ∀ k : Int, 0 ≤ k → k ≤ 10000000 → Fn 115 [] [dv y m d, .int .i64 (s * (k + 1)), .int .i64 0] (dv (lY (ymi y m + s * (12 * (k + 1)))) (lM (ymi y m + s * (12 * (k + 1)))) d) := fun k k0 k1 =>
    zlater y m d (s * (k + 1)) 0 _ (by unfold ymi; rcases hs with rfl | rfl <;> omega) (by omega) (by omega) m1 m2 (by rcases hs with rfl | rfl <;> omega) (by rcases hs with rfl | rfl <;> omega) (by omega) (by omega)
  have lbn1 : ∀ k : Int, 12 * (k + 1) ≤ N → Fn 128 [] [dv y m d, dv y' m' d', dv (lY (ymi y m + s * (12 * (k + 1)))) (lM (ymi y m + s * (12 * (k + 1)))) d] (.bool false) := fun k q => zbey_n s y m d y' m' d' _ _ _ hs e ((fi _).2 q)
  have lby1 : ∀ k : Int, N < 12 * (k + 1) → Fn 128 [] [dv y m d, dv y' m' d', dv (lY (ymi y m + s * (12 * (k + 1)))) (lM (ymi y m + s * (12 * (k + 1)))) d] (.bool true) := fun k q => zbey_y s y m d y' m' d' _ _ _ hs e (Classical.byContradiction fun z => by have := (fi _).1 z; omega)
  have la2 : Fn 115 [] [dv y m d, .int .i64 (s * K), .int .i64 0] (dv (y + s * K) m d) := by
    have := zlater y m d (s * K) 0 (ymi (y + s * K) m) (by unfold ymi; omega) (by omega) (by omega) m1 m2 (by rcases hs with rfl | rfl <;> omega) (by rcases hs with rfl | rfl <;> omega) (by omega) (by omega)
    rwa [(l_ymi m1 m2).1, (l_ymi m1 m2).2] at this
  have la3 : ∀ k : Int, 0 ≤ k → k ≤ 10000000 → Fn 115 [] [dv y m d, .int .i64 (s * K), .int .i64 (s * (k + 1))] (dv (lY (ymi y m + s * (12 * K + (k + 1)))) (lM (ymi y m + s * (12 * K + (k + 1)))) d) := fun k k0 k1 =>
    zlater y m d (s * K) (s * (k + 1)) _ (by unfold ymi; rcases hs with rfl | rfl <;> omega) (by omega) (by omega) m1 m2 (by rcases hs with rfl | rfl <;> omega) (by rcases hs with rfl | rfl <;> omega) (by rcases hs with rfl | rfl <;> omega) (by rcases hs with rfl | rfl <;> omega)
  have lbn3 : ∀ k : Int, 12 * K + (k + 1) ≤ N → Fn 128 [] [dv y m d, dv y' m' d', dv (lY (ymi y m + s * (12 * K + (k + 1)))) (lM (ymi y m + s * (12 * K + (k + 1)))) d] (.bool false) := fun k q => zbey_n s y m d y' m' d' _ _ _ hs e ((fi _).2 q)
  have lby3 : ∀ k : Int, N < 12 * K + (k + 1) → Fn 128 [] [dv y m d, dv y' m' d', dv (lY (ymi y m + s * (12 * K + (k + 1)))) (lM (ymi y m + s * (12 * K + (k + 1)))) d] (.bool true) := fun k q => zbey_y s y m d y' m' d' _ _ _ hs e (Classical.byContradiction fun z => by have := (fi _).1 z; omega)
  have la4 : Fn 115 [] [dv y m d, .int .i64 (s * K), .int .i64 (s * M)] (dv (lY T) (lM T) d) :=
    zlater y m d (s * K) (s * M) T (by unfold ymi at hT; rcases hs with rfl | rfl <;> omega) (by omega) (by omega) m1 m2 (by rcases hs with rfl | rfl <;> omega) (by rcases hs with rfl | rfl <;> omega) (by rcases hs with rfl | rfl <;> omega) (by rcases hs with rfl | rfl <;> omega)
  have fo := (from_ok h h' hs e).1
  unfold fD' fY' fM' at fo
  rw [hN, hT] at fo
  have lr := zreg_cy (lY T) (lM T) d (ymi_l T).2.1 (ymi_l T).2.2 h.1.2.2.1 fo
  have ld3 := zdays_yes (lY T) (lM T) (cD (lY T) (lM T) d) fo
  have b1 := fo.2
  have b2 := h'.2
  have cc := zcmp5 y' m' d' y m d
  rw [e] at cc
  generalize dnum y' m' d' = n' at *
  generalize dnum (lY T) (lM T) (cD (lY T) (lM T) d) = n'' at *
  obtain ⟨D, hD⟩ : ∃ D, s * (y' - y) = D := ⟨_, rfl⟩
  obtain ⟨D2, hD2⟩ : ∃ D2, s * (12 * (y' - (y + s * K)) + m' - m) = D2 := ⟨_, rfl⟩
  have f1 : 0 ≤ D ∧ D ≤ 1000000 ∧ 12 * (D - 1) ≤ N := by
    unfold ymi at gp
    rcases hs with rfl | rfl <;> omega
  have f2 : N - 12 * K ≤ D2 ∧ D2 ≤ N - 12 * K + 1 := by
    unfold ymi at gp
    rcases hs with rfl | rfl <;> omega
  have sK : -1000000 ≤ s * K ∧ s * K ≤ 1000000 := sBd hs (by omega)
  have sM : -1000000 ≤ s * M ∧ s * M ≤ 1000000 := sBd hs (by omega)
  have sU : ∀ k : Int, 0 ≤ k → k ≤ 100000000 → -1000000000 ≤ s * (k + 1) ∧ s * (k + 1) ≤ 1000000000 := fun k k0 k1 => sBd hs (by omega)
  have s0 : s ≠ 0 := by rcases hs with rfl | rfl <;> omega
  rw [hK, hM]
  clear h h' e hN hT fo n1 gp fi hK hM hs
  by_cases c0 : 0 < D
  · obtain ⟨k0, hk0⟩ : ∃ k0, D - 1 = k0 := ⟨_, rfl⟩
    by_cases c1 : 0 < D2
    · obtain ⟨k1, hk1⟩ : ∃ k1, D2 - 1 = k1 := ⟨_, rfl⟩
      refine fn_of Tryz.func70 rfl fun ww => ?_
      refine st_fn ent92 (ld1) sub0 (by kernel_rfl) ?_
      refine st_fn ent92 (ld2) sub0 (by kernel_rfl) ?_
      refine st_fn ent68 (cc) sub0 (by kernel_rfl) ?_
      refine st_b 69 (show (s == 0) = false by exact decide_eq_false (by omega)) (by kernel_rfl) ?_
      refine st_i 78 .i64 (x' := y' - y) (Go.IntWalk.i64_in _ (by omega)) (by kernel_rfl) ?_
      refine st_i 79 IntKind.i64 (x := IntKind.i64.wrap (s * (y' - y))) ((Go.IntWalk.i64_in (s * (y' - y)) (by omega)).trans (hD)) (by kernel_rfl) ?_
      refine st_b 81 (show (decide (D > 0)) = true by exact decide_eq_true (by omega)) (by kernel_rfl) ?_
      refine st_i 83 IntKind.i64 (x := IntKind.i64.wrap (D - 1)) ((Go.IntWalk.i64_in (D - 1) (by omega)).trans (hk0)) (by kernel_rfl) ?_
      refine st_forget [0,1,2,3,4,5,6,7,8,9,10,11,12,13,14,15,16,17,18,19,20,21,22,23,24,25,26,27,28,29,30,31,32,33,34,35,36,37,38,39,40,41,42,43,44,45,46,47,48,49,50,51,52,53,54,55,56,57,58,59,60,61,62,63,64,65,66,67,68,69,70,71,72,73,74,75,76,77,78,79,80,81,82,83,96,97,98,99,100,101,102,103,104,105,106,107,108,109,110,111,112,113,114,115,116,117,118,119,120,121,122,123,124,125,126,127,128,129,130,131,132,133,134,135,136,137,138,139,140,141,142,143,144,145,146,147,148,149,150,151,152,153,154,155,156,157,158,159,160,161,162,163,164,165] (by kernel_rfl) ?_
      refine st_loop (X := Int) (fun x => ([SV.val (Value.agg #[vI64 y,vI64 m,vI64 d]),SV.val (Value.agg #[vI64 y',vI64 m',vI64 d']),SV.val (vI64 1),SV.ptr 0 0,SV.ptr 1 0,svZ,SV.ptr 2 0,SV.val (vI64 0),SV.val (vI64 (dnum y m d)),svT,SV.val (vI64 n'),svT,SV.ptr 3 0,SV.val (vI64 s),.val (.int .i64 x),svZ,svZ,svZ,svZ,svZ,svZ,svZ,SV.val (Value.tuple #[vI64 (dnum y m d),Value.bool true]),SV.val (Value.agg #[vI64 y,vI64 m,vI64 d]),SV.val (Value.tuple #[vI64 (dnum y m d),Value.bool true]),SV.val (vI64 (dnum y m d)),svT,SV.val (Value.tuple #[vI64 n',Value.bool true]),SV.val (Value.agg #[vI64 y',vI64 m',vI64 d']),SV.val (Value.tuple #[vI64 n',Value.bool true]),SV.val (vI64 n'),svT,svT,svF,svF,svT,svF,svF,svF,SV.val (vI64 1),svF,svF,svF,SV.val (vI64 1),svF,svF,svZ,SV.val (vI64 1),svF,svZ,svZ,svZ,svZ,SV.val (vI64 1),svF,svZ,svZ,svZ,svZ,svZ,svZ,svZ,svZ,svZ,SV.val (Value.agg #[vI64 0,vI64 0,vI64 0,vI64 0,vI64 0,vI64 0,vI64 0,vI64 0]),SV.val (Value.agg #[vI64 y',vI64 m',vI64 d']),SV.val (Value.agg #[vI64 y,vI64 m,vI64 d]),SV.val (vI64 s),SV.val (vI64 s),svF,svZ,SV.val (vI64 1),svT,SV.val (vI64 s),SV.ptr 1 0,SV.val (vI64 y'),SV.ptr 0 0,SV.val (vI64 y),SV.val (vI64 (y' - y)),SV.val (vI64 D),SV.val (vI64 D),svT,SV.val (vI64 D),SV.val (vI64 k0),.any,.any,.any,.any,.any,.any,.any,.any,.any,.any,.any,.any,svZ,svZ,svZ,svZ,svZ,svZ,svZ,svZ,svZ,svZ,svZ,svZ,svZ,svZ,svZ,svZ,svZ,svZ,svZ,svZ,svZ,svZ,svZ,svZ,svZ,svZ,svZ,svZ,svZ,svZ,svZ,svZ,svZ,svZ,svZ,svZ,svZ,svZ,svZ,svZ,svZ,svZ,svZ,svZ,svZ,svZ,svZ,svZ,svZ,svZ,svZ,svZ,svZ,svZ,svZ,svZ,svZ,svZ,svZ,svZ,svZ,svZ,svZ,svZ,svZ,svZ,svZ,svZ,svZ,svZ],[⟨[SV.val (vI64 y),SV.val (vI64 m),SV.val (vI64 d)],26⟩,⟨[SV.val (vI64 y'),SV.val (vI64 m'),SV.val (vI64 d')],26⟩,⟨[SV.val (vI64 0),SV.val (vI64 0),SV.val (vI64 0),SV.val (vI64 0),SV.val (vI64 0),SV.val (vI64 0),SV.val (vI64 0),SV.val (vI64 0)],43⟩,⟨[SV.val (vI64 0),SV.val (vI64 0),SV.val (vI64 0),SV.val (vI64 0),SV.val (vI64 0),SV.val (vI64 0),SV.val (vI64 0),SV.val (vI64 0)],43⟩])) (fun _ => _) (fun k => 0 ≤ k ∧ 12 * k ≤ N) (fun k => (N - k).toNat) (k0) (by kernel_rfl) (by kernel_rfl) Sub.refl (by first | omega | (simp; omega) | assumption | simp_all) (fun y0 px0 back0 => ?_)
      ((by_cases q0 : 12 * (y0 + 1) ≤ N) <;> have sU0 := sU y0 (by omega) (by omega) <;> have ek0 : ¬ 12 * (y0 + 1) ≤ N → s * y0 = s * K := fun q => by rw [show y0 = K by omega])
      · have _hh := True.intro
        refine st_i 89 .i64 (x' := y0 + 1) (Go.IntWalk.i64_in _ (by omega)) (by kernel_rfl) ?_
        refine st_i 90 .i64 (x' := s * (y0 + 1)) (Go.IntWalk.i64_in _ (by omega)) (by kernel_rfl) ?_
        refine st_fn ent115 (la1 (y0) (by omega) (by omega)) sub0 (by kernel_rfl) ?_
        refine st_fn ent128 (lbn1 (y0) (by assumption)) sub0 (by kernel_rfl) ?_
        refine st_i 95 .i64 (x' := y0 + 1) (Go.IntWalk.i64_in _ (by omega)) (by kernel_rfl) ?_
        refine st_forget [0,1,2,3,4,5,6,7,8,9,10,11,12,13,14,15,16,17,18,19,20,21,22,23,24,25,26,27,28,29,30,31,32,33,34,35,36,37,38,39,40,41,42,43,44,45,46,47,48,49,50,51,52,53,54,55,56,57,58,59,60,61,62,63,64,65,66,67,68,69,70,71,72,73,74,75,76,77,78,79,80,81,82,83,96,97,98,99,100,101,102,103,104,105,106,107,108,109,110,111,112,113,114,115,116,117,118,119,120,121,122,123,124,125,126,127,128,129,130,131,132,133,134,135,136,137,138,139,140,141,142,143,144,145,146,147,148,149,150,151,152,153,154,155,156,157,158,159,160,161,162,163,164,165] (by kernel_rfl) ?_
        exact st_back back0 (y0 + 1) (by first | omega | (simp only []; omega) | (simp; omega)) (by first | omega | (simp only []; omega) | (simp; omega) | assumption | simp_all) (fun p hp => by first | exact hp | simp_all) (by kernel_rfl) (by kernel_rfl) (by kernel_rfl)
      · have _hh := True.intro
        refine st_i 89 .i64 (x' := y0 + 1) (Go.IntWalk.i64_in _ (by omega)) (by kernel_rfl) ?_
        refine st_i 90 .i64 (x' := s * (y0 + 1)) (Go.IntWalk.i64_in _ (by omega)) (by kernel_rfl) ?_
        refine st_fn ent115 (la1 (y0) (by omega) (by omega)) sub0 (by kernel_rfl) ?_
        refine st_fn ent128 (lby1 (y0) (by omega)) sub0 (by kernel_rfl) ?_
        refine st_i 98 IntKind.i64 (x := IntKind.i64.wrap (s * y0)) ((Go.IntWalk.i64_in (s * y0) (by omega)).trans ((ek0 q0))) (by kernel_rfl) ?_
        refine st_fn ent115 (la2) sub0 (by kernel_rfl) ?_
        refine st_i 109 .i64 (x' := y' - (y + s * K)) (Go.IntWalk.i64_in _ (by omega)) (by kernel_rfl) ?_
        refine st_i 110 .i64 (x' := 12 * (y' - (y + s * K))) (Go.IntWalk.i64_in _ (by omega)) (by kernel_rfl) ?_
        refine st_i 113 .i64 (x' := 12 * (y' - (y + s * K)) + m') (Go.IntWalk.i64_in _ (by omega)) (by kernel_rfl) ?_
        refine st_i 116 .i64 (x' := 12 * (y' - (y + s * K)) + m' - m) (Go.IntWalk.i64_in _ (by omega)) (by kernel_rfl) ?_
        refine st_i 117 IntKind.i64 (x := IntKind.i64.wrap (s * (12 * (y' - (y + s * K)) + m' - m))) ((Go.IntWalk.i64_in (s * (12 * (y' - (y + s * K)) + m' - m)) (by omega)).trans (hD2)) (by kernel_rfl) ?_
        refine st_b 119 (show (decide (D2 > 0)) = true by exact decide_eq_true (by omega)) (by kernel_rfl) ?_
        refine st_i 121 IntKind.i64 (x := IntKind.i64.wrap (D2 - 1)) ((Go.IntWalk.i64_in (D2 - 1) (by omega)).trans (hk1)) (by kernel_rfl) ?_
        refine st_forget [0,1,2,3,4,5,6,7,8,9,10,11,12,13,14,15,16,17,18,19,20,21,22,23,24,25,26,27,28,29,30,31,32,33,34,35,36,37,38,39,40,41,42,43,44,45,46,47,48,49,50,51,52,53,54,55,56,57,58,59,60,61,62,63,64,65,66,67,68,69,70,71,72,73,74,75,76,77,78,79,80,81,82,83,84,85,86,87,88,89,90,91,92,93,94,95,96,97,98,99,100,101,102,103,104,105,106,107,108,109,110,111,112,113,114,115,116,117,118,119,120,121,136,137,138,139,140,141,142,143,144,145,146,147,148,149,150,151,152,153,154,155,156,157,158,159,160,161,162,163,164,165] (by kernel_rfl) ?_
        refine st_loop (X := Int) (fun x => ([SV.val (Value.agg #[vI64 y,vI64 m,vI64 d]),SV.val (Value.agg #[vI64 y',vI64 m',vI64 d']),SV.val (vI64 1),SV.ptr 0 0,SV.ptr 1 0,svZ,SV.ptr 2 0,SV.val (vI64 0),SV.val (vI64 (dnum y m d)),svT,SV.val (vI64 n'),svT,SV.ptr 3 0,SV.val (vI64 s),SV.val (vI64 y0),SV.ptr 4 0,.val (.int .i64 x),svZ,svZ,svZ,svZ,svZ,SV.val (Value.tuple #[vI64 (dnum y m d),Value.bool true]),SV.val (Value.agg #[vI64 y,vI64 m,vI64 d]),SV.val (Value.tuple #[vI64 (dnum y m d),Value.bool true]),SV.val (vI64 (dnum y m d)),svT,SV.val (Value.tuple #[vI64 n',Value.bool true]),SV.val (Value.agg #[vI64 y',vI64 m',vI64 d']),SV.val (Value.tuple #[vI64 n',Value.bool true]),SV.val (vI64 n'),svT,svT,svF,svF,svT,svF,svF,svF,SV.val (vI64 1),svF,svF,svF,SV.val (vI64 1),svF,svF,svZ,SV.val (vI64 1),svF,svZ,svZ,svZ,svZ,SV.val (vI64 1),svF,svZ,svZ,svZ,svZ,svZ,svZ,svZ,svZ,svZ,SV.val (Value.agg #[vI64 0,vI64 0,vI64 0,vI64 0,vI64 0,vI64 0,vI64 0,vI64 0]),SV.val (Value.agg #[vI64 y',vI64 m',vI64 d']),SV.val (Value.agg #[vI64 y,vI64 m,vI64 d]),SV.val (vI64 s),SV.val (vI64 s),svF,svZ,SV.val (vI64 1),svT,SV.val (vI64 s),SV.ptr 1 0,SV.val (vI64 y'),SV.ptr 0 0,SV.val (vI64 y),SV.val (vI64 (y' - y)),SV.val (vI64 D),SV.val (vI64 D),svT,SV.val (vI64 D),SV.val (vI64 k0),SV.val (Value.agg #[vI64 y,vI64 m,vI64 d]),SV.val (Value.agg #[vI64 y',vI64 m',vI64 d']),SV.val (Value.agg #[vI64 y,vI64 m,vI64 d]),SV.val (vI64 s),SV.val (vI64 y0),SV.val (vI64 (y0 + 1)),SV.val (vI64 (s * (y0 + 1))),SV.val (Value.agg #[vI64 (lY (ymi y m + s * (12 * (y0 + 1)))),vI64 (lM (ymi y m + s * (12 * (y0 + 1)))),vI64 d]),svT,svF,SV.any,SV.any,SV.val (vI64 s),SV.val (vI64 y0),SV.val (vI64 (s * K)),SV.ptr 3 0,SV.val (Value.agg #[vI64 y,vI64 m,vI64 d]),SV.ptr 3 0,SV.val (vI64 (s * K)),SV.val (Value.agg #[vI64 (y + s * K),vI64 m,vI64 d]),SV.val (vI64 s),SV.ptr 1 0,SV.val (vI64 y'),SV.ptr 4 0,SV.val (vI64 (y + s * K)),SV.val (vI64 (y' - (y + s * K))),SV.val (vI64 (12 * (y' - (y + s * K)))),SV.ptr 1 1,SV.val (vI64 m'),SV.val (vI64 (12 * (y' - (y + s * K)) + m')),SV.ptr 4 1,SV.val (vI64 m),SV.val (vI64 (12 * (y' - (y + s * K)) + m' - m)),SV.val (vI64 D2),SV.val (vI64 D2),svT,SV.val (vI64 D2),SV.val (vI64 k1),.any,.any,.any,.any,.any,.any,.any,.any,.any,.any,.any,.any,.any,.any,svZ,svZ,svZ,svZ,svZ,svZ,svZ,svZ,svZ,svZ,svZ,svZ,svZ,svZ,svZ,svZ,svZ,svZ,svZ,svZ,svZ,svZ,svZ,svZ,svZ,svZ,svZ,svZ,svZ,svZ],[⟨[SV.val (vI64 y),SV.val (vI64 m),SV.val (vI64 d)],26⟩,⟨[SV.val (vI64 y'),SV.val (vI64 m'),SV.val (vI64 d')],26⟩,⟨[SV.val (vI64 0),SV.val (vI64 0),SV.val (vI64 0),SV.val (vI64 0),SV.val (vI64 0),SV.val (vI64 0),SV.val (vI64 0),SV.val (vI64 0)],43⟩,⟨[SV.val (vI64 (s * K)),SV.val (vI64 0),SV.val (vI64 0),SV.val (vI64 0),SV.val (vI64 0),SV.val (vI64 0),SV.val (vI64 0),SV.val (vI64 0)],43⟩,⟨[SV.val (vI64 (y + s * K)),SV.val (vI64 m),SV.val (vI64 d)],26⟩])) (fun _ => _) (fun k => 0 ≤ k ∧ 12 * K + k ≤ N) (fun k => (N - k).toNat) (k1) (by kernel_rfl) (by kernel_rfl) Sub.refl (by first | omega | (simp; omega) | assumption | simp_all) (fun y1 px1 back1 => ?_)
        ((by_cases q1 : 12 * K + (y1 + 1) ≤ N) <;> have sU1 := sU y1 (by omega) (by omega) <;> have ek1 : ¬ 12 * K + (y1 + 1) ≤ N → s * y1 = s * M := fun q => by rw [show y1 = M by omega])
        · have _hh := True.intro
          refine st_i 129 .i64 (x' := y1 + 1) (Go.IntWalk.i64_in _ (by omega)) (by kernel_rfl) ?_
          refine st_i 130 .i64 (x' := s * (y1 + 1)) (Go.IntWalk.i64_in _ (by omega)) (by kernel_rfl) ?_
          refine st_fn ent115 (la3 (y1) (by omega) (by omega)) sub0 (by kernel_rfl) ?_
          refine st_fn ent128 (lbn3 (y1) (by assumption)) sub0 (by kernel_rfl) ?_
          refine st_i 135 .i64 (x' := y1 + 1) (Go.IntWalk.i64_in _ (by omega)) (by kernel_rfl) ?_
          refine st_forget [0,1,2,3,4,5,6,7,8,9,10,11,12,13,14,15,16,17,18,19,20,21,22,23,24,25,26,27,28,29,30,31,32,33,34,35,36,37,38,39,40,41,42,43,44,45,46,47,48,49,50,51,52,53,54,55,56,57,58,59,60,61,62,63,64,65,66,67,68,69,70,71,72,73,74,75,76,77,78,79,80,81,82,83,84,85,86,87,88,89,90,91,92,93,94,95,96,97,98,99,100,101,102,103,104,105,106,107,108,109,110,111,112,113,114,115,116,117,118,119,120,121,136,137,138,139,140,141,142,143,144,145,146,147,148,149,150,151,152,153,154,155,156,157,158,159,160,161,162,163,164,165] (by kernel_rfl) ?_
          exact st_back back1 (y1 + 1) (by first | omega | (simp only []; omega) | (simp; omega)) (by first | omega | (simp only []; omega) | (simp; omega) | assumption | simp_all) (fun p hp => by first | exact hp | simp_all) (by kernel_rfl) (by kernel_rfl) (by kernel_rfl)
        · have _hh := True.intro
          refine st_i 129 .i64 (x' := y1 + 1) (Go.IntWalk.i64_in _ (by omega)) (by kernel_rfl) ?_
          refine st_i 130 .i64 (x' := s * (y1 + 1)) (Go.IntWalk.i64_in _ (by omega)) (by kernel_rfl) ?_
          refine st_fn ent115 (la3 (y1) (by omega) (by omega)) sub0 (by kernel_rfl) ?_
          refine st_fn ent128 (lby3 (y1) (by omega)) sub0 (by kernel_rfl) ?_
          refine st_i 138 IntKind.i64 (x := IntKind.i64.wrap (s * y1)) ((Go.IntWalk.i64_in (s * y1) (by omega)).trans ((ek1 q1))) (by kernel_rfl) ?_
          refine st_fn ent115 (la4) sub0 (by kernel_rfl) ?_
          refine st_fn ent116 (lr) sub0 (by kernel_rfl) ?_
          refine st_fn ent92 (ld3) sub0 (by kernel_rfl) ?_
          refine st_i 163 .i64 (x' := n' - n'') (Go.IntWalk.i64_in _ (by omega)) (by kernel_rfl) ?_
          exact st_ret Tryz.func70 (by kernel_rfl)
    · obtain ⟨k1, hk1⟩ : ∃ k1, k1 = D2 := ⟨_, rfl⟩
      refine fn_of Tryz.func70 rfl fun ww => ?_
      refine st_fn ent92 (ld1) sub0 (by kernel_rfl) ?_
      refine st_fn ent92 (ld2) sub0 (by kernel_rfl) ?_
      refine st_fn ent68 (cc) sub0 (by kernel_rfl) ?_
      refine st_b 69 (show (s == 0) = false by exact decide_eq_false (by omega)) (by kernel_rfl) ?_
      refine st_i 78 .i64 (x' := y' - y) (Go.IntWalk.i64_in _ (by omega)) (by kernel_rfl) ?_
      refine st_i 79 IntKind.i64 (x := IntKind.i64.wrap (s * (y' - y))) ((Go.IntWalk.i64_in (s * (y' - y)) (by omega)).trans (hD)) (by kernel_rfl) ?_
      refine st_b 81 (show (decide (D > 0)) = true by exact decide_eq_true (by omega)) (by kernel_rfl) ?_
      refine st_i 83 IntKind.i64 (x := IntKind.i64.wrap (D - 1)) ((Go.IntWalk.i64_in (D - 1) (by omega)).trans (hk0)) (by kernel_rfl) ?_
      refine st_forget [0,1,2,3,4,5,6,7,8,9,10,11,12,13,14,15,16,17,18,19,20,21,22,23,24,25,26,27,28,29,30,31,32,33,34,35,36,37,38,39,40,41,42,43,44,45,46,47,48,49,50,51,52,53,54,55,56,57,58,59,60,61,62,63,64,65,66,67,68,69,70,71,72,73,74,75,76,77,78,79,80,81,82,83,96,97,98,99,100,101,102,103,104,105,106,107,108,109,110,111,112,113,114,115,116,117,118,119,120,121,122,123,124,125,126,127,128,129,130,131,132,133,134,135,136,137,138,139,140,141,142,143,144,145,146,147,148,149,150,151,152,153,154,155,156,157,158,159,160,161,162,163,164,165] (by kernel_rfl) ?_
      refine st_loop (X := Int) (fun x => ([SV.val (Value.agg #[vI64 y,vI64 m,vI64 d]),SV.val (Value.agg #[vI64 y',vI64 m',vI64 d']),SV.val (vI64 1),SV.ptr 0 0,SV.ptr 1 0,svZ,SV.ptr 2 0,SV.val (vI64 0),SV.val (vI64 (dnum y m d)),svT,SV.val (vI64 n'),svT,SV.ptr 3 0,SV.val (vI64 s),.val (.int .i64 x),svZ,svZ,svZ,svZ,svZ,svZ,svZ,SV.val (Value.tuple #[vI64 (dnum y m d),Value.bool true]),SV.val (Value.agg #[vI64 y,vI64 m,vI64 d]),SV.val (Value.tuple #[vI64 (dnum y m d),Value.bool true]),SV.val (vI64 (dnum y m d)),svT,SV.val (Value.tuple #[vI64 n',Value.bool true]),SV.val (Value.agg #[vI64 y',vI64 m',vI64 d']),SV.val (Value.tuple #[vI64 n',Value.bool true]),SV.val (vI64 n'),svT,svT,svF,svF,svT,svF,svF,svF,SV.val (vI64 1),svF,svF,svF,SV.val (vI64 1),svF,svF,svZ,SV.val (vI64 1),svF,svZ,svZ,svZ,svZ,SV.val (vI64 1),svF,svZ,svZ,svZ,svZ,svZ,svZ,svZ,svZ,svZ,SV.val (Value.agg #[vI64 0,vI64 0,vI64 0,vI64 0,vI64 0,vI64 0,vI64 0,vI64 0]),SV.val (Value.agg #[vI64 y',vI64 m',vI64 d']),SV.val (Value.agg #[vI64 y,vI64 m,vI64 d]),SV.val (vI64 s),SV.val (vI64 s),svF,svZ,SV.val (vI64 1),svT,SV.val (vI64 s),SV.ptr 1 0,SV.val (vI64 y'),SV.ptr 0 0,SV.val (vI64 y),SV.val (vI64 (y' - y)),SV.val (vI64 D),SV.val (vI64 D),svT,SV.val (vI64 D),SV.val (vI64 k0),.any,.any,.any,.any,.any,.any,.any,.any,.any,.any,.any,.any,svZ,svZ,svZ,svZ,svZ,svZ,svZ,svZ,svZ,svZ,svZ,svZ,svZ,svZ,svZ,svZ,svZ,svZ,svZ,svZ,svZ,svZ,svZ,svZ,svZ,svZ,svZ,svZ,svZ,svZ,svZ,svZ,svZ,svZ,svZ,svZ,svZ,svZ,svZ,svZ,svZ,svZ,svZ,svZ,svZ,svZ,svZ,svZ,svZ,svZ,svZ,svZ,svZ,svZ,svZ,svZ,svZ,svZ,svZ,svZ,svZ,svZ,svZ,svZ,svZ,svZ,svZ,svZ,svZ,svZ],[⟨[SV.val (vI64 y),SV.val (vI64 m),SV.val (vI64 d)],26⟩,⟨[SV.val (vI64 y'),SV.val (vI64 m'),SV.val (vI64 d')],26⟩,⟨[SV.val (vI64 0),SV.val (vI64 0),SV.val (vI64 0),SV.val (vI64 0),SV.val (vI64 0),SV.val (vI64 0),SV.val (vI64 0),SV.val (vI64 0)],43⟩,⟨[SV.val (vI64 0),SV.val (vI64 0),SV.val (vI64 0),SV.val (vI64 0),SV.val (vI64 0),SV.val (vI64 0),SV.val (vI64 0),SV.val (vI64 0)],43⟩])) (fun _ => _) (fun k => 0 ≤ k ∧ 12 * k ≤ N) (fun k => (N - k).toNat) (k0) (by kernel_rfl) (by kernel_rfl) Sub.refl (by first | omega | (simp; omega) | assumption | simp_all) (fun y0 px0 back0 => ?_)
      ((by_cases q0 : 12 * (y0 + 1) ≤ N) <;> have sU0 := sU y0 (by omega) (by omega) <;> have ek0 : ¬ 12 * (y0 + 1) ≤ N → s * y0 = s * K := fun q => by rw [show y0 = K by omega])
      · have _hh := True.intro
        refine st_i 89 .i64 (x' := y0 + 1) (Go.IntWalk.i64_in _ (by omega)) (by kernel_rfl) ?_
        refine st_i 90 .i64 (x' := s * (y0 + 1)) (Go.IntWalk.i64_in _ (by omega)) (by kernel_rfl) ?_
        refine st_fn ent115 (la1 (y0) (by omega) (by omega)) sub0 (by kernel_rfl) ?_
        refine st_fn ent128 (lbn1 (y0) (by assumption)) sub0 (by kernel_rfl) ?_
        refine st_i 95 .i64 (x' := y0 + 1) (Go.IntWalk.i64_in _ (by omega)) (by kernel_rfl) ?_
        refine st_forget [0,1,2,3,4,5,6,7,8,9,10,11,12,13,14,15,16,17,18,19,20,21,22,23,24,25,26,27,28,29,30,31,32,33,34,35,36,37,38,39,40,41,42,43,44,45,46,47,48,49,50,51,52,53,54,55,56,57,58,59,60,61,62,63,64,65,66,67,68,69,70,71,72,73,74,75,76,77,78,79,80,81,82,83,96,97,98,99,100,101,102,103,104,105,106,107,108,109,110,111,112,113,114,115,116,117,118,119,120,121,122,123,124,125,126,127,128,129,130,131,132,133,134,135,136,137,138,139,140,141,142,143,144,145,146,147,148,149,150,151,152,153,154,155,156,157,158,159,160,161,162,163,164,165] (by kernel_rfl) ?_
        exact st_back back0 (y0 + 1) (by first | omega | (simp only []; omega) | (simp; omega)) (by first | omega | (simp only []; omega) | (simp; omega) | assumption | simp_all) (fun p hp => by first | exact hp | simp_all) (by kernel_rfl) (by kernel_rfl) (by kernel_rfl)
      · have _hh := True.intro
        refine st_i 89 .i64 (x' := y0 + 1) (Go.IntWalk.i64_in _ (by omega)) (by kernel_rfl) ?_
        refine st_i 90 .i64 (x' := s * (y0 + 1)) (Go.IntWalk.i64_in _ (by omega)) (by kernel_rfl) ?_
        refine st_fn ent115 (la1 (y0) (by omega) (by omega)) sub0 (by kernel_rfl) ?_
        refine st_fn ent128 (lby1 (y0) (by omega)) sub0 (by kernel_rfl) ?_
        refine st_i 98 IntKind.i64 (x := IntKind.i64.wrap (s * y0)) ((Go.IntWalk.i64_in (s * y0) (by omega)).trans ((ek0 q0))) (by kernel_rfl) ?_
        refine st_fn ent115 (la2) sub0 (by kernel_rfl) ?_
        refine st_i 109 .i64 (x' := y' - (y + s * K)) (Go.IntWalk.i64_in _ (by omega)) (by kernel_rfl) ?_
        refine st_i 110 .i64 (x' := 12 * (y' - (y + s * K))) (Go.IntWalk.i64_in _ (by omega)) (by kernel_rfl) ?_
        refine st_i 113 .i64 (x' := 12 * (y' - (y + s * K)) + m') (Go.IntWalk.i64_in _ (by omega)) (by kernel_rfl) ?_
        refine st_i 116 .i64 (x' := 12 * (y' - (y + s * K)) + m' - m) (Go.IntWalk.i64_in _ (by omega)) (by kernel_rfl) ?_
        refine st_i 117 IntKind.i64 (x := IntKind.i64.wrap (s * (12 * (y' - (y + s * K)) + m' - m))) ((Go.IntWalk.i64_in (s * (12 * (y' - (y + s * K)) + m' - m)) (by omega)).trans ((hD2.trans hk1.symm))) (by kernel_rfl) ?_
        refine st_b 119 (show (decide (k1 > 0)) = false by exact decide_eq_false (by omega)) (by kernel_rfl) ?_
        refine st_forget [0,1,2,3,4,5,6,7,8,9,10,11,12,13,14,15,16,17,18,19,20,21,22,23,24,25,26,27,28,29,30,31,32,33,34,35,36,37,38,39,40,41,42,43,44,45,46,47,48,49,50,51,52,53,54,55,56,57,58,59,60,61,62,63,64,65,66,67,68,69,70,71,72,73,74,75,76,77,78,79,80,81,82,83,84,85,86,87,88,89,90,91,92,93,94,95,96,97,98,99,100,101,102,103,104,105,106,107,108,109,110,111,112,113,114,115,116,117,118,119,120,121,136,137,138,139,140,141,142,143,144,145,146,147,148,149,150,151,152,153,154,155,156,157,158,159,160,161,162,163,164,165] (by kernel_rfl) ?_
        refine st_loop (X := Int) (fun x => ([SV.val (Value.agg #[vI64 y,vI64 m,vI64 d]),SV.val (Value.agg #[vI64 y',vI64 m',vI64 d']),SV.val (vI64 1),SV.ptr 0 0,SV.ptr 1 0,svZ,SV.ptr 2 0,SV.val (vI64 0),SV.val (vI64 (dnum y m d)),svT,SV.val (vI64 n'),svT,SV.ptr 3 0,SV.val (vI64 s),SV.val (vI64 y0),SV.ptr 4 0,.val (.int .i64 x),svZ,svZ,svZ,svZ,svZ,SV.val (Value.tuple #[vI64 (dnum y m d),Value.bool true]),SV.val (Value.agg #[vI64 y,vI64 m,vI64 d]),SV.val (Value.tuple #[vI64 (dnum y m d),Value.bool true]),SV.val (vI64 (dnum y m d)),svT,SV.val (Value.tuple #[vI64 n',Value.bool true]),SV.val (Value.agg #[vI64 y',vI64 m',vI64 d']),SV.val (Value.tuple #[vI64 n',Value.bool true]),SV.val (vI64 n'),svT,svT,svF,svF,svT,svF,svF,svF,SV.val (vI64 1),svF,svF,svF,SV.val (vI64 1),svF,svF,svZ,SV.val (vI64 1),svF,svZ,svZ,svZ,svZ,SV.val (vI64 1),svF,svZ,svZ,svZ,svZ,svZ,svZ,svZ,svZ,svZ,SV.val (Value.agg #[vI64 0,vI64 0,vI64 0,vI64 0,vI64 0,vI64 0,vI64 0,vI64 0]),SV.val (Value.agg #[vI64 y',vI64 m',vI64 d']),SV.val (Value.agg #[vI64 y,vI64 m,vI64 d]),SV.val (vI64 s),SV.val (vI64 s),svF,svZ,SV.val (vI64 1),svT,SV.val (vI64 s),SV.ptr 1 0,SV.val (vI64 y'),SV.ptr 0 0,SV.val (vI64 y),SV.val (vI64 (y' - y)),SV.val (vI64 D),SV.val (vI64 D),svT,SV.val (vI64 D),SV.val (vI64 k0),SV.val (Value.agg #[vI64 y,vI64 m,vI64 d]),SV.val (Value.agg #[vI64 y',vI64 m',vI64 d']),SV.val (Value.agg #[vI64 y,vI64 m,vI64 d]),SV.val (vI64 s),SV.val (vI64 y0),SV.val (vI64 (y0 + 1)),SV.val (vI64 (s * (y0 + 1))),SV.val (Value.agg #[vI64 (lY (ymi y m + s * (12 * (y0 + 1)))),vI64 (lM (ymi y m + s * (12 * (y0 + 1)))),vI64 d]),svT,svF,SV.any,SV.any,SV.val (vI64 s),SV.val (vI64 y0),SV.val (vI64 (s * K)),SV.ptr 3 0,SV.val (Value.agg #[vI64 y,vI64 m,vI64 d]),SV.ptr 3 0,SV.val (vI64 (s * K)),SV.val (Value.agg #[vI64 (y + s * K),vI64 m,vI64 d]),SV.val (vI64 s),SV.ptr 1 0,SV.val (vI64 y'),SV.ptr 4 0,SV.val (vI64 (y + s * K)),SV.val (vI64 (y' - (y + s * K))),SV.val (vI64 (12 * (y' - (y + s * K)))),SV.ptr 1 1,SV.val (vI64 m'),SV.val (vI64 (12 * (y' - (y + s * K)) + m')),SV.ptr 4 1,SV.val (vI64 m),SV.val (vI64 (12 * (y' - (y + s * K)) + m' - m)),SV.val (vI64 k1),SV.val (vI64 k1),svF,svZ,svZ,.any,.any,.any,.any,.any,.any,.any,.any,.any,.any,.any,.any,.any,.any,svZ,svZ,svZ,svZ,svZ,svZ,svZ,svZ,svZ,svZ,svZ,svZ,svZ,svZ,svZ,svZ,svZ,svZ,svZ,svZ,svZ,svZ,svZ,svZ,svZ,svZ,svZ,svZ,svZ,svZ],[⟨[SV.val (vI64 y),SV.val (vI64 m),SV.val (vI64 d)],26⟩,⟨[SV.val (vI64 y'),SV.val (vI64 m'),SV.val (vI64 d')],26⟩,⟨[SV.val (vI64 0),SV.val (vI64 0),SV.val (vI64 0),SV.val (vI64 0),SV.val (vI64 0),SV.val (vI64 0),SV.val (vI64 0),SV.val (vI64 0)],43⟩,⟨[SV.val (vI64 (s * K)),SV.val (vI64 0),SV.val (vI64 0),SV.val (vI64 0),SV.val (vI64 0),SV.val (vI64 0),SV.val (vI64 0),SV.val (vI64 0)],43⟩,⟨[SV.val (vI64 (y + s * K)),SV.val (vI64 m),SV.val (vI64 d)],26⟩])) (fun _ => _) (fun k => 0 ≤ k ∧ 12 * K + k ≤ N) (fun k => (N - k).toNat) (k1) (by kernel_rfl) (by kernel_rfl) Sub.refl (by first | omega | (simp; omega) | assumption | simp_all) (fun y1 px1 back1 => ?_)
        ((by_cases q1 : 12 * K + (y1 + 1) ≤ N) <;> have sU1 := sU y1 (by omega) (by omega) <;> have ek1 : ¬ 12 * K + (y1 + 1) ≤ N → s * y1 = s * M := fun q => by rw [show y1 = M by omega])
        · have _hh := True.intro
          refine st_i 129 .i64 (x' := y1 + 1) (Go.IntWalk.i64_in _ (by omega)) (by kernel_rfl) ?_
          refine st_i 130 .i64 (x' := s * (y1 + 1)) (Go.IntWalk.i64_in _ (by omega)) (by kernel_rfl) ?_
          refine st_fn ent115 (la3 (y1) (by omega) (by omega)) sub0 (by kernel_rfl) ?_
          refine st_fn ent128 (lbn3 (y1) (by assumption)) sub0 (by kernel_rfl) ?_
          refine st_i 135 .i64 (x' := y1 + 1) (Go.IntWalk.i64_in _ (by omega)) (by kernel_rfl) ?_
          refine st_forget [0,1,2,3,4,5,6,7,8,9,10,11,12,13,14,15,16,17,18,19,20,21,22,23,24,25,26,27,28,29,30,31,32,33,34,35,36,37,38,39,40,41,42,43,44,45,46,47,48,49,50,51,52,53,54,55,56,57,58,59,60,61,62,63,64,65,66,67,68,69,70,71,72,73,74,75,76,77,78,79,80,81,82,83,84,85,86,87,88,89,90,91,92,93,94,95,96,97,98,99,100,101,102,103,104,105,106,107,108,109,110,111,112,113,114,115,116,117,118,119,120,121,136,137,138,139,140,141,142,143,144,145,146,147,148,149,150,151,152,153,154,155,156,157,158,159,160,161,162,163,164,165] (by kernel_rfl) ?_
          exact st_back back1 (y1 + 1) (by first | omega | (simp only []; omega) | (simp; omega)) (by first | omega | (simp only []; omega) | (simp; omega) | assumption | simp_all) (fun p hp => by first | exact hp | simp_all) (by kernel_rfl) (by kernel_rfl) (by kernel_rfl)
        · have _hh := True.intro
          refine st_i 129 .i64 (x' := y1 + 1) (Go.IntWalk.i64_in _ (by omega)) (by kernel_rfl) ?_
          refine st_i 130 .i64 (x' := s * (y1 + 1)) (Go.IntWalk.i64_in _ (by omega)) (by kernel_rfl) ?_
          refine st_fn ent115 (la3 (y1) (by omega) (by omega)) sub0 (by kernel_rfl) ?_
          refine st_fn ent128 (lby3 (y1) (by omega)) sub0 (by kernel_rfl) ?_
          refine st_i 138 IntKind.i64 (x := IntKind.i64.wrap (s * y1)) ((Go.IntWalk.i64_in (s * y1) (by omega)).trans ((ek1 q1))) (by kernel_rfl) ?_
          refine st_fn ent115 (la4) sub0 (by kernel_rfl) ?_
          refine st_fn ent116 (lr) sub0 (by kernel_rfl) ?_
          refine st_fn ent92 (ld3) sub0 (by kernel_rfl) ?_
          refine st_i 163 .i64 (x' := n' - n'') (Go.IntWalk.i64_in _ (by omega)) (by kernel_rfl) ?_
          exact st_ret Tryz.func70 (by kernel_rfl)
  · obtain ⟨k0, hk0⟩ : ∃ k0, k0 = D := ⟨_, rfl⟩
    by_cases c1 : 0 < D2
    · obtain ⟨k1, hk1⟩ : ∃ k1, D2 - 1 = k1 := ⟨_, rfl⟩
      refine fn_of Tryz.func70 rfl fun ww => ?_
      refine st_fn ent92 (ld1) sub0 (by kernel_rfl) ?_
      refine st_fn ent92 (ld2) sub0 (by kernel_rfl) ?_
      refine st_fn ent68 (cc) sub0 (by kernel_rfl) ?_
      refine st_b 69 (show (s == 0) = false by exact decide_eq_false (by omega)) (by kernel_rfl) ?_
      refine st_i 78 .i64 (x' := y' - y) (Go.IntWalk.i64_in _ (by omega)) (by kernel_rfl) ?_
      refine st_i 79 IntKind.i64 (x := IntKind.i64.wrap (s * (y' - y))) ((Go.IntWalk.i64_in (s * (y' - y)) (by omega)).trans ((hD.trans hk0.symm))) (by kernel_rfl) ?_
      refine st_b 81 (show (decide (k0 > 0)) = false by exact decide_eq_false (by omega)) (by kernel_rfl) ?_
      refine st_forget [0,1,2,3,4,5,6,7,8,9,10,11,12,13,14,15,16,17,18,19,20,21,22,23,24,25,26,27,28,29,30,31,32,33,34,35,36,37,38,39,40,41,42,43,44,45,46,47,48,49,50,51,52,53,54,55,56,57,58,59,60,61,62,63,64,65,66,67,68,69,70,71,72,73,74,75,76,77,78,79,80,81,82,83,96,97,98,99,100,101,102,103,104,105,106,107,108,109,110,111,112,113,114,115,116,117,118,119,120,121,122,123,124,125,126,127,128,129,130,131,132,133,134,135,136,137,138,139,140,141,142,143,144,145,146,147,148,149,150,151,152,153,154,155,156,157,158,159,160,161,162,163,164,165] (by kernel_rfl) ?_
      refine st_loop (X := Int) (fun x => ([SV.val (Value.agg #[vI64 y,vI64 m,vI64 d]),SV.val (Value.agg #[vI64 y',vI64 m',vI64 d']),SV.val (vI64 1),SV.ptr 0 0,SV.ptr 1 0,svZ,SV.ptr 2 0,SV.val (vI64 0),SV.val (vI64 (dnum y m d)),svT,SV.val (vI64 n'),svT,SV.ptr 3 0,SV.val (vI64 s),.val (.int .i64 x),svZ,svZ,svZ,svZ,svZ,svZ,svZ,SV.val (Value.tuple #[vI64 (dnum y m d),Value.bool true]),SV.val (Value.agg #[vI64 y,vI64 m,vI64 d]),SV.val (Value.tuple #[vI64 (dnum y m d),Value.bool true]),SV.val (vI64 (dnum y m d)),svT,SV.val (Value.tuple #[vI64 n',Value.bool true]),SV.val (Value.agg #[vI64 y',vI64 m',vI64 d']),SV.val (Value.tuple #[vI64 n',Value.bool true]),SV.val (vI64 n'),svT,svT,svF,svF,svT,svF,svF,svF,SV.val (vI64 1),svF,svF,svF,SV.val (vI64 1),svF,svF,svZ,SV.val (vI64 1),svF,svZ,svZ,svZ,svZ,SV.val (vI64 1),svF,svZ,svZ,svZ,svZ,svZ,svZ,svZ,svZ,svZ,SV.val (Value.agg #[vI64 0,vI64 0,vI64 0,vI64 0,vI64 0,vI64 0,vI64 0,vI64 0]),SV.val (Value.agg #[vI64 y',vI64 m',vI64 d']),SV.val (Value.agg #[vI64 y,vI64 m,vI64 d]),SV.val (vI64 s),SV.val (vI64 s),svF,svZ,SV.val (vI64 1),svT,SV.val (vI64 s),SV.ptr 1 0,SV.val (vI64 y'),SV.ptr 0 0,SV.val (vI64 y),SV.val (vI64 (y' - y)),SV.val (vI64 k0),SV.val (vI64 k0),svF,svZ,svZ,.any,.any,.any,.any,.any,.any,.any,.any,.any,.any,.any,.any,svZ,svZ,svZ,svZ,svZ,svZ,svZ,svZ,svZ,svZ,svZ,svZ,svZ,svZ,svZ,svZ,svZ,svZ,svZ,svZ,svZ,svZ,svZ,svZ,svZ,svZ,svZ,svZ,svZ,svZ,svZ,svZ,svZ,svZ,svZ,svZ,svZ,svZ,svZ,svZ,svZ,svZ,svZ,svZ,svZ,svZ,svZ,svZ,svZ,svZ,svZ,svZ,svZ,svZ,svZ,svZ,svZ,svZ,svZ,svZ,svZ,svZ,svZ,svZ,svZ,svZ,svZ,svZ,svZ,svZ],[⟨[SV.val (vI64 y),SV.val (vI64 m),SV.val (vI64 d)],26⟩,⟨[SV.val (vI64 y'),SV.val (vI64 m'),SV.val (vI64 d')],26⟩,⟨[SV.val (vI64 0),SV.val (vI64 0),SV.val (vI64 0),SV.val (vI64 0),SV.val (vI64 0),SV.val (vI64 0),SV.val (vI64 0),SV.val (vI64 0)],43⟩,⟨[SV.val (vI64 0),SV.val (vI64 0),SV.val (vI64 0),SV.val (vI64 0),SV.val (vI64 0),SV.val (vI64 0),SV.val (vI64 0),SV.val (vI64 0)],43⟩])) (fun _ => _) (fun k => 0 ≤ k ∧ 12 * k ≤ N) (fun k => (N - k).toNat) (k0) (by kernel_rfl) (by kernel_rfl) Sub.refl (by first | omega | (simp; omega) | assumption | simp_all) (fun y0 px0 back0 => ?_)
      ((by_cases q0 : 12 * (y0 + 1) ≤ N) <;> have sU0 := sU y0 (by omega) (by omega) <;> have ek0 : ¬ 12 * (y0 + 1) ≤ N → s * y0 = s * K := fun q => by rw [show y0 = K by omega])
      · have _hh := True.intro
        refine st_i 89 .i64 (x' := y0 + 1) (Go.IntWalk.i64_in _ (by omega)) (by kernel_rfl) ?_
        refine st_i 90 .i64 (x' := s * (y0 + 1)) (Go.IntWalk.i64_in _ (by omega)) (by kernel_rfl) ?_
        refine st_fn ent115 (la1 (y0) (by omega) (by omega)) sub0 (by kernel_rfl) ?_
        refine st_fn ent128 (lbn1 (y0) (by assumption)) sub0 (by kernel_rfl) ?_
        refine st_i 95 .i64 (x' := y0 + 1) (Go.IntWalk.i64_in _ (by omega)) (by kernel_rfl) ?_
        refine st_forget [0,1,2,3,4,5,6,7,8,9,10,11,12,13,14,15,16,17,18,19,20,21,22,23,24,25,26,27,28,29,30,31,32,33,34,35,36,37,38,39,40,41,42,43,44,45,46,47,48,49,50,51,52,53,54,55,56,57,58,59,60,61,62,63,64,65,66,67,68,69,70,71,72,73,74,75,76,77,78,79,80,81,82,83,96,97,98,99,100,101,102,103,104,105,106,107,108,109,110,111,112,113,114,115,116,117,118,119,120,121,122,123,124,125,126,127,128,129,130,131,132,133,134,135,136,137,138,139,140,141,142,143,144,145,146,147,148,149,150,151,152,153,154,155,156,157,158,159,160,161,162,163,164,165] (by kernel_rfl) ?_
        exact st_back back0 (y0 + 1) (by first | omega | (simp only []; omega) | (simp; omega)) (by first | omega | (simp only []; omega) | (simp; omega) | assumption | simp_all) (fun p hp => by first | exact hp | simp_all) (by kernel_rfl) (by kernel_rfl) (by kernel_rfl)
      · have _hh := True.intro
        refine st_i 89 .i64 (x' := y0 + 1) (Go.IntWalk.i64_in _ (by omega)) (by kernel_rfl) ?_
        refine st_i 90 .i64 (x' := s * (y0 + 1)) (Go.IntWalk.i64_in _ (by omega)) (by kernel_rfl) ?_
        refine st_fn ent115 (la1 (y0) (by omega) (by omega)) sub0 (by kernel_rfl) ?_
        refine st_fn ent128 (lby1 (y0) (by omega)) sub0 (by kernel_rfl) ?_
        refine st_i 98 IntKind.i64 (x := IntKind.i64.wrap (s * y0)) ((Go.IntWalk.i64_in (s * y0) (by omega)).trans ((ek0 q0))) (by kernel_rfl) ?_
        refine st_fn ent115 (la2) sub0 (by kernel_rfl) ?_
        refine st_i 109 .i64 (x' := y' - (y + s * K)) (Go.IntWalk.i64_in _ (by omega)) (by kernel_rfl) ?_
        refine st_i 110 .i64 (x' := 12 * (y' - (y + s * K))) (Go.IntWalk.i64_in _ (by omega)) (by kernel_rfl) ?_
        refine st_i 113 .i64 (x' := 12 * (y' - (y + s * K)) + m') (Go.IntWalk.i64_in _ (by omega)) (by kernel_rfl) ?_
        refine st_i 116 .i64 (x' := 12 * (y' - (y + s * K)) + m' - m) (Go.IntWalk.i64_in _ (by omega)) (by kernel_rfl) ?_
        refine st_i 117 IntKind.i64 (x := IntKind.i64.wrap (s * (12 * (y' - (y + s * K)) + m' - m))) ((Go.IntWalk.i64_in (s * (12 * (y' - (y + s * K)) + m' - m)) (by omega)).trans (hD2)) (by kernel_rfl) ?_
        refine st_b 119 (show (decide (D2 > 0)) = true by exact decide_eq_true (by omega)) (by kernel_rfl) ?_
        refine st_i 121 IntKind.i64 (x := IntKind.i64.wrap (D2 - 1)) ((Go.IntWalk.i64_in (D2 - 1) (by omega)).trans (hk1)) (by kernel_rfl) ?_
        refine st_forget [0,1,2,3,4,5,6,7,8,9,10,11,12,13,14,15,16,17,18,19,20,21,22,23,24,25,26,27,28,29,30,31,32,33,34,35,36,37,38,39,40,41,42,43,44,45,46,47,48,49,50,51,52,53,54,55,56,57,58,59,60,61,62,63,64,65,66,67,68,69,70,71,72,73,74,75,76,77,78,79,80,81,82,83,84,85,86,87,88,89,90,91,92,93,94,95,96,97,98,99,100,101,102,103,104,105,106,107,108,109,110,111,112,113,114,115,116,117,118,119,120,121,136,137,138,139,140,141,142,143,144,145,146,147,148,149,150,151,152,153,154,155,156,157,158,159,160,161,162,163,164,165] (by kernel_rfl) ?_
        refine st_loop (X := Int) (fun x => ([SV.val (Value.agg #[vI64 y,vI64 m,vI64 d]),SV.val (Value.agg #[vI64 y',vI64 m',vI64 d']),SV.val (vI64 1),SV.ptr 0 0,SV.ptr 1 0,svZ,SV.ptr 2 0,SV.val (vI64 0),SV.val (vI64 (dnum y m d)),svT,SV.val (vI64 n'),svT,SV.ptr 3 0,SV.val (vI64 s),SV.val (vI64 y0),SV.ptr 4 0,.val (.int .i64 x),svZ,svZ,svZ,svZ,svZ,SV.val (Value.tuple #[vI64 (dnum y m d),Value.bool true]),SV.val (Value.agg #[vI64 y,vI64 m,vI64 d]),SV.val (Value.tuple #[vI64 (dnum y m d),Value.bool true]),SV.val (vI64 (dnum y m d)),svT,SV.val (Value.tuple #[vI64 n',Value.bool true]),SV.val (Value.agg #[vI64 y',vI64 m',vI64 d']),SV.val (Value.tuple #[vI64 n',Value.bool true]),SV.val (vI64 n'),svT,svT,svF,svF,svT,svF,svF,svF,SV.val (vI64 1),svF,svF,svF,SV.val (vI64 1),svF,svF,svZ,SV.val (vI64 1),svF,svZ,svZ,svZ,svZ,SV.val (vI64 1),svF,svZ,svZ,svZ,svZ,svZ,svZ,svZ,svZ,svZ,SV.val (Value.agg #[vI64 0,vI64 0,vI64 0,vI64 0,vI64 0,vI64 0,vI64 0,vI64 0]),SV.val (Value.agg #[vI64 y',vI64 m',vI64 d']),SV.val (Value.agg #[vI64 y,vI64 m,vI64 d]),SV.val (vI64 s),SV.val (vI64 s),svF,svZ,SV.val (vI64 1),svT,SV.val (vI64 s),SV.ptr 1 0,SV.val (vI64 y'),SV.ptr 0 0,SV.val (vI64 y),SV.val (vI64 (y' - y)),SV.val (vI64 k0),SV.val (vI64 k0),svF,svZ,svZ,SV.val (Value.agg #[vI64 y,vI64 m,vI64 d]),SV.val (Value.agg #[vI64 y',vI64 m',vI64 d']),SV.val (Value.agg #[vI64 y,vI64 m,vI64 d]),SV.val (vI64 s),SV.val (vI64 y0),SV.val (vI64 (y0 + 1)),SV.val (vI64 (s * (y0 + 1))),SV.val (Value.agg #[vI64 (lY (ymi y m + s * (12 * (y0 + 1)))),vI64 (lM (ymi y m + s * (12 * (y0 + 1)))),vI64 d]),svT,svF,SV.any,SV.any,SV.val (vI64 s),SV.val (vI64 y0),SV.val (vI64 (s * K)),SV.ptr 3 0,SV.val (Value.agg #[vI64 y,vI64 m,vI64 d]),SV.ptr 3 0,SV.val (vI64 (s * K)),SV.val (Value.agg #[vI64 (y + s * K),vI64 m,vI64 d]),SV.val (vI64 s),SV.ptr 1 0,SV.val (vI64 y'),SV.ptr 4 0,SV.val (vI64 (y + s * K)),SV.val (vI64 (y' - (y + s * K))),SV.val (vI64 (12 * (y' - (y + s * K)))),SV.ptr 1 1,SV.val (vI64 m'),SV.val (vI64 (12 * (y' - (y + s * K)) + m')),SV.ptr 4 1,SV.val (vI64 m),SV.val (vI64 (12 * (y' - (y + s * K)) + m' - m)),SV.val (vI64 D2),SV.val (vI64 D2),svT,SV.val (vI64 D2),SV.val (vI64 k1),.any,.any,.any,.any,.any,.any,.any,.any,.any,.any,.any,.any,.any,.any,svZ,svZ,svZ,svZ,svZ,svZ,svZ,svZ,svZ,svZ,svZ,svZ,svZ,svZ,svZ,svZ,svZ,svZ,svZ,svZ,svZ,svZ,svZ,svZ,svZ,svZ,svZ,svZ,svZ,svZ],[⟨[SV.val (vI64 y),SV.val (vI64 m),SV.val (vI64 d)],26⟩,⟨[SV.val (vI64 y'),SV.val (vI64 m'),SV.val (vI64 d')],26⟩,⟨[SV.val (vI64 0),SV.val (vI64 0),SV.val (vI64 0),SV.val (vI64 0),SV.val (vI64 0),SV.val (vI64 0),SV.val (vI64 0),SV.val (vI64 0)],43⟩,⟨[SV.val (vI64 (s * K)),SV.val (vI64 0),SV.val (vI64 0),SV.val (vI64 0),SV.val (vI64 0),SV.val (vI64 0),SV.val (vI64 0),SV.val (vI64 0)],43⟩,⟨[SV.val (vI64 (y + s * K)),SV.val (vI64 m),SV.val (vI64 d)],26⟩])) (fun _ => _) (fun k => 0 ≤ k ∧ 12 * K + k ≤ N) (fun k => (N - k).toNat) (k1) (by kernel_rfl) (by kernel_rfl) Sub.refl (by first | omega | (simp; omega) | assumption | simp_all) (fun y1 px1 back1 => ?_)
        ((by_cases q1 : 12 * K + (y1 + 1) ≤ N) <;> have sU1 := sU y1 (by omega) (by omega) <;> have ek1 : ¬ 12 * K + (y1 + 1) ≤ N → s * y1 = s * M := fun q => by rw [show y1 = M by omega])
        · have _hh := True.intro
          refine st_i 129 .i64 (x' := y1 + 1) (Go.IntWalk.i64_in _ (by omega)) (by kernel_rfl) ?_
          refine st_i 130 .i64 (x' := s * (y1 + 1)) (Go.IntWalk.i64_in _ (by omega)) (by kernel_rfl) ?_
          refine st_fn ent115 (la3 (y1) (by omega) (by omega)) sub0 (by kernel_rfl) ?_
          refine st_fn ent128 (lbn3 (y1) (by assumption)) sub0 (by kernel_rfl) ?_
          refine st_i 135 .i64 (x' := y1 + 1) (Go.IntWalk.i64_in _ (by omega)) (by kernel_rfl) ?_
          refine st_forget [0,1,2,3,4,5,6,7,8,9,10,11,12,13,14,15,16,17,18,19,20,21,22,23,24,25,26,27,28,29,30,31,32,33,34,35,36,37,38,39,40,41,42,43,44,45,46,47,48,49,50,51,52,53,54,55,56,57,58,59,60,61,62,63,64,65,66,67,68,69,70,71,72,73,74,75,76,77,78,79,80,81,82,83,84,85,86,87,88,89,90,91,92,93,94,95,96,97,98,99,100,101,102,103,104,105,106,107,108,109,110,111,112,113,114,115,116,117,118,119,120,121,136,137,138,139,140,141,142,143,144,145,146,147,148,149,150,151,152,153,154,155,156,157,158,159,160,161,162,163,164,165] (by kernel_rfl) ?_
          exact st_back back1 (y1 + 1) (by first | omega | (simp only []; omega) | (simp; omega)) (by first | omega | (simp only []; omega) | (simp; omega) | assumption | simp_all) (fun p hp => by first | exact hp | simp_all) (by kernel_rfl) (by kernel_rfl) (by kernel_rfl)
        · have _hh := True.intro
          refine st_i 129 .i64 (x' := y1 + 1) (Go.IntWalk.i64_in _ (by omega)) (by kernel_rfl) ?_
          refine st_i 130 .i64 (x' := s * (y1 + 1)) (Go.IntWalk.i64_in _ (by omega)) (by kernel_rfl) ?_
          refine st_fn ent115 (la3 (y1) (by omega) (by omega)) sub0 (by kernel_rfl) ?_
          refine st_fn ent128 (lby3 (y1) (by omega)) sub0 (by kernel_rfl) ?_
          refine st_i 138 IntKind.i64 (x := IntKind.i64.wrap (s * y1)) ((Go.IntWalk.i64_in (s * y1) (by omega)).trans ((ek1 q1))) (by kernel_rfl) ?_
          refine st_fn ent115 (la4) sub0 (by kernel_rfl) ?_
          refine st_fn ent116 (lr) sub0 (by kernel_rfl) ?_
          refine st_fn ent92 (ld3) sub0 (by kernel_rfl) ?_
          refine st_i 163 .i64 (x' := n' - n'') (Go.IntWalk.i64_in _ (by omega)) (by kernel_rfl) ?_
          exact st_ret Tryz.func70 (by kernel_rfl)
    · obtain ⟨k1, hk1⟩ : ∃ k1, k1 = D2 := ⟨_, rfl⟩
      refine fn_of Tryz.func70 rfl fun ww => ?_
      refine st_fn ent92 (ld1) sub0 (by kernel_rfl) ?_
      refine st_fn ent92 (ld2) sub0 (by kernel_rfl) ?_
      refine st_fn ent68 (cc) sub0 (by kernel_rfl) ?_
      refine st_b 69 (show (s == 0) = false by exact decide_eq_false (by omega)) (by kernel_rfl) ?_
      refine st_i 78 .i64 (x' := y' - y) (Go.IntWalk.i64_in _ (by omega)) (by kernel_rfl) ?_
      refine st_i 79 IntKind.i64 (x := IntKind.i64.wrap (s * (y' - y))) ((Go.IntWalk.i64_in (s * (y' - y)) (by omega)).trans ((hD.trans hk0.symm))) (by kernel_rfl) ?_
      refine st_b 81 (show (decide (k0 > 0)) = false by exact decide_eq_false (by omega)) (by kernel_rfl) ?_
      refine st_forget [0,1,2,3,4,5,6,7,8,9,10,11,12,13,14,15,16,17,18,19,20,21,22,23,24,25,26,27,28,29,30,31,32,33,34,35,36,37,38,39,40,41,42,43,44,45,46,47,48,49,50,51,52,53,54,55,56,57,58,59,60,61,62,63,64,65,66,67,68,69,70,71,72,73,74,75,76,77,78,79,80,81,82,83,96,97,98,99,100,101,102,103,104,105,106,107,108,109,110,111,112,113,114,115,116,117,118,119,120,121,122,123,124,125,126,127,128,129,130,131,132,133,134,135,136,137,138,139,140,141,142,143,144,145,146,147,148,149,150,151,152,153,154,155,156,157,158,159,160,161,162,163,164,165] (by kernel_rfl) ?_
      refine st_loop (X := Int) (fun x => ([SV.val (Value.agg #[vI64 y,vI64 m,vI64 d]),SV.val (Value.agg #[vI64 y',vI64 m',vI64 d']),SV.val (vI64 1),SV.ptr 0 0,SV.ptr 1 0,svZ,SV.ptr 2 0,SV.val (vI64 0),SV.val (vI64 (dnum y m d)),svT,SV.val (vI64 n'),svT,SV.ptr 3 0,SV.val (vI64 s),.val (.int .i64 x),svZ,svZ,svZ,svZ,svZ,svZ,svZ,SV.val (Value.tuple #[vI64 (dnum y m d),Value.bool true]),SV.val (Value.agg #[vI64 y,vI64 m,vI64 d]),SV.val (Value.tuple #[vI64 (dnum y m d),Value.bool true]),SV.val (vI64 (dnum y m d)),svT,SV.val (Value.tuple #[vI64 n',Value.bool true]),SV.val (Value.agg #[vI64 y',vI64 m',vI64 d']),SV.val (Value.tuple #[vI64 n',Value.bool true]),SV.val (vI64 n'),svT,svT,svF,svF,svT,svF,svF,svF,SV.val (vI64 1),svF,svF,svF,SV.val (vI64 1),svF,svF,svZ,SV.val (vI64 1),svF,svZ,svZ,svZ,svZ,SV.val (vI64 1),svF,svZ,svZ,svZ,svZ,svZ,svZ,svZ,svZ,svZ,SV.val (Value.agg #[vI64 0,vI64 0,vI64 0,vI64 0,vI64 0,vI64 0,vI64 0,vI64 0]),SV.val (Value.agg #[vI64 y',vI64 m',vI64 d']),SV.val (Value.agg #[vI64 y,vI64 m,vI64 d]),SV.val (vI64 s),SV.val (vI64 s),svF,svZ,SV.val (vI64 1),svT,SV.val (vI64 s),SV.ptr 1 0,SV.val (vI64 y'),SV.ptr 0 0,SV.val (vI64 y),SV.val (vI64 (y' - y)),SV.val (vI64 k0),SV.val (vI64 k0),svF,svZ,svZ,.any,.any,.any,.any,.any,.any,.any,.any,.any,.any,.any,.any,svZ,svZ,svZ,svZ,svZ,svZ,svZ,svZ,svZ,svZ,svZ,svZ,svZ,svZ,svZ,svZ,svZ,svZ,svZ,svZ,svZ,svZ,svZ,svZ,svZ,svZ,svZ,svZ,svZ,svZ,svZ,svZ,svZ,svZ,svZ,svZ,svZ,svZ,svZ,svZ,svZ,svZ,svZ,svZ,svZ,svZ,svZ,svZ,svZ,svZ,svZ,svZ,svZ,svZ,svZ,svZ,svZ,svZ,svZ,svZ,svZ,svZ,svZ,svZ,svZ,svZ,svZ,svZ,svZ,svZ],[⟨[SV.val (vI64 y),SV.val (vI64 m),SV.val (vI64 d)],26⟩,⟨[SV.val (vI64 y'),SV.val (vI64 m'),SV.val (vI64 d')],26⟩,⟨[SV.val (vI64 0),SV.val (vI64 0),SV.val (vI64 0),SV.val (vI64 0),SV.val (vI64 0),SV.val (vI64 0),SV.val (vI64 0),SV.val (vI64 0)],43⟩,⟨[SV.val (vI64 0),SV.val (vI64 0),SV.val (vI64 0),SV.val (vI64 0),SV.val (vI64 0),SV.val (vI64 0),SV.val (vI64 0),SV.val (vI64 0)],43⟩])) (fun _ => _) (fun k => 0 ≤ k ∧ 12 * k ≤ N) (fun k => (N - k).toNat) (k0) (by kernel_rfl) (by kernel_rfl) Sub.refl (by first | omega | (simp; omega) | assumption | simp_all) (fun y0 px0 back0 => ?_)
      ((by_cases q0 : 12 * (y0 + 1) ≤ N) <;> have sU0 := sU y0 (by omega) (by omega) <;> have ek0 : ¬ 12 * (y0 + 1) ≤ N → s * y0 = s * K := fun q => by rw [show y0 = K by omega])
      · have _hh := True.intro
        refine st_i 89 .i64 (x' := y0 + 1) (Go.IntWalk.i64_in _ (by omega)) (by kernel_rfl) ?_
        refine st_i 90 .i64 (x' := s * (y0 + 1)) (Go.IntWalk.i64_in _ (by omega)) (by kernel_rfl) ?_
        refine st_fn ent115 (la1 (y0) (by omega) (by omega)) sub0 (by kernel_rfl) ?_
        refine st_fn ent128 (lbn1 (y0) (by assumption)) sub0 (by kernel_rfl) ?_
        refine st_i 95 .i64 (x' := y0 + 1) (Go.IntWalk.i64_in _ (by omega)) (by kernel_rfl) ?_
        refine st_forget [0,1,2,3,4,5,6,7,8,9,10,11,12,13,14,15,16,17,18,19,20,21,22,23,24,25,26,27,28,29,30,31,32,33,34,35,36,37,38,39,40,41,42,43,44,45,46,47,48,49,50,51,52,53,54,55,56,57,58,59,60,61,62,63,64,65,66,67,68,69,70,71,72,73,74,75,76,77,78,79,80,81,82,83,96,97,98,99,100,101,102,103,104,105,106,107,108,109,110,111,112,113,114,115,116,117,118,119,120,121,122,123,124,125,126,127,128,129,130,131,132,133,134,135,136,137,138,139,140,141,142,143,144,145,146,147,148,149,150,151,152,153,154,155,156,157,158,159,160,161,162,163,164,165] (by kernel_rfl) ?_
        exact st_back back0 (y0 + 1) (by first | omega | (simp only []; omega) | (simp; omega)) (by first | omega | (simp only []; omega) | (simp; omega) | assumption | simp_all) (fun p hp => by first | exact hp | simp_all) (by kernel_rfl) (by kernel_rfl) (by kernel_rfl)
      · have _hh := True.intro
        refine st_i 89 .i64 (x' := y0 + 1) (Go.IntWalk.i64_in _ (by omega)) (by kernel_rfl) ?_
        refine st_i 90 .i64 (x' := s * (y0 + 1)) (Go.IntWalk.i64_in _ (by omega)) (by kernel_rfl) ?_
        refine st_fn ent115 (la1 (y0) (by omega) (by omega)) sub0 (by kernel_rfl) ?_
        refine st_fn ent128 (lby1 (y0) (by omega)) sub0 (by kernel_rfl) ?_
        refine st_i 98 IntKind.i64 (x := IntKind.i64.wrap (s * y0)) ((Go.IntWalk.i64_in (s * y0) (by omega)).trans ((ek0 q0))) (by kernel_rfl) ?_
        refine st_fn ent115 (la2) sub0 (by kernel_rfl) ?_
        refine st_i 109 .i64 (x' := y' - (y + s * K)) (Go.IntWalk.i64_in _ (by omega)) (by kernel_rfl) ?_
        refine st_i 110 .i64 (x' := 12 * (y' - (y + s * K))) (Go.IntWalk.i64_in _ (by omega)) (by kernel_rfl) ?_
        refine st_i 113 .i64 (x' := 12 * (y' - (y + s * K)) + m') (Go.IntWalk.i64_in _ (by omega)) (by kernel_rfl) ?_
        refine st_i 116 .i64 (x' := 12 * (y' - (y + s * K)) + m' - m) (Go.IntWalk.i64_in _ (by omega)) (by kernel_rfl) ?_
        refine st_i 117 IntKind.i64 (x := IntKind.i64.wrap (s * (12 * (y' - (y + s * K)) + m' - m))) ((Go.IntWalk.i64_in (s * (12 * (y' - (y + s * K)) + m' - m)) (by omega)).trans ((hD2.trans hk1.symm))) (by kernel_rfl) ?_
        refine st_b 119 (show (decide (k1 > 0)) = false by exact decide_eq_false (by omega)) (by kernel_rfl) ?_
        refine st_forget [0,1,2,3,4,5,6,7,8,9,10,11,12,13,14,15,16,17,18,19,20,21,22,23,24,25,26,27,28,29,30,31,32,33,34,35,36,37,38,39,40,41,42,43,44,45,46,47,48,49,50,51,52,53,54,55,56,57,58,59,60,61,62,63,64,65,66,67,68,69,70,71,72,73,74,75,76,77,78,79,80,81,82,83,84,85,86,87,88,89,90,91,92,93,94,95,96,97,98,99,100,101,102,103,104,105,106,107,108,109,110,111,112,113,114,115,116,117,118,119,120,121,136,137,138,139,140,141,142,143,144,145,146,147,148,149,150,151,152,153,154,155,156,157,158,159,160,161,162,163,164,165] (by kernel_rfl) ?_
        refine st_loop (X := Int) (fun x => ([SV.val (Value.agg #[vI64 y,vI64 m,vI64 d]),SV.val (Value.agg #[vI64 y',vI64 m',vI64 d']),SV.val (vI64 1),SV.ptr 0 0,SV.ptr 1 0,svZ,SV.ptr 2 0,SV.val (vI64 0),SV.val (vI64 (dnum y m d)),svT,SV.val (vI64 n'),svT,SV.ptr 3 0,SV.val (vI64 s),SV.val (vI64 y0),SV.ptr 4 0,.val (.int .i64 x),svZ,svZ,svZ,svZ,svZ,SV.val (Value.tuple #[vI64 (dnum y m d),Value.bool true]),SV.val (Value.agg #[vI64 y,vI64 m,vI64 d]),SV.val (Value.tuple #[vI64 (dnum y m d),Value.bool true]),SV.val (vI64 (dnum y m d)),svT,SV.val (Value.tuple #[vI64 n',Value.bool true]),SV.val (Value.agg #[vI64 y',vI64 m',vI64 d']),SV.val (Value.tuple #[vI64 n',Value.bool true]),SV.val (vI64 n'),svT,svT,svF,svF,svT,svF,svF,svF,SV.val (vI64 1),svF,svF,svF,SV.val (vI64 1),svF,svF,svZ,SV.val (vI64 1),svF,svZ,svZ,svZ,svZ,SV.val (vI64 1),svF,svZ,svZ,svZ,svZ,svZ,svZ,svZ,svZ,svZ,SV.val (Value.agg #[vI64 0,vI64 0,vI64 0,vI64 0,vI64 0,vI64 0,vI64 0,vI64 0]),SV.val (Value.agg #[vI64 y',vI64 m',vI64 d']),SV.val (Value.agg #[vI64 y,vI64 m,vI64 d]),SV.val (vI64 s),SV.val (vI64 s),svF,svZ,SV.val (vI64 1),svT,SV.val (vI64 s),SV.ptr 1 0,SV.val (vI64 y'),SV.ptr 0 0,SV.val (vI64 y),SV.val (vI64 (y' - y)),SV.val (vI64 k0),SV.val (vI64 k0),svF,svZ,svZ,SV.val (Value.agg #[vI64 y,vI64 m,vI64 d]),SV.val (Value.agg #[vI64 y',vI64 m',vI64 d']),SV.val (Value.agg #[vI64 y,vI64 m,vI64 d]),SV.val (vI64 s),SV.val (vI64 y0),SV.val (vI64 (y0 + 1)),SV.val (vI64 (s * (y0 + 1))),SV.val (Value.agg #[vI64 (lY (ymi y m + s * (12 * (y0 + 1)))),vI64 (lM (ymi y m + s * (12 * (y0 + 1)))),vI64 d]),svT,svF,SV.any,SV.any,SV.val (vI64 s),SV.val (vI64 y0),SV.val (vI64 (s * K)),SV.ptr 3 0,SV.val (Value.agg #[vI64 y,vI64 m,vI64 d]),SV.ptr 3 0,SV.val (vI64 (s * K)),SV.val (Value.agg #[vI64 (y + s * K),vI64 m,vI64 d]),SV.val (vI64 s),SV.ptr 1 0,SV.val (vI64 y'),SV.ptr 4 0,SV.val (vI64 (y + s * K)),SV.val (vI64 (y' - (y + s * K))),SV.val (vI64 (12 * (y' - (y + s * K)))),SV.ptr 1 1,SV.val (vI64 m'),SV.val (vI64 (12 * (y' - (y + s * K)) + m')),SV.ptr 4 1,SV.val (vI64 m),SV.val (vI64 (12 * (y' - (y + s * K)) + m' - m)),SV.val (vI64 k1),SV.val (vI64 k1),svF,svZ,svZ,.any,.any,.any,.any,.any,.any,.any,.any,.any,.any,.any,.any,.any,.any,svZ,svZ,svZ,svZ,svZ,svZ,svZ,svZ,svZ,svZ,svZ,svZ,svZ,svZ,svZ,svZ,svZ,svZ,svZ,svZ,svZ,svZ,svZ,svZ,svZ,svZ,svZ,svZ,svZ,svZ],[⟨[SV.val (vI64 y),SV.val (vI64 m),SV.val (vI64 d)],26⟩,⟨[SV.val (vI64 y'),SV.val (vI64 m'),SV.val (vI64 d')],26⟩,⟨[SV.val (vI64 0),SV.val (vI64 0),SV.val (vI64 0),SV.val (vI64 0),SV.val (vI64 0),SV.val (vI64 0),SV.val (vI64 0),SV.val (vI64 0)],43⟩,⟨[SV.val (vI64 (s * K)),SV.val (vI64 0),SV.val (vI64 0),SV.val (vI64 0),SV.val (vI64 0),SV.val (vI64 0),SV.val (vI64 0),SV.val (vI64 0)],43⟩,⟨[SV.val (vI64 (y + s * K)),SV.val (vI64 m),SV.val (vI64 d)],26⟩])) (fun _ => _) (fun k => 0 ≤ k ∧ 12 * K + k ≤ N) (fun k => (N - k).toNat) (k1) (by kernel_rfl) (by kernel_rfl) Sub.refl (by first | omega | (simp; omega) | assumption | simp_all) (fun y1 px1 back1 => ?_)
        ((by_cases q1 : 12 * K + (y1 + 1) ≤ N) <;> have sU1 := sU y1 (by omega) (by omega) <;> have ek1 : ¬ 12 * K + (y1 + 1) ≤ N → s * y1 = s * M := fun q => by rw [show y1 = M by omega])
        · have _hh := True.intro
          refine st_i 129 .i64 (x' := y1 + 1) (Go.IntWalk.i64_in _ (by omega)) (by kernel_rfl) ?_
          refine st_i 130 .i64 (x' := s * (y1 + 1)) (Go.IntWalk.i64_in _ (by omega)) (by kernel_rfl) ?_
          refine st_fn ent115 (la3 (y1) (by omega) (by omega)) sub0 (by kernel_rfl) ?_
          refine st_fn ent128 (lbn3 (y1) (by assumption)) sub0 (by kernel_rfl) ?_
          refine st_i 135 .i64 (x' := y1 + 1) (Go.IntWalk.i64_in _ (by omega)) (by kernel_rfl) ?_
          refine st_forget [0,1,2,3,4,5,6,7,8,9,10,11,12,13,14,15,16,17,18,19,20,21,22,23,24,25,26,27,28,29,30,31,32,33,34,35,36,37,38,39,40,41,42,43,44,45,46,47,48,49,50,51,52,53,54,55,56,57,58,59,60,61,62,63,64,65,66,67,68,69,70,71,72,73,74,75,76,77,78,79,80,81,82,83,84,85,86,87,88,89,90,91,92,93,94,95,96,97,98,99,100,101,102,103,104,105,106,107,108,109,110,111,112,113,114,115,116,117,118,119,120,121,136,137,138,139,140,141,142,143,144,145,146,147,148,149,150,151,152,153,154,155,156,157,158,159,160,161,162,163,164,165] (by kernel_rfl) ?_
          exact st_back back1 (y1 + 1) (by first | omega | (simp only []; omega) | (simp; omega)) (by first | omega | (simp only []; omega) | (simp; omega) | assumption | simp_all) (fun p hp => by first | exact hp | simp_all) (by kernel_rfl) (by kernel_rfl) (by kernel_rfl)
        · have _hh := True.intro
          refine st_i 129 .i64 (x' := y1 + 1) (Go.IntWalk.i64_in _ (by omega)) (by kernel_rfl) ?_
          refine st_i 130 .i64 (x' := s * (y1 + 1)) (Go.IntWalk.i64_in _ (by omega)) (by kernel_rfl) ?_
          refine st_fn ent115 (la3 (y1) (by omega) (by omega)) sub0 (by kernel_rfl) ?_
          refine st_fn ent128 (lby3 (y1) (by omega)) sub0 (by kernel_rfl) ?_
          refine st_i 138 IntKind.i64 (x := IntKind.i64.wrap (s * y1)) ((Go.IntWalk.i64_in (s * y1) (by omega)).trans ((ek1 q1))) (by kernel_rfl) ?_
          refine st_fn ent115 (la4) sub0 (by kernel_rfl) ?_
          refine st_fn ent116 (lr) sub0 (by kernel_rfl) ?_
          refine st_fn ent92 (ld3) sub0 (by kernel_rfl) ?_
          refine st_i 163 .i64 (x' := n' - n'') (Go.IntWalk.i64_in _ (by omega)) (by kernel_rfl) ?_
          exact st_ret Tryz.func70 (by kernel_rfl)
end
end Go.Proofs.YtccllfegnijpiaaGreat
end
section
/-
  What lies between two days, months at most: what the reference answers of layer 19.
-/
set_option linter.unusedVariables false
set_option linter.unusedSimpArgs false
set_option maxRecDepth 100000
namespace Go.Proofs.YtccllfegnijpiaaGreat
open Go Go.RowKit Go.Ev

section
variable (y m d y' m' d' L : Int)
theorem zunt_2 (s N T : Int) (h : dOk y m d) (h' : dOk y' m' d') (hs : s = 1 ∨ s = -1) (e : cmp3 y' m' d' y m d = s) (hN : mM s y m d y' m' d' = N) (hT : ymi y m + s * N = T) :
    Fn 70 [] [dv y m d, dv y' m' d', .int .i64 2] (.tuple #[duv 0 (s * N) 0 (dnum y' m' d' - dnum (lY T) (lM T) (cD (lY T) (lM T) d)) 0 0 0 0, .int .i64 0]) := by
  have ld1 := zdays_yes y m d h
  have ld2 := zdays_yes y' m' d' h'
  have yy := dOk_year h
  have yy' := dOk_year h'
  have n0 := mM_pos h.1.1 h.1.2.1 h'.1.1 h'.1.2.1 hs e
  have n1 := mM_le (y := y) (y' := y') (d := d) (d' := d') h.1.1 h.1.2.1 h'.1.1 h'.1.2.1 hs
  have gp := mM_gap y m d y' m' d' hs
  have fi := fits_iff (s := s) (y := y) (m := m) (d := d) (y' := y') (m' := m') (d' := d') h.1.1 h.1.2.1 h'.1.1 h'.1.2.1 hs
  rw [hN] at n0 n1 gp fi
  have n2 : N ≤ 10000000 := by
    rcases hs with rfl | rfl
    · rw [if_pos rfl] at n1; omega
    · rw [if_neg (by omega)] at n1; omega
  have m1 := h.1.1
  have m2 := h.1.2.1
  have m1' := h'.1.1
  have m2' := h'.1.2.1
  have la2 : Fn 115 [] [dv y m d, .int .i64 0, .int .i64 0] (dv y m d) := by
    have := zlater y m d 0 0 (ymi y m) (by unfold ymi; omega) (by omega) (by omega) m1 m2 (by omega) (by omega) (by omega) (by omega)
    rwa [(l_ymi m1 m2).1, (l_ymi m1 m2).2] at this
  have la3 : ∀ k : Int, 0 ≤ k → k ≤ 10000000 → Fn 115 [] [dv y m d, .int .i64 0, .int .i64 (s * (k + 1))] (dv (lY (ymi y m + s * (k + 1))) (lM (ymi y m + s * (k + 1))) d) := fun k k0 k1 =>
    zlater y m d 0 (s * (k + 1)) _ (by unfold ymi; rcases hs with rfl | rfl <;> omega) (by omega) (by omega) m1 m2 (by omega) (by omega) (by rcases hs with rfl | rfl <;> omega) (by rcases hs with rfl | rfl <;> omega)
  have lbn3 : ∀ k : Int, k + 1 ≤ N → Fn 128 [] [dv y m d, dv y' m' d', dv (lY (ymi y m + s * (k + 1))) (lM (ymi y m + s * (k + 1))) d] (.bool false) := fun k q => zbey_n s y m d y' m' d' _ _ _ hs e ((fi _).2 q)
  have lby3 : ∀ k : Int, N < k + 1 → Fn 128 [] [dv y m d, dv y' m' d', dv (lY (ymi y m + s * (k + 1))) (lM (ymi y m + s * (k + 1))) d] (.bool true) := fun k q => zbey_y s y m d y' m' d' _ _ _ hs e (Classical.byContradiction fun z => by have := (fi _).1 z; omega)
  have la4 : Fn 115 [] [dv y m d, .int .i64 0, .int .i64 (s * N)] (dv (lY T) (lM T) d) :=
    zlater y m d 0 (s * N) T (by unfold ymi at hT; rcases hs with rfl | rfl <;> omega) (by omega) (by omega) m1 m2 (by omega) (by omega) (by rcases hs with rfl | rfl <;> omega) (by rcases hs with rfl | rfl <;> omega)
  have fo := (from_ok h h' hs e).1
  unfold fD' fY' fM' at fo
  rw [hN, hT] at fo
  have lr := zreg_cy (lY T) (lM T) d (ymi_l T).2.1 (ymi_l T).2.2 h.1.2.2.1 fo
  have ld3 := zdays_yes (lY T) (lM T) (cD (lY T) (lM T) d) fo
  have b1 := fo.2
  have b2 := h'.2
  have cc := zcmp5 y' m' d' y m d
  rw [e] at cc
  generalize dnum y' m' d' = n' at *
  generalize dnum (lY T) (lM T) (cD (lY T) (lM T) d) = n'' at *
  obtain ⟨D2, hD2⟩ : ∃ D2, s * (12 * (y' - y) + m' - m) = D2 := ⟨_, rfl⟩
  have f2 : N ≤ D2 ∧ D2 ≤ N + 1 := by
    unfold ymi at gp
    rcases hs with rfl | rfl <;> omega
  have sM : -10000000 ≤ s * N ∧ s * N ≤ 10000000 := sBd hs (by omega)
  have sU : ∀ k : Int, 0 ≤ k → k ≤ 100000000 → -1000000000 ≤ s * (k + 1) ∧ s * (k + 1) ≤ 1000000000 := fun k k0 k1 => sBd hs (by omega)
  have s0 : s ≠ 0 := by rcases hs with rfl | rfl <;> omega
  clear h h' e hN hT fo n1 gp fi hs
  by_cases c1 : 0 < D2
  · obtain ⟨k1, hk1⟩ : ∃ k1, D2 - 1 = k1 := ⟨_, rfl⟩
    refine fn_of Tryz.func70 rfl fun ww => ?_
    refine st_fn ent92 (ld1) sub0 (by kernel_rfl) ?_
    refine st_fn ent92 (ld2) sub0 (by kernel_rfl) ?_
    refine st_fn ent68 (cc) sub0 (by kernel_rfl) ?_
    refine st_b 69 (show (s == 0) = false by exact decide_eq_false (by omega)) (by kernel_rfl) ?_
    refine st_fn ent115 (la2) sub0 (by kernel_rfl) ?_
    refine st_i 109 .i64 (x' := y' - y) (Go.IntWalk.i64_in _ (by omega)) (by kernel_rfl) ?_
    refine st_i 110 .i64 (x' := 12 * (y' - y)) (Go.IntWalk.i64_in _ (by omega)) (by kernel_rfl) ?_
    refine st_i 113 .i64 (x' := 12 * (y' - y) + m') (Go.IntWalk.i64_in _ (by omega)) (by kernel_rfl) ?_
    refine st_i 116 .i64 (x' := 12 * (y' - y) + m' - m) (Go.IntWalk.i64_in _ (by omega)) (by kernel_rfl) ?_
    refine st_i 117 IntKind.i64 (x := IntKind.i64.wrap (s * (12 * (y' - y) + m' - m))) ((Go.IntWalk.i64_in (s * (12 * (y' - y) + m' - m)) (by omega)).trans (hD2)) (by kernel_rfl) ?_
    refine st_b 119 (show (decide (D2 > 0)) = true by exact decide_eq_true (by omega)) (by kernel_rfl) ?_
    refine st_i 121 IntKind.i64 (x := IntKind.i64.wrap (D2 - 1)) ((Go.IntWalk.i64_in (D2 - 1) (by omega)).trans (hk1)) (by kernel_rfl) ?_
    refine st_forget [0,1,2,3,4,5,6,7,8,9,10,11,12,13,14,15,16,17,18,19,20,21,22,23,24,25,26,27,28,29,30,31,32,33,34,35,36,37,38,39,40,41,42,43,44,45,46,47,48,49,50,51,52,53,54,55,56,57,58,59,60,61,62,63,64,65,66,67,68,69,70,71,72,73,74,75,76,77,78,79,80,81,82,83,84,85,86,87,88,89,90,91,92,93,94,95,96,97,98,99,100,101,102,103,104,105,106,107,108,109,110,111,112,113,114,115,116,117,118,119,120,121,136,137,138,139,140,141,142,143,144,145,146,147,148,149,150,151,152,153,154,155,156,157,158,159,160,161,162,163,164,165] (by kernel_rfl) ?_
    refine st_loop (X := Int) (fun x => ([SV.val (Value.agg #[vI64 y,vI64 m,vI64 d]),SV.val (Value.agg #[vI64 y',vI64 m',vI64 d']),SV.val (vI64 2),SV.ptr 0 0,SV.ptr 1 0,svZ,SV.ptr 2 0,SV.val (vI64 0),SV.val (vI64 (dnum y m d)),svT,SV.val (vI64 n'),svT,SV.ptr 3 0,SV.val (vI64 s),svZ,SV.ptr 4 0,.val (.int .i64 x),svZ,svZ,svZ,svZ,svZ,SV.val (Value.tuple #[vI64 (dnum y m d),Value.bool true]),SV.val (Value.agg #[vI64 y,vI64 m,vI64 d]),SV.val (Value.tuple #[vI64 (dnum y m d),Value.bool true]),SV.val (vI64 (dnum y m d)),svT,SV.val (Value.tuple #[vI64 n',Value.bool true]),SV.val (Value.agg #[vI64 y',vI64 m',vI64 d']),SV.val (Value.tuple #[vI64 n',Value.bool true]),SV.val (vI64 n'),svT,svT,svF,svF,svT,svF,svF,svF,SV.val (vI64 2),svF,svF,svF,SV.val (vI64 2),svF,svF,svZ,SV.val (vI64 2),svF,svZ,svZ,svZ,svZ,SV.val (vI64 2),svF,svZ,svZ,svZ,svZ,svZ,svZ,svZ,svZ,svZ,SV.val (Value.agg #[vI64 0,vI64 0,vI64 0,vI64 0,vI64 0,vI64 0,vI64 0,vI64 0]),SV.val (Value.agg #[vI64 y',vI64 m',vI64 d']),SV.val (Value.agg #[vI64 y,vI64 m,vI64 d]),SV.val (vI64 s),SV.val (vI64 s),svF,svZ,SV.val (vI64 2),svF,svZ,svZ,svZ,svZ,svZ,svZ,svZ,svZ,svZ,svZ,svZ,svZ,svZ,svZ,svZ,svZ,svZ,svZ,svZ,svZ,svZ,svZ,svZ,svZ,svZ,svZ,svZ,SV.val (Value.agg #[vI64 y,vI64 m,vI64 d]),SV.ptr 3 0,SV.val (vI64 0),SV.val (Value.agg #[vI64 y,vI64 m,vI64 d]),SV.val (vI64 s),SV.ptr 1 0,SV.val (vI64 y'),SV.ptr 4 0,SV.val (vI64 y),SV.val (vI64 (y' - y)),SV.val (vI64 (12 * (y' - y))),SV.ptr 1 1,SV.val (vI64 m'),SV.val (vI64 (12 * (y' - y) + m')),SV.ptr 4 1,SV.val (vI64 m),SV.val (vI64 (12 * (y' - y) + m' - m)),SV.val (vI64 D2),SV.val (vI64 D2),svT,SV.val (vI64 D2),SV.val (vI64 k1),.any,.any,.any,.any,.any,.any,.any,.any,.any,.any,.any,.any,.any,.any,svZ,svZ,svZ,svZ,svZ,svZ,svZ,svZ,svZ,svZ,svZ,svZ,svZ,svZ,svZ,svZ,svZ,svZ,svZ,svZ,svZ,svZ,svZ,svZ,svZ,svZ,svZ,svZ,svZ,svZ],[⟨[SV.val (vI64 y),SV.val (vI64 m),SV.val (vI64 d)],26⟩,⟨[SV.val (vI64 y'),SV.val (vI64 m'),SV.val (vI64 d')],26⟩,⟨[SV.val (vI64 0),SV.val (vI64 0),SV.val (vI64 0),SV.val (vI64 0),SV.val (vI64 0),SV.val (vI64 0),SV.val (vI64 0),SV.val (vI64 0)],43⟩,⟨[SV.val (vI64 0),SV.val (vI64 0),SV.val (vI64 0),SV.val (vI64 0),SV.val (vI64 0),SV.val (vI64 0),SV.val (vI64 0),SV.val (vI64 0)],43⟩,⟨[SV.val (vI64 y),SV.val (vI64 m),SV.val (vI64 d)],26⟩])) (fun _ => _) (fun k => 0 ≤ k ∧ k ≤ N) (fun k => (N - k).toNat) (k1) (by kernel_rfl) (by kernel_rfl) Sub.refl (by first | omega | (simp; omega) | assumption | simp_all) (fun y0 px0 back0 => ?_)
    ((by_cases q1 : y0 + 1 ≤ N) <;> have sU1 := sU y0 (by omega) (by omega) <;> have ek1 : ¬ y0 + 1 ≤ N → s * y0 = s * N := fun q => by rw [show y0 = N by omega])
    · have _hh := True.intro
      refine st_i 129 .i64 (x' := y0 + 1) (Go.IntWalk.i64_in _ (by omega)) (by kernel_rfl) ?_
      refine st_i 130 .i64 (x' := s * (y0 + 1)) (Go.IntWalk.i64_in _ (by omega)) (by kernel_rfl) ?_
      refine st_fn ent115 (la3 (y0) (by omega) (by omega)) sub0 (by kernel_rfl) ?_
      refine st_fn ent128 (lbn3 (y0) (by assumption)) sub0 (by kernel_rfl) ?_
      refine st_i 135 .i64 (x' := y0 + 1) (Go.IntWalk.i64_in _ (by omega)) (by kernel_rfl) ?_
      refine st_forget [0,1,2,3,4,5,6,7,8,9,10,11,12,13,14,15,16,17,18,19,20,21,22,23,24,25,26,27,28,29,30,31,32,33,34,35,36,37,38,39,40,41,42,43,44,45,46,47,48,49,50,51,52,53,54,55,56,57,58,59,60,61,62,63,64,65,66,67,68,69,70,71,72,73,74,75,76,77,78,79,80,81,82,83,84,85,86,87,88,89,90,91,92,93,94,95,96,97,98,99,100,101,102,103,104,105,106,107,108,109,110,111,112,113,114,115,116,117,118,119,120,121,136,137,138,139,140,141,142,143,144,145,146,147,148,149,150,151,152,153,154,155,156,157,158,159,160,161,162,163,164,165] (by kernel_rfl) ?_
      exact st_back back0 (y0 + 1) (by first | omega | (simp only []; omega) | (simp; omega)) (by first | omega | (simp only []; omega) | (simp; omega) | assumption | simp_all) (fun p hp => by first | exact hp | simp_all) (by kernel_rfl) (by kernel_rfl) (by kernel_rfl)
    · have _hh := True.intro
      refine st_i 129 .i64 (x' := y0 + 1) (Go.IntWalk.i64_in _ (by omega)) (by kernel_rfl) ?_
      refine st_i 130 .i64 (x' := s * (y0 + 1)) (Go.IntWalk.i64_in _ (by omega)) (by kernel_rfl) ?_
      refine st_fn ent115 (la3 (y0) (by omega) (by omega)) sub0 (by kernel_rfl) ?_
      refine st_fn ent128 (lby3 (y0) (by omega)) sub0 (by kernel_rfl) ?_
      refine st_i 138 IntKind.i64 (x := IntKind.i64.wrap (s * y0)) ((Go.IntWalk.i64_in (s * y0) (by omega)).trans ((ek1 q1))) (by kernel_rfl) ?_
      refine st_fn ent115 (la4) sub0 (by kernel_rfl) ?_
      refine st_fn ent116 (lr) sub0 (by kernel_rfl) ?_
      refine st_fn ent92 (ld3) sub0 (by kernel_rfl) ?_
      refine st_i 163 .i64 (x' := n' - n'') (Go.IntWalk.i64_in _ (by omega)) (by kernel_rfl) ?_
      exact st_ret Tryz.func70 (by kernel_rfl)
  · obtain ⟨k1, hk1⟩ : ∃ k1, k1 = D2 := ⟨_, rfl⟩
    refine fn_of Tryz.func70 rfl fun ww => ?_
    refine st_fn ent92 (ld1) sub0 (by kernel_rfl) ?_
    refine st_fn ent92 (ld2) sub0 (by kernel_rfl) ?_
    refine st_fn ent68 (cc) sub0 (by kernel_rfl) ?_
    refine st_b 69 (show (s == 0) = false by exact decide_eq_false (by omega)) (by kernel_rfl) ?_
    refine st_fn ent115 (la2) sub0 (by kernel_rfl) ?_
    refine st_i 109 .i64 (x' := y' - y) (Go.IntWalk.i64_in _ (by omega)) (by kernel_rfl) ?_
    refine st_i 110 .i64 (x' := 12 * (y' - y)) (Go.IntWalk.i64_in _ (by omega)) (by kernel_rfl) ?_
    refine st_i 113 .i64 (x' := 12 * (y' - y) + m') (Go.IntWalk.i64_in _ (by omega)) (by kernel_rfl) ?_
    refine st_i 116 .i64 (x' := 12 * (y' - y) + m' - m) (Go.IntWalk.i64_in _ (by omega)) (by kernel_rfl) ?_
    refine st_i 117 IntKind.i64 (x := IntKind.i64.wrap (s * (12 * (y' - y) + m' - m))) ((Go.IntWalk.i64_in (s * (12 * (y' - y) + m' - m)) (by omega)).trans ((hD2.trans hk1.symm))) (by kernel_rfl) ?_
    refine st_b 119 (show (decide (k1 > 0)) = false by exact decide_eq_false (by omega)) (by kernel_rfl) ?_
    refine st_forget [0,1,2,3,4,5,6,7,8,9,10,11,12,13,14,15,16,17,18,19,20,21,22,23,24,25,26,27,28,29,30,31,32,33,34,35,36,37,38,39,40,41,42,43,44,45,46,47,48,49,50,51,52,53,54,55,56,57,58,59,60,61,62,63,64,65,66,67,68,69,70,71,72,73,74,75,76,77,78,79,80,81,82,83,84,85,86,87,88,89,90,91,92,93,94,95,96,97,98,99,100,101,102,103,104,105,106,107,108,109,110,111,112,113,114,115,116,117,118,119,120,121,136,137,138,139,140,141,142,143,144,145,146,147,148,149,150,151,152,153,154,155,156,157,158,159,160,161,162,163,164,165] (by kernel_rfl) ?_
    refine st_loop (X := Int) (fun x => ([SV.val (Value.agg #[vI64 y,vI64 m,vI64 d]),SV.val (Value.agg #[vI64 y',vI64 m',vI64 d']),SV.val (vI64 2),SV.ptr 0 0,SV.ptr 1 0,svZ,SV.ptr 2 0,SV.val (vI64 0),SV.val (vI64 (dnum y m d)),svT,SV.val (vI64 n'),svT,SV.ptr 3 0,SV.val (vI64 s),svZ,SV.ptr 4 0,.val (.int .i64 x),svZ,svZ,svZ,svZ,svZ,SV.val (Value.tuple #[vI64 (dnum y m d),Value.bool true]),SV.val (Value.agg #[vI64 y,vI64 m,vI64 d]),SV.val (Value.tuple #[vI64 (dnum y m d),Value.bool true]),SV.val (vI64 (dnum y m d)),svT,SV.val (Value.tuple #[vI64 n',Value.bool true]),SV.val (Value.agg #[vI64 y',vI64 m',vI64 d']),SV.val (Value.tuple #[vI64 n',Value.bool true]),SV.val (vI64 n'),svT,svT,svF,svF,svT,svF,svF,svF,SV.val (vI64 2),svF,svF,svF,SV.val (vI64 2),svF,svF,svZ,SV.val (vI64 2),svF,svZ,svZ,svZ,svZ,SV.val (vI64 2),svF,svZ,svZ,svZ,svZ,svZ,svZ,svZ,svZ,svZ,SV.val (Value.agg #[vI64 0,vI64 0,vI64 0,vI64 0,vI64 0,vI64 0,vI64 0,vI64 0]),SV.val (Value.agg #[vI64 y',vI64 m',vI64 d']),SV.val (Value.agg #[vI64 y,vI64 m,vI64 d]),SV.val (vI64 s),SV.val (vI64 s),svF,svZ,SV.val (vI64 2),svF,svZ,svZ,svZ,svZ,svZ,svZ,svZ,svZ,svZ,svZ,svZ,svZ,svZ,svZ,svZ,svZ,svZ,svZ,svZ,svZ,svZ,svZ,svZ,svZ,svZ,svZ,svZ,SV.val (Value.agg #[vI64 y,vI64 m,vI64 d]),SV.ptr 3 0,SV.val (vI64 0),SV.val (Value.agg #[vI64 y,vI64 m,vI64 d]),SV.val (vI64 s),SV.ptr 1 0,SV.val (vI64 y'),SV.ptr 4 0,SV.val (vI64 y),SV.val (vI64 (y' - y)),SV.val (vI64 (12 * (y' - y))),SV.ptr 1 1,SV.val (vI64 m'),SV.val (vI64 (12 * (y' - y) + m')),SV.ptr 4 1,SV.val (vI64 m),SV.val (vI64 (12 * (y' - y) + m' - m)),SV.val (vI64 k1),SV.val (vI64 k1),svF,svZ,svZ,.any,.any,.any,.any,.any,.any,.any,.any,.any,.any,.any,.any,.any,.any,svZ,svZ,svZ,svZ,svZ,svZ,svZ,svZ,svZ,svZ,svZ,svZ,svZ,svZ,svZ,svZ,svZ,svZ,svZ,svZ,svZ,svZ,svZ,svZ,svZ,svZ,svZ,svZ,svZ,svZ],[⟨[SV.val (vI64 y),SV.val (vI64 m),SV.val (vI64 d)],26⟩,⟨[SV.val (vI64 y'),SV.val (vI64 m'),SV.val (vI64 d')],26⟩,⟨[SV.val (vI64 0),SV.val (vI64 0),SV.val (vI64 0),SV.val (vI64 0),SV.val (vI64 0),SV.val (vI64 0),SV.val (vI64 0),SV.val (vI64 0)],43⟩,⟨[SV.val (vI64 0),SV.val (vI64 0),SV.val (vI64 0),SV.val (vI64 0),SV.val (vI64 0),SV.val (vI64 0),SV.val (vI64 0),SV.val (vI64 0)],43⟩,⟨[SV.val (vI64 y),SV.val (vI64 m),SV.val (vI64 d)],26⟩])) (fun _ => _) (fun k => 0 ≤ k ∧ k ≤ N) (fun k => (N - k).toNat) (k1) (by kernel_rfl) (by kernel_rfl) Sub.refl (by first | omega | (simp; omega) | assumption | simp_all) (fun y0 px0 back0 => ?_)
    ((by_cases q1 : y0 + 1 ≤ N) <;> have sU1 := sU y0 (by omega) (by omega) <;> have ek1 : ¬ y0 + 1 ≤ N → s * y0 = s * N := fun q => by rw [show y0 = N by omega])
    · have _hh := True.intro
      refine st_i 129 .i64 (x' := y0 + 1) (Go.IntWalk.i64_in _ (by omega)) (by kernel_rfl) ?_
      refine st_i 130 .i64 (x' := s * (y0 + 1)) (Go.IntWalk.i64_in _ (by omega)) (by kernel_rfl) ?_
      refine st_fn ent115 (la3 (y0) (by omega) (by omega)) sub0 (by kernel_rfl) ?_
      refine st_fn ent128 (lbn3 (y0) (by assumption)) sub0 (by kernel_rfl) ?_
      refine st_i 135 .i64 (x' := y0 + 1) (Go.IntWalk.i64_in _ (by omega)) (by kernel_rfl) ?_
      refine st_forget [0,1,2,3,4,5,6,7,8,9,10,11,12,13,14,15,16,17,18,19,20,21,22,23,24,25,26,27,28,29,30,31,32,33,34,35,36,37,38,39,40,41,42,43,44,45,46,47,48,49,50,51,52,53,54,55,56,57,58,59,60,61,62,63,64,65,66,67,68,69,70,71,72,73,74,75,76,77,78,79,80,81,82,83,84,85,86,87,88,89,90,91,92,93,94,95,96,97,98,99,100,101,102,103,104,105,106,107,108,109,110,111,112,113,114,115,116,117,118,119,120,121,136,137,138,139,140,141,142,143,144,145,146,147,148,149,150,151,152,153,154,155,156,157,158,159,160,161,162,163,164,165] (by kernel_rfl) ?_
      exact st_back back0 (y0 + 1) (by first | omega | (simp only []; omega) | (simp; omega)) (by first | omega | (simp only []; omega) | (simp; omega) | assumption | simp_all) (fun p hp => by first | exact hp | simp_all) (by kernel_rfl) (by kernel_rfl) (by kernel_rfl)
    · have _hh := True.intro
      refine st_i 129 .i64 (x' := y0 + 1) (Go.IntWalk.i64_in _ (by omega)) (by kernel_rfl) ?_
      refine st_i 130 .i64 (x' := s * (y0 + 1)) (Go.IntWalk.i64_in _ (by omega)) (by kernel_rfl) ?_
      refine st_fn ent115 (la3 (y0) (by omega) (by omega)) sub0 (by kernel_rfl) ?_
      refine st_fn ent128 (lby3 (y0) (by omega)) sub0 (by kernel_rfl) ?_
      refine st_i 138 IntKind.i64 (x := IntKind.i64.wrap (s * y0)) ((Go.IntWalk.i64_in (s * y0) (by omega)).trans ((ek1 q1))) (by kernel_rfl) ?_
      refine st_fn ent115 (la4) sub0 (by kernel_rfl) ?_
      refine st_fn ent116 (lr) sub0 (by kernel_rfl) ?_
      refine st_fn ent92 (ld3) sub0 (by kernel_rfl) ?_
      refine st_i 163 .i64 (x' := n' - n'') (Go.IntWalk.i64_in _ (by omega)) (by kernel_rfl) ?_
      exact st_ret Tryz.func70 (by kernel_rfl)
end
end Go.Proofs.YtccllfegnijpiaaGreat
end
section
/-
  A region that draws its order, one of whose stores (number t) hits a cell that the region loads: what loads is taken first where t waits for it; what looks at no memory is taken whenever it may come; S is asked for until t has come.
-/
namespace Go.Proofs.YtccllfegnijpiaaGreat
open Go Go.RowKit

section
variable {P : Program} {ops : Array Oper} {Q : Exit → Act → World → Prop} {md : Region.Mode} {S : World → Prop} {t : Nat}

/-- Operation number i. -/
def opAt (ops : Array Oper) (i : Nat) : Oper := (ops[i]?).getD { dst := none, op := .move (.const undef), type := 0, pos := "", after := #[], guard := none }
end
end Go.Proofs.YtccllfegnijpiaaGreat
end
section
/-
  The contracts of the layer of times, as the reckoner wants them.
-/
set_option linter.unusedVariables false
namespace Go.Proofs.YtccllfegnijpiaaGreat
open Go Go.RowKit Go.Ev

abbrev tv (h m s n : Int) : Value := .agg #[.int .i64 h, .int .i64 m, .int .i64 s, .int .i64 n]
theorem fzright_yes (h m s n : Int) (k : tOk h m s n) : Fn 93 [] [tv h m s n] (.bool true) := fn1 fun w => (zright h m s n w).mono fun e w' q => ⟨by rw [q.1, tOkB_yes k], q.2⟩
theorem fzright_no (h m s n : Int) (k : ¬ tOk h m s n) : Fn 93 [] [tv h m s n] (.bool false) := fn1 fun w => (zright h m s n w).mono fun e w' q => ⟨by rw [q.1, tOkB_no k], q.2⟩
theorem fcnanos_yes (h m s n : Int) (k : tOk h m s n) : Fn 64 [] [tv h m s n] (.tuple #[.int .i64 (tnan h m s n), .bool true]) := fn1 fun w => cnanos_yes h m s n w k
theorem fcnanos_no (h m s n : Int) (k : ¬ tOk h m s n) : Fn 64 [] [tv h m s n] (.tuple #[.int .i64 0, .bool false]) := fn1 fun w => cnanos_no h m s n w k
theorem fznanos (h m s n : Int) (k : tOk h m s n) : Fn 60 [] [tv h m s n] (.int .i64 (tnan h m s n)) := fn1 fun w => znanos h m s n w k
theorem fcof_yes (n : Int) (h0 : 0 ≤ n) (h1 : n < 86400000000000) : Fn 80 [] [.int .i64 n] (.tuple #[tv (tH n) (tM n) (tS n) (tN n), .bool true]) := fn1 fun w => cof_yes n w h0 h1
end Go.Proofs.YtccllfegnijpiaaGreat
end
section
/-
  Date-times: what the program and the reference answer of layer 7.
-/
set_option linter.unusedVariables false
set_option maxRecDepth 100000
namespace Go.Proofs.YtccllfegnijpiaaGreat
open Go Go.RowKit Go.Ev

abbrev ptv (y mo d h m s n : Int) : Value := .agg #[.int .i64 y, .int .i64 mo, .int .i64 d, .int .i64 h, .int .i64 m, .int .i64 s, .int .i64 n]
abbrev wz : Value := .agg #[.int .i64 0, .int .u64 0]
section
variable (y mo d h m s n : Int)
theorem pnumber_yes (k : pOk y mo d h m s n) : Fn 90 [] [ptv y mo d h m s n] (.tuple #[wv (pnum y mo d h m s n), .bool true]) := by
  obtain ⟨k1, k2, k3⟩ := k
  have b := tnan_bd k2
  obtain ⟨k4, k5, k6⟩ := k1
  have k1 : dOk y mo d := ⟨k4, k5, k6⟩
  clear k4
  have e : (if dnum y mo d = -100000001 then (if tnan h m s n = 0 then 1 else 0) else 0) = (0 : Int) := by
    split
    · split
      · rename_i q1 q2; exact absurd ⟨q1, q2⟩ k3
      · rfl
    · rfl
  unfold pnum
  by_cases q : dnum y mo d = -100000001
  · have q2 : tnan h m s n ≠ 0 := fun z => k3 ⟨q, z⟩
    clear e k3
    refine fn_of Tryz.func90 rfl fun ww => ?_
    refine st_fn ent98 (cdays_yes (y) (mo) (d) (by assumption)) sub0 (by kernel_rfl) ?_
    refine st_fn ent64 (fcnanos_yes (h) (m) (s) (n) (by assumption)) sub0 (by kernel_rfl) ?_
    refine st_b 30 (show (dnum y mo d == -100000001) = true by exact decide_eq_true (by omega)) (by kernel_rfl) ?_
    refine st_b 33 (show (tnan h m s n == 0) = false by exact decide_eq_false (by omega)) (by kernel_rfl) ?_
    refine st_fn ent22 (wmul_f (dnum y mo d) (86400000000000) (by (unfold I64; omega)) (by (unfold I64; omega))) sub0 (by kernel_rfl) ?_
    refine st_fn ent40 (wof_fn (tnan h m s n) (by (unfold I64; omega))) sub0 (by kernel_rfl) ?_
    refine st_fn ent21 (wadd_yes (dnum y mo d * 86400000000000) (tnan h m s n) (by (unfold W128; omega)) (by (unfold W128; omega)) (by (unfold W128; omega))) sub0 (by kernel_rfl) ?_
    exact st_ret Tryz.func90 (by kernel_rfl)
  · clear e k3
    refine fn_of Tryz.func90 rfl fun ww => ?_
    refine st_fn ent98 (cdays_yes (y) (mo) (d) (by assumption)) sub0 (by kernel_rfl) ?_
    refine st_fn ent64 (fcnanos_yes (h) (m) (s) (n) (by assumption)) sub0 (by kernel_rfl) ?_
    refine st_b 30 (show (dnum y mo d == -100000001) = false by exact decide_eq_false (by omega)) (by kernel_rfl) ?_
    refine st_fn ent22 (wmul_f (dnum y mo d) (86400000000000) (by (unfold I64; omega)) (by (unfold I64; omega))) sub0 (by kernel_rfl) ?_
    refine st_fn ent40 (wof_fn (tnan h m s n) (by (unfold I64; omega))) sub0 (by kernel_rfl) ?_
    refine st_fn ent21 (wadd_yes (dnum y mo d * 86400000000000) (tnan h m s n) (by (unfold W128; omega)) (by (unfold W128; omega)) (by (unfold W128; omega))) sub0 (by kernel_rfl) ?_
    exact st_ret Tryz.func90 (by kernel_rfl)
theorem pnumber_no (k : ¬ pOk y mo d h m s n) : Fn 90 [] [ptv y mo d h m s n] (.tuple #[wz, .bool false]) := by
  by_cases k1 : dOk y mo d
  · by_cases k2 : tOk h m s n
    · have k3 : dnum y mo d = -100000001 ∧ tnan h m s n = 0 := Classical.byContradiction fun q => k ⟨k1, k2, q⟩
      obtain ⟨k4, k5⟩ := k3
      clear k
      refine fn_of Tryz.func90 rfl fun ww => ?_
      refine st_fn ent98 (cdays_yes (y) (mo) (d) (by assumption)) sub0 (by kernel_rfl) ?_
      refine st_fn ent64 (fcnanos_yes (h) (m) (s) (n) (by assumption)) sub0 (by kernel_rfl) ?_
      refine st_b 30 (show (dnum y mo d == -100000001) = true by exact decide_eq_true (by omega)) (by kernel_rfl) ?_
      refine st_b 33 (show (tnan h m s n == 0) = true by exact decide_eq_true (by omega)) (by kernel_rfl) ?_
      exact st_ret Tryz.func90 (by kernel_rfl)
    · clear k
      refine fn_of Tryz.func90 rfl fun ww => ?_
      refine st_fn ent98 (cdays_yes (y) (mo) (d) (by assumption)) sub0 (by kernel_rfl) ?_
      refine st_fn ent64 (fcnanos_no (h) (m) (s) (n) (by assumption)) sub0 (by kernel_rfl) ?_
      exact st_ret Tryz.func90 (by kernel_rfl)
  · by_cases k2 : tOk h m s n
    · clear k
      refine fn_of Tryz.func90 rfl fun ww => ?_
      refine st_fn ent98 (cdays_no (y) (mo) (d) (by assumption)) sub0 (by kernel_rfl) ?_
      refine st_fn ent64 (fcnanos_yes (h) (m) (s) (n) (by assumption)) sub0 (by kernel_rfl) ?_
      exact st_ret Tryz.func90 (by kernel_rfl)
    · clear k
      refine fn_of Tryz.func90 rfl fun ww => ?_
      refine st_fn ent98 (cdays_no (y) (mo) (d) (by assumption)) sub0 (by kernel_rfl) ?_
      refine st_fn ent64 (fcnanos_no (h) (m) (s) (n) (by assumption)) sub0 (by kernel_rfl) ?_
      exact st_ret Tryz.func90 (by kernel_rfl)
theorem pright_yes (k : pOk y mo d h m s n) : Fn 57 [] [ptv y mo d h m s n] (.bool true) := by
  refine fn_of Tryz.func57 rfl fun ww => ?_
  refine st_fn ent90 (pnumber_yes (y) (mo) (d) (h) (m) (s) (n) (by assumption)) sub0 (by kernel_rfl) ?_
  exact st_ret Tryz.func57 (by kernel_rfl)
end
section
variable (y mo d h m s n y' mo' d' h' m' s' n' : Int)
theorem psince_yes (k : pOk y mo d h m s n) (k' : pOk y' mo' d' h' m' s' n') : Fn 62 [] [ptv y mo d h m s n, ptv y' mo' d' h' m' s' n'] (.tuple #[wv (pnum y' mo' d' h' m' s' n' - pnum y mo d h m s n), .int .i64 0]) := by
  have i := pOk_in k
  have i' := pOk_in k'
  have hx : W128 (pnum y mo d h m s n) := by unfold pIn at i; unfold W128; omega
  have hx' : W128 (pnum y' mo' d' h' m' s' n') := by unfold pIn at i'; unfold W128; omega
  have hy : W128 (pnum y' mo' d' h' m' s' n' - pnum y mo d h m s n) := by unfold pIn at i i'; unfold W128; omega
  refine fn_of Tryz.func62 rfl fun ww => ?_
  refine st_fn ent90 (pnumber_yes (y) (mo) (d) (h) (m) (s) (n) (by assumption)) sub0 (by kernel_rfl) ?_
  refine st_fn ent90 (pnumber_yes (y') (mo') (d') (h') (m') (s') (n') (by assumption)) sub0 (by kernel_rfl) ?_
  refine st_fn ent34 (wsub_yes (pnum y' mo' d' h' m' s' n') (pnum y mo d h m s n) (by assumption) (by assumption) (by assumption)) sub0 (by kernel_rfl) ?_
  exact st_ret Tryz.func62 (by kernel_rfl)
theorem psince_no (k : ¬ (pOk y mo d h m s n ∧ pOk y' mo' d' h' m' s' n')) : Fn 62 [] [ptv y mo d h m s n, ptv y' mo' d' h' m' s' n'] (.tuple #[wz, .int .i64 1]) := by
  by_cases k1 : pOk y mo d h m s n
  · have k2 : ¬ pOk y' mo' d' h' m' s' n' := fun q => k ⟨k1, q⟩
    clear k
    refine fn_of Tryz.func62 rfl fun ww => ?_
    refine st_fn ent90 (pnumber_yes (y) (mo) (d) (h) (m) (s) (n) (by assumption)) sub0 (by kernel_rfl) ?_
    refine st_fn ent90 (pnumber_no (y') (mo') (d') (h') (m') (s') (n') (by assumption)) sub0 (by kernel_rfl) ?_
    exact st_ret Tryz.func62 (by kernel_rfl)
  · by_cases k2 : pOk y' mo' d' h' m' s' n'
    · clear k
      refine fn_of Tryz.func62 rfl fun ww => ?_
      refine st_fn ent90 (pnumber_no (y) (mo) (d) (h) (m) (s) (n) (by assumption)) sub0 (by kernel_rfl) ?_
      refine st_fn ent90 (pnumber_yes (y') (mo') (d') (h') (m') (s') (n') (by assumption)) sub0 (by kernel_rfl) ?_
      exact st_ret Tryz.func62 (by kernel_rfl)
    · clear k
      refine fn_of Tryz.func62 rfl fun ww => ?_
      refine st_fn ent90 (pnumber_no (y) (mo) (d) (h) (m) (s) (n) (by assumption)) sub0 (by kernel_rfl) ?_
      refine st_fn ent90 (pnumber_no (y') (mo') (d') (h') (m') (s') (n') (by assumption)) sub0 (by kernel_rfl) ?_
      exact st_ret Tryz.func62 (by kernel_rfl)
end
end Go.Proofs.YtccllfegnijpiaaGreat
end
section
/-
  What lies between two date-times: what the program answers of layer 19.
-/
set_option linter.unusedVariables false
set_option linter.unusedSimpArgs false
set_option maxRecDepth 100000
namespace Go.Proofs.YtccllfegnijpiaaGreat
open Go Go.RowKit Go.Ev

section
variable (y mo d h m s n y' mo' d' h' m' s' n' L : Int)
theorem cbet_a (k : ¬ (pOk y mo d h m s n ∧ pOk y' mo' d' h' m' s' n' ∧ 1 ≤ L ∧ L ≤ 8)) : Fn 17 [] [ptv y mo d h m s n, ptv y' mo' d' h' m' s' n', .int .i64 L] (.tuple #[du0, .int .i64 1]) := by
  by_cases k1 : pOk y mo d h m s n ∧ pOk y' mo' d' h' m' s' n'
  · have r := psince_yes y mo d h m s n y' mo' d' h' m' s' n' k1.1 k1.2
    by_cases l : L < 1
    · clear k k1
      refine fn_of Tryz.func17 rfl fun ww => ?_
      refine st_fn ent62 (r) sub0 (by kernel_rfl) ?_
      refine st_b 30 (show (decide (L < 1)) = true by exact decide_eq_true (by omega)) (by kernel_rfl) ?_
      exact st_ret Tryz.func17 (by kernel_rfl)
    · have l2 : 8 < L := by
        rcases Int.lt_or_le 8 L with q | q
        · exact q
        · exact absurd ⟨k1.1, k1.2, by omega, q⟩ k
      clear k k1
      refine fn_of Tryz.func17 rfl fun ww => ?_
      refine st_fn ent62 (r) sub0 (by kernel_rfl) ?_
      refine st_b 30 (show (decide (L < 1)) = false by exact decide_eq_false (by omega)) (by kernel_rfl) ?_
      refine st_b 34 (show (decide (L > 8)) = true by exact decide_eq_true (by omega)) (by kernel_rfl) ?_
      exact st_ret Tryz.func17 (by kernel_rfl)
  · have r := psince_no y mo d h m s n y' mo' d' h' m' s' n' k1
    clear k k1
    refine fn_of Tryz.func17 rfl fun ww => ?_
    refine st_fn ent62 (r) sub0 (by kernel_rfl) ?_
    exact st_ret Tryz.func17 (by kernel_rfl)
variable (A B C D H M S N e : Int)
theorem cbet_5 (k : pOk y mo d h m s n) (k' : pOk y' mo' d' h' m' s' n') (l1 : 5 ≤ L) (l2 : L ≤ 8) (hl : Fn 63 [] [wv (pnum y' mo' d' h' m' s' n' - pnum y mo d h m s n), .int .i64 L] (.tuple #[duv A B C D H M S N, .int .i64 e])) :
    Fn 17 [] [ptv y mo d h m s n, ptv y' mo' d' h' m' s' n', .int .i64 L] (.tuple #[duv A B C D H M S N, .int .i64 e]) := by
  have r := psince_yes y mo d h m s n y' mo' d' h' m' s' n' k k'
  clear k k'
  refine fn_of Tryz.func17 rfl fun ww => ?_
  refine st_fn ent62 (r) sub0 (by kernel_rfl) ?_
  refine st_b 30 (show (decide (L < 1)) = false by exact decide_eq_false (by omega)) (by kernel_rfl) ?_
  refine st_b 34 (show (decide (L > 8)) = false by exact decide_eq_false (by omega)) (by kernel_rfl) ?_
  refine st_b 38 (show (decide (L > 4)) = true by exact decide_eq_true (by omega)) (by kernel_rfl) ?_
  refine st_fn ent63 (hl) sub0 (by kernel_rfl) ?_
  exact st_ret Tryz.func17 (by kernel_rfl)
theorem cbet_n (k : pOk y mo d h m s n) (k' : pOk y' mo' d' h' m' s' n') (l1 : 1 ≤ L) (l2 : L ≤ 4) (v z : Int) (hv : v = -1 ∨ v = 0 ∨ v = 1) (ev : cmp3 y' mo' d' y mo d = v) (ez : tnan h' m' s' n' - tnan h m s n = z) (hz : ¬ z * v < 0) (F1 F2 F3 F4 e' : Int)
    (hu : Fn 56 [] [dv y mo d, dv y' mo' d', .int .i64 L] (.tuple #[duv A B C D 0 0 0 0, .int .i64 e])) (hl : Fn 63 [] [wv z, .int .i64 5] (.tuple #[duv F1 F2 F3 F4 H M S N, .int .i64 e'])) :
    Fn 17 [] [ptv y mo d h m s n, ptv y' mo' d' h' m' s' n', .int .i64 L] (.tuple #[duv A B C D H M S N, .int .i64 e]) := by
  have r := psince_yes y mo d h m s n y' mo' d' h' m' s' n' k k'
  have n1 := fcnanos_yes h m s n k.2.1
  have n2 := fcnanos_yes h' m' s' n' k'.2.1
  have b1 := tnan_bd k.2.1
  have b2 := tnan_bd k'.2.1
  have cc := ccmp5 y' mo' d' y mo d
  rw [ev] at cc
  generalize tnan h m s n = t at *
  generalize tnan h' m' s' n' = t' at *
  have iz : I64 z := by unfold I64; omega
  generalize pnum y' mo' d' h' m' s' n' - pnum y mo d h m s n = pn at r
  clear k k' ev
  rcases hv with rfl | rfl | rfl
  · refine fn_of Tryz.func17 rfl fun ww => ?_
    refine st_fn ent62 (r) sub0 (by kernel_rfl) ?_
    refine st_b 30 (show (decide (L < 1)) = false by exact decide_eq_false (by omega)) (by kernel_rfl) ?_
    refine st_b 34 (show (decide (L > 8)) = false by exact decide_eq_false (by omega)) (by kernel_rfl) ?_
    refine st_b 38 (show (decide (L > 4)) = false by exact decide_eq_false (by omega)) (by kernel_rfl) ?_
    refine st_fn ent64 (n1) sub0 (by kernel_rfl) ?_
    refine st_fn ent64 (n2) sub0 (by kernel_rfl) ?_
    refine st_i 58 IntKind.i64 (x := IntKind.i64.wrap (t' - t)) ((Go.IntWalk.i64_in (t' - t) (by omega)).trans (ez)) (by kernel_rfl) ?_
    refine st_fn ent65 (cc) sub0 (by kernel_rfl) ?_
    refine st_i 68 .i64 (x' := z * -1) (Go.IntWalk.i64_in _ (by omega)) (by kernel_rfl) ?_
    refine st_b 69 (show (decide (z * -1 < 0)) = false by exact decide_eq_false (by omega)) (by kernel_rfl) ?_
    refine st_fn ent56 (hu) sub0 (by kernel_rfl) ?_
    refine st_fn ent40 (wof_fn (z) (by assumption)) sub0 (by kernel_rfl) ?_
    refine st_fn ent63 (hl) sub0 (by kernel_rfl) ?_
    exact st_ret Tryz.func17 (by kernel_rfl)
  · refine fn_of Tryz.func17 rfl fun ww => ?_
    refine st_fn ent62 (r) sub0 (by kernel_rfl) ?_
    refine st_b 30 (show (decide (L < 1)) = false by exact decide_eq_false (by omega)) (by kernel_rfl) ?_
    refine st_b 34 (show (decide (L > 8)) = false by exact decide_eq_false (by omega)) (by kernel_rfl) ?_
    refine st_b 38 (show (decide (L > 4)) = false by exact decide_eq_false (by omega)) (by kernel_rfl) ?_
    refine st_fn ent64 (n1) sub0 (by kernel_rfl) ?_
    refine st_fn ent64 (n2) sub0 (by kernel_rfl) ?_
    refine st_i 58 IntKind.i64 (x := IntKind.i64.wrap (t' - t)) ((Go.IntWalk.i64_in (t' - t) (by omega)).trans (ez)) (by kernel_rfl) ?_
    refine st_fn ent65 (cc) sub0 (by kernel_rfl) ?_
    refine st_i 68 .i64 (x' := z * 0) (Go.IntWalk.i64_in _ (by omega)) (by kernel_rfl) ?_
    refine st_b 69 (show (decide (z * 0 < 0)) = false by exact decide_eq_false (by omega)) (by kernel_rfl) ?_
    refine st_fn ent56 (hu) sub0 (by kernel_rfl) ?_
    refine st_fn ent40 (wof_fn (z) (by assumption)) sub0 (by kernel_rfl) ?_
    refine st_fn ent63 (hl) sub0 (by kernel_rfl) ?_
    exact st_ret Tryz.func17 (by kernel_rfl)
  · refine fn_of Tryz.func17 rfl fun ww => ?_
    refine st_fn ent62 (r) sub0 (by kernel_rfl) ?_
    refine st_b 30 (show (decide (L < 1)) = false by exact decide_eq_false (by omega)) (by kernel_rfl) ?_
    refine st_b 34 (show (decide (L > 8)) = false by exact decide_eq_false (by omega)) (by kernel_rfl) ?_
    refine st_b 38 (show (decide (L > 4)) = false by exact decide_eq_false (by omega)) (by kernel_rfl) ?_
    refine st_fn ent64 (n1) sub0 (by kernel_rfl) ?_
    refine st_fn ent64 (n2) sub0 (by kernel_rfl) ?_
    refine st_i 58 IntKind.i64 (x := IntKind.i64.wrap (t' - t)) ((Go.IntWalk.i64_in (t' - t) (by omega)).trans (ez)) (by kernel_rfl) ?_
    refine st_fn ent65 (cc) sub0 (by kernel_rfl) ?_
    refine st_i 68 .i64 (x' := z * 1) (Go.IntWalk.i64_in _ (by omega)) (by kernel_rfl) ?_
    refine st_b 69 (show (decide (z * 1 < 0)) = false by exact decide_eq_false (by omega)) (by kernel_rfl) ?_
    refine st_fn ent56 (hu) sub0 (by kernel_rfl) ?_
    refine st_fn ent40 (wof_fn (z) (by assumption)) sub0 (by kernel_rfl) ?_
    refine st_fn ent63 (hl) sub0 (by kernel_rfl) ?_
    exact st_ret Tryz.func17 (by kernel_rfl)
theorem cbet_s (k : pOk y mo d h m s n) (k' : pOk y' mo' d' h' m' s' n') (l1 : 1 ≤ L) (l2 : L ≤ 4) (v z : Int) (hv : v = -1 ∨ v = 1) (ev : cmp3 y' mo' d' y mo d = v) (ez : tnan h' m' s' n' - tnan h m s n = z) (hz : z * v < 0) (Y X W F1 F2 F3 F4 e' : Int)
    (hd : Fn 66 [] [dv y' mo' d', .int .i64 (-v)] (.tuple #[dv Y X W, .int .i64 0]))
    (hu : Fn 56 [] [dv y mo d, dv Y X W, .int .i64 L] (.tuple #[duv A B C D 0 0 0 0, .int .i64 e])) (hl : Fn 63 [] [wv (z + v * 86400000000000), .int .i64 5] (.tuple #[duv F1 F2 F3 F4 H M S N, .int .i64 e'])) :
    Fn 17 [] [ptv y mo d h m s n, ptv y' mo' d' h' m' s' n', .int .i64 L] (.tuple #[duv A B C D H M S N, .int .i64 e]) := by
  have r := psince_yes y mo d h m s n y' mo' d' h' m' s' n' k k'
  have n1 := fcnanos_yes h m s n k.2.1
  have n2 := fcnanos_yes h' m' s' n' k'.2.1
  have b1 := tnan_bd k.2.1
  have b2 := tnan_bd k'.2.1
  have cc := ccmp5 y' mo' d' y mo d
  rw [ev] at cc
  generalize tnan h m s n = t at *
  generalize tnan h' m' s' n' = t' at *
  have iz : I64 (z + v * 86400000000000) := by rcases hv with rfl | rfl <;> (unfold I64; omega)
  generalize pnum y' mo' d' h' m' s' n' - pnum y mo d h m s n = pn at r
  clear k k' ev
  rcases hv with rfl | rfl
  · have iz' : I64 (z + -86400000000000) := by unfold I64; omega
    rw [show z + -1 * 86400000000000 = z + -86400000000000 by omega] at hl
    rw [show -(-1 : Int) = 1 by omega] at hd
    refine fn_of Tryz.func17 rfl fun ww => ?_
    refine st_fn ent62 (r) sub0 (by kernel_rfl) ?_
    refine st_b 30 (show (decide (L < 1)) = false by exact decide_eq_false (by omega)) (by kernel_rfl) ?_
    refine st_b 34 (show (decide (L > 8)) = false by exact decide_eq_false (by omega)) (by kernel_rfl) ?_
    refine st_b 38 (show (decide (L > 4)) = false by exact decide_eq_false (by omega)) (by kernel_rfl) ?_
    refine st_fn ent64 (n1) sub0 (by kernel_rfl) ?_
    refine st_fn ent64 (n2) sub0 (by kernel_rfl) ?_
    refine st_i 58 IntKind.i64 (x := IntKind.i64.wrap (t' - t)) ((Go.IntWalk.i64_in (t' - t) (by omega)).trans (ez)) (by kernel_rfl) ?_
    refine st_fn ent65 (cc) sub0 (by kernel_rfl) ?_
    refine st_i 68 .i64 (x' := z * -1) (Go.IntWalk.i64_in _ (by omega)) (by kernel_rfl) ?_
    refine st_b 69 (show (decide (z * -1 < 0)) = true by exact decide_eq_true (by omega)) (by kernel_rfl) ?_
    refine st_i 73 .i64 (x' := 0 - -1) (Go.IntWalk.i64_in _ (by omega)) (by kernel_rfl) ?_
    refine st_fn ent66 (hd) sub0 (by kernel_rfl) ?_
    refine st_i 79 .i64 (x' := -1 * 86400000000000) (Go.IntWalk.i64_in _ (by omega)) (by kernel_rfl) ?_
    refine st_i 80 .i64 (x' := z + -1 * 86400000000000) (Go.IntWalk.i64_in _ (by omega)) (by kernel_rfl) ?_
    refine st_fn ent56 (hu) sub0 (by kernel_rfl) ?_
    refine st_fn ent40 (wof_fn (z + -1 * 86400000000000) (by assumption)) sub0 (by kernel_rfl) ?_
    refine st_fn ent63 (hl) sub0 (by kernel_rfl) ?_
    exact st_ret Tryz.func17 (by kernel_rfl)
  · have iz' : I64 (z + 86400000000000) := by unfold I64; omega
    rw [show z + 1 * 86400000000000 = z + 86400000000000 by omega] at hl
    refine fn_of Tryz.func17 rfl fun ww => ?_
    refine st_fn ent62 (r) sub0 (by kernel_rfl) ?_
    refine st_b 30 (show (decide (L < 1)) = false by exact decide_eq_false (by omega)) (by kernel_rfl) ?_
    refine st_b 34 (show (decide (L > 8)) = false by exact decide_eq_false (by omega)) (by kernel_rfl) ?_
    refine st_b 38 (show (decide (L > 4)) = false by exact decide_eq_false (by omega)) (by kernel_rfl) ?_
    refine st_fn ent64 (n1) sub0 (by kernel_rfl) ?_
    refine st_fn ent64 (n2) sub0 (by kernel_rfl) ?_
    refine st_i 58 IntKind.i64 (x := IntKind.i64.wrap (t' - t)) ((Go.IntWalk.i64_in (t' - t) (by omega)).trans (ez)) (by kernel_rfl) ?_
    refine st_fn ent65 (cc) sub0 (by kernel_rfl) ?_
    refine st_i 68 .i64 (x' := z * 1) (Go.IntWalk.i64_in _ (by omega)) (by kernel_rfl) ?_
    refine st_b 69 (show (decide (z * 1 < 0)) = true by exact decide_eq_true (by omega)) (by kernel_rfl) ?_
    refine st_i 73 .i64 (x' := 0 - 1) (Go.IntWalk.i64_in _ (by omega)) (by kernel_rfl) ?_
    refine st_fn ent66 (hd) sub0 (by kernel_rfl) ?_
    refine st_i 79 .i64 (x' := 1 * 86400000000000) (Go.IntWalk.i64_in _ (by omega)) (by kernel_rfl) ?_
    refine st_i 80 .i64 (x' := z + 1 * 86400000000000) (Go.IntWalk.i64_in _ (by omega)) (by kernel_rfl) ?_
    refine st_fn ent56 (hu) sub0 (by kernel_rfl) ?_
    refine st_fn ent40 (wof_fn (z + 1 * 86400000000000) (by assumption)) sub0 (by kernel_rfl) ?_
    refine st_fn ent63 (hl) sub0 (by kernel_rfl) ?_
    exact st_ret Tryz.func17 (by kernel_rfl)
end
end Go.Proofs.YtccllfegnijpiaaGreat
end
section
/-
  Durations: signs, units, what may be, as the program and the reference reckon them.
-/
set_option linter.unusedVariables false
set_option maxRecDepth 100000
namespace Go.Proofs.YtccllfegnijpiaaGreat
open Go Go.RowKit Go.Ev

theorem cmpI_sg (x : Int) : (cmpI x 0 = 1 ∧ 0 < x) ∨ (cmpI x 0 = 0 ∧ x = 0) ∨ (cmpI x 0 = -1 ∧ x < 0) := by unfold cmpI; split <;> (try split) <;> omega
theorem cmpI_lt0 {a b : Int} : cmpI a b < 0 ↔ a < b := by unfold cmpI; split <;> (try split) <;> omega
/-- The k-th field. -/
def fl8 (a b c d h mi s n k : Int) : Int := if k = 1 then a else if k = 2 then b else if k = 3 then c else if k = 4 then d else if k = 5 then h else if k = 6 then mi else if k = 7 then s else n
def all64 (a b c d h mi s n : Int) : Prop := I64 a ∧ I64 b ∧ I64 c ∧ I64 d ∧ I64 h ∧ I64 mi ∧ I64 s ∧ I64 n
section
variable (a b c d h mi s n : Int)
theorem usign (i : all64 a b c d h mi s n) : Fn 99 [] [duv a b c d h mi s n] (.int .i64 (sg8 a b c d h mi s n)) := by
  obtain ⟨i1, i2, i3, i4, i5, i6, i7, i8⟩ := i
  refine fn_of Tryz.func99 rfl fun ww => ?_
  refine ufields_row 0 0 (by kernel_rfl) ?_
  refine st_round (by kernel_rfl) ?_
  by_cases k15 : a ≠ 0
  · refine st_b 15 (bne_iff_ne.2 k15) (by kernel_rfl) ?_
    refine st_fn ent40 (wof_fn (a) (by assumption)) sub0 (by kernel_rfl) ?_
    refine st_fn ent101 (wsign_fn (a)) sub0 (by kernel_rfl) ?_
    exact st_retv Tryz.func99 (show vI64 (cmpI a 0) = _ by (refine i_eq ?_; unfold sg8; simp_all)) (by kernel_rfl)
  · refine st_b 15 (bne_eq_false_iff_eq.2 (Classical.not_not.1 k15)) (by kernel_rfl) ?_
    refine st_i 21 .i64 (x' := 0 + 1) (Go.IntWalk.i64_in _ (by omega)) (by kernel_rfl) ?_
    refine st_round (by kernel_rfl) ?_
    by_cases k15 : b ≠ 0
    · refine st_b 15 (bne_iff_ne.2 k15) (by kernel_rfl) ?_
      refine st_fn ent40 (wof_fn (b) (by assumption)) sub0 (by kernel_rfl) ?_
      refine st_fn ent101 (wsign_fn (b)) sub0 (by kernel_rfl) ?_
      exact st_retv Tryz.func99 (show vI64 (cmpI b 0) = _ by (refine i_eq ?_; unfold sg8; simp_all)) (by kernel_rfl)
    · refine st_b 15 (bne_eq_false_iff_eq.2 (Classical.not_not.1 k15)) (by kernel_rfl) ?_
      refine st_i 21 .i64 (x' := 0 + 1 + 1) (Go.IntWalk.i64_in _ (by omega)) (by kernel_rfl) ?_
      refine st_round (by kernel_rfl) ?_
      by_cases k15 : c ≠ 0
      · refine st_b 15 (bne_iff_ne.2 k15) (by kernel_rfl) ?_
        refine st_fn ent40 (wof_fn (c) (by assumption)) sub0 (by kernel_rfl) ?_
        refine st_fn ent101 (wsign_fn (c)) sub0 (by kernel_rfl) ?_
        exact st_retv Tryz.func99 (show vI64 (cmpI c 0) = _ by (refine i_eq ?_; unfold sg8; simp_all)) (by kernel_rfl)
      · refine st_b 15 (bne_eq_false_iff_eq.2 (Classical.not_not.1 k15)) (by kernel_rfl) ?_
        refine st_i 21 .i64 (x' := 0 + 1 + 1 + 1) (Go.IntWalk.i64_in _ (by omega)) (by kernel_rfl) ?_
        refine st_round (by kernel_rfl) ?_
        by_cases k15 : d ≠ 0
        · refine st_b 15 (bne_iff_ne.2 k15) (by kernel_rfl) ?_
          refine st_fn ent40 (wof_fn (d) (by assumption)) sub0 (by kernel_rfl) ?_
          refine st_fn ent101 (wsign_fn (d)) sub0 (by kernel_rfl) ?_
          exact st_retv Tryz.func99 (show vI64 (cmpI d 0) = _ by (refine i_eq ?_; unfold sg8; simp_all)) (by kernel_rfl)
        · refine st_b 15 (bne_eq_false_iff_eq.2 (Classical.not_not.1 k15)) (by kernel_rfl) ?_
          refine st_i 21 .i64 (x' := 0 + 1 + 1 + 1 + 1) (Go.IntWalk.i64_in _ (by omega)) (by kernel_rfl) ?_
          refine st_round (by kernel_rfl) ?_
          by_cases k15 : h ≠ 0
          · refine st_b 15 (bne_iff_ne.2 k15) (by kernel_rfl) ?_
            refine st_fn ent40 (wof_fn (h) (by assumption)) sub0 (by kernel_rfl) ?_
            refine st_fn ent101 (wsign_fn (h)) sub0 (by kernel_rfl) ?_
            exact st_retv Tryz.func99 (show vI64 (cmpI h 0) = _ by (refine i_eq ?_; unfold sg8; simp_all)) (by kernel_rfl)
          · refine st_b 15 (bne_eq_false_iff_eq.2 (Classical.not_not.1 k15)) (by kernel_rfl) ?_
            refine st_i 21 .i64 (x' := 0 + 1 + 1 + 1 + 1 + 1) (Go.IntWalk.i64_in _ (by omega)) (by kernel_rfl) ?_
            refine st_round (by kernel_rfl) ?_
            by_cases k15 : mi ≠ 0
            · refine st_b 15 (bne_iff_ne.2 k15) (by kernel_rfl) ?_
              refine st_fn ent40 (wof_fn (mi) (by assumption)) sub0 (by kernel_rfl) ?_
              refine st_fn ent101 (wsign_fn (mi)) sub0 (by kernel_rfl) ?_
              exact st_retv Tryz.func99 (show vI64 (cmpI mi 0) = _ by (refine i_eq ?_; unfold sg8; simp_all)) (by kernel_rfl)
            · refine st_b 15 (bne_eq_false_iff_eq.2 (Classical.not_not.1 k15)) (by kernel_rfl) ?_
              refine st_i 21 .i64 (x' := 0 + 1 + 1 + 1 + 1 + 1 + 1) (Go.IntWalk.i64_in _ (by omega)) (by kernel_rfl) ?_
              refine st_round (by kernel_rfl) ?_
              by_cases k15 : s ≠ 0
              · refine st_b 15 (bne_iff_ne.2 k15) (by kernel_rfl) ?_
                refine st_fn ent40 (wof_fn (s) (by assumption)) sub0 (by kernel_rfl) ?_
                refine st_fn ent101 (wsign_fn (s)) sub0 (by kernel_rfl) ?_
                exact st_retv Tryz.func99 (show vI64 (cmpI s 0) = _ by (refine i_eq ?_; unfold sg8; simp_all)) (by kernel_rfl)
              · refine st_b 15 (bne_eq_false_iff_eq.2 (Classical.not_not.1 k15)) (by kernel_rfl) ?_
                refine st_i 21 .i64 (x' := 0 + 1 + 1 + 1 + 1 + 1 + 1 + 1) (Go.IntWalk.i64_in _ (by omega)) (by kernel_rfl) ?_
                refine st_round (by kernel_rfl) ?_
                by_cases k15 : n ≠ 0
                · refine st_b 15 (bne_iff_ne.2 k15) (by kernel_rfl) ?_
                  refine st_fn ent40 (wof_fn (n) (by assumption)) sub0 (by kernel_rfl) ?_
                  refine st_fn ent101 (wsign_fn (n)) sub0 (by kernel_rfl) ?_
                  exact st_retv Tryz.func99 (show vI64 (cmpI n 0) = _ by (refine i_eq ?_; unfold sg8; simp_all)) (by kernel_rfl)
                · refine st_b 15 (bne_eq_false_iff_eq.2 (Classical.not_not.1 k15)) (by kernel_rfl) ?_
                  refine st_i 21 .i64 (x' := 0 + 1 + 1 + 1 + 1 + 1 + 1 + 1 + 1) (Go.IntWalk.i64_in _ (by omega)) (by kernel_rfl) ?_
                  refine st_round (by kernel_rfl) ?_
                  exact st_retv Tryz.func99 (show vI64 0 = _ by (refine i_eq ?_; unfold sg8; simp_all [cmpI])) (by kernel_rfl)
theorem uright_p (i : all64 a b c d h mi s n) (hs : sg8 a b c d h mi s n = 1) (hk : 0 < a ∨ a = 0 ∧ (0 < b ∨ b = 0 ∧ (0 < c ∨ c = 0 ∧ (0 < d ∨ d = 0 ∧ (0 < h ∨ h = 0 ∧ (0 < mi ∨ mi = 0 ∧ (0 < s ∨ s = 0 ∧ 0 < n))))))) : Fn 43 [] [duv a b c d h mi s n] (.bool (decide (uOk a b c d h mi s n))) := by
  have us := usign a b c d h mi s n i
  rw [hs] at us
  obtain ⟨i1, i2, i3, i4, i5, i6, i7, i8⟩ := i
  have wt : W128 (dtot d h mi s n) ∧ W128 (-dtot d h mi s n) := by unfold I64 at *; unfold W128 dtot; omega
  obtain ⟨wt1, wt2⟩ := wt
  have ut := utot a b c d h mi s n i4 i5 i6 i7 i8
  have qt := cmpI_lt0 (a := dtot d h mi s n) (b := 9007199254740992000000000)
  refine fn_of Tryz.func43 rfl fun ww => ?_
  refine st_fn ent99 (us) sub0 (by kernel_rfl) ?_
  refine ufields_row 0 0 (by kernel_rfl) ?_
  refine st_forget [0,1,3,7,8,9,10,11,12,46,47,48,49,50,51,52,53,54,55,56,57,58] (by kernel_rfl) ?_
  refine st_loop (X := Int) (fun x => ([SV.val (Value.agg #[vI64 a,vI64 b,vI64 c,vI64 d,vI64 h,vI64 mi,vI64 s,vI64 n]),SV.ptr 0 0,.any,SV.val (vI64 1),.any,.any,.any,svZ,SV.val (Value.agg #[vI64 a,vI64 b,vI64 c,vI64 d,vI64 h,vI64 mi,vI64 s,vI64 n]),SV.val (vI64 1),SV.sl 1 0 9 9,SV.val (vI64 (↑9 : Int)),.val (.int .i64 x),.any,.any,.any,.any,.any,.any,.any,.any,.any,.any,.any,.any,.any,.any,.any,.any,.any,.any,.any,.any,.any,.any,.any,.any,.any,.any,.any,.any,.any,.any,.any,.any,.any,svZ,svZ,svZ,svZ,svZ,svZ,svZ,svZ,svZ,svZ,svZ,svZ,svZ],[⟨[SV.val (vI64 a),SV.val (vI64 b),SV.val (vI64 c),SV.val (vI64 d),SV.val (vI64 h),SV.val (vI64 mi),SV.val (vI64 s),SV.val (vI64 n)],43⟩,⟨[SV.val (Value.pointer none),SV.ptr 0 0,SV.ptr 0 1,SV.ptr 0 2,SV.ptr 0 3,SV.ptr 0 4,SV.ptr 0 5,SV.ptr 0 6,SV.ptr 0 7],139⟩])) (fun _ => _) (fun k => 0 ≤ k ∧ k ≤ 9 ∧ (1 < k → 0 ≤ a ∧ -4294967295 ≤ a ∧ a ≤ 4294967295) ∧ (2 < k → 0 ≤ b ∧ -4294967295 ≤ b ∧ b ≤ 4294967295) ∧ (3 < k → 0 ≤ c ∧ -4294967295 ≤ c ∧ c ≤ 4294967295) ∧ (4 < k → 0 ≤ d) ∧ (5 < k → 0 ≤ h) ∧ (6 < k → 0 ≤ mi) ∧ (7 < k → 0 ≤ s) ∧ (8 < k → 0 ≤ n)) (fun k => (9 - k).toNat) (0) (by kernel_rfl) (by kernel_rfl) Sub.refl (by first | omega | (simp; omega) | assumption | simp_all) (fun y0 px0 back0 => ?_)
  (have q := cmpI_sg (fl8 a b c d h mi s n y0); have hk0 : y0 = 0 ∨ y0 = 1 ∨ y0 = 2 ∨ y0 = 3 ∨ y0 = 4 ∨ y0 = 5 ∨ y0 = 6 ∨ y0 = 7 ∨ y0 = 8 ∨ y0 = 9 := (by omega); rcases hk0 with rfl | rfl | rfl | rfl | rfl | rfl | rfl | rfl | rfl | rfl <;> simp only [fl8, Int.reduceEq, if_true, if_false] at q)
  · have _hh := True.intro
    refine st_i 45 .i64 (x' := 0 + 1) (Go.IntWalk.i64_in _ (by omega)) (by kernel_rfl) ?_
    refine st_forget [0,1,2,3,6,7,8,9,10,11,12,19,20,21,22,23,24,25,26,27,28,29,30,31,32,33,34,35,36,37,38,39,40,41,42,43,44,46,47,48,49,50,51,52,53,54,55,56,57,58] (by kernel_rfl) ?_
    exact st_back back0 (0 + 1) (by first | omega | (simp only []; omega) | (simp; omega)) (by first | (refine b_eq (decide_eq_false ?_).symm; unfold uOk pos8 neg8 cnt1 LIM; omega) | (refine b_eq (decide_eq_decide.2 ?_); unfold uOk pos8 neg8 cnt1 LIM; rw [qt]; unfold dtot; omega) | omega | (simp only []; omega) | (simp; omega) | assumption | simp_all) (fun p hp => by first | exact hp | simp_all) (by kernel_rfl) (by kernel_rfl) (by kernel_rfl)
  · have _hh := True.intro
    refine st_fn ent40 (wof_fn (a) (by assumption)) sub0 (by kernel_rfl) ?_
    refine st_fn ent101 (wsign_fn (a)) sub0 (by kernel_rfl) ?_
    by_cases k25 : cmpI a 0 ≠ 0
    · refine st_b 25 (bne_iff_ne.2 k25) (by kernel_rfl) ?_
      refine st_b 29 (show (cmpI a 0 != 1) = false by exact bne_eq_false_iff_eq.2 (by omega)) (by kernel_rfl) ?_
      by_cases k37 : a > 4294967295
      · refine st_b 37 (decide_eq_true k37) (by kernel_rfl) ?_
        exact st_retv Tryz.func43 (show Value.bool (false) = _ by (refine b_eq (decide_eq_false ?_).symm; unfold uOk pos8 neg8 cnt1 LIM; omega)) (by kernel_rfl)
      · refine st_b 37 (decide_eq_false k37) (by kernel_rfl) ?_
        refine st_b 42 (show (decide (a < -4294967295)) = false by exact decide_eq_false (by omega)) (by kernel_rfl) ?_
        refine st_i 45 .i64 (x' := 1 + 1) (Go.IntWalk.i64_in _ (by omega)) (by kernel_rfl) ?_
        refine st_forget [0,1,2,3,7,8,9,10,11,12,46,47,48,49,50,51,52,53,54,55,56,57,58] (by kernel_rfl) ?_
        exact st_back back0 (1 + 1) (by first | omega | (simp only []; omega) | (simp; omega)) (by first | (refine b_eq (decide_eq_false ?_).symm; unfold uOk pos8 neg8 cnt1 LIM; omega) | (refine b_eq (decide_eq_decide.2 ?_); unfold uOk pos8 neg8 cnt1 LIM; rw [qt]; unfold dtot; omega) | omega | (simp only []; omega) | (simp; omega) | assumption | simp_all) (fun p hp => by first | exact hp | simp_all) (by kernel_rfl) (by kernel_rfl) (by kernel_rfl)
    · refine st_b 25 (bne_eq_false_iff_eq.2 (Classical.not_not.1 k25)) (by kernel_rfl) ?_
      refine st_b 37 (show (decide (a > 4294967295)) = false by exact decide_eq_false (by omega)) (by kernel_rfl) ?_
      refine st_b 42 (show (decide (a < -4294967295)) = false by exact decide_eq_false (by omega)) (by kernel_rfl) ?_
      refine st_i 45 .i64 (x' := 1 + 1) (Go.IntWalk.i64_in _ (by omega)) (by kernel_rfl) ?_
      refine st_forget [0,1,2,3,7,8,9,10,11,12,46,47,48,49,50,51,52,53,54,55,56,57,58] (by kernel_rfl) ?_
      exact st_back back0 (1 + 1) (by first | omega | (simp only []; omega) | (simp; omega)) (by first | (refine b_eq (decide_eq_false ?_).symm; unfold uOk pos8 neg8 cnt1 LIM; omega) | (refine b_eq (decide_eq_decide.2 ?_); unfold uOk pos8 neg8 cnt1 LIM; rw [qt]; unfold dtot; omega) | omega | (simp only []; omega) | (simp; omega) | assumption | simp_all) (fun p hp => by first | exact hp | simp_all) (by kernel_rfl) (by kernel_rfl) (by kernel_rfl)
  · have _hh := True.intro
    refine st_fn ent40 (wof_fn (b) (by assumption)) sub0 (by kernel_rfl) ?_
    refine st_fn ent101 (wsign_fn (b)) sub0 (by kernel_rfl) ?_
    by_cases k25 : cmpI b 0 ≠ 0
    · refine st_b 25 (bne_iff_ne.2 k25) (by kernel_rfl) ?_
      by_cases k29 : cmpI b 0 ≠ 1
      · refine st_b 29 (bne_iff_ne.2 k29) (by kernel_rfl) ?_
        exact st_retv Tryz.func43 (show Value.bool (false) = _ by (refine b_eq (decide_eq_false ?_).symm; unfold uOk pos8 neg8 cnt1 LIM; omega)) (by kernel_rfl)
      · refine st_b 29 (bne_eq_false_iff_eq.2 (Classical.not_not.1 k29)) (by kernel_rfl) ?_
        by_cases k37 : b > 4294967295
        · refine st_b 37 (decide_eq_true k37) (by kernel_rfl) ?_
          exact st_retv Tryz.func43 (show Value.bool (false) = _ by (refine b_eq (decide_eq_false ?_).symm; unfold uOk pos8 neg8 cnt1 LIM; omega)) (by kernel_rfl)
        · refine st_b 37 (decide_eq_false k37) (by kernel_rfl) ?_
          refine st_b 42 (show (decide (b < -4294967295)) = false by exact decide_eq_false (by omega)) (by kernel_rfl) ?_
          refine st_i 45 .i64 (x' := 2 + 1) (Go.IntWalk.i64_in _ (by omega)) (by kernel_rfl) ?_
          refine st_forget [0,1,2,3,7,8,9,10,11,12,46,47,48,49,50,51,52,53,54,55,56,57,58] (by kernel_rfl) ?_
          exact st_back back0 (2 + 1) (by first | omega | (simp only []; omega) | (simp; omega)) (by first | (refine b_eq (decide_eq_false ?_).symm; unfold uOk pos8 neg8 cnt1 LIM; omega) | (refine b_eq (decide_eq_decide.2 ?_); unfold uOk pos8 neg8 cnt1 LIM; rw [qt]; unfold dtot; omega) | omega | (simp only []; omega) | (simp; omega) | assumption | simp_all) (fun p hp => by first | exact hp | simp_all) (by kernel_rfl) (by kernel_rfl) (by kernel_rfl)
    · refine st_b 25 (bne_eq_false_iff_eq.2 (Classical.not_not.1 k25)) (by kernel_rfl) ?_
      refine st_b 37 (show (decide (b > 4294967295)) = false by exact decide_eq_false (by omega)) (by kernel_rfl) ?_
      refine st_b 42 (show (decide (b < -4294967295)) = false by exact decide_eq_false (by omega)) (by kernel_rfl) ?_
      refine st_i 45 .i64 (x' := 2 + 1) (Go.IntWalk.i64_in _ (by omega)) (by kernel_rfl) ?_
      refine st_forget [0,1,2,3,7,8,9,10,11,12,46,47,48,49,50,51,52,53,54,55,56,57,58] (by kernel_rfl) ?_
      exact st_back back0 (2 + 1) (by first | omega | (simp only []; omega) | (simp; omega)) (by first | (refine b_eq (decide_eq_false ?_).symm; unfold uOk pos8 neg8 cnt1 LIM; omega) | (refine b_eq (decide_eq_decide.2 ?_); unfold uOk pos8 neg8 cnt1 LIM; rw [qt]; unfold dtot; omega) | omega | (simp only []; omega) | (simp; omega) | assumption | simp_all) (fun p hp => by first | exact hp | simp_all) (by kernel_rfl) (by kernel_rfl) (by kernel_rfl)
  · have _hh := True.intro
    refine st_fn ent40 (wof_fn (c) (by assumption)) sub0 (by kernel_rfl) ?_
    refine st_fn ent101 (wsign_fn (c)) sub0 (by kernel_rfl) ?_
    by_cases k25 : cmpI c 0 ≠ 0
    · refine st_b 25 (bne_iff_ne.2 k25) (by kernel_rfl) ?_
      by_cases k29 : cmpI c 0 ≠ 1
      · refine st_b 29 (bne_iff_ne.2 k29) (by kernel_rfl) ?_
        exact st_retv Tryz.func43 (show Value.bool (false) = _ by (refine b_eq (decide_eq_false ?_).symm; unfold uOk pos8 neg8 cnt1 LIM; omega)) (by kernel_rfl)
      · refine st_b 29 (bne_eq_false_iff_eq.2 (Classical.not_not.1 k29)) (by kernel_rfl) ?_
        by_cases k37 : c > 4294967295
        · refine st_b 37 (decide_eq_true k37) (by kernel_rfl) ?_
          exact st_retv Tryz.func43 (show Value.bool (false) = _ by (refine b_eq (decide_eq_false ?_).symm; unfold uOk pos8 neg8 cnt1 LIM; omega)) (by kernel_rfl)
        · refine st_b 37 (decide_eq_false k37) (by kernel_rfl) ?_
          refine st_b 42 (show (decide (c < -4294967295)) = false by exact decide_eq_false (by omega)) (by kernel_rfl) ?_
          refine st_i 45 .i64 (x' := 3 + 1) (Go.IntWalk.i64_in _ (by omega)) (by kernel_rfl) ?_
          refine st_forget [0,1,2,3,7,8,9,10,11,12,46,47,48,49,50,51,52,53,54,55,56,57,58] (by kernel_rfl) ?_
          exact st_back back0 (3 + 1) (by first | omega | (simp only []; omega) | (simp; omega)) (by first | (refine b_eq (decide_eq_false ?_).symm; unfold uOk pos8 neg8 cnt1 LIM; omega) | (refine b_eq (decide_eq_decide.2 ?_); unfold uOk pos8 neg8 cnt1 LIM; rw [qt]; unfold dtot; omega) | omega | (simp only []; omega) | (simp; omega) | assumption | simp_all) (fun p hp => by first | exact hp | simp_all) (by kernel_rfl) (by kernel_rfl) (by kernel_rfl)
    · refine st_b 25 (bne_eq_false_iff_eq.2 (Classical.not_not.1 k25)) (by kernel_rfl) ?_
      refine st_b 37 (show (decide (c > 4294967295)) = false by exact decide_eq_false (by omega)) (by kernel_rfl) ?_
      refine st_b 42 (show (decide (c < -4294967295)) = false by exact decide_eq_false (by omega)) (by kernel_rfl) ?_
      refine st_i 45 .i64 (x' := 3 + 1) (Go.IntWalk.i64_in _ (by omega)) (by kernel_rfl) ?_
      refine st_forget [0,1,2,3,7,8,9,10,11,12,46,47,48,49,50,51,52,53,54,55,56,57,58] (by kernel_rfl) ?_
      exact st_back back0 (3 + 1) (by first | omega | (simp only []; omega) | (simp; omega)) (by first | (refine b_eq (decide_eq_false ?_).symm; unfold uOk pos8 neg8 cnt1 LIM; omega) | (refine b_eq (decide_eq_decide.2 ?_); unfold uOk pos8 neg8 cnt1 LIM; rw [qt]; unfold dtot; omega) | omega | (simp only []; omega) | (simp; omega) | assumption | simp_all) (fun p hp => by first | exact hp | simp_all) (by kernel_rfl) (by kernel_rfl) (by kernel_rfl)
  · have _hh := True.intro
    refine st_fn ent40 (wof_fn (d) (by assumption)) sub0 (by kernel_rfl) ?_
    refine st_fn ent101 (wsign_fn (d)) sub0 (by kernel_rfl) ?_
    by_cases k25 : cmpI d 0 ≠ 0
    · refine st_b 25 (bne_iff_ne.2 k25) (by kernel_rfl) ?_
      by_cases k29 : cmpI d 0 ≠ 1
      · refine st_b 29 (bne_iff_ne.2 k29) (by kernel_rfl) ?_
        exact st_retv Tryz.func43 (show Value.bool (false) = _ by (refine b_eq (decide_eq_false ?_).symm; unfold uOk pos8 neg8 cnt1 LIM; omega)) (by kernel_rfl)
      · refine st_b 29 (bne_eq_false_iff_eq.2 (Classical.not_not.1 k29)) (by kernel_rfl) ?_
        refine st_i 45 .i64 (x' := 4 + 1) (Go.IntWalk.i64_in _ (by omega)) (by kernel_rfl) ?_
        refine st_forget [0,1,2,3,7,8,9,10,11,12,46,47,48,49,50,51,52,53,54,55,56,57,58] (by kernel_rfl) ?_
        exact st_back back0 (4 + 1) (by first | omega | (simp only []; omega) | (simp; omega)) (by first | (refine b_eq (decide_eq_false ?_).symm; unfold uOk pos8 neg8 cnt1 LIM; omega) | (refine b_eq (decide_eq_decide.2 ?_); unfold uOk pos8 neg8 cnt1 LIM; rw [qt]; unfold dtot; omega) | omega | (simp only []; omega) | (simp; omega) | assumption | simp_all) (fun p hp => by first | exact hp | simp_all) (by kernel_rfl) (by kernel_rfl) (by kernel_rfl)
    · refine st_b 25 (bne_eq_false_iff_eq.2 (Classical.not_not.1 k25)) (by kernel_rfl) ?_
      refine st_i 45 .i64 (x' := 4 + 1) (Go.IntWalk.i64_in _ (by omega)) (by kernel_rfl) ?_
      refine st_forget [0,1,2,3,7,8,9,10,11,12,46,47,48,49,50,51,52,53,54,55,56,57,58] (by kernel_rfl) ?_
      exact st_back back0 (4 + 1) (by first | omega | (simp only []; omega) | (simp; omega)) (by first | (refine b_eq (decide_eq_false ?_).symm; unfold uOk pos8 neg8 cnt1 LIM; omega) | (refine b_eq (decide_eq_decide.2 ?_); unfold uOk pos8 neg8 cnt1 LIM; rw [qt]; unfold dtot; omega) | omega | (simp only []; omega) | (simp; omega) | assumption | simp_all) (fun p hp => by first | exact hp | simp_all) (by kernel_rfl) (by kernel_rfl) (by kernel_rfl)
  · have _hh := True.intro
    refine st_fn ent40 (wof_fn (h) (by assumption)) sub0 (by kernel_rfl) ?_
    refine st_fn ent101 (wsign_fn (h)) sub0 (by kernel_rfl) ?_
    by_cases k25 : cmpI h 0 ≠ 0
    · refine st_b 25 (bne_iff_ne.2 k25) (by kernel_rfl) ?_
      by_cases k29 : cmpI h 0 ≠ 1
      · refine st_b 29 (bne_iff_ne.2 k29) (by kernel_rfl) ?_
        exact st_retv Tryz.func43 (show Value.bool (false) = _ by (refine b_eq (decide_eq_false ?_).symm; unfold uOk pos8 neg8 cnt1 LIM; omega)) (by kernel_rfl)
      · refine st_b 29 (bne_eq_false_iff_eq.2 (Classical.not_not.1 k29)) (by kernel_rfl) ?_
        refine st_i 45 .i64 (x' := 5 + 1) (Go.IntWalk.i64_in _ (by omega)) (by kernel_rfl) ?_
        refine st_forget [0,1,2,3,7,8,9,10,11,12,46,47,48,49,50,51,52,53,54,55,56,57,58] (by kernel_rfl) ?_
        exact st_back back0 (5 + 1) (by first | omega | (simp only []; omega) | (simp; omega)) (by first | (refine b_eq (decide_eq_false ?_).symm; unfold uOk pos8 neg8 cnt1 LIM; omega) | (refine b_eq (decide_eq_decide.2 ?_); unfold uOk pos8 neg8 cnt1 LIM; rw [qt]; unfold dtot; omega) | omega | (simp only []; omega) | (simp; omega) | assumption | simp_all) (fun p hp => by first | exact hp | simp_all) (by kernel_rfl) (by kernel_rfl) (by kernel_rfl)
    · refine st_b 25 (bne_eq_false_iff_eq.2 (Classical.not_not.1 k25)) (by kernel_rfl) ?_
      refine st_i 45 .i64 (x' := 5 + 1) (Go.IntWalk.i64_in _ (by omega)) (by kernel_rfl) ?_
      refine st_forget [0,1,2,3,7,8,9,10,11,12,46,47,48,49,50,51,52,53,54,55,56,57,58] (by kernel_rfl) ?_
      exact st_back back0 (5 + 1) (by first | omega | (simp only []; omega) | (simp; omega)) (by first | (refine b_eq (decide_eq_false ?_).symm; unfold uOk pos8 neg8 cnt1 LIM; omega) | (refine b_eq (decide_eq_decide.2 ?_); unfold uOk pos8 neg8 cnt1 LIM; rw [qt]; unfold dtot; omega) | omega | (simp only []; omega) | (simp; omega) | assumption | simp_all) (fun p hp => by first | exact hp | simp_all) (by kernel_rfl) (by kernel_rfl) (by kernel_rfl)
  · have _hh := True.intro
    refine st_fn ent40 (wof_fn (mi) (by assumption)) sub0 (by kernel_rfl) ?_
    refine st_fn ent101 (wsign_fn (mi)) sub0 (by kernel_rfl) ?_
    by_cases k25 : cmpI mi 0 ≠ 0
    · refine st_b 25 (bne_iff_ne.2 k25) (by kernel_rfl) ?_
      by_cases k29 : cmpI mi 0 ≠ 1
      · refine st_b 29 (bne_iff_ne.2 k29) (by kernel_rfl) ?_
        exact st_retv Tryz.func43 (show Value.bool (false) = _ by (refine b_eq (decide_eq_false ?_).symm; unfold uOk pos8 neg8 cnt1 LIM; omega)) (by kernel_rfl)
      · refine st_b 29 (bne_eq_false_iff_eq.2 (Classical.not_not.1 k29)) (by kernel_rfl) ?_
        refine st_i 45 .i64 (x' := 6 + 1) (Go.IntWalk.i64_in _ (by omega)) (by kernel_rfl) ?_
        refine st_forget [0,1,2,3,7,8,9,10,11,12,46,47,48,49,50,51,52,53,54,55,56,57,58] (by kernel_rfl) ?_
        exact st_back back0 (6 + 1) (by first | omega | (simp only []; omega) | (simp; omega)) (by first | (refine b_eq (decide_eq_false ?_).symm; unfold uOk pos8 neg8 cnt1 LIM; omega) | (refine b_eq (decide_eq_decide.2 ?_); unfold uOk pos8 neg8 cnt1 LIM; rw [qt]; unfold dtot; omega) | omega | (simp only []; omega) | (simp; omega) | assumption | simp_all) (fun p hp => by first | exact hp | simp_all) (by kernel_rfl) (by kernel_rfl) (by kernel_rfl)
    · refine st_b 25 (bne_eq_false_iff_eq.2 (Classical.not_not.1 k25)) (by kernel_rfl) ?_
      refine st_i 45 .i64 (x' := 6 + 1) (Go.IntWalk.i64_in _ (by omega)) (by kernel_rfl) ?_
      refine st_forget [0,1,2,3,7,8,9,10,11,12,46,47,48,49,50,51,52,53,54,55,56,57,58] (by kernel_rfl) ?_
      exact st_back back0 (6 + 1) (by first | omega | (simp only []; omega) | (simp; omega)) (by first | (refine b_eq (decide_eq_false ?_).symm; unfold uOk pos8 neg8 cnt1 LIM; omega) | (refine b_eq (decide_eq_decide.2 ?_); unfold uOk pos8 neg8 cnt1 LIM; rw [qt]; unfold dtot; omega) | omega | (simp only []; omega) | (simp; omega) | assumption | simp_all) (fun p hp => by first | exact hp | simp_all) (by kernel_rfl) (by kernel_rfl) (by kernel_rfl)
  · have _hh := True.intro
    refine st_fn ent40 (wof_fn (s) (by assumption)) sub0 (by kernel_rfl) ?_
    refine st_fn ent101 (wsign_fn (s)) sub0 (by kernel_rfl) ?_
    by_cases k25 : cmpI s 0 ≠ 0
    · refine st_b 25 (bne_iff_ne.2 k25) (by kernel_rfl) ?_
      by_cases k29 : cmpI s 0 ≠ 1
      · refine st_b 29 (bne_iff_ne.2 k29) (by kernel_rfl) ?_
        exact st_retv Tryz.func43 (show Value.bool (false) = _ by (refine b_eq (decide_eq_false ?_).symm; unfold uOk pos8 neg8 cnt1 LIM; omega)) (by kernel_rfl)
      · refine st_b 29 (bne_eq_false_iff_eq.2 (Classical.not_not.1 k29)) (by kernel_rfl) ?_
        refine st_i 45 .i64 (x' := 7 + 1) (Go.IntWalk.i64_in _ (by omega)) (by kernel_rfl) ?_
        refine st_forget [0,1,2,3,7,8,9,10,11,12,46,47,48,49,50,51,52,53,54,55,56,57,58] (by kernel_rfl) ?_
        exact st_back back0 (7 + 1) (by first | omega | (simp only []; omega) | (simp; omega)) (by first | (refine b_eq (decide_eq_false ?_).symm; unfold uOk pos8 neg8 cnt1 LIM; omega) | (refine b_eq (decide_eq_decide.2 ?_); unfold uOk pos8 neg8 cnt1 LIM; rw [qt]; unfold dtot; omega) | omega | (simp only []; omega) | (simp; omega) | assumption | simp_all) (fun p hp => by first | exact hp | simp_all) (by kernel_rfl) (by kernel_rfl) (by kernel_rfl)
    · refine st_b 25 (bne_eq_false_iff_eq.2 (Classical.not_not.1 k25)) (by kernel_rfl) ?_
      refine st_i 45 .i64 (x' := 7 + 1) (Go.IntWalk.i64_in _ (by omega)) (by kernel_rfl) ?_
      refine st_forget [0,1,2,3,7,8,9,10,11,12,46,47,48,49,50,51,52,53,54,55,56,57,58] (by kernel_rfl) ?_
      exact st_back back0 (7 + 1) (by first | omega | (simp only []; omega) | (simp; omega)) (by first | (refine b_eq (decide_eq_false ?_).symm; unfold uOk pos8 neg8 cnt1 LIM; omega) | (refine b_eq (decide_eq_decide.2 ?_); unfold uOk pos8 neg8 cnt1 LIM; rw [qt]; unfold dtot; omega) | omega | (simp only []; omega) | (simp; omega) | assumption | simp_all) (fun p hp => by first | exact hp | simp_all) (by kernel_rfl) (by kernel_rfl) (by kernel_rfl)
  · have _hh := True.intro
    refine st_fn ent40 (wof_fn (n) (by assumption)) sub0 (by kernel_rfl) ?_
    refine st_fn ent101 (wsign_fn (n)) sub0 (by kernel_rfl) ?_
    by_cases k25 : cmpI n 0 ≠ 0
    · refine st_b 25 (bne_iff_ne.2 k25) (by kernel_rfl) ?_
      by_cases k29 : cmpI n 0 ≠ 1
      · refine st_b 29 (bne_iff_ne.2 k29) (by kernel_rfl) ?_
        exact st_retv Tryz.func43 (show Value.bool (false) = _ by (refine b_eq (decide_eq_false ?_).symm; unfold uOk pos8 neg8 cnt1 LIM; omega)) (by kernel_rfl)
      · refine st_b 29 (bne_eq_false_iff_eq.2 (Classical.not_not.1 k29)) (by kernel_rfl) ?_
        refine st_i 45 .i64 (x' := 8 + 1) (Go.IntWalk.i64_in _ (by omega)) (by kernel_rfl) ?_
        refine st_forget [0,1,2,3,7,8,9,10,11,12,46,47,48,49,50,51,52,53,54,55,56,57,58] (by kernel_rfl) ?_
        exact st_back back0 (8 + 1) (by first | omega | (simp only []; omega) | (simp; omega)) (by first | (refine b_eq (decide_eq_false ?_).symm; unfold uOk pos8 neg8 cnt1 LIM; omega) | (refine b_eq (decide_eq_decide.2 ?_); unfold uOk pos8 neg8 cnt1 LIM; rw [qt]; unfold dtot; omega) | omega | (simp only []; omega) | (simp; omega) | assumption | simp_all) (fun p hp => by first | exact hp | simp_all) (by kernel_rfl) (by kernel_rfl) (by kernel_rfl)
    · refine st_b 25 (bne_eq_false_iff_eq.2 (Classical.not_not.1 k25)) (by kernel_rfl) ?_
      refine st_i 45 .i64 (x' := 8 + 1) (Go.IntWalk.i64_in _ (by omega)) (by kernel_rfl) ?_
      refine st_forget [0,1,2,3,7,8,9,10,11,12,46,47,48,49,50,51,52,53,54,55,56,57,58] (by kernel_rfl) ?_
      exact st_back back0 (8 + 1) (by first | omega | (simp only []; omega) | (simp; omega)) (by first | (refine b_eq (decide_eq_false ?_).symm; unfold uOk pos8 neg8 cnt1 LIM; omega) | (refine b_eq (decide_eq_decide.2 ?_); unfold uOk pos8 neg8 cnt1 LIM; rw [qt]; unfold dtot; omega) | omega | (simp only []; omega) | (simp; omega) | assumption | simp_all) (fun p hp => by first | exact hp | simp_all) (by kernel_rfl) (by kernel_rfl) (by kernel_rfl)
  · have _hh := True.intro
    refine st_fn ent102 (ut) sub0 (by kernel_rfl) ?_
    refine st_fn ent103 (ulimit) sub0 (by kernel_rfl) ?_
    refine st_fn ent73 (wcmp_fn (dtot d h mi s n) (9007199254740992000000000)) sub0 (by kernel_rfl) ?_
    exact st_retv Tryz.func43 (show Value.bool (decide (cmpI (dtot d h mi s n) 9007199254740992000000000 < 0)) = _ by (refine b_eq (decide_eq_decide.2 ?_); unfold uOk pos8 neg8 cnt1 LIM; rw [qt]; unfold dtot; omega)) (by kernel_rfl)
theorem uright_n (i : all64 a b c d h mi s n) (hs : sg8 a b c d h mi s n = -1) (hk : a < 0 ∨ a = 0 ∧ (b < 0 ∨ b = 0 ∧ (c < 0 ∨ c = 0 ∧ (d < 0 ∨ d = 0 ∧ (h < 0 ∨ h = 0 ∧ (mi < 0 ∨ mi = 0 ∧ (s < 0 ∨ s = 0 ∧ n < 0))))))) : Fn 43 [] [duv a b c d h mi s n] (.bool (decide (uOk a b c d h mi s n))) := by
  have us := usign a b c d h mi s n i
  rw [hs] at us
  obtain ⟨i1, i2, i3, i4, i5, i6, i7, i8⟩ := i
  have wt : W128 (dtot d h mi s n) ∧ W128 (-dtot d h mi s n) := by unfold I64 at *; unfold W128 dtot; omega
  obtain ⟨wt1, wt2⟩ := wt
  have ut := utot a b c d h mi s n i4 i5 i6 i7 i8
  have qt := cmpI_lt0 (a := -dtot d h mi s n) (b := 9007199254740992000000000)
  refine fn_of Tryz.func43 rfl fun ww => ?_
  refine st_fn ent99 (us) sub0 (by kernel_rfl) ?_
  refine ufields_row 0 0 (by kernel_rfl) ?_
  refine st_forget [0,1,3,7,8,9,10,11,12,46,47,48,49,50,51,52,53,54,55,56,57,58] (by kernel_rfl) ?_
  refine st_loop (X := Int) (fun x => ([SV.val (Value.agg #[vI64 a,vI64 b,vI64 c,vI64 d,vI64 h,vI64 mi,vI64 s,vI64 n]),SV.ptr 0 0,.any,SV.val (vI64 (-1)),.any,.any,.any,svZ,SV.val (Value.agg #[vI64 a,vI64 b,vI64 c,vI64 d,vI64 h,vI64 mi,vI64 s,vI64 n]),SV.val (vI64 (-1)),SV.sl 1 0 9 9,SV.val (vI64 (↑9 : Int)),.val (.int .i64 x),.any,.any,.any,.any,.any,.any,.any,.any,.any,.any,.any,.any,.any,.any,.any,.any,.any,.any,.any,.any,.any,.any,.any,.any,.any,.any,.any,.any,.any,.any,.any,.any,.any,svZ,svZ,svZ,svZ,svZ,svZ,svZ,svZ,svZ,svZ,svZ,svZ,svZ],[⟨[SV.val (vI64 a),SV.val (vI64 b),SV.val (vI64 c),SV.val (vI64 d),SV.val (vI64 h),SV.val (vI64 mi),SV.val (vI64 s),SV.val (vI64 n)],43⟩,⟨[SV.val (Value.pointer none),SV.ptr 0 0,SV.ptr 0 1,SV.ptr 0 2,SV.ptr 0 3,SV.ptr 0 4,SV.ptr 0 5,SV.ptr 0 6,SV.ptr 0 7],139⟩])) (fun _ => _) (fun k => 0 ≤ k ∧ k ≤ 9 ∧ (1 < k → a ≤ 0 ∧ -4294967295 ≤ a ∧ a ≤ 4294967295) ∧ (2 < k → b ≤ 0 ∧ -4294967295 ≤ b ∧ b ≤ 4294967295) ∧ (3 < k → c ≤ 0 ∧ -4294967295 ≤ c ∧ c ≤ 4294967295) ∧ (4 < k → d ≤ 0) ∧ (5 < k → h ≤ 0) ∧ (6 < k → mi ≤ 0) ∧ (7 < k → s ≤ 0) ∧ (8 < k → n ≤ 0)) (fun k => (9 - k).toNat) (0) (by kernel_rfl) (by kernel_rfl) Sub.refl (by first | omega | (simp; omega) | assumption | simp_all) (fun y0 px0 back0 => ?_)
  (have q := cmpI_sg (fl8 a b c d h mi s n y0); have hk0 : y0 = 0 ∨ y0 = 1 ∨ y0 = 2 ∨ y0 = 3 ∨ y0 = 4 ∨ y0 = 5 ∨ y0 = 6 ∨ y0 = 7 ∨ y0 = 8 ∨ y0 = 9 := (by omega); rcases hk0 with rfl | rfl | rfl | rfl | rfl | rfl | rfl | rfl | rfl | rfl <;> simp only [fl8, Int.reduceEq, if_true, if_false] at q)
  · have _hh := True.intro
    refine st_i 45 .i64 (x' := 0 + 1) (Go.IntWalk.i64_in _ (by omega)) (by kernel_rfl) ?_
    refine st_forget [0,1,2,3,6,7,8,9,10,11,12,19,20,21,22,23,24,25,26,27,28,29,30,31,32,33,34,35,36,37,38,39,40,41,42,43,44,46,47,48,49,50,51,52,53,54,55,56,57,58] (by kernel_rfl) ?_
    exact st_back back0 (0 + 1) (by first | omega | (simp only []; omega) | (simp; omega)) (by first | (refine b_eq (decide_eq_false ?_).symm; unfold uOk pos8 neg8 cnt1 LIM; omega) | (refine b_eq (decide_eq_decide.2 ?_); unfold uOk pos8 neg8 cnt1 LIM; rw [qt]; unfold dtot; omega) | omega | (simp only []; omega) | (simp; omega) | assumption | simp_all) (fun p hp => by first | exact hp | simp_all) (by kernel_rfl) (by kernel_rfl) (by kernel_rfl)
  · have _hh := True.intro
    refine st_fn ent40 (wof_fn (a) (by assumption)) sub0 (by kernel_rfl) ?_
    refine st_fn ent101 (wsign_fn (a)) sub0 (by kernel_rfl) ?_
    by_cases k25 : cmpI a 0 ≠ 0
    · refine st_b 25 (bne_iff_ne.2 k25) (by kernel_rfl) ?_
      refine st_b 29 (show (cmpI a 0 != -1) = false by exact bne_eq_false_iff_eq.2 (by omega)) (by kernel_rfl) ?_
      refine st_b 37 (show (decide (a > 4294967295)) = false by exact decide_eq_false (by omega)) (by kernel_rfl) ?_
      by_cases k42 : a < -4294967295
      · refine st_b 42 (decide_eq_true k42) (by kernel_rfl) ?_
        exact st_retv Tryz.func43 (show Value.bool (false) = _ by (refine b_eq (decide_eq_false ?_).symm; unfold uOk pos8 neg8 cnt1 LIM; omega)) (by kernel_rfl)
      · refine st_b 42 (decide_eq_false k42) (by kernel_rfl) ?_
        refine st_i 45 .i64 (x' := 1 + 1) (Go.IntWalk.i64_in _ (by omega)) (by kernel_rfl) ?_
        refine st_forget [0,1,2,3,7,8,9,10,11,12,46,47,48,49,50,51,52,53,54,55,56,57,58] (by kernel_rfl) ?_
        exact st_back back0 (1 + 1) (by first | omega | (simp only []; omega) | (simp; omega)) (by first | (refine b_eq (decide_eq_false ?_).symm; unfold uOk pos8 neg8 cnt1 LIM; omega) | (refine b_eq (decide_eq_decide.2 ?_); unfold uOk pos8 neg8 cnt1 LIM; rw [qt]; unfold dtot; omega) | omega | (simp only []; omega) | (simp; omega) | assumption | simp_all) (fun p hp => by first | exact hp | simp_all) (by kernel_rfl) (by kernel_rfl) (by kernel_rfl)
    · refine st_b 25 (bne_eq_false_iff_eq.2 (Classical.not_not.1 k25)) (by kernel_rfl) ?_
      refine st_b 37 (show (decide (a > 4294967295)) = false by exact decide_eq_false (by omega)) (by kernel_rfl) ?_
      refine st_b 42 (show (decide (a < -4294967295)) = false by exact decide_eq_false (by omega)) (by kernel_rfl) ?_
      refine st_i 45 .i64 (x' := 1 + 1) (Go.IntWalk.i64_in _ (by omega)) (by kernel_rfl) ?_
      refine st_forget [0,1,2,3,7,8,9,10,11,12,46,47,48,49,50,51,52,53,54,55,56,57,58] (by kernel_rfl) ?_
      exact st_back back0 (1 + 1) (by first | omega | (simp only []; omega) | (simp; omega)) (by first | (refine b_eq (decide_eq_false ?_).symm; unfold uOk pos8 neg8 cnt1 LIM; omega) | (refine b_eq (decide_eq_decide.2 ?_); unfold uOk pos8 neg8 cnt1 LIM; rw [qt]; unfold dtot; omega) | omega | (simp only []; omega) | (simp; omega) | assumption | simp_all) (fun p hp => by first | exact hp | simp_all) (by kernel_rfl) (by kernel_rfl) (by kernel_rfl)
  · have _hh := True.intro
    refine st_fn ent40 (wof_fn (b) (by assumption)) sub0 (by kernel_rfl) ?_
    refine st_fn ent101 (wsign_fn (b)) sub0 (by kernel_rfl) ?_
    by_cases k25 : cmpI b 0 ≠ 0
    · refine st_b 25 (bne_iff_ne.2 k25) (by kernel_rfl) ?_
      by_cases k29 : cmpI b 0 ≠ -1
      · refine st_b 29 (bne_iff_ne.2 k29) (by kernel_rfl) ?_
        exact st_retv Tryz.func43 (show Value.bool (false) = _ by (refine b_eq (decide_eq_false ?_).symm; unfold uOk pos8 neg8 cnt1 LIM; omega)) (by kernel_rfl)
      · refine st_b 29 (bne_eq_false_iff_eq.2 (Classical.not_not.1 k29)) (by kernel_rfl) ?_
        refine st_b 37 (show (decide (b > 4294967295)) = false by exact decide_eq_false (by omega)) (by kernel_rfl) ?_
        by_cases k42 : b < -4294967295
        · refine st_b 42 (decide_eq_true k42) (by kernel_rfl) ?_
          exact st_retv Tryz.func43 (show Value.bool (false) = _ by (refine b_eq (decide_eq_false ?_).symm; unfold uOk pos8 neg8 cnt1 LIM; omega)) (by kernel_rfl)
        · refine st_b 42 (decide_eq_false k42) (by kernel_rfl) ?_
          refine st_i 45 .i64 (x' := 2 + 1) (Go.IntWalk.i64_in _ (by omega)) (by kernel_rfl) ?_
          refine st_forget [0,1,2,3,7,8,9,10,11,12,46,47,48,49,50,51,52,53,54,55,56,57,58] (by kernel_rfl) ?_
          exact st_back back0 (2 + 1) (by first | omega | (simp only []; omega) | (simp; omega)) (by first | (refine b_eq (decide_eq_false ?_).symm; unfold uOk pos8 neg8 cnt1 LIM; omega) | (refine b_eq (decide_eq_decide.2 ?_); unfold uOk pos8 neg8 cnt1 LIM; rw [qt]; unfold dtot; omega) | omega | (simp only []; omega) | (simp; omega) | assumption | simp_all) (fun p hp => by first | exact hp | simp_all) (by kernel_rfl) (by kernel_rfl) (by kernel_rfl)
    · refine st_b 25 (bne_eq_false_iff_eq.2 (Classical.not_not.1 k25)) (by kernel_rfl) ?_
      refine st_b 37 (show (decide (b > 4294967295)) = false by exact decide_eq_false (by omega)) (by kernel_rfl) ?_
      refine st_b 42 (show (decide (b < -4294967295)) = false by exact decide_eq_false (by omega)) (by kernel_rfl) ?_
      refine st_i 45 .i64 (x' := 2 + 1) (Go.IntWalk.i64_in _ (by omega)) (by kernel_rfl) ?_
      refine st_forget [0,1,2,3,7,8,9,10,11,12,46,47,48,49,50,51,52,53,54,55,56,57,58] (by kernel_rfl) ?_
      exact st_back back0 (2 + 1) (by first | omega | (simp only []; omega) | (simp; omega)) (by first | (refine b_eq (decide_eq_false ?_).symm; unfold uOk pos8 neg8 cnt1 LIM; omega) | (refine b_eq (decide_eq_decide.2 ?_); unfold uOk pos8 neg8 cnt1 LIM; rw [qt]; unfold dtot; omega) | omega | (simp only []; omega) | (simp; omega) | assumption | simp_all) (fun p hp => by first | exact hp | simp_all) (by kernel_rfl) (by kernel_rfl) (by kernel_rfl)
  · have _hh := True.intro
    refine st_fn ent40 (wof_fn (c) (by assumption)) sub0 (by kernel_rfl) ?_
    refine st_fn ent101 (wsign_fn (c)) sub0 (by kernel_rfl) ?_
    by_cases k25 : cmpI c 0 ≠ 0
    · refine st_b 25 (bne_iff_ne.2 k25) (by kernel_rfl) ?_
      by_cases k29 : cmpI c 0 ≠ -1
      · refine st_b 29 (bne_iff_ne.2 k29) (by kernel_rfl) ?_
        exact st_retv Tryz.func43 (show Value.bool (false) = _ by (refine b_eq (decide_eq_false ?_).symm; unfold uOk pos8 neg8 cnt1 LIM; omega)) (by kernel_rfl)
      · refine st_b 29 (bne_eq_false_iff_eq.2 (Classical.not_not.1 k29)) (by kernel_rfl) ?_
        refine st_b 37 (show (decide (c > 4294967295)) = false by exact decide_eq_false (by omega)) (by kernel_rfl) ?_
        by_cases k42 : c < -4294967295
        · refine st_b 42 (decide_eq_true k42) (by kernel_rfl) ?_
          exact st_retv Tryz.func43 (show Value.bool (false) = _ by (refine b_eq (decide_eq_false ?_).symm; unfold uOk pos8 neg8 cnt1 LIM; omega)) (by kernel_rfl)
        · refine st_b 42 (decide_eq_false k42) (by kernel_rfl) ?_
          refine st_i 45 .i64 (x' := 3 + 1) (Go.IntWalk.i64_in _ (by omega)) (by kernel_rfl) ?_
          refine st_forget [0,1,2,3,7,8,9,10,11,12,46,47,48,49,50,51,52,53,54,55,56,57,58] (by kernel_rfl) ?_
          exact st_back back0 (3 + 1) (by first | omega | (simp only []; omega) | (simp; omega)) (by first | (refine b_eq (decide_eq_false ?_).symm; unfold uOk pos8 neg8 cnt1 LIM; omega) | (refine b_eq (decide_eq_decide.2 ?_); unfold uOk pos8 neg8 cnt1 LIM; rw [qt]; unfold dtot; omega) | omega | (simp only []; omega) | (simp; omega) | assumption | simp_all) (fun p hp => by first | exact hp | simp_all) (by kernel_rfl) (by kernel_rfl) (by kernel_rfl)
    · refine st_b 25 (bne_eq_false_iff_eq.2 (Classical.not_not.1 k25)) (by kernel_rfl) ?_
      refine st_b 37 (show (decide (c > 4294967295)) = false by exact decide_eq_false (by omega)) (by kernel_rfl) ?_
      refine st_b 42 (show (decide (c < -4294967295)) = false by exact decide_eq_false (by omega)) (by kernel_rfl) ?_
      refine st_i 45 .i64 (x' := 3 + 1) (Go.IntWalk.i64_in _ (by omega)) (by kernel_rfl) ?_
      refine st_forget [0,1,2,3,7,8,9,10,11,12,46,47,48,49,50,51,52,53,54,55,56,57,58] (by kernel_rfl) ?_
      exact st_back back0 (3 + 1) (by first | omega | (simp only []; omega) | (simp; omega)) (by first | (refine b_eq (decide_eq_false ?_).symm; unfold uOk pos8 neg8 cnt1 LIM; omega) | (refine b_eq (decide_eq_decide.2 ?_); unfold uOk pos8 neg8 cnt1 LIM; rw [qt]; unfold dtot; omega) | omega | (simp only []; omega) | (simp; omega) | assumption | simp_all) (fun p hp => by first | exact hp | simp_all) (by kernel_rfl) (by kernel_rfl) (by kernel_rfl)
  · have _hh := True.intro
    refine st_fn ent40 (wof_fn (d) (by assumption)) sub0 (by kernel_rfl) ?_
    refine st_fn ent101 (wsign_fn (d)) sub0 (by kernel_rfl) ?_
    by_cases k25 : cmpI d 0 ≠ 0
    · refine st_b 25 (bne_iff_ne.2 k25) (by kernel_rfl) ?_
      by_cases k29 : cmpI d 0 ≠ -1
      · refine st_b 29 (bne_iff_ne.2 k29) (by kernel_rfl) ?_
        exact st_retv Tryz.func43 (show Value.bool (false) = _ by (refine b_eq (decide_eq_false ?_).symm; unfold uOk pos8 neg8 cnt1 LIM; omega)) (by kernel_rfl)
      · refine st_b 29 (bne_eq_false_iff_eq.2 (Classical.not_not.1 k29)) (by kernel_rfl) ?_
        refine st_i 45 .i64 (x' := 4 + 1) (Go.IntWalk.i64_in _ (by omega)) (by kernel_rfl) ?_
        refine st_forget [0,1,2,3,7,8,9,10,11,12,46,47,48,49,50,51,52,53,54,55,56,57,58] (by kernel_rfl) ?_
        exact st_back back0 (4 + 1) (by first | omega | (simp only []; omega) | (simp; omega)) (by first | (refine b_eq (decide_eq_false ?_).symm; unfold uOk pos8 neg8 cnt1 LIM; omega) | (refine b_eq (decide_eq_decide.2 ?_); unfold uOk pos8 neg8 cnt1 LIM; rw [qt]; unfold dtot; omega) | omega | (simp only []; omega) | (simp; omega) | assumption | simp_all) (fun p hp => by first | exact hp | simp_all) (by kernel_rfl) (by kernel_rfl) (by kernel_rfl)
    · refine st_b 25 (bne_eq_false_iff_eq.2 (Classical.not_not.1 k25)) (by kernel_rfl) ?_
      refine st_i 45 .i64 (x' := 4 + 1) (Go.IntWalk.i64_in _ (by omega)) (by kernel_rfl) ?_
      refine st_forget [0,1,2,3,7,8,9,10,11,12,46,47,48,49,50,51,52,53,54,55,56,57,58] (by kernel_rfl) ?_
      exact st_back back0 (4 + 1) (by first | omega | (simp only []; omega) | (simp; omega)) (by first | (refine b_eq (decide_eq_false ?_).symm; unfold uOk pos8 neg8 cnt1 LIM; omega) | (refine b_eq (decide_eq_decide.2 ?_); unfold uOk pos8 neg8 cnt1 LIM; rw [qt]; unfold dtot; omega) | omega | (simp only []; omega) | (simp; omega) | assumption | simp_all) (fun p hp => by first | exact hp | simp_all) (by kernel_rfl) (by kernel_rfl) (by kernel_rfl)
  · have _hh := True.intro
    refine st_fn ent40 (wof_fn (h) (by assumption)) sub0 (by kernel_rfl) ?_
    refine st_fn ent101 (wsign_fn (h)) sub0 (by kernel_rfl) ?_
    by_cases k25 : cmpI h 0 ≠ 0
    · refine st_b 25 (bne_iff_ne.2 k25) (by kernel_rfl) ?_
      by_cases k29 : cmpI h 0 ≠ -1
      · refine st_b 29 (bne_iff_ne.2 k29) (by kernel_rfl) ?_
        exact st_retv Tryz.func43 (show Value.bool (false) = _ by (refine b_eq (decide_eq_false ?_).symm; unfold uOk pos8 neg8 cnt1 LIM; omega)) (by kernel_rfl)
      · refine st_b 29 (bne_eq_false_iff_eq.2 (Classical.not_not.1 k29)) (by kernel_rfl) ?_
        refine st_i 45 .i64 (x' := 5 + 1) (Go.IntWalk.i64_in _ (by omega)) (by kernel_rfl) ?_
        refine st_forget [0,1,2,3,7,8,9,10,11,12,46,47,48,49,50,51,52,53,54,55,56,57,58] (by kernel_rfl) ?_
        exact st_back back0 (5 + 1) (by first | omega | (simp only []; omega) | (simp; omega)) (by first | (refine b_eq (decide_eq_false ?_).symm; unfold uOk pos8 neg8 cnt1 LIM; omega) | (refine b_eq (decide_eq_decide.2 ?_); unfold uOk pos8 neg8 cnt1 LIM; rw [qt]; unfold dtot; omega) | omega | (simp only []; omega) | (simp; omega) | assumption | simp_all) (fun p hp => by first | exact hp | simp_all) (by kernel_rfl) (by kernel_rfl) (by kernel_rfl)
    · refine st_b 25 (bne_eq_false_iff_eq.2 (Classical.not_not.1 k25)) (by kernel_rfl) ?_
      refine st_i 45 .i64 (x' := 5 + 1) (Go.IntWalk.i64_in _ (by omega)) (by kernel_rfl) ?_
      refine st_forget [0,1,2,3,7,8,9,10,11,12,46,47,48,49,50,51,52,53,54,55,56,57,58] (by kernel_rfl) ?_
      exact st_back back0 (5 + 1) (by first | omega | (simp only []; omega) | (simp; omega)) (by first | (refine b_eq (decide_eq_false ?_).symm; unfold uOk pos8 neg8 cnt1 LIM; omega) | (refine b_eq (decide_eq_decide.2 ?_); unfold uOk pos8 neg8 cnt1 LIM; rw [qt]; unfold dtot; omega) | omega | (simp only []; omega) | (simp; omega) | assumption | simp_all) (fun p hp => by first | exact hp | simp_all) (by kernel_rfl) (by kernel_rfl) (by kernel_rfl)
  · have _hh := True.intro
    refine st_fn ent40 (wof_fn (mi) (by assumption)) sub0 (by kernel_rfl) ?_
    refine st_fn ent101 (wsign_fn (mi)) sub0 (by kernel_rfl) ?_
    by_cases k25 : cmpI mi 0 ≠ 0
    · refine st_b 25 (bne_iff_ne.2 k25) (by kernel_rfl) ?_
      by_cases k29 : cmpI mi 0 ≠ -1
      · refine st_b 29 (bne_iff_ne.2 k29) (by kernel_rfl) ?_
        exact st_retv Tryz.func43 (show Value.bool (false) = _ by (refine b_eq (decide_eq_false ?_).symm; unfold uOk pos8 neg8 cnt1 LIM; omega)) (by kernel_rfl)
      · refine st_b 29 (bne_eq_false_iff_eq.2 (Classical.not_not.1 k29)) (by kernel_rfl) ?_
        refine st_i 45 .i64 (x' := 6 + 1) (Go.IntWalk.i64_in _ (by omega)) (by kernel_rfl) ?_
        refine st_forget [0,1,2,3,7,8,9,10,11,12,46,47,48,49,50,51,52,53,54,55,56,57,58] (by kernel_rfl) ?_
        exact st_back back0 (6 + 1) (by first | omega | (simp only []; omega) | (simp; omega)) (by first | (refine b_eq (decide_eq_false ?_).symm; unfold uOk pos8 neg8 cnt1 LIM; omega) | (refine b_eq (decide_eq_decide.2 ?_); unfold uOk pos8 neg8 cnt1 LIM; rw [qt]; unfold dtot; omega) | omega | (simp only []; omega) | (simp; omega) | assumption | simp_all) (fun p hp => by first | exact hp | simp_all) (by kernel_rfl) (by kernel_rfl) (by kernel_rfl)
    · refine st_b 25 (bne_eq_false_iff_eq.2 (Classical.not_not.1 k25)) (by kernel_rfl) ?_
      refine st_i 45 .i64 (x' := 6 + 1) (Go.IntWalk.i64_in _ (by omega)) (by kernel_rfl) ?_
      refine st_forget [0,1,2,3,7,8,9,10,11,12,46,47,48,49,50,51,52,53,54,55,56,57,58] (by kernel_rfl) ?_
      exact st_back back0 (6 + 1) (by first | omega | (simp only []; omega) | (simp; omega)) (by first | (refine b_eq (decide_eq_false ?_).symm; unfold uOk pos8 neg8 cnt1 LIM; omega) | (refine b_eq (decide_eq_decide.2 ?_); unfold uOk pos8 neg8 cnt1 LIM; rw [qt]; unfold dtot; omega) | omega | (simp only []; omega) | (simp; omega) | assumption | simp_all) (fun p hp => by first | exact hp | simp_all) (by kernel_rfl) (by kernel_rfl) (by kernel_rfl)
  · have _hh := True.intro
    refine st_fn ent40 (wof_fn (s) (by assumption)) sub0 (by kernel_rfl) ?_
    refine st_fn ent101 (wsign_fn (s)) sub0 (by kernel_rfl) ?_
    by_cases k25 : cmpI s 0 ≠ 0
    · refine st_b 25 (bne_iff_ne.2 k25) (by kernel_rfl) ?_
      by_cases k29 : cmpI s 0 ≠ -1
      · refine st_b 29 (bne_iff_ne.2 k29) (by kernel_rfl) ?_
        exact st_retv Tryz.func43 (show Value.bool (false) = _ by (refine b_eq (decide_eq_false ?_).symm; unfold uOk pos8 neg8 cnt1 LIM; omega)) (by kernel_rfl)
      · refine st_b 29 (bne_eq_false_iff_eq.2 (Classical.not_not.1 k29)) (by kernel_rfl) ?_
        refine st_i 45 .i64 (x' := 7 + 1) (Go.IntWalk.i64_in _ (by omega)) (by kernel_rfl) ?_
        refine st_forget [0,1,2,3,7,8,9,10,11,12,46,47,48,49,50,51,52,53,54,55,56,57,58] (by kernel_rfl) ?_
        exact st_back back0 (7 + 1) (by first | omega | (simp only []; omega) | (simp; omega)) (by first | (refine b_eq (decide_eq_false ?_).symm; unfold uOk pos8 neg8 cnt1 LIM; omega) | (refine b_eq (decide_eq_decide.2 ?_); unfold uOk pos8 neg8 cnt1 LIM; rw [qt]; unfold dtot; omega) | omega | (simp only []; omega) | (simp; omega) | assumption | simp_all) (fun p hp => by first | exact hp | simp_all) (by kernel_rfl) (by kernel_rfl) (by kernel_rfl)
    · refine st_b 25 (bne_eq_false_iff_eq.2 (Classical.not_not.1 k25)) (by kernel_rfl) ?_
      refine st_i 45 .i64 (x' := 7 + 1) (Go.IntWalk.i64_in _ (by omega)) (by kernel_rfl) ?_
      refine st_forget [0,1,2,3,7,8,9,10,11,12,46,47,48,49,50,51,52,53,54,55,56,57,58] (by kernel_rfl) ?_
      exact st_back back0 (7 + 1) (by first | omega | (simp only []; omega) | (simp; omega)) (by first | (refine b_eq (decide_eq_false ?_).symm; unfold uOk pos8 neg8 cnt1 LIM; omega) | (refine b_eq (decide_eq_decide.2 ?_); unfold uOk pos8 neg8 cnt1 LIM; rw [qt]; unfold dtot; omega) | omega | (simp only []; omega) | (simp; omega) | assumption | simp_all) (fun p hp => by first | exact hp | simp_all) (by kernel_rfl) (by kernel_rfl) (by kernel_rfl)
  · have _hh := True.intro
    refine st_fn ent40 (wof_fn (n) (by assumption)) sub0 (by kernel_rfl) ?_
    refine st_fn ent101 (wsign_fn (n)) sub0 (by kernel_rfl) ?_
    by_cases k25 : cmpI n 0 ≠ 0
    · refine st_b 25 (bne_iff_ne.2 k25) (by kernel_rfl) ?_
      by_cases k29 : cmpI n 0 ≠ -1
      · refine st_b 29 (bne_iff_ne.2 k29) (by kernel_rfl) ?_
        exact st_retv Tryz.func43 (show Value.bool (false) = _ by (refine b_eq (decide_eq_false ?_).symm; unfold uOk pos8 neg8 cnt1 LIM; omega)) (by kernel_rfl)
      · refine st_b 29 (bne_eq_false_iff_eq.2 (Classical.not_not.1 k29)) (by kernel_rfl) ?_
        refine st_i 45 .i64 (x' := 8 + 1) (Go.IntWalk.i64_in _ (by omega)) (by kernel_rfl) ?_
        refine st_forget [0,1,2,3,7,8,9,10,11,12,46,47,48,49,50,51,52,53,54,55,56,57,58] (by kernel_rfl) ?_
        exact st_back back0 (8 + 1) (by first | omega | (simp only []; omega) | (simp; omega)) (by first | (refine b_eq (decide_eq_false ?_).symm; unfold uOk pos8 neg8 cnt1 LIM; omega) | (refine b_eq (decide_eq_decide.2 ?_); unfold uOk pos8 neg8 cnt1 LIM; rw [qt]; unfold dtot; omega) | omega | (simp only []; omega) | (simp; omega) | assumption | simp_all) (fun p hp => by first | exact hp | simp_all) (by kernel_rfl) (by kernel_rfl) (by kernel_rfl)
    · refine st_b 25 (bne_eq_false_iff_eq.2 (Classical.not_not.1 k25)) (by kernel_rfl) ?_
      refine st_i 45 .i64 (x' := 8 + 1) (Go.IntWalk.i64_in _ (by omega)) (by kernel_rfl) ?_
      refine st_forget [0,1,2,3,7,8,9,10,11,12,46,47,48,49,50,51,52,53,54,55,56,57,58] (by kernel_rfl) ?_
      exact st_back back0 (8 + 1) (by first | omega | (simp only []; omega) | (simp; omega)) (by first | (refine b_eq (decide_eq_false ?_).symm; unfold uOk pos8 neg8 cnt1 LIM; omega) | (refine b_eq (decide_eq_decide.2 ?_); unfold uOk pos8 neg8 cnt1 LIM; rw [qt]; unfold dtot; omega) | omega | (simp only []; omega) | (simp; omega) | assumption | simp_all) (fun p hp => by first | exact hp | simp_all) (by kernel_rfl) (by kernel_rfl) (by kernel_rfl)
  · have _hh := True.intro
    refine st_fn ent102 (ut) sub0 (by kernel_rfl) ?_
    refine st_fn ent71 (wneg_yes (dtot d h mi s n) (by assumption) (by assumption)) sub0 (by kernel_rfl) ?_
    refine st_fn ent103 (ulimit) sub0 (by kernel_rfl) ?_
    refine st_fn ent73 (wcmp_fn (-dtot d h mi s n) (9007199254740992000000000)) sub0 (by kernel_rfl) ?_
    exact st_retv Tryz.func43 (show Value.bool (decide (cmpI (-dtot d h mi s n) 9007199254740992000000000 < 0)) = _ by (refine b_eq (decide_eq_decide.2 ?_); unfold uOk pos8 neg8 cnt1 LIM; rw [qt]; unfold dtot; omega)) (by kernel_rfl)
theorem uright_z (i : all64 a b c d h mi s n) (hs : sg8 a b c d h mi s n = 0) (hk : a = 0 ∧ b = 0 ∧ c = 0 ∧ d = 0 ∧ h = 0 ∧ mi = 0 ∧ s = 0 ∧ n = 0) : Fn 43 [] [duv a b c d h mi s n] (.bool (decide (uOk a b c d h mi s n))) := by
  have us := usign a b c d h mi s n i
  rw [hs] at us
  obtain ⟨i1, i2, i3, i4, i5, i6, i7, i8⟩ := i
  have wt : W128 (dtot d h mi s n) ∧ W128 (-dtot d h mi s n) := by unfold I64 at *; unfold W128 dtot; omega
  obtain ⟨wt1, wt2⟩ := wt
  have ut := utot a b c d h mi s n i4 i5 i6 i7 i8
  have qt := cmpI_lt0 (a := dtot d h mi s n) (b := 9007199254740992000000000)
  refine fn_of Tryz.func43 rfl fun ww => ?_
  refine st_fn ent99 (us) sub0 (by kernel_rfl) ?_
  refine ufields_row 0 0 (by kernel_rfl) ?_
  refine st_forget [0,1,3,7,8,9,10,11,12,46,47,48,49,50,51,52,53,54,55,56,57,58] (by kernel_rfl) ?_
  refine st_loop (X := Int) (fun x => ([SV.val (Value.agg #[vI64 a,vI64 b,vI64 c,vI64 d,vI64 h,vI64 mi,vI64 s,vI64 n]),SV.ptr 0 0,.any,SV.val (vI64 0),.any,.any,.any,svZ,SV.val (Value.agg #[vI64 a,vI64 b,vI64 c,vI64 d,vI64 h,vI64 mi,vI64 s,vI64 n]),SV.val (vI64 0),SV.sl 1 0 9 9,SV.val (vI64 (↑9 : Int)),.val (.int .i64 x),.any,.any,.any,.any,.any,.any,.any,.any,.any,.any,.any,.any,.any,.any,.any,.any,.any,.any,.any,.any,.any,.any,.any,.any,.any,.any,.any,.any,.any,.any,.any,.any,.any,svZ,svZ,svZ,svZ,svZ,svZ,svZ,svZ,svZ,svZ,svZ,svZ,svZ],[⟨[SV.val (vI64 a),SV.val (vI64 b),SV.val (vI64 c),SV.val (vI64 d),SV.val (vI64 h),SV.val (vI64 mi),SV.val (vI64 s),SV.val (vI64 n)],43⟩,⟨[SV.val (Value.pointer none),SV.ptr 0 0,SV.ptr 0 1,SV.ptr 0 2,SV.ptr 0 3,SV.ptr 0 4,SV.ptr 0 5,SV.ptr 0 6,SV.ptr 0 7],139⟩])) (fun _ => _) (fun k => 0 ≤ k ∧ k ≤ 9 ∧ (1 < k → a = 0 ∧ -4294967295 ≤ a ∧ a ≤ 4294967295) ∧ (2 < k → b = 0 ∧ -4294967295 ≤ b ∧ b ≤ 4294967295) ∧ (3 < k → c = 0 ∧ -4294967295 ≤ c ∧ c ≤ 4294967295) ∧ (4 < k → d = 0) ∧ (5 < k → h = 0) ∧ (6 < k → mi = 0) ∧ (7 < k → s = 0) ∧ (8 < k → n = 0)) (fun k => (9 - k).toNat) (0) (by kernel_rfl) (by kernel_rfl) Sub.refl (by first | omega | (simp; omega) | assumption | simp_all) (fun y0 px0 back0 => ?_)
  (have q := cmpI_sg (fl8 a b c d h mi s n y0); have hk0 : y0 = 0 ∨ y0 = 1 ∨ y0 = 2 ∨ y0 = 3 ∨ y0 = 4 ∨ y0 = 5 ∨ y0 = 6 ∨ y0 = 7 ∨ y0 = 8 ∨ y0 = 9 := (by omega); rcases hk0 with rfl | rfl | rfl | rfl | rfl | rfl | rfl | rfl | rfl | rfl <;> simp only [fl8, Int.reduceEq, if_true, if_false] at q)
  · have _hh := True.intro
    refine st_i 45 .i64 (x' := 0 + 1) (Go.IntWalk.i64_in _ (by omega)) (by kernel_rfl) ?_
    refine st_forget [0,1,2,3,6,7,8,9,10,11,12,19,20,21,22,23,24,25,26,27,28,29,30,31,32,33,34,35,36,37,38,39,40,41,42,43,44,46,47,48,49,50,51,52,53,54,55,56,57,58] (by kernel_rfl) ?_
    exact st_back back0 (0 + 1) (by first | omega | (simp only []; omega) | (simp; omega)) (by first | (refine b_eq (decide_eq_false ?_).symm; unfold uOk pos8 neg8 cnt1 LIM; omega) | (refine b_eq (decide_eq_decide.2 ?_); unfold uOk pos8 neg8 cnt1 LIM; rw [qt]; unfold dtot; omega) | omega | (simp only []; omega) | (simp; omega) | assumption | simp_all) (fun p hp => by first | exact hp | simp_all) (by kernel_rfl) (by kernel_rfl) (by kernel_rfl)
  · have _hh := True.intro
    refine st_fn ent40 (wof_fn (a) (by assumption)) sub0 (by kernel_rfl) ?_
    refine st_fn ent101 (wsign_fn (a)) sub0 (by kernel_rfl) ?_
    refine st_b 25 (show (cmpI a 0 != 0) = false by exact bne_eq_false_iff_eq.2 (by omega)) (by kernel_rfl) ?_
    refine st_b 37 (show (decide (a > 4294967295)) = false by exact decide_eq_false (by omega)) (by kernel_rfl) ?_
    refine st_b 42 (show (decide (a < -4294967295)) = false by exact decide_eq_false (by omega)) (by kernel_rfl) ?_
    refine st_i 45 .i64 (x' := 1 + 1) (Go.IntWalk.i64_in _ (by omega)) (by kernel_rfl) ?_
    refine st_forget [0,1,2,3,7,8,9,10,11,12,46,47,48,49,50,51,52,53,54,55,56,57,58] (by kernel_rfl) ?_
    exact st_back back0 (1 + 1) (by first | omega | (simp only []; omega) | (simp; omega)) (by first | (refine b_eq (decide_eq_false ?_).symm; unfold uOk pos8 neg8 cnt1 LIM; omega) | (refine b_eq (decide_eq_decide.2 ?_); unfold uOk pos8 neg8 cnt1 LIM; rw [qt]; unfold dtot; omega) | omega | (simp only []; omega) | (simp; omega) | assumption | simp_all) (fun p hp => by first | exact hp | simp_all) (by kernel_rfl) (by kernel_rfl) (by kernel_rfl)
  · have _hh := True.intro
    refine st_fn ent40 (wof_fn (b) (by assumption)) sub0 (by kernel_rfl) ?_
    refine st_fn ent101 (wsign_fn (b)) sub0 (by kernel_rfl) ?_
    refine st_b 25 (show (cmpI b 0 != 0) = false by exact bne_eq_false_iff_eq.2 (by omega)) (by kernel_rfl) ?_
    refine st_b 37 (show (decide (b > 4294967295)) = false by exact decide_eq_false (by omega)) (by kernel_rfl) ?_
    refine st_b 42 (show (decide (b < -4294967295)) = false by exact decide_eq_false (by omega)) (by kernel_rfl) ?_
    refine st_i 45 .i64 (x' := 2 + 1) (Go.IntWalk.i64_in _ (by omega)) (by kernel_rfl) ?_
    refine st_forget [0,1,2,3,7,8,9,10,11,12,46,47,48,49,50,51,52,53,54,55,56,57,58] (by kernel_rfl) ?_
    exact st_back back0 (2 + 1) (by first | omega | (simp only []; omega) | (simp; omega)) (by first | (refine b_eq (decide_eq_false ?_).symm; unfold uOk pos8 neg8 cnt1 LIM; omega) | (refine b_eq (decide_eq_decide.2 ?_); unfold uOk pos8 neg8 cnt1 LIM; rw [qt]; unfold dtot; omega) | omega | (simp only []; omega) | (simp; omega) | assumption | simp_all) (fun p hp => by first | exact hp | simp_all) (by kernel_rfl) (by kernel_rfl) (by kernel_rfl)
  · have _hh := True.intro
    refine st_fn ent40 (wof_fn (c) (by assumption)) sub0 (by kernel_rfl) ?_
    refine st_fn ent101 (wsign_fn (c)) sub0 (by kernel_rfl) ?_
    refine st_b 25 (show (cmpI c 0 != 0) = false by exact bne_eq_false_iff_eq.2 (by omega)) (by kernel_rfl) ?_
    refine st_b 37 (show (decide (c > 4294967295)) = false by exact decide_eq_false (by omega)) (by kernel_rfl) ?_
    refine st_b 42 (show (decide (c < -4294967295)) = false by exact decide_eq_false (by omega)) (by kernel_rfl) ?_
    refine st_i 45 .i64 (x' := 3 + 1) (Go.IntWalk.i64_in _ (by omega)) (by kernel_rfl) ?_
    refine st_forget [0,1,2,3,7,8,9,10,11,12,46,47,48,49,50,51,52,53,54,55,56,57,58] (by kernel_rfl) ?_
    exact st_back back0 (3 + 1) (by first | omega | (simp only []; omega) | (simp; omega)) (by first | (refine b_eq (decide_eq_false ?_).symm; unfold uOk pos8 neg8 cnt1 LIM; omega) | (refine b_eq (decide_eq_decide.2 ?_); unfold uOk pos8 neg8 cnt1 LIM; rw [qt]; unfold dtot; omega) | omega | (simp only []; omega) | (simp; omega) | assumption | simp_all) (fun p hp => by first | exact hp | simp_all) (by kernel_rfl) (by kernel_rfl) (by kernel_rfl)
  · have _hh := True.intro
    refine st_fn ent40 (wof_fn (d) (by assumption)) sub0 (by kernel_rfl) ?_
    refine st_fn ent101 (wsign_fn (d)) sub0 (by kernel_rfl) ?_
    refine st_b 25 (show (cmpI d 0 != 0) = false by exact bne_eq_false_iff_eq.2 (by omega)) (by kernel_rfl) ?_
    refine st_i 45 .i64 (x' := 4 + 1) (Go.IntWalk.i64_in _ (by omega)) (by kernel_rfl) ?_
    refine st_forget [0,1,2,3,7,8,9,10,11,12,46,47,48,49,50,51,52,53,54,55,56,57,58] (by kernel_rfl) ?_
    exact st_back back0 (4 + 1) (by first | omega | (simp only []; omega) | (simp; omega)) (by first | (refine b_eq (decide_eq_false ?_).symm; unfold uOk pos8 neg8 cnt1 LIM; omega) | (refine b_eq (decide_eq_decide.2 ?_); unfold uOk pos8 neg8 cnt1 LIM; rw [qt]; unfold dtot; omega) | omega | (simp only []; omega) | (simp; omega) | assumption | simp_all) (fun p hp => by first | exact hp | simp_all) (by kernel_rfl) (by kernel_rfl) (by kernel_rfl)
  · have _hh := True.intro
    refine st_fn ent40 (wof_fn (h) (by assumption)) sub0 (by kernel_rfl) ?_
    refine st_fn ent101 (wsign_fn (h)) sub0 (by kernel_rfl) ?_
    refine st_b 25 (show (cmpI h 0 != 0) = false by exact bne_eq_false_iff_eq.2 (by omega)) (by kernel_rfl) ?_
    refine st_i 45 .i64 (x' := 5 + 1) (Go.IntWalk.i64_in _ (by omega)) (by kernel_rfl) ?_
    refine st_forget [0,1,2,3,7,8,9,10,11,12,46,47,48,49,50,51,52,53,54,55,56,57,58] (by kernel_rfl) ?_
    exact st_back back0 (5 + 1) (by first | omega | (simp only []; omega) | (simp; omega)) (by first | (refine b_eq (decide_eq_false ?_).symm; unfold uOk pos8 neg8 cnt1 LIM; omega) | (refine b_eq (decide_eq_decide.2 ?_); unfold uOk pos8 neg8 cnt1 LIM; rw [qt]; unfold dtot; omega) | omega | (simp only []; omega) | (simp; omega) | assumption | simp_all) (fun p hp => by first | exact hp | simp_all) (by kernel_rfl) (by kernel_rfl) (by kernel_rfl)
  · have _hh := True.intro
    refine st_fn ent40 (wof_fn (mi) (by assumption)) sub0 (by kernel_rfl) ?_
    refine st_fn ent101 (wsign_fn (mi)) sub0 (by kernel_rfl) ?_
    refine st_b 25 (show (cmpI mi 0 != 0) = false by exact bne_eq_false_iff_eq.2 (by omega)) (by kernel_rfl) ?_
    refine st_i 45 .i64 (x' := 6 + 1) (Go.IntWalk.i64_in _ (by omega)) (by kernel_rfl) ?_
    refine st_forget [0,1,2,3,7,8,9,10,11,12,46,47,48,49,50,51,52,53,54,55,56,57,58] (by kernel_rfl) ?_
    exact st_back back0 (6 + 1) (by first | omega | (simp only []; omega) | (simp; omega)) (by first | (refine b_eq (decide_eq_false ?_).symm; unfold uOk pos8 neg8 cnt1 LIM; omega) | (refine b_eq (decide_eq_decide.2 ?_); unfold uOk pos8 neg8 cnt1 LIM; rw [qt]; unfold dtot; omega) | omega | (simp only []; omega) | (simp; omega) | assumption | simp_all) (fun p hp => by first | exact hp | simp_all) (by kernel_rfl) (by kernel_rfl) (by kernel_rfl)
  · have _hh := True.intro
    refine st_fn ent40 (wof_fn (s) (by assumption)) sub0 (by kernel_rfl) ?_
    refine st_fn ent101 (wsign_fn (s)) sub0 (by kernel_rfl) ?_
    refine st_b 25 (show (cmpI s 0 != 0) = false by exact bne_eq_false_iff_eq.2 (by omega)) (by kernel_rfl) ?_
    refine st_i 45 .i64 (x' := 7 + 1) (Go.IntWalk.i64_in _ (by omega)) (by kernel_rfl) ?_
    refine st_forget [0,1,2,3,7,8,9,10,11,12,46,47,48,49,50,51,52,53,54,55,56,57,58] (by kernel_rfl) ?_
    exact st_back back0 (7 + 1) (by first | omega | (simp only []; omega) | (simp; omega)) (by first | (refine b_eq (decide_eq_false ?_).symm; unfold uOk pos8 neg8 cnt1 LIM; omega) | (refine b_eq (decide_eq_decide.2 ?_); unfold uOk pos8 neg8 cnt1 LIM; rw [qt]; unfold dtot; omega) | omega | (simp only []; omega) | (simp; omega) | assumption | simp_all) (fun p hp => by first | exact hp | simp_all) (by kernel_rfl) (by kernel_rfl) (by kernel_rfl)
  · have _hh := True.intro
    refine st_fn ent40 (wof_fn (n) (by assumption)) sub0 (by kernel_rfl) ?_
    refine st_fn ent101 (wsign_fn (n)) sub0 (by kernel_rfl) ?_
    refine st_b 25 (show (cmpI n 0 != 0) = false by exact bne_eq_false_iff_eq.2 (by omega)) (by kernel_rfl) ?_
    refine st_i 45 .i64 (x' := 8 + 1) (Go.IntWalk.i64_in _ (by omega)) (by kernel_rfl) ?_
    refine st_forget [0,1,2,3,7,8,9,10,11,12,46,47,48,49,50,51,52,53,54,55,56,57,58] (by kernel_rfl) ?_
    exact st_back back0 (8 + 1) (by first | omega | (simp only []; omega) | (simp; omega)) (by first | (refine b_eq (decide_eq_false ?_).symm; unfold uOk pos8 neg8 cnt1 LIM; omega) | (refine b_eq (decide_eq_decide.2 ?_); unfold uOk pos8 neg8 cnt1 LIM; rw [qt]; unfold dtot; omega) | omega | (simp only []; omega) | (simp; omega) | assumption | simp_all) (fun p hp => by first | exact hp | simp_all) (by kernel_rfl) (by kernel_rfl) (by kernel_rfl)
  · have _hh := True.intro
    refine st_fn ent102 (ut) sub0 (by kernel_rfl) ?_
    refine st_fn ent103 (ulimit) sub0 (by kernel_rfl) ?_
    refine st_fn ent73 (wcmp_fn (dtot d h mi s n) (9007199254740992000000000)) sub0 (by kernel_rfl) ?_
    exact st_retv Tryz.func43 (show Value.bool (decide (cmpI (dtot d h mi s n) 9007199254740992000000000 < 0)) = _ by (refine b_eq (decide_eq_decide.2 ?_); unfold uOk pos8 neg8 cnt1 LIM; rw [qt]; unfold dtot; omega)) (by kernel_rfl)
end
end Go.Proofs.YtccllfegnijpiaaGreat
end
section
/-
  Durations: what may be, as the reference reckons it.
-/
set_option linter.unusedVariables false
set_option maxRecDepth 100000
namespace Go.Proofs.YtccllfegnijpiaaGreat
open Go Go.RowKit Go.Ev

theorem z0_is (w : World) : ZOf ⟨false, none, 0, 0⟩ 0 w := isZ_zero w
section
variable {f0 : FuncId} {E : List TypeId} {w0 : World} {R : Ending → World → Prop} {L : ZL} {c : Cf}
/-- The zero value is the number 0. -/
theorem st_zero (hk : Ru ⟨Tryz.prog, f0, E, w0, R⟩ (ZAll ((⟨false, none, 0, 0⟩, 0) :: L)) c) (hE : E = [3] := by rfl) : Ru ⟨Tryz.prog, f0, E, w0, R⟩ (ZAll L) c := by
  subst hE
  refine ⟨hk.h.mono (ZAll.stable _) fun w hw p hp => ?_⟩
  rcases List.mem_cons.1 hp with rfl | hp
  · exact z0_is w
  · exact hw p hp
end
theorem sg8_1 {a b c d h mi s n : Int} (q : 0 < a ∨ a = 0 ∧ (0 < b ∨ b = 0 ∧ (0 < c ∨ c = 0 ∧ (0 < d ∨ d = 0 ∧ (0 < h ∨ h = 0 ∧ (0 < mi ∨ mi = 0 ∧ (0 < s ∨ s = 0 ∧ (0 < n)))))))) : sg8 a b c d h mi s n = 1 := by
  unfold sg8
  by_cases ka : a = 0
  rotate_left
  · rw [if_pos (by omega)]; have := cmpI_sg a; omega
  rw [if_neg (by omega)]
  by_cases kb : b = 0
  rotate_left
  · rw [if_pos (by omega)]; have := cmpI_sg b; omega
  rw [if_neg (by omega)]
  by_cases kc : c = 0
  rotate_left
  · rw [if_pos (by omega)]; have := cmpI_sg c; omega
  rw [if_neg (by omega)]
  by_cases kd : d = 0
  rotate_left
  · rw [if_pos (by omega)]; have := cmpI_sg d; omega
  rw [if_neg (by omega)]
  by_cases kh : h = 0
  rotate_left
  · rw [if_pos (by omega)]; have := cmpI_sg h; omega
  rw [if_neg (by omega)]
  by_cases kmi : mi = 0
  rotate_left
  · rw [if_pos (by omega)]; have := cmpI_sg mi; omega
  rw [if_neg (by omega)]
  by_cases ks : s = 0
  rotate_left
  · rw [if_pos (by omega)]; have := cmpI_sg s; omega
  rw [if_neg (by omega)]
  have := cmpI_sg n; omega
theorem sg8_m {a b c d h mi s n : Int} (q : a < 0 ∨ a = 0 ∧ (b < 0 ∨ b = 0 ∧ (c < 0 ∨ c = 0 ∧ (d < 0 ∨ d = 0 ∧ (h < 0 ∨ h = 0 ∧ (mi < 0 ∨ mi = 0 ∧ (s < 0 ∨ s = 0 ∧ (n < 0)))))))) : sg8 a b c d h mi s n = -1 := by
  unfold sg8
  by_cases ka : a = 0
  rotate_left
  · rw [if_pos (by omega)]; have := cmpI_sg a; omega
  rw [if_neg (by omega)]
  by_cases kb : b = 0
  rotate_left
  · rw [if_pos (by omega)]; have := cmpI_sg b; omega
  rw [if_neg (by omega)]
  by_cases kc : c = 0
  rotate_left
  · rw [if_pos (by omega)]; have := cmpI_sg c; omega
  rw [if_neg (by omega)]
  by_cases kd : d = 0
  rotate_left
  · rw [if_pos (by omega)]; have := cmpI_sg d; omega
  rw [if_neg (by omega)]
  by_cases kh : h = 0
  rotate_left
  · rw [if_pos (by omega)]; have := cmpI_sg h; omega
  rw [if_neg (by omega)]
  by_cases kmi : mi = 0
  rotate_left
  · rw [if_pos (by omega)]; have := cmpI_sg mi; omega
  rw [if_neg (by omega)]
  by_cases ks : s = 0
  rotate_left
  · rw [if_pos (by omega)]; have := cmpI_sg s; omega
  rw [if_neg (by omega)]
  have := cmpI_sg n; omega
theorem sg8_0 {a b c d h mi s n : Int} (q : a = 0 ∧ b = 0 ∧ c = 0 ∧ d = 0 ∧ h = 0 ∧ mi = 0 ∧ s = 0 ∧ n = 0) : sg8 a b c d h mi s n = 0 := by
  unfold sg8
  by_cases ka : a = 0
  rotate_left
  · rw [if_pos (by omega)]; have := cmpI_sg a; omega
  rw [if_neg (by omega)]
  by_cases kb : b = 0
  rotate_left
  · rw [if_pos (by omega)]; have := cmpI_sg b; omega
  rw [if_neg (by omega)]
  by_cases kc : c = 0
  rotate_left
  · rw [if_pos (by omega)]; have := cmpI_sg c; omega
  rw [if_neg (by omega)]
  by_cases kd : d = 0
  rotate_left
  · rw [if_pos (by omega)]; have := cmpI_sg d; omega
  rw [if_neg (by omega)]
  by_cases kh : h = 0
  rotate_left
  · rw [if_pos (by omega)]; have := cmpI_sg h; omega
  rw [if_neg (by omega)]
  by_cases kmi : mi = 0
  rotate_left
  · rw [if_pos (by omega)]; have := cmpI_sg mi; omega
  rw [if_neg (by omega)]
  by_cases ks : s = 0
  rotate_left
  · rw [if_pos (by omega)]; have := cmpI_sg s; omega
  rw [if_neg (by omega)]
  have := cmpI_sg n; omega
theorem zulen4 : Fn 126 [] [.int .i64 4] (.int .i64 86400000000000) := by
  refine fn_of Tryz.func126 rfl fun ww => ?_
  exact st_ret Tryz.func126 (by kernel_rfl)
theorem zulen5 : Fn 126 [] [.int .i64 5] (.int .i64 3600000000000) := by
  refine fn_of Tryz.func126 rfl fun ww => ?_
  exact st_ret Tryz.func126 (by kernel_rfl)
theorem zulen6 : Fn 126 [] [.int .i64 6] (.int .i64 60000000000) := by
  refine fn_of Tryz.func126 rfl fun ww => ?_
  exact st_ret Tryz.func126 (by kernel_rfl)
theorem zulen7 : Fn 126 [] [.int .i64 7] (.int .i64 1000000000) := by
  refine fn_of Tryz.func126 rfl fun ww => ?_
  exact st_ret Tryz.func126 (by kernel_rfl)
theorem zulen8 : Fn 126 [] [.int .i64 8] (.int .i64 1) := by
  refine fn_of Tryz.func126 rfl fun ww => ?_
  exact st_ret Tryz.func126 (by kernel_rfl)
section
variable (a b c d h mi s n : Int)
theorem zufields : FnB 110 [duv a b c d h mi s n] [.int .i64 a, .int .i64 b, .int .i64 c, .int .i64 d, .int .i64 h, .int .i64 mi, .int .i64 s, .int .i64 n] 2 8 := by
  refine fnB_of Tryz.func110 rfl fun ww => ?_
  exact st_retB Tryz.func110 (by kernel_rfl)
theorem zumade : Fn 127 [] [duv a b c d h mi s n] (duv a b c d h mi s n) := by
  refine fn_of Tryz.func127 rfl fun ww => ?_
  exact st_ret Tryz.func127 (by kernel_rfl)
theorem fzadd0 (q : ZQ) (y : Int) (hy : Fit y) : FnZ 27 [(⟨false, none, 0, 0⟩, 0), (q, y)] [.agg #[.bool false, .slice none 0 0], zv q] zv (0 + y) := fzadd ⟨false, none, 0, 0⟩ q 0 y (Bits.fit (k := 1) (by unfold Bits; decide) (by decide)) hy
theorem zutot (i1 : I64 d) (i2 : I64 h) (i3 : I64 mi) (i4 : I64 s) (i5 : I64 n) : FnZ 113 [] [duv a b c d h mi s n] zv (dtot d h mi s n) := by
  have j1 : I64 86400000000000 := by unfold I64; omega
  have j2 : I64 3600000000000 := by unfold I64; omega
  have j3 : I64 60000000000 := by unfold I64; omega
  have j4 : I64 1000000000 := by unfold I64; omega
  have j5 : I64 1 := by unfold I64; omega
  refine fnG_of Tryz.func113 rfl fun ww => ?_
  refine st_zero ?_
  refine st_rowB ent110 (zufields (a) (b) (c) (d) (h) (mi) (s) (n)) (by kernel_rfl) ?_
  refine st_round (by kernel_rfl) ?_
  refine st_i 22 .i64 (x' := 3 + 1) (Go.IntWalk.i64_in _ (by omega)) (by kernel_rfl) ?_
  refine st_g ent30 (fzint (d) (by assumption)) sub0 (by kernel_rfl) (fun zq1 => ?_)
  refine st_fn ent126 (zulen4) sub0 (by kernel_rfl) ?_
  refine st_g ent30 (fzint (86400000000000) (by assumption)) sub0 (by kernel_rfl) (fun zq3 => ?_)
  refine st_g ent29 (fzmul (zq1) (zq3) (d) (86400000000000) (by exact Bits.fit i1.w.bits (by decide)) (by exact Bits.fit j1.w.bits (by decide))) (subC 1 rfl (subC 0 rfl sub0)) (by kernel_rfl) (fun zq4 => ?_)
  refine st_g ent27 (fzadd0 (zq4) (d * 86400000000000) (by exact Bits.fit (Bits.mul i1.w.bits j1.w.bits) (by decide))) (subC 3 rfl (subC 0 rfl sub0)) (by kernel_rfl) (fun zq5 => ?_)
  refine st_i 14 .i64 (x' := 3 + 1) (Go.IntWalk.i64_in _ (by omega)) (by kernel_rfl) ?_
  refine st_round (by kernel_rfl) ?_
  refine st_i 22 .i64 (x' := 3 + 1 + 1) (Go.IntWalk.i64_in _ (by omega)) (by kernel_rfl) ?_
  refine st_g ent30 (fzint (h) (by assumption)) sub0 (by kernel_rfl) (fun zq6 => ?_)
  refine st_fn ent126 (zulen5) sub0 (by kernel_rfl) ?_
  refine st_g ent30 (fzint (3600000000000) (by assumption)) sub0 (by kernel_rfl) (fun zq8 => ?_)
  refine st_g ent29 (fzmul (zq6) (zq8) (h) (3600000000000) (by exact Bits.fit i2.w.bits (by decide)) (by exact Bits.fit j2.w.bits (by decide))) (subC 1 rfl (subC 0 rfl sub0)) (by kernel_rfl) (fun zq9 => ?_)
  refine st_g ent27 (fzadd (zq5) (zq9) (0 + d * 86400000000000) (h * 3600000000000) (by exact Bits.fit (Bits.add (Bits.mono (l := 256) (show Bits 64 (0) from (by unfold Bits; decide)) (by decide)) (Bits.mono (l := 256) (Bits.mul i1.w.bits j1.w.bits) (by decide))) (by decide)) (by exact Bits.fit (Bits.mul i2.w.bits j2.w.bits) (by decide))) (subC 3 rfl (subC 0 rfl sub0)) (by kernel_rfl) (fun zq10 => ?_)
  refine st_i 14 .i64 (x' := 3 + 1 + 1) (Go.IntWalk.i64_in _ (by omega)) (by kernel_rfl) ?_
  refine st_round (by kernel_rfl) ?_
  refine st_i 22 .i64 (x' := 3 + 1 + 1 + 1) (Go.IntWalk.i64_in _ (by omega)) (by kernel_rfl) ?_
  refine st_g ent30 (fzint (mi) (by assumption)) sub0 (by kernel_rfl) (fun zq11 => ?_)
  refine st_fn ent126 (zulen6) sub0 (by kernel_rfl) ?_
  refine st_g ent30 (fzint (60000000000) (by assumption)) sub0 (by kernel_rfl) (fun zq13 => ?_)
  refine st_g ent29 (fzmul (zq11) (zq13) (mi) (60000000000) (by exact Bits.fit i3.w.bits (by decide)) (by exact Bits.fit j3.w.bits (by decide))) (subC 1 rfl (subC 0 rfl sub0)) (by kernel_rfl) (fun zq14 => ?_)
  refine st_g ent27 (fzadd (zq10) (zq14) (0 + d * 86400000000000 + h * 3600000000000) (mi * 60000000000) (by exact Bits.fit (Bits.add (Bits.mono (l := 257) (Bits.add (Bits.mono (l := 256) (show Bits 64 (0) from (by unfold Bits; decide)) (by decide)) (Bits.mono (l := 256) (Bits.mul i1.w.bits j1.w.bits) (by decide))) (by decide)) (Bits.mono (l := 257) (Bits.mul i2.w.bits j2.w.bits) (by decide))) (by decide)) (by exact Bits.fit (Bits.mul i3.w.bits j3.w.bits) (by decide))) (subC 3 rfl (subC 0 rfl sub0)) (by kernel_rfl) (fun zq15 => ?_)
  refine st_i 14 .i64 (x' := 3 + 1 + 1 + 1) (Go.IntWalk.i64_in _ (by omega)) (by kernel_rfl) ?_
  refine st_round (by kernel_rfl) ?_
  refine st_i 22 .i64 (x' := 3 + 1 + 1 + 1 + 1) (Go.IntWalk.i64_in _ (by omega)) (by kernel_rfl) ?_
  refine st_g ent30 (fzint (s) (by assumption)) sub0 (by kernel_rfl) (fun zq16 => ?_)
  refine st_fn ent126 (zulen7) sub0 (by kernel_rfl) ?_
  refine st_g ent30 (fzint (1000000000) (by assumption)) sub0 (by kernel_rfl) (fun zq18 => ?_)
  refine st_g ent29 (fzmul (zq16) (zq18) (s) (1000000000) (by exact Bits.fit i4.w.bits (by decide)) (by exact Bits.fit j4.w.bits (by decide))) (subC 1 rfl (subC 0 rfl sub0)) (by kernel_rfl) (fun zq19 => ?_)
  refine st_g ent27 (fzadd (zq15) (zq19) (0 + d * 86400000000000 + h * 3600000000000 + mi * 60000000000) (s * 1000000000) (by exact Bits.fit (Bits.add (Bits.mono (l := 258) (Bits.add (Bits.mono (l := 257) (Bits.add (Bits.mono (l := 256) (show Bits 64 (0) from (by unfold Bits; decide)) (by decide)) (Bits.mono (l := 256) (Bits.mul i1.w.bits j1.w.bits) (by decide))) (by decide)) (Bits.mono (l := 257) (Bits.mul i2.w.bits j2.w.bits) (by decide))) (by decide)) (Bits.mono (l := 258) (Bits.mul i3.w.bits j3.w.bits) (by decide))) (by decide)) (by exact Bits.fit (Bits.mul i4.w.bits j4.w.bits) (by decide))) (subC 3 rfl (subC 0 rfl sub0)) (by kernel_rfl) (fun zq20 => ?_)
  refine st_i 14 .i64 (x' := 3 + 1 + 1 + 1 + 1) (Go.IntWalk.i64_in _ (by omega)) (by kernel_rfl) ?_
  refine st_round (by kernel_rfl) ?_
  refine st_i 22 .i64 (x' := 3 + 1 + 1 + 1 + 1 + 1) (Go.IntWalk.i64_in _ (by omega)) (by kernel_rfl) ?_
  refine st_g ent30 (fzint (n) (by assumption)) sub0 (by kernel_rfl) (fun zq21 => ?_)
  refine st_fn ent126 (zulen8) sub0 (by kernel_rfl) ?_
  refine st_g ent30 (fzint (1) (by assumption)) sub0 (by kernel_rfl) (fun zq23 => ?_)
  refine st_g ent29 (fzmul (zq21) (zq23) (n) (1) (by exact Bits.fit i5.w.bits (by decide)) (by exact Bits.fit j5.w.bits (by decide))) (subC 1 rfl (subC 0 rfl sub0)) (by kernel_rfl) (fun zq24 => ?_)
  refine st_g ent27 (fzadd (zq20) (zq24) (0 + d * 86400000000000 + h * 3600000000000 + mi * 60000000000 + s * 1000000000) (n * 1) (by exact Bits.fit (Bits.add (Bits.mono (l := 259) (Bits.add (Bits.mono (l := 258) (Bits.add (Bits.mono (l := 257) (Bits.add (Bits.mono (l := 256) (show Bits 64 (0) from (by unfold Bits; decide)) (by decide)) (Bits.mono (l := 256) (Bits.mul i1.w.bits j1.w.bits) (by decide))) (by decide)) (Bits.mono (l := 257) (Bits.mul i2.w.bits j2.w.bits) (by decide))) (by decide)) (Bits.mono (l := 258) (Bits.mul i3.w.bits j3.w.bits) (by decide))) (by decide)) (Bits.mono (l := 259) (Bits.mul i4.w.bits j4.w.bits) (by decide))) (by decide)) (by exact Bits.fit (Bits.mul i5.w.bits j5.w.bits) (by decide))) (subC 3 rfl (subC 0 rfl sub0)) (by kernel_rfl) (fun zq25 => ?_)
  refine st_i 14 .i64 (x' := 3 + 1 + 1 + 1 + 1 + 1) (Go.IntWalk.i64_in _ (by omega)) (by kernel_rfl) ?_
  refine st_round (by kernel_rfl) ?_
  exact st_retG (zq25) Tryz.func113 (subE 0 rfl (by (unfold dtot; omega)) sub0) (by kernel_rfl)
theorem zpow53 : FnZ 87 [] [.int .i64 53] zv (P 53) := fun w _ => (power_any 53 w (by omega)).mono fun _ _ => zret
theorem zulimit : FnZ 114 [] [] zv 9007199254740992000000000 := by
  have i1 : I64 1000000000 := by unfold I64; omega
  have b1 : Bits 54 (P 53) := Bits.P 53
  refine fnG_of Tryz.func114 rfl fun ww => ?_
  refine st_g ent87 (zpow53) sub0 (by kernel_rfl) (fun zq0 => ?_)
  refine st_g ent30 (fzint (1000000000) (by assumption)) sub0 (by kernel_rfl) (fun zq1 => ?_)
  refine st_g ent29 (fzmul (zq0) (zq1) (P 53) (1000000000) (by exact Bits.fit b1 (by decide)) (by exact Bits.fit i1.w.bits (by decide))) (subC 1 rfl (subC 0 rfl sub0)) (by kernel_rfl) (fun zq2 => ?_)
  exact st_retG (zq2) Tryz.func114 (subE 0 rfl (by rfl) sub0) (by kernel_rfl)
end
end Go.Proofs.YtccllfegnijpiaaGreat
end
