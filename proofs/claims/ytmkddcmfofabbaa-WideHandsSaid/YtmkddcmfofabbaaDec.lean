/-
  Plain lemmas on a number's digits: what is read of them, and that a text has one number.
-/
import Derived.Test.YtmkddcmfofabbaaText
namespace Go.Proofs.Ytmkddcmfofabbaa
open Go Go.RowKit

/-- What digits, the first one first, are read as. -/
def dval (v : Int) : List Int → Int
  | [] => v
  | d :: l => dval (v * 10 + (d - 48)) l
theorem dval_append (v : Int) (l m : List Int) : dval v (l ++ m) = dval (dval v l) m := by
  induction l generalizing v with
  | nil => rfl
  | cons d l ih => exact ih _
def IsDig (d : Int) : Prop := 48 ≤ d ∧ d ≤ 57
theorem decs_dig (n : Nat) : ∀ d ∈ decs n, IsDig d := by
  induction n using Nat.strongRecOn with
  | _ n ih =>
    by_cases h : n < 10
    · rw [decs_lt h]; intro d hd; simp at hd; subst hd; unfold IsDig; omega
    · rw [decs_ge h]
      intro d hd
      rcases List.mem_append.1 hd with h1 | h1
      · exact ih _ (by omega) d h1
      · simp at h1; subst h1; unfold IsDig; omega
theorem decs_ne (n : Nat) : decs n ≠ [] := by
  by_cases h : n < 10
  · rw [decs_lt h]; simp
  · rw [decs_ge h]; simp
theorem decs_val (n : Nat) : dval 0 (decs n) = n := by
  induction n using Nat.strongRecOn with
  | _ n ih =>
    by_cases h : n < 10
    · rw [decs_lt h]; simp [dval]; omega
    · rw [decs_ge h, dval_append, ih _ (by omega)]; simp [dval]; omega
theorem decs_len {n k : Nat} (h : n < 10 ^ k) (hk : 0 < k) : (decs n).length ≤ k := by
  induction k generalizing n with
  | zero => omega
  | succ k ih =>
    by_cases h10 : n < 10
    · rw [decs_lt h10]; simp
    · rw [decs_ge h10]
      have : 0 < k := by
        rcases Nat.eq_zero_or_pos k with e | e
        · subst e; simp at h; omega
        · exact e
      have := ih (n := n / 10) (by rw [Nat.pow_succ] at h; omega) this
      simp; omega
theorem dval_ge (v : Int) (l : List Int) (hl : ∀ d ∈ l, IsDig d) (hv : 0 ≤ v) : v ≤ dval v l := by
  induction l generalizing v with
  | nil => exact Int.le_refl _
  | cons d l ih =>
    have hd := hl d (by simp)
    unfold IsDig at hd
    have := ih (v * 10 + (d - 48)) (fun x hx => hl x (by simp [hx])) (by omega)
    simp only [dval]; omega
theorem dval_take (l : List Int) (k : Nat) (h : k < l.length) : dval 0 (l.take (k + 1)) = dval 0 (l.take k) * 10 + (l.getD k 0 - 48) := by
  rw [List.take_succ_eq_append_getElem h, dval_append, List.getD, List.getElem?_eq_getElem h]; rfl
theorem dval_take_nonneg (l : List Int) (k : Nat) (hl : ∀ i, i < k → IsDig (l.getD i 0)) (hk : k ≤ l.length) : 0 ≤ dval 0 (l.take k) := by
  induction k with
  | zero => simp [dval]
  | succ k ih =>
    rw [dval_take l k (by omega)]
    have := ih (fun i hi => hl i (by omega)) (by omega)
    have := hl k (by omega)
    unfold IsDig at this
    omega
theorem dval_take_le (l : List Int) (k : Nat) (hl : ∀ d ∈ l, IsDig d) : dval 0 (l.take k) ≤ dval 0 l := by
  have h0 : 0 ≤ dval 0 (l.take k) := dval_ge 0 _ (fun d hd => hl d (List.mem_of_mem_take hd)) (Int.le_refl _)
  have := dval_ge (dval 0 (l.take k)) (l.drop k) (fun d hd => hl d (List.mem_of_mem_drop hd)) h0
  rw [← dval_append, List.take_append_drop] at this
  exact this

/-- The first sign. -/
theorem txt_head (n : Int) : (txt n).getD 0 0 = 45 ↔ n < 0 := by
  by_cases h : n < 0
  · rw [txt_neg h]; simp [h]
  · rw [txt_pos h]
    refine ⟨fun e => ?_, fun e => absurd e h⟩
    exfalso
    have hne := decs_ne n.natAbs
    cases hd : decs n.natAbs with
    | nil => exact hne hd
    | cons d l =>
      have := decs_dig n.natAbs d (by rw [hd]; simp)
      rw [hd] at e
      simp at e
      unfold IsDig at this
      omega
/-- What stands behind the sign. -/
def body (B : List Int) : List Int := if B.getD 0 0 = 45 then B.drop 1 else B
theorem body_txt (n : Int) : body (txt n) = decs n.natAbs := by
  unfold body
  by_cases h : n < 0
  · rw [if_pos ((txt_head n).2 h), txt_neg h]; rfl
  · rw [if_neg (fun e => h ((txt_head n).1 e)), txt_pos h]
theorem txt_one {n : Int} {B : List Int} (h : B = txt n) : wsg (decide (B.getD 0 0 = 45)) (dval 0 (body B)) = n := by
  rw [h, body_txt, decs_val]
  by_cases hn : n < 0
  · rw [decide_eq_true ((txt_head n).2 hn), wsg_t]; omega
  · rw [decide_eq_false (fun e => hn ((txt_head n).1 e)), wsg_f]; omega
theorem txt_inj {m n : Int} (h : txt m = txt n) : m = n := by
  rw [← txt_one (n := m) rfl, h, txt_one rfl]
theorem txt_len {n : Int} (h : W128 n) : (txt n).length ≤ 40 := by
  have := mag_W h
  rw [mag_abs] at this
  have h1 : (decs n.natAbs).length ≤ 39 := decs_len (by omega) (by omega)
  by_cases hn : n < 0
  · rw [txt_neg hn]; simp; omega
  · rw [txt_pos hn]; omega
theorem txt_byte (n : Int) : ∀ b ∈ txt n, 0 ≤ b ∧ b < 256 := by
  intro b hb
  by_cases hn : n < 0
  · rw [txt_neg hn] at hb
    rcases List.mem_cons.1 hb with h | h
    · omega
    · have := decs_dig _ b h; unfold IsDig at this; omega
  · rw [txt_pos hn] at hb
    have := decs_dig _ b hb; unfold IsDig at this; omega
def Bytes (B : List Int) : Prop := ∀ b ∈ B, 0 ≤ b ∧ b < 256
theorem str_inj {A B : List Int} (ha : Bytes A) (hb : Bytes B) (h : strOfNums A = strOfNums B) : A = B := by
  have h1 : (A.map fun n => UInt8.ofNat n.toNat) = (B.map fun n => UInt8.ofNat n.toNat) := by
    have := congrArg (fun s : ByteArray => s.data.toList) h
    simpa [strOfNums] using this
  have back : ∀ L : List Int, Bytes L → (L.map fun n => UInt8.ofNat n.toNat).map (fun u => (u.toNat : Int)) = L := by
    intro L hL
    rw [List.map_map]
    conv => rhs; rw [← List.map_id L]
    refine List.map_congr_left fun x hx => ?_
    have := hL x hx
    simp; omega
  rw [← back A ha, h1, back B hb]
theorem str_of (s : ByteArray) : ∃ B : List Int, Bytes B ∧ s = strOfNums B ∧ B.length = s.size := by
  refine ⟨s.data.toList.map (fun u => (u.toNat : Int)), ?_, ?_, by rw [List.length_map, Array.length_toList]; rfl⟩
  · intro b hb
    obtain ⟨u, _, rfl⟩ := List.mem_map.1 hb
    have := u.toNat_lt
    omega
  · unfold strOfNums
    rw [List.map_map]
    have : (fun n => UInt8.ofNat n.toNat) ∘ (fun u : UInt8 => (u.toNat : Int)) = id := by
      funext u; simp
    rw [this, List.map_id]
end Go.Proofs.Ytmkddcmfofabbaa
