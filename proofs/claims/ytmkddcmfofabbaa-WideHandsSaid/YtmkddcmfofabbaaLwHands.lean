/-
  The law WideHands, walked.
-/
import Derived.Test.YtmkddcmfofabbaaHand
import Derived.Test.YtmkddcmfofabbaaLwProds
namespace Go.Proofs.Ytmkddcmfofabbaa
open Go Go.RowKit

theorem out_neg {a n : Int} (hn : 1 ≤ n) (h : a * n < 0) {o : List Int} (e : o = decs a.natAbs) (hl : o.length ≤ 39) : ({ data := #[45] } : ByteArray) ++ strOfNums o = strOfNums (txt a) ∧ ({ data := #[45] } : ByteArray).size + (strOfNums o).size ≤ 9223372036854775807 := by
  have ha : a < 0 := by
    by_cases h0 : a < 0
    · exact h0
    · have := Int.mul_nonneg (show 0 ≤ a by omega) (show 0 ≤ n by omega); omega
  have e45 : ({ data := #[45] } : ByteArray) = strOfNums [45] := rfl
  constructor
  · rw [e45, str_append, txt_neg ha, e]; rfl
  · rw [e45, strOfNums_size, strOfNums_size]; simp; omega
theorem out_pos {a n : Int} (hn : 1 ≤ n) (h : ¬ a * n < 0) {o : List Int} (e : o = decs a.natAbs) : strOfNums o = strOfNums (txt a) := by
  have ha : ¬ a < 0 := by
    intro h0
    have := Int.mul_lt_mul_of_pos_right h0 (show 0 < n by omega)
    omega
  rw [e, txt_pos ha]
set_option maxRecDepth 100000 in
set_option maxHeartbeats 1600000 in
theorem law_hands (a y : Int) (w : World) (ha : I64 a) (y0 : 0 ≤ y) (y1 : y ≤ 4294967295) :
    Calls Try.prog 3 #[.int .i64 a, .int .u32 y] w (fun e w' => e = .returned (.bool true) ∧ Ext w w') := by
  have H1 := Lib.hid wmul
  have H2 := Lib.hid wtext
  have H3 := Lib.hid alive2
  have H4 := Lib.hid liv_of
  obtain ⟨n, hn⟩ : ∃ n, n = y % 1000000 + 1 := ⟨_, rfl⟩
  have hn1 : 1 ≤ n := by omega
  have hn2 : n ≤ 1000000 := by omega
  have HNy := Lib.hid hn.symm
  have hnI : I64 n := by unfold I64; omega
  have hN : W128 (a * n) := mul_W ha hnI
  clear hn
  go_enter Try.func3, Try.ntmps3
  go_wp2_with fail
  rw [HNy.out]
  refine (H1.out _ _ _ ha hnI).mono ?_
  rintro e w1 ⟨rfl, x1⟩
  go_wp2_with fail
  refine (H2.out _ _ hN).mono ?_
  rintro e w2 ⟨rfl, x2⟩
  have xw := Ext.trans x1 x2
  obtain ⟨B, hBe⟩ : ∃ B, B = txt (a * n) := ⟨_, rfl⟩
  rw [← hBe]
  have hB : Bytes B := by rw [hBe]; exact txt_byte _
  have hb45 : bt B 0 = 45 ↔ a * n < 0 := by rw [hBe]; exact txt_head _
  have hbody : body B = decs (a * n).natAbs := by rw [hBe]; exact body_txt _
  have h0' : 0 < B.length := by
    rw [hBe]
    by_cases h : a * n < 0
    · rw [txt_neg h]; simp
    · rw [txt_pos h]; exact List.length_pos_iff.2 (decs_ne _)
  have HBe := Lib.hid hBe
  have HB45 := Lib.hid hb45
  have hs := strOfNums_size B
  have hg := bt_get B hB 0
  clear hb45 hBe
  by_cases hm : bt B 0 = 45
  · have hm' : (bt B 0 == 45) = true := by simpa using hm
    have hx := str_drop B
    obtain ⟨D, hD⟩ : ∃ D, D = B.drop 1 := ⟨_, rfl⟩
    have hDec : Hid (D = decs (a * n).natAbs) := Lib.hid (by rw [hD, ← hbody]; exact (if_pos hm).symm)
    have hDb : Bytes D := by rw [hD]; exact bytes_drop hB 1
    have hDl : D.length ≤ B.length := by rw [hD, List.length_drop]; omega
    have HNeg := Lib.hid (HB45.out.1 hm)
    rw [← hD] at hx
    clear hbody hm hD
    go_wp2_with fail
    clear hg hm' hx hs
    have hDd : ∀ d ∈ D, IsDig d := by rw [hDec.out]; exact decs_dig _
    have hl0 : 0 < (D).length := by rw [hDec.out]; exact List.length_pos_iff.2 (decs_ne _)
    have hl1 : (D).length ≤ 40 := by
      have := txt_len hN
      rw [← HBe.out] at this
      exact Nat.le_trans hDl this
    have hv : dval 0 (D) ≤ 170141183460469231731687303715884105728 := by
      rw [hDec.out, decs_val]; unfold W128 at hN; omega
    have HV := Lib.hid hv
    have HD := Lib.hid hDd
    have HE := Lib.hid (hand_end hn1 hDec.out)
    have HO := Lib.hid (ot_zero (n := n) hl0)
    clear hv hDd
    go_loopw [8, 9, 10] (fun s8 s9 s10 wr => ∃ k : Nat, s10 = .int .i64 k ∧ k ≤ (D).length ∧ s8 = .int .i64 (rv n (D) k) ∧ s9 = .string (strOfNums (ot n (D) k)) ∧ Ext w wr) (fun _ _ s10 _ => (D).length - (intOf s10).toNat)
    case atStart => exact ⟨0, rfl, by omega, by unfold rv; rw [pv_zero]; simp, by rw [HO.out]; rfl, xw⟩
    case round =>
      clear xw HO
      obtain ⟨k, rfl, hk, rfl, rfl, xw⟩ := hrel
      by_cases hlt : k < (D).length
      · obtain ⟨g1, g2, g3, g4, g5, g6, g7⟩ := hand_step HD.out hn1 hlt
        have hd := bt_dig HD.out hlt
        obtain ⟨d0, d1⟩ := hd
        have hg := bt_get (D) hDb k
        have hz := strOfNums_size (D)
        have G5 := Lib.hid g5
        have HM := Lib.hid (@ot_more n (D) HD.out hn1 k hlt)
        have HL := Lib.hid (@ot_less n (D) HD.out hn1 k hlt)
        have hcv := conv_one wr (48 + (rv n (D) k * 10 + (bt (D) k - 48)) / n)
        have hq10 : (rv n (D) k * 10 + (bt (D) k - 48)) / n % 10 = (rv n (D) k * 10 + (bt (D) k - 48)) / n := by omega
        have hsz : (strOfNums (ot n (D) k)).size + (strOfNums [48 + (rv n (D) k * 10 + (bt (D) k - 48)) / n]).size ≤ 9223372036854775807 := by
          have := ot_size HD.out hn1 HV.out k
          rw [strOfNums_size, strOfNums_size]; simp; omega
        have he := str_empty (ot n (D) k)
        clear g5 g6 g7
        have b0 : 0 ≤ rv n (D) k * 10 + (bt (D) k - 48) := by omega
        by_cases hq : 0 < (rv n (D) k * 10 + (bt (D) k - 48)) / n
        · have hM := Lib.hid (HM.out (Or.inl hq))
          clear he
          go_wp2_with fail
          go_roundw
          case rel => exact ⟨k + 1, by go_num, by omega, by rw [G5.out], by rw [hM.out, str_append], Ext.alloc xw⟩
          case measure => simp [intOf]; omega
        · by_cases he0 : ot n (D) k = []
          · have he1 : (strOfNums (ot n (D) k)).toList = [] := he.2 he0
            have he2 : (strOfNums (ot n (D) k)).toList.isEmpty = true := by rw [he1]; rfl
            have HE0 := Lib.hid he0
            clear he he0
            by_cases hlast : k = (D).length - 1
            · have gk : ((k : Int) == ((D).length : Int) - 1) = true := by simp; omega
              have hM := Lib.hid (HM.out (Or.inr (Or.inr hlast)))
              clear hlast
              go_wp2_with fail
              go_roundw
              case rel => exact ⟨k + 1, by go_num, by omega, by rw [G5.out], by rw [hM.out, str_append], Ext.alloc xw⟩
              case measure => simp [intOf]; omega
            · have gk : ((k : Int) == ((D).length : Int) - 1) = false := by simp; omega
              have hM := Lib.hid (HL.out hq HE0.out hlast)
              clear hlast
              go_wp2_with fail
              go_roundw
              case rel => exact ⟨k + 1, by go_num, by omega, by rw [G5.out], by rw [hM.out, HE0.out], xw⟩
              case measure => simp [intOf]; omega
          · have he1 : ¬ (strOfNums (ot n (D) k)).toList = [] := fun h => he0 (he.1 h)
            have he2 : (strOfNums (ot n (D) k)).toList.isEmpty = false := by cases h : (strOfNums (ot n (D) k)).toList with | nil => exact absurd h he1 | cons => rfl
            have hM := Lib.hid (HM.out (Or.inr (Or.inl he0)))
            clear he he0
            go_wp2_with fail
            go_roundw
            case rel => exact ⟨k + 1, by go_num, by omega, by rw [G5.out], by rw [hM.out, str_append], Ext.alloc xw⟩
            case measure => simp [intOf]; omega
      · obtain rfl : k = (D).length := by omega
        obtain ⟨e1, e2⟩ := HE.out
        have hr : (rv n (D) (D).length == 0) = true := by rw [e1]; rfl
        obtain ⟨hout, hsz⟩ := out_neg hn1 HNeg.out e2 (ot_size HD.out hn1 HV.out _)
        clear e1 e2
        have hz := strOfNums_size (D)
        go_wp2_with fail
        refine (H3.out _).mono ?_
        rintro e w3 ⟨rfl, x3⟩
        go_wp2_with fail
        refine (H4.out _ _ ha).mono ?_
        rintro e w4 ⟨rfl, x4⟩
        go_wp2_with fail
        refine (H2.out _ _ ha.w).mono ?_
        rintro e w5 ⟨rfl, x5⟩
        go_wp2_with fail
        go_ret
        exact ⟨rfl, Ext.trans (Ext.trans (Ext.trans xw x3) x4) x5⟩
  · have hm' : (bt B 0 == 45) = false := by simpa using hm
    have hDec : Hid (B = decs (a * n).natAbs) := Lib.hid (by rw [← hbody]; exact (if_neg hm).symm)
    have HNeg : Hid (¬ a * n < 0) := Lib.hid (fun h => hm (HB45.out.2 h))
    clear hbody hm
    go_wp2_with fail
    clear hg hm' hs
    have hDd : ∀ d ∈ B, IsDig d := by rw [hDec.out]; exact decs_dig _
    have hl0 : 0 < (B).length := by rw [hDec.out]; exact List.length_pos_iff.2 (decs_ne _)
    have hl1 : (B).length ≤ 40 := by
      have := txt_len hN
      rw [← HBe.out] at this
      exact Nat.le_trans (Nat.le_refl _) this
    have hv : dval 0 (B) ≤ 170141183460469231731687303715884105728 := by
      rw [hDec.out, decs_val]; unfold W128 at hN; omega
    have HV := Lib.hid hv
    have HD := Lib.hid hDd
    have HE := Lib.hid (hand_end hn1 hDec.out)
    have HO := Lib.hid (ot_zero (n := n) hl0)
    clear hv hDd
    go_loopw [8, 9, 10] (fun s8 s9 s10 wr => ∃ k : Nat, s10 = .int .i64 k ∧ k ≤ (B).length ∧ s8 = .int .i64 (rv n (B) k) ∧ s9 = .string (strOfNums (ot n (B) k)) ∧ Ext w wr) (fun _ _ s10 _ => (B).length - (intOf s10).toNat)
    case atStart => exact ⟨0, rfl, by omega, by unfold rv; rw [pv_zero]; simp, by rw [HO.out]; rfl, xw⟩
    case round =>
      clear xw HO
      obtain ⟨k, rfl, hk, rfl, rfl, xw⟩ := hrel
      by_cases hlt : k < (B).length
      · obtain ⟨g1, g2, g3, g4, g5, g6, g7⟩ := hand_step HD.out hn1 hlt
        have hd := bt_dig HD.out hlt
        obtain ⟨d0, d1⟩ := hd
        have hg := bt_get (B) hB k
        have hz := strOfNums_size (B)
        have G5 := Lib.hid g5
        have HM := Lib.hid (@ot_more n (B) HD.out hn1 k hlt)
        have HL := Lib.hid (@ot_less n (B) HD.out hn1 k hlt)
        have hcv := conv_one wr (48 + (rv n (B) k * 10 + (bt (B) k - 48)) / n)
        have hq10 : (rv n (B) k * 10 + (bt (B) k - 48)) / n % 10 = (rv n (B) k * 10 + (bt (B) k - 48)) / n := by omega
        have hsz : (strOfNums (ot n (B) k)).size + (strOfNums [48 + (rv n (B) k * 10 + (bt (B) k - 48)) / n]).size ≤ 9223372036854775807 := by
          have := ot_size HD.out hn1 HV.out k
          rw [strOfNums_size, strOfNums_size]; simp; omega
        have he := str_empty (ot n (B) k)
        clear g5 g6 g7
        have b0 : 0 ≤ rv n (B) k * 10 + (bt (B) k - 48) := by omega
        by_cases hq : 0 < (rv n (B) k * 10 + (bt (B) k - 48)) / n
        · have hM := Lib.hid (HM.out (Or.inl hq))
          clear he
          go_wp2_with fail
          go_roundw
          case rel => exact ⟨k + 1, by go_num, by omega, by rw [G5.out], by rw [hM.out, str_append], Ext.alloc xw⟩
          case measure => simp [intOf]; omega
        · by_cases he0 : ot n (B) k = []
          · have he1 : (strOfNums (ot n (B) k)).toList = [] := he.2 he0
            have he2 : (strOfNums (ot n (B) k)).toList.isEmpty = true := by rw [he1]; rfl
            have HE0 := Lib.hid he0
            clear he he0
            by_cases hlast : k = (B).length - 1
            · have gk : ((k : Int) == ((B).length : Int) - 1) = true := by simp; omega
              have hM := Lib.hid (HM.out (Or.inr (Or.inr hlast)))
              clear hlast
              go_wp2_with fail
              go_roundw
              case rel => exact ⟨k + 1, by go_num, by omega, by rw [G5.out], by rw [hM.out, str_append], Ext.alloc xw⟩
              case measure => simp [intOf]; omega
            · have gk : ((k : Int) == ((B).length : Int) - 1) = false := by simp; omega
              have hM := Lib.hid (HL.out hq HE0.out hlast)
              clear hlast
              go_wp2_with fail
              go_roundw
              case rel => exact ⟨k + 1, by go_num, by omega, by rw [G5.out], by rw [hM.out, HE0.out], xw⟩
              case measure => simp [intOf]; omega
          · have he1 : ¬ (strOfNums (ot n (B) k)).toList = [] := fun h => he0 (he.1 h)
            have he2 : (strOfNums (ot n (B) k)).toList.isEmpty = false := by cases h : (strOfNums (ot n (B) k)).toList with | nil => exact absurd h he1 | cons => rfl
            have hM := Lib.hid (HM.out (Or.inr (Or.inl he0)))
            clear he he0
            go_wp2_with fail
            go_roundw
            case rel => exact ⟨k + 1, by go_num, by omega, by rw [G5.out], by rw [hM.out, str_append], Ext.alloc xw⟩
            case measure => simp [intOf]; omega
      · obtain rfl : k = (B).length := by omega
        obtain ⟨e1, e2⟩ := HE.out
        have hr : (rv n (B) (B).length == 0) = true := by rw [e1]; rfl
        have hout := out_pos hn1 (Int.not_lt.2 HNeg.out) e2
        clear e1 e2
        have hz := strOfNums_size (B)
        go_wp2_with fail
        refine (H3.out _).mono ?_
        rintro e w3 ⟨rfl, x3⟩
        go_wp2_with fail
        refine (H4.out _ _ ha).mono ?_
        rintro e w4 ⟨rfl, x4⟩
        go_wp2_with fail
        refine (H2.out _ _ ha.w).mono ?_
        rintro e w5 ⟨rfl, x5⟩
        go_wp2_with fail
        go_ret
        exact ⟨rfl, Ext.trans (Ext.trans (Ext.trans xw x3) x4) x5⟩
end Go.Proofs.Ytmkddcmfofabbaa
