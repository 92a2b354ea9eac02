/-
  The reference's text of a number.
-/
import Derived.Test.YtmkddcmfofabbaaFitw
import Derived.Test.YtmkddcmfofabbaaDec
namespace Go.Proofs.Ytmkddcmfofabbaa
open Go Go.RowKit

theorem ten_f (N : Nat) : ((N : Int)).fdiv 10 = ((N / 10 : Nat) : Int) := by rw [Int.fdiv_eq_ediv_of_nonneg _ (by omega)]; omega
theorem ten_m (N : Nat) : ((N : Int)).fmod 10 = ((N % 10 : Nat) : Int) := by rw [Int.fmod_eq_emod_of_nonneg _ (by omega)]; omega
def TxtP (w : World) (n : Int) (e : Ending) (w' : World) : Prop := e = .returned (.string (strOfNums (txt n))) ∧ Ext w w'

theorem conv_one (w : World) (x : Int) : (convert 28 9 (.slice (some ⟨w.heap.size, 0, none⟩) 1 1)).run Try.prog (w.alloc (.cells #[.int .u8 x] 5)) = .ok (.string (strOfNums [x])) (w.alloc (.cells #[.int .u8 x] 5)) := by
  refine run_convert_bytes_arg _ 28 5 (by kernel_rfl) (by kernel_rfl) w.heap.size 0 1 1 [x] rfl (fun j hj => ?_) 9 (by kernel_rfl)
  obtain rfl : j = 0 := by omega
  exact cell1 w (.int .u8 x) 5
theorem str_append (A B : List Int) : strOfNums A ++ strOfNums B = strOfNums (A ++ B) := by
  apply ByteArray.ext
  rw [ByteArray.data_append]
  simp [strOfNums]

theorem bits_len {N k : Nat} (h : Bits k (N : Int)) (hk : 0 < k) : (decs N).length ≤ k := by
  unfold Bits at h
  rw [Int.natAbs_natCast] at h
  exact decs_len (Nat.lt_of_lt_of_le h (Nat.pow_le_pow_left (by omega) k)) hk
set_option maxRecDepth 100000 in
set_option maxHeartbeats 1600000 in
theorem ztext_nat (N : Nat) : ∀ (na : Bool) (aa : Option Addr) (la ca : Nat) (w : World), IsZ w na (.slice aa la ca) (N : Int) → Bits 900 (N : Int) →
    Calls Try.prog 55 #[.agg #[.bool na, .slice aa la ca]] w (TxtP w N) := by
  induction N using Nat.strongRecOn with
  | _ N ih =>
  intro na aa la ca w hz hb
  have IH := Lib.hid ih
  have HB := Lib.hid hb
  clear ih hb
  obtain ⟨-, hna⟩ := isZ_sign hz
  obtain rfl : na = false := by rw [hna]; exact decide_eq_false (by omega)
  clear hna
  go_enter Try.func55, Try.ntmps55
  have hA : Box2 (w.alloc (.cells #[.bool false, .slice aa la ca] 37)) w.heap.size (.bool false) (.slice aa la ca) 37 := Box2.new rfl
  obtain ⟨V, hV⟩ : ∃ V, V = w.alloc (.cells #[.bool false, .slice aa la ca] 37) := ⟨_, rfl⟩
  have xw : Ext w V := by rw [hV]; exact (Ext.refl w).alloc
  have hz5 := hz.ext xw
  go_wp2_with fail
  rw [← hV] at hA ⊢
  clear hV hz
  go_cut [3, 4] (fun s4 s5 wx => ∃ (k4 k5 : Nat) (nq : Bool) (aq : Option Addr) (lq cq : Nat) (nr : Bool) (ar : Option Addr) (lr cr : Nat), s4 = .pointer (some ⟨k4, 0, none⟩) ∧ s5 = .pointer (some ⟨k5, 0, none⟩) ∧
    Box2 wx k4 (.bool nq) (.slice aq lq cq) 37 ∧ Box2 wx k5 (.bool nr) (.slice ar lr cr) 37 ∧ IsZ wx nq (.slice aq lq cq) ((N : Int).fdiv 10) ∧ IsZ wx nr (.slice ar lr cr) ((N : Int).fmod 10) ∧ Ext w wx)
  case first =>
    refine wp_region_noPanic ?_
    refine wp_region_held_drew (S := fun w' => Ext V w') (by kernel_rfl) (Ext.refl V).drew (fun hHeld => ?_)
    have c0 := fun w' (h : Ext V w') => (hA.ext h).c0
    have c1 := fun w' (h : Ext V w') => (hA.ext h).c1
    refine wpAnyH_take (i := 0) (v := .agg #[.bool false, .slice aa la ca]) rfl (by kernel_rfl) (by kernel_rfl) (by kernel_rfl) (fun _ _ _ h => h) (Or.inl ⟨by rfl, fun w' h => (by go_simp)⟩) hHeld ?_
    refine region2 (N := 10) (f0 := [0]) (l := [(1, false), (2, false), (3, true), (4, true), (5, true)]) (T := [8, 9]) (iA := 6) (dA := 3) (iB := 7) (dB := 4) (oA := .cells #[.bool false, .slice none 0 0] 37) (oB := .cells #[.bool false, .slice none 0 0] 37) (fun _ _ _ _ _ h => h) (by kernel_rfl) (by kernel_rfl) rfl (by kernel_rfl) (by kernel_rfl)
      (fun K a w h => wpOp_of rfl fun K' hK => (by go_simp; exact hK _ _ h)) (fun K a w h => wpOp_of rfl fun K' hK => (by go_simp; exact hK _ _ h)) (by decide) (by simp [Act.put]) (by simp [Act.put]) (fun _ _ h x => h.trans x) hHeld ?_
    intro a1 v1 h1 y1; obtain ⟨s3, s4, rfl⟩ := away2 h1; refine wpOp_of rfl fun K' hK => ?_; go_simp
    refine (ofu_any 10 _ (by omega) (by omega)).mono ?_
    rintro e w1 ⟨n1, a1, l1, c1, rfl, hz1, hb1⟩
    refine hK _ _ ⟨⟨hb1, rfl, slots2 rfl rfl⟩, ?_⟩; clear hK K'
    intro a1 v2 h1 y2; obtain ⟨s3, s4, rfl⟩ := away2 h1; refine wpOp_of rfl fun K' hK => ?_; go_simp
    have x2 : Ext V v2 := ((Ext.refl V).drew.trans y1).trans (Ext.trans hb1 y2)
    refine (div_z _ _ _ _ _ _ _ _ (N : Int) 10 _ (hz5.ext x2) (hz1.ext y2) 900 (by omega) HB.out (Bits.mono (k := 4) (by unfold Bits; omega) (by omega)) (by omega)).mono ?_
    rintro e w3 ⟨nq, aq, lq, cq, nr, ar, lr, cr, rfl, hq, hr, hb2⟩
    refine hK _ _ ⟨⟨hb2, rfl, slots2 rfl rfl⟩, ?_⟩; clear hK K'
    have x4 : Ext V w3 := x2.trans hb2
    refine ⟨_, .tuple #[.agg #[.bool nq, .slice aq lq cq], .agg #[.bool nr, .slice ar lr cr]], rfl, Or.inl ⟨by rfl, fun w' h => (by go_simp)⟩, by simp, ?_⟩
    refine ⟨_, .agg #[.bool nq, .slice aq lq cq], rfl, Or.inl ⟨by rfl, fun w' h => (by go_simp)⟩, by simp, ?_⟩
    refine ⟨_, .agg #[.bool nr, .slice ar lr cr], rfl, Or.inl ⟨by rfl, fun w' h => (by go_simp)⟩, by simp, ?_⟩
    intro a' w' h y
    obtain ⟨s6, s7, rfl⟩ := away2 h
    rintro k k' ⟨hk1, hk2, hk3⟩ ⟨hl1, hl2, hl3⟩ hne hS'
    have y4 : Ext w3 w' := y
    simp [Act.put] at hk2 hl2
    subst hk2 hl2
    have hq' := hq.ext y4
    have hr' := hr.ext y4
    have hkb : Box2 w' k (.bool false) (.slice none 0 0) 37 := hk3
    have hlb : Box2 w' k' (.bool false) (.slice none 0 0) 37 := hl3
    have k0 := hkb.c0
    have k1 := hkb.c1
    have k2 := hkb.f0
    have k3 := hkb.f1
    have hBq := hkb.set (.bool nq) (.slice aq lq cq)
    have hBr := hlb.other2 (Ne.symm hne) (.bool nq) (.slice aq lq cq)
    have hSq : Ext V ((w'.setCell ⟨k, 0, none⟩ (.bool nq)).setCell ⟨k, 1, none⟩ (.slice aq lq cq)) := (hS'.set hk1).set hk1
    have hqq := hq'.set2 hkb.kind (by decide) (.bool nq) (.slice aq lq cq)
    have hrq := hr'.set2 hkb.kind (by decide) (.bool nq) (.slice aq lq cq)
    have l0 := hBr.c0
    have l1 := hBr.c1
    have l2 := hBr.f0
    have l3 := hBr.f1
    refine wpOp_of rfl fun K' hK => ?_
    go_simp
    refine hK _ _ ⟨hSq, ?_⟩
    clear hK K'
    refine wpOp_of rfl fun K' hK => ?_
    go_simp
    refine hK _ _ ⟨(hSq.set hl1).set hl1, ?_⟩
    clear hK K'
    refine NoPanic.normal ?_
    go_wp2_with fail
    go_meet
    exact ⟨k, k', nq, aq, lq, cq, nr, ar, lr, cr, rfl, rfl, hBq.other2 hne _ _, hBr.set _ _, hqq.set2 hBr.kind (by decide) _ _, hrq.set2 hBr.kind (by decide) _ _, xw.trans ((hSq.set hl1).set hl1)⟩
  case rest =>
    obtain ⟨k4, k5, nq, aq, lq, cq, nr, ar, lr, cr, rfl, rfl, hQ, hT, hq, hr, xw'⟩ := hcut
    clear hA xw hz5
    rw [ten_f] at hq
    rw [ten_m] at hr
    obtain ⟨sq, -⟩ := isZ_sign hq
    obtain ⟨sr, -⟩ := isZ_sign hr
    have SQ := Lib.hid sq
    have SR := Lib.hid sr
    clear sq sr
    have hQ_0 := hQ.c0; have hQ_1 := hQ.c1; have hT_0 := hT.c0; have hT_1 := hT.c1
    have z4 := hQ.kind.lt
    have z5 := hT.kind.lt
    by_cases hr0 : lr = 0
    · subst hr0
      have hd : ((N % 10 : Nat) : Int) = 0 := SR.out.1 rfl
      have hN0 : N % 10 = 0 := by omega
      have HD := Lib.hid hN0
      clear hd hN0
      have hcv := conv_one wc 48
      by_cases hq0 : lq = 0
      · subst hq0
        have hd : ((N / 10 : Nat) : Int) = 0 := SQ.out.1 rfl
        have hN : N < 10 := by omega
        clear hd
        go_wp2_with fail
        go_ret
        have hD := HD.out
        have e1 : ((N : Int)).natAbs = N := Int.natAbs_natCast N
        refine ⟨?_, Ext.alloc xw'⟩
        rw [txt_pos (n := (N : Int)) (by omega), e1, decs_lt hN]
        exact congrArg (fun x => Ending.returned (.string (strOfNums [x]))) (show 48 = 48 + (N : Int) from by omega)
      · have hN : N / 10 < N := by
          have : ((N / 10 : Nat) : Int) ≠ 0 := fun h => hq0 (SQ.out.2 h)
          omega
        have hN10 : ¬ N < 10 := by
          have : ((N / 10 : Nat) : Int) ≠ 0 := fun h => hq0 (SQ.out.2 h)
          omega
        have hbq : Bits 900 ((N / 10 : Nat) : Int) := HB.out.le (by omega)
        have hq1 : ((lq : Int) == 0) = false := by simpa using hq0
        have HBq := Lib.hid hbq
        clear hbq
        have h10 : ((N : Int) / 10) = ((N / 10 : Nat) : Int) := by omega
        have hsz : (strOfNums (txt ((N : Int) / 10))).size + (strOfNums [48]).size ≤ 9223372036854775807 := by
          have := bits_len HBq.out (by omega)
          rw [h10, strOfNums_size, strOfNums_size, txt_pos (by omega), Int.natAbs_natCast]
          simp; omega
        have E10 := Lib.hid h10
        clear h10
        go_wp2_with fail
        refine (IH.out (N / 10) hN _ _ _ _ _ (hq.ext (Ext.refl wc).alloc) HBq.out).mono ?_
        rintro e w5 ⟨rfl, x5⟩
        go_wp2_with fail
        go_ret
        have hD := HD.out
        have e1 : ((N : Int)).natAbs = N := Int.natAbs_natCast N
        have e2 : (((N / 10 : Nat) : Int)).natAbs = N / 10 := Int.natAbs_natCast _
        refine ⟨?_, Ext.trans (Ext.alloc xw') x5⟩
        rw [E10.out]
        rw [txt_pos (n := (N : Int)) (by omega), e1, decs_ge hN10, txt_pos (n := ((N / 10 : Nat) : Int)) (by omega), e2, str_append]
        exact congrArg (fun x => Ending.returned (.string (strOfNums (decs (N / 10) ++ [x])))) (show 48 = 48 + ((N % 10 : Nat) : Int) from by omega)
    · have hr1 : 0 < lr := by omega
      have hdig : ∃ (b off : Nat), ar = some ⟨b, off, none⟩ ∧ b < wc.heap.size ∧ wc.cell? ⟨b, off, none⟩ = some (.int .i64 ((N % 10 : Nat) : Int)) := by
        obtain ⟨ds, ⟨a, ca', ba, oa, e, hca, hxa, hxc⟩, dd, td, hv, hneg⟩ := hr
        simp only [Value.slice.injEq] at e
        obtain ⟨rfl, rfl, rfl⟩ := e
        have hnr : nr = false := by rw [hneg]; exact decide_eq_false (by omega)
        subst hnr
        have h1 := dg_drop ds 0 hr1
        have h2 := val_nonneg (dd.drop 1)
        have h3 := dd 0
        rw [List.drop_zero] at h1
        simp only [sgn, Bool.false_eq_true, if_false] at hv
        obtain ⟨h4, h5⟩ := hxa hr1
        refine ⟨ba, oa, h4, h5.lt, ?_⟩
        have h6 := hxc 0 hr1
        rw [Nat.add_zero] at h6
        rw [h6]
        congr 2
        omega
      obtain ⟨b, off, rfl, hb, hcell⟩ := hdig
      have hix := fun w => at_row (len := lr) (cap := cr) (b := b) (off := off) (a := some ⟨b, off, none⟩) (fun _ => rfl) 0 (by omega) (by omega) w
      have HD : Hid (N % 10 = N % 10) := Lib.hid rfl
      have d1 : ((N % 10 : Nat) : Int) < 10 := by omega
      have hcv := conv_one wc (48 + (N : Int) % 10)
      by_cases hq0 : lq = 0
      · subst hq0
        have hd : ((N / 10 : Nat) : Int) = 0 := SQ.out.1 rfl
        have hN : N < 10 := by omega
        clear hd
        go_wp2_with fail
        go_ret
        have hD := HD.out
        have e1 : ((N : Int)).natAbs = N := Int.natAbs_natCast N
        refine ⟨?_, Ext.alloc xw'⟩
        rw [txt_pos (n := (N : Int)) (by omega), e1, decs_lt hN]
        exact congrArg (fun x => Ending.returned (.string (strOfNums [x]))) (show 48 + (N : Int) % 10 = 48 + (N : Int) from by omega)
      · have hN : N / 10 < N := by
          have : ((N / 10 : Nat) : Int) ≠ 0 := fun h => hq0 (SQ.out.2 h)
          omega
        have hN10 : ¬ N < 10 := by
          have : ((N / 10 : Nat) : Int) ≠ 0 := fun h => hq0 (SQ.out.2 h)
          omega
        have hbq : Bits 900 ((N / 10 : Nat) : Int) := HB.out.le (by omega)
        have hq1 : ((lq : Int) == 0) = false := by simpa using hq0
        have HBq := Lib.hid hbq
        clear hbq
        have h10 : ((N : Int) / 10) = ((N / 10 : Nat) : Int) := by omega
        have hsz : (strOfNums (txt ((N : Int) / 10))).size + (strOfNums [48 + (N : Int) % 10]).size ≤ 9223372036854775807 := by
          have := bits_len HBq.out (by omega)
          rw [h10, strOfNums_size, strOfNums_size, txt_pos (by omega), Int.natAbs_natCast]
          simp; omega
        have E10 := Lib.hid h10
        clear h10
        go_wp2_with fail
        refine (IH.out (N / 10) hN _ _ _ _ _ (hq.ext (Ext.refl wc).alloc) HBq.out).mono ?_
        rintro e w5 ⟨rfl, x5⟩
        go_wp2_with fail
        go_ret
        have hD := HD.out
        have e1 : ((N : Int)).natAbs = N := Int.natAbs_natCast N
        have e2 : (((N / 10 : Nat) : Int)).natAbs = N / 10 := Int.natAbs_natCast _
        refine ⟨?_, Ext.trans (Ext.alloc xw') x5⟩
        rw [E10.out]
        rw [txt_pos (n := (N : Int)) (by omega), e1, decs_ge hN10, txt_pos (n := ((N / 10 : Nat) : Int)) (by omega), e2, str_append]
        exact congrArg (fun x => Ending.returned (.string (strOfNums (decs (N / 10) ++ [x])))) (show 48 + (N : Int) % 10 = 48 + ((N % 10 : Nat) : Int) from by omega)

set_option maxRecDepth 100000 in
set_option maxHeartbeats 1600000 in
theorem ztext (na : Bool) (aa : Option Addr) (la ca : Nat) (n : Int) (w : World) (hz : IsZ w na (.slice aa la ca) n) (hb : Bits 800 n) :
    Calls Try.prog 55 #[.agg #[.bool na, .slice aa la ca]] w (TxtP w n) := by
  by_cases hn : n < 0
  · obtain ⟨-, hna⟩ := isZ_sign hz
    obtain rfl : na = true := by rw [hna]; exact decide_eq_true hn
    have hf : Fit n := hb.fit (by omega)
    have HB := Lib.hid (hb.neg.mono (show 800 ≤ 900 by omega))
    clear hna hb
    obtain ⟨N, hN⟩ : ∃ N : Nat, -n = (N : Int) := ⟨n.natAbs, by omega⟩
    have HN := Lib.hid hN
    rw [hN] at HB
    have H1 := Lib.hid ztext_nat
    have H2 := Lib.hid neg_any
    have hsz : (strOfNums [45]).size + (strOfNums (txt (N : Int))).size ≤ 9223372036854775807 := by
      have := bits_len HB.out (by omega)
      rw [strOfNums_size, strOfNums_size, txt_pos (by omega), Int.natAbs_natCast]
      simp; omega
    have e45 : ({ data := #[45] } : ByteArray) = strOfNums [45] := rfl
    have E45 := Lib.hid e45
    rw [← e45] at hsz
    clear hN e45
    go_enter Try.func55, Try.ntmps55
    have xw : Ext w (w.alloc (.cells #[.bool true, .slice aa la ca] 37)) := (Ext.refl w).alloc
    have hz5 := hz.ext xw
    go_wp2_with fail
    refine (H2.out _ _ _ _ n _ hz5 hf).mono ?_
    rw [HN.out]
    rintro e w1 ⟨n1, a1, l1, c1, rfl, hz1, hb1⟩
    have x1 : Ext _ w1 := hb1
    go_wp2_with fail
    refine (H1.out N _ _ _ _ _ hz1 HB.out).mono ?_
    rintro e w2 ⟨rfl, x2⟩
    go_wp2_with fail
    go_ret
    refine ⟨?_, Ext.trans (Ext.trans xw x1) x2⟩
    rw [E45.out, str_append, txt_neg hn, txt_pos (n := (N : Int)) (by omega), Int.natAbs_natCast, show N = n.natAbs from by have := HN.out; omega]
    rfl
  · obtain ⟨N, rfl⟩ : ∃ N : Nat, n = (N : Int) := ⟨n.natAbs, by omega⟩
    exact ztext_nat N na aa la ca w hz (hb.mono (by omega))
end Go.Proofs.Ytmkddcmfofabbaa
