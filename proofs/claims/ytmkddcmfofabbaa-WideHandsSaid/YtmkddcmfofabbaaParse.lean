/-
  wide.Parse.
-/
import Derived.Test.YtmkddcmfofabbaaDec
import Derived.Test.YtmkddcmfofabbaaWsum
import Derived.Lib.Bytes
namespace Go.Proofs.Ytmkddcmfofabbaa
open Go Go.RowKit

/-- The number whose text it is, or none. -/
def ParseP (ok no : Value) (B : List Int) (w : World) (e : Ending) (w' : World) : Prop :=
  (∀ n, W128 n → B = txt n → e = .returned (.tuple #[.agg #[.int .i64 (hi n), .int .u64 (lo n)], ok])) ∧
  ((∀ n, W128 n → B ≠ txt n) → e = .returned (.tuple #[.agg #[.int .i64 0, .int .u64 0], no])) ∧ Ext w w'
theorem parseP_no {ok no : Value} {B : List Int} {w w' : World} (h : ∀ n, W128 n → B ≠ txt n) (x : Ext w w') : ParseP ok no B w (.returned (.tuple #[.agg #[.int .i64 0, .int .u64 0], no])) w' :=
  ⟨fun n hn e => absurd e (h n hn), fun _ => rfl, x⟩
theorem parseP_yes {ok no : Value} {B : List Int} {w w' : World} {m : Int} (h : W128 m) (e : B = txt m) (x : Ext w w') : ParseP ok no B w (.returned (.tuple #[.agg #[.int .i64 (hi m), .int .u64 (lo m)], ok])) w' :=
  ⟨fun n _ e' => by rw [txt_inj (e.symm.trans e')], fun hno => absurd e (hno m h), x⟩

/-- The k-th byte. -/
def bt (B : List Int) (k : Nat) : Int := B.getD k 0
theorem bt_eq (B : List Int) (k : Nat) : bt B k = B.getD k 0 := rfl
theorem bt_get (B : List Int) (hB : Bytes B) (k : Nat) (h : k < (strOfNums B).size) : (((strOfNums B)[k]'h).toNat : Int) = bt B k := by
  have hk : k < B.length := by rw [strOfNums_size] at h; exact h
  have e : (strOfNums B)[k]'h = UInt8.ofNat (B[k]'hk).toNat := by
    show (strOfNums B).data[k]'h = _
    simp [strOfNums]
  have hb := hB (B[k]'hk) (List.getElem_mem hk)
  rw [e, bt_eq, List.getD, List.getElem?_eq_getElem hk]
  simp; omega
theorem bt_bd {B : List Int} (hB : Bytes B) (k : Nat) : 0 ≤ bt B k ∧ bt B k < 256 := by
  rw [bt_eq, List.getD]
  by_cases hk : k < B.length
  · rw [List.getElem?_eq_getElem hk]; exact hB _ (List.getElem_mem hk)
  · rw [List.getElem?_eq_none (by omega)]; simp
theorem str_drop (B : List Int) : (strOfNums B).extract 1 B.length = strOfNums (B.drop 1) := by
  apply ByteArray.ext
  rw [ByteArray.data_extract]
  apply Array.ext'
  simp [strOfNums, List.extract_eq_take_drop]
  rw [List.take_of_length_le (by simp)]
theorem bytes_drop {B : List Int} (h : Bytes B) (k : Nat) : Bytes (B.drop k) := fun b hb => h b (List.mem_of_mem_drop hb)
theorem str_empty (B : List Int) : (strOfNums B).toList = [] ↔ B = [] := by
  rw [Lib.strOfNums_toList]
  unfold Lib.bytesOf
  exact List.map_eq_nil_iff

/-- A digit more. -/
theorem dig_step {V d : Int} (h0 : 0 ≤ V) (h1 : V < T128) (d0 : 48 ≤ d) (d1 : d ≤ 57) :
    (V * 10 + (d - 48) < T128 → hi (hi V * 10) + (lo (hi V * 10) + hi (lo V * 10) + (lo (lo V * 10) + (d - 48)) / 18446744073709551616) / 18446744073709551616 = 0 ∧
      (lo (hi V * 10) + hi (lo V * 10) + (lo (lo V * 10) + (d - 48)) / 18446744073709551616) % 18446744073709551616 = hi (V * 10 + (d - 48)) ∧ (lo (lo V * 10) + (d - 48)) % 18446744073709551616 = lo (V * 10 + (d - 48))) ∧
    (¬ V * 10 + (d - 48) < T128 → 0 < hi (hi V * 10) + (lo (hi V * 10) + hi (lo V * 10) + (lo (lo V * 10) + (d - 48)) / 18446744073709551616) / 18446744073709551616) ∧
    0 ≤ hi (hi V * 10) ∧ hi (hi V * 10) ≤ 9 ∧ 0 ≤ hi (lo V * 10) ∧ hi (lo V * 10) ≤ 9 ∧ 0 ≤ hi V ∧ hi V < 18446744073709551616 ∧
    0 ≤ (lo (lo V * 10) + (d - 48)) / 18446744073709551616 ∧ (lo (lo V * 10) + (d - 48)) / 18446744073709551616 ≤ 1 ∧
    0 ≤ (lo (hi V * 10) + hi (lo V * 10) + (lo (lo V * 10) + (d - 48)) / 18446744073709551616) / 18446744073709551616 ∧ (lo (hi V * 10) + hi (lo V * 10) + (lo (lo V * 10) + (d - 48)) / 18446744073709551616) / 18446744073709551616 ≤ 1 := by
  unfold T128 at *
  unfold hi lo
  refine ⟨fun h => ⟨?_, ?_, ?_⟩, fun h => ?_, ?_, ?_, ?_, ?_, ?_, ?_, ?_, ?_, ?_, ?_⟩ <;> omega

/-- What the digits D behind the sign neg say of B. -/
structure Split (B D : List Int) (neg : Bool) : Prop where
  body : body B = D
  sign : neg = decide (B.getD 0 0 = 45)
theorem Split.digs {B D : List Int} {neg : Bool} (h : Split B D neg) {n : Int} (e : B = txt n) : D = decs n.natAbs := by rw [← h.body, e, body_txt]
theorem Split.num {B D : List Int} {neg : Bool} (h : Split B D neg) {n : Int} (e : B = txt n) : wsg neg (dval 0 D) = n := by rw [h.sign, ← h.body]; exact txt_one e
theorem Split.bad {B D : List Int} {neg : Bool} (h : Split B D neg) {k : Nat} (hk : k < D.length) (hd : ¬ IsDig (bt D k)) : ∀ n, W128 n → B ≠ txt n := by
  intro n _ e
  apply hd
  have := h.digs e
  rw [bt_eq, List.getD, List.getElem?_eq_getElem hk]
  exact decs_dig n.natAbs _ (by rw [← this]; exact List.getElem_mem hk)
theorem Split.over {B D : List Int} {neg : Bool} (h : Split B D neg) {k : Nat} (hk : k < D.length) (ho : ¬ dval 0 (D.take k) * 10 + (bt D k - 48) < T128) : ∀ n, W128 n → B ≠ txt n := by
  intro n hn e
  apply ho
  have e1 := h.digs e
  have e2 := dval_take_le D (k + 1) (by rw [e1]; exact decs_dig _)
  rw [dval_take D k hk] at e2
  have e3 : dval 0 D = n.natAbs := by rw [e1, decs_val]
  rw [bt_eq]
  unfold T128
  unfold W128 at hn
  omega
theorem Split.room {B D : List Int} {neg : Bool} (h : Split B D neg) (ho : ¬ W128 (wsg neg (dval 0 D))) : ∀ n, W128 n → B ≠ txt n := by
  intro n hn e
  rw [h.num e] at ho
  exact ho hn
theorem Split.other {B D : List Int} {neg : Bool} (h : Split B D neg) (ho : txt (wsg neg (dval 0 D)) ≠ B) : ∀ n, W128 n → B ≠ txt n := by
  intro n hn e
  rw [h.num e] at ho
  exact ho e.symm
theorem long_no {B : List Int} (h : 40 < B.length) : ∀ n, W128 n → B ≠ txt n := by
  intro n hn e
  have := txt_len hn
  rw [← e] at this
  omega

theorem str_ne {A B : List Int} (ha : Bytes A) (hb : Bytes B) (h : A ≠ B) : ((strOfNums A).toList == (strOfNums B).toList) = false := by
  rw [beq_eq_false_iff_ne]
  intro e
  rw [Lib.strOfNums_toList, Lib.strOfNums_toList] at e
  exact h (str_inj ha hb (congrArg (fun l : List UInt8 => (⟨l.toArray⟩ : ByteArray)) e))
set_option maxRecDepth 100000 in
set_option maxHeartbeats 1600000 in
theorem wparse (B : List Int) (w : World) (hB : Bytes B) (hl : B.length ≤ 9223372036854775807) :
    Calls Try.prog 53 #[.string (strOfNums B)] w (ParseP (.int .i64 0) (.int .i64 6) B w) := by
  have hs := strOfNums_size B
  have r98 := run_add64'
  have H2 := Lib.hid mul64
  have H3 := Lib.hid signed_any
  have H4 := Lib.hid wtext
  by_cases h40 : B.length ≤ 40
  · have he := str_empty B
    by_cases h0 : B = []
    · have he1 : (strOfNums B).toList = [] := he.2 h0
      have he2 : (strOfNums B).toList.isEmpty = true := by rw [he1]; rfl
      have hSp : Split B B false := by
        subst h0; exact ⟨rfl, rfl⟩
      have hDb := hB
      have hDl := h40
      clear he h0
      go_enter Try.func53, Try.ntmps53
      go_wp2_with fail
      clear he1 he2
      go_loop [4, 5, 34] (fun s4 s5 s34 => ∃ (k : Nat) (V : Int), s4 = .int .u64 (hi V) ∧ s5 = .int .u64 (lo V) ∧ s34 = .int .i64 k ∧ k ≤ B.length ∧ V = dval 0 (B.take k) ∧ 0 ≤ V ∧ V < T128)
        (fun _ _ s34 => B.length - (intOf s34).toNat)
      case atStart => exact ⟨0, 0, rfl, rfl, rfl, by omega, rfl, by omega, by unfold T128; omega⟩
      case round =>
        obtain ⟨k, V, rfl, rfl, rfl, hk, hV, hV0, hV1⟩ := hrel
        have HV := Lib.hid hV
        clear hV
        by_cases hlt : k < B.length
        · have hg := bt_get B hDb k
          obtain ⟨b0, b1⟩ := bt_bd hDb k
          by_cases hd0 : bt B k < 48
          · have hno := hSp.bad hlt (fun h => by unfold IsDig at h; omega)
            go_wp2_with fail
            refine bodyPost_ret (v := .tuple #[.agg #[.int .i64 0, .int .u64 0], .int .i64 6]) (by simp [results, Try.results53, go_sem]) rfl (parseP_no hno ?_)
            exact (by repeat (first | exact Ext.refl _ | refine Ext.alloc ?_ | refine Ext.drew ?_ | refine Ext.drewN ?_ | refine Ext.set ?_ (Ext.size ?_) | refine Ext.set ?_ (Ext.size1 ?_) | refine Ext.set ?_ (Ext.size2 ?_) | refine Ext.trans ?_ (by assumption)))
          · by_cases hd1 : 57 < bt B k
            · have hno := hSp.bad hlt (fun h => by unfold IsDig at h; omega)
              go_wp2_with fail
              refine bodyPost_ret (v := .tuple #[.agg #[.int .i64 0, .int .u64 0], .int .i64 6]) (by simp [results, Try.results53, go_sem]) rfl (parseP_no hno ?_)
              exact (by repeat (first | exact Ext.refl _ | refine Ext.alloc ?_ | refine Ext.drew ?_ | refine Ext.drewN ?_ | refine Ext.set ?_ (Ext.size ?_) | refine Ext.set ?_ (Ext.size1 ?_) | refine Ext.set ?_ (Ext.size2 ?_) | refine Ext.trans ?_ (by assumption)))
            · have q0 : 48 ≤ bt B k := by omega
              have q1 : bt B k ≤ 57 := by omega
              obtain ⟨g1, g2, g3, g4, g5, g6, g7, g8, g9, g10, g11, g12⟩ := dig_step hV0 hV1 q0 q1
              obtain ⟨l0, l1⟩ := lo_bd V
              obtain ⟨l2, l3⟩ := lo_bd (lo V * 10)
              obtain ⟨l4, l5⟩ := lo_bd (hi V * 10)
              have G1 := Lib.hid g1
              have G2 := Lib.hid g2
              have ht := Lib.hid (dval_take B k hlt)
              have hno1 := Lib.hid (@Split.over B B _ hSp k hlt)
              clear g1 g2 b0 b1
              go_wp2_with fail
              refine (H2.out _ _ g7 g8 (by omega) (by omega) _).mono ?_
              rintro e w1 ⟨rfl, rfl⟩
              go_wp2_with fail
              refine (H2.out _ _ l0 l1 (by omega) (by omega) _).mono ?_
              rintro e w1 ⟨rfl, rfl⟩
              by_cases hov : V * 10 + (bt B k - 48) < T128
              · obtain ⟨e1, e2, e3⟩ := G1.out hov
                have E2 := Lib.hid e2
                have E3 := Lib.hid e3
                clear e2 e3
                go_wp2_with fail
                go_round
                case rel => exact ⟨k + 1, V * 10 + (bt B k - 48), by rw [← E2.out], by rw [← E3.out], by go_num, by omega, by rw [ht.out, ← HV.out, bt_eq], by omega, hov⟩
                case measure => simp [intOf]; omega
              · have g := G2.out (by omega)
                have hno : ∀ n, W128 n → B ≠ txt n := hno1.out (by rw [← HV.out]; omega)
                go_wp2_with fail
                refine bodyPost_ret (v := .tuple #[.agg #[.int .i64 0, .int .u64 0], .int .i64 6]) (by simp [results, Try.results53, go_sem]) rfl (parseP_no hno ?_)
                exact (by repeat (first | exact Ext.refl _ | refine Ext.alloc ?_ | refine Ext.drew ?_ | refine Ext.drewN ?_ | refine Ext.set ?_ (Ext.size ?_) | refine Ext.set ?_ (Ext.size1 ?_) | refine Ext.set ?_ (Ext.size2 ?_) | refine Ext.trans ?_ (by assumption)))
        · obtain rfl : k = B.length := by omega
          have hVD : V = dval 0 B := by rw [HV.out, List.take_length]
          have HD := Lib.hid hVD
          clear hVD
          obtain ⟨l0, l1⟩ := lo_bd V
          have m0 : 0 ≤ hi V := by unfold hi; omega
          have m1 : hi V < 18446744073709551616 := by unfold T128 at hV1; unfold hi; omega
          have e0 := Lib.hid (hi_lo V)
          go_wp2_with fail
          refine (H3.out _ _ _ _ m0 m1 l0 l1).mono ?_
          rw [← e0.out]
          rintro e w1 ⟨rfl, x1⟩
          have q := newA x1
          have q0 := q.c0
          have q1 := q.c1
          have q2 := q.f0
          have q3 := q.f1
          have s1 : w.heap.size < w1.heap.size := q.kind.lt
          by_cases hW : W128 (wsg false V)
          · rw [thi_yes hW, tlo_yes hW, ter_yes hW]
            go_wp2_with fail
            refine (H4.out _ _ hW).mono ?_
            rintro e w2 ⟨rfl, x2⟩
            have y2 := Ext.size x2
            simp only [World.size_alloc] at y2
            have p := (Box2.new (w := w1) (u := .int .i64 (hi (wsg false V))) (v := .int .u64 (lo (wsg false V))) (t := 26) rfl).ext x2
            have p0 := p.c0
            have p1 := p.c1
            replace q := (q.alloc (.cells #[.int .i64 (hi (wsg false V)), .int .u64 (lo (wsg false V))] 26)).ext x2
            clear q0 q1 q2 q3
            have q0 := q.c0
            have q1 := q.c1
            have q2 := q.f0
            have q3 := q.f1
            by_cases hT : B = txt (wsg false V)
            · have hTs : strOfNums (txt (wsg false V)) = strOfNums B := by rw [← hT]
              rw [hTs]
              have HT := Lib.hid hT
              clear hT hTs
              go_wp2_with fail
              refine bodyPost_ret (v := .tuple #[.agg #[.int .i64 (hi (wsg false V)), .int .u64 (lo (wsg false V))], .int .i64 0]) (by simp [results, Try.results53, go_sem, q0, q1]) rfl (parseP_yes hW HT.out ?_)
              exact (by repeat (first | exact Ext.refl _ | refine Ext.alloc ?_ | refine Ext.drew ?_ | refine Ext.drewN ?_ | refine Ext.set ?_ (Ext.size ?_) | refine Ext.set ?_ (Ext.size1 ?_) | refine Ext.set ?_ (Ext.size2 ?_) | refine Ext.trans ?_ (by assumption)))
            · have hno : ∀ n, W128 n → B ≠ txt n := hSp.other (fun e => hT (by rw [HD.out]; exact e.symm))
              have hTs := str_ne (txt_byte _) hB (fun e => hT e.symm)
              go_wp2_with fail
              refine bodyPost_ret (v := .tuple #[.agg #[.int .i64 0, .int .u64 0], .int .i64 6]) (by simp [results, Try.results53, go_sem, q0, q1]) rfl (parseP_no hno ?_)
              exact (by repeat (first | exact Ext.refl _ | refine Ext.alloc ?_ | refine Ext.drew ?_ | refine Ext.drewN ?_ | refine Ext.set ?_ (Ext.size ?_) | refine Ext.set ?_ (Ext.size1 ?_) | refine Ext.set ?_ (Ext.size2 ?_) | refine Ext.trans ?_ (by assumption)))
          · rw [thi_no hW, tlo_no hW, ter_no hW]
            have hno : ∀ n, W128 n → B ≠ txt n := hSp.room (by rw [← HD.out]; exact hW)
            go_wp2_with fail
            refine bodyPost_ret (v := .tuple #[.agg #[.int .i64 0, .int .u64 0], .int .i64 6]) (by simp [results, Try.results53, go_sem, q0, q1, s1]) rfl (parseP_no hno ?_)
            exact (by repeat (first | exact Ext.refl _ | refine Ext.alloc ?_ | refine Ext.drew ?_ | refine Ext.drewN ?_ | refine Ext.set ?_ (Ext.size ?_) | refine Ext.set ?_ (Ext.size1 ?_) | refine Ext.set ?_ (Ext.size2 ?_) | refine Ext.trans ?_ (by assumption)))
    · have he1 : ¬ (strOfNums B).toList = [] := fun h => h0 (he.1 h)
      have he2 : (strOfNums B).toList.isEmpty = false := by cases h : (strOfNums B).toList with | nil => exact absurd h he1 | cons => rfl
      have h0' : 0 < B.length := List.length_pos_iff.2 h0
      have hg := bt_get B hB 0
      clear he
      by_cases hm : bt B 0 = 45
      · have hm' : (bt B 0 == 45) = true := by simpa using hm
        obtain ⟨D, hD⟩ : ∃ D, D = B.drop 1 := ⟨_, rfl⟩
        have hx := str_drop B
        have hSp : Split B (B.drop 1) true := ⟨if_pos hm, (decide_eq_true hm).symm⟩
        have hDb := bytes_drop hB 1
        have hDl : (B.drop 1).length ≤ 40 := by rw [List.length_drop]; omega
        rw [← hD] at hx hSp hDb hDl
        have hzD := strOfNums_size D
        clear hm hD
        go_enter Try.func53, Try.ntmps53
        go_wp2_with fail
        clear hg hm' hx he1 he2 h0' h0
        go_loop [4, 5, 34] (fun s4 s5 s34 => ∃ (k : Nat) (V : Int), s4 = .int .u64 (hi V) ∧ s5 = .int .u64 (lo V) ∧ s34 = .int .i64 k ∧ k ≤ D.length ∧ V = dval 0 (D.take k) ∧ 0 ≤ V ∧ V < T128)
          (fun _ _ s34 => D.length - (intOf s34).toNat)
        case atStart => exact ⟨0, 0, rfl, rfl, rfl, by omega, rfl, by omega, by unfold T128; omega⟩
        case round =>
          obtain ⟨k, V, rfl, rfl, rfl, hk, hV, hV0, hV1⟩ := hrel
          have HV := Lib.hid hV
          clear hV
          by_cases hlt : k < D.length
          · have hg := bt_get D hDb k
            obtain ⟨b0, b1⟩ := bt_bd hDb k
            by_cases hd0 : bt D k < 48
            · have hno := hSp.bad hlt (fun h => by unfold IsDig at h; omega)
              go_wp2_with fail
              refine bodyPost_ret (v := .tuple #[.agg #[.int .i64 0, .int .u64 0], .int .i64 6]) (by simp [results, Try.results53, go_sem]) rfl (parseP_no hno ?_)
              exact (by repeat (first | exact Ext.refl _ | refine Ext.alloc ?_ | refine Ext.drew ?_ | refine Ext.drewN ?_ | refine Ext.set ?_ (Ext.size ?_) | refine Ext.set ?_ (Ext.size1 ?_) | refine Ext.set ?_ (Ext.size2 ?_) | refine Ext.trans ?_ (by assumption)))
            · by_cases hd1 : 57 < bt D k
              · have hno := hSp.bad hlt (fun h => by unfold IsDig at h; omega)
                go_wp2_with fail
                refine bodyPost_ret (v := .tuple #[.agg #[.int .i64 0, .int .u64 0], .int .i64 6]) (by simp [results, Try.results53, go_sem]) rfl (parseP_no hno ?_)
                exact (by repeat (first | exact Ext.refl _ | refine Ext.alloc ?_ | refine Ext.drew ?_ | refine Ext.drewN ?_ | refine Ext.set ?_ (Ext.size ?_) | refine Ext.set ?_ (Ext.size1 ?_) | refine Ext.set ?_ (Ext.size2 ?_) | refine Ext.trans ?_ (by assumption)))
              · have q0 : 48 ≤ bt D k := by omega
                have q1 : bt D k ≤ 57 := by omega
                obtain ⟨g1, g2, g3, g4, g5, g6, g7, g8, g9, g10, g11, g12⟩ := dig_step hV0 hV1 q0 q1
                obtain ⟨l0, l1⟩ := lo_bd V
                obtain ⟨l2, l3⟩ := lo_bd (lo V * 10)
                obtain ⟨l4, l5⟩ := lo_bd (hi V * 10)
                have G1 := Lib.hid g1
                have G2 := Lib.hid g2
                have ht := Lib.hid (dval_take D k hlt)
                have hno1 := Lib.hid (@Split.over B D _ hSp k hlt)
                clear g1 g2 b0 b1
                go_wp2_with fail
                refine (H2.out _ _ g7 g8 (by omega) (by omega) _).mono ?_
                rintro e w1 ⟨rfl, rfl⟩
                go_wp2_with fail
                refine (H2.out _ _ l0 l1 (by omega) (by omega) _).mono ?_
                rintro e w1 ⟨rfl, rfl⟩
                by_cases hov : V * 10 + (bt D k - 48) < T128
                · obtain ⟨e1, e2, e3⟩ := G1.out hov
                  have E2 := Lib.hid e2
                  have E3 := Lib.hid e3
                  clear e2 e3
                  go_wp2_with fail
                  go_round
                  case rel => exact ⟨k + 1, V * 10 + (bt D k - 48), by rw [← E2.out], by rw [← E3.out], by go_num, by omega, by rw [ht.out, ← HV.out, bt_eq], by omega, hov⟩
                  case measure => simp [intOf]; omega
                · have g := G2.out (by omega)
                  have hno : ∀ n, W128 n → B ≠ txt n := hno1.out (by rw [← HV.out]; omega)
                  go_wp2_with fail
                  refine bodyPost_ret (v := .tuple #[.agg #[.int .i64 0, .int .u64 0], .int .i64 6]) (by simp [results, Try.results53, go_sem]) rfl (parseP_no hno ?_)
                  exact (by repeat (first | exact Ext.refl _ | refine Ext.alloc ?_ | refine Ext.drew ?_ | refine Ext.drewN ?_ | refine Ext.set ?_ (Ext.size ?_) | refine Ext.set ?_ (Ext.size1 ?_) | refine Ext.set ?_ (Ext.size2 ?_) | refine Ext.trans ?_ (by assumption)))
          · obtain rfl : k = D.length := by omega
            have hVD : V = dval 0 D := by rw [HV.out, List.take_length]
            have HD := Lib.hid hVD
            clear hVD
            obtain ⟨l0, l1⟩ := lo_bd V
            have m0 : 0 ≤ hi V := by unfold hi; omega
            have m1 : hi V < 18446744073709551616 := by unfold T128 at hV1; unfold hi; omega
            have e0 := Lib.hid (hi_lo V)
            go_wp2_with fail
            refine (H3.out _ _ _ _ m0 m1 l0 l1).mono ?_
            rw [← e0.out]
            rintro e w1 ⟨rfl, x1⟩
            have q := newA x1
            have q0 := q.c0
            have q1 := q.c1
            have q2 := q.f0
            have q3 := q.f1
            have s1 : w.heap.size < w1.heap.size := q.kind.lt
            by_cases hW : W128 (wsg true V)
            · rw [thi_yes hW, tlo_yes hW, ter_yes hW]
              go_wp2_with fail
              refine (H4.out _ _ hW).mono ?_
              rintro e w2 ⟨rfl, x2⟩
              have y2 := Ext.size x2
              simp only [World.size_alloc] at y2
              have p := (Box2.new (w := w1) (u := .int .i64 (hi (wsg true V))) (v := .int .u64 (lo (wsg true V))) (t := 26) rfl).ext x2
              have p0 := p.c0
              have p1 := p.c1
              replace q := (q.alloc (.cells #[.int .i64 (hi (wsg true V)), .int .u64 (lo (wsg true V))] 26)).ext x2
              clear q0 q1 q2 q3
              have q0 := q.c0
              have q1 := q.c1
              have q2 := q.f0
              have q3 := q.f1
              by_cases hT : B = txt (wsg true V)
              · have hTs : strOfNums (txt (wsg true V)) = strOfNums B := by rw [← hT]
                rw [hTs]
                have HT := Lib.hid hT
                clear hT hTs
                go_wp2_with fail
                refine bodyPost_ret (v := .tuple #[.agg #[.int .i64 (hi (wsg true V)), .int .u64 (lo (wsg true V))], .int .i64 0]) (by simp [results, Try.results53, go_sem, q0, q1]) rfl (parseP_yes hW HT.out ?_)
                exact (by repeat (first | exact Ext.refl _ | refine Ext.alloc ?_ | refine Ext.drew ?_ | refine Ext.drewN ?_ | refine Ext.set ?_ (Ext.size ?_) | refine Ext.set ?_ (Ext.size1 ?_) | refine Ext.set ?_ (Ext.size2 ?_) | refine Ext.trans ?_ (by assumption)))
              · have hno : ∀ n, W128 n → B ≠ txt n := hSp.other (fun e => hT (by rw [HD.out]; exact e.symm))
                have hTs := str_ne (txt_byte _) hB (fun e => hT e.symm)
                go_wp2_with fail
                refine bodyPost_ret (v := .tuple #[.agg #[.int .i64 0, .int .u64 0], .int .i64 6]) (by simp [results, Try.results53, go_sem, q0, q1]) rfl (parseP_no hno ?_)
                exact (by repeat (first | exact Ext.refl _ | refine Ext.alloc ?_ | refine Ext.drew ?_ | refine Ext.drewN ?_ | refine Ext.set ?_ (Ext.size ?_) | refine Ext.set ?_ (Ext.size1 ?_) | refine Ext.set ?_ (Ext.size2 ?_) | refine Ext.trans ?_ (by assumption)))
            · rw [thi_no hW, tlo_no hW, ter_no hW]
              have hno : ∀ n, W128 n → B ≠ txt n := hSp.room (by rw [← HD.out]; exact hW)
              go_wp2_with fail
              refine bodyPost_ret (v := .tuple #[.agg #[.int .i64 0, .int .u64 0], .int .i64 6]) (by simp [results, Try.results53, go_sem, q0, q1, s1]) rfl (parseP_no hno ?_)
              exact (by repeat (first | exact Ext.refl _ | refine Ext.alloc ?_ | refine Ext.drew ?_ | refine Ext.drewN ?_ | refine Ext.set ?_ (Ext.size ?_) | refine Ext.set ?_ (Ext.size1 ?_) | refine Ext.set ?_ (Ext.size2 ?_) | refine Ext.trans ?_ (by assumption)))
      · have hm' : (bt B 0 == 45) = false := by simpa using hm
        have hSp : Split B B false := ⟨if_neg hm, (decide_eq_false hm).symm⟩
        have hDb := hB
        have hDl := h40
        clear hm
        go_enter Try.func53, Try.ntmps53
        go_wp2_with fail
        clear hg hm' he1 he2 h0' h0
        go_loop [4, 5, 34] (fun s4 s5 s34 => ∃ (k : Nat) (V : Int), s4 = .int .u64 (hi V) ∧ s5 = .int .u64 (lo V) ∧ s34 = .int .i64 k ∧ k ≤ B.length ∧ V = dval 0 (B.take k) ∧ 0 ≤ V ∧ V < T128)
          (fun _ _ s34 => B.length - (intOf s34).toNat)
        case atStart => exact ⟨0, 0, rfl, rfl, rfl, by omega, rfl, by omega, by unfold T128; omega⟩
        case round =>
          obtain ⟨k, V, rfl, rfl, rfl, hk, hV, hV0, hV1⟩ := hrel
          have HV := Lib.hid hV
          clear hV
          by_cases hlt : k < B.length
          · have hg := bt_get B hDb k
            obtain ⟨b0, b1⟩ := bt_bd hDb k
            by_cases hd0 : bt B k < 48
            · have hno := hSp.bad hlt (fun h => by unfold IsDig at h; omega)
              go_wp2_with fail
              refine bodyPost_ret (v := .tuple #[.agg #[.int .i64 0, .int .u64 0], .int .i64 6]) (by simp [results, Try.results53, go_sem]) rfl (parseP_no hno ?_)
              exact (by repeat (first | exact Ext.refl _ | refine Ext.alloc ?_ | refine Ext.drew ?_ | refine Ext.drewN ?_ | refine Ext.set ?_ (Ext.size ?_) | refine Ext.set ?_ (Ext.size1 ?_) | refine Ext.set ?_ (Ext.size2 ?_) | refine Ext.trans ?_ (by assumption)))
            · by_cases hd1 : 57 < bt B k
              · have hno := hSp.bad hlt (fun h => by unfold IsDig at h; omega)
                go_wp2_with fail
                refine bodyPost_ret (v := .tuple #[.agg #[.int .i64 0, .int .u64 0], .int .i64 6]) (by simp [results, Try.results53, go_sem]) rfl (parseP_no hno ?_)
                exact (by repeat (first | exact Ext.refl _ | refine Ext.alloc ?_ | refine Ext.drew ?_ | refine Ext.drewN ?_ | refine Ext.set ?_ (Ext.size ?_) | refine Ext.set ?_ (Ext.size1 ?_) | refine Ext.set ?_ (Ext.size2 ?_) | refine Ext.trans ?_ (by assumption)))
              · have q0 : 48 ≤ bt B k := by omega
                have q1 : bt B k ≤ 57 := by omega
                obtain ⟨g1, g2, g3, g4, g5, g6, g7, g8, g9, g10, g11, g12⟩ := dig_step hV0 hV1 q0 q1
                obtain ⟨l0, l1⟩ := lo_bd V
                obtain ⟨l2, l3⟩ := lo_bd (lo V * 10)
                obtain ⟨l4, l5⟩ := lo_bd (hi V * 10)
                have G1 := Lib.hid g1
                have G2 := Lib.hid g2
                have ht := Lib.hid (dval_take B k hlt)
                have hno1 := Lib.hid (@Split.over B B _ hSp k hlt)
                clear g1 g2 b0 b1
                go_wp2_with fail
                refine (H2.out _ _ g7 g8 (by omega) (by omega) _).mono ?_
                rintro e w1 ⟨rfl, rfl⟩
                go_wp2_with fail
                refine (H2.out _ _ l0 l1 (by omega) (by omega) _).mono ?_
                rintro e w1 ⟨rfl, rfl⟩
                by_cases hov : V * 10 + (bt B k - 48) < T128
                · obtain ⟨e1, e2, e3⟩ := G1.out hov
                  have E2 := Lib.hid e2
                  have E3 := Lib.hid e3
                  clear e2 e3
                  go_wp2_with fail
                  go_round
                  case rel => exact ⟨k + 1, V * 10 + (bt B k - 48), by rw [← E2.out], by rw [← E3.out], by go_num, by omega, by rw [ht.out, ← HV.out, bt_eq], by omega, hov⟩
                  case measure => simp [intOf]; omega
                · have g := G2.out (by omega)
                  have hno : ∀ n, W128 n → B ≠ txt n := hno1.out (by rw [← HV.out]; omega)
                  go_wp2_with fail
                  refine bodyPost_ret (v := .tuple #[.agg #[.int .i64 0, .int .u64 0], .int .i64 6]) (by simp [results, Try.results53, go_sem]) rfl (parseP_no hno ?_)
                  exact (by repeat (first | exact Ext.refl _ | refine Ext.alloc ?_ | refine Ext.drew ?_ | refine Ext.drewN ?_ | refine Ext.set ?_ (Ext.size ?_) | refine Ext.set ?_ (Ext.size1 ?_) | refine Ext.set ?_ (Ext.size2 ?_) | refine Ext.trans ?_ (by assumption)))
          · obtain rfl : k = B.length := by omega
            have hVD : V = dval 0 B := by rw [HV.out, List.take_length]
            have HD := Lib.hid hVD
            clear hVD
            obtain ⟨l0, l1⟩ := lo_bd V
            have m0 : 0 ≤ hi V := by unfold hi; omega
            have m1 : hi V < 18446744073709551616 := by unfold T128 at hV1; unfold hi; omega
            have e0 := Lib.hid (hi_lo V)
            go_wp2_with fail
            refine (H3.out _ _ _ _ m0 m1 l0 l1).mono ?_
            rw [← e0.out]
            rintro e w1 ⟨rfl, x1⟩
            have q := newA x1
            have q0 := q.c0
            have q1 := q.c1
            have q2 := q.f0
            have q3 := q.f1
            have s1 : w.heap.size < w1.heap.size := q.kind.lt
            by_cases hW : W128 (wsg false V)
            · rw [thi_yes hW, tlo_yes hW, ter_yes hW]
              go_wp2_with fail
              refine (H4.out _ _ hW).mono ?_
              rintro e w2 ⟨rfl, x2⟩
              have y2 := Ext.size x2
              simp only [World.size_alloc] at y2
              have p := (Box2.new (w := w1) (u := .int .i64 (hi (wsg false V))) (v := .int .u64 (lo (wsg false V))) (t := 26) rfl).ext x2
              have p0 := p.c0
              have p1 := p.c1
              replace q := (q.alloc (.cells #[.int .i64 (hi (wsg false V)), .int .u64 (lo (wsg false V))] 26)).ext x2
              clear q0 q1 q2 q3
              have q0 := q.c0
              have q1 := q.c1
              have q2 := q.f0
              have q3 := q.f1
              by_cases hT : B = txt (wsg false V)
              · have hTs : strOfNums (txt (wsg false V)) = strOfNums B := by rw [← hT]
                rw [hTs]
                have HT := Lib.hid hT
                clear hT hTs
                go_wp2_with fail
                refine bodyPost_ret (v := .tuple #[.agg #[.int .i64 (hi (wsg false V)), .int .u64 (lo (wsg false V))], .int .i64 0]) (by simp [results, Try.results53, go_sem, q0, q1]) rfl (parseP_yes hW HT.out ?_)
                exact (by repeat (first | exact Ext.refl _ | refine Ext.alloc ?_ | refine Ext.drew ?_ | refine Ext.drewN ?_ | refine Ext.set ?_ (Ext.size ?_) | refine Ext.set ?_ (Ext.size1 ?_) | refine Ext.set ?_ (Ext.size2 ?_) | refine Ext.trans ?_ (by assumption)))
              · have hno : ∀ n, W128 n → B ≠ txt n := hSp.other (fun e => hT (by rw [HD.out]; exact e.symm))
                have hTs := str_ne (txt_byte _) hB (fun e => hT e.symm)
                go_wp2_with fail
                refine bodyPost_ret (v := .tuple #[.agg #[.int .i64 0, .int .u64 0], .int .i64 6]) (by simp [results, Try.results53, go_sem, q0, q1]) rfl (parseP_no hno ?_)
                exact (by repeat (first | exact Ext.refl _ | refine Ext.alloc ?_ | refine Ext.drew ?_ | refine Ext.drewN ?_ | refine Ext.set ?_ (Ext.size ?_) | refine Ext.set ?_ (Ext.size1 ?_) | refine Ext.set ?_ (Ext.size2 ?_) | refine Ext.trans ?_ (by assumption)))
            · rw [thi_no hW, tlo_no hW, ter_no hW]
              have hno : ∀ n, W128 n → B ≠ txt n := hSp.room (by rw [← HD.out]; exact hW)
              go_wp2_with fail
              refine bodyPost_ret (v := .tuple #[.agg #[.int .i64 0, .int .u64 0], .int .i64 6]) (by simp [results, Try.results53, go_sem, q0, q1, s1]) rfl (parseP_no hno ?_)
              exact (by repeat (first | exact Ext.refl _ | refine Ext.alloc ?_ | refine Ext.drew ?_ | refine Ext.drewN ?_ | refine Ext.set ?_ (Ext.size ?_) | refine Ext.set ?_ (Ext.size1 ?_) | refine Ext.set ?_ (Ext.size2 ?_) | refine Ext.trans ?_ (by assumption)))
  · have hno := long_no (show 40 < B.length by omega)
    go_enter Try.func53, Try.ntmps53
    go_wp2_with fail
    refine bodyPost_ret (v := .tuple #[.agg #[.int .i64 0, .int .u64 0], .int .i64 6]) (by simp [results, Try.results53, go_sem]) rfl (parseP_no hno ?_)
    exact (by repeat (first | exact Ext.refl _ | refine Ext.alloc ?_ | refine Ext.drew ?_ | refine Ext.drewN ?_ | refine Ext.set ?_ (Ext.size ?_) | refine Ext.set ?_ (Ext.size1 ?_) | refine Ext.set ?_ (Ext.size2 ?_) | refine Ext.trans ?_ (by assumption)))
end Go.Proofs.Ytmkddcmfofabbaa
