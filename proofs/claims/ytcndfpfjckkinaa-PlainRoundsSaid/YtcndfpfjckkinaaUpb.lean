/-
  round.up.
-/
import Derived.Test.YtcndfpfjckkinaaUpa
set_option linter.unusedVariables false
set_option maxRecDepth 100000
namespace Go.Proofs.Ytcndfpfjckkinaa
open Go Go.RowKit Go.Ev

theorem cells_vals {r : Nat → Nat} {N : Nat → Prop} {vs : List Value} {cs : Array Value} (h : CellsOk r N (vs.map .val) cs) : cs = vs.toArray := by
  obtain ⟨h1, h2⟩ := h
  apply Array.ext'
  apply List.ext_getElem?
  intro i
  by_cases hi : i < vs.length
  · obtain ⟨u, hu, ho, -⟩ := h2 i (.val vs[i]) (by simp [hi])
    obtain rfl : u = vs[i] := ho
    simp [hi, hu]
  · have e1 : vs[i]? = none := List.getElem?_eq_none (by omega)
    have e2 : cs[i]? = none := Array.getElem?_eq_none (by simp at h1; omega)
    simp [e1, e2]
theorem at_place {r : Nat → Nat} {N : Nat → Prop} {bl : List Bk} {base : Nat} {w : World} {b : Bool} {x : Int} {e : Bool} (hb : BlOk r N bl base w) (h0 : bl[0]? = some ⟨[.val (.bool b), .val (.int .i64 x), .val (.bool e)], 201⟩) (hn : ¬ N 0) : PlaceAt (r 0) b x e w := by
  obtain ⟨-, cs, hk, hc⟩ := hb.is 0 _ h0 hn
  have := cells_vals (vs := [.bool b, .int .i64 x, .bool e]) hc
  rw [this] at hk
  exact hk
theorem at_half {r : Nat → Nat} {N : Nat → Prop} {bl : List Bk} {base : Nat} {w : World} (hb : BlOk r N bl base w) (h1 : bl[1]? = some ⟨[.clo 213 [.ptr 0 0]], 232⟩) (hn : ¬ N 1) : HalfAt (r 1) (r 0) w ∧ ¬ N 0 := by
  obtain ⟨-, cs, hk, hsz, hc⟩ := hb.is 1 _ h1 hn
  obtain ⟨u, hu, ho, hf⟩ := hc 0 _ rfl
  have hfr : ¬ N 0 := hf (.ptr 0 0) (by simp)
  refine ⟨?_, hfr⟩
  have e : cs = #[u] := by
    apply Array.ext
    · simpa using hsz
    · intro i h2 h3
      have : i = 0 := by simp at h3; omega
      subst this
      have := Array.getElem?_eq_some_iff.1 hu
      obtain ⟨_, h4⟩ := this
      simpa using h4
  obtain rfl : u = _ := ho
  rw [e] at hk
  exact hk
/-- Does a mode go up? -/
def upB (mode : Int) (b : Bool) (x : Int) (e : Bool) : Bool :=
  if mode = 1 then true else if mode = 2 then false else if mode = 3 then !b else if mode = 4 then b else if mode = 5 then halfB x true else if mode = 6 then halfB x false
  else if mode = 7 then halfB x (!b) else if mode = 8 then halfB x b else halfB x (!e)
section
variable {f0 : FuncId} {E : List TypeId} {w0 : World} {R : Ending → World → Prop} {L : ZL} {c : Cf}
theorem st_c {f : FuncId} {ss : List SV} {v : Value} (he : Enters Try.prog f) (hc : callAt (adv Try.prog E 9999 400 c) = some (f, ss))
    (h : ∀ (r : Nat → Nat) (N : Nat → Prop) (w : World) (us : List Value), Args r N ss us → BlOk r N (adv Try.prog E 9999 400 c).bl w0.heap.size w → Calls Try.prog f us.toArray w (RB w v))
    (hk : Ru ⟨Try.prog, f0, E, w0, R⟩ (ZAll L) (resume (adv Try.prog E 9999 400 c) (.val v))) : Ru ⟨Try.prog, f0, E, w0, R⟩ (ZAll L) c :=
  ⟨run_adv mixed fun hs => run_call hc he (X := Unit) (fun _ => .val v) (fun _ _ => True) (fun _ _ _ _ _ => trivial) (fun _ _ => trivial)
    (fun r N w us ha hb hG => (h r N w us ha hb).mono fun e w' ⟨h1, h2⟩ => ⟨(), v, h1, rfl, h2, trivial⟩) (fun _ => hk.h.mono hs fun w h => h.1) hs⟩
end
theorem up_1 (b : Bool) (x : Int) (e : Bool) : Fn 179 [] [.int .i64 1, pv b x e] (.tuple #[.bool (true), .bool true]) := by
  refine fn_of Try.func179 rfl fun w => ?_
  refine st_c (v := .bool (true)) ent214 (ss := []) (by kernel_rfl) (fun r N w us ha hb => ?_) ?_
  · have h0 : (adv Try.prog [3] 9999 400 (startS Try.f179 [.int .i64 1, pv b x e])).bl[0]? = some ⟨[.val (.bool b), .val (.int .i64 x), .val (.bool e)], 201⟩ := by kernel_rfl
    obtain rfl : us = [] := by cases us with
      | nil => rfl
      | cons _ _ => exact ha.elim
    exact c2 w
  · exact st_ret Try.func179 (by kernel_rfl)
theorem up_2 (b : Bool) (x : Int) (e : Bool) : Fn 179 [] [.int .i64 2, pv b x e] (.tuple #[.bool (false), .bool true]) := by
  refine fn_of Try.func179 rfl fun w => ?_
  refine st_c (v := .bool (false)) ent215 (ss := []) (by kernel_rfl) (fun r N w us ha hb => ?_) ?_
  · have h0 : (adv Try.prog [3] 9999 400 (startS Try.f179 [.int .i64 2, pv b x e])).bl[0]? = some ⟨[.val (.bool b), .val (.int .i64 x), .val (.bool e)], 201⟩ := by kernel_rfl
    obtain rfl : us = [] := by cases us with
      | nil => rfl
      | cons _ _ => exact ha.elim
    exact c3 w
  · exact st_ret Try.func179 (by kernel_rfl)
theorem up_3 (b : Bool) (x : Int) (e : Bool) : Fn 179 [] [.int .i64 3, pv b x e] (.tuple #[.bool (!b), .bool true]) := by
  refine fn_of Try.func179 rfl fun w => ?_
  refine st_c (v := .bool (!b)) ent216 (ss := [.ptr 0 0]) (by kernel_rfl) (fun r N w us ha hb => ?_) ?_
  · have h0 : (adv Try.prog [3] 9999 400 (startS Try.f179 [.int .i64 3, pv b x e])).bl[0]? = some ⟨[.val (.bool b), .val (.int .i64 x), .val (.bool e)], 201⟩ := by kernel_rfl
    obtain ⟨u, rfl, hu⟩ : ∃ u, us = [u] ∧ SV.Ok r N (.ptr 0 0) u := by
      match us, ha with
      | [u], ha => exact ⟨u, rfl, ha.1⟩
    obtain rfl : u = _ := hu.1
    exact c4 (r 0) b x e w (at_place hb h0 hu.2)
  · exact st_ret Try.func179 (by kernel_rfl)
theorem up_4 (b : Bool) (x : Int) (e : Bool) : Fn 179 [] [.int .i64 4, pv b x e] (.tuple #[.bool (b), .bool true]) := by
  refine fn_of Try.func179 rfl fun w => ?_
  refine st_c (v := .bool (b)) ent217 (ss := [.ptr 0 0]) (by kernel_rfl) (fun r N w us ha hb => ?_) ?_
  · have h0 : (adv Try.prog [3] 9999 400 (startS Try.f179 [.int .i64 4, pv b x e])).bl[0]? = some ⟨[.val (.bool b), .val (.int .i64 x), .val (.bool e)], 201⟩ := by kernel_rfl
    obtain ⟨u, rfl, hu⟩ : ∃ u, us = [u] ∧ SV.Ok r N (.ptr 0 0) u := by
      match us, ha with
      | [u], ha => exact ⟨u, rfl, ha.1⟩
    obtain rfl : u = _ := hu.1
    exact c5 (r 0) b x e w (at_place hb h0 hu.2)
  · exact st_ret Try.func179 (by kernel_rfl)
theorem up_5 (b : Bool) (x : Int) (e : Bool) : Fn 179 [] [.int .i64 5, pv b x e] (.tuple #[.bool (halfB x true), .bool true]) := by
  refine fn_of Try.func179 rfl fun w => ?_
  refine st_c (v := .bool (halfB x true)) ent218 (ss := [.ptr 1 0]) (by kernel_rfl) (fun r N w us ha hb => ?_) ?_
  · have h0 : (adv Try.prog [3] 9999 400 (startS Try.f179 [.int .i64 5, pv b x e])).bl[0]? = some ⟨[.val (.bool b), .val (.int .i64 x), .val (.bool e)], 201⟩ := by kernel_rfl
    have h1 : (adv Try.prog [3] 9999 400 (startS Try.f179 [.int .i64 5, pv b x e])).bl[1]? = some ⟨[.clo 213 [.ptr 0 0]], 232⟩ := by kernel_rfl
    obtain ⟨u, rfl, hu⟩ : ∃ u, us = [u] ∧ SV.Ok r N (.ptr 1 0) u := by
      match us, ha with
      | [u], ha => exact ⟨u, rfl, ha.1⟩
    obtain rfl : u = _ := hu.1
    obtain ⟨q1, q2⟩ := at_half hb h1 hu.2
    exact c6 (r 0) (r 1) b x e w ⟨q1, at_place hb h0 q2⟩
  · exact st_ret Try.func179 (by kernel_rfl)
theorem up_6 (b : Bool) (x : Int) (e : Bool) : Fn 179 [] [.int .i64 6, pv b x e] (.tuple #[.bool (halfB x false), .bool true]) := by
  refine fn_of Try.func179 rfl fun w => ?_
  refine st_c (v := .bool (halfB x false)) ent219 (ss := [.ptr 1 0]) (by kernel_rfl) (fun r N w us ha hb => ?_) ?_
  · have h0 : (adv Try.prog [3] 9999 400 (startS Try.f179 [.int .i64 6, pv b x e])).bl[0]? = some ⟨[.val (.bool b), .val (.int .i64 x), .val (.bool e)], 201⟩ := by kernel_rfl
    have h1 : (adv Try.prog [3] 9999 400 (startS Try.f179 [.int .i64 6, pv b x e])).bl[1]? = some ⟨[.clo 213 [.ptr 0 0]], 232⟩ := by kernel_rfl
    obtain ⟨u, rfl, hu⟩ : ∃ u, us = [u] ∧ SV.Ok r N (.ptr 1 0) u := by
      match us, ha with
      | [u], ha => exact ⟨u, rfl, ha.1⟩
    obtain rfl : u = _ := hu.1
    obtain ⟨q1, q2⟩ := at_half hb h1 hu.2
    exact c7 (r 0) (r 1) b x e w ⟨q1, at_place hb h0 q2⟩
  · exact st_ret Try.func179 (by kernel_rfl)
theorem up_7 (b : Bool) (x : Int) (e : Bool) : Fn 179 [] [.int .i64 7, pv b x e] (.tuple #[.bool (halfB x (!b)), .bool true]) := by
  refine fn_of Try.func179 rfl fun w => ?_
  refine st_c (v := .bool (halfB x (!b))) ent220 (ss := [.ptr 1 0, .ptr 0 0]) (by kernel_rfl) (fun r N w us ha hb => ?_) ?_
  · have h0 : (adv Try.prog [3] 9999 400 (startS Try.f179 [.int .i64 7, pv b x e])).bl[0]? = some ⟨[.val (.bool b), .val (.int .i64 x), .val (.bool e)], 201⟩ := by kernel_rfl
    have h1 : (adv Try.prog [3] 9999 400 (startS Try.f179 [.int .i64 7, pv b x e])).bl[1]? = some ⟨[.clo 213 [.ptr 0 0]], 232⟩ := by kernel_rfl
    obtain ⟨u, u', rfl, hu, hu'⟩ : ∃ u u', us = [u, u'] ∧ SV.Ok r N (.ptr 1 0) u ∧ SV.Ok r N (.ptr 0 0) u' := by
      match us, ha with
      | [u, u'], ha => exact ⟨u, u', rfl, ha.1, ha.2.1⟩
    obtain rfl : u = _ := hu.1
    obtain rfl : u' = _ := hu'.1
    obtain ⟨q1, q2⟩ := at_half hb h1 hu.2
    exact c8 (r 0) (r 1) b x e w ⟨q1, at_place hb h0 q2⟩
  · exact st_ret Try.func179 (by kernel_rfl)
theorem up_8 (b : Bool) (x : Int) (e : Bool) : Fn 179 [] [.int .i64 8, pv b x e] (.tuple #[.bool (halfB x b), .bool true]) := by
  refine fn_of Try.func179 rfl fun w => ?_
  refine st_c (v := .bool (halfB x b)) ent221 (ss := [.ptr 1 0, .ptr 0 0]) (by kernel_rfl) (fun r N w us ha hb => ?_) ?_
  · have h0 : (adv Try.prog [3] 9999 400 (startS Try.f179 [.int .i64 8, pv b x e])).bl[0]? = some ⟨[.val (.bool b), .val (.int .i64 x), .val (.bool e)], 201⟩ := by kernel_rfl
    have h1 : (adv Try.prog [3] 9999 400 (startS Try.f179 [.int .i64 8, pv b x e])).bl[1]? = some ⟨[.clo 213 [.ptr 0 0]], 232⟩ := by kernel_rfl
    obtain ⟨u, u', rfl, hu, hu'⟩ : ∃ u u', us = [u, u'] ∧ SV.Ok r N (.ptr 1 0) u ∧ SV.Ok r N (.ptr 0 0) u' := by
      match us, ha with
      | [u, u'], ha => exact ⟨u, u', rfl, ha.1, ha.2.1⟩
    obtain rfl : u = _ := hu.1
    obtain rfl : u' = _ := hu'.1
    obtain ⟨q1, q2⟩ := at_half hb h1 hu.2
    exact c9 (r 0) (r 1) b x e w ⟨q1, at_place hb h0 q2⟩
  · exact st_ret Try.func179 (by kernel_rfl)
theorem up_9 (b : Bool) (x : Int) (e : Bool) : Fn 179 [] [.int .i64 9, pv b x e] (.tuple #[.bool (halfB x (!e)), .bool true]) := by
  refine fn_of Try.func179 rfl fun w => ?_
  refine st_c (v := .bool (halfB x (!e))) ent222 (ss := [.ptr 1 0, .ptr 0 0]) (by kernel_rfl) (fun r N w us ha hb => ?_) ?_
  · have h0 : (adv Try.prog [3] 9999 400 (startS Try.f179 [.int .i64 9, pv b x e])).bl[0]? = some ⟨[.val (.bool b), .val (.int .i64 x), .val (.bool e)], 201⟩ := by kernel_rfl
    have h1 : (adv Try.prog [3] 9999 400 (startS Try.f179 [.int .i64 9, pv b x e])).bl[1]? = some ⟨[.clo 213 [.ptr 0 0]], 232⟩ := by kernel_rfl
    obtain ⟨u, u', rfl, hu, hu'⟩ : ∃ u u', us = [u, u'] ∧ SV.Ok r N (.ptr 1 0) u ∧ SV.Ok r N (.ptr 0 0) u' := by
      match us, ha with
      | [u, u'], ha => exact ⟨u, u', rfl, ha.1, ha.2.1⟩
    obtain rfl : u = _ := hu.1
    obtain rfl : u' = _ := hu'.1
    obtain ⟨q1, q2⟩ := at_half hb h1 hu.2
    exact c10 (r 0) (r 1) b x e w ⟨q1, at_place hb h0 q2⟩
  · exact st_ret Try.func179 (by kernel_rfl)
theorem up_yes (mode : Int) (b : Bool) (x : Int) (e : Bool) (h1 : 1 ≤ mode) (h2 : mode ≤ 9) : Fn 179 [] [.int .i64 mode, pv b x e] (.tuple #[.bool (upB mode b x e), .bool true]) := by
  have hm : mode = 1 ∨ mode = 2 ∨ mode = 3 ∨ mode = 4 ∨ mode = 5 ∨ mode = 6 ∨ mode = 7 ∨ mode = 8 ∨ mode = 9 := by omega
  clear h1 h2
  rcases hm with rfl | rfl | rfl | rfl | rfl | rfl | rfl | rfl | rfl
  · exact up_1 b x e
  · exact up_2 b x e
  · exact up_3 b x e
  · exact up_4 b x e
  · exact up_5 b x e
  · exact up_6 b x e
  · exact up_7 b x e
  · exact up_8 b x e
  · exact up_9 b x e
theorem up_no (mode : Int) (b : Bool) (x : Int) (e : Bool) (h : mode < 1 ∨ 9 < mode) : Fn 179 [] [.int .i64 mode, pv b x e] (.tuple #[.bool false, .bool false]) := by
  by_cases k : mode < 1
  · refine fn_of Try.func179 rfl fun w => ?_
    refine st_b 18 (decide_eq_true k) (by kernel_rfl) ?_
    exact st_ret Try.func179 (by kernel_rfl)
  · refine fn_of Try.func179 rfl fun w => ?_
    refine st_b 18 (decide_eq_false k) (by kernel_rfl) ?_
    refine st_b 21 (b := decide (10 ≤ mode)) (decide_eq_true (by omega)) (by kernel_rfl) ?_
    exact st_ret Try.func179 (by kernel_rfl)
end Go.Proofs.Ytcndfpfjckkinaa
