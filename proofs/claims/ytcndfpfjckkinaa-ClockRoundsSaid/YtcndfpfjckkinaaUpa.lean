/-
  round.up: the closures.
-/
import Derived.Test.YtcndfpfjckkinaaFw
set_option linter.unusedVariables false
set_option maxRecDepth 100000
namespace Go.Proofs.Ytcndfpfjckkinaa
open Go Go.RowKit Go.Ev

abbrev pv (b : Bool) (x : Int) (e : Bool) : Value := .agg #[.bool b, .int .i64 x, .bool e]
def PlaceAt (k : Nat) (b : Bool) (x : Int) (e : Bool) (w : World) : Prop := w.heap[k]? = some (.cells #[.bool b, .int .i64 x, .bool e] 201 (0, 0))
def HalfAt (h k : Nat) (w : World) : Prop := w.heap[h]? = some (.cells #[.func (.func 213) #[] #[.pointer (some ⟨k, 0, none⟩)]] 232 (0, 0))
def ET : List TypeId := [201, 232]
theorem PlaceAt.stable (k : Nat) (b : Bool) (x : Int) (e : Bool) : Stable ET (PlaceAt k b x e) := fun w w' hk h => hk _ _ _ _ (by simp [ET]) h
theorem HalfAt.stable (h k : Nat) : Stable ET (HalfAt h k) := fun w w' hk q => hk _ _ _ _ (by simp [ET]) q
theorem PlaceAt.c0 {k : Nat} {b : Bool} {x : Int} {e : Bool} {w : World} (h : PlaceAt k b x e w) : w.cell? ⟨k, 0, none⟩ = some (.bool b) := by unfold PlaceAt at h; simp [World.cell?, h]
theorem PlaceAt.c1 {k : Nat} {b : Bool} {x : Int} {e : Bool} {w : World} (h : PlaceAt k b x e w) : w.cell? ⟨k, 1, none⟩ = some (.int .i64 x) := by unfold PlaceAt at h; simp [World.cell?, h]
theorem PlaceAt.c2 {k : Nat} {b : Bool} {x : Int} {e : Bool} {w : World} (h : PlaceAt k b x e w) : w.cell? ⟨k, 2, none⟩ = some (.bool e) := by unfold PlaceAt at h; simp [World.cell?, h]
theorem HalfAt.c0 {h k : Nat} {w : World} (q : HalfAt h k w) : w.cell? ⟨h, 0, none⟩ = some (.func (.func 213) #[] #[.pointer (some ⟨k, 0, none⟩)]) := by unfold HalfAt at q; simp [World.cell?, q]
/-- Does a half go up? -/
def halfB (x : Int) (tie : Bool) : Bool := if 0 < x then true else if x = 0 then tie else false
abbrev RB (w : World) (v : Value) : Ending → World → Prop := fun e w' => e = .returned v ∧ Below w.heap.size w w'
section
variable {f0 : FuncId} {w0 : World} {R : Ending → World → Prop} {G : World → Prop} {c : Cf}
structure Rw (C : Cx) (G : World → Prop) (c : Cf) : Prop where
  h : Run C G c
theorem u_of {f : FuncId} {fn : Func} {cd : Code} {args : List Value} {v : Value} {w : World} (hf : Try.prog.funcs[f]? = some fn) (hb : fn.body = some cd) (hs : Stable ET G) (hG : G w) (h : Rw ⟨Try.prog, f, ET, w, (RB w v)⟩ G (startS fn args)) : Calls Try.prog f args.toArray w (RB w v) :=
  calls_run ET G hf hb hs hG h.h
theorem u_load {T : TypeId} {ad : Addr} {v : Value} (h : ∀ w, G w → (loadVar T ad).run Try.prog w = .ok v w) (hc : loadAt (adv Try.prog ET 9999 400 c) = some (T, ad)) (hk : Rw ⟨Try.prog, f0, ET, w0, R⟩ G (resume (adv Try.prog ET 9999 400 c) (.val v))) : Rw ⟨Try.prog, f0, ET, w0, R⟩ G c :=
  ⟨run_adv mixed (run_ldv hc h hk.h)⟩
theorem u_b (t : Nat) {b b' : Bool} (hv : b = b') (h : (adv Try.prog ET t 400 c).fr[t]? = some (.val (.bool b))) (hk : Rw ⟨Try.prog, f0, ET, w0, R⟩ G (setS (adv Try.prog ET t 400 c) t (.bool b'))) : Rw ⟨Try.prog, f0, ET, w0, R⟩ G c :=
  ⟨run_adv mixed (run_pin h (by rw [hv]) hk.h)⟩
theorem u_call {f : FuncId} {vs : List Value} {v : Value} (he : Enters Try.prog f) (h : ∀ w, G w → Calls Try.prog f vs.toArray w (RB w v)) (hc : callAt (adv Try.prog ET 9999 400 c) = some (f, vs.map .val)) (hk : Rw ⟨Try.prog, f0, ET, w0, R⟩ G (resume (adv Try.prog ET 9999 400 c) (.val v))) : Rw ⟨Try.prog, f0, ET, w0, R⟩ G c :=
  ⟨run_adv mixed (run_call1 hc he v h hk.h)⟩
theorem u_ret {fn : Func} {v : Value} (hf : Try.prog.funcs[f0]? = some fn) (h : retAt Try.prog fn.results.toList (adv Try.prog ET 9999 400 c) = some v) : Rw ⟨Try.prog, f0, ET, w0, (RB w0 v)⟩ G c :=
  ⟨run_adv mixed (run_ret hf h fun w hb _ => ⟨rfl, hb⟩)⟩
end
theorem half_c (k : Nat) (b : Bool) (x : Int) (e tie : Bool) (w : World) (hp : PlaceAt k b x e w) : Calls Try.prog 213 #[.bool tie, .pointer (some ⟨k, 0, none⟩)] w (RB w (.bool (halfB x tie))) := by
  by_cases h0 : 0 < x
  · have hh : halfB x tie = true := if_pos h0
    rw [hh]
    refine u_of (args := [.bool tie, .pointer (some ⟨k, 0, none⟩)]) Try.func213 rfl (PlaceAt.stable k b x e) hp ?_
    refine u_load (fun w h => load_int h.c1) (by kernel_rfl) ?_
    refine u_b 6 (decide_eq_true h0) (by kernel_rfl) ?_
    exact u_ret Try.func213 (by kernel_rfl)
  · by_cases h1 : x = 0
    · have hh : halfB x tie = tie := by unfold halfB; rw [if_neg h0, if_pos h1]
      rw [hh]
      refine u_of (args := [.bool tie, .pointer (some ⟨k, 0, none⟩)]) Try.func213 rfl (PlaceAt.stable k b x e) hp ?_
      refine u_load (fun w h => load_int h.c1) (by kernel_rfl) ?_
      refine u_b 6 (decide_eq_false h0) (by kernel_rfl) ?_
      refine u_load (fun w h => load_int h.c1) (by kernel_rfl) ?_
      refine u_b 10 (beq_iff_eq.2 h1) (by kernel_rfl) ?_
      exact u_ret Try.func213 (by kernel_rfl)
    · have hh : halfB x tie = false := by unfold halfB; rw [if_neg h0, if_neg h1]
      rw [hh]
      refine u_of (args := [.bool tie, .pointer (some ⟨k, 0, none⟩)]) Try.func213 rfl (PlaceAt.stable k b x e) hp ?_
      refine u_load (fun w h => load_int h.c1) (by kernel_rfl) ?_
      refine u_b 6 (decide_eq_false h0) (by kernel_rfl) ?_
      refine u_load (fun w h => load_int h.c1) (by kernel_rfl) ?_
      refine u_b 10 (beq_eq_false_iff_ne.2 h1) (by kernel_rfl) ?_
      exact u_ret Try.func213 (by kernel_rfl)
theorem c2 (w : World) : Calls Try.prog 214 #[] w (RB w (.bool true)) := by
  refine u_of (args := []) (G := fun _ => True) Try.func214 rfl (fun _ _ _ _ => trivial) trivial ?_
  exact u_ret Try.func214 (by kernel_rfl)
theorem c3 (w : World) : Calls Try.prog 215 #[] w (RB w (.bool false)) := by
  refine u_of (args := []) (G := fun _ => True) Try.func215 rfl (fun _ _ _ _ => trivial) trivial ?_
  exact u_ret Try.func215 (by kernel_rfl)
section
variable (k h : Nat) (b : Bool) (x : Int) (e : Bool) (w : World)
theorem c4 (hp : PlaceAt k b x e w) : Calls Try.prog 216 #[.pointer (some ⟨k, 0, none⟩)] w (RB w (.bool (!b))) := by
  refine u_of (args := [.pointer (some ⟨k, 0, none⟩)]) Try.func216 rfl (PlaceAt.stable k b x e) hp ?_
  refine u_load (fun w h => load_bool h.c0) (by kernel_rfl) ?_
  exact u_ret Try.func216 (by kernel_rfl)
theorem c5 (hp : PlaceAt k b x e w) : Calls Try.prog 217 #[.pointer (some ⟨k, 0, none⟩)] w (RB w (.bool b)) := by
  refine u_of (args := [.pointer (some ⟨k, 0, none⟩)]) Try.func217 rfl (PlaceAt.stable k b x e) hp ?_
  refine u_load (fun w h => load_bool h.c0) (by kernel_rfl) ?_
  exact u_ret Try.func217 (by kernel_rfl)
def Both (w : World) : Prop := HalfAt h k w ∧ PlaceAt k b x e w
theorem Both.stable : Stable ET (Both k h b x e) := fun w w' hk q => ⟨HalfAt.stable h k w w' hk q.1, PlaceAt.stable k b x e w w' hk q.2⟩
theorem load_fn {a : Addr} {v : Value} {w : World} (hc : w.cell? a = some v) : (loadVar 232 a).run Try.prog w = .ok v w := load_cell (by kernel_rfl) hc
theorem c6 (hp : Both k h b x e w) : Calls Try.prog 218 #[.pointer (some ⟨h, 0, none⟩)] w (RB w (.bool (halfB x true))) := by
  refine u_of (args := [.pointer (some ⟨h, 0, none⟩)]) Try.func218 rfl (Both.stable k h b x e) hp ?_
  refine u_load (fun w q => load_fn q.1.c0) (by kernel_rfl) ?_
  refine u_call (vs := [.bool true, .pointer (some ⟨k, 0, none⟩)]) ent213 (fun w q => half_c k b x e true w q.2) (by kernel_rfl) ?_
  exact u_ret Try.func218 (by kernel_rfl)
theorem c7 (hp : Both k h b x e w) : Calls Try.prog 219 #[.pointer (some ⟨h, 0, none⟩)] w (RB w (.bool (halfB x false))) := by
  refine u_of (args := [.pointer (some ⟨h, 0, none⟩)]) Try.func219 rfl (Both.stable k h b x e) hp ?_
  refine u_load (fun w q => load_fn q.1.c0) (by kernel_rfl) ?_
  refine u_call (vs := [.bool false, .pointer (some ⟨k, 0, none⟩)]) ent213 (fun w q => half_c k b x e false w q.2) (by kernel_rfl) ?_
  exact u_ret Try.func219 (by kernel_rfl)
theorem c8 (hp : Both k h b x e w) : Calls Try.prog 220 #[.pointer (some ⟨h, 0, none⟩), .pointer (some ⟨k, 0, none⟩)] w (RB w (.bool (halfB x (!b)))) := by
  refine u_of (args := [.pointer (some ⟨h, 0, none⟩), .pointer (some ⟨k, 0, none⟩)]) Try.func220 rfl (Both.stable k h b x e) hp ?_
  refine u_load (fun w q => load_fn q.1.c0) (by kernel_rfl) ?_
  refine u_load (fun w q => load_bool q.2.c0) (by kernel_rfl) ?_
  refine u_call (vs := [.bool (!b), .pointer (some ⟨k, 0, none⟩)]) ent213 (fun w q => half_c k b x e (!b) w q.2) (by kernel_rfl) ?_
  exact u_ret Try.func220 (by kernel_rfl)
theorem c9 (hp : Both k h b x e w) : Calls Try.prog 221 #[.pointer (some ⟨h, 0, none⟩), .pointer (some ⟨k, 0, none⟩)] w (RB w (.bool (halfB x b))) := by
  refine u_of (args := [.pointer (some ⟨h, 0, none⟩), .pointer (some ⟨k, 0, none⟩)]) Try.func221 rfl (Both.stable k h b x e) hp ?_
  refine u_load (fun w q => load_fn q.1.c0) (by kernel_rfl) ?_
  refine u_load (fun w q => load_bool q.2.c0) (by kernel_rfl) ?_
  refine u_call (vs := [.bool b, .pointer (some ⟨k, 0, none⟩)]) ent213 (fun w q => half_c k b x e b w q.2) (by kernel_rfl) ?_
  exact u_ret Try.func221 (by kernel_rfl)
theorem c10 (hp : Both k h b x e w) : Calls Try.prog 222 #[.pointer (some ⟨h, 0, none⟩), .pointer (some ⟨k, 0, none⟩)] w (RB w (.bool (halfB x (!e)))) := by
  refine u_of (args := [.pointer (some ⟨h, 0, none⟩), .pointer (some ⟨k, 0, none⟩)]) Try.func222 rfl (Both.stable k h b x e) hp ?_
  refine u_load (fun w q => load_fn q.1.c0) (by kernel_rfl) ?_
  refine u_load (fun w q => load_bool q.2.c2) (by kernel_rfl) ?_
  refine u_call (vs := [.bool (!e), .pointer (some ⟨k, 0, none⟩)]) ent213 (fun w q => half_c k b x e (!e) w q.2) (by kernel_rfl) ?_
  exact u_ret Try.func222 (by kernel_rfl)
end
end Go.Proofs.Ytcndfpfjckkinaa
