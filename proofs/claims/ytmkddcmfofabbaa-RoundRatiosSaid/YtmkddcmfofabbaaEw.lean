/-
  The reckoner of walks, for this program: contracts, and the steps of a walk over facts on the reference's numbers.
-/
import Derived.Test.YtmkddcmfofabbaaEv
import Derived.Test.YtmkddcmfofabbaaProg
import Derived.Test.YtmkddcmfofabbaaGa
import Derived.Test.YtmkddcmfofabbaaGc
set_option linter.unusedVariables false
namespace Go.Proofs.Ytmkddcmfofabbaa
open Go Go.RowKit Go.Ev

/-- A number of the reference as it lies in a struct. -/
structure ZQ where
  n : Bool
  a : Option Addr
  l : Nat
  c : Nat
abbrev zv (q : ZQ) : Value := .agg #[.bool q.n, .slice q.a q.l q.c]
abbrev wv (x : Int) : Value := .agg #[.int .i64 (hi x), .int .u64 (lo x)]
abbrev ZL := List (ZQ × Int)
def ZOf (q : ZQ) (x : Int) (w : World) : Prop := IsZ w q.n (.slice q.a q.l q.c) x
def ZAll (L : ZL) (w : World) : Prop := ∀ p ∈ L, ZOf p.1 p.2 w
theorem Row.keep {w w' : World} (hk : Keep [3] w w') {v : Value} {xs : List Int} (h : Row w v xs) : Row w' v xs := by
  obtain ⟨a, cap, b, off, rfl, h1, h2, h3⟩ := h
  refine ⟨a, cap, b, off, rfl, h1, fun hp => ?_, fun i hi => ?_⟩
  · obtain ⟨e, cs, fr, hb⟩ := h2 hp
    exact ⟨e, cs, fr, hk _ _ _ _ (by simp) hb⟩
  · obtain ⟨e, cs, fr, hb⟩ := h2 (by omega)
    have h4 := h3 i hi
    have h5 := hk _ _ _ _ (by simp) hb
    simp only [World.cell?, hb] at h4
    simp only [World.cell?, h5]
    exact h4
theorem ZAll.stable (L : ZL) : Stable [3] (ZAll L) := fun w w' hk h p hp => by
  obtain ⟨ds, h1, h2⟩ := h p hp
  exact ⟨ds, h1.keep hk, h2⟩
theorem zall_nil (w : World) : ZAll [] w := fun p hp => by cases hp
theorem zall_one {q : ZQ} {x : Int} {w : World} (h : ZOf q x w) : ZAll [(q, x)] w := fun p hp => by
  obtain rfl : p = (q, x) := by simpa using hp
  exact h
theorem zall_two {q r : ZQ} {x y : Int} {w : World} (h : ZOf q x w) (k : ZOf r y w) : ZAll [(q, x), (r, y)] w := fun p hp => by
  rcases List.mem_cons.1 hp with rfl | hp
  · exact h
  · obtain rfl : p = (r, y) := by simpa using hp
    exact k
theorem ZAll.app {L M : ZL} {w : World} (h : ZAll L w) (k : ZAll M w) : ZAll (M ++ L) w := fun p hp => (List.mem_append.1 hp).elim (k p) (h p)
/-- The facts P are among the facts L. -/
def Sub (P L : ZL) : Prop := ∀ p ∈ P, p ∈ L
theorem sub0 {L : ZL} : Sub [] L := fun p hp => by cases hp
theorem subC {L P : ZL} {p : ZQ × Int} (i : Nat) (h : L[i]? = some p) (k : Sub P L) : Sub (p :: P) L := fun q hq => (List.mem_cons.1 hq).elim (fun e => e ▸ List.mem_of_getElem? h) (k q)
theorem subE {L P : ZL} {q : ZQ} {x x' : Int} (i : Nat) (h : L[i]? = some (q, x')) (e : x' = x) (k : Sub P L) : Sub ((q, x) :: P) L := subC i (e ▸ h) k
theorem tf (b : Bool) : b = true ∨ b = false := by cases b <;> simp
theorem Sub.all {P L : ZL} (h : Sub P L) {w : World} (k : ZAll L w) : ZAll P w := fun p hp => k p (h p hp)

/-- The contract of a function: what it is given, what it returns, what is known of it. -/
def FnG (f : FuncId) (pre : ZL) (args : List Value) {X : Type} (val : X → Value) (post : X → ZL) : Prop :=
  ∀ w, ZAll pre w → Calls Try.prog f args.toArray w fun e w' => ∃ x, e = .returned (val x) ∧ Below w.heap.size w w' ∧ ZAll (post x) w'
/-- It returns one value. -/
def Fn (f : FuncId) (pre : ZL) (args : List Value) (v : Value) : Prop := ∀ w, ZAll pre w → Calls Try.prog f args.toArray w fun e w' => e = .returned v ∧ Below w.heap.size w w'
abbrev FnZ (f : FuncId) (pre : ZL) (args : List Value) (val : ZQ → Value) (x : Int) : Prop := FnG f pre args val fun q => [(q, x)]
abbrev FnZZ (f : FuncId) (pre : ZL) (args : List Value) (val : ZQ × ZQ → Value) (x y : Int) : Prop := FnG f pre args val fun q => [(q.1, x), (q.2, y)]
/-- A walk, as a statement that no tactic looks into. -/
structure Ru (C : Cx) (G : World → Prop) (c : Cf) : Prop where
  h : Run C G c
theorem mixed : Try.prog.follows .mixedOrders = true := by kernel_rfl
/-- The ends that a contract allows. -/
def EndV (w : World) (v : Value) (e : Ending) (w' : World) : Prop := e = .returned v ∧ Below w.heap.size w w'
def EndG (w : World) {X : Type} (val : X → Value) (post : X → ZL) (e : Ending) (w' : World) : Prop := ∃ x, e = .returned (val x) ∧ Below w.heap.size w w' ∧ ZAll (post x) w'
theorem fn_of {f : FuncId} {fn : Func} {c : Code} {pre : ZL} {args : List Value} {v : Value} (hf : Try.prog.funcs[f]? = some fn) (hb : fn.body = some c) (h : ∀ w, Ru ⟨Try.prog, f, [3], w, EndV w v⟩ (ZAll pre) (startS fn args)) : Fn f pre args v :=
  fun w hw => calls_run [3] (ZAll pre) hf hb (ZAll.stable pre) hw (h w).h
theorem fnG_of {f : FuncId} {fn : Func} {c : Code} {pre : ZL} {args : List Value} {X : Type} {val : X → Value} {post : X → ZL} (hf : Try.prog.funcs[f]? = some fn) (hb : fn.body = some c)
    (h : ∀ w, Ru ⟨Try.prog, f, [3], w, EndG w val post⟩ (ZAll pre) (startS fn args)) : FnG f pre args val post :=
  fun w hw => calls_run [3] (ZAll pre) hf hb (ZAll.stable pre) hw (h w).h
section
variable {f0 : FuncId} {E : List TypeId} {w0 : World} {R : Ending → World → Prop} {L : ZL} {c : Cf}
theorem st_fn {f : FuncId} {pre : ZL} {vs : List Value} {v : Value} (he : Enters Try.prog f) (h : Fn f pre vs v) (hp : Sub pre L) (hc : callAt (adv Try.prog E 9999 400 c) = some (f, vs.map .val))
    (hk : Ru ⟨Try.prog, f0, E, w0, R⟩ (ZAll L) (resume (adv Try.prog E 9999 400 c) (.val v))) : Ru ⟨Try.prog, f0, E, w0, R⟩ (ZAll L) c :=
  ⟨run_adv mixed (run_call1 hc he v (fun w hw => h w (hp.all hw)) hk.h)⟩
theorem st_g {f : FuncId} {pre : ZL} {vs : List Value} {X : Type} {val : X → Value} {post : X → ZL} (he : Enters Try.prog f) (h : FnG f pre vs val post) (hp : Sub pre L) (hc : callAt (adv Try.prog E 9999 400 c) = some (f, vs.map .val))
    (hk : ∀ x, Ru ⟨Try.prog, f0, [3], w0, R⟩ (ZAll (post x ++ L)) (resume (adv Try.prog E 9999 400 c) (.val (val x)))) (hE : E = [3] := by rfl) : Ru ⟨Try.prog, f0, E, w0, R⟩ (ZAll L) c := by
  subst hE
  exact ⟨run_adv mixed (run_callv hc he val (fun x => ZAll (post x)) (fun x => ZAll.stable _) (fun w hw => h w (hp.all hw)) fun x => (hk x).h.mono (ZAll.stable _) fun w hw => hw.1.app hw.2)⟩
theorem st_pin (t : Nat) (v : Value) {v' : Value} (h : (adv Try.prog E t 400 c).fr[t]? = some (.val v)) (hv : v = v') (hk : Ru ⟨Try.prog, f0, E, w0, R⟩ (ZAll L) (setS (adv Try.prog E t 400 c) t v')) : Ru ⟨Try.prog, f0, E, w0, R⟩ (ZAll L) c :=
  ⟨run_adv mixed (run_pin h hv hk.h)⟩
/-- A slot's Bool is known. -/
theorem st_b (t : Nat) {b b' : Bool} (hv : b = b') (h : (adv Try.prog E t 400 c).fr[t]? = some (.val (.bool b))) (hk : Ru ⟨Try.prog, f0, E, w0, R⟩ (ZAll L) (setS (adv Try.prog E t 400 c) t (.bool b'))) : Ru ⟨Try.prog, f0, E, w0, R⟩ (ZAll L) c :=
  st_pin t (.bool b) h (by rw [hv]) hk
/-- A slot's number is told otherwise. -/
theorem st_i (t : Nat) (k : IntKind) {x x' : Int} (hv : x = x') (h : (adv Try.prog E t 400 c).fr[t]? = some (.val (.int k x))) (hk : Ru ⟨Try.prog, f0, E, w0, R⟩ (ZAll L) (setS (adv Try.prog E t 400 c) t (.int k x'))) : Ru ⟨Try.prog, f0, E, w0, R⟩ (ZAll L) c :=
  st_pin t (.int k x) h (by rw [hv]) hk
theorem st_ret {fn : Func} {v : Value} (hf : Try.prog.funcs[f0]? = some fn) (h : retAt Try.prog fn.results.toList (adv Try.prog E 9999 400 c) = some v) : Ru ⟨Try.prog, f0, E, w0, EndV w0 v⟩ (ZAll L) c :=
  ⟨run_adv mixed (run_ret hf h fun w hb _ => ⟨rfl, hb⟩)⟩
theorem st_retv {fn : Func} {v v' : Value} (hf : Try.prog.funcs[f0]? = some fn) (hv : v = v') (h : retAt Try.prog fn.results.toList (adv Try.prog E 9999 400 c) = some v) : Ru ⟨Try.prog, f0, E, w0, EndV w0 v'⟩ (ZAll L) c := by
  subst hv; exact st_ret hf h
theorem st_retG {fn : Func} {X : Type} {val : X → Value} {post : X → ZL} (x : X) (hf : Try.prog.funcs[f0]? = some fn) (hp : Sub (post x) L) (h : retAt Try.prog fn.results.toList (adv Try.prog E 9999 400 c) = some (val x)) : Ru ⟨Try.prog, f0, E, w0, EndG w0 val post⟩ (ZAll L) c :=
  ⟨run_adv mixed (run_ret hf h fun w hb hw => ⟨x, rfl, hb, hp.all hw⟩)⟩
/-- One more round of a loop, as it is. -/
theorem st_round (hi : idle (adv Try.prog E 9999 400 c) = true) (hk : Ru ⟨Try.prog, f0, E, w0, R⟩ (ZAll L) (unroll (adv Try.prog E 9999 400 c))) : Ru ⟨Try.prog, f0, E, w0, R⟩ (ZAll L) c := ⟨run_adv mixed (run_unroll hi hk.h)⟩
theorem st_ldv {T : TypeId} {ad : Addr} {v : Value} (h : ∀ w, ZAll L w → (loadVar T ad).run Try.prog w = .ok v w) (hc : loadAt (adv Try.prog E 9999 400 c) = some (T, ad)) (hk : Ru ⟨Try.prog, f0, E, w0, R⟩ (ZAll L) (resume (adv Try.prog E 9999 400 c) (.val v))) : Ru ⟨Try.prog, f0, E, w0, R⟩ (ZAll L) c :=
  ⟨run_adv mixed (run_ldv hc h hk.h)⟩
theorem st_idx {T : TypeId} {xv jv v : Value} (h : ∀ w, ZAll L w → (Instr.indexAt T xv jv).run Try.prog w = .ok v w) (hc : idxAt (adv Try.prog E 9999 400 c) = some (T, xv, jv)) (hk : Ru ⟨Try.prog, f0, E, w0, R⟩ (ZAll L) (resume (adv Try.prog E 9999 400 c) (.val v))) : Ru ⟨Try.prog, f0, E, w0, R⟩ (ZAll L) c :=
  ⟨run_adv mixed (run_idx hc h hk.h)⟩
theorem st_know {p : Prop} (h : ∀ w, ZAll L w → p) (hk : p → Ru ⟨Try.prog, f0, E, w0, R⟩ (ZAll L) c) : Ru ⟨Try.prog, f0, E, w0, R⟩ (ZAll L) c := ⟨run_know h fun hp => (hk hp).h⟩
end
end Go.Proofs.Ytmkddcmfofabbaa
