/-
  The reckoner of walks, for this program: contracts, and the steps of a walk over facts on the reference's numbers.
-/
import Derived.IntWalk
import Derived.Test.YtcndfpfjckkinaaEv
import Derived.Test.YtcndfpfjckkinaaProg
import Derived.Test.YtcndfpfjckkinaaGa
import Derived.Test.YtcndfpfjckkinaaGc
set_option linter.unusedVariables false
namespace Go.Proofs.Ytcndfpfjckkinaa
open Go Go.RowKit Go.Ev

/-- A number of the reference as it lies in a struct. -/
structure ZQ where
  n : Bool
  a : Option Addr
  l : Nat
  c : Nat
abbrev zv (q : ZQ) : Value := .agg #[.bool q.n, .slice q.a q.l q.c]
abbrev wv (x : Int) : Value := .agg #[.int .i64 (hi x), .int .u64 (lo x)]
abbrev ZL := List (ZQ × Int)
def ZOf (q : ZQ) (x : Int) (w : World) : Prop := IsZ w q.n (.slice q.a q.l q.c) x
def ZAll (L : ZL) (w : World) : Prop := ∀ p ∈ L, ZOf p.1 p.2 w
theorem Row.keep {w w' : World} (hk : Keep [3] w w') {v : Value} {xs : List Int} (h : Row w v xs) : Row w' v xs := by
  obtain ⟨a, cap, b, off, rfl, h1, h2, h3⟩ := h
  refine ⟨a, cap, b, off, rfl, h1, fun hp => ?_, fun i hi => ?_⟩
  · obtain ⟨e, cs, fr, hb⟩ := h2 hp
    exact ⟨e, cs, fr, hk _ _ _ _ (by simp) hb⟩
  · obtain ⟨e, cs, fr, hb⟩ := h2 (by omega)
    have h4 := h3 i hi
    have h5 := hk _ _ _ _ (by simp) hb
    simp only [World.cell?, hb] at h4
    simp only [World.cell?, h5]
    exact h4
theorem ZAll.stable (L : ZL) : Stable [3] (ZAll L) := fun w w' hk h p hp => by
  obtain ⟨ds, h1, h2⟩ := h p hp
  exact ⟨ds, h1.keep hk, h2⟩
theorem zall_nil (w : World) : ZAll [] w := fun p hp => by cases hp
theorem zall_one {q : ZQ} {x : Int} {w : World} (h : ZOf q x w) : ZAll [(q, x)] w := fun p hp => by
  obtain rfl : p = (q, x) := by simpa using hp
  exact h
theorem zall_two {q r : ZQ} {x y : Int} {w : World} (h : ZOf q x w) (k : ZOf r y w) : ZAll [(q, x), (r, y)] w := fun p hp => by
  rcases List.mem_cons.1 hp with rfl | hp
  · exact h
  · obtain rfl : p = (r, y) := by simpa using hp
    exact k
theorem ZAll.app {L M : ZL} {w : World} (h : ZAll L w) (k : ZAll M w) : ZAll (M ++ L) w := fun p hp => (List.mem_append.1 hp).elim (k p) (h p)
/-- The facts P are among the facts L. -/
def Sub (P L : ZL) : Prop := ∀ p ∈ P, p ∈ L
theorem Sub.refl {L : ZL} : Sub L L := fun _ h => h
theorem sub0 {L : ZL} : Sub [] L := fun p hp => by cases hp
theorem subC {L P : ZL} {p : ZQ × Int} (i : Nat) (h : L[i]? = some p) (k : Sub P L) : Sub (p :: P) L := fun q hq => (List.mem_cons.1 hq).elim (fun e => e ▸ List.mem_of_getElem? h) (k q)
theorem subE {L P : ZL} {q : ZQ} {x x' : Int} (i : Nat) (h : L[i]? = some (q, x')) (e : x' = x) (k : Sub P L) : Sub ((q, x) :: P) L := subC i (e ▸ h) k
theorem tf (b : Bool) : b = true ∨ b = false := by cases b <;> simp
theorem Sub.all {P L : ZL} (h : Sub P L) {w : World} (k : ZAll L w) : ZAll P w := fun p hp => k p (h p hp)

/-- The contract of a function: what it is given, what it returns, what is known of it. -/
def FnG (f : FuncId) (pre : ZL) (args : List Value) {X : Type} (val : X → Value) (post : X → ZL) : Prop :=
  ∀ w, ZAll pre w → Calls Try.prog f args.toArray w fun e w' => ∃ x, e = .returned (val x) ∧ Below w.heap.size w w' ∧ ZAll (post x) w'
/-- It returns one value. -/
def Fn (f : FuncId) (pre : ZL) (args : List Value) (v : Value) : Prop := ∀ w, ZAll pre w → Calls Try.prog f args.toArray w fun e w' => e = .returned v ∧ Below w.heap.size w w'
abbrev FnZ (f : FuncId) (pre : ZL) (args : List Value) (val : ZQ → Value) (x : Int) : Prop := FnG f pre args val fun q => [(q, x)]
abbrev FnZZ (f : FuncId) (pre : ZL) (args : List Value) (val : ZQ × ZQ → Value) (x y : Int) : Prop := FnG f pre args val fun q => [(q.1, x), (q.2, y)]
/-- A walk, as a statement that no tactic looks into. -/
structure Ru (C : Cx) (G : World → Prop) (c : Cf) : Prop where
  h : Run C G c
theorem mixed : Try.prog.follows .mixedOrders = true := by kernel_rfl
/-- The ends that a contract allows. -/
def EndV (w : World) (v : Value) (e : Ending) (w' : World) : Prop := e = .returned v ∧ Below w.heap.size w w'
def EndG (w : World) {X : Type} (val : X → Value) (post : X → ZL) (e : Ending) (w' : World) : Prop := ∃ x, e = .returned (val x) ∧ Below w.heap.size w w' ∧ ZAll (post x) w'
theorem fn_of {f : FuncId} {fn : Func} {c : Code} {pre : ZL} {args : List Value} {v : Value} (hf : Try.prog.funcs[f]? = some fn) (hb : fn.body = some c) (h : ∀ w, Ru ⟨Try.prog, f, [3], w, EndV w v⟩ (ZAll pre) (startS fn args)) : Fn f pre args v :=
  fun w hw => calls_run [3] (ZAll pre) hf hb (ZAll.stable pre) hw (h w).h
theorem fnG_of {f : FuncId} {fn : Func} {c : Code} {pre : ZL} {args : List Value} {X : Type} {val : X → Value} {post : X → ZL} (hf : Try.prog.funcs[f]? = some fn) (hb : fn.body = some c)
    (h : ∀ w, Ru ⟨Try.prog, f, [3], w, EndG w val post⟩ (ZAll pre) (startS fn args)) : FnG f pre args val post :=
  fun w hw => calls_run [3] (ZAll pre) hf hb (ZAll.stable pre) hw (h w).h
section
variable {f0 : FuncId} {E : List TypeId} {w0 : World} {R : Ending → World → Prop} {L : ZL} {G : World → Prop} {c : Cf}
theorem st_fn {f : FuncId} {pre : ZL} {vs : List Value} {v : Value} (he : Enters Try.prog f) (h : Fn f pre vs v) (hp : Sub pre L) (hc : callAt (adv Try.prog E 9999 400 c) = some (f, vs.map .val))
    (hk : Ru ⟨Try.prog, f0, E, w0, R⟩ (ZAll L) (resume (adv Try.prog E 9999 400 c) (.val v))) : Ru ⟨Try.prog, f0, E, w0, R⟩ (ZAll L) c :=
  ⟨run_adv mixed (run_call1 hc he v (fun w hw => h w (hp.all hw)) hk.h)⟩
theorem st_g {f : FuncId} {pre : ZL} {vs : List Value} {X : Type} {val : X → Value} {post : X → ZL} (he : Enters Try.prog f) (h : FnG f pre vs val post) (hp : Sub pre L) (hc : callAt (adv Try.prog E 9999 400 c) = some (f, vs.map .val))
    (hk : ∀ x, Ru ⟨Try.prog, f0, [3], w0, R⟩ (ZAll (post x ++ L)) (resume (adv Try.prog E 9999 400 c) (.val (val x)))) (hE : E = [3] := by rfl) : Ru ⟨Try.prog, f0, E, w0, R⟩ (ZAll L) c := by
  subst hE
  exact ⟨run_adv mixed (run_callv hc he val (fun x => ZAll (post x)) (fun x => ZAll.stable _) (fun w hw => h w (hp.all hw)) fun x => (hk x).h.mono (ZAll.stable _) fun w hw => hw.1.app hw.2)⟩
theorem st_pin (t : Nat) (v : Value) {v' : Value} (h : (adv Try.prog E t 400 c).fr[t]? = some (.val v)) (hv : v = v') (hk : Ru ⟨Try.prog, f0, E, w0, R⟩ G (setS (adv Try.prog E t 400 c) t v')) : Ru ⟨Try.prog, f0, E, w0, R⟩ G c :=
  ⟨run_adv mixed (run_pin h hv hk.h)⟩
/-- A slot's Bool is known. -/
theorem st_b (t : Nat) {b b' : Bool} (hv : b = b') (h : (adv Try.prog E t 400 c).fr[t]? = some (.val (.bool b))) (hk : Ru ⟨Try.prog, f0, E, w0, R⟩ G (setS (adv Try.prog E t 400 c) t (.bool b'))) : Ru ⟨Try.prog, f0, E, w0, R⟩ G c :=
  st_pin t (.bool b) h (by rw [hv]) hk
/-- A slot's number is told otherwise. -/
theorem st_i (t : Nat) (k : IntKind) {x x' : Int} (hv : x = x') (h : (adv Try.prog E t 400 c).fr[t]? = some (.val (.int k x))) (hk : Ru ⟨Try.prog, f0, E, w0, R⟩ G (setS (adv Try.prog E t 400 c) t (.int k x'))) : Ru ⟨Try.prog, f0, E, w0, R⟩ G c :=
  st_pin t (.int k x) h (by rw [hv]) hk
theorem st_ret {fn : Func} {v : Value} (hf : Try.prog.funcs[f0]? = some fn) (h : retAt Try.prog fn.results.toList (adv Try.prog E 9999 400 c) = some v) : Ru ⟨Try.prog, f0, E, w0, EndV w0 v⟩ G c :=
  ⟨run_adv mixed (run_ret hf h fun w hb _ => ⟨rfl, hb⟩)⟩
theorem st_retv {fn : Func} {v v' : Value} (hf : Try.prog.funcs[f0]? = some fn) (hv : v = v') (h : retAt Try.prog fn.results.toList (adv Try.prog E 9999 400 c) = some v) : Ru ⟨Try.prog, f0, E, w0, EndV w0 v'⟩ G c := by
  subst hv; exact st_ret hf h
theorem st_retG {fn : Func} {X : Type} {val : X → Value} {post : X → ZL} (x : X) (hf : Try.prog.funcs[f0]? = some fn) (hp : Sub (post x) L) (h : retAt Try.prog fn.results.toList (adv Try.prog E 9999 400 c) = some (val x)) : Ru ⟨Try.prog, f0, E, w0, EndG w0 val post⟩ (ZAll L) c :=
  ⟨run_adv mixed (run_ret hf h fun w hb hw => ⟨x, rfl, hb, hp.all hw⟩)⟩
/-- One more round of a loop, as it is. -/
theorem st_round (hi : idle (adv Try.prog E 9999 400 c) = true) (hk : Ru ⟨Try.prog, f0, E, w0, R⟩ G (unroll (adv Try.prog E 9999 400 c))) : Ru ⟨Try.prog, f0, E, w0, R⟩ G c := ⟨run_adv mixed (run_unroll hi hk.h)⟩
theorem st_ldv {T : TypeId} {ad : Addr} {v : Value} (h : ∀ w, G w → (loadVar T ad).run Try.prog w = .ok v w) (hc : loadAt (adv Try.prog E 9999 400 c) = some (T, ad)) (hk : Ru ⟨Try.prog, f0, E, w0, R⟩ G (resume (adv Try.prog E 9999 400 c) (.val v))) : Ru ⟨Try.prog, f0, E, w0, R⟩ G c :=
  ⟨run_adv mixed (run_ldv hc h hk.h)⟩
theorem st_idx {T : TypeId} {xv jv v : Value} (h : ∀ w, G w → (Instr.indexAt T xv jv).run Try.prog w = .ok v w) (hc : idxAt (adv Try.prog E 9999 400 c) = some (T, xv, jv)) (hk : Ru ⟨Try.prog, f0, E, w0, R⟩ G (resume (adv Try.prog E 9999 400 c) (.val v))) : Ru ⟨Try.prog, f0, E, w0, R⟩ G c :=
  ⟨run_adv mixed (run_idx hc h hk.h)⟩
theorem st_know {p : Prop} (h : ∀ w, G w → p) (hk : p → Ru ⟨Try.prog, f0, E, w0, R⟩ G c) : Ru ⟨Try.prog, f0, E, w0, R⟩ G c := ⟨run_know h fun hp => (hk hp).h⟩
/-- A quotient or a rest; t: the slot that is written right ahead of it. -/
theorem st_div (t : Nat) {q : Bool} {T : TypeId} {xv yv v : Value} (h : ∀ w, (binOp (if q = true then .quo else .rem) T xv yv).run Try.prog w = .ok v w) (hc : divAt (adv Try.prog E t 400 c) = some (q, T, xv, yv)) (hk : Ru ⟨Try.prog, f0, E, w0, R⟩ G (resume (adv Try.prog E t 400 c) (.val v))) : Ru ⟨Try.prog, f0, E, w0, R⟩ G c :=
  ⟨run_adv mixed (run_div hc h hk.h)⟩
/-! loops -/
/-- The slots and the blocks. -/
def fb (c : Cf) : List SV × List Bk := (c.fr, c.bl)
/-- Into a loop's round, with the slots and blocks y. -/
def enterL (c : Cf) (y : List SV × List Bk) : Cf := match loopAt c with
  | some (b, k) => ⟨.code b :: .inLoop b :: k, none, y.1, y.2⟩
  | none => c
/-- At a round's end. -/
def backL (c : Cf) (y : List SV × List Bk) : Cf := match loopAt c with
  | some (b, k) => ⟨.inLoop b :: k, none, y.1, y.2⟩
  | none => c
/-- What a round may use: the loop from a later round on. -/
structure Back (C : Cx) (c : Cf) {X : Type} (I : X → List SV × List Bk) (Lf : X → ZL) (p : X → Prop) (m : X → Nat) (x : X) : Prop where
  h : ∀ x' (G' : World → Prop), m x' < m x → p x' → (∀ w, G' w → ZAll (Lf x') w) → Run C G' (backL c (I x'))
theorem st_loop {X : Type} (I : X → List SV × List Bk) (Lf : X → ZL) (p : X → Prop) (m : X → Nat) (x0 : X) (hc : (loopAt (adv Try.prog [3] 9999 400 c)).isSome = true) (h0 : fb (adv Try.prog [3] 9999 400 c) = I x0) (hL : Sub (Lf x0) L) (hp : p x0)
    (round : ∀ x, p x → Back ⟨Try.prog, f0, [3], w0, R⟩ (adv Try.prog [3] 9999 400 c) I Lf p m x → Ru ⟨Try.prog, f0, [3], w0, R⟩ (ZAll (Lf x)) (enterL (adv Try.prog [3] 9999 400 c) (I x))) (hE : E = [3] := by rfl) : Ru ⟨Try.prog, f0, E, w0, R⟩ (ZAll L) c := by
  subst hE
  refine ⟨run_adv (t := 9999) (n := 400) mixed ?_⟩
  show Run _ _ (adv Try.prog [3] 9999 400 c)
  generalize adv Try.prog [3] 9999 400 c = c1 at *
  cases hl : loopAt c1 with
  | none => rw [hl] at hc; cases hc
  | some bk =>
    obtain ⟨b, k⟩ := bk
    refine run_loop hl I (fun x w => ZAll (Lf x) w ∧ p x) (fun x w w' hk hw => ⟨ZAll.stable _ w w' hk hw.1, hw.2⟩) m x0 h0 (fun w hw => ⟨hL.all hw, hp⟩) ?_
    intro x back
    refine run_know (p := p x) (fun w hw => hw.2) fun hx => ?_
    have hb : Back ⟨Try.prog, f0, [3], w0, R⟩ c1 I Lf p m x := ⟨fun x' G' hm hp' hG => by
      have := back x' G' hm (fun w hw => ⟨hG w hw, hp'⟩)
      unfold backL; rw [hl]; exact this⟩
    have := (round x hx hb).h
    unfold enterL at this; rw [hl] at this
    exact this.mono (ZAll.stable _) fun w hw => hw.1
/-- A round's end: on with the next one. -/
theorem st_back {X : Type} {c0 : Cf} {I : X → List SV × List Bk} {Lf : X → ZL} {p : X → Prop} {m : X → Nat} {x : X} (hb : Back ⟨Try.prog, f0, [3], w0, R⟩ c0 I Lf p m x) (x' : X) (hm : m x' < m x) (hp : p x') (hL : Sub (Lf x') L)
    (h0 : fb (adv Try.prog [3] 9999 400 c) = I x') (hc : loopBack (adv Try.prog [3] 9999 400 c) = loopAt c0) (hs : (loopAt c0).isSome = true) (hE : E = [3] := by rfl) : Ru ⟨Try.prog, f0, E, w0, R⟩ (ZAll L) c := by
  subst hE
  refine ⟨run_adv (t := 9999) (n := 400) mixed ?_⟩
  show Run _ _ (adv Try.prog [3] 9999 400 c)
  generalize adv Try.prog [3] 9999 400 c = c1 at *
  cases hl : loopAt c0 with
  | none => rw [hl] at hs; cases hs
  | some bk =>
    obtain ⟨b, k⟩ := bk
    rw [hl] at hc
    have := hb.h x' (ZAll L) hm hp (fun w hw => hL.all hw)
    unfold backL at this; rw [hl] at this
    exact run_back hc (fr := (I x').1) (bl := (I x').2) h0 this
theorem st_forget (ts : List Nat) (hrg : (match (adv Try.prog E 9999 400 c).rg with | none => true | _ => false) = true) (hk : Ru ⟨Try.prog, f0, E, w0, R⟩ G (forget ts (adv Try.prog E 9999 400 c))) : Ru ⟨Try.prog, f0, E, w0, R⟩ G c :=
  ⟨run_adv mixed (run_forget hrg ts hk.h)⟩
/-! rows of the call's own -/
/-- Called with a row of these values. -/
def FnR (f : FuncId) (vs : List Value) (T : TypeId) (n : Nat) (v : Value) : Prop := ∀ w k, w.heap[k]? = some (.cells vs.toArray T (0, 0)) → Calls Try.prog f #[.slice (some ⟨k, 0, none⟩) n n] w fun e w' => e = .returned v ∧ Below w.heap.size w w'
def RowAt (k : Nat) (vs : List Value) (T : TypeId) (w : World) : Prop := w.heap[k]? = some (.cells vs.toArray T (0, 0))
theorem fnR_of {f : FuncId} {fn : Func} {c : Code} {vs : List Value} {n : Nat} {v : Value} (hf : Try.prog.funcs[f]? = some fn) (hb : fn.body = some c)
    (h : ∀ w k, Ru ⟨Try.prog, f, [3], w, EndV w v⟩ (RowAt k vs 3) (startS fn [.slice (some ⟨k, 0, none⟩) n n])) : FnR f vs 3 n v :=
  fun w k hk => calls_run [3] (RowAt k vs 3) hf hb (fun w w' hK hw => hK k _ _ _ (by simp) hw) hk (h w k).h
theorem load_cell {T : TypeId} {a : Addr} {v : Value} {w : World} (h0 : (Try.prog.underlying T).map (fun d => d.isRow) = some false) (hc : w.cell? a = some v) : (loadVar T a).run Try.prog w = .ok v w := by
  obtain ⟨d, hd, hr⟩ := Option.map_eq_some_iff.1 h0
  simp [loadVar, Sem.run_bind, isAgg_run hd, hr, run_load, hc]
theorem load_int {a : Addr} {v : Value} {w : World} (hc : w.cell? a = some v) : (loadVar 3 a).run Try.prog w = .ok v w := load_cell (by kernel_rfl) hc
theorem load_bool {a : Addr} {v : Value} {w : World} (hc : w.cell? a = some v) : (loadVar 4 a).run Try.prog w = .ok v w := load_cell (by kernel_rfl) hc
theorem ld_row {k o : Nat} {vs : List Value} {T : TypeId} {v : Value} {w : World} (h : RowAt k vs T w) (hv : vs[o]? = some v) : (loadVar 3 ⟨k, o, none⟩).run Try.prog w = .ok v w := by
  refine load_int ?_
  unfold RowAt at h
  simp [World.cell?, h, hv]
theorem st_ldrow {k : Nat} {vs : List Value} {T : TypeId} (o : Nat) {v : Value} (hv : vs[o]? = some v) (hc : loadAt (adv Try.prog E 9999 400 c) = some (3, ⟨k, o, none⟩)) (hk : Ru ⟨Try.prog, f0, E, w0, R⟩ (RowAt k vs T) (resume (adv Try.prog E 9999 400 c) (.val v))) : Ru ⟨Try.prog, f0, E, w0, R⟩ (RowAt k vs T) c :=
  st_ldv (fun w hw => ld_row hw hv) hc hk
/-- It makes a row for its caller. -/
def FnB (f : FuncId) (args : List Value) (vs : List Value) (T : TypeId) (n : Nat) : Prop := ∀ w, Calls Try.prog f args.toArray w fun e w' => ∃ k, e = .returned (.slice (some ⟨k, 0, none⟩) n n) ∧ w.heap.size ≤ k ∧ w'.heap[k]? = some (.cells vs.toArray T (0, 0)) ∧ Below w.heap.size w w'
def EndB (w0 : World) (vs : List Value) (T : TypeId) (n : Nat) (e : Ending) (w' : World) : Prop := ∃ k, e = .returned (.slice (some ⟨k, 0, none⟩) n n) ∧ w0.heap.size ≤ k ∧ w'.heap[k]? = some (.cells vs.toArray T (0, 0)) ∧ Below w0.heap.size w0 w'
/-- It makes a row for its caller, out of an address. -/
def FnA (f : FuncId) (vs : Addr → List Value) (T : TypeId) (n : Nat) : Prop := ∀ a, FnB f [.pointer (some a)] (vs a) T n
theorem fnB_of {f : FuncId} {fn : Func} {c : Code} {args vs : List Value} {T : TypeId} {n : Nat} (hf : Try.prog.funcs[f]? = some fn) (hb : fn.body = some c) (h : ∀ w, Ru ⟨Try.prog, f, [3], w, EndB w vs T n⟩ (ZAll []) (startS fn args)) : FnB f args vs T n :=
  fun w => calls_run [3] (ZAll []) hf hb (ZAll.stable []) (zall_nil w) (h w).h
theorem st_retB {fn : Func} {vs : List Value} {T : TypeId} {n : Nat} (hf : Try.prog.funcs[f0]? = some fn) (h : retSl fn.results.toList (adv Try.prog E 9999 400 c) = some (vs, T, n)) : Ru ⟨Try.prog, f0, E, w0, EndB w0 vs T n⟩ (ZAll L) c :=
  ⟨run_adv mixed (run_retSl hf h fun w k hb _ h1 h2 => ⟨k, rfl, h1, h2, hb⟩)⟩
theorem st_row {f : FuncId} {vs : List Value} {T : TypeId} {v : Value} {b n : Nat} (he : Enters Try.prog f) (h : FnR f vs T n v) (hc : callAt (adv Try.prog E 9999 400 c) = some (f, [.sl b 0 n n])) (hB : (adv Try.prog E 9999 400 c).bl[b]? = some ⟨vs.map .val, T⟩)
    (hk : Ru ⟨Try.prog, f0, E, w0, R⟩ (ZAll L) (resume (adv Try.prog E 9999 400 c) (.val v))) : Ru ⟨Try.prog, f0, E, w0, R⟩ (ZAll L) c := by
  refine ⟨run_adv mixed fun hs => run_call hc he (X := Unit) (fun _ => .val v) (fun _ _ => True) (fun _ _ _ _ _ => trivial) (fun _ _ => trivial) (fun r N w us ha hbl hG => ?_) (fun _ => hk.h.mono hs fun w hw => hw.1) hs⟩
  obtain ⟨u, rfl, hu, hfr⟩ : ∃ u, us = [u] ∧ u = Value.slice (some ⟨r b, 0, none⟩) n n ∧ ¬ N b := by
    match us, ha with
    | [u], h => exact ⟨u, rfl, h.1.1, h.1.2⟩
  subst hu
  obtain ⟨-, cs, hcs, hok⟩ := hbl.is b _ hB hfr
  obtain rfl := cellsOk_eq hok
  exact (h w _ hcs).mono fun e w' ⟨h1, h2⟩ => ⟨(), v, h1, rfl, h2, trivial⟩
theorem st_rowB {f : FuncId} {args vs : List Value} {T : TypeId} {n : Nat} (he : Enters Try.prog f) (h : FnB f args vs T n) (hc : callAt (adv Try.prog E 9999 400 c) = some (f, args.map .val))
    (hk : Ru ⟨Try.prog, f0, E, w0, R⟩ (ZAll L) (resumeB (adv Try.prog E 9999 400 c) ⟨vs.map .val, T⟩ n)) : Ru ⟨Try.prog, f0, E, w0, R⟩ (ZAll L) c := by
  refine ⟨run_adv mixed (run_callB hc he ⟨vs.map .val, T⟩ n (fun r N w us ha hbl hG => ?_) hk.h)⟩
  rw [args_vals ha]
  refine (h w).mono fun e w' ⟨k, h1, h2, h3, h4⟩ => ⟨k, _, h1, h2, h3, ?_, h4⟩
  have := cellsOk_vals (r := r) (N := N) vs.toArray
  simpa using this
theorem st_rowA {f : FuncId} {vs : Addr → List Value} {T : TypeId} {n b o : Nat} (ss : List SV) (he : Enters Try.prog f) (h : FnA f vs T n) (hcs : ∀ (r : Nat → Nat) (N : Nat → Prop), ¬ N b → CellsOk r N ss (vs ⟨r b, o, none⟩).toArray) (hc : callAt (adv Try.prog E 9999 400 c) = some (f, [.ptr b o]))
    (hk : Ru ⟨Try.prog, f0, E, w0, R⟩ (ZAll L) (resumeB (adv Try.prog E 9999 400 c) ⟨ss, T⟩ n)) : Ru ⟨Try.prog, f0, E, w0, R⟩ (ZAll L) c := by
  refine ⟨run_adv mixed (run_callB hc he ⟨ss, T⟩ n (fun r N w us ha hbl hG => ?_) hk.h)⟩
  obtain ⟨u, rfl, hu, hfr⟩ : ∃ u, us = [u] ∧ u = Value.pointer (some ⟨r b, o, none⟩) ∧ ¬ N b := by
    match us, ha with
    | [u], h => exact ⟨u, rfl, h.1.1, h.1.2⟩
  subst hu
  exact (h ⟨r b, o, none⟩ w).mono fun e w' ⟨k, h1, h2, h3, h4⟩ => ⟨k, _, h1, h2, h3, hcs r N hfr, h4⟩
end
theorem rem_run {T : TypeId} {k : IntKind} {x y : Int} (h : y ≠ 0) (w : World) : (binOp (if false = true then .quo else .rem) T (.int k x) (.int k y)).run Try.prog w = .ok (.int k (x.tmod y)) w := by
  simp [binOp, Op.intDiv, h]
theorem quo_run {T : TypeId} {k : IntKind} {x y : Int} (h : y ≠ 0) (w : World) : (binOp (if true = true then .quo else .rem) T (.int k x) (.int k y)).run Try.prog w = .ok (.int k (k.wrap (x.tdiv y))) w := by
  simp [binOp, Op.intDiv, h]
theorem quo_run64 {T : TypeId} {x y : Int} (h : y ≠ 0) (w : World) (h1 : -9223372036854775808 ≤ x.tdiv y) (h2 : x.tdiv y ≤ 9223372036854775807) : (binOp (if true = true then .quo else .rem) T (.int .i64 x) (.int .i64 y)).run Try.prog w = .ok (.int .i64 (x.tdiv y)) w := by
  rw [quo_run h w, Go.IntWalk.i64_in _ (by omega)]
end Go.Proofs.Ytcndfpfjckkinaa
